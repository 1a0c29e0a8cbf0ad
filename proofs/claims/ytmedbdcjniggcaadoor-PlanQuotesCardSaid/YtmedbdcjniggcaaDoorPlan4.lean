/- Package plan, walked: Reads. -/
import Derived.Test.YtmedbdcjniggcaaDoorProg
import Derived.Test.YtmedbdcjniggcaaDoorPlan3
import Derived.Test.YtmedbdcjniggcaaDoorSLCopy
import Derived.Test.YtmedbdcjniggcaaDoorSLStr
import Derived.KernelRfl
set_option linter.unusedSimpArgs false
set_option linter.unusedVariables false
set_option maxRecDepth 100000
set_option maxHeartbeats 4000000
namespace Go.Proofs.YtmedbdcjniggcaaDoor
open Go Go.Proofs.YtmedbdcjniggcaaDoor.SL Go.RowKit
theorem flat_len2 (l : List PR) : (l.flatMap fun x => [x.1, x.2]).length = 2 * l.length := by
  induction l with
  | nil => rfl
  | cons a l ih => rw [List.flatMap_cons, List.length_append, ih]; simp; omega
theorem flat_succ {l : List PR} {k : Nat} {x : PR} (h : l[k]? = some x) : (l.take (k + 1)).flatMap (fun x => [x.1, x.2]) = (l.take k).flatMap (fun x => [x.1, x.2]) ++ [x.1, x.2] := by
  rw [List.take_add_one, h]; simp
theorem T12 (w0 : World) (p : PM) {A : Option Addr} {c : Nat} {l : List PR} (hr : Rd pE w0 2 A l) (ht : tabB l = true) (hm : l.length ≤ 1000000) :
    Tri Tryd.prog w0 12 [.agg #[.int .i64 p.1, SV p.2.1, SV p.2.2], .slice A l.length c] [] fun v m => ∃ B e, v = .slice B (readsL p l).length e ∧ m = [Row bsE 9 1 B e (readsL p l)] := by
  refine tri_of Tryd.func12 rfl rfl fun F => ?_
  simp only [Tryd.ntmps12, argEnv, List.cons_append, List.nil_append]
  have hget (h : isL l p.2.1 = true) : ∃ y, l[posL l p.2.1]? = some y ∧ y.1 = p.2.1 := by
    unfold isL at h
    cases hy : l[posL l p.2.1]? with
    | none => rw [hy] at h; cases h
    | some y => rw [hy] at h; exact ⟨y, rfl, by simpa using h⟩
  have hP := T19 w0 p.2.1 (A := A) (c := c) hr ht hm
  by_cases h1 : p.1 = 1
  · have hi1 : decide (p.1 = 1) = true := decide_eq_true h1
    cases his : isL l p.2.1 with
    | true =>
      obtain ⟨y, hy, hyk⟩ := hget his
      have hw : readsL p l = [y.2] := by unfold readsL; rw [if_pos h1, hy]; simp [hyk]
      rw [his] at hP
      refine at_seq_k (fun K0 hK0 => ?_)
      refine at_region ?_
      refine at_t (ot_boxA rfl rfl) rfl rfl rfl ?_
      rintro _ _ ⟨g0, rfl, rfl⟩
      refine at_v (ov_assign rfl rfl) rfl rfl rfl ?_
      refine at_nil ?_
      refine at_normal ?_
      refine hK0 _ _ _ ?_
      refine at_seq_k (fun K1 hK1 => ?_)
      refine at_region ?_
      refine at_v (ov_assign rfl rfl) rfl rfl rfl ?_
      refine at_nil ?_
      refine at_normal ?_
      refine hK1 _ _ _ ?_
      refine at_seq_k (fun K2 hK2 => ?_)
      refine at_seq_k (fun K3 hK3 => ?_)
      refine at_region ?_
      refine at_v (ov_fieldAddr (k := 0) (r := 0) rfl rfl rfl rfl) rfl rfl rfl ?_
      refine at_v (ov_load rfl rfl rfl (fun _ s => s.ld (k := 0) rfl rfl)) rfl rfl rfl ?_
      refine at_nil ?_
      refine at_normal ?_
      refine hK3 _ _ _ ?_
      refine at_block ?_
      refine at_seq_k (fun K4 hK4 => ?_)
      refine at_region ?_
      refine at_v (ov_int rfl rfl rfl rfl) rfl rfl rfl ?_
      refine at_v (ov_assign rfl rfl) rfl rfl rfl ?_
      refine at_nil ?_
      refine at_normal ?_
      refine hK4 _ _ _ ?_
      refine at_cond_true (congrArg (fun b => some (Value.bool b)) (show _ = true from decide_eq_true (by omega))) ?_
      refine at_seq_k (fun K5 hK5 => ?_)
      refine at_region ?_
      refine at_v (ov_move rfl rfl) rfl rfl rfl ?_
      refine at_v (ov_fieldAddr (k := 1) (r := 1) rfl rfl rfl rfl) rfl rfl rfl ?_
      refine at_v (ov_load rfl rfl rfl (fun _ s => s.ld (k := 0) rfl rfl)) rfl rfl rfl ?_
      refine at_t (ot_call (ks := []) rfl rfl rfl Tryd.call19 rfl (hP ) rfl) rfl rfl rfl ?_
      rintro v0 _ ⟨m0, hp0, rfl⟩
      obtain ⟨rfl, rfl⟩ := hp0
      simp only [List.cons_append, List.nil_append, splice, spliceL]
      refine at_v (ov_move rfl rfl) rfl rfl rfl ?_
      refine at_v (ov_extract rfl rfl rfl) rfl rfl rfl ?_
      refine at_v (ov_extract rfl rfl rfl) rfl rfl rfl ?_
      refine at_v (ov_assign rfl rfl) rfl rfl rfl ?_
      refine at_v (ov_assign rfl rfl) rfl rfl rfl ?_
      refine at_nil ?_
      refine at_normal ?_
      refine hK5 _ _ _ ?_
      refine at_seq_k (fun K6 hK6 => ?_)
      refine at_region ?_
      refine at_v (ov_move rfl rfl) rfl rfl rfl ?_
      refine at_nil ?_
      refine at_normal ?_
      refine hK6 _ _ _ ?_
      refine at_cond_true rfl ?_
      refine at_region ?_
      refine at_v (ov_move rfl rfl) rfl rfl rfl ?_
      refine at_v (ov_move rfl rfl) rfl rfl rfl ?_
      refine at_v (ov_move rfl rfl) rfl rfl rfl ?_
      refine at_v (ov_indexRd (fun _ s => hr.up s) rfl Tryd.underlying24 rfl rfl rfl hy) rfl rfl rfl ?_
      refine at_v (ov_fieldRd0 (k := 1) (fun _ s => hr.up s) rfl rfl hy rfl) rfl rfl rfl ?_
      refine at_v (ov_loadRd (fun _ s => hr.up s) rfl rfl rfl hy rfl) rfl rfl rfl ?_
      refine at_t (ot_buildSlice (cs := [_]) rfl Tryd.underlying35 rfl rfl rfl rfl rfl rfl) rfl rfl rfl ?_
      rintro _ _ ⟨g1, rfl, rfl⟩
      refine at_rowNil bsE 9 1 ?_
      refine at_t (ot_append (k := 0) (xs := []) (ys := [y.2]) (enc := bsE) (size := 1) (bytes := 16) (fun _ s => s.rdPt (k := 1) rfl rfl (by simp [bsE])) rfl Tryd.underlying35 rfl rfl rfl rfl rfl (by decide) rfl rfl rfl (by simp [bsE, Value.oneCell']) (by simp) (by decide)) rfl rfl rfl ?_
      rintro _ _ ⟨A0, c0, rfl, rfl⟩
      simp only [setAt, List.nil_append]
      refine at_v (ov_assign rfl rfl) rfl rfl rfl ?_
      refine at_nil ?_
      refine at_inb_normal ?_
      refine at_normal ?_
      refine hK2 _ _ _ ?_
      refine at_seq_k (fun K7 hK7 => ?_)
      refine at_region ?_
      refine at_v (ov_move rfl rfl) rfl rfl rfl ?_
      refine at_v (ov_move rfl rfl) rfl rfl rfl ?_
      refine at_v (ov_len_slice rfl Tryd.underlying35 rfl) rfl rfl rfl ?_
      refine at_v (ov_min rfl rfl rfl) rfl rfl rfl ?_
      refine at_rowLen 0 rfl fun hlc hcm => ?_
      refine at_v (ov_sliceToC (k := 1) (size := 1) rfl Tryd.underlying35 rfl rfl (congrArg (fun z => some (Value.int .i64 z)) (show min (((1 : Nat)) : Int) 20 = ((1 : Nat) : Int) by omega)) hlc) rfl rfl rfl ?_
      refine at_v (ov_assign rfl rfl) rfl rfl rfl ?_
      refine at_nil ?_
      refine at_normal ?_
      refine hK7 _ _ _ ?_
      refine at_ret ?_
      refine at_end ?_
      refine at_fin (rsV rfl (res_tmp rfl)) ?_
      refine ⟨_, ⟨A0, c0, by rw [hw]; rfl, rfl⟩, ?_⟩
      rw [hw]
      exact fun _ s => s.finEq (ks := [0]) (js := [0, 0]) rfl rfl rfl
    | false =>
      have hw : readsL p l = [] := by
        unfold readsL; rw [if_pos h1]
        unfold isL at his
        cases hy : l[posL l p.2.1]? with
        | none => rfl
        | some y => rw [hy] at his; simp only [decide_eq_false_iff_not] at his; simp [his]
      rw [his] at hP
      refine at_seq_k (fun K0 hK0 => ?_)
      refine at_region ?_
      refine at_t (ot_boxA rfl rfl) rfl rfl rfl ?_
      rintro _ _ ⟨g0, rfl, rfl⟩
      refine at_v (ov_assign rfl rfl) rfl rfl rfl ?_
      refine at_nil ?_
      refine at_normal ?_
      refine hK0 _ _ _ ?_
      refine at_seq_k (fun K1 hK1 => ?_)
      refine at_region ?_
      refine at_v (ov_assign rfl rfl) rfl rfl rfl ?_
      refine at_nil ?_
      refine at_normal ?_
      refine hK1 _ _ _ ?_
      refine at_seq_k (fun K2 hK2 => ?_)
      refine at_seq_k (fun K3 hK3 => ?_)
      refine at_region ?_
      refine at_v (ov_fieldAddr (k := 0) (r := 0) rfl rfl rfl rfl) rfl rfl rfl ?_
      refine at_v (ov_load rfl rfl rfl (fun _ s => s.ld (k := 0) rfl rfl)) rfl rfl rfl ?_
      refine at_nil ?_
      refine at_normal ?_
      refine hK3 _ _ _ ?_
      refine at_block ?_
      refine at_seq_k (fun K4 hK4 => ?_)
      refine at_region ?_
      refine at_v (ov_int rfl rfl rfl rfl) rfl rfl rfl ?_
      refine at_v (ov_assign rfl rfl) rfl rfl rfl ?_
      refine at_nil ?_
      refine at_normal ?_
      refine hK4 _ _ _ ?_
      refine at_cond_true (congrArg (fun b => some (Value.bool b)) (show _ = true from decide_eq_true (by omega))) ?_
      refine at_seq_k (fun K5 hK5 => ?_)
      refine at_region ?_
      refine at_v (ov_move rfl rfl) rfl rfl rfl ?_
      refine at_v (ov_fieldAddr (k := 1) (r := 1) rfl rfl rfl rfl) rfl rfl rfl ?_
      refine at_v (ov_load rfl rfl rfl (fun _ s => s.ld (k := 0) rfl rfl)) rfl rfl rfl ?_
      refine at_t (ot_call (ks := []) rfl rfl rfl Tryd.call19 rfl (hP ) rfl) rfl rfl rfl ?_
      rintro v0 _ ⟨m0, hp0, rfl⟩
      obtain ⟨rfl, rfl⟩ := hp0
      simp only [List.cons_append, List.nil_append, splice, spliceL]
      refine at_v (ov_move rfl rfl) rfl rfl rfl ?_
      refine at_v (ov_extract rfl rfl rfl) rfl rfl rfl ?_
      refine at_v (ov_extract rfl rfl rfl) rfl rfl rfl ?_
      refine at_v (ov_assign rfl rfl) rfl rfl rfl ?_
      refine at_v (ov_assign rfl rfl) rfl rfl rfl ?_
      refine at_nil ?_
      refine at_normal ?_
      refine hK5 _ _ _ ?_
      refine at_seq_k (fun K6 hK6 => ?_)
      refine at_region ?_
      refine at_v (ov_move rfl rfl) rfl rfl rfl ?_
      refine at_nil ?_
      refine at_normal ?_
      refine hK6 _ _ _ ?_
      refine at_cond_false rfl ?_
      refine at_skip ?_
      refine at_inb_normal ?_
      refine at_normal ?_
      refine hK2 _ _ _ ?_
      refine at_seq_k (fun K7 hK7 => ?_)
      refine at_region ?_
      refine at_v (ov_move rfl rfl) rfl rfl rfl ?_
      refine at_v (ov_move rfl rfl) rfl rfl rfl ?_
      refine at_v (ov_len_slice rfl Tryd.underlying35 rfl) rfl rfl rfl ?_
      refine at_v (ov_min rfl rfl rfl) rfl rfl rfl ?_
      refine at_v (ov_sliceToC (k := 0) (size := 1) rfl Tryd.underlying35 rfl rfl (congrArg (fun z => some (Value.int .i64 z)) (show min (((0 : Nat)) : Int) 20 = ((0 : Nat) : Int) by omega)) (by decide)) rfl rfl rfl ?_
      refine at_rowNil bsE 9 1 ?_
      refine at_v (ov_assign rfl rfl) rfl rfl rfl ?_
      refine at_nil ?_
      refine at_normal ?_
      refine hK7 _ _ _ ?_
      refine at_ret ?_
      refine at_end ?_
      refine at_fin (rsV rfl (res_tmp rfl)) ?_
      refine ⟨_, ⟨none, 0, by rw [hw]; rfl, rfl⟩, ?_⟩
      rw [hw]
      exact fun _ s => s.finEq (ks := [0]) (js := [0]) rfl rfl rfl
  · have hi1 : decide (p.1 = 1) = false := decide_eq_false h1
    by_cases h2 : p.1 = 2
    · have hi2 : decide (p.1 = 2) = true := decide_eq_true h2
      have hw : readsL p l = (l.flatMap fun x => [x.1, x.2]).take 20 := by unfold readsL; rw [if_neg h1, if_pos h2]
      refine at_seq_k (fun K0 hK0 => ?_)
      refine at_region ?_
      refine at_t (ot_boxA rfl rfl) rfl rfl rfl ?_
      rintro _ _ ⟨g0, rfl, rfl⟩
      refine at_v (ov_assign rfl rfl) rfl rfl rfl ?_
      refine at_nil ?_
      refine at_normal ?_
      refine hK0 _ _ _ ?_
      refine at_seq_k (fun K1 hK1 => ?_)
      refine at_region ?_
      refine at_v (ov_assign rfl rfl) rfl rfl rfl ?_
      refine at_nil ?_
      refine at_normal ?_
      refine hK1 _ _ _ ?_
      refine at_seq_k (fun K2 hK2 => ?_)
      refine at_seq_k (fun K3 hK3 => ?_)
      refine at_region ?_
      refine at_v (ov_fieldAddr (k := 0) (r := 0) rfl rfl rfl rfl) rfl rfl rfl ?_
      refine at_v (ov_load rfl rfl rfl (fun _ s => s.ld (k := 0) rfl rfl)) rfl rfl rfl ?_
      refine at_nil ?_
      refine at_normal ?_
      refine hK3 _ _ _ ?_
      refine at_block ?_
      refine at_seq_k (fun K4 hK4 => ?_)
      refine at_region ?_
      refine at_v (ov_int rfl rfl rfl rfl) rfl rfl rfl ?_
      refine at_v (ov_assign rfl rfl) rfl rfl rfl ?_
      refine at_nil ?_
      refine at_normal ?_
      refine hK4 _ _ _ ?_
      refine at_cond_false (congrArg (fun b => some (Value.bool b)) (show _ = false from decide_eq_false (by omega))) ?_
      refine at_seq_k (fun K5 hK5 => ?_)
      refine at_region ?_
      refine at_v (ov_int rfl rfl rfl rfl) rfl rfl rfl ?_
      refine at_v (ov_assign rfl rfl) rfl rfl rfl ?_
      refine at_nil ?_
      refine at_normal ?_
      refine hK5 _ _ _ ?_
      refine at_cond_true (congrArg (fun b => some (Value.bool b)) (show _ = true from decide_eq_true (by omega))) ?_
      refine at_seq_k (fun K6 hK6 => ?_)
      refine at_region ?_
      refine at_v (ov_move rfl rfl) rfl rfl rfl ?_
      refine at_v (ov_len_slice rfl Tryd.underlying24 rfl) rfl rfl rfl ?_
      refine at_v (ov_move rfl rfl) rfl rfl rfl ?_
      refine at_nil ?_
      refine at_normal ?_
      refine hK6 _ _ _ ?_
      refine at_block ?_
      refine at_rowNil bsE 9 1 ?_
      refine at_loopE [35, 36, 37, 9, 38, 39, 40, 41, 42, 43, 44, 5, 45, 34] (fun i : Nat × Option Addr × Nat => i.1 ≤ l.length) (fun i => [(34, .int .i64 (i.1 : Nat)), (5, .slice i.2.1 ((l.take i.1).flatMap fun x => [x.1, x.2]).length i.2.2)]) (fun i m => setAt 0 (Row bsE 9 1 i.2.1 i.2.2 ((l.take i.1).flatMap fun x => [x.1, x.2])) m) (fun i => l.length - i.1) (0, none, 0) (Nat.zero_le _) ⟨rfl, rfl, trivial⟩ (fun _ s => s) ?_
      rintro ⟨k, B, e⟩ hk
      simp only [setAt] at hk ⊢
      have hfl := flat_len2 (l.take k)
      rw [List.length_take] at hfl
      rcases Nat.lt_or_ge k l.length with hlt | hge
      · have hi3 : decide ((k : Int) < l.length) = true := decide_eq_true (by omega)
        obtain ⟨x, hget⟩ : ∃ x, l[k]? = some x := ⟨_, List.getElem?_eq_getElem hlt⟩
        have hsu := flat_succ hget
        obtain ⟨out, hout⟩ : ∃ out, out = (l.take k).flatMap fun x => [x.1, x.2] := ⟨_, rfl⟩
        rw [← hout] at hfl hsu ⊢
        refine at_seq_k (fun K7 hK7 => ?_)
        refine at_region ?_
        refine at_v (ov_int rfl rfl rfl rfl) rfl rfl rfl ?_
        refine at_nil ?_
        refine at_normal ?_
        refine hK7 _ _ _ ?_
        refine at_seq_k (fun K8 hK8 => ?_)
        refine at_cond_true (congrArg (fun b => some (Value.bool b)) (show _ = true from decide_eq_true (by omega))) ?_
        refine at_skip ?_
        refine at_normal ?_
        refine hK8 _ _ _ ?_
        refine at_seq_k (fun K9 hK9 => ?_)
        refine at_block ?_
        refine at_seq_k (fun K10 hK10 => ?_)
        refine at_region ?_
        refine at_v (ov_indexRd (fun _ s => hr.up s) rfl Tryd.underlying24 rfl rfl rfl hget) rfl rfl rfl ?_
        refine at_v (ov_loadRdS (vs := [_, _]) (fun _ s => hr.up s) rfl rfl rfl hget rfl rfl) rfl rfl rfl ?_
        refine at_t (ot_allocA rfl Tryd.zeroValue48) rfl rfl rfl ?_
        rintro _ _ ⟨g1, rfl, rfl⟩
        refine at_t0 (ot_store (k := 0) rfl rfl rfl rfl rfl rfl rfl) rfl rfl ?_
        rintro _ _ ⟨rfl, rfl⟩
        simp only [setAt, splice, spliceL, Value.cells]
        refine at_nil ?_
        refine at_normal ?_
        refine hK10 _ _ _ ?_
        refine at_region ?_
        refine at_v (ov_move rfl rfl) rfl rfl rfl ?_
        refine at_v (ov_fieldAddr (k := 0) (r := 0) rfl rfl rfl rfl) rfl rfl rfl ?_
        refine at_v (ov_load rfl rfl rfl (fun _ s => s.ld (k := 0) rfl rfl)) rfl rfl rfl ?_
        refine at_v (ov_fieldAddr (k := 1) (r := 1) rfl rfl rfl rfl) rfl rfl rfl ?_
        refine at_v (ov_load rfl rfl rfl (fun _ s => s.ld (k := 0) rfl rfl)) rfl rfl rfl ?_
        refine at_t (ot_buildSlice (cs := [_, _]) rfl Tryd.underlying35 rfl rfl rfl rfl rfl rfl) rfl rfl rfl ?_
        rintro _ _ ⟨g2, rfl, rfl⟩
        refine at_t (ot_append (k := 2) (size := 1) (bytes := 16) (ys := [x.1, x.2]) (fun _ s => s.rdPt (k := 0) rfl rfl (by simp [bsE])) rfl Tryd.underlying35 (ti := Tryd.t9) rfl rfl rfl rfl rfl (by decide) rfl rfl rfl (by simp [bsE, Value.oneCell']) (by simp; omega) (by decide)) rfl rfl rfl ?_
        rintro _ _ ⟨A0, c0, rfl, rfl⟩
        simp only [setAt]
        refine at_v (ov_assign rfl rfl) rfl rfl rfl ?_
        refine at_nil ?_
        refine at_inb_normal ?_
        refine at_normal ?_
        refine hK9 _ _ _ ?_
        refine at_region ?_
        refine at_v ((ov_int rfl rfl rfl rfl).eq (congrArg (Value.int .i64) (inK_i64 (by omega) (by omega)))) rfl rfl rfl ?_
        refine at_v (ov_move rfl rfl) rfl rfl rfl ?_
        refine at_nil ?_
        refine at_normal ?_
        refine at_roundF (k + 1, A0, c0) hlt (by simp only; omega) ⟨rfl, look_eq rfl (by simp only [hsu]), trivial⟩ rfl ?_
        simp only [setAt, hsu]
        exact fun _ s => s.finEq (ks := [2, 2]) (js := [0, 0]) rfl rfl rfl
      · have hi3 : decide ((k : Int) < l.length) = false := decide_eq_false (by omega)
        rw [List.take_of_length_le hge] at hfl ⊢
        generalize (l.flatMap fun x => [x.1, x.2]) = out at hw hfl ⊢
        refine at_seq_k (fun K7 hK7 => ?_)
        refine at_region ?_
        refine at_v (ov_int rfl rfl rfl rfl) rfl rfl rfl ?_
        refine at_nil ?_
        refine at_normal ?_
        refine hK7 _ _ _ ?_
        refine at_seq_k (fun K8 hK8 => ?_)
        refine at_cond_false (congrArg (fun b => some (Value.bool b)) (show _ = false from decide_eq_false (by omega))) ?_
        refine at_exit ?_
        refine at_then_exit ?_
        refine at_then_exit ?_
        refine at_exit_eq ?_
        refine at_inb_normal ?_
        refine at_normal ?_
        refine hK2 _ _ _ ?_
        refine at_seq_k (fun K9 hK9 => ?_)
        refine at_region ?_
        refine at_v (ov_move rfl rfl) rfl rfl rfl ?_
        refine at_v (ov_move rfl rfl) rfl rfl rfl ?_
        refine at_v (ov_len_slice rfl Tryd.underlying35 rfl) rfl rfl rfl ?_
        refine at_v (ov_min rfl rfl rfl) rfl rfl rfl ?_
        refine at_rowLen 0 rfl fun hlc hcm => ?_
        refine at_v (ov_sliceToC (k := min out.length 20) (size := 1) rfl Tryd.underlying35 rfl rfl (congrArg (fun z => some (Value.int .i64 z)) (show min ((out.length : Nat) : Int) 20 = ((min out.length 20 : Nat) : Int) by omega)) (by omega)) rfl rfl rfl ?_
        refine at_rowTk 20 0 rfl ?_
        simp only [setAt]
        refine at_v (ov_assign rfl rfl) rfl rfl rfl ?_
        refine at_nil ?_
        refine at_normal ?_
        refine hK9 _ _ _ ?_
        refine at_ret ?_
        refine at_end ?_
        refine at_fin (rsV rfl (res_tmp rfl)) ?_
        have htk : (out.take 20).length = min out.length 20 := by rw [List.length_take]; omega
        refine ⟨_, ⟨B, e, by rw [hw, htk], rfl⟩, ?_⟩
        rw [hw]
        exact fun _ s => s.finEq (ks := [0]) (js := [0]) rfl rfl rfl
    · have hi2 : decide (p.1 = 2) = false := decide_eq_false h2
      have hw : readsL p l = [] := by unfold readsL; rw [if_neg h1, if_neg h2]
      refine at_seq_k (fun K0 hK0 => ?_)
      refine at_region ?_
      refine at_t (ot_boxA rfl rfl) rfl rfl rfl ?_
      rintro _ _ ⟨g0, rfl, rfl⟩
      refine at_v (ov_assign rfl rfl) rfl rfl rfl ?_
      refine at_nil ?_
      refine at_normal ?_
      refine hK0 _ _ _ ?_
      refine at_seq_k (fun K1 hK1 => ?_)
      refine at_region ?_
      refine at_v (ov_assign rfl rfl) rfl rfl rfl ?_
      refine at_nil ?_
      refine at_normal ?_
      refine hK1 _ _ _ ?_
      refine at_seq_k (fun K2 hK2 => ?_)
      refine at_seq_k (fun K3 hK3 => ?_)
      refine at_region ?_
      refine at_v (ov_fieldAddr (k := 0) (r := 0) rfl rfl rfl rfl) rfl rfl rfl ?_
      refine at_v (ov_load rfl rfl rfl (fun _ s => s.ld (k := 0) rfl rfl)) rfl rfl rfl ?_
      refine at_nil ?_
      refine at_normal ?_
      refine hK3 _ _ _ ?_
      refine at_block ?_
      refine at_seq_k (fun K4 hK4 => ?_)
      refine at_region ?_
      refine at_v (ov_int rfl rfl rfl rfl) rfl rfl rfl ?_
      refine at_v (ov_assign rfl rfl) rfl rfl rfl ?_
      refine at_nil ?_
      refine at_normal ?_
      refine hK4 _ _ _ ?_
      refine at_cond_false (congrArg (fun b => some (Value.bool b)) (show _ = false from decide_eq_false (by omega))) ?_
      refine at_seq_k (fun K5 hK5 => ?_)
      refine at_region ?_
      refine at_v (ov_int rfl rfl rfl rfl) rfl rfl rfl ?_
      refine at_v (ov_assign rfl rfl) rfl rfl rfl ?_
      refine at_nil ?_
      refine at_normal ?_
      refine hK5 _ _ _ ?_
      refine at_cond_false (congrArg (fun b => some (Value.bool b)) (show _ = false from decide_eq_false (by omega))) ?_
      refine at_skip ?_
      refine at_inb_normal ?_
      refine at_normal ?_
      refine hK2 _ _ _ ?_
      refine at_seq_k (fun K6 hK6 => ?_)
      refine at_region ?_
      refine at_v (ov_move rfl rfl) rfl rfl rfl ?_
      refine at_v (ov_move rfl rfl) rfl rfl rfl ?_
      refine at_v (ov_len_slice rfl Tryd.underlying35 rfl) rfl rfl rfl ?_
      refine at_v (ov_min rfl rfl rfl) rfl rfl rfl ?_
      refine at_v (ov_sliceToC (k := 0) (size := 1) rfl Tryd.underlying35 rfl rfl (congrArg (fun z => some (Value.int .i64 z)) (show min (((0 : Nat)) : Int) 20 = ((0 : Nat) : Int) by omega)) (by decide)) rfl rfl rfl ?_
      refine at_rowNil bsE 9 1 ?_
      refine at_v (ov_assign rfl rfl) rfl rfl rfl ?_
      refine at_nil ?_
      refine at_normal ?_
      refine hK6 _ _ _ ?_
      refine at_ret ?_
      refine at_end ?_
      refine at_fin (rsV rfl (res_tmp rfl)) ?_
      refine ⟨_, ⟨none, 0, by rw [hw]; rfl, rfl⟩, ?_⟩
      rw [hw]
      exact fun _ s => s.finEq (ks := [0]) (js := [0]) rfl rfl rfl
theorem T12a (w0 : World) (p : PM) {A : Option Addr} {c c' : Nat} {l : List PR} (ht : tabB l = true) (hm : l.length ≤ 1000000) :
    Tri Tryd.prog w0 12 [.agg #[.int .i64 p.1, SV p.2.1, SV p.2.2], .slice A l.length c] [Row pE 48 2 A c' l] fun v m => ∃ B e, v = .slice B (readsL p l).length e ∧ m = [Row bsE 9 1 B e (readsL p l), Row pE 48 2 A c' l] :=
  (Tri.of_all fun w s => T12 w p (s.rd (k := 0) rfl) ht hm).post fun v m ⟨m', ⟨B, e, h1, h2⟩, h3⟩ => ⟨B, e, h1, by rw [h3, h2]; rfl⟩
end Go.Proofs.YtmedbdcjniggcaaDoor
