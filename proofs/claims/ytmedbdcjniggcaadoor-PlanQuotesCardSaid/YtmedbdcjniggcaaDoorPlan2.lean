/- Package slices at pairs, walked: Clone, Insert. -/
import Derived.Test.YtmedbdcjniggcaaDoorProg
import Derived.Test.YtmedbdcjniggcaaDoorPlan1
import Derived.Test.YtmedbdcjniggcaaDoorSLCopy
import Derived.Test.YtmedbdcjniggcaaDoorSLStr
import Derived.KernelRfl
set_option linter.unusedSimpArgs false
set_option linter.unusedVariables false
set_option maxRecDepth 100000
set_option maxHeartbeats 4000000
namespace Go.Proofs.YtmedbdcjniggcaaDoor
open Go Go.Proofs.YtmedbdcjniggcaaDoor.SL Go.RowKit
theorem pE_one (p : PR) : ∀ u ∈ pE p, u.oneCell' = true := by
  intro u hu
  simp only [pE, List.mem_cons, List.not_mem_nil, or_false] at hu
  rcases hu with rfl | rfl <;> rfl
theorem at_rowNone {w0 : World} {n : Nat} {ds : List Deferred} {l : List HP} {env : Env} {R : Act → World → Prop} {α : Type} {enc : α → List Value} {e size c : Nat} {xs : List α} (k : Nat) (hk : nth k l = some (Row enc e size none c xs)) (h : c = 0 → xs = [] → At w0 n ds R env l) : At w0 n ds R env l := fun a w f s => by
  obtain ⟨p, hp, _⟩ := s.atom hk
  rcases hp.2 with ⟨_, h1, h2⟩ | ⟨g, off, cur, h1, _⟩
  · exact h h1 h2 a w f s
  · cases h1
theorem T18 (w0 : World) {A : Option Addr} {c : Nat} {l : List PR} (hr : Rd pE w0 2 A l) (hm : l.length ≤ 1000000) :
    Tri Tryd.prog w0 18 [.slice A l.length c] [] fun v m => ∃ B e, v = .slice B l.length e ∧ m = [Row pE 48 2 B e l] := by
  refine tri_of Tryd.func18 rfl rfl fun F => ?_
  simp only [Tryd.ntmps18, argEnv, List.cons_append, List.nil_append]
  refine at_seq_k (fun K0 hK0 => ?_)
  refine at_region ?_
  refine at_v (ov_assign rfl rfl) rfl rfl rfl ?_
  refine at_nil ?_
  refine at_normal ?_
  refine hK0 _ _ _ ?_
  refine at_seq_k (fun K1 hK1 => ?_)
  refine at_seq_k (fun K2 hK2 => ?_)
  refine at_region ?_
  refine at_v (ov_move rfl rfl) rfl rfl rfl ?_
  refine at_v (ov_slice_nil rfl Tryd.underlying24 rfl rfl) rfl rfl rfl ?_
  refine at_nil ?_
  refine at_normal ?_
  refine hK2 _ _ _ ?_
  cases A with
  | none =>
    have hnil : l = [] := by
      by_cases e : l = []
      · exact e
      · obtain ⟨ad, h, _⟩ := hr.at_ e; cases h
    subst hnil
    refine at_cond_true rfl ?_
    refine at_seq_k (fun K3 hK3 => ?_)
    refine at_region ?_
    refine at_v (ov_assign rfl rfl) rfl rfl rfl ?_
    refine at_nil ?_
    refine at_normal ?_
    refine hK3 _ _ _ ?_
    refine at_ret ?_
    refine at_then_ret ?_
    refine at_end ?_
    refine at_rowNil pE 48 2 ?_
    refine at_fin (rsV rfl (res_tmp rfl)) ?_
    refine ⟨_, ⟨none, 0, rfl, rfl⟩, ?_⟩
    exact fun _ s => s.finEq (ks := [0]) (js := []) rfl rfl rfl
  | some ad =>
    refine at_cond_false rfl ?_
    refine at_skip ?_
    refine at_normal ?_
    refine hK1 _ _ _ ?_
    refine at_seq_k (fun K3 hK3 => ?_)
    refine at_region ?_
    refine at_t (ot_buildSlice (cs := []) rfl Tryd.underlying24 rfl rfl rfl rfl rfl rfl) rfl rfl rfl ?_
    rintro _ _ ⟨g0, rfl, rfl⟩
    refine at_v (ov_move rfl rfl) rfl rfl rfl ?_
    refine at_rowOf (c := 0) (size := 2) pE 0 [] rfl (by simp) (by simp) (by decide) (by simp) rfl ?_
    simp only [setAt]
    
    refine at_t (ot_append (k := 0) (xs := []) (ys := l) (enc := pE) (size := 2) (bytes := 32) (fun w s => hr.up s) rfl Tryd.underlying24 rfl rfl rfl rfl rfl (by decide) rfl rfl rfl (fun v _ => pE_one v) (by simp; omega) (by decide)) rfl rfl rfl ?_
    rintro _ _ ⟨A0, c0, rfl, rfl⟩
    simp only [setAt, List.nil_append]
    refine at_v (ov_assign rfl rfl) rfl rfl rfl ?_
    refine at_nil ?_
    refine at_normal ?_
    refine hK3 _ _ _ ?_
    refine at_ret ?_
    refine at_end ?_
    refine at_fin (rsV rfl (res_tmp rfl)) ?_
    refine ⟨_, ⟨A0, c0, rfl, rfl⟩, ?_⟩
    exact fun _ s => s.finEq (ks := [0]) (js := []) rfl rfl rfl
theorem T18a (w0 : World) {A : Option Addr} {c c' : Nat} {l : List PR} (hm : l.length ≤ 1000000) :
    Tri Tryd.prog w0 18 [.slice A l.length c] [Row pE 48 2 A c' l] fun v m => ∃ B e, v = .slice B l.length e ∧ m = [Row pE 48 2 B e l, Row pE 48 2 A c' l] :=
  (Tri.of_all fun w s => T18 w (s.rd (k := 0) rfl) hm).post fun v m ⟨m', ⟨B, e, h1, h2⟩, h3⟩ => ⟨B, e, h1, by rw [h3, h2]; rfl⟩
theorem T21 (w0 : World) (x : PR) (i : Nat) {gv : Nat} {A : Option Addr} {c : Nat} {l : List PR} (hm : l.length ≤ 1000000) (hi : i ≤ l.length) :
    Tri Tryd.prog w0 21 [.slice A l.length c, .int .i64 (i : Nat), .slice (some ⟨gv, 0, none⟩) 1 1] [Row pE 48 2 A c l, cl gv #[SV x.1, SV x.2] 48] fun v m => ∃ B e, v = .slice B (l.take i ++ x :: l.drop i).length e ∧ m = [Row pE 48 2 B e (l.take i ++ x :: l.drop i)] := by
  refine tri_of Tryd.func21 rfl rfl fun F => ?_
  simp only [Tryd.ntmps21, argEnv, List.cons_append, List.nil_append]
  refine at_rowLen 0 rfl fun hlc hcm => ?_
  by_cases hin : i = l.length
  · subst hin
    have e1 : l.take l.length ++ x :: l.drop l.length = l ++ [x] := by simp
    refine at_seq_k (fun K0 hK0 => ?_)
    refine at_region ?_
    refine at_v (ov_assign rfl rfl) rfl rfl rfl ?_
    refine at_nil ?_
    refine at_normal ?_
    refine hK0 _ _ _ ?_
    refine at_seq_k (fun K1 hK1 => ?_)
    refine at_region ?_
    refine at_v (ov_move rfl rfl) rfl rfl rfl ?_
    refine at_v (ov_move rfl rfl) rfl rfl rfl ?_
    refine at_v (ov_sliceFrom rfl Tryd.underlying24 rfl rfl rfl (by first | assumption | omega) (by assumption)) rfl rfl rfl ?_
    refine at_nil ?_
    refine at_normal ?_
    refine hK1 _ _ _ ?_
    refine at_seq_k (fun K2 hK2 => ?_)
    refine at_region ?_
    refine at_v (ov_move rfl rfl) rfl rfl rfl ?_
    refine at_v (ov_len_slice rfl Tryd.underlying24 rfl) rfl rfl rfl ?_
    refine at_v (ov_assign rfl rfl) rfl rfl rfl ?_
    refine at_nil ?_
    refine at_normal ?_
    refine hK2 _ _ _ ?_
    refine at_seq_k (fun K3 hK3 => ?_)
    refine at_seq_k (fun K4 hK4 => ?_)
    refine at_region ?_
    refine at_v (ov_move rfl rfl) rfl rfl rfl ?_
    refine at_v (ov_int rfl rfl rfl rfl) rfl rfl rfl ?_
    refine at_nil ?_
    refine at_normal ?_
    refine hK4 _ _ _ ?_
    refine at_cond_false rfl ?_
    refine at_skip ?_
    refine at_normal ?_
    refine hK3 _ _ _ ?_
    refine at_seq_k (fun K5 hK5 => ?_)
    refine at_region ?_
    refine at_v (ov_move rfl rfl) rfl rfl rfl ?_
    refine at_v (ov_len_slice rfl Tryd.underlying24 rfl) rfl rfl rfl ?_
    refine at_v (ov_assign rfl rfl) rfl rfl rfl ?_
    refine at_nil ?_
    refine at_normal ?_
    refine hK5 _ _ _ ?_
    refine at_seq_k (fun K6 hK6 => ?_)
    refine at_seq_k (fun K7 hK7 => ?_)
    refine at_region ?_
    refine at_v (ov_move rfl rfl) rfl rfl rfl ?_
    refine at_v (ov_move rfl rfl) rfl rfl rfl ?_
    refine at_v (ov_int rfl rfl rfl rfl) rfl rfl rfl ?_
    refine at_nil ?_
    refine at_normal ?_
    refine hK7 _ _ _ ?_
    refine at_cond_true (congrArg (fun b => some (Value.bool b)) (show _ = true from decide_eq_true (by omega))) ?_
    refine at_seq_k (fun K8 hK8 => ?_)
    refine at_region ?_
    refine at_v (ov_move rfl rfl) rfl rfl rfl ?_
    refine at_v (ov_move rfl rfl) rfl rfl rfl ?_
    refine at_t (ot_append (k := 0) (size := 2) (bytes := 32) (ys := [x]) (fun _ s => s.rdPt (k := 1) rfl rfl (by simp [pE])) rfl Tryd.underlying24 (ti := Tryd.t48) rfl rfl rfl rfl rfl (by decide) rfl rfl rfl (by simp [pE, Value.oneCell']) (by simp; omega) (by decide)) rfl rfl rfl ?_
    rintro _ _ ⟨A0, c0, rfl, rfl⟩
    simp only [setAt]
    refine at_v (ov_assign rfl rfl) rfl rfl rfl ?_
    refine at_nil ?_
    refine at_normal ?_
    refine hK8 _ _ _ ?_
    refine at_ret ?_
    refine at_then_ret ?_
    refine at_end ?_
    refine at_fin (rsV rfl (res_tmp rfl)) ?_
    refine ⟨_, ⟨A0, c0, by rw [e1], rfl⟩, ?_⟩
    rw [e1]
    exact fun _ s => s.finEq (ks := [0]) (js := [0]) rfl rfl rfl
  · have hi1 : decide ((i : Int) = l.length) = false := decide_eq_false (by omega)
    refine at_seq_k (fun K0 hK0 => ?_)
    refine at_region ?_
    refine at_v (ov_assign rfl rfl) rfl rfl rfl ?_
    refine at_nil ?_
    refine at_normal ?_
    refine hK0 _ _ _ ?_
    refine at_seq_k (fun K1 hK1 => ?_)
    refine at_region ?_
    refine at_v (ov_move rfl rfl) rfl rfl rfl ?_
    refine at_v (ov_move rfl rfl) rfl rfl rfl ?_
    refine at_v (ov_sliceFrom rfl Tryd.underlying24 rfl rfl rfl (by first | assumption | omega) (by assumption)) rfl rfl rfl ?_
    refine at_nil ?_
    refine at_normal ?_
    refine hK1 _ _ _ ?_
    refine at_seq_k (fun K2 hK2 => ?_)
    refine at_region ?_
    refine at_v (ov_move rfl rfl) rfl rfl rfl ?_
    refine at_v (ov_len_slice rfl Tryd.underlying24 rfl) rfl rfl rfl ?_
    refine at_v (ov_assign rfl rfl) rfl rfl rfl ?_
    refine at_nil ?_
    refine at_normal ?_
    refine hK2 _ _ _ ?_
    refine at_seq_k (fun K3 hK3 => ?_)
    refine at_seq_k (fun K4 hK4 => ?_)
    refine at_region ?_
    refine at_v (ov_move rfl rfl) rfl rfl rfl ?_
    refine at_v (ov_int rfl rfl rfl rfl) rfl rfl rfl ?_
    refine at_nil ?_
    refine at_normal ?_
    refine hK4 _ _ _ ?_
    refine at_cond_false rfl ?_
    refine at_skip ?_
    refine at_normal ?_
    refine hK3 _ _ _ ?_
    refine at_seq_k (fun K5 hK5 => ?_)
    refine at_region ?_
    refine at_v (ov_move rfl rfl) rfl rfl rfl ?_
    refine at_v (ov_len_slice rfl Tryd.underlying24 rfl) rfl rfl rfl ?_
    refine at_v (ov_assign rfl rfl) rfl rfl rfl ?_
    refine at_nil ?_
    refine at_normal ?_
    refine hK5 _ _ _ ?_
    refine at_seq_k (fun K6 hK6 => ?_)
    refine at_seq_k (fun K7 hK7 => ?_)
    refine at_region ?_
    refine at_v (ov_move rfl rfl) rfl rfl rfl ?_
    refine at_v (ov_move rfl rfl) rfl rfl rfl ?_
    refine at_v (ov_int rfl rfl rfl rfl) rfl rfl rfl ?_
    refine at_nil ?_
    refine at_normal ?_
    refine hK7 _ _ _ ?_
    refine at_cond_false (congrArg (fun b => some (Value.bool b)) (show _ = false from decide_eq_false (by omega))) ?_
    refine at_skip ?_
    refine at_normal ?_
    refine hK6 _ _ _ ?_
    refine at_seq_k (fun K8 hK8 => ?_)
    refine at_seq_k (fun K9 hK9 => ?_)
    refine at_region ?_
    refine at_v (ov_move rfl rfl) rfl rfl rfl ?_
    refine at_v (ov_move rfl rfl) rfl rfl rfl ?_
    refine at_v ((ov_int rfl rfl rfl rfl).eq (congrArg (Value.int .i64) (inK_i64 (by omega) (by omega)))) rfl rfl rfl ?_
    refine at_v (ov_move rfl rfl) rfl rfl rfl ?_
    refine at_v (ov_capS rfl Tryd.underlying24 rfl) rfl rfl rfl ?_
    by_cases hroom : l.length + 1 ≤ c
    · have hi2 : decide ((l.length : Int) + (1 : Nat) > (c : Nat)) = false := decide_eq_false (by omega)
      refine at_v (ov_int rfl rfl rfl rfl) rfl rfl rfl ?_
      refine at_nil ?_
      refine at_normal ?_
      refine hK9 _ _ _ ?_
      refine at_cond_false (congrArg (fun b => some (Value.bool b)) (show _ = false from decide_eq_false (by omega))) ?_
      refine at_skip ?_
      refine at_normal ?_
      refine hK8 _ _ _ ?_
      refine at_seq_k (fun K10 hK10 => ?_)
      refine at_region ?_
      refine at_v (ov_move rfl rfl) rfl rfl rfl ?_
      refine at_v (ov_move rfl rfl) rfl rfl rfl ?_
      refine at_v (ov_move rfl rfl) rfl rfl rfl ?_
      refine at_v ((ov_int rfl rfl rfl rfl).eq (congrArg (Value.int .i64) (inK_i64 (by omega) (by omega)))) rfl rfl rfl ?_
      refine at_v (ov_sliceToC (k := l.length + 1) (size := 2) rfl Tryd.underlying24 rfl rfl (congrArg (fun z => some (Value.int .i64 z)) (show ((l.length : Int) + (1 : Nat)) = ((l.length + 1 : Nat) : Int) by omega)) hroom) rfl rfl rfl ?_
      refine at_v (ov_assign rfl rfl) rfl rfl rfl ?_
      refine at_nil ?_
      refine at_normal ?_
      refine hK10 _ _ _ ?_
      refine at_seq_k (fun K11 hK11 => ?_)
      refine at_seq_k (fun K12 hK12 => ?_)
      refine at_region ?_
      refine at_v (ov_move rfl rfl) rfl rfl rfl ?_
      refine at_v (ov_move rfl rfl) rfl rfl rfl ?_
      refine at_v (ov_move rfl rfl) rfl rfl rfl ?_
      refine at_v (ov_move rfl rfl) rfl rfl rfl ?_
      refine at_v ((ov_int rfl rfl rfl rfl).eq (congrArg (Value.int .i64) (inK_i64 (by omega) (by omega)))) rfl rfl rfl ?_
      refine at_v (ov_sliceFromC (j := i + 1) (size := 2) rfl Tryd.underlying24 rfl rfl (congrArg (fun z => some (Value.int .i64 z)) (show ((i : Int) + (1 : Nat)) = ((i + 1 : Nat) : Int) by omega)) (by omega)) rfl rfl rfl ?_
      have hD1 : dropA A c (i + 1) 2 = A.map (·.add ((i + 1) * 2)) := by unfold dropA; rw [if_neg (by omega)]
      refine at_reval 66 (.slice (A.map (·.add ((i + 1) * 2))) (l.length + 1 - (i + 1)) (c - (i + 1))) rfl (by rw [hD1]) ?_
      refine at_t (ot_extern (e := Extern.SlicesOverlaps.overlaps #[24, 24] #[4]) rfl rfl rfl (run_callFunc_extern Tryd.func30 (by decide) rfl rfl rfl) (x_overlaps (size := 2) (xs := l) (ks := [1, 0]) Tryd.underlying24 (fun _ => rfl) (by decide) (by intro e; subst e; simp at hi hin; omega) rfl)) rfl rfl rfl ?_
      rintro _ _ ⟨rfl, rfl⟩
      refine at_v (ov_not rfl rfl) rfl rfl rfl ?_
      refine at_nil ?_
      refine at_normal ?_
      refine hK12 _ _ _ ?_
      refine at_cond_true rfl ?_
      refine at_seq_k (fun K13 hK13 => ?_)
      refine at_draw _ [] 1000 [(2, 0), (2, 1), (2, 2), (2, 3), (1, 4), (2, 5), (2, 6), (1, 7), (0, 8)] (by kernel_rfl) (by kernel_rfl) (fun _ s => (s.pulls (ks := [1]) rfl).left) ?_
      refine aq_p (ov_move rfl rfl) rfl rfl rfl ?_
      refine aq_p (ov_move rfl rfl) rfl rfl rfl ?_
      refine aq_p (ov_move rfl rfl) rfl rfl rfl ?_
      refine aq_p ((ov_int rfl rfl rfl rfl).eq (congrArg (Value.int .i64) (inK_i64 (by omega) (by omega)))) rfl rfl rfl ?_
      refine aq_v (ov_sliceFromC (j := i + 1) (size := 2) rfl Tryd.underlying24 rfl rfl (congrArg (fun z => some (Value.int .i64 z)) (show ((i : Int) + (1 : Nat)) = ((i + 1 : Nat) : Int) by omega)) (by omega)) rfl rfl rfl ?_
      refine aq_p (ov_move rfl rfl) rfl rfl rfl ?_
      refine aq_p (ov_move rfl rfl) rfl rfl rfl ?_
      refine aq_v (ov_sliceFromC (j := i) (size := 2) rfl Tryd.underlying24 rfl rfl rfl (by omega)) rfl rfl rfl ?_
      have hdl : (l.drop i).length = l.length - i := List.length_drop
      refine aq_t (ot_copyRow (k := 0) (j := i + 1) (size := 2) (ys := l.drop i) (fun _ s => rd_dropA s (k := 0) rfl i) rfl Tryd.underlying24 rfl rfl rfl rfl hD1 rfl (by rw [hdl]; omega) (by omega) (by omega) (by intro e; rw [e] at hdl; simp at hdl; omega) (fun v _ => pE_one v)) rfl rfl rfl ?_
      rintro _ _ ⟨rfl, rfl⟩
      have htl : (l.take i).length = i := by rw [List.length_take]; omega
      have e2 : l.take (i + 1) ++ l.drop i ++ l.drop (i + 1 + (l.drop i).length) = l.take (i + 1) ++ l.drop i := by
        have h2 : l.drop (i + 1 + (l.drop i).length) = [] := List.drop_eq_nil_of_le (by rw [hdl]; omega)
        rw [h2, List.append_nil]
      rw [e2]
      simp only [setAt]
      have htl1 : (l.take (i + 1)).length = i + 1 := by rw [List.length_take]; omega
      have hyl : (l.take (i + 1) ++ l.drop i).length = l.length + 1 := by rw [List.length_append, htl1, hdl]; omega
      refine ⟨fun _ s => (s.pulls (ks := [1]) rfl).left, ?_⟩
      refine at_reval 0 (.slice A (l.take (i + 1) ++ l.drop i).length c) rfl (by rw [hyl]) ?_
      refine at_rowLen 0 rfl fun hlc1 hcm1 => ?_
      refine aq_nil ?_
      refine at_normal ?_
      refine hK13 _ _ _ ?_
      refine at_seq_k (fun K14 hK14 => ?_)
      refine at_region ?_
      refine at_v (ov_move rfl rfl) rfl rfl rfl ?_
      refine at_v (ov_move rfl rfl) rfl rfl rfl ?_
      refine at_v (ov_sliceFrom rfl Tryd.underlying24 rfl rfl rfl (by first | assumption | omega) (by assumption)) rfl rfl rfl ?_
      refine at_v (ov_move rfl rfl) rfl rfl rfl ?_
      have hD0 : dropA A c i 2 = A.map (·.add (i * 2)) := by unfold dropA; rw [if_neg (by omega)]
      refine at_t (ot_copyRow (k := 0) (j := i) (size := 2) (ys := [x]) (fun _ s => s.rdPt (k := 1) rfl rfl (by simp [pE])) rfl Tryd.underlying24 rfl rfl rfl rfl hD0 rfl (by rw [List.length_drop, hyl]; simp; omega) (by omega) (by simp; omega) (by simp) (by simp [pE, Value.oneCell'])) rfl rfl rfl ?_
      rintro _ _ ⟨rfl, rfl⟩
      have e3 : (l.take (i + 1) ++ l.drop i).take i ++ [x] ++ (l.take (i + 1) ++ l.drop i).drop (i + ([x] : List PR).length) = l.take i ++ x :: l.drop i := by
        have h1 : (l.take (i + 1) ++ l.drop i).take i = l.take i := by rw [List.take_append_of_le_length (by omega), List.take_take, Nat.min_eq_left (by omega)]
        have h2 : (l.take (i + 1) ++ l.drop i).drop (i + 1) = l.drop i := by rw [List.drop_append, List.drop_eq_nil_of_le (by omega), htl1]; simp
        rw [show ([x] : List PR).length = 1 from rfl, h1, h2]; simp
      rw [e3]
      simp only [setAt]
      have hfl : (l.take (i + 1) ++ l.drop i).length = (l.take i ++ x :: l.drop i).length := by rw [hyl, List.length_append, List.length_cons, hdl, htl]; omega
      refine at_nil ?_
      refine at_normal ?_
      refine hK14 _ _ _ ?_
      refine at_seq_k (fun K15 hK15 => ?_)
      refine at_region ?_
      refine at_v (ov_move rfl rfl) rfl rfl rfl ?_
      refine at_v (ov_assign rfl rfl) rfl rfl rfl ?_
      refine at_nil ?_
      refine at_normal ?_
      refine hK15 _ _ _ ?_
      refine at_ret ?_
      refine at_then_ret ?_
      refine at_end ?_
      refine at_fin (rsV rfl (res_tmp rfl)) ?_
      refine ⟨_, ⟨A, c, by rw [hfl], rfl⟩, ?_⟩
      exact fun _ s => s.finEq (ks := [0]) (js := [0]) rfl rfl rfl
    · have hi2 : decide ((l.length : Int) + (1 : Nat) > (c : Nat)) = true := decide_eq_true (by omega)
      refine at_v (ov_int rfl rfl rfl rfl) rfl rfl rfl ?_
      refine at_nil ?_
      refine at_normal ?_
      refine hK9 _ _ _ ?_
      refine at_cond_true (congrArg (fun b => some (Value.bool b)) (show _ = true from decide_eq_true (by omega))) ?_
      refine at_seq_k (fun K10 hK10 => ?_)
      refine at_region ?_
      refine at_v (ov_move rfl rfl) rfl rfl rfl ?_
      refine at_v (ov_move rfl rfl) rfl rfl rfl ?_
      refine at_v (ov_sliceTo rfl Tryd.underlying24 rfl rfl rfl (by first | assumption | omega) (by assumption)) rfl rfl rfl ?_
      refine at_v (ov_move rfl rfl) rfl rfl rfl ?_
      refine at_v (ov_move rfl rfl) rfl rfl rfl ?_
      refine at_v ((ov_int rfl rfl rfl rfl).eq (congrArg (Value.int .i64) (inK_i64 (by omega) (by omega)))) rfl rfl rfl ?_
      refine at_v (ov_move rfl rfl) rfl rfl rfl ?_
      refine at_v ((ov_int rfl rfl rfl rfl).eq (congrArg (Value.int .i64) (inK_i64 (by omega) (by omega)))) rfl rfl rfl ?_
      obtain ⟨m, hm1⟩ : ∃ m : Nat, m = l.length + 1 - i := ⟨_, rfl⟩
      have htl : (l.take i).length = i := by rw [List.length_take]; omega
      refine at_reval 39 (.int .i64 (m : Nat)) rfl (by congr 1; omega) ?_
      refine at_reval 34 (.slice A i c) rfl (by rw [htl]) ?_
      refine at_t (ot_appendZeros (k := 0) (m := m) (j := i) (size := 2) (([], []) : PR) rfl Tryd.underlying24 Tryd.underlying3 rfl rfl rfl rfl rfl (by decide) rfl rfl rfl (by omega) (by omega) (by omega) (by show (i + m) * 32 ≤ _; omega) (by decide)) rfl rfl rfl ?_
      rintro _ _ ⟨A1, c1, rfl, rfl⟩
      obtain ⟨zs, hzs⟩ : ∃ zs, zs = List.replicate m (([], []) : PR) := ⟨_, rfl⟩
      have hzl : zs.length = m := by rw [hzs, List.length_replicate]
      rw [← hzs]
      have hyl : (l.take i ++ zs).length = i + m := by rw [List.length_append, htl, hzl]
      refine at_reval 40 (.slice A1 (l.take i ++ zs).length c1) rfl (by rw [hyl]) ?_
      refine at_rowLen 0 rfl fun hlc1 hcm1 => ?_
      refine at_v (ov_assign rfl rfl) rfl rfl rfl ?_
      refine at_nil ?_
      refine at_normal ?_
      refine hK10 _ _ _ ?_
      refine at_seq_k (fun K11 hK11 => ?_)
      refine at_region ?_
      refine at_v (ov_move rfl rfl) rfl rfl rfl ?_
      refine at_v (ov_move rfl rfl) rfl rfl rfl ?_
      refine at_v (ov_sliceFrom rfl Tryd.underlying24 rfl rfl rfl (by first | assumption | omega) (by assumption)) rfl rfl rfl ?_
      refine at_v (ov_move rfl rfl) rfl rfl rfl ?_
      have hD1 : dropA A1 c1 i 2 = A1.map (·.add (i * 2)) := by unfold dropA; rw [if_neg (by omega)]
      refine at_t (ot_copyRow (k := 0) (j := i) (size := 2) (ys := [x]) (fun _ s => s.rdPt (k := 2) rfl rfl (by simp [pE])) rfl Tryd.underlying24 rfl rfl rfl rfl hD1 rfl (by simp; omega) (by omega) (by simp; omega) (by simp) (by simp [pE, Value.oneCell'])) rfl rfl rfl ?_
      rintro _ _ ⟨rfl, rfl⟩
      have e2 : (l.take i ++ zs).take i ++ [x] ++ (l.take i ++ zs).drop (i + ([x] : List PR).length) = l.take i ++ x :: zs.drop 1 := by
        have h1 : (l.take i ++ zs).take i = l.take i := by rw [List.take_append_of_le_length (by omega), List.take_take, Nat.min_self]
        have h2 : (l.take i ++ zs).drop (i + 1) = zs.drop 1 := by rw [List.drop_append, List.drop_eq_nil_of_le (by omega), htl]; simp
        rw [show ([x] : List PR).length = 1 from rfl, h1, h2]; simp
      rw [e2]
      simp only [setAt]
      have hyl2 : (l.take i ++ x :: zs.drop 1).length = i + m := by simp only [List.length_append, List.length_cons, List.length_drop, htl, hzl]; omega
      refine at_reval 9 (.slice A1 (l.take i ++ x :: zs.drop 1).length c1) rfl (by rw [hyl, hyl2]) ?_
      refine at_nil ?_
      refine at_normal ?_
      refine hK11 _ _ _ ?_
      refine at_seq_k (fun K12 hK12 => ?_)
      refine at_draw _ [] 1000 [(2, 0), (2, 1), (2, 2), (2, 3), (1, 4), (2, 5), (2, 6), (1, 7), (0, 8)] (by kernel_rfl) (by kernel_rfl) (fun _ s => (s.pulls (ks := [2]) rfl).left) ?_
      refine aq_p (ov_move rfl rfl) rfl rfl rfl ?_
      refine aq_p (ov_move rfl rfl) rfl rfl rfl ?_
      refine aq_p (ov_move rfl rfl) rfl rfl rfl ?_
      refine aq_p ((ov_int rfl rfl rfl rfl).eq (congrArg (Value.int .i64) (inK_i64 (by omega) (by omega)))) rfl rfl rfl ?_
      refine aq_v (ov_sliceFrom (k := i + 1) (xs := l.take i ++ x :: zs.drop 1) (size := 2) rfl Tryd.underlying24 rfl rfl (congrArg (fun z => some (Value.int .i64 z)) (show ((i : Int) + (1 : Nat)) = ((i + 1 : Nat) : Int) by omega)) (by omega) (by omega)) rfl rfl rfl ?_
      refine aq_p (ov_move rfl rfl) rfl rfl rfl ?_
      refine aq_p (ov_move rfl rfl) rfl rfl rfl ?_
      refine aq_v (ov_sliceFrom rfl Tryd.underlying24 rfl rfl rfl (by first | assumption | omega) (by assumption)) rfl rfl rfl ?_
      have hD2 : dropA A1 c1 (i + 1) 2 = A1.map (·.add ((i + 1) * 2)) := by unfold dropA; rw [if_neg (by omega)]
      have hdl : (l.drop i).length = l.length - i := List.length_drop
      refine aq_t (ot_copyRow (k := 0) (j := i + 1) (size := 2) (ys := l.drop i) (fun _ s => rd_dropA s (k := 1) rfl i) rfl Tryd.underlying24 rfl rfl rfl rfl hD2 rfl (by rw [List.length_drop, List.length_drop, hyl2]; omega) (by omega) (by omega) (by intro e; rw [e] at hdl; simp at hdl; omega) (fun v _ => pE_one v)) rfl rfl rfl ?_
      rintro _ _ ⟨rfl, rfl⟩
      have e3 : (l.take i ++ x :: zs.drop 1).take (i + 1) ++ l.drop i ++ (l.take i ++ x :: zs.drop 1).drop (i + 1 + (l.drop i).length) = l.take i ++ x :: l.drop i := by
        have h1 : (l.take i ++ x :: zs.drop 1).take (i + 1) = l.take i ++ [x] := by
          rw [List.take_append, htl, List.take_of_length_le (by omega), show i + 1 - i = 1 by omega]; rfl
        have h2 : (l.take i ++ x :: zs.drop 1).drop (i + 1 + (l.drop i).length) = [] := List.drop_eq_nil_of_le (by rw [hyl2, hdl]; omega)
        rw [h1, h2]; simp
      rw [e3]
      simp only [setAt]
      refine ⟨fun _ s => (s.pulls (ks := [2]) rfl).left, ?_⟩
      have hfl : (l.take i ++ x :: zs.drop 1).length = (l.take i ++ x :: l.drop i).length := by rw [hyl2, List.length_append, List.length_cons, hdl, htl]; omega
      refine aq_nil ?_
      refine at_normal ?_
      refine hK12 _ _ _ ?_
      refine at_seq_k (fun K13 hK13 => ?_)
      refine at_region ?_
      refine at_v (ov_move rfl rfl) rfl rfl rfl ?_
      refine at_v (ov_assign rfl rfl) rfl rfl rfl ?_
      refine at_nil ?_
      refine at_normal ?_
      refine hK13 _ _ _ ?_
      refine at_ret ?_
      refine at_then_ret ?_
      refine at_end ?_
      refine at_fin (rsV rfl (res_tmp rfl)) ?_
      refine ⟨_, ⟨A1, c1, by rw [hfl], rfl⟩, ?_⟩
      exact fun _ s => s.finEq (ks := [0]) (js := [0, 0]) rfl rfl rfl
end Go.Proofs.YtmedbdcjniggcaaDoor
