/- The reference of plans, walked; the law's own functions. -/
import Derived.Test.YtmedbdcjniggcaaDoorProg
import Derived.Test.YtmedbdcjniggcaaDoorPlanLaw
import Derived.Test.YtmedbdcjniggcaaDoorSLCmp
import Derived.Test.YtmedbdcjniggcaaDoorSLStr
import Derived.KernelRfl
set_option linter.unusedSimpArgs false
set_option linter.unusedVariables false
set_option maxRecDepth 100000
set_option maxHeartbeats 4000000
namespace Go.Proofs.YtmedbdcjniggcaaDoor
open Go Go.Proofs.YtmedbdcjniggcaaDoor.SL Go.RowKit
/-- A program's pair, and the document's. -/
theorem tab_at {l : List PR} : tabB l = true ↔ ∀ (i : Nat) (a b : PR), l[i]? = some a → l[i + 1]? = some b → ltB a.1 b.1 = true := by
  induction l with
  | nil => simp [tabB]
  | cons x l ih =>
    cases l with
    | nil => simp [tabB]
    | cons y l =>
      unfold tabB
      rw [Bool.and_eq_true, ih]
      constructor
      · rintro ⟨h1, h2⟩ i a b ha hb
        cases i with
        | zero => simp at ha hb; subst ha; subst hb; exact h1
        | succ i => exact h2 i a b (by simpa using ha) (by simpa using hb)
      · intro h
        exact ⟨h 0 x y rfl rfl, fun i a b ha hb => h (i + 1) a b (by simpa using ha) (by simpa using hb)⟩
theorem T15 (w0 : World) {A : Option Addr} {c c' : Nat} {l : List PR} (hm : l.length ≤ 1000000000000) : Tri Tryd.prog w0 15 [.slice A l.length c] [Row pE 46 2 A c' l] fun v m => v = .bool (tabB l) ∧ m = [Row pE 46 2 A c' l] := by
  refine tri_of Tryd.func15 rfl rfl fun F => ?_
  simp only [Tryd.ntmps15, argEnv, List.cons_append, List.nil_append]
  refine at_seq_k (fun K0 hK0 => ?_)
  refine at_region ?_
  refine at_v (ov_assign rfl rfl) rfl rfl rfl ?_
  refine at_nil ?_
  refine at_normal ?_
  refine hK0 _ _ _ ?_
  refine at_seq_k (fun K1 hK1 => ?_)
  refine at_seq_k (fun K2 hK2 => ?_)
  refine at_region ?_
  refine at_v (ov_assign rfl rfl) rfl rfl rfl ?_
  refine at_nil ?_
  refine at_normal ?_
  refine hK2 _ _ _ ?_
  refine at_block ?_
  refine at_loopE [4, 5, 6, 7, 10, 11, 12, 13, 14, 15, 16, 17, 18, 19, 20, 21, 2, 8, 9, 3] (fun i : Nat => i ≤ l.length ∧ ∀ (j : Nat) (a b : PR), j < i → l[j]? = some a → l[j + 1]? = some b → ltB a.1 b.1 = true) (fun i => [(3, .int .i64 ((i + 1 : Nat)))]) (fun i q => q) (fun i => l.length - i) 0 ⟨Nat.zero_le _, fun j a b h => absurd h (by omega)⟩ ⟨rfl, trivial⟩ (fun _ s => s) ?_
  intro k ⟨hk, hall⟩
  rcases Nat.lt_or_ge (k + 1) l.length with hlt | hge
  · have hi1 : decide (((k + 1 : Nat) : Int) < l.length) = true := decide_eq_true (by omega)
    obtain ⟨a, ha⟩ : ∃ a, l[k]? = some a := ⟨_, List.getElem?_eq_getElem (by omega)⟩
    obtain ⟨b, hb⟩ : ∃ b, l[k + 1]? = some b := ⟨_, List.getElem?_eq_getElem hlt⟩
    have hpred : True := trivial
    cases hi2 : ltB a.1 b.1 with
    | false =>
      have ht : tabB l = false := by
        cases ht : tabB l with
        | false => rfl
        | true => rw [tab_at.1 ht k a b ha hb] at hi2; cases hi2
      refine at_seq_k (fun K3 hK3 => ?_)
      refine at_seq_k (fun K4 hK4 => ?_)
      refine at_region ?_
      refine at_v (ov_move rfl rfl) rfl rfl rfl ?_
      refine at_v (ov_move rfl rfl) rfl rfl rfl ?_
      refine at_v (ov_len_slice rfl Tryd.underlying29 rfl) rfl rfl rfl ?_
      refine at_v (ov_int rfl rfl rfl rfl) rfl rfl rfl ?_
      refine at_nil ?_
      refine at_normal ?_
      refine hK4 _ _ _ ?_
      refine at_cond_true (congrArg (fun b => some (Value.bool b)) (show _ = true from decide_eq_true (by omega))) ?_
      refine at_skip ?_
      refine at_normal ?_
      refine hK3 _ _ _ ?_
      refine at_seq_k (fun K5 hK5 => ?_)
      refine at_block ?_
      refine at_seq_k (fun K6 hK6 => ?_)
      refine at_draw _ [] 1000 [(2, 0), (2, 1), (2, 2), (1, 3), (1, 4), (1, 5), (2, 6), (2, 7), (1, 8), (1, 9), (1, 10), (2, 11)] (by kernel_rfl) (by kernel_rfl) (fun _ s => (s.pulls (ks := [0]) rfl).left) ?_
      refine aq_p (ov_move rfl rfl) rfl rfl rfl ?_
      refine aq_p (ov_move rfl rfl) rfl rfl rfl ?_
      refine aq_p ((ov_int rfl rfl rfl rfl).eq (congrArg (Value.int .i64) (inK_pred (by omega)))) rfl rfl rfl ?_
      refine aq_v (ov_indexRd (fun _ s => s.rd (k := 0) rfl) rfl Tryd.underlying29 rfl rfl rfl ha) rfl rfl rfl ?_
      refine aq_v (ov_fieldRd0 (k := 0) (fun _ s => s.rd (k := 0) rfl) rfl rfl ha rfl) rfl rfl rfl ?_
      refine aq_v (ov_loadRd0 (fun _ s => s.rd (k := 0) rfl) rfl rfl rfl ha rfl) rfl rfl rfl ?_
      refine aq_p (ov_move rfl rfl) rfl rfl rfl ?_
      refine aq_p (ov_move rfl rfl) rfl rfl rfl ?_
      refine aq_v (ov_indexRd (fun _ s => s.rd (k := 0) rfl) rfl Tryd.underlying29 rfl rfl rfl hb) rfl rfl rfl ?_
      refine aq_v (ov_fieldRd0 (k := 0) (fun _ s => s.rd (k := 0) rfl) rfl rfl hb rfl) rfl rfl rfl ?_
      refine aq_v (ov_loadRd0 (fun _ s => s.rd (k := 0) rfl) rfl rfl rfl hb rfl) rfl rfl rfl ?_
      refine aq_p (ov_cmpL rfl rfl rfl rfl) rfl rfl rfl ?_
      refine aq_nil ?_
      refine at_normal ?_
      refine hK6 _ _ _ ?_
      refine at_cond_true (congrArg (fun b => some (Value.bool b)) (show _ = true from by simp [hi1, hi2, ht]; done)) ?_
      refine at_seq_k (fun K7 hK7 => ?_)
      refine at_region ?_
      refine at_v (ov_assign rfl rfl) rfl rfl rfl ?_
      refine at_nil ?_
      refine at_normal ?_
      refine hK7 _ _ _ ?_
      refine at_ret ?_
      refine at_inb_ret ?_
      refine at_then_ret ?_
      refine at_then_ret ?_
      refine at_inb_ret ?_
      refine at_then_ret ?_
      refine at_end ?_
      refine at_fin (rsV rfl (res_tmp rfl)) ?_
      refine ⟨_, ⟨by rw [ht], rfl⟩, ?_⟩
      exact fun _ s => s.finEq (ks := [0]) (js := []) rfl rfl rfl
    | true =>
      refine at_seq_k (fun K3 hK3 => ?_)
      refine at_seq_k (fun K4 hK4 => ?_)
      refine at_region ?_
      refine at_v (ov_move rfl rfl) rfl rfl rfl ?_
      refine at_v (ov_move rfl rfl) rfl rfl rfl ?_
      refine at_v (ov_len_slice rfl Tryd.underlying29 rfl) rfl rfl rfl ?_
      refine at_v (ov_int rfl rfl rfl rfl) rfl rfl rfl ?_
      refine at_nil ?_
      refine at_normal ?_
      refine hK4 _ _ _ ?_
      refine at_cond_true (congrArg (fun b => some (Value.bool b)) (show _ = true from decide_eq_true (by omega))) ?_
      refine at_skip ?_
      refine at_normal ?_
      refine hK3 _ _ _ ?_
      refine at_seq_k (fun K5 hK5 => ?_)
      refine at_block ?_
      refine at_seq_k (fun K6 hK6 => ?_)
      refine at_draw _ [] 1000 [(2, 0), (2, 1), (2, 2), (1, 3), (1, 4), (1, 5), (2, 6), (2, 7), (1, 8), (1, 9), (1, 10), (2, 11)] (by kernel_rfl) (by kernel_rfl) (fun _ s => (s.pulls (ks := [0]) rfl).left) ?_
      refine aq_p (ov_move rfl rfl) rfl rfl rfl ?_
      refine aq_p (ov_move rfl rfl) rfl rfl rfl ?_
      refine aq_p ((ov_int rfl rfl rfl rfl).eq (congrArg (Value.int .i64) (inK_pred (by omega)))) rfl rfl rfl ?_
      refine aq_v (ov_indexRd (fun _ s => s.rd (k := 0) rfl) rfl Tryd.underlying29 rfl rfl rfl ha) rfl rfl rfl ?_
      refine aq_v (ov_fieldRd0 (k := 0) (fun _ s => s.rd (k := 0) rfl) rfl rfl ha rfl) rfl rfl rfl ?_
      refine aq_v (ov_loadRd0 (fun _ s => s.rd (k := 0) rfl) rfl rfl rfl ha rfl) rfl rfl rfl ?_
      refine aq_p (ov_move rfl rfl) rfl rfl rfl ?_
      refine aq_p (ov_move rfl rfl) rfl rfl rfl ?_
      refine aq_v (ov_indexRd (fun _ s => s.rd (k := 0) rfl) rfl Tryd.underlying29 rfl rfl rfl hb) rfl rfl rfl ?_
      refine aq_v (ov_fieldRd0 (k := 0) (fun _ s => s.rd (k := 0) rfl) rfl rfl hb rfl) rfl rfl rfl ?_
      refine aq_v (ov_loadRd0 (fun _ s => s.rd (k := 0) rfl) rfl rfl rfl hb rfl) rfl rfl rfl ?_
      refine aq_p (ov_cmpL rfl rfl rfl rfl) rfl rfl rfl ?_
      refine aq_nil ?_
      refine at_normal ?_
      refine hK6 _ _ _ ?_
      refine at_cond_false (congrArg (fun b => some (Value.bool b)) (show _ = false from by simp [hi1, hi2]; done)) ?_
      refine at_skip ?_
      refine at_inb_normal ?_
      refine at_normal ?_
      refine hK5 _ _ _ ?_
      refine at_region ?_
      refine at_v (ov_move rfl rfl) rfl rfl rfl ?_
      refine at_v ((ov_int rfl rfl rfl rfl).eq (congrArg (Value.int .i64) (inK_i64 (by omega) (by omega)))) rfl rfl rfl ?_
      refine at_v (ov_assign rfl rfl) rfl rfl rfl ?_
      refine at_nil ?_
      refine at_normal ?_
      refine at_roundF (k + 1) ⟨by omega, fun j x y hj hx hy => ?_⟩ (by omega) ⟨rfl, trivial⟩ rfl ?_
      · by_cases e : j = k
        · subst e; rw [ha] at hx; rw [hb] at hy; cases hx; cases hy; exact hi2
        · exact hall j x y (by omega) hx hy
      exact fun _ s => s.finEq (ks := [0]) (js := []) rfl rfl rfl
  · have hi1 : decide (((k + 1 : Nat) : Int) < l.length) = false := decide_eq_false (by omega)
    have ht : tabB l = true := tab_at.2 fun j a b ha hb => hall j a b (by have := (List.getElem?_eq_some_iff.1 hb).1; omega) ha hb
    refine at_seq_k (fun K3 hK3 => ?_)
    refine at_seq_k (fun K4 hK4 => ?_)
    refine at_region ?_
    refine at_v (ov_move rfl rfl) rfl rfl rfl ?_
    refine at_v (ov_move rfl rfl) rfl rfl rfl ?_
    refine at_v (ov_len_slice rfl Tryd.underlying29 rfl) rfl rfl rfl ?_
    refine at_v (ov_int rfl rfl rfl rfl) rfl rfl rfl ?_
    refine at_nil ?_
    refine at_normal ?_
    refine hK4 _ _ _ ?_
    refine at_cond_false (congrArg (fun b => some (Value.bool b)) (show _ = false from decide_eq_false (by omega))) ?_
    refine at_exit ?_
    refine at_then_exit ?_
    refine at_then_exit ?_
    refine at_exit_eq ?_
    refine at_normal ?_
    refine hK1 _ _ _ ?_
    refine at_seq_k (fun K5 hK5 => ?_)
    refine at_region ?_
    refine at_v (ov_assign rfl rfl) rfl rfl rfl ?_
    refine at_nil ?_
    refine at_normal ?_
    refine hK5 _ _ _ ?_
    refine at_ret ?_
    refine at_end ?_
    refine at_fin (rsV rfl (res_tmp rfl)) ?_
    refine ⟨_, ⟨by rw [ht], rfl⟩, ?_⟩
    exact fun _ s => s.finEq (ks := [0]) (js := []) rfl rfl rfl
theorem T10 (w0 : World) {A : Option Addr} {c : Nat} {l : List PR} (hr : Rd pE w0 2 A l) (hm : l.length ≤ 4398046511000) : Tri Tryd.prog w0 10 [.slice A l.length c] [] fun v m => ∃ B e, v = .slice B l.length e ∧ m = [Row pE 46 2 B e l] := by
  refine tri_of Tryd.func10 rfl rfl fun F => ?_
  simp only [Tryd.ntmps10, argEnv, List.cons_append, List.nil_append]
  refine at_seq_k (fun K0 hK0 => ?_)
  refine at_region ?_
  refine at_v (ov_assign rfl rfl) rfl rfl rfl ?_
  refine at_nil ?_
  refine at_normal ?_
  refine hK0 _ _ _ ?_
  refine at_seq_k (fun K1 hK1 => ?_)
  refine at_region ?_
  refine at_t (ot_buildSlice (cs := []) rfl Tryd.underlying29 rfl rfl rfl rfl rfl rfl) rfl rfl rfl ?_
  rintro _ _ ⟨g0, rfl, rfl⟩
  refine at_v (ov_assign rfl rfl) rfl rfl rfl ?_
  refine at_nil ?_
  refine at_normal ?_
  refine hK1 _ _ _ ?_
  refine at_seq_k (fun K2 hK2 => ?_)
  refine at_seq_k (fun K3 hK3 => ?_)
  refine at_region ?_
  refine at_v (ov_move rfl rfl) rfl rfl rfl ?_
  refine at_v (ov_len_slice rfl Tryd.underlying24 rfl) rfl rfl rfl ?_
  refine at_v (ov_move rfl rfl) rfl rfl rfl ?_
  refine at_nil ?_
  refine at_normal ?_
  refine hK3 _ _ _ ?_
  refine at_block ?_
  refine at_rowOf (c := 0) (size := 2) pE 0 [] rfl (by simp) (by simp) (by decide) (by simp) rfl ?_
  simp only [setAt]
  
  refine at_loopE [10, 11, 12, 5, 13, 14, 15, 16, 3, 17, 9] (fun i : Nat × Option Addr × Nat => i.1 ≤ l.length) (fun i => [(9, .int .i64 (i.1 : Nat)), (3, .slice i.2.1 (l.take i.1).length i.2.2)]) (fun i m => setAt 0 (Row pE 46 2 i.2.1 i.2.2 (l.take i.1)) m) (fun i => l.length - i.1) (0, some ⟨g0, 0, none⟩, 0) (Nat.zero_le _) ⟨rfl, rfl, trivial⟩ (fun _ s => s) ?_
  rintro ⟨k, B, e⟩ hk
  simp only [setAt] at hk ⊢
  have hlk : (l.take k).length = k := by simp; omega
  rcases Nat.lt_or_ge k l.length with hlt | hge
  · have hi1 : decide ((k : Int) < l.length) = true := decide_eq_true (by omega)
    obtain ⟨x, hget⟩ : ∃ x, l[k]? = some x := ⟨_, List.getElem?_eq_getElem hlt⟩
    have hms : l.take (k + 1) = l.take k ++ [x] := by rw [List.take_add_one, hget]; rfl
    refine at_seq_k (fun K4 hK4 => ?_)
    refine at_region ?_
    refine at_v (ov_int rfl rfl rfl rfl) rfl rfl rfl ?_
    refine at_nil ?_
    refine at_normal ?_
    refine hK4 _ _ _ ?_
    refine at_seq_k (fun K5 hK5 => ?_)
    refine at_cond_true (congrArg (fun b => some (Value.bool b)) (show _ = true from decide_eq_true (by omega))) ?_
    refine at_skip ?_
    refine at_normal ?_
    refine hK5 _ _ _ ?_
    refine at_seq_k (fun K6 hK6 => ?_)
    refine at_block ?_
    refine at_seq_k (fun K7 hK7 => ?_)
    refine at_region ?_
    refine at_v (ov_indexRd (fun _ s => hr.up s) rfl Tryd.underlying24 rfl rfl rfl hget) rfl rfl rfl ?_
    refine at_v (ov_loadRdS (vs := [_, _]) (fun _ s => hr.up s) rfl rfl rfl hget rfl rfl) rfl rfl rfl ?_
    refine at_t (ot_allocA rfl Tryd.zeroValue48) rfl rfl rfl ?_
    rintro _ _ ⟨g1, rfl, rfl⟩
    refine at_t0 (ot_store (k := 0) rfl rfl rfl rfl rfl rfl rfl) rfl rfl ?_
    rintro _ _ ⟨rfl, rfl⟩
    simp only [setAt, splice, spliceL, Value.cells]
    refine at_nil ?_
    refine at_normal ?_
    refine hK7 _ _ _ ?_
    refine at_region ?_
    refine at_v (ov_move rfl rfl) rfl rfl rfl ?_
    refine at_v (ov_loadS (cs := [_, _]) rfl rfl rfl rfl (fun _ s => s.lds (k := 0) rfl ⟨rfl, rfl, trivial⟩)) rfl rfl rfl ?_
    refine at_t (ot_buildSlice (cs := [_, _]) rfl Tryd.underlying29 rfl rfl rfl rfl rfl rfl) rfl rfl rfl ?_
    rintro _ _ ⟨g2, rfl, rfl⟩
    refine at_t (ot_append (k := 2) (size := 2) (bytes := 32) (ys := [x]) (fun _ s => s.rdPt (k := 0) rfl rfl (by simp [pE])) rfl Tryd.underlying29 (ti := Tryd.t46) rfl rfl rfl rfl rfl (by decide) rfl rfl rfl (by simp [pE, Value.oneCell']) (by simp; omega) (by decide)) rfl rfl rfl ?_
    rintro _ _ ⟨A0, c0, rfl, rfl⟩
    simp only [setAt]
    refine at_v (ov_assign rfl rfl) rfl rfl rfl ?_
    refine at_nil ?_
    refine at_inb_normal ?_
    refine at_normal ?_
    refine hK6 _ _ _ ?_
    refine at_region ?_
    refine at_v ((ov_int rfl rfl rfl rfl).eq (congrArg (Value.int .i64) (inK_i64 (by omega) (by omega)))) rfl rfl rfl ?_
    refine at_v (ov_move rfl rfl) rfl rfl rfl ?_
    refine at_nil ?_
    refine at_normal ?_
    refine at_roundF (k + 1, A0, c0) hlt (by simp only; omega) ⟨rfl, look_eq rfl (by simp only [hms]), trivial⟩ rfl ?_
    simp only [setAt, hms]
    exact fun _ s => s.finEq (ks := [2]) (js := [0, 0]) rfl rfl rfl
  · have hi1 : decide ((k : Int) < l.length) = false := decide_eq_false (by omega)
    rw [List.take_of_length_le hge]
    refine at_seq_k (fun K4 hK4 => ?_)
    refine at_region ?_
    refine at_v (ov_int rfl rfl rfl rfl) rfl rfl rfl ?_
    refine at_nil ?_
    refine at_normal ?_
    refine hK4 _ _ _ ?_
    refine at_seq_k (fun K5 hK5 => ?_)
    refine at_cond_false (congrArg (fun b => some (Value.bool b)) (show _ = false from decide_eq_false (by omega))) ?_
    refine at_exit ?_
    refine at_then_exit ?_
    refine at_then_exit ?_
    refine at_exit_eq ?_
    refine at_normal ?_
    refine hK2 _ _ _ ?_
    refine at_seq_k (fun K6 hK6 => ?_)
    refine at_region ?_
    refine at_v (ov_move rfl rfl) rfl rfl rfl ?_
    refine at_v (ov_assign rfl rfl) rfl rfl rfl ?_
    refine at_nil ?_
    refine at_normal ?_
    refine hK6 _ _ _ ?_
    refine at_ret ?_
    refine at_end ?_
    refine at_fin (rsV rfl (res_tmp rfl)) ?_
    refine ⟨_, ⟨B, e, rfl, rfl⟩, ?_⟩
    exact fun _ s => s.finEq (ks := [0]) (js := []) rfl rfl rfl
theorem T10a (w0 : World) {A : Option Addr} {c c' : Nat} {l : List PR} (hm : l.length ≤ 4398046511000) : Tri Tryd.prog w0 10 [.slice A l.length c] [Row pE 48 2 A c' l] fun v m => ∃ B e, v = .slice B l.length e ∧ m = [Row pE 46 2 B e l, Row pE 48 2 A c' l] :=
  (Tri.of_all fun w s => T10 w (s.rd (k := 0) rfl) hm).post fun v m ⟨m', ⟨B, e, h1, h2⟩, h3⟩ => ⟨B, e, h1, by rw [h3, h2]; rfl⟩
end Go.Proofs.YtmedbdcjniggcaaDoor
