/- The reference of plans, walked: strs, form, Of. -/
import Derived.Test.YtmedbdcjniggcaaGreatDoorProg
import Derived.Test.YtmedbdcjniggcaaGreatDoorRefPlan2
import Derived.Test.YtmedbdcjniggcaaGreatDoorOfLaw
import Derived.Test.YtmedbdcjniggcaaGreatDoorRefLex2
import Derived.Test.YtmedbdcjniggcaaGreatDoorSLB
import Derived.KernelRfl
set_option linter.unusedSimpArgs false
set_option linter.unusedVariables false
set_option maxRecDepth 100000
set_option maxHeartbeats 4000000
namespace Go.Proofs.YtmedbdcjniggcaaGreatDoor
open Go Go.Proofs.YtmedbdcjniggcaaGreatDoor.SL Go.RowKit
theorem matchF_len : ∀ {l f : List Tok}, matchF l f = true → l.length = f.length
  | [], [], _ => rfl
  | [], _ :: _, h => by simp [matchF] at h
  | _ :: _, [], h => by simp [matchF] at h
  | a :: l, b :: f, h => by
    simp only [matchF, Bool.and_eq_true] at h
    simp [matchF_len h.2]
theorem matchF_drop {l f : List Tok} {k : Nat} {x g : Tok} (h : l[k]? = some x) (h2 : f[k]? = some g) : matchF (l.drop k) (f.drop k) = (matchT x g && matchF (l.drop (k + 1)) (f.drop (k + 1))) := by
  obtain ⟨h1, e1⟩ := List.getElem?_eq_some_iff.1 h
  obtain ⟨h3, e3⟩ := List.getElem?_eq_some_iff.1 h2
  rw [List.drop_eq_getElem_cons h1, e1, List.drop_eq_getElem_cons h3, e3]
  rfl
theorem strs_take {l : List Tok} {k : Nat} {x : Tok} (h : l[k]? = some x) : strsL (l.take (k + 1)) = strsL (l.take k) ++ (if x.1 = 3 then [x.2] else []) := by
  rw [List.take_add_one, h]
  unfold strsL
  simp only [Option.toList_some, List.filter_append, List.map_append, List.filter_cons, List.filter_nil]
  by_cases h3 : x.1 = 3 <;> simp [h3]
theorem strs_le (l : List Tok) : (strsL l).length ≤ l.length := by
  unfold strsL; rw [List.length_map]; exact List.length_filter_le _ _
def mstrs (l f : List Tok) : List BL := if matchF l f = true then strsL l else []
theorem T19 (w0 : World) {A B : Option Addr} {c d : Nat} {l f : List Tok} (hr : Rd tE w0 2 A l) (hr2 : Rd tE w0 2 B f) (hl : l.length ≤ 100000) (hf : f.length ≤ 100000) :
 Tri Tryz.prog w0 19 [.slice A l.length c, .slice B f.length d] [] fun v m => ∃ C e, v = .tuple #[.slice C (mstrs l f).length e, .bool (matchF l f)] ∧ m = [Row bsE 9 1 C e (mstrs l f)] := by
 refine tri_k Tryz.func19 rfl rfl fun F => ?_
 simp only [Tryz.ntmps19, argEnv, List.cons_append, List.nil_append]
 by_cases hlen : l.length = f.length
 rotate_left
 ·have hi1 : (!decide ((l.length : Int) = f.length)) = true := by simp; omega
  have hm : matchF l f = false := by cases h : matchF l f with | false => rfl | true => exact absurd (matchF_len h) hlen
  refine zH fun zq zQ => ?_
  refine zC 8 rfl ?_
  refine zT (ot_buildSlice (cs := []) rfl Tryz.underlying35 rfl rfl rfl rfl rfl rfl) ?_
  rintro _ _ ⟨g0, rfl, rfl⟩
  refine zO 13 rfl ?_
  refine zcT rfl (by first | assumption | (rw [Bool.not_eq_true']; exact decide_eq_false (by omega))) ?_
  refine zC 8 rfl ?_
  refine zQ ?_
  refine at_end ?_
  refine at_rowNil bsE 9 1 ?_
  refine at_fin (rsL (vs := [_, _]) rfl ⟨res_tmp rfl, res_tmp rfl, trivial⟩ rfl) ?_
  refine ⟨_, ⟨none, 0, by unfold mstrs; rw [hm]; rfl, rfl⟩, ?_⟩
  unfold mstrs
  simp only [hm, Bool.false_eq_true, if_false]
  exact zE [0] [0]
 have hi1 : (!decide ((l.length : Int) = f.length)) = false := by simp; omega
 refine zH fun zq zQ => ?_
 refine zC 8 rfl ?_
 refine zT (ot_buildSlice (cs := []) rfl Tryz.underlying35 rfl rfl rfl rfl rfl rfl) ?_
 rintro _ _ ⟨g0, rfl, rfl⟩
 refine zO 13 rfl ?_
 refine zcF rfl (by first | assumption | (rw [Bool.not_eq_false']; exact decide_eq_true (by omega))) ?_
 refine zC 9 rfl ?_
 refine at_rowOf (c := 0) (size := 1) bsE 0 [] rfl (by simp) (by simp) (by decide) (by simp) rfl ?_
 simp only [setAt]
 refine at_loopK [14, 15, 16, 17, 20, 21, 22, 23, 24, 25, 26, 27, 28, 29, 30, 31, 32, 33, 34, 35, 36, 37, 38, 39, 40, 41, 42, 43, 44, 45, 46, 47, 48, 49, 50, 51, 4, 5, 52, 53, 54, 55, 56, 57, 58, 59, 60, 61, 62, 63, 64, 65, 6, 18, 19, 7] (fun i : Nat × Option Addr × Nat => i.1 ≤ l.length ∧ matchF l f = matchF (l.drop i.1) (f.drop i.1)) (fun i => [(7, .int .i64 (i.1 : Nat)), (6, .slice i.2.1 (strsL (l.take i.1)).length i.2.2)]) (fun i m => setAt 0 (Row bsE 9 1 i.2.1 i.2.2 (strsL (l.take i.1))) m) (fun i => l.length - i.1) (0, some ⟨g0, 0, none⟩, 0) ⟨Nat.zero_le _, rfl⟩ ⟨rfl, rfl, trivial⟩ (fun _ s => s) ?_
 rintro ⟨k, C, e⟩ ⟨hk, hm⟩
 simp only [setAt] at hk hm ⊢
 have hsl := strs_le (l.take k)
 rw [List.length_take] at hsl
 rcases Nat.lt_or_ge k l.length with hlt | hge
 ·have hi2 : decide ((k : Int) < l.length) = true := decide_eq_true (by omega)
  obtain ⟨x, hget⟩ : ∃ x, l[k]? = some x := ⟨_, List.getElem?_eq_getElem hlt⟩
  obtain ⟨y, hget2⟩ : ∃ y, f[k]? = some y := ⟨_, List.getElem?_eq_getElem (by omega)⟩
  rw [matchF_drop hget hget2] at hm
  have hst := strs_take hget
  cases hmt : matchT x y with
  | false =>
   rw [hmt, Bool.false_and] at hm
   have hfin : mstrs l f = [] := by unfold mstrs; rw [hm]; rfl
   unfold matchT at hmt
   by_cases hk1 : x.1 = y.1
   ·have hi3 : (!decide (x.1 = y.1)) = false := by simp [hk1]
    by_cases hk3 : x.1 = 3
    ·rw [decide_eq_true hk1, decide_eq_true hk3] at hmt; cases hmt
    ·rw [decide_eq_true hk1, decide_eq_false hk3] at hmt
     have hi4 : (!decide (x.1 = 3)) = true := by simp [hk3]
     have hi5 : (!decide (x.2 = y.2)) = true := by simpa using hmt
     refine zC 9 rfl ?_
     refine zcT rfl (decide_eq_true (by omega)) ?_
     refine zC 6 rfl ?_
     refine at_draw _ [] 1000 [(2, 0), (2, 1), (1, 2), (2, 3), (1, 4), (2, 5), (2, 6), (1, 7), (2, 8), (1, 9), (2, 10), (2, 11), (2, 12), (2, 13), (1, 14), (2, 15), (1, 16), (2, 17), (2, 18), (2, 19), (2, 20), (1, 21), (2, 22), (1, 23), (2, 24), (2, 25), (1, 26), (2, 27), (1, 28), (2, 29), (2, 30), (2, 31)] (by kernel_rfl) (by kernel_rfl) (fun _ s => (s.pulls (ks := []) rfl).left) ?_
     refine aq_p (ov_move rfl rfl) rfl rfl rfl ?_
     refine aq_p (ov_move rfl rfl) rfl rfl rfl ?_
     refine aq_v (ov_indexRd (fun _ s => hr.up s) rfl Tryz.underlying56 rfl rfl rfl hget) rfl rfl rfl ?_
     refine aq_p (ov_fieldRd0 (k := 0) (fun _ s => hr.up s) rfl rfl hget rfl) rfl rfl rfl ?_
     refine aq_v (ov_loadRd0 (fun _ s => hr.up s) rfl rfl rfl hget rfl) rfl rfl rfl ?_
     refine aq_p (ov_move rfl rfl) rfl rfl rfl ?_
     refine aq_p (ov_move rfl rfl) rfl rfl rfl ?_
     refine aq_v (ov_indexRd (fun _ s => hr2.up s) rfl Tryz.underlying56 rfl rfl rfl hget2) rfl rfl rfl ?_
     refine aq_p (ov_fieldRd0 (k := 0) (fun _ s => hr2.up s) rfl rfl hget2 rfl) rfl rfl rfl ?_
     refine aq_v (ov_loadRd0 (fun _ s => hr2.up s) rfl rfl rfl hget2 rfl) rfl rfl rfl ?_
     refine aq_p (ov_int rfl rfl rfl rfl) rfl rfl rfl ?_
     refine aq_p (ov_move rfl rfl) rfl rfl rfl ?_
     refine zrF 31 rfl (by first | assumption | (rw [Bool.not_eq_false']; exact decide_eq_true (by omega))) ?_
     refine aq_wanted (j := 11) rfl ?_
     refine aq_p (ov_move rfl rfl) rfl rfl rfl ?_
     refine aq_wanted (j := 11) rfl ?_
     refine aq_p (ov_move rfl rfl) rfl rfl rfl ?_
     refine aq_wanted (j := 11) rfl ?_
     refine aq_v (ov_indexRd (fun _ s => hr.up s) rfl Tryz.underlying56 rfl rfl rfl hget) rfl rfl rfl ?_
     refine aq_wanted (j := 11) rfl ?_
     refine aq_p (ov_fieldRd0 (k := 0) (fun _ s => hr.up s) rfl rfl hget rfl) rfl rfl rfl ?_
     refine aq_wanted (j := 11) rfl ?_
     refine aq_v (ov_loadRd0 (fun _ s => hr.up s) rfl rfl rfl hget rfl) rfl rfl rfl ?_
     refine aq_wanted (j := 11) rfl ?_
     refine aq_p (ov_int rfl rfl rfl rfl) rfl rfl rfl ?_
     refine aq_wanted (j := 11) rfl ?_
     refine aq_p (ov_move rfl rfl) rfl rfl rfl ?_
     refine zrT 38 rfl (by first | assumption | (rw [Bool.not_eq_true']; exact decide_eq_false (by omega))) ?_
     refine aq_wanted (j := 18) rfl ?_
     refine aq_p (ov_move rfl rfl) rfl rfl rfl ?_
     refine aq_wanted (j := 18) rfl ?_
     refine aq_p (ov_move rfl rfl) rfl rfl rfl ?_
     refine aq_wanted (j := 18) rfl ?_
     refine aq_v (ov_indexRd (fun _ s => hr.up s) rfl Tryz.underlying56 rfl rfl rfl hget) rfl rfl rfl ?_
     refine aq_wanted (j := 18) rfl ?_
     refine aq_p (ov_fieldRd0 (k := 1) (fun _ s => hr.up s) rfl rfl hget rfl) rfl rfl rfl ?_
     refine aq_wanted (j := 18) rfl ?_
     refine aq_v (ov_loadRd (fun _ s => hr.up s) rfl rfl rfl hget rfl) rfl rfl rfl ?_
     refine aq_wanted (j := 18) rfl ?_
     refine aq_p (ov_move rfl rfl) rfl rfl rfl ?_
     refine aq_wanted (j := 18) rfl ?_
     refine aq_p (ov_move rfl rfl) rfl rfl rfl ?_
     refine aq_wanted (j := 18) rfl ?_
     refine aq_v (ov_indexRd (fun _ s => hr2.up s) rfl Tryz.underlying56 rfl rfl rfl hget2) rfl rfl rfl ?_
     refine aq_wanted (j := 18) rfl ?_
     refine aq_p (ov_fieldRd0 (k := 1) (fun _ s => hr2.up s) rfl rfl hget2 rfl) rfl rfl rfl ?_
     refine aq_wanted (j := 18) rfl ?_
     refine aq_v (ov_loadRd (fun _ s => hr2.up s) rfl rfl rfl hget2 rfl) rfl rfl rfl ?_
     refine aq_wanted (j := 18) rfl ?_
     refine aq_p (ov_strL rfl rfl rfl rfl) rfl rfl rfl ?_
     refine aq_wanted (j := 11) rfl ?_
     refine aq_p (ov_pick_t rfl rfl rfl) rfl rfl rfl ?_
     refine aq_p (ov_pick_f rfl rfl rfl) rfl rfl rfl ?_
     refine aq_nil ?_
     refine zX 1 rfl ?_
     refine zcT rfl (by first | assumption | (rw [Bool.not_eq_true']; exact decide_eq_false (by omega))) ?_
     refine zC 13 rfl ?_
     refine zQ ?_
     refine at_end ?_
     refine at_rowNil bsE 9 1 ?_
     refine at_fin (rsL (vs := [_, _]) rfl ⟨res_tmp rfl, res_tmp rfl, trivial⟩ rfl) ?_
     refine ⟨_, ⟨none, 0, by rw [hfin, hm]; rfl, rfl⟩, ?_⟩
     try rw [hfin]
     exact zE [0] [0]
   ·have hi3 : (!decide (x.1 = y.1)) = true := by simp [hk1]
    refine zC 9 rfl ?_
    refine zcT rfl (decide_eq_true (by omega)) ?_
    refine zC 6 rfl ?_
    refine at_draw _ [] 1000 [(2, 0), (2, 1), (1, 2), (2, 3), (1, 4), (2, 5), (2, 6), (1, 7), (2, 8), (1, 9), (2, 10), (2, 11), (2, 12), (2, 13), (1, 14), (2, 15), (1, 16), (2, 17), (2, 18), (2, 19), (2, 20), (1, 21), (2, 22), (1, 23), (2, 24), (2, 25), (1, 26), (2, 27), (1, 28), (2, 29), (2, 30), (2, 31)] (by kernel_rfl) (by kernel_rfl) (fun _ s => (s.pulls (ks := []) rfl).left) ?_
    refine aq_p (ov_move rfl rfl) rfl rfl rfl ?_
    refine aq_p (ov_move rfl rfl) rfl rfl rfl ?_
    refine aq_v (ov_indexRd (fun _ s => hr.up s) rfl Tryz.underlying56 rfl rfl rfl hget) rfl rfl rfl ?_
    refine aq_p (ov_fieldRd0 (k := 0) (fun _ s => hr.up s) rfl rfl hget rfl) rfl rfl rfl ?_
    refine aq_v (ov_loadRd0 (fun _ s => hr.up s) rfl rfl rfl hget rfl) rfl rfl rfl ?_
    refine aq_p (ov_move rfl rfl) rfl rfl rfl ?_
    refine aq_p (ov_move rfl rfl) rfl rfl rfl ?_
    refine aq_v (ov_indexRd (fun _ s => hr2.up s) rfl Tryz.underlying56 rfl rfl rfl hget2) rfl rfl rfl ?_
    refine aq_p (ov_fieldRd0 (k := 0) (fun _ s => hr2.up s) rfl rfl hget2 rfl) rfl rfl rfl ?_
    refine aq_v (ov_loadRd0 (fun _ s => hr2.up s) rfl rfl rfl hget2 rfl) rfl rfl rfl ?_
    refine aq_p (ov_int rfl rfl rfl rfl) rfl rfl rfl ?_
    refine aq_p (ov_move rfl rfl) rfl rfl rfl ?_
    refine zrT 31 rfl (by first | assumption | (rw [Bool.not_eq_true']; exact decide_eq_false (by omega))) ?_
    refine aq_unwanted (j := 11) rfl rfl rfl rfl rfl ?_
    refine aq_unwanted (j := 11) rfl rfl rfl rfl rfl ?_
    refine aq_unwanted (j := 11) rfl rfl rfl rfl rfl ?_
    refine aq_unwanted (j := 11) rfl rfl rfl rfl rfl ?_
    refine aq_unwanted (j := 11) rfl rfl rfl rfl rfl ?_
    refine aq_unwanted (j := 11) rfl rfl rfl rfl rfl ?_
    refine aq_unwanted (j := 11) rfl rfl rfl rfl rfl ?_
    refine aq_unwantedN (j := 18) rfl rfl rfl rfl ?_
    refine aq_unwantedN (j := 18) rfl rfl rfl rfl ?_
    refine aq_unwantedN (j := 18) rfl rfl rfl rfl ?_
    refine aq_unwantedN (j := 18) rfl rfl rfl rfl ?_
    refine aq_unwantedN (j := 18) rfl rfl rfl rfl ?_
    refine aq_unwantedN (j := 18) rfl rfl rfl rfl ?_
    refine aq_unwantedN (j := 18) rfl rfl rfl rfl ?_
    refine aq_unwantedN (j := 18) rfl rfl rfl rfl ?_
    refine aq_unwantedN (j := 18) rfl rfl rfl rfl ?_
    refine aq_unwantedN (j := 18) rfl rfl rfl rfl ?_
    refine aq_unwantedN (j := 18) rfl rfl rfl rfl ?_
    refine aq_unwanted (j := 11) rfl rfl rfl rfl rfl ?_
    refine aq_p (ov_pick_t rfl rfl rfl) rfl rfl rfl ?_
    refine aq_nil ?_
    refine zX 15 rfl ?_
    refine zQ ?_
    refine at_end ?_
    refine at_rowNil bsE 9 1 ?_
    refine at_fin (rsL (vs := [_, _]) rfl ⟨res_tmp rfl, res_tmp rfl, trivial⟩ rfl) ?_
    refine ⟨_, ⟨none, 0, by rw [hfin, hm]; rfl, rfl⟩, ?_⟩
    try rw [hfin]
    exact zE [0] [0]
  | true =>
   rw [hmt, Bool.true_and] at hm
   unfold matchT at hmt
   simp only [Bool.and_eq_true, Bool.or_eq_true, decide_eq_true_eq] at hmt
   have hi3 : (!decide (x.1 = y.1)) = false := by simp [hmt.1]
   by_cases hk3 : x.1 = 3
   ·have hi4 : (!decide (x.1 = 3)) = false := by simp [hk3]
    have hi6 : decide (x.1 = 3) = true := by simp [hk3]
    rw [if_pos hk3] at hst
    refine zC 9 rfl ?_
    refine zcT rfl (decide_eq_true (by omega)) ?_
    refine zC 6 rfl ?_
    refine at_draw _ [] 1000 [(2, 0), (2, 1), (1, 2), (2, 3), (1, 4), (2, 5), (2, 6), (1, 7), (2, 8), (1, 9), (2, 10), (2, 11), (2, 12), (2, 13), (1, 14), (2, 15), (1, 16), (2, 17), (2, 18), (2, 19), (2, 20), (1, 21), (2, 22), (1, 23), (2, 24), (2, 25), (1, 26), (2, 27), (1, 28), (2, 29), (2, 30), (2, 31)] (by kernel_rfl) (by kernel_rfl) (fun _ s => (s.pulls (ks := []) rfl).left) ?_
    refine aq_p (ov_move rfl rfl) rfl rfl rfl ?_
    refine aq_p (ov_move rfl rfl) rfl rfl rfl ?_
    refine aq_v (ov_indexRd (fun _ s => hr.up s) rfl Tryz.underlying56 rfl rfl rfl hget) rfl rfl rfl ?_
    refine aq_p (ov_fieldRd0 (k := 0) (fun _ s => hr.up s) rfl rfl hget rfl) rfl rfl rfl ?_
    refine aq_v (ov_loadRd0 (fun _ s => hr.up s) rfl rfl rfl hget rfl) rfl rfl rfl ?_
    refine aq_p (ov_move rfl rfl) rfl rfl rfl ?_
    refine aq_p (ov_move rfl rfl) rfl rfl rfl ?_
    refine aq_v (ov_indexRd (fun _ s => hr2.up s) rfl Tryz.underlying56 rfl rfl rfl hget2) rfl rfl rfl ?_
    refine aq_p (ov_fieldRd0 (k := 0) (fun _ s => hr2.up s) rfl rfl hget2 rfl) rfl rfl rfl ?_
    refine aq_v (ov_loadRd0 (fun _ s => hr2.up s) rfl rfl rfl hget2 rfl) rfl rfl rfl ?_
    refine aq_p (ov_int rfl rfl rfl rfl) rfl rfl rfl ?_
    refine aq_p (ov_move rfl rfl) rfl rfl rfl ?_
    refine zrF 31 rfl (by first | assumption | (rw [Bool.not_eq_false']; exact decide_eq_true (by omega))) ?_
    refine aq_wanted (j := 11) rfl ?_
    refine aq_p (ov_move rfl rfl) rfl rfl rfl ?_
    refine aq_wanted (j := 11) rfl ?_
    refine aq_p (ov_move rfl rfl) rfl rfl rfl ?_
    refine aq_wanted (j := 11) rfl ?_
    refine aq_v (ov_indexRd (fun _ s => hr.up s) rfl Tryz.underlying56 rfl rfl rfl hget) rfl rfl rfl ?_
    refine aq_wanted (j := 11) rfl ?_
    refine aq_p (ov_fieldRd0 (k := 0) (fun _ s => hr.up s) rfl rfl hget rfl) rfl rfl rfl ?_
    refine aq_wanted (j := 11) rfl ?_
    refine aq_v (ov_loadRd0 (fun _ s => hr.up s) rfl rfl rfl hget rfl) rfl rfl rfl ?_
    refine aq_wanted (j := 11) rfl ?_
    refine aq_p (ov_int rfl rfl rfl rfl) rfl rfl rfl ?_
    refine aq_wanted (j := 11) rfl ?_
    refine aq_p (ov_move rfl rfl) rfl rfl rfl ?_
    refine zrF 38 rfl (by first | assumption | (rw [Bool.not_eq_false']; exact decide_eq_true (by omega))) ?_
    refine aq_unwanted (j := 18) rfl rfl rfl rfl rfl ?_
    refine aq_unwanted (j := 18) rfl rfl rfl rfl rfl ?_
    refine aq_unwanted (j := 18) rfl rfl rfl rfl rfl ?_
    refine aq_unwanted (j := 18) rfl rfl rfl rfl rfl ?_
    refine aq_unwanted (j := 18) rfl rfl rfl rfl rfl ?_
    refine aq_unwanted (j := 18) rfl rfl rfl rfl rfl ?_
    refine aq_unwanted (j := 18) rfl rfl rfl rfl rfl ?_
    refine aq_unwanted (j := 18) rfl rfl rfl rfl rfl ?_
    refine aq_unwanted (j := 18) rfl rfl rfl rfl rfl ?_
    refine aq_unwanted (j := 18) rfl rfl rfl rfl rfl ?_
    refine aq_unwanted (j := 18) rfl rfl rfl rfl rfl ?_
    refine aq_wanted (j := 11) rfl ?_
    refine aq_p (ov_pick_f rfl rfl rfl) rfl rfl rfl ?_
    refine aq_p (ov_pick_f rfl rfl rfl) rfl rfl rfl ?_
    refine aq_nil ?_
    refine zX 8 rfl ?_
    refine zV (ov_indexRd (fun _ s => hr.up s) rfl Tryz.underlying56 rfl rfl rfl hget) ?_
    refine zV (ov_fieldRd0 (k := 0) (fun _ s => hr.up s) rfl rfl hget rfl) ?_
    refine zV (ov_loadRd0 (fun _ s => hr.up s) rfl rfl rfl hget rfl) ?_
    refine zO 3 rfl ?_
    refine zcT rfl (decide_eq_true (by omega)) ?_
    refine zC 4 rfl ?_
    refine zV (ov_indexRd (fun _ s => hr.up s) rfl Tryz.underlying56 rfl rfl rfl hget) ?_
    refine zV (ov_fieldRd0 (k := 1) (fun _ s => hr.up s) rfl rfl hget rfl) ?_
    refine zV (ov_loadRd (fun _ s => hr.up s) rfl rfl rfl hget rfl) ?_
    refine zT (ot_buildSlice (cs := [_]) rfl Tryz.underlying35 rfl rfl rfl rfl rfl rfl) ?_
    rintro _ _ ⟨g1, rfl, rfl⟩
    refine zT (ot_append (k := 1) (size := 1) (bytes := 16) (ys := [x.2]) (fun _ s => s.rdPt (k := 0) rfl rfl (by simp [bsE])) rfl Tryz.underlying35 (ti := Tryz.t9) rfl rfl rfl rfl rfl (by decide) rfl rfl rfl (by simp [bsE, Value.oneCell']) (by simp; omega) (by decide)) ?_
    rintro _ _ ⟨A0, c0, rfl, rfl⟩
    simp only [setAt]
    refine zO 6 rfl ?_
    refine zV zI ?_
    refine zOR 3 rfl ?_
    refine at_roundF (k + 1, A0, c0) ⟨hlt, hm⟩ (by simp only; omega) ⟨rfl, look_eq rfl (by simp only [hst]), trivial⟩ rfl ?_
    simp only [setAt, hst]
    exact zE [1] [0]
   ·have hi4 : (!decide (x.1 = 3)) = true := by simp [hk3]
    have hi5 : (!decide (x.2 = y.2)) = false := by simp [hmt.2.resolve_left hk3]
    have hi6 : decide (x.1 = 3) = false := by simp [hk3]
    rw [if_neg hk3, List.append_nil] at hst
    refine zC 9 rfl ?_
    refine zcT rfl (decide_eq_true (by omega)) ?_
    refine zC 6 rfl ?_
    refine at_draw _ [] 1000 [(2, 0), (2, 1), (1, 2), (2, 3), (1, 4), (2, 5), (2, 6), (1, 7), (2, 8), (1, 9), (2, 10), (2, 11), (2, 12), (2, 13), (1, 14), (2, 15), (1, 16), (2, 17), (2, 18), (2, 19), (2, 20), (1, 21), (2, 22), (1, 23), (2, 24), (2, 25), (1, 26), (2, 27), (1, 28), (2, 29), (2, 30), (2, 31)] (by kernel_rfl) (by kernel_rfl) (fun _ s => (s.pulls (ks := []) rfl).left) ?_
    refine aq_p (ov_move rfl rfl) rfl rfl rfl ?_
    refine aq_p (ov_move rfl rfl) rfl rfl rfl ?_
    refine aq_v (ov_indexRd (fun _ s => hr.up s) rfl Tryz.underlying56 rfl rfl rfl hget) rfl rfl rfl ?_
    refine aq_p (ov_fieldRd0 (k := 0) (fun _ s => hr.up s) rfl rfl hget rfl) rfl rfl rfl ?_
    refine aq_v (ov_loadRd0 (fun _ s => hr.up s) rfl rfl rfl hget rfl) rfl rfl rfl ?_
    refine aq_p (ov_move rfl rfl) rfl rfl rfl ?_
    refine aq_p (ov_move rfl rfl) rfl rfl rfl ?_
    refine aq_v (ov_indexRd (fun _ s => hr2.up s) rfl Tryz.underlying56 rfl rfl rfl hget2) rfl rfl rfl ?_
    refine aq_p (ov_fieldRd0 (k := 0) (fun _ s => hr2.up s) rfl rfl hget2 rfl) rfl rfl rfl ?_
    refine aq_v (ov_loadRd0 (fun _ s => hr2.up s) rfl rfl rfl hget2 rfl) rfl rfl rfl ?_
    refine aq_p (ov_int rfl rfl rfl rfl) rfl rfl rfl ?_
    refine aq_p (ov_move rfl rfl) rfl rfl rfl ?_
    refine zrF 31 rfl (by first | assumption | (rw [Bool.not_eq_false']; exact decide_eq_true (by omega))) ?_
    refine aq_wanted (j := 11) rfl ?_
    refine aq_p (ov_move rfl rfl) rfl rfl rfl ?_
    refine aq_wanted (j := 11) rfl ?_
    refine aq_p (ov_move rfl rfl) rfl rfl rfl ?_
    refine aq_wanted (j := 11) rfl ?_
    refine aq_v (ov_indexRd (fun _ s => hr.up s) rfl Tryz.underlying56 rfl rfl rfl hget) rfl rfl rfl ?_
    refine aq_wanted (j := 11) rfl ?_
    refine aq_p (ov_fieldRd0 (k := 0) (fun _ s => hr.up s) rfl rfl hget rfl) rfl rfl rfl ?_
    refine aq_wanted (j := 11) rfl ?_
    refine aq_v (ov_loadRd0 (fun _ s => hr.up s) rfl rfl rfl hget rfl) rfl rfl rfl ?_
    refine aq_wanted (j := 11) rfl ?_
    refine aq_p (ov_int rfl rfl rfl rfl) rfl rfl rfl ?_
    refine aq_wanted (j := 11) rfl ?_
    refine aq_p (ov_move rfl rfl) rfl rfl rfl ?_
    refine zrT 38 rfl (by first | assumption | (rw [Bool.not_eq_true']; exact decide_eq_false (by omega))) ?_
    refine aq_wanted (j := 18) rfl ?_
    refine aq_p (ov_move rfl rfl) rfl rfl rfl ?_
    refine aq_wanted (j := 18) rfl ?_
    refine aq_p (ov_move rfl rfl) rfl rfl rfl ?_
    refine aq_wanted (j := 18) rfl ?_
    refine aq_v (ov_indexRd (fun _ s => hr.up s) rfl Tryz.underlying56 rfl rfl rfl hget) rfl rfl rfl ?_
    refine aq_wanted (j := 18) rfl ?_
    refine aq_p (ov_fieldRd0 (k := 1) (fun _ s => hr.up s) rfl rfl hget rfl) rfl rfl rfl ?_
    refine aq_wanted (j := 18) rfl ?_
    refine aq_v (ov_loadRd (fun _ s => hr.up s) rfl rfl rfl hget rfl) rfl rfl rfl ?_
    refine aq_wanted (j := 18) rfl ?_
    refine aq_p (ov_move rfl rfl) rfl rfl rfl ?_
    refine aq_wanted (j := 18) rfl ?_
    refine aq_p (ov_move rfl rfl) rfl rfl rfl ?_
    refine aq_wanted (j := 18) rfl ?_
    refine aq_v (ov_indexRd (fun _ s => hr2.up s) rfl Tryz.underlying56 rfl rfl rfl hget2) rfl rfl rfl ?_
    refine aq_wanted (j := 18) rfl ?_
    refine aq_p (ov_fieldRd0 (k := 1) (fun _ s => hr2.up s) rfl rfl hget2 rfl) rfl rfl rfl ?_
    refine aq_wanted (j := 18) rfl ?_
    refine aq_v (ov_loadRd (fun _ s => hr2.up s) rfl rfl rfl hget2 rfl) rfl rfl rfl ?_
    refine aq_wanted (j := 18) rfl ?_
    refine aq_p (ov_strL rfl rfl rfl rfl) rfl rfl rfl ?_
    refine aq_wanted (j := 11) rfl ?_
    refine aq_p (ov_pick_t rfl rfl rfl) rfl rfl rfl ?_
    refine aq_p (ov_pick_f rfl rfl rfl) rfl rfl rfl ?_
    refine aq_nil ?_
    refine zX 1 rfl ?_
    refine zcF rfl (by first | assumption | (rw [Bool.not_eq_false']; exact decide_eq_true (by omega))) ?_
    refine zC 6 rfl ?_
    refine zV (ov_indexRd (fun _ s => hr.up s) rfl Tryz.underlying56 rfl rfl rfl hget) ?_
    refine zV (ov_fieldRd0 (k := 0) (fun _ s => hr.up s) rfl rfl hget rfl) ?_
    refine zV (ov_loadRd0 (fun _ s => hr.up s) rfl rfl rfl hget rfl) ?_
    refine zO 3 rfl ?_
    refine zcF rfl (decide_eq_false (by omega)) ?_
    refine zC 5 rfl ?_
    refine zV zI ?_
    refine zOR 3 rfl ?_
    refine at_roundF (k + 1, C, e) ⟨hlt, hm⟩ (by simp only; omega) ⟨rfl, look_eq rfl (by simp only [hst]), trivial⟩ rfl ?_
    simp only [setAt, hst]
    exact zE [0] []
 ·have hi2 : decide ((k : Int) < l.length) = false := decide_eq_false (by omega)
  rw [List.drop_of_length_le hge, List.drop_of_length_le (by omega)] at hm
  have hm2 : matchF l f = true := hm
  have hfin : mstrs l f = strsL l := by unfold mstrs; rw [hm2]; rfl
  rw [List.take_of_length_le hge] at hsl ⊢
  refine zC 9 rfl ?_
  refine zcF rfl (decide_eq_false (by omega)) ?_
  refine zC 13 rfl ?_
  refine zQ ?_
  refine at_end ?_
  refine at_fin (rsL (vs := [_, _]) rfl ⟨res_tmp rfl, res_tmp rfl, trivial⟩ rfl) ?_
  refine ⟨_, ⟨C, e, by rw [hfin, hm2], rfl⟩, ?_⟩
  try rw [hfin]
  exact zE [0] []
theorem T19a (w0 : World) {A B : Option Addr} {c d c' d' : Nat} {l f : List Tok} (hl : l.length ≤ 100000) (hf : f.length ≤ 100000) :
    Tri Tryz.prog w0 19 [.slice A l.length c, .slice B f.length d] [Row tE 59 2 A c' l, Row tE 59 2 B d' f] fun v m => ∃ C e, v = .tuple #[.slice C (mstrs l f).length e, .bool (matchF l f)] ∧ m = [Row bsE 9 1 C e (mstrs l f), Row tE 59 2 A c' l, Row tE 59 2 B d' f] :=
  (Tri.of_all fun w s => T19 w (s.rd (k := 0) rfl) (s.rd (k := 1) rfl) hl hf).post fun v m ⟨m', ⟨C, e, h1, h2⟩, h3⟩ => ⟨C, e, h1, by rw [h3, h2]; rfl⟩
theorem T20 (w0 : World) (s : BL) (hs : s.length ≤ 10000) : Tri Tryz.prog w0 20 [SV s] [] fun v m => ∃ A c, v = .slice A (lexR s).1.length c ∧ m = [Row tE 59 2 A c (lexR s).1] := by
 refine tri_k Tryz.func20 rfl rfl fun F => ?_
 simp only [Tryz.ntmps20, argEnv, List.nil_append]
 have hL := T18 w0 s (by omega)
 refine zH fun zq zQ => ?_
 refine zC 8 rfl ?_
 refine zT (ot_call (ks := []) rfl rfl rfl Tryz.call18 rfl (hL ) rfl) ?_
 rintro v0 _ ⟨m0, hp0, rfl⟩
 obtain ⟨A0, hp0⟩ := hp0
 obtain ⟨c0, hp0⟩ := hp0
 obtain ⟨rfl, rfl⟩ := hp0
 simp only [zca, zna, splice, spliceL]
 refine zO 14 rfl ?_
 refine zQ ?_
 refine at_end ?_
 refine at_fin (rsV rfl (res_tmp rfl)) ?_
 refine ⟨_, ⟨_, _, rfl, rfl⟩, ?_⟩
 exact zE [0] []
theorem T6 (w0 : World) (s : BL) (hs : s.length ≤ 10000) : Tri Tryz.prog w0 6 [SV s] [] fun v m => v = planV (planL s) ∧ m = [] := by
 refine tri_k Tryz.func6 rfl rfl fun F => ?_
 simp only [Tryz.ntmps6, argEnv, List.nil_append]
 have hL := T18 w0 s (by omega)
 have hn := lexR_len s
 have hok := lexR_ok s
 have hpl : planL s = if (lexR s).2 = 0 then ofL (lexR s).1 else (0, [], []) := rfl
 rw [hpl]
 clear hpl
 generalize (lexR s).1 = l at hL hn hok ⊢
 generalize (lexR s).2 = er at hL ⊢
 by_cases he : er = 0
 rotate_left
 ·have hi0 : (!decide (er = 0)) = true := by simp [he]
  rw [if_neg he]
  refine zH fun zq zQ => ?_
  refine zC 2 rfl ?_
  refine zA Tryz.zeroValue26 fun g0 => ?_
  refine zO 5 rfl ?_
  refine zT (ot_call (ks := []) rfl rfl rfl Tryz.call18 rfl (hL ) rfl) ?_
  rintro v0 _ ⟨m0, hp0, rfl⟩
  obtain ⟨A0, hp0⟩ := hp0
  obtain ⟨c0, hp0⟩ := hp0
  obtain ⟨rfl, rfl⟩ := hp0
  simp only [zca, zna, splice, spliceL]
  refine zO 14 rfl ?_
  refine zcT rfl (by first | assumption | (rw [Bool.not_eq_true']; exact decide_eq_false (by omega))) ?_
  refine zC 2 rfl ?_
  refine zV (ov_build (cs := [_, _, _]) rfl rfl rfl rfl) ?_
  refine zS 1 ?_
  simp only [setAt, splice, spliceL, Value.cells]
  refine zO 4 rfl ?_
  refine zQ ?_
  refine at_end ?_
  refine at_fin (rsV rfl (res_cellS (k := 1) (vs := [_, _, _]) rfl rfl rfl rfl ⟨rfl, rfl, rfl, trivial⟩)) ?_
  refine ⟨_, ⟨rfl, rfl⟩, ?_⟩
  exact zE [] [0, 0]
 rw [if_pos he, of_ref hok]
 have hi0 : (!decide (er = 0)) = false := by simp [he]
 refine zH fun zq zQ => ?_
 refine zC 2 rfl ?_
 refine zA Tryz.zeroValue26 fun g0 => ?_
 refine zO 5 rfl ?_
 refine zT (ot_call (ks := []) rfl rfl rfl Tryz.call18 rfl (hL ) rfl) ?_
 rintro v0 _ ⟨m0, hp0, rfl⟩
 obtain ⟨A0, hp0⟩ := hp0
 obtain ⟨c0, hp0⟩ := hp0
 obtain ⟨rfl, rfl⟩ := hp0
 simp only [zca, zna, splice, spliceL]
 refine zO 14 rfl ?_
 refine zcF rfl (by first | assumption | (rw [Bool.not_eq_false']; exact decide_eq_true (by omega))) ?_
 refine zC 4 rfl ?_
 refine zT (ot_buildSlice (cs := []) rfl Tryz.underlying56 rfl rfl rfl rfl rfl rfl) ?_
 rintro _ _ ⟨g1, rfl, rfl⟩
 refine zO 10 rfl ?_
 refine at_rowOf (c := 0) (size := 2) tE 0 [] rfl (by simp) (by simp) (by decide) (by simp) rfl ?_
 simp only [setAt]
  
 refine at_loopK [18, 19, 20, 21, 24, 25, 26, 27, 28, 29, 30, 31, 32, 33, 34, 35, 36, 5, 22, 23, 6] (fun i : Nat × Option Addr × Nat => i.1 ≤ l.length) (fun i => [(6, .int .i64 (i.1 : Nat)), (5, .slice i.2.1 (noHints (l.take i.1)).length i.2.2)]) (fun i m => setAt 0 (Row tE 59 2 i.2.1 i.2.2 (noHints (l.take i.1))) m) (fun i => l.length - i.1) (0, some ⟨g1, 0, none⟩, 0) (Nat.zero_le _) ⟨rfl, rfl, trivial⟩ (fun _ s => s) ?_
 rintro ⟨k, B, d⟩ hk
 simp only [setAt] at hk ⊢
 have hnl := noHints_le (l.take k)
 have htk : (l.take k).length ≤ k := by simp; omega
 rcases Nat.lt_or_ge k l.length with hlt | hge
 ·have hi1 : decide ((k : Int) < l.length) = true := decide_eq_true (by omega)
  obtain ⟨x, hget⟩ : ∃ x, l[k]? = some x := ⟨_, List.getElem?_eq_getElem hlt⟩
  have hms := noHints_succ hget
  by_cases h5 : x.1 = 5
  ·have hi2 : (!decide (x.1 = 5)) = false := by simp [h5]
   rw [if_pos h5, List.append_nil] at hms
   refine zC 9 rfl ?_
   refine zcT rfl (decide_eq_true (by omega)) ?_
   refine zC 8 rfl ?_
   refine zV (ov_indexRd (fun _ s => s.rd (k := 1) rfl) rfl Tryz.underlying56 rfl rfl rfl hget) ?_
   refine zV (ov_fieldRd0 (k := 0) (fun _ s => s.rd (k := 1) rfl) rfl rfl hget rfl) ?_
   refine zV (ov_loadRd0 (fun _ s => s.rd (k := 1) rfl) rfl rfl rfl hget rfl) ?_
   refine zO 3 rfl ?_
   refine zcF rfl (by first | assumption | (rw [Bool.not_eq_false']; exact decide_eq_true (by omega))) ?_
   refine zC 5 rfl ?_
   refine zV zI ?_
   refine zOR 3 rfl ?_
   refine at_roundF (k + 1, B, d) hlt (by simp only; omega) ⟨rfl, look_eq rfl (by simp only [hms]), trivial⟩ rfl ?_
   simp only [setAt, hms]
   exact zE [0, 0, 0] []
  ·have hi2 : (!decide (x.1 = 5)) = true := by simp [h5]
   rw [if_neg h5] at hms
   refine zC 9 rfl ?_
   refine zcT rfl (decide_eq_true (by omega)) ?_
   refine zC 8 rfl ?_
   refine zV (ov_indexRd (fun _ s => s.rd (k := 1) rfl) rfl Tryz.underlying56 rfl rfl rfl hget) ?_
   refine zV (ov_fieldRd0 (k := 0) (fun _ s => s.rd (k := 1) rfl) rfl rfl hget rfl) ?_
   refine zV (ov_loadRd0 (fun _ s => s.rd (k := 1) rfl) rfl rfl rfl hget rfl) ?_
   refine zO 3 rfl ?_
   refine zcT rfl (by first | assumption | (rw [Bool.not_eq_true']; exact decide_eq_false (by omega))) ?_
   refine zC 4 rfl ?_
   refine zV (ov_indexRd (fun _ s => s.rd (k := 1) rfl) rfl Tryz.underlying56 rfl rfl rfl hget) ?_
   refine zV (ov_loadRdS (vs := [_, _]) (fun _ s => s.rd (k := 1) rfl) rfl rfl rfl hget rfl rfl) ?_
   refine zT (ot_buildSlice (cs := [_, _]) rfl Tryz.underlying56 rfl rfl rfl rfl rfl rfl) ?_
   rintro _ _ ⟨g2, rfl, rfl⟩
   refine zT (ot_append (k := 1) (size := 2) (bytes := 24) (ys := [x]) (fun _ s => s.rdPt (k := 0) rfl rfl (by simp [tE])) rfl Tryz.underlying56 (ti := Tryz.t59) rfl rfl rfl rfl rfl (by decide) rfl rfl rfl (by simp [tE, Value.oneCell']) (by simp; omega) (by decide)) ?_
   rintro _ _ ⟨A1, c1, rfl, rfl⟩
   simp only [setAt]
   refine zO 6 rfl ?_
   refine zV zI ?_
   refine zOR 3 rfl ?_
   refine at_roundF (k + 1, A1, c1) hlt (by simp only; omega) ⟨rfl, look_eq rfl (by simp only [hms]), trivial⟩ rfl ?_
   simp only [setAt, hms]
   exact zE [1, 1, 1] [0]
 have hi1 : decide ((k : Int) < l.length) = false := decide_eq_false (by omega)
 rw [List.take_of_length_le hge] at hnl ⊢
 have hin : ∀ t ∈ noHints l, t ∈ l := fun t h => (List.mem_filter.1 h).1
 obtain ⟨m, hmd⟩ : ∃ m, noHints l = m := ⟨_, rfl⟩
 rw [hmd] at hnl hin ⊢
 refine zC 9 rfl ?_
 refine zcF rfl (decide_eq_false (by omega)) ?_
 refine zC 7 rfl ?_
 refine at_loopK [37, 38, 39, 40, 41, 42, 43, 44, 45, 46, 47, 48, 49, 50, 51, 52, 53, 54, 55, 56, 57, 58, 59, 60, 61, 62, 63, 64, 5] (fun i : List Tok => i.length ≤ 200 ∧ (∀ t ∈ i, t ∈ l) ∧ trimE m = trimE i) (fun i => [(5, .slice B i.length d)]) (fun i q => setAt 0 (Row tE 59 2 B d i) q) (fun i => i.length) m ⟨by omega, hin, rfl⟩ ⟨rfl, trivial⟩ (fun _ s => s) ?_
 rintro i ⟨hil, him, hie⟩
 simp only [setAt] at hil him hie ⊢
 rcases List.eq_nil_or_concat i with h0 | ⟨i', x, rfl⟩
 ·have hi3 : decide ((i.length : Int) > 0) = false := by rw [h0]; decide
  have hfin : trimE m = i := by rw [hie, h0]; rfl
  clear hie h0
  obtain ⟨I, rfl⟩ : ∃ I, I = i := ⟨_, rfl⟩
  have hF1 := T20 w0 src1 (by decide)
  rw [src1_lex] at hF1
  simp only at hF1
  have hS1 {A B : Option Addr} {c d c' d' : Nat} := T19a w0 (A := A) (B := B) (c := c) (d := d) (c' := c') (d' := d') (l := I) (f := toks1) (by omega) (by decide)
  have hF2 := T20 w0 src2 (by decide)
  rw [src2_lex] at hF2
  simp only at hF2
  have hS2 {A B : Option Addr} {c d c' d' : Nat} := T19a w0 (A := A) (B := B) (c := c) (d := d) (c' := c') (d' := d') (l := I) (f := toks2) (by omega) (by decide)
  have hF3 := T20 w0 src3 (by decide)
  rw [src3_lex] at hF3
  simp only at hF3
  have hS3 {A B : Option Addr} {c d c' d' : Nat} := T19a w0 (A := A) (B := B) (c := c) (d := d) (c' := c') (d' := d') (l := I) (f := toks3) (by omega) (by decide)
  have hF4 := T20 w0 src4 (by decide)
  rw [src4_lex] at hF4
  simp only at hF4
  have hS4 {A B : Option Addr} {c d c' d' : Nat} := T19a w0 (A := A) (B := B) (c := c) (d := d) (c' := c') (d' := d') (l := I) (f := toks4) (by omega) (by decide)
  have hF5 := T20 w0 src5 (by decide)
  rw [src5_lex] at hF5
  simp only at hF5
  have hS5 {A B : Option Addr} {c d c' d' : Nat} := T19a w0 (A := A) (B := B) (c := c) (d := d) (c' := c') (d' := d') (l := I) (f := toks5) (by omega) (by decide)
  cases hm1 : matchF I toks1 with
  | true =>
   have hms : mstrs I toks1 = strsL I := by unfold mstrs; rw [hm1]; rfl
   rw [hms, hm1] at hS1
   have hsl : (strsL I).length = 1 := by rw [match_strs hm1]; decide
   obtain ⟨a0, hget0⟩ : ∃ a, (strsL I)[0]? = some a := ⟨_, List.getElem?_eq_getElem (by omega)⟩
   have hre : refOf I = (1, a0, []) := by unfold refOf; simp [hm1, hget0]
   refine zC 7 rfl ?_
   refine zrF 40 rfl (by first | assumption | (rw [Bool.not_eq_false']; exact decide_eq_true (by omega))) ?_
   refine zO 30 rfl ?_
   refine zT (ot_call (ks := []) rfl rfl rfl Tryz.call20 rfl (hF1 ) rfl) ?_
   rintro v0 _ ⟨m0, hp0, rfl⟩
   obtain ⟨A1, hp0⟩ := hp0
   obtain ⟨c1, hp0⟩ := hp0
   obtain ⟨rfl, rfl⟩ := hp0
   simp only [zca, zna, splice, spliceL]
   refine zT (ot_call (ks := [1, 0]) rfl rfl rfl Tryz.call19 rfl (hS1 ) rfl) ?_
   rintro v0 _ ⟨m0, hp0, rfl⟩
   obtain ⟨C0, hp0⟩ := hp0
   obtain ⟨e0, hp0⟩ := hp0
   obtain ⟨rfl, rfl⟩ := hp0
   simp only [zca, zna, splice, spliceL]
   refine zO 17 rfl ?_
   refine zV (ov_indexRd (fun _ s => s.rd (k := 0) rfl) rfl Tryz.underlying35 rfl rfl rfl hget0) ?_
   refine zV (ov_loadRd0 (fun _ s => s.rd (k := 0) rfl) rfl rfl rfl hget0 rfl) ?_
   refine zV (ov_build (cs := [_, _, _]) rfl rfl rfl rfl) ?_
   refine zS 4 ?_
   simp only [setAt, splice, spliceL, Value.cells]
   refine zO 4 rfl ?_
   refine zQ ?_
   refine at_end ?_
   refine at_fin (rsV rfl (res_cellS (k := 4) (vs := [_, _, _]) rfl rfl rfl rfl ⟨rfl, rfl, rfl, trivial⟩)) ?_
   refine ⟨_, ⟨by rw [hmd, hfin, hre]; rfl, rfl⟩, ?_⟩
   exact zE [] [0, 0, 0, 0, 0]
  | false =>
  have hms1 : mstrs I toks1 = [] := by unfold mstrs; rw [hm1]; rfl
  rw [hms1, hm1] at hS1
  cases hm2 : matchF I toks2 with
  | true =>
   have hms : mstrs I toks2 = strsL I := by unfold mstrs; rw [hm2]; rfl
   rw [hms, hm2] at hS2
   have hsl : (strsL I).length = 0 := by rw [match_strs hm2]; decide
   have hre : refOf I = (2, [], []) := by unfold refOf; simp [hm2, hm1]
   refine zC 7 rfl ?_
   refine zrF 40 rfl (by first | assumption | (rw [Bool.not_eq_false']; exact decide_eq_true (by omega))) ?_
   refine zO 30 rfl ?_
   refine zT (ot_call (ks := []) rfl rfl rfl Tryz.call20 rfl (hF1 ) rfl) ?_
   rintro v0 _ ⟨m0, hp0, rfl⟩
   obtain ⟨A1, hp0⟩ := hp0
   obtain ⟨c1, hp0⟩ := hp0
   obtain ⟨rfl, rfl⟩ := hp0
   simp only [zca, zna, splice, spliceL]
   refine zT (ot_call (ks := [1, 0]) rfl rfl rfl Tryz.call19 rfl (hS1 ) rfl) ?_
   rintro v0 _ ⟨m0, hp0, rfl⟩
   obtain ⟨C0, hp0⟩ := hp0
   obtain ⟨e0, hp0⟩ := hp0
   obtain ⟨rfl, rfl⟩ := hp0
   simp only [zca, zna, splice, spliceL]
   refine zO 19 rfl ?_
   refine zT (ot_call (ks := []) rfl rfl rfl Tryz.call20 rfl (hF2 ) rfl) ?_
   rintro v0 _ ⟨m0, hp0, rfl⟩
   obtain ⟨A2, hp0⟩ := hp0
   obtain ⟨c2, hp0⟩ := hp0
   obtain ⟨rfl, rfl⟩ := hp0
   simp only [zca, zna, splice, spliceL]
   refine zT (ot_call (ks := [2, 0]) rfl rfl rfl Tryz.call19 rfl (hS2 ) rfl) ?_
   rintro v0 _ ⟨m0, hp0, rfl⟩
   obtain ⟨C1, hp0⟩ := hp0
   obtain ⟨e1, hp0⟩ := hp0
   obtain ⟨rfl, rfl⟩ := hp0
   simp only [zca, zna, splice, spliceL]
   refine zO 16 rfl ?_
   refine zV (ov_build (cs := [_, _, _]) rfl rfl rfl rfl) ?_
   refine zS 6 ?_
   simp only [setAt, splice, spliceL, Value.cells]
   refine zO 4 rfl ?_
   refine zQ ?_
   refine at_end ?_
   refine at_fin (rsV rfl (res_cellS (k := 6) (vs := [_, _, _]) rfl rfl rfl rfl ⟨rfl, rfl, rfl, trivial⟩)) ?_
   refine ⟨_, ⟨by rw [hmd, hfin, hre]; rfl, rfl⟩, ?_⟩
   exact zE [] [0, 0, 0, 0, 0, 0, 0]
  | false =>
  have hms2 : mstrs I toks2 = [] := by unfold mstrs; rw [hm2]; rfl
  rw [hms2, hm2] at hS2
  cases hm3 : matchF I toks3 with
  | true =>
   have hms : mstrs I toks3 = strsL I := by unfold mstrs; rw [hm3]; rfl
   rw [hms, hm3] at hS3
   have hsl : (strsL I).length = 2 := by rw [match_strs hm3]; decide
   obtain ⟨a0, hget0⟩ : ∃ a, (strsL I)[0]? = some a := ⟨_, List.getElem?_eq_getElem (by omega)⟩
   obtain ⟨a1, hget1⟩ : ∃ a, (strsL I)[1]? = some a := ⟨_, List.getElem?_eq_getElem (by omega)⟩
   have hre : refOf I = (3, a0, a1) := by unfold refOf; simp [hm3, hm1, hm2, hget0, hget1]
   refine zC 7 rfl ?_
   refine zrF 40 rfl (by first | assumption | (rw [Bool.not_eq_false']; exact decide_eq_true (by omega))) ?_
   refine zO 30 rfl ?_
   refine zT (ot_call (ks := []) rfl rfl rfl Tryz.call20 rfl (hF1 ) rfl) ?_
   rintro v0 _ ⟨m0, hp0, rfl⟩
   obtain ⟨A1, hp0⟩ := hp0
   obtain ⟨c1, hp0⟩ := hp0
   obtain ⟨rfl, rfl⟩ := hp0
   simp only [zca, zna, splice, spliceL]
   refine zT (ot_call (ks := [1, 0]) rfl rfl rfl Tryz.call19 rfl (hS1 ) rfl) ?_
   rintro v0 _ ⟨m0, hp0, rfl⟩
   obtain ⟨C0, hp0⟩ := hp0
   obtain ⟨e0, hp0⟩ := hp0
   obtain ⟨rfl, rfl⟩ := hp0
   simp only [zca, zna, splice, spliceL]
   refine zO 19 rfl ?_
   refine zT (ot_call (ks := []) rfl rfl rfl Tryz.call20 rfl (hF2 ) rfl) ?_
   rintro v0 _ ⟨m0, hp0, rfl⟩
   obtain ⟨A2, hp0⟩ := hp0
   obtain ⟨c2, hp0⟩ := hp0
   obtain ⟨rfl, rfl⟩ := hp0
   simp only [zca, zna, splice, spliceL]
   refine zT (ot_call (ks := [2, 0]) rfl rfl rfl Tryz.call19 rfl (hS2 ) rfl) ?_
   rintro v0 _ ⟨m0, hp0, rfl⟩
   obtain ⟨C1, hp0⟩ := hp0
   obtain ⟨e1, hp0⟩ := hp0
   obtain ⟨rfl, rfl⟩ := hp0
   simp only [zca, zna, splice, spliceL]
   refine zO 19 rfl ?_
   refine zT (ot_call (ks := []) rfl rfl rfl Tryz.call20 rfl (hF3 ) rfl) ?_
   rintro v0 _ ⟨m0, hp0, rfl⟩
   obtain ⟨A3, hp0⟩ := hp0
   obtain ⟨c3, hp0⟩ := hp0
   obtain ⟨rfl, rfl⟩ := hp0
   simp only [zca, zna, splice, spliceL]
   refine zT (ot_call (ks := [2, 0]) rfl rfl rfl Tryz.call19 rfl (hS3 ) rfl) ?_
   rintro v0 _ ⟨m0, hp0, rfl⟩
   obtain ⟨C2, hp0⟩ := hp0
   obtain ⟨e2, hp0⟩ := hp0
   obtain ⟨rfl, rfl⟩ := hp0
   simp only [zca, zna, splice, spliceL]
   refine zO 15 rfl ?_
   refine at_draw _ [] 1000 [(2, 0), (1, 1), (1, 2), (2, 3), (1, 4), (1, 5), (2, 6), (0, 7)] (by kernel_rfl) (by kernel_rfl) (fun _ s => (s.pulls (ks := [0, 0, 0, 0, 0, 0, 0, 0]) rfl).left) ?_
   refine aq_p (ov_move rfl rfl) rfl rfl rfl ?_
   refine aq_v (ov_indexRd (fun _ s => s.rd (k := 0) rfl) rfl Tryz.underlying35 rfl rfl rfl hget0) rfl rfl rfl ?_
   refine aq_v (ov_loadRd0 (fun _ s => s.rd (k := 0) rfl) rfl rfl rfl hget0 rfl) rfl rfl rfl ?_
   refine aq_p (ov_move rfl rfl) rfl rfl rfl ?_
   refine aq_v (ov_indexRd (fun _ s => s.rd (k := 0) rfl) rfl Tryz.underlying35 rfl rfl rfl hget1) rfl rfl rfl ?_
   refine aq_v (ov_loadRd0 (fun _ s => s.rd (k := 0) rfl) rfl rfl rfl hget1 rfl) rfl rfl rfl ?_
   refine aq_p (ov_build (cs := [_, _, _]) rfl rfl rfl rfl) rfl rfl rfl ?_
   refine aq_t0 (ot_store (k := 8) rfl rfl rfl rfl rfl rfl rfl) rfl rfl ?_
   rintro _ _ ⟨rfl, rfl⟩
   simp only [setAt, splice, spliceL, Value.cells]
   refine ⟨fun _ s => (s.pulls (ks := [0, 0, 0, 0, 0, 0, 0, 0]) rfl).left, ?_⟩
   refine aq_nil ?_
   refine zX 3 rfl ?_
   refine zQ ?_
   refine at_end ?_
   refine at_fin (rsV rfl (res_cellS (k := 8) (vs := [_, _, _]) rfl rfl rfl rfl ⟨rfl, rfl, rfl, trivial⟩)) ?_
   refine ⟨_, ⟨by rw [hmd, hfin, hre]; rfl, rfl⟩, ?_⟩
   exact zE [] [0, 0, 0, 0, 0, 0, 0, 0, 0]
  | false =>
  have hms3 : mstrs I toks3 = [] := by unfold mstrs; rw [hm3]; rfl
  rw [hms3, hm3] at hS3
  cases hm4 : matchF I toks4 with
  | true =>
   have hms : mstrs I toks4 = strsL I := by unfold mstrs; rw [hm4]; rfl
   rw [hms, hm4] at hS4
   have hsl : (strsL I).length = 2 := by rw [match_strs hm4]; decide
   obtain ⟨a0, hget0⟩ : ∃ a, (strsL I)[0]? = some a := ⟨_, List.getElem?_eq_getElem (by omega)⟩
   obtain ⟨a1, hget1⟩ : ∃ a, (strsL I)[1]? = some a := ⟨_, List.getElem?_eq_getElem (by omega)⟩
   have hre : refOf I = (4, a1, a0) := by unfold refOf; simp [hm4, hm1, hm2, hm3, hget0, hget1]
   refine zC 7 rfl ?_
   refine zrF 40 rfl (by first | assumption | (rw [Bool.not_eq_false']; exact decide_eq_true (by omega))) ?_
   refine zO 30 rfl ?_
   refine zT (ot_call (ks := []) rfl rfl rfl Tryz.call20 rfl (hF1 ) rfl) ?_
   rintro v0 _ ⟨m0, hp0, rfl⟩
   obtain ⟨A1, hp0⟩ := hp0
   obtain ⟨c1, hp0⟩ := hp0
   obtain ⟨rfl, rfl⟩ := hp0
   simp only [zca, zna, splice, spliceL]
   refine zT (ot_call (ks := [1, 0]) rfl rfl rfl Tryz.call19 rfl (hS1 ) rfl) ?_
   rintro v0 _ ⟨m0, hp0, rfl⟩
   obtain ⟨C0, hp0⟩ := hp0
   obtain ⟨e0, hp0⟩ := hp0
   obtain ⟨rfl, rfl⟩ := hp0
   simp only [zca, zna, splice, spliceL]
   refine zO 19 rfl ?_
   refine zT (ot_call (ks := []) rfl rfl rfl Tryz.call20 rfl (hF2 ) rfl) ?_
   rintro v0 _ ⟨m0, hp0, rfl⟩
   obtain ⟨A2, hp0⟩ := hp0
   obtain ⟨c2, hp0⟩ := hp0
   obtain ⟨rfl, rfl⟩ := hp0
   simp only [zca, zna, splice, spliceL]
   refine zT (ot_call (ks := [2, 0]) rfl rfl rfl Tryz.call19 rfl (hS2 ) rfl) ?_
   rintro v0 _ ⟨m0, hp0, rfl⟩
   obtain ⟨C1, hp0⟩ := hp0
   obtain ⟨e1, hp0⟩ := hp0
   obtain ⟨rfl, rfl⟩ := hp0
   simp only [zca, zna, splice, spliceL]
   refine zO 19 rfl ?_
   refine zT (ot_call (ks := []) rfl rfl rfl Tryz.call20 rfl (hF3 ) rfl) ?_
   rintro v0 _ ⟨m0, hp0, rfl⟩
   obtain ⟨A3, hp0⟩ := hp0
   obtain ⟨c3, hp0⟩ := hp0
   obtain ⟨rfl, rfl⟩ := hp0
   simp only [zca, zna, splice, spliceL]
   refine zT (ot_call (ks := [2, 0]) rfl rfl rfl Tryz.call19 rfl (hS3 ) rfl) ?_
   rintro v0 _ ⟨m0, hp0, rfl⟩
   obtain ⟨C2, hp0⟩ := hp0
   obtain ⟨e2, hp0⟩ := hp0
   obtain ⟨rfl, rfl⟩ := hp0
   simp only [zca, zna, splice, spliceL]
   refine zO 19 rfl ?_
   refine zT (ot_call (ks := []) rfl rfl rfl Tryz.call20 rfl (hF4 ) rfl) ?_
   rintro v0 _ ⟨m0, hp0, rfl⟩
   obtain ⟨A4, hp0⟩ := hp0
   obtain ⟨c4, hp0⟩ := hp0
   obtain ⟨rfl, rfl⟩ := hp0
   simp only [zca, zna, splice, spliceL]
   refine zT (ot_call (ks := [2, 0]) rfl rfl rfl Tryz.call19 rfl (hS4 ) rfl) ?_
   rintro v0 _ ⟨m0, hp0, rfl⟩
   obtain ⟨C3, hp0⟩ := hp0
   obtain ⟨e3, hp0⟩ := hp0
   obtain ⟨rfl, rfl⟩ := hp0
   simp only [zca, zna, splice, spliceL]
   refine zO 15 rfl ?_
   refine at_draw _ [] 1000 [(2, 0), (1, 1), (1, 2), (2, 3), (1, 4), (1, 5), (2, 6), (0, 7)] (by kernel_rfl) (by kernel_rfl) (fun _ s => (s.pulls (ks := [0, 0, 0, 0, 0, 0, 0, 0, 0, 0]) rfl).left) ?_
   refine aq_p (ov_move rfl rfl) rfl rfl rfl ?_
   refine aq_v (ov_indexRd (fun _ s => s.rd (k := 0) rfl) rfl Tryz.underlying35 rfl rfl rfl hget1) rfl rfl rfl ?_
   refine aq_v (ov_loadRd0 (fun _ s => s.rd (k := 0) rfl) rfl rfl rfl hget1 rfl) rfl rfl rfl ?_
   refine aq_p (ov_move rfl rfl) rfl rfl rfl ?_
   refine aq_v (ov_indexRd (fun _ s => s.rd (k := 0) rfl) rfl Tryz.underlying35 rfl rfl rfl hget0) rfl rfl rfl ?_
   refine aq_v (ov_loadRd0 (fun _ s => s.rd (k := 0) rfl) rfl rfl rfl hget0 rfl) rfl rfl rfl ?_
   refine aq_p (ov_build (cs := [_, _, _]) rfl rfl rfl rfl) rfl rfl rfl ?_
   refine aq_t0 (ot_store (k := 10) rfl rfl rfl rfl rfl rfl rfl) rfl rfl ?_
   rintro _ _ ⟨rfl, rfl⟩
   simp only [setAt, splice, spliceL, Value.cells]
   refine ⟨fun _ s => (s.pulls (ks := [0, 0, 0, 0, 0, 0, 0, 0, 0, 0]) rfl).left, ?_⟩
   refine aq_nil ?_
   refine zX 3 rfl ?_
   refine zQ ?_
   refine at_end ?_
   refine at_fin (rsV rfl (res_cellS (k := 10) (vs := [_, _, _]) rfl rfl rfl rfl ⟨rfl, rfl, rfl, trivial⟩)) ?_
   refine ⟨_, ⟨by rw [hmd, hfin, hre]; rfl, rfl⟩, ?_⟩
   exact zE [] [0, 0, 0, 0, 0, 0, 0, 0, 0, 0, 0]
  | false =>
  have hms4 : mstrs I toks4 = [] := by unfold mstrs; rw [hm4]; rfl
  rw [hms4, hm4] at hS4
  cases hm5 : matchF I toks5 with
  | true =>
   have hms : mstrs I toks5 = strsL I := by unfold mstrs; rw [hm5]; rfl
   rw [hms, hm5] at hS5
   have hsl : (strsL I).length = 1 := by rw [match_strs hm5]; decide
   obtain ⟨a0, hget0⟩ : ∃ a, (strsL I)[0]? = some a := ⟨_, List.getElem?_eq_getElem (by omega)⟩
   have hre : refOf I = (5, a0, []) := by unfold refOf; simp [hm5, hm1, hm2, hm3, hm4, hget0]
   refine zC 7 rfl ?_
   refine zrF 40 rfl (by first | assumption | (rw [Bool.not_eq_false']; exact decide_eq_true (by omega))) ?_
   refine zO 30 rfl ?_
   refine zT (ot_call (ks := []) rfl rfl rfl Tryz.call20 rfl (hF1 ) rfl) ?_
   rintro v0 _ ⟨m0, hp0, rfl⟩
   obtain ⟨A1, hp0⟩ := hp0
   obtain ⟨c1, hp0⟩ := hp0
   obtain ⟨rfl, rfl⟩ := hp0
   simp only [zca, zna, splice, spliceL]
   refine zT (ot_call (ks := [1, 0]) rfl rfl rfl Tryz.call19 rfl (hS1 ) rfl) ?_
   rintro v0 _ ⟨m0, hp0, rfl⟩
   obtain ⟨C0, hp0⟩ := hp0
   obtain ⟨e0, hp0⟩ := hp0
   obtain ⟨rfl, rfl⟩ := hp0
   simp only [zca, zna, splice, spliceL]
   refine zO 19 rfl ?_
   refine zT (ot_call (ks := []) rfl rfl rfl Tryz.call20 rfl (hF2 ) rfl) ?_
   rintro v0 _ ⟨m0, hp0, rfl⟩
   obtain ⟨A2, hp0⟩ := hp0
   obtain ⟨c2, hp0⟩ := hp0
   obtain ⟨rfl, rfl⟩ := hp0
   simp only [zca, zna, splice, spliceL]
   refine zT (ot_call (ks := [2, 0]) rfl rfl rfl Tryz.call19 rfl (hS2 ) rfl) ?_
   rintro v0 _ ⟨m0, hp0, rfl⟩
   obtain ⟨C1, hp0⟩ := hp0
   obtain ⟨e1, hp0⟩ := hp0
   obtain ⟨rfl, rfl⟩ := hp0
   simp only [zca, zna, splice, spliceL]
   refine zO 19 rfl ?_
   refine zT (ot_call (ks := []) rfl rfl rfl Tryz.call20 rfl (hF3 ) rfl) ?_
   rintro v0 _ ⟨m0, hp0, rfl⟩
   obtain ⟨A3, hp0⟩ := hp0
   obtain ⟨c3, hp0⟩ := hp0
   obtain ⟨rfl, rfl⟩ := hp0
   simp only [zca, zna, splice, spliceL]
   refine zT (ot_call (ks := [2, 0]) rfl rfl rfl Tryz.call19 rfl (hS3 ) rfl) ?_
   rintro v0 _ ⟨m0, hp0, rfl⟩
   obtain ⟨C2, hp0⟩ := hp0
   obtain ⟨e2, hp0⟩ := hp0
   obtain ⟨rfl, rfl⟩ := hp0
   simp only [zca, zna, splice, spliceL]
   refine zO 19 rfl ?_
   refine zT (ot_call (ks := []) rfl rfl rfl Tryz.call20 rfl (hF4 ) rfl) ?_
   rintro v0 _ ⟨m0, hp0, rfl⟩
   obtain ⟨A4, hp0⟩ := hp0
   obtain ⟨c4, hp0⟩ := hp0
   obtain ⟨rfl, rfl⟩ := hp0
   simp only [zca, zna, splice, spliceL]
   refine zT (ot_call (ks := [2, 0]) rfl rfl rfl Tryz.call19 rfl (hS4 ) rfl) ?_
   rintro v0 _ ⟨m0, hp0, rfl⟩
   obtain ⟨C3, hp0⟩ := hp0
   obtain ⟨e3, hp0⟩ := hp0
   obtain ⟨rfl, rfl⟩ := hp0
   simp only [zca, zna, splice, spliceL]
   refine zO 19 rfl ?_
   refine zT (ot_call (ks := []) rfl rfl rfl Tryz.call20 rfl (hF5 ) rfl) ?_
   rintro v0 _ ⟨m0, hp0, rfl⟩
   obtain ⟨A5, hp0⟩ := hp0
   obtain ⟨c5, hp0⟩ := hp0
   obtain ⟨rfl, rfl⟩ := hp0
   simp only [zca, zna, splice, spliceL]
   refine zT (ot_call (ks := [2, 0]) rfl rfl rfl Tryz.call19 rfl (hS5 ) rfl) ?_
   rintro v0 _ ⟨m0, hp0, rfl⟩
   obtain ⟨C4, hp0⟩ := hp0
   obtain ⟨e4, hp0⟩ := hp0
   obtain ⟨rfl, rfl⟩ := hp0
   simp only [zca, zna, splice, spliceL]
   refine zO 17 rfl ?_
   refine zV (ov_indexRd (fun _ s => s.rd (k := 0) rfl) rfl Tryz.underlying35 rfl rfl rfl hget0) ?_
   refine zV (ov_loadRd0 (fun _ s => s.rd (k := 0) rfl) rfl rfl rfl hget0 rfl) ?_
   refine zV (ov_build (cs := [_, _, _]) rfl rfl rfl rfl) ?_
   refine zS 12 ?_
   simp only [setAt, splice, spliceL, Value.cells]
   refine zO 4 rfl ?_
   refine zQ ?_
   refine at_end ?_
   refine at_fin (rsV rfl (res_cellS (k := 12) (vs := [_, _, _]) rfl rfl rfl rfl ⟨rfl, rfl, rfl, trivial⟩)) ?_
   refine ⟨_, ⟨by rw [hmd, hfin, hre]; rfl, rfl⟩, ?_⟩
   exact zE [] [0, 0, 0, 0, 0, 0, 0, 0, 0, 0, 0, 0, 0]
  | false =>
  have hms5 : mstrs I toks5 = [] := by unfold mstrs; rw [hm5]; rfl
  rw [hms5, hm5] at hS5
  have hre : refOf I = (0, [], []) := by unfold refOf; simp [hm1, hm2, hm3, hm4, hm5]
  refine zC 7 rfl ?_
  refine zrF 40 rfl (by first | assumption | (rw [Bool.not_eq_false']; exact decide_eq_true (by omega))) ?_
  refine zO 30 rfl ?_
  refine zT (ot_call (ks := []) rfl rfl rfl Tryz.call20 rfl (hF1 ) rfl) ?_
  rintro v0 _ ⟨m0, hp0, rfl⟩
  obtain ⟨A1, hp0⟩ := hp0
  obtain ⟨c1, hp0⟩ := hp0
  obtain ⟨rfl, rfl⟩ := hp0
  simp only [zca, zna, splice, spliceL]
  refine zT (ot_call (ks := [1, 0]) rfl rfl rfl Tryz.call19 rfl (hS1 ) rfl) ?_
  rintro v0 _ ⟨m0, hp0, rfl⟩
  obtain ⟨C0, hp0⟩ := hp0
  obtain ⟨e0, hp0⟩ := hp0
  obtain ⟨rfl, rfl⟩ := hp0
  simp only [zca, zna, splice, spliceL]
  refine zO 19 rfl ?_
  refine zT (ot_call (ks := []) rfl rfl rfl Tryz.call20 rfl (hF2 ) rfl) ?_
  rintro v0 _ ⟨m0, hp0, rfl⟩
  obtain ⟨A2, hp0⟩ := hp0
  obtain ⟨c2, hp0⟩ := hp0
  obtain ⟨rfl, rfl⟩ := hp0
  simp only [zca, zna, splice, spliceL]
  refine zT (ot_call (ks := [2, 0]) rfl rfl rfl Tryz.call19 rfl (hS2 ) rfl) ?_
  rintro v0 _ ⟨m0, hp0, rfl⟩
  obtain ⟨C1, hp0⟩ := hp0
  obtain ⟨e1, hp0⟩ := hp0
  obtain ⟨rfl, rfl⟩ := hp0
  simp only [zca, zna, splice, spliceL]
  refine zO 19 rfl ?_
  refine zT (ot_call (ks := []) rfl rfl rfl Tryz.call20 rfl (hF3 ) rfl) ?_
  rintro v0 _ ⟨m0, hp0, rfl⟩
  obtain ⟨A3, hp0⟩ := hp0
  obtain ⟨c3, hp0⟩ := hp0
  obtain ⟨rfl, rfl⟩ := hp0
  simp only [zca, zna, splice, spliceL]
  refine zT (ot_call (ks := [2, 0]) rfl rfl rfl Tryz.call19 rfl (hS3 ) rfl) ?_
  rintro v0 _ ⟨m0, hp0, rfl⟩
  obtain ⟨C2, hp0⟩ := hp0
  obtain ⟨e2, hp0⟩ := hp0
  obtain ⟨rfl, rfl⟩ := hp0
  simp only [zca, zna, splice, spliceL]
  refine zO 19 rfl ?_
  refine zT (ot_call (ks := []) rfl rfl rfl Tryz.call20 rfl (hF4 ) rfl) ?_
  rintro v0 _ ⟨m0, hp0, rfl⟩
  obtain ⟨A4, hp0⟩ := hp0
  obtain ⟨c4, hp0⟩ := hp0
  obtain ⟨rfl, rfl⟩ := hp0
  simp only [zca, zna, splice, spliceL]
  refine zT (ot_call (ks := [2, 0]) rfl rfl rfl Tryz.call19 rfl (hS4 ) rfl) ?_
  rintro v0 _ ⟨m0, hp0, rfl⟩
  obtain ⟨C3, hp0⟩ := hp0
  obtain ⟨e3, hp0⟩ := hp0
  obtain ⟨rfl, rfl⟩ := hp0
  simp only [zca, zna, splice, spliceL]
  refine zO 19 rfl ?_
  refine zT (ot_call (ks := []) rfl rfl rfl Tryz.call20 rfl (hF5 ) rfl) ?_
  rintro v0 _ ⟨m0, hp0, rfl⟩
  obtain ⟨A5, hp0⟩ := hp0
  obtain ⟨c5, hp0⟩ := hp0
  obtain ⟨rfl, rfl⟩ := hp0
  simp only [zca, zna, splice, spliceL]
  refine zT (ot_call (ks := [2, 0]) rfl rfl rfl Tryz.call19 rfl (hS5 ) rfl) ?_
  rintro v0 _ ⟨m0, hp0, rfl⟩
  obtain ⟨C4, hp0⟩ := hp0
  obtain ⟨e4, hp0⟩ := hp0
  obtain ⟨rfl, rfl⟩ := hp0
  simp only [zca, zna, splice, spliceL]
  refine zO 18 rfl ?_
  refine zV (ov_build (cs := [_, _, _]) rfl rfl rfl rfl) ?_
  refine zS 12 ?_
  simp only [setAt, splice, spliceL, Value.cells]
  refine zO 3 rfl ?_
  refine zQ ?_
  refine at_end ?_
  refine at_fin (rsV rfl (res_cellS (k := 12) (vs := [_, _, _]) rfl rfl rfl rfl ⟨rfl, rfl, rfl, trivial⟩)) ?_
  refine ⟨_, ⟨by rw [hmd, hfin, hre]; rfl, rfl⟩, ?_⟩
  exact zE [] [0, 0, 0, 0, 0, 0, 0, 0, 0, 0, 0, 0, 0]
 rw [List.concat_eq_append] at *
 have hi3 : decide (((i' ++ [x]).length : Int) > 0) = true := decide_eq_true (by rw [List.length_append, List.length_cons, List.length_nil]; omega)
 refine at_rowLen 0 rfl (fun hle _ => ?_)
 have hget : (i' ++ [x])[i'.length]? = some x := by simp
 have hlen : ((i' ++ [x]).length : Int) - 1 = ((i'.length : Nat) : Int) := by simp
 rw [trimE_snoc] at hie
 by_cases hx : x = signL
 ·rw [if_pos hx] at hie
  have hx6 : x.1 = 6 := by rw [hx]; rfl
  have hxs : x.2 = [59] := by rw [hx]; rfl
  have hi4 : decide (x.1 = 6) = true := by simp [hx6]
  have hi5 : decide (x.2 = [59]) = true := by simp [hxs]
  refine zC 7 rfl ?_
  refine zrT 40 rfl (decide_eq_true (by omega)) ?_
  refine zO 3 rfl ?_
  refine at_wanted (j := 3) rfl ?_
  refine zV zI ?_
  refine at_wanted (j := 3) rfl ?_
  refine at_reval 44 (.int .i64 (i'.length : Nat)) rfl (congrArg (Value.int .i64) hlen) ?_
  refine zV (ov_indexRd (fun _ s => s.rd (k := 0) rfl) rfl Tryz.underlying56 rfl rfl rfl hget) ?_
  refine at_wanted (j := 3) rfl ?_
  refine zV (ov_fieldRd0 (k := 0) (fun _ s => s.rd (k := 0) rfl) rfl rfl hget rfl) ?_
  refine at_wanted (j := 3) rfl ?_
  refine zV (ov_loadRd0 (fun _ s => s.rd (k := 0) rfl) rfl rfl rfl hget rfl) ?_
  refine zO 3 rfl ?_
  refine zrT 50 rfl (decide_eq_true (by omega)) ?_
  refine zO 3 rfl ?_
  refine at_wanted (j := 13) rfl ?_
  refine zV zI ?_
  refine at_wanted (j := 13) rfl ?_
  refine at_reval 54 (.int .i64 (i'.length : Nat)) rfl (congrArg (Value.int .i64) hlen) ?_
  refine zV (ov_indexRd (fun _ s => s.rd (k := 0) rfl) rfl Tryz.underlying56 rfl rfl rfl hget) ?_
  refine at_wanted (j := 13) rfl ?_
  refine zV (ov_fieldRd0 (k := 1) (fun _ s => s.rd (k := 0) rfl) rfl rfl hget rfl) ?_
  refine at_wanted (j := 13) rfl ?_
  refine zV (ov_loadRd (fun _ s => s.rd (k := 0) rfl) rfl rfl rfl hget rfl) ?_
  refine zO 4 rfl ?_
  refine zcT rfl (decide_eq_true (by omega)) ?_
  refine zC 7 rfl ?_
  refine zV zI ?_
  refine at_reval 63 (.int .i64 (i'.length : Nat)) rfl (congrArg (Value.int .i64) hlen) ?_
  have hkk : i'.length ≤ (i' ++ [x]).length := by simp
  refine zV (ov_sliceTo rfl Tryz.underlying56 rfl rfl rfl (by first | assumption | omega) (by assumption)) ?_
  refine zOR 4 rfl ?_
  refine at_rowTk i'.length 0 rfl ?_
  have htk : (i' ++ [x]).take i'.length = i' := List.take_left
  try rw [htk]
  simp only [setAt]
  refine at_roundF i' ⟨by simp at hil; omega, fun t h => him t (by simp [h]), hie⟩ (by simp) ⟨rfl, trivial⟩ rfl ?_
  exact zE [0, 0, 0] []
 rw [if_neg hx] at hie
 have hfin : trimE m = i' ++ [x] := hie
 clear hie
 by_cases hx6 : x.1 = 6
 ·have hxs : ¬ x.2 = [59] := fun e => hx (by cases x; simp only at hx6 e; rw [hx6, e]; rfl)
  have hi4 : decide (x.1 = 6) = true := by simp [hx6]
  have hi5 : decide (x.2 = [59]) = false := by simp [hxs]
  obtain ⟨I, hI⟩ : ∃ I, I = i' ++ [x] := ⟨_, rfl⟩
  refine zC 7 rfl ?_
  refine zrT 40 rfl (decide_eq_true (by omega)) ?_
  refine zO 3 rfl ?_
  refine at_wanted (j := 3) rfl ?_
  refine zV zI ?_
  refine at_wanted (j := 3) rfl ?_
  refine at_reval 44 (.int .i64 (i'.length : Nat)) rfl (congrArg (Value.int .i64) hlen) ?_
  refine zV (ov_indexRd (fun _ s => s.rd (k := 0) rfl) rfl Tryz.underlying56 rfl rfl rfl hget) ?_
  refine at_wanted (j := 3) rfl ?_
  refine zV (ov_fieldRd0 (k := 0) (fun _ s => s.rd (k := 0) rfl) rfl rfl hget rfl) ?_
  refine at_wanted (j := 3) rfl ?_
  refine zV (ov_loadRd0 (fun _ s => s.rd (k := 0) rfl) rfl rfl rfl hget rfl) ?_
  refine zO 3 rfl ?_
  refine zrT 50 rfl (decide_eq_true (by omega)) ?_
  refine zO 3 rfl ?_
  refine at_wanted (j := 13) rfl ?_
  refine zV zI ?_
  refine at_wanted (j := 13) rfl ?_
  refine at_reval 54 (.int .i64 (i'.length : Nat)) rfl (congrArg (Value.int .i64) hlen) ?_
  rw [← hI] at hil hfin hget hi3 him ⊢
  have hF1 := T20 w0 src1 (by decide)
  rw [src1_lex] at hF1
  simp only at hF1
  have hS1 {A B : Option Addr} {c d c' d' : Nat} := T19a w0 (A := A) (B := B) (c := c) (d := d) (c' := c') (d' := d') (l := I) (f := toks1) (by omega) (by decide)
  have hF2 := T20 w0 src2 (by decide)
  rw [src2_lex] at hF2
  simp only at hF2
  have hS2 {A B : Option Addr} {c d c' d' : Nat} := T19a w0 (A := A) (B := B) (c := c) (d := d) (c' := c') (d' := d') (l := I) (f := toks2) (by omega) (by decide)
  have hF3 := T20 w0 src3 (by decide)
  rw [src3_lex] at hF3
  simp only at hF3
  have hS3 {A B : Option Addr} {c d c' d' : Nat} := T19a w0 (A := A) (B := B) (c := c) (d := d) (c' := c') (d' := d') (l := I) (f := toks3) (by omega) (by decide)
  have hF4 := T20 w0 src4 (by decide)
  rw [src4_lex] at hF4
  simp only at hF4
  have hS4 {A B : Option Addr} {c d c' d' : Nat} := T19a w0 (A := A) (B := B) (c := c) (d := d) (c' := c') (d' := d') (l := I) (f := toks4) (by omega) (by decide)
  have hF5 := T20 w0 src5 (by decide)
  rw [src5_lex] at hF5
  simp only at hF5
  have hS5 {A B : Option Addr} {c d c' d' : Nat} := T19a w0 (A := A) (B := B) (c := c) (d := d) (c' := c') (d' := d') (l := I) (f := toks5) (by omega) (by decide)
  cases hm1 : matchF I toks1 with
  | true =>
   have hms : mstrs I toks1 = strsL I := by unfold mstrs; rw [hm1]; rfl
   rw [hms, hm1] at hS1
   have hsl : (strsL I).length = 1 := by rw [match_strs hm1]; decide
   obtain ⟨a0, hget0⟩ : ∃ a, (strsL I)[0]? = some a := ⟨_, List.getElem?_eq_getElem (by omega)⟩
   have hre : refOf I = (1, a0, []) := by unfold refOf; simp [hm1, hget0]
   refine zV (ov_indexRd (fun _ s => s.rd (k := 0) rfl) rfl Tryz.underlying56 rfl rfl rfl hget) ?_
   refine at_wanted (j := 13) rfl ?_
   refine zV (ov_fieldRd0 (k := 1) (fun _ s => s.rd (k := 0) rfl) rfl rfl hget rfl) ?_
   refine at_wanted (j := 13) rfl ?_
   refine zV (ov_loadRd (fun _ s => s.rd (k := 0) rfl) rfl rfl rfl hget rfl) ?_
   refine zO 4 rfl ?_
   refine zcF rfl (decide_eq_false (by omega)) ?_
   refine zC 8 rfl ?_
   refine zT (ot_call (ks := []) rfl rfl rfl Tryz.call20 rfl (hF1 ) rfl) ?_
   rintro v0 _ ⟨m0, hp0, rfl⟩
   obtain ⟨A1, hp0⟩ := hp0
   obtain ⟨c1, hp0⟩ := hp0
   obtain ⟨rfl, rfl⟩ := hp0
   simp only [zca, zna, splice, spliceL]
   refine zT (ot_call (ks := [1, 0]) rfl rfl rfl Tryz.call19 rfl (hS1 ) rfl) ?_
   rintro v0 _ ⟨m0, hp0, rfl⟩
   obtain ⟨C0, hp0⟩ := hp0
   obtain ⟨e0, hp0⟩ := hp0
   obtain ⟨rfl, rfl⟩ := hp0
   simp only [zca, zna, splice, spliceL]
   refine zO 17 rfl ?_
   refine zV (ov_indexRd (fun _ s => s.rd (k := 0) rfl) rfl Tryz.underlying35 rfl rfl rfl hget0) ?_
   refine zV (ov_loadRd0 (fun _ s => s.rd (k := 0) rfl) rfl rfl rfl hget0 rfl) ?_
   refine zV (ov_build (cs := [_, _, _]) rfl rfl rfl rfl) ?_
   refine zS 4 ?_
   simp only [setAt, splice, spliceL, Value.cells]
   refine zO 4 rfl ?_
   refine zQ ?_
   refine at_end ?_
   refine at_fin (rsV rfl (res_cellS (k := 4) (vs := [_, _, _]) rfl rfl rfl rfl ⟨rfl, rfl, rfl, trivial⟩)) ?_
   refine ⟨_, ⟨by rw [hmd, hfin, hre]; rfl, rfl⟩, ?_⟩
   exact zE [] [0, 0, 0, 0, 0]
  | false =>
  have hms1 : mstrs I toks1 = [] := by unfold mstrs; rw [hm1]; rfl
  rw [hms1, hm1] at hS1
  cases hm2 : matchF I toks2 with
  | true =>
   have hms : mstrs I toks2 = strsL I := by unfold mstrs; rw [hm2]; rfl
   rw [hms, hm2] at hS2
   have hsl : (strsL I).length = 0 := by rw [match_strs hm2]; decide
   have hre : refOf I = (2, [], []) := by unfold refOf; simp [hm2, hm1]
   refine zV (ov_indexRd (fun _ s => s.rd (k := 0) rfl) rfl Tryz.underlying56 rfl rfl rfl hget) ?_
   refine at_wanted (j := 13) rfl ?_
   refine zV (ov_fieldRd0 (k := 1) (fun _ s => s.rd (k := 0) rfl) rfl rfl hget rfl) ?_
   refine at_wanted (j := 13) rfl ?_
   refine zV (ov_loadRd (fun _ s => s.rd (k := 0) rfl) rfl rfl rfl hget rfl) ?_
   refine zO 4 rfl ?_
   refine zcF rfl (decide_eq_false (by omega)) ?_
   refine zC 8 rfl ?_
   refine zT (ot_call (ks := []) rfl rfl rfl Tryz.call20 rfl (hF1 ) rfl) ?_
   rintro v0 _ ⟨m0, hp0, rfl⟩
   obtain ⟨A1, hp0⟩ := hp0
   obtain ⟨c1, hp0⟩ := hp0
   obtain ⟨rfl, rfl⟩ := hp0
   simp only [zca, zna, splice, spliceL]
   refine zT (ot_call (ks := [1, 0]) rfl rfl rfl Tryz.call19 rfl (hS1 ) rfl) ?_
   rintro v0 _ ⟨m0, hp0, rfl⟩
   obtain ⟨C0, hp0⟩ := hp0
   obtain ⟨e0, hp0⟩ := hp0
   obtain ⟨rfl, rfl⟩ := hp0
   simp only [zca, zna, splice, spliceL]
   refine zO 19 rfl ?_
   refine zT (ot_call (ks := []) rfl rfl rfl Tryz.call20 rfl (hF2 ) rfl) ?_
   rintro v0 _ ⟨m0, hp0, rfl⟩
   obtain ⟨A2, hp0⟩ := hp0
   obtain ⟨c2, hp0⟩ := hp0
   obtain ⟨rfl, rfl⟩ := hp0
   simp only [zca, zna, splice, spliceL]
   refine zT (ot_call (ks := [2, 0]) rfl rfl rfl Tryz.call19 rfl (hS2 ) rfl) ?_
   rintro v0 _ ⟨m0, hp0, rfl⟩
   obtain ⟨C1, hp0⟩ := hp0
   obtain ⟨e1, hp0⟩ := hp0
   obtain ⟨rfl, rfl⟩ := hp0
   simp only [zca, zna, splice, spliceL]
   refine zO 16 rfl ?_
   refine zV (ov_build (cs := [_, _, _]) rfl rfl rfl rfl) ?_
   refine zS 6 ?_
   simp only [setAt, splice, spliceL, Value.cells]
   refine zO 4 rfl ?_
   refine zQ ?_
   refine at_end ?_
   refine at_fin (rsV rfl (res_cellS (k := 6) (vs := [_, _, _]) rfl rfl rfl rfl ⟨rfl, rfl, rfl, trivial⟩)) ?_
   refine ⟨_, ⟨by rw [hmd, hfin, hre]; rfl, rfl⟩, ?_⟩
   exact zE [] [0, 0, 0, 0, 0, 0, 0]
  | false =>
  have hms2 : mstrs I toks2 = [] := by unfold mstrs; rw [hm2]; rfl
  rw [hms2, hm2] at hS2
  cases hm3 : matchF I toks3 with
  | true =>
   have hms : mstrs I toks3 = strsL I := by unfold mstrs; rw [hm3]; rfl
   rw [hms, hm3] at hS3
   have hsl : (strsL I).length = 2 := by rw [match_strs hm3]; decide
   obtain ⟨a0, hget0⟩ : ∃ a, (strsL I)[0]? = some a := ⟨_, List.getElem?_eq_getElem (by omega)⟩
   obtain ⟨a1, hget1⟩ : ∃ a, (strsL I)[1]? = some a := ⟨_, List.getElem?_eq_getElem (by omega)⟩
   have hre : refOf I = (3, a0, a1) := by unfold refOf; simp [hm3, hm1, hm2, hget0, hget1]
   refine zV (ov_indexRd (fun _ s => s.rd (k := 0) rfl) rfl Tryz.underlying56 rfl rfl rfl hget) ?_
   refine at_wanted (j := 13) rfl ?_
   refine zV (ov_fieldRd0 (k := 1) (fun _ s => s.rd (k := 0) rfl) rfl rfl hget rfl) ?_
   refine at_wanted (j := 13) rfl ?_
   refine zV (ov_loadRd (fun _ s => s.rd (k := 0) rfl) rfl rfl rfl hget rfl) ?_
   refine zO 4 rfl ?_
   refine zcF rfl (decide_eq_false (by omega)) ?_
   refine zC 8 rfl ?_
   refine zT (ot_call (ks := []) rfl rfl rfl Tryz.call20 rfl (hF1 ) rfl) ?_
   rintro v0 _ ⟨m0, hp0, rfl⟩
   obtain ⟨A1, hp0⟩ := hp0
   obtain ⟨c1, hp0⟩ := hp0
   obtain ⟨rfl, rfl⟩ := hp0
   simp only [zca, zna, splice, spliceL]
   refine zT (ot_call (ks := [1, 0]) rfl rfl rfl Tryz.call19 rfl (hS1 ) rfl) ?_
   rintro v0 _ ⟨m0, hp0, rfl⟩
   obtain ⟨C0, hp0⟩ := hp0
   obtain ⟨e0, hp0⟩ := hp0
   obtain ⟨rfl, rfl⟩ := hp0
   simp only [zca, zna, splice, spliceL]
   refine zO 19 rfl ?_
   refine zT (ot_call (ks := []) rfl rfl rfl Tryz.call20 rfl (hF2 ) rfl) ?_
   rintro v0 _ ⟨m0, hp0, rfl⟩
   obtain ⟨A2, hp0⟩ := hp0
   obtain ⟨c2, hp0⟩ := hp0
   obtain ⟨rfl, rfl⟩ := hp0
   simp only [zca, zna, splice, spliceL]
   refine zT (ot_call (ks := [2, 0]) rfl rfl rfl Tryz.call19 rfl (hS2 ) rfl) ?_
   rintro v0 _ ⟨m0, hp0, rfl⟩
   obtain ⟨C1, hp0⟩ := hp0
   obtain ⟨e1, hp0⟩ := hp0
   obtain ⟨rfl, rfl⟩ := hp0
   simp only [zca, zna, splice, spliceL]
   refine zO 19 rfl ?_
   refine zT (ot_call (ks := []) rfl rfl rfl Tryz.call20 rfl (hF3 ) rfl) ?_
   rintro v0 _ ⟨m0, hp0, rfl⟩
   obtain ⟨A3, hp0⟩ := hp0
   obtain ⟨c3, hp0⟩ := hp0
   obtain ⟨rfl, rfl⟩ := hp0
   simp only [zca, zna, splice, spliceL]
   refine zT (ot_call (ks := [2, 0]) rfl rfl rfl Tryz.call19 rfl (hS3 ) rfl) ?_
   rintro v0 _ ⟨m0, hp0, rfl⟩
   obtain ⟨C2, hp0⟩ := hp0
   obtain ⟨e2, hp0⟩ := hp0
   obtain ⟨rfl, rfl⟩ := hp0
   simp only [zca, zna, splice, spliceL]
   refine zO 15 rfl ?_
   refine at_draw _ [] 1000 [(2, 0), (1, 1), (1, 2), (2, 3), (1, 4), (1, 5), (2, 6), (0, 7)] (by kernel_rfl) (by kernel_rfl) (fun _ s => (s.pulls (ks := [0, 0, 0, 0, 0, 0, 0, 0]) rfl).left) ?_
   refine aq_p (ov_move rfl rfl) rfl rfl rfl ?_
   refine aq_v (ov_indexRd (fun _ s => s.rd (k := 0) rfl) rfl Tryz.underlying35 rfl rfl rfl hget0) rfl rfl rfl ?_
   refine aq_v (ov_loadRd0 (fun _ s => s.rd (k := 0) rfl) rfl rfl rfl hget0 rfl) rfl rfl rfl ?_
   refine aq_p (ov_move rfl rfl) rfl rfl rfl ?_
   refine aq_v (ov_indexRd (fun _ s => s.rd (k := 0) rfl) rfl Tryz.underlying35 rfl rfl rfl hget1) rfl rfl rfl ?_
   refine aq_v (ov_loadRd0 (fun _ s => s.rd (k := 0) rfl) rfl rfl rfl hget1 rfl) rfl rfl rfl ?_
   refine aq_p (ov_build (cs := [_, _, _]) rfl rfl rfl rfl) rfl rfl rfl ?_
   refine aq_t0 (ot_store (k := 8) rfl rfl rfl rfl rfl rfl rfl) rfl rfl ?_
   rintro _ _ ⟨rfl, rfl⟩
   simp only [setAt, splice, spliceL, Value.cells]
   refine ⟨fun _ s => (s.pulls (ks := [0, 0, 0, 0, 0, 0, 0, 0]) rfl).left, ?_⟩
   refine aq_nil ?_
   refine zX 3 rfl ?_
   refine zQ ?_
   refine at_end ?_
   refine at_fin (rsV rfl (res_cellS (k := 8) (vs := [_, _, _]) rfl rfl rfl rfl ⟨rfl, rfl, rfl, trivial⟩)) ?_
   refine ⟨_, ⟨by rw [hmd, hfin, hre]; rfl, rfl⟩, ?_⟩
   exact zE [] [0, 0, 0, 0, 0, 0, 0, 0, 0]
  | false =>
  have hms3 : mstrs I toks3 = [] := by unfold mstrs; rw [hm3]; rfl
  rw [hms3, hm3] at hS3
  cases hm4 : matchF I toks4 with
  | true =>
   have hms : mstrs I toks4 = strsL I := by unfold mstrs; rw [hm4]; rfl
   rw [hms, hm4] at hS4
   have hsl : (strsL I).length = 2 := by rw [match_strs hm4]; decide
   obtain ⟨a0, hget0⟩ : ∃ a, (strsL I)[0]? = some a := ⟨_, List.getElem?_eq_getElem (by omega)⟩
   obtain ⟨a1, hget1⟩ : ∃ a, (strsL I)[1]? = some a := ⟨_, List.getElem?_eq_getElem (by omega)⟩
   have hre : refOf I = (4, a1, a0) := by unfold refOf; simp [hm4, hm1, hm2, hm3, hget0, hget1]
   refine zV (ov_indexRd (fun _ s => s.rd (k := 0) rfl) rfl Tryz.underlying56 rfl rfl rfl hget) ?_
   refine at_wanted (j := 13) rfl ?_
   refine zV (ov_fieldRd0 (k := 1) (fun _ s => s.rd (k := 0) rfl) rfl rfl hget rfl) ?_
   refine at_wanted (j := 13) rfl ?_
   refine zV (ov_loadRd (fun _ s => s.rd (k := 0) rfl) rfl rfl rfl hget rfl) ?_
   refine zO 4 rfl ?_
   refine zcF rfl (decide_eq_false (by omega)) ?_
   refine zC 8 rfl ?_
   refine zT (ot_call (ks := []) rfl rfl rfl Tryz.call20 rfl (hF1 ) rfl) ?_
   rintro v0 _ ⟨m0, hp0, rfl⟩
   obtain ⟨A1, hp0⟩ := hp0
   obtain ⟨c1, hp0⟩ := hp0
   obtain ⟨rfl, rfl⟩ := hp0
   simp only [zca, zna, splice, spliceL]
   refine zT (ot_call (ks := [1, 0]) rfl rfl rfl Tryz.call19 rfl (hS1 ) rfl) ?_
   rintro v0 _ ⟨m0, hp0, rfl⟩
   obtain ⟨C0, hp0⟩ := hp0
   obtain ⟨e0, hp0⟩ := hp0
   obtain ⟨rfl, rfl⟩ := hp0
   simp only [zca, zna, splice, spliceL]
   refine zO 19 rfl ?_
   refine zT (ot_call (ks := []) rfl rfl rfl Tryz.call20 rfl (hF2 ) rfl) ?_
   rintro v0 _ ⟨m0, hp0, rfl⟩
   obtain ⟨A2, hp0⟩ := hp0
   obtain ⟨c2, hp0⟩ := hp0
   obtain ⟨rfl, rfl⟩ := hp0
   simp only [zca, zna, splice, spliceL]
   refine zT (ot_call (ks := [2, 0]) rfl rfl rfl Tryz.call19 rfl (hS2 ) rfl) ?_
   rintro v0 _ ⟨m0, hp0, rfl⟩
   obtain ⟨C1, hp0⟩ := hp0
   obtain ⟨e1, hp0⟩ := hp0
   obtain ⟨rfl, rfl⟩ := hp0
   simp only [zca, zna, splice, spliceL]
   refine zO 19 rfl ?_
   refine zT (ot_call (ks := []) rfl rfl rfl Tryz.call20 rfl (hF3 ) rfl) ?_
   rintro v0 _ ⟨m0, hp0, rfl⟩
   obtain ⟨A3, hp0⟩ := hp0
   obtain ⟨c3, hp0⟩ := hp0
   obtain ⟨rfl, rfl⟩ := hp0
   simp only [zca, zna, splice, spliceL]
   refine zT (ot_call (ks := [2, 0]) rfl rfl rfl Tryz.call19 rfl (hS3 ) rfl) ?_
   rintro v0 _ ⟨m0, hp0, rfl⟩
   obtain ⟨C2, hp0⟩ := hp0
   obtain ⟨e2, hp0⟩ := hp0
   obtain ⟨rfl, rfl⟩ := hp0
   simp only [zca, zna, splice, spliceL]
   refine zO 19 rfl ?_
   refine zT (ot_call (ks := []) rfl rfl rfl Tryz.call20 rfl (hF4 ) rfl) ?_
   rintro v0 _ ⟨m0, hp0, rfl⟩
   obtain ⟨A4, hp0⟩ := hp0
   obtain ⟨c4, hp0⟩ := hp0
   obtain ⟨rfl, rfl⟩ := hp0
   simp only [zca, zna, splice, spliceL]
   refine zT (ot_call (ks := [2, 0]) rfl rfl rfl Tryz.call19 rfl (hS4 ) rfl) ?_
   rintro v0 _ ⟨m0, hp0, rfl⟩
   obtain ⟨C3, hp0⟩ := hp0
   obtain ⟨e3, hp0⟩ := hp0
   obtain ⟨rfl, rfl⟩ := hp0
   simp only [zca, zna, splice, spliceL]
   refine zO 15 rfl ?_
   refine at_draw _ [] 1000 [(2, 0), (1, 1), (1, 2), (2, 3), (1, 4), (1, 5), (2, 6), (0, 7)] (by kernel_rfl) (by kernel_rfl) (fun _ s => (s.pulls (ks := [0, 0, 0, 0, 0, 0, 0, 0, 0, 0]) rfl).left) ?_
   refine aq_p (ov_move rfl rfl) rfl rfl rfl ?_
   refine aq_v (ov_indexRd (fun _ s => s.rd (k := 0) rfl) rfl Tryz.underlying35 rfl rfl rfl hget1) rfl rfl rfl ?_
   refine aq_v (ov_loadRd0 (fun _ s => s.rd (k := 0) rfl) rfl rfl rfl hget1 rfl) rfl rfl rfl ?_
   refine aq_p (ov_move rfl rfl) rfl rfl rfl ?_
   refine aq_v (ov_indexRd (fun _ s => s.rd (k := 0) rfl) rfl Tryz.underlying35 rfl rfl rfl hget0) rfl rfl rfl ?_
   refine aq_v (ov_loadRd0 (fun _ s => s.rd (k := 0) rfl) rfl rfl rfl hget0 rfl) rfl rfl rfl ?_
   refine aq_p (ov_build (cs := [_, _, _]) rfl rfl rfl rfl) rfl rfl rfl ?_
   refine aq_t0 (ot_store (k := 10) rfl rfl rfl rfl rfl rfl rfl) rfl rfl ?_
   rintro _ _ ⟨rfl, rfl⟩
   simp only [setAt, splice, spliceL, Value.cells]
   refine ⟨fun _ s => (s.pulls (ks := [0, 0, 0, 0, 0, 0, 0, 0, 0, 0]) rfl).left, ?_⟩
   refine aq_nil ?_
   refine zX 3 rfl ?_
   refine zQ ?_
   refine at_end ?_
   refine at_fin (rsV rfl (res_cellS (k := 10) (vs := [_, _, _]) rfl rfl rfl rfl ⟨rfl, rfl, rfl, trivial⟩)) ?_
   refine ⟨_, ⟨by rw [hmd, hfin, hre]; rfl, rfl⟩, ?_⟩
   exact zE [] [0, 0, 0, 0, 0, 0, 0, 0, 0, 0, 0]
  | false =>
  have hms4 : mstrs I toks4 = [] := by unfold mstrs; rw [hm4]; rfl
  rw [hms4, hm4] at hS4
  cases hm5 : matchF I toks5 with
  | true =>
   have hms : mstrs I toks5 = strsL I := by unfold mstrs; rw [hm5]; rfl
   rw [hms, hm5] at hS5
   have hsl : (strsL I).length = 1 := by rw [match_strs hm5]; decide
   obtain ⟨a0, hget0⟩ : ∃ a, (strsL I)[0]? = some a := ⟨_, List.getElem?_eq_getElem (by omega)⟩
   have hre : refOf I = (5, a0, []) := by unfold refOf; simp [hm5, hm1, hm2, hm3, hm4, hget0]
   refine zV (ov_indexRd (fun _ s => s.rd (k := 0) rfl) rfl Tryz.underlying56 rfl rfl rfl hget) ?_
   refine at_wanted (j := 13) rfl ?_
   refine zV (ov_fieldRd0 (k := 1) (fun _ s => s.rd (k := 0) rfl) rfl rfl hget rfl) ?_
   refine at_wanted (j := 13) rfl ?_
   refine zV (ov_loadRd (fun _ s => s.rd (k := 0) rfl) rfl rfl rfl hget rfl) ?_
   refine zO 4 rfl ?_
   refine zcF rfl (decide_eq_false (by omega)) ?_
   refine zC 8 rfl ?_
   refine zT (ot_call (ks := []) rfl rfl rfl Tryz.call20 rfl (hF1 ) rfl) ?_
   rintro v0 _ ⟨m0, hp0, rfl⟩
   obtain ⟨A1, hp0⟩ := hp0
   obtain ⟨c1, hp0⟩ := hp0
   obtain ⟨rfl, rfl⟩ := hp0
   simp only [zca, zna, splice, spliceL]
   refine zT (ot_call (ks := [1, 0]) rfl rfl rfl Tryz.call19 rfl (hS1 ) rfl) ?_
   rintro v0 _ ⟨m0, hp0, rfl⟩
   obtain ⟨C0, hp0⟩ := hp0
   obtain ⟨e0, hp0⟩ := hp0
   obtain ⟨rfl, rfl⟩ := hp0
   simp only [zca, zna, splice, spliceL]
   refine zO 19 rfl ?_
   refine zT (ot_call (ks := []) rfl rfl rfl Tryz.call20 rfl (hF2 ) rfl) ?_
   rintro v0 _ ⟨m0, hp0, rfl⟩
   obtain ⟨A2, hp0⟩ := hp0
   obtain ⟨c2, hp0⟩ := hp0
   obtain ⟨rfl, rfl⟩ := hp0
   simp only [zca, zna, splice, spliceL]
   refine zT (ot_call (ks := [2, 0]) rfl rfl rfl Tryz.call19 rfl (hS2 ) rfl) ?_
   rintro v0 _ ⟨m0, hp0, rfl⟩
   obtain ⟨C1, hp0⟩ := hp0
   obtain ⟨e1, hp0⟩ := hp0
   obtain ⟨rfl, rfl⟩ := hp0
   simp only [zca, zna, splice, spliceL]
   refine zO 19 rfl ?_
   refine zT (ot_call (ks := []) rfl rfl rfl Tryz.call20 rfl (hF3 ) rfl) ?_
   rintro v0 _ ⟨m0, hp0, rfl⟩
   obtain ⟨A3, hp0⟩ := hp0
   obtain ⟨c3, hp0⟩ := hp0
   obtain ⟨rfl, rfl⟩ := hp0
   simp only [zca, zna, splice, spliceL]
   refine zT (ot_call (ks := [2, 0]) rfl rfl rfl Tryz.call19 rfl (hS3 ) rfl) ?_
   rintro v0 _ ⟨m0, hp0, rfl⟩
   obtain ⟨C2, hp0⟩ := hp0
   obtain ⟨e2, hp0⟩ := hp0
   obtain ⟨rfl, rfl⟩ := hp0
   simp only [zca, zna, splice, spliceL]
   refine zO 19 rfl ?_
   refine zT (ot_call (ks := []) rfl rfl rfl Tryz.call20 rfl (hF4 ) rfl) ?_
   rintro v0 _ ⟨m0, hp0, rfl⟩
   obtain ⟨A4, hp0⟩ := hp0
   obtain ⟨c4, hp0⟩ := hp0
   obtain ⟨rfl, rfl⟩ := hp0
   simp only [zca, zna, splice, spliceL]
   refine zT (ot_call (ks := [2, 0]) rfl rfl rfl Tryz.call19 rfl (hS4 ) rfl) ?_
   rintro v0 _ ⟨m0, hp0, rfl⟩
   obtain ⟨C3, hp0⟩ := hp0
   obtain ⟨e3, hp0⟩ := hp0
   obtain ⟨rfl, rfl⟩ := hp0
   simp only [zca, zna, splice, spliceL]
   refine zO 19 rfl ?_
   refine zT (ot_call (ks := []) rfl rfl rfl Tryz.call20 rfl (hF5 ) rfl) ?_
   rintro v0 _ ⟨m0, hp0, rfl⟩
   obtain ⟨A5, hp0⟩ := hp0
   obtain ⟨c5, hp0⟩ := hp0
   obtain ⟨rfl, rfl⟩ := hp0
   simp only [zca, zna, splice, spliceL]
   refine zT (ot_call (ks := [2, 0]) rfl rfl rfl Tryz.call19 rfl (hS5 ) rfl) ?_
   rintro v0 _ ⟨m0, hp0, rfl⟩
   obtain ⟨C4, hp0⟩ := hp0
   obtain ⟨e4, hp0⟩ := hp0
   obtain ⟨rfl, rfl⟩ := hp0
   simp only [zca, zna, splice, spliceL]
   refine zO 17 rfl ?_
   refine zV (ov_indexRd (fun _ s => s.rd (k := 0) rfl) rfl Tryz.underlying35 rfl rfl rfl hget0) ?_
   refine zV (ov_loadRd0 (fun _ s => s.rd (k := 0) rfl) rfl rfl rfl hget0 rfl) ?_
   refine zV (ov_build (cs := [_, _, _]) rfl rfl rfl rfl) ?_
   refine zS 12 ?_
   simp only [setAt, splice, spliceL, Value.cells]
   refine zO 4 rfl ?_
   refine zQ ?_
   refine at_end ?_
   refine at_fin (rsV rfl (res_cellS (k := 12) (vs := [_, _, _]) rfl rfl rfl rfl ⟨rfl, rfl, rfl, trivial⟩)) ?_
   refine ⟨_, ⟨by rw [hmd, hfin, hre]; rfl, rfl⟩, ?_⟩
   exact zE [] [0, 0, 0, 0, 0, 0, 0, 0, 0, 0, 0, 0, 0]
  | false =>
  have hms5 : mstrs I toks5 = [] := by unfold mstrs; rw [hm5]; rfl
  rw [hms5, hm5] at hS5
  have hre : refOf I = (0, [], []) := by unfold refOf; simp [hm1, hm2, hm3, hm4, hm5]
  refine zV (ov_indexRd (fun _ s => s.rd (k := 0) rfl) rfl Tryz.underlying56 rfl rfl rfl hget) ?_
  refine at_wanted (j := 13) rfl ?_
  refine zV (ov_fieldRd0 (k := 1) (fun _ s => s.rd (k := 0) rfl) rfl rfl hget rfl) ?_
  refine at_wanted (j := 13) rfl ?_
  refine zV (ov_loadRd (fun _ s => s.rd (k := 0) rfl) rfl rfl rfl hget rfl) ?_
  refine zO 4 rfl ?_
  refine zcF rfl (decide_eq_false (by omega)) ?_
  refine zC 8 rfl ?_
  refine zT (ot_call (ks := []) rfl rfl rfl Tryz.call20 rfl (hF1 ) rfl) ?_
  rintro v0 _ ⟨m0, hp0, rfl⟩
  obtain ⟨A1, hp0⟩ := hp0
  obtain ⟨c1, hp0⟩ := hp0
  obtain ⟨rfl, rfl⟩ := hp0
  simp only [zca, zna, splice, spliceL]
  refine zT (ot_call (ks := [1, 0]) rfl rfl rfl Tryz.call19 rfl (hS1 ) rfl) ?_
  rintro v0 _ ⟨m0, hp0, rfl⟩
  obtain ⟨C0, hp0⟩ := hp0
  obtain ⟨e0, hp0⟩ := hp0
  obtain ⟨rfl, rfl⟩ := hp0
  simp only [zca, zna, splice, spliceL]
  refine zO 19 rfl ?_
  refine zT (ot_call (ks := []) rfl rfl rfl Tryz.call20 rfl (hF2 ) rfl) ?_
  rintro v0 _ ⟨m0, hp0, rfl⟩
  obtain ⟨A2, hp0⟩ := hp0
  obtain ⟨c2, hp0⟩ := hp0
  obtain ⟨rfl, rfl⟩ := hp0
  simp only [zca, zna, splice, spliceL]
  refine zT (ot_call (ks := [2, 0]) rfl rfl rfl Tryz.call19 rfl (hS2 ) rfl) ?_
  rintro v0 _ ⟨m0, hp0, rfl⟩
  obtain ⟨C1, hp0⟩ := hp0
  obtain ⟨e1, hp0⟩ := hp0
  obtain ⟨rfl, rfl⟩ := hp0
  simp only [zca, zna, splice, spliceL]
  refine zO 19 rfl ?_
  refine zT (ot_call (ks := []) rfl rfl rfl Tryz.call20 rfl (hF3 ) rfl) ?_
  rintro v0 _ ⟨m0, hp0, rfl⟩
  obtain ⟨A3, hp0⟩ := hp0
  obtain ⟨c3, hp0⟩ := hp0
  obtain ⟨rfl, rfl⟩ := hp0
  simp only [zca, zna, splice, spliceL]
  refine zT (ot_call (ks := [2, 0]) rfl rfl rfl Tryz.call19 rfl (hS3 ) rfl) ?_
  rintro v0 _ ⟨m0, hp0, rfl⟩
  obtain ⟨C2, hp0⟩ := hp0
  obtain ⟨e2, hp0⟩ := hp0
  obtain ⟨rfl, rfl⟩ := hp0
  simp only [zca, zna, splice, spliceL]
  refine zO 19 rfl ?_
  refine zT (ot_call (ks := []) rfl rfl rfl Tryz.call20 rfl (hF4 ) rfl) ?_
  rintro v0 _ ⟨m0, hp0, rfl⟩
  obtain ⟨A4, hp0⟩ := hp0
  obtain ⟨c4, hp0⟩ := hp0
  obtain ⟨rfl, rfl⟩ := hp0
  simp only [zca, zna, splice, spliceL]
  refine zT (ot_call (ks := [2, 0]) rfl rfl rfl Tryz.call19 rfl (hS4 ) rfl) ?_
  rintro v0 _ ⟨m0, hp0, rfl⟩
  obtain ⟨C3, hp0⟩ := hp0
  obtain ⟨e3, hp0⟩ := hp0
  obtain ⟨rfl, rfl⟩ := hp0
  simp only [zca, zna, splice, spliceL]
  refine zO 19 rfl ?_
  refine zT (ot_call (ks := []) rfl rfl rfl Tryz.call20 rfl (hF5 ) rfl) ?_
  rintro v0 _ ⟨m0, hp0, rfl⟩
  obtain ⟨A5, hp0⟩ := hp0
  obtain ⟨c5, hp0⟩ := hp0
  obtain ⟨rfl, rfl⟩ := hp0
  simp only [zca, zna, splice, spliceL]
  refine zT (ot_call (ks := [2, 0]) rfl rfl rfl Tryz.call19 rfl (hS5 ) rfl) ?_
  rintro v0 _ ⟨m0, hp0, rfl⟩
  obtain ⟨C4, hp0⟩ := hp0
  obtain ⟨e4, hp0⟩ := hp0
  obtain ⟨rfl, rfl⟩ := hp0
  simp only [zca, zna, splice, spliceL]
  refine zO 18 rfl ?_
  refine zV (ov_build (cs := [_, _, _]) rfl rfl rfl rfl) ?_
  refine zS 12 ?_
  simp only [setAt, splice, spliceL, Value.cells]
  refine zO 3 rfl ?_
  refine zQ ?_
  refine at_end ?_
  refine at_fin (rsV rfl (res_cellS (k := 12) (vs := [_, _, _]) rfl rfl rfl rfl ⟨rfl, rfl, rfl, trivial⟩)) ?_
  refine ⟨_, ⟨by rw [hmd, hfin, hre]; rfl, rfl⟩, ?_⟩
  exact zE [] [0, 0, 0, 0, 0, 0, 0, 0, 0, 0, 0, 0, 0]
 have hi4 : decide (x.1 = 6) = false := by simp [hx6]
 obtain ⟨I, hI⟩ : ∃ I, I = i' ++ [x] := ⟨_, rfl⟩
 refine zC 7 rfl ?_
 refine zrT 40 rfl (decide_eq_true (by omega)) ?_
 refine zO 3 rfl ?_
 refine at_wanted (j := 3) rfl ?_
 refine zV zI ?_
 refine at_wanted (j := 3) rfl ?_
 refine at_reval 44 (.int .i64 (i'.length : Nat)) rfl (congrArg (Value.int .i64) hlen) ?_
 rw [← hI] at hil hfin hget hi3 him ⊢
 have hF1 := T20 w0 src1 (by decide)
 rw [src1_lex] at hF1
 simp only at hF1
 have hS1 {A B : Option Addr} {c d c' d' : Nat} := T19a w0 (A := A) (B := B) (c := c) (d := d) (c' := c') (d' := d') (l := I) (f := toks1) (by omega) (by decide)
 have hF2 := T20 w0 src2 (by decide)
 rw [src2_lex] at hF2
 simp only at hF2
 have hS2 {A B : Option Addr} {c d c' d' : Nat} := T19a w0 (A := A) (B := B) (c := c) (d := d) (c' := c') (d' := d') (l := I) (f := toks2) (by omega) (by decide)
 have hF3 := T20 w0 src3 (by decide)
 rw [src3_lex] at hF3
 simp only at hF3
 have hS3 {A B : Option Addr} {c d c' d' : Nat} := T19a w0 (A := A) (B := B) (c := c) (d := d) (c' := c') (d' := d') (l := I) (f := toks3) (by omega) (by decide)
 have hF4 := T20 w0 src4 (by decide)
 rw [src4_lex] at hF4
 simp only at hF4
 have hS4 {A B : Option Addr} {c d c' d' : Nat} := T19a w0 (A := A) (B := B) (c := c) (d := d) (c' := c') (d' := d') (l := I) (f := toks4) (by omega) (by decide)
 have hF5 := T20 w0 src5 (by decide)
 rw [src5_lex] at hF5
 simp only at hF5
 have hS5 {A B : Option Addr} {c d c' d' : Nat} := T19a w0 (A := A) (B := B) (c := c) (d := d) (c' := c') (d' := d') (l := I) (f := toks5) (by omega) (by decide)
 cases hm1 : matchF I toks1 with
 | true =>
  have hms : mstrs I toks1 = strsL I := by unfold mstrs; rw [hm1]; rfl
  rw [hms, hm1] at hS1
  have hsl : (strsL I).length = 1 := by rw [match_strs hm1]; decide
  obtain ⟨a0, hget0⟩ : ∃ a, (strsL I)[0]? = some a := ⟨_, List.getElem?_eq_getElem (by omega)⟩
  have hre : refOf I = (1, a0, []) := by unfold refOf; simp [hm1, hget0]
  refine zV (ov_indexRd (fun _ s => s.rd (k := 0) rfl) rfl Tryz.underlying56 rfl rfl rfl hget) ?_
  refine at_wanted (j := 3) rfl ?_
  refine zV (ov_fieldRd0 (k := 0) (fun _ s => s.rd (k := 0) rfl) rfl rfl hget rfl) ?_
  refine at_wanted (j := 3) rfl ?_
  refine zV (ov_loadRd0 (fun _ s => s.rd (k := 0) rfl) rfl rfl rfl hget rfl) ?_
  refine zO 3 rfl ?_
  refine zrF 50 rfl (decide_eq_false (by omega)) ?_
  refine zO 20 rfl ?_
  refine zT (ot_call (ks := []) rfl rfl rfl Tryz.call20 rfl (hF1 ) rfl) ?_
  rintro v0 _ ⟨m0, hp0, rfl⟩
  obtain ⟨A1, hp0⟩ := hp0
  obtain ⟨c1, hp0⟩ := hp0
  obtain ⟨rfl, rfl⟩ := hp0
  simp only [zca, zna, splice, spliceL]
  refine zT (ot_call (ks := [1, 0]) rfl rfl rfl Tryz.call19 rfl (hS1 ) rfl) ?_
  rintro v0 _ ⟨m0, hp0, rfl⟩
  obtain ⟨C0, hp0⟩ := hp0
  obtain ⟨e0, hp0⟩ := hp0
  obtain ⟨rfl, rfl⟩ := hp0
  simp only [zca, zna, splice, spliceL]
  refine zO 17 rfl ?_
  refine zV (ov_indexRd (fun _ s => s.rd (k := 0) rfl) rfl Tryz.underlying35 rfl rfl rfl hget0) ?_
  refine zV (ov_loadRd0 (fun _ s => s.rd (k := 0) rfl) rfl rfl rfl hget0 rfl) ?_
  refine zV (ov_build (cs := [_, _, _]) rfl rfl rfl rfl) ?_
  refine zS 4 ?_
  simp only [setAt, splice, spliceL, Value.cells]
  refine zO 4 rfl ?_
  refine zQ ?_
  refine at_end ?_
  refine at_fin (rsV rfl (res_cellS (k := 4) (vs := [_, _, _]) rfl rfl rfl rfl ⟨rfl, rfl, rfl, trivial⟩)) ?_
  refine ⟨_, ⟨by rw [hmd, hfin, hre]; rfl, rfl⟩, ?_⟩
  exact zE [] [0, 0, 0, 0, 0]
 | false =>
 have hms1 : mstrs I toks1 = [] := by unfold mstrs; rw [hm1]; rfl
 rw [hms1, hm1] at hS1
 cases hm2 : matchF I toks2 with
 | true =>
  have hms : mstrs I toks2 = strsL I := by unfold mstrs; rw [hm2]; rfl
  rw [hms, hm2] at hS2
  have hsl : (strsL I).length = 0 := by rw [match_strs hm2]; decide
  have hre : refOf I = (2, [], []) := by unfold refOf; simp [hm2, hm1]
  refine zV (ov_indexRd (fun _ s => s.rd (k := 0) rfl) rfl Tryz.underlying56 rfl rfl rfl hget) ?_
  refine at_wanted (j := 3) rfl ?_
  refine zV (ov_fieldRd0 (k := 0) (fun _ s => s.rd (k := 0) rfl) rfl rfl hget rfl) ?_
  refine at_wanted (j := 3) rfl ?_
  refine zV (ov_loadRd0 (fun _ s => s.rd (k := 0) rfl) rfl rfl rfl hget rfl) ?_
  refine zO 3 rfl ?_
  refine zrF 50 rfl (decide_eq_false (by omega)) ?_
  refine zO 20 rfl ?_
  refine zT (ot_call (ks := []) rfl rfl rfl Tryz.call20 rfl (hF1 ) rfl) ?_
  rintro v0 _ ⟨m0, hp0, rfl⟩
  obtain ⟨A1, hp0⟩ := hp0
  obtain ⟨c1, hp0⟩ := hp0
  obtain ⟨rfl, rfl⟩ := hp0
  simp only [zca, zna, splice, spliceL]
  refine zT (ot_call (ks := [1, 0]) rfl rfl rfl Tryz.call19 rfl (hS1 ) rfl) ?_
  rintro v0 _ ⟨m0, hp0, rfl⟩
  obtain ⟨C0, hp0⟩ := hp0
  obtain ⟨e0, hp0⟩ := hp0
  obtain ⟨rfl, rfl⟩ := hp0
  simp only [zca, zna, splice, spliceL]
  refine zO 19 rfl ?_
  refine zT (ot_call (ks := []) rfl rfl rfl Tryz.call20 rfl (hF2 ) rfl) ?_
  rintro v0 _ ⟨m0, hp0, rfl⟩
  obtain ⟨A2, hp0⟩ := hp0
  obtain ⟨c2, hp0⟩ := hp0
  obtain ⟨rfl, rfl⟩ := hp0
  simp only [zca, zna, splice, spliceL]
  refine zT (ot_call (ks := [2, 0]) rfl rfl rfl Tryz.call19 rfl (hS2 ) rfl) ?_
  rintro v0 _ ⟨m0, hp0, rfl⟩
  obtain ⟨C1, hp0⟩ := hp0
  obtain ⟨e1, hp0⟩ := hp0
  obtain ⟨rfl, rfl⟩ := hp0
  simp only [zca, zna, splice, spliceL]
  refine zO 16 rfl ?_
  refine zV (ov_build (cs := [_, _, _]) rfl rfl rfl rfl) ?_
  refine zS 6 ?_
  simp only [setAt, splice, spliceL, Value.cells]
  refine zO 4 rfl ?_
  refine zQ ?_
  refine at_end ?_
  refine at_fin (rsV rfl (res_cellS (k := 6) (vs := [_, _, _]) rfl rfl rfl rfl ⟨rfl, rfl, rfl, trivial⟩)) ?_
  refine ⟨_, ⟨by rw [hmd, hfin, hre]; rfl, rfl⟩, ?_⟩
  exact zE [] [0, 0, 0, 0, 0, 0, 0]
 | false =>
 have hms2 : mstrs I toks2 = [] := by unfold mstrs; rw [hm2]; rfl
 rw [hms2, hm2] at hS2
 cases hm3 : matchF I toks3 with
 | true =>
  have hms : mstrs I toks3 = strsL I := by unfold mstrs; rw [hm3]; rfl
  rw [hms, hm3] at hS3
  have hsl : (strsL I).length = 2 := by rw [match_strs hm3]; decide
  obtain ⟨a0, hget0⟩ : ∃ a, (strsL I)[0]? = some a := ⟨_, List.getElem?_eq_getElem (by omega)⟩
  obtain ⟨a1, hget1⟩ : ∃ a, (strsL I)[1]? = some a := ⟨_, List.getElem?_eq_getElem (by omega)⟩
  have hre : refOf I = (3, a0, a1) := by unfold refOf; simp [hm3, hm1, hm2, hget0, hget1]
  refine zV (ov_indexRd (fun _ s => s.rd (k := 0) rfl) rfl Tryz.underlying56 rfl rfl rfl hget) ?_
  refine at_wanted (j := 3) rfl ?_
  refine zV (ov_fieldRd0 (k := 0) (fun _ s => s.rd (k := 0) rfl) rfl rfl hget rfl) ?_
  refine at_wanted (j := 3) rfl ?_
  refine zV (ov_loadRd0 (fun _ s => s.rd (k := 0) rfl) rfl rfl rfl hget rfl) ?_
  refine zO 3 rfl ?_
  refine zrF 50 rfl (decide_eq_false (by omega)) ?_
  refine zO 20 rfl ?_
  refine zT (ot_call (ks := []) rfl rfl rfl Tryz.call20 rfl (hF1 ) rfl) ?_
  rintro v0 _ ⟨m0, hp0, rfl⟩
  obtain ⟨A1, hp0⟩ := hp0
  obtain ⟨c1, hp0⟩ := hp0
  obtain ⟨rfl, rfl⟩ := hp0
  simp only [zca, zna, splice, spliceL]
  refine zT (ot_call (ks := [1, 0]) rfl rfl rfl Tryz.call19 rfl (hS1 ) rfl) ?_
  rintro v0 _ ⟨m0, hp0, rfl⟩
  obtain ⟨C0, hp0⟩ := hp0
  obtain ⟨e0, hp0⟩ := hp0
  obtain ⟨rfl, rfl⟩ := hp0
  simp only [zca, zna, splice, spliceL]
  refine zO 19 rfl ?_
  refine zT (ot_call (ks := []) rfl rfl rfl Tryz.call20 rfl (hF2 ) rfl) ?_
  rintro v0 _ ⟨m0, hp0, rfl⟩
  obtain ⟨A2, hp0⟩ := hp0
  obtain ⟨c2, hp0⟩ := hp0
  obtain ⟨rfl, rfl⟩ := hp0
  simp only [zca, zna, splice, spliceL]
  refine zT (ot_call (ks := [2, 0]) rfl rfl rfl Tryz.call19 rfl (hS2 ) rfl) ?_
  rintro v0 _ ⟨m0, hp0, rfl⟩
  obtain ⟨C1, hp0⟩ := hp0
  obtain ⟨e1, hp0⟩ := hp0
  obtain ⟨rfl, rfl⟩ := hp0
  simp only [zca, zna, splice, spliceL]
  refine zO 19 rfl ?_
  refine zT (ot_call (ks := []) rfl rfl rfl Tryz.call20 rfl (hF3 ) rfl) ?_
  rintro v0 _ ⟨m0, hp0, rfl⟩
  obtain ⟨A3, hp0⟩ := hp0
  obtain ⟨c3, hp0⟩ := hp0
  obtain ⟨rfl, rfl⟩ := hp0
  simp only [zca, zna, splice, spliceL]
  refine zT (ot_call (ks := [2, 0]) rfl rfl rfl Tryz.call19 rfl (hS3 ) rfl) ?_
  rintro v0 _ ⟨m0, hp0, rfl⟩
  obtain ⟨C2, hp0⟩ := hp0
  obtain ⟨e2, hp0⟩ := hp0
  obtain ⟨rfl, rfl⟩ := hp0
  simp only [zca, zna, splice, spliceL]
  refine zO 15 rfl ?_
  refine at_draw _ [] 1000 [(2, 0), (1, 1), (1, 2), (2, 3), (1, 4), (1, 5), (2, 6), (0, 7)] (by kernel_rfl) (by kernel_rfl) (fun _ s => (s.pulls (ks := [0, 0, 0, 0, 0, 0, 0, 0]) rfl).left) ?_
  refine aq_p (ov_move rfl rfl) rfl rfl rfl ?_
  refine aq_v (ov_indexRd (fun _ s => s.rd (k := 0) rfl) rfl Tryz.underlying35 rfl rfl rfl hget0) rfl rfl rfl ?_
  refine aq_v (ov_loadRd0 (fun _ s => s.rd (k := 0) rfl) rfl rfl rfl hget0 rfl) rfl rfl rfl ?_
  refine aq_p (ov_move rfl rfl) rfl rfl rfl ?_
  refine aq_v (ov_indexRd (fun _ s => s.rd (k := 0) rfl) rfl Tryz.underlying35 rfl rfl rfl hget1) rfl rfl rfl ?_
  refine aq_v (ov_loadRd0 (fun _ s => s.rd (k := 0) rfl) rfl rfl rfl hget1 rfl) rfl rfl rfl ?_
  refine aq_p (ov_build (cs := [_, _, _]) rfl rfl rfl rfl) rfl rfl rfl ?_
  refine aq_t0 (ot_store (k := 8) rfl rfl rfl rfl rfl rfl rfl) rfl rfl ?_
  rintro _ _ ⟨rfl, rfl⟩
  simp only [setAt, splice, spliceL, Value.cells]
  refine ⟨fun _ s => (s.pulls (ks := [0, 0, 0, 0, 0, 0, 0, 0]) rfl).left, ?_⟩
  refine aq_nil ?_
  refine zX 3 rfl ?_
  refine zQ ?_
  refine at_end ?_
  refine at_fin (rsV rfl (res_cellS (k := 8) (vs := [_, _, _]) rfl rfl rfl rfl ⟨rfl, rfl, rfl, trivial⟩)) ?_
  refine ⟨_, ⟨by rw [hmd, hfin, hre]; rfl, rfl⟩, ?_⟩
  exact zE [] [0, 0, 0, 0, 0, 0, 0, 0, 0]
 | false =>
 have hms3 : mstrs I toks3 = [] := by unfold mstrs; rw [hm3]; rfl
 rw [hms3, hm3] at hS3
 cases hm4 : matchF I toks4 with
 | true =>
  have hms : mstrs I toks4 = strsL I := by unfold mstrs; rw [hm4]; rfl
  rw [hms, hm4] at hS4
  have hsl : (strsL I).length = 2 := by rw [match_strs hm4]; decide
  obtain ⟨a0, hget0⟩ : ∃ a, (strsL I)[0]? = some a := ⟨_, List.getElem?_eq_getElem (by omega)⟩
  obtain ⟨a1, hget1⟩ : ∃ a, (strsL I)[1]? = some a := ⟨_, List.getElem?_eq_getElem (by omega)⟩
  have hre : refOf I = (4, a1, a0) := by unfold refOf; simp [hm4, hm1, hm2, hm3, hget0, hget1]
  refine zV (ov_indexRd (fun _ s => s.rd (k := 0) rfl) rfl Tryz.underlying56 rfl rfl rfl hget) ?_
  refine at_wanted (j := 3) rfl ?_
  refine zV (ov_fieldRd0 (k := 0) (fun _ s => s.rd (k := 0) rfl) rfl rfl hget rfl) ?_
  refine at_wanted (j := 3) rfl ?_
  refine zV (ov_loadRd0 (fun _ s => s.rd (k := 0) rfl) rfl rfl rfl hget rfl) ?_
  refine zO 3 rfl ?_
  refine zrF 50 rfl (decide_eq_false (by omega)) ?_
  refine zO 20 rfl ?_
  refine zT (ot_call (ks := []) rfl rfl rfl Tryz.call20 rfl (hF1 ) rfl) ?_
  rintro v0 _ ⟨m0, hp0, rfl⟩
  obtain ⟨A1, hp0⟩ := hp0
  obtain ⟨c1, hp0⟩ := hp0
  obtain ⟨rfl, rfl⟩ := hp0
  simp only [zca, zna, splice, spliceL]
  refine zT (ot_call (ks := [1, 0]) rfl rfl rfl Tryz.call19 rfl (hS1 ) rfl) ?_
  rintro v0 _ ⟨m0, hp0, rfl⟩
  obtain ⟨C0, hp0⟩ := hp0
  obtain ⟨e0, hp0⟩ := hp0
  obtain ⟨rfl, rfl⟩ := hp0
  simp only [zca, zna, splice, spliceL]
  refine zO 19 rfl ?_
  refine zT (ot_call (ks := []) rfl rfl rfl Tryz.call20 rfl (hF2 ) rfl) ?_
  rintro v0 _ ⟨m0, hp0, rfl⟩
  obtain ⟨A2, hp0⟩ := hp0
  obtain ⟨c2, hp0⟩ := hp0
  obtain ⟨rfl, rfl⟩ := hp0
  simp only [zca, zna, splice, spliceL]
  refine zT (ot_call (ks := [2, 0]) rfl rfl rfl Tryz.call19 rfl (hS2 ) rfl) ?_
  rintro v0 _ ⟨m0, hp0, rfl⟩
  obtain ⟨C1, hp0⟩ := hp0
  obtain ⟨e1, hp0⟩ := hp0
  obtain ⟨rfl, rfl⟩ := hp0
  simp only [zca, zna, splice, spliceL]
  refine zO 19 rfl ?_
  refine zT (ot_call (ks := []) rfl rfl rfl Tryz.call20 rfl (hF3 ) rfl) ?_
  rintro v0 _ ⟨m0, hp0, rfl⟩
  obtain ⟨A3, hp0⟩ := hp0
  obtain ⟨c3, hp0⟩ := hp0
  obtain ⟨rfl, rfl⟩ := hp0
  simp only [zca, zna, splice, spliceL]
  refine zT (ot_call (ks := [2, 0]) rfl rfl rfl Tryz.call19 rfl (hS3 ) rfl) ?_
  rintro v0 _ ⟨m0, hp0, rfl⟩
  obtain ⟨C2, hp0⟩ := hp0
  obtain ⟨e2, hp0⟩ := hp0
  obtain ⟨rfl, rfl⟩ := hp0
  simp only [zca, zna, splice, spliceL]
  refine zO 19 rfl ?_
  refine zT (ot_call (ks := []) rfl rfl rfl Tryz.call20 rfl (hF4 ) rfl) ?_
  rintro v0 _ ⟨m0, hp0, rfl⟩
  obtain ⟨A4, hp0⟩ := hp0
  obtain ⟨c4, hp0⟩ := hp0
  obtain ⟨rfl, rfl⟩ := hp0
  simp only [zca, zna, splice, spliceL]
  refine zT (ot_call (ks := [2, 0]) rfl rfl rfl Tryz.call19 rfl (hS4 ) rfl) ?_
  rintro v0 _ ⟨m0, hp0, rfl⟩
  obtain ⟨C3, hp0⟩ := hp0
  obtain ⟨e3, hp0⟩ := hp0
  obtain ⟨rfl, rfl⟩ := hp0
  simp only [zca, zna, splice, spliceL]
  refine zO 15 rfl ?_
  refine at_draw _ [] 1000 [(2, 0), (1, 1), (1, 2), (2, 3), (1, 4), (1, 5), (2, 6), (0, 7)] (by kernel_rfl) (by kernel_rfl) (fun _ s => (s.pulls (ks := [0, 0, 0, 0, 0, 0, 0, 0, 0, 0]) rfl).left) ?_
  refine aq_p (ov_move rfl rfl) rfl rfl rfl ?_
  refine aq_v (ov_indexRd (fun _ s => s.rd (k := 0) rfl) rfl Tryz.underlying35 rfl rfl rfl hget1) rfl rfl rfl ?_
  refine aq_v (ov_loadRd0 (fun _ s => s.rd (k := 0) rfl) rfl rfl rfl hget1 rfl) rfl rfl rfl ?_
  refine aq_p (ov_move rfl rfl) rfl rfl rfl ?_
  refine aq_v (ov_indexRd (fun _ s => s.rd (k := 0) rfl) rfl Tryz.underlying35 rfl rfl rfl hget0) rfl rfl rfl ?_
  refine aq_v (ov_loadRd0 (fun _ s => s.rd (k := 0) rfl) rfl rfl rfl hget0 rfl) rfl rfl rfl ?_
  refine aq_p (ov_build (cs := [_, _, _]) rfl rfl rfl rfl) rfl rfl rfl ?_
  refine aq_t0 (ot_store (k := 10) rfl rfl rfl rfl rfl rfl rfl) rfl rfl ?_
  rintro _ _ ⟨rfl, rfl⟩
  simp only [setAt, splice, spliceL, Value.cells]
  refine ⟨fun _ s => (s.pulls (ks := [0, 0, 0, 0, 0, 0, 0, 0, 0, 0]) rfl).left, ?_⟩
  refine aq_nil ?_
  refine zX 3 rfl ?_
  refine zQ ?_
  refine at_end ?_
  refine at_fin (rsV rfl (res_cellS (k := 10) (vs := [_, _, _]) rfl rfl rfl rfl ⟨rfl, rfl, rfl, trivial⟩)) ?_
  refine ⟨_, ⟨by rw [hmd, hfin, hre]; rfl, rfl⟩, ?_⟩
  exact zE [] [0, 0, 0, 0, 0, 0, 0, 0, 0, 0, 0]
 | false =>
 have hms4 : mstrs I toks4 = [] := by unfold mstrs; rw [hm4]; rfl
 rw [hms4, hm4] at hS4
 cases hm5 : matchF I toks5 with
 | true =>
  have hms : mstrs I toks5 = strsL I := by unfold mstrs; rw [hm5]; rfl
  rw [hms, hm5] at hS5
  have hsl : (strsL I).length = 1 := by rw [match_strs hm5]; decide
  obtain ⟨a0, hget0⟩ : ∃ a, (strsL I)[0]? = some a := ⟨_, List.getElem?_eq_getElem (by omega)⟩
  have hre : refOf I = (5, a0, []) := by unfold refOf; simp [hm5, hm1, hm2, hm3, hm4, hget0]
  refine zV (ov_indexRd (fun _ s => s.rd (k := 0) rfl) rfl Tryz.underlying56 rfl rfl rfl hget) ?_
  refine at_wanted (j := 3) rfl ?_
  refine zV (ov_fieldRd0 (k := 0) (fun _ s => s.rd (k := 0) rfl) rfl rfl hget rfl) ?_
  refine at_wanted (j := 3) rfl ?_
  refine zV (ov_loadRd0 (fun _ s => s.rd (k := 0) rfl) rfl rfl rfl hget rfl) ?_
  refine zO 3 rfl ?_
  refine zrF 50 rfl (decide_eq_false (by omega)) ?_
  refine zO 20 rfl ?_
  refine zT (ot_call (ks := []) rfl rfl rfl Tryz.call20 rfl (hF1 ) rfl) ?_
  rintro v0 _ ⟨m0, hp0, rfl⟩
  obtain ⟨A1, hp0⟩ := hp0
  obtain ⟨c1, hp0⟩ := hp0
  obtain ⟨rfl, rfl⟩ := hp0
  simp only [zca, zna, splice, spliceL]
  refine zT (ot_call (ks := [1, 0]) rfl rfl rfl Tryz.call19 rfl (hS1 ) rfl) ?_
  rintro v0 _ ⟨m0, hp0, rfl⟩
  obtain ⟨C0, hp0⟩ := hp0
  obtain ⟨e0, hp0⟩ := hp0
  obtain ⟨rfl, rfl⟩ := hp0
  simp only [zca, zna, splice, spliceL]
  refine zO 19 rfl ?_
  refine zT (ot_call (ks := []) rfl rfl rfl Tryz.call20 rfl (hF2 ) rfl) ?_
  rintro v0 _ ⟨m0, hp0, rfl⟩
  obtain ⟨A2, hp0⟩ := hp0
  obtain ⟨c2, hp0⟩ := hp0
  obtain ⟨rfl, rfl⟩ := hp0
  simp only [zca, zna, splice, spliceL]
  refine zT (ot_call (ks := [2, 0]) rfl rfl rfl Tryz.call19 rfl (hS2 ) rfl) ?_
  rintro v0 _ ⟨m0, hp0, rfl⟩
  obtain ⟨C1, hp0⟩ := hp0
  obtain ⟨e1, hp0⟩ := hp0
  obtain ⟨rfl, rfl⟩ := hp0
  simp only [zca, zna, splice, spliceL]
  refine zO 19 rfl ?_
  refine zT (ot_call (ks := []) rfl rfl rfl Tryz.call20 rfl (hF3 ) rfl) ?_
  rintro v0 _ ⟨m0, hp0, rfl⟩
  obtain ⟨A3, hp0⟩ := hp0
  obtain ⟨c3, hp0⟩ := hp0
  obtain ⟨rfl, rfl⟩ := hp0
  simp only [zca, zna, splice, spliceL]
  refine zT (ot_call (ks := [2, 0]) rfl rfl rfl Tryz.call19 rfl (hS3 ) rfl) ?_
  rintro v0 _ ⟨m0, hp0, rfl⟩
  obtain ⟨C2, hp0⟩ := hp0
  obtain ⟨e2, hp0⟩ := hp0
  obtain ⟨rfl, rfl⟩ := hp0
  simp only [zca, zna, splice, spliceL]
  refine zO 19 rfl ?_
  refine zT (ot_call (ks := []) rfl rfl rfl Tryz.call20 rfl (hF4 ) rfl) ?_
  rintro v0 _ ⟨m0, hp0, rfl⟩
  obtain ⟨A4, hp0⟩ := hp0
  obtain ⟨c4, hp0⟩ := hp0
  obtain ⟨rfl, rfl⟩ := hp0
  simp only [zca, zna, splice, spliceL]
  refine zT (ot_call (ks := [2, 0]) rfl rfl rfl Tryz.call19 rfl (hS4 ) rfl) ?_
  rintro v0 _ ⟨m0, hp0, rfl⟩
  obtain ⟨C3, hp0⟩ := hp0
  obtain ⟨e3, hp0⟩ := hp0
  obtain ⟨rfl, rfl⟩ := hp0
  simp only [zca, zna, splice, spliceL]
  refine zO 19 rfl ?_
  refine zT (ot_call (ks := []) rfl rfl rfl Tryz.call20 rfl (hF5 ) rfl) ?_
  rintro v0 _ ⟨m0, hp0, rfl⟩
  obtain ⟨A5, hp0⟩ := hp0
  obtain ⟨c5, hp0⟩ := hp0
  obtain ⟨rfl, rfl⟩ := hp0
  simp only [zca, zna, splice, spliceL]
  refine zT (ot_call (ks := [2, 0]) rfl rfl rfl Tryz.call19 rfl (hS5 ) rfl) ?_
  rintro v0 _ ⟨m0, hp0, rfl⟩
  obtain ⟨C4, hp0⟩ := hp0
  obtain ⟨e4, hp0⟩ := hp0
  obtain ⟨rfl, rfl⟩ := hp0
  simp only [zca, zna, splice, spliceL]
  refine zO 17 rfl ?_
  refine zV (ov_indexRd (fun _ s => s.rd (k := 0) rfl) rfl Tryz.underlying35 rfl rfl rfl hget0) ?_
  refine zV (ov_loadRd0 (fun _ s => s.rd (k := 0) rfl) rfl rfl rfl hget0 rfl) ?_
  refine zV (ov_build (cs := [_, _, _]) rfl rfl rfl rfl) ?_
  refine zS 12 ?_
  simp only [setAt, splice, spliceL, Value.cells]
  refine zO 4 rfl ?_
  refine zQ ?_
  refine at_end ?_
  refine at_fin (rsV rfl (res_cellS (k := 12) (vs := [_, _, _]) rfl rfl rfl rfl ⟨rfl, rfl, rfl, trivial⟩)) ?_
  refine ⟨_, ⟨by rw [hmd, hfin, hre]; rfl, rfl⟩, ?_⟩
  exact zE [] [0, 0, 0, 0, 0, 0, 0, 0, 0, 0, 0, 0, 0]
 | false =>
 have hms5 : mstrs I toks5 = [] := by unfold mstrs; rw [hm5]; rfl
 rw [hms5, hm5] at hS5
 have hre : refOf I = (0, [], []) := by unfold refOf; simp [hm1, hm2, hm3, hm4, hm5]
 refine zV (ov_indexRd (fun _ s => s.rd (k := 0) rfl) rfl Tryz.underlying56 rfl rfl rfl hget) ?_
 refine at_wanted (j := 3) rfl ?_
 refine zV (ov_fieldRd0 (k := 0) (fun _ s => s.rd (k := 0) rfl) rfl rfl hget rfl) ?_
 refine at_wanted (j := 3) rfl ?_
 refine zV (ov_loadRd0 (fun _ s => s.rd (k := 0) rfl) rfl rfl rfl hget rfl) ?_
 refine zO 3 rfl ?_
 refine zrF 50 rfl (decide_eq_false (by omega)) ?_
 refine zO 20 rfl ?_
 refine zT (ot_call (ks := []) rfl rfl rfl Tryz.call20 rfl (hF1 ) rfl) ?_
 rintro v0 _ ⟨m0, hp0, rfl⟩
 obtain ⟨A1, hp0⟩ := hp0
 obtain ⟨c1, hp0⟩ := hp0
 obtain ⟨rfl, rfl⟩ := hp0
 simp only [zca, zna, splice, spliceL]
 refine zT (ot_call (ks := [1, 0]) rfl rfl rfl Tryz.call19 rfl (hS1 ) rfl) ?_
 rintro v0 _ ⟨m0, hp0, rfl⟩
 obtain ⟨C0, hp0⟩ := hp0
 obtain ⟨e0, hp0⟩ := hp0
 obtain ⟨rfl, rfl⟩ := hp0
 simp only [zca, zna, splice, spliceL]
 refine zO 19 rfl ?_
 refine zT (ot_call (ks := []) rfl rfl rfl Tryz.call20 rfl (hF2 ) rfl) ?_
 rintro v0 _ ⟨m0, hp0, rfl⟩
 obtain ⟨A2, hp0⟩ := hp0
 obtain ⟨c2, hp0⟩ := hp0
 obtain ⟨rfl, rfl⟩ := hp0
 simp only [zca, zna, splice, spliceL]
 refine zT (ot_call (ks := [2, 0]) rfl rfl rfl Tryz.call19 rfl (hS2 ) rfl) ?_
 rintro v0 _ ⟨m0, hp0, rfl⟩
 obtain ⟨C1, hp0⟩ := hp0
 obtain ⟨e1, hp0⟩ := hp0
 obtain ⟨rfl, rfl⟩ := hp0
 simp only [zca, zna, splice, spliceL]
 refine zO 19 rfl ?_
 refine zT (ot_call (ks := []) rfl rfl rfl Tryz.call20 rfl (hF3 ) rfl) ?_
 rintro v0 _ ⟨m0, hp0, rfl⟩
 obtain ⟨A3, hp0⟩ := hp0
 obtain ⟨c3, hp0⟩ := hp0
 obtain ⟨rfl, rfl⟩ := hp0
 simp only [zca, zna, splice, spliceL]
 refine zT (ot_call (ks := [2, 0]) rfl rfl rfl Tryz.call19 rfl (hS3 ) rfl) ?_
 rintro v0 _ ⟨m0, hp0, rfl⟩
 obtain ⟨C2, hp0⟩ := hp0
 obtain ⟨e2, hp0⟩ := hp0
 obtain ⟨rfl, rfl⟩ := hp0
 simp only [zca, zna, splice, spliceL]
 refine zO 19 rfl ?_
 refine zT (ot_call (ks := []) rfl rfl rfl Tryz.call20 rfl (hF4 ) rfl) ?_
 rintro v0 _ ⟨m0, hp0, rfl⟩
 obtain ⟨A4, hp0⟩ := hp0
 obtain ⟨c4, hp0⟩ := hp0
 obtain ⟨rfl, rfl⟩ := hp0
 simp only [zca, zna, splice, spliceL]
 refine zT (ot_call (ks := [2, 0]) rfl rfl rfl Tryz.call19 rfl (hS4 ) rfl) ?_
 rintro v0 _ ⟨m0, hp0, rfl⟩
 obtain ⟨C3, hp0⟩ := hp0
 obtain ⟨e3, hp0⟩ := hp0
 obtain ⟨rfl, rfl⟩ := hp0
 simp only [zca, zna, splice, spliceL]
 refine zO 19 rfl ?_
 refine zT (ot_call (ks := []) rfl rfl rfl Tryz.call20 rfl (hF5 ) rfl) ?_
 rintro v0 _ ⟨m0, hp0, rfl⟩
 obtain ⟨A5, hp0⟩ := hp0
 obtain ⟨c5, hp0⟩ := hp0
 obtain ⟨rfl, rfl⟩ := hp0
 simp only [zca, zna, splice, spliceL]
 refine zT (ot_call (ks := [2, 0]) rfl rfl rfl Tryz.call19 rfl (hS5 ) rfl) ?_
 rintro v0 _ ⟨m0, hp0, rfl⟩
 obtain ⟨C4, hp0⟩ := hp0
 obtain ⟨e4, hp0⟩ := hp0
 obtain ⟨rfl, rfl⟩ := hp0
 simp only [zca, zna, splice, spliceL]
 refine zO 18 rfl ?_
 refine zV (ov_build (cs := [_, _, _]) rfl rfl rfl rfl) ?_
 refine zS 12 ?_
 simp only [setAt, splice, spliceL, Value.cells]
 refine zO 3 rfl ?_
 refine zQ ?_
 refine at_end ?_
 refine at_fin (rsV rfl (res_cellS (k := 12) (vs := [_, _, _]) rfl rfl rfl rfl ⟨rfl, rfl, rfl, trivial⟩)) ?_
 refine ⟨_, ⟨by rw [hmd, hfin, hre]; rfl, rfl⟩, ?_⟩
 exact zE [] [0, 0, 0, 0, 0, 0, 0, 0, 0, 0, 0, 0, 0]
end Go.Proofs.YtmedbdcjniggcaaGreatDoor
