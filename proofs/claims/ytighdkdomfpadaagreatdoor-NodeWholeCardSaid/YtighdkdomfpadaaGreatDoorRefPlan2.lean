/- The reference of plans, walked: Same, Texts, Reads. -/
import Derived.Test.YtighdkdomfpadaaGreatDoorProg
import Derived.Test.YtighdkdomfpadaaGreatDoorRefPlan
import Derived.Test.YtighdkdomfpadaaGreatDoorSLB
import Derived.KernelRfl
set_option linter.unusedSimpArgs false
set_option linter.unusedVariables false
set_option maxRecDepth 100000
set_option maxHeartbeats 4000000
namespace Go.Proofs.YtighdkdomfpadaaGreatDoor
open Go Go.Proofs.YtighdkdomfpadaaGreatDoor.SL Go.RowKit
theorem T14 (w0 : World) {A B : Option Addr} {c d c' d' : Nat} {xs ys : List BL} (hm : xs.length ≤ 1000000000000) (hm2 : ys.length ≤ 1000000000000) :
 Tri Tryz.prog w0 14 [.slice A xs.length c, .slice B ys.length d] [Row bsE 9 1 A c' xs, Row bsE 9 1 B d' ys] fun v m => v = .bool (decide (xs = ys)) ∧ m = [Row bsE 9 1 A c' xs, Row bsE 9 1 B d' ys] := by
 refine tri_k Tryz.func14 rfl rfl fun F => ?_
 simp only [Tryz.ntmps14, argEnv, List.cons_append, List.nil_append]
 by_cases hil : xs.length = ys.length
 ·refine zH fun zq zQ => ?_
  refine zC 15 rfl ?_
  refine zcF rfl (by first | assumption | (rw [Bool.not_eq_false']; exact decide_eq_true (by omega))) ?_
  refine zC 9 rfl ?_
  refine at_loopK [11, 12, 13, 14, 17, 18, 19, 20, 21, 22, 23, 24, 25, 4, 15, 16, 5] (fun k => k ≤ xs.length ∧ xs.take k = ys.take k) (fun k => [(5, .int .i64 (k : Nat))]) (fun _ l => l) (fun k => xs.length - k) 0 ⟨Nat.zero_le _, rfl⟩ ⟨rfl, trivial⟩ (fun _ s => s) ?_
  rintro k ⟨hk, hb⟩
  rcases Nat.lt_or_ge k xs.length with hlt | hge
  ·have hi1 : decide ((k : Int) < xs.length) = true := decide_eq_true (by omega)
   obtain ⟨x, hget⟩ : ∃ x, xs[k]? = some x := ⟨_, List.getElem?_eq_getElem hlt⟩
   obtain ⟨y, hget2⟩ : ∃ y, ys[k]? = some y := ⟨_, List.getElem?_eq_getElem (by omega)⟩
   by_cases he : x = y
   ·have hi2 : (!decide (x = y)) = false := by simp [he]
    refine zC 9 rfl ?_
    refine zcT rfl (decide_eq_true (by omega)) ?_
    refine zC 5 rfl ?_
    refine at_draw _ [] 1000 [(2, 0), (2, 1), (1, 2), (1, 3), (2, 4), (2, 5), (1, 6), (1, 7), (2, 8)] (by kernel_rfl) (by kernel_rfl) (fun _ s => (s.pulls (ks := [0, 0]) rfl).left) ?_
    refine aq_p (ov_move rfl rfl) rfl rfl rfl ?_
    refine aq_p (ov_move rfl rfl) rfl rfl rfl ?_
    refine aq_v (ov_indexRd (fun _ s => s.rd (k := 0) rfl) rfl Tryz.underlying22 rfl rfl rfl hget) rfl rfl rfl ?_
    refine aq_v (ov_loadRd0 (fun _ s => s.rd (k := 0) rfl) rfl rfl rfl hget rfl) rfl rfl rfl ?_
    refine aq_p (ov_move rfl rfl) rfl rfl rfl ?_
    refine aq_p (ov_move rfl rfl) rfl rfl rfl ?_
    refine aq_v (ov_indexRd (fun _ s => s.rd (k := 1) rfl) rfl Tryz.underlying22 rfl rfl rfl hget2) rfl rfl rfl ?_
    refine aq_v (ov_loadRd0 (fun _ s => s.rd (k := 1) rfl) rfl rfl rfl hget2 rfl) rfl rfl rfl ?_
    refine aq_p (ov_strL rfl rfl rfl rfl) rfl rfl rfl ?_
    refine aq_nil ?_
    refine zX 1 rfl ?_
    refine zcF rfl (by first | assumption | (rw [Bool.not_eq_false']; exact decide_eq_true (by omega))) ?_
    refine zC 5 rfl ?_
    refine zV zI ?_
    refine zOR 3 rfl ?_
    refine at_roundF (k + 1) ⟨hlt, by rw [List.take_add_one, List.take_add_one, hget, hget2, he, hb]⟩ (by omega) ⟨rfl, trivial⟩ rfl ?_
    exact zE [0, 0] []
   ·have hi2 : (!decide (x = y)) = true := by simp [he]
    have hne : ¬ xs = ys := fun e => by subst e; rw [hget] at hget2; exact he (Option.some.inj hget2)
    refine zC 9 rfl ?_
    refine zcT rfl (decide_eq_true (by omega)) ?_
    refine zC 5 rfl ?_
    refine at_draw _ [] 1000 [(2, 0), (2, 1), (1, 2), (1, 3), (2, 4), (2, 5), (1, 6), (1, 7), (2, 8)] (by kernel_rfl) (by kernel_rfl) (fun _ s => (s.pulls (ks := [0, 0]) rfl).left) ?_
    refine aq_p (ov_move rfl rfl) rfl rfl rfl ?_
    refine aq_p (ov_move rfl rfl) rfl rfl rfl ?_
    refine aq_v (ov_indexRd (fun _ s => s.rd (k := 0) rfl) rfl Tryz.underlying22 rfl rfl rfl hget) rfl rfl rfl ?_
    refine aq_v (ov_loadRd0 (fun _ s => s.rd (k := 0) rfl) rfl rfl rfl hget rfl) rfl rfl rfl ?_
    refine aq_p (ov_move rfl rfl) rfl rfl rfl ?_
    refine aq_p (ov_move rfl rfl) rfl rfl rfl ?_
    refine aq_v (ov_indexRd (fun _ s => s.rd (k := 1) rfl) rfl Tryz.underlying22 rfl rfl rfl hget2) rfl rfl rfl ?_
    refine aq_v (ov_loadRd0 (fun _ s => s.rd (k := 1) rfl) rfl rfl rfl hget2 rfl) rfl rfl rfl ?_
    refine aq_p (ov_strL rfl rfl rfl rfl) rfl rfl rfl ?_
    refine aq_nil ?_
    refine zX 1 rfl ?_
    refine zcT rfl (by first | assumption | (rw [Bool.not_eq_true']; exact decide_eq_false (by omega))) ?_
    refine zC 11 rfl ?_
    refine zQ ?_
    refine at_end ?_
    refine at_fin (rsV rfl (res_tmp rfl)) ?_
    refine ⟨_, ⟨by simp [hne], rfl⟩, ?_⟩
    exact zE [0, 0] []
  ·have hi1 : decide ((k : Int) < xs.length) = false := decide_eq_false (by omega)
   rw [List.take_of_length_le hge, List.take_of_length_le (by omega)] at hb
   refine zC 9 rfl ?_
   refine zcF rfl (decide_eq_false (by omega)) ?_
   refine zC 11 rfl ?_
   refine zQ ?_
   refine at_end ?_
   refine at_fin (rsV rfl (res_tmp rfl)) ?_
   refine ⟨_, ⟨by simp [hb], rfl⟩, ?_⟩
   exact zE [0, 0] []
 ·have hne : ¬ xs = ys := fun e => hil (by rw [e])
  have hi1 : (!decide ((xs.length : Int) = ys.length)) = true := by simp; omega
  refine zH fun zq zQ => ?_
  refine zC 15 rfl ?_
  refine zcT rfl (by first | assumption | (rw [Bool.not_eq_true']; exact decide_eq_false (by omega))) ?_
  refine zC 7 rfl ?_
  refine zQ ?_
  refine at_end ?_
  refine at_fin (rsV rfl (res_tmp rfl)) ?_
  refine ⟨_, ⟨by simp [hne], rfl⟩, ?_⟩
  exact zE [0, 0] []
theorem pr_eq (a b : PR) : (decide ((⟨a.1.toArray⟩ : ByteArray) = ⟨b.1.toArray⟩) && decide ((⟨a.2.toArray⟩ : ByteArray) = ⟨b.2.toArray⟩)) = decide (a = b) := by
  rw [ba_dec, ba_dec]
  cases a; cases b; simp [Prod.ext_iff]
theorem T29 (w0 : World) {A B : Option Addr} {c d c' d' : Nat} {xs ys : List PR} (hm : xs.length ≤ 1000000000000) (hm2 : ys.length ≤ 1000000000000) :
 Tri Tryz.prog w0 29 [.slice A xs.length c, .slice B ys.length d] [Row pE 66 2 A c' xs, Row pE 66 2 B d' ys] fun v m => v = .bool (decide (xs = ys)) ∧ m = [Row pE 66 2 A c' xs, Row pE 66 2 B d' ys] := by
 refine tri_k Tryz.func29 rfl rfl fun F => ?_
 simp only [Tryz.ntmps29, argEnv, List.cons_append, List.nil_append]
 by_cases hil : xs.length = ys.length
 ·refine zH fun zq zQ => ?_
  refine zC 15 rfl ?_
  refine zcF rfl (by first | assumption | (rw [Bool.not_eq_false']; exact decide_eq_true (by omega))) ?_
  refine zC 9 rfl ?_
  refine at_loopK [11, 12, 13, 14, 17, 18, 19, 20, 21, 22, 23, 24, 25, 4, 15, 16, 5] (fun k => k ≤ xs.length ∧ xs.take k = ys.take k) (fun k => [(5, .int .i64 (k : Nat))]) (fun _ l => l) (fun k => xs.length - k) 0 ⟨Nat.zero_le _, rfl⟩ ⟨rfl, trivial⟩ (fun _ s => s) ?_
  rintro k ⟨hk, hb⟩
  rcases Nat.lt_or_ge k xs.length with hlt | hge
  ·have hi1 : decide ((k : Int) < xs.length) = true := decide_eq_true (by omega)
   obtain ⟨x, hget⟩ : ∃ x, xs[k]? = some x := ⟨_, List.getElem?_eq_getElem hlt⟩
   obtain ⟨y, hget2⟩ : ∃ y, ys[k]? = some y := ⟨_, List.getElem?_eq_getElem (by omega)⟩
   have hd := pr_eq x y
   by_cases he : x = y
   ·have hi2 : (!(decide ((⟨x.1.toArray⟩ : ByteArray) = ⟨y.1.toArray⟩) && decide ((⟨x.2.toArray⟩ : ByteArray) = ⟨y.2.toArray⟩))) = false := by rw [hd, decide_eq_true he]; rfl
    refine zC 9 rfl ?_
    refine zcT rfl (decide_eq_true (by omega)) ?_
    refine zC 5 rfl ?_
    refine at_draw _ [] 1000 [(2, 0), (2, 1), (1, 2), (1, 3), (2, 4), (2, 5), (1, 6), (1, 7), (2, 8)] (by kernel_rfl) (by kernel_rfl) (fun _ s => (s.pulls (ks := [0, 0]) rfl).left) ?_
    refine aq_p (ov_move rfl rfl) rfl rfl rfl ?_
    refine aq_p (ov_move rfl rfl) rfl rfl rfl ?_
    refine aq_v (ov_indexRd (fun _ s => s.rd (k := 0) rfl) rfl Tryz.underlying61 rfl rfl rfl hget) rfl rfl rfl ?_
    refine aq_v (ov_loadRdS (vs := [_, _]) (fun _ s => s.rd (k := 0) rfl) rfl rfl rfl hget rfl rfl) rfl rfl rfl ?_
    refine aq_p (ov_move rfl rfl) rfl rfl rfl ?_
    refine aq_p (ov_move rfl rfl) rfl rfl rfl ?_
    refine aq_v (ov_indexRd (fun _ s => s.rd (k := 1) rfl) rfl Tryz.underlying61 rfl rfl rfl hget2) rfl rfl rfl ?_
    refine aq_v (ov_loadRdS (vs := [_, _]) (fun _ s => s.rd (k := 1) rfl) rfl rfl rfl hget2 rfl rfl) rfl rfl rfl ?_
    refine aq_p (ov_neS rfl (by kernel_rfl) rfl rfl rfl rfl) rfl rfl rfl ?_
    refine aq_nil ?_
    refine zX 1 rfl ?_
    refine zcF rfl (by first | assumption | (rw [Bool.not_eq_false']; exact decide_eq_true (by omega))) ?_
    refine zC 5 rfl ?_
    refine zV zI ?_
    refine zOR 3 rfl ?_
    refine at_roundF (k + 1) ⟨hlt, by rw [List.take_add_one, List.take_add_one, hget, hget2, he, hb]⟩ (by omega) ⟨rfl, trivial⟩ rfl ?_
    exact zE [0, 0] []
   ·have hi2 : (!(decide ((⟨x.1.toArray⟩ : ByteArray) = ⟨y.1.toArray⟩) && decide ((⟨x.2.toArray⟩ : ByteArray) = ⟨y.2.toArray⟩))) = true := by rw [hd, decide_eq_false he]; rfl
    have hne : ¬ xs = ys := fun e => by subst e; rw [hget] at hget2; exact he (Option.some.inj hget2)
    refine zC 9 rfl ?_
    refine zcT rfl (decide_eq_true (by omega)) ?_
    refine zC 5 rfl ?_
    refine at_draw _ [] 1000 [(2, 0), (2, 1), (1, 2), (1, 3), (2, 4), (2, 5), (1, 6), (1, 7), (2, 8)] (by kernel_rfl) (by kernel_rfl) (fun _ s => (s.pulls (ks := [0, 0]) rfl).left) ?_
    refine aq_p (ov_move rfl rfl) rfl rfl rfl ?_
    refine aq_p (ov_move rfl rfl) rfl rfl rfl ?_
    refine aq_v (ov_indexRd (fun _ s => s.rd (k := 0) rfl) rfl Tryz.underlying61 rfl rfl rfl hget) rfl rfl rfl ?_
    refine aq_v (ov_loadRdS (vs := [_, _]) (fun _ s => s.rd (k := 0) rfl) rfl rfl rfl hget rfl rfl) rfl rfl rfl ?_
    refine aq_p (ov_move rfl rfl) rfl rfl rfl ?_
    refine aq_p (ov_move rfl rfl) rfl rfl rfl ?_
    refine aq_v (ov_indexRd (fun _ s => s.rd (k := 1) rfl) rfl Tryz.underlying61 rfl rfl rfl hget2) rfl rfl rfl ?_
    refine aq_v (ov_loadRdS (vs := [_, _]) (fun _ s => s.rd (k := 1) rfl) rfl rfl rfl hget2 rfl rfl) rfl rfl rfl ?_
    refine aq_p (ov_neS rfl (by kernel_rfl) rfl rfl rfl rfl) rfl rfl rfl ?_
    refine aq_nil ?_
    refine zX 1 rfl ?_
    refine zcT rfl (by first | assumption | (rw [Bool.not_eq_true']; exact decide_eq_false (by omega))) ?_
    refine zC 11 rfl ?_
    refine zQ ?_
    refine at_end ?_
    refine at_fin (rsV rfl (res_tmp rfl)) ?_
    refine ⟨_, ⟨by simp [hne], rfl⟩, ?_⟩
    exact zE [0, 0] []
  ·have hi1 : decide ((k : Int) < xs.length) = false := decide_eq_false (by omega)
   rw [List.take_of_length_le hge, List.take_of_length_le (by omega)] at hb
   refine zC 9 rfl ?_
   refine zcF rfl (decide_eq_false (by omega)) ?_
   refine zC 11 rfl ?_
   refine zQ ?_
   refine at_end ?_
   refine at_fin (rsV rfl (res_tmp rfl)) ?_
   refine ⟨_, ⟨by simp [hb], rfl⟩, ?_⟩
   exact zE [0, 0] []
 ·have hne : ¬ xs = ys := fun e => hil (by rw [e])
  have hi1 : (!decide ((xs.length : Int) = ys.length)) = true := by simp; omega
  refine zH fun zq zQ => ?_
  refine zC 15 rfl ?_
  refine zcT rfl (by first | assumption | (rw [Bool.not_eq_true']; exact decide_eq_false (by omega))) ?_
  refine zC 7 rfl ?_
  refine zQ ?_
  refine at_end ?_
  refine at_fin (rsV rfl (res_tmp rfl)) ?_
  refine ⟨_, ⟨by simp [hne], rfl⟩, ?_⟩
  exact zE [0, 0] []
def planE (p : PM) : List Value := [.int .i64 p.1, SV p.2.1, SV p.2.2]
theorem refReads_step (p : PM) {l : List PR} {k : Nat} {x : PR} (h : l[k]? = some x) (out : List BL) : refReads p (l.drop k) out = refReads p (l.drop (k + 1)) (if p.1 = 2 ∧ (if p.1 = 1 ∧ x.1 = p.2.1 then out ++ [x.2] else out).length < 20 then (if p.1 = 1 ∧ x.1 = p.2.1 then out ++ [x.2] else out) ++ [x.1, x.2] else (if p.1 = 1 ∧ x.1 = p.2.1 then out ++ [x.2] else out)) := by
  obtain ⟨h1, h2⟩ := List.getElem?_eq_some_iff.1 h
  rw [List.drop_eq_getElem_cons h1, h2]
  rfl
theorem T71 (w0 : World) (p : PM) {A : Option Addr} {c c' : Nat} {l : List PR} (hm : l.length ≤ 1000000) :
 Tri Tryz.prog w0 71 [.agg #[.int .i64 p.1, SV p.2.1, SV p.2.2], .slice A l.length c] [Row pE 66 2 A c' l] fun v m => ∃ B e, v = .slice B (refReads p l []).length e ∧ m = [Row bsE 9 1 B e (refReads p l []), Row pE 66 2 A c' l] := by
 refine tri_k Tryz.func71 rfl rfl fun F => ?_
 simp only [Tryz.ntmps71, argEnv, List.cons_append, List.nil_append]
 refine zH fun zq zQ => ?_
 refine zC 2 rfl ?_
 refine zT (ot_boxA rfl rfl) ?_
 rintro _ _ ⟨g0, rfl, rfl⟩
 refine zO 5 rfl ?_
 refine zT (ot_buildSlice (cs := []) rfl Tryz.underlying22 rfl rfl rfl rfl rfl rfl) ?_
 rintro _ _ ⟨g1, rfl, rfl⟩
 refine zO 10 rfl ?_
 refine at_rowOf (c := 0) (size := 1) bsE 0 [] rfl (by simp) (by simp) (by decide) (by simp) rfl ?_
 simp only [setAt]
 refine at_loopK [8, 9, 10, 11, 14, 15, 16, 17, 18, 19, 20, 21, 22, 23, 24, 25, 26, 27, 28, 29, 30, 31, 32, 33, 34, 5, 35, 36, 37, 38, 39, 40, 41, 42, 43, 44, 45, 46, 47, 48, 49, 50, 51, 52, 53, 54, 55, 12, 13, 6] (fun i : Nat × List BL × Option Addr × Nat => i.1 ≤ l.length ∧ i.2.1.length ≤ 2 * i.1 + 22 ∧ refReads p (l.drop i.1) i.2.1 = refReads p l []) (fun i => [(6, .int .i64 (i.1 : Nat)), (5, .slice i.2.2.1 i.2.1.length i.2.2.2)]) (fun i m => setAt 0 (Row bsE 9 1 i.2.2.1 i.2.2.2 i.2.1) m) (fun i => l.length - i.1) (0, [], some ⟨g1, 0, none⟩, 0) ⟨Nat.zero_le _, by simp, rfl⟩ ⟨rfl, rfl, trivial⟩ (fun _ s => s) ?_
 rintro ⟨k, out, B, e⟩ ⟨hk, hol, heq⟩
 simp only [setAt] at hk hol heq ⊢
 rcases Nat.lt_or_ge k l.length with hlt | hge
 ·have hi1 : decide ((k : Int) < l.length) = true := decide_eq_true (by omega)
  obtain ⟨x, hget⟩ : ∃ x, l[k]? = some x := ⟨_, List.getElem?_eq_getElem hlt⟩
  rw [refReads_step p hget] at heq
  by_cases h1 : p.1 = 1
  ·have hi2 : decide (p.1 = 1) = true := decide_eq_true h1
   have hi3 : decide (p.1 = 2) = false := decide_eq_false (by omega)
   by_cases hx : x.1 = p.2.1
   ·have hi4 : decide (x.1 = p.2.1) = true := decide_eq_true hx
    simp [h1, hx] at heq
    refine zC 9 rfl ?_
    refine zcT rfl (decide_eq_true (by omega)) ?_
    refine zC 6 rfl ?_
    refine at_draw _ [] 1000 [(2, 0), (1, 1), (2, 2), (2, 3), (2, 4), (2, 5), (1, 6), (1, 7), (1, 8), (2, 9), (1, 10), (2, 11), (2, 12)] (by kernel_rfl) (by kernel_rfl) (fun _ s => (s.pulls (ks := [0, 0, 0]) rfl).left) ?_
    refine aq_p (ov_fieldAddr (k := 0) (r := 0) rfl rfl rfl rfl) rfl rfl rfl ?_
    refine aq_v (ov_load rfl rfl rfl (fun _ s => s.ld (k := 1) rfl rfl)) rfl rfl rfl ?_
    refine aq_p (ov_int rfl rfl rfl rfl) rfl rfl rfl ?_
    refine aq_p (ov_move rfl rfl) rfl rfl rfl ?_
    refine zrT 17 rfl (decide_eq_true (by omega)) ?_
    refine aq_wanted (j := 3) rfl ?_
    refine aq_p (ov_move rfl rfl) rfl rfl rfl ?_
    refine aq_wanted (j := 3) rfl ?_
    refine aq_p (ov_move rfl rfl) rfl rfl rfl ?_
    refine aq_wanted (j := 3) rfl ?_
    refine aq_v (ov_indexRd (fun _ s => s.rd (k := 2) rfl) rfl Tryz.underlying61 rfl rfl rfl hget) rfl rfl rfl ?_
    refine aq_wanted (j := 3) rfl ?_
    refine aq_v (ov_fieldRd0 (k := 0) (fun _ s => s.rd (k := 2) rfl) rfl rfl hget rfl) rfl rfl rfl ?_
    refine aq_wanted (j := 3) rfl ?_
    refine aq_v (ov_loadRd0 (fun _ s => s.rd (k := 2) rfl) rfl rfl rfl hget rfl) rfl rfl rfl ?_
    refine aq_wanted (j := 3) rfl ?_
    refine aq_p (ov_fieldAddr (k := 1) (r := 1) rfl rfl rfl rfl) rfl rfl rfl ?_
    refine aq_wanted (j := 3) rfl ?_
    refine aq_v (ov_load rfl rfl rfl (fun _ s => s.ld (k := 1) rfl rfl)) rfl rfl rfl ?_
    refine aq_wanted (j := 3) rfl ?_
    refine aq_p (ov_strL rfl rfl rfl rfl) rfl rfl rfl ?_
    refine aq_p (ov_pick_t rfl rfl rfl) rfl rfl rfl ?_
    refine aq_nil ?_
    refine zX 1 rfl ?_
    refine zcT rfl (decide_eq_true (by omega)) ?_
    refine zC 4 rfl ?_
    refine zV (ov_indexRd (fun _ s => s.rd (k := 2) rfl) rfl Tryz.underlying61 rfl rfl rfl hget) ?_
    refine zV (ov_fieldRd0 (k := 1) (fun _ s => s.rd (k := 2) rfl) rfl rfl hget rfl) ?_
    refine zV (ov_loadRd (fun _ s => s.rd (k := 2) rfl) rfl rfl rfl hget rfl) ?_
    refine zT (ot_buildSlice (cs := [_]) rfl Tryz.underlying22 rfl rfl rfl rfl rfl rfl) ?_
    rintro _ _ ⟨g2, rfl, rfl⟩
    refine zT (ot_append (k := 1) (size := 1) (bytes := 16) (ys := [x.2]) (fun _ s => s.rdPt (k := 0) rfl rfl (by simp [bsE])) rfl Tryz.underlying22 (ti := Tryz.t9) rfl rfl rfl rfl rfl (by decide) rfl rfl rfl (by simp [bsE, Value.oneCell']) (by simp; omega) (by decide)) ?_
    rintro _ _ ⟨A0, c0, rfl, rfl⟩
    simp only [setAt]
    refine zOM [(2,_,_,_)] ⟨rfl,trivial⟩ [0] 9 rfl ?_
    refine zrF 38 rfl (decide_eq_false (by omega)) ?_
    refine zO 12 rfl ?_
    refine zV zI ?_
    refine zOR 3 rfl ?_
    refine at_roundF (k + 1, out ++ [x.2], A0, c0) ⟨hlt, by simp; omega, heq⟩ (by simp only; omega) ⟨rfl, look_eq rfl (by simp), trivial⟩ rfl ?_
    simp only [setAt]
    exact zE [1, 1, 1] [0]
   ·have hi4 : decide (x.1 = p.2.1) = false := decide_eq_false hx
    simp [h1, hx] at heq
    refine zC 9 rfl ?_
    refine zcT rfl (decide_eq_true (by omega)) ?_
    refine zC 6 rfl ?_
    refine at_draw _ [] 1000 [(2, 0), (1, 1), (2, 2), (2, 3), (2, 4), (2, 5), (1, 6), (1, 7), (1, 8), (2, 9), (1, 10), (2, 11), (2, 12)] (by kernel_rfl) (by kernel_rfl) (fun _ s => (s.pulls (ks := [0, 0, 0]) rfl).left) ?_
    refine aq_p (ov_fieldAddr (k := 0) (r := 0) rfl rfl rfl rfl) rfl rfl rfl ?_
    refine aq_v (ov_load rfl rfl rfl (fun _ s => s.ld (k := 1) rfl rfl)) rfl rfl rfl ?_
    refine aq_p (ov_int rfl rfl rfl rfl) rfl rfl rfl ?_
    refine aq_p (ov_move rfl rfl) rfl rfl rfl ?_
    refine zrT 17 rfl (decide_eq_true (by omega)) ?_
    refine aq_wanted (j := 3) rfl ?_
    refine aq_p (ov_move rfl rfl) rfl rfl rfl ?_
    refine aq_wanted (j := 3) rfl ?_
    refine aq_p (ov_move rfl rfl) rfl rfl rfl ?_
    refine aq_wanted (j := 3) rfl ?_
    refine aq_v (ov_indexRd (fun _ s => s.rd (k := 2) rfl) rfl Tryz.underlying61 rfl rfl rfl hget) rfl rfl rfl ?_
    refine aq_wanted (j := 3) rfl ?_
    refine aq_v (ov_fieldRd0 (k := 0) (fun _ s => s.rd (k := 2) rfl) rfl rfl hget rfl) rfl rfl rfl ?_
    refine aq_wanted (j := 3) rfl ?_
    refine aq_v (ov_loadRd0 (fun _ s => s.rd (k := 2) rfl) rfl rfl rfl hget rfl) rfl rfl rfl ?_
    refine aq_wanted (j := 3) rfl ?_
    refine aq_p (ov_fieldAddr (k := 1) (r := 1) rfl rfl rfl rfl) rfl rfl rfl ?_
    refine aq_wanted (j := 3) rfl ?_
    refine aq_v (ov_load rfl rfl rfl (fun _ s => s.ld (k := 1) rfl rfl)) rfl rfl rfl ?_
    refine aq_wanted (j := 3) rfl ?_
    refine aq_p (ov_strL rfl rfl rfl rfl) rfl rfl rfl ?_
    refine aq_p (ov_pick_t rfl rfl rfl) rfl rfl rfl ?_
    refine aq_nil ?_
    refine zX 1 rfl ?_
    refine zcF rfl (decide_eq_false (by omega)) ?_
    refine zCM [(1,_,_,_)] ⟨rfl,trivial⟩ [0] 8 rfl ?_
    refine zrF 38 rfl (decide_eq_false (by omega)) ?_
    refine zO 12 rfl ?_
    refine zV zI ?_
    refine zOR 3 rfl ?_
    refine at_roundF (k + 1, out, B, e) ⟨hlt, by simp only; omega, heq⟩ (by simp only; omega) ⟨rfl, rfl, trivial⟩ rfl ?_
    exact zE [0, 0, 0] []
  ·have hi2 : decide (p.1 = 1) = false := decide_eq_false h1
   by_cases h2 : p.1 = 2
   ·have hi3 : decide (p.1 = 2) = true := decide_eq_true h2
    by_cases h20 : out.length < 20
    ·have hi4 : decide ((out.length : Int) < 20) = true := decide_eq_true (by omega)
     simp [h2, h20] at heq
     refine zC 9 rfl ?_
     refine zcT rfl (decide_eq_true (by omega)) ?_
     refine zC 6 rfl ?_
     refine at_draw _ [] 1000 [(2, 0), (1, 1), (2, 2), (2, 3), (2, 4), (2, 5), (1, 6), (2, 7), (1, 8), (2, 9), (1, 10), (2, 11), (2, 12)] (by kernel_rfl) (by kernel_rfl) (fun _ s => (s.pulls (ks := [1]) rfl).left) ?_
     refine aq_p (ov_fieldAddr (k := 0) (r := 0) rfl rfl rfl rfl) rfl rfl rfl ?_
     refine aq_v (ov_load rfl rfl rfl (fun _ s => s.ld (k := 0) rfl rfl)) rfl rfl rfl ?_
     refine aq_p (ov_int rfl rfl rfl rfl) rfl rfl rfl ?_
     refine aq_p (ov_move rfl rfl) rfl rfl rfl ?_
     refine zrF 17 rfl (decide_eq_false (by omega)) ?_
     refine aq_unwanted (j := 3) rfl rfl rfl rfl rfl ?_
     refine aq_unwanted (j := 3) rfl rfl rfl rfl rfl ?_
     refine aq_unwanted (j := 3) rfl rfl rfl rfl rfl ?_
     refine aq_unwanted (j := 3) rfl rfl rfl rfl rfl ?_
     refine aq_unwanted (j := 3) rfl rfl rfl rfl rfl ?_
     refine aq_unwanted (j := 3) rfl rfl rfl rfl rfl ?_
     refine aq_unwanted (j := 3) rfl rfl rfl rfl rfl ?_
     refine aq_unwanted (j := 3) rfl rfl rfl rfl rfl ?_
     refine aq_p (ov_pick_f rfl rfl rfl) rfl rfl rfl ?_
     refine aq_nil ?_
     refine zXM [(1,_,_,_)] ⟨rfl,trivial⟩ [0] 10 rfl ?_
     refine zrT 38 rfl (decide_eq_true (by omega)) ?_
     refine zO 6 rfl ?_
     refine zcT rfl (decide_eq_true (by omega)) ?_
     refine at_draw _ [] 1000 [(2, 0), (2, 1), (2, 2), (1, 3), (1, 4), (1, 5), (2, 6), (2, 7), (1, 8), (1, 9), (1, 10), (0, 11), (0, 12), (2, 13)] (by kernel_rfl) (by kernel_rfl) (fun _ s => (s.pulls (ks := [1, 1]) rfl).left) ?_
     refine aq_p (ov_move rfl rfl) rfl rfl rfl ?_
     refine aq_p (ov_move rfl rfl) rfl rfl rfl ?_
     refine aq_p (ov_move rfl rfl) rfl rfl rfl ?_
     refine aq_v (ov_indexRd (fun _ s => s.rd (k := 1) rfl) rfl Tryz.underlying61 rfl rfl rfl hget) rfl rfl rfl ?_
     refine aq_v (ov_fieldRd0 (k := 0) (fun _ s => s.rd (k := 1) rfl) rfl rfl hget rfl) rfl rfl rfl ?_
     refine aq_v (ov_loadRd0 (fun _ s => s.rd (k := 1) rfl) rfl rfl rfl hget rfl) rfl rfl rfl ?_
     refine aq_p (ov_move rfl rfl) rfl rfl rfl ?_
     refine aq_p (ov_move rfl rfl) rfl rfl rfl ?_
     refine aq_v (ov_indexRd (fun _ s => s.rd (k := 1) rfl) rfl Tryz.underlying61 rfl rfl rfl hget) rfl rfl rfl ?_
     refine aq_v (ov_fieldRd0 (k := 1) (fun _ s => s.rd (k := 1) rfl) rfl rfl hget rfl) rfl rfl rfl ?_
     refine aq_v (ov_loadRd (fun _ s => s.rd (k := 1) rfl) rfl rfl rfl hget rfl) rfl rfl rfl ?_
     refine aq_t (ot_buildSlice (cs := [_, _]) rfl Tryz.underlying22 rfl rfl rfl rfl rfl rfl) rfl rfl rfl ?_
     rintro _ _ ⟨g2, rfl, rfl⟩
     refine ⟨fun _ s => (s.pulls (ks := [2, 2]) rfl).left, ?_⟩
     refine aq_t (ot_append (k := 1) (size := 1) (bytes := 16) (ys := [x.1, x.2]) (fun _ s => s.rdPt (k := 0) rfl rfl (by simp [bsE])) rfl Tryz.underlying22 (ti := Tryz.t9) rfl rfl rfl rfl rfl (by decide) rfl rfl rfl (by simp [bsE, Value.oneCell']) (by simp; omega) (by decide)) rfl rfl rfl ?_
     rintro _ _ ⟨A0, c0, rfl, rfl⟩
     simp only [setAt]
     refine ⟨fun _ s => (s.pulls (ks := [2, 2]) rfl).left, ?_⟩
     refine aq_p (ov_assign rfl rfl) rfl rfl rfl ?_
     refine aq_nil ?_
     refine zX 4 rfl ?_
     refine zV zI ?_
     refine zOR 3 rfl ?_
     refine at_roundF (k + 1, out ++ [x.1, x.2], A0, c0) ⟨hlt, by simp; omega, heq⟩ (by simp only; omega) ⟨rfl, look_eq rfl (by simp), trivial⟩ rfl ?_
     simp only [setAt]
     exact zE [1, 1, 1] [0]
    ·have hi4 : decide ((out.length : Int) < 20) = false := decide_eq_false (by omega)
     simp [h2, h20] at heq
     refine zC 9 rfl ?_
     refine zcT rfl (decide_eq_true (by omega)) ?_
     refine zC 6 rfl ?_
     refine at_draw _ [] 1000 [(2, 0), (1, 1), (2, 2), (2, 3), (2, 4), (2, 5), (1, 6), (2, 7), (1, 8), (2, 9), (1, 10), (2, 11), (2, 12)] (by kernel_rfl) (by kernel_rfl) (fun _ s => (s.pulls (ks := [1]) rfl).left) ?_
     refine aq_p (ov_fieldAddr (k := 0) (r := 0) rfl rfl rfl rfl) rfl rfl rfl ?_
     refine aq_v (ov_load rfl rfl rfl (fun _ s => s.ld (k := 0) rfl rfl)) rfl rfl rfl ?_
     refine aq_p (ov_int rfl rfl rfl rfl) rfl rfl rfl ?_
     refine aq_p (ov_move rfl rfl) rfl rfl rfl ?_
     refine zrF 17 rfl (decide_eq_false (by omega)) ?_
     refine aq_unwanted (j := 3) rfl rfl rfl rfl rfl ?_
     refine aq_unwanted (j := 3) rfl rfl rfl rfl rfl ?_
     refine aq_unwanted (j := 3) rfl rfl rfl rfl rfl ?_
     refine aq_unwanted (j := 3) rfl rfl rfl rfl rfl ?_
     refine aq_unwanted (j := 3) rfl rfl rfl rfl rfl ?_
     refine aq_unwanted (j := 3) rfl rfl rfl rfl rfl ?_
     refine aq_unwanted (j := 3) rfl rfl rfl rfl rfl ?_
     refine aq_unwanted (j := 3) rfl rfl rfl rfl rfl ?_
     refine aq_p (ov_pick_f rfl rfl rfl) rfl rfl rfl ?_
     refine aq_nil ?_
     refine zXM [(1,_,_,_)] ⟨rfl,trivial⟩ [0] 10 rfl ?_
     refine zrT 38 rfl (decide_eq_true (by omega)) ?_
     refine zO 6 rfl ?_
     refine zcF rfl (decide_eq_false (by omega)) ?_
     refine zC 5 rfl ?_
     refine zV zI ?_
     refine zOR 3 rfl ?_
     refine at_roundF (k + 1, out, B, e) ⟨hlt, by simp only; omega, heq⟩ (by simp only; omega) ⟨rfl, rfl, trivial⟩ rfl ?_
     exact zE [0, 0, 0] []
   ·have hi3 : decide (p.1 = 2) = false := decide_eq_false h2
    simp [h1, h2] at heq
    refine zC 9 rfl ?_
    refine zcT rfl (decide_eq_true (by omega)) ?_
    refine zC 6 rfl ?_
    refine at_draw _ [] 1000 [(2, 0), (1, 1), (2, 2), (2, 3), (2, 4), (2, 5), (1, 6), (2, 7), (1, 8), (2, 9), (1, 10), (2, 11), (2, 12)] (by kernel_rfl) (by kernel_rfl) (fun _ s => (s.pulls (ks := [1]) rfl).left) ?_
    refine aq_p (ov_fieldAddr (k := 0) (r := 0) rfl rfl rfl rfl) rfl rfl rfl ?_
    refine aq_v (ov_load rfl rfl rfl (fun _ s => s.ld (k := 0) rfl rfl)) rfl rfl rfl ?_
    refine aq_p (ov_int rfl rfl rfl rfl) rfl rfl rfl ?_
    refine aq_p (ov_move rfl rfl) rfl rfl rfl ?_
    refine zrF 17 rfl (decide_eq_false (by omega)) ?_
    refine aq_unwanted (j := 3) rfl rfl rfl rfl rfl ?_
    refine aq_unwanted (j := 3) rfl rfl rfl rfl rfl ?_
    refine aq_unwanted (j := 3) rfl rfl rfl rfl rfl ?_
    refine aq_unwanted (j := 3) rfl rfl rfl rfl rfl ?_
    refine aq_unwanted (j := 3) rfl rfl rfl rfl rfl ?_
    refine aq_unwanted (j := 3) rfl rfl rfl rfl rfl ?_
    refine aq_unwanted (j := 3) rfl rfl rfl rfl rfl ?_
    refine aq_unwanted (j := 3) rfl rfl rfl rfl rfl ?_
    refine aq_p (ov_pick_f rfl rfl rfl) rfl rfl rfl ?_
    refine aq_nil ?_
    refine zXM [(1,_,_,_)] ⟨rfl,trivial⟩ [0] 10 rfl ?_
    refine zrF 38 rfl (decide_eq_false (by omega)) ?_
    refine zO 12 rfl ?_
    refine zV zI ?_
    refine zOR 3 rfl ?_
    refine at_roundF (k + 1, out, B, e) ⟨hlt, by simp only; omega, heq⟩ (by simp only; omega) ⟨rfl, rfl, trivial⟩ rfl ?_
    exact zE [0, 0, 0] []
 ·have hi1 : decide ((k : Int) < l.length) = false := decide_eq_false (by omega)
  rw [List.drop_of_length_le hge] at heq
  have hout : out = refReads p l [] := heq
  refine zC 9 rfl ?_
  refine zcF rfl (decide_eq_false (by omega)) ?_
  refine zC 12 rfl ?_
  refine zQ ?_
  refine at_end ?_
  refine at_fin (rsV rfl (res_tmp rfl)) ?_
  refine ⟨_, ⟨B, e, by rw [← hout], rfl⟩, ?_⟩
  try rw [← hout]
  exact zE [0, 1] [0]
end Go.Proofs.YtighdkdomfpadaaGreatDoor
