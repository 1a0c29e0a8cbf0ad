/- The reference of plans, walked: Same, Texts, Reads. -/
import Derived.Test.YtmedbdcjniggcaaGreatDoorProg
import Derived.Test.YtmedbdcjniggcaaGreatDoorRefPlan
import Derived.Test.YtmedbdcjniggcaaGreatDoorSLB
import Derived.KernelRfl
set_option linter.unusedSimpArgs false
set_option linter.unusedVariables false
set_option maxRecDepth 100000
set_option maxHeartbeats 4000000
namespace Go.Proofs.YtmedbdcjniggcaaGreatDoor
open Go Go.Proofs.YtmedbdcjniggcaaGreatDoor.SL Go.RowKit
theorem T13 (w0 : World) {A B : Option Addr} {c d c' d' : Nat} {xs ys : List BL} (hm : xs.length ≤ 1000000000000) (hm2 : ys.length ≤ 1000000000000) :
 Tri Tryz.prog w0 13 [.slice A xs.length c, .slice B ys.length d] [Row bsE 9 1 A c' xs, Row bsE 9 1 B d' ys] fun v m => v = .bool (decide (xs = ys)) ∧ m = [Row bsE 9 1 A c' xs, Row bsE 9 1 B d' ys] := by
 refine tri_k Tryz.func13 rfl rfl fun F => ?_
 simp only [Tryz.ntmps13, argEnv, List.cons_append, List.nil_append]
 by_cases hil : xs.length = ys.length
 ·refine zH fun zq zQ => ?_
  refine zC 15 rfl ?_
  refine zcF rfl (by first | assumption | (rw [Bool.not_eq_false']; exact decide_eq_true (by omega))) ?_
  refine zC 9 rfl ?_
  refine at_loopK [11, 12, 13, 14, 17, 18, 19, 20, 21, 22, 23, 24, 25, 4, 15, 16, 5] (fun k => k ≤ xs.length ∧ xs.take k = ys.take k) (fun k => [(5, .int .i64 (k : Nat))]) (fun _ l => l) (fun k => xs.length - k) 0 ⟨Nat.zero_le _, rfl⟩ ⟨rfl, trivial⟩ (fun _ s => s) ?_
  rintro k ⟨hk, hb⟩
  rcases Nat.lt_or_ge k xs.length with hlt | hge
  ·have hi1 : decide ((k : Int) < xs.length) = true := decide_eq_true (by omega)
   obtain ⟨x, hget⟩ : ∃ x, xs[k]? = some x := ⟨_, List.getElem?_eq_getElem hlt⟩
   obtain ⟨y, hget2⟩ : ∃ y, ys[k]? = some y := ⟨_, List.getElem?_eq_getElem (by omega)⟩
   by_cases he : x = y
   ·have hi2 : (!decide (x = y)) = false := by simp [he]
    refine zC 9 rfl ?_
    refine zcT rfl (decide_eq_true (by omega)) ?_
    refine zC 5 rfl ?_
    refine at_draw _ [] 1000 [(2, 0), (2, 1), (1, 2), (1, 3), (2, 4), (2, 5), (1, 6), (1, 7), (2, 8)] (by kernel_rfl) (by kernel_rfl) (fun _ s => (s.pulls (ks := [0, 0]) rfl).left) ?_
    refine aq_p (ov_move rfl rfl) rfl rfl rfl ?_
    refine aq_p (ov_move rfl rfl) rfl rfl rfl ?_
    refine aq_v (ov_indexRd (fun _ s => s.rd (k := 0) rfl) rfl Tryz.underlying35 rfl rfl rfl hget) rfl rfl rfl ?_
    refine aq_v (ov_loadRd0 (fun _ s => s.rd (k := 0) rfl) rfl rfl rfl hget rfl) rfl rfl rfl ?_
    refine aq_p (ov_move rfl rfl) rfl rfl rfl ?_
    refine aq_p (ov_move rfl rfl) rfl rfl rfl ?_
    refine aq_v (ov_indexRd (fun _ s => s.rd (k := 1) rfl) rfl Tryz.underlying35 rfl rfl rfl hget2) rfl rfl rfl ?_
    refine aq_v (ov_loadRd0 (fun _ s => s.rd (k := 1) rfl) rfl rfl rfl hget2 rfl) rfl rfl rfl ?_
    refine aq_p (ov_strL rfl rfl rfl rfl) rfl rfl rfl ?_
    refine aq_nil ?_
    refine zX 1 rfl ?_
    refine zcF rfl (by first | assumption | (rw [Bool.not_eq_false']; exact decide_eq_true (by omega))) ?_
    refine zC 5 rfl ?_
    refine zV zI ?_
    refine zOR 3 rfl ?_
    refine at_roundF (k + 1) ⟨hlt, by rw [List.take_add_one, List.take_add_one, hget, hget2, he, hb]⟩ (by omega) ⟨rfl, trivial⟩ rfl ?_
    exact zE [0, 0] []
   ·have hi2 : (!decide (x = y)) = true := by simp [he]
    have hne : ¬ xs = ys := fun e => by subst e; rw [hget] at hget2; exact he (Option.some.inj hget2)
    refine zC 9 rfl ?_
    refine zcT rfl (decide_eq_true (by omega)) ?_
    refine zC 5 rfl ?_
    refine at_draw _ [] 1000 [(2, 0), (2, 1), (1, 2), (1, 3), (2, 4), (2, 5), (1, 6), (1, 7), (2, 8)] (by kernel_rfl) (by kernel_rfl) (fun _ s => (s.pulls (ks := [0, 0]) rfl).left) ?_
    refine aq_p (ov_move rfl rfl) rfl rfl rfl ?_
    refine aq_p (ov_move rfl rfl) rfl rfl rfl ?_
    refine aq_v (ov_indexRd (fun _ s => s.rd (k := 0) rfl) rfl Tryz.underlying35 rfl rfl rfl hget) rfl rfl rfl ?_
    refine aq_v (ov_loadRd0 (fun _ s => s.rd (k := 0) rfl) rfl rfl rfl hget rfl) rfl rfl rfl ?_
    refine aq_p (ov_move rfl rfl) rfl rfl rfl ?_
    refine aq_p (ov_move rfl rfl) rfl rfl rfl ?_
    refine aq_v (ov_indexRd (fun _ s => s.rd (k := 1) rfl) rfl Tryz.underlying35 rfl rfl rfl hget2) rfl rfl rfl ?_
    refine aq_v (ov_loadRd0 (fun _ s => s.rd (k := 1) rfl) rfl rfl rfl hget2 rfl) rfl rfl rfl ?_
    refine aq_p (ov_strL rfl rfl rfl rfl) rfl rfl rfl ?_
    refine aq_nil ?_
    refine zX 1 rfl ?_
    refine zcT rfl (by first | assumption | (rw [Bool.not_eq_true']; exact decide_eq_false (by omega))) ?_
    refine zC 11 rfl ?_
    refine zQ ?_
    refine at_end ?_
    refine at_fin (rsV rfl (res_tmp rfl)) ?_
    refine ⟨_, ⟨by simp [hne], rfl⟩, ?_⟩
    exact zE [0, 0] []
  ·have hi1 : decide ((k : Int) < xs.length) = false := decide_eq_false (by omega)
   rw [List.take_of_length_le hge, List.take_of_length_le (by omega)] at hb
   refine zC 9 rfl ?_
   refine zcF rfl (decide_eq_false (by omega)) ?_
   refine zC 11 rfl ?_
   refine zQ ?_
   refine at_end ?_
   refine at_fin (rsV rfl (res_tmp rfl)) ?_
   refine ⟨_, ⟨by simp [hb], rfl⟩, ?_⟩
   exact zE [0, 0] []
 ·have hne : ¬ xs = ys := fun e => hil (by rw [e])
  have hi1 : (!decide ((xs.length : Int) = ys.length)) = true := by simp; omega
  refine zH fun zq zQ => ?_
  refine zC 15 rfl ?_
  refine zcT rfl (by first | assumption | (rw [Bool.not_eq_true']; exact decide_eq_false (by omega))) ?_
  refine zC 7 rfl ?_
  refine zQ ?_
  refine at_end ?_
  refine at_fin (rsV rfl (res_tmp rfl)) ?_
  refine ⟨_, ⟨by simp [hne], rfl⟩, ?_⟩
  exact zE [0, 0] []
theorem pr_eq (a b : PR) : (decide ((⟨a.1.toArray⟩ : ByteArray) = ⟨b.1.toArray⟩) && decide ((⟨a.2.toArray⟩ : ByteArray) = ⟨b.2.toArray⟩)) = decide (a = b) := by
  rw [ba_dec, ba_dec]
  cases a; cases b; simp [Prod.ext_iff]
theorem T11 (w0 : World) {A B : Option Addr} {c d c' d' : Nat} {xs ys : List PR} (hm : xs.length ≤ 1000000000000) (hm2 : ys.length ≤ 1000000000000) :
 Tri Tryz.prog w0 11 [.slice A xs.length c, .slice B ys.length d] [Row pE 41 2 A c' xs, Row pE 41 2 B d' ys] fun v m => v = .bool (decide (xs = ys)) ∧ m = [Row pE 41 2 A c' xs, Row pE 41 2 B d' ys] := by
 refine tri_k Tryz.func11 rfl rfl fun F => ?_
 simp only [Tryz.ntmps11, argEnv, List.cons_append, List.nil_append]
 by_cases hil : xs.length = ys.length
 ·refine zH fun zq zQ => ?_
  refine zC 15 rfl ?_
  refine zcF rfl (by first | assumption | (rw [Bool.not_eq_false']; exact decide_eq_true (by omega))) ?_
  refine zC 9 rfl ?_
  refine at_loopK [11, 12, 13, 14, 17, 18, 19, 20, 21, 22, 23, 24, 25, 4, 15, 16, 5] (fun k => k ≤ xs.length ∧ xs.take k = ys.take k) (fun k => [(5, .int .i64 (k : Nat))]) (fun _ l => l) (fun k => xs.length - k) 0 ⟨Nat.zero_le _, rfl⟩ ⟨rfl, trivial⟩ (fun _ s => s) ?_
  rintro k ⟨hk, hb⟩
  rcases Nat.lt_or_ge k xs.length with hlt | hge
  ·have hi1 : decide ((k : Int) < xs.length) = true := decide_eq_true (by omega)
   obtain ⟨x, hget⟩ : ∃ x, xs[k]? = some x := ⟨_, List.getElem?_eq_getElem hlt⟩
   obtain ⟨y, hget2⟩ : ∃ y, ys[k]? = some y := ⟨_, List.getElem?_eq_getElem (by omega)⟩
   have hd := pr_eq x y
   by_cases he : x = y
   ·have hi2 : (!(decide ((⟨x.1.toArray⟩ : ByteArray) = ⟨y.1.toArray⟩) && decide ((⟨x.2.toArray⟩ : ByteArray) = ⟨y.2.toArray⟩))) = false := by rw [hd, decide_eq_true he]; rfl
    refine zC 9 rfl ?_
    refine zcT rfl (decide_eq_true (by omega)) ?_
    refine zC 5 rfl ?_
    refine at_draw _ [] 1000 [(2, 0), (2, 1), (1, 2), (1, 3), (2, 4), (2, 5), (1, 6), (1, 7), (2, 8)] (by kernel_rfl) (by kernel_rfl) (fun _ s => (s.pulls (ks := [0, 0]) rfl).left) ?_
    refine aq_p (ov_move rfl rfl) rfl rfl rfl ?_
    refine aq_p (ov_move rfl rfl) rfl rfl rfl ?_
    refine aq_v (ov_indexRd (fun _ s => s.rd (k := 0) rfl) rfl Tryz.underlying38 rfl rfl rfl hget) rfl rfl rfl ?_
    refine aq_v (ov_loadRdS (vs := [_, _]) (fun _ s => s.rd (k := 0) rfl) rfl rfl rfl hget rfl rfl) rfl rfl rfl ?_
    refine aq_p (ov_move rfl rfl) rfl rfl rfl ?_
    refine aq_p (ov_move rfl rfl) rfl rfl rfl ?_
    refine aq_v (ov_indexRd (fun _ s => s.rd (k := 1) rfl) rfl Tryz.underlying38 rfl rfl rfl hget2) rfl rfl rfl ?_
    refine aq_v (ov_loadRdS (vs := [_, _]) (fun _ s => s.rd (k := 1) rfl) rfl rfl rfl hget2 rfl rfl) rfl rfl rfl ?_
    refine aq_p (ov_neS rfl (by kernel_rfl) rfl rfl rfl rfl) rfl rfl rfl ?_
    refine aq_nil ?_
    refine zX 1 rfl ?_
    refine zcF rfl (by first | assumption | (rw [Bool.not_eq_false']; exact decide_eq_true (by omega))) ?_
    refine zC 5 rfl ?_
    refine zV zI ?_
    refine zOR 3 rfl ?_
    refine at_roundF (k + 1) ⟨hlt, by rw [List.take_add_one, List.take_add_one, hget, hget2, he, hb]⟩ (by omega) ⟨rfl, trivial⟩ rfl ?_
    exact zE [0, 0] []
   ·have hi2 : (!(decide ((⟨x.1.toArray⟩ : ByteArray) = ⟨y.1.toArray⟩) && decide ((⟨x.2.toArray⟩ : ByteArray) = ⟨y.2.toArray⟩))) = true := by rw [hd, decide_eq_false he]; rfl
    have hne : ¬ xs = ys := fun e => by subst e; rw [hget] at hget2; exact he (Option.some.inj hget2)
    refine zC 9 rfl ?_
    refine zcT rfl (decide_eq_true (by omega)) ?_
    refine zC 5 rfl ?_
    refine at_draw _ [] 1000 [(2, 0), (2, 1), (1, 2), (1, 3), (2, 4), (2, 5), (1, 6), (1, 7), (2, 8)] (by kernel_rfl) (by kernel_rfl) (fun _ s => (s.pulls (ks := [0, 0]) rfl).left) ?_
    refine aq_p (ov_move rfl rfl) rfl rfl rfl ?_
    refine aq_p (ov_move rfl rfl) rfl rfl rfl ?_
    refine aq_v (ov_indexRd (fun _ s => s.rd (k := 0) rfl) rfl Tryz.underlying38 rfl rfl rfl hget) rfl rfl rfl ?_
    refine aq_v (ov_loadRdS (vs := [_, _]) (fun _ s => s.rd (k := 0) rfl) rfl rfl rfl hget rfl rfl) rfl rfl rfl ?_
    refine aq_p (ov_move rfl rfl) rfl rfl rfl ?_
    refine aq_p (ov_move rfl rfl) rfl rfl rfl ?_
    refine aq_v (ov_indexRd (fun _ s => s.rd (k := 1) rfl) rfl Tryz.underlying38 rfl rfl rfl hget2) rfl rfl rfl ?_
    refine aq_v (ov_loadRdS (vs := [_, _]) (fun _ s => s.rd (k := 1) rfl) rfl rfl rfl hget2 rfl rfl) rfl rfl rfl ?_
    refine aq_p (ov_neS rfl (by kernel_rfl) rfl rfl rfl rfl) rfl rfl rfl ?_
    refine aq_nil ?_
    refine zX 1 rfl ?_
    refine zcT rfl (by first | assumption | (rw [Bool.not_eq_true']; exact decide_eq_false (by omega))) ?_
    refine zC 11 rfl ?_
    refine zQ ?_
    refine at_end ?_
    refine at_fin (rsV rfl (res_tmp rfl)) ?_
    refine ⟨_, ⟨by simp [hne], rfl⟩, ?_⟩
    exact zE [0, 0] []
  ·have hi1 : decide ((k : Int) < xs.length) = false := decide_eq_false (by omega)
   rw [List.take_of_length_le hge, List.take_of_length_le (by omega)] at hb
   refine zC 9 rfl ?_
   refine zcF rfl (decide_eq_false (by omega)) ?_
   refine zC 11 rfl ?_
   refine zQ ?_
   refine at_end ?_
   refine at_fin (rsV rfl (res_tmp rfl)) ?_
   refine ⟨_, ⟨by simp [hb], rfl⟩, ?_⟩
   exact zE [0, 0] []
 ·have hne : ¬ xs = ys := fun e => hil (by rw [e])
  have hi1 : (!decide ((xs.length : Int) = ys.length)) = true := by simp; omega
  refine zH fun zq zQ => ?_
  refine zC 15 rfl ?_
  refine zcT rfl (by first | assumption | (rw [Bool.not_eq_true']; exact decide_eq_false (by omega))) ?_
  refine zC 7 rfl ?_
  refine zQ ?_
  refine at_end ?_
  refine at_fin (rsV rfl (res_tmp rfl)) ?_
  refine ⟨_, ⟨by simp [hne], rfl⟩, ?_⟩
  exact zE [0, 0] []
def planE (p : PM) : List Value := [.int .i64 p.1, SV p.2.1, SV p.2.2]
theorem refReads_step (p : PM) {l : List PR} {k : Nat} {x : PR} (h : l[k]? = some x) (out : List BL) : refReads p (l.drop k) out = refReads p (l.drop (k + 1)) (if p.1 = 2 ∧ (if p.1 = 1 ∧ x.1 = p.2.1 then out ++ [x.2] else out).length < 20 then (if p.1 = 1 ∧ x.1 = p.2.1 then out ++ [x.2] else out) ++ [x.1, x.2] else (if p.1 = 1 ∧ x.1 = p.2.1 then out ++ [x.2] else out)) := by
  obtain ⟨h1, h2⟩ := List.getElem?_eq_some_iff.1 h
  rw [List.drop_eq_getElem_cons h1, h2]
  rfl
end Go.Proofs.YtmedbdcjniggcaaGreatDoor
