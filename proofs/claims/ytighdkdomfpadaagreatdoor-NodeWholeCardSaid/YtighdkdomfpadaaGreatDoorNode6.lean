/- Package node, walked: Copy, of a node from itself. -/
import Derived.Test.YtighdkdomfpadaaGreatDoorProg
import Derived.Test.YtighdkdomfpadaaGreatDoorNode5
import Derived.Test.YtighdkdomfpadaaGreatDoorSLB
import Derived.KernelRfl
set_option linter.unusedSimpArgs false
set_option linter.unusedVariables false
set_option maxRecDepth 100000
set_option maxHeartbeats 4000000
namespace Go.Proofs.YtighdkdomfpadaaGreatDoor
open Go Go.Proofs.YtighdkdomfpadaaGreatDoor.SL Go.RowKit
theorem next_self (a : List Ent) (most : Int) : nextL a a most = [] := by
  unfold nextL; rw [both_self, List.drop_length, List.take_nil]
theorem copyN_self (s : ND) (most : Int) : copyN s s most = (s, 0) := by
  unfold copyN
  split
  · rfl
  · rw [if_neg (by omega), next_self, both_self, List.take_length, List.append_nil]; rfl
theorem concat1 (w0 : World) {gv : Nat} {B : Option Addr} {d i j q c' : Nat} {ys : List Ent} (hy : ys.length ≤ 200) (hc : ys.length ≤ d) (hi : i = ys.length) (hj : j = ys.length) (hq : q = 0) :
    Tri Tryz.prog w0 51 [.slice (some ⟨gv, 0, none⟩) 2 2] [cl gv #[.slice B i c', .slice (dropA B d j 2) q (d - j)] 43, Row enE 73 2 B d ys] fun v r => ∃ C e, v = .slice C ys.length e ∧ r = [Row enE 73 2 C e ys, cl gv #[.slice B i c', .slice (dropA B d j 2) q (d - j)] 43, Row enE 73 2 B d ys] := by
  subst hi hj hq
  refine (Tri.of_all (Post := fun v q => ∃ C e, v = .slice C ys.length e ∧ q = [Row enE 73 2 C e ys]) fun w s => ?_).post ?_
  · have r1 := s.rd (k := 1) rfl
    have hr : Rd slE w 1 (some ⟨gv, 0, none⟩) [((B, c', ys) : Sl), (dropA B d ys.length 2, d - ys.length, [])] := s.rdPt (k := 0) rfl (by simp [slE]) (by simp [slE])
    have hT := T51 w (c := 2) hr (by
      intro x hx'
      simp only [List.mem_cons, List.not_mem_nil, or_false] at hx'
      rcases hx' with rfl | rfl
      · exact r1
      · exact Rd.nil _ _ _ _) (by simp) (fun q => by have := slCat2 ((B, c', ys) : Sl) (dropA B d ys.length 2, d - ys.length, []) q; simp only [List.length_nil] at this; omega)
    have e : slCat [((B, c', ys) : Sl), (dropA B d ys.length 2, d - ys.length, [])] = ys := by simp [slCat]
    rw [e] at hT
    exact hT
  · rintro v q ⟨m', ⟨C, e, h3, h4⟩, h5⟩
    exact ⟨C, e, h3, by rw [h5, h4]; rfl⟩
theorem copySelf (w0 : World) {g : Nat} {s : ND} (hs : NOk s) (most : Int) : Tri Tryz.prog w0 31 [ptrTo g, ptrTo g, .int .i64 most] [NodeA g s] fun v m => v = .int .i64 0 ∧ m = [NodeA g s] := by
 refine tri_k Tryz.func31 rfl rfl fun F => ?_
 simp only [Tryz.ntmps31, argEnv, List.cons_append, List.nil_append]
 refine at_node 0 rfl fun A c mb cg => ?_
 refine at_rowLen 1 rfl (fun hle1 _ => ?_)
 have hlen := hs.len
 have hi1 : decide (s.ep < s.ep) = false := by simp
 have hi2 : decide (s.ep = s.ep) = true := by simp
 have hi3 : decide (s.ep > s.ep) = false := by simp
 rcases Bool.eq_false_or_eq_true s.ld with hld | hld
 ·refine zH fun zq zQ => ?_
  refine zC 7 rfl ?_
  refine at_draw _ [] 1000 [(2, 0), (2, 1), (2, 2), (1, 3), (2, 4), (2, 5), (2, 6), (1, 7), (2, 8), (2, 9), (2, 10), (2, 11), (2, 12), (1, 13), (2, 14), (2, 15), (2, 16), (1, 17), (2, 18), (2, 19), (2, 20), (2, 21), (2, 22), (1, 23), (2, 24), (2, 25)] (by kernel_rfl) (by kernel_rfl) (fun _ s => (s.pulls (ks := [0]) rfl).left) ?_
  refine aq_p (ov_move rfl rfl) rfl rfl rfl ?_
  refine aq_p (ov_nilCheck rfl rfl) rfl rfl rfl ?_
  refine aq_p (ov_fieldAddr (k := 0) (r := 0) rfl rfl rfl rfl) rfl rfl rfl ?_
  refine aq_v (ov_load rfl rfl rfl (fun _ s => s.ld (k := 0) rfl rfl)) rfl rfl rfl ?_
  refine aq_p (ov_move rfl rfl) rfl rfl rfl ?_
  refine aq_p (ov_nilCheck rfl rfl) rfl rfl rfl ?_
  refine aq_p (ov_fieldAddr (k := 0) (r := 0) rfl rfl rfl rfl) rfl rfl rfl ?_
  refine aq_v (ov_load rfl rfl rfl (fun _ s => s.ld (k := 0) rfl rfl)) rfl rfl rfl ?_
  refine aq_p (ov_int rfl rfl rfl rfl) rfl rfl rfl ?_
  refine aq_p (ov_move rfl rfl) rfl rfl rfl ?_
  refine zrF 18 rfl (decide_eq_false (by omega)) ?_
  refine aq_wanted (j := 9) rfl ?_
  refine aq_p (ov_move rfl rfl) rfl rfl rfl ?_
  refine aq_wanted (j := 9) rfl ?_
  refine aq_p (ov_nilCheck rfl rfl) rfl rfl rfl ?_
  refine aq_wanted (j := 9) rfl ?_
  refine aq_p (ov_fieldAddr (k := 0) (r := 0) rfl rfl rfl rfl) rfl rfl rfl ?_
  refine aq_wanted (j := 9) rfl ?_
  refine aq_v (ov_load rfl rfl rfl (fun _ s => s.ld (k := 0) rfl rfl)) rfl rfl rfl ?_
  refine aq_wanted (j := 9) rfl ?_
  refine aq_p (ov_move rfl rfl) rfl rfl rfl ?_
  refine aq_wanted (j := 9) rfl ?_
  refine aq_p (ov_nilCheck rfl rfl) rfl rfl rfl ?_
  refine aq_wanted (j := 9) rfl ?_
  refine aq_p (ov_fieldAddr (k := 0) (r := 0) rfl rfl rfl rfl) rfl rfl rfl ?_
  refine aq_wanted (j := 9) rfl ?_
  refine aq_v (ov_load rfl rfl rfl (fun _ s => s.ld (k := 0) rfl rfl)) rfl rfl rfl ?_
  refine aq_wanted (j := 9) rfl ?_
  refine aq_p (ov_int rfl rfl rfl rfl) rfl rfl rfl ?_
  refine aq_wanted (j := 9) rfl ?_
  refine aq_p (ov_move rfl rfl) rfl rfl rfl ?_
  refine zrT 28 rfl (decide_eq_true (by omega)) ?_
  refine aq_wanted (j := 19) rfl ?_
  refine aq_p (ov_move rfl rfl) rfl rfl rfl ?_
  refine aq_wanted (j := 19) rfl ?_
  refine aq_p (ov_nilCheck rfl rfl) rfl rfl rfl ?_
  refine aq_wanted (j := 19) rfl ?_
  refine aq_p (ov_fieldAddr (k := 1) (r := 1) rfl rfl rfl rfl) rfl rfl rfl ?_
  refine aq_wanted (j := 19) rfl ?_
  refine aq_v (ov_load rfl rfl rfl (fun _ s => s.ld (k := 0) rfl rfl)) rfl rfl rfl ?_
  refine aq_wanted (j := 9) rfl ?_
  refine aq_p (ov_pick_t rfl rfl rfl) rfl rfl rfl ?_
  refine aq_p (ov_pick_f rfl rfl rfl) rfl rfl rfl ?_
  refine aq_nil ?_
  refine zX 1 rfl ?_
  refine zcT rfl (by first | assumption | (rw [Bool.not_eq_true']; exact decide_eq_false (by omega))) ?_
  refine zC 7 rfl ?_
  refine zQ ?_
  refine at_end ?_
  refine at_fold (A := NodeA g s) [0, 0, 0, 0] rfl (fun h s => node_mk (A := A) (c := c) (mb := mb) (cg := cg) h s) ?_
  refine at_fin (rsV rfl (res_tmp rfl)) ?_
  refine ⟨_, ⟨rfl, rfl⟩, ?_⟩
  exact zE [0] []
 refine zH fun zq zQ => ?_
 refine zC 7 rfl ?_
 refine at_draw _ [] 1000 [(2, 0), (2, 1), (2, 2), (1, 3), (2, 4), (2, 5), (2, 6), (1, 7), (2, 8), (2, 9), (2, 10), (2, 11), (2, 12), (1, 13), (2, 14), (2, 15), (2, 16), (1, 17), (2, 18), (2, 19), (2, 20), (2, 21), (2, 22), (1, 23), (2, 24), (2, 25)] (by kernel_rfl) (by kernel_rfl) (fun _ s => (s.pulls (ks := [0]) rfl).left) ?_
 refine aq_p (ov_move rfl rfl) rfl rfl rfl ?_
 refine aq_p (ov_nilCheck rfl rfl) rfl rfl rfl ?_
 refine aq_p (ov_fieldAddr (k := 0) (r := 0) rfl rfl rfl rfl) rfl rfl rfl ?_
 refine aq_v (ov_load rfl rfl rfl (fun _ s => s.ld (k := 0) rfl rfl)) rfl rfl rfl ?_
 refine aq_p (ov_move rfl rfl) rfl rfl rfl ?_
 refine aq_p (ov_nilCheck rfl rfl) rfl rfl rfl ?_
 refine aq_p (ov_fieldAddr (k := 0) (r := 0) rfl rfl rfl rfl) rfl rfl rfl ?_
 refine aq_v (ov_load rfl rfl rfl (fun _ s => s.ld (k := 0) rfl rfl)) rfl rfl rfl ?_
 refine aq_p (ov_int rfl rfl rfl rfl) rfl rfl rfl ?_
 refine aq_p (ov_move rfl rfl) rfl rfl rfl ?_
 refine zrF 18 rfl (decide_eq_false (by omega)) ?_
 refine aq_wanted (j := 9) rfl ?_
 refine aq_p (ov_move rfl rfl) rfl rfl rfl ?_
 refine aq_wanted (j := 9) rfl ?_
 refine aq_p (ov_nilCheck rfl rfl) rfl rfl rfl ?_
 refine aq_wanted (j := 9) rfl ?_
 refine aq_p (ov_fieldAddr (k := 0) (r := 0) rfl rfl rfl rfl) rfl rfl rfl ?_
 refine aq_wanted (j := 9) rfl ?_
 refine aq_v (ov_load rfl rfl rfl (fun _ s => s.ld (k := 0) rfl rfl)) rfl rfl rfl ?_
 refine aq_wanted (j := 9) rfl ?_
 refine aq_p (ov_move rfl rfl) rfl rfl rfl ?_
 refine aq_wanted (j := 9) rfl ?_
 refine aq_p (ov_nilCheck rfl rfl) rfl rfl rfl ?_
 refine aq_wanted (j := 9) rfl ?_
 refine aq_p (ov_fieldAddr (k := 0) (r := 0) rfl rfl rfl rfl) rfl rfl rfl ?_
 refine aq_wanted (j := 9) rfl ?_
 refine aq_v (ov_load rfl rfl rfl (fun _ s => s.ld (k := 0) rfl rfl)) rfl rfl rfl ?_
 refine aq_wanted (j := 9) rfl ?_
 refine aq_p (ov_int rfl rfl rfl rfl) rfl rfl rfl ?_
 refine aq_wanted (j := 9) rfl ?_
 refine aq_p (ov_move rfl rfl) rfl rfl rfl ?_
 refine zrT 28 rfl (decide_eq_true (by omega)) ?_
 refine aq_wanted (j := 19) rfl ?_
 refine aq_p (ov_move rfl rfl) rfl rfl rfl ?_
 refine aq_wanted (j := 19) rfl ?_
 refine aq_p (ov_nilCheck rfl rfl) rfl rfl rfl ?_
 refine aq_wanted (j := 19) rfl ?_
 refine aq_p (ov_fieldAddr (k := 1) (r := 1) rfl rfl rfl rfl) rfl rfl rfl ?_
 refine aq_wanted (j := 19) rfl ?_
 refine aq_v (ov_load rfl rfl rfl (fun _ s => s.ld (k := 0) rfl rfl)) rfl rfl rfl ?_
 refine aq_wanted (j := 9) rfl ?_
 refine aq_p (ov_pick_t rfl rfl rfl) rfl rfl rfl ?_
 refine aq_p (ov_pick_f rfl rfl rfl) rfl rfl rfl ?_
 refine aq_nil ?_
 refine zX 1 rfl ?_
 refine zcF rfl (by first | assumption | (rw [Bool.not_eq_false']; exact decide_eq_true (by omega))) ?_
 refine zC 4 rfl ?_
 refine at_draw _ [] 1000 [(2, 0), (2, 1), (2, 2), (1, 3), (2, 4), (2, 5), (2, 6), (1, 7), (2, 8)] (by kernel_rfl) (by kernel_rfl) (fun _ s => (s.pulls (ks := [0]) rfl).left) ?_
 refine aq_p (ov_move rfl rfl) rfl rfl rfl ?_
 refine aq_p (ov_nilCheck rfl rfl) rfl rfl rfl ?_
 refine aq_p (ov_fieldAddr (k := 0) (r := 0) rfl rfl rfl rfl) rfl rfl rfl ?_
 refine aq_v (ov_load rfl rfl rfl (fun _ s => s.ld (k := 0) rfl rfl)) rfl rfl rfl ?_
 refine aq_p (ov_move rfl rfl) rfl rfl rfl ?_
 refine aq_p (ov_nilCheck rfl rfl) rfl rfl rfl ?_
 refine aq_p (ov_fieldAddr (k := 0) (r := 0) rfl rfl rfl rfl) rfl rfl rfl ?_
 refine aq_v (ov_load rfl rfl rfl (fun _ s => s.ld (k := 0) rfl rfl)) rfl rfl rfl ?_
 refine aq_p (ov_int rfl rfl rfl rfl) rfl rfl rfl ?_
 refine aq_nil ?_
 refine zX 1 rfl ?_
 refine zcF rfl (decide_eq_false (by omega)) ?_
 refine zC 9 rfl ?_
 refine at_loopK [50, 51, 52, 53, 54, 55, 56, 57, 58, 59, 60, 61, 62, 63, 64, 65, 66, 67, 68, 69, 70, 71, 72, 73, 74, 75, 76, 77, 78, 79, 80, 81, 7] (fun i : Nat => i ≤ s.lg.length) (fun i => [(7, .int .i64 (i : Nat))]) (fun i q => q) (fun i => s.lg.length - i) 0 (Nat.zero_le _) ⟨rfl, trivial⟩ (fun _ s => s) ?_
 intro k hk1
 by_cases hk4 : k < s.lg.length
 ·have hi4 : decide ((k : Int) < min (s.lg.length : Int) (s.lg.length : Int)) = true := by simp; omega
  obtain ⟨x, hget⟩ : ∃ x, s.lg[k]? = some x := ⟨_, List.getElem?_eq_getElem hk4⟩
  refine zC 2 rfl ?_
  refine at_draw _ [] 1000 [(2, 0), (2, 1), (2, 2), (2, 3), (1, 4), (1, 5), (2, 6), (2, 7), (2, 8), (1, 9), (1, 10), (1, 11), (2, 12), (2, 13), (2, 14), (2, 15), (2, 16), (1, 17), (2, 18), (1, 19), (1, 20), (2, 21), (2, 22), (2, 23), (1, 24), (2, 25), (1, 26), (1, 27), (2, 28), (2, 29)] (by kernel_rfl) (by kernel_rfl) (fun _ s => (s.pulls (ks := [0, 0, 0, 0]) rfl).left) ?_
  refine aq_p (ov_move rfl rfl) rfl rfl rfl ?_
  refine aq_p (ov_move rfl rfl) rfl rfl rfl ?_
  refine aq_p (ov_nilCheck rfl rfl) rfl rfl rfl ?_
  refine aq_p (ov_fieldAddr (k := 2) (r := 2) rfl rfl rfl rfl) rfl rfl rfl ?_
  refine aq_v (ov_load rfl rfl rfl (fun _ s => s.ld (k := 0) rfl rfl)) rfl rfl rfl ?_
  refine aq_v (ov_len_slice rfl Tryz.underlying43 rfl) rfl rfl rfl ?_
  refine aq_p (ov_move rfl rfl) rfl rfl rfl ?_
  refine aq_p (ov_nilCheck rfl rfl) rfl rfl rfl ?_
  refine aq_p (ov_fieldAddr (k := 2) (r := 2) rfl rfl rfl rfl) rfl rfl rfl ?_
  refine aq_v (ov_load rfl rfl rfl (fun _ s => s.ld (k := 0) rfl rfl)) rfl rfl rfl ?_
  refine aq_v (ov_len_slice rfl Tryz.underlying43 rfl) rfl rfl rfl ?_
  refine aq_v (ov_min rfl rfl rfl) rfl rfl rfl ?_
  refine aq_p (ov_int rfl rfl rfl rfl) rfl rfl rfl ?_
  refine aq_p (ov_move rfl rfl) rfl rfl rfl ?_
  refine zrT 63 rfl (decide_eq_true (by omega)) ?_
  refine aq_wanted (j := 13) rfl ?_
  refine aq_p (ov_move rfl rfl) rfl rfl rfl ?_
  refine aq_wanted (j := 13) rfl ?_
  refine aq_p (ov_nilCheck rfl rfl) rfl rfl rfl ?_
  refine aq_wanted (j := 13) rfl ?_
  refine aq_p (ov_fieldAddr (k := 2) (r := 2) rfl rfl rfl rfl) rfl rfl rfl ?_
  refine aq_wanted (j := 13) rfl ?_
  refine aq_v (ov_load rfl rfl rfl (fun _ s => s.ld (k := 0) rfl rfl)) rfl rfl rfl ?_
  refine aq_wanted (j := 13) rfl ?_
  refine aq_p (ov_move rfl rfl) rfl rfl rfl ?_
  refine aq_wanted (j := 13) rfl ?_
  refine aq_v (ov_indexRd (fun _ s => s.rd (k := 1) rfl) rfl Tryz.underlying43 rfl rfl rfl hget) rfl rfl rfl ?_
  refine aq_wanted (j := 13) rfl ?_
  refine aq_v (ov_loadRdS (vs := [_, _]) (fun _ s => s.rd (k := 1) rfl) rfl rfl rfl hget rfl rfl) rfl rfl rfl ?_
  refine aq_wanted (j := 13) rfl ?_
  refine aq_p (ov_move rfl rfl) rfl rfl rfl ?_
  refine aq_wanted (j := 13) rfl ?_
  refine aq_p (ov_nilCheck rfl rfl) rfl rfl rfl ?_
  refine aq_wanted (j := 13) rfl ?_
  refine aq_p (ov_fieldAddr (k := 2) (r := 2) rfl rfl rfl rfl) rfl rfl rfl ?_
  refine aq_wanted (j := 13) rfl ?_
  refine aq_v (ov_load rfl rfl rfl (fun _ s => s.ld (k := 0) rfl rfl)) rfl rfl rfl ?_
  refine aq_wanted (j := 13) rfl ?_
  refine aq_p (ov_move rfl rfl) rfl rfl rfl ?_
  refine aq_wanted (j := 13) rfl ?_
  refine aq_v (ov_indexRd (fun _ s => s.rd (k := 1) rfl) rfl Tryz.underlying43 rfl rfl rfl hget) rfl rfl rfl ?_
  refine aq_wanted (j := 13) rfl ?_
  refine aq_v (ov_loadRdS (vs := [_, _]) (fun _ s => s.rd (k := 1) rfl) rfl rfl rfl hget rfl rfl) rfl rfl rfl ?_
  refine aq_wanted (j := 13) rfl ?_
  refine aq_p (ov_eqS rfl (by kernel_rfl) rfl rfl rfl rfl) rfl rfl rfl ?_
  refine aq_p (ov_pick_t rfl rfl rfl) rfl rfl rfl ?_
  refine aq_nil ?_
  refine zX 1 rfl ?_
  refine zcT rfl (by simp; done) ?_
  refine zC 5 rfl ?_
  refine zV zI ?_
  refine zOR 4 rfl ?_
  refine at_roundF (k + 1) hk4 (by omega) ⟨rfl, trivial⟩ rfl ?_
  exact zE [0, 0, 0, 0] []
 ·have hi4 : decide ((k : Int) < min (s.lg.length : Int) (s.lg.length : Int)) = false := by simp; omega
  have hk : k = s.lg.length := by omega
  have htk : (s.lg.take k).length = k := by rw [List.length_take]; omega
  have hCc {gv : Nat} := concat1 w0 (gv := gv) (B := A) (d := c) (i := (s.lg.take k).length) (j := k) (q := k - k) (c' := c) (ys := s.lg) hlen hle1 (by omega) hk (by omega)
  refine zC 2 rfl ?_
  refine at_draw _ [] 1000 [(2, 0), (2, 1), (2, 2), (2, 3), (1, 4), (1, 5), (2, 6), (2, 7), (2, 8), (1, 9), (1, 10), (1, 11), (2, 12), (2, 13), (2, 14), (2, 15), (2, 16), (1, 17), (2, 18), (1, 19), (1, 20), (2, 21), (2, 22), (2, 23), (1, 24), (2, 25), (1, 26), (1, 27), (2, 28), (2, 29)] (by kernel_rfl) (by kernel_rfl) (fun _ s => (s.pulls (ks := [0]) rfl).left) ?_
  refine aq_p (ov_move rfl rfl) rfl rfl rfl ?_
  refine aq_p (ov_move rfl rfl) rfl rfl rfl ?_
  refine aq_p (ov_nilCheck rfl rfl) rfl rfl rfl ?_
  refine aq_p (ov_fieldAddr (k := 2) (r := 2) rfl rfl rfl rfl) rfl rfl rfl ?_
  refine aq_v (ov_load rfl rfl rfl (fun _ s => s.ld (k := 0) rfl rfl)) rfl rfl rfl ?_
  refine aq_v (ov_len_slice rfl Tryz.underlying43 rfl) rfl rfl rfl ?_
  refine aq_p (ov_move rfl rfl) rfl rfl rfl ?_
  refine aq_p (ov_nilCheck rfl rfl) rfl rfl rfl ?_
  refine aq_p (ov_fieldAddr (k := 2) (r := 2) rfl rfl rfl rfl) rfl rfl rfl ?_
  refine aq_v (ov_load rfl rfl rfl (fun _ s => s.ld (k := 0) rfl rfl)) rfl rfl rfl ?_
  refine aq_v (ov_len_slice rfl Tryz.underlying43 rfl) rfl rfl rfl ?_
  refine aq_v (ov_min rfl rfl rfl) rfl rfl rfl ?_
  refine aq_p (ov_int rfl rfl rfl rfl) rfl rfl rfl ?_
  refine aq_p (ov_move rfl rfl) rfl rfl rfl ?_
  refine zrF 63 rfl (decide_eq_false (by omega)) ?_
  refine aq_unwanted (j := 13) rfl rfl rfl rfl rfl ?_
  refine aq_unwanted (j := 13) rfl rfl rfl rfl rfl ?_
  refine aq_unwanted (j := 13) rfl rfl rfl rfl rfl ?_
  refine aq_unwanted (j := 13) rfl rfl rfl rfl rfl ?_
  refine aq_unwanted (j := 13) rfl rfl rfl rfl rfl ?_
  refine aq_unwanted (j := 13) rfl rfl rfl rfl rfl ?_
  refine aq_unwanted (j := 13) rfl rfl rfl rfl rfl ?_
  refine aq_unwanted (j := 13) rfl rfl rfl rfl rfl ?_
  refine aq_unwanted (j := 13) rfl rfl rfl rfl rfl ?_
  refine aq_unwanted (j := 13) rfl rfl rfl rfl rfl ?_
  refine aq_unwanted (j := 13) rfl rfl rfl rfl rfl ?_
  refine aq_unwanted (j := 13) rfl rfl rfl rfl rfl ?_
  refine aq_unwanted (j := 13) rfl rfl rfl rfl rfl ?_
  refine aq_unwanted (j := 13) rfl rfl rfl rfl rfl ?_
  refine aq_unwanted (j := 13) rfl rfl rfl rfl rfl ?_
  refine aq_p (ov_pick_f rfl rfl rfl) rfl rfl rfl ?_
  refine aq_nil ?_
  refine zX 8 rfl ?_
  refine at_draw _ [] 1000 [(2, 0), (2, 1), (2, 2), (1, 3), (2, 4), (2, 5), (2, 6), (2, 7), (1, 8), (1, 9), (2, 10), (2, 11), (1, 12), (1, 13), (2, 14), (1, 15), (1, 16), (2, 17)] (by kernel_rfl) (by kernel_rfl) (fun _ s => (s.pulls (ks := [0]) rfl).left) ?_
  refine aq_p (ov_move rfl rfl) rfl rfl rfl ?_
  refine aq_p (ov_nilCheck rfl rfl) rfl rfl rfl ?_
  refine aq_p (ov_fieldAddr (k := 2) (r := 2) rfl rfl rfl rfl) rfl rfl rfl ?_
  refine aq_v (ov_load rfl rfl rfl (fun _ s => s.ld (k := 0) rfl rfl)) rfl rfl rfl ?_
  refine aq_p (ov_move rfl rfl) rfl rfl rfl ?_
  refine aq_p (ov_move rfl rfl) rfl rfl rfl ?_
  refine aq_p (ov_nilCheck rfl rfl) rfl rfl rfl ?_
  refine aq_p (ov_fieldAddr (k := 2) (r := 2) rfl rfl rfl rfl) rfl rfl rfl ?_
  refine aq_v (ov_load rfl rfl rfl (fun _ s => s.ld (k := 0) rfl rfl)) rfl rfl rfl ?_
  refine aq_v (ov_len_slice rfl Tryz.underlying43 rfl) rfl rfl rfl ?_
  refine aq_p (ov_move rfl rfl) rfl rfl rfl ?_
  refine aq_p (ov_move rfl rfl) rfl rfl rfl ?_
  refine aq_v (ov_min rfl rfl rfl) rfl rfl rfl ?_
  refine aq_v (ov_max rfl rfl rfl) rfl rfl rfl ?_
  refine aq_p (zI) rfl rfl rfl ?_
  refine aq_v (ov_min rfl rfl rfl) rfl rfl rfl ?_
  refine at_reval 97 (.int .i64 (k : Nat)) rfl (congrArg (Value.int .i64) (by omega)) ?_
  refine aq_v (ov_sliceMidC (size := 2) (k := k) (j := k) rfl Tryz.underlying43 rfl rfl rfl rfl (by omega) (by omega)) rfl rfl rfl ?_
  refine aq_p (ov_assign rfl rfl) rfl rfl rfl ?_
  refine aq_nil ?_
  refine zXM [(0,_,_,_)] ⟨rfl,trivial⟩ [0] 9 rfl ?_
  refine zV (ov_sliceTo rfl Tryz.underlying43 rfl rfl rfl (by first | assumption | omega) (by assumption)) ?_
  refine zO 1 rfl ?_
  refine zT (ot_buildSlice (cs := [_, _]) rfl Tryz.underlying157 rfl rfl rfl rfl rfl rfl) ?_
  rintro _ _ ⟨g0, rfl, rfl⟩
  refine zT (ot_call (ks := [0, 1]) rfl rfl rfl Tryz.call51 rfl (hCc ) rfl) ?_
  rintro v0 _ ⟨m0, hp0, rfl⟩
  obtain ⟨C0, hp0⟩ := hp0
  obtain ⟨e0, hp0⟩ := hp0
  obtain ⟨rfl, rfl⟩ := hp0
  simp only [zca, zna, splice, spliceL]
  refine zO 2 rfl ?_
  refine zS 3 ?_
  simp only [setAt, splice, spliceL, Value.cells]
  refine zO 10 rfl ?_
  refine zQ ?_
  refine at_end ?_
  refine at_fold (A := NodeA g s) [3, 0, 2, 2] rfl (fun h s => node_mk (A := C0) (c := e0) (mb := mb) (cg := cg) h s) ?_
  refine at_fin (rsV rfl (res_tmp rfl)) ?_
  refine ⟨_, ⟨by rw [show k - k = 0 by omega]; rfl, rfl⟩, ?_⟩
  exact zE [0] [0, 0]
end Go.Proofs.YtighdkdomfpadaaGreatDoor
