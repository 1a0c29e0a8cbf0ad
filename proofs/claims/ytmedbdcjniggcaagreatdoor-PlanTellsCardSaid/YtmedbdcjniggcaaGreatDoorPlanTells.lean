/- The statement PlanTells, walked. -/
import Derived.Test.YtmedbdcjniggcaaGreatDoorProg
import Derived.Test.YtmedbdcjniggcaaGreatDoorPlan7
import Derived.Test.YtmedbdcjniggcaaGreatDoorRefOf
import Derived.Test.YtmedbdcjniggcaaGreatDoorTellsLaw
import Derived.Test.YtmedbdcjniggcaaGreatDoorClassC
import Derived.Test.YtmedbdcjniggcaaGreatDoorSLB
import Derived.KernelRfl
set_option linter.unusedSimpArgs false
set_option linter.unusedVariables false
set_option maxRecDepth 100000
set_option maxHeartbeats 4000000
namespace Go.Proofs.YtmedbdcjniggcaaGreatDoor
open Go Go.Proofs.YtmedbdcjniggcaaGreatDoor.SL Go.RowKit
theorem cl_made {g : Nat} (h : PH) (s : star [CC g 0 0 0 (.map none)] h) : Cl g h := by
  obtain ⟨p, q, hp, _, _, l1, _⟩ := s
  exact .inl (l1 g _ hp)
theorem T3 (w0 : World) (s : BL) (hs : s.length ≤ 140737488351232) (hM : MaxL w0) : Tri Tryz.prog w0 3 [SV s] [] fun v m => v = .bool true ∧ m = [] := by
 refine tri_k Tryz.func3 rfl rfl fun F => ?_
 simp only [Tryz.ntmps3, argEnv, List.nil_append]
 by_cases h1 : 1000 < s.length
 ·have hi1 : decide ((s.length : Int) > 1000) = true := decide_eq_true (by omega)
  refine zH fun zq zQ => ?_
  refine zC 8 rfl ?_
  refine zcall [] rfl rfl rfl Tryz.call4 rfl (T4 _ (by first | assumption | rfl | omega | decide | (simp; done) | (simp at *; omega))) rfl ?_
  simp only [zca, zna, splice, spliceL]
  refine zO 14 rfl ?_
  refine zcT rfl (decide_eq_true (by omega)) ?_
  refine zC 7 rfl ?_
  refine zQ ?_
  refine at_end ?_
  refine at_fin (rsV rfl (res_tmp rfl)) ?_
  refine ⟨_, ⟨rfl, rfl⟩, ?_⟩
  exact zE [] []
 have hi1 : decide ((s.length : Int) > 1000) = false := decide_eq_false (by omega)
 have hP := T5 w0 s (by omega) hM
 have hR := T6 w0 s (by omega)
 obtain ⟨hc1, hc2, hb1, hb2⟩ := plan_class s
 have hC {g : Nat} := T8 w0 (g := g) s (by omega) hM
 generalize planL s = p at hP hR hc1 hc2 hb1 hb2
 generalize classL s = c at hC hc1 hc2
 unfold planV at hP hR
 refine zH fun zq zQ => ?_
 refine zC 8 rfl ?_
 refine zcall [] rfl rfl rfl Tryz.call4 rfl (T4 _ (by first | assumption | rfl | omega | decide | (simp; done) | (simp at *; omega))) rfl ?_
 simp only [zca, zna, splice, spliceL]
 refine zO 14 rfl ?_
 refine zcF rfl (decide_eq_false (by omega)) ?_
 refine zC 5 rfl ?_
 refine zcall [] rfl rfl rfl Tryz.call5 rfl (hP ) rfl ?_
 simp only [zca, zna, splice, spliceL]
 refine zA Tryz.zeroValue24 fun g0 => ?_
 refine zS 0 ?_
 simp only [setAt, splice, spliceL, Value.cells]
 refine zO 4 rfl ?_
 refine at_draw _ [] 1000 [(1, 0), (2, 1), (0, 2), (2, 3)] (by kernel_rfl) (by kernel_rfl) (fun _ s => (s.pulls (ks := [0]) rfl).left) ?_
 refine aq_v (ov_loadS (cs := [_, _, _]) rfl rfl rfl rfl (fun _ s => s.lds (k := 0) rfl ⟨rfl, rfl, rfl, trivial⟩)) rfl rfl rfl ?_
 refine aq_p (ov_move rfl rfl) rfl rfl rfl ?_
 refine aq_t (ot_call (ks := []) rfl rfl rfl Tryz.call6 rfl (hR ) rfl) rfl rfl rfl ?_
 rintro v0 _ ⟨m0, hp0, rfl⟩
 obtain ⟨rfl, rfl⟩ := hp0
 simp only [zca, zna, splice, spliceL]
 refine ⟨fun _ s => (s.pulls (ks := [0]) rfl).left, ?_⟩
 refine aq_p (ov_neS rfl (by kernel_rfl) rfl rfl rfl rfl) rfl rfl rfl ?_
 refine aq_nil ?_
 refine zX 1 rfl ?_
 refine zcF rfl (by simp; done) ?_
 refine zCM [(0,_,_,_)] ⟨rfl,trivial⟩ [0] 17 rfl ?_
 have hcase : p.1 = 0 ∨ p.1 = 1 ∨ p.1 = 2 ∨ p.1 = 3 ∨ p.1 = 4 ∨ p.1 = 5 := by omega
 rcases hcase with e | e | e | e | e | e
 ·have hk1 : decide (p.1 = 1) = false := by simp [e]
  have hk2 : decide (p.1 = 2) = false := by simp [e]
  have hk3 : decide (p.1 = 3) = false := by simp [e]
  have hk4 : decide (p.1 = 4) = false := by simp [e]
  have hk5 : decide (p.1 = 5) = false := by simp [e]
  refine zcF rfl (decide_eq_false (by omega)) ?_
  refine zC 5 rfl ?_
  refine zcF rfl (decide_eq_false (by omega)) ?_
  refine zC 7 rfl ?_
  refine zcF rfl (decide_eq_false (by omega)) ?_
  refine zC 6 rfl ?_
  refine zcF rfl (decide_eq_false (by omega)) ?_
  refine zC 5 rfl ?_
  refine zcF rfl (decide_eq_false (by omega)) ?_
  refine zC 9 rfl ?_
  refine zQ ?_
  refine at_end ?_
  refine at_fin (rsV rfl (res_tmp rfl)) ?_
  refine ⟨_, ⟨rfl, rfl⟩, ?_⟩
  exact zE [] [0]
 ·have hk1 : decide (p.1 = 1) = true := by simp [e]
  have hk2 : decide (p.1 = 2) = false := by simp [e]
  have hk3 : decide (p.1 = 3) = false := by simp [e]
  have hk4 : decide (p.1 = 4) = false := by simp [e]
  have hk5 : decide (p.1 = 5) = false := by simp [e]
  have hz : decide (c = 1) = true := by rw [hc1 (by omega)]; rfl
  refine zcT rfl (decide_eq_true (by omega)) ?_
  refine zC 2 rfl ?_
  refine zcT rfl (decide_eq_true (by omega)) ?_
  refine zC 2 rfl ?_
  refine zT (ot_call (ks := []) rfl rfl rfl Tryz.call7 rfl (T7 _) rfl) ?_
  rintro v0 _ ⟨m0, hp0, rfl⟩
  obtain ⟨g1, hp0⟩ := hp0
  obtain ⟨rfl, rfl⟩ := hp0
  simp only [zca, zna, splice, spliceL]
  refine zO 1 rfl ?_
  refine at_fold (A := Cl g1) [0] rfl cl_made ?_
  refine zcall [0] rfl rfl rfl Tryz.call8 rfl (hC ) rfl ?_
  simp only [zca, zna, splice, spliceL]
  refine zO 7 rfl ?_
  refine zQ ?_
  refine at_end ?_
  refine at_fin (rsV rfl (res_tmp rfl)) ?_
  refine ⟨_, ⟨by rw [hz], rfl⟩, ?_⟩
  exact zE [] [0, 0]
 ·have hk1 : decide (p.1 = 1) = false := by simp [e]
  have hk2 : decide (p.1 = 2) = true := by simp [e]
  have hk3 : decide (p.1 = 3) = false := by simp [e]
  have hk4 : decide (p.1 = 4) = false := by simp [e]
  have hk5 : decide (p.1 = 5) = false := by simp [e]
  have hz : decide (c = 1) = true := by rw [hc1 (by omega)]; rfl
  refine zcF rfl (decide_eq_false (by omega)) ?_
  refine zC 5 rfl ?_
  refine zcT rfl (decide_eq_true (by omega)) ?_
  refine zC 2 rfl ?_
  refine zT (ot_call (ks := []) rfl rfl rfl Tryz.call7 rfl (T7 _) rfl) ?_
  rintro v0 _ ⟨m0, hp0, rfl⟩
  obtain ⟨g1, hp0⟩ := hp0
  obtain ⟨rfl, rfl⟩ := hp0
  simp only [zca, zna, splice, spliceL]
  refine zO 1 rfl ?_
  refine at_fold (A := Cl g1) [0] rfl cl_made ?_
  refine zcall [0] rfl rfl rfl Tryz.call8 rfl (hC ) rfl ?_
  simp only [zca, zna, splice, spliceL]
  refine zO 7 rfl ?_
  refine zQ ?_
  refine at_end ?_
  refine at_fin (rsV rfl (res_tmp rfl)) ?_
  refine ⟨_, ⟨by rw [hz], rfl⟩, ?_⟩
  exact zE [] [0, 0]
 ·have hk1 : decide (p.1 = 1) = false := by simp [e]
  have hk2 : decide (p.1 = 2) = false := by simp [e]
  have hk3 : decide (p.1 = 3) = true := by simp [e]
  have hk4 : decide (p.1 = 4) = false := by simp [e]
  have hk5 : decide (p.1 = 5) = false := by simp [e]
  have hz : decide (c = 2) = true := by rw [hc2 (by omega)]; rfl
  refine zcF rfl (decide_eq_false (by omega)) ?_
  refine zC 5 rfl ?_
  refine zcF rfl (decide_eq_false (by omega)) ?_
  refine zC 7 rfl ?_
  refine zcT rfl (decide_eq_true (by omega)) ?_
  refine zC 2 rfl ?_
  refine zcT rfl (decide_eq_true (by omega)) ?_
  refine zC 2 rfl ?_
  refine zT (ot_call (ks := []) rfl rfl rfl Tryz.call7 rfl (T7 _) rfl) ?_
  rintro v0 _ ⟨m0, hp0, rfl⟩
  obtain ⟨g1, hp0⟩ := hp0
  obtain ⟨rfl, rfl⟩ := hp0
  simp only [zca, zna, splice, spliceL]
  refine zO 1 rfl ?_
  refine at_fold (A := Cl g1) [0] rfl cl_made ?_
  refine zcall [0] rfl rfl rfl Tryz.call8 rfl (hC ) rfl ?_
  simp only [zca, zna, splice, spliceL]
  refine zO 7 rfl ?_
  refine zQ ?_
  refine at_end ?_
  refine at_fin (rsV rfl (res_tmp rfl)) ?_
  refine ⟨_, ⟨by rw [hz], rfl⟩, ?_⟩
  exact zE [] [0, 0]
 ·have hk1 : decide (p.1 = 1) = false := by simp [e]
  have hk2 : decide (p.1 = 2) = false := by simp [e]
  have hk3 : decide (p.1 = 3) = false := by simp [e]
  have hk4 : decide (p.1 = 4) = true := by simp [e]
  have hk5 : decide (p.1 = 5) = false := by simp [e]
  have hz : decide (c = 2) = true := by rw [hc2 (by omega)]; rfl
  refine zcF rfl (decide_eq_false (by omega)) ?_
  refine zC 5 rfl ?_
  refine zcF rfl (decide_eq_false (by omega)) ?_
  refine zC 7 rfl ?_
  refine zcF rfl (decide_eq_false (by omega)) ?_
  refine zC 6 rfl ?_
  refine zcT rfl (decide_eq_true (by omega)) ?_
  refine zC 2 rfl ?_
  refine zcT rfl (decide_eq_true (by omega)) ?_
  refine zC 2 rfl ?_
  refine zT (ot_call (ks := []) rfl rfl rfl Tryz.call7 rfl (T7 _) rfl) ?_
  rintro v0 _ ⟨m0, hp0, rfl⟩
  obtain ⟨g1, hp0⟩ := hp0
  obtain ⟨rfl, rfl⟩ := hp0
  simp only [zca, zna, splice, spliceL]
  refine zO 1 rfl ?_
  refine at_fold (A := Cl g1) [0] rfl cl_made ?_
  refine zcall [0] rfl rfl rfl Tryz.call8 rfl (hC ) rfl ?_
  simp only [zca, zna, splice, spliceL]
  refine zO 7 rfl ?_
  refine zQ ?_
  refine at_end ?_
  refine at_fin (rsV rfl (res_tmp rfl)) ?_
  refine ⟨_, ⟨by rw [hz], rfl⟩, ?_⟩
  exact zE [] [0, 0]
 ·have hk1 : decide (p.1 = 1) = false := by simp [e]
  have hk2 : decide (p.1 = 2) = false := by simp [e]
  have hk3 : decide (p.1 = 3) = false := by simp [e]
  have hk4 : decide (p.1 = 4) = false := by simp [e]
  have hk5 : decide (p.1 = 5) = true := by simp [e]
  have hz : decide (c = 2) = true := by rw [hc2 (by omega)]; rfl
  refine zcF rfl (decide_eq_false (by omega)) ?_
  refine zC 5 rfl ?_
  refine zcF rfl (decide_eq_false (by omega)) ?_
  refine zC 7 rfl ?_
  refine zcF rfl (decide_eq_false (by omega)) ?_
  refine zC 6 rfl ?_
  refine zcF rfl (decide_eq_false (by omega)) ?_
  refine zC 5 rfl ?_
  refine zcT rfl (decide_eq_true (by omega)) ?_
  refine zC 2 rfl ?_
  refine zT (ot_call (ks := []) rfl rfl rfl Tryz.call7 rfl (T7 _) rfl) ?_
  rintro v0 _ ⟨m0, hp0, rfl⟩
  obtain ⟨g1, hp0⟩ := hp0
  obtain ⟨rfl, rfl⟩ := hp0
  simp only [zca, zna, splice, spliceL]
  refine zO 1 rfl ?_
  refine at_fold (A := Cl g1) [0] rfl cl_made ?_
  refine zcall [0] rfl rfl rfl Tryz.call8 rfl (hC ) rfl ?_
  simp only [zca, zna, splice, spliceL]
  refine zO 7 rfl ?_
  refine zQ ?_
  refine at_end ?_
  refine at_fin (rsV rfl (res_tmp rfl)) ?_
  refine ⟨_, ⟨by rw [hz], rfl⟩, ?_⟩
  exact zE [] [0, 0]
end Go.Proofs.YtmedbdcjniggcaaGreatDoor
