/- Package plan: the law's large and awake, walked. -/
import Derived.Test.YtmedbdcjniggcaaGreatDoorProg
import Derived.Test.YtmedbdcjniggcaaGreatDoorPlan6
import Derived.Test.YtmedbdcjniggcaaGreatDoorPlanA
import Derived.Test.YtmedbdcjniggcaaGreatDoorRefPlan3
import Derived.Test.YtmedbdcjniggcaaGreatDoorSLB
import Derived.KernelRfl
set_option linter.unusedSimpArgs false
set_option linter.unusedVariables false
set_option maxRecDepth 100000
set_option maxHeartbeats 4000000
namespace Go.Proofs.YtmedbdcjniggcaaGreatDoor
open Go Go.Proofs.YtmedbdcjniggcaaGreatDoor.SL Go.RowKit
def pinA : BL := [105, 110, 115, 101, 114, 116, 32, 105, 110, 116, 111, 32, 107, 118, 32, 118, 97, 108, 117, 101, 115, 32, 40, 39, 97, 39, 44, 32, 39, 98, 39, 41]
def pinB : BL := [115, 101, 108, 101, 99, 116, 32, 118, 32, 102, 114, 111, 109, 32, 107, 118, 32, 119, 104, 101, 114, 101, 32, 107, 32, 61, 32, 39, 97, 39, 59]
def pinX : BL := [120]
theorem planA : planL pinA = (3, [97], [98]) := by decide +kernel
theorem planB : planL pinB = (1, [97], []) := by decide +kernel
theorem planX : planL pinX = (0, [], []) := by decide +kernel
theorem writesA : writesL (3, [97], [98]) [] = ([([97], [98])], 1) := by decide +kernel
theorem readsB : readsL (1, [97], []) [([97], [98])] = [[98]] := by decide +kernel
theorem T4 (w0 : World) (hM : MaxL w0) : Tri Tryz.prog w0 4 [] [] fun v m => v = .bool true ∧ m = [] := by
 refine tri_k Tryz.func4 rfl rfl fun F => ?_
 simp only [Tryz.ntmps4, argEnv, List.nil_append]
 have hA := T5 w0 pinA (by decide) hM
 rw [planA] at hA
 have hB := T5 w0 pinB (by decide) hM
 rw [planB] at hB
 have hX := T5 w0 pinX (by decide) hM
 rw [planX] at hX
 have hW := T9 w0 (3, [97], [98]) (A := none) (c := 0) (l := []) (Rd.nil pE w0 2 none) rfl (by decide)
 rw [writesA] at hW
 unfold planV at hA hB hX
 have hR {A : Option Addr} {c c' : Nat} := T10a w0 (1, [97], []) (A := A) (c := c) (c' := c') (l := [([97], [98])]) rfl (by decide)
 rw [readsB] at hR
 have hi1 : decide ([(([97], [98]) : PR)] = [([97], [98])]) = true := decide_eq_true rfl
 have hi2 : decide ([([98] : BL)] = [[98]]) = true := decide_eq_true rfl
 refine zH fun zq zQ => ?_
 refine zC 7 rfl ?_
 refine zcall [] rfl rfl rfl Tryz.call5 rfl (hA ) rfl ?_
 simp only [zca, zna, splice, spliceL]
 refine zA Tryz.zeroValue24 fun g0 => ?_
 refine zS 0 ?_
 simp only [setAt, splice, spliceL, Value.cells]
 refine zOM [(0,_,_,_)] ⟨rfl,trivial⟩ [0] 5 rfl ?_
 refine zT (ot_call (ks := []) rfl rfl rfl Tryz.call9 rfl (hW ) rfl) ?_
 rintro v0 _ ⟨m0, hp0, rfl⟩
 obtain ⟨B0, hp0⟩ := hp0
 obtain ⟨e0, hp0⟩ := hp0
 obtain ⟨rfl, rfl⟩ := hp0
 simp only [zca, zna, splice, spliceL]
 refine zO 9 rfl ?_
 refine zcall [] rfl rfl rfl Tryz.call5 rfl (hB ) rfl ?_
 simp only [zca, zna, splice, spliceL]
 refine zO 1 rfl ?_
 refine zT (ot_call (ks := [0]) rfl rfl rfl Tryz.call10 rfl (hR ) rfl) ?_
 rintro v0 _ ⟨m0, hp0, rfl⟩
 obtain ⟨B1, hp0⟩ := hp0
 obtain ⟨e1, hp0⟩ := hp0
 obtain ⟨rfl, rfl⟩ := hp0
 simp only [zca, zna, splice, spliceL]
 refine zOM [(2,_,_,_)] ⟨rfl,trivial⟩ [0] 6 rfl ?_
 refine zV (ov_build (cs := [_, _, _]) rfl rfl rfl rfl) ?_
 refine zV (ov_eqS rfl (by kernel_rfl) rfl rfl rfl rfl) ?_
 refine zO 6 rfl ?_
 refine at_wanted (j := 7) rfl ?_
 refine zT (ot_call (ks := [1]) rfl rfl rfl Tryz.call12 rfl (T12a _ (by first | assumption | rfl | omega | decide | (simp; done) | (simp at *; omega))) rfl) ?_
 rintro v0 _ ⟨m0, hp0, rfl⟩
 obtain ⟨B2, hp0⟩ := hp0
 obtain ⟨e2, hp0⟩ := hp0
 obtain ⟨rfl, rfl⟩ := hp0
 simp only [zca, zna, splice, spliceL]
 refine at_wanted (j := 7) rfl ?_
 refine zV (ov_build (cs := [_, _]) rfl rfl rfl rfl) ?_
 refine at_wanted (j := 7) rfl ?_
 refine zT (ot_buildSlice (cs := [_, _]) rfl Tryz.underlying38 rfl rfl rfl rfl rfl rfl) ?_
 rintro _ _ ⟨g1, rfl, rfl⟩
 refine at_wanted (j := 7) rfl ?_
 refine at_rowOf pE 0 (size := 2) (c := 1) [([97], [98])] rfl (fun _ _ => rfl) (by decide) (by decide) (by decide) rfl ?_
 simp only [setAt]
 refine at_reval 25 (.slice (some ⟨g1, 0, none⟩) ([([97], [98])] : List PR).length 1) rfl rfl ?_
 refine zcall [1, 0] rfl rfl rfl Tryz.call11 rfl (T11 _ (by first | assumption | rfl | omega | decide | (simp; done) | (simp at *; omega)) (by first | assumption | rfl | omega | decide | (simp; done) | (simp at *; omega))) rfl ?_
 simp only [zca, zna, splice, spliceL]
 refine zO 3 rfl ?_
 refine at_wanted (j := 14) rfl ?_
 refine zT (ot_buildSlice (cs := [_]) rfl Tryz.underlying35 rfl rfl rfl rfl rfl rfl) ?_
 rintro _ _ ⟨g2, rfl, rfl⟩
 refine at_wanted (j := 14) rfl ?_
 refine at_rowOf bsE 0 (size := 1) (c := 1) [[98]] rfl (fun _ _ => rfl) (by decide) (by decide) (by decide) rfl ?_
 simp only [setAt]
 refine at_reval 30 (.slice (some ⟨g2, 0, none⟩) ([[98]] : List BL).length 1) rfl rfl ?_
 refine zcall [4, 0] rfl rfl rfl Tryz.call13 rfl (T13 _ (by first | assumption | rfl | omega | decide | (simp; done) | (simp at *; omega)) (by first | assumption | rfl | omega | decide | (simp; done) | (simp at *; omega))) rfl ?_
 simp only [zca, zna, splice, spliceL]
 refine zO 2 rfl ?_
 refine at_wanted (j := 19) rfl ?_
 refine zcall [] rfl rfl rfl Tryz.call5 rfl (hX ) rfl ?_
 simp only [zca, zna, splice, spliceL]
 refine at_wanted (j := 19) rfl ?_
 refine zV (ov_build (cs := [_, _, _]) rfl rfl rfl rfl) ?_
 refine at_wanted (j := 19) rfl ?_
 refine zV (ov_eqS rfl (by kernel_rfl) rfl rfl rfl rfl) ?_
 refine zO 5 rfl ?_
 refine zQ ?_
 refine at_end ?_
 refine at_fin (rsV rfl (res_tmp rfl)) ?_
 refine ⟨_, ⟨rfl, rfl⟩, ?_⟩
 exact zE [] [0, 0, 0, 0, 0, 0]
end Go.Proofs.YtmedbdcjniggcaaGreatDoor
