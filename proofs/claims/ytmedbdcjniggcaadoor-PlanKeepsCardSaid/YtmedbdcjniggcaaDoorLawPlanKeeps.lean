/- Behind any plans each key is what the last one says that concerned it, and tables stay tables: the statement PlanKeepsCardSaid, for every input, the listed tables tied to the program's text. -/
import Derived.Test.YtmedbdcjniggcaaDoorRows
import Derived.Test.YtmedbdcjniggcaaDoorSLOpen
import Derived.Test.YtmedbdcjniggcaaDoorSLSize
import Derived.Test.YtmedbdcjniggcaaDoorCards
import Derived.Test.YtmedbdcjniggcaaDoorTie
import Derived.Test.YtmedbdcjniggcaaDoorShelf
import Derived.Test.YtmedbdcjniggcaaDoorStrs
import Derived.Test.YtmedbdcjniggcaaDoorLexLaw
import Derived.Test.YtmedbdcjniggcaaDoorLex
import Derived.Test.YtmedbdcjniggcaaDoorLexLen
import Derived.Test.YtmedbdcjniggcaaDoorTrimDef
import Derived.Test.YtmedbdcjniggcaaDoorLtLaw
import Derived.Test.YtmedbdcjniggcaaDoorPlanLaw
import Derived.Test.YtmedbdcjniggcaaDoorOfLaw
import Derived.Test.YtmedbdcjniggcaaDoorRefPlan
import Derived.Test.YtmedbdcjniggcaaDoorRefPlan2
import Derived.Test.YtmedbdcjniggcaaDoorRefPlan3
import Derived.Test.YtmedbdcjniggcaaDoorPlan1
import Derived.Test.YtmedbdcjniggcaaDoorPlan2
import Derived.Test.YtmedbdcjniggcaaDoorPlan3
import Derived.Test.YtmedbdcjniggcaaDoorPlan4
import Derived.Test.YtmedbdcjniggcaaDoorPlan5
import Derived.Test.YtmedbdcjniggcaaDoorPlan6
import Derived.Test.YtmedbdcjniggcaaDoorPlan7
import Derived.Test.YtmedbdcjniggcaaDoorKeepLaw
import Derived.Test.YtmedbdcjniggcaaDoorPlan8
import Derived.LaidMore
import Derived.Lay
import Derived.Stop.Joined
import Derived.Stop.LaidErr
import Derived.SevenTiedAt
import Derived.Lib.LaidTab
import Derived.MakeChecks
import Derived.WalkKit
import Derived.ProofKit
import Derived.OpenShut
import Derived.ShutString
import Derived.ChangeOld
import Derived.Below
import Derived.SizedLaws
import Derived.KernelRfl
import Derived.Shelf.Vars
set_option linter.unusedVariables false
namespace Go.Proofs.YtmedbdcjniggcaaDoor.planKeeps
open Go Go.ChangeShapes Go.WideShapes Go.ChangeAt Go.RowKit Go.Proofs.YtmedbdcjniggcaaDoor.SL Go.Proofs.YtmedbdcjniggcaaDoor
open Go.ChangeMaps (open_string shut_string)
theorem own : ownKnob Tryd.prog.godebug = none := by kernel_rfl
theorem laidOut : laidOutB Tryd.prog = true := by kernel_rfl
theorem pair_of {el : List Value} (h : fitsL [.str, .str] el ∧ strsIn el) : ∃ x : PR, pE x = el ∧ (x.1.length ≤ 140737488351232 ∧ x.2.length ≤ 140737488351232) := by
  match el, h with
  | [a, b], ⟨⟨ha, hb, _⟩, hs⟩ =>
    cases a <;> simp [SK.fits] at ha
    cases b <;> simp [SK.fits] at hb
    rename_i s t
    refine ⟨(s.data.toList, t.data.toList), by simp [pE], ?_⟩
    have key : ∀ q : ByteArray, q.size ≤ 140737488351232 → (q.data.toList).length ≤ 140737488351232 := fun q h => by rw [show (q.data.toList).length = q.size from Array.length_toList]; exact h
    exact ⟨key s (hs s (by simp)), key t (hs t (by simp))⟩
theorem plan_of {el : List Value} (h : fitsL [.int .i64, .str, .str] el ∧ strsIn el) : ∃ x : PM, planE x = el ∧ (x.2.1.length ≤ 140737488351232 ∧ x.2.2.length ≤ 140737488351232) := by
  match el, h with
  | [a, b, c], ⟨⟨ha, hb, hc, _⟩, hs⟩ =>
    cases a <;> simp [SK.fits] at ha
    cases b <;> simp [SK.fits] at hb
    cases c <;> simp [SK.fits] at hc
    rename_i k n s t
    obtain ⟨rfl, _⟩ := ha
    refine ⟨(n, s.data.toList, t.data.toList), by simp [planE], ?_⟩
    have key : ∀ q : ByteArray, q.size ≤ 140737488351232 → (q.data.toList).length ≤ 140737488351232 := fun q h => by rw [show (q.data.toList).length = q.size from Array.length_toList]; exact h
    exact ⟨key s (hs s (by simp)), key t (hs t (by simp))⟩
theorem maxL {W : World} (h : W.ShapedOpen Tryd.prog) : MaxL W :=
  Go.Proofs.cell_of_shapedOpen_int (g := 0) (t := 3) (zero := #[.int .i64 0]) h (of_decide_eq_true (by kernel_rfl)) (by kernel_rfl) rfl (by kernel_rfl) (by kernel_rfl) Tryd.underlying3
abbrev laidL : List (String × DataW Unit) := Rows.planKeepsRow.laid
theorem door_met (os : Os) (args : Array Value) : laidMetH Tryd.prog laidL ((World.laidAll Tryd.prog os laidL).forCall (fun _ _ => 0) ⟨#[], args, []⟩).memory :=
  by rw [MakeChecks.laidMetH_plain _ _ _ (by kernel_rfl)]; exact laidMet_laidAll _ (by kernel_rfl) (by kernel_rfl)
theorem plainL {W : World} (h : laidMetH Tryd.prog laidL W) : laidMet Tryd.prog laidL W := by
  rwa [MakeChecks.laidMetH_plain _ _ _ (by kernel_rfl)] at h
set_option maxRecDepth 100000 in
theorem lifted (os : Os) (started : os.Started) (H : Type) (enc : TypeId × Value → H) :
    ReturnsInHanded {} Tryd.checked os 4 .any (fun w args => (Rows.planKeepsSpec.pre enc Tryd.prog Tryd.f4 [] false w args ∧ laidMetH Tryd.prog laidL w) ∧ sizedMet enc Tryd.prog Tryd.f4 (OpenSpec.ofChange Rows.planKeepsSpec) false w args) (Rows.planKeepsSpec.post enc Tryd.prog Tryd.f4 false true false false) := by
  refine returnsInHanded_of_change_and_shaped (C := Tryd.checked) (X := (fun w _ => laidMetH Tryd.prog laidL w)) (fun _ _ _ hh h => h.of_heap hh) own started (by kernel_rfl) Tryd.func4
    (ChangeSpec.witness_shaped (enc := enc) (C := Tryd.checked) (os := os) (X := (fun w _ => laidMetH Tryd.prog laidL w)) false (World.laidAll Tryd.prog os laidL) #[.slice none 0 0, .string ByteArray.empty] 8 (World.laidAll_os _ _ _) (World.shaped_of_ZipB (by kernel_rfl) (by kernel_rfl)) (by kernel_rfl) (by kernel_rfl) (by kernel_rfl) (door_met os _)) ?_
  intro W base args ds gs before hval0 hW hcnd hsz0 hL hshape _
  have hsz : (DataW.weightsEach Tryd.prog (Tryd.f4.params.toList ++ Rows.planKeepsSpec.plain.varTypes Tryd.prog) (ds ++ gs)).all (· ≤ reachBytes) = true := hsz0
  have hval : ∀ (j : Nat) t v, Tryd.f4.params[j]? = some t → args[j]? = some v → Value.okWide Tryd.prog W .any base t v := hval0
  have hW' := hW
  obtain ⟨p, q, hA0, hV, rfl, hfz, hnd⟩ := hW
  have hA : DataW.TrodAll enc Tryd.prog W 0 (fun _ => true) true Tryd.f4.params.toList args.toList ds p := hA0
  rw [Tryd.params4] at hA hval hsz
  obtain ⟨v0, vs0, d0, ds0, p0, q0, hargs, rfl, rfl, h0, r0⟩ := trodAll_cons hA
  obtain ⟨v1, vs1, d1, ds1, p1, q1, rfl, rfl, rfl, h1, r1⟩ := trodAll_cons r0
  obtain ⟨rfl, rfl, rfl⟩ := trodAll_nil r1
  obtain rfl : args = #[v0, v1] := by cases args; simp_all
  obtain ⟨rfl, rfl⟩ := trodVars_none hV
  have k0 := h0
  have lt0 : ∀ x ∈ p0, x.block < W.heap.size := by obtain ⟨m, hm⟩ := k0; exact DataW.trod_lt m _ _ _ hm
  obtain ⟨A0, len0, cap0, rfl⟩ := okWide_slice Tryd.underlying40 (hval 0 40 v0 rfl rfl)
  obtain ⟨els0, hlen0, hcap0, hmax0, hfit0, hrd0, hnil0, hz0⟩ := open_flats2 (m := 8) (ks := [.int .i64, .str, .str]) Tryd.underlying40 (by kernel_rfl) (by kernel_rfl) (by decide) rfl h0 (sized_each hsz (j := 0) rfl rfl)
  obtain ⟨l0, rfl, hok0⟩ := typed (fun el he => plan_of (hfit0 el he))
  have hr0 := hrd0.typed
  rw [List.length_map] at hlen0
  subst hlen0
  have hm0 : l0.length ≤ 9223372036854775807 := by simp only [maxLen] at hmax0; omega
  obtain ⟨a1, rfl, rfl, rfl, y1⟩ := open_string Tryd.underlying9 (hval 1 9 v1 rfl rfl) h1
  have w1 : a1.size ≤ 140737488351232 := by
    have z := sized_string hsz (j := 1) (t := 9) rfl rfl
    rw [Array.length_toList] at z
    exact z
  clear hA0 hval0 hsz0 hsz
  have hl0 : l0.length ≤ 4398046511000 := by
    have e : Tryd.prog.bytesOf 23 = 40 := by kernel_rfl
    rw [e] at hz0
    simp only [reachBytes] at hz0
    omega
  obtain ⟨b1, rfl⟩ : ∃ b : BL, a1 = ⟨b.toArray⟩ := ⟨a1.data.toList, by cases a1; simp⟩
  have wl1 : b1.length ≤ 140737488351232 := w1
  refine (law_calls (T4 W b1 hr0 hl0 hok0 wl1 (maxL hshape))).mono fun e W' ⟨he, bel⟩ => ?_
  subst he
  exact ⟨_, rfl, _, _, _, [], _, [], hW', trodAll_mk1 (shut_bool Tryd.underlying4 _), (trodAll_cons_mk (Below.trod laidOut (by kernel_rfl) (of_decide_eq_true (by kernel_rfl)) k0 bel lt0) (trodAll_cons_mk (shut_string Tryd.underlying9 y1) trodAll_mk0)), rfl, bel.frame _, fun h => by cases h⟩
set_option maxRecDepth 100000 in
theorem over : Rows.planKeepsRow.holds Tryd.pinned (OpenSpec.ofChange Rows.planKeepsSpec) :=
  OpenClaim.holds_of_wide 4 Tryd.f4 rfl rfl rfl rfl rfl rfl rfl ⟨rfl, rfl, rfl, rfl, rfl⟩ rfl rfl rfl rfl rfl (by kernel_rfl) Tryd.func4 (by kernel_rfl)
    (of_decide_eq_true (by kernel_rfl)) (by unfold Func.isWrapper; first | (rw [if_pos (by decide +kernel)]; kernel_rfl) | (rw [if_neg (by decide +kernel)]; exact ⟨rfl, rfl⟩))
    (fun os started H enc _ => lifted os started H enc)
theorem proved : Rows.PlanKeepsCardSaid :=
  Claim7.holds_tied_plain_at .later [] [.data, .pinned] true (true, "bfcb389f08bd5ed3832df11c3fd15cfca0cc84d5849b10fa436e38050d1c121c") false
    over (fun _ h => by cases h) (by kernel_rfl) (fun _ h => by cases h) planKeeps_row_tie rfl ⟨rfl, rfl⟩ (by kernel_rfl) rfl
    (fun f fn hf hfn => by
      obtain rfl : f = 4 := Option.some.inj ((show Tryd.prog.funcNamed "signalman/signalmanlaw06.PlanKeeps" = some 4 by kernel_rfl).symm.trans hf) |>.symm
      obtain rfl : fn = Tryd.f4 := (Option.some.inj (Tryd.func4.symm.trans hfn)).symm
      exact ⟨by kernel_rfl, fun j t ht => by
        rw [Tryd.params4] at ht
        have hm : t ∈ [40, 9] := by simpa using Array.mem_of_getElem? ht
        have hall : ([40, 9].all fun u => !Tryd.prog.wantsStandIn u) = true := by kernel_rfl
        exact (show Tryd.prog.wantsStandIn t = false by simpa using List.all_eq_true.1 hall t hm)⟩)
    (by kernel_rfl)
end Go.Proofs.YtmedbdcjniggcaaDoor.planKeeps
namespace Go.Proofs.YtmedbdcjniggcaaDoor
/-- The row, under a short name, for the claim. -/
theorem planKeeps_holds : Rows.PlanKeepsCardSaid := planKeeps.proved
end Go.Proofs.YtmedbdcjniggcaaDoor
