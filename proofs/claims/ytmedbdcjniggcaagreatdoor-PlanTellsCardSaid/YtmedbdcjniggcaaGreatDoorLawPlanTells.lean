/- What any statement does is as the reference says; what does something is classed as a read if it reads, and as a write if it writes: the statement PlanTellsCardSaid, for every input, the listed tables tied to the program's text. -/
import Derived.Test.YtmedbdcjniggcaaGreatDoorRows
import Derived.Test.YtmedbdcjniggcaaGreatDoorSLA
import Derived.Test.YtmedbdcjniggcaaGreatDoorSLB
import Derived.Test.YtmedbdcjniggcaaGreatDoorCards
import Derived.Test.YtmedbdcjniggcaaGreatDoorTie
import Derived.Test.YtmedbdcjniggcaaGreatDoorShelf
import Derived.Test.YtmedbdcjniggcaaGreatDoorStrs
import Derived.Test.YtmedbdcjniggcaaGreatDoorLexLaw
import Derived.Test.YtmedbdcjniggcaaGreatDoorLexLen
import Derived.Test.YtmedbdcjniggcaaGreatDoorTrimDef
import Derived.Test.YtmedbdcjniggcaaGreatDoorLtLaw
import Derived.Test.YtmedbdcjniggcaaGreatDoorPlanLaw
import Derived.Test.YtmedbdcjniggcaaGreatDoorOfLaw
import Derived.Test.YtmedbdcjniggcaaGreatDoorLex
import Derived.Test.YtmedbdcjniggcaaGreatDoorLex2
import Derived.Test.YtmedbdcjniggcaaGreatDoorRefLex
import Derived.Test.YtmedbdcjniggcaaGreatDoorRefLex2
import Derived.Test.YtmedbdcjniggcaaGreatDoorOnce
import Derived.Test.YtmedbdcjniggcaaGreatDoorClassA
import Derived.Test.YtmedbdcjniggcaaGreatDoorClassB
import Derived.Test.YtmedbdcjniggcaaGreatDoorClass14
import Derived.Test.YtmedbdcjniggcaaGreatDoorClassC
import Derived.Test.YtmedbdcjniggcaaGreatDoorRefPlan
import Derived.Test.YtmedbdcjniggcaaGreatDoorRefPlan2
import Derived.Test.YtmedbdcjniggcaaGreatDoorRefPlan3
import Derived.Test.YtmedbdcjniggcaaGreatDoorPlanA
import Derived.Test.YtmedbdcjniggcaaGreatDoorPlan5
import Derived.Test.YtmedbdcjniggcaaGreatDoorPlan6
import Derived.Test.YtmedbdcjniggcaaGreatDoorPlan7
import Derived.Test.YtmedbdcjniggcaaGreatDoorRefOf
import Derived.Test.YtmedbdcjniggcaaGreatDoorTellsLaw
import Derived.Test.YtmedbdcjniggcaaGreatDoorPlanTells
import Derived.LaidMore
import Derived.Lay
import Derived.Stop.Joined
import Derived.Stop.LaidErr
import Derived.SevenTiedAt
import Derived.Lib.LaidTab
import Derived.MakeChecks
import Derived.WalkKit
import Derived.ProofKit
import Derived.OpenShut
import Derived.ShutString
import Derived.ChangeOld
import Derived.Below
import Derived.SizedLaws
import Derived.KernelRfl
import Derived.Shelf.Vars
set_option linter.unusedVariables false
namespace Go.Proofs.YtmedbdcjniggcaaGreatDoor.planTells
open Go Go.ChangeShapes Go.WideShapes Go.ChangeAt Go.RowKit Go.Proofs.YtmedbdcjniggcaaGreatDoor.SL Go.Proofs.YtmedbdcjniggcaaGreatDoor
open Go.ChangeMaps (open_string shut_string)
theorem own : ownKnob Tryz.prog.godebug = none := by kernel_rfl
theorem laidOut : laidOutB Tryz.prog = true := by kernel_rfl
theorem maxL {W : World} (h : W.ShapedOpen Tryz.prog) : MaxL W :=
  Go.Proofs.cell_of_shapedOpen_int (g := 0) (t := 3) (zero := #[.int .i64 0]) h (of_decide_eq_true (by kernel_rfl)) (by kernel_rfl) rfl (by kernel_rfl) (by kernel_rfl) Tryz.underlying3
abbrev laidL : List (String × DataW Unit) := Rows.planTellsRow.laid
theorem door_met (os : Os) (args : Array Value) : laidMetH Tryz.prog laidL ((World.laidAll Tryz.prog os laidL).forCall (fun _ _ => 0) ⟨#[], args, []⟩).memory :=
  by rw [MakeChecks.laidMetH_plain _ _ _ (by kernel_rfl)]; exact laidMet_laidAll _ (by kernel_rfl) (by kernel_rfl)
theorem plainL {W : World} (h : laidMetH Tryz.prog laidL W) : laidMet Tryz.prog laidL W := by
  rwa [MakeChecks.laidMetH_plain _ _ _ (by kernel_rfl)] at h
set_option maxRecDepth 100000 in
theorem lifted (os : Os) (started : os.Started) (H : Type) (enc : TypeId × Value → H) :
    ReturnsInHanded {} Tryz.checked os 3 .any (fun w args => (Rows.planTellsSpec.pre enc Tryz.prog Tryz.f3 [] false w args ∧ laidMetH Tryz.prog laidL w) ∧ sizedMet enc Tryz.prog Tryz.f3 (OpenSpec.ofChange Rows.planTellsSpec) false w args) (Rows.planTellsSpec.post enc Tryz.prog Tryz.f3 false true false false) := by
  refine returnsInHanded_of_change_and_shaped (C := Tryz.checked) (X := (fun w _ => laidMetH Tryz.prog laidL w)) (fun _ _ _ hh h => h.of_heap hh) own started (by kernel_rfl) Tryz.func3
    (ChangeSpec.witness_shaped (enc := enc) (C := Tryz.checked) (os := os) (X := (fun w _ => laidMetH Tryz.prog laidL w)) false (World.laidAll Tryz.prog os laidL) #[.string ByteArray.empty] 8 (World.laidAll_os _ _ _) (World.shaped_of_ZipB (by kernel_rfl) (by kernel_rfl)) (by kernel_rfl) (by kernel_rfl) (by kernel_rfl) (door_met os _)) ?_
  intro W base args ds gs before hval0 hW hcnd hsz0 hL hshape _
  have hsz : (DataW.weightsEach Tryz.prog (Tryz.f3.params.toList ++ Rows.planTellsSpec.plain.varTypes Tryz.prog) (ds ++ gs)).all (· ≤ reachBytes) = true := hsz0
  have hval : ∀ (j : Nat) t v, Tryz.f3.params[j]? = some t → args[j]? = some v → Value.okWide Tryz.prog W .any base t v := hval0
  have hW' := hW
  obtain ⟨p, q, hA0, hV, rfl, hfz, hnd⟩ := hW
  have hA : DataW.TrodAll enc Tryz.prog W 0 (fun _ => true) true Tryz.f3.params.toList args.toList ds p := hA0
  rw [Tryz.params3] at hA hval hsz
  obtain ⟨v0, vs0, d0, ds0, p0, q0, hargs, rfl, rfl, h0, r0⟩ := trodAll_cons hA
  obtain ⟨rfl, rfl, rfl⟩ := trodAll_nil r0
  obtain rfl : args = #[v0] := by cases args; simp_all
  obtain ⟨rfl, rfl⟩ := trodVars_none hV
  obtain ⟨a0, rfl, rfl, rfl, y0⟩ := open_string Tryz.underlying9 (hval 0 9 v0 rfl rfl) h0
  have w0 : a0.size ≤ 140737488351232 := by
    have z := sized_string hsz (j := 0) (t := 9) rfl rfl
    rw [Array.length_toList] at z
    exact z
  clear hA0 hval0 hsz0 hsz
  obtain ⟨b0, rfl⟩ : ∃ b : BL, a0 = ⟨b.toArray⟩ := ⟨a0.data.toList, by cases a0; simp⟩
  have wl0 : b0.length ≤ 140737488351232 := w0
  refine (law_calls (T3 W b0 wl0 (maxL hshape))).mono fun e W' ⟨he, bel⟩ => ?_
  subst he
  exact ⟨_, rfl, _, _, _, [], _, [], hW', trodAll_mk1 (shut_bool Tryz.underlying4 _), (trodAll_cons_mk (shut_string Tryz.underlying9 y0) trodAll_mk0), rfl, bel.frame _, fun h => by cases h⟩
set_option maxRecDepth 100000 in
theorem over : Rows.planTellsRow.holds Tryz.pinned (OpenSpec.ofChange Rows.planTellsSpec) :=
  OpenClaim.holds_of_wide 3 Tryz.f3 rfl rfl rfl rfl rfl rfl rfl ⟨rfl, rfl, rfl, rfl, rfl⟩ rfl rfl rfl rfl rfl (by kernel_rfl) Tryz.func3 (by kernel_rfl)
    (of_decide_eq_true (by kernel_rfl)) (by unfold Func.isWrapper; first | (rw [if_pos (by decide +kernel)]; kernel_rfl) | (rw [if_neg (by decide +kernel)]; exact ⟨rfl, rfl⟩))
    (fun os started H enc _ => lifted os started H enc)
theorem proved : Rows.PlanTellsCardSaid :=
  Claim7.holds_tied_plain_at .later [] [.data, .pinned] true (true, "0f38dff04171a8eb7b16894f2c657f4a64be5c58fc6a5ed2dfcb667c48572ed1") false
    over (fun _ h => by cases h) (by kernel_rfl) (fun _ h => by cases h) planTells_row_tie rfl ⟨rfl, rfl⟩ (by kernel_rfl) rfl
    (fun f fn hf hfn => by
      obtain rfl : f = 3 := Option.some.inj ((show Tryz.prog.funcNamed "signalman/signalmanlaw06.PlanTells" = some 3 by kernel_rfl).symm.trans hf) |>.symm
      obtain rfl : fn = Tryz.f3 := (Option.some.inj (Tryz.func3.symm.trans hfn)).symm
      exact ⟨by kernel_rfl, fun j t ht => by
        rw [Tryz.params3] at ht
        have hm : t ∈ [9] := by simpa using Array.mem_of_getElem? ht
        have hall : ([9].all fun u => !Tryz.prog.wantsStandIn u) = true := by kernel_rfl
        exact (show Tryz.prog.wantsStandIn t = false by simpa using List.all_eq_true.1 hall t hm)⟩)
    (by kernel_rfl)
end Go.Proofs.YtmedbdcjniggcaaGreatDoor.planTells
namespace Go.Proofs.YtmedbdcjniggcaaGreatDoor
/-- The row, under a short name, for the claim. -/
theorem planTells_holds : Rows.PlanTellsCardSaid := planTells.proved
end Go.Proofs.YtmedbdcjniggcaaGreatDoor
