/- Whatever key and value are, their quotes twice, a statement puts them, and tells them again: the statement PlanQuotesCardSaid, for every input, the listed tables tied to the program's text. -/
import Derived.Test.YtmedbdcjniggcaaDoorRows
import Derived.Test.YtmedbdcjniggcaaDoorSLOpen
import Derived.Test.YtmedbdcjniggcaaDoorSLSize
import Derived.Test.YtmedbdcjniggcaaDoorCards
import Derived.Test.YtmedbdcjniggcaaDoorTie
import Derived.Test.YtmedbdcjniggcaaDoorShelf
import Derived.Test.YtmedbdcjniggcaaDoorStrs
import Derived.Test.YtmedbdcjniggcaaDoorLexLaw
import Derived.Test.YtmedbdcjniggcaaDoorLex
import Derived.Test.YtmedbdcjniggcaaDoorLexLen
import Derived.Test.YtmedbdcjniggcaaDoorTrimDef
import Derived.Test.YtmedbdcjniggcaaDoorLtLaw
import Derived.Test.YtmedbdcjniggcaaDoorPlanLaw
import Derived.Test.YtmedbdcjniggcaaDoorOfLaw
import Derived.Test.YtmedbdcjniggcaaDoorRefPlan
import Derived.Test.YtmedbdcjniggcaaDoorRefPlan2
import Derived.Test.YtmedbdcjniggcaaDoorRefPlan3
import Derived.Test.YtmedbdcjniggcaaDoorPlan1
import Derived.Test.YtmedbdcjniggcaaDoorPlan2
import Derived.Test.YtmedbdcjniggcaaDoorPlan3
import Derived.Test.YtmedbdcjniggcaaDoorPlan4
import Derived.Test.YtmedbdcjniggcaaDoorPlan5
import Derived.Test.YtmedbdcjniggcaaDoorPlan6
import Derived.Test.YtmedbdcjniggcaaDoorPlan7
import Derived.Test.YtmedbdcjniggcaaDoorKeepLaw
import Derived.Test.YtmedbdcjniggcaaDoorQuotLaw
import Derived.Test.YtmedbdcjniggcaaDoorPlan9
import Derived.LaidMore
import Derived.Lay
import Derived.Stop.Joined
import Derived.Stop.LaidErr
import Derived.SevenTiedAt
import Derived.Lib.LaidTab
import Derived.MakeChecks
import Derived.WalkKit
import Derived.ProofKit
import Derived.OpenShut
import Derived.ShutString
import Derived.ChangeOld
import Derived.Below
import Derived.SizedLaws
import Derived.KernelRfl
import Derived.Shelf.Vars
set_option linter.unusedVariables false
namespace Go.Proofs.YtmedbdcjniggcaaDoor.planQuotes
open Go Go.ChangeShapes Go.WideShapes Go.ChangeAt Go.RowKit Go.Proofs.YtmedbdcjniggcaaDoor.SL Go.Proofs.YtmedbdcjniggcaaDoor
open Go.ChangeMaps (open_string shut_string)
theorem own : ownKnob Tryd.prog.godebug = none := by kernel_rfl
theorem laidOut : laidOutB Tryd.prog = true := by kernel_rfl
theorem maxL {W : World} (h : W.ShapedOpen Tryd.prog) : MaxL W :=
  Go.Proofs.cell_of_shapedOpen_int (g := 0) (t := 3) (zero := #[.int .i64 0]) h (of_decide_eq_true (by kernel_rfl)) (by kernel_rfl) rfl (by kernel_rfl) (by kernel_rfl) Tryd.underlying3
abbrev laidL : List (String × DataW Unit) := Rows.planQuotesRow.laid
theorem door_met (os : Os) (args : Array Value) : laidMetH Tryd.prog laidL ((World.laidAll Tryd.prog os laidL).forCall (fun _ _ => 0) ⟨#[], args, []⟩).memory :=
  by rw [MakeChecks.laidMetH_plain _ _ _ (by kernel_rfl)]; exact laidMet_laidAll _ (by kernel_rfl) (by kernel_rfl)
theorem plainL {W : World} (h : laidMetH Tryd.prog laidL W) : laidMet Tryd.prog laidL W := by
  rwa [MakeChecks.laidMetH_plain _ _ _ (by kernel_rfl)] at h
set_option maxRecDepth 100000 in
theorem lifted (os : Os) (started : os.Started) (H : Type) (enc : TypeId × Value → H) :
    ReturnsInHanded {} Tryd.checked os 5 .any (fun w args => (Rows.planQuotesSpec.pre enc Tryd.prog Tryd.f5 [] false w args ∧ laidMetH Tryd.prog laidL w) ∧ sizedMet enc Tryd.prog Tryd.f5 (OpenSpec.ofChange Rows.planQuotesSpec) false w args) (Rows.planQuotesSpec.post enc Tryd.prog Tryd.f5 false true false false) := by
  refine returnsInHanded_of_change_and_shaped (C := Tryd.checked) (X := (fun w _ => laidMetH Tryd.prog laidL w)) (fun _ _ _ hh h => h.of_heap hh) own started (by kernel_rfl) Tryd.func5
    (ChangeSpec.witness_shaped (enc := enc) (C := Tryd.checked) (os := os) (X := (fun w _ => laidMetH Tryd.prog laidL w)) false (World.laidAll Tryd.prog os laidL) #[.string ByteArray.empty, .string ByteArray.empty] 8 (World.laidAll_os _ _ _) (World.shaped_of_ZipB (by kernel_rfl) (by kernel_rfl)) (by kernel_rfl) (by kernel_rfl) (by kernel_rfl) (door_met os _)) ?_
  intro W base args ds gs before hval0 hW hcnd hsz0 hL hshape _
  have hsz : (DataW.weightsEach Tryd.prog (Tryd.f5.params.toList ++ Rows.planQuotesSpec.plain.varTypes Tryd.prog) (ds ++ gs)).all (· ≤ reachBytes) = true := hsz0
  have hval : ∀ (j : Nat) t v, Tryd.f5.params[j]? = some t → args[j]? = some v → Value.okWide Tryd.prog W .any base t v := hval0
  have hW' := hW
  obtain ⟨p, q, hA0, hV, rfl, hfz, hnd⟩ := hW
  have hA : DataW.TrodAll enc Tryd.prog W 0 (fun _ => true) true Tryd.f5.params.toList args.toList ds p := hA0
  rw [Tryd.params5] at hA hval hsz
  obtain ⟨v0, vs0, d0, ds0, p0, q0, hargs, rfl, rfl, h0, r0⟩ := trodAll_cons hA
  obtain ⟨v1, vs1, d1, ds1, p1, q1, rfl, rfl, rfl, h1, r1⟩ := trodAll_cons r0
  obtain ⟨rfl, rfl, rfl⟩ := trodAll_nil r1
  obtain rfl : args = #[v0, v1] := by cases args; simp_all
  obtain ⟨rfl, rfl⟩ := trodVars_none hV
  obtain ⟨a0, rfl, rfl, rfl, y0⟩ := open_string Tryd.underlying9 (hval 0 9 v0 rfl rfl) h0
  have w0 : a0.size ≤ 140737488351232 := by
    have z := sized_string hsz (j := 0) (t := 9) rfl rfl
    rw [Array.length_toList] at z
    exact z
  obtain ⟨a1, rfl, rfl, rfl, y1⟩ := open_string Tryd.underlying9 (hval 1 9 v1 rfl rfl) h1
  have w1 : a1.size ≤ 140737488351232 := by
    have z := sized_string hsz (j := 1) (t := 9) rfl rfl
    rw [Array.length_toList] at z
    exact z
  clear hA0 hval0 hsz0 hsz
  obtain ⟨b0, rfl⟩ : ∃ b : BL, a0 = ⟨b.toArray⟩ := ⟨a0.data.toList, by cases a0; simp⟩
  have wl0 : b0.length ≤ 140737488351232 := w0
  obtain ⟨b1, rfl⟩ : ∃ b : BL, a1 = ⟨b.toArray⟩ := ⟨a1.data.toList, by cases a1; simp⟩
  have wl1 : b1.length ≤ 140737488351232 := w1
  refine (law_calls (T5 W b0 b1 wl0 wl1 (maxL hshape))).mono fun e W' ⟨he, bel⟩ => ?_
  subst he
  exact ⟨_, rfl, _, _, _, [], _, [], hW', trodAll_mk1 (shut_bool Tryd.underlying4 _), (trodAll_cons_mk (shut_string Tryd.underlying9 y0) (trodAll_cons_mk (shut_string Tryd.underlying9 y1) trodAll_mk0)), rfl, bel.frame _, fun h => by cases h⟩
set_option maxRecDepth 100000 in
theorem over : Rows.planQuotesRow.holds Tryd.pinned (OpenSpec.ofChange Rows.planQuotesSpec) :=
  OpenClaim.holds_of_wide 5 Tryd.f5 rfl rfl rfl rfl rfl rfl rfl ⟨rfl, rfl, rfl, rfl, rfl⟩ rfl rfl rfl rfl rfl (by kernel_rfl) Tryd.func5 (by kernel_rfl)
    (of_decide_eq_true (by kernel_rfl)) (by unfold Func.isWrapper; first | (rw [if_pos (by decide +kernel)]; kernel_rfl) | (rw [if_neg (by decide +kernel)]; exact ⟨rfl, rfl⟩))
    (fun os started H enc _ => lifted os started H enc)
theorem proved : Rows.PlanQuotesCardSaid :=
  Claim7.holds_tied_plain_at .later [] [.data, .pinned] true (true, "bfcb389f08bd5ed3832df11c3fd15cfca0cc84d5849b10fa436e38050d1c121c") false
    over (fun _ h => by cases h) (by kernel_rfl) (fun _ h => by cases h) planQuotes_row_tie rfl ⟨rfl, rfl⟩ (by kernel_rfl) rfl
    (fun f fn hf hfn => by
      obtain rfl : f = 5 := Option.some.inj ((show Tryd.prog.funcNamed "signalman/signalmanlaw06.PlanQuotes" = some 5 by kernel_rfl).symm.trans hf) |>.symm
      obtain rfl : fn = Tryd.f5 := (Option.some.inj (Tryd.func5.symm.trans hfn)).symm
      exact ⟨by kernel_rfl, fun j t ht => by
        rw [Tryd.params5] at ht
        have hm : t ∈ [9, 9] := by simpa using Array.mem_of_getElem? ht
        have hall : ([9, 9].all fun u => !Tryd.prog.wantsStandIn u) = true := by kernel_rfl
        exact (show Tryd.prog.wantsStandIn t = false by simpa using List.all_eq_true.1 hall t hm)⟩)
    (by kernel_rfl)
end Go.Proofs.YtmedbdcjniggcaaDoor.planQuotes
namespace Go.Proofs.YtmedbdcjniggcaaDoor
/-- The row, under a short name, for the claim. -/
theorem planQuotes_holds : Rows.PlanQuotesCardSaid := planQuotes.proved
end Go.Proofs.YtmedbdcjniggcaaDoor
