/- Two statements behind one another are no statement that is known: the statement ClassOneCardSaid, for every input, the listed tables tied to the program's text. -/
import Derived.Test.YtgclahlbifbgdaaGreatDoorRows
import Derived.Test.YtgclahlbifbgdaaGreatDoorSLOpen
import Derived.Test.YtgclahlbifbgdaaGreatDoorSLSize
import Derived.Test.YtgclahlbifbgdaaGreatDoorCards
import Derived.Test.YtgclahlbifbgdaaGreatDoorTie
import Derived.Test.YtgclahlbifbgdaaGreatDoorShelf
import Derived.Test.YtgclahlbifbgdaaGreatDoorStrs
import Derived.Test.YtgclahlbifbgdaaGreatDoorLexLaw
import Derived.Test.YtgclahlbifbgdaaGreatDoorLex
import Derived.Test.YtgclahlbifbgdaaGreatDoorLex2
import Derived.Test.YtgclahlbifbgdaaGreatDoorRefLex
import Derived.Test.YtgclahlbifbgdaaGreatDoorRefLex2
import Derived.Test.YtgclahlbifbgdaaGreatDoorLexLen
import Derived.Test.YtgclahlbifbgdaaGreatDoorOnce
import Derived.Test.YtgclahlbifbgdaaGreatDoorClass1
import Derived.Test.YtgclahlbifbgdaaGreatDoorClass2
import Derived.Test.YtgclahlbifbgdaaGreatDoorClassLaw
import Derived.Test.YtgclahlbifbgdaaGreatDoorClassDef
import Derived.Test.YtgclahlbifbgdaaGreatDoorClass3
import Derived.Test.YtgclahlbifbgdaaGreatDoorClass4
import Derived.Test.YtgclahlbifbgdaaGreatDoorClass5
import Derived.Test.YtgclahlbifbgdaaGreatDoorClass6
import Derived.Test.YtgclahlbifbgdaaGreatDoorClass7
import Derived.Test.YtgclahlbifbgdaaGreatDoorClass8
import Derived.Test.YtgclahlbifbgdaaGreatDoorClass9
import Derived.Test.YtgclahlbifbgdaaGreatDoorClass14
import Derived.Test.YtgclahlbifbgdaaGreatDoorClass15
import Derived.Test.YtgclahlbifbgdaaGreatDoorClass10
import Derived.Test.YtgclahlbifbgdaaGreatDoorClass11
import Derived.Test.YtgclahlbifbgdaaGreatDoorClass12
import Derived.Test.YtgclahlbifbgdaaGreatDoorClass13
import Derived.Test.YtgclahlbifbgdaaGreatDoorClass16
import Derived.Test.YtgclahlbifbgdaaGreatDoorSafeLaw
import Derived.Test.YtgclahlbifbgdaaGreatDoorOneLaw
import Derived.Test.YtgclahlbifbgdaaGreatDoorOne
import Derived.LaidMore
import Derived.Lay
import Derived.Stop.Joined
import Derived.Stop.LaidErr
import Derived.SevenTiedAt
import Derived.Lib.LaidTab
import Derived.MakeChecks
import Derived.WalkKit
import Derived.ProofKit
import Derived.OpenShut
import Derived.ShutString
import Derived.ChangeOld
import Derived.Below
import Derived.SizedLaws
import Derived.KernelRfl
import Derived.Shelf.Vars
set_option linter.unusedVariables false
namespace Go.Proofs.YtgclahlbifbgdaaGreatDoor.classOne
open Go Go.ChangeShapes Go.WideShapes Go.ChangeAt Go.RowKit Go.Proofs.YtgclahlbifbgdaaGreatDoor.SL Go.Proofs.YtgclahlbifbgdaaGreatDoor
open Go.ChangeMaps (open_string shut_string)
theorem own : ownKnob Tryz.prog.godebug = none := by kernel_rfl
theorem laidOut : laidOutB Tryz.prog = true := by kernel_rfl
theorem maxL {W : World} (h : W.ShapedOpen Tryz.prog) : MaxL W :=
  Go.Proofs.cell_of_shapedOpen_int (g := 1) (t := 3) (zero := #[.int .i64 0]) h (of_decide_eq_true (by kernel_rfl)) (by kernel_rfl) rfl (by kernel_rfl) (by kernel_rfl) Tryz.underlying3
abbrev laidL : List (String × DataW Unit) := Rows.classOneRow.laid
theorem door_met (os : Os) (args : Array Value) : laidMetH Tryz.prog laidL ((World.laidAll Tryz.prog os laidL).forCall (fun _ _ => 0) ⟨#[], args, []⟩).memory :=
  by rw [MakeChecks.laidMetH_plain _ _ _ (by kernel_rfl)]; exact laidMet_laidAll _ (by kernel_rfl) (by kernel_rfl)
theorem plainL {W : World} (h : laidMetH Tryz.prog laidL W) : laidMet Tryz.prog laidL W := by
  rwa [MakeChecks.laidMetH_plain _ _ _ (by kernel_rfl)] at h
set_option maxRecDepth 100000 in
theorem lifted (os : Os) (started : os.Started) (H : Type) (enc : TypeId × Value → H) :
    ReturnsInHanded {} Tryz.checked os 5 .any (fun w args => (Rows.classOneSpec.pre enc Tryz.prog Tryz.f5 [] false w args ∧ laidMetH Tryz.prog laidL w) ∧ sizedMet enc Tryz.prog Tryz.f5 (OpenSpec.ofChange Rows.classOneSpec) false w args) (Rows.classOneSpec.post enc Tryz.prog Tryz.f5 false true false false) := by
  refine returnsInHanded_of_change_and_shaped (C := Tryz.checked) (X := (fun w _ => laidMetH Tryz.prog laidL w)) (fun _ _ _ hh h => h.of_heap hh) own started (by kernel_rfl) Tryz.func5
    (ChangeSpec.witness_shaped (enc := enc) (C := Tryz.checked) (os := os) (X := (fun w _ => laidMetH Tryz.prog laidL w)) false (World.laidAll Tryz.prog os laidL) #[.string ByteArray.empty, .string ByteArray.empty] 8 (World.laidAll_os _ _ _) (World.shaped_of_ZipB (by kernel_rfl) (by kernel_rfl)) (by kernel_rfl) (by kernel_rfl) (by kernel_rfl) (door_met os _)) ?_
  intro W base args ds gs before hval0 hW hcnd hsz0 hL hshape _
  have hsz : (DataW.weightsEach Tryz.prog (Tryz.f5.params.toList ++ Rows.classOneSpec.plain.varTypes Tryz.prog) (ds ++ gs)).all (· ≤ reachBytes) = true := hsz0
  have hval : ∀ (j : Nat) t v, Tryz.f5.params[j]? = some t → args[j]? = some v → Value.okWide Tryz.prog W .any base t v := hval0
  have hW' := hW
  obtain ⟨p, q, hA0, hV, rfl, hfz, hnd⟩ := hW
  have hA : DataW.TrodAll enc Tryz.prog W 0 (fun _ => true) true Tryz.f5.params.toList args.toList ds p := hA0
  rw [Tryz.params5] at hA hval hsz
  obtain ⟨v0, vs0, d0, ds0, p0, q0, hargs, rfl, rfl, h0, r0⟩ := trodAll_cons hA
  obtain ⟨v1, vs1, d1, ds1, p1, q1, rfl, rfl, rfl, h1, r1⟩ := trodAll_cons r0
  obtain ⟨rfl, rfl, rfl⟩ := trodAll_nil r1
  obtain rfl : args = #[v0, v1] := by cases args; simp_all
  obtain ⟨rfl, rfl⟩ := trodVars_none hV
  obtain ⟨a0, rfl, rfl, rfl, y0⟩ := open_string Tryz.underlying9 (hval 0 9 v0 rfl rfl) h0
  have w0 : a0.size ≤ 140737488351232 := by
    have z := sized_string hsz (j := 0) (t := 9) rfl rfl
    rw [Array.length_toList] at z
    exact z
  obtain ⟨a1, rfl, rfl, rfl, y1⟩ := open_string Tryz.underlying9 (hval 1 9 v1 rfl rfl) h1
  have w1 : a1.size ≤ 140737488351232 := by
    have z := sized_string hsz (j := 1) (t := 9) rfl rfl
    rw [Array.length_toList] at z
    exact z
  clear hA0 hval0 hsz0 hsz
  obtain ⟨b0, rfl⟩ : ∃ b : BL, a0 = ⟨b.toArray⟩ := ⟨a0.data.toList, by cases a0; simp⟩
  have wl0 : b0.length ≤ 140737488351232 := w0
  obtain ⟨b1, rfl⟩ : ∃ b : BL, a1 = ⟨b.toArray⟩ := ⟨a1.data.toList, by cases a1; simp⟩
  have wl1 : b1.length ≤ 140737488351232 := w1
  refine (law_calls (T5 W b0 b1 wl0 wl1 (maxL hshape))).mono fun e W' ⟨he, bel⟩ => ?_
  subst he
  exact ⟨_, rfl, _, _, _, [], _, [], hW', trodAll_mk1 (shut_bool Tryz.underlying4 _), (trodAll_cons_mk (shut_string Tryz.underlying9 y0) (trodAll_cons_mk (shut_string Tryz.underlying9 y1) trodAll_mk0)), rfl, bel.frame _, fun h => by cases h⟩
set_option maxRecDepth 100000 in
theorem over : Rows.classOneRow.holds Tryz.pinned (OpenSpec.ofChange Rows.classOneSpec) :=
  OpenClaim.holds_of_wide 5 Tryz.f5 rfl rfl rfl rfl rfl rfl rfl ⟨rfl, rfl, rfl, rfl, rfl⟩ rfl rfl rfl rfl rfl (by kernel_rfl) Tryz.func5 (by kernel_rfl)
    (of_decide_eq_true (by kernel_rfl)) (by unfold Func.isWrapper; first | (rw [if_pos (by decide +kernel)]; kernel_rfl) | (rw [if_neg (by decide +kernel)]; exact ⟨rfl, rfl⟩))
    (fun os started H enc _ => lifted os started H enc)
theorem proved : Rows.ClassOneCardSaid :=
  Claim7.holds_tied_plain_at .later [] [.data, .pinned] true (true, "b943455041c79434b6790a2cfc7e14e29bdab6e07b73df0fa3ef8b0335727594") false
    over (fun _ h => by cases h) (by kernel_rfl) (fun _ h => by cases h) classOne_row_tie rfl ⟨rfl, rfl⟩ (by kernel_rfl) rfl
    (fun f fn hf hfn => by
      obtain rfl : f = 5 := Option.some.inj ((show Tryz.prog.funcNamed "signalman/signalmanlaw05.ClassOne" = some 5 by kernel_rfl).symm.trans hf) |>.symm
      obtain rfl : fn = Tryz.f5 := (Option.some.inj (Tryz.func5.symm.trans hfn)).symm
      exact ⟨by kernel_rfl, fun j t ht => by
        rw [Tryz.params5] at ht
        have hm : t ∈ [9, 9] := by simpa using Array.mem_of_getElem? ht
        have hall : ([9, 9].all fun u => !Tryz.prog.wantsStandIn u) = true := by kernel_rfl
        exact (show Tryz.prog.wantsStandIn t = false by simpa using List.all_eq_true.1 hall t hm)⟩)
    (by kernel_rfl)
end Go.Proofs.YtgclahlbifbgdaaGreatDoor.classOne
namespace Go.Proofs.YtgclahlbifbgdaaGreatDoor
/-- The row, under a short name, for the claim. -/
theorem classOne_holds : Rows.ClassOneCardSaid := classOne.proved
end Go.Proofs.YtgclahlbifbgdaaGreatDoor
