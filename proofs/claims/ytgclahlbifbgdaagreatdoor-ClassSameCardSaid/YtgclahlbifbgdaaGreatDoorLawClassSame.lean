/- Remarks, blanks, signs ; at the end and letters' greatness change no class: the statement ClassSameCardSaid, for every input, the listed tables tied to the program's text. -/
import Derived.Test.YtgclahlbifbgdaaGreatDoorRows
import Derived.Test.YtgclahlbifbgdaaGreatDoorSLOpen
import Derived.Test.YtgclahlbifbgdaaGreatDoorSLSize
import Derived.Test.YtgclahlbifbgdaaGreatDoorCards
import Derived.Test.YtgclahlbifbgdaaGreatDoorTie
import Derived.Test.YtgclahlbifbgdaaGreatDoorShelf
import Derived.Test.YtgclahlbifbgdaaGreatDoorStrs
import Derived.Test.YtgclahlbifbgdaaGreatDoorLexLaw
import Derived.Test.YtgclahlbifbgdaaGreatDoorLex
import Derived.Test.YtgclahlbifbgdaaGreatDoorLex2
import Derived.Test.YtgclahlbifbgdaaGreatDoorRefLex
import Derived.Test.YtgclahlbifbgdaaGreatDoorRefLex2
import Derived.Test.YtgclahlbifbgdaaGreatDoorLexLen
import Derived.Test.YtgclahlbifbgdaaGreatDoorRefLex3
import Derived.Test.YtgclahlbifbgdaaGreatDoorRefLex4
import Derived.Test.YtgclahlbifbgdaaGreatDoorLexTells
import Derived.Test.YtgclahlbifbgdaaGreatDoorLexBack
import Derived.Test.YtgclahlbifbgdaaGreatDoorOnce
import Derived.Test.YtgclahlbifbgdaaGreatDoorClass1
import Derived.Test.YtgclahlbifbgdaaGreatDoorClass2
import Derived.Test.YtgclahlbifbgdaaGreatDoorClassLaw
import Derived.Test.YtgclahlbifbgdaaGreatDoorClassDef
import Derived.Test.YtgclahlbifbgdaaGreatDoorClass3
import Derived.Test.YtgclahlbifbgdaaGreatDoorClass4
import Derived.Test.YtgclahlbifbgdaaGreatDoorClass5
import Derived.Test.YtgclahlbifbgdaaGreatDoorClass6
import Derived.Test.YtgclahlbifbgdaaGreatDoorClass7
import Derived.Test.YtgclahlbifbgdaaGreatDoorClass8
import Derived.Test.YtgclahlbifbgdaaGreatDoorClass9
import Derived.Test.YtgclahlbifbgdaaGreatDoorClass14
import Derived.Test.YtgclahlbifbgdaaGreatDoorClass15
import Derived.Test.YtgclahlbifbgdaaGreatDoorClass10
import Derived.Test.YtgclahlbifbgdaaGreatDoorClass11
import Derived.Test.YtgclahlbifbgdaaGreatDoorClass12
import Derived.Test.YtgclahlbifbgdaaGreatDoorClass13
import Derived.Test.YtgclahlbifbgdaaGreatDoorClass16
import Derived.Test.YtgclahlbifbgdaaGreatDoorSafeLaw
import Derived.Test.YtgclahlbifbgdaaGreatDoorOneLaw
import Derived.Test.YtgclahlbifbgdaaGreatDoorSameLaw
import Derived.Test.YtgclahlbifbgdaaGreatDoorSame
import Derived.LaidMore
import Derived.Lay
import Derived.Stop.Joined
import Derived.Stop.LaidErr
import Derived.SevenTiedAt
import Derived.Lib.LaidTab
import Derived.MakeChecks
import Derived.WalkKit
import Derived.ProofKit
import Derived.OpenShut
import Derived.ShutString
import Derived.ChangeOld
import Derived.Below
import Derived.SizedLaws
import Derived.KernelRfl
import Derived.Shelf.Vars
set_option linter.unusedVariables false
namespace Go.Proofs.YtgclahlbifbgdaaGreatDoor.classSame
open Go Go.ChangeShapes Go.WideShapes Go.ChangeAt Go.RowKit Go.Proofs.YtgclahlbifbgdaaGreatDoor.SL Go.Proofs.YtgclahlbifbgdaaGreatDoor
open Go.ChangeMaps (open_string shut_string)
theorem own : ownKnob Tryz.prog.godebug = none := by kernel_rfl
theorem laidOut : laidOutB Tryz.prog = true := by kernel_rfl
theorem tok_of {el : List Value} (h : fitsL [.int .i64, .str] el ∧ strsIn el) : ∃ x : Tok, tE x = el ∧ x.2.length ≤ 140737488351232 := by
  match el, h with
  | [a, b], ⟨⟨ha, hb, _⟩, hs⟩ =>
    cases a <;> simp [SK.fits] at ha
    cases b <;> simp [SK.fits] at hb
    rename_i k n s
    obtain ⟨rfl, _⟩ := ha
    refine ⟨(n, s.data.toList), by simp [tE], ?_⟩
    have := hs s (by simp)
    rw [show (s.data.toList).length = s.size from Array.length_toList]
    exact this
theorem maxL {W : World} (h : W.ShapedOpen Tryz.prog) : MaxL W :=
  Go.Proofs.cell_of_shapedOpen_int (g := 1) (t := 3) (zero := #[.int .i64 0]) h (of_decide_eq_true (by kernel_rfl)) (by kernel_rfl) rfl (by kernel_rfl) (by kernel_rfl) Tryz.underlying3
abbrev laidL : List (String × DataW Unit) := Rows.classSameRow.laid
theorem door_met (os : Os) (args : Array Value) : laidMetH Tryz.prog laidL ((World.laidAll Tryz.prog os laidL).forCall (fun _ _ => 0) ⟨#[], args, []⟩).memory :=
  by rw [MakeChecks.laidMetH_plain _ _ _ (by kernel_rfl)]; exact laidMet_laidAll _ (by kernel_rfl) (by kernel_rfl)
theorem plainL {W : World} (h : laidMetH Tryz.prog laidL W) : laidMet Tryz.prog laidL W := by
  rwa [MakeChecks.laidMetH_plain _ _ _ (by kernel_rfl)] at h
set_option maxRecDepth 100000 in
theorem lifted (os : Os) (started : os.Started) (H : Type) (enc : TypeId × Value → H) :
    ReturnsInHanded {} Tryz.checked os 6 .any (fun w args => (Rows.classSameSpec.pre enc Tryz.prog Tryz.f6 [] false w args ∧ laidMetH Tryz.prog laidL w) ∧ sizedMet enc Tryz.prog Tryz.f6 (OpenSpec.ofChange Rows.classSameSpec) false w args) (Rows.classSameSpec.post enc Tryz.prog Tryz.f6 false true false false) := by
  refine returnsInHanded_of_change_and_shaped (C := Tryz.checked) (X := (fun w _ => laidMetH Tryz.prog laidL w)) (fun _ _ _ hh h => h.of_heap hh) own started (by kernel_rfl) Tryz.func6
    (ChangeSpec.witness_shaped (enc := enc) (C := Tryz.checked) (os := os) (X := (fun w _ => laidMetH Tryz.prog laidL w)) false (World.laidAll Tryz.prog os laidL) #[.slice none 0 0] 8 (World.laidAll_os _ _ _) (World.shaped_of_ZipB (by kernel_rfl) (by kernel_rfl)) (by kernel_rfl) (by kernel_rfl) (by kernel_rfl) (door_met os _)) ?_
  intro W base args ds gs before hval0 hW hcnd hsz0 hL hshape _
  have hsz : (DataW.weightsEach Tryz.prog (Tryz.f6.params.toList ++ Rows.classSameSpec.plain.varTypes Tryz.prog) (ds ++ gs)).all (· ≤ reachBytes) = true := hsz0
  have hval : ∀ (j : Nat) t v, Tryz.f6.params[j]? = some t → args[j]? = some v → Value.okWide Tryz.prog W .any base t v := hval0
  have hW' := hW
  obtain ⟨p, q, hA0, hV, rfl, hfz, hnd⟩ := hW
  have hA : DataW.TrodAll enc Tryz.prog W 0 (fun _ => true) true Tryz.f6.params.toList args.toList ds p := hA0
  rw [Tryz.params6] at hA hval hsz
  obtain ⟨v0, vs0, d0, ds0, p0, q0, hargs, rfl, rfl, h0, r0⟩ := trodAll_cons hA
  obtain ⟨rfl, rfl, rfl⟩ := trodAll_nil r0
  obtain rfl : args = #[v0] := by cases args; simp_all
  obtain ⟨rfl, rfl⟩ := trodVars_none hV
  have k0 := h0
  have lt0 : ∀ x ∈ p0, x.block < W.heap.size := by obtain ⟨m, hm⟩ := k0; exact DataW.trod_lt m _ _ _ hm
  obtain ⟨A0, len0, cap0, rfl⟩ := okWide_slice Tryz.underlying36 (hval 0 36 v0 rfl rfl)
  obtain ⟨els0, hlen0, hcap0, hmax0, hfit0, hrd0, hnil0, hz0⟩ := open_flats2 (m := 8) (ks := [.int .i64, .str]) Tryz.underlying36 (by kernel_rfl) (by kernel_rfl) (by decide) rfl h0 (sized_each hsz (j := 0) rfl rfl)
  obtain ⟨l0, rfl, hok0⟩ := typed (fun el he => tok_of (hfit0 el he))
  have hr0 := hrd0.typed
  rw [List.length_map] at hlen0
  subst hlen0
  have hm0 : l0.length ≤ 9223372036854775807 := by simp only [maxLen] at hmax0; omega
  clear hA0 hval0 hsz0 hsz
  have hl0 : l0.length ≤ 5864062014634 := by
    have e : Tryz.prog.bytesOf 37 = 24 := by kernel_rfl
    rw [e] at hz0
    simp only [reachBytes] at hz0
    omega
  refine (law_calls (T6 W hr0 hl0 hok0 (maxL hshape))).mono fun e W' ⟨he, bel⟩ => ?_
  subst he
  exact ⟨_, rfl, _, _, _, [], _, [], hW', trodAll_mk1 (shut_bool Tryz.underlying4 _), (trodAll_cons_mk (Below.trod laidOut (by kernel_rfl) (of_decide_eq_true (by kernel_rfl)) k0 bel lt0) trodAll_mk0), rfl, bel.frame _, fun h => by cases h⟩
set_option maxRecDepth 100000 in
theorem over : Rows.classSameRow.holds Tryz.pinned (OpenSpec.ofChange Rows.classSameSpec) :=
  OpenClaim.holds_of_wide 6 Tryz.f6 rfl rfl rfl rfl rfl rfl rfl ⟨rfl, rfl, rfl, rfl, rfl⟩ rfl rfl rfl rfl rfl (by kernel_rfl) Tryz.func6 (by kernel_rfl)
    (of_decide_eq_true (by kernel_rfl)) (by unfold Func.isWrapper; first | (rw [if_pos (by decide +kernel)]; kernel_rfl) | (rw [if_neg (by decide +kernel)]; exact ⟨rfl, rfl⟩))
    (fun os started H enc _ => lifted os started H enc)
theorem proved : Rows.ClassSameCardSaid :=
  Claim7.holds_tied_plain_at .later [] [.data, .pinned, .pinned] true (true, "b943455041c79434b6790a2cfc7e14e29bdab6e07b73df0fa3ef8b0335727594") false
    over (fun _ h => by cases h) (by kernel_rfl) (fun _ h => by cases h) classSame_row_tie rfl ⟨rfl, rfl⟩ (by kernel_rfl) rfl
    (fun f fn hf hfn => by
      obtain rfl : f = 6 := Option.some.inj ((show Tryz.prog.funcNamed "signalman/signalmanlaw05.ClassSame" = some 6 by kernel_rfl).symm.trans hf) |>.symm
      obtain rfl : fn = Tryz.f6 := (Option.some.inj (Tryz.func6.symm.trans hfn)).symm
      exact ⟨by kernel_rfl, fun j t ht => by
        rw [Tryz.params6] at ht
        have hm : t ∈ [36] := by simpa using Array.mem_of_getElem? ht
        have hall : ([36].all fun u => !Tryz.prog.wantsStandIn u) = true := by kernel_rfl
        exact (show Tryz.prog.wantsStandIn t = false by simpa using List.all_eq_true.1 hall t hm)⟩)
    (by kernel_rfl)
end Go.Proofs.YtgclahlbifbgdaaGreatDoor.classSame
namespace Go.Proofs.YtgclahlbifbgdaaGreatDoor
/-- The row, under a short name, for the claim. -/
theorem classSame_holds : Rows.ClassSameCardSaid := classSame.proved
end Go.Proofs.YtgclahlbifbgdaaGreatDoor
