/- However a text's letters are cased, its tokens are the same: the statement LexGreatCardSaid, for every input, the listed tables tied to the program's text. -/
import Derived.Test.YtfnbdgmeieilhaaDoorRows
import Derived.Test.YtfnbdgmeieilhaaDoorSLOpen
import Derived.Test.YtfnbdgmeieilhaaDoorSLSize
import Derived.Test.YtfnbdgmeieilhaaDoorCards
import Derived.Test.YtfnbdgmeieilhaaDoorTie
import Derived.Test.YtfnbdgmeieilhaaDoorShelf
import Derived.Test.YtfnbdgmeieilhaaDoorStrs
import Derived.Test.YtfnbdgmeieilhaaDoorLexLaw
import Derived.Test.YtfnbdgmeieilhaaDoorLex
import Derived.Test.YtfnbdgmeieilhaaDoorLex2
import Derived.Test.YtfnbdgmeieilhaaDoorRefLex
import Derived.Test.YtfnbdgmeieilhaaDoorRefLex2
import Derived.Test.YtfnbdgmeieilhaaDoorRefLex3
import Derived.Test.YtfnbdgmeieilhaaDoorRefLex4
import Derived.Test.YtfnbdgmeieilhaaDoorLexTells
import Derived.Test.YtfnbdgmeieilhaaDoorShelf2
import Derived.Test.YtfnbdgmeieilhaaDoorLexBack
import Derived.Test.YtfnbdgmeieilhaaDoorStrs2
import Derived.Test.YtfnbdgmeieilhaaDoorShelf3
import Derived.Test.YtfnbdgmeieilhaaDoorAnyRune
import Derived.Test.YtfnbdgmeieilhaaDoorLexGreat
import Derived.LaidMore
import Derived.Lay
import Derived.Stop.Joined
import Derived.Stop.LaidErr
import Derived.SevenTiedAt
import Derived.Lib.LaidTab
import Derived.MakeChecks
import Derived.WalkKit
import Derived.ProofKit
import Derived.OpenShut
import Derived.ShutString
import Derived.ChangeOld
import Derived.Below
import Derived.SizedLaws
import Derived.KernelRfl
import Derived.Shelf.Vars
set_option linter.unusedVariables false
namespace Go.Proofs.YtfnbdgmeieilhaaDoor.lexGreat
open Go Go.ChangeShapes Go.WideShapes Go.ChangeAt Go.RowKit Go.Proofs.YtfnbdgmeieilhaaDoor.SL Go.Proofs.YtfnbdgmeieilhaaDoor
open Go.ChangeMaps (open_string shut_string)
theorem own : ownKnob Tryd.prog.godebug = none := by kernel_rfl
theorem laidOut : laidOutB Tryd.prog = true := by kernel_rfl
theorem tok_of {el : List Value} (h : fitsL [.int .i64, .str] el ∧ strsIn el) : ∃ x : Tok, tE x = el ∧ x.2.length ≤ 140737488351232 := by
  match el, h with
  | [a, b], ⟨⟨ha, hb, _⟩, hs⟩ =>
    cases a <;> simp [SK.fits] at ha
    cases b <;> simp [SK.fits] at hb
    rename_i k n s
    obtain ⟨rfl, _⟩ := ha
    refine ⟨(n, s.data.toList), by simp [tE], ?_⟩
    have := hs s (by simp)
    rw [show (s.data.toList).length = s.size from Array.length_toList]
    exact this
theorem maxL {W : World} (h : W.ShapedOpen Tryd.prog) : MaxL W :=
  Go.Proofs.cell_of_shapedOpen_int (g := 0) (t := 3) (zero := #[.int .i64 0]) h (of_decide_eq_true (by kernel_rfl)) (by kernel_rfl) rfl (by kernel_rfl) (by kernel_rfl) Tryd.underlying3
abbrev laidL : List (String × DataW Unit) := Rows.lexGreatRow.laid
theorem door_met (os : Os) (args : Array Value) : laidMetH Tryd.prog laidL ((World.laidAll Tryd.prog os laidL).forCall (fun _ _ => 0) ⟨#[], args, []⟩).memory :=
  by rw [MakeChecks.laidMetH_plain _ _ _ (by kernel_rfl)]; exact laidMet_laidAll _ (by kernel_rfl) (by kernel_rfl)
theorem plainL {W : World} (h : laidMetH Tryd.prog laidL W) : laidMet Tryd.prog laidL W := by
  rwa [MakeChecks.laidMetH_plain _ _ _ (by kernel_rfl)] at h
set_option maxRecDepth 100000 in
theorem lifted (os : Os) (started : os.Started) (H : Type) (enc : TypeId × Value → H) :
    ReturnsInHanded {} Tryd.checked os 5 .any (fun w args => (Rows.lexGreatSpec.pre enc Tryd.prog Tryd.f5 [] false w args ∧ laidMetH Tryd.prog laidL w) ∧ sizedMet enc Tryd.prog Tryd.f5 (OpenSpec.ofChange Rows.lexGreatSpec) false w args) (Rows.lexGreatSpec.post enc Tryd.prog Tryd.f5 false true false false) := by
  refine returnsInHanded_of_change_and_shaped (C := Tryd.checked) (X := (fun w _ => laidMetH Tryd.prog laidL w)) (fun _ _ _ hh h => h.of_heap hh) own started (by kernel_rfl) Tryd.func5
    (ChangeSpec.witness_shaped (enc := enc) (C := Tryd.checked) (os := os) (X := (fun w _ => laidMetH Tryd.prog laidL w)) false (World.laidAll Tryd.prog os laidL) #[.string ByteArray.empty] 8 (World.laidAll_os _ _ _) (World.shaped_of_ZipB (by kernel_rfl) (by kernel_rfl)) (by kernel_rfl) (by kernel_rfl) (by kernel_rfl) (door_met os _)) ?_
  intro W base args ds gs before hval0 hW hcnd hsz0 hL hshape _
  have hsz : (DataW.weightsEach Tryd.prog (Tryd.f5.params.toList ++ Rows.lexGreatSpec.plain.varTypes Tryd.prog) (ds ++ gs)).all (· ≤ reachBytes) = true := hsz0
  have hval : ∀ (j : Nat) t v, Tryd.f5.params[j]? = some t → args[j]? = some v → Value.okWide Tryd.prog W .any base t v := hval0
  have hW' := hW
  obtain ⟨p, q, hA0, hV, rfl, hfz, hnd⟩ := hW
  have hA : DataW.TrodAll enc Tryd.prog W 0 (fun _ => true) true Tryd.f5.params.toList args.toList ds p := hA0
  rw [Tryd.params5] at hA hval hsz
  obtain ⟨v0, vs0, d0, ds0, p0, q0, hargs, rfl, rfl, h0, r0⟩ := trodAll_cons hA
  obtain ⟨rfl, rfl, rfl⟩ := trodAll_nil r0
  obtain rfl : args = #[v0] := by cases args; simp_all
  obtain ⟨rfl, rfl⟩ := trodVars_none hV
  obtain ⟨a0, rfl, rfl, rfl, y0⟩ := open_string Tryd.underlying9 (hval 0 9 v0 rfl rfl) h0
  have w0 : a0.size ≤ 140737488351232 := by
    have z := sized_string hsz (j := 0) (t := 9) rfl rfl
    rw [Array.length_toList] at z
    exact z
  clear hA0 hval0 hsz0 hsz
  obtain ⟨b0, rfl⟩ : ∃ b : BL, a0 = ⟨b.toArray⟩ := ⟨a0.data.toList, by cases a0; simp⟩
  have wl0 : b0.length ≤ 140737488351232 := w0
  refine (law_calls (T5 W b0 wl0 (maxL hshape))).mono fun e W' ⟨he, bel⟩ => ?_
  subst he
  exact ⟨_, rfl, _, _, _, [], _, [], hW', trodAll_mk1 (shut_bool Tryd.underlying4 _), (trodAll_cons_mk (shut_string Tryd.underlying9 y0) trodAll_mk0), rfl, bel.frame _, fun h => by cases h⟩
set_option maxRecDepth 100000 in
theorem over : Rows.lexGreatRow.holds Tryd.pinned (OpenSpec.ofChange Rows.lexGreatSpec) :=
  OpenClaim.holds_of_wide 5 Tryd.f5 rfl rfl rfl rfl rfl rfl rfl ⟨rfl, rfl, rfl, rfl, rfl⟩ rfl rfl rfl rfl rfl (by kernel_rfl) Tryd.func5 (by kernel_rfl)
    (of_decide_eq_true (by kernel_rfl)) (by unfold Func.isWrapper; first | (rw [if_pos (by decide +kernel)]; kernel_rfl) | (rw [if_neg (by decide +kernel)]; exact ⟨rfl, rfl⟩))
    (fun os started H enc _ => lifted os started H enc)
theorem proved : Rows.LexGreatCardSaid :=
  Claim7.holds_tied_plain_at .later [] [.data, .pinned, .pinned] true (true, "08050fb682daba55ca0a0446ddda4b94e86541c2e319b9cbe9344d540fc157dd") false
    over (fun _ h => by cases h) (by kernel_rfl) (fun _ h => by cases h) lexGreat_row_tie rfl ⟨rfl, rfl⟩ (by kernel_rfl) rfl
    (fun f fn hf hfn => by
      obtain rfl : f = 5 := Option.some.inj ((show Tryd.prog.funcNamed "signalman/signalmanlaw04.LexGreat" = some 5 by kernel_rfl).symm.trans hf) |>.symm
      obtain rfl : fn = Tryd.f5 := (Option.some.inj (Tryd.func5.symm.trans hfn)).symm
      exact ⟨by kernel_rfl, fun j t ht => by
        rw [Tryd.params5] at ht
        have hm : t ∈ [9] := by simpa using Array.mem_of_getElem? ht
        have hall : ([9].all fun u => !Tryd.prog.wantsStandIn u) = true := by kernel_rfl
        exact (show Tryd.prog.wantsStandIn t = false by simpa using List.all_eq_true.1 hall t hm)⟩)
    (by kernel_rfl)
end Go.Proofs.YtfnbdgmeieilhaaDoor.lexGreat
namespace Go.Proofs.YtfnbdgmeieilhaaDoor
/-- The row, under a short name, for the claim. -/
theorem lexGreat_holds : Rows.LexGreatCardSaid := lexGreat.proved
end Go.Proofs.YtfnbdgmeieilhaaDoor
