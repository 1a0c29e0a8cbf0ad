/- Tokens written with remarks between them lex back: the statement LexRemarksCardSaid, for every input, the listed tables tied to the program's text. -/
import Derived.Test.YtfnbdgmeieilhaaDoorRows
import Derived.Test.YtfnbdgmeieilhaaDoorSLOpen
import Derived.Test.YtfnbdgmeieilhaaDoorSLSize
import Derived.Test.YtfnbdgmeieilhaaDoorCards
import Derived.Test.YtfnbdgmeieilhaaDoorTie
import Derived.Test.YtfnbdgmeieilhaaDoorShelf
import Derived.Test.YtfnbdgmeieilhaaDoorStrs
import Derived.Test.YtfnbdgmeieilhaaDoorLexLaw
import Derived.Test.YtfnbdgmeieilhaaDoorLex
import Derived.Test.YtfnbdgmeieilhaaDoorLex2
import Derived.Test.YtfnbdgmeieilhaaDoorRefLex
import Derived.Test.YtfnbdgmeieilhaaDoorRefLex2
import Derived.Test.YtfnbdgmeieilhaaDoorRefLex3
import Derived.Test.YtfnbdgmeieilhaaDoorRefLex4
import Derived.Test.YtfnbdgmeieilhaaDoorLexTells
import Derived.Test.YtfnbdgmeieilhaaDoorShelf2
import Derived.Test.YtfnbdgmeieilhaaDoorLexBack
import Derived.Test.YtfnbdgmeieilhaaDoorStrs2
import Derived.Test.YtfnbdgmeieilhaaDoorLexRem
import Derived.LaidMore
import Derived.Lay
import Derived.Stop.Joined
import Derived.Stop.LaidErr
import Derived.SevenTiedAt
import Derived.Lib.LaidTab
import Derived.MakeChecks
import Derived.WalkKit
import Derived.ProofKit
import Derived.OpenShut
import Derived.ShutString
import Derived.ChangeOld
import Derived.Below
import Derived.SizedLaws
import Derived.KernelRfl
import Derived.Shelf.Vars
import Derived.Lib.LaidU8
set_option linter.unusedVariables false
namespace Go.Proofs.YtfnbdgmeieilhaaDoor.lexRemarks
open Go Go.ChangeShapes Go.WideShapes Go.ChangeAt Go.RowKit Go.Proofs.YtfnbdgmeieilhaaDoor.SL Go.Proofs.YtfnbdgmeieilhaaDoor
open Go.ChangeMaps (open_string shut_string)
theorem own : ownKnob Tryd.prog.godebug = none := by kernel_rfl
theorem laidOut : laidOutB Tryd.prog = true := by kernel_rfl
theorem tok_of {el : List Value} (h : fitsL [.int .i64, .str] el ∧ strsIn el) : ∃ x : Tok, tE x = el ∧ x.2.length ≤ 140737488351232 := by
  match el, h with
  | [a, b], ⟨⟨ha, hb, _⟩, hs⟩ =>
    cases a <;> simp [SK.fits] at ha
    cases b <;> simp [SK.fits] at hb
    rename_i k n s
    obtain ⟨rfl, _⟩ := ha
    refine ⟨(n, s.data.toList), by simp [tE], ?_⟩
    have := hs s (by simp)
    rw [show (s.data.toList).length = s.size from Array.length_toList]
    exact this
theorem maxL {W : World} (h : W.ShapedOpen Tryd.prog) : MaxL W :=
  Go.Proofs.cell_of_shapedOpen_int (g := 0) (t := 3) (zero := #[.int .i64 0]) h (of_decide_eq_true (by kernel_rfl)) (by kernel_rfl) rfl (by kernel_rfl) (by kernel_rfl) Tryd.underlying3
abbrev laidL : List (String × DataW Unit) := Rows.lexRemarksRow.laid
theorem door_met (os : Os) (args : Array Value) : laidMetH Tryd.prog laidL ((World.laidAll Tryd.prog os laidL).forCall (fun _ _ => 0) ⟨#[], args, []⟩).memory :=
  by rw [MakeChecks.laidMetH_plain _ _ _ (by kernel_rfl)]; exact laidMet_laidAll _ (by kernel_rfl) (by kernel_rfl)
theorem plainL {W : World} (h : laidMetH Tryd.prog laidL W) : laidMet Tryd.prog laidL W := by
  rwa [MakeChecks.laidMetH_plain _ _ _ (by kernel_rfl)] at h
theorem first_eq : Go.Lib.firstData = Rows.laid_unicode_utf8_first := by kernel_rfl
theorem accept_eq : Go.Lib.acceptData = Rows.laid_unicode_utf8_acceptRanges := by kernel_rfl
theorem u8 {W : World} (h : laidMetH Tryd.prog laidL W) : U8T W := by
  refine utf8Tabs_of_reads (ρ := Tryd.lays230_ren) { Tryd.lays230 with } ⟨by kernel_rfl, by kernel_rfl, by kernel_rfl, by kernel_rfl, by kernel_rfl, by kernel_rfl, by kernel_rfl⟩ ?_ ?_
  · rw [first_eq]
    exact Go.Lib.laidMet.reads (l := laidL) (plainL h) (.tail _ (.head _))
  · rw [accept_eq]
    exact Go.Lib.laidMet.reads (l := laidL) (plainL h) (.head _)
set_option maxRecDepth 100000 in
theorem lifted (os : Os) (started : os.Started) (H : Type) (enc : TypeId × Value → H) :
    ReturnsInHanded {} Tryd.checked os 4 .any (fun w args => (Rows.lexRemarksSpec.pre enc Tryd.prog Tryd.f4 [] false w args ∧ laidMetH Tryd.prog laidL w) ∧ sizedMet enc Tryd.prog Tryd.f4 (OpenSpec.ofChange Rows.lexRemarksSpec) false w args) (Rows.lexRemarksSpec.post enc Tryd.prog Tryd.f4 false true false false) := by
  refine returnsInHanded_of_change_and_shaped (C := Tryd.checked) (X := (fun w _ => laidMetH Tryd.prog laidL w)) (fun _ _ _ hh h => h.of_heap hh) own started (by kernel_rfl) Tryd.func4
    (ChangeSpec.witness_shaped (enc := enc) (C := Tryd.checked) (os := os) (X := (fun w _ => laidMetH Tryd.prog laidL w)) false (World.laidAll Tryd.prog os laidL) #[.slice none 0 0, .string ByteArray.empty] 8 (World.laidAll_os _ _ _) (World.shaped_of_ZipB (by kernel_rfl) (by kernel_rfl)) (by kernel_rfl) (by kernel_rfl) (by kernel_rfl) (door_met os _)) ?_
  intro W base args ds gs before hval0 hW hcnd hsz0 hL hshape _
  have hsz : (DataW.weightsEach Tryd.prog (Tryd.f4.params.toList ++ Rows.lexRemarksSpec.plain.varTypes Tryd.prog) (ds ++ gs)).all (· ≤ reachBytes) = true := hsz0
  have hval : ∀ (j : Nat) t v, Tryd.f4.params[j]? = some t → args[j]? = some v → Value.okWide Tryd.prog W .any base t v := hval0
  have hW' := hW
  obtain ⟨p, q, hA0, hV, rfl, hfz, hnd⟩ := hW
  have hA : DataW.TrodAll enc Tryd.prog W 0 (fun _ => true) true Tryd.f4.params.toList args.toList ds p := hA0
  rw [Tryd.params4] at hA hval hsz
  obtain ⟨v0, vs0, d0, ds0, p0, q0, hargs, rfl, rfl, h0, r0⟩ := trodAll_cons hA
  obtain ⟨v1, vs1, d1, ds1, p1, q1, rfl, rfl, rfl, h1, r1⟩ := trodAll_cons r0
  obtain ⟨rfl, rfl, rfl⟩ := trodAll_nil r1
  obtain rfl : args = #[v0, v1] := by cases args; simp_all
  obtain ⟨rfl, rfl⟩ := trodVars_none hV
  have k0 := h0
  have lt0 : ∀ x ∈ p0, x.block < W.heap.size := by obtain ⟨m, hm⟩ := k0; exact DataW.trod_lt m _ _ _ hm
  obtain ⟨A0, len0, cap0, rfl⟩ := okWide_slice Tryd.underlying22 (hval 0 22 v0 rfl rfl)
  obtain ⟨els0, hlen0, hcap0, hmax0, hfit0, hrd0, hnil0, hz0⟩ := open_flats2 (m := 8) (ks := [.int .i64, .str]) Tryd.underlying22 (by kernel_rfl) (by kernel_rfl) (by decide) rfl h0 (sized_each hsz (j := 0) rfl rfl)
  obtain ⟨l0, rfl, hok0⟩ := typed (fun el he => tok_of (hfit0 el he))
  have hr0 := hrd0.typed
  rw [List.length_map] at hlen0
  subst hlen0
  have hm0 : l0.length ≤ 9223372036854775807 := by simp only [maxLen] at hmax0; omega
  obtain ⟨a1, rfl, rfl, rfl, y1⟩ := open_string Tryd.underlying9 (hval 1 9 v1 rfl rfl) h1
  have w1 : a1.size ≤ 140737488351232 := by
    have z := sized_string hsz (j := 1) (t := 9) rfl rfl
    rw [Array.length_toList] at z
    exact z
  clear hA0 hval0 hsz0 hsz
  have hl0 : l0.length ≤ 5864062014634 := by
    have e : Tryd.prog.bytesOf 24 = 24 := by kernel_rfl
    rw [e] at hz0
    simp only [reachBytes] at hz0
    omega
  obtain ⟨b1, rfl⟩ : ∃ b : BL, a1 = ⟨b.toArray⟩ := ⟨a1.data.toList, by cases a1; simp⟩
  have wl1 : b1.length ≤ 140737488351232 := w1
  refine (law_calls (T4 W b1 wl1 hr0 hl0 hok0 (maxL hshape) (u8 hL))).mono fun e W' ⟨he, bel⟩ => ?_
  subst he
  exact ⟨_, rfl, _, _, _, [], _, [], hW', trodAll_mk1 (shut_bool Tryd.underlying4 _), (trodAll_cons_mk (Below.trod laidOut (by kernel_rfl) (of_decide_eq_true (by kernel_rfl)) k0 bel lt0) (trodAll_cons_mk (shut_string Tryd.underlying9 y1) trodAll_mk0)), rfl, bel.frame _, fun h => by cases h⟩
set_option maxRecDepth 100000 in
theorem over : Rows.lexRemarksRow.holds Tryd.pinned (OpenSpec.ofChange Rows.lexRemarksSpec) :=
  OpenClaim.holds_of_wide 4 Tryd.f4 rfl rfl rfl rfl rfl rfl rfl ⟨rfl, rfl, rfl, rfl, rfl⟩ rfl rfl rfl rfl rfl (by kernel_rfl) Tryd.func4 (by kernel_rfl)
    (of_decide_eq_true (by kernel_rfl)) (by unfold Func.isWrapper; first | (rw [if_pos (by decide +kernel)]; kernel_rfl) | (rw [if_neg (by decide +kernel)]; exact ⟨rfl, rfl⟩))
    (fun os started H enc _ => lifted os started H enc)
theorem proved : Rows.LexRemarksCardSaid :=
  Claim7.holds_tied_plain_at .later [] [.data, .pinned] true (true, "08050fb682daba55ca0a0446ddda4b94e86541c2e319b9cbe9344d540fc157dd") false
    over (fun _ h => by cases h) (by kernel_rfl) (fun _ h => by cases h) lexRemarks_row_tie rfl ⟨rfl, rfl⟩ (by kernel_rfl) rfl
    (fun f fn hf hfn => by
      obtain rfl : f = 4 := Option.some.inj ((show Tryd.prog.funcNamed "signalman/signalmanlaw04.LexRemarks" = some 4 by kernel_rfl).symm.trans hf) |>.symm
      obtain rfl : fn = Tryd.f4 := (Option.some.inj (Tryd.func4.symm.trans hfn)).symm
      exact ⟨by kernel_rfl, fun j t ht => by
        rw [Tryd.params4] at ht
        have hm : t ∈ [22, 9] := by simpa using Array.mem_of_getElem? ht
        have hall : ([22, 9].all fun u => !Tryd.prog.wantsStandIn u) = true := by kernel_rfl
        exact (show Tryd.prog.wantsStandIn t = false by simpa using List.all_eq_true.1 hall t hm)⟩)
    (by kernel_rfl)
end Go.Proofs.YtfnbdgmeieilhaaDoor.lexRemarks
namespace Go.Proofs.YtfnbdgmeieilhaaDoor
/-- The row, under a short name, for the claim. -/
theorem lexRemarks_holds : Rows.LexRemarksCardSaid := lexRemarks.proved
end Go.Proofs.YtfnbdgmeieilhaaDoor
