/- Of a transaction all is laid, or nothing: the statement NodeWholeCardSaid, for every input, the listed tables tied to the program's text. -/
import Derived.Test.YtighdkdomfpadaaGreatDoorRows
import Derived.Test.YtighdkdomfpadaaGreatDoorSLA
import Derived.Test.YtighdkdomfpadaaGreatDoorSLB
import Derived.Test.YtighdkdomfpadaaGreatDoorCards
import Derived.Test.YtighdkdomfpadaaGreatDoorTie
import Derived.Test.YtighdkdomfpadaaGreatDoorShelf
import Derived.Test.YtighdkdomfpadaaGreatDoorStrs
import Derived.Test.YtighdkdomfpadaaGreatDoorLexLaw
import Derived.Test.YtighdkdomfpadaaGreatDoorLexLen
import Derived.Test.YtighdkdomfpadaaGreatDoorTrimDef
import Derived.Test.YtighdkdomfpadaaGreatDoorLtLaw
import Derived.Test.YtighdkdomfpadaaGreatDoorPlanLaw
import Derived.Test.YtighdkdomfpadaaGreatDoorOfLaw
import Derived.Test.YtighdkdomfpadaaGreatDoorKeepLaw
import Derived.Test.YtighdkdomfpadaaGreatDoorLex
import Derived.Test.YtighdkdomfpadaaGreatDoorLex2
import Derived.Test.YtighdkdomfpadaaGreatDoorRefLex
import Derived.Test.YtighdkdomfpadaaGreatDoorRefLex2
import Derived.Test.YtighdkdomfpadaaGreatDoorOnce
import Derived.Test.YtighdkdomfpadaaGreatDoorClassA
import Derived.Test.YtighdkdomfpadaaGreatDoorClassB
import Derived.Test.YtighdkdomfpadaaGreatDoorClass14
import Derived.Test.YtighdkdomfpadaaGreatDoorClassC
import Derived.Test.YtighdkdomfpadaaGreatDoorPlanA
import Derived.Test.YtighdkdomfpadaaGreatDoorPlan5
import Derived.Test.YtighdkdomfpadaaGreatDoorPlan6
import Derived.Test.YtighdkdomfpadaaGreatDoorNodeLaw
import Derived.Test.YtighdkdomfpadaaGreatDoorNode1
import Derived.Test.YtighdkdomfpadaaGreatDoorNode2
import Derived.Test.YtighdkdomfpadaaGreatDoorNode3
import Derived.Test.YtighdkdomfpadaaGreatDoorNode4
import Derived.Test.YtighdkdomfpadaaGreatDoorNode5
import Derived.Test.YtighdkdomfpadaaGreatDoorNode6
import Derived.Test.YtighdkdomfpadaaGreatDoorNode7
import Derived.Test.YtighdkdomfpadaaGreatDoorRefPlan
import Derived.Test.YtighdkdomfpadaaGreatDoorRefPlan2
import Derived.Test.YtighdkdomfpadaaGreatDoorNode8
import Derived.Test.YtighdkdomfpadaaGreatDoorWholeLaw
import Derived.Test.YtighdkdomfpadaaGreatDoorWhole
import Derived.LaidMore
import Derived.Lay
import Derived.Stop.Joined
import Derived.Stop.LaidErr
import Derived.SevenTiedAt
import Derived.Lib.LaidTab
import Derived.MakeChecks
import Derived.WalkKit
import Derived.ProofKit
import Derived.OpenShut
import Derived.ShutString
import Derived.ChangeOld
import Derived.Below
import Derived.SizedLaws
import Derived.KernelRfl
import Derived.Shelf.Vars
set_option linter.unusedVariables false
namespace Go.Proofs.YtighdkdomfpadaaGreatDoor.nodeWhole
open Go Go.ChangeShapes Go.WideShapes Go.ChangeAt Go.RowKit Go.Proofs.YtighdkdomfpadaaGreatDoor.SL Go.Proofs.YtighdkdomfpadaaGreatDoor
open Go.ChangeMaps (open_string shut_string)
theorem own : ownKnob Tryz.prog.godebug = none := by kernel_rfl
theorem laidOut : laidOutB Tryz.prog = true := by kernel_rfl
theorem fits_int {k : IntKind} {v : Value} (h : SK.fits (.int k) v) : ∃ n, v = .int k n ∧ (Lit.int k n).wf = true := by
  cases v <;> simp [SK.fits] at h
  obtain ⟨rfl, h⟩ := h
  exact ⟨_, rfl, h⟩
theorem fits_str {v : Value} (h : SK.fits .str v) : ∃ s, v = .string s := by
  cases v <;> simp [SK.fits] at h
  exact ⟨_, rfl⟩
theorem fits_bool {v : Value} (h : SK.fits .bool v) : ∃ s, v = .bool s := by
  cases v <;> simp [SK.fits] at h
  exact ⟨_, rfl⟩
theorem ac_of {el : List Value} (h : fitsL [.int .i64, .int .i64, .int .i64, .int .i64, .int .i64, .int .u64, .bool, .str] el ∧ strsIn el) : ∃ x : AC, acE x = el ∧ (0 ≤ x.ep ∧ x.ep < 18446744073709551616) := by
  match el, h with
  | [a, b, c, d, e, f, i, s], ⟨⟨ha, hb, hc, hd, he, hf, hi, hs, _⟩, _⟩ =>
    obtain ⟨a, rfl, _⟩ := fits_int ha
    obtain ⟨b, rfl, _⟩ := fits_int hb
    obtain ⟨c, rfl, _⟩ := fits_int hc
    obtain ⟨d, rfl, _⟩ := fits_int hd
    obtain ⟨e, rfl, _⟩ := fits_int he
    obtain ⟨f, rfl, wf⟩ := fits_int hf
    obtain ⟨i, rfl⟩ := fits_bool hi
    obtain ⟨s, rfl⟩ := fits_str hs
    refine ⟨⟨a, b, c, d, e, f, i, s.data.toList⟩, by simp [acE], ?_⟩
    have h1 := wf_u64 wf
    exact ⟨h1.1, by have := h1.2; show f < _; omega⟩
theorem str_of {el : List Value} (h : fitsL [.str] el ∧ strsIn el) : ∃ x : BL, bsE x = el ∧ x.length ≤ 140737488351232 := by
  match el, h with
  | [a], ⟨⟨ha, _⟩, hs⟩ =>
    obtain ⟨s, rfl⟩ := fits_str ha
    have h1 := hs s (by simp)
    refine ⟨s.data.toList, by simp [bsE], ?_⟩
    have e : s.size = s.data.toList.length := by rw [ByteArray.size, Array.length_toList]
    simp only [reachBytes] at h1
    omega
theorem maxL {W : World} (h : W.ShapedOpen Tryz.prog) : MaxL W :=
  Go.Proofs.cell_of_shapedOpen_int (g := 0) (t := 3) (zero := #[.int .i64 0]) h (of_decide_eq_true (by kernel_rfl)) (by kernel_rfl) rfl (by kernel_rfl) (by kernel_rfl) Tryz.underlying3
abbrev laidL : List (String × DataW Unit) := Rows.nodeWholeRow.laid
theorem door_met (os : Os) (args : Array Value) : laidMetH Tryz.prog laidL ((World.laidAll Tryz.prog os laidL).forCall (fun _ _ => 0) ⟨#[], args, []⟩).memory :=
  by rw [MakeChecks.laidMetH_plain _ _ _ (by kernel_rfl)]; exact laidMet_laidAll _ (by kernel_rfl) (by kernel_rfl)
theorem plainL {W : World} (h : laidMetH Tryz.prog laidL W) : laidMet Tryz.prog laidL W := by
  rwa [MakeChecks.laidMetH_plain _ _ _ (by kernel_rfl)] at h
set_option maxRecDepth 100000 in
theorem lifted (os : Os) (started : os.Started) (H : Type) (enc : TypeId × Value → H) :
    ReturnsInHanded {} Tryz.checked os 3 .any (fun w args => (Rows.nodeWholeSpec.pre enc Tryz.prog Tryz.f3 [] false w args ∧ laidMetH Tryz.prog laidL w) ∧ sizedMet enc Tryz.prog Tryz.f3 (OpenSpec.ofChange Rows.nodeWholeSpec) false w args) (Rows.nodeWholeSpec.post enc Tryz.prog Tryz.f3 false true false false) := by
  refine returnsInHanded_of_change_and_shaped (C := Tryz.checked) (X := (fun w _ => laidMetH Tryz.prog laidL w)) (fun _ _ _ hh h => h.of_heap hh) own started (by kernel_rfl) Tryz.func3
    (ChangeSpec.witness_shaped (enc := enc) (C := Tryz.checked) (os := os) (X := (fun w _ => laidMetH Tryz.prog laidL w)) false (World.laidAll Tryz.prog os laidL) #[.slice none 0 0, .int .i64 0, .string ByteArray.empty] 8 (World.laidAll_os _ _ _) (World.shaped_of_ZipB (by kernel_rfl) (by kernel_rfl)) (by kernel_rfl) (by kernel_rfl) (by kernel_rfl) (door_met os _)) ?_
  intro W base args ds gs before hval0 hW hcnd hsz0 hL hshape _
  have hsz : (DataW.weightsEach Tryz.prog (Tryz.f3.params.toList ++ Rows.nodeWholeSpec.plain.varTypes Tryz.prog) (ds ++ gs)).all (· ≤ reachBytes) = true := hsz0
  have hval : ∀ (j : Nat) t v, Tryz.f3.params[j]? = some t → args[j]? = some v → Value.okWide Tryz.prog W .any base t v := hval0
  have hW' := hW
  obtain ⟨p, q, hA0, hV, rfl, hfz, hnd⟩ := hW
  have hA : DataW.TrodAll enc Tryz.prog W 0 (fun _ => true) true Tryz.f3.params.toList args.toList ds p := hA0
  rw [Tryz.params3] at hA hval hsz
  obtain ⟨v0, vs0, d0, ds0, p0, q0, hargs, rfl, rfl, h0, r0⟩ := trodAll_cons hA
  obtain ⟨v1, vs1, d1, ds1, p1, q1, rfl, rfl, rfl, h1, r1⟩ := trodAll_cons r0
  obtain ⟨v2, vs2, d2, ds2, p2, q2, rfl, rfl, rfl, h2, r2⟩ := trodAll_cons r1
  obtain ⟨rfl, rfl, rfl⟩ := trodAll_nil r2
  obtain rfl : args = #[v0, v1, v2] := by cases args; simp_all
  obtain ⟨rfl, rfl⟩ := trodVars_none hV
  have k0 := h0
  have lt0 : ∀ x ∈ p0, x.block < W.heap.size := by obtain ⟨m, hm⟩ := k0; exact DataW.trod_lt m _ _ _ hm
  obtain ⟨A0, len0, cap0, rfl⟩ := okWide_slice Tryz.underlying22 (hval 0 22 v0 rfl rfl)
  obtain ⟨els0, hlen0, hcap0, hmax0, hfit0, hrd0, hnil0, hz0⟩ := open_flats2 (m := 8) (ks := [.str]) Tryz.underlying22 (by kernel_rfl) (by kernel_rfl) (by decide) rfl h0 (sized_each hsz (j := 0) rfl rfl)
  obtain ⟨l0, rfl, hok0⟩ := typed (fun el he => str_of (hfit0 el he))
  have hr0 := hrd0.typed
  rw [List.length_map] at hlen0
  subst hlen0
  have hm0 : l0.length ≤ 9223372036854775807 := by simp only [maxLen] at hmax0; omega
  obtain ⟨a1, rfl, rfl, rfl, w1⟩ := open_int Tryz.underlying3 (hval 1 3 v1 rfl rfl) h1
  obtain ⟨a2, rfl, rfl, rfl, y2⟩ := open_string Tryz.underlying9 (hval 2 9 v2 rfl rfl) h2
  have w2 : a2.size ≤ 140737488351232 := by
    have z := sized_string hsz (j := 2) (t := 9) rfl rfl
    rw [Array.length_toList] at z
    exact z
  clear hA0 hval0 hsz0 hsz
  have hl0 : l0.length ≤ 140737488351232 := by
    have e : Tryz.prog.bytesOf 9 = 16 := by kernel_rfl
    rw [e] at hz0
    simp only [reachBytes] at hz0
    omega
  obtain ⟨b2, rfl⟩ : ∃ b : BL, a2 = ⟨b.toArray⟩ := ⟨a2.data.toList, by cases a2; simp⟩
  have wl2 : b2.length ≤ 140737488351232 := w2
  refine (law_calls (T3 W a1 b2 hr0 hl0 hok0 wl2 (maxL hshape))).mono fun e W' ⟨he, bel⟩ => ?_
  subst he
  exact ⟨_, rfl, _, _, _, [], _, [], hW', trodAll_mk1 (shut_bool Tryz.underlying4 _), (trodAll_cons_mk (Below.trod laidOut (by kernel_rfl) (of_decide_eq_true (by kernel_rfl)) k0 bel lt0) (trodAll_cons_mk (shut_int Tryz.underlying3 w1) (trodAll_cons_mk (shut_string Tryz.underlying9 y2) trodAll_mk0))), rfl, bel.frame _, fun h => by cases h⟩
set_option maxRecDepth 100000 in
theorem over : Rows.nodeWholeRow.holds Tryz.pinned (OpenSpec.ofChange Rows.nodeWholeSpec) :=
  OpenClaim.holds_of_wide 3 Tryz.f3 rfl rfl rfl rfl rfl rfl rfl ⟨rfl, rfl, rfl, rfl, rfl⟩ rfl rfl rfl rfl rfl (by kernel_rfl) Tryz.func3 (by kernel_rfl)
    (of_decide_eq_true (by kernel_rfl)) (by unfold Func.isWrapper; first | (rw [if_pos (by decide +kernel)]; kernel_rfl) | (rw [if_neg (by decide +kernel)]; exact ⟨rfl, rfl⟩))
    (fun os started H enc _ => lifted os started H enc)
theorem proved : Rows.NodeWholeCardSaid :=
  Claim7.holds_tied_plain_at .later [] [.data, .pinned] true (true, "fc59136cb4322ff27ae724674255890339b1839da792e971c8ccee3ad1f9beea") false
    over (fun _ h => by cases h) (by kernel_rfl) (fun _ h => by cases h) nodeWhole_row_tie rfl ⟨rfl, rfl⟩ (by kernel_rfl) rfl
    (fun f fn hf hfn => by
      obtain rfl : f = 3 := Option.some.inj ((show Tryz.prog.funcNamed "signalman/signalmanlaw15.NodeWhole" = some 3 by kernel_rfl).symm.trans hf) |>.symm
      obtain rfl : fn = Tryz.f3 := (Option.some.inj (Tryz.func3.symm.trans hfn)).symm
      exact ⟨by kernel_rfl, fun j t ht => by
        rw [Tryz.params3] at ht
        have hm : t ∈ [22, 3, 9] := by simpa using Array.mem_of_getElem? ht
        have hall : ([22, 3, 9].all fun u => !Tryz.prog.wantsStandIn u) = true := by kernel_rfl
        exact (show Tryz.prog.wantsStandIn t = false by simpa using List.all_eq_true.1 hall t hm)⟩)
    (by kernel_rfl)
end Go.Proofs.YtighdkdomfpadaaGreatDoor.nodeWhole
namespace Go.Proofs.YtighdkdomfpadaaGreatDoor
/-- The row, under a short name, for the claim. -/
theorem nodeWhole_holds : Rows.NodeWholeCardSaid := nodeWhole.proved
end Go.Proofs.YtighdkdomfpadaaGreatDoor
