/- Act by act, on three nodes, what they answer, their epochs, their logs, and their tables, are as the reference says: the statement NodeDoesCardSaid, for every input, the listed tables tied to the program's text. -/
import Derived.Test.YtighdkdomfpadaaGreatDoorRows
import Derived.Test.YtighdkdomfpadaaGreatDoorSLA
import Derived.Test.YtighdkdomfpadaaGreatDoorSLB
import Derived.Test.YtighdkdomfpadaaGreatDoorCards
import Derived.Test.YtighdkdomfpadaaGreatDoorTie
import Derived.Test.YtighdkdomfpadaaGreatDoorShelf
import Derived.Test.YtighdkdomfpadaaGreatDoorStrs
import Derived.Test.YtighdkdomfpadaaGreatDoorLexLaw
import Derived.Test.YtighdkdomfpadaaGreatDoorLexLen
import Derived.Test.YtighdkdomfpadaaGreatDoorTrimDef
import Derived.Test.YtighdkdomfpadaaGreatDoorLtLaw
import Derived.Test.YtighdkdomfpadaaGreatDoorPlanLaw
import Derived.Test.YtighdkdomfpadaaGreatDoorOfLaw
import Derived.Test.YtighdkdomfpadaaGreatDoorKeepLaw
import Derived.Test.YtighdkdomfpadaaGreatDoorLex
import Derived.Test.YtighdkdomfpadaaGreatDoorLex2
import Derived.Test.YtighdkdomfpadaaGreatDoorRefLexA
import Derived.Test.YtighdkdomfpadaaGreatDoorOnce
import Derived.Test.YtighdkdomfpadaaGreatDoorClassA
import Derived.Test.YtighdkdomfpadaaGreatDoorClassB
import Derived.Test.YtighdkdomfpadaaGreatDoorClass14
import Derived.Test.YtighdkdomfpadaaGreatDoorClassC
import Derived.Test.YtighdkdomfpadaaGreatDoorPlanA
import Derived.Test.YtighdkdomfpadaaGreatDoorPlanB
import Derived.Test.YtighdkdomfpadaaGreatDoorNodeLaw
import Derived.Test.YtighdkdomfpadaaGreatDoorNodeX
import Derived.Test.YtighdkdomfpadaaGreatDoorNodeY
import Derived.Test.YtighdkdomfpadaaGreatDoorRefPlanA
import Derived.Test.YtighdkdomfpadaaGreatDoorRefOf
import Derived.Test.YtighdkdomfpadaaGreatDoorRClass
import Derived.Test.YtighdkdomfpadaaGreatDoorRNodeA
import Derived.Test.YtighdkdomfpadaaGreatDoorRNodeB
import Derived.Test.YtighdkdomfpadaaGreatDoorFences
import Derived.Test.YtighdkdomfpadaaGreatDoorNdoes
import Derived.LaidMore
import Derived.Lay
import Derived.Stop.Joined
import Derived.Stop.LaidErr
import Derived.SevenTiedAt
import Derived.Lib.LaidTab
import Derived.MakeChecks
import Derived.WalkKit
import Derived.ProofKit
import Derived.OpenShut
import Derived.ShutString
import Derived.ChangeOld
import Derived.Below
import Derived.SizedLaws
import Derived.KernelRfl
import Derived.Shelf.Vars
set_option linter.unusedVariables false
namespace Go.Proofs.YtighdkdomfpadaaGreatDoor.nodeDoes
open Go Go.ChangeShapes Go.WideShapes Go.ChangeAt Go.RowKit Go.Proofs.YtighdkdomfpadaaGreatDoor.SL Go.Proofs.YtighdkdomfpadaaGreatDoor
open Go.ChangeMaps (open_string shut_string)
theorem own : ownKnob Tryz.prog.godebug = none := by kernel_rfl
theorem laidOut : laidOutB Tryz.prog = true := by kernel_rfl
theorem fits_int {k : IntKind} {v : Value} (h : SK.fits (.int k) v) : ∃ n, v = .int k n ∧ (Lit.int k n).wf = true := by
  cases v <;> simp [SK.fits] at h
  obtain ⟨rfl, h⟩ := h;exact ⟨_, rfl, h⟩
theorem fits_str {v : Value} (h : SK.fits .str v) : ∃ s, v = .string s := by
  cases v <;> simp [SK.fits] at h
  exact ⟨_, rfl⟩
theorem fits_bool {v : Value} (h : SK.fits .bool v) : ∃ s, v = .bool s := by
  cases v <;> simp [SK.fits] at h
  exact ⟨_, rfl⟩
theorem ac_of {el : List Value} (h : fitsL [.int .i64, .int .i64, .int .i64, .int .i64, .int .i64, .int .u64, .bool, .str] el ∧ strsIn el) : ∃ x : AC, acE x = el ∧ (0 ≤ x.ep ∧ x.ep < 18446744073709551616) := by
  match el, h with
  | [a, b, c, d, e, f, i, s], ⟨⟨ha, hb, hc, hd, he, hf, hi, hs, _⟩, _⟩ =>
    obtain ⟨a, rfl, _⟩ := fits_int ha;obtain ⟨b, rfl, _⟩ := fits_int hb;obtain ⟨c, rfl, _⟩ := fits_int hc;obtain ⟨d, rfl, _⟩ := fits_int hd;obtain ⟨e, rfl, _⟩ := fits_int he;obtain ⟨f, rfl, wf⟩ := fits_int hf;obtain ⟨i, rfl⟩ := fits_bool hi;obtain ⟨s, rfl⟩ := fits_str hs;refine ⟨⟨a, b, c, d, e, f, i, s.data.toList⟩, by simp [acE], ?_⟩;have h1 := wf_u64 wf;exact ⟨h1.1, by have := h1.2; show f < _; omega⟩
theorem maxL {W : World} (h : W.ShapedOpen Tryz.prog) : MaxL W :=
  Go.Proofs.cell_of_shapedOpen_int (g := 0) (t := 3) (zero := #[.int .i64 0]) h (of_decide_eq_true (by kernel_rfl)) (by kernel_rfl) rfl (by kernel_rfl) (by kernel_rfl) Tryz.underlying3
abbrev laidL : List (String × DataW Unit) := Rows.nodeDoesRow.laid
theorem door_met (os : Os) (args : Array Value) : laidMetH Tryz.prog laidL ((World.laidAll Tryz.prog os laidL).forCall (fun _ _ => 0) ⟨#[], args, []⟩).memory :=
  by rw [MakeChecks.laidMetH_plain _ _ _ (by kernel_rfl)]; exact laidMet_laidAll _ (by kernel_rfl) (by kernel_rfl)
theorem plainL {W : World} (h : laidMetH Tryz.prog laidL W) : laidMet Tryz.prog laidL W := by
  rwa [MakeChecks.laidMetH_plain _ _ _ (by kernel_rfl)] at h
set_option maxRecDepth 100000 in
theorem lifted (os : Os) (started : os.Started) (H : Type) (enc : TypeId × Value → H) :
    ReturnsInHanded {} Tryz.checked os 4 .any (fun w args => (Rows.nodeDoesSpec.pre enc Tryz.prog Tryz.f4 [] false w args ∧ laidMetH Tryz.prog laidL w) ∧ sizedMet enc Tryz.prog Tryz.f4 (OpenSpec.ofChange Rows.nodeDoesSpec) false w args) (Rows.nodeDoesSpec.post enc Tryz.prog Tryz.f4 false true false false) := by
  refine returnsInHanded_of_change_and_shaped (C := Tryz.checked) (X := (fun w _ => laidMetH Tryz.prog laidL w)) (fun _ _ _ hh h => h.of_heap hh) own started (by kernel_rfl) Tryz.func4
    (ChangeSpec.witness_shaped (enc := enc) (C := Tryz.checked) (os := os) (X := (fun w _ => laidMetH Tryz.prog laidL w)) false (World.laidAll Tryz.prog os laidL) #[.slice none 0 0] 8 (World.laidAll_os _ _ _) (World.shaped_of_ZipB (by kernel_rfl) (by kernel_rfl)) (by kernel_rfl) (by kernel_rfl) (by kernel_rfl) (door_met os _)) ?_
  intro W base args ds gs before hval0 hW hcnd hsz0 hL hshape _;have hsz : (DataW.weightsEach Tryz.prog (Tryz.f4.params.toList ++ Rows.nodeDoesSpec.plain.varTypes Tryz.prog) (ds ++ gs)).all (· ≤ reachBytes) = true := hsz0;have hval : ∀ (j : Nat) t v, Tryz.f4.params[j]? = some t → args[j]? = some v → Value.okWide Tryz.prog W .any base t v := hval0;have hW' := hW;obtain ⟨p, q, hA0, hV, rfl, hfz, hnd⟩ := hW;have hA : DataW.TrodAll enc Tryz.prog W 0 (fun _ => true) true Tryz.f4.params.toList args.toList ds p := hA0;rw [Tryz.params4] at hA hval hsz;obtain ⟨v0, vs0, d0, ds0, p0, q0, hargs, rfl, rfl, h0, r0⟩ := trodAll_cons hA;obtain ⟨rfl, rfl, rfl⟩ := trodAll_nil r0;obtain rfl : args = #[v0] := by cases args; simp_all
  obtain ⟨rfl, rfl⟩ := trodVars_none hV;have k0 := h0;have lt0 : ∀ x ∈ p0, x.block < W.heap.size := by obtain ⟨m, hm⟩ := k0; exact DataW.trod_lt m _ _ _ hm
  obtain ⟨A0, len0, cap0, rfl⟩ := okWide_slice Tryz.underlying46 (hval 0 46 v0 rfl rfl);obtain ⟨els0, hlen0, hcap0, hmax0, hfit0, hrd0, hnil0, hz0⟩ := open_flats2 (m := 8) (ks := [.int .i64, .int .i64, .int .i64, .int .i64, .int .i64, .int .u64, .bool, .str]) Tryz.underlying46 (by kernel_rfl) (by kernel_rfl) (by decide) rfl h0 (sized_each hsz (j := 0) rfl rfl);obtain ⟨l0, rfl, hok0⟩ := typed (fun el he => ac_of (hfit0 el he));have hr0 := hrd0.typed;rw [List.length_map] at hlen0;subst hlen0;have hm0 : l0.length ≤ 9223372036854775807 := by simp only [maxLen] at hmax0; omega
  clear hA0 hval0 hsz0 hsz
  have hl0 : l0.length ≤ 4000000000000 := by
    have e : Tryz.prog.bytesOf 54 = 72 := by kernel_rfl
    rw [e] at hz0;simp only [reachBytes] at hz0;omega
  refine (law_calls (T4 W hr0 hl0 hok0 (maxL hshape))).mono fun e W' ⟨he, bel⟩ => ?_;subst he;exact ⟨_, rfl, _, _, _, [], _, [], hW', trodAll_mk1 (shut_bool Tryz.underlying4 _), (trodAll_cons_mk (Below.trod laidOut (by kernel_rfl) (of_decide_eq_true (by kernel_rfl)) k0 bel lt0) trodAll_mk0), rfl, bel.frame _, fun h => by cases h⟩
set_option maxRecDepth 100000 in
theorem over : Rows.nodeDoesRow.holds Tryz.pinned (OpenSpec.ofChange Rows.nodeDoesSpec) :=
  OpenClaim.holds_of_wide 4 Tryz.f4 rfl rfl rfl rfl rfl rfl rfl ⟨rfl, rfl, rfl, rfl, rfl⟩ rfl rfl rfl rfl rfl (by kernel_rfl) Tryz.func4 (by kernel_rfl)
    (of_decide_eq_true (by kernel_rfl)) (by unfold Func.isWrapper; first | (rw [if_pos (by decide +kernel)]; kernel_rfl) | (rw [if_neg (by decide +kernel)]; exact ⟨rfl, rfl⟩))
    (fun os started H enc _ => lifted os started H enc)
theorem proved : Rows.NodeDoesCardSaid :=
  Claim7.holds_tied_plain_at .later [] [.data, .pinned] true (true, "fc59136cb4322ff27ae724674255890339b1839da792e971c8ccee3ad1f9beea") false
    over (fun _ h => by cases h) (by kernel_rfl) (fun _ h => by cases h) nodeDoes_row_tie rfl ⟨rfl, rfl⟩ (by kernel_rfl) rfl
    (fun f fn hf hfn => by
      obtain rfl : f = 4 := Option.some.inj ((show Tryz.prog.funcNamed "signalman/signalmanlaw15.NodeDoes" = some 4 by kernel_rfl).symm.trans hf) |>.symm;obtain rfl : fn = Tryz.f4 := (Option.some.inj (Tryz.func4.symm.trans hfn)).symm
      exact ⟨by kernel_rfl, fun j t ht => by
        rw [Tryz.params4] at ht;have hm : t ∈ [46] := by simpa using Array.mem_of_getElem? ht
        have hall : ([46].all fun u => !Tryz.prog.wantsStandIn u) = true := by kernel_rfl
        exact (show Tryz.prog.wantsStandIn t = false by simpa using List.all_eq_true.1 hall t hm)⟩)
    (by kernel_rfl)
end Go.Proofs.YtighdkdomfpadaaGreatDoor.nodeDoes
namespace Go.Proofs.YtighdkdomfpadaaGreatDoor
theorem nodeDoes_holds : Rows.NodeDoesCardSaid := nodeDoes.proved
end Go.Proofs.YtighdkdomfpadaaGreatDoor
