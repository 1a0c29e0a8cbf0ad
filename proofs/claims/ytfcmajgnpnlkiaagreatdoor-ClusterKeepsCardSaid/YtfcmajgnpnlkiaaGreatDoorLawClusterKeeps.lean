/- What was written with an epoch and a place, and no promotion to a later epoch has cut, stands at that place of the newest primary's log: the statement ClusterKeepsCardSaid, for every input, the listed tables tied to the program's text. -/
import Derived.Test.YtfcmajgnpnlkiaaGreatDoorRows
import Derived.Test.YtfcmajgnpnlkiaaGreatDoorSLA
import Derived.Test.YtfcmajgnpnlkiaaGreatDoorSLB
import Derived.Test.YtfcmajgnpnlkiaaGreatDoorCards
import Derived.Test.YtfcmajgnpnlkiaaGreatDoorTie
import Derived.Test.YtfcmajgnpnlkiaaGreatDoorShelf
import Derived.Test.YtfcmajgnpnlkiaaGreatDoorStrs
import Derived.Test.YtfcmajgnpnlkiaaGreatDoorLexLaw
import Derived.Test.YtfcmajgnpnlkiaaGreatDoorLexLen
import Derived.Test.YtfcmajgnpnlkiaaGreatDoorTrimDef
import Derived.Test.YtfcmajgnpnlkiaaGreatDoorLtLaw
import Derived.Test.YtfcmajgnpnlkiaaGreatDoorPlanLaw
import Derived.Test.YtfcmajgnpnlkiaaGreatDoorOfLaw
import Derived.Test.YtfcmajgnpnlkiaaGreatDoorKeepLaw
import Derived.Test.YtfcmajgnpnlkiaaGreatDoorLex
import Derived.Test.YtfcmajgnpnlkiaaGreatDoorLex2
import Derived.Test.YtfcmajgnpnlkiaaGreatDoorRefLexA
import Derived.Test.YtfcmajgnpnlkiaaGreatDoorOnce
import Derived.Test.YtfcmajgnpnlkiaaGreatDoorClassA
import Derived.Test.YtfcmajgnpnlkiaaGreatDoorClassB
import Derived.Test.YtfcmajgnpnlkiaaGreatDoorClass14
import Derived.Test.YtfcmajgnpnlkiaaGreatDoorClassC
import Derived.Test.YtfcmajgnpnlkiaaGreatDoorPlanA
import Derived.Test.YtfcmajgnpnlkiaaGreatDoorPlanB
import Derived.Test.YtfcmajgnpnlkiaaGreatDoorNodeLaw
import Derived.Test.YtfcmajgnpnlkiaaGreatDoorNodeX
import Derived.Test.YtfcmajgnpnlkiaaGreatDoorNodeY
import Derived.Test.YtfcmajgnpnlkiaaGreatDoorRefPlanA
import Derived.Test.YtfcmajgnpnlkiaaGreatDoorFences
import Derived.Test.YtfcmajgnpnlkiaaGreatDoorCluA
import Derived.Test.YtfcmajgnpnlkiaaGreatDoorClu4
import Derived.Test.YtfcmajgnpnlkiaaGreatDoorCluLaw
import Derived.Test.YtfcmajgnpnlkiaaGreatDoorHstLaw
import Derived.Test.YtfcmajgnpnlkiaaGreatDoorCleads
import Derived.Test.YtfcmajgnpnlkiaaGreatDoorCkeeps
import Derived.LaidMore
import Derived.Lay
import Derived.Stop.Joined
import Derived.Stop.LaidErr
import Derived.SevenTiedAt
import Derived.Lib.LaidTab
import Derived.MakeChecks
import Derived.WalkKit
import Derived.ProofKit
import Derived.OpenShut
import Derived.ShutString
import Derived.ChangeOld
import Derived.Below
import Derived.SizedLaws
import Derived.KernelRfl
import Derived.Shelf.Vars
set_option linter.unusedVariables false
namespace Go.Proofs.YtfcmajgnpnlkiaaGreatDoor.clusterKeeps
open Go Go.ChangeShapes Go.WideShapes Go.ChangeAt Go.RowKit Go.Proofs.YtfcmajgnpnlkiaaGreatDoor.SL Go.Proofs.YtfcmajgnpnlkiaaGreatDoor
open Go.ChangeMaps (open_string shut_string)
theorem own : ownKnob Tryz.prog.godebug = none := by kernel_rfl
theorem laidOut : laidOutB Tryz.prog = true := by kernel_rfl
theorem fits_int {k : IntKind} {v : Value} (h : SK.fits (.int k) v) : ∃ n, v = .int k n ∧ (Lit.int k n).wf = true := by
  cases v <;> simp [SK.fits] at h
  obtain ⟨rfl, h⟩ := h;exact ⟨_, rfl, h⟩
theorem fits_str {v : Value} (h : SK.fits .str v) : ∃ s, v = .string s := by
  cases v <;> simp [SK.fits] at h
  exact ⟨_, rfl⟩
theorem fits_bool {v : Value} (h : SK.fits .bool v) : ∃ s, v = .bool s := by
  cases v <;> simp [SK.fits] at h
  exact ⟨_, rfl⟩
theorem ac_of {el : List Value} (h : fitsL [.int .i64, .int .i64, .int .i64, .int .i64, .int .u64, .bool, .str] el ∧ strsIn el) : ∃ x : A6, a6E x = el ∧ True := by
  match el, h with
  | [a, b, c, d, f, i, s], ⟨⟨ha, hb, hc, hd, hf, hi, hs, _⟩, _⟩ =>
    obtain ⟨a, rfl, _⟩ := fits_int ha;obtain ⟨b, rfl, _⟩ := fits_int hb;obtain ⟨c, rfl, _⟩ := fits_int hc;obtain ⟨d, rfl, _⟩ := fits_int hd;obtain ⟨f, rfl, wf⟩ := fits_int hf;obtain ⟨i, rfl⟩ := fits_bool hi;obtain ⟨s, rfl⟩ := fits_str hs;exact ⟨⟨a, b, c, d, f, i, s.data.toList⟩, by simp [a6E], trivial⟩
theorem maxL {W : World} (h : W.ShapedOpen Tryz.prog) : MaxL W :=
  Go.Proofs.cell_of_shapedOpen_int (g := 0) (t := 3) (zero := #[.int .i64 0]) h (of_decide_eq_true (by kernel_rfl)) (by kernel_rfl) rfl (by kernel_rfl) (by kernel_rfl) Tryz.underlying3
abbrev laidL : List (String × DataW Unit) := Rows.clusterKeepsRow.laid
theorem door_met (os : Os) (args : Array Value) : laidMetH Tryz.prog laidL ((World.laidAll Tryz.prog os laidL).forCall (fun _ _ => 0) ⟨#[], args, []⟩).memory :=
  by rw [MakeChecks.laidMetH_plain _ _ _ (by kernel_rfl)]; exact laidMet_laidAll _ (by kernel_rfl) (by kernel_rfl)
theorem plainL {W : World} (h : laidMetH Tryz.prog laidL W) : laidMet Tryz.prog laidL W := by
  rwa [MakeChecks.laidMetH_plain _ _ _ (by kernel_rfl)] at h
set_option maxRecDepth 100000 in
theorem lifted (os : Os) (started : os.Started) (H : Type) (enc : TypeId × Value → H) :
    ReturnsInHanded {} Tryz.checked os 5 .any (fun w args => (Rows.clusterKeepsSpec.pre enc Tryz.prog Tryz.f5 [] false w args ∧ laidMetH Tryz.prog laidL w) ∧ sizedMet enc Tryz.prog Tryz.f5 (OpenSpec.ofChange Rows.clusterKeepsSpec) false w args) (Rows.clusterKeepsSpec.post enc Tryz.prog Tryz.f5 false true false false) := by
  refine returnsInHanded_of_change_and_shaped (C := Tryz.checked) (X := (fun w _ => laidMetH Tryz.prog laidL w)) (fun _ _ _ hh h => h.of_heap hh) own started (by kernel_rfl) Tryz.func5
    (ChangeSpec.witness_shaped (enc := enc) (C := Tryz.checked) (os := os) (X := (fun w _ => laidMetH Tryz.prog laidL w)) false (World.laidAll Tryz.prog os laidL) #[.int .i64 0, .slice none 0 0] 8 (World.laidAll_os _ _ _) (World.shaped_of_ZipB (by kernel_rfl) (by kernel_rfl)) (by kernel_rfl) (by kernel_rfl) (by kernel_rfl) (door_met os _)) ?_
  intro W base args ds gs before hval0 hW hcnd hsz0 hL hshape _;have hsz : (DataW.weightsEach Tryz.prog (Tryz.f5.params.toList ++ Rows.clusterKeepsSpec.plain.varTypes Tryz.prog) (ds ++ gs)).all (· ≤ reachBytes) = true := hsz0;have hval : ∀ (j : Nat) t v, Tryz.f5.params[j]? = some t → args[j]? = some v → Value.okWide Tryz.prog W .any base t v := hval0;have hW' := hW;obtain ⟨p, q, hA0, hV, rfl, hfz, hnd⟩ := hW;have hA : DataW.TrodAll enc Tryz.prog W 0 (fun _ => true) true Tryz.f5.params.toList args.toList ds p := hA0;rw [Tryz.params5] at hA hval hsz;obtain ⟨v0, vs0, d0, ds0, p0, q0, hargs, rfl, rfl, h0, r0⟩ := trodAll_cons hA;obtain ⟨v1, vs1, d1, ds1, p1, q1, rfl, rfl, rfl, h1, r1⟩ := trodAll_cons r0;obtain ⟨rfl, rfl, rfl⟩ := trodAll_nil r1;obtain rfl : args = #[v0, v1] := by cases args; simp_all
  obtain ⟨rfl, rfl⟩ := trodVars_none hV;obtain ⟨a0, rfl, rfl, rfl, w0⟩ := open_int Tryz.underlying3 (hval 0 3 v0 rfl rfl) h0;have k1 := h1;have lt1 : ∀ x ∈ p1, x.block < W.heap.size := by obtain ⟨m, hm⟩ := k1; exact DataW.trod_lt m _ _ _ hm
  obtain ⟨A1, len1, cap1, rfl⟩ := okWide_slice Tryz.underlying22 (hval 1 22 v1 rfl rfl);obtain ⟨els1, hlen1, hcap1, hmax1, hfit1, hrd1, hnil1, hz1⟩ := open_flats2 (m := 8) (ks := [.int .i64, .int .i64, .int .i64, .int .i64, .int .u64, .bool, .str]) Tryz.underlying22 (by kernel_rfl) (by kernel_rfl) (by decide) rfl h1 (sized_each hsz (j := 1) rfl rfl);obtain ⟨l1, rfl, hok1⟩ := typed (fun el he => ac_of (hfit1 el he));have hr1 := hrd1.typed;rw [List.length_map] at hlen1;subst hlen1;have hm1 : l1.length ≤ 9223372036854775807 := by simp only [maxLen] at hmax1; omega
  clear hA0 hval0 hsz0 hsz
  have hl1 : l1.length ≤ 4000000000000 := by
    have e : Tryz.prog.bytesOf 34 = 64 := by kernel_rfl
    rw [e] at hz1;simp only [reachBytes] at hz1;omega
  refine (law_calls (T5 W a0 hr1 hl1 (maxL hshape))).mono fun e W' ⟨he, bel⟩ => ?_;subst he;exact ⟨_, rfl, _, _, _, [], _, [], hW', trodAll_mk1 (shut_bool Tryz.underlying4 _), (trodAll_cons_mk (shut_int Tryz.underlying3 w0) (trodAll_cons_mk (Below.trod laidOut (by kernel_rfl) (of_decide_eq_true (by kernel_rfl)) k1 bel lt1) trodAll_mk0)), rfl, bel.frame _, fun h => by cases h⟩
set_option maxRecDepth 100000 in
theorem over : Rows.clusterKeepsRow.holds Tryz.pinned (OpenSpec.ofChange Rows.clusterKeepsSpec) :=
  OpenClaim.holds_of_wide 5 Tryz.f5 rfl rfl rfl rfl rfl rfl rfl ⟨rfl, rfl, rfl, rfl, rfl⟩ rfl rfl rfl rfl rfl (by kernel_rfl) Tryz.func5 (by kernel_rfl)
    (of_decide_eq_true (by kernel_rfl)) (by unfold Func.isWrapper; first | (rw [if_pos (by decide +kernel)]; kernel_rfl) | (rw [if_neg (by decide +kernel)]; exact ⟨rfl, rfl⟩))
    (fun os started H enc _ => lifted os started H enc)
theorem proved : Rows.ClusterKeepsCardSaid :=
  Claim7.holds_tied_plain_at .later [] [.data, .pinned] true (true, "468edc4b7a6b8952e5f0bfb696dbcc1108d111bfc10ea5c3f0f66ae14327be08") false
    over (fun _ h => by cases h) (by kernel_rfl) (fun _ h => by cases h) clusterKeeps_row_tie rfl ⟨rfl, rfl⟩ (by kernel_rfl) rfl
    (fun f fn hf hfn => by
      obtain rfl : f = 5 := Option.some.inj ((show Tryz.prog.funcNamed "signalman/signalmanlaw16.ClusterKeeps" = some 5 by kernel_rfl).symm.trans hf) |>.symm;obtain rfl : fn = Tryz.f5 := (Option.some.inj (Tryz.func5.symm.trans hfn)).symm
      exact ⟨by kernel_rfl, fun j t ht => by
        rw [Tryz.params5] at ht;have hm : t ∈ [3, 22] := by simpa using Array.mem_of_getElem? ht
        have hall : ([3, 22].all fun u => !Tryz.prog.wantsStandIn u) = true := by kernel_rfl
        exact (show Tryz.prog.wantsStandIn t = false by simpa using List.all_eq_true.1 hall t hm)⟩)
    (by kernel_rfl)
end Go.Proofs.YtfcmajgnpnlkiaaGreatDoor.clusterKeeps
namespace Go.Proofs.YtfcmajgnpnlkiaaGreatDoor
theorem clusterKeeps_holds : Rows.ClusterKeepsCardSaid := clusterKeeps.proved
end Go.Proofs.YtfcmajgnpnlkiaaGreatDoor
