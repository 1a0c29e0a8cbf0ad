/- The order of what is added changes nothing: the statement TallyOrderCardSaid, for every input, the listed tables tied to the program's text. -/
import Derived.Test.YtbcackbjajlohaaDoorRows
import Derived.Test.YtbcackbjajlohaaDoorSLOpen
import Derived.Test.YtbcackbjajlohaaDoorCards
import Derived.Test.YtbcackbjajlohaaDoorTie
import Derived.Test.YtbcackbjajlohaaDoorShelf
import Derived.Test.YtbcackbjajlohaaDoorOnce
import Derived.Test.YtbcackbjajlohaaDoorTally
import Derived.Test.YtbcackbjajlohaaDoorTally2
import Derived.Test.YtbcackbjajlohaaDoorTally3
import Derived.Test.YtbcackbjajlohaaDoorTally4
import Derived.Test.YtbcackbjajlohaaDoorTally5
import Derived.Test.YtbcackbjajlohaaDoorTally6
import Derived.LaidMore
import Derived.Stop.Joined
import Derived.Stop.LaidErr
import Derived.SevenTiedAt
import Derived.Lib.LaidTab
import Derived.MakeChecks
import Derived.WalkKit
import Derived.ProofKit
import Derived.OpenShut
import Derived.ShutString
import Derived.ChangeOld
import Derived.Below
import Derived.SizedLaws
import Derived.KernelRfl
set_option linter.unusedVariables false
namespace Go.Proofs.YtbcackbjajlohaaDoor.tallyOrder
open Go Go.ChangeShapes Go.WideShapes Go.ChangeAt Go.RowKit Go.Proofs.YtbcackbjajlohaaDoor.SL Go.Proofs.YtbcackbjajlohaaDoor
open Go.ChangeMaps (open_string shut_string)
theorem own : ownKnob Tryd.prog.godebug = none := by kernel_rfl
theorem laidOut : laidOutB Tryd.prog = true := by kernel_rfl
theorem fits_int {k : IntKind} {v : Value} (h : SK.fits (.int k) v) : ∃ n, v = .int k n ∧ (Lit.int k n).wf = true := by
  cases v <;> simp [SK.fits] at h
  obtain ⟨rfl, h⟩ := h
  exact ⟨_, rfl, h⟩
theorem fits_str {v : Value} (h : SK.fits .str v) : ∃ s, v = .string s := by
  cases v <;> simp [SK.fits] at h
  exact ⟨_, rfl⟩
theorem fits_bool {v : Value} (h : SK.fits .bool v) : ∃ s, v = .bool s := by
  cases v <;> simp [SK.fits] at h
  exact ⟨_, rfl⟩
def okAct (x : AM) : Prop := (-9223372036854775808 ≤ x.2.2.1 ∧ x.2.2.1 ≤ 9223372036854775807) ∧ (-9223372036854775808 ≤ x.2.2.2 ∧ x.2.2.2 ≤ 9223372036854775807)
theorem act_of {el : List Value} (h : fitsL [.int .i64, .str, .int .i64, .int .i64] el) : ∃ x : AM, aE x = el ∧ okAct x := by
  match el, h with
  | [a, b, c, d], ⟨ha, hb, hc, hd, _⟩ =>
    obtain ⟨a, rfl, _⟩ := fits_int ha
    obtain ⟨b, rfl⟩ := fits_str hb
    obtain ⟨c, rfl, wc⟩ := fits_int hc
    obtain ⟨d, rfl, wd⟩ := fits_int hd
    have h1 := wf_i64 wc
    have h2 := wf_i64 wd
    exact ⟨(a, b, c, d), rfl, ⟨h1.1, by have := h1.2; show c ≤ _; omega⟩, ⟨h2.1, by have := h2.2; show d ≤ _; omega⟩⟩
theorem str_of {el : List Value} (h : fitsL [.str] el) : ∃ x : ByteArray, sE x = el ∧ True := by
  match el, h with
  | [a], ⟨ha, _⟩ =>
    obtain ⟨a, rfl⟩ := fits_str ha
    exact ⟨a, rfl, trivial⟩
theorem i64_of {el : List Value} (h : fitsL [.int .i64] el) : ∃ x : Int, cE x = el ∧ True := by
  match el, h with
  | [a], ⟨ha, _⟩ =>
    obtain ⟨a, rfl, _⟩ := fits_int ha
    exact ⟨a, rfl, trivial⟩
abbrev laidL : List (String × DataW Unit) := Rows.tallyOrderRow.laid
theorem door_met (os : Os) (args : Array Value) : laidMetH Tryd.prog laidL ((World.doorLaid Tryd.prog 24 os).forCall (fun _ _ => 0) ⟨#[], args, []⟩).memory :=
  laidMetH_of_parts3 (fuel := 8) (laidMet_of_run' 8 (by kernel_rfl) (by kernel_rfl)) (by kernel_rfl) (by kernel_rfl)
theorem plainL {W : World} (h : laidMetH Tryd.prog laidL W) : laidMet Tryd.prog laidL W := by
  rwa [MakeChecks.laidMetH_plain _ _ _ (by kernel_rfl)] at h
theorem pow10 {W : World} (h : laidMetH Tryd.prog laidL W) : Pow10 W :=
  Lib.tabIs_of_head (g := 0) (n := 20) (by kernel_rfl) (by kernel_rfl) Tryd.underlying94 Tryd.underlying83 (by kernel_rfl) (by kernel_rfl) (laidMet.tail (laidMet.tail (plainL h)))
set_option maxRecDepth 100000 in
theorem lifted (os : Os) (started : os.Started) (H : Type) (enc : TypeId × Value → H) :
    ReturnsInHanded {} Tryd.checked os 4 .any (fun w args => (Rows.tallyOrderSpec.pre enc Tryd.prog Tryd.f4 [] false w args ∧ laidMetH Tryd.prog laidL w) ∧ sizedMet enc Tryd.prog Tryd.f4 (OpenSpec.ofChange Rows.tallyOrderSpec) false w args) (Rows.tallyOrderSpec.post enc Tryd.prog Tryd.f4 false true false false) := by
  refine returnsInHanded_of_change_and (C := Tryd.checked) (X := (fun w _ => laidMetH Tryd.prog laidL w)) (fun _ _ _ hh h => h.of_heap hh) own started (by kernel_rfl) Tryd.func4
    (ChangeSpec.witness_shaped (enc := enc) (C := Tryd.checked) (os := os) (X := (fun w _ => laidMetH Tryd.prog laidL w)) false (World.doorLaid Tryd.prog 24 os) #[.slice none 0 0, .slice none 0 0] 8 rfl (World.shaped_of_RefB (by kernel_rfl) (by kernel_rfl)) (by kernel_rfl) (by kernel_rfl) (by kernel_rfl) (door_met os _)) ?_
  intro W base args ds gs before hval0 hW hcnd hsz0 hL _
  have hsz : (DataW.weightsEach Tryd.prog (Tryd.f4.params.toList ++ Rows.tallyOrderSpec.plain.varTypes Tryd.prog) (ds ++ gs)).all (· ≤ reachBytes) = true := hsz0
  have hval : ∀ (j : Nat) t v, Tryd.f4.params[j]? = some t → args[j]? = some v → Value.okWide Tryd.prog W .any base t v := hval0
  have hW' := hW
  obtain ⟨p, q, hA0, hV, rfl, hfz, hnd⟩ := hW
  have hA : DataW.TrodAll enc Tryd.prog W 0 (fun _ => true) true Tryd.f4.params.toList args.toList ds p := hA0
  rw [Tryd.params4] at hA hval hsz
  obtain ⟨v0, vs0, d0, ds0, p0, q0, hargs, rfl, rfl, h0, r0⟩ := trodAll_cons hA
  obtain ⟨v1, vs1, d1, ds1, p1, q1, rfl, rfl, rfl, h1, r1⟩ := trodAll_cons r0
  obtain ⟨rfl, rfl, rfl⟩ := trodAll_nil r1
  obtain rfl : args = #[v0, v1] := by cases args; simp_all
  obtain ⟨rfl, rfl⟩ := trodVars_none hV
  have k0 := h0
  have lt0 : ∀ x ∈ p0, x.block < W.heap.size := by obtain ⟨m, hm⟩ := k0; exact DataW.trod_lt m _ _ _ hm
  obtain ⟨A0, len0, cap0, rfl⟩ := okWide_slice Tryd.underlying22 (hval 0 22 v0 rfl rfl)
  obtain ⟨els0, hlen0, hcap0, hmax0, hfit0, hrd0, hnil0⟩ := open_flats (m := 8) (ks := [.str]) Tryd.underlying22 (by kernel_rfl) (by kernel_rfl) (by decide) rfl h0
  obtain ⟨l0, rfl, hok0⟩ := typed (fun el he => str_of (hfit0 el he))
  have hr0 := hrd0.typed
  rw [List.length_map] at hlen0
  subst hlen0
  have hm0 : l0.length ≤ 9223372036854775807 := by simp only [maxLen] at hmax0; omega
  have k1 := h1
  have lt1 : ∀ x ∈ p1, x.block < W.heap.size := by obtain ⟨m, hm⟩ := k1; exact DataW.trod_lt m _ _ _ hm
  obtain ⟨A1, len1, cap1, rfl⟩ := okWide_slice Tryd.underlying23 (hval 1 23 v1 rfl rfl)
  obtain ⟨els1, hlen1, hcap1, hmax1, hfit1, hrd1, hnil1⟩ := open_flats (m := 8) (ks := [.int .i64, .str, .int .i64, .int .i64]) Tryd.underlying23 (by kernel_rfl) (by kernel_rfl) (by decide) rfl h1
  obtain ⟨l1, rfl, hok1⟩ := typed (fun el he => act_of (hfit1 el he))
  have hr1 := hrd1.typed
  rw [List.length_map] at hlen1
  subst hlen1
  have hm1 : l1.length ≤ 9223372036854775807 := by simp only [maxLen] at hmax1; omega
  clear hA0 hval0 hsz0 hsz
  refine (law_calls (T4 W hr0 hr1 hm0 hm1 hok1 (pow10 hL))).mono fun e W' ⟨he, bel⟩ => ?_
  subst he
  exact ⟨_, rfl, _, _, _, [], _, [], hW', trodAll_mk1 (shut_bool Tryd.underlying4 _), (trodAll_cons_mk (Below.trod laidOut (by kernel_rfl) (of_decide_eq_true (by kernel_rfl)) k0 bel lt0) (trodAll_cons_mk (Below.trod laidOut (by kernel_rfl) (of_decide_eq_true (by kernel_rfl)) k1 bel lt1) trodAll_mk0)), rfl, bel.frame _, fun h => by cases h⟩
set_option maxRecDepth 100000 in
theorem over : Rows.tallyOrderRow.holds Tryd.pinned (OpenSpec.ofChange Rows.tallyOrderSpec) :=
  OpenClaim.holds_of_wide 4 Tryd.f4 rfl rfl rfl rfl rfl rfl rfl ⟨rfl, rfl, rfl, rfl, rfl⟩ rfl rfl rfl rfl rfl (by kernel_rfl) Tryd.func4 (by kernel_rfl)
    (of_decide_eq_true (by kernel_rfl)) (by unfold Func.isWrapper; first | (rw [if_pos (by decide +kernel)]; kernel_rfl) | (rw [if_neg (by decide +kernel)]; exact ⟨rfl, rfl⟩))
    (fun os started H enc _ => lifted os started H enc)
theorem proved : Rows.TallyOrderCardSaid :=
  Claim7.holds_tied_plain_at .later [] [.data, .data, .data] true (true, "9cba4e9d709ef606b1e62d706a3bef3e176a0e92858af24b2909254dc2ae1b64") false
    over (fun _ h => by cases h) (by kernel_rfl) (fun _ h => by cases h) tallyOrder_row_tie rfl ⟨rfl, rfl⟩ (by kernel_rfl) rfl
    (fun f fn hf hfn => by
      obtain rfl : f = 4 := Option.some.inj ((show Tryd.prog.funcNamed "signalman/signalmanlaw07.TallyOrder" = some 4 by kernel_rfl).symm.trans hf) |>.symm
      obtain rfl : fn = Tryd.f4 := (Option.some.inj (Tryd.func4.symm.trans hfn)).symm
      exact ⟨by kernel_rfl, fun j t ht => by
        rw [Tryd.params4] at ht
        have hm : t ∈ [22, 23] := by simpa using Array.mem_of_getElem? ht
        have hall : ([22, 23].all fun u => !Tryd.prog.wantsStandIn u) = true := by kernel_rfl
        exact (show Tryd.prog.wantsStandIn t = false by simpa using List.all_eq_true.1 hall t hm)⟩)
    (by kernel_rfl)
end Go.Proofs.YtbcackbjajlohaaDoor.tallyOrder
namespace Go.Proofs.YtbcackbjajlohaaDoor
/-- The row, under a short name, for the claim. -/
theorem tallyOrder_holds : Rows.TallyOrderCardSaid := tallyOrder.proved
end Go.Proofs.YtbcackbjajlohaaDoor
