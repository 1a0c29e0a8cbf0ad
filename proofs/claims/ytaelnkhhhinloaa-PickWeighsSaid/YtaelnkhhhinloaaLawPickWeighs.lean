/- Of as many draws as the sum says each place is picked as often as it weighs: the statement PickWeighsSaid, for every input (no condition). -/
import Derived.Test.YtaelnkhhhinloaaRows
import Derived.Test.YtaelnkhhhinloaaSLOpen
import Derived.Test.YtaelnkhhhinloaaPick
import Derived.Test.YtaelnkhhhinloaaPick2
import Derived.Test.YtaelnkhhhinloaaPick3
import Derived.WalkKit
import Derived.ProofKit
import Derived.OpenShut
import Derived.ShutString
import Derived.ChangeOld
import Derived.Below
import Derived.SizedLaws
import Derived.KernelRfl
set_option linter.unusedVariables false
namespace Go.Proofs.Ytaelnkhhhinloaa.pickWeighs
open Go Go.ChangeShapes Go.WideShapes Go.ChangeAt Go.RowKit Go.Proofs.Ytaelnkhhhinloaa.SL Go.Proofs.Ytaelnkhhhinloaa
open Go.ChangeMaps (open_string shut_string)
theorem own : ownKnob Try.prog.godebug = none := by kernel_rfl
theorem laidOut : laidOutB Try.prog = true := by kernel_rfl
theorem int_of {el : List Value} (h : fitsL [.int .i64] el) : ∃ x : Int, wE x = el ∧ True := by
  match el, h with
  | [a], ⟨ha, _⟩ =>
    cases a <;> simp [SK.fits] at ha
    obtain ⟨rfl, h⟩ := ha
    exact ⟨_, rfl, trivial⟩
theorem bool_of {el : List Value} (h : fitsL [.bool] el) : ∃ x : Bool, mE x = el ∧ True := by
  match el, h with
  | [a], ⟨ha, _⟩ =>
    cases a <;> simp [SK.fits] at ha
    exact ⟨_, rfl, trivial⟩
set_option maxRecDepth 100000 in
theorem lifted (os : Os) (started : os.Started) (H : Type) (enc : TypeId × Value → H) :
    ReturnsInHanded {} Try.checked os 4 .any (Rows.pickWeighsSpec.pre6 enc Try.prog Try.f4 Rows.pickWeighsRow.domain false) (Rows.pickWeighsSpec.post enc Try.prog Try.f4 false true false false) := by
  refine returnsInHanded_of_change_sized (C := Try.checked) own started (by kernel_rfl) Try.func4
    (ChangeSpec.witness6 (enc := enc) (C := Try.checked) false ⟨#[], #[.slice none 0 0, .int .u64 0], []⟩ 8 (by kernel_rfl) (by kernel_rfl) (by kernel_rfl) (by kernel_rfl)) ?_
  intro W base args ds gs before hval0 hW hcnd hsz0 _
  have hsz : (DataW.weightsEach Try.prog (Try.f4.params.toList ++ Rows.pickWeighsSpec.plain.varTypes Try.prog) (ds ++ gs)).all (· ≤ reachBytes) = true := hsz0
  have hval : ∀ (j : Nat) t v, Try.f4.params[j]? = some t → args[j]? = some v → Value.okWide Try.prog W .any base t v := hval0
  have hW' := hW
  obtain ⟨p, q, hA0, hV, rfl, hfz, hnd⟩ := hW
  have hA : DataW.TrodAll enc Try.prog W 0 (fun _ => true) true Try.f4.params.toList args.toList ds p := hA0
  rw [Try.params4] at hA hval hsz
  obtain ⟨v0, vs0, d0, ds0, p0, q0, hargs, rfl, rfl, h0, r0⟩ := trodAll_cons hA
  obtain ⟨v1, vs1, d1, ds1, p1, q1, rfl, rfl, rfl, h1, r1⟩ := trodAll_cons r0
  obtain ⟨rfl, rfl, rfl⟩ := trodAll_nil r1
  obtain rfl : args = #[v0, v1] := by cases args; simp_all
  obtain ⟨rfl, rfl⟩ := trodVars_none hV
  have k0 := h0
  have lt0 : ∀ x ∈ p0, x.block < W.heap.size := by obtain ⟨m, hm⟩ := k0; exact DataW.trod_lt m _ _ _ hm
  obtain ⟨A0, len0, cap0, rfl⟩ := okWide_slice Try.underlying22 (hval 0 22 v0 rfl rfl)
  obtain ⟨els0, hlen0, hcap0, hmax0, hfit0, hrd0, hnil0⟩ := open_flats (m := 8) (ks := [.int .i64]) Try.underlying22 (by kernel_rfl) (by kernel_rfl) (by decide) rfl h0
  obtain ⟨l0, rfl, hok0⟩ := typed (fun el he => int_of (hfit0 el he))
  have hr0 := hrd0.typed
  rw [List.length_map] at hlen0
  subst hlen0
  have hm0 : l0.length ≤ 9223372036854775807 := by simp only [maxLen] at hmax0; omega
  obtain ⟨a1, rfl, rfl, rfl, w1⟩ := open_int Try.underlying23 (hval 1 23 v1 rfl rfl) h1
  clear hA0 hval0 hsz0 hsz
  refine (law_calls (T4 W A0 cap0 l0 a1 hr0 hm0 (wf_u64 w1).1 (wf_u64 w1).2)).mono fun e W' ⟨he, bel⟩ => ?_
  subst he
  exact ⟨_, rfl, _, _, _, [], _, [], hW', trodAll_mk1 (shut_bool Try.underlying4 _), (trodAll_cons_mk (Below.trod laidOut (by kernel_rfl) (of_decide_eq_true (by kernel_rfl)) k0 bel lt0) (trodAll_cons_mk (shut_int Try.underlying23 w1) trodAll_mk0)), rfl, bel.frame _, fun h => by cases h⟩
theorem over : Rows.pickWeighsRow.holds Try.pinned (OpenSpec.ofChange Rows.pickWeighsSpec) :=
  OpenClaim.holds_of_wide 4 Try.f4 rfl rfl rfl rfl rfl rfl rfl ⟨rfl, rfl, rfl, rfl, rfl⟩ rfl rfl rfl rfl rfl (by kernel_rfl) Try.func4 (by kernel_rfl)
    (of_decide_eq_true (by kernel_rfl)) (by unfold Func.isWrapper; first | (rw [if_pos (by decide +kernel)]; kernel_rfl) | (rw [if_neg (by decide +kernel)]; exact ⟨rfl, rfl⟩))
    (fun os started H enc _ => lifted os started H enc)
theorem proved : Rows.PickWeighsSaid := over
end Go.Proofs.Ytaelnkhhhinloaa.pickWeighs
namespace Go.Proofs.Ytaelnkhhhinloaa
/-- The row, under a short name, for the claim. -/
theorem pickWeighs_holds : Rows.PickWeighsSaid := pickWeighs.proved
end Go.Proofs.Ytaelnkhhhinloaa
