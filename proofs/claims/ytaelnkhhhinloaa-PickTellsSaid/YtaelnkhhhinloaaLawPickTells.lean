/- Whether any weights may be, their sum, the place that a draw picks, and the weights of those that may be, are as the reference says: the statement PickTellsSaid, for every input (no condition). -/
import Derived.Test.YtaelnkhhhinloaaRows
import Derived.Test.YtaelnkhhhinloaaSLOpen
import Derived.Test.YtaelnkhhhinloaaPick
import Derived.Test.YtaelnkhhhinloaaPick2
import Derived.WalkKit
import Derived.ProofKit
import Derived.OpenShut
import Derived.ShutString
import Derived.ChangeOld
import Derived.Below
import Derived.SizedLaws
import Derived.KernelRfl
set_option linter.unusedVariables false
namespace Go.Proofs.Ytaelnkhhhinloaa.pickTells
open Go Go.ChangeShapes Go.WideShapes Go.ChangeAt Go.RowKit Go.Proofs.Ytaelnkhhhinloaa.SL Go.Proofs.Ytaelnkhhhinloaa
open Go.ChangeMaps (open_string shut_string)
theorem own : ownKnob Try.prog.godebug = none := by kernel_rfl
theorem laidOut : laidOutB Try.prog = true := by kernel_rfl
theorem int_of {el : List Value} (h : fitsL [.int .i64] el) : ∃ x : Int, wE x = el ∧ True := by
  match el, h with
  | [a], ⟨ha, _⟩ =>
    cases a <;> simp [SK.fits] at ha
    obtain ⟨rfl, h⟩ := ha
    exact ⟨_, rfl, trivial⟩
theorem bool_of {el : List Value} (h : fitsL [.bool] el) : ∃ x : Bool, mE x = el ∧ True := by
  match el, h with
  | [a], ⟨ha, _⟩ =>
    cases a <;> simp [SK.fits] at ha
    exact ⟨_, rfl, trivial⟩
set_option maxRecDepth 100000 in
theorem lifted (os : Os) (started : os.Started) (H : Type) (enc : TypeId × Value → H) :
    ReturnsInHanded {} Try.checked os 3 .any (Rows.pickTellsSpec.pre6 enc Try.prog Try.f3 Rows.pickTellsRow.domain false) (Rows.pickTellsSpec.post enc Try.prog Try.f3 false true false false) := by
  refine returnsInHanded_of_change_sized (C := Try.checked) own started (by kernel_rfl) Try.func3
    (ChangeSpec.witness6 (enc := enc) (C := Try.checked) false ⟨#[], #[.slice none 0 0, .int .u64 0, .slice none 0 0], []⟩ 8 (by kernel_rfl) (by kernel_rfl) (by kernel_rfl) (by kernel_rfl)) ?_
  intro W base args ds gs before hval0 hW hcnd hsz0 _
  have hsz : (DataW.weightsEach Try.prog (Try.f3.params.toList ++ Rows.pickTellsSpec.plain.varTypes Try.prog) (ds ++ gs)).all (· ≤ reachBytes) = true := hsz0
  have hval : ∀ (j : Nat) t v, Try.f3.params[j]? = some t → args[j]? = some v → Value.okWide Try.prog W .any base t v := hval0
  have hW' := hW
  obtain ⟨p, q, hA0, hV, rfl, hfz, hnd⟩ := hW
  have hA : DataW.TrodAll enc Try.prog W 0 (fun _ => true) true Try.f3.params.toList args.toList ds p := hA0
  rw [Try.params3] at hA hval hsz
  obtain ⟨v0, vs0, d0, ds0, p0, q0, hargs, rfl, rfl, h0, r0⟩ := trodAll_cons hA
  obtain ⟨v1, vs1, d1, ds1, p1, q1, rfl, rfl, rfl, h1, r1⟩ := trodAll_cons r0
  obtain ⟨v2, vs2, d2, ds2, p2, q2, rfl, rfl, rfl, h2, r2⟩ := trodAll_cons r1
  obtain ⟨rfl, rfl, rfl⟩ := trodAll_nil r2
  obtain rfl : args = #[v0, v1, v2] := by cases args; simp_all
  obtain ⟨rfl, rfl⟩ := trodVars_none hV
  have k0 := h0
  have lt0 : ∀ x ∈ p0, x.block < W.heap.size := by obtain ⟨m, hm⟩ := k0; exact DataW.trod_lt m _ _ _ hm
  obtain ⟨A0, len0, cap0, rfl⟩ := okWide_slice Try.underlying22 (hval 0 22 v0 rfl rfl)
  obtain ⟨els0, hlen0, hcap0, hmax0, hfit0, hrd0, hnil0⟩ := open_flats (m := 8) (ks := [.int .i64]) Try.underlying22 (by kernel_rfl) (by kernel_rfl) (by decide) rfl h0
  obtain ⟨l0, rfl, hok0⟩ := typed (fun el he => int_of (hfit0 el he))
  have hr0 := hrd0.typed
  rw [List.length_map] at hlen0
  subst hlen0
  have hm0 : l0.length ≤ 9223372036854775807 := by simp only [maxLen] at hmax0; omega
  obtain ⟨a1, rfl, rfl, rfl, w1⟩ := open_int Try.underlying23 (hval 1 23 v1 rfl rfl) h1
  have k2 := h2
  have lt2 : ∀ x ∈ p2, x.block < W.heap.size := by obtain ⟨m, hm⟩ := k2; exact DataW.trod_lt m _ _ _ hm
  obtain ⟨A2, len2, cap2, rfl⟩ := okWide_slice Try.underlying24 (hval 2 24 v2 rfl rfl)
  obtain ⟨els2, hlen2, hcap2, hmax2, hfit2, hrd2, hnil2⟩ := open_flats (m := 8) (ks := [.bool]) Try.underlying24 (by kernel_rfl) (by kernel_rfl) (by decide) rfl h2
  obtain ⟨l2, rfl, hok2⟩ := typed (fun el he => bool_of (hfit2 el he))
  have hr2 := hrd2.typed
  rw [List.length_map] at hlen2
  subst hlen2
  have hm2 : l2.length ≤ 9223372036854775807 := by simp only [maxLen] at hmax2; omega
  clear hA0 hval0 hsz0 hsz
  refine (law_calls (T3 W A0 cap0 l0 a1 A2 cap2 l2 hr0 hm0 hr2 hm2 (wf_u64 w1).1 (wf_u64 w1).2)).mono fun e W' ⟨he, bel⟩ => ?_
  subst he
  exact ⟨_, rfl, _, _, _, [], _, [], hW', trodAll_mk1 (shut_bool Try.underlying4 _), (trodAll_cons_mk (Below.trod laidOut (by kernel_rfl) (of_decide_eq_true (by kernel_rfl)) k0 bel lt0) (trodAll_cons_mk (shut_int Try.underlying23 w1) (trodAll_cons_mk (Below.trod laidOut (by kernel_rfl) (of_decide_eq_true (by kernel_rfl)) k2 bel lt2) trodAll_mk0))), rfl, bel.frame _, fun h => by cases h⟩
theorem over : Rows.pickTellsRow.holds Try.pinned (OpenSpec.ofChange Rows.pickTellsSpec) :=
  OpenClaim.holds_of_wide 3 Try.f3 rfl rfl rfl rfl rfl rfl rfl ⟨rfl, rfl, rfl, rfl, rfl⟩ rfl rfl rfl rfl rfl (by kernel_rfl) Try.func3 (by kernel_rfl)
    (of_decide_eq_true (by kernel_rfl)) (by unfold Func.isWrapper; first | (rw [if_pos (by decide +kernel)]; kernel_rfl) | (rw [if_neg (by decide +kernel)]; exact ⟨rfl, rfl⟩))
    (fun os started H enc _ => lifted os started H enc)
theorem proved : Rows.PickTellsSaid := over
end Go.Proofs.Ytaelnkhhhinloaa.pickTells
namespace Go.Proofs.Ytaelnkhhhinloaa
/-- The row, under a short name, for the claim. -/
theorem pickTells_holds : Rows.PickTellsSaid := pickTells.proved
end Go.Proofs.Ytaelnkhhhinloaa
