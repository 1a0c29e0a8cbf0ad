/- What is lost is told, of each statement, till it is acknowledged; what was aborted is told once: the statement SessionLosesSaid, for every input (no condition). -/
import Derived.Test.YtmhoimnochigjaaRows
import Derived.Test.YtmhoimnochigjaaSLOpen
import Derived.Test.YtmhoimnochigjaaView
import Derived.Test.YtmhoimnochigjaaSession
import Derived.Test.YtmhoimnochigjaaSession2
import Derived.Test.YtmhoimnochigjaaSession4
import Derived.WalkKit
import Derived.ProofKit
import Derived.OpenShut
import Derived.ShutString
import Derived.ChangeOld
import Derived.Below
import Derived.SizedLaws
import Derived.KernelRfl
set_option linter.unusedVariables false
namespace Go.Proofs.Ytmhoimnochigjaa.sessionLoses
open Go Go.ChangeShapes Go.WideShapes Go.ChangeAt Go.RowKit Go.Proofs.Ytmhoimnochigjaa.SL Go.Proofs.Ytmhoimnochigjaa
open Go.ChangeMaps (open_string shut_string)
theorem own : ownKnob Try.prog.godebug = none := by kernel_rfl
theorem laidOut : laidOutB Try.prog = true := by kernel_rfl
theorem fits_int {k : IntKind} {v : Value} (h : SK.fits (.int k) v) : ∃ n, v = .int k n ∧ (Lit.int k n).wf = true := by
  cases v <;> simp [SK.fits] at h
  obtain ⟨rfl, h⟩ := h
  exact ⟨_, rfl, h⟩
theorem fits_str {v : Value} (h : SK.fits .str v) : ∃ s, v = .string s := by
  cases v <;> simp [SK.fits] at h
  exact ⟨_, rfl⟩
theorem act_of {el : List Value} (h : fitsL [.int .i64, .int .i64, .int .i64, .int .u64, .str, .int .i64, .int .u64, .int .u64, .int .u64, .int .u64] el) : ∃ x : AM, actE x = el ∧ x.ok := by
  match el, h with
  | [a, b, c, d, e, f, g, i, j, k], ⟨ha, hb, hc, hd, he, hf, hg, hi, hj, hk, _⟩ =>
    obtain ⟨a, rfl, _⟩ := fits_int ha
    obtain ⟨b, rfl, _⟩ := fits_int hb
    obtain ⟨c, rfl, _⟩ := fits_int hc
    obtain ⟨d, rfl, _⟩ := fits_int hd
    obtain ⟨e, rfl⟩ := fits_str he
    obtain ⟨f, rfl, _⟩ := fits_int hf
    obtain ⟨g, rfl, wg⟩ := fits_int hg
    obtain ⟨i, rfl, wi⟩ := fits_int hi
    obtain ⟨j, rfl, wj⟩ := fits_int hj
    obtain ⟨k, rfl, wk⟩ := fits_int hk
    have h1 := wf_u64 wg
    have h2 := wf_u64 wi
    have h3 := wf_u64 wj
    have h4 := wf_u64 wk
    exact ⟨⟨a, b, c, ⟨d, e, f⟩, g, i, j, k⟩, rfl, h1.1, h2.1, h3.1, h4.1⟩
set_option maxRecDepth 100000 in
theorem lifted (os : Os) (started : os.Started) (H : Type) (enc : TypeId × Value → H) :
    ReturnsInHanded {} Try.checked os 4 .any (Rows.sessionLosesSpec.pre6 enc Try.prog Try.f4 Rows.sessionLosesRow.domain false) (Rows.sessionLosesSpec.post enc Try.prog Try.f4 false true false false) := by
  refine returnsInHanded_of_change_sized (C := Try.checked) own started (by kernel_rfl) Try.func4
    (ChangeSpec.witness6 (enc := enc) (C := Try.checked) false ⟨#[], #[.slice none 0 0], []⟩ 8 (by kernel_rfl) (by kernel_rfl) (by kernel_rfl) (by kernel_rfl)) ?_
  intro W base args ds gs before hval0 hW hcnd hsz0 _
  have hsz : (DataW.weightsEach Try.prog (Try.f4.params.toList ++ Rows.sessionLosesSpec.plain.varTypes Try.prog) (ds ++ gs)).all (· ≤ reachBytes) = true := hsz0
  have hval : ∀ (j : Nat) t v, Try.f4.params[j]? = some t → args[j]? = some v → Value.okWide Try.prog W .any base t v := hval0
  have hW' := hW
  obtain ⟨p, q, hA0, hV, rfl, hfz, hnd⟩ := hW
  have hA : DataW.TrodAll enc Try.prog W 0 (fun _ => true) true Try.f4.params.toList args.toList ds p := hA0
  rw [Try.params4] at hA hval hsz
  obtain ⟨v0, vs0, d0, ds0, p0, q0, hargs, rfl, rfl, h0, r0⟩ := trodAll_cons hA
  obtain ⟨rfl, rfl, rfl⟩ := trodAll_nil r0
  obtain rfl : args = #[v0] := by cases args; simp_all
  obtain ⟨rfl, rfl⟩ := trodVars_none hV
  have k0 := h0
  have lt0 : ∀ x ∈ p0, x.block < W.heap.size := by obtain ⟨m, hm⟩ := k0; exact DataW.trod_lt m _ _ _ hm
  obtain ⟨A0, len0, cap0, rfl⟩ := okWide_slice Try.underlying22 (hval 0 22 v0 rfl rfl)
  obtain ⟨els0, hlen0, hcap0, hmax0, hfit0, hrd0, hnil0⟩ := open_flats (m := 8) (ks := [.int .i64, .int .i64, .int .i64, .int .u64, .str, .int .i64, .int .u64, .int .u64, .int .u64, .int .u64]) Try.underlying22 (by kernel_rfl) (by kernel_rfl) (by decide) rfl h0
  obtain ⟨l0, rfl, hok0⟩ := typed (fun el he => act_of (hfit0 el he))
  have hr0 := hrd0.typed
  rw [List.length_map] at hlen0
  subst hlen0
  have hm0 : l0.length ≤ 9223372036854775807 := by simp only [maxLen] at hmax0; omega
  clear hA0 hval0 hsz0 hsz
  refine (law_calls (T4 W A0 cap0 l0 hr0 hm0)).mono fun e W' ⟨he, bel⟩ => ?_
  subst he
  exact ⟨_, rfl, _, _, _, [], _, [], hW', trodAll_mk1 (shut_bool Try.underlying4 _), (trodAll_cons_mk (Below.trod laidOut (by kernel_rfl) (of_decide_eq_true (by kernel_rfl)) k0 bel lt0) trodAll_mk0), rfl, bel.frame _, fun h => by cases h⟩
theorem over : Rows.sessionLosesRow.holds Try.pinned (OpenSpec.ofChange Rows.sessionLosesSpec) :=
  OpenClaim.holds_of_wide 4 Try.f4 rfl rfl rfl rfl rfl rfl rfl ⟨rfl, rfl, rfl, rfl, rfl⟩ rfl rfl rfl rfl rfl (by kernel_rfl) Try.func4 (by kernel_rfl)
    (of_decide_eq_true (by kernel_rfl)) (by unfold Func.isWrapper; first | (rw [if_pos (by decide +kernel)]; kernel_rfl) | (rw [if_neg (by decide +kernel)]; exact ⟨rfl, rfl⟩))
    (fun os started H enc _ => lifted os started H enc)
theorem proved : Rows.SessionLosesSaid := over
end Go.Proofs.Ytmhoimnochigjaa.sessionLoses
namespace Go.Proofs.Ytmhoimnochigjaa
/-- The row, under a short name, for the claim. -/
theorem sessionLoses_holds : Rows.SessionLosesSaid := sessionLoses.proved
end Go.Proofs.Ytmhoimnochigjaa
