/- Promotion by promotion, what a view learns, who leads, what becomes of any token, whether any log covers it, and which one of two is later, are as the reference says: the statement ViewTellsSaid, for every input (no condition). -/
import Derived.Test.YtjcmadaajiimiaaRows
import Derived.Test.YtjcmadaajiimiaaSLOpen
import Derived.Test.YtjcmadaajiimiaaView
import Derived.Test.YtjcmadaajiimiaaView2
import Derived.WalkKit
import Derived.ProofKit
import Derived.OpenShut
import Derived.ShutString
import Derived.ChangeOld
import Derived.Below
import Derived.SizedLaws
import Derived.KernelRfl
set_option linter.unusedVariables false
namespace Go.Proofs.Ytjcmadaajiimiaa.viewTells
open Go Go.ChangeShapes Go.WideShapes Go.ChangeAt Go.RowKit Go.Proofs.Ytjcmadaajiimiaa.SL Go.Proofs.Ytjcmadaajiimiaa
open Go.ChangeMaps (open_string shut_string)
theorem own : ownKnob Try.prog.godebug = none := by kernel_rfl
theorem laidOut : laidOutB Try.prog = true := by kernel_rfl
theorem fits_int {k : IntKind} {v : Value} (h : SK.fits (.int k) v) : ∃ n, v = .int k n ∧ (Lit.int k n).wf = true := by
  cases v <;> simp [SK.fits] at h
  obtain ⟨rfl, h⟩ := h
  exact ⟨_, rfl, h⟩
theorem pr_of {el : List Value} (h : fitsL [.int .u64, .int .u64, .int .i64] el) : ∃ x : PR, prE x = el ∧ x.ok := by
  match el, h with
  | [a, b, c], ⟨ha, hb, hc, _⟩ =>
    obtain ⟨x, rfl, wx⟩ := fits_int ha
    obtain ⟨y, rfl, wy⟩ := fits_int hb
    obtain ⟨z, rfl, wz⟩ := fits_int hc
    have h1 := wf_u64 wx
    have h2 := wf_u64 wy
    exact ⟨⟨x, y, z⟩, rfl, h1.1, h1.2, h2.1, h2.2⟩
theorem tok_of {el : List Value} (h : fitsL [.int .u64, .int .u64] el) : ∃ x : Int × Int, tokE x = el ∧ True := by
  match el, h with
  | [a, b], ⟨ha, hb, _⟩ =>
    obtain ⟨x, rfl, wx⟩ := fits_int ha
    obtain ⟨y, rfl, wy⟩ := fits_int hb
    exact ⟨(x, y), rfl, trivial⟩
set_option maxRecDepth 100000 in
theorem lifted (os : Os) (started : os.Started) (H : Type) (enc : TypeId × Value → H) :
    ReturnsInHanded {} Try.checked os 3 .any (Rows.viewTellsSpec.pre6 enc Try.prog Try.f3 Rows.viewTellsRow.domain false) (Rows.viewTellsSpec.post enc Try.prog Try.f3 false true false false) := by
  refine returnsInHanded_of_change_sized (C := Try.checked) own started (by kernel_rfl) Try.func3
    (ChangeSpec.witness6 (enc := enc) (C := Try.checked) false ⟨#[], #[.int .i64 0, .slice none 0 0, .agg #[.int .u64 0, .int .u64 0], .agg #[.int .u64 0, .int .u64 0], .int .u64 0, .int .u64 0], []⟩ 8 (by kernel_rfl) (by kernel_rfl) (by kernel_rfl) (by kernel_rfl)) ?_
  intro W base args ds gs before hval0 hW hcnd hsz0 _
  have hsz : (DataW.weightsEach Try.prog (Try.f3.params.toList ++ Rows.viewTellsSpec.plain.varTypes Try.prog) (ds ++ gs)).all (· ≤ reachBytes) = true := hsz0
  have hval : ∀ (j : Nat) t v, Try.f3.params[j]? = some t → args[j]? = some v → Value.okWide Try.prog W .any base t v := hval0
  have hW' := hW
  obtain ⟨p, q, hA0, hV, rfl, hfz, hnd⟩ := hW
  have hA : DataW.TrodAll enc Try.prog W 0 (fun _ => true) true Try.f3.params.toList args.toList ds p := hA0
  rw [Try.params3] at hA hval hsz
  obtain ⟨v0, vs0, d0, ds0, p0, q0, hargs, rfl, rfl, h0, r0⟩ := trodAll_cons hA
  obtain ⟨v1, vs1, d1, ds1, p1, q1, rfl, rfl, rfl, h1, r1⟩ := trodAll_cons r0
  obtain ⟨v2, vs2, d2, ds2, p2, q2, rfl, rfl, rfl, h2, r2⟩ := trodAll_cons r1
  obtain ⟨v3, vs3, d3, ds3, p3, q3, rfl, rfl, rfl, h3, r3⟩ := trodAll_cons r2
  obtain ⟨v4, vs4, d4, ds4, p4, q4, rfl, rfl, rfl, h4, r4⟩ := trodAll_cons r3
  obtain ⟨v5, vs5, d5, ds5, p5, q5, rfl, rfl, rfl, h5, r5⟩ := trodAll_cons r4
  obtain ⟨rfl, rfl, rfl⟩ := trodAll_nil r5
  obtain rfl : args = #[v0, v1, v2, v3, v4, v5] := by cases args; simp_all
  obtain ⟨rfl, rfl⟩ := trodVars_none hV
  obtain ⟨a0, rfl, rfl, rfl, w0⟩ := open_int Try.underlying3 (hval 0 3 v0 rfl rfl) h0
  have k1 := h1
  have lt1 : ∀ x ∈ p1, x.block < W.heap.size := by obtain ⟨m, hm⟩ := k1; exact DataW.trod_lt m _ _ _ hm
  obtain ⟨A1, len1, cap1, rfl⟩ := okWide_slice Try.underlying22 (hval 1 22 v1 rfl rfl)
  obtain ⟨els1, hlen1, hcap1, hmax1, hfit1, hrd1, hnil1⟩ := open_flats (m := 8) (ks := [.int .u64, .int .u64, .int .i64]) Try.underlying22 (by kernel_rfl) (by kernel_rfl) (by decide) rfl h1
  obtain ⟨l1, rfl, hok1⟩ := typed (fun el he => pr_of (hfit1 el he))
  have hr1 := hrd1.typed
  rw [List.length_map] at hlen1
  subst hlen1
  have hm1 : l1.length ≤ 9223372036854775807 := by simp only [maxLen] at hmax1; omega
  have k2 := h2
  have lt2 : ∀ x ∈ p2, x.block < W.heap.size := by obtain ⟨m, hm⟩ := k2; exact DataW.trod_lt m _ _ _ hm
  obtain ⟨cs2, rfl, hfit2⟩ := open_flat (m := 8) (ks := [.int .u64, .int .u64]) Try.underlying25 (by kernel_rfl) (hval 2 25 v2 rfl rfl) h2
  obtain ⟨x2, rfl, hok2⟩ := tok_of hfit2
  have k3 := h3
  have lt3 : ∀ x ∈ p3, x.block < W.heap.size := by obtain ⟨m, hm⟩ := k3; exact DataW.trod_lt m _ _ _ hm
  obtain ⟨cs3, rfl, hfit3⟩ := open_flat (m := 8) (ks := [.int .u64, .int .u64]) Try.underlying25 (by kernel_rfl) (hval 3 25 v3 rfl rfl) h3
  obtain ⟨x3, rfl, hok3⟩ := tok_of hfit3
  obtain ⟨a4, rfl, rfl, rfl, w4⟩ := open_int Try.underlying23 (hval 4 23 v4 rfl rfl) h4
  obtain ⟨a5, rfl, rfl, rfl, w5⟩ := open_int Try.underlying23 (hval 5 23 v5 rfl rfl) h5
  clear hA0 hval0 hsz0 hsz
  refine (law_calls (T3 W a0 A1 cap1 l1 x2.1 x2.2 x3.1 x3.2 a4 a5 hr1 hm1)).mono fun e W' ⟨he, bel⟩ => ?_
  subst he
  exact ⟨_, rfl, _, _, _, [], _, [], hW', trodAll_mk1 (shut_bool Try.underlying4 _), (trodAll_cons_mk (shut_int Try.underlying3 w0) (trodAll_cons_mk (Below.trod laidOut (by kernel_rfl) (of_decide_eq_true (by kernel_rfl)) k1 bel lt1) (trodAll_cons_mk (Below.trod laidOut (by kernel_rfl) (of_decide_eq_true (by kernel_rfl)) k2 bel lt2) (trodAll_cons_mk (Below.trod laidOut (by kernel_rfl) (of_decide_eq_true (by kernel_rfl)) k3 bel lt3) (trodAll_cons_mk (shut_int Try.underlying23 w4) (trodAll_cons_mk (shut_int Try.underlying23 w5) trodAll_mk0)))))), rfl, bel.frame _, fun h => by cases h⟩
theorem over : Rows.viewTellsRow.holds Try.pinned (OpenSpec.ofChange Rows.viewTellsSpec) :=
  OpenClaim.holds_of_wide 3 Try.f3 rfl rfl rfl rfl rfl rfl rfl ⟨rfl, rfl, rfl, rfl, rfl⟩ rfl rfl rfl rfl rfl (by kernel_rfl) Try.func3 (by kernel_rfl)
    (of_decide_eq_true (by kernel_rfl)) (by unfold Func.isWrapper; first | (rw [if_pos (by decide +kernel)]; kernel_rfl) | (rw [if_neg (by decide +kernel)]; exact ⟨rfl, rfl⟩))
    (fun os started H enc _ => lifted os started H enc)
theorem proved : Rows.ViewTellsSaid := over
end Go.Proofs.Ytjcmadaajiimiaa.viewTells
namespace Go.Proofs.Ytjcmadaajiimiaa
/-- The row, under a short name, for the claim. -/
theorem viewTells_holds : Rows.ViewTellsSaid := viewTells.proved
end Go.Proofs.Ytjcmadaajiimiaa
