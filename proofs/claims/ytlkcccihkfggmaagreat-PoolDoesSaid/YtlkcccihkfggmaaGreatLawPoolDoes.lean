/- Act by act, what a pool answers, its connections, and who waits, are as the reference says: the statement PoolDoesSaid, for every input (no condition). -/
import Derived.Test.YtlkcccihkfggmaaGreatRows
import Derived.Test.YtlkcccihkfggmaaGreatSLOpen
import Derived.Test.YtlkcccihkfggmaaGreatConn
import Derived.Test.YtlkcccihkfggmaaGreatWaits
import Derived.Test.YtlkcccihkfggmaaGreatSorted
import Derived.Test.YtlkcccihkfggmaaGreatPool
import Derived.Test.YtlkcccihkfggmaaGreatPool2
import Derived.Test.YtlkcccihkfggmaaGreatPool3
import Derived.Test.YtlkcccihkfggmaaGreatPool4
import Derived.Test.YtlkcccihkfggmaaGreatPool5
import Derived.Test.YtlkcccihkfggmaaGreatPool6
import Derived.Test.YtlkcccihkfggmaaGreatPool7
import Derived.Test.YtlkcccihkfggmaaGreatRefConn
import Derived.Test.YtlkcccihkfggmaaGreatRefWait
import Derived.Test.YtlkcccihkfggmaaGreatRefPool
import Derived.Test.YtlkcccihkfggmaaGreatRefPool2
import Derived.Test.YtlkcccihkfggmaaGreatRefPool3
import Derived.Test.YtlkcccihkfggmaaGreatPoolDoes
import Derived.WalkKit
import Derived.ProofKit
import Derived.OpenShut
import Derived.ShutString
import Derived.ChangeOld
import Derived.Below
import Derived.SizedLaws
import Derived.KernelRfl
set_option linter.unusedVariables false
namespace Go.Proofs.YtlkcccihkfggmaaGreat.poolDoes
open Go Go.ChangeShapes Go.WideShapes Go.ChangeAt Go.RowKit Go.Proofs.YtlkcccihkfggmaaGreat.SL Go.Proofs.YtlkcccihkfggmaaGreat
open Go.ChangeMaps (open_string shut_string)
theorem own : ownKnob Tryz.prog.godebug = none := by kernel_rfl
theorem laidOut : laidOutB Tryz.prog = true := by kernel_rfl
theorem fits_int {k : IntKind} {v : Value} (h : SK.fits (.int k) v) : ∃ n, v = .int k n ∧ (Lit.int k n).wf = true := by
  cases v <;> simp [SK.fits] at h
  obtain ⟨rfl, h⟩ := h
  exact ⟨_, rfl, h⟩
theorem act_of {el : List Value} (h : fitsL [.int .i64, .int .i64, .int .i64, .int .u64, .int .u64, .int .u64] el) : ∃ x : PA, paE x = el ∧ x.ok := by
  match el, h with
  | [a, b, c, d, e, f], ⟨ha, hb, hc, hd, he, hf, _⟩ =>
    obtain ⟨a, rfl, _⟩ := fits_int ha
    obtain ⟨b, rfl, _⟩ := fits_int hb
    obtain ⟨c, rfl, _⟩ := fits_int hc
    obtain ⟨d, rfl, wd⟩ := fits_int hd
    obtain ⟨e, rfl, we⟩ := fits_int he
    obtain ⟨f, rfl, wf⟩ := fits_int hf
    have h1 := wf_u64 wd
    have h2 := wf_u64 we
    have h3 := wf_u64 wf
    exact ⟨⟨a, b, c, d, e, f⟩, rfl, h1, h2, h3⟩
theorem u64_of {n : Int} (h : (Lit.int .u64 n).wf = true) : U64 n := by
  exact wf_u64 h
set_option maxRecDepth 100000 in
theorem lifted (os : Os) (started : os.Started) (H : Type) (enc : TypeId × Value → H) :
    ReturnsInHanded {} Tryz.checked os 3 .any (Rows.poolDoesSpec.pre6 enc Tryz.prog Tryz.f3 Rows.poolDoesRow.domain false) (Rows.poolDoesSpec.post enc Tryz.prog Tryz.f3 false true false false) := by
  refine returnsInHanded_of_change_sized (C := Tryz.checked) own started (by kernel_rfl) Tryz.func3
    (ChangeSpec.witness6 (enc := enc) (C := Tryz.checked) false ⟨#[], #[.int .i64 0, .int .i64 0, .int .u64 0, .slice none 0 0], []⟩ 8 (by kernel_rfl) (by kernel_rfl) (by kernel_rfl) (by kernel_rfl)) ?_
  intro W base args ds gs before hval0 hW hcnd hsz0 _
  have hsz : (DataW.weightsEach Tryz.prog (Tryz.f3.params.toList ++ Rows.poolDoesSpec.plain.varTypes Tryz.prog) (ds ++ gs)).all (· ≤ reachBytes) = true := hsz0
  have hval : ∀ (j : Nat) t v, Tryz.f3.params[j]? = some t → args[j]? = some v → Value.okWide Tryz.prog W .any base t v := hval0
  have hW' := hW
  obtain ⟨p, q, hA0, hV, rfl, hfz, hnd⟩ := hW
  have hA : DataW.TrodAll enc Tryz.prog W 0 (fun _ => true) true Tryz.f3.params.toList args.toList ds p := hA0
  rw [Tryz.params3] at hA hval hsz
  obtain ⟨v0, vs0, d0, ds0, p0, q0, hargs, rfl, rfl, h0, r0⟩ := trodAll_cons hA
  obtain ⟨v1, vs1, d1, ds1, p1, q1, rfl, rfl, rfl, h1, r1⟩ := trodAll_cons r0
  obtain ⟨v2, vs2, d2, ds2, p2, q2, rfl, rfl, rfl, h2, r2⟩ := trodAll_cons r1
  obtain ⟨v3, vs3, d3, ds3, p3, q3, rfl, rfl, rfl, h3, r3⟩ := trodAll_cons r2
  obtain ⟨rfl, rfl, rfl⟩ := trodAll_nil r3
  obtain rfl : args = #[v0, v1, v2, v3] := by cases args; simp_all
  obtain ⟨rfl, rfl⟩ := trodVars_none hV
  obtain ⟨a0, rfl, rfl, rfl, w0⟩ := open_int Tryz.underlying3 (hval 0 3 v0 rfl rfl) h0
  obtain ⟨a1, rfl, rfl, rfl, w1⟩ := open_int Tryz.underlying3 (hval 1 3 v1 rfl rfl) h1
  obtain ⟨a2, rfl, rfl, rfl, w2⟩ := open_int Tryz.underlying22 (hval 2 22 v2 rfl rfl) h2
  have k3 := h3
  have lt3 : ∀ x ∈ p3, x.block < W.heap.size := by obtain ⟨m, hm⟩ := k3; exact DataW.trod_lt m _ _ _ hm
  obtain ⟨A3, len3, cap3, rfl⟩ := okWide_slice Tryz.underlying23 (hval 3 23 v3 rfl rfl)
  obtain ⟨els3, hlen3, hcap3, hmax3, hfit3, hrd3, hnil3⟩ := open_flats (m := 8) (ks := [.int .i64, .int .i64, .int .i64, .int .u64, .int .u64, .int .u64]) Tryz.underlying23 (by kernel_rfl) (by kernel_rfl) (by decide) rfl h3
  obtain ⟨l3, rfl, hok3⟩ := typed (fun el he => act_of (hfit3 el he))
  have hr3 := hrd3.typed
  rw [List.length_map] at hlen3
  subst hlen3
  have hm3 : l3.length ≤ 9223372036854775807 := by simp only [maxLen] at hmax3; omega
  clear hA0 hval0 hsz0 hsz
  refine (law_calls (T3 W a0 a1 a2 A3 cap3 l3 hr3 hm3 hok3)).mono fun e W' ⟨he, bel⟩ => ?_
  subst he
  exact ⟨_, rfl, _, _, _, [], _, [], hW', trodAll_mk1 (shut_bool Tryz.underlying4 _), (trodAll_cons_mk (shut_int Tryz.underlying3 w0) (trodAll_cons_mk (shut_int Tryz.underlying3 w1) (trodAll_cons_mk (shut_int Tryz.underlying22 w2) (trodAll_cons_mk (Below.trod laidOut (by kernel_rfl) (of_decide_eq_true (by kernel_rfl)) k3 bel lt3) trodAll_mk0)))), rfl, bel.frame _, fun h => by cases h⟩
theorem over : Rows.poolDoesRow.holds Tryz.pinned (OpenSpec.ofChange Rows.poolDoesSpec) :=
  OpenClaim.holds_of_wide 3 Tryz.f3 rfl rfl rfl rfl rfl rfl rfl ⟨rfl, rfl, rfl, rfl, rfl⟩ rfl rfl rfl rfl rfl (by kernel_rfl) Tryz.func3 (by kernel_rfl)
    (of_decide_eq_true (by kernel_rfl)) (by unfold Func.isWrapper; first | (rw [if_pos (by decide +kernel)]; kernel_rfl) | (rw [if_neg (by decide +kernel)]; exact ⟨rfl, rfl⟩))
    (fun os started H enc _ => lifted os started H enc)
theorem proved : Rows.PoolDoesSaid := over
end Go.Proofs.YtlkcccihkfggmaaGreat.poolDoes
namespace Go.Proofs.YtlkcccihkfggmaaGreat
/-- The row, under a short name, for the claim. -/
theorem poolDoes_holds : Rows.PoolDoesSaid := poolDoes.proved
end Go.Proofs.YtlkcccihkfggmaaGreat
