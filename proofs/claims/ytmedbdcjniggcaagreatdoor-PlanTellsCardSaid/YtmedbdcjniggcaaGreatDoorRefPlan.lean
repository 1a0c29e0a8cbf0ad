/- The reference of plans, walked; the law's own functions. -/
import Derived.Test.YtmedbdcjniggcaaGreatDoorProg
import Derived.Test.YtmedbdcjniggcaaGreatDoorPlanLaw
import Derived.Test.YtmedbdcjniggcaaGreatDoorSLB
import Derived.KernelRfl
set_option linter.unusedSimpArgs false
set_option linter.unusedVariables false
set_option maxRecDepth 100000
set_option maxHeartbeats 4000000
namespace Go.Proofs.YtmedbdcjniggcaaGreatDoor
open Go Go.Proofs.YtmedbdcjniggcaaGreatDoor.SL Go.RowKit
/-- A program's pair, and the document's. -/
theorem tab_at {l : List PR} : tabB l = true ↔ ∀ (i : Nat) (a b : PR), l[i]? = some a → l[i + 1]? = some b → ltB a.1 b.1 = true := by
  induction l with
  | nil => simp [tabB]
  | cons x l ih =>
    cases l with
    | nil => simp [tabB]
    | cons y l =>
      unfold tabB
      rw [Bool.and_eq_true, ih]
      constructor
      · rintro ⟨h1, h2⟩ i a b ha hb
        cases i with
        | zero => simp at ha hb; subst ha; subst hb; exact h1
        | succ i => exact h2 i a b (by simpa using ha) (by simpa using hb)
      · intro h
        exact ⟨h 0 x y rfl rfl, fun i a b ha hb => h (i + 1) a b (by simpa using ha) (by simpa using hb)⟩
theorem T12 (w0 : World) {A : Option Addr} {c : Nat} {l : List PR} (hr : Rd pE w0 2 A l) (hm : l.length ≤ 4398046511000) : Tri Tryz.prog w0 12 [.slice A l.length c] [] fun v m => ∃ B e, v = .slice B l.length e ∧ m = [Row pE 41 2 B e l] := by
 refine tri_k Tryz.func12 rfl rfl fun F => ?_
 simp only [Tryz.ntmps12, argEnv, List.cons_append, List.nil_append]
 refine zH fun zq zQ => ?_
 refine zC 7 rfl ?_
 refine zT (ot_buildSlice (cs := []) rfl Tryz.underlying38 rfl rfl rfl rfl rfl rfl) ?_
 rintro _ _ ⟨g0, rfl, rfl⟩
 refine zO 12 rfl ?_
 refine at_rowOf (c := 0) (size := 2) pE 0 [] rfl (by simp) (by simp) (by decide) (by simp) rfl ?_
 simp only [setAt]
  
 refine at_loopK [10, 11, 12, 5, 13, 14, 15, 16, 3, 17, 9] (fun i : Nat × Option Addr × Nat => i.1 ≤ l.length) (fun i => [(9, .int .i64 (i.1 : Nat)), (3, .slice i.2.1 (l.take i.1).length i.2.2)]) (fun i m => setAt 0 (Row pE 41 2 i.2.1 i.2.2 (l.take i.1)) m) (fun i => l.length - i.1) (0, some ⟨g0, 0, none⟩, 0) (Nat.zero_le _) ⟨rfl, rfl, trivial⟩ (fun _ s => s) ?_
 rintro ⟨k, B, e⟩ hk
 simp only [setAt] at hk ⊢
 have hlk : (l.take k).length = k := by simp; omega
 rcases Nat.lt_or_ge k l.length with hlt | hge
 ·have hi1 : decide ((k : Int) < l.length) = true := decide_eq_true (by omega)
  obtain ⟨x, hget⟩ : ∃ x, l[k]? = some x := ⟨_, List.getElem?_eq_getElem hlt⟩
  have hms : l.take (k + 1) = l.take k ++ [x] := by rw [List.take_add_one, hget]; rfl
  refine zC 6 rfl ?_
  refine zcT rfl (decide_eq_true (by omega)) ?_
  refine zC 6 rfl ?_
  refine zV (ov_indexRd (fun _ s => hr.up s) rfl Tryz.underlying32 rfl rfl rfl hget) ?_
  refine zV (ov_loadRdS (vs := [_, _]) (fun _ s => hr.up s) rfl rfl rfl hget rfl rfl) ?_
  refine zA Tryz.zeroValue82 fun g1 => ?_
  refine zS 0 ?_
  simp only [setAt, splice, spliceL, Value.cells]
  refine zOM [(0,_,_,_)] ⟨rfl,trivial⟩ [0] 5 rfl ?_
  refine zT (ot_buildSlice (cs := [_, _]) rfl Tryz.underlying38 rfl rfl rfl rfl rfl rfl) ?_
  rintro _ _ ⟨g2, rfl, rfl⟩
  refine zT (ot_append (k := 2) (size := 2) (bytes := 32) (ys := [x]) (fun _ s => s.rdPt (k := 0) rfl rfl (by simp [pE])) rfl Tryz.underlying38 (ti := Tryz.t41) rfl rfl rfl rfl rfl (by decide) rfl rfl rfl (by simp [pE, Value.oneCell']) (by simp; omega) (by decide)) ?_
  rintro _ _ ⟨A0, c0, rfl, rfl⟩
  simp only [setAt]
  refine zO 5 rfl ?_
  refine zV zI ?_
  refine zOR 3 rfl ?_
  refine at_roundF (k + 1, A0, c0) hlt (by simp only; omega) ⟨rfl, look_eq rfl (by simp only [hms]), trivial⟩ rfl ?_
  simp only [setAt, hms]
  exact zE [2] [0, 0]
 ·have hi1 : decide ((k : Int) < l.length) = false := decide_eq_false (by omega)
  try rw [List.take_of_length_le hge]
  refine zC 6 rfl ?_
  refine zcF rfl (decide_eq_false (by omega)) ?_
  refine zC 12 rfl ?_
  refine zQ ?_
  refine at_end ?_
  refine at_fin (rsV rfl (res_tmp rfl)) ?_
  refine ⟨_, ⟨B, e, rfl, rfl⟩, ?_⟩
  exact zE [0] []
theorem T12a (w0 : World) {A : Option Addr} {c c' : Nat} {l : List PR} (hm : l.length ≤ 4398046511000) : Tri Tryz.prog w0 12 [.slice A l.length c] [Row pE 82 2 A c' l] fun v m => ∃ B e, v = .slice B l.length e ∧ m = [Row pE 41 2 B e l, Row pE 82 2 A c' l] :=
  (Tri.of_all fun w s => T12 w (s.rd (k := 0) rfl) hm).post fun v m ⟨m', ⟨B, e, h1, h2⟩, h3⟩ => ⟨B, e, h1, by rw [h3, h2]; rfl⟩
end Go.Proofs.YtmedbdcjniggcaaGreatDoor
