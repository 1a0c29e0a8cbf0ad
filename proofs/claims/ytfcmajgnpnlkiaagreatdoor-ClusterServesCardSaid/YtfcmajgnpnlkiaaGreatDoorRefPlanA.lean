/- The reference of plans, walked; the law's own functions. -/
import Derived.Test.YtfcmajgnpnlkiaaGreatDoorProg
import Derived.Test.YtfcmajgnpnlkiaaGreatDoorPlanLaw
import Derived.Test.YtfcmajgnpnlkiaaGreatDoorSLB
import Derived.KernelRfl
set_option linter.unusedSimpArgs false
set_option linter.unusedVariables false
set_option maxRecDepth 100000
set_option maxHeartbeats 4000000
namespace Go.Proofs.YtfcmajgnpnlkiaaGreatDoor
open Go Go.Proofs.YtfcmajgnpnlkiaaGreatDoor.SL Go.RowKit
open Go Go.Proofs.YtfcmajgnpnlkiaaGreatDoor.SL Go.RowKit
theorem T28 (w0 : World) {A B : Option Addr} {c d c' d' : Nat} {xs ys : List BL} (hm : xs.length ≤ 1000000000000) (hm2 : ys.length ≤ 1000000000000) :
 Tri Tryz.prog w0 28 [.slice A xs.length c, .slice B ys.length d] [Row bsE 9 1 A c' xs, Row bsE 9 1 B d' ys] fun v m => v = .bool (decide (xs = ys)) ∧ m = [Row bsE 9 1 A c' xs, Row bsE 9 1 B d' ys] := by
 refine tri_k Tryz.func28 rfl rfl fun F => ?_;simp only [Tryz.ntmps28, argEnv, List.cons_append, List.nil_append]
 by_cases hil : xs.length = ys.length
 ·refine zH fun zq zQ => ?_;refine zC 15 rfl ?_;refine zf ?_;refine zC 9 rfl ?_;refine at_loopK [11, 12, 13, 14, 17, 18, 19, 20, 21, 22, 23, 24, 25, 4, 15, 16, 5] (fun k => k ≤ xs.length ∧ xs.take k = ys.take k) (fun k => [(5, .int .i64 (k : Nat))]) (fun _ l => l) (fun k => xs.length - k) 0 ⟨Nat.zero_le _, rfl⟩ ⟨rfl, trivial⟩ (fun _ s => s) ?_;rintro k ⟨hk, hb⟩
  rcases Nat.lt_or_ge k xs.length with hlt | hge
  ·have hi1 : decide ((k : Int) < xs.length) = true := decide_eq_true (by omega);obtain ⟨x, hget⟩ : ∃ x, xs[k]? = some x := ⟨_, List.getElem?_eq_getElem hlt⟩;obtain ⟨y, hget2⟩ : ∃ y, ys[k]? = some y := ⟨_, List.getElem?_eq_getElem (by omega)⟩
   by_cases he : x = y
   ·have hi2 : (!decide (x = y)) = false := by simp [he]
    refine zC 9 rfl ?_;refine zu ?_;refine zC 5 rfl ?_;refine at_draw _ [] 1000 [(2, 0), (2, 1), (1, 2), (1, 3), (2, 4), (2, 5), (1, 6), (1, 7), (2, 8)] (by kernel_rfl) (by kernel_rfl) (fun _ s => (s.pulls (ks := [0, 0]) rfl).left) ?_;refine qM ?_;refine qM ?_;refine qV (ov_indexRd (fun _ s => s.rd (k := 0) rfl) rfl Tryz.underlying35 rfl rfl rfl hget) ?_;refine qV (ov_loadRd0 (fun _ s => s.rd (k := 0) rfl) rfl rfl rfl hget rfl) ?_;refine qM ?_;refine qM ?_;refine qV (ov_indexRd (fun _ s => s.rd (k := 1) rfl) rfl Tryz.underlying35 rfl rfl rfl hget2) ?_;refine qV (ov_loadRd0 (fun _ s => s.rd (k := 1) rfl) rfl rfl rfl hget2 rfl) ?_;refine qP (ov_strL rfl rfl rfl rfl) ?_;refine aq_nil ?_;refine zX 1 rfl ?_;refine zf ?_;refine zC 5 rfl ?_;refine zV zI ?_;refine zOR 3 rfl ?_;refine at_roundF (k + 1) ⟨hlt, by rw [List.take_add_one, List.take_add_one, hget, hget2, he, hb]⟩ (by omega) ⟨rfl, trivial⟩ rfl ?_;exact zE [0, 0] []
   ·have hi2 : (!decide (x = y)) = true := by simp [he]
    have hne : ¬ xs = ys := fun e => by subst e; rw [hget] at hget2; exact he (Option.some.inj hget2)
    refine zC 9 rfl ?_;refine zu ?_;refine zC 5 rfl ?_;refine at_draw _ [] 1000 [(2, 0), (2, 1), (1, 2), (1, 3), (2, 4), (2, 5), (1, 6), (1, 7), (2, 8)] (by kernel_rfl) (by kernel_rfl) (fun _ s => (s.pulls (ks := [0, 0]) rfl).left) ?_;refine qM ?_;refine qM ?_;refine qV (ov_indexRd (fun _ s => s.rd (k := 0) rfl) rfl Tryz.underlying35 rfl rfl rfl hget) ?_;refine qV (ov_loadRd0 (fun _ s => s.rd (k := 0) rfl) rfl rfl rfl hget rfl) ?_;refine qM ?_;refine qM ?_;refine qV (ov_indexRd (fun _ s => s.rd (k := 1) rfl) rfl Tryz.underlying35 rfl rfl rfl hget2) ?_;refine qV (ov_loadRd0 (fun _ s => s.rd (k := 1) rfl) rfl rfl rfl hget2 rfl) ?_;refine qP (ov_strL rfl rfl rfl rfl) ?_;refine aq_nil ?_;refine zX 1 rfl ?_;refine zt ?_;refine zC 11 rfl ?_;refine zQ ?_;refine at_end ?_;refine zfin ?_;refine ⟨_, ⟨by simp [hne], rfl⟩, ?_⟩;exact zE [0, 0] []
  ·have hi1 : decide ((k : Int) < xs.length) = false := decide_eq_false (by omega);rw [List.take_of_length_le hge, List.take_of_length_le (by omega)] at hb;refine zC 9 rfl ?_;refine zg ?_;refine zC 11 rfl ?_;refine zQ ?_;refine at_end ?_;refine zfin ?_;refine ⟨_, ⟨by simp [hb], rfl⟩, ?_⟩;exact zE [0, 0] []
 ·have hne : ¬ xs = ys := fun e => hil (by rw [e]);have hi1 : (!decide ((xs.length : Int) = ys.length)) = true := by simp; omega
  refine zH fun zq zQ => ?_;refine zC 15 rfl ?_;refine zt ?_;refine zC 7 rfl ?_;refine zQ ?_;refine at_end ?_;refine zfin ?_;refine ⟨_, ⟨by simp [hne], rfl⟩, ?_⟩;exact zE [0, 0] []
end Go.Proofs.YtfcmajgnpnlkiaaGreatDoor
