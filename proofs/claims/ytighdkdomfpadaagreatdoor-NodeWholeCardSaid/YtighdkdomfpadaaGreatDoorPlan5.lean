/- Package plan, walked: the forms; Of. -/
import Derived.Test.YtighdkdomfpadaaGreatDoorProg
import Derived.Test.YtighdkdomfpadaaGreatDoorOfLaw
import Derived.Test.YtighdkdomfpadaaGreatDoorLex
import Derived.Test.YtighdkdomfpadaaGreatDoorSLB
import Derived.KernelRfl
set_option linter.unusedSimpArgs false
set_option linter.unusedVariables false
set_option maxRecDepth 100000
set_option maxHeartbeats 4000000
namespace Go.Proofs.YtighdkdomfpadaaGreatDoor
open Go Go.Proofs.YtighdkdomfpadaaGreatDoor.SL Go.RowKit
theorem T84 (w0 : World) {A : Option Addr} {c c' : Nat} {s : List BL} (hl : 1 ≤ s.length) : Tri Tryz.prog w0 84 [.slice A s.length c] [Row bsE 9 1 A c' s] fun v m => v = .agg #[.int .i64 1, SV (s.getD 0 []), SV []] ∧ m = [Row bsE 9 1 A c' s] := by
 refine tri_k Tryz.func84 rfl rfl fun F => ?_
 simp only [Tryz.ntmps84, argEnv, List.cons_append, List.nil_append]
 obtain ⟨x, hx⟩ : ∃ x, s[0]? = some x := ⟨_, List.getElem?_eq_getElem (by omega)⟩
 have hg : s.getD 0 [] = x := by simp [List.getD, hx]
 rw [hg]
 refine zH fun zq zQ => ?_
 refine zC 2 rfl ?_
 refine zA Tryz.zeroValue105 fun g0 => ?_
 refine zO 5 rfl ?_
 refine zV (ov_indexRd (fun _ s => s.rd (k := 1) rfl) rfl Tryz.underlying22 rfl rfl rfl hx) ?_
 refine zV (ov_loadRd0 (fun _ s => s.rd (k := 1) rfl) rfl rfl rfl hx rfl) ?_
 refine zV (ov_build (cs := [_, _, _]) rfl rfl rfl rfl) ?_
 refine zS 0 ?_
 simp only [setAt, splice, spliceL, Value.cells]
 refine zO 3 rfl ?_
 refine zQ ?_
 refine at_end ?_
 refine at_fin (rsV rfl (res_cellS (k := 0) (vs := [_, _, _]) rfl rfl rfl rfl ⟨rfl, rfl, rfl, trivial⟩)) ?_
 refine ⟨_, ⟨rfl, rfl⟩, ?_⟩
 exact zE [1] [0]
theorem T85 (w0 : World) (v : Value) : Tri Tryz.prog w0 85 [v] [] fun v m => v = .agg #[.int .i64 2, SV [], SV []] ∧ m = [] := by
 refine tri_k Tryz.func85 rfl rfl fun F => ?_
 simp only [Tryz.ntmps85, argEnv, List.cons_append, List.nil_append]
 refine zH fun zq zQ => ?_
 refine zC 2 rfl ?_
 refine zA Tryz.zeroValue105 fun g0 => ?_
 refine zO 4 rfl ?_
 refine zV (ov_build (cs := [_, _, _]) rfl rfl rfl rfl) ?_
 refine zS 0 ?_
 simp only [setAt, splice, spliceL, Value.cells]
 refine zO 3 rfl ?_
 refine zQ ?_
 refine at_end ?_
 refine at_fin (rsV rfl (res_cellS (k := 0) (vs := [_, _, _]) rfl rfl rfl rfl ⟨rfl, rfl, rfl, trivial⟩)) ?_
 refine ⟨_, ⟨rfl, rfl⟩, ?_⟩
 exact zE [] [0]
theorem T86 (w0 : World) {A : Option Addr} {c c' : Nat} {s : List BL} (hl : 2 ≤ s.length) : Tri Tryz.prog w0 86 [.slice A s.length c] [Row bsE 9 1 A c' s] fun v m => v = .agg #[.int .i64 3, SV (s.getD 0 []), SV (s.getD 1 [])] ∧ m = [Row bsE 9 1 A c' s] := by
 refine tri_k Tryz.func86 rfl rfl fun F => ?_
 simp only [Tryz.ntmps86, argEnv, List.cons_append, List.nil_append]
 obtain ⟨x, hx⟩ : ∃ x, s[0]? = some x := ⟨_, List.getElem?_eq_getElem (by omega)⟩
 obtain ⟨y, hy⟩ : ∃ y, s[1]? = some y := ⟨_, List.getElem?_eq_getElem (by omega)⟩
 have hg : s.getD 0 [] = x := by simp [List.getD, hx]
 have hg1 : s.getD 1 [] = y := by simp [List.getD, hy]
 rw [hg, hg1]
 refine zH fun zq zQ => ?_
 refine zC 2 rfl ?_
 refine zA Tryz.zeroValue105 fun g0 => ?_
 refine zO 3 rfl ?_
 refine at_draw _ [] 1000 [(2, 0), (1, 1), (1, 2), (2, 3), (1, 4), (1, 5), (2, 6), (0, 7)] (by kernel_rfl) (by kernel_rfl) (fun _ s => (s.pulls (ks := [1]) rfl).left) ?_
 refine aq_p (ov_move rfl rfl) rfl rfl rfl ?_
 refine aq_v (ov_indexRd (fun _ s => s.rd (k := 0) rfl) rfl Tryz.underlying22 rfl rfl rfl hx) rfl rfl rfl ?_
 refine aq_v (ov_loadRd0 (fun _ s => s.rd (k := 0) rfl) rfl rfl rfl hx rfl) rfl rfl rfl ?_
 refine aq_p (ov_move rfl rfl) rfl rfl rfl ?_
 refine aq_v (ov_indexRd (fun _ s => s.rd (k := 0) rfl) rfl Tryz.underlying22 rfl rfl rfl hy) rfl rfl rfl ?_
 refine aq_v (ov_loadRd0 (fun _ s => s.rd (k := 0) rfl) rfl rfl rfl hy rfl) rfl rfl rfl ?_
 refine aq_p (ov_build (cs := [_, _, _]) rfl rfl rfl rfl) rfl rfl rfl ?_
 refine aq_t0 (ot_store (k := 0) rfl rfl rfl rfl rfl rfl rfl) rfl rfl ?_
 rintro _ _ ⟨rfl, rfl⟩
 simp only [setAt, splice, spliceL, Value.cells]
 refine ⟨fun _ s => (s.pulls (ks := [1]) rfl).left, ?_⟩
 refine aq_nil ?_
 refine zX 2 rfl ?_
 refine zQ ?_
 refine at_end ?_
 refine at_fin (rsV rfl (res_cellS (k := 0) (vs := [_, _, _]) rfl rfl rfl rfl ⟨rfl, rfl, rfl, trivial⟩)) ?_
 refine ⟨_, ⟨rfl, rfl⟩, ?_⟩
 exact zE [1] [0]
theorem T87 (w0 : World) {A : Option Addr} {c c' : Nat} {s : List BL} (hl : 2 ≤ s.length) : Tri Tryz.prog w0 87 [.slice A s.length c] [Row bsE 9 1 A c' s] fun v m => v = .agg #[.int .i64 4, SV (s.getD 1 []), SV (s.getD 0 [])] ∧ m = [Row bsE 9 1 A c' s] := by
 refine tri_k Tryz.func87 rfl rfl fun F => ?_
 simp only [Tryz.ntmps87, argEnv, List.cons_append, List.nil_append]
 obtain ⟨x, hx⟩ : ∃ x, s[0]? = some x := ⟨_, List.getElem?_eq_getElem (by omega)⟩
 obtain ⟨y, hy⟩ : ∃ y, s[1]? = some y := ⟨_, List.getElem?_eq_getElem (by omega)⟩
 have hg : s.getD 0 [] = x := by simp [List.getD, hx]
 have hg1 : s.getD 1 [] = y := by simp [List.getD, hy]
 rw [hg, hg1]
 refine zH fun zq zQ => ?_
 refine zC 2 rfl ?_
 refine zA Tryz.zeroValue105 fun g0 => ?_
 refine zO 3 rfl ?_
 refine at_draw _ [] 1000 [(2, 0), (1, 1), (1, 2), (2, 3), (1, 4), (1, 5), (2, 6), (0, 7)] (by kernel_rfl) (by kernel_rfl) (fun _ s => (s.pulls (ks := [1]) rfl).left) ?_
 refine aq_p (ov_move rfl rfl) rfl rfl rfl ?_
 refine aq_v (ov_indexRd (fun _ s => s.rd (k := 0) rfl) rfl Tryz.underlying22 rfl rfl rfl hy) rfl rfl rfl ?_
 refine aq_v (ov_loadRd0 (fun _ s => s.rd (k := 0) rfl) rfl rfl rfl hy rfl) rfl rfl rfl ?_
 refine aq_p (ov_move rfl rfl) rfl rfl rfl ?_
 refine aq_v (ov_indexRd (fun _ s => s.rd (k := 0) rfl) rfl Tryz.underlying22 rfl rfl rfl hx) rfl rfl rfl ?_
 refine aq_v (ov_loadRd0 (fun _ s => s.rd (k := 0) rfl) rfl rfl rfl hx rfl) rfl rfl rfl ?_
 refine aq_p (ov_build (cs := [_, _, _]) rfl rfl rfl rfl) rfl rfl rfl ?_
 refine aq_t0 (ot_store (k := 0) rfl rfl rfl rfl rfl rfl rfl) rfl rfl ?_
 rintro _ _ ⟨rfl, rfl⟩
 simp only [setAt, splice, spliceL, Value.cells]
 refine ⟨fun _ s => (s.pulls (ks := [1]) rfl).left, ?_⟩
 refine aq_nil ?_
 refine zX 2 rfl ?_
 refine zQ ?_
 refine at_end ?_
 refine at_fin (rsV rfl (res_cellS (k := 0) (vs := [_, _, _]) rfl rfl rfl rfl ⟨rfl, rfl, rfl, trivial⟩)) ?_
 refine ⟨_, ⟨rfl, rfl⟩, ?_⟩
 exact zE [1] [0]
theorem T88 (w0 : World) {A : Option Addr} {c c' : Nat} {s : List BL} (hl : 1 ≤ s.length) : Tri Tryz.prog w0 88 [.slice A s.length c] [Row bsE 9 1 A c' s] fun v m => v = .agg #[.int .i64 5, SV (s.getD 0 []), SV []] ∧ m = [Row bsE 9 1 A c' s] := by
 refine tri_k Tryz.func88 rfl rfl fun F => ?_
 simp only [Tryz.ntmps88, argEnv, List.cons_append, List.nil_append]
 obtain ⟨x, hx⟩ : ∃ x, s[0]? = some x := ⟨_, List.getElem?_eq_getElem (by omega)⟩
 have hg : s.getD 0 [] = x := by simp [List.getD, hx]
 rw [hg]
 refine zH fun zq zQ => ?_
 refine zC 2 rfl ?_
 refine zA Tryz.zeroValue105 fun g0 => ?_
 refine zO 5 rfl ?_
 refine zV (ov_indexRd (fun _ s => s.rd (k := 1) rfl) rfl Tryz.underlying22 rfl rfl rfl hx) ?_
 refine zV (ov_loadRd0 (fun _ s => s.rd (k := 1) rfl) rfl rfl rfl hx rfl) ?_
 refine zV (ov_build (cs := [_, _, _]) rfl rfl rfl rfl) ?_
 refine zS 0 ?_
 simp only [setAt, splice, spliceL, Value.cells]
 refine zO 3 rfl ?_
 refine zQ ?_
 refine at_end ?_
 refine at_fin (rsV rfl (res_cellS (k := 0) (vs := [_, _, _]) rfl rfl rfl rfl ⟨rfl, rfl, rfl, trivial⟩)) ?_
 refine ⟨_, ⟨rfl, rfl⟩, ?_⟩
 exact zE [1] [0]
/-- A form: its text, its function. -/
def fE (f : BL × Nat) : List Value := [SV f.1, .func (.func f.2) #[] #[]]
def formsL : List (BL × Nat) := [(form1, 84), (form2, 85), (form3, 86), (form4, 87), (form5, 88)]
theorem T60 (w0 : World) : Tri Tryz.prog w0 60 [] [] fun v m => ∃ A, v = .slice A formsL.length 5 ∧ m = [Row fE 135 2 A 5 formsL] := by
 refine tri_k Tryz.func60 rfl rfl fun F => ?_
 simp only [Tryz.ntmps60, argEnv, List.nil_append]
 refine zH fun zq zQ => ?_
 refine zC 7 rfl ?_
 refine zV (ov_build (cs := [_, _]) rfl rfl rfl rfl) ?_
 refine zV (ov_build (cs := [_, _]) rfl rfl rfl rfl) ?_
 refine zV (ov_build (cs := [_, _]) rfl rfl rfl rfl) ?_
 refine zV (ov_build (cs := [_, _]) rfl rfl rfl rfl) ?_
 refine zV (ov_build (cs := [_, _]) rfl rfl rfl rfl) ?_
 refine zT (ot_buildSlice (cs := [_, _, _, _, _, _, _, _, _, _]) rfl Tryz.underlying131 rfl rfl rfl rfl rfl rfl) ?_
 rintro _ _ ⟨g0, rfl, rfl⟩
 refine zO 4 rfl ?_
 refine zQ ?_
 refine at_end ?_
 refine at_rowOf fE 0 (size := 2) (c := 5) formsL rfl (fun _ _ => rfl) (by decide) (by decide) (by decide) rfl ?_
 simp only [setAt]
 refine at_end ?_
 refine at_fin (rsV rfl (res_tmp rfl)) ?_
 refine ⟨_, ⟨_, rfl, rfl⟩, ?_⟩
 exact zE [0] []
end Go.Proofs.YtighdkdomfpadaaGreatDoor
