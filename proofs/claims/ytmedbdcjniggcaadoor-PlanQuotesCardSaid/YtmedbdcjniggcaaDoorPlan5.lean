/- Package plan, walked: the forms; Of. -/
import Derived.Test.YtmedbdcjniggcaaDoorProg
import Derived.Test.YtmedbdcjniggcaaDoorOfLaw
import Derived.Test.YtmedbdcjniggcaaDoorLex
import Derived.Test.YtmedbdcjniggcaaDoorSLInv
import Derived.Test.YtmedbdcjniggcaaDoorSLCopy
import Derived.Test.YtmedbdcjniggcaaDoorSLStr
import Derived.KernelRfl
set_option linter.unusedSimpArgs false
set_option linter.unusedVariables false
set_option maxRecDepth 100000
set_option maxHeartbeats 4000000
namespace Go.Proofs.YtmedbdcjniggcaaDoor
open Go Go.Proofs.YtmedbdcjniggcaaDoor.SL Go.RowKit
theorem T41 (w0 : World) {A : Option Addr} {c c' : Nat} {s : List BL} (hl : 1 ≤ s.length) : Tri Tryd.prog w0 41 [.slice A s.length c] [Row bsE 9 1 A c' s] fun v m => v = .agg #[.int .i64 1, SV (s.getD 0 []), SV []] ∧ m = [Row bsE 9 1 A c' s] := by
  refine tri_of Tryd.func41 rfl rfl fun F => ?_
  simp only [Tryd.ntmps41, argEnv, List.cons_append, List.nil_append]
  obtain ⟨x, hx⟩ : ∃ x, s[0]? = some x := ⟨_, List.getElem?_eq_getElem (by omega)⟩
  have hg : s.getD 0 [] = x := by simp [List.getD, hx]
  rw [hg]
  refine at_seq_k (fun K0 hK0 => ?_)
  refine at_region ?_
  refine at_t (ot_allocA rfl Tryd.zeroValue23) rfl rfl rfl ?_
  rintro _ _ ⟨g0, rfl, rfl⟩
  refine at_nil ?_
  refine at_normal ?_
  refine hK0 _ _ _ ?_
  refine at_seq_k (fun K1 hK1 => ?_)
  refine at_region ?_
  refine at_v (ov_move rfl rfl) rfl rfl rfl ?_
  refine at_v (ov_indexRd (fun _ s => s.rd (k := 1) rfl) rfl Tryd.underlying35 rfl rfl rfl hx) rfl rfl rfl ?_
  refine at_v (ov_loadRd0 (fun _ s => s.rd (k := 1) rfl) rfl rfl rfl hx rfl) rfl rfl rfl ?_
  refine at_v (ov_build (cs := [_, _, _]) rfl rfl rfl rfl) rfl rfl rfl ?_
  refine at_t0 (ot_store (k := 0) rfl rfl rfl rfl rfl rfl rfl) rfl rfl ?_
  rintro _ _ ⟨rfl, rfl⟩
  simp only [setAt, splice, spliceL, Value.cells]
  refine at_nil ?_
  refine at_normal ?_
  refine hK1 _ _ _ ?_
  refine at_ret ?_
  refine at_end ?_
  refine at_fin (rsV rfl (res_cellS (k := 0) (vs := [_, _, _]) rfl rfl rfl rfl ⟨rfl, rfl, rfl, trivial⟩)) ?_
  refine ⟨_, ⟨rfl, rfl⟩, ?_⟩
  exact fun _ s => s.finEq (ks := [1]) (js := [0]) rfl rfl rfl
theorem T42 (w0 : World) (v : Value) : Tri Tryd.prog w0 42 [v] [] fun v m => v = .agg #[.int .i64 2, SV [], SV []] ∧ m = [] := by
  refine tri_of Tryd.func42 rfl rfl fun F => ?_
  simp only [Tryd.ntmps42, argEnv, List.cons_append, List.nil_append]
  refine at_seq_k (fun K0 hK0 => ?_)
  refine at_region ?_
  refine at_t (ot_allocA rfl Tryd.zeroValue23) rfl rfl rfl ?_
  rintro _ _ ⟨g0, rfl, rfl⟩
  refine at_nil ?_
  refine at_normal ?_
  refine hK0 _ _ _ ?_
  refine at_seq_k (fun K1 hK1 => ?_)
  refine at_region ?_
  refine at_v (ov_build (cs := [_, _, _]) rfl rfl rfl rfl) rfl rfl rfl ?_
  refine at_t0 (ot_store (k := 0) rfl rfl rfl rfl rfl rfl rfl) rfl rfl ?_
  rintro _ _ ⟨rfl, rfl⟩
  simp only [setAt, splice, spliceL, Value.cells]
  refine at_nil ?_
  refine at_normal ?_
  refine hK1 _ _ _ ?_
  refine at_ret ?_
  refine at_end ?_
  refine at_fin (rsV rfl (res_cellS (k := 0) (vs := [_, _, _]) rfl rfl rfl rfl ⟨rfl, rfl, rfl, trivial⟩)) ?_
  refine ⟨_, ⟨rfl, rfl⟩, ?_⟩
  exact fun _ s => s.finEq (ks := []) (js := [0]) rfl rfl rfl
theorem T43 (w0 : World) {A : Option Addr} {c c' : Nat} {s : List BL} (hl : 2 ≤ s.length) : Tri Tryd.prog w0 43 [.slice A s.length c] [Row bsE 9 1 A c' s] fun v m => v = .agg #[.int .i64 3, SV (s.getD 0 []), SV (s.getD 1 [])] ∧ m = [Row bsE 9 1 A c' s] := by
  refine tri_of Tryd.func43 rfl rfl fun F => ?_
  simp only [Tryd.ntmps43, argEnv, List.cons_append, List.nil_append]
  obtain ⟨x, hx⟩ : ∃ x, s[0]? = some x := ⟨_, List.getElem?_eq_getElem (by omega)⟩
  obtain ⟨y, hy⟩ : ∃ y, s[1]? = some y := ⟨_, List.getElem?_eq_getElem (by omega)⟩
  have hg : s.getD 0 [] = x := by simp [List.getD, hx]
  have hg1 : s.getD 1 [] = y := by simp [List.getD, hy]
  rw [hg, hg1]
  refine at_seq_k (fun K0 hK0 => ?_)
  refine at_region ?_
  refine at_t (ot_allocA rfl Tryd.zeroValue23) rfl rfl rfl ?_
  rintro _ _ ⟨g0, rfl, rfl⟩
  refine at_nil ?_
  refine at_normal ?_
  refine hK0 _ _ _ ?_
  refine at_seq_k (fun K1 hK1 => ?_)
  refine at_draw _ [] 1000 [(2, 0), (1, 1), (1, 2), (2, 3), (1, 4), (1, 5), (2, 6), (0, 7)] (by kernel_rfl) (by kernel_rfl) (fun _ s => (s.pulls (ks := [1]) rfl).left) ?_
  refine aq_p (ov_move rfl rfl) rfl rfl rfl ?_
  refine aq_v (ov_indexRd (fun _ s => s.rd (k := 0) rfl) rfl Tryd.underlying35 rfl rfl rfl hx) rfl rfl rfl ?_
  refine aq_v (ov_loadRd0 (fun _ s => s.rd (k := 0) rfl) rfl rfl rfl hx rfl) rfl rfl rfl ?_
  refine aq_p (ov_move rfl rfl) rfl rfl rfl ?_
  refine aq_v (ov_indexRd (fun _ s => s.rd (k := 0) rfl) rfl Tryd.underlying35 rfl rfl rfl hy) rfl rfl rfl ?_
  refine aq_v (ov_loadRd0 (fun _ s => s.rd (k := 0) rfl) rfl rfl rfl hy rfl) rfl rfl rfl ?_
  refine aq_p (ov_build (cs := [_, _, _]) rfl rfl rfl rfl) rfl rfl rfl ?_
  refine aq_t0 (ot_store (k := 0) rfl rfl rfl rfl rfl rfl rfl) rfl rfl ?_
  rintro _ _ ⟨rfl, rfl⟩
  simp only [setAt, splice, spliceL, Value.cells]
  refine ⟨fun _ s => (s.pulls (ks := [1]) rfl).left, ?_⟩
  refine aq_nil ?_
  refine at_normal ?_
  refine hK1 _ _ _ ?_
  refine at_ret ?_
  refine at_end ?_
  refine at_fin (rsV rfl (res_cellS (k := 0) (vs := [_, _, _]) rfl rfl rfl rfl ⟨rfl, rfl, rfl, trivial⟩)) ?_
  refine ⟨_, ⟨rfl, rfl⟩, ?_⟩
  exact fun _ s => s.finEq (ks := [1]) (js := [0]) rfl rfl rfl
theorem T44 (w0 : World) {A : Option Addr} {c c' : Nat} {s : List BL} (hl : 2 ≤ s.length) : Tri Tryd.prog w0 44 [.slice A s.length c] [Row bsE 9 1 A c' s] fun v m => v = .agg #[.int .i64 4, SV (s.getD 1 []), SV (s.getD 0 [])] ∧ m = [Row bsE 9 1 A c' s] := by
  refine tri_of Tryd.func44 rfl rfl fun F => ?_
  simp only [Tryd.ntmps44, argEnv, List.cons_append, List.nil_append]
  obtain ⟨x, hx⟩ : ∃ x, s[0]? = some x := ⟨_, List.getElem?_eq_getElem (by omega)⟩
  obtain ⟨y, hy⟩ : ∃ y, s[1]? = some y := ⟨_, List.getElem?_eq_getElem (by omega)⟩
  have hg : s.getD 0 [] = x := by simp [List.getD, hx]
  have hg1 : s.getD 1 [] = y := by simp [List.getD, hy]
  rw [hg, hg1]
  refine at_seq_k (fun K0 hK0 => ?_)
  refine at_region ?_
  refine at_t (ot_allocA rfl Tryd.zeroValue23) rfl rfl rfl ?_
  rintro _ _ ⟨g0, rfl, rfl⟩
  refine at_nil ?_
  refine at_normal ?_
  refine hK0 _ _ _ ?_
  refine at_seq_k (fun K1 hK1 => ?_)
  refine at_draw _ [] 1000 [(2, 0), (1, 1), (1, 2), (2, 3), (1, 4), (1, 5), (2, 6), (0, 7)] (by kernel_rfl) (by kernel_rfl) (fun _ s => (s.pulls (ks := [1]) rfl).left) ?_
  refine aq_p (ov_move rfl rfl) rfl rfl rfl ?_
  refine aq_v (ov_indexRd (fun _ s => s.rd (k := 0) rfl) rfl Tryd.underlying35 rfl rfl rfl hy) rfl rfl rfl ?_
  refine aq_v (ov_loadRd0 (fun _ s => s.rd (k := 0) rfl) rfl rfl rfl hy rfl) rfl rfl rfl ?_
  refine aq_p (ov_move rfl rfl) rfl rfl rfl ?_
  refine aq_v (ov_indexRd (fun _ s => s.rd (k := 0) rfl) rfl Tryd.underlying35 rfl rfl rfl hx) rfl rfl rfl ?_
  refine aq_v (ov_loadRd0 (fun _ s => s.rd (k := 0) rfl) rfl rfl rfl hx rfl) rfl rfl rfl ?_
  refine aq_p (ov_build (cs := [_, _, _]) rfl rfl rfl rfl) rfl rfl rfl ?_
  refine aq_t0 (ot_store (k := 0) rfl rfl rfl rfl rfl rfl rfl) rfl rfl ?_
  rintro _ _ ⟨rfl, rfl⟩
  simp only [setAt, splice, spliceL, Value.cells]
  refine ⟨fun _ s => (s.pulls (ks := [1]) rfl).left, ?_⟩
  refine aq_nil ?_
  refine at_normal ?_
  refine hK1 _ _ _ ?_
  refine at_ret ?_
  refine at_end ?_
  refine at_fin (rsV rfl (res_cellS (k := 0) (vs := [_, _, _]) rfl rfl rfl rfl ⟨rfl, rfl, rfl, trivial⟩)) ?_
  refine ⟨_, ⟨rfl, rfl⟩, ?_⟩
  exact fun _ s => s.finEq (ks := [1]) (js := [0]) rfl rfl rfl
theorem T45 (w0 : World) {A : Option Addr} {c c' : Nat} {s : List BL} (hl : 1 ≤ s.length) : Tri Tryd.prog w0 45 [.slice A s.length c] [Row bsE 9 1 A c' s] fun v m => v = .agg #[.int .i64 5, SV (s.getD 0 []), SV []] ∧ m = [Row bsE 9 1 A c' s] := by
  refine tri_of Tryd.func45 rfl rfl fun F => ?_
  simp only [Tryd.ntmps45, argEnv, List.cons_append, List.nil_append]
  obtain ⟨x, hx⟩ : ∃ x, s[0]? = some x := ⟨_, List.getElem?_eq_getElem (by omega)⟩
  have hg : s.getD 0 [] = x := by simp [List.getD, hx]
  rw [hg]
  refine at_seq_k (fun K0 hK0 => ?_)
  refine at_region ?_
  refine at_t (ot_allocA rfl Tryd.zeroValue23) rfl rfl rfl ?_
  rintro _ _ ⟨g0, rfl, rfl⟩
  refine at_nil ?_
  refine at_normal ?_
  refine hK0 _ _ _ ?_
  refine at_seq_k (fun K1 hK1 => ?_)
  refine at_region ?_
  refine at_v (ov_move rfl rfl) rfl rfl rfl ?_
  refine at_v (ov_indexRd (fun _ s => s.rd (k := 1) rfl) rfl Tryd.underlying35 rfl rfl rfl hx) rfl rfl rfl ?_
  refine at_v (ov_loadRd0 (fun _ s => s.rd (k := 1) rfl) rfl rfl rfl hx rfl) rfl rfl rfl ?_
  refine at_v (ov_build (cs := [_, _, _]) rfl rfl rfl rfl) rfl rfl rfl ?_
  refine at_t0 (ot_store (k := 0) rfl rfl rfl rfl rfl rfl rfl) rfl rfl ?_
  rintro _ _ ⟨rfl, rfl⟩
  simp only [setAt, splice, spliceL, Value.cells]
  refine at_nil ?_
  refine at_normal ?_
  refine hK1 _ _ _ ?_
  refine at_ret ?_
  refine at_end ?_
  refine at_fin (rsV rfl (res_cellS (k := 0) (vs := [_, _, _]) rfl rfl rfl rfl ⟨rfl, rfl, rfl, trivial⟩)) ?_
  refine ⟨_, ⟨rfl, rfl⟩, ?_⟩
  exact fun _ s => s.finEq (ks := [1]) (js := [0]) rfl rfl rfl
/-- A form: its text, its function. -/
def fE (f : BL × Nat) : List Value := [SV f.1, .func (.func f.2) #[] #[]]
def formsL : List (BL × Nat) := [(form1, 41), (form2, 42), (form3, 43), (form4, 44), (form5, 45)]
theorem T26 (w0 : World) : Tri Tryd.prog w0 26 [] [] fun v m => ∃ A, v = .slice A formsL.length 5 ∧ m = [Row fE 67 2 A 5 formsL] := by
  refine tri_of Tryd.func26 rfl rfl fun F => ?_
  simp only [Tryd.ntmps26, argEnv, List.nil_append]
  refine at_seq_k (fun K0 hK0 => ?_)
  refine at_region ?_
  refine at_v (ov_assign rfl rfl) rfl rfl rfl ?_
  refine at_nil ?_
  refine at_normal ?_
  refine hK0 _ _ _ ?_
  refine at_seq_k (fun K1 hK1 => ?_)
  refine at_region ?_
  refine at_v (ov_build (cs := [_, _]) rfl rfl rfl rfl) rfl rfl rfl ?_
  refine at_v (ov_build (cs := [_, _]) rfl rfl rfl rfl) rfl rfl rfl ?_
  refine at_v (ov_build (cs := [_, _]) rfl rfl rfl rfl) rfl rfl rfl ?_
  refine at_v (ov_build (cs := [_, _]) rfl rfl rfl rfl) rfl rfl rfl ?_
  refine at_v (ov_build (cs := [_, _]) rfl rfl rfl rfl) rfl rfl rfl ?_
  refine at_t (ot_buildSlice (cs := [_, _, _, _, _, _, _, _, _, _]) rfl Tryd.underlying63 rfl rfl rfl rfl rfl rfl) rfl rfl rfl ?_
  rintro _ _ ⟨g0, rfl, rfl⟩
  refine at_v (ov_assign rfl rfl) rfl rfl rfl ?_
  refine at_nil ?_
  refine at_normal ?_
  refine hK1 _ _ _ ?_
  refine at_ret ?_
  refine at_end ?_
  refine at_rowOf fE 0 (size := 2) (c := 5) formsL rfl (fun _ _ => rfl) (by decide) (by decide) (by decide) rfl ?_
  simp only [setAt]
  refine at_end ?_
  refine at_fin (rsV rfl (res_tmp rfl)) ?_
  refine ⟨_, ⟨_, rfl, rfl⟩, ?_⟩
  exact fun _ s => s.finEq (ks := [0]) (js := []) rfl rfl rfl
end Go.Proofs.YtmedbdcjniggcaaDoor
