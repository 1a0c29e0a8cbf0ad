/- sync.Once, sync.Mutex, atomics: of one goroutine; walked. -/
import Derived.Test.YtbcackbjajlohaaDoorProg
import Derived.Test.YtbcackbjajlohaaDoorSLStr
import Derived.KernelRfl
set_option linter.unusedSimpArgs false
set_option linter.unusedVariables false
set_option maxRecDepth 100000
namespace Go.Proofs.YtbcackbjajlohaaDoor
open Go Go.Proofs.YtbcackbjajlohaaDoor.SL Go.RowKit
theorem T36 (w0 : World) {b off : Nat} {cs : Array Value} {t : TypeId} {n : Int} (hv : nth off cs.toList = some (.int .u32 n)) : Tri Tryd.prog w0 36 [.pointer (some ⟨b, off, none⟩)] [pt b (.cells cs t (0, 0))] fun v m => v = .bool (!decide (n = 0)) ∧ m = [pt b (.cells cs t (0, 0))] := by
  refine tri_of Tryd.func36 rfl rfl fun F => ?_
  simp only [Tryd.ntmps36, argEnv, List.cons_append, List.nil_append]
  refine at_seq_k (fun K0 hK0 => ?_)
  refine at_region ?_
  refine at_v (ov_assign rfl rfl) rfl rfl rfl ?_
  refine at_nil ?_
  refine at_normal ?_
  refine hK0 _ _ _ ?_
  refine at_seq_k (fun K1 hK1 => ?_)
  refine at_region ?_
  refine at_v (ov_move rfl rfl) rfl rfl rfl ?_
  refine at_v (ov_nilCheck rfl rfl) rfl rfl rfl ?_
  refine at_v (ov_fieldAddr (k := 0) rfl rfl rfl rfl) rfl rfl rfl ?_
  refine at_t (ot_extern (e := Extern.Atomic.loadT (.int .u32)) rfl rfl rfl (run_callFunc_extern Tryd.func42 (by decide) rfl rfl rfl) (x_load (k := 0) rfl hv)) rfl rfl rfl ?_
  rintro _ _ ⟨rfl, rfl⟩
  refine at_v (ov_int rfl rfl rfl rfl) rfl rfl rfl ?_
  refine at_v (ov_assign rfl rfl) rfl rfl rfl ?_
  refine at_nil ?_
  refine at_normal ?_
  refine hK1 _ _ _ ?_
  refine at_ret ?_
  refine at_end ?_
  refine at_fin (rsV rfl (res_tmp rfl)) ?_
  refine ⟨_, ⟨rfl, rfl⟩, ?_⟩
  exact fun _ s => s.finEq (ks := [0]) (js := []) rfl rfl rfl
theorem T54 (w0 : World) (b : Bool) : Tri Tryd.prog w0 54 [.bool b] [] fun v m => v = .int .u32 (match b with | true => 1 | false => 0) ∧ m = [] := by
  refine tri_of Tryd.func54 rfl rfl fun F => ?_
  simp only [Tryd.ntmps54, argEnv, List.cons_append, List.nil_append]
  cases b with
  | true =>
    refine at_seq_k (fun K0 hK0 => ?_)
    refine at_region ?_
    refine at_v (ov_assign rfl rfl) rfl rfl rfl ?_
    refine at_nil ?_
    refine at_normal ?_
    refine hK0 _ _ _ ?_
    refine at_seq_k (fun K1 hK1 => ?_)
    refine at_seq_k (fun K2 hK2 => ?_)
    refine at_region ?_
    refine at_v (ov_move rfl rfl) rfl rfl rfl ?_
    refine at_nil ?_
    refine at_normal ?_
    refine hK2 _ _ _ ?_
    refine at_cond_true rfl ?_
    refine at_seq_k (fun K3 hK3 => ?_)
    refine at_region ?_
    refine at_v (ov_assign rfl rfl) rfl rfl rfl ?_
    refine at_nil ?_
    refine at_normal ?_
    refine hK3 _ _ _ ?_
    refine at_ret ?_
    refine at_then_ret ?_
    refine at_end ?_
    refine at_fin (rsV rfl (res_tmp rfl)) ?_
    refine ⟨_, ⟨rfl, rfl⟩, ?_⟩
    exact fun _ s => s.finEq (ks := []) (js := []) rfl rfl rfl
  | false =>
    refine at_seq_k (fun K0 hK0 => ?_)
    refine at_region ?_
    refine at_v (ov_assign rfl rfl) rfl rfl rfl ?_
    refine at_nil ?_
    refine at_normal ?_
    refine hK0 _ _ _ ?_
    refine at_seq_k (fun K1 hK1 => ?_)
    refine at_seq_k (fun K2 hK2 => ?_)
    refine at_region ?_
    refine at_v (ov_move rfl rfl) rfl rfl rfl ?_
    refine at_nil ?_
    refine at_normal ?_
    refine hK2 _ _ _ ?_
    refine at_cond_false rfl ?_
    refine at_skip ?_
    refine at_normal ?_
    refine hK1 _ _ _ ?_
    refine at_seq_k (fun K3 hK3 => ?_)
    refine at_region ?_
    refine at_v (ov_assign rfl rfl) rfl rfl rfl ?_
    refine at_nil ?_
    refine at_normal ?_
    refine hK3 _ _ _ ?_
    refine at_ret ?_
    refine at_end ?_
    refine at_fin (rsV rfl (res_tmp rfl)) ?_
    refine ⟨_, ⟨rfl, rfl⟩, ?_⟩
    exact fun _ s => s.finEq (ks := []) (js := []) rfl rfl rfl
theorem D45 (w0 : World) {b off : Nat} {cs : Array Value} {t : TypeId} {u : Value} (hv : nth off cs.toList = some u) : TriD Tryd.prog w0 45 [.pointer (some ⟨b, off, none⟩), .bool true] [pt b (.cells cs t (0, 0))] fun v m => v = .tuple #[] ∧ m = [pt b (.cells (splice cs off [.int .u32 1]) t (0, 0))] := by
  refine triD_of Tryd.func45 rfl rfl fun F => ?_
  simp only [Tryd.ntmps45, argEnv, List.cons_append, List.nil_append]
  
  refine at_draw _ [] 1000 [(2, 0), (2, 1), (2, 2), (2, 3), (0, 4), (0, 5)] (by kernel_rfl) (by kernel_rfl) (fun _ s => (s.pulls (ks := []) rfl).left) ?_
  refine aq_p (ov_move rfl rfl) rfl rfl rfl ?_
  refine aq_p (ov_nilCheck rfl rfl) rfl rfl rfl ?_
  refine aq_p (ov_fieldAddr (k := 0) rfl rfl rfl rfl) rfl rfl rfl ?_
  refine aq_p (ov_move rfl rfl) rfl rfl rfl ?_
  refine aq_t (ot_call (ks := []) rfl rfl rfl Tryd.call54 rfl (T54 _ _) rfl) rfl rfl rfl ?_
  rintro v0 _ ⟨m0, hp0, rfl⟩
  obtain ⟨rfl, rfl⟩ := hp0
  simp only [List.cons_append, List.nil_append, splice, spliceL]
  refine ⟨fun _ s => (s.pulls (ks := []) rfl).left, ?_⟩
  refine aq_t (ot_extern (e := Extern.Atomic.storeT) rfl rfl rfl (run_callFunc_extern Tryd.func53 (by decide) rfl rfl rfl) (x_store (k := 0) rfl (by exact hv))) rfl rfl rfl ?_
  rintro _ _ ⟨rfl, rfl⟩
  refine ⟨fun _ s => s.bare, ?_⟩
  simp only [setAt, Nat.add_zero, setB_splice]
  refine aq_nil ?_
  refine at_endD ?_
  refine at_finD (rs0 rfl) ?_
  refine ⟨_, ⟨rfl, rfl⟩, ?_⟩
  simp only [splice]
  exact fun _ s => s.finEq (ks := [0]) (js := []) rfl rfl rfl
theorem nth_splice_same {cs : Array Value} {off : Nat} {u v : Value} (h : nth off cs.toList = some u) : nth off (splice cs off [v]).toList = some v := by
  rw [nth_list] at h
  have := (List.getElem?_eq_some_iff.1 h).1
  rw [nth_splice1, if_pos ⟨rfl, by simpa using this⟩]
theorem T51 (w0 : World) {b off : Nat} {cs : Array Value} {t : TypeId} (hv : nth off cs.toList = some (.int .i32 0)) : Tri Tryd.prog w0 51 [.pointer (some ⟨b, off, none⟩)] [pt b (.cells cs t (0, 0))] fun v m => v = .tuple #[] ∧ m = [pt b (.cells (splice cs off [.int .i32 1]) t (0, 0))] := by
  refine tri_of Tryd.func51 rfl rfl fun F => ?_
  simp only [Tryd.ntmps51, argEnv, List.cons_append, List.nil_append]
  have hv2 := nth_splice_same (v := .int .i32 1) hv
  refine at_seq_k (fun K0 hK0 => ?_)
  refine at_region ?_
  refine at_t (ot_extern (e := fun _ => do Go.mark .disable; pure Extern.Race.none_) rfl rfl rfl (run_callFunc_extern Tryd.func57 (by decide) rfl rfl rfl) (x_mark0 .disable)) rfl rfl rfl ?_
  rintro _ _ ⟨rfl, rfl⟩
  refine at_nil ?_
  refine at_normal ?_
  refine hK0 _ _ _ ?_
  refine at_seq_k (fun K1 hK1 => ?_)
  refine at_seq_k (fun K2 hK2 => ?_)
  refine at_region ?_
  refine at_v (ov_move rfl rfl) rfl rfl rfl ?_
  refine at_v (ov_nilCheck rfl rfl) rfl rfl rfl ?_
  refine at_v (ov_fieldAddr (k := 0) rfl rfl rfl rfl) rfl rfl rfl ?_
  refine at_t (ot_extern (e := Extern.Atomic.casT (.int .i32)) rfl rfl rfl (run_callFunc_extern Tryd.func58 (by decide) rfl rfl rfl) (x_casHit (k := 0) rfl (by exact hv) rfl)) rfl rfl rfl ?_
  rintro _ _ ⟨rfl, rfl⟩
  simp only [setAt, Nat.add_zero, setB_splice]
  refine at_nil ?_
  refine at_normal ?_
  refine hK2 _ _ _ ?_
  refine at_cond_true rfl ?_
  refine at_seq_k (fun K3 hK3 => ?_)
  refine at_cond_true rfl ?_
  refine at_seq_k (fun K4 hK4 => ?_)
  refine at_region ?_
  refine at_t (ot_extern (e := fun _ => do Go.mark .enable; pure Extern.Race.none_) rfl rfl rfl (run_callFunc_extern Tryd.func59 (by decide) rfl rfl rfl) (x_mark0 .enable)) rfl rfl rfl ?_
  rintro _ _ ⟨rfl, rfl⟩
  refine at_nil ?_
  refine at_normal ?_
  refine hK4 _ _ _ ?_
  refine at_region ?_
  refine at_v (ov_move rfl rfl) rfl rfl rfl ?_
  refine at_v (ov_unsafe (k := 0) rfl Tryd.underlying103 Tryd.underlying107 rfl rfl rfl (by exact hv2)) rfl rfl rfl ?_
  
  refine at_t (ot_extern (e := Extern.Race.marked .acquire) rfl rfl rfl (run_callFunc_extern Tryd.func60 (by decide) rfl rfl rfl) (x_marked .acquire _)) rfl rfl rfl ?_
  rintro _ _ ⟨rfl, rfl⟩
  refine at_nil ?_
  refine at_normal ?_
  refine hK3 _ _ _ ?_
  refine at_ret ?_
  refine at_then_ret ?_
  refine at_end ?_
  refine at_fin (rs0 rfl) ?_
  refine ⟨_, ⟨rfl, rfl⟩, ?_⟩
  exact fun _ s => s.finEq (ks := [0]) (js := []) rfl rfl rfl
theorem T52 (w0 : World) {b off : Nat} {cs : Array Value} {t : TypeId} (hv : nth off cs.toList = some (.int .i32 1)) : Tri Tryd.prog w0 52 [.pointer (some ⟨b, off, none⟩)] [pt b (.cells cs t (0, 0))] fun v m => v = .tuple #[] ∧ m = [pt b (.cells (splice cs off [.int .i32 0]) t (0, 0))] := by
  refine tri_of Tryd.func52 rfl rfl fun F => ?_
  simp only [Tryd.ntmps52, argEnv, List.cons_append, List.nil_append]
  refine at_seq_k (fun K0 hK0 => ?_)
  refine at_cond_true rfl ?_
  refine at_seq_k (fun K1 hK1 => ?_)
  refine at_region ?_
  refine at_v (ov_move rfl rfl) rfl rfl rfl ?_
  refine at_v (ov_nilCheck rfl rfl) rfl rfl rfl ?_
  refine at_v (ov_fieldAddr (k := 0) rfl rfl rfl rfl) rfl rfl rfl ?_
  refine at_v (ov_load rfl rfl rfl (fun _ s => s.ld (k := 0) rfl (by assumption))) rfl rfl rfl ?_
  refine at_nil ?_
  refine at_normal ?_
  refine hK1 _ _ _ ?_
  refine at_seq_k (fun K2 hK2 => ?_)
  refine at_region ?_
  refine at_v (ov_move rfl rfl) rfl rfl rfl ?_
  refine at_v (ov_unsafe (k := 0) rfl Tryd.underlying103 Tryd.underlying107 rfl rfl rfl (by exact hv)) rfl rfl rfl ?_
  
  refine at_t (ot_extern (e := Extern.Race.marked .releaseMerge) rfl rfl rfl (run_callFunc_extern Tryd.func62 (by decide) rfl rfl rfl) (x_marked .releaseMerge _)) rfl rfl rfl ?_
  rintro _ _ ⟨rfl, rfl⟩
  refine at_nil ?_
  refine at_normal ?_
  refine hK2 _ _ _ ?_
  refine at_region ?_
  refine at_t (ot_extern (e := fun _ => do Go.mark .disable; pure Extern.Race.none_) rfl rfl rfl (run_callFunc_extern Tryd.func57 (by decide) rfl rfl rfl) (x_mark0 .disable)) rfl rfl rfl ?_
  rintro _ _ ⟨rfl, rfl⟩
  refine at_nil ?_
  refine at_normal ?_
  refine hK0 _ _ _ ?_
  refine at_seq_k (fun K3 hK3 => ?_)
  refine at_region ?_
  refine at_v (ov_move rfl rfl) rfl rfl rfl ?_
  refine at_v (ov_nilCheck rfl rfl) rfl rfl rfl ?_
  refine at_v (ov_fieldAddr (k := 0) rfl rfl rfl rfl) rfl rfl rfl ?_
  refine at_t (ot_extern (e := Extern.Atomic.update (Op.intArith .add) .i32 true) rfl rfl rfl (run_callFunc_extern Tryd.func63 (by decide) rfl rfl rfl) (x_add (k := 0) rfl (by exact hv))) rfl rfl rfl ?_
  rintro _ _ ⟨rfl, rfl⟩
  simp only [setAt, Nat.add_zero, setB_splice]
  rw [show IntKind.i32.wrap (1 + -1) = 0 from rfl]
  refine at_v (ov_assign rfl rfl) rfl rfl rfl ?_
  refine at_nil ?_
  refine at_normal ?_
  refine hK3 _ _ _ ?_
  refine at_seq_k (fun K4 hK4 => ?_)
  refine at_seq_k (fun K5 hK5 => ?_)
  refine at_region ?_
  refine at_v (ov_move rfl rfl) rfl rfl rfl ?_
  refine at_v (ov_int rfl rfl rfl rfl) rfl rfl rfl ?_
  refine at_nil ?_
  refine at_normal ?_
  refine hK5 _ _ _ ?_
  refine at_cond_false rfl ?_
  refine at_skip ?_
  refine at_normal ?_
  refine hK4 _ _ _ ?_
  refine at_region ?_
  refine at_t (ot_extern (e := fun _ => do Go.mark .enable; pure Extern.Race.none_) rfl rfl rfl (run_callFunc_extern Tryd.func59 (by decide) rfl rfl rfl) (x_mark0 .enable)) rfl rfl rfl ?_
  rintro _ _ ⟨rfl, rfl⟩
  refine at_nil ?_
  refine at_end ?_
  refine at_fin (rs0 rfl) ?_
  refine ⟨_, ⟨rfl, rfl⟩, ?_⟩
  exact fun _ s => s.finEq (ks := [0]) (js := []) rfl rfl rfl
theorem T43 (w0 : World) {b off : Nat} {cs : Array Value} {t : TypeId} (hv : nth off cs.toList = some (.int .i32 0)) : Tri Tryd.prog w0 43 [.pointer (some ⟨b, off, none⟩)] [pt b (.cells cs t (0, 0))] fun v m => v = .tuple #[] ∧ m = [pt b (.cells (splice cs off [.int .i32 1]) t (0, 0))] := by
  refine tri_of Tryd.func43 rfl rfl fun F => ?_
  simp only [Tryd.ntmps43, argEnv, List.cons_append, List.nil_append]
  have hv0 : nth (off + 0) cs.toList = some (.int .i32 0) := hv
  refine at_region ?_
  refine at_v (ov_move rfl rfl) rfl rfl rfl ?_
  refine at_v (ov_nilCheck rfl rfl) rfl rfl rfl ?_
  refine at_v (ov_fieldAddr (k := 0) rfl rfl rfl rfl) rfl rfl rfl ?_
  refine at_t (ot_call (ks := [0]) rfl rfl rfl Tryd.call51 rfl (T51 _ (by first | assumption | rfl | omega | decide | (simp; done) | (simp at *; omega))) rfl) rfl rfl rfl ?_
  rintro v0 _ ⟨m0, hp0, rfl⟩
  obtain ⟨rfl, rfl⟩ := hp0
  simp only [List.cons_append, List.nil_append, splice, spliceL]
  refine at_nil ?_
  refine at_end ?_
  simp only [Nat.add_zero]
  refine at_fin (rs0 rfl) ?_
  refine ⟨_, ⟨rfl, rfl⟩, ?_⟩
  exact fun _ s => s.finEq (ks := [0]) (js := []) rfl rfl rfl
theorem D44 (w0 : World) {b off : Nat} {cs : Array Value} {t : TypeId} (hv : nth off cs.toList = some (.int .i32 1)) : TriD Tryd.prog w0 44 [.pointer (some ⟨b, off, none⟩)] [pt b (.cells cs t (0, 0))] fun v m => v = .tuple #[] ∧ m = [pt b (.cells (splice cs off [.int .i32 0]) t (0, 0))] := by
  refine triD_of Tryd.func44 rfl rfl fun F => ?_
  simp only [Tryd.ntmps44, argEnv, List.cons_append, List.nil_append]
  have hv0 : nth (off + 0) cs.toList = some (.int .i32 1) := hv
  refine at_region ?_
  refine at_v (ov_move rfl rfl) rfl rfl rfl ?_
  refine at_v (ov_nilCheck rfl rfl) rfl rfl rfl ?_
  refine at_v (ov_fieldAddr (k := 0) rfl rfl rfl rfl) rfl rfl rfl ?_
  refine at_t (ot_call (ks := [0]) rfl rfl rfl Tryd.call52 rfl (T52 _ (by first | assumption | rfl | omega | decide | (simp; done) | (simp at *; omega))) rfl) rfl rfl rfl ?_
  rintro v0 _ ⟨m0, hp0, rfl⟩
  obtain ⟨rfl, rfl⟩ := hp0
  simp only [List.cons_append, List.nil_append, splice, spliceL]
  refine at_nil ?_
  refine at_endD ?_
  simp only [Nat.add_zero]
  refine at_finD (rs0 rfl) ?_
  refine ⟨_, ⟨rfl, rfl⟩, ?_⟩
  exact fun _ s => s.finEq (ks := [0]) (js := []) rfl rfl rfl
