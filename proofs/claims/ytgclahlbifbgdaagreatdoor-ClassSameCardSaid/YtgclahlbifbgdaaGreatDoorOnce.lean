/- sync.Once, sync.Mutex, atomics: of one goroutine; walked. -/
import Derived.Test.YtgclahlbifbgdaaGreatDoorProg
import Derived.Test.YtgclahlbifbgdaaGreatDoorSLStr
import Derived.KernelRfl
set_option linter.unusedSimpArgs false
set_option linter.unusedVariables false
set_option maxRecDepth 100000
set_option maxHeartbeats 2000000
namespace Go.Proofs.YtgclahlbifbgdaaGreatDoor
open Go Go.Proofs.YtgclahlbifbgdaaGreatDoor.SL Go.RowKit
theorem T83 (w0 : World) {b off : Nat} {cs : Array Value} {t : TypeId} {n : Int} (hv : nth off cs.toList = some (.int .u32 n)) : Tri Tryz.prog w0 83 [.pointer (some ⟨b, off, none⟩)] [pt b (.cells cs t (0, 0))] fun v m => v = .bool (!decide (n = 0)) ∧ m = [pt b (.cells cs t (0, 0))] := by
  refine tri_of Tryz.func83 rfl rfl fun F => ?_
  simp only [Tryz.ntmps83, argEnv, List.cons_append, List.nil_append]
  refine at_seq_k (fun K0 hK0 => ?_)
  refine at_region ?_
  refine at_v (ov_assign rfl rfl) rfl rfl rfl ?_
  refine at_nil ?_
  refine at_normal ?_
  refine hK0 _ _ _ ?_
  refine at_seq_k (fun K1 hK1 => ?_)
  refine at_region ?_
  refine at_v (ov_move rfl rfl) rfl rfl rfl ?_
  refine at_v (ov_nilCheck rfl rfl) rfl rfl rfl ?_
  refine at_v (ov_fieldAddr (k := 0) rfl rfl rfl rfl) rfl rfl rfl ?_
  refine at_t (ot_extern (e := Extern.Atomic.loadT (.int .u32)) rfl rfl rfl (run_callFunc_extern Tryz.func104 (by decide) rfl rfl rfl) (x_load (k := 0) rfl hv)) rfl rfl rfl ?_
  rintro _ _ ⟨rfl, rfl⟩
  refine at_v (ov_int rfl rfl rfl rfl) rfl rfl rfl ?_
  refine at_v (ov_assign rfl rfl) rfl rfl rfl ?_
  refine at_nil ?_
  refine at_normal ?_
  refine hK1 _ _ _ ?_
  refine at_ret ?_
  refine at_end ?_
  refine at_fin (rsV rfl (res_tmp rfl)) ?_
  refine ⟨_, ⟨rfl, rfl⟩, ?_⟩
  exact fun _ s => s.finEq (ks := [0]) (js := []) rfl rfl rfl
theorem T121 (w0 : World) (b : Bool) : Tri Tryz.prog w0 121 [.bool b] [] fun v m => v = .int .u32 (match b with | true => 1 | false => 0) ∧ m = [] := by
  refine tri_of Tryz.func121 rfl rfl fun F => ?_
  simp only [Tryz.ntmps121, argEnv, List.cons_append, List.nil_append]
  cases b with
  | true =>
    refine at_seq_k (fun K0 hK0 => ?_)
    refine at_region ?_
    refine at_v (ov_assign rfl rfl) rfl rfl rfl ?_
    refine at_nil ?_
    refine at_normal ?_
    refine hK0 _ _ _ ?_
    refine at_seq_k (fun K1 hK1 => ?_)
    refine at_seq_k (fun K2 hK2 => ?_)
    refine at_region ?_
    refine at_v (ov_move rfl rfl) rfl rfl rfl ?_
    refine at_nil ?_
    refine at_normal ?_
    refine hK2 _ _ _ ?_
    refine at_cond_true rfl ?_
    refine at_seq_k (fun K3 hK3 => ?_)
    refine at_region ?_
    refine at_v (ov_assign rfl rfl) rfl rfl rfl ?_
    refine at_nil ?_
    refine at_normal ?_
    refine hK3 _ _ _ ?_
    refine at_ret ?_
    refine at_then_ret ?_
    refine at_end ?_
    refine at_fin (rsV rfl (res_tmp rfl)) ?_
    refine ⟨_, ⟨rfl, rfl⟩, ?_⟩
    exact fun _ s => s.finEq (ks := []) (js := []) rfl rfl rfl
  | false =>
    refine at_seq_k (fun K0 hK0 => ?_)
    refine at_region ?_
    refine at_v (ov_assign rfl rfl) rfl rfl rfl ?_
    refine at_nil ?_
    refine at_normal ?_
    refine hK0 _ _ _ ?_
    refine at_seq_k (fun K1 hK1 => ?_)
    refine at_seq_k (fun K2 hK2 => ?_)
    refine at_region ?_
    refine at_v (ov_move rfl rfl) rfl rfl rfl ?_
    refine at_nil ?_
    refine at_normal ?_
    refine hK2 _ _ _ ?_
    refine at_cond_false rfl ?_
    refine at_skip ?_
    refine at_normal ?_
    refine hK1 _ _ _ ?_
    refine at_seq_k (fun K3 hK3 => ?_)
    refine at_region ?_
    refine at_v (ov_assign rfl rfl) rfl rfl rfl ?_
    refine at_nil ?_
    refine at_normal ?_
    refine hK3 _ _ _ ?_
    refine at_ret ?_
    refine at_end ?_
    refine at_fin (rsV rfl (res_tmp rfl)) ?_
    refine ⟨_, ⟨rfl, rfl⟩, ?_⟩
    exact fun _ s => s.finEq (ks := []) (js := []) rfl rfl rfl
theorem D107 (w0 : World) {b off : Nat} {cs : Array Value} {t : TypeId} {u : Value} (hv : nth off cs.toList = some u) : TriD Tryz.prog w0 107 [.pointer (some ⟨b, off, none⟩), .bool true] [pt b (.cells cs t (0, 0))] fun v m => v = .tuple #[] ∧ m = [pt b (.cells (splice cs off [.int .u32 1]) t (0, 0))] := by
  refine triD_of Tryz.func107 rfl rfl fun F => ?_
  simp only [Tryz.ntmps107, argEnv, List.cons_append, List.nil_append]
  
  refine at_draw _ [] 1000 [(2, 0), (2, 1), (2, 2), (2, 3), (0, 4), (0, 5)] (by kernel_rfl) (by kernel_rfl) (fun _ s => (s.pulls (ks := []) rfl).left) ?_
  refine aq_p (ov_move rfl rfl) rfl rfl rfl ?_
  refine aq_p (ov_nilCheck rfl rfl) rfl rfl rfl ?_
  refine aq_p (ov_fieldAddr (k := 0) rfl rfl rfl rfl) rfl rfl rfl ?_
  refine aq_p (ov_move rfl rfl) rfl rfl rfl ?_
  refine aq_t (ot_call (ks := []) rfl rfl rfl Tryz.call121 rfl (T121 _ _) rfl) rfl rfl rfl ?_
  rintro v0 _ ⟨m0, hp0, rfl⟩
  obtain ⟨rfl, rfl⟩ := hp0
  simp only [List.cons_append, List.nil_append, splice, spliceL]
  refine ⟨fun _ s => (s.pulls (ks := []) rfl).left, ?_⟩
  refine aq_t (ot_extern (e := Extern.Atomic.storeT) rfl rfl rfl (run_callFunc_extern Tryz.func120 (by decide) rfl rfl rfl) (x_store (k := 0) rfl (by exact hv))) rfl rfl rfl ?_
  rintro _ _ ⟨rfl, rfl⟩
  refine ⟨fun _ s => s.bare, ?_⟩
  simp only [setAt, Nat.add_zero, setB_splice]
  refine aq_nil ?_
  refine at_endD ?_
  refine at_finD (rs0 rfl) ?_
  refine ⟨_, ⟨rfl, rfl⟩, ?_⟩
  simp only [splice]
  exact fun _ s => s.finEq (ks := [0]) (js := []) rfl rfl rfl
theorem nth_splice_same {cs : Array Value} {off : Nat} {u v : Value} (h : nth off cs.toList = some u) : nth off (splice cs off [v]).toList = some v := by
  rw [nth_list] at h
  have := (List.getElem?_eq_some_iff.1 h).1
  rw [nth_splice1, if_pos ⟨rfl, by simpa using this⟩]
theorem T118 (w0 : World) {b off : Nat} {cs : Array Value} {t : TypeId} (hv : nth off cs.toList = some (.int .i32 0)) : Tri Tryz.prog w0 118 [.pointer (some ⟨b, off, none⟩)] [pt b (.cells cs t (0, 0))] fun v m => v = .tuple #[] ∧ m = [pt b (.cells (splice cs off [.int .i32 1]) t (0, 0))] := by
  refine tri_of Tryz.func118 rfl rfl fun F => ?_
  simp only [Tryz.ntmps118, argEnv, List.cons_append, List.nil_append]
  have hv2 := nth_splice_same (v := .int .i32 1) hv
  refine at_seq_k (fun K0 hK0 => ?_)
  refine at_region ?_
  refine at_t (ot_extern (e := fun _ => do Go.mark .disable; pure Extern.Race.none_) rfl rfl rfl (run_callFunc_extern Tryz.func125 (by decide) rfl rfl rfl) (x_mark0 .disable)) rfl rfl rfl ?_
  rintro _ _ ⟨rfl, rfl⟩
  refine at_nil ?_
  refine at_normal ?_
  refine hK0 _ _ _ ?_
  refine at_seq_k (fun K1 hK1 => ?_)
  refine at_seq_k (fun K2 hK2 => ?_)
  refine at_region ?_
  refine at_v (ov_move rfl rfl) rfl rfl rfl ?_
  refine at_v (ov_nilCheck rfl rfl) rfl rfl rfl ?_
  refine at_v (ov_fieldAddr (k := 0) rfl rfl rfl rfl) rfl rfl rfl ?_
  refine at_t (ot_extern (e := Extern.Atomic.casT (.int .i32)) rfl rfl rfl (run_callFunc_extern Tryz.func126 (by decide) rfl rfl rfl) (x_casHit (k := 0) rfl (by exact hv) rfl)) rfl rfl rfl ?_
  rintro _ _ ⟨rfl, rfl⟩
  simp only [setAt, Nat.add_zero, setB_splice]
  refine at_nil ?_
  refine at_normal ?_
  refine hK2 _ _ _ ?_
  refine at_cond_true rfl ?_
  refine at_seq_k (fun K3 hK3 => ?_)
  refine at_cond_true rfl ?_
  refine at_seq_k (fun K4 hK4 => ?_)
  refine at_region ?_
  refine at_t (ot_extern (e := fun _ => do Go.mark .enable; pure Extern.Race.none_) rfl rfl rfl (run_callFunc_extern Tryz.func127 (by decide) rfl rfl rfl) (x_mark0 .enable)) rfl rfl rfl ?_
  rintro _ _ ⟨rfl, rfl⟩
  refine at_nil ?_
  refine at_normal ?_
  refine hK4 _ _ _ ?_
  refine at_region ?_
  refine at_v (ov_move rfl rfl) rfl rfl rfl ?_
  refine at_v (ov_unsafe (k := 0) rfl Tryz.underlying153 Tryz.underlying101 rfl rfl rfl (by exact hv2)) rfl rfl rfl ?_
  
  refine at_t (ot_extern (e := Extern.Race.marked .acquire) rfl rfl rfl (run_callFunc_extern Tryz.func128 (by decide) rfl rfl rfl) (x_marked .acquire _)) rfl rfl rfl ?_
  rintro _ _ ⟨rfl, rfl⟩
  refine at_nil ?_
  refine at_normal ?_
  refine hK3 _ _ _ ?_
  refine at_ret ?_
  refine at_then_ret ?_
  refine at_end ?_
  refine at_fin (rs0 rfl) ?_
  refine ⟨_, ⟨rfl, rfl⟩, ?_⟩
  exact fun _ s => s.finEq (ks := [0]) (js := []) rfl rfl rfl
theorem T119 (w0 : World) {b off : Nat} {cs : Array Value} {t : TypeId} (hv : nth off cs.toList = some (.int .i32 1)) : Tri Tryz.prog w0 119 [.pointer (some ⟨b, off, none⟩)] [pt b (.cells cs t (0, 0))] fun v m => v = .tuple #[] ∧ m = [pt b (.cells (splice cs off [.int .i32 0]) t (0, 0))] := by
  refine tri_of Tryz.func119 rfl rfl fun F => ?_
  simp only [Tryz.ntmps119, argEnv, List.cons_append, List.nil_append]
  refine at_seq_k (fun K0 hK0 => ?_)
  refine at_cond_true rfl ?_
  refine at_seq_k (fun K1 hK1 => ?_)
  refine at_region ?_
  refine at_v (ov_move rfl rfl) rfl rfl rfl ?_
  refine at_v (ov_nilCheck rfl rfl) rfl rfl rfl ?_
  refine at_v (ov_fieldAddr (k := 0) rfl rfl rfl rfl) rfl rfl rfl ?_
  refine at_v (ov_load rfl rfl rfl (fun _ s => s.ld (k := 0) rfl (by assumption))) rfl rfl rfl ?_
  refine at_nil ?_
  refine at_normal ?_
  refine hK1 _ _ _ ?_
  refine at_seq_k (fun K2 hK2 => ?_)
  refine at_region ?_
  refine at_v (ov_move rfl rfl) rfl rfl rfl ?_
  refine at_v (ov_unsafe (k := 0) rfl Tryz.underlying153 Tryz.underlying101 rfl rfl rfl (by exact hv)) rfl rfl rfl ?_
  
  refine at_t (ot_extern (e := Extern.Race.marked .releaseMerge) rfl rfl rfl (run_callFunc_extern Tryz.func130 (by decide) rfl rfl rfl) (x_marked .releaseMerge _)) rfl rfl rfl ?_
  rintro _ _ ⟨rfl, rfl⟩
  refine at_nil ?_
  refine at_normal ?_
  refine hK2 _ _ _ ?_
  refine at_region ?_
  refine at_t (ot_extern (e := fun _ => do Go.mark .disable; pure Extern.Race.none_) rfl rfl rfl (run_callFunc_extern Tryz.func125 (by decide) rfl rfl rfl) (x_mark0 .disable)) rfl rfl rfl ?_
  rintro _ _ ⟨rfl, rfl⟩
  refine at_nil ?_
  refine at_normal ?_
  refine hK0 _ _ _ ?_
  refine at_seq_k (fun K3 hK3 => ?_)
  refine at_region ?_
  refine at_v (ov_move rfl rfl) rfl rfl rfl ?_
  refine at_v (ov_nilCheck rfl rfl) rfl rfl rfl ?_
  refine at_v (ov_fieldAddr (k := 0) rfl rfl rfl rfl) rfl rfl rfl ?_
  refine at_t (ot_extern (e := Extern.Atomic.update (Op.intArith .add) .i32 true) rfl rfl rfl (run_callFunc_extern Tryz.func131 (by decide) rfl rfl rfl) (x_add (k := 0) rfl (by exact hv))) rfl rfl rfl ?_
  rintro _ _ ⟨rfl, rfl⟩
  simp only [setAt, Nat.add_zero, setB_splice]
  rw [show IntKind.i32.wrap (1 + -1) = 0 from rfl]
  refine at_v (ov_assign rfl rfl) rfl rfl rfl ?_
  refine at_nil ?_
  refine at_normal ?_
  refine hK3 _ _ _ ?_
  refine at_seq_k (fun K4 hK4 => ?_)
  refine at_seq_k (fun K5 hK5 => ?_)
  refine at_region ?_
  refine at_v (ov_move rfl rfl) rfl rfl rfl ?_
  refine at_v (ov_int rfl rfl rfl rfl) rfl rfl rfl ?_
  refine at_nil ?_
  refine at_normal ?_
  refine hK5 _ _ _ ?_
  refine at_cond_false rfl ?_
  refine at_skip ?_
  refine at_normal ?_
  refine hK4 _ _ _ ?_
  refine at_region ?_
  refine at_t (ot_extern (e := fun _ => do Go.mark .enable; pure Extern.Race.none_) rfl rfl rfl (run_callFunc_extern Tryz.func127 (by decide) rfl rfl rfl) (x_mark0 .enable)) rfl rfl rfl ?_
  rintro _ _ ⟨rfl, rfl⟩
  refine at_nil ?_
  refine at_end ?_
  refine at_fin (rs0 rfl) ?_
  refine ⟨_, ⟨rfl, rfl⟩, ?_⟩
  exact fun _ s => s.finEq (ks := [0]) (js := []) rfl rfl rfl
theorem T105 (w0 : World) {b off : Nat} {cs : Array Value} {t : TypeId} (hv : nth off cs.toList = some (.int .i32 0)) : Tri Tryz.prog w0 105 [.pointer (some ⟨b, off, none⟩)] [pt b (.cells cs t (0, 0))] fun v m => v = .tuple #[] ∧ m = [pt b (.cells (splice cs off [.int .i32 1]) t (0, 0))] := by
  refine tri_of Tryz.func105 rfl rfl fun F => ?_
  simp only [Tryz.ntmps105, argEnv, List.cons_append, List.nil_append]
  have hv0 : nth (off + 0) cs.toList = some (.int .i32 0) := hv
  refine at_region ?_
  refine at_v (ov_move rfl rfl) rfl rfl rfl ?_
  refine at_v (ov_nilCheck rfl rfl) rfl rfl rfl ?_
  refine at_v (ov_fieldAddr (k := 0) rfl rfl rfl rfl) rfl rfl rfl ?_
  refine at_t (ot_call (ks := [0]) rfl rfl rfl Tryz.call118 rfl (T118 _ (by first | assumption | rfl | omega | decide | (simp; done) | (simp at *; omega))) rfl) rfl rfl rfl ?_
  rintro v0 _ ⟨m0, hp0, rfl⟩
  obtain ⟨rfl, rfl⟩ := hp0
  simp only [List.cons_append, List.nil_append, splice, spliceL]
  refine at_nil ?_
  refine at_end ?_
  simp only [Nat.add_zero]
  refine at_fin (rs0 rfl) ?_
  refine ⟨_, ⟨rfl, rfl⟩, ?_⟩
  exact fun _ s => s.finEq (ks := [0]) (js := []) rfl rfl rfl
theorem D106 (w0 : World) {b off : Nat} {cs : Array Value} {t : TypeId} (hv : nth off cs.toList = some (.int .i32 1)) : TriD Tryz.prog w0 106 [.pointer (some ⟨b, off, none⟩)] [pt b (.cells cs t (0, 0))] fun v m => v = .tuple #[] ∧ m = [pt b (.cells (splice cs off [.int .i32 0]) t (0, 0))] := by
  refine triD_of Tryz.func106 rfl rfl fun F => ?_
  simp only [Tryz.ntmps106, argEnv, List.cons_append, List.nil_append]
  have hv0 : nth (off + 0) cs.toList = some (.int .i32 1) := hv
  refine at_region ?_
  refine at_v (ov_move rfl rfl) rfl rfl rfl ?_
  refine at_v (ov_nilCheck rfl rfl) rfl rfl rfl ?_
  refine at_v (ov_fieldAddr (k := 0) rfl rfl rfl rfl) rfl rfl rfl ?_
  refine at_t (ot_call (ks := [0]) rfl rfl rfl Tryz.call119 rfl (T119 _ (by first | assumption | rfl | omega | decide | (simp; done) | (simp at *; omega))) rfl) rfl rfl rfl ?_
  rintro v0 _ ⟨m0, hp0, rfl⟩
  obtain ⟨rfl, rfl⟩ := hp0
  simp only [List.cons_append, List.nil_append, splice, spliceL]
  refine at_nil ?_
  refine at_endD ?_
  simp only [Nat.add_zero]
  refine at_finD (rs0 rfl) ?_
  refine ⟨_, ⟨rfl, rfl⟩, ?_⟩
  exact fun _ s => s.finEq (ks := [0]) (js := []) rfl rfl rfl
