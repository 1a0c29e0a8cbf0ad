/- sync.Once, sync.Mutex, atomics: of one goroutine; walked. -/
import Derived.Test.YtighdkdomfpadaaGreatDoorProg
import Derived.Test.YtighdkdomfpadaaGreatDoorSLB
import Derived.KernelRfl
set_option linter.unusedSimpArgs false
set_option linter.unusedVariables false
set_option maxRecDepth 100000
set_option maxHeartbeats 2000000
namespace Go.Proofs.YtighdkdomfpadaaGreatDoor
open Go Go.Proofs.YtighdkdomfpadaaGreatDoor.SL Go.RowKit
theorem T137 (w0 : World) {b off : Nat} {cs : Array Value} {t : TypeId} {n : Int} (hv : nth off cs.toList = some (.int .u32 n)) : Tri Tryz.prog w0 137 [.pointer (some ⟨b, off, none⟩)] [pt b (.cells cs t (0, 0))] fun v m => v = .bool (!decide (n = 0)) ∧ m = [pt b (.cells cs t (0, 0))] := by
 refine tri_k Tryz.func137 rfl rfl fun F => ?_
 simp only [Tryz.ntmps137, argEnv, List.cons_append, List.nil_append]
 refine zH fun zq zQ => ?_
 refine zC 9 rfl ?_
 refine zV (ov_fieldAddr (k := 0) rfl rfl rfl rfl) ?_
 refine zT (ot_extern (e := Extern.Atomic.loadT (.int .u32)) rfl rfl rfl (run_callFunc_extern Tryz.func168 (by decide) rfl rfl rfl) (x_load (k := 0) rfl hv)) ?_
 rintro _ _ ⟨rfl, rfl⟩
 refine zO 5 rfl ?_
 refine zQ ?_
 refine at_end ?_
 refine at_fin (rsV rfl (res_tmp rfl)) ?_
 refine ⟨_, ⟨rfl, rfl⟩, ?_⟩
 exact zE [0] []
theorem T181 (w0 : World) (b : Bool) : Tri Tryz.prog w0 181 [.bool b] [] fun v m => v = .int .u32 (match b with | true => 1 | false => 0) ∧ m = [] := by
 refine tri_k Tryz.func181 rfl rfl fun F => ?_
 simp only [Tryz.ntmps181, argEnv, List.cons_append, List.nil_append]
 cases b with
 | true =>
  refine zH fun zq zQ => ?_
  refine zC 19 rfl ?_
  refine zQ ?_
  refine at_end ?_
  refine at_fin (rsV rfl (res_tmp rfl)) ?_
  refine ⟨_, ⟨rfl, rfl⟩, ?_⟩
  exact zE [] []
 | false =>
  refine zH fun zq zQ => ?_
  refine zC 20 rfl ?_
  refine zQ ?_
  refine at_end ?_
  refine at_fin (rsV rfl (res_tmp rfl)) ?_
  refine ⟨_, ⟨rfl, rfl⟩, ?_⟩
  exact zE [] []
theorem D171 (w0 : World) {b off : Nat} {cs : Array Value} {t : TypeId} {u : Value} (hv : nth off cs.toList = some u) : TriD Tryz.prog w0 171 [.pointer (some ⟨b, off, none⟩), .bool true] [pt b (.cells cs t (0, 0))] fun v m => v = .tuple #[] ∧ m = [pt b (.cells (splice cs off [.int .u32 1]) t (0, 0))] := by
  refine triD_of Tryz.func171 rfl rfl fun F => ?_
  simp only [Tryz.ntmps171, argEnv, List.cons_append, List.nil_append]
  
  refine at_draw _ [] 1000 [(2, 0), (2, 1), (2, 2), (2, 3), (0, 4), (0, 5)] (by kernel_rfl) (by kernel_rfl) (fun _ s => (s.pulls (ks := []) rfl).left) ?_
  refine aq_p (ov_move rfl rfl) rfl rfl rfl ?_
  refine aq_p (ov_nilCheck rfl rfl) rfl rfl rfl ?_
  refine aq_p (ov_fieldAddr (k := 0) rfl rfl rfl rfl) rfl rfl rfl ?_
  refine aq_p (ov_move rfl rfl) rfl rfl rfl ?_
  refine aq_t (ot_call (ks := []) rfl rfl rfl Tryz.call181 rfl (T181 _ _) rfl) rfl rfl rfl ?_
  rintro v0 _ ⟨m0, hp0, rfl⟩
  obtain ⟨rfl, rfl⟩ := hp0
  simp only [List.cons_append, List.nil_append, splice, spliceL]
  refine ⟨fun _ s => (s.pulls (ks := []) rfl).left, ?_⟩
  refine aq_t (ot_extern (e := Extern.Atomic.storeT) rfl rfl rfl (run_callFunc_extern Tryz.func180 (by decide) rfl rfl rfl) (x_store (k := 0) rfl (by exact hv))) rfl rfl rfl ?_
  rintro _ _ ⟨rfl, rfl⟩
  refine ⟨fun _ s => s.bare, ?_⟩
  simp only [setAt, Nat.add_zero, setB_splice]
  refine aq_nil ?_
  refine at_endD ?_
  refine at_finD (rs0 rfl) ?_
  refine ⟨_, ⟨rfl, rfl⟩, ?_⟩
  simp only [splice]
  exact fun _ s => s.finEq (ks := [0]) (js := []) rfl rfl rfl
theorem nth_splice_same {cs : Array Value} {off : Nat} {u v : Value} (h : nth off cs.toList = some u) : nth off (splice cs off [v]).toList = some v := by
  rw [nth_list] at h
  have := (List.getElem?_eq_some_iff.1 h).1
  rw [nth_splice1, if_pos ⟨rfl, by simpa using this⟩]
theorem T178 (w0 : World) {b off : Nat} {cs : Array Value} {t : TypeId} (hv : nth off cs.toList = some (.int .i32 0)) : Tri Tryz.prog w0 178 [.pointer (some ⟨b, off, none⟩)] [pt b (.cells cs t (0, 0))] fun v m => v = .tuple #[] ∧ m = [pt b (.cells (splice cs off [.int .i32 1]) t (0, 0))] := by
 refine tri_k Tryz.func178 rfl rfl fun F => ?_
 simp only [Tryz.ntmps178, argEnv, List.cons_append, List.nil_append]
 have hv2 := nth_splice_same (v := .int .i32 1) hv
 refine zH fun zq zQ => ?_
 refine zC 2 rfl ?_
 refine zT (ot_extern (e := fun _ => do Go.mark .disable; pure Extern.Race.none_) rfl rfl rfl (run_callFunc_extern Tryz.func184 (by decide) rfl rfl rfl) (x_mark0 .disable)) ?_
 rintro _ _ ⟨rfl, rfl⟩
 refine zO 7 rfl ?_
 refine zV (ov_fieldAddr (k := 0) rfl rfl rfl rfl) ?_
 refine zT (ot_extern (e := Extern.Atomic.casT (.int .i32)) rfl rfl rfl (run_callFunc_extern Tryz.func185 (by decide) rfl rfl rfl) (x_casHit (k := 0) rfl (by exact hv) rfl)) ?_
 rintro _ _ ⟨rfl, rfl⟩
 simp only [setAt, Nat.add_zero, setB_splice]
 refine zO 7 rfl ?_
 refine zT (ot_extern (e := fun _ => do Go.mark .enable; pure Extern.Race.none_) rfl rfl rfl (run_callFunc_extern Tryz.func186 (by decide) rfl rfl rfl) (x_mark0 .enable)) ?_
 rintro _ _ ⟨rfl, rfl⟩
 refine zO 4 rfl ?_
 refine zV (ov_unsafe (k := 0) rfl Tryz.underlying240 Tryz.underlying217 rfl rfl rfl (by exact hv2)) ?_
  
 refine zT (ot_extern (e := Extern.Race.marked .acquire) rfl rfl rfl (run_callFunc_extern Tryz.func187 (by decide) rfl rfl rfl) (x_marked .acquire _)) ?_
 rintro _ _ ⟨rfl, rfl⟩
 refine zO 4 rfl ?_
 refine zQ ?_
 refine at_end ?_
 refine at_fin (rs0 rfl) ?_
 refine ⟨_, ⟨rfl, rfl⟩, ?_⟩
 exact zE [0] []
theorem T179 (w0 : World) {b off : Nat} {cs : Array Value} {t : TypeId} (hv : nth off cs.toList = some (.int .i32 1)) : Tri Tryz.prog w0 179 [.pointer (some ⟨b, off, none⟩)] [pt b (.cells cs t (0, 0))] fun v m => v = .tuple #[] ∧ m = [pt b (.cells (splice cs off [.int .i32 0]) t (0, 0))] := by
 refine tri_k Tryz.func179 rfl rfl fun F => ?_
 simp only [Tryz.ntmps179, argEnv, List.cons_append, List.nil_append]
 refine zH fun zq zQ => ?_
 refine zC 6 rfl ?_
 refine zV (ov_fieldAddr (k := 0) rfl rfl rfl rfl) ?_
 refine zV (ov_load rfl rfl rfl (fun _ s => s.ld (k := 0) rfl (by assumption))) ?_
 refine zO 5 rfl ?_
 refine zV (ov_unsafe (k := 0) rfl Tryz.underlying240 Tryz.underlying217 rfl rfl rfl (by exact hv)) ?_
  
 refine zT (ot_extern (e := Extern.Race.marked .releaseMerge) rfl rfl rfl (run_callFunc_extern Tryz.func189 (by decide) rfl rfl rfl) (x_marked .releaseMerge _)) ?_
 rintro _ _ ⟨rfl, rfl⟩
 refine zO 3 rfl ?_
 refine zT (ot_extern (e := fun _ => do Go.mark .disable; pure Extern.Race.none_) rfl rfl rfl (run_callFunc_extern Tryz.func184 (by decide) rfl rfl rfl) (x_mark0 .disable)) ?_
 rintro _ _ ⟨rfl, rfl⟩
 refine zO 6 rfl ?_
 refine zV (ov_fieldAddr (k := 0) rfl rfl rfl rfl) ?_
 refine zT (ot_extern (e := Extern.Atomic.update (Op.intArith .add) .i32 true) rfl rfl rfl (run_callFunc_extern Tryz.func190 (by decide) rfl rfl rfl) (x_add (k := 0) rfl (by exact hv))) ?_
 rintro _ _ ⟨rfl, rfl⟩
 simp only [setAt, Nat.add_zero, setB_splice]
 try rw [show IntKind.i32.wrap (1 + -1) = 0 from rfl]
 refine zO 14 rfl ?_
 refine zT (ot_extern (e := fun _ => do Go.mark .enable; pure Extern.Race.none_) rfl rfl rfl (run_callFunc_extern Tryz.func186 (by decide) rfl rfl rfl) (x_mark0 .enable)) ?_
 rintro _ _ ⟨rfl, rfl⟩
 refine zO 1 rfl ?_
 refine zQ ?_
 refine at_end ?_
 refine at_fin (rs0 rfl) ?_
 refine ⟨_, ⟨rfl, rfl⟩, ?_⟩
 exact zE [0] []
theorem T169 (w0 : World) {b off : Nat} {cs : Array Value} {t : TypeId} (hv : nth off cs.toList = some (.int .i32 0)) : Tri Tryz.prog w0 169 [.pointer (some ⟨b, off, none⟩)] [pt b (.cells cs t (0, 0))] fun v m => v = .tuple #[] ∧ m = [pt b (.cells (splice cs off [.int .i32 1]) t (0, 0))] := by
 refine tri_k Tryz.func169 rfl rfl fun F => ?_
 simp only [Tryz.ntmps169, argEnv, List.cons_append, List.nil_append]
 have hv0 : nth (off + 0) cs.toList = some (.int .i32 0) := hv
 refine zC 3 rfl ?_
 refine zV (ov_fieldAddr (k := 0) rfl rfl rfl rfl) ?_
 refine zcall [0] rfl rfl rfl Tryz.call178 rfl (T178 _ (by first | assumption | rfl | omega | decide | (simp; done) | (simp at *; omega))) rfl ?_
 simp only [zca, zna, splice, spliceL]
 refine zO 1 rfl ?_
 refine at_end ?_
 simp only [Nat.add_zero]
 refine at_fin (rs0 rfl) ?_
 refine ⟨_, ⟨rfl, rfl⟩, ?_⟩
 exact zE [0] []
theorem D170 (w0 : World) {b off : Nat} {cs : Array Value} {t : TypeId} (hv : nth off cs.toList = some (.int .i32 1)) : TriD Tryz.prog w0 170 [.pointer (some ⟨b, off, none⟩)] [pt b (.cells cs t (0, 0))] fun v m => v = .tuple #[] ∧ m = [pt b (.cells (splice cs off [.int .i32 0]) t (0, 0))] := by
  refine triD_of Tryz.func170 rfl rfl fun F => ?_
  simp only [Tryz.ntmps170, argEnv, List.cons_append, List.nil_append]
  have hv0 : nth (off + 0) cs.toList = some (.int .i32 1) := hv
  refine at_region ?_
  refine at_v (ov_move rfl rfl) rfl rfl rfl ?_
  refine at_v (ov_nilCheck rfl rfl) rfl rfl rfl ?_
  refine at_v (ov_fieldAddr (k := 0) rfl rfl rfl rfl) rfl rfl rfl ?_
  refine at_t (ot_call (ks := [0]) rfl rfl rfl Tryz.call179 rfl (T179 _ (by first | assumption | rfl | omega | decide | (simp; done) | (simp at *; omega))) rfl) rfl rfl rfl ?_
  rintro v0 _ ⟨m0, hp0, rfl⟩
  obtain ⟨rfl, rfl⟩ := hp0
  simp only [List.cons_append, List.nil_append, splice, spliceL]
  refine at_nil ?_
  refine at_endD ?_
  simp only [Nat.add_zero]
  refine at_finD (rs0 rfl) ?_
  refine ⟨_, ⟨rfl, rfl⟩, ?_⟩
  exact fun _ s => s.finEq (ks := [0]) (js := []) rfl rfl rfl
