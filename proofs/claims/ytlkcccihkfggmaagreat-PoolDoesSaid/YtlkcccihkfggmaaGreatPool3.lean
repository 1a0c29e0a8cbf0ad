/- The functions of package pool, walked, to the end. -/
import Derived.Test.YtlkcccihkfggmaaGreatProg
import Derived.Test.YtlkcccihkfggmaaGreatPool2
import Derived.Test.YtlkcccihkfggmaaGreatSLBr
import Derived.KernelRfl
set_option linter.unusedSimpArgs false
set_option linter.unusedVariables false
set_option maxRecDepth 100000
namespace Go.Proofs.YtlkcccihkfggmaaGreat
open Go Go.Proofs.YtlkcccihkfggmaaGreat.SL Go.RowKit
def setL (cs : List XM) (id : Int) (u : CM → CM) : List XM := match posOf cs id with | some k => (match cs[k]? with | some x => cs.set k (id, u x.2.1, x.2.2) | none => cs) | none => cs
def withL (cs : List XM) (id : Int) (u : CM → CM) : List XM := sweepL (setL cs id u) id
def withB (cs : List XM) (id : Int) (d : CM → Bool) : Bool := match posOf cs id with | some k => (match cs[k]? with | some x => d x.2.1 | none => false) | none => false
theorem withL_none {cs : List XM} {id : Int} {u : CM → CM} (h : posOf cs id = none) : withL cs id u = cs := by
  unfold withL setL sweepL; simp only [h]
theorem withB_none {cs : List XM} {id : Int} {u : CM → Bool} (h : posOf cs id = none) : withB cs id u = false := by
  unfold withB; simp only [h]
theorem withL_some {cs : List XM} {id : Int} {u : CM → CM} {k : Nat} {c : CM} {s : Int} (h : posOf cs id = some k) (hx : cs[k]? = some (id, c, s)) : withL cs id u = sweepL (cs.set k (id, u c, s)) id := by
  unfold withL setL; simp only [h, hx]
theorem withB_some {cs : List XM} {id : Int} {u : CM → Bool} {k : Nat} {c : CM} {s : Int} (h : posOf cs id = some k) (hx : cs[k]? = some (id, c, s)) : withB cs id u = u c := by
  unfold withB; simp only [h, hx]
theorem T48 (w0 : World) {g b : Nat} {c : CM} (n : Int) : Tri Tryz.prog w0 48 [ptrTo g, ptrTo b] [cl b #[.int .u64 n] 22, ConnC g c] fun v m => v = .bool (c.replies n) ∧ m = [cl b #[.int .u64 n] 22, ConnC g (c.reply n)] := by
  refine tri_of Tryz.func48 rfl rfl fun F => ?_
  simp only [Tryz.ntmps48, argEnv, List.cons_append, List.nil_append]
  refine at_seq_k (fun K0 hK0 => ?_)
  refine at_region ?_
  refine at_v (ov_assign rfl rfl) rfl rfl rfl ?_
  refine at_nil ?_
  refine at_normal ?_
  refine hK0 _ _ _ ?_
  refine at_seq_k (fun K1 hK1 => ?_)
  refine at_region ?_
  refine at_v (ov_move rfl rfl) rfl rfl rfl ?_
  refine at_v (ov_load rfl rfl rfl (fun _ s => s.ld (k := 0) rfl rfl)) rfl rfl rfl ?_
  refine at_t (ot_call (ks := [1]) rfl rfl rfl Tryz.call49 rfl (T49 _ _ _ _) rfl) rfl rfl rfl ?_
  rintro v0 _ ⟨m0, hp0, rfl⟩
  obtain ⟨rfl, rfl⟩ := hp0
  simp only [List.cons_append, List.nil_append, splice, spliceL]
  refine at_v (ov_assign rfl rfl) rfl rfl rfl ?_
  refine at_nil ?_
  refine at_normal ?_
  refine hK1 _ _ _ ?_
  refine at_ret ?_
  refine at_end ?_
  refine at_fin (rsV rfl (res_tmp rfl)) ?_
  refine ⟨_, ⟨rfl, rfl⟩, ?_⟩
  exact fun _ s => s.finEq (ks := [1, 0]) (js := []) rfl rfl rfl
theorem T47 (w0 : World) {g b : Nat} {most idle wm last : Int} {L : List Int} {cs : List XM} (id n : Int) :
    Tri Tryz.prog w0 47 [ptrTo g, .int .i64 id, .func (.func 48) #[] #[ptrTo b]] [cl b #[.int .u64 n] 22, PoolA g most idle wm last L cs] fun v m => v = .bool (withB cs id (fun c => c.replies n)) ∧ m = [cl b #[.int .u64 n] 22, PoolA g most idle wm last L (withL cs id (fun c => c.reply n))] := by
  refine tri_of Tryz.func47 rfl rfl fun F => ?_
  simp only [Tryz.ntmps47, argEnv, List.cons_append, List.nil_append]
  refine at_pulls [1] rfl ?_
  refine at_pool fun wb mb gs hl => ?_
  cases hp : posOf cs id with
  | none =>
    have hno := kvs_no (gs := gs) (posOf_none hp)
    rw [withB_none hp, withL_none hp]
    refine at_seq_k (fun K0 hK0 => ?_)
    refine at_region ?_
    refine at_v (ov_assign rfl rfl) rfl rfl rfl ?_
    refine at_nil ?_
    refine at_normal ?_
    refine hK0 _ _ _ ?_
    refine at_seq_k (fun K1 hK1 => ?_)
    refine at_region ?_
    refine at_v (ov_move rfl rfl) rfl rfl rfl ?_
    refine at_v (ov_nilCheck rfl rfl) rfl rfl rfl ?_
    refine at_v (ov_fieldAddr (k := 3) (r := 3) rfl rfl rfl rfl) rfl rfl rfl ?_
    refine at_v (ov_load rfl rfl rfl (fun _ s => s.ld (k := 0) rfl rfl)) rfl rfl rfl ?_
    refine at_v (ov_move rfl rfl) rfl rfl rfl ?_
    refine at_v (ov_lookupNo (k := 2) rfl Tryz.underlying65 Tryz.underlying3 Tryz.zeroValue79 rfl rfl rfl (by first | rfl | trivial) (by assumption)) rfl rfl rfl ?_
    refine at_v (ov_move rfl rfl) rfl rfl rfl ?_
    refine at_v (ov_extract rfl rfl rfl) rfl rfl rfl ?_
    refine at_v (ov_extract rfl rfl rfl) rfl rfl rfl ?_
    refine at_v (ov_assign rfl rfl) rfl rfl rfl ?_
    refine at_v (ov_assign rfl rfl) rfl rfl rfl ?_
    refine at_nil ?_
    refine at_normal ?_
    refine hK1 _ _ _ ?_
    refine at_seq_k (fun K2 hK2 => ?_)
    refine at_seq_k (fun K3 hK3 => ?_)
    refine at_region ?_
    refine at_v (ov_move rfl rfl) rfl rfl rfl ?_
    refine at_v (ov_not rfl rfl) rfl rfl rfl ?_
    refine at_nil ?_
    refine at_normal ?_
    refine hK3 _ _ _ ?_
    refine at_cond_true rfl ?_
    refine at_seq_k (fun K4 hK4 => ?_)
    refine at_region ?_
    refine at_v (ov_assign rfl rfl) rfl rfl rfl ?_
    refine at_nil ?_
    refine at_normal ?_
    refine hK4 _ _ _ ?_
    refine at_ret ?_
    refine at_then_ret ?_
    refine at_end ?_
    refine at_fold (A := PoolA g most idle wm last L cs) [0, 0, 0, 0] rfl (fun h s => ⟨wb, mb, gs, hl, s⟩) ?_
    refine at_fin (rsV rfl (res_tmp rfl)) ?_
    refine ⟨_, ⟨rfl, rfl⟩, ?_⟩
    exact fun _ s => s.finEq (ks := [1, 0]) (js := []) rfl rfl rfl
  | some k =>
    obtain ⟨c, si, hx⟩ := posOf_some hp
    rw [withB_some hp hx, withL_some hp hx]
    refine at_pulls [3] rfl ?_
    refine at_take hx fun gk hg _ => ?_
    simp only [List.cons_append, List.nil_append]
    refine at_ex fun cb => at_open ?_
    simp only [List.cons_append, List.nil_append]
    have hkv := kvs_get hg hx
    simp only at hkv
    refine at_seq_k (fun K0 hK0 => ?_)
    refine at_region ?_
    refine at_v (ov_assign rfl rfl) rfl rfl rfl ?_
    refine at_nil ?_
    refine at_normal ?_
    refine hK0 _ _ _ ?_
    refine at_seq_k (fun K1 hK1 => ?_)
    refine at_region ?_
    refine at_v (ov_move rfl rfl) rfl rfl rfl ?_
    refine at_v (ov_nilCheck rfl rfl) rfl rfl rfl ?_
    refine at_v (ov_fieldAddr (k := 3) (r := 3) rfl rfl rfl rfl) rfl rfl rfl ?_
    refine at_v (ov_load rfl rfl rfl (fun _ s => s.ld (k := 3) rfl rfl)) rfl rfl rfl ?_
    refine at_v (ov_move rfl rfl) rfl rfl rfl ?_
    refine at_v (ov_lookupOk (k := 5) rfl Tryz.underlying65 Tryz.underlying3 rfl rfl rfl (by first | rfl | trivial) hkv) rfl rfl rfl ?_
    refine at_v (ov_move rfl rfl) rfl rfl rfl ?_
    refine at_v (ov_extract rfl rfl rfl) rfl rfl rfl ?_
    refine at_v (ov_extract rfl rfl rfl) rfl rfl rfl ?_
    refine at_v (ov_assign rfl rfl) rfl rfl rfl ?_
    refine at_v (ov_assign rfl rfl) rfl rfl rfl ?_
    refine at_nil ?_
    refine at_normal ?_
    refine hK1 _ _ _ ?_
    refine at_seq_k (fun K2 hK2 => ?_)
    refine at_seq_k (fun K3 hK3 => ?_)
    refine at_region ?_
    refine at_v (ov_move rfl rfl) rfl rfl rfl ?_
    refine at_v (ov_not rfl rfl) rfl rfl rfl ?_
    refine at_nil ?_
    refine at_normal ?_
    refine hK3 _ _ _ ?_
    refine at_cond_false rfl ?_
    refine at_skip ?_
    refine at_normal ?_
    refine hK2 _ _ _ ?_
    refine at_seq_k (fun K4 hK4 => ?_)
    refine at_region ?_
    refine at_v (ov_move rfl rfl) rfl rfl rfl ?_
    refine at_v (ov_move rfl rfl) rfl rfl rfl ?_
    refine at_v (ov_nilCheck rfl rfl) rfl rfl rfl ?_
    refine at_v (ov_fieldAddr (k := 0) (r := 0) rfl rfl rfl rfl) rfl rfl rfl ?_
    refine at_v (ov_load rfl rfl rfl (fun _ s => s.ld (k := 0) rfl rfl)) rfl rfl rfl ?_
    refine at_t (ot_call (ks := [6, 1]) rfl rfl rfl Tryz.call48 rfl (T48 _ _) rfl) rfl rfl rfl ?_
    rintro v0 _ ⟨m0, hp0, rfl⟩
    obtain ⟨rfl, rfl⟩ := hp0
    simp only [List.cons_append, List.nil_append, splice, spliceL]
    refine at_v (ov_assign rfl rfl) rfl rfl rfl ?_
    refine at_nil ?_
    refine at_normal ?_
    refine hK4 _ _ _ ?_
    refine at_seq_k (fun K5 hK5 => ?_)
    refine at_region ?_
    refine at_v (ov_move rfl rfl) rfl rfl rfl ?_
    refine at_v (ov_move rfl rfl) rfl rfl rfl ?_
    refine at_fold (A := HeldA gk ((fun c => c.reply n) c) si) [2, 1] rfl (fun h s => ⟨cb, s⟩) ?_
    refine at_fold (A := PoolA g most idle wm last L (cs.set k (id, (fun c => c.reply n) c, si))) [3, 3, 3, 0, 1] rfl (fun h s => pool_shut (wb := wb) (mb := mb) (id, (fun c => c.reply n) c, si) hl hg hx rfl s) ?_
    refine at_t (ot_call (ks := [0]) rfl rfl rfl Tryz.call55 rfl (T55 _ _) rfl) rfl rfl rfl ?_
    rintro v0 _ ⟨m0, hp0, rfl⟩
    obtain ⟨rfl, rfl⟩ := hp0
    simp only [List.cons_append, List.nil_append, splice, spliceL]
    refine at_nil ?_
    refine at_normal ?_
    refine hK5 _ _ _ ?_
    refine at_seq_k (fun K6 hK6 => ?_)
    refine at_region ?_
    refine at_v (ov_move rfl rfl) rfl rfl rfl ?_
    refine at_v (ov_assign rfl rfl) rfl rfl rfl ?_
    refine at_nil ?_
    refine at_normal ?_
    refine hK6 _ _ _ ?_
    refine at_ret ?_
    refine at_end ?_
    refine at_fin (rsV rfl (res_tmp rfl)) ?_
    refine ⟨_, ⟨rfl, rfl⟩, ?_⟩
    exact fun _ s => s.finEq (ks := [1, 0]) (js := []) rfl rfl rfl
theorem T47a (w0 : World) {g : Nat} {most idle wm last : Int} {L : List Int} {cs : List XM} (id : Int) :
    Tri Tryz.prog w0 47 [ptrTo g, .int .i64 id, .func (.func 53) #[] #[]] [PoolA g most idle wm last L cs] fun v m => v = .bool (withB cs id CM.soils) ∧ m = [PoolA g most idle wm last L (withL cs id CM.soil)] := by
  refine tri_of Tryz.func47 rfl rfl fun F => ?_
  simp only [Tryz.ntmps47, argEnv, List.cons_append, List.nil_append]
  
  refine at_pool fun wb mb gs hl => ?_
  cases hp : posOf cs id with
  | none =>
    have hno := kvs_no (gs := gs) (posOf_none hp)
    rw [withB_none hp, withL_none hp]
    refine at_seq_k (fun K0 hK0 => ?_)
    refine at_region ?_
    refine at_v (ov_assign rfl rfl) rfl rfl rfl ?_
    refine at_nil ?_
    refine at_normal ?_
    refine hK0 _ _ _ ?_
    refine at_seq_k (fun K1 hK1 => ?_)
    refine at_region ?_
    refine at_v (ov_move rfl rfl) rfl rfl rfl ?_
    refine at_v (ov_nilCheck rfl rfl) rfl rfl rfl ?_
    refine at_v (ov_fieldAddr (k := 3) (r := 3) rfl rfl rfl rfl) rfl rfl rfl ?_
    refine at_v (ov_load rfl rfl rfl (fun _ s => s.ld (k := 0) rfl rfl)) rfl rfl rfl ?_
    refine at_v (ov_move rfl rfl) rfl rfl rfl ?_
    refine at_v (ov_lookupNo (k := 2) rfl Tryz.underlying65 Tryz.underlying3 Tryz.zeroValue79 rfl rfl rfl (by first | rfl | trivial) (by assumption)) rfl rfl rfl ?_
    refine at_v (ov_move rfl rfl) rfl rfl rfl ?_
    refine at_v (ov_extract rfl rfl rfl) rfl rfl rfl ?_
    refine at_v (ov_extract rfl rfl rfl) rfl rfl rfl ?_
    refine at_v (ov_assign rfl rfl) rfl rfl rfl ?_
    refine at_v (ov_assign rfl rfl) rfl rfl rfl ?_
    refine at_nil ?_
    refine at_normal ?_
    refine hK1 _ _ _ ?_
    refine at_seq_k (fun K2 hK2 => ?_)
    refine at_seq_k (fun K3 hK3 => ?_)
    refine at_region ?_
    refine at_v (ov_move rfl rfl) rfl rfl rfl ?_
    refine at_v (ov_not rfl rfl) rfl rfl rfl ?_
    refine at_nil ?_
    refine at_normal ?_
    refine hK3 _ _ _ ?_
    refine at_cond_true rfl ?_
    refine at_seq_k (fun K4 hK4 => ?_)
    refine at_region ?_
    refine at_v (ov_assign rfl rfl) rfl rfl rfl ?_
    refine at_nil ?_
    refine at_normal ?_
    refine hK4 _ _ _ ?_
    refine at_ret ?_
    refine at_then_ret ?_
    refine at_end ?_
    refine at_fold (A := PoolA g most idle wm last L cs) [0, 0, 0, 0] rfl (fun h s => ⟨wb, mb, gs, hl, s⟩) ?_
    refine at_fin (rsV rfl (res_tmp rfl)) ?_
    refine ⟨_, ⟨rfl, rfl⟩, ?_⟩
    exact fun _ s => s.finEq (ks := [0]) (js := []) rfl rfl rfl
  | some k =>
    obtain ⟨c, si, hx⟩ := posOf_some hp
    rw [withB_some hp hx, withL_some hp hx]
    refine at_pulls [3] rfl ?_
    refine at_take hx fun gk hg _ => ?_
    simp only [List.cons_append, List.nil_append]
    refine at_ex fun cb => at_open ?_
    simp only [List.cons_append, List.nil_append]
    have hkv := kvs_get hg hx
    simp only at hkv
    refine at_seq_k (fun K0 hK0 => ?_)
    refine at_region ?_
    refine at_v (ov_assign rfl rfl) rfl rfl rfl ?_
    refine at_nil ?_
    refine at_normal ?_
    refine hK0 _ _ _ ?_
    refine at_seq_k (fun K1 hK1 => ?_)
    refine at_region ?_
    refine at_v (ov_move rfl rfl) rfl rfl rfl ?_
    refine at_v (ov_nilCheck rfl rfl) rfl rfl rfl ?_
    refine at_v (ov_fieldAddr (k := 3) (r := 3) rfl rfl rfl rfl) rfl rfl rfl ?_
    refine at_v (ov_load rfl rfl rfl (fun _ s => s.ld (k := 3) rfl rfl)) rfl rfl rfl ?_
    refine at_v (ov_move rfl rfl) rfl rfl rfl ?_
    refine at_v (ov_lookupOk (k := 5) rfl Tryz.underlying65 Tryz.underlying3 rfl rfl rfl (by first | rfl | trivial) hkv) rfl rfl rfl ?_
    refine at_v (ov_move rfl rfl) rfl rfl rfl ?_
    refine at_v (ov_extract rfl rfl rfl) rfl rfl rfl ?_
    refine at_v (ov_extract rfl rfl rfl) rfl rfl rfl ?_
    refine at_v (ov_assign rfl rfl) rfl rfl rfl ?_
    refine at_v (ov_assign rfl rfl) rfl rfl rfl ?_
    refine at_nil ?_
    refine at_normal ?_
    refine hK1 _ _ _ ?_
    refine at_seq_k (fun K2 hK2 => ?_)
    refine at_seq_k (fun K3 hK3 => ?_)
    refine at_region ?_
    refine at_v (ov_move rfl rfl) rfl rfl rfl ?_
    refine at_v (ov_not rfl rfl) rfl rfl rfl ?_
    refine at_nil ?_
    refine at_normal ?_
    refine hK3 _ _ _ ?_
    refine at_cond_false rfl ?_
    refine at_skip ?_
    refine at_normal ?_
    refine hK2 _ _ _ ?_
    refine at_seq_k (fun K4 hK4 => ?_)
    refine at_region ?_
    refine at_v (ov_move rfl rfl) rfl rfl rfl ?_
    refine at_v (ov_move rfl rfl) rfl rfl rfl ?_
    refine at_v (ov_nilCheck rfl rfl) rfl rfl rfl ?_
    refine at_v (ov_fieldAddr (k := 0) (r := 0) rfl rfl rfl rfl) rfl rfl rfl ?_
    refine at_v (ov_load rfl rfl rfl (fun _ s => s.ld (k := 0) rfl rfl)) rfl rfl rfl ?_
    refine at_t (ot_call (ks := [1]) rfl rfl rfl Tryz.call53 rfl (T53 _ _ _) rfl) rfl rfl rfl ?_
    rintro v0 _ ⟨m0, hp0, rfl⟩
    obtain ⟨rfl, rfl⟩ := hp0
    simp only [List.cons_append, List.nil_append, splice, spliceL]
    refine at_v (ov_assign rfl rfl) rfl rfl rfl ?_
    refine at_nil ?_
    refine at_normal ?_
    refine hK4 _ _ _ ?_
    refine at_seq_k (fun K5 hK5 => ?_)
    refine at_region ?_
    refine at_v (ov_move rfl rfl) rfl rfl rfl ?_
    refine at_v (ov_move rfl rfl) rfl rfl rfl ?_
    refine at_fold (A := HeldA gk (CM.soil c) si) [1, 0] rfl (fun h s => ⟨cb, s⟩) ?_
    refine at_fold (A := PoolA g most idle wm last L (cs.set k (id, CM.soil c, si))) [2, 2, 2, 0, 0] rfl (fun h s => pool_shut (wb := wb) (mb := mb) (id, CM.soil c, si) hl hg hx rfl s) ?_
    refine at_t (ot_call (ks := [0]) rfl rfl rfl Tryz.call55 rfl (T55 _ _) rfl) rfl rfl rfl ?_
    rintro v0 _ ⟨m0, hp0, rfl⟩
    obtain ⟨rfl, rfl⟩ := hp0
    simp only [List.cons_append, List.nil_append, splice, spliceL]
    refine at_nil ?_
    refine at_normal ?_
    refine hK5 _ _ _ ?_
    refine at_seq_k (fun K6 hK6 => ?_)
    refine at_region ?_
    refine at_v (ov_move rfl rfl) rfl rfl rfl ?_
    refine at_v (ov_assign rfl rfl) rfl rfl rfl ?_
    refine at_nil ?_
    refine at_normal ?_
    refine hK6 _ _ _ ?_
    refine at_ret ?_
    refine at_end ?_
    refine at_fin (rsV rfl (res_tmp rfl)) ?_
    refine ⟨_, ⟨rfl, rfl⟩, ?_⟩
    exact fun _ s => s.finEq (ks := [0]) (js := []) rfl rfl rfl
theorem T47b (w0 : World) {g : Nat} {most idle wm last : Int} {L : List Int} {cs : List XM} (id : Int) :
    Tri Tryz.prog w0 47 [ptrTo g, .int .i64 id, .func (.func 50) #[] #[]] [PoolA g most idle wm last L cs] fun v m => v = .bool (withB cs id CM.releases) ∧ m = [PoolA g most idle wm last L (withL cs id CM.release)] := by
  refine tri_of Tryz.func47 rfl rfl fun F => ?_
  simp only [Tryz.ntmps47, argEnv, List.cons_append, List.nil_append]
  
  refine at_pool fun wb mb gs hl => ?_
  cases hp : posOf cs id with
  | none =>
    have hno := kvs_no (gs := gs) (posOf_none hp)
    rw [withB_none hp, withL_none hp]
    refine at_seq_k (fun K0 hK0 => ?_)
    refine at_region ?_
    refine at_v (ov_assign rfl rfl) rfl rfl rfl ?_
    refine at_nil ?_
    refine at_normal ?_
    refine hK0 _ _ _ ?_
    refine at_seq_k (fun K1 hK1 => ?_)
    refine at_region ?_
    refine at_v (ov_move rfl rfl) rfl rfl rfl ?_
    refine at_v (ov_nilCheck rfl rfl) rfl rfl rfl ?_
    refine at_v (ov_fieldAddr (k := 3) (r := 3) rfl rfl rfl rfl) rfl rfl rfl ?_
    refine at_v (ov_load rfl rfl rfl (fun _ s => s.ld (k := 0) rfl rfl)) rfl rfl rfl ?_
    refine at_v (ov_move rfl rfl) rfl rfl rfl ?_
    refine at_v (ov_lookupNo (k := 2) rfl Tryz.underlying65 Tryz.underlying3 Tryz.zeroValue79 rfl rfl rfl (by first | rfl | trivial) (by assumption)) rfl rfl rfl ?_
    refine at_v (ov_move rfl rfl) rfl rfl rfl ?_
    refine at_v (ov_extract rfl rfl rfl) rfl rfl rfl ?_
    refine at_v (ov_extract rfl rfl rfl) rfl rfl rfl ?_
    refine at_v (ov_assign rfl rfl) rfl rfl rfl ?_
    refine at_v (ov_assign rfl rfl) rfl rfl rfl ?_
    refine at_nil ?_
    refine at_normal ?_
    refine hK1 _ _ _ ?_
    refine at_seq_k (fun K2 hK2 => ?_)
    refine at_seq_k (fun K3 hK3 => ?_)
    refine at_region ?_
    refine at_v (ov_move rfl rfl) rfl rfl rfl ?_
    refine at_v (ov_not rfl rfl) rfl rfl rfl ?_
    refine at_nil ?_
    refine at_normal ?_
    refine hK3 _ _ _ ?_
    refine at_cond_true rfl ?_
    refine at_seq_k (fun K4 hK4 => ?_)
    refine at_region ?_
    refine at_v (ov_assign rfl rfl) rfl rfl rfl ?_
    refine at_nil ?_
    refine at_normal ?_
    refine hK4 _ _ _ ?_
    refine at_ret ?_
    refine at_then_ret ?_
    refine at_end ?_
    refine at_fold (A := PoolA g most idle wm last L cs) [0, 0, 0, 0] rfl (fun h s => ⟨wb, mb, gs, hl, s⟩) ?_
    refine at_fin (rsV rfl (res_tmp rfl)) ?_
    refine ⟨_, ⟨rfl, rfl⟩, ?_⟩
    exact fun _ s => s.finEq (ks := [0]) (js := []) rfl rfl rfl
  | some k =>
    obtain ⟨c, si, hx⟩ := posOf_some hp
    rw [withB_some hp hx, withL_some hp hx]
    refine at_pulls [3] rfl ?_
    refine at_take hx fun gk hg _ => ?_
    simp only [List.cons_append, List.nil_append]
    refine at_ex fun cb => at_open ?_
    simp only [List.cons_append, List.nil_append]
    have hkv := kvs_get hg hx
    simp only at hkv
    refine at_seq_k (fun K0 hK0 => ?_)
    refine at_region ?_
    refine at_v (ov_assign rfl rfl) rfl rfl rfl ?_
    refine at_nil ?_
    refine at_normal ?_
    refine hK0 _ _ _ ?_
    refine at_seq_k (fun K1 hK1 => ?_)
    refine at_region ?_
    refine at_v (ov_move rfl rfl) rfl rfl rfl ?_
    refine at_v (ov_nilCheck rfl rfl) rfl rfl rfl ?_
    refine at_v (ov_fieldAddr (k := 3) (r := 3) rfl rfl rfl rfl) rfl rfl rfl ?_
    refine at_v (ov_load rfl rfl rfl (fun _ s => s.ld (k := 3) rfl rfl)) rfl rfl rfl ?_
    refine at_v (ov_move rfl rfl) rfl rfl rfl ?_
    refine at_v (ov_lookupOk (k := 5) rfl Tryz.underlying65 Tryz.underlying3 rfl rfl rfl (by first | rfl | trivial) hkv) rfl rfl rfl ?_
    refine at_v (ov_move rfl rfl) rfl rfl rfl ?_
    refine at_v (ov_extract rfl rfl rfl) rfl rfl rfl ?_
    refine at_v (ov_extract rfl rfl rfl) rfl rfl rfl ?_
    refine at_v (ov_assign rfl rfl) rfl rfl rfl ?_
    refine at_v (ov_assign rfl rfl) rfl rfl rfl ?_
    refine at_nil ?_
    refine at_normal ?_
    refine hK1 _ _ _ ?_
    refine at_seq_k (fun K2 hK2 => ?_)
    refine at_seq_k (fun K3 hK3 => ?_)
    refine at_region ?_
    refine at_v (ov_move rfl rfl) rfl rfl rfl ?_
    refine at_v (ov_not rfl rfl) rfl rfl rfl ?_
    refine at_nil ?_
    refine at_normal ?_
    refine hK3 _ _ _ ?_
    refine at_cond_false rfl ?_
    refine at_skip ?_
    refine at_normal ?_
    refine hK2 _ _ _ ?_
    refine at_seq_k (fun K4 hK4 => ?_)
    refine at_region ?_
    refine at_v (ov_move rfl rfl) rfl rfl rfl ?_
    refine at_v (ov_move rfl rfl) rfl rfl rfl ?_
    refine at_v (ov_nilCheck rfl rfl) rfl rfl rfl ?_
    refine at_v (ov_fieldAddr (k := 0) (r := 0) rfl rfl rfl rfl) rfl rfl rfl ?_
    refine at_v (ov_load rfl rfl rfl (fun _ s => s.ld (k := 0) rfl rfl)) rfl rfl rfl ?_
    refine at_t (ot_call (ks := [1]) rfl rfl rfl Tryz.call50 rfl (T50 _ _ _) rfl) rfl rfl rfl ?_
    rintro v0 _ ⟨m0, hp0, rfl⟩
    obtain ⟨rfl, rfl⟩ := hp0
    simp only [List.cons_append, List.nil_append, splice, spliceL]
    refine at_v (ov_assign rfl rfl) rfl rfl rfl ?_
    refine at_nil ?_
    refine at_normal ?_
    refine hK4 _ _ _ ?_
    refine at_seq_k (fun K5 hK5 => ?_)
    refine at_region ?_
    refine at_v (ov_move rfl rfl) rfl rfl rfl ?_
    refine at_v (ov_move rfl rfl) rfl rfl rfl ?_
    refine at_fold (A := HeldA gk (CM.release c) si) [1, 0] rfl (fun h s => ⟨cb, s⟩) ?_
    refine at_fold (A := PoolA g most idle wm last L (cs.set k (id, CM.release c, si))) [2, 2, 2, 0, 0] rfl (fun h s => pool_shut (wb := wb) (mb := mb) (id, CM.release c, si) hl hg hx rfl s) ?_
    refine at_t (ot_call (ks := [0]) rfl rfl rfl Tryz.call55 rfl (T55 _ _) rfl) rfl rfl rfl ?_
    rintro v0 _ ⟨m0, hp0, rfl⟩
    obtain ⟨rfl, rfl⟩ := hp0
    simp only [List.cons_append, List.nil_append, splice, spliceL]
    refine at_nil ?_
    refine at_normal ?_
    refine hK5 _ _ _ ?_
    refine at_seq_k (fun K6 hK6 => ?_)
    refine at_region ?_
    refine at_v (ov_move rfl rfl) rfl rfl rfl ?_
    refine at_v (ov_assign rfl rfl) rfl rfl rfl ?_
    refine at_nil ?_
    refine at_normal ?_
    refine hK6 _ _ _ ?_
    refine at_ret ?_
    refine at_end ?_
    refine at_fin (rsV rfl (res_tmp rfl)) ?_
    refine ⟨_, ⟨rfl, rfl⟩, ?_⟩
    exact fun _ s => s.finEq (ks := [0]) (js := []) rfl rfl rfl
theorem T17 (w0 : World) {g : Nat} {most idle wm last : Int} {L : List Int} {cs : List XM} (id n : Int) :
    Tri Tryz.prog w0 17 [ptrTo g, .int .i64 id, .int .u64 n] [PoolA g most idle wm last L cs] fun v m => v = .bool (withB cs id (fun c => c.replies n)) ∧ m = [PoolA g most idle wm last L (withL cs id (fun c => c.reply n))] := by
  refine tri_of Tryz.func17 rfl rfl fun F => ?_
  simp only [Tryz.ntmps17, argEnv, List.cons_append, List.nil_append]
  refine at_seq_k (fun K0 hK0 => ?_)
  refine at_region ?_
  refine at_t (ot_box1 rfl rfl rfl) rfl rfl rfl ?_
  rintro _ _ ⟨g0, rfl, rfl⟩
  refine at_v (ov_assign rfl rfl) rfl rfl rfl ?_
  refine at_nil ?_
  refine at_normal ?_
  refine hK0 _ _ _ ?_
  refine at_seq_k (fun K1 hK1 => ?_)
  refine at_region ?_
  refine at_v (ov_move rfl rfl) rfl rfl rfl ?_
  refine at_v (ov_move rfl rfl) rfl rfl rfl ?_
  refine at_v (ov_makeFunc (first := []) rfl rfl rfl) rfl rfl rfl ?_
  refine at_t (ot_call (ks := [0, 0]) rfl rfl rfl Tryz.call47 rfl (T47 _ _ _) rfl) rfl rfl rfl ?_
  rintro v0 _ ⟨m0, hp0, rfl⟩
  obtain ⟨rfl, rfl⟩ := hp0
  simp only [List.cons_append, List.nil_append, splice, spliceL]
  refine at_v (ov_assign rfl rfl) rfl rfl rfl ?_
  refine at_nil ?_
  refine at_normal ?_
  refine hK1 _ _ _ ?_
  refine at_ret ?_
  refine at_end ?_
  refine at_fin (rsV rfl (res_tmp rfl)) ?_
  refine ⟨_, ⟨rfl, rfl⟩, ?_⟩
  exact fun _ s => s.finEq (ks := [1]) (js := [0]) rfl rfl rfl
theorem T23 (w0 : World) {g : Nat} {most idle wm last : Int} {L : List Int} {cs : List XM} (id : Int) :
    Tri Tryz.prog w0 23 [ptrTo g, .int .i64 id] [PoolA g most idle wm last L cs] fun v m => v = .bool (withB cs id CM.soils) ∧ m = [PoolA g most idle wm last L (withL cs id CM.soil)] := by
  refine tri_of Tryz.func23 rfl rfl fun F => ?_
  simp only [Tryz.ntmps23, argEnv, List.cons_append, List.nil_append]
  refine at_seq_k (fun K0 hK0 => ?_)
  refine at_region ?_
  refine at_v (ov_assign rfl rfl) rfl rfl rfl ?_
  refine at_nil ?_
  refine at_normal ?_
  refine hK0 _ _ _ ?_
  refine at_seq_k (fun K1 hK1 => ?_)
  refine at_region ?_
  refine at_v (ov_move rfl rfl) rfl rfl rfl ?_
  refine at_v (ov_move rfl rfl) rfl rfl rfl ?_
  refine at_t (ot_call (ks := [0]) rfl rfl rfl Tryz.call47 rfl (T47a _ _) rfl) rfl rfl rfl ?_
  rintro v0 _ ⟨m0, hp0, rfl⟩
  obtain ⟨rfl, rfl⟩ := hp0
  simp only [List.cons_append, List.nil_append, splice, spliceL]
  refine at_v (ov_assign rfl rfl) rfl rfl rfl ?_
  refine at_nil ?_
  refine at_normal ?_
  refine hK1 _ _ _ ?_
  refine at_ret ?_
  refine at_end ?_
  refine at_fin (rsV rfl (res_tmp rfl)) ?_
  refine ⟨_, ⟨rfl, rfl⟩, ?_⟩
  exact fun _ s => s.finEq (ks := [0]) (js := []) rfl rfl rfl
def sinceL (cs : List XM) (id now : Int) : List XM := match posOf cs id with | some k => (match cs[k]? with | some x => cs.set k (id, x.2.1, now) | none => cs) | none => cs
def releaseL (cs : List XM) (id now : Int) : List XM := if withB cs id CM.releases = true then sinceL (withL cs id CM.release) id now else withL cs id CM.release
theorem T18 (w0 : World) {g : Nat} {most idle wm last : Int} {L : List Int} {cs : List XM} (id now : Int) :
    Tri Tryz.prog w0 18 [ptrTo g, .int .i64 id, .int .u64 now] [PoolA g most idle wm last L cs] fun v m => v = .bool (withB cs id CM.releases) ∧ m = [PoolA g most idle wm last L (releaseL cs id now)] := by
  refine tri_of Tryz.func18 rfl rfl fun F => ?_
  simp only [Tryz.ntmps18, argEnv, List.cons_append, List.nil_append]
  unfold releaseL
  cases hi0 : withB cs id CM.releases with
  | false =>
    simp only [Bool.false_eq_true, if_false]
    refine at_seq_k (fun K0 hK0 => ?_)
    refine at_region ?_
    refine at_v (ov_assign rfl rfl) rfl rfl rfl ?_
    refine at_nil ?_
    refine at_normal ?_
    refine hK0 _ _ _ ?_
    refine at_seq_k (fun K1 hK1 => ?_)
    refine at_seq_k (fun K2 hK2 => ?_)
    refine at_region ?_
    refine at_v (ov_move rfl rfl) rfl rfl rfl ?_
    refine at_v (ov_move rfl rfl) rfl rfl rfl ?_
    refine at_t (ot_call (ks := [0]) rfl rfl rfl Tryz.call47 rfl (T47b _ _) rfl) rfl rfl rfl ?_
    rintro v0 _ ⟨m0, hp0, rfl⟩
    obtain ⟨rfl, rfl⟩ := hp0
    simp only [List.cons_append, List.nil_append, splice, spliceL]
    refine at_v (ov_not rfl rfl) rfl rfl rfl ?_
    refine at_nil ?_
    refine at_normal ?_
    refine hK2 _ _ _ ?_
    refine at_cond_true (congrArg (fun b => some (Value.bool b)) (show _ = true from by simp [hi0]; done)) ?_
    refine at_seq_k (fun K3 hK3 => ?_)
    refine at_region ?_
    refine at_v (ov_assign rfl rfl) rfl rfl rfl ?_
    refine at_nil ?_
    refine at_normal ?_
    refine hK3 _ _ _ ?_
    refine at_ret ?_
    refine at_then_ret ?_
    refine at_end ?_
    refine at_fin (rsV rfl (res_tmp rfl)) ?_
    refine ⟨_, ⟨rfl, rfl⟩, ?_⟩
    exact fun _ s => s.finEq (ks := [0]) (js := []) rfl rfl rfl
  | true =>
    simp only [if_true]
    refine at_seq_k (fun K0 hK0 => ?_)
    refine at_region ?_
    refine at_v (ov_assign rfl rfl) rfl rfl rfl ?_
    refine at_nil ?_
    refine at_normal ?_
    refine hK0 _ _ _ ?_
    refine at_seq_k (fun K1 hK1 => ?_)
    refine at_seq_k (fun K2 hK2 => ?_)
    refine at_region ?_
    refine at_v (ov_move rfl rfl) rfl rfl rfl ?_
    refine at_v (ov_move rfl rfl) rfl rfl rfl ?_
    refine at_t (ot_call (ks := [0]) rfl rfl rfl Tryz.call47 rfl (T47b _ _) rfl) rfl rfl rfl ?_
    rintro v0 _ ⟨m0, hp0, rfl⟩
    obtain ⟨rfl, rfl⟩ := hp0
    simp only [List.cons_append, List.nil_append, splice, spliceL]
    refine at_v (ov_not rfl rfl) rfl rfl rfl ?_
    refine at_nil ?_
    refine at_normal ?_
    refine hK2 _ _ _ ?_
    refine at_cond_false (congrArg (fun b => some (Value.bool b)) (show _ = false from by simp [hi0]; done)) ?_
    refine at_skip ?_
    refine at_normal ?_
    refine hK1 _ _ _ ?_
    refine at_seq_k (fun K3 hK3 => ?_)
    refine at_seq_k (fun K4 hK4 => ?_)
    refine at_region ?_
    refine at_v (ov_move rfl rfl) rfl rfl rfl ?_
    refine at_v (ov_nilCheck rfl rfl) rfl rfl rfl ?_
    refine at_v (ov_fieldAddr (k := 3) (r := 3) rfl rfl rfl rfl) rfl rfl rfl ?_
    obtain ⟨cs', hcs⟩ : ∃ cs', withL cs id CM.release = cs' := ⟨_, rfl⟩
    rw [hcs]
    refine at_pool fun wb mb gs hl => ?_
    cases hp : posOf cs' id with
    | none =>
      have hno := kvs_no (gs := gs) (posOf_none hp)
      have hsn : sinceL cs' id now = cs' := by unfold sinceL; simp only [hp]
      refine at_v (ov_load rfl rfl rfl (fun _ s => s.ld (k := 0) rfl rfl)) rfl rfl rfl ?_
      refine at_v (ov_move rfl rfl) rfl rfl rfl ?_
      refine at_v (ov_lookupNo (k := 2) rfl Tryz.underlying65 Tryz.underlying3 Tryz.zeroValue79 rfl rfl rfl (by first | rfl | trivial) (by assumption)) rfl rfl rfl ?_
      refine at_v (ov_move rfl rfl) rfl rfl rfl ?_
      refine at_v (ov_extract rfl rfl rfl) rfl rfl rfl ?_
      refine at_v (ov_extract rfl rfl rfl) rfl rfl rfl ?_
      refine at_v (ov_assign rfl rfl) rfl rfl rfl ?_
      refine at_v (ov_assign rfl rfl) rfl rfl rfl ?_
      refine at_nil ?_
      refine at_normal ?_
      refine hK4 _ _ _ ?_
      refine at_seq_k (fun K5 hK5 => ?_)
      refine at_region ?_
      refine at_v (ov_move rfl rfl) rfl rfl rfl ?_
      refine at_nil ?_
      refine at_normal ?_
      refine hK5 _ _ _ ?_
      refine at_cond_false rfl ?_
      refine at_skip ?_
      refine at_normal ?_
      refine hK3 _ _ _ ?_
      refine at_seq_k (fun K6 hK6 => ?_)
      refine at_region ?_
      refine at_v (ov_assign rfl rfl) rfl rfl rfl ?_
      refine at_nil ?_
      refine at_normal ?_
      refine hK6 _ _ _ ?_
      refine at_ret ?_
      refine at_end ?_
      refine at_fold (A := PoolA g most idle wm last L cs') [0, 0, 0, 0] rfl (fun h s => ⟨wb, mb, gs, hl, s⟩) ?_
      refine at_fin (rsV rfl (res_tmp rfl)) ?_
      rw [hcs, hsn]
      refine ⟨_, ⟨rfl, rfl⟩, ?_⟩
      exact fun _ s => s.finEq (ks := [0]) (js := []) rfl rfl rfl
    | some k =>
      obtain ⟨c, si, hx⟩ := posOf_some hp
      have hsn : sinceL cs' id now = cs'.set k (id, c, now) := by unfold sinceL; simp only [hp, hx]
      refine at_pulls [3] rfl ?_
      refine at_take hx fun gk hg _ => ?_
      simp only [List.cons_append, List.nil_append]
      refine at_ex fun cb => at_open ?_
      simp only [List.cons_append, List.nil_append]
      have hkv := kvs_get hg hx
      simp only at hkv
      refine at_v (ov_load rfl rfl rfl (fun _ s => s.ld (k := 3) rfl rfl)) rfl rfl rfl ?_
      refine at_v (ov_move rfl rfl) rfl rfl rfl ?_
      refine at_v (ov_lookupOk (k := 5) rfl Tryz.underlying65 Tryz.underlying3 rfl rfl rfl (by first | rfl | trivial) hkv) rfl rfl rfl ?_
      refine at_v (ov_move rfl rfl) rfl rfl rfl ?_
      refine at_v (ov_extract rfl rfl rfl) rfl rfl rfl ?_
      refine at_v (ov_extract rfl rfl rfl) rfl rfl rfl ?_
      refine at_v (ov_assign rfl rfl) rfl rfl rfl ?_
      refine at_v (ov_assign rfl rfl) rfl rfl rfl ?_
      refine at_nil ?_
      refine at_normal ?_
      refine hK4 _ _ _ ?_
      refine at_seq_k (fun K5 hK5 => ?_)
      refine at_region ?_
      refine at_v (ov_move rfl rfl) rfl rfl rfl ?_
      refine at_nil ?_
      refine at_normal ?_
      refine hK5 _ _ _ ?_
      refine at_cond_true rfl ?_
      refine at_region ?_
      refine at_v (ov_move rfl rfl) rfl rfl rfl ?_
      refine at_v (ov_move rfl rfl) rfl rfl rfl ?_
      refine at_v (ov_nilCheck rfl rfl) rfl rfl rfl ?_
      refine at_v (ov_fieldAddr (k := 1) (r := 1) rfl rfl rfl rfl) rfl rfl rfl ?_
      refine at_t0 (ot_store (k := 0) rfl rfl rfl rfl rfl rfl rfl) rfl rfl ?_
      rintro _ _ ⟨rfl, rfl⟩
      simp only [setAt, splice, spliceL, Value.cells]
      refine at_nil ?_
      refine at_normal ?_
      refine hK3 _ _ _ ?_
      refine at_seq_k (fun K6 hK6 => ?_)
      refine at_region ?_
      refine at_v (ov_assign rfl rfl) rfl rfl rfl ?_
      refine at_nil ?_
      refine at_normal ?_
      refine hK6 _ _ _ ?_
      refine at_ret ?_
      refine at_end ?_
      refine at_fold (A := HeldA gk c now) [0, 0] rfl (fun h s => ⟨cb, s⟩) ?_
      refine at_fold (A := PoolA g most idle wm last L (cs'.set k (id, c, now))) [2, 2, 2, 0, 0] rfl (fun h s => pool_shut (wb := wb) (mb := mb) (id, c, now) hl hg hx rfl s) ?_
      refine at_fin (rsV rfl (res_tmp rfl)) ?_
      rw [hcs, hsn]
      refine ⟨_, ⟨rfl, rfl⟩, ?_⟩
      exact fun _ s => s.finEq (ks := [0]) (js := []) rfl rfl rfl
def sendE (cs : List XM) (id n : Int) : Int := match posOf cs id with | some k => (match cs[k]? with | some x => x.2.1.sendE n | none => 6) | none => 6
theorem T16 (w0 : World) {g : Nat} {most idle wm last : Int} {L : List Int} {cs : List XM} (id n : Int) :
    Tri Tryz.prog w0 16 [ptrTo g, .int .i64 id, .int .u64 n] [PoolA g most idle wm last L cs] fun v m => v = .int .i64 (sendE cs id n) ∧ m = [PoolA g most idle wm last L (setL cs id (fun c => c.send n))] := by
  refine tri_of Tryz.func16 rfl rfl fun F => ?_
  simp only [Tryz.ntmps16, argEnv, List.cons_append, List.nil_append]
  refine at_pool fun wb mb gs hl => ?_
  cases hp : posOf cs id with
  | none =>
    have hno := kvs_no (gs := gs) (posOf_none hp)
    rw [show sendE cs id n = 6 by unfold sendE; simp only [hp], show setL cs id (fun c => c.send n) = cs by unfold setL; simp only [hp]]
    refine at_seq_k (fun K0 hK0 => ?_)
    refine at_region ?_
    refine at_v (ov_assign rfl rfl) rfl rfl rfl ?_
    refine at_nil ?_
    refine at_normal ?_
    refine hK0 _ _ _ ?_
    refine at_seq_k (fun K1 hK1 => ?_)
    refine at_region ?_
    refine at_v (ov_move rfl rfl) rfl rfl rfl ?_
    refine at_v (ov_nilCheck rfl rfl) rfl rfl rfl ?_
    refine at_v (ov_fieldAddr (k := 3) (r := 3) rfl rfl rfl rfl) rfl rfl rfl ?_
    refine at_v (ov_load rfl rfl rfl (fun _ s => s.ld (k := 0) rfl rfl)) rfl rfl rfl ?_
    refine at_v (ov_move rfl rfl) rfl rfl rfl ?_
    refine at_v (ov_lookupNo (k := 2) rfl Tryz.underlying65 Tryz.underlying3 Tryz.zeroValue79 rfl rfl rfl (by first | rfl | trivial) (by assumption)) rfl rfl rfl ?_
    refine at_v (ov_move rfl rfl) rfl rfl rfl ?_
    refine at_v (ov_extract rfl rfl rfl) rfl rfl rfl ?_
    refine at_v (ov_extract rfl rfl rfl) rfl rfl rfl ?_
    refine at_v (ov_assign rfl rfl) rfl rfl rfl ?_
    refine at_v (ov_assign rfl rfl) rfl rfl rfl ?_
    refine at_nil ?_
    refine at_normal ?_
    refine hK1 _ _ _ ?_
    refine at_seq_k (fun K2 hK2 => ?_)
    refine at_seq_k (fun K3 hK3 => ?_)
    refine at_region ?_
    refine at_v (ov_move rfl rfl) rfl rfl rfl ?_
    refine at_v (ov_not rfl rfl) rfl rfl rfl ?_
    refine at_nil ?_
    refine at_normal ?_
    refine hK3 _ _ _ ?_
    refine at_cond_true rfl ?_
    refine at_seq_k (fun K4 hK4 => ?_)
    refine at_region ?_
    refine at_v (ov_assign rfl rfl) rfl rfl rfl ?_
    refine at_nil ?_
    refine at_normal ?_
    refine hK4 _ _ _ ?_
    refine at_ret ?_
    refine at_then_ret ?_
    refine at_end ?_
    refine at_fold (A := PoolA g most idle wm last L cs) [0, 0, 0, 0] rfl (fun h s => ⟨wb, mb, gs, hl, s⟩) ?_
    refine at_fin (rsV rfl (res_tmp rfl)) ?_
    refine ⟨_, ⟨rfl, rfl⟩, ?_⟩
    exact fun _ s => s.finEq (ks := [0]) (js := []) rfl rfl rfl
  | some k =>
    obtain ⟨c, si, hx⟩ := posOf_some hp
    rw [show sendE cs id n = c.sendE n by unfold sendE; simp only [hp, hx], show setL cs id (fun c => c.send n) = cs.set k (id, c.send n, si) by unfold setL; simp only [hp, hx]]
    refine at_pulls [3] rfl ?_
    refine at_take hx fun gk hg _ => ?_
    simp only [List.cons_append, List.nil_append]
    refine at_ex fun cb => at_open ?_
    simp only [List.cons_append, List.nil_append]
    have hkv := kvs_get hg hx
    simp only at hkv
    refine at_seq_k (fun K0 hK0 => ?_)
    refine at_region ?_
    refine at_v (ov_assign rfl rfl) rfl rfl rfl ?_
    refine at_nil ?_
    refine at_normal ?_
    refine hK0 _ _ _ ?_
    refine at_seq_k (fun K1 hK1 => ?_)
    refine at_region ?_
    refine at_v (ov_move rfl rfl) rfl rfl rfl ?_
    refine at_v (ov_nilCheck rfl rfl) rfl rfl rfl ?_
    refine at_v (ov_fieldAddr (k := 3) (r := 3) rfl rfl rfl rfl) rfl rfl rfl ?_
    refine at_v (ov_load rfl rfl rfl (fun _ s => s.ld (k := 3) rfl rfl)) rfl rfl rfl ?_
    refine at_v (ov_move rfl rfl) rfl rfl rfl ?_
    refine at_v (ov_lookupOk (k := 5) rfl Tryz.underlying65 Tryz.underlying3 rfl rfl rfl (by first | rfl | trivial) hkv) rfl rfl rfl ?_
    refine at_v (ov_move rfl rfl) rfl rfl rfl ?_
    refine at_v (ov_extract rfl rfl rfl) rfl rfl rfl ?_
    refine at_v (ov_extract rfl rfl rfl) rfl rfl rfl ?_
    refine at_v (ov_assign rfl rfl) rfl rfl rfl ?_
    refine at_v (ov_assign rfl rfl) rfl rfl rfl ?_
    refine at_nil ?_
    refine at_normal ?_
    refine hK1 _ _ _ ?_
    refine at_seq_k (fun K2 hK2 => ?_)
    refine at_seq_k (fun K3 hK3 => ?_)
    refine at_region ?_
    refine at_v (ov_move rfl rfl) rfl rfl rfl ?_
    refine at_v (ov_not rfl rfl) rfl rfl rfl ?_
    refine at_nil ?_
    refine at_normal ?_
    refine hK3 _ _ _ ?_
    refine at_cond_false rfl ?_
    refine at_skip ?_
    refine at_normal ?_
    refine hK2 _ _ _ ?_
    refine at_seq_k (fun K4 hK4 => ?_)
    refine at_region ?_
    refine at_v (ov_move rfl rfl) rfl rfl rfl ?_
    refine at_v (ov_nilCheck rfl rfl) rfl rfl rfl ?_
    refine at_v (ov_fieldAddr (k := 0) (r := 0) rfl rfl rfl rfl) rfl rfl rfl ?_
    refine at_v (ov_load rfl rfl rfl (fun _ s => s.ld (k := 0) rfl rfl)) rfl rfl rfl ?_
    refine at_v (ov_move rfl rfl) rfl rfl rfl ?_
    refine at_t (ot_call (ks := [1]) rfl rfl rfl Tryz.call46 rfl (T46 _ _ _ _) rfl) rfl rfl rfl ?_
    rintro v0 _ ⟨m0, hp0, rfl⟩
    obtain ⟨rfl, rfl⟩ := hp0
    simp only [List.cons_append, List.nil_append, splice, spliceL]
    refine at_v (ov_assign rfl rfl) rfl rfl rfl ?_
    refine at_nil ?_
    refine at_normal ?_
    refine hK4 _ _ _ ?_
    refine at_ret ?_
    refine at_end ?_
    refine at_fold (A := HeldA gk (c.send n) si) [1, 0] rfl (fun h s => ⟨cb, s⟩) ?_
    refine at_fold (A := PoolA g most idle wm last L (cs.set k (id, c.send n, si))) [2, 2, 2, 0, 0] rfl (fun h s => pool_shut (wb := wb) (mb := mb) (id, c.send n, si) hl hg hx rfl s) ?_
    refine at_fin (rsV rfl (res_tmp rfl)) ?_
    refine ⟨_, ⟨rfl, rfl⟩, ?_⟩
    exact fun _ s => s.finEq (ks := [0]) (js := []) rfl rfl rfl
def breakM (cs : List XM) (id : Int) : Int × Int × Bool := match posOf cs id with | some k => (match cs[k]? with | some x => (x.2.1.f, max x.2.1.o 0, true) | none => (0, 0, false)) | none => (0, 0, false)
theorem T24 (w0 : World) {g : Nat} {most idle wm last : Int} {L : List Int} {cs : List XM} (id : Int) :
    Tri Tryz.prog w0 24 [ptrTo g, .int .i64 id] [PoolA g most idle wm last L cs] fun v m => v = .tuple #[.int .u64 (breakM cs id).1, .int .i64 (breakM cs id).2.1, .bool (breakM cs id).2.2] ∧ m = [PoolA g most idle wm last L (withL cs id CM.close)] := by
  refine tri_of Tryz.func24 rfl rfl fun F => ?_
  simp only [Tryz.ntmps24, argEnv, List.cons_append, List.nil_append]
  refine at_pool fun wb mb gs hl => ?_
  cases hp : posOf cs id with
  | none =>
    have hno := kvs_no (gs := gs) (posOf_none hp)
    rw [show breakM cs id = (0, 0, false) by unfold breakM; simp only [hp], withL_none hp]
    refine at_seq_k (fun K0 hK0 => ?_)
    refine at_region ?_
    refine at_v (ov_assign rfl rfl) rfl rfl rfl ?_
    refine at_v (ov_assign rfl rfl) rfl rfl rfl ?_
    refine at_v (ov_assign rfl rfl) rfl rfl rfl ?_
    refine at_nil ?_
    refine at_normal ?_
    refine hK0 _ _ _ ?_
    refine at_seq_k (fun K1 hK1 => ?_)
    refine at_region ?_
    refine at_v (ov_move rfl rfl) rfl rfl rfl ?_
    refine at_v (ov_nilCheck rfl rfl) rfl rfl rfl ?_
    refine at_v (ov_fieldAddr (k := 3) (r := 3) rfl rfl rfl rfl) rfl rfl rfl ?_
    refine at_v (ov_load rfl rfl rfl (fun _ s => s.ld (k := 0) rfl rfl)) rfl rfl rfl ?_
    refine at_v (ov_move rfl rfl) rfl rfl rfl ?_
    refine at_v (ov_lookupNo (k := 2) rfl Tryz.underlying65 Tryz.underlying3 Tryz.zeroValue79 rfl rfl rfl (by first | rfl | trivial) (by assumption)) rfl rfl rfl ?_
    refine at_v (ov_move rfl rfl) rfl rfl rfl ?_
    refine at_v (ov_extract rfl rfl rfl) rfl rfl rfl ?_
    refine at_v (ov_extract rfl rfl rfl) rfl rfl rfl ?_
    refine at_v (ov_assign rfl rfl) rfl rfl rfl ?_
    refine at_v (ov_assign rfl rfl) rfl rfl rfl ?_
    refine at_nil ?_
    refine at_normal ?_
    refine hK1 _ _ _ ?_
    refine at_seq_k (fun K2 hK2 => ?_)
    refine at_seq_k (fun K3 hK3 => ?_)
    refine at_region ?_
    refine at_v (ov_move rfl rfl) rfl rfl rfl ?_
    refine at_v (ov_not rfl rfl) rfl rfl rfl ?_
    refine at_nil ?_
    refine at_normal ?_
    refine hK3 _ _ _ ?_
    refine at_cond_true rfl ?_
    refine at_seq_k (fun K4 hK4 => ?_)
    refine at_region ?_
    refine at_v (ov_assign rfl rfl) rfl rfl rfl ?_
    refine at_v (ov_assign rfl rfl) rfl rfl rfl ?_
    refine at_v (ov_assign rfl rfl) rfl rfl rfl ?_
    refine at_nil ?_
    refine at_normal ?_
    refine hK4 _ _ _ ?_
    refine at_ret ?_
    refine at_then_ret ?_
    refine at_end ?_
    refine at_fold (A := PoolA g most idle wm last L cs) [0, 0, 0, 0] rfl (fun h s => ⟨wb, mb, gs, hl, s⟩) ?_
    refine at_fin (rsL (vs := [_, _, _]) rfl ⟨res_tmp rfl, res_tmp rfl, res_tmp rfl, trivial⟩ rfl) ?_
    refine ⟨_, ⟨rfl, rfl⟩, ?_⟩
    exact fun _ s => s.finEq (ks := [0]) (js := []) rfl rfl rfl
  | some k =>
    obtain ⟨c, si, hx⟩ := posOf_some hp
    rw [show breakM cs id = (c.f, max c.o 0, true) by unfold breakM; simp only [hp, hx], withL_some hp hx]
    refine at_pulls [3] rfl ?_
    refine at_take hx fun gk hg _ => ?_
    simp only [List.cons_append, List.nil_append]
    refine at_ex fun cb => at_open ?_
    simp only [List.cons_append, List.nil_append]
    have hkv := kvs_get hg hx
    simp only at hkv
    refine at_seq_k (fun K0 hK0 => ?_)
    refine at_region ?_
    refine at_v (ov_assign rfl rfl) rfl rfl rfl ?_
    refine at_v (ov_assign rfl rfl) rfl rfl rfl ?_
    refine at_v (ov_assign rfl rfl) rfl rfl rfl ?_
    refine at_nil ?_
    refine at_normal ?_
    refine hK0 _ _ _ ?_
    refine at_seq_k (fun K1 hK1 => ?_)
    refine at_region ?_
    refine at_v (ov_move rfl rfl) rfl rfl rfl ?_
    refine at_v (ov_nilCheck rfl rfl) rfl rfl rfl ?_
    refine at_v (ov_fieldAddr (k := 3) (r := 3) rfl rfl rfl rfl) rfl rfl rfl ?_
    refine at_v (ov_load rfl rfl rfl (fun _ s => s.ld (k := 3) rfl rfl)) rfl rfl rfl ?_
    refine at_v (ov_move rfl rfl) rfl rfl rfl ?_
    refine at_v (ov_lookupOk (k := 5) rfl Tryz.underlying65 Tryz.underlying3 rfl rfl rfl (by first | rfl | trivial) hkv) rfl rfl rfl ?_
    refine at_v (ov_move rfl rfl) rfl rfl rfl ?_
    refine at_v (ov_extract rfl rfl rfl) rfl rfl rfl ?_
    refine at_v (ov_extract rfl rfl rfl) rfl rfl rfl ?_
    refine at_v (ov_assign rfl rfl) rfl rfl rfl ?_
    refine at_v (ov_assign rfl rfl) rfl rfl rfl ?_
    refine at_nil ?_
    refine at_normal ?_
    refine hK1 _ _ _ ?_
    refine at_seq_k (fun K2 hK2 => ?_)
    refine at_seq_k (fun K3 hK3 => ?_)
    refine at_region ?_
    refine at_v (ov_move rfl rfl) rfl rfl rfl ?_
    refine at_v (ov_not rfl rfl) rfl rfl rfl ?_
    refine at_nil ?_
    refine at_normal ?_
    refine hK3 _ _ _ ?_
    refine at_cond_false rfl ?_
    refine at_skip ?_
    refine at_normal ?_
    refine hK2 _ _ _ ?_
    refine at_seq_k (fun K4 hK4 => ?_)
    refine at_region ?_
    refine at_v (ov_move rfl rfl) rfl rfl rfl ?_
    refine at_v (ov_nilCheck rfl rfl) rfl rfl rfl ?_
    refine at_v (ov_fieldAddr (k := 0) (r := 0) rfl rfl rfl rfl) rfl rfl rfl ?_
    refine at_v (ov_load rfl rfl rfl (fun _ s => s.ld (k := 0) rfl rfl)) rfl rfl rfl ?_
    refine at_t (ot_call (ks := [1]) rfl rfl rfl Tryz.call39 rfl (T39 _ _ _) rfl) rfl rfl rfl ?_
    rintro v0 _ ⟨m0, hp0, rfl⟩
    obtain ⟨rfl, rfl⟩ := hp0
    simp only [List.cons_append, List.nil_append, splice, spliceL]
    refine at_v (ov_assign rfl rfl) rfl rfl rfl ?_
    refine at_nil ?_
    refine at_normal ?_
    refine hK4 _ _ _ ?_
    refine at_seq_k (fun K5 hK5 => ?_)
    refine at_region ?_
    refine at_v (ov_move rfl rfl) rfl rfl rfl ?_
    refine at_v (ov_nilCheck rfl rfl) rfl rfl rfl ?_
    refine at_v (ov_fieldAddr (k := 0) (r := 0) rfl rfl rfl rfl) rfl rfl rfl ?_
    refine at_v (ov_load rfl rfl rfl (fun _ s => s.ld (k := 1) rfl rfl)) rfl rfl rfl ?_
    refine at_t (ot_call (ks := [0]) rfl rfl rfl Tryz.call54 rfl (T54 _ _ _) rfl) rfl rfl rfl ?_
    rintro v0 _ ⟨m0, hp0, rfl⟩
    obtain ⟨rfl, rfl⟩ := hp0
    simp only [List.cons_append, List.nil_append, splice, spliceL]
    refine at_v (ov_assign rfl rfl) rfl rfl rfl ?_
    refine at_nil ?_
    refine at_normal ?_
    refine hK5 _ _ _ ?_
    refine at_seq_k (fun K6 hK6 => ?_)
    refine at_region ?_
    refine at_v (ov_move rfl rfl) rfl rfl rfl ?_
    refine at_v (ov_move rfl rfl) rfl rfl rfl ?_
    refine at_fold (A := HeldA gk c.close si) [1, 0] rfl (fun h s => ⟨cb, s⟩) ?_
    refine at_fold (A := PoolA g most idle wm last L (cs.set k (id, c.close, si))) [2, 2, 2, 0, 0] rfl (fun h s => pool_shut (wb := wb) (mb := mb) (id, c.close, si) hl hg hx rfl s) ?_
    refine at_t (ot_call (ks := [0]) rfl rfl rfl Tryz.call55 rfl (T55 _ _) rfl) rfl rfl rfl ?_
    rintro v0 _ ⟨m0, hp0, rfl⟩
    obtain ⟨rfl, rfl⟩ := hp0
    simp only [List.cons_append, List.nil_append, splice, spliceL]
    refine at_nil ?_
    refine at_normal ?_
    refine hK6 _ _ _ ?_
    refine at_seq_k (fun K7 hK7 => ?_)
    refine at_region ?_
    refine at_v (ov_move rfl rfl) rfl rfl rfl ?_
    refine at_v (ov_move rfl rfl) rfl rfl rfl ?_
    refine at_v (ov_assign rfl rfl) rfl rfl rfl ?_
    refine at_v (ov_assign rfl rfl) rfl rfl rfl ?_
    refine at_v (ov_assign rfl rfl) rfl rfl rfl ?_
    refine at_nil ?_
    refine at_normal ?_
    refine hK7 _ _ _ ?_
    refine at_ret ?_
    refine at_end ?_
    refine at_fin (rsL (vs := [_, _, _]) rfl ⟨res_tmp rfl, res_tmp rfl, res_tmp rfl, trivial⟩ rfl) ?_
    refine ⟨_, ⟨rfl, rfl⟩, ?_⟩
    exact fun _ s => s.finEq (ks := [0]) (js := []) rfl rfl rfl
theorem T22 (w0 : World) {g : Nat} {most idle wm last : Int} {L : List Int} {cs : List XM} (se : Int) :
    Tri Tryz.prog w0 22 [ptrTo g, .int .i64 se] [PoolA g most idle wm last L cs] fun v m => v = .bool (!decide (atL L se 0 = -1)) ∧ m = [PoolA g most idle wm last (dropW L se) cs] := by
  refine tri_of Tryz.func22 rfl rfl fun F => ?_
  simp only [Tryz.ntmps22, argEnv, List.cons_append, List.nil_append]
  refine at_pool fun wb mb gs hl => ?_
  refine at_seq_k (fun K0 hK0 => ?_)
  refine at_region ?_
  refine at_v (ov_assign rfl rfl) rfl rfl rfl ?_
  refine at_nil ?_
  refine at_normal ?_
  refine hK0 _ _ _ ?_
  refine at_seq_k (fun K1 hK1 => ?_)
  refine at_region ?_
  refine at_v (ov_move rfl rfl) rfl rfl rfl ?_
  refine at_v (ov_nilCheck rfl rfl) rfl rfl rfl ?_
  refine at_v (ov_fieldAddr (k := 2) (r := 2) rfl rfl rfl rfl) rfl rfl rfl ?_
  refine at_v (ov_load rfl rfl rfl (fun _ s => s.ld (k := 0) rfl rfl)) rfl rfl rfl ?_
  refine at_v (ov_move rfl rfl) rfl rfl rfl ?_
  refine at_t (ot_call (ks := [1]) rfl rfl rfl Tryz.call52 rfl (T52 _ _) rfl) rfl rfl rfl ?_
  rintro v0 _ ⟨m0, hp0, rfl⟩
  obtain ⟨rfl, rfl⟩ := hp0
  simp only [List.cons_append, List.nil_append, splice, spliceL]
  refine at_v (ov_assign rfl rfl) rfl rfl rfl ?_
  refine at_nil ?_
  refine at_normal ?_
  refine hK1 _ _ _ ?_
  refine at_ret ?_
  refine at_end ?_
  refine at_fold (A := PoolA g most idle wm last (dropW L se) cs) [1, 0, 0, 0] rfl (fun h s => ⟨wb, mb, gs, hl, s⟩) ?_
  refine at_fin (rsV rfl (res_tmp rfl)) ?_
  refine ⟨_, ⟨rfl, rfl⟩, ?_⟩
  exact fun _ s => s.finEq (ks := [0]) (js := []) rfl rfl rfl
theorem T14 (w0 : World) {g : Nat} {most idle wm last : Int} {L : List Int} {cs : List XM} : Tri Tryz.prog w0 14 [ptrTo g] [PoolA g most idle wm last L cs] fun v m => ∃ A c, v = .slice A L.length c ∧ m = [Row wE 3 1 A c L, PoolA g most idle wm last L cs] := by
  refine tri_of Tryz.func14 rfl rfl fun F => ?_
  simp only [Tryz.ntmps14, argEnv, List.cons_append, List.nil_append]
  refine at_pool fun wb mb gs hl => ?_
  refine at_seq_k (fun K0 hK0 => ?_)
  refine at_region ?_
  refine at_v (ov_assign rfl rfl) rfl rfl rfl ?_
  refine at_nil ?_
  refine at_normal ?_
  refine hK0 _ _ _ ?_
  refine at_seq_k (fun K1 hK1 => ?_)
  refine at_region ?_
  refine at_v (ov_move rfl rfl) rfl rfl rfl ?_
  refine at_v (ov_nilCheck rfl rfl) rfl rfl rfl ?_
  refine at_v (ov_fieldAddr (k := 2) (r := 2) rfl rfl rfl rfl) rfl rfl rfl ?_
  refine at_v (ov_load rfl rfl rfl (fun _ s => s.ld (k := 0) rfl rfl)) rfl rfl rfl ?_
  refine at_t (ot_call (ks := [1]) rfl rfl rfl Tryz.call42 rfl (T42 _) rfl) rfl rfl rfl ?_
  rintro v0 _ ⟨m0, hp0, rfl⟩
  obtain ⟨A0, hp0⟩ := hp0
  obtain ⟨c0, hp0⟩ := hp0
  obtain ⟨rfl, rfl⟩ := hp0
  simp only [List.cons_append, List.nil_append, splice, spliceL]
  refine at_v (ov_assign rfl rfl) rfl rfl rfl ?_
  refine at_nil ?_
  refine at_normal ?_
  refine hK1 _ _ _ ?_
  refine at_ret ?_
  refine at_end ?_
  refine at_fold (A := PoolA g most idle wm last L cs) [2, 1, 1, 1] rfl (fun h s => ⟨wb, mb, gs, hl, s⟩) ?_
  refine at_fin (rsV rfl (res_tmp rfl)) ?_
  refine ⟨_, ⟨_, _, rfl, rfl⟩, ?_⟩
  exact fun _ s => s.finEq (ks := [1, 0]) (js := []) rfl rfl rfl
theorem hasB_no {L : List Int} {cs : List XM} {se : Int} (h : hasB L cs se = false) : atL L se 0 = -1 := by
  rcases atL_spec L se 0 (Int.le_refl _) with ⟨h1, _⟩ | ⟨k, h1, _⟩
  · exact h1
  · simp only [hasB, Bool.or_eq_false_iff, decide_eq_false_iff_not] at h
    omega
def putM (wm : Int) (L : List Int) (se : Int) : Int × List Int := if (L.length : Int) = wm then (5, L) else (13, L ++ [se])
def acqM (most wm last : Int) (L : List Int) (cs : List XM) (se e now : Int) : Int × Int × Int × List Int × List XM :=
  if se < 1 then (0, 1, last, L, cs) else if hasB L cs se = true then (0, 7, last, L, cs) else
  match L with
  | [] => if (giveM most last cs se e now).2.1 = true then ((giveM most last cs se e now).1, 0, (giveM most last cs se e now).2.2.1, [], (giveM most last cs se e now).2.2.2)
    else (0, (putM wm [] se).1, (giveM most last cs se e now).2.2.1, (putM wm [] se).2, (giveM most last cs se e now).2.2.2)
  | x :: r => (0, (putM wm (x :: r) se).1, last, (putM wm (x :: r) se).2, cs)
def serveM (most last : Int) (L : List Int) (cs : List XM) (e now : Int) : Int × Int × Bool × Int × List Int × List XM :=
  match L with
  | [] => (0, 0, false, last, [], cs)
  | x :: r => if (giveM most last cs x e now).2.1 = true then (x, (giveM most last cs x e now).1, true, (giveM most last cs x e now).2.2.1, r, (giveM most last cs x e now).2.2.2)
    else (0, 0, false, (giveM most last cs x e now).2.2.1, x :: r, (giveM most last cs x e now).2.2.2)
theorem put_full (w0 : World) {g : Nat} {most : Int} {L : List Int} (id : Int) (hat : atL L id 0 = -1) (hf : (L.length : Int) = most) : Tri Tryz.prog w0 45 [ptrTo g, .int .i64 id] [WaitA g most L] fun v m => v = .int .i64 5 ∧ m = [WaitA g most L] :=
  (T45 w0 id).post fun v m h => by rw [if_neg (by simp [hat]), if_pos hf, if_neg (fun k => k.2 hf)] at h; exact h
theorem put_ok (w0 : World) {g : Nat} {most : Int} {L : List Int} (id : Int) (hat : atL L id 0 = -1) (hf : (L.length : Int) ≠ most) : Tri Tryz.prog w0 45 [ptrTo g, .int .i64 id] [WaitA g most L] fun v m => v = .int .i64 0 ∧ m = [WaitA g most (L ++ [id])] :=
  (T45 w0 id).post fun v m h => by rw [if_neg (by simp [hat]), if_neg hf, if_pos ⟨hat, hf⟩] at h; exact h
theorem T15 (w0 : World) {g : Nat} {most idle wm last : Int} {L : List Int} {cs : List XM} (se e now : Int) (hs : (cs.map (·.1)).Pairwise (· < ·)) (h6 : cs.length ≤ 6) (ho : Open4 cs) (hlast : 0 ≤ last ∧ last ≤ 1000) (hids : ∀ x ∈ cs, x.1 ≤ last) :
    Tri Tryz.prog w0 15 [ptrTo g, .int .i64 se, .int .u64 e, .int .u64 now] [PoolA g most idle wm last L cs] fun v m => v = .tuple #[.int .i64 (acqM most wm last L cs se e now).1, .int .i64 (acqM most wm last L cs se e now).2.1] ∧ m = [PoolA g most idle wm (acqM most wm last L cs se e now).2.2.1 (acqM most wm last L cs se e now).2.2.2.1 (acqM most wm last L cs se e now).2.2.2.2] := by
  refine tri_of Tryz.func15 rfl rfl fun F => ?_
  simp only [Tryz.ntmps15, argEnv, List.cons_append, List.nil_append]
  obtain ⟨am, ham⟩ : ∃ am, acqM most wm last L cs se e now = am := ⟨_, rfl⟩
  rw [ham]
  by_cases hi1 : se < 1
  · rw [show am = (0, 1, last, L, cs) by rw [← ham]; unfold acqM; rw [if_pos hi1]]
    refine at_seq_k (fun K0 hK0 => ?_)
    refine at_region ?_
    refine at_v (ov_assign rfl rfl) rfl rfl rfl ?_
    refine at_v (ov_assign rfl rfl) rfl rfl rfl ?_
    refine at_nil ?_
    refine at_normal ?_
    refine hK0 _ _ _ ?_
    refine at_seq_k (fun K1 hK1 => ?_)
    refine at_block ?_
    refine at_seq_k (fun K2 hK2 => ?_)
    refine at_region ?_
    refine at_v (ov_move rfl rfl) rfl rfl rfl ?_
    refine at_v (ov_int rfl rfl rfl rfl) rfl rfl rfl ?_
    refine at_v (ov_assign rfl rfl) rfl rfl rfl ?_
    refine at_nil ?_
    refine at_normal ?_
    refine hK2 _ _ _ ?_
    refine at_cond_true (congrArg (fun b => some (Value.bool b)) (show _ = true from decide_eq_true (by omega))) ?_
    refine at_seq_k (fun K3 hK3 => ?_)
    refine at_region ?_
    refine at_v (ov_assign rfl rfl) rfl rfl rfl ?_
    refine at_v (ov_assign rfl rfl) rfl rfl rfl ?_
    refine at_nil ?_
    refine at_normal ?_
    refine hK3 _ _ _ ?_
    refine at_ret ?_
    refine at_inb_ret ?_
    refine at_then_ret ?_
    refine at_end ?_
    refine at_fin (rsL (vs := [_, _]) rfl ⟨res_tmp rfl, res_tmp rfl, trivial⟩ rfl) ?_
    refine ⟨_, ⟨rfl, rfl⟩, ?_⟩
    exact fun _ s => s.finEq (ks := [0]) (js := []) rfl rfl rfl
  · cases hi2 : hasB L cs se with
    | true =>
      rw [show am = (0, 7, last, L, cs) by rw [← ham]; unfold acqM; rw [if_neg hi1, if_pos hi2]]
      refine at_seq_k (fun K0 hK0 => ?_)
      refine at_region ?_
      refine at_v (ov_assign rfl rfl) rfl rfl rfl ?_
      refine at_v (ov_assign rfl rfl) rfl rfl rfl ?_
      refine at_nil ?_
      refine at_normal ?_
      refine hK0 _ _ _ ?_
      refine at_seq_k (fun K1 hK1 => ?_)
      refine at_block ?_
      refine at_seq_k (fun K2 hK2 => ?_)
      refine at_region ?_
      refine at_v (ov_move rfl rfl) rfl rfl rfl ?_
      refine at_v (ov_int rfl rfl rfl rfl) rfl rfl rfl ?_
      refine at_v (ov_assign rfl rfl) rfl rfl rfl ?_
      refine at_nil ?_
      refine at_normal ?_
      refine hK2 _ _ _ ?_
      refine at_cond_false (congrArg (fun b => some (Value.bool b)) (show _ = false from decide_eq_false (by omega))) ?_
      refine at_seq_k (fun K3 hK3 => ?_)
      refine at_region ?_
      refine at_v (ov_move rfl rfl) rfl rfl rfl ?_
      refine at_v (ov_move rfl rfl) rfl rfl rfl ?_
      refine at_t (ot_call (ks := [0]) rfl rfl rfl Tryz.call43 rfl (T43 _ _ (by first | assumption | rfl | omega | decide | (simp; done) | (simp at *; omega)) (by first | assumption | rfl | omega | decide | (simp; done) | (simp at *; omega)) (by first | assumption | rfl | omega | decide | (simp; done) | (simp at *; omega))) rfl) rfl rfl rfl ?_
      rintro v0 _ ⟨m0, hp0, rfl⟩
      obtain ⟨rfl, rfl⟩ := hp0
      simp only [List.cons_append, List.nil_append, splice, spliceL]
      refine at_v (ov_assign rfl rfl) rfl rfl rfl ?_
      refine at_nil ?_
      refine at_normal ?_
      refine hK3 _ _ _ ?_
      refine at_cond_true (congrArg (fun b => some (Value.bool b)) (show _ = true from by first | assumption | (rw [Bool.not_eq_true']; exact decide_eq_false (by omega)))) ?_
      refine at_seq_k (fun K4 hK4 => ?_)
      refine at_region ?_
      refine at_v (ov_assign rfl rfl) rfl rfl rfl ?_
      refine at_v (ov_assign rfl rfl) rfl rfl rfl ?_
      refine at_nil ?_
      refine at_normal ?_
      refine hK4 _ _ _ ?_
      refine at_ret ?_
      refine at_inb_ret ?_
      refine at_then_ret ?_
      refine at_end ?_
      refine at_fin (rsL (vs := [_, _]) rfl ⟨res_tmp rfl, res_tmp rfl, trivial⟩ rfl) ?_
      refine ⟨_, ⟨rfl, rfl⟩, ?_⟩
      exact fun _ s => s.finEq (ks := [0]) (js := []) rfl rfl rfl
    | false =>
      have hat := hasB_no hi2
      cases L with
      | nil =>
        obtain ⟨gi, gb, gl, gcs, hg⟩ : ∃ gi gb gl gcs, giveM most last cs se e now = (gi, gb, gl, gcs) := ⟨_, _, _, _, rfl⟩
        cases gb with
        | true =>
          have hi3 : (giveM most last cs se e now).2.1 = true := by rw [hg]
          rw [show am = (gi, 0, gl, [], gcs) by rw [← ham]; unfold acqM; rw [if_neg hi1, if_neg (by simp [hi2])]; simp only [hg, if_true]]
          refine at_seq_k (fun K0 hK0 => ?_)
          refine at_region ?_
          refine at_v (ov_assign rfl rfl) rfl rfl rfl ?_
          refine at_v (ov_assign rfl rfl) rfl rfl rfl ?_
          refine at_nil ?_
          refine at_normal ?_
          refine hK0 _ _ _ ?_
          refine at_seq_k (fun K1 hK1 => ?_)
          refine at_block ?_
          refine at_seq_k (fun K2 hK2 => ?_)
          refine at_region ?_
          refine at_v (ov_move rfl rfl) rfl rfl rfl ?_
          refine at_v (ov_int rfl rfl rfl rfl) rfl rfl rfl ?_
          refine at_v (ov_assign rfl rfl) rfl rfl rfl ?_
          refine at_nil ?_
          refine at_normal ?_
          refine hK2 _ _ _ ?_
          refine at_cond_false (congrArg (fun b => some (Value.bool b)) (show _ = false from decide_eq_false (by omega))) ?_
          refine at_seq_k (fun K3 hK3 => ?_)
          refine at_region ?_
          refine at_v (ov_move rfl rfl) rfl rfl rfl ?_
          refine at_v (ov_move rfl rfl) rfl rfl rfl ?_
          refine at_t (ot_call (ks := [0]) rfl rfl rfl Tryz.call43 rfl (T43 _ _ (by first | assumption | rfl | omega | decide | (simp; done) | (simp at *; omega)) (by first | assumption | rfl | omega | decide | (simp; done) | (simp at *; omega)) (by first | assumption | rfl | omega | decide | (simp; done) | (simp at *; omega))) rfl) rfl rfl rfl ?_
          rintro v0 _ ⟨m0, hp0, rfl⟩
          obtain ⟨rfl, rfl⟩ := hp0
          simp only [List.cons_append, List.nil_append, splice, spliceL]
          refine at_v (ov_assign rfl rfl) rfl rfl rfl ?_
          refine at_nil ?_
          refine at_normal ?_
          refine hK3 _ _ _ ?_
          refine at_cond_false (congrArg (fun b => some (Value.bool b)) (show _ = false from by first | assumption | (rw [Bool.not_eq_false']; exact decide_eq_true (by omega)))) ?_
          refine at_skip ?_
          refine at_inb_normal ?_
          refine at_normal ?_
          refine hK1 _ _ _ ?_
          refine at_seq_k (fun K4 hK4 => ?_)
          refine at_seq_k (fun K5 hK5 => ?_)
          refine at_region ?_
          refine at_v (ov_move rfl rfl) rfl rfl rfl ?_
          refine at_v (ov_nilCheck rfl rfl) rfl rfl rfl ?_
          refine at_v (ov_fieldAddr (k := 2) (r := 2) rfl rfl rfl rfl) rfl rfl rfl ?_
          refine at_pool fun wb mb gs hl => ?_
          refine at_v (ov_load rfl rfl rfl (fun _ s => s.ld (k := 0) rfl rfl)) rfl rfl rfl ?_
          refine at_t (ot_call (ks := [1]) rfl rfl rfl Tryz.call42 rfl (T42 _) rfl) rfl rfl rfl ?_
          rintro v0 _ ⟨m0, hp0, rfl⟩
          obtain ⟨A0, hp0⟩ := hp0
          obtain ⟨c0, hp0⟩ := hp0
          obtain ⟨rfl, rfl⟩ := hp0
          simp only [List.cons_append, List.nil_append, splice, spliceL]
          refine at_v (ov_len_slice rfl Tryz.underlying45 rfl) rfl rfl rfl ?_
          refine at_v (ov_int rfl rfl rfl rfl) rfl rfl rfl ?_
          refine at_nil ?_
          refine at_normal ?_
          refine hK5 _ _ _ ?_
          refine at_cond_true rfl ?_
          refine at_seq_k (fun K6 hK6 => ?_)
          refine at_region ?_
          refine at_v (ov_move rfl rfl) rfl rfl rfl ?_
          refine at_v (ov_move rfl rfl) rfl rfl rfl ?_
          refine at_v (ov_move rfl rfl) rfl rfl rfl ?_
          refine at_v (ov_move rfl rfl) rfl rfl rfl ?_
          refine at_fold (A := PoolA g most idle wm last [] cs) [2, 1, 1, 1] rfl (fun h s => ⟨wb, mb, gs, hl, s⟩) ?_
          refine at_t (ot_call (ks := [0]) rfl rfl rfl Tryz.call44 rfl (T44 _ _ _ _ (by first | assumption | rfl | omega | decide | (simp; done) | (simp at *; omega)) (by first | assumption | rfl | omega | decide | (simp; done) | (simp at *; omega)) (by first | assumption | rfl | omega | decide | (simp; done) | (simp at *; omega)) (by first | assumption | rfl | omega | decide | (simp; done) | (simp at *; omega))) rfl) rfl rfl rfl ?_
          rintro v0 _ ⟨m0, hp0, rfl⟩
          obtain ⟨rfl, rfl⟩ := hp0
          simp only [List.cons_append, List.nil_append, splice, spliceL]
          refine at_v (ov_move rfl rfl) rfl rfl rfl ?_
          refine at_v (ov_extract rfl rfl rfl) rfl rfl rfl ?_
          refine at_v (ov_extract rfl rfl rfl) rfl rfl rfl ?_
          refine at_v (ov_assign rfl rfl) rfl rfl rfl ?_
          refine at_v (ov_assign rfl rfl) rfl rfl rfl ?_
          refine at_nil ?_
          refine at_normal ?_
          refine hK6 _ _ _ ?_
          refine at_seq_k (fun K7 hK7 => ?_)
          refine at_region ?_
          refine at_v (ov_move rfl rfl) rfl rfl rfl ?_
          refine at_nil ?_
          refine at_normal ?_
          refine hK7 _ _ _ ?_
          refine at_cond_true (congrArg (fun b => some (Value.bool b)) (show _ = true from by first | assumption | (rw [Bool.not_eq_true']; exact decide_eq_false (by omega)))) ?_
          refine at_seq_k (fun K8 hK8 => ?_)
          refine at_region ?_
          refine at_v (ov_move rfl rfl) rfl rfl rfl ?_
          refine at_v (ov_assign rfl rfl) rfl rfl rfl ?_
          refine at_v (ov_assign rfl rfl) rfl rfl rfl ?_
          refine at_nil ?_
          refine at_normal ?_
          refine hK8 _ _ _ ?_
          refine at_ret ?_
          refine at_then_ret ?_
          refine at_end ?_
          refine at_fin (rsL (vs := [_, _]) rfl ⟨res_tmp rfl, res_tmp rfl, trivial⟩ rfl) ?_
          rw [hg]
          refine ⟨_, ⟨rfl, rfl⟩, ?_⟩
          exact fun _ s => s.finEq (ks := [0]) (js := [0]) rfl rfl rfl
        | false =>
          have hi3 : (giveM most last cs se e now).2.1 = false := by rw [hg]
          refine at_seq_k (fun K0 hK0 => ?_)
          refine at_region ?_
          refine at_v (ov_assign rfl rfl) rfl rfl rfl ?_
          refine at_v (ov_assign rfl rfl) rfl rfl rfl ?_
          refine at_nil ?_
          refine at_normal ?_
          refine hK0 _ _ _ ?_
          refine at_seq_k (fun K1 hK1 => ?_)
          refine at_block ?_
          refine at_seq_k (fun K2 hK2 => ?_)
          refine at_region ?_
          refine at_v (ov_move rfl rfl) rfl rfl rfl ?_
          refine at_v (ov_int rfl rfl rfl rfl) rfl rfl rfl ?_
          refine at_v (ov_assign rfl rfl) rfl rfl rfl ?_
          refine at_nil ?_
          refine at_normal ?_
          refine hK2 _ _ _ ?_
          refine at_cond_false (congrArg (fun b => some (Value.bool b)) (show _ = false from decide_eq_false (by omega))) ?_
          refine at_seq_k (fun K3 hK3 => ?_)
          refine at_region ?_
          refine at_v (ov_move rfl rfl) rfl rfl rfl ?_
          refine at_v (ov_move rfl rfl) rfl rfl rfl ?_
          refine at_t (ot_call (ks := [0]) rfl rfl rfl Tryz.call43 rfl (T43 _ _ (by first | assumption | rfl | omega | decide | (simp; done) | (simp at *; omega)) (by first | assumption | rfl | omega | decide | (simp; done) | (simp at *; omega)) (by first | assumption | rfl | omega | decide | (simp; done) | (simp at *; omega))) rfl) rfl rfl rfl ?_
          rintro v0 _ ⟨m0, hp0, rfl⟩
          obtain ⟨rfl, rfl⟩ := hp0
          simp only [List.cons_append, List.nil_append, splice, spliceL]
          refine at_v (ov_assign rfl rfl) rfl rfl rfl ?_
          refine at_nil ?_
          refine at_normal ?_
          refine hK3 _ _ _ ?_
          refine at_cond_false (congrArg (fun b => some (Value.bool b)) (show _ = false from by first | assumption | (rw [Bool.not_eq_false']; exact decide_eq_true (by omega)))) ?_
          refine at_skip ?_
          refine at_inb_normal ?_
          refine at_normal ?_
          refine hK1 _ _ _ ?_
          refine at_seq_k (fun K4 hK4 => ?_)
          refine at_seq_k (fun K5 hK5 => ?_)
          refine at_region ?_
          refine at_v (ov_move rfl rfl) rfl rfl rfl ?_
          refine at_v (ov_nilCheck rfl rfl) rfl rfl rfl ?_
          refine at_v (ov_fieldAddr (k := 2) (r := 2) rfl rfl rfl rfl) rfl rfl rfl ?_
          refine at_pool fun wb mb gs hl => ?_
          refine at_v (ov_load rfl rfl rfl (fun _ s => s.ld (k := 0) rfl rfl)) rfl rfl rfl ?_
          refine at_t (ot_call (ks := [1]) rfl rfl rfl Tryz.call42 rfl (T42 _) rfl) rfl rfl rfl ?_
          rintro v0 _ ⟨m0, hp0, rfl⟩
          obtain ⟨A0, hp0⟩ := hp0
          obtain ⟨c0, hp0⟩ := hp0
          obtain ⟨rfl, rfl⟩ := hp0
          simp only [List.cons_append, List.nil_append, splice, spliceL]
          refine at_v (ov_len_slice rfl Tryz.underlying45 rfl) rfl rfl rfl ?_
          refine at_v (ov_int rfl rfl rfl rfl) rfl rfl rfl ?_
          refine at_nil ?_
          refine at_normal ?_
          refine hK5 _ _ _ ?_
          refine at_cond_true rfl ?_
          refine at_seq_k (fun K6 hK6 => ?_)
          refine at_region ?_
          refine at_v (ov_move rfl rfl) rfl rfl rfl ?_
          refine at_v (ov_move rfl rfl) rfl rfl rfl ?_
          refine at_v (ov_move rfl rfl) rfl rfl rfl ?_
          refine at_v (ov_move rfl rfl) rfl rfl rfl ?_
          refine at_fold (A := PoolA g most idle wm last [] cs) [2, 1, 1, 1] rfl (fun h s => ⟨wb, mb, gs, hl, s⟩) ?_
          refine at_t (ot_call (ks := [0]) rfl rfl rfl Tryz.call44 rfl (T44 _ _ _ _ (by first | assumption | rfl | omega | decide | (simp; done) | (simp at *; omega)) (by first | assumption | rfl | omega | decide | (simp; done) | (simp at *; omega)) (by first | assumption | rfl | omega | decide | (simp; done) | (simp at *; omega)) (by first | assumption | rfl | omega | decide | (simp; done) | (simp at *; omega))) rfl) rfl rfl rfl ?_
          rintro v0 _ ⟨m0, hp0, rfl⟩
          obtain ⟨rfl, rfl⟩ := hp0
          simp only [List.cons_append, List.nil_append, splice, spliceL]
          refine at_v (ov_move rfl rfl) rfl rfl rfl ?_
          refine at_v (ov_extract rfl rfl rfl) rfl rfl rfl ?_
          refine at_v (ov_extract rfl rfl rfl) rfl rfl rfl ?_
          refine at_v (ov_assign rfl rfl) rfl rfl rfl ?_
          refine at_v (ov_assign rfl rfl) rfl rfl rfl ?_
          refine at_nil ?_
          refine at_normal ?_
          refine hK6 _ _ _ ?_
          refine at_seq_k (fun K7 hK7 => ?_)
          refine at_region ?_
          refine at_v (ov_move rfl rfl) rfl rfl rfl ?_
          refine at_nil ?_
          refine at_normal ?_
          refine hK7 _ _ _ ?_
          refine at_cond_false (congrArg (fun b => some (Value.bool b)) (show _ = false from by first | assumption | (rw [Bool.not_eq_false']; exact decide_eq_true (by omega)))) ?_
          refine at_skip ?_
          refine at_normal ?_
          refine hK4 _ _ _ ?_
          refine at_seq_k (fun K8 hK8 => ?_)
          refine at_seq_k (fun K9 hK9 => ?_)
          refine at_region ?_
          refine at_v (ov_move rfl rfl) rfl rfl rfl ?_
          refine at_v (ov_nilCheck rfl rfl) rfl rfl rfl ?_
          refine at_v (ov_fieldAddr (k := 2) (r := 2) rfl rfl rfl rfl) rfl rfl rfl ?_
          refine at_pool fun wb mb gs hl2 => ?_
          by_cases hi4 : (([] : List Int).length : Int) = wm
          · have hpm : putM wm ([]) se = (5, []) := if_pos hi4
            have hput := put_full w0 (g := wb) (most := wm) (L := []) se hat hi4
            have ham2 : am = (0, 5, gl, [], gcs) := by rw [← ham]; unfold acqM; rw [if_neg hi1, if_neg (by simp [hi2])]; simp only [hg, hpm, Bool.false_eq_true, if_false]
            refine at_v (ov_load rfl rfl rfl (fun _ s => s.ld (k := 0) rfl rfl)) rfl rfl rfl ?_
            refine at_v (ov_move rfl rfl) rfl rfl rfl ?_
            refine at_t (ot_call (ks := [1]) rfl rfl rfl Tryz.call45 rfl (hput ) rfl) rfl rfl rfl ?_
            rintro v0 _ ⟨m0, hp0, rfl⟩
            obtain ⟨rfl, rfl⟩ := hp0
            simp only [List.cons_append, List.nil_append, splice, spliceL]
            refine at_v (ov_assign rfl rfl) rfl rfl rfl ?_
            refine at_nil ?_
            refine at_normal ?_
            refine hK9 _ _ _ ?_
            refine at_seq_k (fun K10 hK10 => ?_)
            refine at_region ?_
            refine at_v (ov_move rfl rfl) rfl rfl rfl ?_
            refine at_v (ov_int rfl rfl rfl rfl) rfl rfl rfl ?_
            refine at_nil ?_
            refine at_normal ?_
            refine hK10 _ _ _ ?_
            refine at_cond_true rfl ?_
            refine at_seq_k (fun K11 hK11 => ?_)
            refine at_region ?_
            refine at_v (ov_move rfl rfl) rfl rfl rfl ?_
            refine at_v (ov_assign rfl rfl) rfl rfl rfl ?_
            refine at_v (ov_assign rfl rfl) rfl rfl rfl ?_
            refine at_nil ?_
            refine at_normal ?_
            refine hK11 _ _ _ ?_
            refine at_ret ?_
            refine at_then_ret ?_
            refine at_end ?_
            refine at_fold (A := PoolA g most idle wm (giveM most last cs se e now).2.2.1 ([]) (giveM most last cs se e now).2.2.2) [1, 0, 0, 0] rfl (fun h s => ⟨wb, mb, gs, hl2, s⟩) ?_
            refine at_fin (rsL (vs := [_, _]) rfl ⟨res_tmp rfl, res_tmp rfl, trivial⟩ rfl) ?_
            rw [ham2, hg]
            refine ⟨_, ⟨rfl, rfl⟩, ?_⟩
            exact fun _ s => s.finEq (ks := [0]) (js := [0]) rfl rfl rfl
          · have hpm : putM wm ([]) se = (13, [] ++ [se]) := if_neg hi4
            have hput := put_ok w0 (g := wb) (most := wm) (L := []) se hat hi4
            have ham2 : am = (0, 13, gl, [] ++ [se], gcs) := by rw [← ham]; unfold acqM; rw [if_neg hi1, if_neg (by simp [hi2])]; simp only [hg, hpm, Bool.false_eq_true, if_false]
            refine at_v (ov_load rfl rfl rfl (fun _ s => s.ld (k := 0) rfl rfl)) rfl rfl rfl ?_
            refine at_v (ov_move rfl rfl) rfl rfl rfl ?_
            refine at_t (ot_call (ks := [1]) rfl rfl rfl Tryz.call45 rfl (hput ) rfl) rfl rfl rfl ?_
            rintro v0 _ ⟨m0, hp0, rfl⟩
            obtain ⟨rfl, rfl⟩ := hp0
            simp only [List.cons_append, List.nil_append, splice, spliceL]
            refine at_v (ov_assign rfl rfl) rfl rfl rfl ?_
            refine at_nil ?_
            refine at_normal ?_
            refine hK9 _ _ _ ?_
            refine at_seq_k (fun K10 hK10 => ?_)
            refine at_region ?_
            refine at_v (ov_move rfl rfl) rfl rfl rfl ?_
            refine at_v (ov_int rfl rfl rfl rfl) rfl rfl rfl ?_
            refine at_nil ?_
            refine at_normal ?_
            refine hK10 _ _ _ ?_
            refine at_cond_false rfl ?_
            refine at_skip ?_
            refine at_normal ?_
            refine hK8 _ _ _ ?_
            refine at_seq_k (fun K11 hK11 => ?_)
            refine at_region ?_
            refine at_v (ov_assign rfl rfl) rfl rfl rfl ?_
            refine at_v (ov_assign rfl rfl) rfl rfl rfl ?_
            refine at_nil ?_
            refine at_normal ?_
            refine hK11 _ _ _ ?_
            refine at_ret ?_
            refine at_end ?_
            refine at_fold (A := PoolA g most idle wm (giveM most last cs se e now).2.2.1 ([] ++ [se]) (giveM most last cs se e now).2.2.2) [1, 0, 0, 0] rfl (fun h s => ⟨wb, mb, gs, hl2, s⟩) ?_
            refine at_fin (rsL (vs := [_, _]) rfl ⟨res_tmp rfl, res_tmp rfl, trivial⟩ rfl) ?_
            rw [ham2, hg]
            refine ⟨_, ⟨rfl, rfl⟩, ?_⟩
            exact fun _ s => s.finEq (ks := [0]) (js := [0]) rfl rfl rfl
      | cons x r =>
        refine at_seq_k (fun K0 hK0 => ?_)
        refine at_region ?_
        refine at_v (ov_assign rfl rfl) rfl rfl rfl ?_
        refine at_v (ov_assign rfl rfl) rfl rfl rfl ?_
        refine at_nil ?_
        refine at_normal ?_
        refine hK0 _ _ _ ?_
        refine at_seq_k (fun K1 hK1 => ?_)
        refine at_block ?_
        refine at_seq_k (fun K2 hK2 => ?_)
        refine at_region ?_
        refine at_v (ov_move rfl rfl) rfl rfl rfl ?_
        refine at_v (ov_int rfl rfl rfl rfl) rfl rfl rfl ?_
        refine at_v (ov_assign rfl rfl) rfl rfl rfl ?_
        refine at_nil ?_
        refine at_normal ?_
        refine hK2 _ _ _ ?_
        refine at_cond_false (congrArg (fun b => some (Value.bool b)) (show _ = false from decide_eq_false (by omega))) ?_
        refine at_seq_k (fun K3 hK3 => ?_)
        refine at_region ?_
        refine at_v (ov_move rfl rfl) rfl rfl rfl ?_
        refine at_v (ov_move rfl rfl) rfl rfl rfl ?_
        refine at_t (ot_call (ks := [0]) rfl rfl rfl Tryz.call43 rfl (T43 _ _ (by first | assumption | rfl | omega | decide | (simp; done) | (simp at *; omega)) (by first | assumption | rfl | omega | decide | (simp; done) | (simp at *; omega)) (by first | assumption | rfl | omega | decide | (simp; done) | (simp at *; omega))) rfl) rfl rfl rfl ?_
        rintro v0 _ ⟨m0, hp0, rfl⟩
        obtain ⟨rfl, rfl⟩ := hp0
        simp only [List.cons_append, List.nil_append, splice, spliceL]
        refine at_v (ov_assign rfl rfl) rfl rfl rfl ?_
        refine at_nil ?_
        refine at_normal ?_
        refine hK3 _ _ _ ?_
        refine at_cond_false (congrArg (fun b => some (Value.bool b)) (show _ = false from by first | assumption | (rw [Bool.not_eq_false']; exact decide_eq_true (by omega)))) ?_
        refine at_skip ?_
        refine at_inb_normal ?_
        refine at_normal ?_
        refine hK1 _ _ _ ?_
        refine at_seq_k (fun K4 hK4 => ?_)
        refine at_seq_k (fun K5 hK5 => ?_)
        refine at_region ?_
        refine at_v (ov_move rfl rfl) rfl rfl rfl ?_
        refine at_v (ov_nilCheck rfl rfl) rfl rfl rfl ?_
        refine at_v (ov_fieldAddr (k := 2) (r := 2) rfl rfl rfl rfl) rfl rfl rfl ?_
        refine at_pool fun wb mb gs hl => ?_
        by_cases hi4 : ((x :: r : List Int).length : Int) = wm
        · have hpm : putM wm (x :: r) se = (5, x :: r) := if_pos hi4
          have hput := put_full w0 (g := wb) (most := wm) (L := x :: r) se hat hi4
          have ham2 : am = (0, 5, last, x :: r, cs) := by rw [← ham]; unfold acqM; rw [if_neg hi1, if_neg (by simp [hi2])]; simp only [hpm]
          refine at_v (ov_load rfl rfl rfl (fun _ s => s.ld (k := 0) rfl rfl)) rfl rfl rfl ?_
          refine at_t (ot_call (ks := [1]) rfl rfl rfl Tryz.call42 rfl (T42 _) rfl) rfl rfl rfl ?_
          rintro v0 _ ⟨m0, hp0, rfl⟩
          obtain ⟨A0, hp0⟩ := hp0
          obtain ⟨c0, hp0⟩ := hp0
          obtain ⟨rfl, rfl⟩ := hp0
          simp only [List.cons_append, List.nil_append, splice, spliceL]
          refine at_v (ov_len_slice rfl Tryz.underlying45 rfl) rfl rfl rfl ?_
          refine at_v (ov_int rfl rfl rfl rfl) rfl rfl rfl ?_
          refine at_nil ?_
          refine at_normal ?_
          refine hK5 _ _ _ ?_
          refine at_cond_false rfl ?_
          refine at_skip ?_
          refine at_normal ?_
          refine hK4 _ _ _ ?_
          refine at_seq_k (fun K6 hK6 => ?_)
          refine at_seq_k (fun K7 hK7 => ?_)
          refine at_region ?_
          refine at_v (ov_move rfl rfl) rfl rfl rfl ?_
          refine at_v (ov_nilCheck rfl rfl) rfl rfl rfl ?_
          refine at_v (ov_fieldAddr (k := 2) (r := 2) rfl rfl rfl rfl) rfl rfl rfl ?_
          refine at_v (ov_load rfl rfl rfl (fun _ s => s.ld (k := 2) rfl rfl)) rfl rfl rfl ?_
          refine at_v (ov_move rfl rfl) rfl rfl rfl ?_
          refine at_t (ot_call (ks := [1]) rfl rfl rfl Tryz.call45 rfl (hput ) rfl) rfl rfl rfl ?_
          rintro v0 _ ⟨m0, hp0, rfl⟩
          obtain ⟨rfl, rfl⟩ := hp0
          simp only [List.cons_append, List.nil_append, splice, spliceL]
          refine at_v (ov_assign rfl rfl) rfl rfl rfl ?_
          refine at_nil ?_
          refine at_normal ?_
          refine hK7 _ _ _ ?_
          refine at_seq_k (fun K8 hK8 => ?_)
          refine at_region ?_
          refine at_v (ov_move rfl rfl) rfl rfl rfl ?_
          refine at_v (ov_int rfl rfl rfl rfl) rfl rfl rfl ?_
          refine at_nil ?_
          refine at_normal ?_
          refine hK8 _ _ _ ?_
          refine at_cond_true rfl ?_
          refine at_seq_k (fun K9 hK9 => ?_)
          refine at_region ?_
          refine at_v (ov_move rfl rfl) rfl rfl rfl ?_
          refine at_v (ov_assign rfl rfl) rfl rfl rfl ?_
          refine at_v (ov_assign rfl rfl) rfl rfl rfl ?_
          refine at_nil ?_
          refine at_normal ?_
          refine hK9 _ _ _ ?_
          refine at_ret ?_
          refine at_then_ret ?_
          refine at_end ?_
          refine at_fold (A := PoolA g most idle wm last (x :: r) cs) [2, 0, 1, 1] rfl (fun h s => ⟨wb, mb, gs, hl, s⟩) ?_
          refine at_fin (rsL (vs := [_, _]) rfl ⟨res_tmp rfl, res_tmp rfl, trivial⟩ rfl) ?_
          rw [ham2]
          refine ⟨_, ⟨rfl, rfl⟩, ?_⟩
          exact fun _ s => s.finEq (ks := [0]) (js := [0]) rfl rfl rfl
        · have hpm : putM wm (x :: r) se = (13, x :: r ++ [se]) := if_neg hi4
          have hput := put_ok w0 (g := wb) (most := wm) (L := x :: r) se hat hi4
          have ham2 : am = (0, 13, last, x :: r ++ [se], cs) := by rw [← ham]; unfold acqM; rw [if_neg hi1, if_neg (by simp [hi2])]; simp only [hpm]
          refine at_v (ov_load rfl rfl rfl (fun _ s => s.ld (k := 0) rfl rfl)) rfl rfl rfl ?_
          refine at_t (ot_call (ks := [1]) rfl rfl rfl Tryz.call42 rfl (T42 _) rfl) rfl rfl rfl ?_
          rintro v0 _ ⟨m0, hp0, rfl⟩
          obtain ⟨A0, hp0⟩ := hp0
          obtain ⟨c0, hp0⟩ := hp0
          obtain ⟨rfl, rfl⟩ := hp0
          simp only [List.cons_append, List.nil_append, splice, spliceL]
          refine at_v (ov_len_slice rfl Tryz.underlying45 rfl) rfl rfl rfl ?_
          refine at_v (ov_int rfl rfl rfl rfl) rfl rfl rfl ?_
          refine at_nil ?_
          refine at_normal ?_
          refine hK5 _ _ _ ?_
          refine at_cond_false rfl ?_
          refine at_skip ?_
          refine at_normal ?_
          refine hK4 _ _ _ ?_
          refine at_seq_k (fun K6 hK6 => ?_)
          refine at_seq_k (fun K7 hK7 => ?_)
          refine at_region ?_
          refine at_v (ov_move rfl rfl) rfl rfl rfl ?_
          refine at_v (ov_nilCheck rfl rfl) rfl rfl rfl ?_
          refine at_v (ov_fieldAddr (k := 2) (r := 2) rfl rfl rfl rfl) rfl rfl rfl ?_
          refine at_v (ov_load rfl rfl rfl (fun _ s => s.ld (k := 2) rfl rfl)) rfl rfl rfl ?_
          refine at_v (ov_move rfl rfl) rfl rfl rfl ?_
          refine at_t (ot_call (ks := [1]) rfl rfl rfl Tryz.call45 rfl (hput ) rfl) rfl rfl rfl ?_
          rintro v0 _ ⟨m0, hp0, rfl⟩
          obtain ⟨rfl, rfl⟩ := hp0
          simp only [List.cons_append, List.nil_append, splice, spliceL]
          refine at_v (ov_assign rfl rfl) rfl rfl rfl ?_
          refine at_nil ?_
          refine at_normal ?_
          refine hK7 _ _ _ ?_
          refine at_seq_k (fun K8 hK8 => ?_)
          refine at_region ?_
          refine at_v (ov_move rfl rfl) rfl rfl rfl ?_
          refine at_v (ov_int rfl rfl rfl rfl) rfl rfl rfl ?_
          refine at_nil ?_
          refine at_normal ?_
          refine hK8 _ _ _ ?_
          refine at_cond_false rfl ?_
          refine at_skip ?_
          refine at_normal ?_
          refine hK6 _ _ _ ?_
          refine at_seq_k (fun K9 hK9 => ?_)
          refine at_region ?_
          refine at_v (ov_assign rfl rfl) rfl rfl rfl ?_
          refine at_v (ov_assign rfl rfl) rfl rfl rfl ?_
          refine at_nil ?_
          refine at_normal ?_
          refine hK9 _ _ _ ?_
          refine at_ret ?_
          refine at_end ?_
          refine at_fold (A := PoolA g most idle wm last (x :: r ++ [se]) cs) [2, 0, 1, 1] rfl (fun h s => ⟨wb, mb, gs, hl, s⟩) ?_
          refine at_fin (rsL (vs := [_, _]) rfl ⟨res_tmp rfl, res_tmp rfl, trivial⟩ rfl) ?_
          rw [ham2]
          refine ⟨_, ⟨rfl, rfl⟩, ?_⟩
          exact fun _ s => s.finEq (ks := [0]) (js := [0]) rfl rfl rfl
theorem T19 (w0 : World) {g : Nat} {most idle wm last : Int} {L : List Int} {cs : List XM} (e now : Int) (hs : (cs.map (·.1)).Pairwise (· < ·)) (h6 : cs.length ≤ 6) (ho : Open4 cs) (hlast : 0 ≤ last ∧ last ≤ 1000) (hids : ∀ x ∈ cs, x.1 ≤ last) :
    Tri Tryz.prog w0 19 [ptrTo g, .int .u64 e, .int .u64 now] [PoolA g most idle wm last L cs] fun v m => v = .tuple #[.int .i64 (serveM most last L cs e now).1, .int .i64 (serveM most last L cs e now).2.1, .bool (serveM most last L cs e now).2.2.1] ∧ m = [PoolA g most idle wm (serveM most last L cs e now).2.2.2.1 (serveM most last L cs e now).2.2.2.2.1 (serveM most last L cs e now).2.2.2.2.2] := by
  refine tri_of Tryz.func19 rfl rfl fun F => ?_
  simp only [Tryz.ntmps19, argEnv, List.cons_append, List.nil_append]
  cases L with
  | nil =>
    refine at_pool fun wb mb gs hl => ?_
    refine at_seq_k (fun K0 hK0 => ?_)
    refine at_region ?_
    refine at_v (ov_assign rfl rfl) rfl rfl rfl ?_
    refine at_v (ov_assign rfl rfl) rfl rfl rfl ?_
    refine at_v (ov_assign rfl rfl) rfl rfl rfl ?_
    refine at_nil ?_
    refine at_normal ?_
    refine hK0 _ _ _ ?_
    refine at_seq_k (fun K1 hK1 => ?_)
    refine at_region ?_
    refine at_v (ov_move rfl rfl) rfl rfl rfl ?_
    refine at_v (ov_nilCheck rfl rfl) rfl rfl rfl ?_
    refine at_v (ov_fieldAddr (k := 2) (r := 2) rfl rfl rfl rfl) rfl rfl rfl ?_
    refine at_v (ov_load rfl rfl rfl (fun _ s => s.ld (k := 0) rfl rfl)) rfl rfl rfl ?_
    refine at_t (ot_call (ks := [1]) rfl rfl rfl Tryz.call42 rfl (T42 _) rfl) rfl rfl rfl ?_
    rintro v0 _ ⟨m0, hp0, rfl⟩
    obtain ⟨A0, hp0⟩ := hp0
    obtain ⟨c0, hp0⟩ := hp0
    obtain ⟨rfl, rfl⟩ := hp0
    simp only [List.cons_append, List.nil_append, splice, spliceL]
    refine at_v (ov_assign rfl rfl) rfl rfl rfl ?_
    refine at_nil ?_
    refine at_normal ?_
    refine hK1 _ _ _ ?_
    refine at_seq_k (fun K2 hK2 => ?_)
    refine at_seq_k (fun K3 hK3 => ?_)
    refine at_region ?_
    refine at_v (ov_move rfl rfl) rfl rfl rfl ?_
    refine at_v (ov_len_slice rfl Tryz.underlying45 rfl) rfl rfl rfl ?_
    refine at_v (ov_int rfl rfl rfl rfl) rfl rfl rfl ?_
    refine at_nil ?_
    refine at_normal ?_
    refine hK3 _ _ _ ?_
    refine at_cond_true rfl ?_
    refine at_seq_k (fun K4 hK4 => ?_)
    refine at_region ?_
    refine at_v (ov_assign rfl rfl) rfl rfl rfl ?_
    refine at_v (ov_assign rfl rfl) rfl rfl rfl ?_
    refine at_v (ov_assign rfl rfl) rfl rfl rfl ?_
    refine at_nil ?_
    refine at_normal ?_
    refine hK4 _ _ _ ?_
    refine at_ret ?_
    refine at_then_ret ?_
    refine at_end ?_
    refine at_fold (A := PoolA g most idle wm last [] cs) [2, 1, 1, 1] rfl (fun h s => ⟨wb, mb, gs, hl, s⟩) ?_
    refine at_fin (rsL (vs := [_, _, _]) rfl ⟨res_tmp rfl, res_tmp rfl, res_tmp rfl, trivial⟩ rfl) ?_
    rw [show serveM most last [] cs e now = (0, 0, false, last, [], cs) from rfl]
    refine ⟨_, ⟨rfl, rfl⟩, ?_⟩
    exact fun _ s => s.finEq (ks := [0]) (js := [0]) rfl rfl rfl
  | cons x r =>
    have hcat : (x :: r)[0]? = some x := rfl
    obtain ⟨gi, gb, gl, gcs, hg⟩ : ∃ gi gb gl gcs, giveM most last cs x e now = (gi, gb, gl, gcs) := ⟨_, _, _, _, rfl⟩
    refine at_pool fun wb mb gs hl => ?_
    refine at_seq_k (fun K0 hK0 => ?_)
    refine at_region ?_
    refine at_v (ov_assign rfl rfl) rfl rfl rfl ?_
    refine at_v (ov_assign rfl rfl) rfl rfl rfl ?_
    refine at_v (ov_assign rfl rfl) rfl rfl rfl ?_
    refine at_nil ?_
    refine at_normal ?_
    refine hK0 _ _ _ ?_
    refine at_seq_k (fun K1 hK1 => ?_)
    refine at_region ?_
    refine at_v (ov_move rfl rfl) rfl rfl rfl ?_
    refine at_v (ov_nilCheck rfl rfl) rfl rfl rfl ?_
    refine at_v (ov_fieldAddr (k := 2) (r := 2) rfl rfl rfl rfl) rfl rfl rfl ?_
    refine at_v (ov_load rfl rfl rfl (fun _ s => s.ld (k := 0) rfl rfl)) rfl rfl rfl ?_
    refine at_t (ot_call (ks := [1]) rfl rfl rfl Tryz.call42 rfl (T42 _) rfl) rfl rfl rfl ?_
    rintro v0 _ ⟨m0, hp0, rfl⟩
    obtain ⟨A0, hp0⟩ := hp0
    obtain ⟨c0, hp0⟩ := hp0
    obtain ⟨rfl, rfl⟩ := hp0
    simp only [List.cons_append, List.nil_append, splice, spliceL]
    refine at_v (ov_assign rfl rfl) rfl rfl rfl ?_
    refine at_nil ?_
    refine at_normal ?_
    refine hK1 _ _ _ ?_
    refine at_seq_k (fun K2 hK2 => ?_)
    refine at_seq_k (fun K3 hK3 => ?_)
    refine at_region ?_
    refine at_v (ov_move rfl rfl) rfl rfl rfl ?_
    refine at_v (ov_len_slice rfl Tryz.underlying45 rfl) rfl rfl rfl ?_
    refine at_v (ov_int rfl rfl rfl rfl) rfl rfl rfl ?_
    refine at_nil ?_
    refine at_normal ?_
    refine hK3 _ _ _ ?_
    refine at_cond_false rfl ?_
    refine at_skip ?_
    refine at_normal ?_
    refine hK2 _ _ _ ?_
    refine at_seq_k (fun K4 hK4 => ?_)
    refine at_region ?_
    refine at_v (ov_move rfl rfl) rfl rfl rfl ?_
    refine at_v (ov_move rfl rfl) rfl rfl rfl ?_
    refine at_v (ov_indexRd (fun _ s => s.rd (k := 0) rfl) rfl Tryz.underlying45 rfl rfl rfl hcat) rfl rfl rfl ?_
    refine at_v (ov_loadRd0 (fun _ s => s.rd (k := 0) rfl) rfl rfl rfl hcat rfl) rfl rfl rfl ?_
    refine at_v (ov_move rfl rfl) rfl rfl rfl ?_
    refine at_v (ov_move rfl rfl) rfl rfl rfl ?_
    refine at_fold (A := PoolA g most idle wm last (x :: r) cs) [2, 1, 1, 1] rfl (fun h s => ⟨wb, mb, gs, hl, s⟩) ?_
    cases gb with
    | true =>
      have hi3 : (giveM most last cs x e now).2.1 = true := by rw [hg]
      have hsm : serveM most last (x :: r) cs e now = (x, gi, true, gl, r, gcs) := by unfold serveM; simp only [hg, if_true]
      refine at_t (ot_call (ks := [0]) rfl rfl rfl Tryz.call44 rfl (T44 _ _ _ _ (by first | assumption | rfl | omega | decide | (simp; done) | (simp at *; omega)) (by first | assumption | rfl | omega | decide | (simp; done) | (simp at *; omega)) (by first | assumption | rfl | omega | decide | (simp; done) | (simp at *; omega)) (by first | assumption | rfl | omega | decide | (simp; done) | (simp at *; omega))) rfl) rfl rfl rfl ?_
      rintro v0 _ ⟨m0, hp0, rfl⟩
      obtain ⟨rfl, rfl⟩ := hp0
      simp only [List.cons_append, List.nil_append, splice, spliceL]
      refine at_v (ov_move rfl rfl) rfl rfl rfl ?_
      refine at_v (ov_extract rfl rfl rfl) rfl rfl rfl ?_
      refine at_v (ov_extract rfl rfl rfl) rfl rfl rfl ?_
      refine at_v (ov_assign rfl rfl) rfl rfl rfl ?_
      refine at_v (ov_assign rfl rfl) rfl rfl rfl ?_
      refine at_nil ?_
      refine at_normal ?_
      refine hK4 _ _ _ ?_
      refine at_seq_k (fun K5 hK5 => ?_)
      refine at_seq_k (fun K6 hK6 => ?_)
      refine at_region ?_
      refine at_v (ov_move rfl rfl) rfl rfl rfl ?_
      refine at_v (ov_not rfl rfl) rfl rfl rfl ?_
      refine at_nil ?_
      refine at_normal ?_
      refine hK6 _ _ _ ?_
      refine at_cond_false (congrArg (fun b => some (Value.bool b)) (show _ = false from by simp [hi3]; done)) ?_
      refine at_skip ?_
      refine at_normal ?_
      refine hK5 _ _ _ ?_
      refine at_seq_k (fun K7 hK7 => ?_)
      refine at_region ?_
      refine at_v (ov_move rfl rfl) rfl rfl rfl ?_
      refine at_v (ov_nilCheck rfl rfl) rfl rfl rfl ?_
      refine at_v (ov_fieldAddr (k := 2) (r := 2) rfl rfl rfl rfl) rfl rfl rfl ?_
      refine at_pool fun wb mb gs hl2 => ?_
      refine at_v (ov_load rfl rfl rfl (fun _ s => s.ld (k := 0) rfl rfl)) rfl rfl rfl ?_
      refine at_t (ot_call (ks := [1]) rfl rfl rfl Tryz.call51 rfl (T51 _) rfl) rfl rfl rfl ?_
      rintro v0 _ ⟨m0, hp0, rfl⟩
      obtain ⟨rfl, rfl⟩ := hp0
      simp only [List.cons_append, List.nil_append, splice, spliceL]
      refine at_nil ?_
      refine at_normal ?_
      refine hK7 _ _ _ ?_
      refine at_seq_k (fun K8 hK8 => ?_)
      refine at_region ?_
      refine at_v (ov_move rfl rfl) rfl rfl rfl ?_
      refine at_v (ov_indexRd (fun _ s => s.rd (k := 4) rfl) rfl Tryz.underlying45 rfl rfl rfl hcat) rfl rfl rfl ?_
      refine at_v (ov_loadRd0 (fun _ s => s.rd (k := 4) rfl) rfl rfl rfl hcat rfl) rfl rfl rfl ?_
      refine at_v (ov_move rfl rfl) rfl rfl rfl ?_
      refine at_v (ov_assign rfl rfl) rfl rfl rfl ?_
      refine at_v (ov_assign rfl rfl) rfl rfl rfl ?_
      refine at_v (ov_assign rfl rfl) rfl rfl rfl ?_
      refine at_nil ?_
      refine at_normal ?_
      refine hK8 _ _ _ ?_
      refine at_ret ?_
      refine at_end ?_
      refine at_fold (A := PoolA g most idle wm (giveM most last cs x e now).2.2.1 r (giveM most last cs x e now).2.2.2) [1, 0, 0, 0] rfl (fun h s => ⟨wb, mb, gs, hl2, s⟩) ?_
      refine at_fin (rsL (vs := [_, _, _]) rfl ⟨res_tmp rfl, res_tmp rfl, res_tmp rfl, trivial⟩ rfl) ?_
      rw [hsm, hg]
      refine ⟨_, ⟨rfl, rfl⟩, ?_⟩
      exact fun _ s => s.finEq (ks := [0]) (js := [0]) rfl rfl rfl
    | false =>
      have hi3 : (giveM most last cs x e now).2.1 = false := by rw [hg]
      have hsm : serveM most last (x :: r) cs e now = (0, 0, false, gl, x :: r, gcs) := by unfold serveM; simp only [hg, Bool.false_eq_true, if_false]
      refine at_t (ot_call (ks := [0]) rfl rfl rfl Tryz.call44 rfl (T44 _ _ _ _ (by first | assumption | rfl | omega | decide | (simp; done) | (simp at *; omega)) (by first | assumption | rfl | omega | decide | (simp; done) | (simp at *; omega)) (by first | assumption | rfl | omega | decide | (simp; done) | (simp at *; omega)) (by first | assumption | rfl | omega | decide | (simp; done) | (simp at *; omega))) rfl) rfl rfl rfl ?_
      rintro v0 _ ⟨m0, hp0, rfl⟩
      obtain ⟨rfl, rfl⟩ := hp0
      simp only [List.cons_append, List.nil_append, splice, spliceL]
      refine at_v (ov_move rfl rfl) rfl rfl rfl ?_
      refine at_v (ov_extract rfl rfl rfl) rfl rfl rfl ?_
      refine at_v (ov_extract rfl rfl rfl) rfl rfl rfl ?_
      refine at_v (ov_assign rfl rfl) rfl rfl rfl ?_
      refine at_v (ov_assign rfl rfl) rfl rfl rfl ?_
      refine at_nil ?_
      refine at_normal ?_
      refine hK4 _ _ _ ?_
      refine at_seq_k (fun K5 hK5 => ?_)
      refine at_seq_k (fun K6 hK6 => ?_)
      refine at_region ?_
      refine at_v (ov_move rfl rfl) rfl rfl rfl ?_
      refine at_v (ov_not rfl rfl) rfl rfl rfl ?_
      refine at_nil ?_
      refine at_normal ?_
      refine hK6 _ _ _ ?_
      refine at_cond_true (congrArg (fun b => some (Value.bool b)) (show _ = true from by simp [hi3]; done)) ?_
      refine at_seq_k (fun K7 hK7 => ?_)
      refine at_region ?_
      refine at_v (ov_assign rfl rfl) rfl rfl rfl ?_
      refine at_v (ov_assign rfl rfl) rfl rfl rfl ?_
      refine at_v (ov_assign rfl rfl) rfl rfl rfl ?_
      refine at_nil ?_
      refine at_normal ?_
      refine hK7 _ _ _ ?_
      refine at_ret ?_
      refine at_then_ret ?_
      refine at_end ?_
      refine at_fin (rsL (vs := [_, _, _]) rfl ⟨res_tmp rfl, res_tmp rfl, res_tmp rfl, trivial⟩ rfl) ?_
      rw [hsm, hg]
      refine ⟨_, ⟨rfl, rfl⟩, ?_⟩
      exact fun _ s => s.finEq (ks := [0]) (js := [0]) rfl rfl rfl
theorem pool_nil {g wb mb : Nat} {most idle wm last : Int} {L : List Int} {h : PH} (s : star [cl g #[.int .i64 most, .int .u64 idle, ptrTo wb, .map (some mb), .int .i64 last] 67, WaitA wb wm L, MapA KI mb []] h) : PoolA g most idle wm last L [] h := by
  refine ⟨wb, mb, [], rfl, ?_⟩
  have s2 : star ([HL [] []] ++ [cl g #[.int .i64 most, .int .u64 idle, ptrTo wb, .map (some mb), .int .i64 last] 67, WaitA wb wm L, MapA KI mb []]) h :=
    star_imp_left (l := []) (m := [HL [] []]) (fun h s => ⟨h, fun _ => none, ⟨rfl, s⟩, trivial, fun _ => .inr rfl, Le.refl _, fun _ _ e => by cases e⟩) s
  exact star_perm (List.perm_append_comm (l₁ := [_]) (l₂ := [_, _, _])) s2
theorem T5 (w0 : World) (most wm idle : Int) : Tri Tryz.prog w0 5 [.int .i64 most, .int .i64 wm, .int .u64 idle] [] fun v m => ∃ b : Bool, b = decide (0 ≤ wm ∧ wm ≤ 12 ∧ 1 ≤ most ∧ most ≤ 6 ∧ idle ≠ 0) ∧ (b = false → v = .tuple #[.pointer none, .int .i64 1] ∧ m = []) ∧ (b = true → ∃ g, v = .tuple #[ptrTo g, .int .i64 0] ∧ m = [PoolA g most idle wm 0 [] []]) := by
  refine tri_of Tryz.func5 rfl rfl fun F => ?_
  simp only [Tryz.ntmps5, argEnv, List.cons_append, List.nil_append]
  refine at_seq_k (fun K0 hK0 => ?_)
  refine at_region ?_
  refine at_v (ov_assign rfl rfl) rfl rfl rfl ?_
  refine at_v (ov_assign rfl rfl) rfl rfl rfl ?_
  refine at_nil ?_
  refine at_normal ?_
  refine hK0 _ _ _ ?_
  refine at_seq_k (fun K1 hK1 => ?_)
  refine at_region ?_
  refine at_v (ov_move rfl rfl) rfl rfl rfl ?_
  refine at_t (ot_call (ks := []) rfl rfl rfl Tryz.call20 rfl (T20 _ _) rfl) rfl rfl rfl ?_
  rintro v0 _ ⟨m0, hp0, rfl⟩
  obtain ⟨b0, hp0⟩ := hp0
  obtain ⟨hq0, hp0⟩ := hp0
  obtain ⟨hq1, hp0⟩ := hp0
  cases b0 with
  | false =>
    obtain ⟨rfl, rfl⟩ := hq1 rfl
    have hno : ¬ (0 ≤ wm ∧ wm ≤ 12) := by simpa using hq0
    simp only [List.nil_append]
    refine at_v (ov_move rfl rfl) rfl rfl rfl ?_
    refine at_v (ov_extract rfl rfl rfl) rfl rfl rfl ?_
    refine at_v (ov_extract rfl rfl rfl) rfl rfl rfl ?_
    refine at_v (ov_assign rfl rfl) rfl rfl rfl ?_
    refine at_v (ov_assign rfl rfl) rfl rfl rfl ?_
    refine at_nil ?_
    refine at_normal ?_
    refine hK1 _ _ _ ?_
    refine at_seq_k (fun K2 hK2 => ?_)
    refine at_seq_k (fun K3 hK3 => ?_)
    refine at_region ?_
    refine at_v (ov_move rfl rfl) rfl rfl rfl ?_
    refine at_v (ov_int rfl rfl rfl rfl) rfl rfl rfl ?_
    refine at_v (ov_move rfl rfl) rfl rfl rfl ?_
    refine at_unwanted (j := 2) rfl rfl rfl rfl ?_
    refine at_unwanted (j := 2) rfl rfl rfl rfl ?_
    refine at_v (ov_pick_t rfl rfl rfl) rfl rfl rfl ?_
    refine at_v (ov_move rfl rfl) rfl rfl rfl ?_
    refine at_unwanted (j := 6) rfl rfl rfl rfl ?_
    refine at_unwanted (j := 6) rfl rfl rfl rfl ?_
    refine at_v (ov_pick_t rfl rfl rfl) rfl rfl rfl ?_
    refine at_v (ov_move rfl rfl) rfl rfl rfl ?_
    refine at_unwanted (j := 10) rfl rfl rfl rfl ?_
    refine at_unwanted (j := 10) rfl rfl rfl rfl ?_
    refine at_v (ov_pick_t rfl rfl rfl) rfl rfl rfl ?_
    refine at_nil ?_
    refine at_normal ?_
    refine hK3 _ _ _ ?_
    refine at_cond_true rfl ?_
    refine at_seq_k (fun K4 hK4 => ?_)
    refine at_region ?_
    refine at_v (ov_assign rfl rfl) rfl rfl rfl ?_
    refine at_v (ov_assign rfl rfl) rfl rfl rfl ?_
    refine at_nil ?_
    refine at_normal ?_
    refine hK4 _ _ _ ?_
    refine at_ret ?_
    refine at_then_ret ?_
    refine at_end ?_
    refine at_fin (rsL (vs := [_, _]) rfl ⟨res_tmp rfl, res_tmp rfl, trivial⟩ rfl) ?_
    refine ⟨_, ⟨false, by simp; omega, fun _ => ⟨rfl, rfl⟩, fun h => by cases h⟩, ?_⟩
    exact fun _ s => s.finEq (ks := []) (js := []) rfl rfl rfl
  | true =>
    obtain ⟨wg, rfl, rfl⟩ := hp0 rfl
    have hyes : 0 ≤ wm ∧ wm ≤ 12 := by simpa using hq0
    simp only [List.cons_append, List.nil_append]
    by_cases hi1 : most < 1
    · refine at_v (ov_move rfl rfl) rfl rfl rfl ?_
      refine at_v (ov_extract rfl rfl rfl) rfl rfl rfl ?_
      refine at_v (ov_extract rfl rfl rfl) rfl rfl rfl ?_
      refine at_v (ov_assign rfl rfl) rfl rfl rfl ?_
      refine at_v (ov_assign rfl rfl) rfl rfl rfl ?_
      refine at_nil ?_
      refine at_normal ?_
      refine hK1 _ _ _ ?_
      refine at_seq_k (fun K2 hK2 => ?_)
      refine at_seq_k (fun K3 hK3 => ?_)
      refine at_region ?_
      refine at_v (ov_move rfl rfl) rfl rfl rfl ?_
      refine at_v (ov_int rfl rfl rfl rfl) rfl rfl rfl ?_
      refine at_v (ov_move rfl rfl) rfl rfl rfl ?_
      refine at_wanted (j := 2) rfl ?_
      refine at_v (ov_move rfl rfl) rfl rfl rfl ?_
      refine at_wanted (j := 2) rfl ?_
      refine at_v (ov_int rfl rfl rfl rfl) rfl rfl rfl ?_
      refine at_v (ov_pick_f rfl rfl rfl) rfl rfl rfl ?_
      refine at_v (ov_move rfl rfl) rfl rfl rfl ?_
      refine at_reval 21 (.bool true) rfl (congrArg Value.bool (decide_eq_true (by omega))) ?_
      refine at_unwanted (j := 6) rfl rfl rfl rfl ?_
      refine at_unwanted (j := 6) rfl rfl rfl rfl ?_
      refine at_v (ov_pick_t rfl rfl rfl) rfl rfl rfl ?_
      refine at_v (ov_move rfl rfl) rfl rfl rfl ?_
      refine at_unwanted (j := 10) rfl rfl rfl rfl ?_
      refine at_unwanted (j := 10) rfl rfl rfl rfl ?_
      refine at_v (ov_pick_t rfl rfl rfl) rfl rfl rfl ?_
      refine at_nil ?_
      refine at_normal ?_
      refine hK3 _ _ _ ?_
      refine at_cond_true rfl ?_
      refine at_seq_k (fun K4 hK4 => ?_)
      refine at_region ?_
      refine at_v (ov_assign rfl rfl) rfl rfl rfl ?_
      refine at_v (ov_assign rfl rfl) rfl rfl rfl ?_
      refine at_nil ?_
      refine at_normal ?_
      refine hK4 _ _ _ ?_
      refine at_ret ?_
      refine at_then_ret ?_
      refine at_end ?_
      refine at_fin (rsL (vs := [_, _]) rfl ⟨res_tmp rfl, res_tmp rfl, trivial⟩ rfl) ?_
      refine ⟨_, ⟨false, by simp; omega, fun _ => ⟨rfl, rfl⟩, fun h => by cases h⟩, ?_⟩
      exact fun _ s => s.finEq (ks := []) (js := [0]) rfl rfl rfl
    · by_cases hi2 : most > 6
      · refine at_v (ov_move rfl rfl) rfl rfl rfl ?_
        refine at_v (ov_extract rfl rfl rfl) rfl rfl rfl ?_
        refine at_v (ov_extract rfl rfl rfl) rfl rfl rfl ?_
        refine at_v (ov_assign rfl rfl) rfl rfl rfl ?_
        refine at_v (ov_assign rfl rfl) rfl rfl rfl ?_
        refine at_nil ?_
        refine at_normal ?_
        refine hK1 _ _ _ ?_
        refine at_seq_k (fun K2 hK2 => ?_)
        refine at_seq_k (fun K3 hK3 => ?_)
        refine at_region ?_
        refine at_v (ov_move rfl rfl) rfl rfl rfl ?_
        refine at_v (ov_int rfl rfl rfl rfl) rfl rfl rfl ?_
        refine at_v (ov_move rfl rfl) rfl rfl rfl ?_
        refine at_wanted (j := 2) rfl ?_
        refine at_v (ov_move rfl rfl) rfl rfl rfl ?_
        refine at_wanted (j := 2) rfl ?_
        refine at_v (ov_int rfl rfl rfl rfl) rfl rfl rfl ?_
        refine at_v (ov_pick_f rfl rfl rfl) rfl rfl rfl ?_
        refine at_v (ov_move rfl rfl) rfl rfl rfl ?_
        refine at_reval 21 (.bool false) rfl (congrArg Value.bool (decide_eq_false (by omega))) ?_
        refine at_wanted (j := 6) rfl ?_
        refine at_v (ov_move rfl rfl) rfl rfl rfl ?_
        refine at_wanted (j := 6) rfl ?_
        refine at_v (ov_int rfl rfl rfl rfl) rfl rfl rfl ?_
        refine at_v (ov_pick_f rfl rfl rfl) rfl rfl rfl ?_
        refine at_v (ov_move rfl rfl) rfl rfl rfl ?_
        refine at_reval 25 (.bool true) rfl (congrArg Value.bool (decide_eq_true (by omega))) ?_
        refine at_unwanted (j := 10) rfl rfl rfl rfl ?_
        refine at_unwanted (j := 10) rfl rfl rfl rfl ?_
        refine at_v (ov_pick_t rfl rfl rfl) rfl rfl rfl ?_
        refine at_nil ?_
        refine at_normal ?_
        refine hK3 _ _ _ ?_
        refine at_cond_true rfl ?_
        refine at_seq_k (fun K4 hK4 => ?_)
        refine at_region ?_
        refine at_v (ov_assign rfl rfl) rfl rfl rfl ?_
        refine at_v (ov_assign rfl rfl) rfl rfl rfl ?_
        refine at_nil ?_
        refine at_normal ?_
        refine hK4 _ _ _ ?_
        refine at_ret ?_
        refine at_then_ret ?_
        refine at_end ?_
        refine at_fin (rsL (vs := [_, _]) rfl ⟨res_tmp rfl, res_tmp rfl, trivial⟩ rfl) ?_
        refine ⟨_, ⟨false, by simp; omega, fun _ => ⟨rfl, rfl⟩, fun h => by cases h⟩, ?_⟩
        exact fun _ s => s.finEq (ks := []) (js := [0]) rfl rfl rfl
      · by_cases hi3 : idle = 0
        · refine at_v (ov_move rfl rfl) rfl rfl rfl ?_
          refine at_v (ov_extract rfl rfl rfl) rfl rfl rfl ?_
          refine at_v (ov_extract rfl rfl rfl) rfl rfl rfl ?_
          refine at_v (ov_assign rfl rfl) rfl rfl rfl ?_
          refine at_v (ov_assign rfl rfl) rfl rfl rfl ?_
          refine at_nil ?_
          refine at_normal ?_
          refine hK1 _ _ _ ?_
          refine at_seq_k (fun K2 hK2 => ?_)
          refine at_seq_k (fun K3 hK3 => ?_)
          refine at_region ?_
          refine at_v (ov_move rfl rfl) rfl rfl rfl ?_
          refine at_v (ov_int rfl rfl rfl rfl) rfl rfl rfl ?_
          refine at_v (ov_move rfl rfl) rfl rfl rfl ?_
          refine at_wanted (j := 2) rfl ?_
          refine at_v (ov_move rfl rfl) rfl rfl rfl ?_
          refine at_wanted (j := 2) rfl ?_
          refine at_v (ov_int rfl rfl rfl rfl) rfl rfl rfl ?_
          refine at_v (ov_pick_f rfl rfl rfl) rfl rfl rfl ?_
          refine at_v (ov_move rfl rfl) rfl rfl rfl ?_
          refine at_reval 21 (.bool false) rfl (congrArg Value.bool (decide_eq_false (by omega))) ?_
          refine at_wanted (j := 6) rfl ?_
          refine at_v (ov_move rfl rfl) rfl rfl rfl ?_
          refine at_wanted (j := 6) rfl ?_
          refine at_v (ov_int rfl rfl rfl rfl) rfl rfl rfl ?_
          refine at_v (ov_pick_f rfl rfl rfl) rfl rfl rfl ?_
          refine at_v (ov_move rfl rfl) rfl rfl rfl ?_
          refine at_reval 25 (.bool false) rfl (congrArg Value.bool (decide_eq_false (by omega))) ?_
          refine at_wanted (j := 10) rfl ?_
          refine at_v (ov_move rfl rfl) rfl rfl rfl ?_
          refine at_wanted (j := 10) rfl ?_
          refine at_v (ov_int rfl rfl rfl rfl) rfl rfl rfl ?_
          refine at_v (ov_pick_f rfl rfl rfl) rfl rfl rfl ?_
          refine at_nil ?_
          refine at_normal ?_
          refine hK3 _ _ _ ?_
          refine at_cond_true (congrArg (fun b => some (Value.bool b)) (show _ = true from decide_eq_true (by omega))) ?_
          refine at_seq_k (fun K4 hK4 => ?_)
          refine at_region ?_
          refine at_v (ov_assign rfl rfl) rfl rfl rfl ?_
          refine at_v (ov_assign rfl rfl) rfl rfl rfl ?_
          refine at_nil ?_
          refine at_normal ?_
          refine hK4 _ _ _ ?_
          refine at_ret ?_
          refine at_then_ret ?_
          refine at_end ?_
          refine at_fin (rsL (vs := [_, _]) rfl ⟨res_tmp rfl, res_tmp rfl, trivial⟩ rfl) ?_
          refine ⟨_, ⟨false, by simp; omega, fun _ => ⟨rfl, rfl⟩, fun h => by cases h⟩, ?_⟩
          exact fun _ s => s.finEq (ks := []) (js := [0]) rfl rfl rfl
        · refine at_v (ov_move rfl rfl) rfl rfl rfl ?_
          refine at_v (ov_extract rfl rfl rfl) rfl rfl rfl ?_
          refine at_v (ov_extract rfl rfl rfl) rfl rfl rfl ?_
          refine at_v (ov_assign rfl rfl) rfl rfl rfl ?_
          refine at_v (ov_assign rfl rfl) rfl rfl rfl ?_
          refine at_nil ?_
          refine at_normal ?_
          refine hK1 _ _ _ ?_
          refine at_seq_k (fun K2 hK2 => ?_)
          refine at_seq_k (fun K3 hK3 => ?_)
          refine at_region ?_
          refine at_v (ov_move rfl rfl) rfl rfl rfl ?_
          refine at_v (ov_int rfl rfl rfl rfl) rfl rfl rfl ?_
          refine at_v (ov_move rfl rfl) rfl rfl rfl ?_
          refine at_wanted (j := 2) rfl ?_
          refine at_v (ov_move rfl rfl) rfl rfl rfl ?_
          refine at_wanted (j := 2) rfl ?_
          refine at_v (ov_int rfl rfl rfl rfl) rfl rfl rfl ?_
          refine at_v (ov_pick_f rfl rfl rfl) rfl rfl rfl ?_
          refine at_v (ov_move rfl rfl) rfl rfl rfl ?_
          refine at_reval 21 (.bool false) rfl (congrArg Value.bool (decide_eq_false (by omega))) ?_
          refine at_wanted (j := 6) rfl ?_
          refine at_v (ov_move rfl rfl) rfl rfl rfl ?_
          refine at_wanted (j := 6) rfl ?_
          refine at_v (ov_int rfl rfl rfl rfl) rfl rfl rfl ?_
          refine at_v (ov_pick_f rfl rfl rfl) rfl rfl rfl ?_
          refine at_v (ov_move rfl rfl) rfl rfl rfl ?_
          refine at_reval 25 (.bool false) rfl (congrArg Value.bool (decide_eq_false (by omega))) ?_
          refine at_wanted (j := 10) rfl ?_
          refine at_v (ov_move rfl rfl) rfl rfl rfl ?_
          refine at_wanted (j := 10) rfl ?_
          refine at_v (ov_int rfl rfl rfl rfl) rfl rfl rfl ?_
          refine at_v (ov_pick_f rfl rfl rfl) rfl rfl rfl ?_
          refine at_nil ?_
          refine at_normal ?_
          refine hK3 _ _ _ ?_
          refine at_cond_false (congrArg (fun b => some (Value.bool b)) (show _ = false from decide_eq_false (by omega))) ?_
          refine at_skip ?_
          refine at_normal ?_
          refine hK2 _ _ _ ?_
          refine at_seq_k (fun K4 hK4 => ?_)
          refine at_region ?_
          refine at_v (ov_move rfl rfl) rfl rfl rfl ?_
          refine at_v (ov_move rfl rfl) rfl rfl rfl ?_
          refine at_v (ov_move rfl rfl) rfl rfl rfl ?_
          refine at_t (ot_makeMap (TypeDesc.int IntKind.i64) rfl) rfl rfl rfl ?_
          rintro _ _ ⟨mb0, rfl, rfl⟩
          refine at_v (ov_build (cs := [_, _, _, _, _]) rfl rfl rfl rfl) rfl rfl rfl ?_
          refine at_t (ot_boxA rfl rfl) rfl rfl rfl ?_
          rintro _ _ ⟨g0, rfl, rfl⟩
          refine at_v (ov_assign rfl rfl) rfl rfl rfl ?_
          refine at_v (ov_assign rfl rfl) rfl rfl rfl ?_
          refine at_nil ?_
          refine at_normal ?_
          refine hK4 _ _ _ ?_
          refine at_ret ?_
          refine at_end ?_
          refine at_fold (A := PoolA g0 most idle wm 0 [] []) [0, 1, 0] rfl (fun h s => pool_nil (wb := wg) (mb := mb0) s) ?_
          refine at_fin (rsL (vs := [_, _]) rfl ⟨res_tmp rfl, res_tmp rfl, trivial⟩ rfl) ?_
          refine ⟨_, ⟨true, by simp; omega, fun h => (by cases h), fun _ => ⟨g0, rfl, rfl⟩⟩, ?_⟩
          exact fun _ s => s.finEq (ks := [0]) (js := []) rfl rfl rfl
