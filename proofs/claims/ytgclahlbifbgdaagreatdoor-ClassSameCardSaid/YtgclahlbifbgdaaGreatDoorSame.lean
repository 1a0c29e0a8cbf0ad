/- The statement ClassSame, walked. -/
import Derived.Test.YtgclahlbifbgdaaGreatDoorProg
import Derived.Test.YtgclahlbifbgdaaGreatDoorSameLaw
import Derived.Test.YtgclahlbifbgdaaGreatDoorClass16
import Derived.Test.YtgclahlbifbgdaaGreatDoorSLStr
import Derived.KernelRfl
set_option linter.unusedSimpArgs false
set_option linter.unusedVariables false
set_option maxRecDepth 100000
set_option maxHeartbeats 4000000
namespace Go.Proofs.YtgclahlbifbgdaaGreatDoor
open Go Go.Proofs.YtgclahlbifbgdaaGreatDoor.SL Go.RowKit
theorem word_ascii {c : UInt8} (h : wordB c = true) : c.toNat < 128 := by
  unfold wordB letterB digitB at h
  simp only [Bool.or_eq_true, Bool.and_eq_true, decide_eq_true_eq] at h
  omega
theorem T21b (w0 : World) {b : Nat} {bs : BL} : Tri Tryz.prog w0 21 [ptrTo b] [Bld b bs] fun r m => r = .int .i64 (bs.length : Nat) ∧ m = [Bld b bs] := by
  refine tri_of Tryz.func21 rfl rfl fun F => ?_
  simp only [Tryz.ntmps21, argEnv, List.cons_append, List.nil_append]
  refine at_bld fun A c u => ?_
  refine at_seq_k (fun K0 hK0 => ?_)
  refine at_region ?_
  refine at_v (ov_assign rfl rfl) rfl rfl rfl ?_
  refine at_nil ?_
  refine at_normal ?_
  refine hK0 _ _ _ ?_
  refine at_seq_k (fun K1 hK1 => ?_)
  refine at_region ?_
  refine at_v (ov_move rfl rfl) rfl rfl rfl ?_
  refine at_v (ov_nilCheck rfl rfl) rfl rfl rfl ?_
  refine at_v (ov_fieldAddr (k := 1) (r := 1) rfl rfl rfl rfl) rfl rfl rfl ?_
  refine at_v (ov_load rfl rfl rfl (fun _ s => s.ld (k := 0) rfl rfl)) rfl rfl rfl ?_
  refine at_v (ov_len_slice rfl Tryz.underlying41 rfl) rfl rfl rfl ?_
  refine at_v (ov_assign rfl rfl) rfl rfl rfl ?_
  refine at_nil ?_
  refine at_normal ?_
  refine hK1 _ _ _ ?_
  refine at_ret ?_
  refine at_end ?_
  refine at_fold (A := Bld b bs) [0, 0] rfl (fun h s => ⟨A, c, u, s⟩) ?_
  refine at_fin (rsV rfl (res_tmp rfl)) ?_
  refine ⟨_, ⟨rfl, rfl⟩, ?_⟩
  exact fun _ s => s.finEq (ks := [0]) (js := []) rfl rfl rfl
theorem all_take {l : List Tok} {p : Tok → Bool} {k : Nat} {x : Tok} (h : l[k]? = some x) (h1 : (l.take k).all p = true) (h2 : p x = true) : (l.take (k + 1)).all p = true := by
  rw [List.take_add_one, h]; simp [h2]; simpa using h1
theorem T6 (w0 : World) {A : Option Addr} {c : Nat} {l : List Tok} (hr : Rd tE w0 2 A l) (hm : l.length ≤ 5864062014634) (hb : ∀ t ∈ l, t.2.length ≤ 140737488351232) (hM : MaxL w0) :
    Tri Tryz.prog w0 6 [.slice A l.length c] [] fun v m => v = .bool true ∧ m = [] := by
  refine tri_of Tryz.func6 rfl rfl fun F => ?_
  simp only [Tryz.ntmps6, argEnv, List.nil_append]
  have hb2 : ∀ t ∈ l, t.2.length ≤ 1000000000000000000 := fun t h => by have := hb t h; omega
  refine at_seq_k (fun K0 hK0 => ?_)
  refine at_region ?_
  refine at_v (ov_assign rfl rfl) rfl rfl rfl ?_
  refine at_nil ?_
  refine at_normal ?_
  refine hK0 _ _ _ ?_
  refine at_seq_k (fun K1 hK1 => ?_)
  refine at_seq_k (fun K2 hK2 => ?_)
  refine at_region ?_
  refine at_t (ot_call (ks := []) rfl rfl rfl Tryz.call7 rfl (T7 _ (by first | assumption | rfl | omega | decide | (simp; done) | (simp at *; omega))) rfl) rfl rfl rfl ?_
  rintro v0 _ ⟨m0, hp0, rfl⟩
  obtain ⟨rfl, rfl⟩ := hp0
  simp only [List.cons_append, List.nil_append, splice, spliceL]
  refine at_v (ov_not rfl rfl) rfl rfl rfl ?_
  refine at_nil ?_
  refine at_normal ?_
  refine hK2 _ _ _ ?_
  refine at_cond_false rfl ?_
  refine at_skip ?_
  refine at_normal ?_
  refine hK1 _ _ _ ?_
  refine at_seq_k (fun K3 hK3 => ?_)
  refine at_region ?_
  refine at_v (ov_assign rfl rfl) rfl rfl rfl ?_
  refine at_nil ?_
  refine at_normal ?_
  refine hK3 _ _ _ ?_
  refine at_seq_k (fun K4 hK4 => ?_)
  refine at_seq_k (fun K5 hK5 => ?_)
  refine at_region ?_
  refine at_v (ov_move rfl rfl) rfl rfl rfl ?_
  refine at_v (ov_len_slice rfl Tryz.underlying36 rfl) rfl rfl rfl ?_
  refine at_v (ov_move rfl rfl) rfl rfl rfl ?_
  refine at_nil ?_
  refine at_normal ?_
  refine hK5 _ _ _ ?_
  refine at_block ?_
  refine at_rowNil tE 33 2 ?_
  refine at_loopE [19, 20, 21, 5, 22, 23, 24, 25, 26, 27, 28, 29, 2, 30, 31, 32, 33, 3, 34, 18] (fun i : Nat × Option Addr × Nat => i.1 ≤ l.length ∧ (l.take i.1).all rightL = true) (fun i => [(18, .int .i64 (i.1 : Nat)), (3, .slice i.2.1 (l.take i.1).length i.2.2)]) (fun i m => setAt 0 (Row tE 33 2 i.2.1 i.2.2 (l.take i.1)) m) (fun i => l.length - i.1) (0, none, 0) ⟨Nat.zero_le _, rfl⟩ ⟨rfl, rfl, trivial⟩ (fun _ s => s) ?_
  rintro ⟨k, B, e⟩ ⟨hk, hall⟩
  simp only [setAt] at hk hall ⊢
  have hlk : (l.take k).length = k := by simp; omega
  rcases Nat.lt_or_ge k l.length with hlt | hge
  · have hi1 : decide ((k : Int) < l.length) = true := decide_eq_true (by omega)
    obtain ⟨x, hget⟩ : ∃ x, l[k]? = some x := ⟨_, List.getElem?_eq_getElem hlt⟩
    have hms : l.take (k + 1) = l.take k ++ [x] := by rw [List.take_add_one, hget]; rfl
    have hR := T16 w0 x (hb x (List.mem_of_getElem? hget))
    cases hi5 : decide (x.1 = 5) with
    | true =>
      refine at_seq_k (fun K6 hK6 => ?_)
      refine at_region ?_
      refine at_v (ov_int rfl rfl rfl rfl) rfl rfl rfl ?_
      refine at_nil ?_
      refine at_normal ?_
      refine hK6 _ _ _ ?_
      refine at_seq_k (fun K7 hK7 => ?_)
      refine at_cond_true (congrArg (fun b => some (Value.bool b)) (show _ = true from decide_eq_true (by omega))) ?_
      refine at_skip ?_
      refine at_normal ?_
      refine hK7 _ _ _ ?_
      refine at_seq_k (fun K8 hK8 => ?_)
      refine at_block ?_
      refine at_seq_k (fun K9 hK9 => ?_)
      refine at_region ?_
      refine at_v (ov_indexRd (fun _ s => hr.up s) rfl Tryz.underlying36 rfl rfl rfl hget) rfl rfl rfl ?_
      refine at_v (ov_loadRdS (vs := [_, _]) (fun _ s => hr.up s) rfl rfl rfl hget rfl rfl) rfl rfl rfl ?_
      refine at_t (ot_allocA rfl Tryz.zeroValue37) rfl rfl rfl ?_
      rintro _ _ ⟨g0, rfl, rfl⟩
      refine at_t0 (ot_store (k := 0) rfl rfl rfl rfl rfl rfl rfl) rfl rfl ?_
      rintro _ _ ⟨rfl, rfl⟩
      simp only [setAt, splice, spliceL, Value.cells]
      refine at_nil ?_
      refine at_normal ?_
      refine hK9 _ _ _ ?_
      refine at_seq_k (fun K10 hK10 => ?_)
      refine at_seq_k (fun K11 hK11 => ?_)
      refine at_region ?_
      refine at_v (ov_fieldAddr (k := 0) (r := 0) rfl rfl rfl rfl) rfl rfl rfl ?_
      refine at_v (ov_load rfl rfl rfl (fun _ s => s.ld (k := 0) rfl rfl)) rfl rfl rfl ?_
      refine at_v (ov_int rfl rfl rfl rfl) rfl rfl rfl ?_
      refine at_v (ov_move rfl rfl) rfl rfl rfl ?_
      refine at_reval 25 (.bool true) rfl (congrArg Value.bool (by first | assumption | (rw [Bool.not_eq_true']; exact decide_eq_false (by omega)))) ?_
      refine at_unwanted (j := 3) rfl rfl rfl rfl ?_
      refine at_unwanted (j := 3) rfl rfl rfl rfl ?_
      refine at_unwanted (j := 3) rfl rfl rfl rfl ?_
      refine at_v (ov_pick_t rfl rfl rfl) rfl rfl rfl ?_
      refine at_nil ?_
      refine at_normal ?_
      refine hK11 _ _ _ ?_
      refine at_cond_true rfl ?_
      refine at_seq_k (fun K12 hK12 => ?_)
      refine at_region ?_
      refine at_v (ov_assign rfl rfl) rfl rfl rfl ?_
      refine at_nil ?_
      refine at_normal ?_
      refine hK12 _ _ _ ?_
      refine at_ret ?_
      refine at_then_ret ?_
      refine at_inb_ret ?_
      refine at_then_ret ?_
      refine at_then_ret ?_
      refine at_inb_ret ?_
      refine at_then_ret ?_
      refine at_end ?_
      refine at_fin (rsV rfl (res_tmp rfl)) ?_
      refine ⟨_, ⟨rfl, rfl⟩, ?_⟩
      exact fun _ s => s.finEq (ks := []) (js := [0, 0]) rfl rfl rfl
    | false =>
    cases hrt : rightL x with
    | false =>
      rw [hrt] at hR
      refine at_seq_k (fun K6 hK6 => ?_)
      refine at_region ?_
      refine at_v (ov_int rfl rfl rfl rfl) rfl rfl rfl ?_
      refine at_nil ?_
      refine at_normal ?_
      refine hK6 _ _ _ ?_
      refine at_seq_k (fun K7 hK7 => ?_)
      refine at_cond_true (congrArg (fun b => some (Value.bool b)) (show _ = true from decide_eq_true (by omega))) ?_
      refine at_skip ?_
      refine at_normal ?_
      refine hK7 _ _ _ ?_
      refine at_seq_k (fun K8 hK8 => ?_)
      refine at_block ?_
      refine at_seq_k (fun K9 hK9 => ?_)
      refine at_region ?_
      refine at_v (ov_indexRd (fun _ s => hr.up s) rfl Tryz.underlying36 rfl rfl rfl hget) rfl rfl rfl ?_
      refine at_v (ov_loadRdS (vs := [_, _]) (fun _ s => hr.up s) rfl rfl rfl hget rfl rfl) rfl rfl rfl ?_
      refine at_t (ot_allocA rfl Tryz.zeroValue37) rfl rfl rfl ?_
      rintro _ _ ⟨g0, rfl, rfl⟩
      refine at_t0 (ot_store (k := 0) rfl rfl rfl rfl rfl rfl rfl) rfl rfl ?_
      rintro _ _ ⟨rfl, rfl⟩
      simp only [setAt, splice, spliceL, Value.cells]
      refine at_nil ?_
      refine at_normal ?_
      refine hK9 _ _ _ ?_
      refine at_seq_k (fun K10 hK10 => ?_)
      refine at_seq_k (fun K11 hK11 => ?_)
      refine at_region ?_
      refine at_v (ov_fieldAddr (k := 0) (r := 0) rfl rfl rfl rfl) rfl rfl rfl ?_
      refine at_v (ov_load rfl rfl rfl (fun _ s => s.ld (k := 0) rfl rfl)) rfl rfl rfl ?_
      refine at_v (ov_int rfl rfl rfl rfl) rfl rfl rfl ?_
      refine at_v (ov_move rfl rfl) rfl rfl rfl ?_
      refine at_reval 25 (.bool false) rfl (congrArg Value.bool (by first | assumption | (rw [Bool.not_eq_false']; exact decide_eq_true (by omega)))) ?_
      refine at_wanted (j := 3) rfl ?_
      refine at_v (ov_loadS (cs := [_, _]) rfl rfl rfl rfl (fun _ s => s.lds (k := 0) rfl ⟨rfl, rfl, trivial⟩)) rfl rfl rfl ?_
      refine at_wanted (j := 3) rfl ?_
      refine at_t (ot_call (ks := []) rfl rfl rfl Tryz.call16 rfl (hR ) rfl) rfl rfl rfl ?_
      rintro v0 _ ⟨m0, hp0, rfl⟩
      obtain ⟨rfl, rfl⟩ := hp0
      simp only [List.cons_append, List.nil_append, splice, spliceL]
      refine at_wanted (j := 3) rfl ?_
      refine at_v (ov_not rfl rfl) rfl rfl rfl ?_
      refine at_v (ov_pick_f rfl rfl rfl) rfl rfl rfl ?_
      refine at_nil ?_
      refine at_normal ?_
      refine hK11 _ _ _ ?_
      refine at_cond_true rfl ?_
      refine at_seq_k (fun K12 hK12 => ?_)
      refine at_region ?_
      refine at_v (ov_assign rfl rfl) rfl rfl rfl ?_
      refine at_nil ?_
      refine at_normal ?_
      refine hK12 _ _ _ ?_
      refine at_ret ?_
      refine at_then_ret ?_
      refine at_inb_ret ?_
      refine at_then_ret ?_
      refine at_then_ret ?_
      refine at_inb_ret ?_
      refine at_then_ret ?_
      refine at_end ?_
      refine at_fin (rsV rfl (res_tmp rfl)) ?_
      refine ⟨_, ⟨rfl, rfl⟩, ?_⟩
      exact fun _ s => s.finEq (ks := []) (js := [0, 0]) rfl rfl rfl
    | true =>
    rw [hrt] at hR
    refine at_seq_k (fun K6 hK6 => ?_)
    refine at_region ?_
    refine at_v (ov_int rfl rfl rfl rfl) rfl rfl rfl ?_
    refine at_nil ?_
    refine at_normal ?_
    refine hK6 _ _ _ ?_
    refine at_seq_k (fun K7 hK7 => ?_)
    refine at_cond_true (congrArg (fun b => some (Value.bool b)) (show _ = true from decide_eq_true (by omega))) ?_
    refine at_skip ?_
    refine at_normal ?_
    refine hK7 _ _ _ ?_
    refine at_seq_k (fun K8 hK8 => ?_)
    refine at_block ?_
    refine at_seq_k (fun K9 hK9 => ?_)
    refine at_region ?_
    refine at_v (ov_indexRd (fun _ s => hr.up s) rfl Tryz.underlying36 rfl rfl rfl hget) rfl rfl rfl ?_
    refine at_v (ov_loadRdS (vs := [_, _]) (fun _ s => hr.up s) rfl rfl rfl hget rfl rfl) rfl rfl rfl ?_
    refine at_t (ot_allocA rfl Tryz.zeroValue37) rfl rfl rfl ?_
    rintro _ _ ⟨g0, rfl, rfl⟩
    refine at_t0 (ot_store (k := 0) rfl rfl rfl rfl rfl rfl rfl) rfl rfl ?_
    rintro _ _ ⟨rfl, rfl⟩
    simp only [setAt, splice, spliceL, Value.cells]
    refine at_nil ?_
    refine at_normal ?_
    refine hK9 _ _ _ ?_
    refine at_seq_k (fun K10 hK10 => ?_)
    refine at_seq_k (fun K11 hK11 => ?_)
    refine at_region ?_
    refine at_v (ov_fieldAddr (k := 0) (r := 0) rfl rfl rfl rfl) rfl rfl rfl ?_
    refine at_v (ov_load rfl rfl rfl (fun _ s => s.ld (k := 0) rfl rfl)) rfl rfl rfl ?_
    refine at_v (ov_int rfl rfl rfl rfl) rfl rfl rfl ?_
    refine at_v (ov_move rfl rfl) rfl rfl rfl ?_
    refine at_reval 25 (.bool false) rfl (congrArg Value.bool (by first | assumption | (rw [Bool.not_eq_false']; exact decide_eq_true (by omega)))) ?_
    refine at_wanted (j := 3) rfl ?_
    refine at_v (ov_loadS (cs := [_, _]) rfl rfl rfl rfl (fun _ s => s.lds (k := 0) rfl ⟨rfl, rfl, trivial⟩)) rfl rfl rfl ?_
    refine at_wanted (j := 3) rfl ?_
    refine at_t (ot_call (ks := []) rfl rfl rfl Tryz.call16 rfl (hR ) rfl) rfl rfl rfl ?_
    rintro v0 _ ⟨m0, hp0, rfl⟩
    obtain ⟨rfl, rfl⟩ := hp0
    simp only [List.cons_append, List.nil_append, splice, spliceL]
    refine at_wanted (j := 3) rfl ?_
    refine at_v (ov_not rfl rfl) rfl rfl rfl ?_
    refine at_v (ov_pick_f rfl rfl rfl) rfl rfl rfl ?_
    refine at_nil ?_
    refine at_normal ?_
    refine hK11 _ _ _ ?_
    refine at_cond_false rfl ?_
    refine at_skip ?_
    refine at_normal ?_
    refine hK10 _ _ _ ?_
    refine at_region ?_
    refine at_v (ov_move rfl rfl) rfl rfl rfl ?_
    refine at_v (ov_loadS (cs := [_, _]) rfl rfl rfl rfl (fun _ s => s.lds (k := 0) rfl ⟨rfl, rfl, trivial⟩)) rfl rfl rfl ?_
    refine at_t (ot_buildSlice (cs := [_, _]) rfl Tryz.underlying28 rfl rfl rfl rfl rfl rfl) rfl rfl rfl ?_
    rintro _ _ ⟨g1, rfl, rfl⟩
    refine at_t (ot_append (k := 2) (size := 2) (bytes := 24) (ys := [x]) (fun _ s => s.rdPt (k := 0) rfl rfl (by simp [tE])) rfl Tryz.underlying28 (ti := Tryz.t33) rfl rfl rfl rfl rfl (by decide) rfl rfl rfl (by simp [tE, Value.oneCell']) (by simp; omega) (by decide)) rfl rfl rfl ?_
    rintro _ _ ⟨A0, c0, rfl, rfl⟩
    simp only [setAt]
    refine at_v (ov_assign rfl rfl) rfl rfl rfl ?_
    refine at_nil ?_
    refine at_inb_normal ?_
    refine at_normal ?_
    refine hK8 _ _ _ ?_
    refine at_region ?_
    refine at_v ((ov_int rfl rfl rfl rfl).eq (congrArg (Value.int .i64) (inK_i64 (by omega) (by omega)))) rfl rfl rfl ?_
    refine at_v (ov_move rfl rfl) rfl rfl rfl ?_
    refine at_nil ?_
    refine at_normal ?_
    refine at_roundF (k + 1, A0, c0) ⟨hlt, all_take hget hall hrt⟩ (by simp only; omega) ⟨rfl, look_eq rfl (by simp only [hms]), trivial⟩ rfl ?_
    simp only [setAt, hms]
    exact fun _ s => s.finEq (ks := [2]) (js := [0, 0]) rfl rfl rfl
  · have hi1 : decide ((k : Int) < l.length) = false := decide_eq_false (by omega)
    rw [List.take_of_length_le hge] at hall ⊢
    cases hlg : largeT l with
    | true =>
      refine at_seq_k (fun K6 hK6 => ?_)
      refine at_region ?_
      refine at_v (ov_int rfl rfl rfl rfl) rfl rfl rfl ?_
      refine at_nil ?_
      refine at_normal ?_
      refine hK6 _ _ _ ?_
      refine at_seq_k (fun K7 hK7 => ?_)
      refine at_cond_false (congrArg (fun b => some (Value.bool b)) (show _ = false from decide_eq_false (by omega))) ?_
      refine at_exit ?_
      refine at_then_exit ?_
      refine at_then_exit ?_
      refine at_exit_eq ?_
      refine at_normal ?_
      refine hK4 _ _ _ ?_
      refine at_seq_k (fun K8 hK8 => ?_)
      refine at_seq_k (fun K9 hK9 => ?_)
      refine at_region ?_
      refine at_v (ov_move rfl rfl) rfl rfl rfl ?_
      refine at_t (ot_call (ks := [0]) rfl rfl rfl Tryz.call17 rfl (T17a _ (by first | assumption | rfl | omega | decide | (simp; done) | (simp at *; omega)) (by first | assumption | rfl | omega | decide | (simp; done) | (simp at *; omega))) rfl) rfl rfl rfl ?_
      rintro v0 _ ⟨m0, hp0, rfl⟩
      obtain ⟨rfl, rfl⟩ := hp0
      simp only [List.cons_append, List.nil_append, splice, spliceL]
      refine at_nil ?_
      refine at_normal ?_
      refine hK9 _ _ _ ?_
      refine at_cond_true (congrArg (fun b => some (Value.bool b)) (show _ = true from by first | assumption | (rw [Bool.not_eq_true']; exact decide_eq_false (by omega)))) ?_
      refine at_seq_k (fun K10 hK10 => ?_)
      refine at_region ?_
      refine at_v (ov_assign rfl rfl) rfl rfl rfl ?_
      refine at_nil ?_
      refine at_normal ?_
      refine hK10 _ _ _ ?_
      refine at_ret ?_
      refine at_then_ret ?_
      refine at_end ?_
      refine at_fin (rsV rfl (res_tmp rfl)) ?_
      refine ⟨_, ⟨rfl, rfl⟩, ?_⟩
      exact fun _ s => s.finEq (ks := []) (js := [0]) rfl rfl rfl
    | false =>
    have hsum : sumT l ≤ 2000 := by
      unfold largeT at hlg
      simpa using hlg
    have hl2 : l.length ≤ 10000 := by have := sumT_len l; omega
    have ht2 : ∀ t ∈ l, t.2.length ≤ 10000 := fun t h => by have := sumT_mem h; omega
    by_cases h150 : 150 < (writeL l).length
    · have hi2 : decide (((writeL l).length : Int) > 150) = true := decide_eq_true (by omega)
      refine at_seq_k (fun K6 hK6 => ?_)
      refine at_region ?_
      refine at_v (ov_int rfl rfl rfl rfl) rfl rfl rfl ?_
      refine at_nil ?_
      refine at_normal ?_
      refine hK6 _ _ _ ?_
      refine at_seq_k (fun K7 hK7 => ?_)
      refine at_cond_false (congrArg (fun b => some (Value.bool b)) (show _ = false from decide_eq_false (by omega))) ?_
      refine at_exit ?_
      refine at_then_exit ?_
      refine at_then_exit ?_
      refine at_exit_eq ?_
      refine at_normal ?_
      refine hK4 _ _ _ ?_
      refine at_seq_k (fun K8 hK8 => ?_)
      refine at_seq_k (fun K9 hK9 => ?_)
      refine at_region ?_
      refine at_v (ov_move rfl rfl) rfl rfl rfl ?_
      refine at_t (ot_call (ks := [0]) rfl rfl rfl Tryz.call17 rfl (T17a _ (by first | assumption | rfl | omega | decide | (simp; done) | (simp at *; omega)) (by first | assumption | rfl | omega | decide | (simp; done) | (simp at *; omega))) rfl) rfl rfl rfl ?_
      rintro v0 _ ⟨m0, hp0, rfl⟩
      obtain ⟨rfl, rfl⟩ := hp0
      simp only [List.cons_append, List.nil_append, splice, spliceL]
      refine at_nil ?_
      refine at_normal ?_
      refine hK9 _ _ _ ?_
      refine at_cond_false (congrArg (fun b => some (Value.bool b)) (show _ = false from decide_eq_false (by omega))) ?_
      refine at_skip ?_
      refine at_normal ?_
      refine hK8 _ _ _ ?_
      refine at_seq_k (fun K10 hK10 => ?_)
      refine at_region ?_
      refine at_v (ov_move rfl rfl) rfl rfl rfl ?_
      refine at_t (ot_call (ks := [0]) rfl rfl rfl Tryz.call18 rfl (T18a _ (by first | assumption | rfl | omega | decide | (simp; done) | (simp at *; omega)) (by first | assumption | rfl | omega | decide | (simp; done) | (simp at *; omega))) rfl) rfl rfl rfl ?_
      rintro v0 _ ⟨m0, hp0, rfl⟩
      obtain ⟨rfl, rfl⟩ := hp0
      simp only [List.cons_append, List.nil_append, splice, spliceL]
      refine at_v (ov_assign rfl rfl) rfl rfl rfl ?_
      refine at_nil ?_
      refine at_normal ?_
      refine hK10 _ _ _ ?_
      refine at_seq_k (fun K11 hK11 => ?_)
      refine at_seq_k (fun K12 hK12 => ?_)
      refine at_region ?_
      refine at_v (ov_move rfl rfl) rfl rfl rfl ?_
      refine at_v (ov_len_strL rfl Tryz.underlying9 rfl) rfl rfl rfl ?_
      refine at_v (ov_int rfl rfl rfl rfl) rfl rfl rfl ?_
      refine at_nil ?_
      refine at_normal ?_
      refine hK12 _ _ _ ?_
      refine at_cond_true (congrArg (fun b => some (Value.bool b)) (show _ = true from decide_eq_true (by omega))) ?_
      refine at_seq_k (fun K13 hK13 => ?_)
      refine at_region ?_
      refine at_v (ov_assign rfl rfl) rfl rfl rfl ?_
      refine at_nil ?_
      refine at_normal ?_
      refine hK13 _ _ _ ?_
      refine at_ret ?_
      refine at_then_ret ?_
      refine at_end ?_
      refine at_fin (rsV rfl (res_tmp rfl)) ?_
      refine ⟨_, ⟨rfl, rfl⟩, ?_⟩
      exact fun _ s => s.finEq (ks := []) (js := [0]) rfl rfl rfl
    have hi2 : decide (((writeL l).length : Int) > 150) = false := decide_eq_false (by omega)
    have hC0 {g : Nat} := T9 w0 (g := g) (writeL l) (by omega) hM
    refine at_seq_k (fun K6 hK6 => ?_)
    refine at_region ?_
    refine at_v (ov_int rfl rfl rfl rfl) rfl rfl rfl ?_
    refine at_nil ?_
    refine at_normal ?_
    refine hK6 _ _ _ ?_
    refine at_seq_k (fun K7 hK7 => ?_)
    refine at_cond_false (congrArg (fun b => some (Value.bool b)) (show _ = false from decide_eq_false (by omega))) ?_
    refine at_exit ?_
    refine at_then_exit ?_
    refine at_then_exit ?_
    refine at_exit_eq ?_
    refine at_normal ?_
    refine hK4 _ _ _ ?_
    refine at_seq_k (fun K8 hK8 => ?_)
    refine at_seq_k (fun K9 hK9 => ?_)
    refine at_region ?_
    refine at_v (ov_move rfl rfl) rfl rfl rfl ?_
    refine at_t (ot_call (ks := [0]) rfl rfl rfl Tryz.call17 rfl (T17a _ (by first | assumption | rfl | omega | decide | (simp; done) | (simp at *; omega)) (by first | assumption | rfl | omega | decide | (simp; done) | (simp at *; omega))) rfl) rfl rfl rfl ?_
    rintro v0 _ ⟨m0, hp0, rfl⟩
    obtain ⟨rfl, rfl⟩ := hp0
    simp only [List.cons_append, List.nil_append, splice, spliceL]
    refine at_nil ?_
    refine at_normal ?_
    refine hK9 _ _ _ ?_
    refine at_cond_false (congrArg (fun b => some (Value.bool b)) (show _ = false from decide_eq_false (by omega))) ?_
    refine at_skip ?_
    refine at_normal ?_
    refine hK8 _ _ _ ?_
    refine at_seq_k (fun K10 hK10 => ?_)
    refine at_region ?_
    refine at_v (ov_move rfl rfl) rfl rfl rfl ?_
    refine at_t (ot_call (ks := [0]) rfl rfl rfl Tryz.call18 rfl (T18a _ (by first | assumption | rfl | omega | decide | (simp; done) | (simp at *; omega)) (by first | assumption | rfl | omega | decide | (simp; done) | (simp at *; omega))) rfl) rfl rfl rfl ?_
    rintro v0 _ ⟨m0, hp0, rfl⟩
    obtain ⟨rfl, rfl⟩ := hp0
    simp only [List.cons_append, List.nil_append, splice, spliceL]
    refine at_v (ov_assign rfl rfl) rfl rfl rfl ?_
    refine at_nil ?_
    refine at_normal ?_
    refine hK10 _ _ _ ?_
    refine at_seq_k (fun K11 hK11 => ?_)
    refine at_seq_k (fun K12 hK12 => ?_)
    refine at_region ?_
    refine at_v (ov_move rfl rfl) rfl rfl rfl ?_
    refine at_v (ov_len_strL rfl Tryz.underlying9 rfl) rfl rfl rfl ?_
    refine at_v (ov_int rfl rfl rfl rfl) rfl rfl rfl ?_
    refine at_nil ?_
    refine at_normal ?_
    refine hK12 _ _ _ ?_
    refine at_cond_false (congrArg (fun b => some (Value.bool b)) (show _ = false from decide_eq_false (by omega))) ?_
    refine at_skip ?_
    refine at_normal ?_
    refine hK11 _ _ _ ?_
    refine at_seq_k (fun K13 hK13 => ?_)
    refine at_region ?_
    refine at_t (ot_call (ks := []) rfl rfl rfl Tryz.call8 rfl (T8 _) rfl) rfl rfl rfl ?_
    rintro v0 _ ⟨m0, hp0, rfl⟩
    obtain ⟨g0, hp0⟩ := hp0
    obtain ⟨rfl, rfl⟩ := hp0
    simp only [List.cons_append, List.nil_append, splice, spliceL]
    refine at_v (ov_assign rfl rfl) rfl rfl rfl ?_
    refine at_nil ?_
    refine at_normal ?_
    refine hK13 _ _ _ ?_
    refine at_seq_k (fun K14 hK14 => ?_)
    refine at_region ?_
    refine at_v (ov_move rfl rfl) rfl rfl rfl ?_
    refine at_v (ov_move rfl rfl) rfl rfl rfl ?_
    refine at_fold (A := Cl g0) [0] rfl cl_new ?_
    refine at_t (ot_call (ks := [0]) rfl rfl rfl Tryz.call9 rfl (hC0 ) rfl) rfl rfl rfl ?_
    rintro v0 _ ⟨m0, hp0, rfl⟩
    obtain ⟨rfl, rfl⟩ := hp0
    simp only [List.cons_append, List.nil_append, splice, spliceL]
    refine at_v (ov_assign rfl rfl) rfl rfl rfl ?_
    refine at_nil ?_
    refine at_normal ?_
    refine hK14 _ _ _ ?_
    refine at_seq_k (fun K15 hK15 => ?_)
    refine at_region ?_
    refine at_t (ot_allocA rfl Tryz.zeroValue43) rfl rfl rfl ?_
    rintro _ _ ⟨g1, rfl, rfl⟩
    refine at_t (ot_allocA rfl Tryz.zeroValue43) rfl rfl rfl ?_
    rintro _ _ ⟨g2, rfl, rfl⟩
    refine at_nil ?_
    refine at_normal ?_
    refine hK15 _ _ _ ?_
    refine at_seq_k (fun K16 hK16 => ?_)
    refine at_seq_k (fun K17 hK17 => ?_)
    refine at_region ?_
    refine at_v (ov_move rfl rfl) rfl rfl rfl ?_
    refine at_v (ov_len_slice rfl Tryz.underlying28 rfl) rfl rfl rfl ?_
    refine at_v (ov_move rfl rfl) rfl rfl rfl ?_
    refine at_nil ?_
    refine at_normal ?_
    refine hK17 _ _ _ ?_
    refine at_block ?_
    refine at_bufNil 5 ?_
    refine at_fold (A := Bld g2 []) [1, 0] rfl (fun h s => ⟨none, 0, false, s⟩) ?_
    refine at_bufNil 5 ?_
    refine at_fold (A := Bld g1 []) [2, 0] rfl (fun h s => ⟨none, 0, false, s⟩) ?_
    have hgl := gapped_len_le l
    have hll := len_gapped l
    refine at_loopE [49, 50, 51, 12, 52, 53, 54, 13, 55, 56, 57, 58, 59, 60, 61, 62, 63, 64, 65, 66, 67, 68, 69, 70, 71, 72, 73, 74, 48] (fun i : Nat × BL => i.1 ≤ l.length ∧ LexPre i.2 (l.take i.1) ∧ i.2.length ≤ (gapped [32] (l.take i.1)).length + 5 * i.1) (fun i => [(48, .int .i64 (i.1 : Nat))]) (fun i m => setAt 0 (Bld g1 (smallL (l.take i.1))) (setAt 1 (Bld g2 i.2) m)) (fun i => l.length - i.1) (0, []) ⟨Nat.zero_le _, LexPre.nil, Nat.zero_le _⟩ ⟨rfl, trivial⟩ (fun _ s => s) ?_
    rintro ⟨k, W⟩ ⟨hk, hW, hWl⟩
    simp only [setAt] at hk hW hWl ⊢
    have hgt := gapped_take l k
    have hgs := gapped_small (l.take k)
    rcases Nat.lt_or_ge k l.length with hlt | hge
    · have hi1 : decide ((k : Int) < l.length) = true := decide_eq_true (by omega)
      obtain ⟨x, hget⟩ : ∃ x, l[k]? = some x := ⟨_, List.getElem?_eq_getElem hlt⟩
      have hms : l.take (k + 1) = l.take k ++ [x] := by rw [List.take_add_one, hget]; rfl
      have hx : rightL x = true := List.all_eq_true.1 hall x (List.mem_of_getElem? hget)
      have hss := smallL_succ hget
      have hg2 := gapped_succ' hget
      have hgt2 := gapped_take l (k + 1)
      have hx1 : ∀ t ∈ [x], t.2.length ≤ 10000 := fun t h => by rw [List.mem_singleton.1 h]; exact ht2 x (List.mem_of_getElem? hget)
      have hlx := lowT_len x
      have hwx : writeL [x] = writeT x := by simp [writeL, Lib.join, List.intercalate]
      rw [hg2] at hgt2
      simp only [List.length_append, List.length_cons, List.length_nil] at hgt2
      have hWr {A : Option Addr} {c c' : Nat} := T18a w0 (A := A) (c := c) (c' := c') (l := [x]) (by simp) hx1
      rw [hwx] at hWr
      have hst1 := hW.step (t := x) (piece_plain hx)
      have hst2 := hW.step (t := x) (piece_wide hx)
      rw [← hms] at hst1 hst2
      cases hk1 : decide (x.1 = 1) with
      | true =>
        have hlow : lowT x = Lib.toLowerA (writeT x) := by unfold lowT; rw [if_pos (of_decide_eq_true hk1)]
        rw [hlow] at hss hlx
        have hasc : ∀ b ∈ writeT x, b.toNat < 128 := by
          have e : writeT x = x.2 := by
            have := of_decide_eq_true hk1
            unfold writeT; rw [if_neg (by omega), if_neg (by omega), if_neg (by omega)]
          rw [e]
          intro b hb
          exact word_ascii ((word_right hx (of_decide_eq_true hk1)).choose_spec.choose_spec.2.2.1 b hb)
        have hb1 : (smallL (l.take k)).length + (Lib.toLowerA (writeT x) ++ [32]).length ≤ 100000 := by simp only [List.length_append, List.length_cons, List.length_nil]; omega
        have hb2 : W.length + ([47, 42, 59, 42, 47] ++ writeT x ++ [10]).length ≤ 100000 := by simp only [List.length_append, List.length_cons, List.length_nil]; omega
        have hb3 : W.length + (writeT x ++ [32]).length ≤ 100000 := by simp only [List.length_append, List.length_cons, List.length_nil]; omega
        have hlw : (writeT x).length ≤ 140737488355328 := by omega
        cases hi100 : decide ((W.length : Int) < 100) with
        | true =>
          refine at_seq_k (fun K18 hK18 => ?_)
          refine at_region ?_
          refine at_v (ov_int rfl rfl rfl rfl) rfl rfl rfl ?_
          refine at_nil ?_
          refine at_normal ?_
          refine hK18 _ _ _ ?_
          refine at_seq_k (fun K19 hK19 => ?_)
          refine at_cond_true (congrArg (fun b => some (Value.bool b)) (show _ = true from decide_eq_true (by omega))) ?_
          refine at_skip ?_
          refine at_normal ?_
          refine hK19 _ _ _ ?_
          refine at_seq_k (fun K20 hK20 => ?_)
          refine at_block ?_
          refine at_seq_k (fun K21 hK21 => ?_)
          refine at_region ?_
          refine at_v (ov_indexRd (fun _ s => s.rd (k := 3) rfl) rfl Tryz.underlying28 rfl rfl rfl hget) rfl rfl rfl ?_
          refine at_v (ov_loadRdS (vs := [_, _]) (fun _ s => s.rd (k := 3) rfl) rfl rfl rfl hget rfl rfl) rfl rfl rfl ?_
          refine at_t (ot_allocA rfl Tryz.zeroValue33) rfl rfl rfl ?_
          rintro _ _ ⟨g3, rfl, rfl⟩
          refine at_t0 (ot_store (k := 0) rfl rfl rfl rfl rfl rfl rfl) rfl rfl ?_
          rintro _ _ ⟨rfl, rfl⟩
          simp only [setAt, splice, spliceL, Value.cells]
          refine at_nil ?_
          refine at_normal ?_
          refine hK21 _ _ _ ?_
          refine at_seq_k (fun K22 hK22 => ?_)
          refine at_region ?_
          refine at_v (ov_loadS (cs := [_, _]) rfl rfl rfl rfl (fun _ s => s.lds (k := 0) rfl ⟨rfl, rfl, trivial⟩)) rfl rfl rfl ?_
          refine at_t (ot_buildSlice (cs := [_, _]) rfl Tryz.underlying28 rfl rfl rfl rfl rfl rfl) rfl rfl rfl ?_
          rintro _ _ ⟨g4, rfl, rfl⟩
          refine at_rowOf (c := 1) (size := 2) tE 0 [x] rfl (fun _ _ => rfl) (by simp) (by decide) (by simp) rfl ?_
          simp only [setAt]
          refine at_reval 53 (.slice (some ⟨g4, 0, none⟩) [x].length 1) rfl rfl ?_
          refine at_t (ot_call (ks := [0]) rfl rfl rfl Tryz.call18 rfl (hWr ) rfl) rfl rfl rfl ?_
          rintro v0 _ ⟨m0, hp0, rfl⟩
          obtain ⟨rfl, rfl⟩ := hp0
          simp only [List.cons_append, List.nil_append, splice, spliceL]
          refine at_v (ov_assign rfl rfl) rfl rfl rfl ?_
          refine at_nil ?_
          refine at_normal ?_
          refine hK22 _ _ _ ?_
          refine at_seq_k (fun K23 hK23 => ?_)
          refine at_seq_k (fun K24 hK24 => ?_)
          refine at_region ?_
          refine at_v (ov_fieldAddr (k := 0) (r := 0) rfl rfl rfl rfl) rfl rfl rfl ?_
          refine at_v (ov_load rfl rfl rfl (fun _ s => s.ld (k := 1) rfl rfl)) rfl rfl rfl ?_
          refine at_v (ov_int rfl rfl rfl rfl) rfl rfl rfl ?_
          refine at_nil ?_
          refine at_normal ?_
          refine hK24 _ _ _ ?_
          refine at_cond_true (congrArg (fun b => some (Value.bool b)) (show _ = true from by first | assumption | (rw [Bool.not_eq_true']; exact decide_eq_false (by omega)))) ?_
          refine at_region ?_
          refine at_v (ov_move rfl rfl) rfl rfl rfl ?_
          refine at_t (ot_call (ks := []) rfl rfl rfl Tryz.call20 rfl (T20 _ _ (by first | assumption | rfl | omega | decide | (simp; done) | (simp at *; omega)) (by first | assumption | rfl | omega | decide | (simp; done) | (simp at *; omega))) rfl) rfl rfl rfl ?_
          rintro v0 _ ⟨m0, hp0, rfl⟩
          obtain ⟨rfl, rfl⟩ := hp0
          simp only [List.cons_append, List.nil_append, splice, spliceL]
          refine at_v (ov_catL rfl rfl rfl (by first | omega | (simp only [List.length_append, List.length_cons, List.length_nil]; omega))) rfl rfl rfl ?_
          refine at_t (ot_call (ks := [2]) rfl rfl rfl Tryz.call19 rfl (T19 _ _ (by first | assumption | rfl | omega | decide | (simp; done) | (simp at *; omega))) rfl) rfl rfl rfl ?_
          rintro v0 _ ⟨m0, hp0, rfl⟩
          obtain ⟨r'0, hp0⟩ := hp0
          obtain ⟨rfl, rfl⟩ := hp0
          simp only [List.cons_append, List.nil_append, splice, spliceL]
          refine at_nil ?_
          refine at_normal ?_
          refine hK23 _ _ _ ?_
          refine at_seq_k (fun K25 hK25 => ?_)
          refine at_region ?_
          refine at_t (ot_call (ks := [3]) rfl rfl rfl Tryz.call21 rfl (T21b _) rfl) rfl rfl rfl ?_
          rintro v1 _ ⟨m0, hp0, rfl⟩
          obtain ⟨rfl, rfl⟩ := hp0
          simp only [List.cons_append, List.nil_append, splice, spliceL]
          refine at_v (ov_int rfl rfl rfl rfl) rfl rfl rfl ?_
          refine at_nil ?_
          refine at_normal ?_
          refine hK25 _ _ _ ?_
          refine at_cond_true (congrArg (fun b => some (Value.bool b)) (show _ = true from by first | assumption | (rw [Bool.not_eq_true']; exact decide_eq_false (by omega)))) ?_
          refine at_region ?_
          refine at_v (ov_move rfl rfl) rfl rfl rfl ?_
          refine at_v (ov_catL rfl rfl rfl (by first | omega | (simp only [List.length_append, List.length_cons, List.length_nil]; omega))) rfl rfl rfl ?_
          refine at_v (ov_catL rfl rfl rfl (by first | omega | (simp only [List.length_append, List.length_cons, List.length_nil]; omega))) rfl rfl rfl ?_
          refine at_t (ot_call (ks := [0]) rfl rfl rfl Tryz.call19 rfl (T19 _ _ (by first | assumption | rfl | omega | decide | (simp; done) | (simp at *; omega))) rfl) rfl rfl rfl ?_
          rintro v1 _ ⟨m0, hp0, rfl⟩
          obtain ⟨r'0, hp0⟩ := hp0
          obtain ⟨rfl, rfl⟩ := hp0
          simp only [List.cons_append, List.nil_append, splice, spliceL]
          refine at_nil ?_
          refine at_inb_normal ?_
          refine at_normal ?_
          refine hK20 _ _ _ ?_
          refine at_region ?_
          refine at_v ((ov_int rfl rfl rfl rfl).eq (congrArg (Value.int .i64) (inK_i64 (by omega) (by omega)))) rfl rfl rfl ?_
          refine at_v (ov_move rfl rfl) rfl rfl rfl ?_
          refine at_nil ?_
          refine at_normal ?_
          refine at_roundF (k + 1, W ++ 47 :: 42 :: 59 :: 42 :: 47 :: (writeT x ++ [10])) ⟨hlt, hst2, ?_⟩ (by simp only; omega) ⟨rfl, trivial⟩ rfl ?_
          · rw [hg2]
            simp only [List.length_append, List.length_cons, List.length_nil]
            omega
          simp only [setAt, hss]
          exact fun _ s => s.finEq (ks := [1, 0, 2, 2]) (js := [0, 0]) rfl rfl rfl
        | false =>
          refine at_seq_k (fun K18 hK18 => ?_)
          refine at_region ?_
          refine at_v (ov_int rfl rfl rfl rfl) rfl rfl rfl ?_
          refine at_nil ?_
          refine at_normal ?_
          refine hK18 _ _ _ ?_
          refine at_seq_k (fun K19 hK19 => ?_)
          refine at_cond_true (congrArg (fun b => some (Value.bool b)) (show _ = true from decide_eq_true (by omega))) ?_
          refine at_skip ?_
          refine at_normal ?_
          refine hK19 _ _ _ ?_
          refine at_seq_k (fun K20 hK20 => ?_)
          refine at_block ?_
          refine at_seq_k (fun K21 hK21 => ?_)
          refine at_region ?_
          refine at_v (ov_indexRd (fun _ s => s.rd (k := 3) rfl) rfl Tryz.underlying28 rfl rfl rfl hget) rfl rfl rfl ?_
          refine at_v (ov_loadRdS (vs := [_, _]) (fun _ s => s.rd (k := 3) rfl) rfl rfl rfl hget rfl rfl) rfl rfl rfl ?_
          refine at_t (ot_allocA rfl Tryz.zeroValue33) rfl rfl rfl ?_
          rintro _ _ ⟨g3, rfl, rfl⟩
          refine at_t0 (ot_store (k := 0) rfl rfl rfl rfl rfl rfl rfl) rfl rfl ?_
          rintro _ _ ⟨rfl, rfl⟩
          simp only [setAt, splice, spliceL, Value.cells]
          refine at_nil ?_
          refine at_normal ?_
          refine hK21 _ _ _ ?_
          refine at_seq_k (fun K22 hK22 => ?_)
          refine at_region ?_
          refine at_v (ov_loadS (cs := [_, _]) rfl rfl rfl rfl (fun _ s => s.lds (k := 0) rfl ⟨rfl, rfl, trivial⟩)) rfl rfl rfl ?_
          refine at_t (ot_buildSlice (cs := [_, _]) rfl Tryz.underlying28 rfl rfl rfl rfl rfl rfl) rfl rfl rfl ?_
          rintro _ _ ⟨g4, rfl, rfl⟩
          refine at_rowOf (c := 1) (size := 2) tE 0 [x] rfl (fun _ _ => rfl) (by simp) (by decide) (by simp) rfl ?_
          simp only [setAt]
          refine at_reval 53 (.slice (some ⟨g4, 0, none⟩) [x].length 1) rfl rfl ?_
          refine at_t (ot_call (ks := [0]) rfl rfl rfl Tryz.call18 rfl (hWr ) rfl) rfl rfl rfl ?_
          rintro v0 _ ⟨m0, hp0, rfl⟩
          obtain ⟨rfl, rfl⟩ := hp0
          simp only [List.cons_append, List.nil_append, splice, spliceL]
          refine at_v (ov_assign rfl rfl) rfl rfl rfl ?_
          refine at_nil ?_
          refine at_normal ?_
          refine hK22 _ _ _ ?_
          refine at_seq_k (fun K23 hK23 => ?_)
          refine at_seq_k (fun K24 hK24 => ?_)
          refine at_region ?_
          refine at_v (ov_fieldAddr (k := 0) (r := 0) rfl rfl rfl rfl) rfl rfl rfl ?_
          refine at_v (ov_load rfl rfl rfl (fun _ s => s.ld (k := 1) rfl rfl)) rfl rfl rfl ?_
          refine at_v (ov_int rfl rfl rfl rfl) rfl rfl rfl ?_
          refine at_nil ?_
          refine at_normal ?_
          refine hK24 _ _ _ ?_
          refine at_cond_true (congrArg (fun b => some (Value.bool b)) (show _ = true from by first | assumption | (rw [Bool.not_eq_true']; exact decide_eq_false (by omega)))) ?_
          refine at_region ?_
          refine at_v (ov_move rfl rfl) rfl rfl rfl ?_
          refine at_t (ot_call (ks := []) rfl rfl rfl Tryz.call20 rfl (T20 _ _ (by first | assumption | rfl | omega | decide | (simp; done) | (simp at *; omega)) (by first | assumption | rfl | omega | decide | (simp; done) | (simp at *; omega))) rfl) rfl rfl rfl ?_
          rintro v0 _ ⟨m0, hp0, rfl⟩
          obtain ⟨rfl, rfl⟩ := hp0
          simp only [List.cons_append, List.nil_append, splice, spliceL]
          refine at_v (ov_catL rfl rfl rfl (by first | omega | (simp only [List.length_append, List.length_cons, List.length_nil]; omega))) rfl rfl rfl ?_
          refine at_t (ot_call (ks := [2]) rfl rfl rfl Tryz.call19 rfl (T19 _ _ (by first | assumption | rfl | omega | decide | (simp; done) | (simp at *; omega))) rfl) rfl rfl rfl ?_
          rintro v0 _ ⟨m0, hp0, rfl⟩
          obtain ⟨r'0, hp0⟩ := hp0
          obtain ⟨rfl, rfl⟩ := hp0
          simp only [List.cons_append, List.nil_append, splice, spliceL]
          refine at_nil ?_
          refine at_normal ?_
          refine hK23 _ _ _ ?_
          refine at_seq_k (fun K25 hK25 => ?_)
          refine at_region ?_
          refine at_t (ot_call (ks := [3]) rfl rfl rfl Tryz.call21 rfl (T21b _) rfl) rfl rfl rfl ?_
          rintro v1 _ ⟨m0, hp0, rfl⟩
          obtain ⟨rfl, rfl⟩ := hp0
          simp only [List.cons_append, List.nil_append, splice, spliceL]
          refine at_v (ov_int rfl rfl rfl rfl) rfl rfl rfl ?_
          refine at_nil ?_
          refine at_normal ?_
          refine hK25 _ _ _ ?_
          refine at_cond_false (congrArg (fun b => some (Value.bool b)) (show _ = false from by first | assumption | (rw [Bool.not_eq_false']; exact decide_eq_true (by omega)))) ?_
          refine at_region ?_
          refine at_v (ov_move rfl rfl) rfl rfl rfl ?_
          refine at_v (ov_catL rfl rfl rfl (by first | omega | (simp only [List.length_append, List.length_cons, List.length_nil]; omega))) rfl rfl rfl ?_
          refine at_t (ot_call (ks := [0]) rfl rfl rfl Tryz.call19 rfl (T19 _ _ (by first | assumption | rfl | omega | decide | (simp; done) | (simp at *; omega))) rfl) rfl rfl rfl ?_
          rintro v1 _ ⟨m0, hp0, rfl⟩
          obtain ⟨r'0, hp0⟩ := hp0
          obtain ⟨rfl, rfl⟩ := hp0
          simp only [List.cons_append, List.nil_append, splice, spliceL]
          refine at_nil ?_
          refine at_inb_normal ?_
          refine at_normal ?_
          refine hK20 _ _ _ ?_
          refine at_region ?_
          refine at_v ((ov_int rfl rfl rfl rfl).eq (congrArg (Value.int .i64) (inK_i64 (by omega) (by omega)))) rfl rfl rfl ?_
          refine at_v (ov_move rfl rfl) rfl rfl rfl ?_
          refine at_nil ?_
          refine at_normal ?_
          refine at_roundF (k + 1, W ++ (writeT x ++ [32])) ⟨hlt, hst1, ?_⟩ (by simp only; omega) ⟨rfl, trivial⟩ rfl ?_
          · rw [hg2]
            simp only [List.length_append, List.length_cons, List.length_nil]
            omega
          simp only [setAt, hss]
          exact fun _ s => s.finEq (ks := [1, 0, 2, 2]) (js := [0, 0]) rfl rfl rfl
      | false =>
        have hlow : lowT x = writeT x := by unfold lowT; rw [if_neg (of_decide_eq_false hk1)]
        rw [hlow] at hss
        have hb1 : (smallL (l.take k)).length + (writeT x ++ [32]).length ≤ 100000 := by simp only [List.length_append, List.length_cons, List.length_nil]; omega
        have hb2 : W.length + ([47, 42, 59, 42, 47] ++ writeT x ++ [10]).length ≤ 100000 := by simp only [List.length_append, List.length_cons, List.length_nil]; omega
        have hb3 : W.length + (writeT x ++ [32]).length ≤ 100000 := by simp only [List.length_append, List.length_cons, List.length_nil]; omega
        cases hi100 : decide ((W.length : Int) < 100) with
        | true =>
          refine at_seq_k (fun K18 hK18 => ?_)
          refine at_region ?_
          refine at_v (ov_int rfl rfl rfl rfl) rfl rfl rfl ?_
          refine at_nil ?_
          refine at_normal ?_
          refine hK18 _ _ _ ?_
          refine at_seq_k (fun K19 hK19 => ?_)
          refine at_cond_true (congrArg (fun b => some (Value.bool b)) (show _ = true from decide_eq_true (by omega))) ?_
          refine at_skip ?_
          refine at_normal ?_
          refine hK19 _ _ _ ?_
          refine at_seq_k (fun K20 hK20 => ?_)
          refine at_block ?_
          refine at_seq_k (fun K21 hK21 => ?_)
          refine at_region ?_
          refine at_v (ov_indexRd (fun _ s => s.rd (k := 3) rfl) rfl Tryz.underlying28 rfl rfl rfl hget) rfl rfl rfl ?_
          refine at_v (ov_loadRdS (vs := [_, _]) (fun _ s => s.rd (k := 3) rfl) rfl rfl rfl hget rfl rfl) rfl rfl rfl ?_
          refine at_t (ot_allocA rfl Tryz.zeroValue33) rfl rfl rfl ?_
          rintro _ _ ⟨g3, rfl, rfl⟩
          refine at_t0 (ot_store (k := 0) rfl rfl rfl rfl rfl rfl rfl) rfl rfl ?_
          rintro _ _ ⟨rfl, rfl⟩
          simp only [setAt, splice, spliceL, Value.cells]
          refine at_nil ?_
          refine at_normal ?_
          refine hK21 _ _ _ ?_
          refine at_seq_k (fun K22 hK22 => ?_)
          refine at_region ?_
          refine at_v (ov_loadS (cs := [_, _]) rfl rfl rfl rfl (fun _ s => s.lds (k := 0) rfl ⟨rfl, rfl, trivial⟩)) rfl rfl rfl ?_
          refine at_t (ot_buildSlice (cs := [_, _]) rfl Tryz.underlying28 rfl rfl rfl rfl rfl rfl) rfl rfl rfl ?_
          rintro _ _ ⟨g4, rfl, rfl⟩
          refine at_rowOf (c := 1) (size := 2) tE 0 [x] rfl (fun _ _ => rfl) (by simp) (by decide) (by simp) rfl ?_
          simp only [setAt]
          refine at_reval 53 (.slice (some ⟨g4, 0, none⟩) [x].length 1) rfl rfl ?_
          refine at_t (ot_call (ks := [0]) rfl rfl rfl Tryz.call18 rfl (hWr ) rfl) rfl rfl rfl ?_
          rintro v0 _ ⟨m0, hp0, rfl⟩
          obtain ⟨rfl, rfl⟩ := hp0
          simp only [List.cons_append, List.nil_append, splice, spliceL]
          refine at_v (ov_assign rfl rfl) rfl rfl rfl ?_
          refine at_nil ?_
          refine at_normal ?_
          refine hK22 _ _ _ ?_
          refine at_seq_k (fun K23 hK23 => ?_)
          refine at_seq_k (fun K24 hK24 => ?_)
          refine at_region ?_
          refine at_v (ov_fieldAddr (k := 0) (r := 0) rfl rfl rfl rfl) rfl rfl rfl ?_
          refine at_v (ov_load rfl rfl rfl (fun _ s => s.ld (k := 1) rfl rfl)) rfl rfl rfl ?_
          refine at_v (ov_int rfl rfl rfl rfl) rfl rfl rfl ?_
          refine at_nil ?_
          refine at_normal ?_
          refine hK24 _ _ _ ?_
          refine at_cond_false (congrArg (fun b => some (Value.bool b)) (show _ = false from by first | assumption | (rw [Bool.not_eq_false']; exact decide_eq_true (by omega)))) ?_
          refine at_region ?_
          refine at_v (ov_move rfl rfl) rfl rfl rfl ?_
          refine at_v (ov_catL rfl rfl rfl (by first | omega | (simp only [List.length_append, List.length_cons, List.length_nil]; omega))) rfl rfl rfl ?_
          refine at_t (ot_call (ks := [2]) rfl rfl rfl Tryz.call19 rfl (T19 _ _ (by first | assumption | rfl | omega | decide | (simp; done) | (simp at *; omega))) rfl) rfl rfl rfl ?_
          rintro v0 _ ⟨m0, hp0, rfl⟩
          obtain ⟨r'0, hp0⟩ := hp0
          obtain ⟨rfl, rfl⟩ := hp0
          simp only [List.cons_append, List.nil_append, splice, spliceL]
          refine at_nil ?_
          refine at_normal ?_
          refine hK23 _ _ _ ?_
          refine at_seq_k (fun K25 hK25 => ?_)
          refine at_region ?_
          refine at_t (ot_call (ks := [3]) rfl rfl rfl Tryz.call21 rfl (T21b _) rfl) rfl rfl rfl ?_
          rintro v1 _ ⟨m0, hp0, rfl⟩
          obtain ⟨rfl, rfl⟩ := hp0
          simp only [List.cons_append, List.nil_append, splice, spliceL]
          refine at_v (ov_int rfl rfl rfl rfl) rfl rfl rfl ?_
          refine at_nil ?_
          refine at_normal ?_
          refine hK25 _ _ _ ?_
          refine at_cond_true (congrArg (fun b => some (Value.bool b)) (show _ = true from by first | assumption | (rw [Bool.not_eq_true']; exact decide_eq_false (by omega)))) ?_
          refine at_region ?_
          refine at_v (ov_move rfl rfl) rfl rfl rfl ?_
          refine at_v (ov_catL rfl rfl rfl (by first | omega | (simp only [List.length_append, List.length_cons, List.length_nil]; omega))) rfl rfl rfl ?_
          refine at_v (ov_catL rfl rfl rfl (by first | omega | (simp only [List.length_append, List.length_cons, List.length_nil]; omega))) rfl rfl rfl ?_
          refine at_t (ot_call (ks := [0]) rfl rfl rfl Tryz.call19 rfl (T19 _ _ (by first | assumption | rfl | omega | decide | (simp; done) | (simp at *; omega))) rfl) rfl rfl rfl ?_
          rintro v1 _ ⟨m0, hp0, rfl⟩
          obtain ⟨r'0, hp0⟩ := hp0
          obtain ⟨rfl, rfl⟩ := hp0
          simp only [List.cons_append, List.nil_append, splice, spliceL]
          refine at_nil ?_
          refine at_inb_normal ?_
          refine at_normal ?_
          refine hK20 _ _ _ ?_
          refine at_region ?_
          refine at_v ((ov_int rfl rfl rfl rfl).eq (congrArg (Value.int .i64) (inK_i64 (by omega) (by omega)))) rfl rfl rfl ?_
          refine at_v (ov_move rfl rfl) rfl rfl rfl ?_
          refine at_nil ?_
          refine at_normal ?_
          refine at_roundF (k + 1, W ++ 47 :: 42 :: 59 :: 42 :: 47 :: (writeT x ++ [10])) ⟨hlt, hst2, ?_⟩ (by simp only; omega) ⟨rfl, trivial⟩ rfl ?_
          · rw [hg2]
            simp only [List.length_append, List.length_cons, List.length_nil]
            omega
          simp only [setAt, hss]
          exact fun _ s => s.finEq (ks := [1, 0, 2, 2]) (js := [0, 0]) rfl rfl rfl
        | false =>
          refine at_seq_k (fun K18 hK18 => ?_)
          refine at_region ?_
          refine at_v (ov_int rfl rfl rfl rfl) rfl rfl rfl ?_
          refine at_nil ?_
          refine at_normal ?_
          refine hK18 _ _ _ ?_
          refine at_seq_k (fun K19 hK19 => ?_)
          refine at_cond_true (congrArg (fun b => some (Value.bool b)) (show _ = true from decide_eq_true (by omega))) ?_
          refine at_skip ?_
          refine at_normal ?_
          refine hK19 _ _ _ ?_
          refine at_seq_k (fun K20 hK20 => ?_)
          refine at_block ?_
          refine at_seq_k (fun K21 hK21 => ?_)
          refine at_region ?_
          refine at_v (ov_indexRd (fun _ s => s.rd (k := 3) rfl) rfl Tryz.underlying28 rfl rfl rfl hget) rfl rfl rfl ?_
          refine at_v (ov_loadRdS (vs := [_, _]) (fun _ s => s.rd (k := 3) rfl) rfl rfl rfl hget rfl rfl) rfl rfl rfl ?_
          refine at_t (ot_allocA rfl Tryz.zeroValue33) rfl rfl rfl ?_
          rintro _ _ ⟨g3, rfl, rfl⟩
          refine at_t0 (ot_store (k := 0) rfl rfl rfl rfl rfl rfl rfl) rfl rfl ?_
          rintro _ _ ⟨rfl, rfl⟩
          simp only [setAt, splice, spliceL, Value.cells]
          refine at_nil ?_
          refine at_normal ?_
          refine hK21 _ _ _ ?_
          refine at_seq_k (fun K22 hK22 => ?_)
          refine at_region ?_
          refine at_v (ov_loadS (cs := [_, _]) rfl rfl rfl rfl (fun _ s => s.lds (k := 0) rfl ⟨rfl, rfl, trivial⟩)) rfl rfl rfl ?_
          refine at_t (ot_buildSlice (cs := [_, _]) rfl Tryz.underlying28 rfl rfl rfl rfl rfl rfl) rfl rfl rfl ?_
          rintro _ _ ⟨g4, rfl, rfl⟩
          refine at_rowOf (c := 1) (size := 2) tE 0 [x] rfl (fun _ _ => rfl) (by simp) (by decide) (by simp) rfl ?_
          simp only [setAt]
          refine at_reval 53 (.slice (some ⟨g4, 0, none⟩) [x].length 1) rfl rfl ?_
          refine at_t (ot_call (ks := [0]) rfl rfl rfl Tryz.call18 rfl (hWr ) rfl) rfl rfl rfl ?_
          rintro v0 _ ⟨m0, hp0, rfl⟩
          obtain ⟨rfl, rfl⟩ := hp0
          simp only [List.cons_append, List.nil_append, splice, spliceL]
          refine at_v (ov_assign rfl rfl) rfl rfl rfl ?_
          refine at_nil ?_
          refine at_normal ?_
          refine hK22 _ _ _ ?_
          refine at_seq_k (fun K23 hK23 => ?_)
          refine at_seq_k (fun K24 hK24 => ?_)
          refine at_region ?_
          refine at_v (ov_fieldAddr (k := 0) (r := 0) rfl rfl rfl rfl) rfl rfl rfl ?_
          refine at_v (ov_load rfl rfl rfl (fun _ s => s.ld (k := 1) rfl rfl)) rfl rfl rfl ?_
          refine at_v (ov_int rfl rfl rfl rfl) rfl rfl rfl ?_
          refine at_nil ?_
          refine at_normal ?_
          refine hK24 _ _ _ ?_
          refine at_cond_false (congrArg (fun b => some (Value.bool b)) (show _ = false from by first | assumption | (rw [Bool.not_eq_false']; exact decide_eq_true (by omega)))) ?_
          refine at_region ?_
          refine at_v (ov_move rfl rfl) rfl rfl rfl ?_
          refine at_v (ov_catL rfl rfl rfl (by first | omega | (simp only [List.length_append, List.length_cons, List.length_nil]; omega))) rfl rfl rfl ?_
          refine at_t (ot_call (ks := [2]) rfl rfl rfl Tryz.call19 rfl (T19 _ _ (by first | assumption | rfl | omega | decide | (simp; done) | (simp at *; omega))) rfl) rfl rfl rfl ?_
          rintro v0 _ ⟨m0, hp0, rfl⟩
          obtain ⟨r'0, hp0⟩ := hp0
          obtain ⟨rfl, rfl⟩ := hp0
          simp only [List.cons_append, List.nil_append, splice, spliceL]
          refine at_nil ?_
          refine at_normal ?_
          refine hK23 _ _ _ ?_
          refine at_seq_k (fun K25 hK25 => ?_)
          refine at_region ?_
          refine at_t (ot_call (ks := [3]) rfl rfl rfl Tryz.call21 rfl (T21b _) rfl) rfl rfl rfl ?_
          rintro v1 _ ⟨m0, hp0, rfl⟩
          obtain ⟨rfl, rfl⟩ := hp0
          simp only [List.cons_append, List.nil_append, splice, spliceL]
          refine at_v (ov_int rfl rfl rfl rfl) rfl rfl rfl ?_
          refine at_nil ?_
          refine at_normal ?_
          refine hK25 _ _ _ ?_
          refine at_cond_false (congrArg (fun b => some (Value.bool b)) (show _ = false from by first | assumption | (rw [Bool.not_eq_false']; exact decide_eq_true (by omega)))) ?_
          refine at_region ?_
          refine at_v (ov_move rfl rfl) rfl rfl rfl ?_
          refine at_v (ov_catL rfl rfl rfl (by first | omega | (simp only [List.length_append, List.length_cons, List.length_nil]; omega))) rfl rfl rfl ?_
          refine at_t (ot_call (ks := [0]) rfl rfl rfl Tryz.call19 rfl (T19 _ _ (by first | assumption | rfl | omega | decide | (simp; done) | (simp at *; omega))) rfl) rfl rfl rfl ?_
          rintro v1 _ ⟨m0, hp0, rfl⟩
          obtain ⟨r'0, hp0⟩ := hp0
          obtain ⟨rfl, rfl⟩ := hp0
          simp only [List.cons_append, List.nil_append, splice, spliceL]
          refine at_nil ?_
          refine at_inb_normal ?_
          refine at_normal ?_
          refine hK20 _ _ _ ?_
          refine at_region ?_
          refine at_v ((ov_int rfl rfl rfl rfl).eq (congrArg (Value.int .i64) (inK_i64 (by omega) (by omega)))) rfl rfl rfl ?_
          refine at_v (ov_move rfl rfl) rfl rfl rfl ?_
          refine at_nil ?_
          refine at_normal ?_
          refine at_roundF (k + 1, W ++ (writeT x ++ [32])) ⟨hlt, hst1, ?_⟩ (by simp only; omega) ⟨rfl, trivial⟩ rfl ?_
          · rw [hg2]
            simp only [List.length_append, List.length_cons, List.length_nil]
            omega
          simp only [setAt, hss]
          exact fun _ s => s.finEq (ks := [1, 0, 2, 2]) (js := [0, 0]) rfl rfl rfl
    · have hi1 : decide ((k : Int) < l.length) = false := decide_eq_false (by omega)
      rw [List.take_of_length_le hge] at hW hWl hgs ⊢
      have hSm {g : Nat} := T9 w0 (g := g) (smallL l) (by omega) hM
      have e1 := class_small hall (by omega)
      rw [e1] at hSm
      have hiq : decide (classL (writeL l) = classL (writeL l)) = true := decide_eq_true rfl
      by_cases h195 : 195 < W.length
      · have hi195 : decide ((W.length : Int) > 195) = true := decide_eq_true (by omega)
        refine at_seq_k (fun K18 hK18 => ?_)
        refine at_region ?_
        refine at_v (ov_int rfl rfl rfl rfl) rfl rfl rfl ?_
        refine at_nil ?_
        refine at_normal ?_
        refine hK18 _ _ _ ?_
        refine at_seq_k (fun K19 hK19 => ?_)
        refine at_cond_false (congrArg (fun b => some (Value.bool b)) (show _ = false from decide_eq_false (by omega))) ?_
        refine at_exit ?_
        refine at_then_exit ?_
        refine at_then_exit ?_
        refine at_exit_eq ?_
        refine at_normal ?_
        refine hK16 _ _ _ ?_
        refine at_seq_k (fun K20 hK20 => ?_)
        refine at_seq_k (fun K21 hK21 => ?_)
        refine at_region ?_
        refine at_t (ot_call (ks := [1]) rfl rfl rfl Tryz.call21 rfl (T21b _) rfl) rfl rfl rfl ?_
        rintro v0 _ ⟨m0, hp0, rfl⟩
        obtain ⟨rfl, rfl⟩ := hp0
        simp only [List.cons_append, List.nil_append, splice, spliceL]
        refine at_v (ov_int rfl rfl rfl rfl) rfl rfl rfl ?_
        refine at_nil ?_
        refine at_normal ?_
        refine hK21 _ _ _ ?_
        refine at_cond_true (congrArg (fun b => some (Value.bool b)) (show _ = true from decide_eq_true (by omega))) ?_
        refine at_seq_k (fun K22 hK22 => ?_)
        refine at_region ?_
        refine at_v (ov_move rfl rfl) rfl rfl rfl ?_
        refine at_t (ot_call (ks := [1]) rfl rfl rfl Tryz.call22 rfl (T22 _) rfl) rfl rfl rfl ?_
        rintro v0 _ ⟨m0, hp0, rfl⟩
        obtain ⟨V0, hp0⟩ := hp0
        obtain ⟨A0, hp0⟩ := hp0
        obtain ⟨c0, hp0⟩ := hp0
        obtain ⟨rfl, rfl⟩ := hp0
        simp only [List.cons_append, List.nil_append, splice, spliceL]
        refine at_t (ot_call (ks := [2]) rfl rfl rfl Tryz.call9 rfl (hSm ) rfl) rfl rfl rfl ?_
        rintro v0 _ ⟨m0, hp0, rfl⟩
        obtain ⟨rfl, rfl⟩ := hp0
        simp only [List.cons_append, List.nil_append, splice, spliceL]
        refine at_v (ov_move rfl rfl) rfl rfl rfl ?_
        refine at_v (ov_int rfl rfl rfl rfl) rfl rfl rfl ?_
        refine at_v (ov_assign rfl rfl) rfl rfl rfl ?_
        refine at_nil ?_
        refine at_normal ?_
        refine hK22 _ _ _ ?_
        refine at_ret ?_
        refine at_then_ret ?_
        refine at_end ?_
        refine at_fin (rsV rfl (res_tmp rfl)) ?_
        refine ⟨_, ⟨by rw [hiq], rfl⟩, ?_⟩
        exact fun _ s => s.finEq (ks := []) (js := [0, 0, 0, 0]) rfl rfl rfl
      · have hi195 : decide ((W.length : Int) > 195) = false := decide_eq_false (by omega)
        have hWi {g : Nat} := T9 w0 (g := g) W (by omega) hM
        rw [class_wide hall (by omega) hW (by omega)] at hWi
        have hSi {g : Nat} := T9 w0 (g := g) (writeL l ++ [32, 59, 32, 59]) (by simp; omega) hM
        rw [class_signs hall (by omega)] at hSi
        have hRe {g : Nat} := T9 w0 (g := g) ([45, 45, 32, 120, 10] ++ writeL l) (by simp; omega) hM
        rw [class_remark hall (by omega)] at hRe
        have hne : (!decide (classL (writeL l) = 0)) = true := by
          rw [decide_eq_false (class_ne (write_lex hall) (by omega))]; rfl
        refine at_seq_k (fun K18 hK18 => ?_)
        refine at_region ?_
        refine at_v (ov_int rfl rfl rfl rfl) rfl rfl rfl ?_
        refine at_nil ?_
        refine at_normal ?_
        refine hK18 _ _ _ ?_
        refine at_seq_k (fun K19 hK19 => ?_)
        refine at_cond_false (congrArg (fun b => some (Value.bool b)) (show _ = false from decide_eq_false (by omega))) ?_
        refine at_exit ?_
        refine at_then_exit ?_
        refine at_then_exit ?_
        refine at_exit_eq ?_
        refine at_normal ?_
        refine hK16 _ _ _ ?_
        refine at_seq_k (fun K20 hK20 => ?_)
        refine at_seq_k (fun K21 hK21 => ?_)
        refine at_region ?_
        refine at_t (ot_call (ks := [1]) rfl rfl rfl Tryz.call21 rfl (T21b _) rfl) rfl rfl rfl ?_
        rintro v0 _ ⟨m0, hp0, rfl⟩
        obtain ⟨rfl, rfl⟩ := hp0
        simp only [List.cons_append, List.nil_append, splice, spliceL]
        refine at_v (ov_int rfl rfl rfl rfl) rfl rfl rfl ?_
        refine at_nil ?_
        refine at_normal ?_
        refine hK21 _ _ _ ?_
        refine at_cond_false (congrArg (fun b => some (Value.bool b)) (show _ = false from decide_eq_false (by omega))) ?_
        refine at_skip ?_
        refine at_normal ?_
        refine hK20 _ _ _ ?_
        refine at_seq_k (fun K22 hK22 => ?_)
        refine at_region ?_
        refine at_v (ov_move rfl rfl) rfl rfl rfl ?_
        refine at_t (ot_call (ks := [1]) rfl rfl rfl Tryz.call22 rfl (T22 _) rfl) rfl rfl rfl ?_
        rintro v0 _ ⟨m0, hp0, rfl⟩
        obtain ⟨V0, hp0⟩ := hp0
        obtain ⟨A0, hp0⟩ := hp0
        obtain ⟨c0, hp0⟩ := hp0
        obtain ⟨rfl, rfl⟩ := hp0
        simp only [List.cons_append, List.nil_append, splice, spliceL]
        refine at_t (ot_call (ks := [2]) rfl rfl rfl Tryz.call9 rfl (hSm ) rfl) rfl rfl rfl ?_
        rintro v0 _ ⟨m0, hp0, rfl⟩
        obtain ⟨rfl, rfl⟩ := hp0
        simp only [List.cons_append, List.nil_append, splice, spliceL]
        refine at_v (ov_move rfl rfl) rfl rfl rfl ?_
        refine at_v (ov_int rfl rfl rfl rfl) rfl rfl rfl ?_
        refine at_v (ov_move rfl rfl) rfl rfl rfl ?_
        refine at_reval 87 (.bool true) rfl (congrArg Value.bool (decide_eq_true (by omega))) ?_
        refine at_wanted (j := 5) rfl ?_
        refine at_v (ov_move rfl rfl) rfl rfl rfl ?_
        refine at_wanted (j := 5) rfl ?_
        refine at_t (ot_call (ks := [2]) rfl rfl rfl Tryz.call22 rfl (T22 _) rfl) rfl rfl rfl ?_
        rintro v0 _ ⟨m0, hp0, rfl⟩
        obtain ⟨V1, hp0⟩ := hp0
        obtain ⟨A1, hp0⟩ := hp0
        obtain ⟨c1, hp0⟩ := hp0
        obtain ⟨rfl, rfl⟩ := hp0
        simp only [List.cons_append, List.nil_append, splice, spliceL]
        refine at_wanted (j := 5) rfl ?_
        refine at_t (ot_call (ks := [1]) rfl rfl rfl Tryz.call9 rfl (hWi ) rfl) rfl rfl rfl ?_
        rintro v0 _ ⟨m0, hp0, rfl⟩
        obtain ⟨rfl, rfl⟩ := hp0
        simp only [List.cons_append, List.nil_append, splice, spliceL]
        refine at_wanted (j := 5) rfl ?_
        refine at_v (ov_move rfl rfl) rfl rfl rfl ?_
        refine at_wanted (j := 5) rfl ?_
        refine at_v (ov_int rfl rfl rfl rfl) rfl rfl rfl ?_
        refine at_v (ov_pick_t rfl rfl rfl) rfl rfl rfl ?_
        refine at_v (ov_move rfl rfl) rfl rfl rfl ?_
        refine at_reval 94 (.bool true) rfl (congrArg Value.bool (decide_eq_true (by omega))) ?_
        refine at_wanted (j := 12) rfl ?_
        refine at_v (ov_move rfl rfl) rfl rfl rfl ?_
        refine at_wanted (j := 12) rfl ?_
        refine at_v (ov_move rfl rfl) rfl rfl rfl ?_
        refine at_wanted (j := 12) rfl ?_
        refine at_v (ov_catL rfl rfl rfl (by first | omega | (simp only [List.length_append, List.length_cons, List.length_nil]; omega))) rfl rfl rfl ?_
        refine at_wanted (j := 12) rfl ?_
        refine at_t (ot_call (ks := [0]) rfl rfl rfl Tryz.call9 rfl (hSi ) rfl) rfl rfl rfl ?_
        rintro v0 _ ⟨m0, hp0, rfl⟩
        obtain ⟨rfl, rfl⟩ := hp0
        simp only [List.cons_append, List.nil_append, splice, spliceL]
        refine at_wanted (j := 12) rfl ?_
        refine at_v (ov_move rfl rfl) rfl rfl rfl ?_
        refine at_wanted (j := 12) rfl ?_
        refine at_v (ov_int rfl rfl rfl rfl) rfl rfl rfl ?_
        refine at_v (ov_pick_t rfl rfl rfl) rfl rfl rfl ?_
        refine at_v (ov_move rfl rfl) rfl rfl rfl ?_
        refine at_reval 102 (.bool true) rfl (congrArg Value.bool (decide_eq_true (by omega))) ?_
        refine at_wanted (j := 20) rfl ?_
        refine at_v (ov_move rfl rfl) rfl rfl rfl ?_
        refine at_wanted (j := 20) rfl ?_
        refine at_v (ov_move rfl rfl) rfl rfl rfl ?_
        refine at_wanted (j := 20) rfl ?_
        refine at_v (ov_catL rfl rfl rfl (by first | omega | (simp only [List.length_append, List.length_cons, List.length_nil]; omega))) rfl rfl rfl ?_
        refine at_wanted (j := 20) rfl ?_
        refine at_t (ot_call (ks := [0]) rfl rfl rfl Tryz.call9 rfl (hRe ) rfl) rfl rfl rfl ?_
        rintro v0 _ ⟨m0, hp0, rfl⟩
        obtain ⟨rfl, rfl⟩ := hp0
        simp only [List.cons_append, List.nil_append, splice, spliceL]
        refine at_wanted (j := 20) rfl ?_
        refine at_v (ov_move rfl rfl) rfl rfl rfl ?_
        refine at_wanted (j := 20) rfl ?_
        refine at_v (ov_int rfl rfl rfl rfl) rfl rfl rfl ?_
        refine at_v (ov_pick_t rfl rfl rfl) rfl rfl rfl ?_
        refine at_v (ov_move rfl rfl) rfl rfl rfl ?_
        refine at_reval 110 (.bool true) rfl (congrArg Value.bool (decide_eq_true (by omega))) ?_
        refine at_wanted (j := 28) rfl ?_
        refine at_v (ov_move rfl rfl) rfl rfl rfl ?_
        refine at_wanted (j := 28) rfl ?_
        refine at_v (ov_int rfl rfl rfl rfl) rfl rfl rfl ?_
        refine at_v (ov_pick_t rfl rfl rfl) rfl rfl rfl ?_
        refine at_v (ov_assign rfl rfl) rfl rfl rfl ?_
        refine at_nil ?_
        refine at_normal ?_
        refine hK22 _ _ _ ?_
        refine at_ret ?_
        refine at_end ?_
        refine at_fin (rsV rfl (res_tmp rfl)) ?_
        refine ⟨_, ⟨by rw [hne], rfl⟩, ?_⟩
        exact fun _ s => s.finEq (ks := []) (js := [0, 0, 0, 0]) rfl rfl rfl
end Go.Proofs.YtgclahlbifbgdaaGreatDoor
