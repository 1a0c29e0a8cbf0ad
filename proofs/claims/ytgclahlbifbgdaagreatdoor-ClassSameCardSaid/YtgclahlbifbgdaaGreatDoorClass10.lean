/- Package class: tokens, walked. -/
import Derived.Test.YtgclahlbifbgdaaGreatDoorProg
import Derived.Test.YtgclahlbifbgdaaGreatDoorClass15
import Derived.Test.YtgclahlbifbgdaaGreatDoorSLStr
import Derived.KernelRfl
set_option linter.unusedSimpArgs false
set_option linter.unusedVariables false
set_option maxRecDepth 100000
set_option maxHeartbeats 4000000
namespace Go.Proofs.YtgclahlbifbgdaaGreatDoor
open Go Go.Proofs.YtgclahlbifbgdaaGreatDoor.SL Go.RowKit
theorem T86a (w0 : World) (cv : Value) {b : Nat} {k : Int} {A : Option Addr} {c c' : Nat} {l : List Tok} (hm : l.length ≤ 10000) : Tri Tryz.prog w0 86 [cv, .slice A l.length c, ptrTo b] [Row tE 37 2 A c' l, cl b #[.int .i64 k] 3] fun v m => v = .int .i64 (endsL k l) ∧ m = [Row tE 37 2 A c' l, cl b #[.int .i64 k] 3] := by
  refine tri_of Tryz.func86 rfl rfl fun F => ?_
  simp only [Tryz.ntmps86, argEnv, List.cons_append, List.nil_append]
  by_cases h1 : l.length = 1
  · have hi1 : decide ((l.length : Int) = 1) = true := decide_eq_true (by omega)
    refine at_seq_k (fun K0 hK0 => ?_)
    refine at_region ?_
    refine at_v (ov_assign rfl rfl) rfl rfl rfl ?_
    refine at_nil ?_
    refine at_normal ?_
    refine hK0 _ _ _ ?_
    refine at_seq_k (fun K1 hK1 => ?_)
    refine at_seq_k (fun K2 hK2 => ?_)
    refine at_region ?_
    refine at_v (ov_move rfl rfl) rfl rfl rfl ?_
    refine at_v (ov_len_slice rfl Tryz.underlying36 rfl) rfl rfl rfl ?_
    refine at_v (ov_int rfl rfl rfl rfl) rfl rfl rfl ?_
    refine at_v (ov_move rfl rfl) rfl rfl rfl ?_
    refine at_reval 9 (.bool true) rfl (congrArg Value.bool (decide_eq_true (by omega))) ?_
    refine at_unwanted (j := 3) rfl rfl rfl rfl ?_
    refine at_unwanted (j := 3) rfl rfl rfl rfl ?_
    refine at_unwanted (j := 3) rfl rfl rfl rfl ?_
    refine at_unwanted (j := 3) rfl rfl rfl rfl ?_
    refine at_unwantedN (j := 7) rfl rfl rfl ?_
    refine at_unwantedN (j := 7) rfl rfl rfl ?_
    refine at_unwantedN (j := 7) rfl rfl rfl ?_
    refine at_unwanted (j := 3) rfl rfl rfl rfl ?_
    refine at_v (ov_pick_t rfl rfl rfl) rfl rfl rfl ?_
    refine at_nil ?_
    refine at_normal ?_
    refine hK2 _ _ _ ?_
    refine at_cond_true rfl ?_
    refine at_seq_k (fun K3 hK3 => ?_)
    refine at_region ?_
    refine at_v (ov_load rfl rfl rfl (fun _ s => s.ld (k := 1) rfl rfl)) rfl rfl rfl ?_
    refine at_v (ov_assign rfl rfl) rfl rfl rfl ?_
    refine at_nil ?_
    refine at_normal ?_
    refine hK3 _ _ _ ?_
    refine at_ret ?_
    refine at_then_ret ?_
    refine at_end ?_
    refine at_fin (rsV rfl (res_tmp rfl)) ?_
    refine ⟨_, ⟨by simp [endsL, h1], rfl⟩, ?_⟩
    exact fun _ s => s.finEq (ks := [0, 0]) (js := []) rfl rfl rfl
  have hi1 : decide ((l.length : Int) = 1) = false := decide_eq_false (by omega)
  by_cases h2 : l.length = 2
  · have hi2 : decide ((l.length : Int) = 2) = true := decide_eq_true (by omega)
    refine at_seq_k (fun K0 hK0 => ?_)
    refine at_region ?_
    refine at_v (ov_assign rfl rfl) rfl rfl rfl ?_
    refine at_nil ?_
    refine at_normal ?_
    refine hK0 _ _ _ ?_
    refine at_seq_k (fun K1 hK1 => ?_)
    refine at_seq_k (fun K2 hK2 => ?_)
    refine at_region ?_
    refine at_v (ov_move rfl rfl) rfl rfl rfl ?_
    refine at_v (ov_len_slice rfl Tryz.underlying36 rfl) rfl rfl rfl ?_
    refine at_v (ov_int rfl rfl rfl rfl) rfl rfl rfl ?_
    refine at_v (ov_move rfl rfl) rfl rfl rfl ?_
    refine at_reval 9 (.bool false) rfl (congrArg Value.bool (decide_eq_false (by omega))) ?_
    refine at_wanted (j := 3) rfl ?_
    refine at_v (ov_move rfl rfl) rfl rfl rfl ?_
    refine at_wanted (j := 3) rfl ?_
    refine at_v (ov_len_slice rfl Tryz.underlying36 rfl) rfl rfl rfl ?_
    refine at_wanted (j := 3) rfl ?_
    refine at_v (ov_int rfl rfl rfl rfl) rfl rfl rfl ?_
    refine at_wanted (j := 3) rfl ?_
    refine at_v (ov_move rfl rfl) rfl rfl rfl ?_
    refine at_reval 13 (.bool true) rfl (congrArg Value.bool (decide_eq_true (by omega))) ?_
    refine at_wanted (j := 7) rfl ?_
    refine at_v (ov_move rfl rfl) rfl rfl rfl ?_
    refine at_wanted (j := 7) rfl ?_
    refine at_t (ot_buildSlice (cs := [_]) rfl Tryz.underlying73 rfl rfl rfl rfl rfl rfl) rfl rfl rfl ?_
    rintro _ _ ⟨g0, rfl, rfl⟩
    refine at_wanted (j := 7) rfl ?_
    refine at_rowOf bsE 0 (size := 1) (c := 1) [wWORK] rfl (fun _ _ => rfl) (by decide) (by decide) (by decide) rfl ?_
    simp only [setAt]
    refine at_reval 15 (.slice (some ⟨g0, 0, none⟩) ([wWORK] : List BL).length 1) rfl rfl ?_
    have hW := fun {B} {d} {d'} => T85b w0 (A := A) (B := B) (c := c) (c' := c') (d := d) (d' := d') (l := l) (ws := [wWORK]) hm (by decide) 1 (by decide)
    cases hw : wordIn l 1 [wWORK] with
    | true =>
      rw [hw] at hW
      refine at_t (ot_call (ks := [1, 0]) rfl rfl rfl Tryz.call85 rfl (hW ) rfl) rfl rfl rfl ?_
      rintro v0 _ ⟨m0, hp0, rfl⟩
      obtain ⟨rfl, rfl⟩ := hp0
      simp only [List.cons_append, List.nil_append, splice, spliceL]
      refine at_wanted (j := 3) rfl ?_
      refine at_v (ov_pick_t rfl rfl rfl) rfl rfl rfl ?_
      refine at_v (ov_pick_f rfl rfl rfl) rfl rfl rfl ?_
      refine at_nil ?_
      refine at_normal ?_
      refine hK2 _ _ _ ?_
      refine at_cond_true rfl ?_
      refine at_seq_k (fun K3 hK3 => ?_)
      refine at_region ?_
      refine at_v (ov_load rfl rfl rfl (fun _ s => s.ld (k := 2) rfl rfl)) rfl rfl rfl ?_
      refine at_v (ov_assign rfl rfl) rfl rfl rfl ?_
      refine at_nil ?_
      refine at_normal ?_
      refine hK3 _ _ _ ?_
      refine at_ret ?_
      refine at_then_ret ?_
      refine at_end ?_
      refine at_fin (rsV rfl (res_tmp rfl)) ?_
      refine ⟨_, ⟨by simp [endsL, h2, hw], rfl⟩, ?_⟩
      exact fun _ s => s.finEq (ks := [0, 1]) (js := [0]) rfl rfl rfl
    | false =>
      rw [hw] at hW
      refine at_t (ot_call (ks := [1, 0]) rfl rfl rfl Tryz.call85 rfl (hW ) rfl) rfl rfl rfl ?_
      rintro v0 _ ⟨m0, hp0, rfl⟩
      obtain ⟨rfl, rfl⟩ := hp0
      simp only [List.cons_append, List.nil_append, splice, spliceL]
      refine at_wanted (j := 3) rfl ?_
      refine at_v (ov_pick_t rfl rfl rfl) rfl rfl rfl ?_
      refine at_v (ov_pick_f rfl rfl rfl) rfl rfl rfl ?_
      refine at_nil ?_
      refine at_normal ?_
      refine hK2 _ _ _ ?_
      refine at_cond_false rfl ?_
      refine at_skip ?_
      refine at_normal ?_
      refine hK1 _ _ _ ?_
      refine at_seq_k (fun K3 hK3 => ?_)
      refine at_region ?_
      refine at_v (ov_assign rfl rfl) rfl rfl rfl ?_
      refine at_nil ?_
      refine at_normal ?_
      refine hK3 _ _ _ ?_
      refine at_ret ?_
      refine at_end ?_
      refine at_fin (rsV rfl (res_tmp rfl)) ?_
      refine ⟨_, ⟨by simp [endsL, h2, hw], rfl⟩, ?_⟩
      exact fun _ s => s.finEq (ks := [0, 1]) (js := [0]) rfl rfl rfl
  · have hi2 : decide ((l.length : Int) = 2) = false := decide_eq_false (by omega)
    refine at_seq_k (fun K0 hK0 => ?_)
    refine at_region ?_
    refine at_v (ov_assign rfl rfl) rfl rfl rfl ?_
    refine at_nil ?_
    refine at_normal ?_
    refine hK0 _ _ _ ?_
    refine at_seq_k (fun K1 hK1 => ?_)
    refine at_seq_k (fun K2 hK2 => ?_)
    refine at_region ?_
    refine at_v (ov_move rfl rfl) rfl rfl rfl ?_
    refine at_v (ov_len_slice rfl Tryz.underlying36 rfl) rfl rfl rfl ?_
    refine at_v (ov_int rfl rfl rfl rfl) rfl rfl rfl ?_
    refine at_v (ov_move rfl rfl) rfl rfl rfl ?_
    refine at_reval 9 (.bool false) rfl (congrArg Value.bool (decide_eq_false (by omega))) ?_
    refine at_wanted (j := 3) rfl ?_
    refine at_v (ov_move rfl rfl) rfl rfl rfl ?_
    refine at_wanted (j := 3) rfl ?_
    refine at_v (ov_len_slice rfl Tryz.underlying36 rfl) rfl rfl rfl ?_
    refine at_wanted (j := 3) rfl ?_
    refine at_v (ov_int rfl rfl rfl rfl) rfl rfl rfl ?_
    refine at_wanted (j := 3) rfl ?_
    refine at_v (ov_move rfl rfl) rfl rfl rfl ?_
    refine at_reval 13 (.bool false) rfl (congrArg Value.bool (decide_eq_false (by omega))) ?_
    refine at_unwanted (j := 7) rfl rfl rfl rfl ?_
    refine at_unwanted (j := 7) rfl rfl rfl rfl ?_
    refine at_unwanted (j := 7) rfl rfl rfl rfl ?_
    refine at_wanted (j := 3) rfl ?_
    refine at_v (ov_pick_f rfl rfl rfl) rfl rfl rfl ?_
    refine at_v (ov_pick_f rfl rfl rfl) rfl rfl rfl ?_
    refine at_nil ?_
    refine at_normal ?_
    refine hK2 _ _ _ ?_
    refine at_cond_false rfl ?_
    refine at_skip ?_
    refine at_normal ?_
    refine hK1 _ _ _ ?_
    refine at_seq_k (fun K3 hK3 => ?_)
    refine at_region ?_
    refine at_v (ov_assign rfl rfl) rfl rfl rfl ?_
    refine at_nil ?_
    refine at_normal ?_
    refine hK3 _ _ _ ?_
    refine at_ret ?_
    refine at_end ?_
    refine at_fin (rsV rfl (res_tmp rfl)) ?_
    refine ⟨_, ⟨by simp [endsL, h1, h2], rfl⟩, ?_⟩
    exact fun _ s => s.finEq (ks := [0, 0]) (js := []) rfl rfl rfl
theorem perm_at {kvs m : List (Value × Value)} (h : kvs.Perm m) {p : Value × Value} (hp : p ∈ m) : ∃ j : Nat, kvs[j]? = some p := List.getElem?_of_mem (h.mem_iff.2 hp)
theorem perm_no {kvs m : List (Value × Value)} (h : kvs.Perm m) {key : Value} (hn : ∀ p ∈ m, p.1 ≠ key) : ∀ p ∈ kvs, p.1 ≠ key := fun p hp => hn p (h.mem_iff.1 hp)
theorem prog_tokens_step (w0 : World) {g : Nat} {A : Option Addr} {c f : Nat} {l : List Tok} (hm : l.length ≤ 200)
    (hE : Tri Tryz.prog w0 52 [ptrTo g, .slice A l.length c] [Row tE 37 2 A c l, Cl g] fun v m => v = .int .i64 (if wordIn l 1 anaW then (if tokN f (l.drop 2) = 2 ∨ tokN f (l.drop 2) = 7 then tokN f (l.drop 2) else 1) else 1) ∧ m = [Cl g]) :
    Tri Tryz.prog w0 27 [ptrTo g, .slice A l.length c] [Row tE 37 2 A c l, Cl g] fun v m => v = .int .i64 (tokN (f + 1) l) ∧ m = [Cl g] := by
  refine tri_of Tryz.func27 rfl rfl fun F => ?_
  simp only [Tryz.ntmps27, argEnv, List.cons_append, List.nil_append]
  have et := tokN_succ f l
  have hCF := fun {c' d : Nat} => T46a w0 (A := A) (c := d) (c' := c') (l := l) (by omega)
  cases hany : (l.any fun t => decide (t = signL)) with
  | true =>
    rw [hany] at hCF
    rw [if_pos hany] at et
    cases l with
    | nil => cases hany
    | cons x r =>
      have hi0 : decide (((x :: r).length : Int) = 0) = false := decide_eq_false (by simp; omega)
      have hget : (x :: r)[0]? = some x := rfl
      by_cases h1 : x.1 = 1
      · have hi1 : (!decide (x.1 = 1)) = false := by simp [h1]
        refine at_seq_k (fun K0 hK0 => ?_)
        refine at_region ?_
        refine at_v (ov_assign rfl rfl) rfl rfl rfl ?_
        refine at_nil ?_
        refine at_normal ?_
        refine hK0 _ _ _ ?_
        refine at_seq_k (fun K1 hK1 => ?_)
        refine at_seq_k (fun K2 hK2 => ?_)
        refine at_region ?_
        refine at_v (ov_move rfl rfl) rfl rfl rfl ?_
        refine at_v (ov_len_slice rfl Tryz.underlying36 rfl) rfl rfl rfl ?_
        refine at_v (ov_int rfl rfl rfl rfl) rfl rfl rfl ?_
        refine at_v (ov_move rfl rfl) rfl rfl rfl ?_
        refine at_wanted (j := 3) rfl ?_
        refine at_v (ov_move rfl rfl) rfl rfl rfl ?_
        refine at_wanted (j := 3) rfl ?_
        refine at_v (ov_indexRd (fun _ s => s.rd (k := 0) rfl) rfl Tryz.underlying36 rfl rfl rfl hget) rfl rfl rfl ?_
        refine at_wanted (j := 3) rfl ?_
        refine at_v (ov_fieldRd0 (k := 0) (fun _ s => s.rd (k := 0) rfl) rfl rfl hget rfl) rfl rfl rfl ?_
        refine at_wanted (j := 3) rfl ?_
        refine at_v (ov_loadRd0 (fun _ s => s.rd (k := 0) rfl) rfl rfl rfl hget rfl) rfl rfl rfl ?_
        refine at_wanted (j := 3) rfl ?_
        refine at_v (ov_int rfl rfl rfl rfl) rfl rfl rfl ?_
        refine at_v (ov_pick_f rfl rfl rfl) rfl rfl rfl ?_
        refine at_v (ov_move rfl rfl) rfl rfl rfl ?_
        refine at_reval 17 (.bool false) rfl (congrArg Value.bool (by first | assumption | (rw [Bool.not_eq_false']; exact decide_eq_true (by omega)))) ?_
        refine at_wanted (j := 10) rfl ?_
        refine at_v (ov_move rfl rfl) rfl rfl rfl ?_
        refine at_wanted (j := 10) rfl ?_
        refine at_t (ot_call (ks := [0]) rfl rfl rfl Tryz.call46 rfl (hCF ) rfl) rfl rfl rfl ?_
        rintro v0 _ ⟨m0, hp0, rfl⟩
        obtain ⟨rfl, rfl⟩ := hp0
        simp only [List.cons_append, List.nil_append, splice, spliceL]
        refine at_v (ov_pick_f rfl rfl rfl) rfl rfl rfl ?_
        refine at_nil ?_
        refine at_normal ?_
        refine hK2 _ _ _ ?_
        refine at_cond_true rfl ?_
        refine at_seq_k (fun K3 hK3 => ?_)
        refine at_region ?_
        refine at_v (ov_assign rfl rfl) rfl rfl rfl ?_
        refine at_nil ?_
        refine at_normal ?_
        refine hK3 _ _ _ ?_
        refine at_ret ?_
        refine at_then_ret ?_
        refine at_end ?_
        refine at_fin (rsV rfl (res_tmp rfl)) ?_
        refine ⟨_, ⟨by rw [et], rfl⟩, ?_⟩
        exact fun _ s => s.finEq (ks := [1]) (js := [0]) rfl rfl rfl
      · have hi1 : (!decide (x.1 = 1)) = true := by simp [h1]
        refine at_seq_k (fun K0 hK0 => ?_)
        refine at_region ?_
        refine at_v (ov_assign rfl rfl) rfl rfl rfl ?_
        refine at_nil ?_
        refine at_normal ?_
        refine hK0 _ _ _ ?_
        refine at_seq_k (fun K1 hK1 => ?_)
        refine at_seq_k (fun K2 hK2 => ?_)
        refine at_region ?_
        refine at_v (ov_move rfl rfl) rfl rfl rfl ?_
        refine at_v (ov_len_slice rfl Tryz.underlying36 rfl) rfl rfl rfl ?_
        refine at_v (ov_int rfl rfl rfl rfl) rfl rfl rfl ?_
        refine at_v (ov_move rfl rfl) rfl rfl rfl ?_
        refine at_wanted (j := 3) rfl ?_
        refine at_v (ov_move rfl rfl) rfl rfl rfl ?_
        refine at_wanted (j := 3) rfl ?_
        refine at_v (ov_indexRd (fun _ s => s.rd (k := 0) rfl) rfl Tryz.underlying36 rfl rfl rfl hget) rfl rfl rfl ?_
        refine at_wanted (j := 3) rfl ?_
        refine at_v (ov_fieldRd0 (k := 0) (fun _ s => s.rd (k := 0) rfl) rfl rfl hget rfl) rfl rfl rfl ?_
        refine at_wanted (j := 3) rfl ?_
        refine at_v (ov_loadRd0 (fun _ s => s.rd (k := 0) rfl) rfl rfl rfl hget rfl) rfl rfl rfl ?_
        refine at_wanted (j := 3) rfl ?_
        refine at_v (ov_int rfl rfl rfl rfl) rfl rfl rfl ?_
        refine at_v (ov_pick_f rfl rfl rfl) rfl rfl rfl ?_
        refine at_v (ov_move rfl rfl) rfl rfl rfl ?_
        refine at_reval 17 (.bool true) rfl (congrArg Value.bool (by first | assumption | (rw [Bool.not_eq_true']; exact decide_eq_false (by omega)))) ?_
        refine at_unwanted (j := 10) rfl rfl rfl rfl ?_
        refine at_unwanted (j := 10) rfl rfl rfl rfl ?_
        refine at_v (ov_pick_t rfl rfl rfl) rfl rfl rfl ?_
        refine at_nil ?_
        refine at_normal ?_
        refine hK2 _ _ _ ?_
        refine at_cond_true rfl ?_
        refine at_seq_k (fun K3 hK3 => ?_)
        refine at_region ?_
        refine at_v (ov_assign rfl rfl) rfl rfl rfl ?_
        refine at_nil ?_
        refine at_normal ?_
        refine hK3 _ _ _ ?_
        refine at_ret ?_
        refine at_then_ret ?_
        refine at_end ?_
        refine at_fin (rsV rfl (res_tmp rfl)) ?_
        refine ⟨_, ⟨by rw [et], rfl⟩, ?_⟩
        exact fun _ s => s.finEq (ks := [1]) (js := [0]) rfl rfl rfl
  | false =>
  rw [hany] at hCF et
  simp only [Bool.false_eq_true, if_false] at et
  clear hany
  have none7 : wordAt l 0 = [] → tokN (f + 1) l = 7 := fun h => by
    rw [et, h]
    rw [if_neg (by decide), if_neg (by decide), if_neg (by decide), if_neg (by decide), if_neg (by decide), if_neg (by decide), if_neg (by decide), if_neg (by decide), if_neg (by decide)]
  cases l with
  | nil =>
    have hi0 : decide ((([] : List Tok).length : Int) = 0) = true := by decide
    refine at_seq_k (fun K0 hK0 => ?_)
    refine at_region ?_
    refine at_v (ov_assign rfl rfl) rfl rfl rfl ?_
    refine at_nil ?_
    refine at_normal ?_
    refine hK0 _ _ _ ?_
    refine at_seq_k (fun K1 hK1 => ?_)
    refine at_seq_k (fun K2 hK2 => ?_)
    refine at_region ?_
    refine at_v (ov_move rfl rfl) rfl rfl rfl ?_
    refine at_v (ov_len_slice rfl Tryz.underlying36 rfl) rfl rfl rfl ?_
    refine at_v (ov_int rfl rfl rfl rfl) rfl rfl rfl ?_
    refine at_v (ov_move rfl rfl) rfl rfl rfl ?_
    refine at_unwanted (j := 3) rfl rfl rfl rfl ?_
    refine at_unwanted (j := 3) rfl rfl rfl rfl ?_
    refine at_unwanted (j := 3) rfl rfl rfl rfl ?_
    refine at_unwanted (j := 3) rfl rfl rfl rfl ?_
    refine at_unwanted (j := 3) rfl rfl rfl rfl ?_
    refine at_v (ov_pick_t rfl rfl rfl) rfl rfl rfl ?_
    refine at_v (ov_move rfl rfl) rfl rfl rfl ?_
    refine at_unwanted (j := 10) rfl rfl rfl rfl ?_
    refine at_unwanted (j := 10) rfl rfl rfl rfl ?_
    refine at_v (ov_pick_t rfl rfl rfl) rfl rfl rfl ?_
    refine at_nil ?_
    refine at_normal ?_
    refine hK2 _ _ _ ?_
    refine at_cond_true rfl ?_
    refine at_seq_k (fun K3 hK3 => ?_)
    refine at_region ?_
    refine at_v (ov_assign rfl rfl) rfl rfl rfl ?_
    refine at_nil ?_
    refine at_normal ?_
    refine hK3 _ _ _ ?_
    refine at_ret ?_
    refine at_then_ret ?_
    refine at_end ?_
    refine at_fin (rsV rfl (res_tmp rfl)) ?_
    refine ⟨_, ⟨by rw [none7 rfl], rfl⟩, ?_⟩
    exact fun _ s => s.finEq (ks := [1]) (js := [0]) rfl rfl rfl
  | cons x r =>
  have hi0 : decide (((x :: r).length : Int) = 0) = false := decide_eq_false (by simp; omega)
  have hget : (x :: r)[0]? = some x := rfl
  by_cases h1 : x.1 = 1
  · have hi1 : (!decide (x.1 = 1)) = false := by simp [h1]
    have hw : wordAt (x :: r) 0 = x.2 := by simp [wordAt, h1]
    rw [hw] at et
    clear none7
    refine at_seq_k (fun K0 hK0 => ?_)
    refine at_region ?_
    refine at_v (ov_assign rfl rfl) rfl rfl rfl ?_
    refine at_nil ?_
    refine at_normal ?_
    refine hK0 _ _ _ ?_
    refine at_seq_k (fun K1 hK1 => ?_)
    refine at_seq_k (fun K2 hK2 => ?_)
    refine at_region ?_
    refine at_v (ov_move rfl rfl) rfl rfl rfl ?_
    refine at_v (ov_len_slice rfl Tryz.underlying36 rfl) rfl rfl rfl ?_
    refine at_v (ov_int rfl rfl rfl rfl) rfl rfl rfl ?_
    refine at_v (ov_move rfl rfl) rfl rfl rfl ?_
    refine at_wanted (j := 3) rfl ?_
    refine at_v (ov_move rfl rfl) rfl rfl rfl ?_
    refine at_wanted (j := 3) rfl ?_
    refine at_v (ov_indexRd (fun _ s => s.rd (k := 0) rfl) rfl Tryz.underlying36 rfl rfl rfl hget) rfl rfl rfl ?_
    refine at_wanted (j := 3) rfl ?_
    refine at_v (ov_fieldRd0 (k := 0) (fun _ s => s.rd (k := 0) rfl) rfl rfl hget rfl) rfl rfl rfl ?_
    refine at_wanted (j := 3) rfl ?_
    refine at_v (ov_loadRd0 (fun _ s => s.rd (k := 0) rfl) rfl rfl rfl hget rfl) rfl rfl rfl ?_
    refine at_wanted (j := 3) rfl ?_
    refine at_v (ov_int rfl rfl rfl rfl) rfl rfl rfl ?_
    refine at_v (ov_pick_f rfl rfl rfl) rfl rfl rfl ?_
    refine at_v (ov_move rfl rfl) rfl rfl rfl ?_
    refine at_reval 17 (.bool false) rfl (congrArg Value.bool (by first | assumption | (rw [Bool.not_eq_false']; exact decide_eq_true (by omega)))) ?_
    refine at_wanted (j := 10) rfl ?_
    refine at_v (ov_move rfl rfl) rfl rfl rfl ?_
    refine at_wanted (j := 10) rfl ?_
    refine at_t (ot_call (ks := [0]) rfl rfl rfl Tryz.call46 rfl (hCF ) rfl) rfl rfl rfl ?_
    rintro v0 _ ⟨m0, hp0, rfl⟩
    obtain ⟨rfl, rfl⟩ := hp0
    simp only [List.cons_append, List.nil_append, splice, spliceL]
    refine at_v (ov_pick_f rfl rfl rfl) rfl rfl rfl ?_
    refine at_nil ?_
    refine at_normal ?_
    refine hK2 _ _ _ ?_
    refine at_cond_false rfl ?_
    refine at_skip ?_
    refine at_normal ?_
    refine hK1 _ _ _ ?_
    refine at_seq_k (fun K3 hK3 => ?_)
    refine at_draw _ [] 1000 [(2, 0), (2, 2), (1, 3), (1, 4), (1, 5), (0, 1), (0, 6), (2, 7), (2, 8), (2, 9), (2, 10), (2, 11)] (by kernel_rfl) (by kernel_rfl) (fun _ s => (s.pulls (ks := [0]) rfl).left) ?_
    refine aq_p (ov_move rfl rfl) rfl rfl rfl ?_
    refine aq_p (ov_move rfl rfl) rfl rfl rfl ?_
    refine aq_v (ov_indexRd (fun _ s => s.rd (k := 0) rfl) rfl Tryz.underlying36 rfl rfl rfl hget) rfl rfl rfl ?_
    refine aq_v (ov_fieldRd0 (k := 1) (fun _ s => s.rd (k := 0) rfl) rfl rfl hget rfl) rfl rfl rfl ?_
    refine aq_v (ov_loadRd (fun _ s => s.rd (k := 0) rfl) rfl rfl rfl hget rfl) rfl rfl rfl ?_
    refine aq_t (ot_call (ks := [1]) rfl rfl rfl Tryz.call31 rfl (T31c _) rfl) rfl rfl rfl ?_
    rintro v0 _ ⟨m0, hp0, rfl⟩
    obtain ⟨mb0, hp0⟩ := hp0
    obtain ⟨b40, hp0⟩ := hp0
    obtain ⟨b50, hp0⟩ := hp0
    obtain ⟨bs10, hp0⟩ := hp0
    obtain ⟨bs20, hp0⟩ := hp0
    obtain ⟨kvs0, hp0⟩ := hp0
    obtain ⟨hq0, hp0⟩ := hp0
    obtain ⟨rfl, rfl⟩ := hp0
    simp only [List.cons_append, List.nil_append, splice, spliceL]
    refine ⟨fun _ s => (s.pulls (ks := [6]) rfl).left, ?_⟩
    obtain ⟨hl1, hl2, hperm⟩ : bs10.length = 3 ∧ bs20.length = 12 ∧ kvs0.Perm (rulesL b40 b50 bs10 bs20) := by assumption
    cases c1 : readsW.contains x.2 with
    | true =>
      rw [c1] at et
      obtain ⟨b, hb, hmem⟩ := rules_read (b4 := b40) (b5 := b50) (bs2 := bs20) hl1 c1
      obtain ⟨j, hj⟩ := perm_at hperm hmem
      unfold capV at hj
      refine aq_v0 (ov_lookupOk (k := 1) rfl Tryz.underlying63 Tryz.underlying9 rfl rfl rfl trivial hj) rfl rfl rfl (fun _ s => (s.pulls (ks := [6]) rfl).left) ?_
      refine aq_p (ov_move rfl rfl) rfl rfl rfl ?_
      refine aq_p (ov_extract rfl rfl rfl) rfl rfl rfl ?_
      refine aq_p (ov_extract rfl rfl rfl) rfl rfl rfl ?_
      refine aq_p (ov_assign rfl rfl) rfl rfl rfl ?_
      refine aq_p (ov_assign rfl rfl) rfl rfl rfl ?_
      refine aq_nil ?_
      refine at_normal ?_
      refine hK3 _ _ _ ?_
      refine at_seq_k (fun K4 hK4 => ?_)
      refine at_seq_k (fun K5 hK5 => ?_)
      refine at_region ?_
      refine at_v (ov_move rfl rfl) rfl rfl rfl ?_
      refine at_v (ov_not rfl rfl) rfl rfl rfl ?_
      refine at_nil ?_
      refine at_normal ?_
      refine hK5 _ _ _ ?_
      refine at_cond_false rfl ?_
      refine at_skip ?_
      refine at_normal ?_
      refine hK4 _ _ _ ?_
      refine at_seq_k (fun K6 hK6 => ?_)
      refine at_region ?_
      refine at_v (ov_move rfl rfl) rfl rfl rfl ?_
      refine at_v (ov_move rfl rfl) rfl rfl rfl ?_
      refine at_v (ov_move rfl rfl) rfl rfl rfl ?_
      refine at_t (ot_call (ks := [4]) rfl rfl rfl Tryz.call87 rfl (T87a _ _ _ (by first | assumption | rfl | omega | decide | (simp; done) | (simp at *; omega))) rfl) rfl rfl rfl ?_
      rintro v0 _ ⟨m0, hp0, rfl⟩
      obtain ⟨rfl, rfl⟩ := hp0
      simp only [List.cons_append, List.nil_append, splice, spliceL]
      refine at_v (ov_assign rfl rfl) rfl rfl rfl ?_
      refine at_nil ?_
      refine at_normal ?_
      refine hK6 _ _ _ ?_
      refine at_ret ?_
      refine at_end ?_
      refine at_fold (A := Cl g) [1, 1, 1, 1, 0, 0] rfl (cl_fold ⟨hl1, hl2, hperm⟩) ?_
      refine at_fin (rsV rfl (res_tmp rfl)) ?_
      refine ⟨_, ⟨by rw [et]; rfl, rfl⟩, ?_⟩
      exact fun _ s => s.finEq (ks := [0]) (js := [0]) rfl rfl rfl
    | false =>
    rw [c1] at et
    simp only [Bool.false_eq_true, if_false] at et
    by_cases cE : x.2 = wEXPLAIN
    · rw [if_pos cE] at et
      obtain ⟨j, hj⟩ := perm_at hperm (p := (SV x.2, fnV 52)) (by rw [cE]; simp [rulesL])
      unfold fnV at hj
      refine aq_v0 (ov_lookupOk (k := 1) rfl Tryz.underlying63 Tryz.underlying9 rfl rfl rfl trivial hj) rfl rfl rfl (fun _ s => (s.pulls (ks := [6]) rfl).left) ?_
      refine aq_p (ov_move rfl rfl) rfl rfl rfl ?_
      refine aq_p (ov_extract rfl rfl rfl) rfl rfl rfl ?_
      refine aq_p (ov_extract rfl rfl rfl) rfl rfl rfl ?_
      refine aq_p (ov_assign rfl rfl) rfl rfl rfl ?_
      refine aq_p (ov_assign rfl rfl) rfl rfl rfl ?_
      refine aq_nil ?_
      refine at_normal ?_
      refine hK3 _ _ _ ?_
      refine at_seq_k (fun K4 hK4 => ?_)
      refine at_seq_k (fun K5 hK5 => ?_)
      refine at_region ?_
      refine at_v (ov_move rfl rfl) rfl rfl rfl ?_
      refine at_v (ov_not rfl rfl) rfl rfl rfl ?_
      refine at_nil ?_
      refine at_normal ?_
      refine hK5 _ _ _ ?_
      refine at_cond_false rfl ?_
      refine at_skip ?_
      refine at_normal ?_
      refine hK4 _ _ _ ?_
      refine at_seq_k (fun K6 hK6 => ?_)
      refine at_region ?_
      refine at_v (ov_move rfl rfl) rfl rfl rfl ?_
      refine at_v (ov_move rfl rfl) rfl rfl rfl ?_
      refine at_v (ov_move rfl rfl) rfl rfl rfl ?_
      refine at_fold (A := Cl g) [0, 0, 0, 0, 0, 0] rfl (cl_fold ⟨hl1, hl2, hperm⟩) ?_
      refine at_t (ot_call (ks := [1, 0]) rfl rfl rfl Tryz.call52 rfl (hE ) rfl) rfl rfl rfl ?_
      rintro v0 _ ⟨m0, hp0, rfl⟩
      obtain ⟨rfl, rfl⟩ := hp0
      simp only [List.cons_append, List.nil_append, splice, spliceL]
      refine at_v (ov_assign rfl rfl) rfl rfl rfl ?_
      refine at_nil ?_
      refine at_normal ?_
      refine hK6 _ _ _ ?_
      refine at_ret ?_
      refine at_end ?_
      refine at_fin (rsV rfl (res_tmp rfl)) ?_
      refine ⟨_, ⟨by rw [et], rfl⟩, ?_⟩
      exact fun _ s => s.finEq (ks := [0]) (js := []) rfl rfl rfl
    rw [if_neg cE] at et
    cases c3 : changeW.contains x.2 with
    | true =>
      rw [c3] at et
      obtain ⟨b, hb, hmem⟩ := rules_change (b4 := b40) (b5 := b50) (bs1 := bs10) hl2 c3
      have hAl := fun lv => T87a w0 (ptrTo g) lv (k := 2) hb
      obtain ⟨j, hj⟩ := perm_at hperm hmem
      unfold capV at hj
      refine aq_v0 (ov_lookupOk (k := 1) rfl Tryz.underlying63 Tryz.underlying9 rfl rfl rfl trivial hj) rfl rfl rfl (fun _ s => (s.pulls (ks := [6]) rfl).left) ?_
      refine aq_p (ov_move rfl rfl) rfl rfl rfl ?_
      refine aq_p (ov_extract rfl rfl rfl) rfl rfl rfl ?_
      refine aq_p (ov_extract rfl rfl rfl) rfl rfl rfl ?_
      refine aq_p (ov_assign rfl rfl) rfl rfl rfl ?_
      refine aq_p (ov_assign rfl rfl) rfl rfl rfl ?_
      refine aq_nil ?_
      refine at_normal ?_
      refine hK3 _ _ _ ?_
      refine at_seq_k (fun K4 hK4 => ?_)
      refine at_seq_k (fun K5 hK5 => ?_)
      refine at_region ?_
      refine at_v (ov_move rfl rfl) rfl rfl rfl ?_
      refine at_v (ov_not rfl rfl) rfl rfl rfl ?_
      refine at_nil ?_
      refine at_normal ?_
      refine hK5 _ _ _ ?_
      refine at_cond_false rfl ?_
      refine at_skip ?_
      refine at_normal ?_
      refine hK4 _ _ _ ?_
      refine at_seq_k (fun K6 hK6 => ?_)
      refine at_region ?_
      refine at_v (ov_move rfl rfl) rfl rfl rfl ?_
      refine at_v (ov_move rfl rfl) rfl rfl rfl ?_
      refine at_v (ov_move rfl rfl) rfl rfl rfl ?_
      refine at_t (ot_call (ks := [5]) rfl rfl rfl Tryz.call87 rfl (hAl _) rfl) rfl rfl rfl ?_
      rintro v0 _ ⟨m0, hp0, rfl⟩
      obtain ⟨rfl, rfl⟩ := hp0
      simp only [List.cons_append, List.nil_append, splice, spliceL]
      refine at_v (ov_assign rfl rfl) rfl rfl rfl ?_
      refine at_nil ?_
      refine at_normal ?_
      refine hK6 _ _ _ ?_
      refine at_ret ?_
      refine at_end ?_
      refine at_fold (A := Cl g) [1, 1, 1, 1, 1, 0] rfl (cl_fold ⟨hl1, hl2, hperm⟩) ?_
      refine at_fin (rsV rfl (res_tmp rfl)) ?_
      refine ⟨_, ⟨by rw [et]; rfl, rfl⟩, ?_⟩
      exact fun _ s => s.finEq (ks := [0]) (js := [0]) rfl rfl rfl
    | false =>
    rw [c3] at et
    simp only [Bool.false_eq_true, if_false] at et
    cases c4 : askW.contains x.2 with
    | true =>
      rw [c4] at et
      obtain ⟨j, hj⟩ := perm_at hperm (rules_ask (b4 := b40) (b5 := b50) (bs1 := bs10) (bs2 := bs20) c4)
      unfold fnV at hj
      refine aq_v0 (ov_lookupOk (k := 1) rfl Tryz.underlying63 Tryz.underlying9 rfl rfl rfl trivial hj) rfl rfl rfl (fun _ s => (s.pulls (ks := [6]) rfl).left) ?_
      refine aq_p (ov_move rfl rfl) rfl rfl rfl ?_
      refine aq_p (ov_extract rfl rfl rfl) rfl rfl rfl ?_
      refine aq_p (ov_extract rfl rfl rfl) rfl rfl rfl ?_
      refine aq_p (ov_assign rfl rfl) rfl rfl rfl ?_
      refine aq_p (ov_assign rfl rfl) rfl rfl rfl ?_
      refine aq_nil ?_
      refine at_normal ?_
      refine hK3 _ _ _ ?_
      refine at_seq_k (fun K4 hK4 => ?_)
      refine at_seq_k (fun K5 hK5 => ?_)
      refine at_region ?_
      refine at_v (ov_move rfl rfl) rfl rfl rfl ?_
      refine at_v (ov_not rfl rfl) rfl rfl rfl ?_
      refine at_nil ?_
      refine at_normal ?_
      refine hK5 _ _ _ ?_
      refine at_cond_false rfl ?_
      refine at_skip ?_
      refine at_normal ?_
      refine hK4 _ _ _ ?_
      refine at_seq_k (fun K6 hK6 => ?_)
      refine at_region ?_
      refine at_v (ov_move rfl rfl) rfl rfl rfl ?_
      refine at_v (ov_move rfl rfl) rfl rfl rfl ?_
      refine at_v (ov_move rfl rfl) rfl rfl rfl ?_
      refine at_t (ot_call (ks := [6]) rfl rfl rfl Tryz.call58 rfl (T58a _ _ (by first | assumption | rfl | omega | decide | (simp; done) | (simp at *; omega))) rfl) rfl rfl rfl ?_
      rintro v0 _ ⟨m0, hp0, rfl⟩
      obtain ⟨rfl, rfl⟩ := hp0
      simp only [List.cons_append, List.nil_append, splice, spliceL]
      refine at_v (ov_assign rfl rfl) rfl rfl rfl ?_
      refine at_nil ?_
      refine at_normal ?_
      refine hK6 _ _ _ ?_
      refine at_ret ?_
      refine at_end ?_
      refine at_fold (A := Cl g) [1, 1, 1, 1, 1, 1] rfl (cl_fold ⟨hl1, hl2, hperm⟩) ?_
      refine at_fin (rsV rfl (res_tmp rfl)) ?_
      refine ⟨_, ⟨by rw [et]; rfl, rfl⟩, ?_⟩
      exact fun _ s => s.finEq (ks := [0]) (js := [0]) rfl rfl rfl
    | false =>
    rw [c4] at et
    simp only [Bool.false_eq_true, if_false] at et
    by_cases cBEGIN : x.2 = wBEGIN
    · rw [if_pos cBEGIN] at et
      obtain ⟨j, hj⟩ := perm_at hperm (p := (SV x.2, fnV 53)) (by rw [cBEGIN]; simp [rulesL])
      unfold fnV at hj
      refine aq_v0 (ov_lookupOk (k := 1) rfl Tryz.underlying63 Tryz.underlying9 rfl rfl rfl trivial hj) rfl rfl rfl (fun _ s => (s.pulls (ks := [6]) rfl).left) ?_
      refine aq_p (ov_move rfl rfl) rfl rfl rfl ?_
      refine aq_p (ov_extract rfl rfl rfl) rfl rfl rfl ?_
      refine aq_p (ov_extract rfl rfl rfl) rfl rfl rfl ?_
      refine aq_p (ov_assign rfl rfl) rfl rfl rfl ?_
      refine aq_p (ov_assign rfl rfl) rfl rfl rfl ?_
      refine aq_nil ?_
      refine at_normal ?_
      refine hK3 _ _ _ ?_
      refine at_seq_k (fun K4 hK4 => ?_)
      refine at_seq_k (fun K5 hK5 => ?_)
      refine at_region ?_
      refine at_v (ov_move rfl rfl) rfl rfl rfl ?_
      refine at_v (ov_not rfl rfl) rfl rfl rfl ?_
      refine at_nil ?_
      refine at_normal ?_
      refine hK5 _ _ _ ?_
      refine at_cond_false rfl ?_
      refine at_skip ?_
      refine at_normal ?_
      refine hK4 _ _ _ ?_
      refine at_seq_k (fun K6 hK6 => ?_)
      refine at_region ?_
      refine at_v (ov_move rfl rfl) rfl rfl rfl ?_
      refine at_v (ov_move rfl rfl) rfl rfl rfl ?_
      refine at_v (ov_move rfl rfl) rfl rfl rfl ?_
      refine at_t (ot_call (ks := [6]) rfl rfl rfl Tryz.call53 rfl (T53a _ _ (by first | assumption | rfl | omega | decide | (simp; done) | (simp at *; omega))) rfl) rfl rfl rfl ?_
      rintro v0 _ ⟨m0, hp0, rfl⟩
      obtain ⟨rfl, rfl⟩ := hp0
      simp only [List.cons_append, List.nil_append, splice, spliceL]
      refine at_v (ov_assign rfl rfl) rfl rfl rfl ?_
      refine at_nil ?_
      refine at_normal ?_
      refine hK6 _ _ _ ?_
      refine at_ret ?_
      refine at_end ?_
      refine at_fold (A := Cl g) [1, 1, 1, 1, 1, 1] rfl (cl_fold ⟨hl1, hl2, hperm⟩) ?_
      refine at_fin (rsV rfl (res_tmp rfl)) ?_
      refine ⟨_, ⟨by rw [et], rfl⟩, ?_⟩
      exact fun _ s => s.finEq (ks := [0]) (js := [0]) rfl rfl rfl
    rw [if_neg cBEGIN] at et
    by_cases cSTART : x.2 = wSTART
    · rw [if_pos cSTART] at et
      obtain ⟨j, hj⟩ := perm_at hperm (p := (SV x.2, fnV 54)) (by rw [cSTART]; simp [rulesL])
      unfold fnV at hj
      refine aq_v0 (ov_lookupOk (k := 1) rfl Tryz.underlying63 Tryz.underlying9 rfl rfl rfl trivial hj) rfl rfl rfl (fun _ s => (s.pulls (ks := [6]) rfl).left) ?_
      refine aq_p (ov_move rfl rfl) rfl rfl rfl ?_
      refine aq_p (ov_extract rfl rfl rfl) rfl rfl rfl ?_
      refine aq_p (ov_extract rfl rfl rfl) rfl rfl rfl ?_
      refine aq_p (ov_assign rfl rfl) rfl rfl rfl ?_
      refine aq_p (ov_assign rfl rfl) rfl rfl rfl ?_
      refine aq_nil ?_
      refine at_normal ?_
      refine hK3 _ _ _ ?_
      refine at_seq_k (fun K4 hK4 => ?_)
      refine at_seq_k (fun K5 hK5 => ?_)
      refine at_region ?_
      refine at_v (ov_move rfl rfl) rfl rfl rfl ?_
      refine at_v (ov_not rfl rfl) rfl rfl rfl ?_
      refine at_nil ?_
      refine at_normal ?_
      refine hK5 _ _ _ ?_
      refine at_cond_false rfl ?_
      refine at_skip ?_
      refine at_normal ?_
      refine hK4 _ _ _ ?_
      refine at_seq_k (fun K6 hK6 => ?_)
      refine at_region ?_
      refine at_v (ov_move rfl rfl) rfl rfl rfl ?_
      refine at_v (ov_move rfl rfl) rfl rfl rfl ?_
      refine at_v (ov_move rfl rfl) rfl rfl rfl ?_
      refine at_t (ot_call (ks := [6]) rfl rfl rfl Tryz.call54 rfl (T54a _ _ (by first | assumption | rfl | omega | decide | (simp; done) | (simp at *; omega))) rfl) rfl rfl rfl ?_
      rintro v0 _ ⟨m0, hp0, rfl⟩
      obtain ⟨rfl, rfl⟩ := hp0
      simp only [List.cons_append, List.nil_append, splice, spliceL]
      refine at_v (ov_assign rfl rfl) rfl rfl rfl ?_
      refine at_nil ?_
      refine at_normal ?_
      refine hK6 _ _ _ ?_
      refine at_ret ?_
      refine at_end ?_
      refine at_fold (A := Cl g) [1, 1, 1, 1, 1, 1] rfl (cl_fold ⟨hl1, hl2, hperm⟩) ?_
      refine at_fin (rsV rfl (res_tmp rfl)) ?_
      refine ⟨_, ⟨by rw [et], rfl⟩, ?_⟩
      exact fun _ s => s.finEq (ks := [0]) (js := [0]) rfl rfl rfl
    rw [if_neg cSTART] at et
    by_cases cCOMMIT : x.2 = wCOMMIT
    · rw [if_pos cCOMMIT] at et
      obtain ⟨j, hj⟩ := perm_at hperm (p := (SV x.2, capV 86 b40)) (by rw [cCOMMIT]; simp [rulesL])
      unfold capV at hj
      refine aq_v0 (ov_lookupOk (k := 1) rfl Tryz.underlying63 Tryz.underlying9 rfl rfl rfl trivial hj) rfl rfl rfl (fun _ s => (s.pulls (ks := [6]) rfl).left) ?_
      refine aq_p (ov_move rfl rfl) rfl rfl rfl ?_
      refine aq_p (ov_extract rfl rfl rfl) rfl rfl rfl ?_
      refine aq_p (ov_extract rfl rfl rfl) rfl rfl rfl ?_
      refine aq_p (ov_assign rfl rfl) rfl rfl rfl ?_
      refine aq_p (ov_assign rfl rfl) rfl rfl rfl ?_
      refine aq_nil ?_
      refine at_normal ?_
      refine hK3 _ _ _ ?_
      refine at_seq_k (fun K4 hK4 => ?_)
      refine at_seq_k (fun K5 hK5 => ?_)
      refine at_region ?_
      refine at_v (ov_move rfl rfl) rfl rfl rfl ?_
      refine at_v (ov_not rfl rfl) rfl rfl rfl ?_
      refine at_nil ?_
      refine at_normal ?_
      refine hK5 _ _ _ ?_
      refine at_cond_false rfl ?_
      refine at_skip ?_
      refine at_normal ?_
      refine hK4 _ _ _ ?_
      refine at_seq_k (fun K6 hK6 => ?_)
      refine at_region ?_
      refine at_v (ov_move rfl rfl) rfl rfl rfl ?_
      refine at_v (ov_move rfl rfl) rfl rfl rfl ?_
      refine at_v (ov_move rfl rfl) rfl rfl rfl ?_
      refine at_t (ot_call (ks := [6, 2]) rfl rfl rfl Tryz.call86 rfl (T86a _ _ (by first | assumption | rfl | omega | decide | (simp; done) | (simp at *; omega))) rfl) rfl rfl rfl ?_
      rintro v0 _ ⟨m0, hp0, rfl⟩
      obtain ⟨rfl, rfl⟩ := hp0
      simp only [List.cons_append, List.nil_append, splice, spliceL]
      refine at_v (ov_assign rfl rfl) rfl rfl rfl ?_
      refine at_nil ?_
      refine at_normal ?_
      refine hK6 _ _ _ ?_
      refine at_ret ?_
      refine at_end ?_
      refine at_fold (A := Cl g) [2, 2, 1, 1, 1, 1] rfl (cl_fold ⟨hl1, hl2, hperm⟩) ?_
      refine at_fin (rsV rfl (res_tmp rfl)) ?_
      refine ⟨_, ⟨by rw [et], rfl⟩, ?_⟩
      exact fun _ s => s.finEq (ks := [0]) (js := [0]) rfl rfl rfl
    rw [if_neg cCOMMIT] at et
    by_cases cROLLBACK : x.2 = wROLLBACK
    · rw [if_pos cROLLBACK] at et
      obtain ⟨j, hj⟩ := perm_at hperm (p := (SV x.2, capV 86 b50)) (by rw [cROLLBACK]; simp [rulesL])
      unfold capV at hj
      refine aq_v0 (ov_lookupOk (k := 1) rfl Tryz.underlying63 Tryz.underlying9 rfl rfl rfl trivial hj) rfl rfl rfl (fun _ s => (s.pulls (ks := [6]) rfl).left) ?_
      refine aq_p (ov_move rfl rfl) rfl rfl rfl ?_
      refine aq_p (ov_extract rfl rfl rfl) rfl rfl rfl ?_
      refine aq_p (ov_extract rfl rfl rfl) rfl rfl rfl ?_
      refine aq_p (ov_assign rfl rfl) rfl rfl rfl ?_
      refine aq_p (ov_assign rfl rfl) rfl rfl rfl ?_
      refine aq_nil ?_
      refine at_normal ?_
      refine hK3 _ _ _ ?_
      refine at_seq_k (fun K4 hK4 => ?_)
      refine at_seq_k (fun K5 hK5 => ?_)
      refine at_region ?_
      refine at_v (ov_move rfl rfl) rfl rfl rfl ?_
      refine at_v (ov_not rfl rfl) rfl rfl rfl ?_
      refine at_nil ?_
      refine at_normal ?_
      refine hK5 _ _ _ ?_
      refine at_cond_false rfl ?_
      refine at_skip ?_
      refine at_normal ?_
      refine hK4 _ _ _ ?_
      refine at_seq_k (fun K6 hK6 => ?_)
      refine at_region ?_
      refine at_v (ov_move rfl rfl) rfl rfl rfl ?_
      refine at_v (ov_move rfl rfl) rfl rfl rfl ?_
      refine at_v (ov_move rfl rfl) rfl rfl rfl ?_
      refine at_t (ot_call (ks := [6, 3]) rfl rfl rfl Tryz.call86 rfl (T86a _ _ (by first | assumption | rfl | omega | decide | (simp; done) | (simp at *; omega))) rfl) rfl rfl rfl ?_
      rintro v0 _ ⟨m0, hp0, rfl⟩
      obtain ⟨rfl, rfl⟩ := hp0
      simp only [List.cons_append, List.nil_append, splice, spliceL]
      refine at_v (ov_assign rfl rfl) rfl rfl rfl ?_
      refine at_nil ?_
      refine at_normal ?_
      refine hK6 _ _ _ ?_
      refine at_ret ?_
      refine at_end ?_
      refine at_fold (A := Cl g) [2, 2, 2, 1, 1, 1] rfl (cl_fold ⟨hl1, hl2, hperm⟩) ?_
      refine at_fin (rsV rfl (res_tmp rfl)) ?_
      refine ⟨_, ⟨by rw [et], rfl⟩, ?_⟩
      exact fun _ s => s.finEq (ks := [0]) (js := [0]) rfl rfl rfl
    rw [if_neg cROLLBACK] at et
    by_cases cSET : x.2 = wSET
    · rw [if_pos cSET] at et
      obtain ⟨j, hj⟩ := perm_at hperm (p := (SV x.2, fnV 56)) (by rw [cSET]; simp [rulesL])
      unfold fnV at hj
      refine aq_v0 (ov_lookupOk (k := 1) rfl Tryz.underlying63 Tryz.underlying9 rfl rfl rfl trivial hj) rfl rfl rfl (fun _ s => (s.pulls (ks := [6]) rfl).left) ?_
      refine aq_p (ov_move rfl rfl) rfl rfl rfl ?_
      refine aq_p (ov_extract rfl rfl rfl) rfl rfl rfl ?_
      refine aq_p (ov_extract rfl rfl rfl) rfl rfl rfl ?_
      refine aq_p (ov_assign rfl rfl) rfl rfl rfl ?_
      refine aq_p (ov_assign rfl rfl) rfl rfl rfl ?_
      refine aq_nil ?_
      refine at_normal ?_
      refine hK3 _ _ _ ?_
      refine at_seq_k (fun K4 hK4 => ?_)
      refine at_seq_k (fun K5 hK5 => ?_)
      refine at_region ?_
      refine at_v (ov_move rfl rfl) rfl rfl rfl ?_
      refine at_v (ov_not rfl rfl) rfl rfl rfl ?_
      refine at_nil ?_
      refine at_normal ?_
      refine hK5 _ _ _ ?_
      refine at_cond_false rfl ?_
      refine at_skip ?_
      refine at_normal ?_
      refine hK4 _ _ _ ?_
      refine at_seq_k (fun K6 hK6 => ?_)
      refine at_region ?_
      refine at_v (ov_move rfl rfl) rfl rfl rfl ?_
      refine at_v (ov_move rfl rfl) rfl rfl rfl ?_
      refine at_v (ov_move rfl rfl) rfl rfl rfl ?_
      refine at_t (ot_call (ks := [6]) rfl rfl rfl Tryz.call56 rfl (T56a _ _ (by first | assumption | rfl | omega | decide | (simp; done) | (simp at *; omega))) rfl) rfl rfl rfl ?_
      rintro v0 _ ⟨m0, hp0, rfl⟩
      obtain ⟨rfl, rfl⟩ := hp0
      simp only [List.cons_append, List.nil_append, splice, spliceL]
      refine at_v (ov_assign rfl rfl) rfl rfl rfl ?_
      refine at_nil ?_
      refine at_normal ?_
      refine hK6 _ _ _ ?_
      refine at_ret ?_
      refine at_end ?_
      refine at_fold (A := Cl g) [1, 1, 1, 1, 1, 1] rfl (cl_fold ⟨hl1, hl2, hperm⟩) ?_
      refine at_fin (rsV rfl (res_tmp rfl)) ?_
      refine ⟨_, ⟨by rw [et], rfl⟩, ?_⟩
      exact fun _ s => s.finEq (ks := [0]) (js := [0]) rfl rfl rfl
    rw [if_neg cSET] at et
    have hno := perm_no hperm (rules_none (b4 := b40) (b5 := b50) (bs1 := bs10) (bs2 := bs20) c1 cE c3 c4 cBEGIN cSTART cCOMMIT cROLLBACK cSET)
    refine aq_v0 (ov_lookupNo (k := 1) rfl Tryz.underlying63 Tryz.underlying9 Tryz.zeroValue91 rfl rfl rfl trivial (by assumption)) rfl rfl rfl (fun _ s => (s.pulls (ks := [6]) rfl).left) ?_
    refine aq_p (ov_move rfl rfl) rfl rfl rfl ?_
    refine aq_p (ov_extract rfl rfl rfl) rfl rfl rfl ?_
    refine aq_p (ov_extract rfl rfl rfl) rfl rfl rfl ?_
    refine aq_p (ov_assign rfl rfl) rfl rfl rfl ?_
    refine aq_p (ov_assign rfl rfl) rfl rfl rfl ?_
    refine aq_nil ?_
    refine at_normal ?_
    refine hK3 _ _ _ ?_
    refine at_seq_k (fun K4 hK4 => ?_)
    refine at_seq_k (fun K5 hK5 => ?_)
    refine at_region ?_
    refine at_v (ov_move rfl rfl) rfl rfl rfl ?_
    refine at_v (ov_not rfl rfl) rfl rfl rfl ?_
    refine at_nil ?_
    refine at_normal ?_
    refine hK5 _ _ _ ?_
    refine at_cond_true rfl ?_
    refine at_seq_k (fun K6 hK6 => ?_)
    refine at_region ?_
    refine at_v (ov_assign rfl rfl) rfl rfl rfl ?_
    refine at_nil ?_
    refine at_normal ?_
    refine hK6 _ _ _ ?_
    refine at_ret ?_
    refine at_then_ret ?_
    refine at_end ?_
    refine at_fold (A := Cl g) [0, 0, 0, 0, 0, 0] rfl (cl_fold ⟨hl1, hl2, hperm⟩) ?_
    refine at_fin (rsV rfl (res_tmp rfl)) ?_
    refine ⟨_, ⟨by rw [et], rfl⟩, ?_⟩
    exact fun _ s => s.finEq (ks := [0]) (js := [0]) rfl rfl rfl
  · have hi1 : (!decide (x.1 = 1)) = true := by simp [h1]
    have hw : wordAt (x :: r) 0 = [] := by simp [wordAt, h1]
    refine at_seq_k (fun K0 hK0 => ?_)
    refine at_region ?_
    refine at_v (ov_assign rfl rfl) rfl rfl rfl ?_
    refine at_nil ?_
    refine at_normal ?_
    refine hK0 _ _ _ ?_
    refine at_seq_k (fun K1 hK1 => ?_)
    refine at_seq_k (fun K2 hK2 => ?_)
    refine at_region ?_
    refine at_v (ov_move rfl rfl) rfl rfl rfl ?_
    refine at_v (ov_len_slice rfl Tryz.underlying36 rfl) rfl rfl rfl ?_
    refine at_v (ov_int rfl rfl rfl rfl) rfl rfl rfl ?_
    refine at_v (ov_move rfl rfl) rfl rfl rfl ?_
    refine at_wanted (j := 3) rfl ?_
    refine at_v (ov_move rfl rfl) rfl rfl rfl ?_
    refine at_wanted (j := 3) rfl ?_
    refine at_v (ov_indexRd (fun _ s => s.rd (k := 0) rfl) rfl Tryz.underlying36 rfl rfl rfl hget) rfl rfl rfl ?_
    refine at_wanted (j := 3) rfl ?_
    refine at_v (ov_fieldRd0 (k := 0) (fun _ s => s.rd (k := 0) rfl) rfl rfl hget rfl) rfl rfl rfl ?_
    refine at_wanted (j := 3) rfl ?_
    refine at_v (ov_loadRd0 (fun _ s => s.rd (k := 0) rfl) rfl rfl rfl hget rfl) rfl rfl rfl ?_
    refine at_wanted (j := 3) rfl ?_
    refine at_v (ov_int rfl rfl rfl rfl) rfl rfl rfl ?_
    refine at_v (ov_pick_f rfl rfl rfl) rfl rfl rfl ?_
    refine at_v (ov_move rfl rfl) rfl rfl rfl ?_
    refine at_reval 17 (.bool true) rfl (congrArg Value.bool (by first | assumption | (rw [Bool.not_eq_true']; exact decide_eq_false (by omega)))) ?_
    refine at_unwanted (j := 10) rfl rfl rfl rfl ?_
    refine at_unwanted (j := 10) rfl rfl rfl rfl ?_
    refine at_v (ov_pick_t rfl rfl rfl) rfl rfl rfl ?_
    refine at_nil ?_
    refine at_normal ?_
    refine hK2 _ _ _ ?_
    refine at_cond_true rfl ?_
    refine at_seq_k (fun K3 hK3 => ?_)
    refine at_region ?_
    refine at_v (ov_assign rfl rfl) rfl rfl rfl ?_
    refine at_nil ?_
    refine at_normal ?_
    refine hK3 _ _ _ ?_
    refine at_ret ?_
    refine at_then_ret ?_
    refine at_end ?_
    refine at_fin (rsV rfl (res_tmp rfl)) ?_
    refine ⟨_, ⟨by rw [none7 hw], rfl⟩, ?_⟩
    exact fun _ s => s.finEq (ks := [1]) (js := [0]) rfl rfl rfl
end Go.Proofs.YtgclahlbifbgdaaGreatDoor
