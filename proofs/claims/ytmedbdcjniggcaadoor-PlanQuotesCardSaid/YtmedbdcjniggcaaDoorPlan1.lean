/- Package plan, walked: named, place. -/
import Derived.Test.YtmedbdcjniggcaaDoorProg
import Derived.Test.YtmedbdcjniggcaaDoorPlanLaw
import Derived.Test.YtmedbdcjniggcaaDoorSLCmp
import Derived.Test.YtmedbdcjniggcaaDoorSLStr
import Derived.KernelRfl
set_option linter.unusedSimpArgs false
set_option linter.unusedVariables false
set_option maxRecDepth 100000
set_option maxHeartbeats 4000000
namespace Go.Proofs.YtmedbdcjniggcaaDoor
open Go Go.Proofs.YtmedbdcjniggcaaDoor.SL Go.RowKit
theorem cmp_lt : ∀ (a b : BL), Lib.compareBytes a b < 0 ↔ ltB a b = true
  | [], [] => by simp [Lib.compareBytes, Op.bytesLess]
  | [], _ :: _ => by simp [Lib.compareBytes, Op.bytesLess]
  | _ :: _, [] => by simp [Lib.compareBytes, Op.bytesLess]
  | a :: x, b :: y => by
    have ih := cmp_lt x y
    rw [ltB_cons]
    unfold Lib.compareBytes
    by_cases h1 : a < b
    · have := UInt8.lt_iff_toNat_lt.1 h1
      rw [if_pos h1]; simp [this]
    · have n1 : ¬ a.toNat < b.toNat := fun h => h1 (UInt8.lt_iff_toNat_lt.2 h)
      rw [if_neg h1]
      by_cases h2 : b < a
      · have := UInt8.lt_iff_toNat_lt.1 h2
        have n2 : ¬ a.toNat = b.toNat := by omega
        rw [if_pos h2]; simp [n1, n2]
      · have n2 : ¬ b.toNat < a.toNat := fun h => h2 (UInt8.lt_iff_toNat_lt.2 h)
        rw [if_neg h2, ih]
        have e : a.toNat = b.toNat := by omega
        simp [e]
theorem cmp_eq : ∀ (a b : BL), Lib.compareBytes a b = 0 ↔ a = b
  | [], [] => by simp [Lib.compareBytes]
  | [], _ :: _ => by simp [Lib.compareBytes]
  | _ :: _, [] => by simp [Lib.compareBytes]
  | a :: x, b :: y => by
    have ih := cmp_eq x y
    unfold Lib.compareBytes
    by_cases h1 : a < b
    · have := UInt8.lt_iff_toNat_lt.1 h1
      rw [if_pos h1]
      simp only [List.cons.injEq]
      constructor
      · intro h; omega
      · rintro ⟨rfl, _⟩; omega
    · rw [if_neg h1]
      by_cases h2 : b < a
      · have := UInt8.lt_iff_toNat_lt.1 h2
        rw [if_pos h2]
        simp only [List.cons.injEq]
        constructor
        · intro h; omega
        · rintro ⟨rfl, _⟩; omega
      · have n1 : ¬ a.toNat < b.toNat := fun h => h1 (UInt8.lt_iff_toNat_lt.2 h)
        have n2 : ¬ b.toNat < a.toNat := fun h => h2 (UInt8.lt_iff_toNat_lt.2 h)
        have e : a = b := UInt8.toNat_inj.1 (by omega)
        rw [if_neg h2, ih, List.cons.injEq]
        simp [e]
theorem pos_gt : ∀ {l : List PR} {key : BL} {h : Nat} {x : PR}, tabB l = true → l[h]? = some x → ltB x.1 key = true → h + 1 ≤ posL l key
  | [], key, h, x, _, e, _ => by simp at e
  | a :: l, key, 0, x, _, e, hx => by
    simp at e; subst e
    rw [pos_cons, if_pos hx]; omega
  | a :: l, key, h + 1, x, ht, e, hx => by
    obtain ⟨h1, h2⟩ := tab_cons ht
    have e' : l[h]? = some x := by simpa using e
    have := pos_gt h1 e' hx
    rw [pos_cons, if_pos (ltB_trans (h2 x (List.mem_of_getElem? e')) hx)]
    omega
theorem pos_ge : ∀ {l : List PR} {key : BL} {h : Nat} {x : PR}, l[h]? = some x → ltB x.1 key = false → posL l key ≤ h
  | [], key, h, x, e, _ => by simp at e
  | a :: l, key, 0, x, e, hx => by
    simp at e; subst e
    rw [pos_cons, hx]; simp
  | a :: l, key, h + 1, x, e, hx => by
    have e' : l[h]? = some x := by simpa using e
    have := pos_ge e' hx
    rw [pos_cons]
    split <;> omega
theorem T20 (w0 : World) (p : PR) : Tri Tryd.prog w0 20 [.agg #[SV p.1, SV p.2]] [] fun v m => v = SV p.1 ∧ m = [] := by
  refine tri_of Tryd.func20 rfl rfl fun F => ?_
  simp only [Tryd.ntmps20, argEnv, List.nil_append]
  refine at_seq_k (fun K0 hK0 => ?_)
  refine at_region ?_
  refine at_t (ot_boxA rfl rfl) rfl rfl rfl ?_
  rintro _ _ ⟨g0, rfl, rfl⟩
  refine at_v (ov_assign rfl rfl) rfl rfl rfl ?_
  refine at_nil ?_
  refine at_normal ?_
  refine hK0 _ _ _ ?_
  refine at_seq_k (fun K1 hK1 => ?_)
  refine at_region ?_
  refine at_v (ov_fieldAddr (k := 0) (r := 0) rfl rfl rfl rfl) rfl rfl rfl ?_
  refine at_v (ov_load rfl rfl rfl (fun _ s => s.ld (k := 0) rfl rfl)) rfl rfl rfl ?_
  refine at_v (ov_assign rfl rfl) rfl rfl rfl ?_
  refine at_nil ?_
  refine at_normal ?_
  refine hK1 _ _ _ ?_
  refine at_ret ?_
  refine at_end ?_
  refine at_fin (rsV rfl (res_tmp rfl)) ?_
  refine ⟨_, ⟨rfl, rfl⟩, ?_⟩
  exact fun _ s => s.finEq (ks := []) (js := [0]) rfl rfl rfl
theorem T29 (w0 : World) (a b : BL) : Tri Tryd.prog w0 29 [SV a, SV b] [] fun v m => v = .int .i64 (Lib.compareBytes a b) ∧ m = [] := fun F w st => by
  refine (Tryd.strings_Compare ⟨a.toArray⟩ ⟨b.toArray⟩ w).mono ?_
  rintro e w' ⟨rfl, rfl⟩
  exact ⟨_, [], rfl, ⟨rfl, rfl⟩, st⟩
theorem T28 (w0 : World) (x : PR) (key : BL) {b : Nat} : Tri Tryd.prog w0 28 [.agg #[SV x.1, SV x.2], SV key, ptrTo b] [cl b #[.func (.func 20) #[] #[]] 52] fun v m => v = .int .i64 (Lib.compareBytes x.1 key) ∧ m = [cl b #[.func (.func 20) #[] #[]] 52] := by
  refine tri_of Tryd.func28 rfl rfl fun F => ?_
  simp only [Tryd.ntmps28, argEnv, List.cons_append, List.nil_append]
  refine at_seq_k (fun K0 hK0 => ?_)
  refine at_region ?_
  refine at_t (ot_boxA rfl rfl) rfl rfl rfl ?_
  rintro _ _ ⟨g0, rfl, rfl⟩
  refine at_v (ov_assign rfl rfl) rfl rfl rfl ?_
  refine at_nil ?_
  refine at_normal ?_
  refine hK0 _ _ _ ?_
  refine at_seq_k (fun K1 hK1 => ?_)
  refine at_region ?_
  refine at_v (ov_load rfl rfl rfl (fun _ s => s.ld (k := 1) rfl rfl)) rfl rfl rfl ?_
  refine at_v (ov_loadS (cs := [_, _]) rfl rfl rfl rfl (fun _ s => s.lds (k := 0) rfl ⟨rfl, rfl, trivial⟩)) rfl rfl rfl ?_
  refine at_t (ot_call (ks := []) rfl rfl rfl Tryd.call20 rfl (T20 _ _) rfl) rfl rfl rfl ?_
  rintro v0 _ ⟨m0, hp0, rfl⟩
  obtain ⟨rfl, rfl⟩ := hp0
  simp only [List.cons_append, List.nil_append, splice, spliceL]
  refine at_v (ov_move rfl rfl) rfl rfl rfl ?_
  refine at_t (ot_call (ks := []) rfl rfl rfl Tryd.call29 rfl (T29 _ _ _) rfl) rfl rfl rfl ?_
  rintro v0 _ ⟨m0, hp0, rfl⟩
  obtain ⟨rfl, rfl⟩ := hp0
  simp only [List.cons_append, List.nil_append, splice, spliceL]
  refine at_v (ov_assign rfl rfl) rfl rfl rfl ?_
  refine at_nil ?_
  refine at_normal ?_
  refine hK1 _ _ _ ?_
  refine at_ret ?_
  refine at_end ?_
  refine at_fin (rsV rfl (res_tmp rfl)) ?_
  refine ⟨_, ⟨rfl, rfl⟩, ?_⟩
  exact fun _ s => s.finEq (ks := [1]) (js := [0]) rfl rfl rfl
theorem T27 (w0 : World) (key : BL) {b : Nat} {A : Option Addr} {c : Nat} {l : List PR} (hr : Rd pE w0 2 A l) (ht : tabB l = true) (hm : l.length ≤ 1000000) :
    Tri Tryd.prog w0 27 [.slice A l.length c, SV key, .func (.func 28) #[] #[ptrTo b]] [cl b #[.func (.func 20) #[] #[]] 52] fun v m => v = .tuple #[.int .i64 (posL l key : Nat), .bool (isL l key)] ∧ m = [cl b #[.func (.func 20) #[] #[]] 52] := by
  refine tri_of Tryd.func27 rfl rfl fun F => ?_
  simp only [Tryd.ntmps27, argEnv, List.cons_append, List.nil_append]
  refine at_seq_k (fun K0 hK0 => ?_)
  refine at_region ?_
  refine at_v (ov_assign rfl rfl) rfl rfl rfl ?_
  refine at_v (ov_assign rfl rfl) rfl rfl rfl ?_
  refine at_nil ?_
  refine at_normal ?_
  refine hK0 _ _ _ ?_
  refine at_seq_k (fun K1 hK1 => ?_)
  refine at_region ?_
  refine at_v (ov_move rfl rfl) rfl rfl rfl ?_
  refine at_v (ov_len_slice rfl Tryd.underlying24 rfl) rfl rfl rfl ?_
  refine at_v (ov_assign rfl rfl) rfl rfl rfl ?_
  refine at_nil ?_
  refine at_normal ?_
  refine hK1 _ _ _ ?_
  refine at_seq_k (fun K2 hK2 => ?_)
  refine at_region ?_
  refine at_v (ov_move rfl rfl) rfl rfl rfl ?_
  refine at_v (ov_assign rfl rfl) rfl rfl rfl ?_
  refine at_v (ov_assign rfl rfl) rfl rfl rfl ?_
  refine at_nil ?_
  refine at_normal ?_
  refine hK2 _ _ _ ?_
  refine at_seq_k (fun K3 hK3 => ?_)
  refine at_block ?_
  refine at_loopE [15, 16, 17, 18, 19, 20, 21, 22, 23, 11, 24, 25, 26, 27, 28, 29, 30, 31, 32, 33, 9, 34, 10] (fun i : Nat × Nat => i.1 ≤ posL l key ∧ posL l key ≤ i.2 ∧ i.2 ≤ l.length) (fun i => [(9, .int .i64 (i.1 : Nat)), (10, .int .i64 (i.2 : Nat))]) (fun i q => q) (fun i => i.2 - i.1) (0, l.length) ⟨Nat.zero_le _, pos_le l key, Nat.le_refl _⟩ ⟨rfl, rfl, trivial⟩ (fun _ s => s) ?_
  rintro ⟨i, j⟩ ⟨h1, h2, h3⟩
  simp only at h1 h2 h3
  dsimp only
  rcases Nat.lt_or_ge i j with hlt | hge
  · have hi1 : decide ((i : Int) < j) = true := decide_eq_true (by omega)
    obtain ⟨h, hh⟩ : ∃ h : Nat, h = (i + j) / 2 := ⟨_, rfl⟩
    have hcast : ((i : Int) + j) / 2 = (h : Nat) := by omega
    have hhl : h < l.length := by omega
    obtain ⟨x, hget⟩ : ∃ x, l[h]? = some x := ⟨_, List.getElem?_eq_getElem hhl⟩
    refine at_seq_k (fun K4 hK4 => ?_)
    refine at_seq_k (fun K5 hK5 => ?_)
    refine at_region ?_
    refine at_v (ov_move rfl rfl) rfl rfl rfl ?_
    refine at_v (ov_move rfl rfl) rfl rfl rfl ?_
    refine at_v (ov_int rfl rfl rfl rfl) rfl rfl rfl ?_
    refine at_nil ?_
    refine at_normal ?_
    refine hK5 _ _ _ ?_
    refine at_cond_true (congrArg (fun b => some (Value.bool b)) (show _ = true from decide_eq_true (by omega))) ?_
    refine at_skip ?_
    refine at_normal ?_
    refine hK4 _ _ _ ?_
    refine at_block ?_
    refine at_seq_k (fun K6 hK6 => ?_)
    refine at_region ?_
    refine at_v (ov_move rfl rfl) rfl rfl rfl ?_
    refine at_v (ov_move rfl rfl) rfl rfl rfl ?_
    refine at_v ((ov_int rfl rfl rfl rfl).eq (congrArg (Value.int .i64) (inK_i64 (by omega) (by omega)))) rfl rfl rfl ?_
    refine at_v ((ov_conv_int rfl rfl Tryd.underlying89 rfl).eq (congrArg (Value.int .u64) (inK_u64 (by omega) (by omega)))) rfl rfl rfl ?_
    refine at_v (ov_half rfl rfl rfl (by omega)) rfl rfl rfl ?_
    refine at_v ((ov_conv_int rfl rfl Tryd.underlying3 rfl).eq (congrArg (Value.int .i64) (inK_i64 (by omega) (by omega)))) rfl rfl rfl ?_
    refine at_v (ov_assign rfl rfl) rfl rfl rfl ?_
    refine at_nil ?_
    refine at_normal ?_
    refine hK6 _ _ _ ?_
    refine at_seq_k (fun K7 hK7 => ?_)
    refine at_region ?_
    refine at_v (ov_move rfl rfl) rfl rfl rfl ?_
    refine at_v (ov_move rfl rfl) rfl rfl rfl ?_
    refine at_v (ov_move rfl rfl) rfl rfl rfl ?_
    refine at_reval 26 (.int .i64 (h : Nat)) rfl (by rw [hcast]) ?_
    refine at_reval 11 (.int .i64 (h : Nat)) rfl (by rw [hcast]) ?_
    cases hx : ltB x.1 key with
    | true =>
      have hic : decide (Lib.compareBytes x.1 key < 0) = true := decide_eq_true ((cmp_lt _ _).2 hx)
      have hp := pos_gt ht hget hx
      refine at_v (ov_indexRd (fun _ s => hr.up s) rfl Tryd.underlying24 rfl rfl rfl hget) rfl rfl rfl ?_
      refine at_v (ov_loadRdS (vs := [_, _]) (fun _ s => hr.up s) rfl rfl rfl hget rfl rfl) rfl rfl rfl ?_
      refine at_v (ov_move rfl rfl) rfl rfl rfl ?_
      refine at_t (ot_call (ks := [0]) rfl rfl rfl Tryd.call28 rfl (T28 _ _ _) rfl) rfl rfl rfl ?_
      rintro v0 _ ⟨m0, hp0, rfl⟩
      obtain ⟨rfl, rfl⟩ := hp0
      simp only [List.cons_append, List.nil_append, splice, spliceL]
      refine at_v (ov_int rfl rfl rfl rfl) rfl rfl rfl ?_
      refine at_nil ?_
      refine at_normal ?_
      refine hK7 _ _ _ ?_
      refine at_cond_true (congrArg (fun b => some (Value.bool b)) (show _ = true from by first | assumption | (rw [Bool.not_eq_true']; exact decide_eq_false (by omega)))) ?_
      refine at_region ?_
      refine at_v (ov_move rfl rfl) rfl rfl rfl ?_
      refine at_v ((ov_int rfl rfl rfl rfl).eq (congrArg (Value.int .i64) (inK_i64 (by omega) (by omega)))) rfl rfl rfl ?_
      refine at_v (ov_assign rfl rfl) rfl rfl rfl ?_
      refine at_nil ?_
      refine at_inb_normal ?_
      refine at_normal ?_
      refine at_roundF (h + 1, j) ⟨hp, h2, h3⟩ (by simp only; omega) ⟨rfl, rfl, trivial⟩ rfl ?_
      exact fun _ s => s.finEq (ks := [0]) (js := []) rfl rfl rfl
    | false =>
      have hic : decide (Lib.compareBytes x.1 key < 0) = false := decide_eq_false fun e => by rw [(cmp_lt _ _).1 e] at hx; cases hx
      have hp := pos_ge hget hx
      refine at_v (ov_indexRd (fun _ s => hr.up s) rfl Tryd.underlying24 rfl rfl rfl hget) rfl rfl rfl ?_
      refine at_v (ov_loadRdS (vs := [_, _]) (fun _ s => hr.up s) rfl rfl rfl hget rfl rfl) rfl rfl rfl ?_
      refine at_v (ov_move rfl rfl) rfl rfl rfl ?_
      refine at_t (ot_call (ks := [0]) rfl rfl rfl Tryd.call28 rfl (T28 _ _ _) rfl) rfl rfl rfl ?_
      rintro v0 _ ⟨m0, hp0, rfl⟩
      obtain ⟨rfl, rfl⟩ := hp0
      simp only [List.cons_append, List.nil_append, splice, spliceL]
      refine at_v (ov_int rfl rfl rfl rfl) rfl rfl rfl ?_
      refine at_nil ?_
      refine at_normal ?_
      refine hK7 _ _ _ ?_
      refine at_cond_false (congrArg (fun b => some (Value.bool b)) (show _ = false from by first | assumption | (rw [Bool.not_eq_false']; exact decide_eq_true (by omega)))) ?_
      refine at_region ?_
      refine at_v (ov_move rfl rfl) rfl rfl rfl ?_
      refine at_v (ov_assign rfl rfl) rfl rfl rfl ?_
      refine at_nil ?_
      refine at_inb_normal ?_
      refine at_normal ?_
      refine at_roundF (i, h) ⟨h1, hp, by simp only; omega⟩ (by simp only; omega) ⟨rfl, rfl, trivial⟩ rfl ?_
      exact fun _ s => s.finEq (ks := [0]) (js := []) rfl rfl rfl
  · have hi1 : decide ((i : Int) < j) = false := decide_eq_false (by omega)
    have hi : i = posL l key := by omega
    subst hi
    rcases Nat.lt_or_ge (posL l key) l.length with hlt | hge2
    · have hi2 : decide ((posL l key : Int) < l.length) = true := decide_eq_true (by omega)
      obtain ⟨x, hget⟩ : ∃ x, l[posL l key]? = some x := ⟨_, List.getElem?_eq_getElem hlt⟩
      have his : isL l key = decide (Lib.compareBytes x.1 key = 0) := by
        unfold isL
        rw [hget]
        simp only
        by_cases e : x.1 = key
        · rw [decide_eq_true e, decide_eq_true ((cmp_eq _ _).2 e)]
        · rw [decide_eq_false e, decide_eq_false (fun h => e ((cmp_eq _ _).1 h))]
      refine at_seq_k (fun K4 hK4 => ?_)
      refine at_seq_k (fun K5 hK5 => ?_)
      refine at_region ?_
      refine at_v (ov_move rfl rfl) rfl rfl rfl ?_
      refine at_v (ov_move rfl rfl) rfl rfl rfl ?_
      refine at_v (ov_int rfl rfl rfl rfl) rfl rfl rfl ?_
      refine at_nil ?_
      refine at_normal ?_
      refine hK5 _ _ _ ?_
      refine at_cond_false (congrArg (fun b => some (Value.bool b)) (show _ = false from decide_eq_false (by omega))) ?_
      refine at_exit ?_
      refine at_then_exit ?_
      refine at_then_exit ?_
      refine at_exit_eq ?_
      refine at_normal ?_
      refine hK3 _ _ _ ?_
      refine at_seq_k (fun K6 hK6 => ?_)
      refine at_region ?_
      refine at_v (ov_move rfl rfl) rfl rfl rfl ?_
      refine at_v (ov_move rfl rfl) rfl rfl rfl ?_
      refine at_v (ov_move rfl rfl) rfl rfl rfl ?_
      refine at_v (ov_int rfl rfl rfl rfl) rfl rfl rfl ?_
      refine at_v (ov_move rfl rfl) rfl rfl rfl ?_
      refine at_reval 39 (.bool true) rfl (congrArg Value.bool (decide_eq_true (by omega))) ?_
      refine at_wanted (j := 4) rfl ?_
      refine at_v (ov_move rfl rfl) rfl rfl rfl ?_
      refine at_wanted (j := 4) rfl ?_
      refine at_v (ov_move rfl rfl) rfl rfl rfl ?_
      refine at_wanted (j := 4) rfl ?_
      refine at_v (ov_move rfl rfl) rfl rfl rfl ?_
      refine at_wanted (j := 4) rfl ?_
      refine at_v (ov_indexRd (fun _ s => hr.up s) rfl Tryd.underlying24 rfl rfl rfl hget) rfl rfl rfl ?_
      refine at_wanted (j := 4) rfl ?_
      refine at_v (ov_loadRdS (vs := [_, _]) (fun _ s => hr.up s) rfl rfl rfl hget rfl rfl) rfl rfl rfl ?_
      refine at_wanted (j := 4) rfl ?_
      refine at_v (ov_move rfl rfl) rfl rfl rfl ?_
      refine at_wanted (j := 4) rfl ?_
      refine at_t (ot_call (ks := [0]) rfl rfl rfl Tryd.call28 rfl (T28 _ _ _) rfl) rfl rfl rfl ?_
      rintro v0 _ ⟨m0, hp0, rfl⟩
      obtain ⟨rfl, rfl⟩ := hp0
      simp only [List.cons_append, List.nil_append, splice, spliceL]
      refine at_wanted (j := 4) rfl ?_
      refine at_v (ov_int rfl rfl rfl rfl) rfl rfl rfl ?_
      refine at_v (ov_pick_t rfl rfl rfl) rfl rfl rfl ?_
      refine at_v (ov_assign rfl rfl) rfl rfl rfl ?_
      refine at_v (ov_assign rfl rfl) rfl rfl rfl ?_
      refine at_nil ?_
      refine at_normal ?_
      refine hK6 _ _ _ ?_
      refine at_ret ?_
      refine at_end ?_
      refine at_fin (rsL (vs := [_, _]) rfl ⟨res_tmp rfl, res_tmp rfl, trivial⟩ rfl) ?_
      refine ⟨_, ⟨by rw [his], rfl⟩, ?_⟩
      exact fun _ s => s.finEq (ks := [0]) (js := []) rfl rfl rfl
    · have hi2 : decide ((posL l key : Int) < l.length) = false := decide_eq_false (by omega)
      have his : isL l key = false := by
        unfold isL
        rw [List.getElem?_eq_none hge2]
      refine at_seq_k (fun K4 hK4 => ?_)
      refine at_seq_k (fun K5 hK5 => ?_)
      refine at_region ?_
      refine at_v (ov_move rfl rfl) rfl rfl rfl ?_
      refine at_v (ov_move rfl rfl) rfl rfl rfl ?_
      refine at_v (ov_int rfl rfl rfl rfl) rfl rfl rfl ?_
      refine at_nil ?_
      refine at_normal ?_
      refine hK5 _ _ _ ?_
      refine at_cond_false (congrArg (fun b => some (Value.bool b)) (show _ = false from decide_eq_false (by omega))) ?_
      refine at_exit ?_
      refine at_then_exit ?_
      refine at_then_exit ?_
      refine at_exit_eq ?_
      refine at_normal ?_
      refine hK3 _ _ _ ?_
      refine at_seq_k (fun K6 hK6 => ?_)
      refine at_region ?_
      refine at_v (ov_move rfl rfl) rfl rfl rfl ?_
      refine at_v (ov_move rfl rfl) rfl rfl rfl ?_
      refine at_v (ov_move rfl rfl) rfl rfl rfl ?_
      refine at_v (ov_int rfl rfl rfl rfl) rfl rfl rfl ?_
      refine at_v (ov_move rfl rfl) rfl rfl rfl ?_
      refine at_reval 39 (.bool false) rfl (congrArg Value.bool (decide_eq_false (by omega))) ?_
      refine at_unwanted (j := 4) rfl rfl rfl rfl ?_
      refine at_unwanted (j := 4) rfl rfl rfl rfl ?_
      refine at_unwanted (j := 4) rfl rfl rfl rfl ?_
      refine at_unwanted (j := 4) rfl rfl rfl rfl ?_
      refine at_unwanted (j := 4) rfl rfl rfl rfl ?_
      refine at_unwanted (j := 4) rfl rfl rfl rfl ?_
      refine at_unwanted (j := 4) rfl rfl rfl rfl ?_
      refine at_unwanted (j := 4) rfl rfl rfl rfl ?_
      refine at_v (ov_pick_f rfl rfl rfl) rfl rfl rfl ?_
      refine at_v (ov_assign rfl rfl) rfl rfl rfl ?_
      refine at_v (ov_assign rfl rfl) rfl rfl rfl ?_
      refine at_nil ?_
      refine at_normal ?_
      refine hK6 _ _ _ ?_
      refine at_ret ?_
      refine at_end ?_
      refine at_fin (rsL (vs := [_, _]) rfl ⟨res_tmp rfl, res_tmp rfl, trivial⟩ rfl) ?_
      refine ⟨_, ⟨by rw [his], rfl⟩, ?_⟩
      exact fun _ s => s.finEq (ks := [0]) (js := []) rfl rfl rfl
theorem T19 (w0 : World) (key : BL) {A : Option Addr} {c : Nat} {l : List PR} (hr : Rd pE w0 2 A l) (ht : tabB l = true) (hm : l.length ≤ 1000000) :
    Tri Tryd.prog w0 19 [.slice A l.length c, SV key, .func (.func 20) #[] #[]] [] fun v m => v = .tuple #[.int .i64 (posL l key : Nat), .bool (isL l key)] ∧ m = [] := by
  refine tri_of Tryd.func19 rfl rfl fun F => ?_
  simp only [Tryd.ntmps19, argEnv, List.cons_append, List.nil_append]
  refine at_seq_k (fun K0 hK0 => ?_)
  refine at_region ?_
  refine at_t (ot_box1 rfl rfl rfl) rfl rfl rfl ?_
  rintro _ _ ⟨g0, rfl, rfl⟩
  refine at_v (ov_assign rfl rfl) rfl rfl rfl ?_
  refine at_v (ov_assign rfl rfl) rfl rfl rfl ?_
  refine at_nil ?_
  refine at_normal ?_
  refine hK0 _ _ _ ?_
  refine at_seq_k (fun K1 hK1 => ?_)
  refine at_region ?_
  refine at_v (ov_move rfl rfl) rfl rfl rfl ?_
  refine at_v (ov_move rfl rfl) rfl rfl rfl ?_
  refine at_v (ov_makeFunc (first := []) rfl rfl rfl) rfl rfl rfl ?_
  refine at_t (ot_call (ks := [0]) rfl rfl rfl Tryd.call27 rfl (T27 _ _ (by first | assumption | rfl | omega | decide | (simp; done) | (simp at *; omega)) (by first | assumption | rfl | omega | decide | (simp; done) | (simp at *; omega)) (by first | assumption | rfl | omega | decide | (simp; done) | (simp at *; omega))) rfl) rfl rfl rfl ?_
  rintro v0 _ ⟨m0, hp0, rfl⟩
  obtain ⟨rfl, rfl⟩ := hp0
  simp only [List.cons_append, List.nil_append, splice, spliceL]
  refine at_v (ov_extract rfl rfl rfl) rfl rfl rfl ?_
  refine at_v (ov_extract rfl rfl rfl) rfl rfl rfl ?_
  refine at_v (ov_assign rfl rfl) rfl rfl rfl ?_
  refine at_v (ov_assign rfl rfl) rfl rfl rfl ?_
  refine at_nil ?_
  refine at_normal ?_
  refine hK1 _ _ _ ?_
  refine at_ret ?_
  refine at_end ?_
  refine at_fin (rsL (vs := [_, _]) rfl ⟨res_tmp rfl, res_tmp rfl, trivial⟩ rfl) ?_
  refine ⟨_, ⟨rfl, rfl⟩, ?_⟩
  exact fun _ s => s.finEq (ks := []) (js := [0]) rfl rfl rfl
theorem T19a (w0 : World) (key : BL) {A : Option Addr} {c c' : Nat} {l : List PR} (ht : tabB l = true) (hm : l.length ≤ 1000000) :
    Tri Tryd.prog w0 19 [.slice A l.length c, SV key, .func (.func 20) #[] #[]] [Row pE 48 2 A c' l] fun v m => v = .tuple #[.int .i64 (posL l key : Nat), .bool (isL l key)] ∧ m = [Row pE 48 2 A c' l] :=
  (Tri.of_all fun w s => T19 w key (s.rd (k := 0) rfl) ht hm).post fun v m ⟨m', ⟨h1, h2⟩, h3⟩ => ⟨h1, by rw [h3, h2]; rfl⟩
end Go.Proofs.YtmedbdcjniggcaaDoor
