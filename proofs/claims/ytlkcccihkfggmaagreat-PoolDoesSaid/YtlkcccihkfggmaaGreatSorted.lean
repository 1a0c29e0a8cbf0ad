/- slices.Sorted(maps.Keys(m)) at an int's keys, few enough for the insertion sort. -/
import Derived.Test.YtlkcccihkfggmaaGreatProg
import Derived.Test.YtlkcccihkfggmaaGreatWaits
import Derived.Test.YtlkcccihkfggmaaGreatSLBr
import Derived.KernelRfl
set_option linter.unusedSimpArgs false
set_option linter.unusedVariables false
set_option maxRecDepth 100000
namespace Go.Proofs.YtlkcccihkfggmaaGreat
open Go Go.Proofs.YtlkcccihkfggmaaGreat.SL Go.RowKit
theorem nodup_lt_len : ∀ (n : Nat) (l : List Nat), l.Nodup → (∀ q ∈ l, q < n) → l.length ≤ n
  | 0, [], _, _ => by simp
  | 0, a :: r, _, h => absurd (h a (by simp)) (by omega)
  | n + 1, l, hn, h => by
    have h1 := nodup_lt_len n (l.erase n) (hn.erase n) fun q hq => by
      have := (List.Nodup.mem_erase_iff hn).1 hq
      have := h q this.2
      omega
    rw [List.length_erase] at h1
    split at h1 <;> omega
abbrev KI : TypeDesc := .int .i64
theorem T71 (w0 : World) {mb : Nat} : Tri Tryz.prog w0 71 [.map (some mb)] [] fun v m => ∃ b, v = .func (.func 85) #[] #[ptrTo b] ∧ m = [cl b #[.map (some mb)] 65] := by
  refine tri_of Tryz.func71 rfl rfl fun F => ?_
  simp only [Tryz.ntmps71, argEnv, List.nil_append]
  refine at_seq_k (fun K0 hK0 => ?_)
  refine at_region ?_
  refine at_t (ot_box1 rfl rfl rfl) rfl rfl rfl ?_
  rintro _ _ ⟨g0, rfl, rfl⟩
  refine at_v (ov_assign rfl rfl) rfl rfl rfl ?_
  refine at_nil ?_
  refine at_normal ?_
  refine hK0 _ _ _ ?_
  refine at_seq_k (fun K1 hK1 => ?_)
  refine at_region ?_
  refine at_v (ov_makeFunc (first := []) rfl rfl rfl) rfl rfl rfl ?_
  refine at_v (ov_assign rfl rfl) rfl rfl rfl ?_
  refine at_nil ?_
  refine at_normal ?_
  refine hK1 _ _ _ ?_
  refine at_ret ?_
  refine at_end ?_
  refine at_fin (rsV rfl (res_tmp rfl)) ?_
  refine ⟨_, ⟨_, rfl, rfl⟩, ?_⟩
  exact fun _ s => s.finEq (ks := [0]) (js := []) rfl rfl rfl
def KStep (kvs : List (Value × Value)) (told : List Nat) (a : List Value) (told' : List Nat) : Prop := ∃ i key v, i ∉ told ∧ told.Nodup ∧ (∀ q ∈ told, q < kvs.length) ∧ kvs[i]? = some (key, v) ∧ a = [key] ∧ told' = told ++ [i]
theorem S85 (w0 : World) {b mb : Nat} {kvs : List (Value × Value)} :
    SeqI Tryz.prog w0 85 [ptrTo b] [cl b #[.map (some mb)] 65, MapA KI mb kvs] [] (KStep kvs) (fun told => told.Perm (List.range kvs.length)) := by
  intro l0 J D hy
  refine tri_of Tryz.func85 rfl rfl fun F => ?_
  simp only [Tryz.ntmps85, argEnv, List.cons_append, List.nil_append]
  refine at_seq_k (fun K0 hK0 => ?_)
  refine at_region ?_
  refine at_v (ov_load rfl rfl rfl (fun _ s => s.ld (k := 1) rfl rfl)) rfl rfl rfl ?_
  refine at_t (ot_range (k := 2) rfl Tryz.underlying65 rfl rfl) rfl rfl rfl ?_
  rintro _ _ ⟨r, rfl, rfl⟩
  simp only [setAt]
  refine at_nil ?_
  refine at_normal ?_
  refine hK0 _ _ _ ?_
  refine at_block ?_
  refine at_loopE [6, 7, 8, 9, 3, 10, 11, 12, 13] (fun told => told.Nodup ∧ (∀ q ∈ told, q < kvs.length)) (fun _ => []) (fun told m => setAt 0 (J told) (setAt 2 (Rng KI mb r kvs told) m)) (fun told => kvs.length - told.length) [] ⟨List.nodup_nil, fun _ h => by cases h⟩ trivial (fun _ s => s) ?_
  rintro told ⟨hnd, hlt⟩
  simp only [setAt]
  refine at_seq_k (fun K1 hK1 => ?_)
  refine at_region ?_
  refine at_t (ot_next (k := 2) rfl rfl rfl) rfl rfl rfl ?_
  rintro _ _ (⟨hperm, rfl, rfl⟩ | ⟨i, key, v, hi, hkv, rfl, rfl⟩)
  · refine at_v (ov_extract rfl rfl rfl) rfl rfl rfl ?_
    refine at_nil ?_
    refine at_normal ?_
    refine hK1 _ _ _ ?_
    refine at_seq_k (fun K2 hK2 => ?_)
    refine at_cond_false rfl ?_
    refine at_exit ?_
    refine at_then_exit ?_
    refine at_then_exit ?_
    refine at_exit_eq ?_
    refine at_end ?_
    refine at_rngEnd 2 rfl ?_
    simp only [setAt]
    refine at_fin (rs0 rfl) ?_
    refine ⟨_, ⟨told, true, fun _ => hperm, rfl, rfl⟩, ?_⟩
    exact fun _ s => s.finEq (ks := [0, 0, 0]) (js := []) rfl rfl rfl
  · simp only [setAt]
    refine at_v (ov_extract rfl rfl rfl) rfl rfl rfl ?_
    refine at_nil ?_
    refine at_normal ?_
    refine hK1 _ _ _ ?_
    refine at_seq_k (fun K2 hK2 => ?_)
    refine at_cond_true rfl ?_
    refine at_skip ?_
    refine at_normal ?_
    refine hK2 _ _ _ ?_
    refine at_block ?_
    refine at_seq_k (fun K3 hK3 => ?_)
    refine at_region ?_
    refine at_v (ov_entry (k := 2) rfl rfl rfl hkv) rfl rfl rfl ?_
    have hyk := hy told [key] (told ++ [i]) ⟨i, key, v, hi, hnd, hlt, hkv, rfl, rfl⟩
    refine at_v (ov_extract rfl rfl rfl) rfl rfl rfl ?_
    refine at_v (ov_assign rfl rfl) rfl rfl rfl ?_
    refine at_nil ?_
    refine at_normal ?_
    refine hK3 _ _ _ ?_
    refine at_seq_k (fun K4 hK4 => ?_)
    refine at_region ?_
    refine at_v (ov_move rfl rfl) rfl rfl rfl ?_
    refine at_v (ov_move rfl rfl) rfl rfl rfl ?_
    refine at_t (ot_yield (ks := [0]) rfl rfl rfl (hyk ) rfl) rfl rfl rfl ?_
    rintro v0 _ ⟨m0, hp0, rfl⟩
    obtain ⟨b0, hp0⟩ := hp0
    obtain ⟨rfl, rfl⟩ := hp0
    simp only [List.cons_append, List.nil_append, splice, spliceL]
    refine at_v (ov_not rfl rfl) rfl rfl rfl ?_
    refine at_nil ?_
    refine at_normal ?_
    refine hK4 _ _ _ ?_
    have hil : i < kvs.length := (List.getElem?_eq_some_iff.1 hkv).1
    have hnd2 : (told ++ [i]).Nodup := List.nodup_append.2 ⟨hnd, by simp, fun a ha b hb => by simp at hb; subst hb; exact fun e => hi (e ▸ ha)⟩
    have hlt2 : ∀ q ∈ told ++ [i], q < kvs.length := fun q hq => by
      rcases List.mem_append.1 hq with hq | hq
      · exact hlt q hq
      · simp at hq; subst hq; exact hil
    have hlen : (told ++ [i]).length ≤ kvs.length := nodup_lt_len _ _ hnd2 hlt2
    cases b0 with
    | true =>
      refine at_cond_false rfl ?_
      refine at_skip ?_
      refine at_inb_normal ?_
      refine at_normal ?_
      refine at_roundF (told ++ [i]) ⟨hnd2, hlt2⟩ (by simp at hlen ⊢; omega) trivial rfl ?_
      exact fun _ s => s.finEq (ks := [0, 0, 0]) (js := []) rfl rfl rfl
    | false =>
      refine at_cond_true rfl ?_
      refine at_ret ?_
      refine at_inb_ret ?_
      refine at_then_ret ?_
      refine at_inb_ret ?_
      refine at_end ?_
      refine at_rngEnd 2 rfl ?_
      simp only [setAt]
      refine at_fin (rs0 rfl) ?_
      refine ⟨_, ⟨told, false, fun h => (by cases h), rfl, rfl⟩, ?_⟩
      exact fun _ s => s.finEq (ks := [0, 0, 0]) (js := []) rfl rfl rfl
/-- The key at place i. -/
def keyAt (ids : List Int) (i : Nat) : Int := ids[i]?.getD 0
def ARow (ids : List Int) (g : Nat) (told : List Nat) : HP := fun h => ∃ A, ∃ c, star [cl g #[.slice A (told.map (keyAt ids)).length c] 45, Row wE 3 1 A c (told.map (keyAt ids))] h
theorem T90 (w0 : World) {b mb : Nat} {ids : List Int} {kvs : List (Value × Value)} (hkv : kvs.map (·.1) = ids.map (fun x => Value.int .i64 x)) (h6 : ids.length ≤ 6) :
    Tri Tryz.prog w0 90 [.slice none 0 0, .func (.func 85) #[] #[ptrTo b]] [cl b #[.map (some mb)] 65, MapA KI mb kvs] fun v m => ∃ told : List Nat, ∃ A c, told.Perm (List.range ids.length) ∧ v = .slice A (told.map (keyAt ids)).length c ∧ m = [Row wE 3 1 A c (told.map (keyAt ids)), MapA KI mb kvs] := by
  have hlen : kvs.length = ids.length := by simpa using congrArg List.length hkv
  refine tri_of Tryz.func90 rfl rfl fun F => ?_
  simp only [Tryz.ntmps90, argEnv, List.cons_append, List.nil_append]
  refine at_seq_k (fun K0 hK0 => ?_)
  refine at_region ?_
  refine at_t (ot_box1 rfl rfl rfl) rfl rfl rfl ?_
  rintro _ _ ⟨g0, rfl, rfl⟩
  refine at_v (ov_assign rfl rfl) rfl rfl rfl ?_
  refine at_nil ?_
  refine at_normal ?_
  refine hK0 _ _ _ ?_
  refine at_seq_k (fun K1 hK1 => ?_)
  refine at_seq_k (fun K2 hK2 => ?_)
  refine at_region ?_
  refine at_v (ov_move rfl rfl) rfl rfl rfl ?_
  refine at_nil ?_
  refine at_normal ?_
  refine hK2 _ _ _ ?_
  refine at_block ?_
  refine at_rowNil wE 3 1 ?_
  refine at_fold (A := ARow ids g0 []) [1, 0] rfl (fun h s => ⟨none, 0, s⟩) ?_
  refine at_rangeStep (psl := [7]) (caps := [ptrTo b]) [0, 0, 0] [] (KStep kvs) (fun told => told.Perm (List.range kvs.length)) (ARow ids g0) (fun _ _ h => False ∧ star [] h) rfl Tryz.call85 rfl (S85 w0) rfl ?_ ?_ ?_ ?_
  · rintro i a i' ⟨_, _, _, _, _, _, _, rfl, _⟩
    rfl
  · rintro l0 rc told _ _ ⟨i, key, v, hi, hnd, hlt, hkvi, rfl, rfl⟩ hst F
    have hil : i < ids.length := by rw [← hlen]; exact (List.getElem?_eq_some_iff.1 hkvi).1
    have hkey : key = .int .i64 (keyAt ids i) := by
      have h1 : (kvs.map (·.1))[i]? = some key := by simp [hkvi]
      rw [hkv] at h1
      simp [List.getElem?_eq_getElem hil] at h1
      simp [keyAt, List.getElem?_eq_getElem hil, h1]
    subst hkey
    have hl6 : (told.map (keyAt ids)).length ≤ 6 := by
      have := nodup_lt_len _ _ hnd hlt
      simp; omega
    have hl6' : told.length ≤ 6 := by simpa using hl6
    refine at_pulls [1] rfl ?_
    refine at_ex fun A => at_ex fun c => at_open ?_
    simp only [List.cons_append, List.nil_append]
    have happ : (told ++ [i]).map (keyAt ids) = told.map (keyAt ids) ++ [keyAt ids i] := by simp
    refine at_region ?_
    refine at_v (ov_assign rfl rfl) rfl rfl rfl ?_
    refine at_nil ?_
    refine at_normal ?_
    refine at_mid (k := 2) rfl (by assumption) ?_
    simp only [setAt]
    refine at_block ?_
    refine at_region ?_
    refine at_v (ov_load rfl rfl rfl (fun _ s => s.ld (k := 0) rfl rfl)) rfl rfl rfl ?_
    refine at_v (ov_move rfl rfl) rfl rfl rfl ?_
    refine at_t (ot_buildSlice (cs := [_]) rfl Tryz.underlying45 rfl rfl rfl rfl rfl rfl) rfl rfl rfl ?_
    rintro _ _ ⟨g1, rfl, rfl⟩
    refine at_t (ot_append (k := 2) (size := 1) (bytes := 8) (ys := [keyAt ids i]) (fun _ s => s.rdPt (k := 0) rfl rfl (by simp [wE])) rfl Tryz.underlying45 (ti := Tryz.t3) rfl rfl rfl rfl rfl (by decide) rfl rfl rfl (by simp [wE, Value.oneCell']) (by simp; omega) (by decide)) rfl rfl rfl ?_
    rintro _ _ ⟨A0, c0, rfl, rfl⟩
    simp only [setAt]
    rw [← happ]
    refine at_t0 (ot_store (k := 1) rfl rfl rfl rfl rfl rfl rfl) rfl rfl ?_
    rintro _ _ ⟨rfl, rfl⟩
    simp only [setAt, splice, spliceL, Value.cells]
    refine at_nil ?_
    refine at_inb_normal ?_
    refine at_fold (A := ARow ids g0 (told ++ [i])) [1, 1] rfl (fun h s => ⟨A0, c0, s⟩) ?_
    refine at_rnormal (k := 2) rfl ?_
    simp only [setAt]
    refine ⟨_, .inl ⟨rfl, rfl⟩, ?_⟩
    exact fun _ s => s.finEq (ks := [2, 0]) (js := [0]) rfl rfl rfl
  · intro d told hp
    refine at_pulls [1] rfl ?_
    refine at_ex fun A => at_ex fun c => at_open ?_
    simp only [List.cons_append, List.nil_append]
    refine at_inb_normal ?_
    refine at_normal ?_
    refine hK1 _ _ _ ?_
    refine at_seq_k (fun K3 hK3 => ?_)
    refine at_region ?_
    refine at_v (ov_load rfl rfl rfl (fun _ s => s.ld (k := 0) rfl rfl)) rfl rfl rfl ?_
    refine at_v (ov_assign rfl rfl) rfl rfl rfl ?_
    refine at_nil ?_
    refine at_normal ?_
    refine hK3 _ _ _ ?_
    refine at_ret ?_
    refine at_end ?_
    refine at_mark (k := 2) rfl ?_
    simp only [setAt]
    refine at_fin (rsV rfl (res_tmp rfl)) ?_
    refine ⟨_, ⟨told, A, c, hlen ▸ hp, rfl, rfl⟩, ?_⟩
    exact fun _ s => s.finEq (ks := [1, 3]) (js := [0, 0, 0]) rfl rfl rfl
  · intro d told cc
    refine at_pulls [1] rfl ?_
    exact at_and fun h => h.elim
theorem T83 (w0 : World) {b mb : Nat} {ids : List Int} {kvs : List (Value × Value)} (hkv : kvs.map (·.1) = ids.map (fun x => Value.int .i64 x)) (h6 : ids.length ≤ 6) :
    Tri Tryz.prog w0 83 [.func (.func 85) #[] #[ptrTo b]] [cl b #[.map (some mb)] 65, MapA KI mb kvs] fun v m => ∃ told : List Nat, ∃ A c, told.Perm (List.range ids.length) ∧ v = .slice A (told.map (keyAt ids)).length c ∧ m = [Row wE 3 1 A c (told.map (keyAt ids)), MapA KI mb kvs] := by
  refine tri_of Tryz.func83 rfl rfl fun F => ?_
  simp only [Tryz.ntmps83, argEnv, List.cons_append, List.nil_append]
  refine at_seq_k (fun K0 hK0 => ?_)
  refine at_region ?_
  refine at_v (ov_assign rfl rfl) rfl rfl rfl ?_
  refine at_nil ?_
  refine at_normal ?_
  refine hK0 _ _ _ ?_
  refine at_seq_k (fun K1 hK1 => ?_)
  refine at_region ?_
  refine at_v (ov_move rfl rfl) rfl rfl rfl ?_
  refine at_t (ot_call (ks := [0, 0]) rfl rfl rfl Tryz.call90 rfl (T90 _ (by first | assumption | rfl | omega | decide | (simp; done) | (simp at *; omega)) (by first | assumption | rfl | omega | decide | (simp; done) | (simp at *; omega))) rfl) rfl rfl rfl ?_
  rintro v0 _ ⟨m0, hp0, rfl⟩
  obtain ⟨told0, hp0⟩ := hp0
  obtain ⟨A0, hp0⟩ := hp0
  obtain ⟨c0, hp0⟩ := hp0
  obtain ⟨hq0, hp0⟩ := hp0
  obtain ⟨rfl, rfl⟩ := hp0
  simp only [List.cons_append, List.nil_append, splice, spliceL]
  refine at_v (ov_assign rfl rfl) rfl rfl rfl ?_
  refine at_nil ?_
  refine at_normal ?_
  refine hK1 _ _ _ ?_
  refine at_ret ?_
  refine at_end ?_
  refine at_fin (rsV rfl (res_tmp rfl)) ?_
  refine ⟨_, ⟨_, _, _, hq0, rfl, rfl⟩, ?_⟩
  exact fun _ s => s.finEq (ks := [0, 0]) (js := []) rfl rfl rfl
theorem T110 (w0 : World) (x : Int) : Tri Tryz.prog w0 110 [.int .i64 x] [] fun v m => v = .bool false ∧ m = [] := by
  refine tri_of Tryz.func110 rfl rfl fun F => ?_
  simp only [Tryz.ntmps110, argEnv, List.cons_append, List.nil_append]
  refine at_seq_k (fun K0 hK0 => ?_)
  refine at_region ?_
  refine at_v (ov_assign rfl rfl) rfl rfl rfl ?_
  refine at_nil ?_
  refine at_normal ?_
  refine hK0 _ _ _ ?_
  refine at_seq_k (fun K1 hK1 => ?_)
  refine at_region ?_
  refine at_v (ov_move rfl rfl) rfl rfl rfl ?_
  refine at_v (ov_move rfl rfl) rfl rfl rfl ?_
  refine at_v (ov_int rfl rfl rfl rfl) rfl rfl rfl ?_
  refine at_v (ov_assign rfl rfl) rfl rfl rfl ?_
  refine at_nil ?_
  refine at_normal ?_
  refine hK1 _ _ _ ?_
  refine at_ret ?_
  refine at_end ?_
  refine at_fin (rsV rfl (res_tmp rfl)) ?_
  refine ⟨_, ⟨by simp, rfl⟩, ?_⟩
  exact fun _ s => s.finEq (ks := []) (js := []) rfl rfl rfl
theorem T100 (w0 : World) (x y : Int) : Tri Tryz.prog w0 100 [.int .i64 x, .int .i64 y] [] fun v m => v = .bool (decide (x < y)) ∧ m = [] := by
  refine tri_of Tryz.func100 rfl rfl fun F => ?_
  simp only [Tryz.ntmps100, argEnv, List.cons_append, List.nil_append]
  refine at_seq_k (fun K0 hK0 => ?_)
  refine at_region ?_
  refine at_v (ov_assign rfl rfl) rfl rfl rfl ?_
  refine at_nil ?_
  refine at_normal ?_
  refine hK0 _ _ _ ?_
  refine at_seq_k (fun K1 hK1 => ?_)
  refine at_region ?_
  refine at_v (ov_move rfl rfl) rfl rfl rfl ?_
  refine at_t (ot_call (ks := []) rfl rfl rfl Tryz.call110 rfl (T110 _ _) rfl) rfl rfl rfl ?_
  rintro v0 _ ⟨m0, hp0, rfl⟩
  obtain ⟨rfl, rfl⟩ := hp0
  simp only [List.cons_append, List.nil_append, splice, spliceL]
  refine at_v (ov_move rfl rfl) rfl rfl rfl ?_
  refine at_unwanted (j := 2) rfl rfl rfl rfl ?_
  refine at_unwanted (j := 2) rfl rfl rfl rfl ?_
  refine at_unwanted (j := 2) rfl rfl rfl rfl ?_
  refine at_v (ov_pick_f rfl rfl rfl) rfl rfl rfl ?_
  refine at_v (ov_move rfl rfl) rfl rfl rfl ?_
  refine at_wanted (j := 7) rfl ?_
  refine at_v (ov_move rfl rfl) rfl rfl rfl ?_
  refine at_wanted (j := 7) rfl ?_
  refine at_v (ov_move rfl rfl) rfl rfl rfl ?_
  refine at_wanted (j := 7) rfl ?_
  refine at_v (ov_int rfl rfl rfl rfl) rfl rfl rfl ?_
  refine at_v (ov_pick_f rfl rfl rfl) rfl rfl rfl ?_
  refine at_v (ov_assign rfl rfl) rfl rfl rfl ?_
  refine at_nil ?_
  refine at_normal ?_
  refine hK1 _ _ _ ?_
  refine at_ret ?_
  refine at_end ?_
  refine at_fin (rsV rfl (res_tmp rfl)) ?_
  refine ⟨_, ⟨rfl, rfl⟩, ?_⟩
  exact fun _ s => s.finEq (ks := []) (js := []) rfl rfl rfl
theorem T104 (w0 : World) (x : Int) (h0 : 0 ≤ x) (h1 : x ≤ 12) : Tri Tryz.prog w0 104 [.int .u64 x] [] fun v m => ∃ n : Int, v = .int .i64 n ∧ m = [] := by
  refine tri_of Tryz.func104 rfl rfl fun F => ?_
  simp only [Tryz.ntmps104, argEnv, List.cons_append, List.nil_append]
  refine at_seq_k (fun K0 hK0 => ?_)
  refine at_region ?_
  refine at_v (ov_assign rfl rfl) rfl rfl rfl ?_
  refine at_nil ?_
  refine at_normal ?_
  refine hK0 _ _ _ ?_
  refine at_seq_k (fun K1 hK1 => ?_)
  refine at_seq_k (fun K2 hK2 => ?_)
  refine at_region ?_
  refine at_v (ov_move rfl rfl) rfl rfl rfl ?_
  refine at_v (ov_int rfl rfl rfl rfl) rfl rfl rfl ?_
  refine at_nil ?_
  refine at_normal ?_
  refine hK2 _ _ _ ?_
  refine at_cond_false (congrArg (fun b => some (Value.bool b)) (show _ = false from decide_eq_false (by omega))) ?_
  refine at_skip ?_
  refine at_normal ?_
  refine hK1 _ _ _ ?_
  refine at_seq_k (fun K3 hK3 => ?_)
  refine at_seq_k (fun K4 hK4 => ?_)
  refine at_region ?_
  refine at_v (ov_move rfl rfl) rfl rfl rfl ?_
  refine at_v (ov_int rfl rfl rfl rfl) rfl rfl rfl ?_
  refine at_nil ?_
  refine at_normal ?_
  refine hK4 _ _ _ ?_
  refine at_cond_false (congrArg (fun b => some (Value.bool b)) (show _ = false from decide_eq_false (by omega))) ?_
  refine at_skip ?_
  refine at_normal ?_
  refine hK3 _ _ _ ?_
  refine at_seq_k (fun K5 hK5 => ?_)
  refine at_seq_k (fun K6 hK6 => ?_)
  refine at_region ?_
  refine at_v (ov_move rfl rfl) rfl rfl rfl ?_
  refine at_v (ov_int rfl rfl rfl rfl) rfl rfl rfl ?_
  refine at_nil ?_
  refine at_normal ?_
  refine hK6 _ _ _ ?_
  refine at_cond_false (congrArg (fun b => some (Value.bool b)) (show _ = false from decide_eq_false (by omega))) ?_
  refine at_skip ?_
  refine at_normal ?_
  refine hK5 _ _ _ ?_
  refine at_seq_k (fun K7 hK7 => ?_)
  refine at_region ?_
  refine at_v (ov_move rfl rfl) rfl rfl rfl ?_
  refine at_v (ov_move rfl rfl) rfl rfl rfl ?_
  refine at_v (ov_conv_int rfl rfl Tryz.underlying5 rfl) rfl rfl rfl ?_
  have hw : IntKind.u8.wrap x = x := by
    have : IntKind.u8.wrap x = x % 256 := by simp [IntKind.wrap, IntKind.bits, IntKind.signed]
    omega
  refine at_t (ot_indexStr rfl Tryz.underlying9 rfl rfl (by omega) (Int.lt_of_lt_of_le (b := 256) (by omega) (by decide))) rfl rfl rfl ?_
  rintro _ _ ⟨m, hm0, hm1, rfl, rfl⟩
  refine at_v ((ov_conv_int rfl rfl Tryz.underlying3 rfl).eq (congrArg (Value.int .i64) (inK_i64 (by omega) (by omega)))) rfl rfl rfl ?_
  refine at_v ((ov_int rfl rfl rfl rfl).eq (congrArg (Value.int .i64) (inK_i64 (by omega) (by omega)))) rfl rfl rfl ?_
  refine at_v (ov_assign rfl rfl) rfl rfl rfl ?_
  refine at_nil ?_
  refine at_normal ?_
  refine hK7 _ _ _ ?_
  refine at_ret ?_
  refine at_end ?_
  refine at_fin (rsV rfl (res_tmp rfl)) ?_
  refine ⟨_, ⟨_, rfl, rfl⟩, ?_⟩
  exact fun _ s => s.finEq (ks := []) (js := []) rfl rfl rfl
theorem T92 (w0 : World) (x : Int) (h0 : 0 ≤ x) (h1 : x ≤ 12) : Tri Tryz.prog w0 92 [.int .u64 x] [] fun v m => ∃ n : Int, v = .int .i64 n ∧ m = [] := by
  refine tri_of Tryz.func92 rfl rfl fun F => ?_
  simp only [Tryz.ntmps92, argEnv, List.cons_append, List.nil_append]
  refine at_seq_k (fun K0 hK0 => ?_)
  refine at_region ?_
  refine at_v (ov_assign rfl rfl) rfl rfl rfl ?_
  refine at_nil ?_
  refine at_normal ?_
  refine hK0 _ _ _ ?_
  refine at_seq_k (fun K1 hK1 => ?_)
  refine at_cond_false rfl ?_
  refine at_skip ?_
  refine at_normal ?_
  refine hK1 _ _ _ ?_
  refine at_seq_k (fun K2 hK2 => ?_)
  refine at_region ?_
  refine at_v (ov_move rfl rfl) rfl rfl rfl ?_
  refine at_t (ot_call (ks := []) rfl rfl rfl Tryz.call104 rfl (T104 _ _ (by first | assumption | rfl | omega | decide | (simp; done) | (simp at *; omega)) (by first | assumption | rfl | omega | decide | (simp; done) | (simp at *; omega))) rfl) rfl rfl rfl ?_
  rintro v0 _ ⟨m0, hp0, rfl⟩
  obtain ⟨n0, hp0⟩ := hp0
  obtain ⟨rfl, rfl⟩ := hp0
  simp only [List.cons_append, List.nil_append, splice, spliceL]
  refine at_v (ov_assign rfl rfl) rfl rfl rfl ?_
  refine at_nil ?_
  refine at_normal ?_
  refine hK2 _ _ _ ?_
  refine at_ret ?_
  refine at_end ?_
  refine at_fin (rsV rfl (res_tmp rfl)) ?_
  refine ⟨_, ⟨_, rfl, rfl⟩, ?_⟩
  exact fun _ s => s.finEq (ks := []) (js := []) rfl rfl rfl
/-- T with x put in at place j, and what stands behind. -/
def zs (T : List Int) (x : Int) (rest : List Int) (j : Nat) : List Int := T.take j ++ x :: (T.drop j ++ rest)
theorem zs_len {T : List Int} {x : Int} {rest : List Int} {j : Nat} (h : j ≤ T.length) : (zs T x rest j).length = T.length + 1 + rest.length := by
  simp [zs]; omega
theorem zs_self {T : List Int} {x : Int} {rest : List Int} {j : Nat} (h : j ≤ T.length) : (zs T x rest j)[j]? = some x := by
  unfold zs
  rw [List.getElem?_append_right (by simp; omega)]
  simp [Nat.min_eq_left h]
theorem zs_pred {T : List Int} {x y : Int} {rest : List Int} {q : Nat} (h : T[q]? = some y) : (zs T x rest (q + 1))[q]? = some y := by
  have hlt := (List.getElem?_eq_some_iff.1 h).1
  unfold zs
  rw [List.getElem?_append_left (by simp; omega), List.getElem?_take, if_pos (by omega), h]
theorem zs_swap {T : List Int} {x y : Int} {rest : List Int} {q : Nat} (h : T[q]? = some y) : ((zs T x rest (q + 1)).set (q + 1) y).set q x = zs T x rest q := by
  obtain ⟨hlt, hy⟩ := List.getElem?_eq_some_iff.1 h
  have hl : (T.take (q + 1)).length = q + 1 := by simp; omega
  have hl2 : (T.take q).length = q := by simp; omega
  unfold zs
  rw [List.set_append_right _ _ (by omega), hl, Nat.sub_self, List.set_cons_zero, List.take_add_one, h, List.append_assoc]
  simp only [Option.toList_some, List.singleton_append]
  rw [List.set_append_right _ _ (by omega), hl2, Nat.sub_self, List.set_cons_zero, List.drop_eq_getElem_cons hlt, hy]
  simp
theorem zs_sorted {T : List Int} {x : Int} {j : Nat} (hT : T.Pairwise (· ≤ ·)) (hj : j ≤ T.length) (h1 : ∀ y ∈ T.drop j, x < y) (h2 : ∀ q y, q + 1 = j → T[q]? = some y → y ≤ x) : (T.take j ++ x :: T.drop j).Pairwise (· ≤ ·) := by
  have hT' := hT
  rw [← List.take_append_drop j T] at hT'
  obtain ⟨p1, p2, p3⟩ := List.pairwise_append.1 hT'
  refine List.pairwise_append.2 ⟨p1, List.pairwise_cons.2 ⟨fun y hy => by have := h1 y hy; omega, p2⟩, fun a ha b hb => ?_⟩
  have hax : a ≤ x := by
    obtain ⟨i, hi⟩ := List.getElem?_of_mem ha
    rw [List.getElem?_take] at hi
    split at hi
    · rename_i hij
      have hTi := (List.getElem?_eq_some_iff.1 hi)
      have hjl : j - 1 < T.length := by omega
      have h3 := h2 (j - 1) T[j - 1] (by omega) (List.getElem?_eq_getElem hjl)
      rcases Nat.lt_or_ge i (j - 1) with h4 | h4
      · have := List.pairwise_iff_getElem.1 hT i (j - 1) hTi.1 hjl h4
        rw [hTi.2] at this; omega
      · have h5 : i = j - 1 := by omega
        subst h5
        rw [hTi.2] at h3; exact h3
    · cases hi
  rcases List.mem_cons.1 hb with rfl | hb
  · exact hax
  · have := h1 b hb; omega
theorem zs_perm {T : List Int} {x : Int} {rest : List Int} {j : Nat} : (zs T x rest j).Perm (T ++ x :: rest) := by
  unfold zs
  have h1 : (T.take j ++ x :: (T.drop j ++ rest)).Perm (x :: (T.take j ++ (T.drop j ++ rest))) := List.perm_middle
  rw [← List.append_assoc, List.take_append_drop] at h1
  exact h1.trans List.perm_middle.symm
theorem T94 (w0 : World) {A : Option Addr} {c c' : Nat} {xs : List Int} {N : Nat} (hN : N = xs.length) (h12 : xs.length ≤ 12) :
    Tri Tryz.prog w0 94 [.slice A N c, .int .i64 0, .int .i64 (N : Nat)] [Row wE 3 1 A c' xs] fun v m => ∃ ys : List Int, ys.Perm xs ∧ ys.Pairwise (· ≤ ·) ∧ v = .tuple #[] ∧ m = [Row wE 3 1 A c' ys] := by
  subst hN
  refine tri_of Tryz.func94 rfl rfl fun F => ?_
  simp only [Tryz.ntmps94, argEnv, List.cons_append, List.nil_append]
  cases hxs : xs with
  | nil =>
    refine at_seq_k (fun K0 hK0 => ?_)
    refine at_region ?_
    refine at_v (ov_move rfl rfl) rfl rfl rfl ?_
    refine at_v ((ov_int rfl rfl rfl rfl).eq (congrArg (Value.int .i64) (inK_i64 (by omega) (by omega)))) rfl rfl rfl ?_
    refine at_v (ov_assign rfl rfl) rfl rfl rfl ?_
    refine at_nil ?_
    refine at_normal ?_
    refine hK0 _ _ _ ?_
    refine at_block ?_
    refine at_loopE [10, 11, 12, 15, 7, 16, 17, 18, 19, 20, 21, 22, 23, 24, 25, 26, 27, 28, 29, 30, 33, 34, 35, 36, 37, 38, 39, 40, 41, 42, 43, 44, 45, 46, 47, 48, 31, 32, 13, 14, 6] (fun _ : Unit => True) (fun _ => [(6, .int .i64 1)]) (fun _ m => m) (fun _ => 0) () trivial ⟨rfl, trivial⟩ (fun _ s => s) ?_
    intro _ _
    refine at_seq_k (fun K1 hK1 => ?_)
    refine at_seq_k (fun K2 hK2 => ?_)
    refine at_region ?_
    refine at_v (ov_move rfl rfl) rfl rfl rfl ?_
    refine at_v (ov_move rfl rfl) rfl rfl rfl ?_
    refine at_v (ov_int rfl rfl rfl rfl) rfl rfl rfl ?_
    refine at_nil ?_
    refine at_normal ?_
    refine hK2 _ _ _ ?_
    refine at_cond_false rfl ?_
    refine at_exit ?_
    refine at_then_exit ?_
    refine at_then_exit ?_
    refine at_exit_eq ?_
    refine at_end ?_
    refine at_fin (rs0 rfl) ?_
    refine ⟨_, ⟨[], List.Perm.refl _, List.Pairwise.nil, rfl, rfl⟩, ?_⟩
    exact fun _ s => s.finEq (ks := [0]) (js := []) rfl rfl rfl
  | cons x0 r0 =>
    rw [← hxs]
    have hpos : 0 < xs.length := by rw [hxs]; simp
    refine at_rowSome 0 rfl (by rw [hxs]; simp) fun hsome => ?_
    refine at_seq_k (fun K0 hK0 => ?_)
    refine at_region ?_
    refine at_v (ov_move rfl rfl) rfl rfl rfl ?_
    refine at_v ((ov_int rfl rfl rfl rfl).eq (congrArg (Value.int .i64) (inK_i64 (by omega) (by omega)))) rfl rfl rfl ?_
    refine at_v (ov_assign rfl rfl) rfl rfl rfl ?_
    refine at_nil ?_
    refine at_normal ?_
    refine hK0 _ _ _ ?_
    refine at_block ?_
    refine at_loopE [10, 11, 12, 15, 7, 16, 17, 18, 19, 20, 21, 22, 23, 24, 25, 26, 27, 28, 29, 30, 33, 34, 35, 36, 37, 38, 39, 40, 41, 42, 43, 44, 45, 46, 47, 48, 31, 32, 13, 14, 6] (ι := Nat × List Int) (fun q => q.2.Perm xs ∧ q.1 < xs.length ∧ (q.2.take (q.1 + 1)).Pairwise (· ≤ ·)) (fun q => [(6, .int .i64 ((q.1 + 1 : Nat) : Int))]) (fun q m => setAt 0 (Row wE 3 1 A c' q.2) m) (fun q => xs.length - q.1) (0, xs) ⟨List.Perm.refl _, hpos, by rw [hxs]; simp⟩ ⟨rfl, trivial⟩ (fun _ s => s) ?_
    rintro ⟨i, ys⟩ ⟨hperm, hil, hsort⟩
    simp only at hperm hil hsort
    simp only [setAt]
    have hly := hperm.length_eq
    refine at_seq_k (fun K1 hK1 => ?_)
    refine at_seq_k (fun K2 hK2 => ?_)
    refine at_region ?_
    refine at_v (ov_move rfl rfl) rfl rfl rfl ?_
    refine at_v (ov_move rfl rfl) rfl rfl rfl ?_
    refine at_v (ov_int rfl rfl rfl rfl) rfl rfl rfl ?_
    refine at_nil ?_
    refine at_normal ?_
    refine hK2 _ _ _ ?_
    refine at_cond rfl (fun hc => ?_) (fun hc => ?_)
    · have hlt : i + 1 < xs.length := by have := of_decide_eq_true hc
                                         omega
      obtain ⟨T, hT⟩ : ∃ T, ys.take (i + 1) = T := ⟨_, rfl⟩
      obtain ⟨rest, hrest⟩ : ∃ rest, ys.drop (i + 2) = rest := ⟨_, rfl⟩
      have hTl : T.length = i + 1 := by rw [← hT]; simp; omega
      have hget : ys[i + 1]? = some ys[i + 1] := List.getElem?_eq_getElem (by omega)
      obtain ⟨x, hx⟩ : ∃ x, ys[i + 1] = x := ⟨_, rfl⟩
      rw [hx] at hget
      have hys : ys = zs T x rest (i + 1) := by
        unfold zs
        rw [← hTl, List.take_length, List.drop_length, ← hT, ← hrest, List.nil_append]
        conv => lhs; rw [← List.take_append_drop (i + 1) ys]
        rw [List.drop_eq_getElem_cons (show i + 1 < ys.length by omega), hx]
      rw [hT] at hsort
      rw [hys]
      have hrl : T.length + 1 + rest.length = xs.length := by rw [← hly, hys, zs_len (by omega)]
      refine at_skip ?_
      refine at_normal ?_
      refine hK1 _ _ _ ?_
      refine at_seq_k (fun K3 hK3 => ?_)
      refine at_block ?_
      refine at_seq_k (fun K4 hK4 => ?_)
      refine at_region ?_
      refine at_v (ov_move rfl rfl) rfl rfl rfl ?_
      refine at_v (ov_assign rfl rfl) rfl rfl rfl ?_
      refine at_nil ?_
      refine at_normal ?_
      refine hK4 _ _ _ ?_
      refine at_block ?_
      refine at_loopE [16, 17, 18, 19, 20, 21, 22, 23, 24, 25, 26, 27, 28, 29, 30, 33, 34, 35, 36, 37, 38, 39, 40, 41, 42, 43, 44, 45, 46, 47, 48, 31, 32, 7] (fun j => j ≤ i + 1 ∧ ∀ y ∈ T.drop j, x < y) (fun j => [(7, .int .i64 (j : Nat))]) (fun j m => setAt 0 (Row wE 3 1 A c' (zs T x rest j)) m) (fun j => j) (i + 1) ⟨Nat.le_refl _, by rw [← hTl, List.drop_length]; intro y h; cases h⟩ ⟨rfl, trivial⟩ (fun _ s => s) ?_
      rintro j ⟨hj, hbig⟩
      simp only [setAt]
      have hfin : (∀ q y, q + 1 = j → T[q]? = some y → y ≤ x) → (zs T x rest j).Perm xs ∧ ((zs T x rest j).take (i + 1 + 1)).Pairwise (· ≤ ·) := by
        intro h2
        refine ⟨zs_perm.trans (zs_perm.symm.trans (hys ▸ hperm)), ?_⟩
        have e : (zs T x rest j).take (i + 1 + 1) = T.take j ++ x :: T.drop j := by
          have : zs T x rest j = (T.take j ++ x :: T.drop j) ++ rest := by simp [zs]
          rw [this, List.take_append_of_le_length (by simp; omega), List.take_of_length_le (by simp; omega)]
        rw [e]
        exact zs_sorted hsort (by omega) hbig h2
      have hlz := zs_len (T := T) (x := x) (rest := rest) (j := j) (by omega)
      have hga := zs_self (T := T) (x := x) (rest := rest) (j := j) (by omega)
      cases j with
      | zero =>
        obtain ⟨hp2, hs2⟩ := hfin (fun q y h => by omega)
        refine at_seq_k (fun K5 hK5 => ?_)
        refine at_seq_k (fun K6 hK6 => ?_)
        refine at_draw _ [] 1000 [(2, 0), (2, 1), (2, 2), (2, 3), (2, 4), (2, 5), (1, 6), (1, 7), (2, 8), (2, 9), (2, 10), (1, 11), (1, 12), (0, 13), (2, 14)] (by kernel_rfl) (by kernel_rfl) (fun _ s => (s.pulls (ks := []) rfl).left) ?_
        refine aq_p (ov_move rfl rfl) rfl rfl rfl ?_
        refine aq_p (ov_move rfl rfl) rfl rfl rfl ?_
        refine aq_p (ov_int rfl rfl rfl rfl) rfl rfl rfl ?_
        refine aq_p (ov_move rfl rfl) rfl rfl rfl ?_
        refine aq_unwanted (j := 3) rfl rfl rfl rfl rfl ?_
        refine aq_unwanted (j := 3) rfl rfl rfl rfl rfl ?_
        refine aq_unwanted (j := 3) rfl rfl rfl rfl rfl ?_
        refine aq_unwanted (j := 3) rfl rfl rfl rfl rfl ?_
        refine aq_unwanted (j := 3) rfl rfl rfl rfl rfl ?_
        refine aq_unwanted (j := 3) rfl rfl rfl rfl rfl ?_
        refine aq_unwanted (j := 3) rfl rfl rfl rfl rfl ?_
        refine aq_unwanted (j := 3) rfl rfl rfl rfl rfl ?_
        refine aq_unwanted (j := 3) rfl rfl rfl rfl rfl ?_
        refine aq_unwanted (j := 3) rfl rfl rfl rfl rfl ?_
        refine aq_p (ov_pick_f rfl rfl rfl) rfl rfl rfl ?_
        refine aq_nil ?_
        refine at_normal ?_
        refine hK6 _ _ _ ?_
        refine at_cond_false rfl ?_
        refine at_exit ?_
        refine at_then_exit ?_
        refine at_then_exit ?_
        refine at_exit_eq ?_
        refine at_inb_normal ?_
        refine at_normal ?_
        refine hK3 _ _ _ ?_
        refine at_region ?_
        refine at_v (ov_move rfl rfl) rfl rfl rfl ?_
        refine at_v ((ov_int rfl rfl rfl rfl).eq (congrArg (Value.int .i64) (inK_i64 (by omega) (by omega)))) rfl rfl rfl ?_
        refine at_v (ov_assign rfl rfl) rfl rfl rfl ?_
        refine at_nil ?_
        refine at_normal ?_
        refine at_roundF (i + 1, zs T x rest 0) ⟨hp2, hlt, hs2⟩ (by simp only; omega) ⟨look_eq rfl (congrArg (Value.int .i64) (by simp only; omega)), trivial⟩ rfl ?_
        exact fun _ s => s.finEq (ks := [0]) (js := []) rfl rfl rfl
      | succ q =>
        have hTq : T[q]? = some T[q] := List.getElem?_eq_getElem (by omega)
        have hgb := zs_pred (x := x) (rest := rest) hTq
        have hgb : (zs T x rest (q + 1))[((((q + 1 : Nat) : Int) - 1).toNat)]? = some T[q] := by
          rw [show (((q + 1 : Nat) : Int) - 1).toNat = q by omega]; exact hgb
        refine at_seq_k (fun K5 hK5 => ?_)
        refine at_seq_k (fun K6 hK6 => ?_)
        refine at_draw _ [] 1000 [(2, 0), (2, 1), (2, 2), (2, 3), (2, 4), (2, 5), (1, 6), (1, 7), (2, 8), (2, 9), (2, 10), (1, 11), (1, 12), (0, 13), (2, 14)] (by kernel_rfl) (by kernel_rfl) (fun _ s => (s.pulls (ks := [0]) rfl).left) ?_
        refine aq_p (ov_move rfl rfl) rfl rfl rfl ?_
        refine aq_p (ov_move rfl rfl) rfl rfl rfl ?_
        refine aq_p (ov_int rfl rfl rfl rfl) rfl rfl rfl ?_
        refine aq_p (ov_move rfl rfl) rfl rfl rfl ?_
        refine at_reval 19 (.bool true) rfl (congrArg Value.bool (decide_eq_true (by omega))) ?_
        refine aq_wanted (j := 3) rfl ?_
        refine aq_p (ov_move rfl rfl) rfl rfl rfl ?_
        refine aq_wanted (j := 3) rfl ?_
        refine aq_p (ov_move rfl rfl) rfl rfl rfl ?_
        refine aq_wanted (j := 3) rfl ?_
        refine aq_v (ov_indexE (size := 1) (by assumption) rfl Tryz.underlying45 rfl rfl rfl (Int.toNat_of_nonneg (by omega)).symm (by omega)) rfl rfl rfl ?_
        refine aq_wanted (j := 3) rfl ?_
        refine aq_v (ov_loadRd0 (fun _ s => s.rd (k := 0) rfl) rfl rfl rfl hga rfl) rfl rfl rfl ?_
        refine aq_wanted (j := 3) rfl ?_
        refine aq_p (ov_move rfl rfl) rfl rfl rfl ?_
        refine aq_wanted (j := 3) rfl ?_
        refine aq_p (ov_move rfl rfl) rfl rfl rfl ?_
        refine aq_wanted (j := 3) rfl ?_
        refine aq_p ((ov_int rfl rfl rfl rfl).eq (congrArg (Value.int .i64) (inK_i64 (by omega) (by omega)))) rfl rfl rfl ?_
        refine aq_wanted (j := 3) rfl ?_
        refine aq_v (ov_indexE (size := 1) (by assumption) rfl Tryz.underlying45 rfl rfl rfl (Int.toNat_of_nonneg (by omega)).symm (by omega)) rfl rfl rfl ?_
        refine aq_wanted (j := 3) rfl ?_
        refine aq_v (ov_loadRd0 (fun _ s => s.rd (k := 0) rfl) rfl rfl rfl hgb rfl) rfl rfl rfl ?_
        refine aq_wanted (j := 3) rfl ?_
        refine aq_t (ot_call (ks := []) rfl rfl rfl Tryz.call100 rfl (T100 _ _ _) rfl) rfl rfl rfl ?_
        rintro v0 _ ⟨m0, hp0, rfl⟩
        obtain ⟨rfl, rfl⟩ := hp0
        simp only [List.cons_append, List.nil_append, splice, spliceL]
        refine ⟨fun _ s => (s.pulls (ks := [0]) rfl).left, ?_⟩
        refine aq_p (ov_pick_t rfl rfl rfl) rfl rfl rfl ?_
        refine aq_nil ?_
        refine at_normal ?_
        refine hK6 _ _ _ ?_
        refine at_cond rfl (fun hd => ?_) (fun hd => ?_)
        · have hd2 : x < T[q] := of_decide_eq_true hd
          refine at_skip ?_
          refine at_normal ?_
          refine hK5 _ _ _ ?_
          refine at_seq_k (fun K7 hK7 => ?_)
          refine at_block ?_
          refine at_draw _ [] 15 [(2, 0), (2, 1), (2, 2), (2, 3), (2, 4), (2, 5), (2, 6), (2, 7), (2, 8), (1, 9), (2, 10), (2, 11), (2, 12), (1, 13), (2, 14), (3, 15), (1, 16), (0, 17)] (by kernel_rfl) (by kernel_rfl) (fun _ s => (s.pulls (ks := [0]) rfl).left) ?_
          refine aq_p (ov_move rfl rfl) rfl rfl rfl ?_
          refine aq_p (ov_move rfl rfl) rfl rfl rfl ?_
          refine aq_p (ov_move rfl rfl) rfl rfl rfl ?_
          refine aq_p (ov_move rfl rfl) rfl rfl rfl ?_
          refine aq_p ((ov_int rfl rfl rfl rfl).eq (congrArg (Value.int .i64) (inK_i64 (by omega) (by omega)))) rfl rfl rfl ?_
          refine aq_p (ov_move rfl rfl) rfl rfl rfl ?_
          refine aq_p (ov_move rfl rfl) rfl rfl rfl ?_
          refine aq_p ((ov_int rfl rfl rfl rfl).eq (congrArg (Value.int .i64) (inK_i64 (by omega) (by omega)))) rfl rfl rfl ?_
          refine aq_p (ov_indexE (size := 1) (by assumption) rfl Tryz.underlying45 rfl rfl rfl (Int.toNat_of_nonneg (by omega)).symm (by omega)) rfl rfl rfl ?_
          refine aq_v (ov_loadRd0 (fun _ s => s.rd (k := 0) rfl) rfl rfl rfl hgb rfl) rfl rfl rfl ?_
          refine aq_p (ov_move rfl rfl) rfl rfl rfl ?_
          refine aq_p (ov_move rfl rfl) rfl rfl rfl ?_
          refine aq_p (ov_indexE (size := 1) (by assumption) rfl Tryz.underlying45 rfl rfl rfl (Int.toNat_of_nonneg (by omega)).symm (by omega)) rfl rfl rfl ?_
          refine aq_v (ov_loadRd0 (fun _ s => s.rd (k := 0) rfl) rfl rfl rfl hga rfl) rfl rfl rfl ?_
          refine aq_p (ov_indexE (size := 1) (by assumption) rfl Tryz.underlying45 rfl rfl rfl (Int.toNat_of_nonneg (by omega)).symm (by omega)) rfl rfl rfl ?_
          refine aq_b0 (ot_storeRow0 (k := 0) (i := q + 1) (u' := T[q]) rfl rfl rfl rfl hga rfl (Nat.le_refl _) rfl rfl) rfl rfl ?_
          rintro _ _ ⟨_, rfl⟩
          refine ⟨fun _ s => s.bare, ?_⟩
          simp only [setAt]
          have hgc : ((zs T x rest (q + 1)).set (q + 1) T[q])[((((q + 1 : Nat) : Int) - 1).toNat)]? = some T[q] := by
            rw [List.getElem?_set, if_neg (by omega)]; exact hgb
          refine aq_v (ov_indexE (size := 1) (by assumption) rfl Tryz.underlying45 rfl rfl rfl (Int.toNat_of_nonneg (by omega)).symm (by omega)) rfl rfl rfl ?_
          refine aq_t0 (ot_storeRow0 (k := 0) (u' := x) rfl rfl rfl rfl hgc rfl (Nat.le_refl _) rfl rfl) rfl rfl ?_
          rintro _ _ ⟨_, rfl⟩
          refine ⟨fun _ s => s.bare, ?_⟩
          simp only [setAt]
          rw [show (((q + 1 : Nat) : Int) - 1).toNat = q by omega, zs_swap hTq]
          refine aq_nil ?_
          refine at_inb_normal ?_
          refine at_normal ?_
          refine hK7 _ _ _ ?_
          refine at_region ?_
          refine at_v (ov_move rfl rfl) rfl rfl rfl ?_
          refine at_v ((ov_int rfl rfl rfl rfl).eq (congrArg (Value.int .i64) (inK_i64 (by omega) (by omega)))) rfl rfl rfl ?_
          refine at_v (ov_assign rfl rfl) rfl rfl rfl ?_
          refine at_nil ?_
          refine at_normal ?_
          refine at_roundF q ⟨by omega, fun y hy => ?_⟩ (by omega) ⟨look_eq rfl (congrArg (Value.int .i64) (by omega)), trivial⟩ rfl ?_
          · rw [List.drop_eq_getElem_cons (show q < T.length by omega)] at hy
            rcases List.mem_cons.1 hy with rfl | hy
            · exact hd2
            · exact hbig y hy
          · exact fun _ s => s.finEq (ks := [0]) (js := []) rfl rfl rfl
        · have hd2 : ¬ x < T[q] := of_decide_eq_false hd
          obtain ⟨hp2, hs2⟩ := hfin (fun q2 y h1 h2 => by
            have : q2 = q := by omega
            subst this
            rw [hTq] at h2; simp only [Option.some.injEq] at h2; omega)
          refine at_exit ?_
          refine at_then_exit ?_
          refine at_then_exit ?_
          refine at_exit_eq ?_
          refine at_inb_normal ?_
          refine at_normal ?_
          refine hK3 _ _ _ ?_
          refine at_region ?_
          refine at_v (ov_move rfl rfl) rfl rfl rfl ?_
          refine at_v ((ov_int rfl rfl rfl rfl).eq (congrArg (Value.int .i64) (inK_i64 (by omega) (by omega)))) rfl rfl rfl ?_
          refine at_v (ov_assign rfl rfl) rfl rfl rfl ?_
          refine at_nil ?_
          refine at_normal ?_
          refine at_roundF (i + 1, zs T x rest (q + 1)) ⟨hp2, hlt, hs2⟩ (by simp only; omega) ⟨look_eq rfl (congrArg (Value.int .i64) (by simp only; omega)), trivial⟩ rfl ?_
          exact fun _ s => s.finEq (ks := [0]) (js := []) rfl rfl rfl
    · have hk2 : i + 1 = xs.length := by
        have : ¬ ((i + 1 : Nat) : Int) < (xs.length : Nat) := of_decide_eq_false hc
        omega
      rw [List.take_of_length_le (by omega)] at hsort
      refine at_exit ?_
      refine at_then_exit ?_
      refine at_then_exit ?_
      refine at_exit_eq ?_
      refine at_end ?_
      refine at_fin (rs0 rfl) ?_
      refine ⟨_, ⟨ys, hperm, hsort, rfl, rfl⟩, ?_⟩
      exact fun _ s => s.finEq (ks := [0]) (js := []) rfl rfl rfl
theorem T91 (w0 : World) {A : Option Addr} {c c' : Nat} {xs : List Int} (lim : Int) (h12 : xs.length ≤ 12) :
    Tri Tryz.prog w0 91 [.slice A xs.length c, .int .i64 0, .int .i64 (xs.length : Nat), .int .i64 lim] [Row wE 3 1 A c' xs] fun v m => ∃ ys : List Int, ys.Perm xs ∧ ys.Pairwise (· ≤ ·) ∧ v = .tuple #[] ∧ m = [Row wE 3 1 A c' ys] := by
  refine tri_of Tryz.func91 rfl rfl fun F => ?_
  simp only [Tryz.ntmps91, argEnv, List.cons_append, List.nil_append]
  refine at_seq_k (fun K0 hK0 => ?_)
  refine at_region ?_
  refine at_v (ov_assign rfl rfl) rfl rfl rfl ?_
  refine at_nil ?_
  refine at_normal ?_
  refine hK0 _ _ _ ?_
  refine at_seq_k (fun K1 hK1 => ?_)
  refine at_region ?_
  refine at_v (ov_assign rfl rfl) rfl rfl rfl ?_
  refine at_nil ?_
  refine at_normal ?_
  refine hK1 _ _ _ ?_
  refine at_block ?_
  refine at_loopE [19, 20, 21, 10, 22, 23, 24, 25, 26, 27, 28, 29, 30, 31, 32, 33, 34, 35, 36, 37, 38, 39, 40, 41, 3, 43, 44, 45, 46, 42, 47, 48, 11, 12, 49, 50, 51, 52, 53, 54, 55, 56, 57, 58, 59, 60, 61, 62, 63, 64, 65, 66, 67, 68, 69, 70, 71, 72, 73, 74, 75, 76, 77, 78, 79, 80, 81, 82, 83, 84, 85, 86, 87, 88, 89, 90, 91, 92, 13, 93, 1, 95, 96, 97, 98, 99, 94, 100, 101, 14, 15, 102, 9, 103, 104, 105, 106, 107, 108, 16, 17, 109, 110, 18, 111, 112, 113, 114, 115, 116, 8, 117, 118, 119, 120, 121, 122, 123, 124, 125, 126, 127, 128, 129, 130, 131, 132, 133, 2, 1, 2, 3] (fun _ : Unit => True) (fun _ => [(1, .int .i64 0), (2, .int .i64 (xs.length : Nat)), (3, .int .i64 lim)]) (fun _ m => m) (fun _ => 0) () trivial ⟨rfl, rfl, rfl, trivial⟩ (fun _ s => s) ?_
  intro _ _
  refine at_block ?_
  refine at_seq_k (fun K2 hK2 => ?_)
  refine at_region ?_
  refine at_v (ov_move rfl rfl) rfl rfl rfl ?_
  refine at_v (ov_move rfl rfl) rfl rfl rfl ?_
  refine at_v ((ov_int rfl rfl rfl rfl).eq (congrArg (Value.int .i64) (inK_i64 (by omega) (by omega)))) rfl rfl rfl ?_
  refine at_v (ov_assign rfl rfl) rfl rfl rfl ?_
  refine at_nil ?_
  refine at_normal ?_
  refine hK2 _ _ _ ?_
  refine at_seq_k (fun K3 hK3 => ?_)
  refine at_seq_k (fun K4 hK4 => ?_)
  refine at_region ?_
  refine at_v (ov_move rfl rfl) rfl rfl rfl ?_
  refine at_v (ov_int rfl rfl rfl rfl) rfl rfl rfl ?_
  refine at_nil ?_
  refine at_normal ?_
  refine hK4 _ _ _ ?_
  refine at_cond_true (congrArg (fun b => some (Value.bool b)) (show _ = true from decide_eq_true (by omega))) ?_
  refine at_seq_k (fun K5 hK5 => ?_)
  refine at_region ?_
  refine at_v (ov_move rfl rfl) rfl rfl rfl ?_
  refine at_v (ov_move rfl rfl) rfl rfl rfl ?_
  refine at_v (ov_move rfl rfl) rfl rfl rfl ?_
  refine at_t (ot_call (ks := [0]) rfl rfl rfl Tryz.call94 rfl (T94 _ (by first | assumption | rfl | omega | decide | (simp; done) | (simp at *; omega)) (by first | assumption | rfl | omega | decide | (simp; done) | (simp at *; omega))) rfl) rfl rfl rfl ?_
  rintro v0 _ ⟨m0, hp0, rfl⟩
  obtain ⟨ys0, hp0⟩ := hp0
  obtain ⟨hq0, hp0⟩ := hp0
  obtain ⟨hq1, hp0⟩ := hp0
  obtain ⟨rfl, rfl⟩ := hp0
  simp only [List.cons_append, List.nil_append, splice, spliceL]
  refine at_nil ?_
  refine at_normal ?_
  refine hK5 _ _ _ ?_
  refine at_ret ?_
  refine at_then_ret ?_
  refine at_inb_ret ?_
  refine at_then_ret ?_
  refine at_inb_ret ?_
  refine at_end ?_
  refine at_fin (rs0 rfl) ?_
  refine ⟨_, ⟨ys0, hq0, hq1, rfl, rfl⟩, ?_⟩
  exact fun _ s => s.finEq (ks := [0]) (js := []) rfl rfl rfl
theorem T84 (w0 : World) {A : Option Addr} {c c' : Nat} {xs : List Int} (h12 : xs.length ≤ 12) :
    Tri Tryz.prog w0 84 [.slice A xs.length c] [Row wE 3 1 A c' xs] fun v m => ∃ ys : List Int, ys.Perm xs ∧ ys.Pairwise (· ≤ ·) ∧ v = .tuple #[] ∧ m = [Row wE 3 1 A c' ys] := by
  refine tri_of Tryz.func84 rfl rfl fun F => ?_
  simp only [Tryz.ntmps84, argEnv, List.cons_append, List.nil_append]
  refine at_seq_k (fun K0 hK0 => ?_)
  refine at_region ?_
  refine at_v (ov_move rfl rfl) rfl rfl rfl ?_
  refine at_v (ov_len_slice rfl Tryz.underlying45 rfl) rfl rfl rfl ?_
  refine at_v (ov_assign rfl rfl) rfl rfl rfl ?_
  refine at_nil ?_
  refine at_normal ?_
  refine hK0 _ _ _ ?_
  refine at_region ?_
  refine at_v (ov_move rfl rfl) rfl rfl rfl ?_
  refine at_v (ov_move rfl rfl) rfl rfl rfl ?_
  refine at_v (ov_move rfl rfl) rfl rfl rfl ?_
  refine at_v ((ov_conv_int rfl rfl Tryz.underlying133 rfl).eq (congrArg (Value.int .u64) (inK_u64 (by omega) (by omega)))) rfl rfl rfl ?_
  refine at_t (ot_call (ks := []) rfl rfl rfl Tryz.call92 rfl (T92 _ _ (by first | assumption | rfl | omega | decide | (simp; done) | (simp at *; omega)) (by first | assumption | rfl | omega | decide | (simp; done) | (simp at *; omega))) rfl) rfl rfl rfl ?_
  rintro v0 _ ⟨m0, hp0, rfl⟩
  obtain ⟨n0, hp0⟩ := hp0
  obtain ⟨rfl, rfl⟩ := hp0
  simp only [List.cons_append, List.nil_append, splice, spliceL]
  refine at_t (ot_call (ks := [0]) rfl rfl rfl Tryz.call91 rfl (T91 _ _ (by first | assumption | rfl | omega | decide | (simp; done) | (simp at *; omega))) rfl) rfl rfl rfl ?_
  rintro v0 _ ⟨m0, hp0, rfl⟩
  obtain ⟨ys0, hp0⟩ := hp0
  obtain ⟨hq0, hp0⟩ := hp0
  obtain ⟨hq1, hp0⟩ := hp0
  obtain ⟨rfl, rfl⟩ := hp0
  simp only [List.cons_append, List.nil_append, splice, spliceL]
  refine at_nil ?_
  refine at_end ?_
  refine at_fin (rs0 rfl) ?_
  refine ⟨_, ⟨ys0, hq0, hq1, rfl, rfl⟩, ?_⟩
  exact fun _ s => s.finEq (ks := [0]) (js := []) rfl rfl rfl
theorem keyAt_all (ids : List Int) : (List.range ids.length).map (keyAt ids) = ids := by
  refine List.ext_getElem? fun q => ?_
  rw [List.getElem?_map]
  rcases Nat.lt_or_ge q ids.length with h | h
  · rw [List.getElem?_range h, List.getElem?_eq_getElem h]; simp [keyAt, List.getElem?_eq_getElem h]
  · rw [List.getElem?_eq_none (by simpa using h), List.getElem?_eq_none h]; rfl
theorem sorted_unique : ∀ {xs ys : List Int}, xs.Perm ys → xs.Pairwise (· ≤ ·) → ys.Pairwise (· ≤ ·) → xs = ys := by
  intro xs ys h h1 h2
  exact List.Perm.eq_of_pairwise (fun a b _ _ h3 h4 => by omega) h1 h2 h
theorem T70 (w0 : World) {b mb : Nat} {ids : List Int} {kvs : List (Value × Value)} (hkv : kvs.map (·.1) = ids.map (fun x => Value.int .i64 x)) (h6 : ids.length ≤ 6) (hs : ids.Pairwise (· < ·)) :
    Tri Tryz.prog w0 70 [.func (.func 85) #[] #[ptrTo b]] [cl b #[.map (some mb)] 65, MapA KI mb kvs] fun v m => ∃ A c, v = .slice A ids.length c ∧ m = [Row wE 3 1 A c ids, MapA KI mb kvs] := by
  have hsort : ∀ told : List Nat, told.Perm (List.range ids.length) → ∀ ys : List Int, ys.Perm (told.map (keyAt ids)) → ys.Pairwise (· ≤ ·) → ys = ids := by
    intro told h1 ys h2 h3
    refine sorted_unique (h2.trans ?_) h3 (hs.imp fun h => by omega)
    have := h1.map (keyAt ids)
    rwa [keyAt_all] at this
  refine tri_of Tryz.func70 rfl rfl fun F => ?_
  simp only [Tryz.ntmps70, argEnv, List.cons_append, List.nil_append]
  refine at_seq_k (fun K0 hK0 => ?_)
  refine at_region ?_
  refine at_v (ov_assign rfl rfl) rfl rfl rfl ?_
  refine at_nil ?_
  refine at_normal ?_
  refine hK0 _ _ _ ?_
  refine at_seq_k (fun K1 hK1 => ?_)
  refine at_region ?_
  refine at_v (ov_move rfl rfl) rfl rfl rfl ?_
  refine at_t (ot_call (ks := [0, 0]) rfl rfl rfl Tryz.call83 rfl (T83 _ (by first | assumption | rfl | omega | decide | (simp; done) | (simp at *; omega)) (by first | assumption | rfl | omega | decide | (simp; done) | (simp at *; omega))) rfl) rfl rfl rfl ?_
  rintro v0 _ ⟨m0, hp0, rfl⟩
  obtain ⟨told0, hp0⟩ := hp0
  obtain ⟨A0, hp0⟩ := hp0
  obtain ⟨c0, hp0⟩ := hp0
  obtain ⟨hq0, hp0⟩ := hp0
  obtain ⟨rfl, rfl⟩ := hp0
  simp only [List.cons_append, List.nil_append, splice, spliceL]
  refine at_v (ov_assign rfl rfl) rfl rfl rfl ?_
  refine at_nil ?_
  refine at_normal ?_
  refine hK1 _ _ _ ?_
  refine at_seq_k (fun K2 hK2 => ?_)
  refine at_region ?_
  refine at_v (ov_move rfl rfl) rfl rfl rfl ?_
  have hl12 : (told0.map (keyAt ids)).length ≤ 12 := by
    have := hq0.length_eq
    simp at this ⊢; omega
  refine at_t (ot_call (ks := [0]) rfl rfl rfl Tryz.call84 rfl (T84 _ (by first | assumption | rfl | omega | decide | (simp; done) | (simp at *; omega))) rfl) rfl rfl rfl ?_
  rintro v0 _ ⟨m0, hp0, rfl⟩
  obtain ⟨ys0, hp0⟩ := hp0
  obtain ⟨hq1, hp0⟩ := hp0
  obtain ⟨hq2, hp0⟩ := hp0
  obtain ⟨rfl, rfl⟩ := hp0
  simp only [List.cons_append, List.nil_append, splice, spliceL]
  refine at_nil ?_
  refine at_normal ?_
  refine hK2 _ _ _ ?_
  refine at_seq_k (fun K3 hK3 => ?_)
  refine at_region ?_
  refine at_v (ov_move rfl rfl) rfl rfl rfl ?_
  refine at_v (ov_assign rfl rfl) rfl rfl rfl ?_
  refine at_nil ?_
  refine at_normal ?_
  refine hK3 _ _ _ ?_
  refine at_ret ?_
  refine at_end ?_
  have hlen : (told0.map (keyAt ids)).length = ids.length := by
    have := hq0.length_eq
    simp at this ⊢; omega
  have hys := hsort told0 hq0 ys0 hq1 hq2
  rw [hlen]
  subst hys
  refine at_fin (rsV rfl (res_tmp rfl)) ?_
  refine ⟨_, ⟨A0, c0, rfl, rfl⟩, ?_⟩
  exact fun _ s => s.finEq (ks := [0, 0]) (js := []) rfl rfl rfl
