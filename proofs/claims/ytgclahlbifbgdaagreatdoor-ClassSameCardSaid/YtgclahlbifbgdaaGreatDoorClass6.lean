/- Package class: slices.DeleteFunc, walked. -/
import Derived.Test.YtgclahlbifbgdaaGreatDoorProg
import Derived.Test.YtgclahlbifbgdaaGreatDoorClass5
import Derived.Test.YtgclahlbifbgdaaGreatDoorSLStr
import Derived.KernelRfl
import Derived.Test.YtgclahlbifbgdaaGreatDoorSLClear
set_option linter.unusedSimpArgs false
set_option linter.unusedVariables false
set_option maxRecDepth 100000
set_option maxHeartbeats 4000000
namespace Go.Proofs.YtgclahlbifbgdaaGreatDoor
open Go Go.Proofs.YtgclahlbifbgdaaGreatDoor.SL Go.RowKit
theorem T45b (w0 : World) {A : Option Addr} {c c' : Nat} {l : List Tok} (hm : l.length ≤ 10000) : Tri Tryz.prog w0 45 [.slice A l.length c, .func (.func 25) #[] #[]] [Row tE 37 2 A c' l] fun v m => v = .int .i64 (firstB (fun t => decide (t.1 = 5)) l) ∧ m = [Row tE 37 2 A c' l] :=
  (Tri.of_all fun w st => T45a w (st.rd (k := 0) rfl) hm).post fun v m ⟨m', ⟨h1, h2⟩, h3⟩ => ⟨h1, by rw [h3, h2]; rfl⟩
theorem first_of {p : Tok → Bool} : ∀ {l : List Tok}, (¬ ∀ x ∈ l, p x = false) → ∃ i x, l[i]? = some x ∧ p x = true ∧ ∀ y ∈ l.take i, p y = false
  | [], h => absurd (fun x hx => by cases hx) h
  | a :: l, h => by
    cases ha : p a with
    | true => exact ⟨0, a, rfl, ha, fun y hy => by simp at hy⟩
    | false =>
      obtain ⟨i, y, h1, h2, h3⟩ := first_of (p := p) (l := l) (fun h2 => h fun x hx => by
        rcases List.mem_cons.1 hx with rfl | hx
        · exact ha
        · exact h2 x hx)
      refine ⟨i + 1, y, by simpa using h1, h2, fun z hz => ?_⟩
      rw [List.take_succ_cons] at hz
      rcases List.mem_cons.1 hz with rfl | hz
      · exact ha
      · exact h3 z hz
theorem T24 (w0 : World) {A : Option Addr} {c : Nat} {l : List Tok} (hm : l.length ≤ 10000) : Tri Tryz.prog w0 24 [.slice A l.length c, .func (.func 25) #[] #[]] [Row tE 37 2 A c l] fun v m => v = .slice A (noHints l).length c ∧ m = [Row tE 37 2 A c (noHints l)] := by
  refine tri_of Tryz.func24 rfl rfl fun F => ?_
  simp only [Tryz.ntmps24, argEnv, List.cons_append, List.nil_append]
  refine at_rowLen 0 rfl (fun hle hcm => ?_)
  by_cases hany : ∀ x ∈ l, decide (x.1 = 5) = false
  · have hf := firstB_none hany
    have hI := T45b w0 (A := A) (c := c) (c' := c) hm
    rw [hf] at hI
    have e : noHints l = l := by
      unfold noHints
      rw [List.filter_eq_self]
      intro x hx
      rw [hany x hx]; rfl
    rw [e]
    refine at_seq_k (fun K0 hK0 => ?_)
    refine at_region ?_
    refine at_v (ov_assign rfl rfl) rfl rfl rfl ?_
    refine at_nil ?_
    refine at_normal ?_
    refine hK0 _ _ _ ?_
    refine at_seq_k (fun K1 hK1 => ?_)
    refine at_region ?_
    refine at_v (ov_move rfl rfl) rfl rfl rfl ?_
    refine at_v (ov_move rfl rfl) rfl rfl rfl ?_
    refine at_t (ot_call (ks := [0]) rfl rfl rfl Tryz.call45 rfl (hI ) rfl) rfl rfl rfl ?_
    rintro v0 _ ⟨m0, hp0, rfl⟩
    obtain ⟨rfl, rfl⟩ := hp0
    simp only [List.cons_append, List.nil_append, splice, spliceL]
    refine at_v (ov_assign rfl rfl) rfl rfl rfl ?_
    refine at_nil ?_
    refine at_normal ?_
    refine hK1 _ _ _ ?_
    refine at_seq_k (fun K2 hK2 => ?_)
    refine at_seq_k (fun K3 hK3 => ?_)
    refine at_region ?_
    refine at_v (ov_move rfl rfl) rfl rfl rfl ?_
    refine at_v (ov_int rfl rfl rfl rfl) rfl rfl rfl ?_
    refine at_nil ?_
    refine at_normal ?_
    refine hK3 _ _ _ ?_
    refine at_cond_true rfl ?_
    refine at_seq_k (fun K4 hK4 => ?_)
    refine at_region ?_
    refine at_v (ov_move rfl rfl) rfl rfl rfl ?_
    refine at_v (ov_assign rfl rfl) rfl rfl rfl ?_
    refine at_nil ?_
    refine at_normal ?_
    refine hK4 _ _ _ ?_
    refine at_ret ?_
    refine at_then_ret ?_
    refine at_end ?_
    refine at_fin (rsV rfl (res_tmp rfl)) ?_
    refine ⟨_, ⟨rfl, rfl⟩, ?_⟩
    exact fun _ s => s.finEq (ks := [0]) (js := []) rfl rfl rfl
  · obtain ⟨i0, x0, hx0, hi0, hbef⟩ := first_of (p := fun t : Tok => decide (t.1 = 5)) hany
    have hil : i0 < l.length := (List.getElem?_eq_some_iff.1 hx0).1
    have hf := firstB_at (p := fun t : Tok => decide (t.1 = 5)) hbef (fun x hx => by rw [hx0] at hx; cases hx; exact hi0) hil
    have hI := T45b w0 (A := A) (c := c) (c' := c) hm
    rw [hf] at hI
    have hi1 : decide ((i0 : Int) = -1) = false := decide_eq_false (by omega)
    have hn0 : noHints (l.take i0) = l.take i0 := by
      unfold noHints
      rw [List.filter_eq_self]
      intro x hx
      rw [hbef x hx]; rfl
    have h5 : x0.1 = 5 := of_decide_eq_true hi0
    have hn1 := noHints_succ hx0
    rw [if_pos h5, List.append_nil, hn0] at hn1
    refine at_seq_k (fun K0 hK0 => ?_)
    refine at_region ?_
    refine at_v (ov_assign rfl rfl) rfl rfl rfl ?_
    refine at_nil ?_
    refine at_normal ?_
    refine hK0 _ _ _ ?_
    refine at_seq_k (fun K1 hK1 => ?_)
    refine at_region ?_
    refine at_v (ov_move rfl rfl) rfl rfl rfl ?_
    refine at_v (ov_move rfl rfl) rfl rfl rfl ?_
    refine at_t (ot_call (ks := [0]) rfl rfl rfl Tryz.call45 rfl (hI ) rfl) rfl rfl rfl ?_
    rintro v0 _ ⟨m0, hp0, rfl⟩
    obtain ⟨rfl, rfl⟩ := hp0
    simp only [List.cons_append, List.nil_append, splice, spliceL]
    refine at_v (ov_assign rfl rfl) rfl rfl rfl ?_
    refine at_nil ?_
    refine at_normal ?_
    refine hK1 _ _ _ ?_
    refine at_seq_k (fun K2 hK2 => ?_)
    refine at_seq_k (fun K3 hK3 => ?_)
    refine at_region ?_
    refine at_v (ov_move rfl rfl) rfl rfl rfl ?_
    refine at_v (ov_int rfl rfl rfl rfl) rfl rfl rfl ?_
    refine at_nil ?_
    refine at_normal ?_
    refine hK3 _ _ _ ?_
    refine at_cond_false rfl ?_
    refine at_skip ?_
    refine at_normal ?_
    refine hK2 _ _ _ ?_
    refine at_seq_k (fun K4 hK4 => ?_)
    refine at_seq_k (fun K5 hK5 => ?_)
    refine at_region ?_
    refine at_v (ov_move rfl rfl) rfl rfl rfl ?_
    refine at_v ((ov_int rfl rfl rfl rfl).eq (congrArg (Value.int .i64) (inK_i64 (by omega) (by omega)))) rfl rfl rfl ?_
    refine at_v (ov_assign rfl rfl) rfl rfl rfl ?_
    refine at_nil ?_
    refine at_normal ?_
    refine hK5 _ _ _ ?_
    refine at_block ?_
    refine at_loopE [16, 17, 18, 19, 22, 23, 24, 25, 7, 26, 27, 28, 29, 30, 31, 32, 33, 34, 35, 5, 20, 21, 6, 0] (fun i : Nat × Nat × List Tok => i.1 < i.2.1 ∧ i.2.1 ≤ l.length ∧ i.2.2.length = l.length ∧ i.2.2.take i.1 = noHints (l.take i.2.1) ∧ i.2.2.drop i.2.1 = l.drop i.2.1) (fun i => [(5, .int .i64 (i.1 : Nat)), (6, .int .i64 (i.2.1 : Nat)), (0, .slice A i.2.2.length c)]) (fun i q => setAt 0 (Row tE 37 2 A c i.2.2) q) (fun i => l.length - i.2.1) (i0, i0 + 1, l) ⟨Nat.lt_succ_self _, hil, rfl, hn1.symm, rfl⟩ ⟨rfl, rfl, rfl, trivial⟩ (fun _ s => s) ?_
    rintro ⟨i, j, r⟩ ⟨hij, hj, hrl, htk, hdr⟩
    simp only [setAt] at hij hj hrl htk hdr ⊢
    rcases Nat.lt_or_ge j l.length with hlt | hge
    · have hi2 : decide ((j : Int) < r.length) = true := decide_eq_true (by omega)
      obtain ⟨x, hget⟩ : ∃ x, l[j]? = some x := ⟨_, List.getElem?_eq_getElem hlt⟩
      have hgr : r[j]? = some x := by
        have := congrArg (·[0]?) hdr
        simpa [hget] using this
      obtain ⟨y, hgi⟩ : ∃ y, r[i]? = some y := ⟨_, List.getElem?_eq_getElem (by omega)⟩
      have hms := noHints_succ hget
      have hC := T25 w0 x
      have hdr1 : r.drop (j + 1) = l.drop (j + 1) := by rw [← List.drop_drop, hdr, List.drop_drop]
      by_cases hx5 : x.1 = 5
      · have hi3 : (!decide (x.1 = 5)) = false := by simp [hx5]
        rw [if_pos hx5, List.append_nil] at hms
        refine at_seq_k (fun K6 hK6 => ?_)
        refine at_seq_k (fun K7 hK7 => ?_)
        refine at_region ?_
        refine at_v (ov_move rfl rfl) rfl rfl rfl ?_
        refine at_v (ov_move rfl rfl) rfl rfl rfl ?_
        refine at_v (ov_len_slice rfl Tryz.underlying36 rfl) rfl rfl rfl ?_
        refine at_v (ov_int rfl rfl rfl rfl) rfl rfl rfl ?_
        refine at_nil ?_
        refine at_normal ?_
        refine hK7 _ _ _ ?_
        refine at_cond_true (congrArg (fun b => some (Value.bool b)) (show _ = true from decide_eq_true (by omega))) ?_
        refine at_skip ?_
        refine at_normal ?_
        refine hK6 _ _ _ ?_
        refine at_seq_k (fun K8 hK8 => ?_)
        refine at_block ?_
        refine at_seq_k (fun K9 hK9 => ?_)
        refine at_region ?_
        refine at_v (ov_move rfl rfl) rfl rfl rfl ?_
        refine at_v (ov_move rfl rfl) rfl rfl rfl ?_
        refine at_v (ov_indexRd (fun _ s => s.rd (k := 0) rfl) rfl Tryz.underlying36 rfl rfl rfl hgr) rfl rfl rfl ?_
        refine at_v (ov_loadRdS (vs := [_, _]) (fun _ s => s.rd (k := 0) rfl) rfl rfl rfl hgr rfl rfl) rfl rfl rfl ?_
        refine at_t (ot_allocA rfl Tryz.zeroValue37) rfl rfl rfl ?_
        rintro _ _ ⟨g0, rfl, rfl⟩
        refine at_t0 (ot_store (k := 0) rfl rfl rfl rfl rfl rfl rfl) rfl rfl ?_
        rintro _ _ ⟨rfl, rfl⟩
        simp only [setAt, splice, spliceL, Value.cells]
        refine at_nil ?_
        refine at_normal ?_
        refine hK9 _ _ _ ?_
        refine at_seq_k (fun K10 hK10 => ?_)
        refine at_region ?_
        refine at_v (ov_move rfl rfl) rfl rfl rfl ?_
        refine at_v (ov_loadS (cs := [_, _]) rfl rfl rfl rfl (fun _ s => s.lds (k := 0) rfl ⟨rfl, rfl, trivial⟩)) rfl rfl rfl ?_
        refine at_t (ot_call (ks := []) rfl rfl rfl Tryz.call25 rfl (hC ) rfl) rfl rfl rfl ?_
        rintro v0 _ ⟨m0, hp0, rfl⟩
        obtain ⟨rfl, rfl⟩ := hp0
        simp only [List.cons_append, List.nil_append, splice, spliceL]
        refine at_v (ov_not rfl rfl) rfl rfl rfl ?_
        refine at_nil ?_
        refine at_normal ?_
        refine hK10 _ _ _ ?_
        refine at_cond_false (congrArg (fun b => some (Value.bool b)) (show _ = false from by first | assumption | (rw [Bool.not_eq_false']; exact decide_eq_true (by omega)))) ?_
        refine at_skip ?_
        refine at_inb_normal ?_
        refine at_normal ?_
        refine hK8 _ _ _ ?_
        refine at_region ?_
        refine at_v (ov_move rfl rfl) rfl rfl rfl ?_
        refine at_v ((ov_int rfl rfl rfl rfl).eq (congrArg (Value.int .i64) (inK_i64 (by omega) (by omega)))) rfl rfl rfl ?_
        refine at_v (ov_assign rfl rfl) rfl rfl rfl ?_
        refine at_nil ?_
        refine at_normal ?_
        refine at_roundF (i, j + 1, r) ⟨by simp only; omega, by simp only; omega, hrl, by simp only; rw [htk, hms], hdr1⟩ (by simp only; omega) ⟨rfl, rfl, rfl, trivial⟩ rfl ?_
        simp only [setAt]
        exact fun _ s => s.finEq (ks := [1]) (js := [0]) rfl rfl rfl
      · have hi3 : (!decide (x.1 = 5)) = true := by simp [hx5]
        rw [if_neg hx5] at hms
        refine at_seq_k (fun K6 hK6 => ?_)
        refine at_seq_k (fun K7 hK7 => ?_)
        refine at_region ?_
        refine at_v (ov_move rfl rfl) rfl rfl rfl ?_
        refine at_v (ov_move rfl rfl) rfl rfl rfl ?_
        refine at_v (ov_len_slice rfl Tryz.underlying36 rfl) rfl rfl rfl ?_
        refine at_v (ov_int rfl rfl rfl rfl) rfl rfl rfl ?_
        refine at_nil ?_
        refine at_normal ?_
        refine hK7 _ _ _ ?_
        refine at_cond_true (congrArg (fun b => some (Value.bool b)) (show _ = true from decide_eq_true (by omega))) ?_
        refine at_skip ?_
        refine at_normal ?_
        refine hK6 _ _ _ ?_
        refine at_seq_k (fun K8 hK8 => ?_)
        refine at_block ?_
        refine at_seq_k (fun K9 hK9 => ?_)
        refine at_region ?_
        refine at_v (ov_move rfl rfl) rfl rfl rfl ?_
        refine at_v (ov_move rfl rfl) rfl rfl rfl ?_
        refine at_v (ov_indexRd (fun _ s => s.rd (k := 0) rfl) rfl Tryz.underlying36 rfl rfl rfl hgr) rfl rfl rfl ?_
        refine at_v (ov_loadRdS (vs := [_, _]) (fun _ s => s.rd (k := 0) rfl) rfl rfl rfl hgr rfl rfl) rfl rfl rfl ?_
        refine at_t (ot_allocA rfl Tryz.zeroValue37) rfl rfl rfl ?_
        rintro _ _ ⟨g0, rfl, rfl⟩
        refine at_t0 (ot_store (k := 0) rfl rfl rfl rfl rfl rfl rfl) rfl rfl ?_
        rintro _ _ ⟨rfl, rfl⟩
        simp only [setAt, splice, spliceL, Value.cells]
        refine at_nil ?_
        refine at_normal ?_
        refine hK9 _ _ _ ?_
        refine at_seq_k (fun K10 hK10 => ?_)
        refine at_region ?_
        refine at_v (ov_move rfl rfl) rfl rfl rfl ?_
        refine at_v (ov_loadS (cs := [_, _]) rfl rfl rfl rfl (fun _ s => s.lds (k := 0) rfl ⟨rfl, rfl, trivial⟩)) rfl rfl rfl ?_
        refine at_t (ot_call (ks := []) rfl rfl rfl Tryz.call25 rfl (hC ) rfl) rfl rfl rfl ?_
        rintro v0 _ ⟨m0, hp0, rfl⟩
        obtain ⟨rfl, rfl⟩ := hp0
        simp only [List.cons_append, List.nil_append, splice, spliceL]
        refine at_v (ov_not rfl rfl) rfl rfl rfl ?_
        refine at_nil ?_
        refine at_normal ?_
        refine hK10 _ _ _ ?_
        refine at_cond_true (congrArg (fun b => some (Value.bool b)) (show _ = true from by first | assumption | (rw [Bool.not_eq_true']; exact decide_eq_false (by omega)))) ?_
        refine at_seq_k (fun K11 hK11 => ?_)
        refine at_region ?_
        refine at_v (ov_move rfl rfl) rfl rfl rfl ?_
        refine at_v (ov_move rfl rfl) rfl rfl rfl ?_
        refine at_v (ov_loadS (cs := [_, _]) rfl rfl rfl rfl (fun _ s => s.lds (k := 0) rfl ⟨rfl, rfl, trivial⟩)) rfl rfl rfl ?_
        refine at_v (ov_indexRd (fun _ s => s.rd (k := 1) rfl) rfl Tryz.underlying36 rfl rfl rfl hgi) rfl rfl rfl ?_
        refine at_t0 (ot_storeRow0 (k := 1) rfl rfl rfl rfl hgi rfl (Nat.le_refl _) rfl rfl) rfl rfl ?_
        rintro _ _ ⟨_, rfl⟩
        simp only [setAt]
        refine at_nil ?_
        refine at_normal ?_
        refine hK11 _ _ _ ?_
        refine at_region ?_
        refine at_v (ov_move rfl rfl) rfl rfl rfl ?_
        refine at_v ((ov_int rfl rfl rfl rfl).eq (congrArg (Value.int .i64) (inK_i64 (by omega) (by omega)))) rfl rfl rfl ?_
        refine at_v (ov_assign rfl rfl) rfl rfl rfl ?_
        refine at_nil ?_
        refine at_inb_normal ?_
        refine at_normal ?_
        refine hK8 _ _ _ ?_
        refine at_region ?_
        refine at_v (ov_move rfl rfl) rfl rfl rfl ?_
        refine at_v ((ov_int rfl rfl rfl rfl).eq (congrArg (Value.int .i64) (inK_i64 (by omega) (by omega)))) rfl rfl rfl ?_
        refine at_v (ov_assign rfl rfl) rfl rfl rfl ?_
        refine at_nil ?_
        refine at_normal ?_
        refine at_roundF (i + 1, j + 1, r.set i x) ⟨by simp only; omega, by simp only; omega, by simp only [List.length_set]; exact hrl, ?_, ?_⟩ (by simp only; omega) ⟨rfl, rfl, look_eq rfl (by simp only [List.length_set]), trivial⟩ rfl ?_
        · simp only
          rw [hms, ← htk, List.take_add_one, List.take_set_of_le (Nat.le_refl _)]
          rw [List.getElem?_set_self (by omega)]; rfl
        · simp only
          rw [List.drop_set_of_lt (by omega)]; exact hdr1
        simp only [setAt]
        exact fun _ s => s.finEq (ks := [1]) (js := [0]) rfl rfl rfl
    · have hi2 : decide ((j : Int) < r.length) = false := decide_eq_false (by omega)
      have hle2 : r.length ≤ c := by omega
      have hir : i ≤ r.length := by omega
      rw [List.take_of_length_le hge] at htk
      refine at_seq_k (fun K6 hK6 => ?_)
      refine at_seq_k (fun K7 hK7 => ?_)
      refine at_region ?_
      refine at_v (ov_move rfl rfl) rfl rfl rfl ?_
      refine at_v (ov_move rfl rfl) rfl rfl rfl ?_
      refine at_v (ov_len_slice rfl Tryz.underlying36 rfl) rfl rfl rfl ?_
      refine at_v (ov_int rfl rfl rfl rfl) rfl rfl rfl ?_
      refine at_nil ?_
      refine at_normal ?_
      refine hK7 _ _ _ ?_
      refine at_cond_false (congrArg (fun b => some (Value.bool b)) (show _ = false from decide_eq_false (by omega))) ?_
      refine at_exit ?_
      refine at_then_exit ?_
      refine at_then_exit ?_
      refine at_exit_eq ?_
      refine at_normal ?_
      refine hK4 _ _ _ ?_
      refine at_seq_k (fun K8 hK8 => ?_)
      refine at_region ?_
      refine at_v (ov_move rfl rfl) rfl rfl rfl ?_
      refine at_v (ov_move rfl rfl) rfl rfl rfl ?_
      refine at_v (ov_sliceFrom rfl Tryz.underlying36 rfl rfl rfl (by first | assumption | omega) (by assumption)) rfl rfl rfl ?_
      refine at_t0 (ot_clearRow (k := 0) (i := i) (size := 2) rfl Tryz.underlying36 Tryz.zeroValue37 rfl rfl rfl rfl hir) rfl rfl ?_
      rintro _ _ ⟨rfl, rfl⟩
      simp only [setAt]
      refine at_nil ?_
      refine at_normal ?_
      refine hK8 _ _ _ ?_
      refine at_seq_k (fun K9 hK9 => ?_)
      refine at_region ?_
      refine at_v (ov_move rfl rfl) rfl rfl rfl ?_
      refine at_v (ov_move rfl rfl) rfl rfl rfl ?_
      refine at_v (ov_sliceTo rfl Tryz.underlying36 rfl rfl rfl (by first | assumption | omega) (by assumption)) rfl rfl rfl ?_
      refine at_v (ov_assign rfl rfl) rfl rfl rfl ?_
      refine at_nil ?_
      refine at_normal ?_
      refine hK9 _ _ _ ?_
      refine at_ret ?_
      refine at_end ?_
      refine at_fin (rsV rfl (res_tmp rfl)) ?_
      refine ⟨[Row tE 37 2 A c (r.take i)], ⟨by rw [htk], by rw [htk]⟩, ?_⟩
      exact fun _ s => s.finEq (ks := [0]) (js := []) rfl rfl rfl
end Go.Proofs.YtgclahlbifbgdaaGreatDoor
