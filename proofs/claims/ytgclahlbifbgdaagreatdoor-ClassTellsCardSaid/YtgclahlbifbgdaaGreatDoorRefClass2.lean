/- The reference of classing, walked: Class. -/
import Derived.Test.YtgclahlbifbgdaaGreatDoorProg
import Derived.Test.YtgclahlbifbgdaaGreatDoorRefClass
import Derived.Test.YtgclahlbifbgdaaGreatDoorSLStr
import Derived.KernelRfl
set_option linter.unusedSimpArgs false
set_option linter.unusedVariables false
set_option maxRecDepth 100000
set_option maxHeartbeats 4000000
namespace Go.Proofs.YtgclahlbifbgdaaGreatDoor
open Go Go.Proofs.YtgclahlbifbgdaaGreatDoor.SL Go.RowKit
theorem noHints_succ {l : List Tok} {k : Nat} {x : Tok} (h : l[k]? = some x) : noHints (l.take (k + 1)) = noHints (l.take k) ++ (if x.1 = 5 then [] else [x]) := by
  unfold noHints
  rw [List.take_add_one, h, List.filter_append]
  congr 1
  by_cases h5 : x.1 = 5 <;> simp [h5]
theorem noHints_le (l : List Tok) : (noHints l).length ≤ l.length := List.length_filter_le _ _
theorem T29a (w0 : World) {A : Option Addr} {c : Nat} {l : List Tok} (hl : l.length ≤ 200) (hg : Good l) (ht : ∀ t ∈ l, t.2.length ≤ 200) :
    Tri Tryz.prog w0 29 [.slice A l.length c] [Row tE 33 2 A c l] fun v m => v = .int .i64 (tokN 201 l) ∧ m = [Row tE 33 2 A c l] :=
  (Tri.of_all fun w s => T29 w 200 hl (s.rd (k := 0) rfl) (by omega) (s.rowLen (k := 0) rfl).1 hg (fun t h => by have := ht t h; omega)).post fun v m ⟨m', ⟨h1, h2⟩, h3⟩ => ⟨h1, by rw [h3, h2]; rfl⟩
theorem T10 (w0 : World) (s : BL) (hs : s.length ≤ 10000) : Tri Tryz.prog w0 10 [SV s] [] fun v m => v = .int .i64 (classL s) ∧ m = [] := by
  refine tri_of Tryz.func10 rfl rfl fun F => ?_
  simp only [Tryz.ntmps10, argEnv, List.nil_append]
  have hL := T14 w0 s (by omega)
  have hn := lexR_len s
  have hg := lexR_good s
  have hsh := lexR_short s
  unfold classL
  generalize (lexR s).1 = l at hL hn hg hsh ⊢
  generalize (lexR s).2 = er at hL ⊢
  by_cases he : er = 0
  · rw [if_pos he]
    have hi0 : (!decide (er = 0)) = false := by simp [he]
    refine at_seq_k (fun K0 hK0 => ?_)
    refine at_region ?_
    refine at_v (ov_assign rfl rfl) rfl rfl rfl ?_
    refine at_nil ?_
    refine at_normal ?_
    refine hK0 _ _ _ ?_
    refine at_seq_k (fun K1 hK1 => ?_)
    refine at_region ?_
    refine at_v (ov_move rfl rfl) rfl rfl rfl ?_
    refine at_t (ot_call (ks := []) rfl rfl rfl Tryz.call14 rfl (hL ) rfl) rfl rfl rfl ?_
    rintro v0 _ ⟨m0, hp0, rfl⟩
    obtain ⟨A0, hp0⟩ := hp0
    obtain ⟨c0, hp0⟩ := hp0
    obtain ⟨rfl, rfl⟩ := hp0
    simp only [List.cons_append, List.nil_append, splice, spliceL]
    refine at_v (ov_move rfl rfl) rfl rfl rfl ?_
    refine at_v (ov_extract rfl rfl rfl) rfl rfl rfl ?_
    refine at_v (ov_extract rfl rfl rfl) rfl rfl rfl ?_
    refine at_v (ov_assign rfl rfl) rfl rfl rfl ?_
    refine at_v (ov_assign rfl rfl) rfl rfl rfl ?_
    refine at_nil ?_
    refine at_normal ?_
    refine hK1 _ _ _ ?_
    refine at_seq_k (fun K2 hK2 => ?_)
    refine at_seq_k (fun K3 hK3 => ?_)
    refine at_region ?_
    refine at_v (ov_move rfl rfl) rfl rfl rfl ?_
    refine at_v (ov_int rfl rfl rfl rfl) rfl rfl rfl ?_
    refine at_nil ?_
    refine at_normal ?_
    refine hK3 _ _ _ ?_
    refine at_cond_false (congrArg (fun b => some (Value.bool b)) (show _ = false from by first | assumption | (rw [Bool.not_eq_false']; exact decide_eq_true (by omega)))) ?_
    refine at_skip ?_
    refine at_normal ?_
    refine hK2 _ _ _ ?_
    refine at_seq_k (fun K4 hK4 => ?_)
    refine at_region ?_
    refine at_t (ot_buildSlice (cs := []) rfl Tryz.underlying28 rfl rfl rfl rfl rfl rfl) rfl rfl rfl ?_
    rintro _ _ ⟨g0, rfl, rfl⟩
    refine at_v (ov_assign rfl rfl) rfl rfl rfl ?_
    refine at_nil ?_
    refine at_normal ?_
    refine hK4 _ _ _ ?_
    refine at_seq_k (fun K5 hK5 => ?_)
    refine at_seq_k (fun K6 hK6 => ?_)
    refine at_region ?_
    refine at_v (ov_assign rfl rfl) rfl rfl rfl ?_
    refine at_nil ?_
    refine at_normal ?_
    refine hK6 _ _ _ ?_
    refine at_block ?_
    refine at_rowOf (c := 0) (size := 2) tE 0 [] rfl (by simp) (by simp) (by decide) (by simp) rfl ?_
    simp only [setAt]
    
    refine at_loopE [15, 16, 17, 18, 21, 22, 23, 24, 25, 26, 27, 28, 29, 30, 31, 32, 33, 5, 19, 20, 6] (fun i : Nat × Option Addr × Nat => i.1 ≤ l.length) (fun i => [(6, .int .i64 (i.1 : Nat)), (5, .slice i.2.1 (noHints (l.take i.1)).length i.2.2)]) (fun i m => setAt 0 (Row tE 33 2 i.2.1 i.2.2 (noHints (l.take i.1))) m) (fun i => l.length - i.1) (0, some ⟨g0, 0, none⟩, 0) (Nat.zero_le _) ⟨rfl, rfl, trivial⟩ (fun _ s => s) ?_
    rintro ⟨k, B, d⟩ hk
    simp only [setAt] at hk ⊢
    have hnl := noHints_le (l.take k)
    have htk : (l.take k).length ≤ k := by simp; omega
    rcases Nat.lt_or_ge k l.length with hlt | hge
    · have hi1 : decide ((k : Int) < l.length) = true := decide_eq_true (by omega)
      obtain ⟨x, hget⟩ : ∃ x, l[k]? = some x := ⟨_, List.getElem?_eq_getElem hlt⟩
      have hms := noHints_succ hget
      by_cases h5 : x.1 = 5
      · have hi2 : (!decide (x.1 = 5)) = false := by simp [h5]
        rw [if_pos h5, List.append_nil] at hms
        refine at_seq_k (fun K7 hK7 => ?_)
        refine at_seq_k (fun K8 hK8 => ?_)
        refine at_region ?_
        refine at_v (ov_move rfl rfl) rfl rfl rfl ?_
        refine at_v (ov_move rfl rfl) rfl rfl rfl ?_
        refine at_v (ov_len_slice rfl Tryz.underlying28 rfl) rfl rfl rfl ?_
        refine at_v (ov_int rfl rfl rfl rfl) rfl rfl rfl ?_
        refine at_nil ?_
        refine at_normal ?_
        refine hK8 _ _ _ ?_
        refine at_cond_true (congrArg (fun b => some (Value.bool b)) (show _ = true from decide_eq_true (by omega))) ?_
        refine at_skip ?_
        refine at_normal ?_
        refine hK7 _ _ _ ?_
        refine at_seq_k (fun K9 hK9 => ?_)
        refine at_block ?_
        refine at_seq_k (fun K10 hK10 => ?_)
        refine at_region ?_
        refine at_v (ov_move rfl rfl) rfl rfl rfl ?_
        refine at_v (ov_move rfl rfl) rfl rfl rfl ?_
        refine at_v (ov_indexRd (fun _ s => s.rd (k := 1) rfl) rfl Tryz.underlying28 rfl rfl rfl hget) rfl rfl rfl ?_
        refine at_v (ov_fieldRd0 (k := 0) (fun _ s => s.rd (k := 1) rfl) rfl rfl hget rfl) rfl rfl rfl ?_
        refine at_v (ov_loadRd0 (fun _ s => s.rd (k := 1) rfl) rfl rfl rfl hget rfl) rfl rfl rfl ?_
        refine at_v (ov_int rfl rfl rfl rfl) rfl rfl rfl ?_
        refine at_nil ?_
        refine at_normal ?_
        refine hK10 _ _ _ ?_
        refine at_cond_false (congrArg (fun b => some (Value.bool b)) (show _ = false from by first | assumption | (rw [Bool.not_eq_false']; exact decide_eq_true (by omega)))) ?_
        refine at_skip ?_
        refine at_inb_normal ?_
        refine at_normal ?_
        refine hK9 _ _ _ ?_
        refine at_region ?_
        refine at_v (ov_move rfl rfl) rfl rfl rfl ?_
        refine at_v ((ov_int rfl rfl rfl rfl).eq (congrArg (Value.int .i64) (inK_i64 (by omega) (by omega)))) rfl rfl rfl ?_
        refine at_v (ov_assign rfl rfl) rfl rfl rfl ?_
        refine at_nil ?_
        refine at_normal ?_
        refine at_roundF (k + 1, B, d) hlt (by simp only; omega) ⟨rfl, look_eq rfl (by simp only [hms]), trivial⟩ rfl ?_
        simp only [setAt, hms]
        exact fun _ s => s.finEq (ks := [0, 0]) (js := []) rfl rfl rfl
      · have hi2 : (!decide (x.1 = 5)) = true := by simp [h5]
        rw [if_neg h5] at hms
        refine at_seq_k (fun K7 hK7 => ?_)
        refine at_seq_k (fun K8 hK8 => ?_)
        refine at_region ?_
        refine at_v (ov_move rfl rfl) rfl rfl rfl ?_
        refine at_v (ov_move rfl rfl) rfl rfl rfl ?_
        refine at_v (ov_len_slice rfl Tryz.underlying28 rfl) rfl rfl rfl ?_
        refine at_v (ov_int rfl rfl rfl rfl) rfl rfl rfl ?_
        refine at_nil ?_
        refine at_normal ?_
        refine hK8 _ _ _ ?_
        refine at_cond_true (congrArg (fun b => some (Value.bool b)) (show _ = true from decide_eq_true (by omega))) ?_
        refine at_skip ?_
        refine at_normal ?_
        refine hK7 _ _ _ ?_
        refine at_seq_k (fun K9 hK9 => ?_)
        refine at_block ?_
        refine at_seq_k (fun K10 hK10 => ?_)
        refine at_region ?_
        refine at_v (ov_move rfl rfl) rfl rfl rfl ?_
        refine at_v (ov_move rfl rfl) rfl rfl rfl ?_
        refine at_v (ov_indexRd (fun _ s => s.rd (k := 1) rfl) rfl Tryz.underlying28 rfl rfl rfl hget) rfl rfl rfl ?_
        refine at_v (ov_fieldRd0 (k := 0) (fun _ s => s.rd (k := 1) rfl) rfl rfl hget rfl) rfl rfl rfl ?_
        refine at_v (ov_loadRd0 (fun _ s => s.rd (k := 1) rfl) rfl rfl rfl hget rfl) rfl rfl rfl ?_
        refine at_v (ov_int rfl rfl rfl rfl) rfl rfl rfl ?_
        refine at_nil ?_
        refine at_normal ?_
        refine hK10 _ _ _ ?_
        refine at_cond_true (congrArg (fun b => some (Value.bool b)) (show _ = true from by first | assumption | (rw [Bool.not_eq_true']; exact decide_eq_false (by omega)))) ?_
        refine at_region ?_
        refine at_v (ov_move rfl rfl) rfl rfl rfl ?_
        refine at_v (ov_move rfl rfl) rfl rfl rfl ?_
        refine at_v (ov_move rfl rfl) rfl rfl rfl ?_
        refine at_v (ov_indexRd (fun _ s => s.rd (k := 1) rfl) rfl Tryz.underlying28 rfl rfl rfl hget) rfl rfl rfl ?_
        refine at_v (ov_loadRdS (vs := [_, _]) (fun _ s => s.rd (k := 1) rfl) rfl rfl rfl hget rfl rfl) rfl rfl rfl ?_
        refine at_t (ot_buildSlice (cs := [_, _]) rfl Tryz.underlying28 rfl rfl rfl rfl rfl rfl) rfl rfl rfl ?_
        rintro _ _ ⟨g1, rfl, rfl⟩
        refine at_t (ot_append (k := 1) (size := 2) (bytes := 24) (ys := [x]) (fun _ s => s.rdPt (k := 0) rfl rfl (by simp [tE])) rfl Tryz.underlying28 (ti := Tryz.t33) rfl rfl rfl rfl rfl (by decide) rfl rfl rfl (by simp [tE, Value.oneCell']) (by simp; omega) (by decide)) rfl rfl rfl ?_
        rintro _ _ ⟨A1, c1, rfl, rfl⟩
        simp only [setAt]
        refine at_v (ov_assign rfl rfl) rfl rfl rfl ?_
        refine at_nil ?_
        refine at_inb_normal ?_
        refine at_normal ?_
        refine hK9 _ _ _ ?_
        refine at_region ?_
        refine at_v (ov_move rfl rfl) rfl rfl rfl ?_
        refine at_v ((ov_int rfl rfl rfl rfl).eq (congrArg (Value.int .i64) (inK_i64 (by omega) (by omega)))) rfl rfl rfl ?_
        refine at_v (ov_assign rfl rfl) rfl rfl rfl ?_
        refine at_nil ?_
        refine at_normal ?_
        refine at_roundF (k + 1, A1, c1) hlt (by simp only; omega) ⟨rfl, look_eq rfl (by simp only [hms]), trivial⟩ rfl ?_
        simp only [setAt, hms]
        exact fun _ s => s.finEq (ks := [1, 1]) (js := [0]) rfl rfl rfl
    · have hi1 : decide ((k : Int) < l.length) = false := decide_eq_false (by omega)
      rw [List.take_of_length_le hge] at hnl ⊢
      have hin : ∀ t ∈ noHints l, t ∈ l := fun t h => (List.mem_filter.1 h).1
      obtain ⟨m, hmd⟩ : ∃ m, noHints l = m := ⟨_, rfl⟩
      rw [hmd] at hnl hin ⊢
      refine at_seq_k (fun K7 hK7 => ?_)
      refine at_seq_k (fun K8 hK8 => ?_)
      refine at_region ?_
      refine at_v (ov_move rfl rfl) rfl rfl rfl ?_
      refine at_v (ov_move rfl rfl) rfl rfl rfl ?_
      refine at_v (ov_len_slice rfl Tryz.underlying28 rfl) rfl rfl rfl ?_
      refine at_v (ov_int rfl rfl rfl rfl) rfl rfl rfl ?_
      refine at_nil ?_
      refine at_normal ?_
      refine hK8 _ _ _ ?_
      refine at_cond_false (congrArg (fun b => some (Value.bool b)) (show _ = false from decide_eq_false (by omega))) ?_
      refine at_exit ?_
      refine at_then_exit ?_
      refine at_then_exit ?_
      refine at_exit_eq ?_
      refine at_normal ?_
      refine hK5 _ _ _ ?_
      refine at_seq_k (fun K9 hK9 => ?_)
      refine at_block ?_
      refine at_loopE [34, 35, 36, 37, 38, 39, 40, 41, 42, 43, 44, 45, 46, 47, 48, 49, 50, 5] (fun i : List Tok => i.length ≤ 200 ∧ (∀ t ∈ i, t ∈ l) ∧ trimE m = trimE i) (fun i => [(5, .slice B i.length d)]) (fun i q => setAt 0 (Row tE 33 2 B d i) q) (fun i => i.length) m ⟨by omega, hin, rfl⟩ ⟨rfl, trivial⟩ (fun _ s => s) ?_
      rintro i ⟨hil, him, hie⟩
      simp only [setAt] at hil him hie ⊢
      rcases List.eq_nil_or_concat i with h0 | ⟨i', x, rfl⟩
      · have hi3 : decide ((i.length : Int) > 0) = false := by rw [h0]; decide
        have hT := T29a w0 (A := B) (c := d) (l := i) hil (fun t h => hg t (him t h)) (fun t h => hsh t (him t h))
        refine at_seq_k (fun K10 hK10 => ?_)
        refine at_seq_k (fun K11 hK11 => ?_)
        refine at_region ?_
        refine at_v (ov_move rfl rfl) rfl rfl rfl ?_
        refine at_v (ov_len_slice rfl Tryz.underlying28 rfl) rfl rfl rfl ?_
        refine at_v (ov_int rfl rfl rfl rfl) rfl rfl rfl ?_
        refine at_v (ov_move rfl rfl) rfl rfl rfl ?_
        refine at_reval 37 (.bool false) rfl (congrArg Value.bool (by first | assumption | (rw [Bool.not_eq_false']; exact decide_eq_true (by omega)))) ?_
        refine at_unwanted (j := 3) rfl rfl rfl rfl ?_
        refine at_unwanted (j := 3) rfl rfl rfl rfl ?_
        refine at_unwanted (j := 3) rfl rfl rfl rfl ?_
        refine at_unwanted (j := 3) rfl rfl rfl rfl ?_
        refine at_unwanted (j := 3) rfl rfl rfl rfl ?_
        refine at_unwanted (j := 3) rfl rfl rfl rfl ?_
        refine at_unwanted (j := 3) rfl rfl rfl rfl ?_
        refine at_v (ov_pick_f rfl rfl rfl) rfl rfl rfl ?_
        refine at_nil ?_
        refine at_normal ?_
        refine hK11 _ _ _ ?_
        refine at_cond_false rfl ?_
        refine at_exit ?_
        refine at_then_exit ?_
        refine at_then_exit ?_
        refine at_exit_eq ?_
        refine at_normal ?_
        refine hK9 _ _ _ ?_
        refine at_seq_k (fun K12 hK12 => ?_)
        refine at_region ?_
        refine at_v (ov_move rfl rfl) rfl rfl rfl ?_
        refine at_t (ot_call (ks := [0]) rfl rfl rfl Tryz.call29 rfl (hT ) rfl) rfl rfl rfl ?_
        rintro v0 _ ⟨m0, hp0, rfl⟩
        obtain ⟨rfl, rfl⟩ := hp0
        simp only [List.cons_append, List.nil_append, splice, spliceL]
        refine at_v (ov_assign rfl rfl) rfl rfl rfl ?_
        refine at_nil ?_
        refine at_normal ?_
        refine hK12 _ _ _ ?_
        refine at_ret ?_
        refine at_end ?_
        refine at_fin (rsV rfl (res_tmp rfl)) ?_
        refine ⟨_, ⟨by rw [hmd, hie, h0, trimE_nil], rfl⟩, ?_⟩
        exact fun _ s => s.finEq (ks := []) (js := [0, 0]) rfl rfl rfl
      · rw [List.concat_eq_append] at *
        have hi3 : decide (((i' ++ [x]).length : Int) > 0) = true := decide_eq_true (by rw [List.length_append, List.length_cons, List.length_nil]; omega)
        refine at_rowLen 0 rfl (fun hle _ => ?_)
        have hget : (i' ++ [x])[i'.length]? = some x := by simp
        have hS := T28 w0 x
        have hlen : ((i' ++ [x]).length : Int) - 1 = ((i'.length : Nat) : Int) := by simp
        rw [trimE_snoc] at hie
        refine at_seq_k (fun K10 hK10 => ?_)
        refine at_seq_k (fun K11 hK11 => ?_)
        refine at_region ?_
        refine at_v (ov_move rfl rfl) rfl rfl rfl ?_
        refine at_v (ov_len_slice rfl Tryz.underlying28 rfl) rfl rfl rfl ?_
        refine at_v (ov_int rfl rfl rfl rfl) rfl rfl rfl ?_
        refine at_v (ov_move rfl rfl) rfl rfl rfl ?_
        refine at_reval 37 (.bool true) rfl (congrArg Value.bool (decide_eq_true (by omega))) ?_
        refine at_wanted (j := 3) rfl ?_
        refine at_v (ov_move rfl rfl) rfl rfl rfl ?_
        refine at_wanted (j := 3) rfl ?_
        refine at_v (ov_move rfl rfl) rfl rfl rfl ?_
        refine at_wanted (j := 3) rfl ?_
        refine at_v (ov_len_slice rfl Tryz.underlying28 rfl) rfl rfl rfl ?_
        refine at_wanted (j := 3) rfl ?_
        refine at_v ((ov_int rfl rfl rfl rfl).eq (congrArg (Value.int .i64) (inK_i64 (by omega) (by omega)))) rfl rfl rfl ?_
        refine at_wanted (j := 3) rfl ?_
        refine at_reval 41 (.int .i64 (i'.length : Nat)) rfl (congrArg (Value.int .i64) hlen) ?_
        cases hx : decide (x = signL) with
        | true =>
          rw [hx] at hS
          rw [if_pos (of_decide_eq_true hx)] at hie
          refine at_v (ov_indexRd (fun _ s => s.rd (k := 0) rfl) rfl Tryz.underlying28 rfl rfl rfl hget) rfl rfl rfl ?_
          refine at_wanted (j := 3) rfl ?_
          refine at_v (ov_loadRdS (vs := [_, _]) (fun _ s => s.rd (k := 0) rfl) rfl rfl rfl hget rfl rfl) rfl rfl rfl ?_
          refine at_wanted (j := 3) rfl ?_
          refine at_t (ot_call (ks := []) rfl rfl rfl Tryz.call28 rfl (hS ) rfl) rfl rfl rfl ?_
          rintro v0 _ ⟨m0, hp0, rfl⟩
          obtain ⟨rfl, rfl⟩ := hp0
          simp only [List.cons_append, List.nil_append, splice, spliceL]
          refine at_v (ov_pick_t rfl rfl rfl) rfl rfl rfl ?_
          refine at_nil ?_
          refine at_normal ?_
          refine hK11 _ _ _ ?_
          refine at_cond_true rfl ?_
          refine at_skip ?_
          refine at_normal ?_
          refine hK10 _ _ _ ?_
          refine at_block ?_
          refine at_region ?_
          refine at_v (ov_move rfl rfl) rfl rfl rfl ?_
          refine at_v (ov_move rfl rfl) rfl rfl rfl ?_
          refine at_v (ov_len_slice rfl Tryz.underlying28 rfl) rfl rfl rfl ?_
          refine at_v ((ov_int rfl rfl rfl rfl).eq (congrArg (Value.int .i64) (inK_i64 (by omega) (by omega)))) rfl rfl rfl ?_
          refine at_reval 49 (.int .i64 (i'.length : Nat)) rfl (congrArg (Value.int .i64) hlen) ?_
          have hkk : i'.length ≤ (i' ++ [x]).length := by simp
          refine at_v (ov_sliceTo rfl Tryz.underlying28 rfl rfl rfl (by first | assumption | omega) (by assumption)) rfl rfl rfl ?_
          refine at_v (ov_assign rfl rfl) rfl rfl rfl ?_
          refine at_nil ?_
          refine at_inb_normal ?_
          refine at_normal ?_
          refine at_rowTake i'.length 0 rfl ?_
          have htk : (i' ++ [x]).take i'.length = i' := List.take_left
          rw [htk]
          simp only [setAt]
          refine at_roundF i' ⟨by simp at hil; omega, fun t h => him t (by simp [h]), hie⟩ (by simp) ⟨rfl, trivial⟩ rfl ?_
          exact fun _ s => s.finEq (ks := [0, 0]) (js := []) rfl rfl rfl
        | false =>
          rw [hx] at hS
          rw [if_neg (of_decide_eq_false hx)] at hie
          have hT := T29a w0 (A := B) (c := d) (l := i' ++ [x]) hil (fun t h => hg t (him t h)) (fun t h => hsh t (him t h))
          refine at_v (ov_indexRd (fun _ s => s.rd (k := 0) rfl) rfl Tryz.underlying28 rfl rfl rfl hget) rfl rfl rfl ?_
          refine at_wanted (j := 3) rfl ?_
          refine at_v (ov_loadRdS (vs := [_, _]) (fun _ s => s.rd (k := 0) rfl) rfl rfl rfl hget rfl rfl) rfl rfl rfl ?_
          refine at_wanted (j := 3) rfl ?_
          refine at_t (ot_call (ks := []) rfl rfl rfl Tryz.call28 rfl (hS ) rfl) rfl rfl rfl ?_
          rintro v0 _ ⟨m0, hp0, rfl⟩
          obtain ⟨rfl, rfl⟩ := hp0
          simp only [List.cons_append, List.nil_append, splice, spliceL]
          refine at_v (ov_pick_t rfl rfl rfl) rfl rfl rfl ?_
          refine at_nil ?_
          refine at_normal ?_
          refine hK11 _ _ _ ?_
          refine at_cond_false rfl ?_
          refine at_exit ?_
          refine at_then_exit ?_
          refine at_then_exit ?_
          refine at_exit_eq ?_
          refine at_normal ?_
          refine hK9 _ _ _ ?_
          refine at_seq_k (fun K12 hK12 => ?_)
          refine at_region ?_
          refine at_v (ov_move rfl rfl) rfl rfl rfl ?_
          refine at_t (ot_call (ks := [0]) rfl rfl rfl Tryz.call29 rfl (hT ) rfl) rfl rfl rfl ?_
          rintro v0 _ ⟨m0, hp0, rfl⟩
          obtain ⟨rfl, rfl⟩ := hp0
          simp only [List.cons_append, List.nil_append, splice, spliceL]
          refine at_v (ov_assign rfl rfl) rfl rfl rfl ?_
          refine at_nil ?_
          refine at_normal ?_
          refine hK12 _ _ _ ?_
          refine at_ret ?_
          refine at_end ?_
          refine at_fin (rsV rfl (res_tmp rfl)) ?_
          refine ⟨_, ⟨by rw [hmd, hie], rfl⟩, ?_⟩
          exact fun _ s => s.finEq (ks := []) (js := [0, 0]) rfl rfl rfl
  · rw [if_neg he]
    have hi0 : (!decide (er = 0)) = true := by simp [he]
    refine at_seq_k (fun K0 hK0 => ?_)
    refine at_region ?_
    refine at_v (ov_assign rfl rfl) rfl rfl rfl ?_
    refine at_nil ?_
    refine at_normal ?_
    refine hK0 _ _ _ ?_
    refine at_seq_k (fun K1 hK1 => ?_)
    refine at_region ?_
    refine at_v (ov_move rfl rfl) rfl rfl rfl ?_
    refine at_t (ot_call (ks := []) rfl rfl rfl Tryz.call14 rfl (hL ) rfl) rfl rfl rfl ?_
    rintro v0 _ ⟨m0, hp0, rfl⟩
    obtain ⟨A0, hp0⟩ := hp0
    obtain ⟨c0, hp0⟩ := hp0
    obtain ⟨rfl, rfl⟩ := hp0
    simp only [List.cons_append, List.nil_append, splice, spliceL]
    refine at_v (ov_move rfl rfl) rfl rfl rfl ?_
    refine at_v (ov_extract rfl rfl rfl) rfl rfl rfl ?_
    refine at_v (ov_extract rfl rfl rfl) rfl rfl rfl ?_
    refine at_v (ov_assign rfl rfl) rfl rfl rfl ?_
    refine at_v (ov_assign rfl rfl) rfl rfl rfl ?_
    refine at_nil ?_
    refine at_normal ?_
    refine hK1 _ _ _ ?_
    refine at_seq_k (fun K2 hK2 => ?_)
    refine at_seq_k (fun K3 hK3 => ?_)
    refine at_region ?_
    refine at_v (ov_move rfl rfl) rfl rfl rfl ?_
    refine at_v (ov_int rfl rfl rfl rfl) rfl rfl rfl ?_
    refine at_nil ?_
    refine at_normal ?_
    refine hK3 _ _ _ ?_
    refine at_cond_true (congrArg (fun b => some (Value.bool b)) (show _ = true from by first | assumption | (rw [Bool.not_eq_true']; exact decide_eq_false (by omega)))) ?_
    refine at_seq_k (fun K4 hK4 => ?_)
    refine at_region ?_
    refine at_v (ov_assign rfl rfl) rfl rfl rfl ?_
    refine at_nil ?_
    refine at_normal ?_
    refine hK4 _ _ _ ?_
    refine at_ret ?_
    refine at_then_ret ?_
    refine at_end ?_
    refine at_fin (rsV rfl (res_tmp rfl)) ?_
    refine ⟨_, ⟨rfl, rfl⟩, ?_⟩
    exact fun _ s => s.finEq (ks := []) (js := [0]) rfl rfl rfl
end Go.Proofs.YtgclahlbifbgdaaGreatDoor
