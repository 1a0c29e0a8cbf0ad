/- Package class: Asks, walked. -/
import Derived.Test.YtgclahlbifbgdaaGreatDoorProg
import Derived.Test.YtgclahlbifbgdaaGreatDoorClass3
import Derived.Test.YtgclahlbifbgdaaGreatDoorSLStr
import Derived.KernelRfl
set_option linter.unusedSimpArgs false
set_option linter.unusedVariables false
set_option maxRecDepth 100000
set_option maxHeartbeats 4000000
namespace Go.Proofs.YtgclahlbifbgdaaGreatDoor
open Go Go.Proofs.YtgclahlbifbgdaaGreatDoor.SL Go.RowKit
def placesW : List BL := [[], [112, 114, 105, 109, 97, 114, 121], [114, 101, 112, 108, 105, 99, 97]]
theorem T30a (w0 : World) {A : Option Addr} {c c' : Nat} {ws : List BL} (hm : ws.length ≤ 10000) (s : BL) : Tri Tryz.prog w0 30 [.slice A ws.length c, SV s] [Row bsE 9 1 A c' ws] fun v m => v = .int .i64 (firstB (fun w => decide (s = w)) ws) ∧ m = [Row bsE 9 1 A c' ws] :=
  (Tri.of_all fun w st => T30 w (st.rd (k := 0) rfl) hm s).post fun v m ⟨m', ⟨h1, h2⟩, h3⟩ => ⟨h1, by rw [h3, h2]; rfl⟩
theorem place_ask {x : Tok} (h5 : x.1 = 5) : askOf x = if firstB (fun w => decide (x.2 = w)) placesW > 0 then firstB (fun w => decide (x.2 = w)) placesW else 0 := by
  unfold askOf placesW
  simp only [firstB_cons, firstB]
  by_cases h0 : x.2 = []
  · simp [h5, h0]
  · by_cases h1 : x.2 = [112, 114, 105, 109, 97, 114, 121]
    · simp [h5, h1]
    · by_cases h2 : x.2 = [114, 101, 112, 108, 105, 99, 97]
      · simp [h5, h2]
      · simp [h5, h0, h1, h2]
theorem T11 (w0 : World) (cv : Value) (s : BL) (hs : s.length ≤ 10000) (hM : MaxL w0) : Tri Tryz.prog w0 11 [cv, SV s] [] fun v m => v = .int .i64 (asksT (lexR s).1) ∧ m = [] := by
  refine tri_of Tryz.func11 rfl rfl fun F => ?_
  simp only [Tryz.ntmps11, argEnv, List.nil_append]
  have hL := T23 w0 s (by omega) hM
  have hn := lexR_len s
  generalize (lexR s).1 = l at hL hn ⊢
  refine at_seq_k (fun K0 hK0 => ?_)
  refine at_region ?_
  refine at_v (ov_assign rfl rfl) rfl rfl rfl ?_
  refine at_nil ?_
  refine at_normal ?_
  refine hK0 _ _ _ ?_
  refine at_seq_k (fun K1 hK1 => ?_)
  refine at_region ?_
  refine at_v (ov_move rfl rfl) rfl rfl rfl ?_
  refine at_t (ot_call (ks := []) rfl rfl rfl Tryz.call23 rfl (hL ) rfl) rfl rfl rfl ?_
  rintro v0 _ ⟨m0, hp0, rfl⟩
  obtain ⟨A0, hp0⟩ := hp0
  obtain ⟨c0, hp0⟩ := hp0
  obtain ⟨rfl, rfl⟩ := hp0
  simp only [List.cons_append, List.nil_append, splice, spliceL]
  refine at_v (ov_move rfl rfl) rfl rfl rfl ?_
  refine at_v (ov_extract rfl rfl rfl) rfl rfl rfl ?_
  refine at_v (ov_extract rfl rfl rfl) rfl rfl rfl ?_
  refine at_v (ov_assign rfl rfl) rfl rfl rfl ?_
  refine at_v (ov_assign rfl rfl) rfl rfl rfl ?_
  refine at_nil ?_
  refine at_normal ?_
  refine hK1 _ _ _ ?_
  refine at_seq_k (fun K2 hK2 => ?_)
  refine at_seq_k (fun K3 hK3 => ?_)
  refine at_region ?_
  refine at_v (ov_move rfl rfl) rfl rfl rfl ?_
  refine at_v (ov_len_slice rfl Tryz.underlying36 rfl) rfl rfl rfl ?_
  refine at_v (ov_move rfl rfl) rfl rfl rfl ?_
  refine at_nil ?_
  refine at_normal ?_
  refine hK3 _ _ _ ?_
  refine at_block ?_
  refine at_loopE [18, 19, 20, 8, 21, 22, 23, 24, 9, 25, 26, 27, 28, 29, 30, 31, 32, 4, 33, 17] (fun k => k ≤ l.length ∧ ∀ y ∈ l.take k, askOf y = 0) (fun k => [(17, .int .i64 (k : Nat))]) (fun _ m => m) (fun k => l.length - k) 0 ⟨Nat.zero_le _, by simp⟩ ⟨rfl, trivial⟩ (fun _ s => s) ?_
  rintro k ⟨hk, hb⟩
  rcases Nat.lt_or_ge k l.length with hlt | hge
  · have hi1 : decide ((k : Int) < l.length) = true := decide_eq_true (by omega)
    obtain ⟨x, hget⟩ : ∃ x, l[k]? = some x := ⟨_, List.getElem?_eq_getElem hlt⟩
    have more : askOf x = 0 → ∀ y ∈ l.take (k + 1), askOf y = 0 := fun h0 y hy => by
      rw [List.take_add_one, hget] at hy
      rcases List.mem_append.1 hy with hy | hy
      · exact hb y hy
      · simp at hy; subst hy; exact h0
    have hI := fun {B} {d} {d'} => T30a w0 (A := B) (c := d) (c' := d') (ws := placesW) (by decide) x.2
    have hpa := place_ask (x := x)
    generalize firstB (fun w => decide (x.2 = w)) placesW = n at hI hpa
    refine at_seq_k (fun K4 hK4 => ?_)
    refine at_region ?_
    refine at_v (ov_int rfl rfl rfl rfl) rfl rfl rfl ?_
    refine at_nil ?_
    refine at_normal ?_
    refine hK4 _ _ _ ?_
    refine at_seq_k (fun K5 hK5 => ?_)
    refine at_cond_true (congrArg (fun b => some (Value.bool b)) (show _ = true from decide_eq_true (by omega))) ?_
    refine at_skip ?_
    refine at_normal ?_
    refine hK5 _ _ _ ?_
    refine at_seq_k (fun K6 hK6 => ?_)
    refine at_block ?_
    refine at_seq_k (fun K7 hK7 => ?_)
    refine at_region ?_
    refine at_v (ov_indexRd (fun _ s => s.rd (k := 0) rfl) rfl Tryz.underlying36 rfl rfl rfl hget) rfl rfl rfl ?_
    refine at_v (ov_loadRdS (vs := [_, _]) (fun _ s => s.rd (k := 0) rfl) rfl rfl rfl hget rfl rfl) rfl rfl rfl ?_
    refine at_t (ot_allocA rfl Tryz.zeroValue37) rfl rfl rfl ?_
    rintro _ _ ⟨g0, rfl, rfl⟩
    refine at_t0 (ot_store (k := 0) rfl rfl rfl rfl rfl rfl rfl) rfl rfl ?_
    rintro _ _ ⟨rfl, rfl⟩
    simp only [setAt, splice, spliceL, Value.cells]
    refine at_nil ?_
    refine at_normal ?_
    refine hK7 _ _ _ ?_
    refine at_seq_k (fun K8 hK8 => ?_)
    refine at_region ?_
    refine at_t (ot_buildSlice (cs := [_, _, _]) rfl Tryz.underlying73 rfl rfl rfl rfl rfl rfl) rfl rfl rfl ?_
    rintro _ _ ⟨g1, rfl, rfl⟩
    refine at_v (ov_fieldAddr (k := 1) (r := 1) rfl rfl rfl rfl) rfl rfl rfl ?_
    refine at_v (ov_load rfl rfl rfl (fun _ s => s.ld (k := 1) rfl rfl)) rfl rfl rfl ?_
    refine at_rowOf bsE 0 (size := 1) (c := 3) placesW rfl (fun _ _ => rfl) (by decide) (by decide) (by decide) rfl ?_
    simp only [setAt]
    refine at_reval 21 (.slice (some ⟨g1, 0, none⟩) placesW.length 3) rfl rfl ?_
    by_cases h5 : x.1 = 5
    · have hi2 : decide (x.1 = 5) = true := decide_eq_true h5
      have ha := hpa h5
      by_cases hp : n > 0
      · have hi3 : decide (n > 0) = true := decide_eq_true hp
        rw [if_pos hp] at ha
        refine at_t (ot_call (ks := [0]) rfl rfl rfl Tryz.call30 rfl (hI ) rfl) rfl rfl rfl ?_
        rintro v0 _ ⟨m0, hp0, rfl⟩
        obtain ⟨rfl, rfl⟩ := hp0
        simp only [List.cons_append, List.nil_append, splice, spliceL]
        refine at_v (ov_assign rfl rfl) rfl rfl rfl ?_
        refine at_nil ?_
        refine at_normal ?_
        refine hK8 _ _ _ ?_
        refine at_seq_k (fun K9 hK9 => ?_)
        refine at_region ?_
        refine at_v (ov_fieldAddr (k := 0) (r := 0) rfl rfl rfl rfl) rfl rfl rfl ?_
        refine at_v (ov_load rfl rfl rfl (fun _ s => s.ld (k := 1) rfl rfl)) rfl rfl rfl ?_
        refine at_v (ov_int rfl rfl rfl rfl) rfl rfl rfl ?_
        refine at_v (ov_move rfl rfl) rfl rfl rfl ?_
        refine at_reval 28 (.bool true) rfl (congrArg Value.bool (decide_eq_true (by omega))) ?_
        refine at_wanted (j := 3) rfl ?_
        refine at_v (ov_move rfl rfl) rfl rfl rfl ?_
        refine at_wanted (j := 3) rfl ?_
        refine at_v (ov_int rfl rfl rfl rfl) rfl rfl rfl ?_
        refine at_v (ov_pick_t rfl rfl rfl) rfl rfl rfl ?_
        refine at_nil ?_
        refine at_normal ?_
        refine hK9 _ _ _ ?_
        refine at_cond_true (congrArg (fun b => some (Value.bool b)) (show _ = true from decide_eq_true (by omega))) ?_
        refine at_seq_k (fun K10 hK10 => ?_)
        refine at_region ?_
        refine at_v (ov_move rfl rfl) rfl rfl rfl ?_
        refine at_v (ov_assign rfl rfl) rfl rfl rfl ?_
        refine at_nil ?_
        refine at_normal ?_
        refine hK10 _ _ _ ?_
        refine at_ret ?_
        refine at_inb_ret ?_
        refine at_then_ret ?_
        refine at_then_ret ?_
        refine at_inb_ret ?_
        refine at_then_ret ?_
        refine at_end ?_
        refine at_fin (rsV rfl (res_tmp rfl)) ?_
        refine ⟨_, ⟨by rw [asksT_at hb hget (by omega), ha], rfl⟩, ?_⟩
        exact fun _ s => s.finEq (ks := []) (js := [0, 0, 0]) rfl rfl rfl
      · have hi3 : decide (n > 0) = false := decide_eq_false hp
        rw [if_neg hp] at ha
        refine at_t (ot_call (ks := [0]) rfl rfl rfl Tryz.call30 rfl (hI ) rfl) rfl rfl rfl ?_
        rintro v0 _ ⟨m0, hp0, rfl⟩
        obtain ⟨rfl, rfl⟩ := hp0
        simp only [List.cons_append, List.nil_append, splice, spliceL]
        refine at_v (ov_assign rfl rfl) rfl rfl rfl ?_
        refine at_nil ?_
        refine at_normal ?_
        refine hK8 _ _ _ ?_
        refine at_seq_k (fun K9 hK9 => ?_)
        refine at_region ?_
        refine at_v (ov_fieldAddr (k := 0) (r := 0) rfl rfl rfl rfl) rfl rfl rfl ?_
        refine at_v (ov_load rfl rfl rfl (fun _ s => s.ld (k := 1) rfl rfl)) rfl rfl rfl ?_
        refine at_v (ov_int rfl rfl rfl rfl) rfl rfl rfl ?_
        refine at_v (ov_move rfl rfl) rfl rfl rfl ?_
        refine at_reval 28 (.bool true) rfl (congrArg Value.bool (decide_eq_true (by omega))) ?_
        refine at_wanted (j := 3) rfl ?_
        refine at_v (ov_move rfl rfl) rfl rfl rfl ?_
        refine at_wanted (j := 3) rfl ?_
        refine at_v (ov_int rfl rfl rfl rfl) rfl rfl rfl ?_
        refine at_v (ov_pick_t rfl rfl rfl) rfl rfl rfl ?_
        refine at_nil ?_
        refine at_normal ?_
        refine hK9 _ _ _ ?_
        refine at_cond_false (congrArg (fun b => some (Value.bool b)) (show _ = false from decide_eq_false (by omega))) ?_
        refine at_skip ?_
        refine at_inb_normal ?_
        refine at_normal ?_
        refine hK6 _ _ _ ?_
        refine at_region ?_
        refine at_v ((ov_int rfl rfl rfl rfl).eq (congrArg (Value.int .i64) (inK_i64 (by omega) (by omega)))) rfl rfl rfl ?_
        refine at_v (ov_move rfl rfl) rfl rfl rfl ?_
        refine at_nil ?_
        refine at_normal ?_
        refine at_roundF (k + 1) ⟨hlt, more ha⟩ (by omega) ⟨rfl, trivial⟩ rfl ?_
        exact fun _ s => s.finEq (ks := [2]) (js := [0, 0]) rfl rfl rfl
    · have hi2 : decide (x.1 = 5) = false := decide_eq_false h5
      have ha : askOf x = 0 := by unfold askOf; rw [if_neg (fun h => h5 h.1), if_neg (fun h => h5 h.1)]
      refine at_t (ot_call (ks := [0]) rfl rfl rfl Tryz.call30 rfl (hI ) rfl) rfl rfl rfl ?_
      rintro v0 _ ⟨m0, hp0, rfl⟩
      obtain ⟨rfl, rfl⟩ := hp0
      simp only [List.cons_append, List.nil_append, splice, spliceL]
      refine at_v (ov_assign rfl rfl) rfl rfl rfl ?_
      refine at_nil ?_
      refine at_normal ?_
      refine hK8 _ _ _ ?_
      refine at_seq_k (fun K9 hK9 => ?_)
      refine at_region ?_
      refine at_v (ov_fieldAddr (k := 0) (r := 0) rfl rfl rfl rfl) rfl rfl rfl ?_
      refine at_v (ov_load rfl rfl rfl (fun _ s => s.ld (k := 1) rfl rfl)) rfl rfl rfl ?_
      refine at_v (ov_int rfl rfl rfl rfl) rfl rfl rfl ?_
      refine at_v (ov_move rfl rfl) rfl rfl rfl ?_
      refine at_reval 28 (.bool false) rfl (congrArg Value.bool (decide_eq_false (by omega))) ?_
      refine at_unwanted (j := 3) rfl rfl rfl rfl ?_
      refine at_unwanted (j := 3) rfl rfl rfl rfl ?_
      refine at_v (ov_pick_f rfl rfl rfl) rfl rfl rfl ?_
      refine at_nil ?_
      refine at_normal ?_
      refine hK9 _ _ _ ?_
      refine at_cond_false rfl ?_
      refine at_skip ?_
      refine at_inb_normal ?_
      refine at_normal ?_
      refine hK6 _ _ _ ?_
      refine at_region ?_
      refine at_v ((ov_int rfl rfl rfl rfl).eq (congrArg (Value.int .i64) (inK_i64 (by omega) (by omega)))) rfl rfl rfl ?_
      refine at_v (ov_move rfl rfl) rfl rfl rfl ?_
      refine at_nil ?_
      refine at_normal ?_
      refine at_roundF (k + 1) ⟨hlt, more ha⟩ (by omega) ⟨rfl, trivial⟩ rfl ?_
      exact fun _ s => s.finEq (ks := [2]) (js := [0, 0]) rfl rfl rfl
  · have hi1 : decide ((k : Int) < l.length) = false := decide_eq_false (by omega)
    rw [List.take_of_length_le hge] at hb
    refine at_seq_k (fun K4 hK4 => ?_)
    refine at_region ?_
    refine at_v (ov_int rfl rfl rfl rfl) rfl rfl rfl ?_
    refine at_nil ?_
    refine at_normal ?_
    refine hK4 _ _ _ ?_
    refine at_seq_k (fun K5 hK5 => ?_)
    refine at_cond_false (congrArg (fun b => some (Value.bool b)) (show _ = false from decide_eq_false (by omega))) ?_
    refine at_exit ?_
    refine at_then_exit ?_
    refine at_then_exit ?_
    refine at_exit_eq ?_
    refine at_normal ?_
    refine hK2 _ _ _ ?_
    refine at_seq_k (fun K6 hK6 => ?_)
    refine at_region ?_
    refine at_v (ov_assign rfl rfl) rfl rfl rfl ?_
    refine at_nil ?_
    refine at_normal ?_
    refine hK6 _ _ _ ?_
    refine at_ret ?_
    refine at_end ?_
    refine at_fin (rsV rfl (res_tmp rfl)) ?_
    refine ⟨_, ⟨by rw [asksT_none hb], rfl⟩, ?_⟩
    exact fun _ s => s.finEq (ks := []) (js := [0]) rfl rfl rfl
end Go.Proofs.YtgclahlbifbgdaaGreatDoor
