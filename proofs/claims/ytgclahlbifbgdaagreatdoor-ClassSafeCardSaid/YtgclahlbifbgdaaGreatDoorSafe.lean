/- The statement ClassSafe, walked. -/
import Derived.Test.YtgclahlbifbgdaaGreatDoorProg
import Derived.Test.YtgclahlbifbgdaaGreatDoorSafeLaw
import Derived.Test.YtgclahlbifbgdaaGreatDoorClass16
import Derived.Test.YtgclahlbifbgdaaGreatDoorSLStr
import Derived.KernelRfl
set_option linter.unusedSimpArgs false
set_option linter.unusedVariables false
set_option maxRecDepth 100000
set_option maxHeartbeats 4000000
namespace Go.Proofs.YtgclahlbifbgdaaGreatDoor
open Go Go.Proofs.YtgclahlbifbgdaaGreatDoor.SL Go.RowKit
def semi (b : Bool) : BL := match b with | true => [59] | false => []
theorem T4 (w0 : World) (s : BL) (hs : s.length ≤ 140737488351232) (hM : MaxL w0) : Tri Tryz.prog w0 4 [SV s] [] fun v m => v = .bool true ∧ m = [] := by
  refine tri_of Tryz.func4 rfl rfl fun F => ?_
  simp only [Tryz.ntmps4, argEnv, List.nil_append]
  by_cases h1 : 2000 < s.length
  · have hi1 : decide ((s.length : Int) > 2000) = true := decide_eq_true (by omega)
    refine at_seq_k (fun K0 hK0 => ?_)
    refine at_region ?_
    refine at_v (ov_assign rfl rfl) rfl rfl rfl ?_
    refine at_nil ?_
    refine at_normal ?_
    refine hK0 _ _ _ ?_
    refine at_seq_k (fun K1 hK1 => ?_)
    refine at_seq_k (fun K2 hK2 => ?_)
    refine at_region ?_
    refine at_t (ot_call (ks := []) rfl rfl rfl Tryz.call7 rfl (T7 _ (by first | assumption | rfl | omega | decide | (simp; done) | (simp at *; omega))) rfl) rfl rfl rfl ?_
    rintro v0 _ ⟨m0, hp0, rfl⟩
    obtain ⟨rfl, rfl⟩ := hp0
    simp only [List.cons_append, List.nil_append, splice, spliceL]
    refine at_v (ov_not rfl rfl) rfl rfl rfl ?_
    refine at_nil ?_
    refine at_normal ?_
    refine hK2 _ _ _ ?_
    refine at_cond_false rfl ?_
    refine at_skip ?_
    refine at_normal ?_
    refine hK1 _ _ _ ?_
    refine at_seq_k (fun K3 hK3 => ?_)
    refine at_seq_k (fun K4 hK4 => ?_)
    refine at_region ?_
    refine at_v (ov_move rfl rfl) rfl rfl rfl ?_
    refine at_v (ov_len_strL rfl Tryz.underlying9 rfl) rfl rfl rfl ?_
    refine at_v (ov_int rfl rfl rfl rfl) rfl rfl rfl ?_
    refine at_nil ?_
    refine at_normal ?_
    refine hK4 _ _ _ ?_
    refine at_cond_true (congrArg (fun b => some (Value.bool b)) (show _ = true from decide_eq_true (by omega))) ?_
    refine at_seq_k (fun K5 hK5 => ?_)
    refine at_region ?_
    refine at_v (ov_assign rfl rfl) rfl rfl rfl ?_
    refine at_nil ?_
    refine at_normal ?_
    refine hK5 _ _ _ ?_
    refine at_ret ?_
    refine at_then_ret ?_
    refine at_end ?_
    refine at_fin (rsV rfl (res_tmp rfl)) ?_
    refine ⟨_, ⟨rfl, rfl⟩, ?_⟩
    exact fun _ s => s.finEq (ks := []) (js := []) rfl rfl rfl
  have hi1 : decide ((s.length : Int) > 2000) = false := decide_eq_false (by omega)
  have hsl : s.length ≤ 10000 := by omega
  have hsl2 : s.length ≤ 9223372036854775807 := by omega
  by_cases h2 : classL s = 1
  · have hi2 : (!decide (classL s = 1)) = false := by simp [h2]
    obtain ⟨h3, H, hH, hfin⟩ := read_scan h2
    have hi3 : (!decide ((lexR s).2 = 0)) = false := by simp [h3]
    have hlen := lexR_len s
    have hLx := T14 w0 s hsl2
    obtain ⟨l, hl⟩ : ∃ l, l = (lexR s).1 := ⟨_, rfl⟩
    rw [← hl] at hH hlen hLx
    refine at_seq_k (fun K0 hK0 => ?_)
    refine at_region ?_
    refine at_v (ov_assign rfl rfl) rfl rfl rfl ?_
    refine at_nil ?_
    refine at_normal ?_
    refine hK0 _ _ _ ?_
    refine at_seq_k (fun K1 hK1 => ?_)
    refine at_seq_k (fun K2 hK2 => ?_)
    refine at_region ?_
    refine at_t (ot_call (ks := []) rfl rfl rfl Tryz.call7 rfl (T7 _ (by first | assumption | rfl | omega | decide | (simp; done) | (simp at *; omega))) rfl) rfl rfl rfl ?_
    rintro v0 _ ⟨m0, hp0, rfl⟩
    obtain ⟨rfl, rfl⟩ := hp0
    simp only [List.cons_append, List.nil_append, splice, spliceL]
    refine at_v (ov_not rfl rfl) rfl rfl rfl ?_
    refine at_nil ?_
    refine at_normal ?_
    refine hK2 _ _ _ ?_
    refine at_cond_false rfl ?_
    refine at_skip ?_
    refine at_normal ?_
    refine hK1 _ _ _ ?_
    refine at_seq_k (fun K3 hK3 => ?_)
    refine at_seq_k (fun K4 hK4 => ?_)
    refine at_region ?_
    refine at_v (ov_move rfl rfl) rfl rfl rfl ?_
    refine at_v (ov_len_strL rfl Tryz.underlying9 rfl) rfl rfl rfl ?_
    refine at_v (ov_int rfl rfl rfl rfl) rfl rfl rfl ?_
    refine at_nil ?_
    refine at_normal ?_
    refine hK4 _ _ _ ?_
    refine at_cond_false (congrArg (fun b => some (Value.bool b)) (show _ = false from decide_eq_false (by omega))) ?_
    refine at_skip ?_
    refine at_normal ?_
    refine hK3 _ _ _ ?_
    refine at_seq_k (fun K5 hK5 => ?_)
    refine at_seq_k (fun K6 hK6 => ?_)
    refine at_region ?_
    refine at_t (ot_call (ks := []) rfl rfl rfl Tryz.call8 rfl (T8 _) rfl) rfl rfl rfl ?_
    rintro v0 _ ⟨m0, hp0, rfl⟩
    obtain ⟨g0, hp0⟩ := hp0
    obtain ⟨rfl, rfl⟩ := hp0
    simp only [List.cons_append, List.nil_append, splice, spliceL]
    refine at_v (ov_move rfl rfl) rfl rfl rfl ?_
    refine at_fold (A := Cl g0) [0] rfl cl_new ?_
    refine at_t (ot_call (ks := [0]) rfl rfl rfl Tryz.call9 rfl (T9 _ _ (by first | assumption | rfl | omega | decide | (simp; done) | (simp at *; omega)) (by first | assumption | rfl | omega | decide | (simp; done) | (simp at *; omega))) rfl) rfl rfl rfl ?_
    rintro v0 _ ⟨m0, hp0, rfl⟩
    obtain ⟨rfl, rfl⟩ := hp0
    simp only [List.cons_append, List.nil_append, splice, spliceL]
    refine at_v (ov_int rfl rfl rfl rfl) rfl rfl rfl ?_
    refine at_nil ?_
    refine at_normal ?_
    refine hK6 _ _ _ ?_
    refine at_cond_false (congrArg (fun b => some (Value.bool b)) (show _ = false from by first | assumption | (rw [Bool.not_eq_false']; exact decide_eq_true (by omega)))) ?_
    refine at_skip ?_
    refine at_normal ?_
    refine hK5 _ _ _ ?_
    refine at_seq_k (fun K7 hK7 => ?_)
    refine at_region ?_
    refine at_v (ov_move rfl rfl) rfl rfl rfl ?_
    refine at_t (ot_call (ks := []) rfl rfl rfl Tryz.call14 rfl (hLx ) rfl) rfl rfl rfl ?_
    rintro v0 _ ⟨m0, hp0, rfl⟩
    obtain ⟨A0, hp0⟩ := hp0
    obtain ⟨c0, hp0⟩ := hp0
    obtain ⟨rfl, rfl⟩ := hp0
    simp only [List.cons_append, List.nil_append, splice, spliceL]
    refine at_v (ov_move rfl rfl) rfl rfl rfl ?_
    refine at_v (ov_extract rfl rfl rfl) rfl rfl rfl ?_
    refine at_v (ov_extract rfl rfl rfl) rfl rfl rfl ?_
    refine at_v (ov_assign rfl rfl) rfl rfl rfl ?_
    refine at_v (ov_assign rfl rfl) rfl rfl rfl ?_
    refine at_nil ?_
    refine at_normal ?_
    refine hK7 _ _ _ ?_
    refine at_seq_k (fun K8 hK8 => ?_)
    refine at_seq_k (fun K9 hK9 => ?_)
    refine at_region ?_
    refine at_v (ov_move rfl rfl) rfl rfl rfl ?_
    refine at_v (ov_int rfl rfl rfl rfl) rfl rfl rfl ?_
    refine at_nil ?_
    refine at_normal ?_
    refine hK9 _ _ _ ?_
    refine at_cond_false (congrArg (fun b => some (Value.bool b)) (show _ = false from by first | assumption | (rw [Bool.not_eq_false']; exact decide_eq_true (by omega)))) ?_
    refine at_skip ?_
    refine at_normal ?_
    refine hK8 _ _ _ ?_
    refine at_seq_k (fun K10 hK10 => ?_)
    refine at_region ?_
    refine at_v (ov_assign rfl rfl) rfl rfl rfl ?_
    refine at_v (ov_assign rfl rfl) rfl rfl rfl ?_
    refine at_nil ?_
    refine at_normal ?_
    refine hK10 _ _ _ ?_
    refine at_seq_k (fun K11 hK11 => ?_)
    refine at_seq_k (fun K12 hK12 => ?_)
    refine at_region ?_
    refine at_v (ov_move rfl rfl) rfl rfl rfl ?_
    refine at_v (ov_len_slice rfl Tryz.underlying28 rfl) rfl rfl rfl ?_
    refine at_v (ov_move rfl rfl) rfl rfl rfl ?_
    refine at_nil ?_
    refine at_normal ?_
    refine hK12 _ _ _ ?_
    refine at_block ?_
    refine at_loopE [28, 29, 30, 8, 32, 33, 34, 31, 36, 37, 38, 39, 40, 41, 42, 43, 44, 45, 46, 47, 35, 2, 49, 50, 51, 52, 53, 54, 55, 56, 48, 6, 58, 59, 60, 61, 62, 63, 64, 57, 66, 67, 65, 68, 69, 5, 70, 71, 72, 73, 74, 75, 76, 77, 78, 79, 80, 81, 82, 83, 84, 85, 86, 87, 88, 89, 90, 92, 91, 93, 94, 95, 96, 97, 98, 27] (fun i : Nat × BL × Bool => i.1 ≤ l.length ∧ scanT (l.drop i.1) i.2.1 i.2.2 = some H) (fun i => [(27, .int .i64 (i.1 : Nat)), (5, SV i.2.1), (6, SV (semi i.2.2))]) (fun i q => q) (fun i => l.length - i.1) (0, [], false) ⟨Nat.zero_le _, hH⟩ ⟨rfl, rfl, rfl, trivial⟩ (fun _ s => s) ?_
    intro ⟨k, h, b⟩ ⟨hk, hscan⟩
    simp only at hk hscan
    dsimp only
    refine at_seq_k (fun K13 hK13 => ?_)
    refine at_region ?_
    refine at_v (ov_int rfl rfl rfl rfl) rfl rfl rfl ?_
    refine at_nil ?_
    refine at_normal ?_
    refine hK13 _ _ _ ?_
    refine at_seq_k (fun K14 hK14 => ?_)
    refine at_cond rfl (fun hc => ?_) (fun hc => ?_)
    · have hlt : k < l.length := by simpa using hc
      obtain ⟨t, ht⟩ : ∃ t, l[k]? = some t := ⟨_, List.getElem?_eq_getElem hlt⟩
      have hd : l.drop k = t :: l.drop (k + 1) := by
        obtain ⟨h1, h2⟩ := List.getElem?_eq_some_iff.1 ht
        rw [List.drop_eq_getElem_cons h1, h2]
      rw [hd, scan_cons] at hscan
      by_cases h5 : t.1 = 5
      · rw [if_pos h5] at hscan
        have hi5 : decide (t.1 = 5) = true := by simp [h5]
        have hi6 : decide (t.1 = 1) = false := by simp [h5]
        refine at_skip ?_
        refine at_normal ?_
        refine hK14 _ _ _ ?_
        refine at_seq_k (fun K15 hK15 => ?_)
        refine at_block ?_
        refine at_seq_k (fun K16 hK16 => ?_)
        refine at_region ?_
        refine at_v (ov_indexRd (fun _ s => s.rd (k := 0) rfl) rfl Tryz.underlying28 rfl rfl rfl ht) rfl rfl rfl ?_
        refine at_v (ov_loadRdS (vs := [_, _]) (fun _ s => s.rd (k := 0) rfl) rfl rfl rfl ht rfl rfl) rfl rfl rfl ?_
        refine at_t (ot_allocA rfl Tryz.zeroValue33) rfl rfl rfl ?_
        rintro _ _ ⟨g1, rfl, rfl⟩
        refine at_t0 (ot_store (k := 0) rfl rfl rfl rfl rfl rfl rfl) rfl rfl ?_
        rintro _ _ ⟨rfl, rfl⟩
        simp only [setAt, splice, spliceL, Value.cells]
        refine at_nil ?_
        refine at_normal ?_
        refine hK16 _ _ _ ?_
        refine at_seq_k (fun K17 hK17 => ?_)
        refine at_block ?_
        refine at_seq_k (fun K18 hK18 => ?_)
        refine at_region ?_
        refine at_v (ov_fieldAddr (k := 0) (r := 0) rfl rfl rfl rfl) rfl rfl rfl ?_
        refine at_v (ov_load rfl rfl rfl (fun _ s => s.ld (k := 0) rfl rfl)) rfl rfl rfl ?_
        refine at_v (ov_int rfl rfl rfl rfl) rfl rfl rfl ?_
        refine at_v (ov_assign rfl rfl) rfl rfl rfl ?_
        refine at_nil ?_
        refine at_normal ?_
        refine hK18 _ _ _ ?_
        refine at_cond_true (congrArg (fun b => some (Value.bool b)) (show _ = true from decide_eq_true (by omega))) ?_
        refine at_skip ?_
        refine at_inb_normal ?_
        refine at_normal ?_
        refine hK17 _ _ _ ?_
        refine at_seq_k (fun K19 hK19 => ?_)
        refine at_region ?_
        refine at_v (ov_fieldAddr (k := 0) (r := 0) rfl rfl rfl rfl) rfl rfl rfl ?_
        refine at_v (ov_load rfl rfl rfl (fun _ s => s.ld (k := 0) rfl rfl)) rfl rfl rfl ?_
        refine at_v (ov_int rfl rfl rfl rfl) rfl rfl rfl ?_
        refine at_v (ov_move rfl rfl) rfl rfl rfl ?_
        refine at_reval 73 (.bool false) rfl (congrArg Value.bool (decide_eq_false (by omega))) ?_
        refine at_unwanted (j := 3) rfl rfl rfl rfl ?_
        refine at_unwanted (j := 3) rfl rfl rfl rfl ?_
        refine at_unwanted (j := 3) rfl rfl rfl rfl ?_
        refine at_unwantedN (j := 6) rfl rfl rfl ?_
        refine at_unwantedN (j := 6) rfl rfl rfl ?_
        refine at_unwanted (j := 3) rfl rfl rfl rfl ?_
        refine at_unwanted (j := 3) rfl rfl rfl rfl ?_
        refine at_unwantedN (j := 10) rfl rfl rfl ?_
        refine at_unwantedN (j := 10) rfl rfl rfl ?_
        refine at_unwanted (j := 3) rfl rfl rfl rfl ?_
        refine at_unwanted (j := 3) rfl rfl rfl rfl ?_
        refine at_unwantedN (j := 14) rfl rfl rfl ?_
        refine at_unwantedN (j := 14) rfl rfl rfl ?_
        refine at_unwanted (j := 3) rfl rfl rfl rfl ?_
        refine at_v (ov_pick_f rfl rfl rfl) rfl rfl rfl ?_
        refine at_nil ?_
        refine at_normal ?_
        refine hK19 _ _ _ ?_
        refine at_cond_false rfl ?_
        refine at_skip ?_
        refine at_inb_normal ?_
        refine at_normal ?_
        refine hK15 _ _ _ ?_
        refine at_region ?_
        refine at_v ((ov_int rfl rfl rfl rfl).eq (congrArg (Value.int .i64) (inK_i64 (by omega) (by omega)))) rfl rfl rfl ?_
        refine at_v (ov_move rfl rfl) rfl rfl rfl ?_
        refine at_nil ?_
        refine at_normal ?_
        refine at_roundF (k + 1, h, b) ⟨hlt, hscan⟩ (by simp only; omega) ⟨rfl, rfl, rfl, trivial⟩ rfl ?_
        exact fun _ s => s.finEq (ks := [1, 1]) (js := [0]) rfl rfl rfl
      rw [if_neg h5] at hscan
      have hi5 : decide (t.1 = 5) = false := decide_eq_false h5
      have hiB : decide (semi b = []) = !b := by cases b <;> rfl
      by_cases hsg : t = signL
      · rw [if_neg (by simp [hsg]), if_pos hsg] at hscan
        have hi6 : decide (t.1 = 6) = true := by rw [hsg]; rfl
        have hi7 : decide (t.2 = [59]) = true := by rw [hsg]; rfl
        have hi8 : decide (t.1 = 1) = false := by rw [hsg]; rfl
        cases b with
        | true =>
          refine at_skip ?_
          refine at_normal ?_
          refine hK14 _ _ _ ?_
          refine at_seq_k (fun K15 hK15 => ?_)
          refine at_block ?_
          refine at_seq_k (fun K16 hK16 => ?_)
          refine at_region ?_
          refine at_v (ov_indexRd (fun _ s => s.rd (k := 0) rfl) rfl Tryz.underlying28 rfl rfl rfl ht) rfl rfl rfl ?_
          refine at_v (ov_loadRdS (vs := [_, _]) (fun _ s => s.rd (k := 0) rfl) rfl rfl rfl ht rfl rfl) rfl rfl rfl ?_
          refine at_t (ot_allocA rfl Tryz.zeroValue33) rfl rfl rfl ?_
          rintro _ _ ⟨g1, rfl, rfl⟩
          refine at_t0 (ot_store (k := 0) rfl rfl rfl rfl rfl rfl rfl) rfl rfl ?_
          rintro _ _ ⟨rfl, rfl⟩
          simp only [setAt, splice, spliceL, Value.cells]
          refine at_nil ?_
          refine at_normal ?_
          refine hK16 _ _ _ ?_
          refine at_seq_k (fun K17 hK17 => ?_)
          refine at_block ?_
          refine at_seq_k (fun K18 hK18 => ?_)
          refine at_region ?_
          refine at_v (ov_fieldAddr (k := 0) (r := 0) rfl rfl rfl rfl) rfl rfl rfl ?_
          refine at_v (ov_load rfl rfl rfl (fun _ s => s.ld (k := 0) rfl rfl)) rfl rfl rfl ?_
          refine at_v (ov_int rfl rfl rfl rfl) rfl rfl rfl ?_
          refine at_v (ov_assign rfl rfl) rfl rfl rfl ?_
          refine at_nil ?_
          refine at_normal ?_
          refine hK18 _ _ _ ?_
          refine at_cond_false (congrArg (fun b => some (Value.bool b)) (show _ = false from decide_eq_false (by omega))) ?_
          refine at_seq_k (fun K19 hK19 => ?_)
          refine at_region ?_
          refine at_v (ov_move rfl rfl) rfl rfl rfl ?_
          refine at_v (ov_strL rfl rfl rfl rfl) rfl rfl rfl ?_
          refine at_v (ov_move rfl rfl) rfl rfl rfl ?_
          refine at_wanted (j := 2) rfl ?_
          refine at_v (ov_fieldAddr (k := 0) (r := 0) rfl rfl rfl rfl) rfl rfl rfl ?_
          refine at_wanted (j := 2) rfl ?_
          refine at_v (ov_load rfl rfl rfl (fun _ s => s.ld (k := 0) rfl rfl)) rfl rfl rfl ?_
          refine at_wanted (j := 2) rfl ?_
          refine at_v (ov_int rfl rfl rfl rfl) rfl rfl rfl ?_
          refine at_wanted (j := 2) rfl ?_
          refine at_v (ov_move rfl rfl) rfl rfl rfl ?_
          refine at_reval 42 (.bool false) rfl (congrArg Value.bool (by simp [hi1, hi2, hfin, hi3, hc, hi5, hi6, hi7, hi8, hiB]; done)) ?_
          refine at_wanted (j := 6) rfl ?_
          refine at_v (ov_fieldAddr (k := 1) (r := 1) rfl rfl rfl rfl) rfl rfl rfl ?_
          refine at_wanted (j := 6) rfl ?_
          refine at_v (ov_load rfl rfl rfl (fun _ s => s.ld (k := 0) rfl rfl)) rfl rfl rfl ?_
          refine at_wanted (j := 6) rfl ?_
          refine at_v (ov_strL rfl rfl rfl rfl) rfl rfl rfl ?_
          refine at_wanted (j := 2) rfl ?_
          refine at_v (ov_pick_f rfl rfl rfl) rfl rfl rfl ?_
          refine at_v (ov_pick_t rfl rfl rfl) rfl rfl rfl ?_
          refine at_v (ov_assign rfl rfl) rfl rfl rfl ?_
          refine at_nil ?_
          refine at_normal ?_
          refine hK19 _ _ _ ?_
          refine at_cond_false (congrArg (fun b => some (Value.bool b)) (show _ = false from by simp [hi1, hi2, hfin, hi3, hc, hi5, hi6, hi7, hi8, hiB]; done)) ?_
          refine at_seq_k (fun K20 hK20 => ?_)
          refine at_region ?_
          refine at_v (ov_fieldAddr (k := 0) (r := 0) rfl rfl rfl rfl) rfl rfl rfl ?_
          refine at_v (ov_load rfl rfl rfl (fun _ s => s.ld (k := 0) rfl rfl)) rfl rfl rfl ?_
          refine at_v (ov_int rfl rfl rfl rfl) rfl rfl rfl ?_
          refine at_v (ov_move rfl rfl) rfl rfl rfl ?_
          refine at_reval 52 (.bool true) rfl (congrArg Value.bool (by first | assumption | (rw [Bool.not_eq_true']; exact decide_eq_false (by omega)))) ?_
          refine at_wanted (j := 3) rfl ?_
          refine at_v (ov_fieldAddr (k := 1) (r := 1) rfl rfl rfl rfl) rfl rfl rfl ?_
          refine at_wanted (j := 3) rfl ?_
          refine at_v (ov_load rfl rfl rfl (fun _ s => s.ld (k := 0) rfl rfl)) rfl rfl rfl ?_
          refine at_wanted (j := 3) rfl ?_
          refine at_v (ov_strL rfl rfl rfl rfl) rfl rfl rfl ?_
          refine at_v (ov_pick_t rfl rfl rfl) rfl rfl rfl ?_
          refine at_v (ov_assign rfl rfl) rfl rfl rfl ?_
          refine at_nil ?_
          refine at_normal ?_
          refine hK20 _ _ _ ?_
          refine at_cond_true (congrArg (fun b => some (Value.bool b)) (show _ = true from by first | assumption | (rw [Bool.not_eq_true']; exact decide_eq_false (by omega)))) ?_
          refine at_region ?_
          refine at_v (ov_assign rfl rfl) rfl rfl rfl ?_
          refine at_nil ?_
          refine at_inb_normal ?_
          refine at_normal ?_
          refine hK17 _ _ _ ?_
          refine at_seq_k (fun K21 hK21 => ?_)
          refine at_region ?_
          refine at_v (ov_fieldAddr (k := 0) (r := 0) rfl rfl rfl rfl) rfl rfl rfl ?_
          refine at_v (ov_load rfl rfl rfl (fun _ s => s.ld (k := 0) rfl rfl)) rfl rfl rfl ?_
          refine at_v (ov_int rfl rfl rfl rfl) rfl rfl rfl ?_
          refine at_v (ov_move rfl rfl) rfl rfl rfl ?_
          refine at_reval 73 (.bool false) rfl (congrArg Value.bool (by first | assumption | (rw [Bool.not_eq_false']; exact decide_eq_true (by omega)))) ?_
          refine at_unwanted (j := 3) rfl rfl rfl rfl ?_
          refine at_unwanted (j := 3) rfl rfl rfl rfl ?_
          refine at_unwanted (j := 3) rfl rfl rfl rfl ?_
          refine at_unwantedN (j := 6) rfl rfl rfl ?_
          refine at_unwantedN (j := 6) rfl rfl rfl ?_
          refine at_unwanted (j := 3) rfl rfl rfl rfl ?_
          refine at_unwanted (j := 3) rfl rfl rfl rfl ?_
          refine at_unwantedN (j := 10) rfl rfl rfl ?_
          refine at_unwantedN (j := 10) rfl rfl rfl ?_
          refine at_unwanted (j := 3) rfl rfl rfl rfl ?_
          refine at_unwanted (j := 3) rfl rfl rfl rfl ?_
          refine at_unwantedN (j := 14) rfl rfl rfl ?_
          refine at_unwantedN (j := 14) rfl rfl rfl ?_
          refine at_unwanted (j := 3) rfl rfl rfl rfl ?_
          refine at_v (ov_pick_f rfl rfl rfl) rfl rfl rfl ?_
          refine at_nil ?_
          refine at_normal ?_
          refine hK21 _ _ _ ?_
          refine at_cond_false rfl ?_
          refine at_skip ?_
          refine at_inb_normal ?_
          refine at_normal ?_
          refine hK15 _ _ _ ?_
          refine at_region ?_
          refine at_v ((ov_int rfl rfl rfl rfl).eq (congrArg (Value.int .i64) (inK_i64 (by omega) (by omega)))) rfl rfl rfl ?_
          refine at_v (ov_move rfl rfl) rfl rfl rfl ?_
          refine at_nil ?_
          refine at_normal ?_
          refine at_roundF (k + 1, h, true) ⟨hlt, hscan⟩ (by simp only; omega) ⟨rfl, rfl, rfl, trivial⟩ rfl ?_
          exact fun _ s => s.finEq (ks := [1, 1]) (js := [0]) rfl rfl rfl
        | false =>
          refine at_skip ?_
          refine at_normal ?_
          refine hK14 _ _ _ ?_
          refine at_seq_k (fun K15 hK15 => ?_)
          refine at_block ?_
          refine at_seq_k (fun K16 hK16 => ?_)
          refine at_region ?_
          refine at_v (ov_indexRd (fun _ s => s.rd (k := 0) rfl) rfl Tryz.underlying28 rfl rfl rfl ht) rfl rfl rfl ?_
          refine at_v (ov_loadRdS (vs := [_, _]) (fun _ s => s.rd (k := 0) rfl) rfl rfl rfl ht rfl rfl) rfl rfl rfl ?_
          refine at_t (ot_allocA rfl Tryz.zeroValue33) rfl rfl rfl ?_
          rintro _ _ ⟨g1, rfl, rfl⟩
          refine at_t0 (ot_store (k := 0) rfl rfl rfl rfl rfl rfl rfl) rfl rfl ?_
          rintro _ _ ⟨rfl, rfl⟩
          simp only [setAt, splice, spliceL, Value.cells]
          refine at_nil ?_
          refine at_normal ?_
          refine hK16 _ _ _ ?_
          refine at_seq_k (fun K17 hK17 => ?_)
          refine at_block ?_
          refine at_seq_k (fun K18 hK18 => ?_)
          refine at_region ?_
          refine at_v (ov_fieldAddr (k := 0) (r := 0) rfl rfl rfl rfl) rfl rfl rfl ?_
          refine at_v (ov_load rfl rfl rfl (fun _ s => s.ld (k := 0) rfl rfl)) rfl rfl rfl ?_
          refine at_v (ov_int rfl rfl rfl rfl) rfl rfl rfl ?_
          refine at_v (ov_assign rfl rfl) rfl rfl rfl ?_
          refine at_nil ?_
          refine at_normal ?_
          refine hK18 _ _ _ ?_
          refine at_cond_false (congrArg (fun b => some (Value.bool b)) (show _ = false from decide_eq_false (by omega))) ?_
          refine at_seq_k (fun K19 hK19 => ?_)
          refine at_region ?_
          refine at_v (ov_move rfl rfl) rfl rfl rfl ?_
          refine at_v (ov_strL rfl rfl rfl rfl) rfl rfl rfl ?_
          refine at_v (ov_move rfl rfl) rfl rfl rfl ?_
          refine at_unwanted (j := 2) rfl rfl rfl rfl ?_
          refine at_unwanted (j := 2) rfl rfl rfl rfl ?_
          refine at_unwanted (j := 2) rfl rfl rfl rfl ?_
          refine at_unwanted (j := 2) rfl rfl rfl rfl ?_
          refine at_unwantedN (j := 6) rfl rfl rfl ?_
          refine at_unwantedN (j := 6) rfl rfl rfl ?_
          refine at_unwantedN (j := 6) rfl rfl rfl ?_
          refine at_unwanted (j := 2) rfl rfl rfl rfl ?_
          refine at_v (ov_pick_f rfl rfl rfl) rfl rfl rfl ?_
          refine at_v (ov_assign rfl rfl) rfl rfl rfl ?_
          refine at_nil ?_
          refine at_normal ?_
          refine hK19 _ _ _ ?_
          refine at_cond_false rfl ?_
          refine at_seq_k (fun K20 hK20 => ?_)
          refine at_region ?_
          refine at_v (ov_fieldAddr (k := 0) (r := 0) rfl rfl rfl rfl) rfl rfl rfl ?_
          refine at_v (ov_load rfl rfl rfl (fun _ s => s.ld (k := 0) rfl rfl)) rfl rfl rfl ?_
          refine at_v (ov_int rfl rfl rfl rfl) rfl rfl rfl ?_
          refine at_v (ov_move rfl rfl) rfl rfl rfl ?_
          refine at_reval 52 (.bool true) rfl (congrArg Value.bool (by first | assumption | (rw [Bool.not_eq_true']; exact decide_eq_false (by omega)))) ?_
          refine at_wanted (j := 3) rfl ?_
          refine at_v (ov_fieldAddr (k := 1) (r := 1) rfl rfl rfl rfl) rfl rfl rfl ?_
          refine at_wanted (j := 3) rfl ?_
          refine at_v (ov_load rfl rfl rfl (fun _ s => s.ld (k := 0) rfl rfl)) rfl rfl rfl ?_
          refine at_wanted (j := 3) rfl ?_
          refine at_v (ov_strL rfl rfl rfl rfl) rfl rfl rfl ?_
          refine at_v (ov_pick_t rfl rfl rfl) rfl rfl rfl ?_
          refine at_v (ov_assign rfl rfl) rfl rfl rfl ?_
          refine at_nil ?_
          refine at_normal ?_
          refine hK20 _ _ _ ?_
          refine at_cond_true (congrArg (fun b => some (Value.bool b)) (show _ = true from by first | assumption | (rw [Bool.not_eq_true']; exact decide_eq_false (by omega)))) ?_
          refine at_region ?_
          refine at_v (ov_assign rfl rfl) rfl rfl rfl ?_
          refine at_nil ?_
          refine at_inb_normal ?_
          refine at_normal ?_
          refine hK17 _ _ _ ?_
          refine at_seq_k (fun K21 hK21 => ?_)
          refine at_region ?_
          refine at_v (ov_fieldAddr (k := 0) (r := 0) rfl rfl rfl rfl) rfl rfl rfl ?_
          refine at_v (ov_load rfl rfl rfl (fun _ s => s.ld (k := 0) rfl rfl)) rfl rfl rfl ?_
          refine at_v (ov_int rfl rfl rfl rfl) rfl rfl rfl ?_
          refine at_v (ov_move rfl rfl) rfl rfl rfl ?_
          refine at_reval 73 (.bool false) rfl (congrArg Value.bool (by first | assumption | (rw [Bool.not_eq_false']; exact decide_eq_true (by omega)))) ?_
          refine at_unwanted (j := 3) rfl rfl rfl rfl ?_
          refine at_unwanted (j := 3) rfl rfl rfl rfl ?_
          refine at_unwanted (j := 3) rfl rfl rfl rfl ?_
          refine at_unwantedN (j := 6) rfl rfl rfl ?_
          refine at_unwantedN (j := 6) rfl rfl rfl ?_
          refine at_unwanted (j := 3) rfl rfl rfl rfl ?_
          refine at_unwanted (j := 3) rfl rfl rfl rfl ?_
          refine at_unwantedN (j := 10) rfl rfl rfl ?_
          refine at_unwantedN (j := 10) rfl rfl rfl ?_
          refine at_unwanted (j := 3) rfl rfl rfl rfl ?_
          refine at_unwanted (j := 3) rfl rfl rfl rfl ?_
          refine at_unwantedN (j := 14) rfl rfl rfl ?_
          refine at_unwantedN (j := 14) rfl rfl rfl ?_
          refine at_unwanted (j := 3) rfl rfl rfl rfl ?_
          refine at_v (ov_pick_f rfl rfl rfl) rfl rfl rfl ?_
          refine at_nil ?_
          refine at_normal ?_
          refine hK21 _ _ _ ?_
          refine at_cond_false rfl ?_
          refine at_skip ?_
          refine at_inb_normal ?_
          refine at_normal ?_
          refine hK15 _ _ _ ?_
          refine at_region ?_
          refine at_v ((ov_int rfl rfl rfl rfl).eq (congrArg (Value.int .i64) (inK_i64 (by omega) (by omega)))) rfl rfl rfl ?_
          refine at_v (ov_move rfl rfl) rfl rfl rfl ?_
          refine at_nil ?_
          refine at_normal ?_
          refine at_roundF (k + 1, h, true) ⟨hlt, hscan⟩ (by simp only; omega) ⟨rfl, rfl, rfl, trivial⟩ rfl ?_
          exact fun _ s => s.finEq (ks := [1, 1]) (js := [0]) rfl rfl rfl
      cases b with
      | true => rw [if_pos ⟨rfl, hsg⟩] at hscan; cases hscan
      | false =>
      rw [if_neg (by simp), if_neg hsg] at hscan
      by_cases hnil : h = []
      · subst hnil
        have hih : decide (([] : BL) = []) = true := rfl
        have h1w : t.1 = 1 := by
          by_cases h1w : t.1 = 1
          · exact h1w
          · rw [if_pos ⟨rfl, h1w⟩] at hscan; cases hscan
        rw [if_neg (by simp [h1w]), if_pos rfl] at hscan
        have hi1w : decide (t.1 = 1) = true := decide_eq_true h1w
        have hi6 : decide (t.1 = 6) = false := by simp [h1w]
        have hcase : (t.2 = wSELECT ∨ t.2 = wWITH ∨ t.2 = wTABLE ∨ t.2 = wVALUES) ∨ (t.2 ≠ wSELECT ∧ t.2 ≠ wWITH ∧ t.2 ≠ wTABLE ∧ t.2 ≠ wVALUES) := by
          by_cases e0 : t.2 = wSELECT
          · exact .inl (by simp [e0])
          by_cases e1 : t.2 = wWITH
          · exact .inl (by simp [e1])
          by_cases e2 : t.2 = wTABLE
          · exact .inl (by simp [e2])
          by_cases e3 : t.2 = wVALUES
          · exact .inl (by simp [e3])
          exact .inr ⟨e0, e1, e2, e3⟩
        rcases hcase with hcase | hcase
        · have hin : headsW.contains t.2 = true := by rcases hcase with e | e | e | e <;> rw [e] <;> decide
          have hw : writesW.contains t.2 = false := by
            cases hw : writesW.contains t.2 with
            | false => rfl
            | true => rw [if_pos ⟨h1w, hin, hw⟩] at hscan; cases hscan
          rw [if_neg (by rw [hw]; simp)] at hscan
          obtain ⟨n0, n1, n2, n3, n4, n5⟩ : t.2 ≠ wINSERT ∧ t.2 ≠ wUPDATE ∧ t.2 ≠ wDELETE ∧ t.2 ≠ wREPLACE ∧ t.2 ≠ wINTO ∧ t.2 ≠ wSHARE := by simpa [writesW] using hw
          have hiw0 : decide (t.2 = [73, 78, 83, 69, 82, 84]) = false := decide_eq_false n0
          have hiw1 : decide (t.2 = [85, 80, 68, 65, 84, 69]) = false := decide_eq_false n1
          have hiw2 : decide (t.2 = [68, 69, 76, 69, 84, 69]) = false := decide_eq_false n2
          have hiw3 : decide (t.2 = [82, 69, 80, 76, 65, 67, 69]) = false := decide_eq_false n3
          have hiw4 : decide (t.2 = [73, 78, 84, 79]) = false := decide_eq_false n4
          have hiw5 : decide (t.2 = [83, 72, 65, 82, 69]) = false := decide_eq_false n5
          rcases hcase with e | e | e | e
          · have hih0 : decide (t.2 = [83, 69, 76, 69, 67, 84]) = true := by rw [e]; decide
            refine at_skip ?_
            refine at_normal ?_
            refine hK14 _ _ _ ?_
            refine at_seq_k (fun K15 hK15 => ?_)
            refine at_block ?_
            refine at_seq_k (fun K16 hK16 => ?_)
            refine at_region ?_
            refine at_v (ov_indexRd (fun _ s => s.rd (k := 0) rfl) rfl Tryz.underlying28 rfl rfl rfl ht) rfl rfl rfl ?_
            refine at_v (ov_loadRdS (vs := [_, _]) (fun _ s => s.rd (k := 0) rfl) rfl rfl rfl ht rfl rfl) rfl rfl rfl ?_
            refine at_t (ot_allocA rfl Tryz.zeroValue33) rfl rfl rfl ?_
            rintro _ _ ⟨g1, rfl, rfl⟩
            refine at_t0 (ot_store (k := 0) rfl rfl rfl rfl rfl rfl rfl) rfl rfl ?_
            rintro _ _ ⟨rfl, rfl⟩
            simp only [setAt, splice, spliceL, Value.cells]
            refine at_nil ?_
            refine at_normal ?_
            refine hK16 _ _ _ ?_
            refine at_seq_k (fun K17 hK17 => ?_)
            refine at_block ?_
            refine at_seq_k (fun K18 hK18 => ?_)
            refine at_region ?_
            refine at_v (ov_fieldAddr (k := 0) (r := 0) rfl rfl rfl rfl) rfl rfl rfl ?_
            refine at_v (ov_load rfl rfl rfl (fun _ s => s.ld (k := 0) rfl rfl)) rfl rfl rfl ?_
            refine at_v (ov_int rfl rfl rfl rfl) rfl rfl rfl ?_
            refine at_v (ov_assign rfl rfl) rfl rfl rfl ?_
            refine at_nil ?_
            refine at_normal ?_
            refine hK18 _ _ _ ?_
            refine at_cond_false (congrArg (fun b => some (Value.bool b)) (show _ = false from decide_eq_false (by omega))) ?_
            refine at_seq_k (fun K19 hK19 => ?_)
            refine at_region ?_
            refine at_v (ov_move rfl rfl) rfl rfl rfl ?_
            refine at_v (ov_strL rfl rfl rfl rfl) rfl rfl rfl ?_
            refine at_v (ov_move rfl rfl) rfl rfl rfl ?_
            refine at_unwanted (j := 2) rfl rfl rfl rfl ?_
            refine at_unwanted (j := 2) rfl rfl rfl rfl ?_
            refine at_unwanted (j := 2) rfl rfl rfl rfl ?_
            refine at_unwanted (j := 2) rfl rfl rfl rfl ?_
            refine at_unwantedN (j := 6) rfl rfl rfl ?_
            refine at_unwantedN (j := 6) rfl rfl rfl ?_
            refine at_unwantedN (j := 6) rfl rfl rfl ?_
            refine at_unwanted (j := 2) rfl rfl rfl rfl ?_
            refine at_v (ov_pick_f rfl rfl rfl) rfl rfl rfl ?_
            refine at_v (ov_assign rfl rfl) rfl rfl rfl ?_
            refine at_nil ?_
            refine at_normal ?_
            refine hK19 _ _ _ ?_
            refine at_cond_false rfl ?_
            refine at_seq_k (fun K20 hK20 => ?_)
            refine at_region ?_
            refine at_v (ov_fieldAddr (k := 0) (r := 0) rfl rfl rfl rfl) rfl rfl rfl ?_
            refine at_v (ov_load rfl rfl rfl (fun _ s => s.ld (k := 0) rfl rfl)) rfl rfl rfl ?_
            refine at_v (ov_int rfl rfl rfl rfl) rfl rfl rfl ?_
            refine at_v (ov_move rfl rfl) rfl rfl rfl ?_
            refine at_reval 52 (.bool false) rfl (congrArg Value.bool (decide_eq_false (by omega))) ?_
            refine at_unwanted (j := 3) rfl rfl rfl rfl ?_
            refine at_unwanted (j := 3) rfl rfl rfl rfl ?_
            refine at_unwanted (j := 3) rfl rfl rfl rfl ?_
            refine at_v (ov_pick_f rfl rfl rfl) rfl rfl rfl ?_
            refine at_v (ov_assign rfl rfl) rfl rfl rfl ?_
            refine at_nil ?_
            refine at_normal ?_
            refine hK20 _ _ _ ?_
            refine at_cond_false rfl ?_
            refine at_seq_k (fun K21 hK21 => ?_)
            refine at_region ?_
            refine at_v (ov_move rfl rfl) rfl rfl rfl ?_
            refine at_v (ov_strL rfl rfl rfl rfl) rfl rfl rfl ?_
            refine at_v (ov_move rfl rfl) rfl rfl rfl ?_
            refine at_wanted (j := 2) rfl ?_
            refine at_v (ov_fieldAddr (k := 0) (r := 0) rfl rfl rfl rfl) rfl rfl rfl ?_
            refine at_wanted (j := 2) rfl ?_
            refine at_v (ov_load rfl rfl rfl (fun _ s => s.ld (k := 0) rfl rfl)) rfl rfl rfl ?_
            refine at_wanted (j := 2) rfl ?_
            refine at_v (ov_int rfl rfl rfl rfl) rfl rfl rfl ?_
            refine at_v (ov_pick_t rfl rfl rfl) rfl rfl rfl ?_
            refine at_v (ov_assign rfl rfl) rfl rfl rfl ?_
            refine at_nil ?_
            refine at_normal ?_
            refine hK21 _ _ _ ?_
            refine at_cond_false (congrArg (fun b => some (Value.bool b)) (show _ = false from by first | assumption | (rw [Bool.not_eq_false']; exact decide_eq_true (by omega)))) ?_
            refine at_seq_k (fun K22 hK22 => ?_)
            refine at_region ?_
            refine at_v (ov_move rfl rfl) rfl rfl rfl ?_
            refine at_v (ov_strL rfl rfl rfl rfl) rfl rfl rfl ?_
            refine at_v (ov_assign rfl rfl) rfl rfl rfl ?_
            refine at_nil ?_
            refine at_normal ?_
            refine hK22 _ _ _ ?_
            refine at_cond_true rfl ?_
            refine at_region ?_
            refine at_v (ov_fieldAddr (k := 1) (r := 1) rfl rfl rfl rfl) rfl rfl rfl ?_
            refine at_v (ov_load rfl rfl rfl (fun _ s => s.ld (k := 0) rfl rfl)) rfl rfl rfl ?_
            refine at_v (ov_assign rfl rfl) rfl rfl rfl ?_
            refine at_nil ?_
            refine at_inb_normal ?_
            refine at_normal ?_
            refine hK17 _ _ _ ?_
            refine at_seq_k (fun K23 hK23 => ?_)
            refine at_region ?_
            refine at_v (ov_fieldAddr (k := 0) (r := 0) rfl rfl rfl rfl) rfl rfl rfl ?_
            refine at_v (ov_load rfl rfl rfl (fun _ s => s.ld (k := 0) rfl rfl)) rfl rfl rfl ?_
            refine at_v (ov_int rfl rfl rfl rfl) rfl rfl rfl ?_
            refine at_v (ov_move rfl rfl) rfl rfl rfl ?_
            refine at_reval 73 (.bool true) rfl (congrArg Value.bool (decide_eq_true (by omega))) ?_
            refine at_wanted (j := 3) rfl ?_
            refine at_v (ov_move rfl rfl) rfl rfl rfl ?_
            refine at_wanted (j := 3) rfl ?_
            refine at_v (ov_strL rfl rfl rfl rfl) rfl rfl rfl ?_
            refine at_wanted (j := 3) rfl ?_
            refine at_v (ov_move rfl rfl) rfl rfl rfl ?_
            refine at_reval 76 (.bool true) rfl (congrArg Value.bool (by first | assumption | (rw [Bool.not_eq_true']; exact decide_eq_false (by omega)))) ?_
            refine at_unwanted (j := 6) rfl rfl rfl rfl ?_
            refine at_unwanted (j := 6) rfl rfl rfl rfl ?_
            refine at_wanted (j := 3) rfl ?_
            refine at_v (ov_pick_t rfl rfl rfl) rfl rfl rfl ?_
            refine at_wanted (j := 3) rfl ?_
            refine at_v (ov_move rfl rfl) rfl rfl rfl ?_
            refine at_unwanted (j := 10) rfl rfl rfl rfl ?_
            refine at_unwanted (j := 10) rfl rfl rfl rfl ?_
            refine at_wanted (j := 3) rfl ?_
            refine at_v (ov_pick_t rfl rfl rfl) rfl rfl rfl ?_
            refine at_wanted (j := 3) rfl ?_
            refine at_v (ov_move rfl rfl) rfl rfl rfl ?_
            refine at_unwanted (j := 14) rfl rfl rfl rfl ?_
            refine at_unwanted (j := 14) rfl rfl rfl rfl ?_
            refine at_wanted (j := 3) rfl ?_
            refine at_v (ov_pick_t rfl rfl rfl) rfl rfl rfl ?_
            refine at_v (ov_pick_t rfl rfl rfl) rfl rfl rfl ?_
            refine at_nil ?_
            refine at_normal ?_
            refine hK23 _ _ _ ?_
            refine at_cond_true rfl ?_
            refine at_seq_k (fun K24 hK24 => ?_)
            refine at_region ?_
            refine at_v (ov_fieldAddr (k := 1) (r := 1) rfl rfl rfl rfl) rfl rfl rfl ?_
            refine at_v (ov_load rfl rfl rfl (fun _ s => s.ld (k := 0) rfl rfl)) rfl rfl rfl ?_
            refine at_nil ?_
            refine at_normal ?_
            refine hK24 _ _ _ ?_
            refine at_block ?_
            refine at_seq_k (fun K25 hK25 => ?_)
            refine at_seq_k (fun K26 hK26 => ?_)
            refine at_region ?_
            refine at_v (ov_strL rfl rfl rfl rfl) rfl rfl rfl ?_
            refine at_v (ov_assign rfl rfl) rfl rfl rfl ?_
            refine at_nil ?_
            refine at_normal ?_
            refine hK26 _ _ _ ?_
            refine at_cond_false (congrArg (fun b => some (Value.bool b)) (show _ = false from by first | assumption | (rw [Bool.not_eq_false']; exact decide_eq_true (by omega)))) ?_
            refine at_seq_k (fun K27 hK27 => ?_)
            refine at_region ?_
            refine at_v (ov_strL rfl rfl rfl rfl) rfl rfl rfl ?_
            refine at_v (ov_assign rfl rfl) rfl rfl rfl ?_
            refine at_nil ?_
            refine at_normal ?_
            refine hK27 _ _ _ ?_
            refine at_cond_false (congrArg (fun b => some (Value.bool b)) (show _ = false from by first | assumption | (rw [Bool.not_eq_false']; exact decide_eq_true (by omega)))) ?_
            refine at_seq_k (fun K28 hK28 => ?_)
            refine at_region ?_
            refine at_v (ov_strL rfl rfl rfl rfl) rfl rfl rfl ?_
            refine at_v (ov_assign rfl rfl) rfl rfl rfl ?_
            refine at_nil ?_
            refine at_normal ?_
            refine hK28 _ _ _ ?_
            refine at_cond_false (congrArg (fun b => some (Value.bool b)) (show _ = false from by first | assumption | (rw [Bool.not_eq_false']; exact decide_eq_true (by omega)))) ?_
            refine at_seq_k (fun K29 hK29 => ?_)
            refine at_region ?_
            refine at_v (ov_strL rfl rfl rfl rfl) rfl rfl rfl ?_
            refine at_v (ov_assign rfl rfl) rfl rfl rfl ?_
            refine at_nil ?_
            refine at_normal ?_
            refine hK29 _ _ _ ?_
            refine at_cond_false (congrArg (fun b => some (Value.bool b)) (show _ = false from by first | assumption | (rw [Bool.not_eq_false']; exact decide_eq_true (by omega)))) ?_
            refine at_seq_k (fun K30 hK30 => ?_)
            refine at_region ?_
            refine at_v (ov_strL rfl rfl rfl rfl) rfl rfl rfl ?_
            refine at_v (ov_assign rfl rfl) rfl rfl rfl ?_
            refine at_nil ?_
            refine at_normal ?_
            refine hK30 _ _ _ ?_
            refine at_cond_false (congrArg (fun b => some (Value.bool b)) (show _ = false from by first | assumption | (rw [Bool.not_eq_false']; exact decide_eq_true (by omega)))) ?_
            refine at_region ?_
            refine at_v (ov_strL rfl rfl rfl rfl) rfl rfl rfl ?_
            refine at_v (ov_assign rfl rfl) rfl rfl rfl ?_
            refine at_nil ?_
            refine at_normal ?_
            refine hK25 _ _ _ ?_
            refine at_cond_false (congrArg (fun b => some (Value.bool b)) (show _ = false from by first | assumption | (rw [Bool.not_eq_false']; exact decide_eq_true (by omega)))) ?_
            refine at_skip ?_
            refine at_inb_normal ?_
            refine at_inb_normal ?_
            refine at_normal ?_
            refine hK15 _ _ _ ?_
            refine at_region ?_
            refine at_v ((ov_int rfl rfl rfl rfl).eq (congrArg (Value.int .i64) (inK_i64 (by omega) (by omega)))) rfl rfl rfl ?_
            refine at_v (ov_move rfl rfl) rfl rfl rfl ?_
            refine at_nil ?_
            refine at_normal ?_
            refine at_roundF (k + 1, t.2, false) ⟨hlt, hscan⟩ (by simp only; omega) ⟨rfl, rfl, rfl, trivial⟩ rfl ?_
            exact fun _ s => s.finEq (ks := [1, 1]) (js := [0]) rfl rfl rfl
          · have hih0 : decide (t.2 = [83, 69, 76, 69, 67, 84]) = false := by rw [e]; decide
            have hih1 : decide (t.2 = [87, 73, 84, 72]) = true := by rw [e]; decide
            refine at_skip ?_
            refine at_normal ?_
            refine hK14 _ _ _ ?_
            refine at_seq_k (fun K15 hK15 => ?_)
            refine at_block ?_
            refine at_seq_k (fun K16 hK16 => ?_)
            refine at_region ?_
            refine at_v (ov_indexRd (fun _ s => s.rd (k := 0) rfl) rfl Tryz.underlying28 rfl rfl rfl ht) rfl rfl rfl ?_
            refine at_v (ov_loadRdS (vs := [_, _]) (fun _ s => s.rd (k := 0) rfl) rfl rfl rfl ht rfl rfl) rfl rfl rfl ?_
            refine at_t (ot_allocA rfl Tryz.zeroValue33) rfl rfl rfl ?_
            rintro _ _ ⟨g1, rfl, rfl⟩
            refine at_t0 (ot_store (k := 0) rfl rfl rfl rfl rfl rfl rfl) rfl rfl ?_
            rintro _ _ ⟨rfl, rfl⟩
            simp only [setAt, splice, spliceL, Value.cells]
            refine at_nil ?_
            refine at_normal ?_
            refine hK16 _ _ _ ?_
            refine at_seq_k (fun K17 hK17 => ?_)
            refine at_block ?_
            refine at_seq_k (fun K18 hK18 => ?_)
            refine at_region ?_
            refine at_v (ov_fieldAddr (k := 0) (r := 0) rfl rfl rfl rfl) rfl rfl rfl ?_
            refine at_v (ov_load rfl rfl rfl (fun _ s => s.ld (k := 0) rfl rfl)) rfl rfl rfl ?_
            refine at_v (ov_int rfl rfl rfl rfl) rfl rfl rfl ?_
            refine at_v (ov_assign rfl rfl) rfl rfl rfl ?_
            refine at_nil ?_
            refine at_normal ?_
            refine hK18 _ _ _ ?_
            refine at_cond_false (congrArg (fun b => some (Value.bool b)) (show _ = false from decide_eq_false (by omega))) ?_
            refine at_seq_k (fun K19 hK19 => ?_)
            refine at_region ?_
            refine at_v (ov_move rfl rfl) rfl rfl rfl ?_
            refine at_v (ov_strL rfl rfl rfl rfl) rfl rfl rfl ?_
            refine at_v (ov_move rfl rfl) rfl rfl rfl ?_
            refine at_unwanted (j := 2) rfl rfl rfl rfl ?_
            refine at_unwanted (j := 2) rfl rfl rfl rfl ?_
            refine at_unwanted (j := 2) rfl rfl rfl rfl ?_
            refine at_unwanted (j := 2) rfl rfl rfl rfl ?_
            refine at_unwantedN (j := 6) rfl rfl rfl ?_
            refine at_unwantedN (j := 6) rfl rfl rfl ?_
            refine at_unwantedN (j := 6) rfl rfl rfl ?_
            refine at_unwanted (j := 2) rfl rfl rfl rfl ?_
            refine at_v (ov_pick_f rfl rfl rfl) rfl rfl rfl ?_
            refine at_v (ov_assign rfl rfl) rfl rfl rfl ?_
            refine at_nil ?_
            refine at_normal ?_
            refine hK19 _ _ _ ?_
            refine at_cond_false rfl ?_
            refine at_seq_k (fun K20 hK20 => ?_)
            refine at_region ?_
            refine at_v (ov_fieldAddr (k := 0) (r := 0) rfl rfl rfl rfl) rfl rfl rfl ?_
            refine at_v (ov_load rfl rfl rfl (fun _ s => s.ld (k := 0) rfl rfl)) rfl rfl rfl ?_
            refine at_v (ov_int rfl rfl rfl rfl) rfl rfl rfl ?_
            refine at_v (ov_move rfl rfl) rfl rfl rfl ?_
            refine at_reval 52 (.bool false) rfl (congrArg Value.bool (decide_eq_false (by omega))) ?_
            refine at_unwanted (j := 3) rfl rfl rfl rfl ?_
            refine at_unwanted (j := 3) rfl rfl rfl rfl ?_
            refine at_unwanted (j := 3) rfl rfl rfl rfl ?_
            refine at_v (ov_pick_f rfl rfl rfl) rfl rfl rfl ?_
            refine at_v (ov_assign rfl rfl) rfl rfl rfl ?_
            refine at_nil ?_
            refine at_normal ?_
            refine hK20 _ _ _ ?_
            refine at_cond_false rfl ?_
            refine at_seq_k (fun K21 hK21 => ?_)
            refine at_region ?_
            refine at_v (ov_move rfl rfl) rfl rfl rfl ?_
            refine at_v (ov_strL rfl rfl rfl rfl) rfl rfl rfl ?_
            refine at_v (ov_move rfl rfl) rfl rfl rfl ?_
            refine at_wanted (j := 2) rfl ?_
            refine at_v (ov_fieldAddr (k := 0) (r := 0) rfl rfl rfl rfl) rfl rfl rfl ?_
            refine at_wanted (j := 2) rfl ?_
            refine at_v (ov_load rfl rfl rfl (fun _ s => s.ld (k := 0) rfl rfl)) rfl rfl rfl ?_
            refine at_wanted (j := 2) rfl ?_
            refine at_v (ov_int rfl rfl rfl rfl) rfl rfl rfl ?_
            refine at_v (ov_pick_t rfl rfl rfl) rfl rfl rfl ?_
            refine at_v (ov_assign rfl rfl) rfl rfl rfl ?_
            refine at_nil ?_
            refine at_normal ?_
            refine hK21 _ _ _ ?_
            refine at_cond_false (congrArg (fun b => some (Value.bool b)) (show _ = false from by first | assumption | (rw [Bool.not_eq_false']; exact decide_eq_true (by omega)))) ?_
            refine at_seq_k (fun K22 hK22 => ?_)
            refine at_region ?_
            refine at_v (ov_move rfl rfl) rfl rfl rfl ?_
            refine at_v (ov_strL rfl rfl rfl rfl) rfl rfl rfl ?_
            refine at_v (ov_assign rfl rfl) rfl rfl rfl ?_
            refine at_nil ?_
            refine at_normal ?_
            refine hK22 _ _ _ ?_
            refine at_cond_true rfl ?_
            refine at_region ?_
            refine at_v (ov_fieldAddr (k := 1) (r := 1) rfl rfl rfl rfl) rfl rfl rfl ?_
            refine at_v (ov_load rfl rfl rfl (fun _ s => s.ld (k := 0) rfl rfl)) rfl rfl rfl ?_
            refine at_v (ov_assign rfl rfl) rfl rfl rfl ?_
            refine at_nil ?_
            refine at_inb_normal ?_
            refine at_normal ?_
            refine hK17 _ _ _ ?_
            refine at_seq_k (fun K23 hK23 => ?_)
            refine at_region ?_
            refine at_v (ov_fieldAddr (k := 0) (r := 0) rfl rfl rfl rfl) rfl rfl rfl ?_
            refine at_v (ov_load rfl rfl rfl (fun _ s => s.ld (k := 0) rfl rfl)) rfl rfl rfl ?_
            refine at_v (ov_int rfl rfl rfl rfl) rfl rfl rfl ?_
            refine at_v (ov_move rfl rfl) rfl rfl rfl ?_
            refine at_reval 73 (.bool true) rfl (congrArg Value.bool (decide_eq_true (by omega))) ?_
            refine at_wanted (j := 3) rfl ?_
            refine at_v (ov_move rfl rfl) rfl rfl rfl ?_
            refine at_wanted (j := 3) rfl ?_
            refine at_v (ov_strL rfl rfl rfl rfl) rfl rfl rfl ?_
            refine at_wanted (j := 3) rfl ?_
            refine at_v (ov_move rfl rfl) rfl rfl rfl ?_
            refine at_reval 76 (.bool false) rfl (congrArg Value.bool (by first | assumption | (rw [Bool.not_eq_false']; exact decide_eq_true (by omega)))) ?_
            refine at_wanted (j := 6) rfl ?_
            refine at_v (ov_move rfl rfl) rfl rfl rfl ?_
            refine at_wanted (j := 6) rfl ?_
            refine at_v (ov_strL rfl rfl rfl rfl) rfl rfl rfl ?_
            refine at_wanted (j := 3) rfl ?_
            refine at_v (ov_pick_f rfl rfl rfl) rfl rfl rfl ?_
            refine at_wanted (j := 3) rfl ?_
            refine at_v (ov_move rfl rfl) rfl rfl rfl ?_
            refine at_reval 80 (.bool true) rfl (congrArg Value.bool (by first | assumption | (rw [Bool.not_eq_true']; exact decide_eq_false (by omega)))) ?_
            refine at_unwanted (j := 10) rfl rfl rfl rfl ?_
            refine at_unwanted (j := 10) rfl rfl rfl rfl ?_
            refine at_wanted (j := 3) rfl ?_
            refine at_v (ov_pick_t rfl rfl rfl) rfl rfl rfl ?_
            refine at_wanted (j := 3) rfl ?_
            refine at_v (ov_move rfl rfl) rfl rfl rfl ?_
            refine at_unwanted (j := 14) rfl rfl rfl rfl ?_
            refine at_unwanted (j := 14) rfl rfl rfl rfl ?_
            refine at_wanted (j := 3) rfl ?_
            refine at_v (ov_pick_t rfl rfl rfl) rfl rfl rfl ?_
            refine at_v (ov_pick_t rfl rfl rfl) rfl rfl rfl ?_
            refine at_nil ?_
            refine at_normal ?_
            refine hK23 _ _ _ ?_
            refine at_cond_true rfl ?_
            refine at_seq_k (fun K24 hK24 => ?_)
            refine at_region ?_
            refine at_v (ov_fieldAddr (k := 1) (r := 1) rfl rfl rfl rfl) rfl rfl rfl ?_
            refine at_v (ov_load rfl rfl rfl (fun _ s => s.ld (k := 0) rfl rfl)) rfl rfl rfl ?_
            refine at_nil ?_
            refine at_normal ?_
            refine hK24 _ _ _ ?_
            refine at_block ?_
            refine at_seq_k (fun K25 hK25 => ?_)
            refine at_seq_k (fun K26 hK26 => ?_)
            refine at_region ?_
            refine at_v (ov_strL rfl rfl rfl rfl) rfl rfl rfl ?_
            refine at_v (ov_assign rfl rfl) rfl rfl rfl ?_
            refine at_nil ?_
            refine at_normal ?_
            refine hK26 _ _ _ ?_
            refine at_cond_false (congrArg (fun b => some (Value.bool b)) (show _ = false from by first | assumption | (rw [Bool.not_eq_false']; exact decide_eq_true (by omega)))) ?_
            refine at_seq_k (fun K27 hK27 => ?_)
            refine at_region ?_
            refine at_v (ov_strL rfl rfl rfl rfl) rfl rfl rfl ?_
            refine at_v (ov_assign rfl rfl) rfl rfl rfl ?_
            refine at_nil ?_
            refine at_normal ?_
            refine hK27 _ _ _ ?_
            refine at_cond_false (congrArg (fun b => some (Value.bool b)) (show _ = false from by first | assumption | (rw [Bool.not_eq_false']; exact decide_eq_true (by omega)))) ?_
            refine at_seq_k (fun K28 hK28 => ?_)
            refine at_region ?_
            refine at_v (ov_strL rfl rfl rfl rfl) rfl rfl rfl ?_
            refine at_v (ov_assign rfl rfl) rfl rfl rfl ?_
            refine at_nil ?_
            refine at_normal ?_
            refine hK28 _ _ _ ?_
            refine at_cond_false (congrArg (fun b => some (Value.bool b)) (show _ = false from by first | assumption | (rw [Bool.not_eq_false']; exact decide_eq_true (by omega)))) ?_
            refine at_seq_k (fun K29 hK29 => ?_)
            refine at_region ?_
            refine at_v (ov_strL rfl rfl rfl rfl) rfl rfl rfl ?_
            refine at_v (ov_assign rfl rfl) rfl rfl rfl ?_
            refine at_nil ?_
            refine at_normal ?_
            refine hK29 _ _ _ ?_
            refine at_cond_false (congrArg (fun b => some (Value.bool b)) (show _ = false from by first | assumption | (rw [Bool.not_eq_false']; exact decide_eq_true (by omega)))) ?_
            refine at_seq_k (fun K30 hK30 => ?_)
            refine at_region ?_
            refine at_v (ov_strL rfl rfl rfl rfl) rfl rfl rfl ?_
            refine at_v (ov_assign rfl rfl) rfl rfl rfl ?_
            refine at_nil ?_
            refine at_normal ?_
            refine hK30 _ _ _ ?_
            refine at_cond_false (congrArg (fun b => some (Value.bool b)) (show _ = false from by first | assumption | (rw [Bool.not_eq_false']; exact decide_eq_true (by omega)))) ?_
            refine at_region ?_
            refine at_v (ov_strL rfl rfl rfl rfl) rfl rfl rfl ?_
            refine at_v (ov_assign rfl rfl) rfl rfl rfl ?_
            refine at_nil ?_
            refine at_normal ?_
            refine hK25 _ _ _ ?_
            refine at_cond_false (congrArg (fun b => some (Value.bool b)) (show _ = false from by first | assumption | (rw [Bool.not_eq_false']; exact decide_eq_true (by omega)))) ?_
            refine at_skip ?_
            refine at_inb_normal ?_
            refine at_inb_normal ?_
            refine at_normal ?_
            refine hK15 _ _ _ ?_
            refine at_region ?_
            refine at_v ((ov_int rfl rfl rfl rfl).eq (congrArg (Value.int .i64) (inK_i64 (by omega) (by omega)))) rfl rfl rfl ?_
            refine at_v (ov_move rfl rfl) rfl rfl rfl ?_
            refine at_nil ?_
            refine at_normal ?_
            refine at_roundF (k + 1, t.2, false) ⟨hlt, hscan⟩ (by simp only; omega) ⟨rfl, rfl, rfl, trivial⟩ rfl ?_
            exact fun _ s => s.finEq (ks := [1, 1]) (js := [0]) rfl rfl rfl
          · have hih0 : decide (t.2 = [83, 69, 76, 69, 67, 84]) = false := by rw [e]; decide
            have hih1 : decide (t.2 = [87, 73, 84, 72]) = false := by rw [e]; decide
            have hih2 : decide (t.2 = [84, 65, 66, 76, 69]) = true := by rw [e]; decide
            refine at_skip ?_
            refine at_normal ?_
            refine hK14 _ _ _ ?_
            refine at_seq_k (fun K15 hK15 => ?_)
            refine at_block ?_
            refine at_seq_k (fun K16 hK16 => ?_)
            refine at_region ?_
            refine at_v (ov_indexRd (fun _ s => s.rd (k := 0) rfl) rfl Tryz.underlying28 rfl rfl rfl ht) rfl rfl rfl ?_
            refine at_v (ov_loadRdS (vs := [_, _]) (fun _ s => s.rd (k := 0) rfl) rfl rfl rfl ht rfl rfl) rfl rfl rfl ?_
            refine at_t (ot_allocA rfl Tryz.zeroValue33) rfl rfl rfl ?_
            rintro _ _ ⟨g1, rfl, rfl⟩
            refine at_t0 (ot_store (k := 0) rfl rfl rfl rfl rfl rfl rfl) rfl rfl ?_
            rintro _ _ ⟨rfl, rfl⟩
            simp only [setAt, splice, spliceL, Value.cells]
            refine at_nil ?_
            refine at_normal ?_
            refine hK16 _ _ _ ?_
            refine at_seq_k (fun K17 hK17 => ?_)
            refine at_block ?_
            refine at_seq_k (fun K18 hK18 => ?_)
            refine at_region ?_
            refine at_v (ov_fieldAddr (k := 0) (r := 0) rfl rfl rfl rfl) rfl rfl rfl ?_
            refine at_v (ov_load rfl rfl rfl (fun _ s => s.ld (k := 0) rfl rfl)) rfl rfl rfl ?_
            refine at_v (ov_int rfl rfl rfl rfl) rfl rfl rfl ?_
            refine at_v (ov_assign rfl rfl) rfl rfl rfl ?_
            refine at_nil ?_
            refine at_normal ?_
            refine hK18 _ _ _ ?_
            refine at_cond_false (congrArg (fun b => some (Value.bool b)) (show _ = false from decide_eq_false (by omega))) ?_
            refine at_seq_k (fun K19 hK19 => ?_)
            refine at_region ?_
            refine at_v (ov_move rfl rfl) rfl rfl rfl ?_
            refine at_v (ov_strL rfl rfl rfl rfl) rfl rfl rfl ?_
            refine at_v (ov_move rfl rfl) rfl rfl rfl ?_
            refine at_unwanted (j := 2) rfl rfl rfl rfl ?_
            refine at_unwanted (j := 2) rfl rfl rfl rfl ?_
            refine at_unwanted (j := 2) rfl rfl rfl rfl ?_
            refine at_unwanted (j := 2) rfl rfl rfl rfl ?_
            refine at_unwantedN (j := 6) rfl rfl rfl ?_
            refine at_unwantedN (j := 6) rfl rfl rfl ?_
            refine at_unwantedN (j := 6) rfl rfl rfl ?_
            refine at_unwanted (j := 2) rfl rfl rfl rfl ?_
            refine at_v (ov_pick_f rfl rfl rfl) rfl rfl rfl ?_
            refine at_v (ov_assign rfl rfl) rfl rfl rfl ?_
            refine at_nil ?_
            refine at_normal ?_
            refine hK19 _ _ _ ?_
            refine at_cond_false rfl ?_
            refine at_seq_k (fun K20 hK20 => ?_)
            refine at_region ?_
            refine at_v (ov_fieldAddr (k := 0) (r := 0) rfl rfl rfl rfl) rfl rfl rfl ?_
            refine at_v (ov_load rfl rfl rfl (fun _ s => s.ld (k := 0) rfl rfl)) rfl rfl rfl ?_
            refine at_v (ov_int rfl rfl rfl rfl) rfl rfl rfl ?_
            refine at_v (ov_move rfl rfl) rfl rfl rfl ?_
            refine at_reval 52 (.bool false) rfl (congrArg Value.bool (decide_eq_false (by omega))) ?_
            refine at_unwanted (j := 3) rfl rfl rfl rfl ?_
            refine at_unwanted (j := 3) rfl rfl rfl rfl ?_
            refine at_unwanted (j := 3) rfl rfl rfl rfl ?_
            refine at_v (ov_pick_f rfl rfl rfl) rfl rfl rfl ?_
            refine at_v (ov_assign rfl rfl) rfl rfl rfl ?_
            refine at_nil ?_
            refine at_normal ?_
            refine hK20 _ _ _ ?_
            refine at_cond_false rfl ?_
            refine at_seq_k (fun K21 hK21 => ?_)
            refine at_region ?_
            refine at_v (ov_move rfl rfl) rfl rfl rfl ?_
            refine at_v (ov_strL rfl rfl rfl rfl) rfl rfl rfl ?_
            refine at_v (ov_move rfl rfl) rfl rfl rfl ?_
            refine at_wanted (j := 2) rfl ?_
            refine at_v (ov_fieldAddr (k := 0) (r := 0) rfl rfl rfl rfl) rfl rfl rfl ?_
            refine at_wanted (j := 2) rfl ?_
            refine at_v (ov_load rfl rfl rfl (fun _ s => s.ld (k := 0) rfl rfl)) rfl rfl rfl ?_
            refine at_wanted (j := 2) rfl ?_
            refine at_v (ov_int rfl rfl rfl rfl) rfl rfl rfl ?_
            refine at_v (ov_pick_t rfl rfl rfl) rfl rfl rfl ?_
            refine at_v (ov_assign rfl rfl) rfl rfl rfl ?_
            refine at_nil ?_
            refine at_normal ?_
            refine hK21 _ _ _ ?_
            refine at_cond_false (congrArg (fun b => some (Value.bool b)) (show _ = false from by first | assumption | (rw [Bool.not_eq_false']; exact decide_eq_true (by omega)))) ?_
            refine at_seq_k (fun K22 hK22 => ?_)
            refine at_region ?_
            refine at_v (ov_move rfl rfl) rfl rfl rfl ?_
            refine at_v (ov_strL rfl rfl rfl rfl) rfl rfl rfl ?_
            refine at_v (ov_assign rfl rfl) rfl rfl rfl ?_
            refine at_nil ?_
            refine at_normal ?_
            refine hK22 _ _ _ ?_
            refine at_cond_true rfl ?_
            refine at_region ?_
            refine at_v (ov_fieldAddr (k := 1) (r := 1) rfl rfl rfl rfl) rfl rfl rfl ?_
            refine at_v (ov_load rfl rfl rfl (fun _ s => s.ld (k := 0) rfl rfl)) rfl rfl rfl ?_
            refine at_v (ov_assign rfl rfl) rfl rfl rfl ?_
            refine at_nil ?_
            refine at_inb_normal ?_
            refine at_normal ?_
            refine hK17 _ _ _ ?_
            refine at_seq_k (fun K23 hK23 => ?_)
            refine at_region ?_
            refine at_v (ov_fieldAddr (k := 0) (r := 0) rfl rfl rfl rfl) rfl rfl rfl ?_
            refine at_v (ov_load rfl rfl rfl (fun _ s => s.ld (k := 0) rfl rfl)) rfl rfl rfl ?_
            refine at_v (ov_int rfl rfl rfl rfl) rfl rfl rfl ?_
            refine at_v (ov_move rfl rfl) rfl rfl rfl ?_
            refine at_reval 73 (.bool true) rfl (congrArg Value.bool (decide_eq_true (by omega))) ?_
            refine at_wanted (j := 3) rfl ?_
            refine at_v (ov_move rfl rfl) rfl rfl rfl ?_
            refine at_wanted (j := 3) rfl ?_
            refine at_v (ov_strL rfl rfl rfl rfl) rfl rfl rfl ?_
            refine at_wanted (j := 3) rfl ?_
            refine at_v (ov_move rfl rfl) rfl rfl rfl ?_
            refine at_reval 76 (.bool false) rfl (congrArg Value.bool (by first | assumption | (rw [Bool.not_eq_false']; exact decide_eq_true (by omega)))) ?_
            refine at_wanted (j := 6) rfl ?_
            refine at_v (ov_move rfl rfl) rfl rfl rfl ?_
            refine at_wanted (j := 6) rfl ?_
            refine at_v (ov_strL rfl rfl rfl rfl) rfl rfl rfl ?_
            refine at_wanted (j := 3) rfl ?_
            refine at_v (ov_pick_f rfl rfl rfl) rfl rfl rfl ?_
            refine at_wanted (j := 3) rfl ?_
            refine at_v (ov_move rfl rfl) rfl rfl rfl ?_
            refine at_reval 80 (.bool false) rfl (congrArg Value.bool (by first | assumption | (rw [Bool.not_eq_false']; exact decide_eq_true (by omega)))) ?_
            refine at_wanted (j := 10) rfl ?_
            refine at_v (ov_move rfl rfl) rfl rfl rfl ?_
            refine at_wanted (j := 10) rfl ?_
            refine at_v (ov_strL rfl rfl rfl rfl) rfl rfl rfl ?_
            refine at_wanted (j := 3) rfl ?_
            refine at_v (ov_pick_f rfl rfl rfl) rfl rfl rfl ?_
            refine at_wanted (j := 3) rfl ?_
            refine at_v (ov_move rfl rfl) rfl rfl rfl ?_
            refine at_reval 84 (.bool true) rfl (congrArg Value.bool (by first | assumption | (rw [Bool.not_eq_true']; exact decide_eq_false (by omega)))) ?_
            refine at_unwanted (j := 14) rfl rfl rfl rfl ?_
            refine at_unwanted (j := 14) rfl rfl rfl rfl ?_
            refine at_wanted (j := 3) rfl ?_
            refine at_v (ov_pick_t rfl rfl rfl) rfl rfl rfl ?_
            refine at_v (ov_pick_t rfl rfl rfl) rfl rfl rfl ?_
            refine at_nil ?_
            refine at_normal ?_
            refine hK23 _ _ _ ?_
            refine at_cond_true rfl ?_
            refine at_seq_k (fun K24 hK24 => ?_)
            refine at_region ?_
            refine at_v (ov_fieldAddr (k := 1) (r := 1) rfl rfl rfl rfl) rfl rfl rfl ?_
            refine at_v (ov_load rfl rfl rfl (fun _ s => s.ld (k := 0) rfl rfl)) rfl rfl rfl ?_
            refine at_nil ?_
            refine at_normal ?_
            refine hK24 _ _ _ ?_
            refine at_block ?_
            refine at_seq_k (fun K25 hK25 => ?_)
            refine at_seq_k (fun K26 hK26 => ?_)
            refine at_region ?_
            refine at_v (ov_strL rfl rfl rfl rfl) rfl rfl rfl ?_
            refine at_v (ov_assign rfl rfl) rfl rfl rfl ?_
            refine at_nil ?_
            refine at_normal ?_
            refine hK26 _ _ _ ?_
            refine at_cond_false (congrArg (fun b => some (Value.bool b)) (show _ = false from by first | assumption | (rw [Bool.not_eq_false']; exact decide_eq_true (by omega)))) ?_
            refine at_seq_k (fun K27 hK27 => ?_)
            refine at_region ?_
            refine at_v (ov_strL rfl rfl rfl rfl) rfl rfl rfl ?_
            refine at_v (ov_assign rfl rfl) rfl rfl rfl ?_
            refine at_nil ?_
            refine at_normal ?_
            refine hK27 _ _ _ ?_
            refine at_cond_false (congrArg (fun b => some (Value.bool b)) (show _ = false from by first | assumption | (rw [Bool.not_eq_false']; exact decide_eq_true (by omega)))) ?_
            refine at_seq_k (fun K28 hK28 => ?_)
            refine at_region ?_
            refine at_v (ov_strL rfl rfl rfl rfl) rfl rfl rfl ?_
            refine at_v (ov_assign rfl rfl) rfl rfl rfl ?_
            refine at_nil ?_
            refine at_normal ?_
            refine hK28 _ _ _ ?_
            refine at_cond_false (congrArg (fun b => some (Value.bool b)) (show _ = false from by first | assumption | (rw [Bool.not_eq_false']; exact decide_eq_true (by omega)))) ?_
            refine at_seq_k (fun K29 hK29 => ?_)
            refine at_region ?_
            refine at_v (ov_strL rfl rfl rfl rfl) rfl rfl rfl ?_
            refine at_v (ov_assign rfl rfl) rfl rfl rfl ?_
            refine at_nil ?_
            refine at_normal ?_
            refine hK29 _ _ _ ?_
            refine at_cond_false (congrArg (fun b => some (Value.bool b)) (show _ = false from by first | assumption | (rw [Bool.not_eq_false']; exact decide_eq_true (by omega)))) ?_
            refine at_seq_k (fun K30 hK30 => ?_)
            refine at_region ?_
            refine at_v (ov_strL rfl rfl rfl rfl) rfl rfl rfl ?_
            refine at_v (ov_assign rfl rfl) rfl rfl rfl ?_
            refine at_nil ?_
            refine at_normal ?_
            refine hK30 _ _ _ ?_
            refine at_cond_false (congrArg (fun b => some (Value.bool b)) (show _ = false from by first | assumption | (rw [Bool.not_eq_false']; exact decide_eq_true (by omega)))) ?_
            refine at_region ?_
            refine at_v (ov_strL rfl rfl rfl rfl) rfl rfl rfl ?_
            refine at_v (ov_assign rfl rfl) rfl rfl rfl ?_
            refine at_nil ?_
            refine at_normal ?_
            refine hK25 _ _ _ ?_
            refine at_cond_false (congrArg (fun b => some (Value.bool b)) (show _ = false from by first | assumption | (rw [Bool.not_eq_false']; exact decide_eq_true (by omega)))) ?_
            refine at_skip ?_
            refine at_inb_normal ?_
            refine at_inb_normal ?_
            refine at_normal ?_
            refine hK15 _ _ _ ?_
            refine at_region ?_
            refine at_v ((ov_int rfl rfl rfl rfl).eq (congrArg (Value.int .i64) (inK_i64 (by omega) (by omega)))) rfl rfl rfl ?_
            refine at_v (ov_move rfl rfl) rfl rfl rfl ?_
            refine at_nil ?_
            refine at_normal ?_
            refine at_roundF (k + 1, t.2, false) ⟨hlt, hscan⟩ (by simp only; omega) ⟨rfl, rfl, rfl, trivial⟩ rfl ?_
            exact fun _ s => s.finEq (ks := [1, 1]) (js := [0]) rfl rfl rfl
          · have hih0 : decide (t.2 = [83, 69, 76, 69, 67, 84]) = false := by rw [e]; decide
            have hih1 : decide (t.2 = [87, 73, 84, 72]) = false := by rw [e]; decide
            have hih2 : decide (t.2 = [84, 65, 66, 76, 69]) = false := by rw [e]; decide
            have hih3 : decide (t.2 = [86, 65, 76, 85, 69, 83]) = true := by rw [e]; decide
            refine at_skip ?_
            refine at_normal ?_
            refine hK14 _ _ _ ?_
            refine at_seq_k (fun K15 hK15 => ?_)
            refine at_block ?_
            refine at_seq_k (fun K16 hK16 => ?_)
            refine at_region ?_
            refine at_v (ov_indexRd (fun _ s => s.rd (k := 0) rfl) rfl Tryz.underlying28 rfl rfl rfl ht) rfl rfl rfl ?_
            refine at_v (ov_loadRdS (vs := [_, _]) (fun _ s => s.rd (k := 0) rfl) rfl rfl rfl ht rfl rfl) rfl rfl rfl ?_
            refine at_t (ot_allocA rfl Tryz.zeroValue33) rfl rfl rfl ?_
            rintro _ _ ⟨g1, rfl, rfl⟩
            refine at_t0 (ot_store (k := 0) rfl rfl rfl rfl rfl rfl rfl) rfl rfl ?_
            rintro _ _ ⟨rfl, rfl⟩
            simp only [setAt, splice, spliceL, Value.cells]
            refine at_nil ?_
            refine at_normal ?_
            refine hK16 _ _ _ ?_
            refine at_seq_k (fun K17 hK17 => ?_)
            refine at_block ?_
            refine at_seq_k (fun K18 hK18 => ?_)
            refine at_region ?_
            refine at_v (ov_fieldAddr (k := 0) (r := 0) rfl rfl rfl rfl) rfl rfl rfl ?_
            refine at_v (ov_load rfl rfl rfl (fun _ s => s.ld (k := 0) rfl rfl)) rfl rfl rfl ?_
            refine at_v (ov_int rfl rfl rfl rfl) rfl rfl rfl ?_
            refine at_v (ov_assign rfl rfl) rfl rfl rfl ?_
            refine at_nil ?_
            refine at_normal ?_
            refine hK18 _ _ _ ?_
            refine at_cond_false (congrArg (fun b => some (Value.bool b)) (show _ = false from decide_eq_false (by omega))) ?_
            refine at_seq_k (fun K19 hK19 => ?_)
            refine at_region ?_
            refine at_v (ov_move rfl rfl) rfl rfl rfl ?_
            refine at_v (ov_strL rfl rfl rfl rfl) rfl rfl rfl ?_
            refine at_v (ov_move rfl rfl) rfl rfl rfl ?_
            refine at_unwanted (j := 2) rfl rfl rfl rfl ?_
            refine at_unwanted (j := 2) rfl rfl rfl rfl ?_
            refine at_unwanted (j := 2) rfl rfl rfl rfl ?_
            refine at_unwanted (j := 2) rfl rfl rfl rfl ?_
            refine at_unwantedN (j := 6) rfl rfl rfl ?_
            refine at_unwantedN (j := 6) rfl rfl rfl ?_
            refine at_unwantedN (j := 6) rfl rfl rfl ?_
            refine at_unwanted (j := 2) rfl rfl rfl rfl ?_
            refine at_v (ov_pick_f rfl rfl rfl) rfl rfl rfl ?_
            refine at_v (ov_assign rfl rfl) rfl rfl rfl ?_
            refine at_nil ?_
            refine at_normal ?_
            refine hK19 _ _ _ ?_
            refine at_cond_false rfl ?_
            refine at_seq_k (fun K20 hK20 => ?_)
            refine at_region ?_
            refine at_v (ov_fieldAddr (k := 0) (r := 0) rfl rfl rfl rfl) rfl rfl rfl ?_
            refine at_v (ov_load rfl rfl rfl (fun _ s => s.ld (k := 0) rfl rfl)) rfl rfl rfl ?_
            refine at_v (ov_int rfl rfl rfl rfl) rfl rfl rfl ?_
            refine at_v (ov_move rfl rfl) rfl rfl rfl ?_
            refine at_reval 52 (.bool false) rfl (congrArg Value.bool (decide_eq_false (by omega))) ?_
            refine at_unwanted (j := 3) rfl rfl rfl rfl ?_
            refine at_unwanted (j := 3) rfl rfl rfl rfl ?_
            refine at_unwanted (j := 3) rfl rfl rfl rfl ?_
            refine at_v (ov_pick_f rfl rfl rfl) rfl rfl rfl ?_
            refine at_v (ov_assign rfl rfl) rfl rfl rfl ?_
            refine at_nil ?_
            refine at_normal ?_
            refine hK20 _ _ _ ?_
            refine at_cond_false rfl ?_
            refine at_seq_k (fun K21 hK21 => ?_)
            refine at_region ?_
            refine at_v (ov_move rfl rfl) rfl rfl rfl ?_
            refine at_v (ov_strL rfl rfl rfl rfl) rfl rfl rfl ?_
            refine at_v (ov_move rfl rfl) rfl rfl rfl ?_
            refine at_wanted (j := 2) rfl ?_
            refine at_v (ov_fieldAddr (k := 0) (r := 0) rfl rfl rfl rfl) rfl rfl rfl ?_
            refine at_wanted (j := 2) rfl ?_
            refine at_v (ov_load rfl rfl rfl (fun _ s => s.ld (k := 0) rfl rfl)) rfl rfl rfl ?_
            refine at_wanted (j := 2) rfl ?_
            refine at_v (ov_int rfl rfl rfl rfl) rfl rfl rfl ?_
            refine at_v (ov_pick_t rfl rfl rfl) rfl rfl rfl ?_
            refine at_v (ov_assign rfl rfl) rfl rfl rfl ?_
            refine at_nil ?_
            refine at_normal ?_
            refine hK21 _ _ _ ?_
            refine at_cond_false (congrArg (fun b => some (Value.bool b)) (show _ = false from by first | assumption | (rw [Bool.not_eq_false']; exact decide_eq_true (by omega)))) ?_
            refine at_seq_k (fun K22 hK22 => ?_)
            refine at_region ?_
            refine at_v (ov_move rfl rfl) rfl rfl rfl ?_
            refine at_v (ov_strL rfl rfl rfl rfl) rfl rfl rfl ?_
            refine at_v (ov_assign rfl rfl) rfl rfl rfl ?_
            refine at_nil ?_
            refine at_normal ?_
            refine hK22 _ _ _ ?_
            refine at_cond_true rfl ?_
            refine at_region ?_
            refine at_v (ov_fieldAddr (k := 1) (r := 1) rfl rfl rfl rfl) rfl rfl rfl ?_
            refine at_v (ov_load rfl rfl rfl (fun _ s => s.ld (k := 0) rfl rfl)) rfl rfl rfl ?_
            refine at_v (ov_assign rfl rfl) rfl rfl rfl ?_
            refine at_nil ?_
            refine at_inb_normal ?_
            refine at_normal ?_
            refine hK17 _ _ _ ?_
            refine at_seq_k (fun K23 hK23 => ?_)
            refine at_region ?_
            refine at_v (ov_fieldAddr (k := 0) (r := 0) rfl rfl rfl rfl) rfl rfl rfl ?_
            refine at_v (ov_load rfl rfl rfl (fun _ s => s.ld (k := 0) rfl rfl)) rfl rfl rfl ?_
            refine at_v (ov_int rfl rfl rfl rfl) rfl rfl rfl ?_
            refine at_v (ov_move rfl rfl) rfl rfl rfl ?_
            refine at_reval 73 (.bool true) rfl (congrArg Value.bool (decide_eq_true (by omega))) ?_
            refine at_wanted (j := 3) rfl ?_
            refine at_v (ov_move rfl rfl) rfl rfl rfl ?_
            refine at_wanted (j := 3) rfl ?_
            refine at_v (ov_strL rfl rfl rfl rfl) rfl rfl rfl ?_
            refine at_wanted (j := 3) rfl ?_
            refine at_v (ov_move rfl rfl) rfl rfl rfl ?_
            refine at_reval 76 (.bool false) rfl (congrArg Value.bool (by first | assumption | (rw [Bool.not_eq_false']; exact decide_eq_true (by omega)))) ?_
            refine at_wanted (j := 6) rfl ?_
            refine at_v (ov_move rfl rfl) rfl rfl rfl ?_
            refine at_wanted (j := 6) rfl ?_
            refine at_v (ov_strL rfl rfl rfl rfl) rfl rfl rfl ?_
            refine at_wanted (j := 3) rfl ?_
            refine at_v (ov_pick_f rfl rfl rfl) rfl rfl rfl ?_
            refine at_wanted (j := 3) rfl ?_
            refine at_v (ov_move rfl rfl) rfl rfl rfl ?_
            refine at_reval 80 (.bool false) rfl (congrArg Value.bool (by first | assumption | (rw [Bool.not_eq_false']; exact decide_eq_true (by omega)))) ?_
            refine at_wanted (j := 10) rfl ?_
            refine at_v (ov_move rfl rfl) rfl rfl rfl ?_
            refine at_wanted (j := 10) rfl ?_
            refine at_v (ov_strL rfl rfl rfl rfl) rfl rfl rfl ?_
            refine at_wanted (j := 3) rfl ?_
            refine at_v (ov_pick_f rfl rfl rfl) rfl rfl rfl ?_
            refine at_wanted (j := 3) rfl ?_
            refine at_v (ov_move rfl rfl) rfl rfl rfl ?_
            refine at_reval 84 (.bool false) rfl (congrArg Value.bool (by first | assumption | (rw [Bool.not_eq_false']; exact decide_eq_true (by omega)))) ?_
            refine at_wanted (j := 14) rfl ?_
            refine at_v (ov_move rfl rfl) rfl rfl rfl ?_
            refine at_wanted (j := 14) rfl ?_
            refine at_v (ov_strL rfl rfl rfl rfl) rfl rfl rfl ?_
            refine at_wanted (j := 3) rfl ?_
            refine at_v (ov_pick_f rfl rfl rfl) rfl rfl rfl ?_
            refine at_v (ov_pick_t rfl rfl rfl) rfl rfl rfl ?_
            refine at_nil ?_
            refine at_normal ?_
            refine hK23 _ _ _ ?_
            refine at_cond_true (congrArg (fun b => some (Value.bool b)) (show _ = true from by first | assumption | (rw [Bool.not_eq_true']; exact decide_eq_false (by omega)))) ?_
            refine at_seq_k (fun K24 hK24 => ?_)
            refine at_region ?_
            refine at_v (ov_fieldAddr (k := 1) (r := 1) rfl rfl rfl rfl) rfl rfl rfl ?_
            refine at_v (ov_load rfl rfl rfl (fun _ s => s.ld (k := 0) rfl rfl)) rfl rfl rfl ?_
            refine at_nil ?_
            refine at_normal ?_
            refine hK24 _ _ _ ?_
            refine at_block ?_
            refine at_seq_k (fun K25 hK25 => ?_)
            refine at_seq_k (fun K26 hK26 => ?_)
            refine at_region ?_
            refine at_v (ov_strL rfl rfl rfl rfl) rfl rfl rfl ?_
            refine at_v (ov_assign rfl rfl) rfl rfl rfl ?_
            refine at_nil ?_
            refine at_normal ?_
            refine hK26 _ _ _ ?_
            refine at_cond_false (congrArg (fun b => some (Value.bool b)) (show _ = false from by first | assumption | (rw [Bool.not_eq_false']; exact decide_eq_true (by omega)))) ?_
            refine at_seq_k (fun K27 hK27 => ?_)
            refine at_region ?_
            refine at_v (ov_strL rfl rfl rfl rfl) rfl rfl rfl ?_
            refine at_v (ov_assign rfl rfl) rfl rfl rfl ?_
            refine at_nil ?_
            refine at_normal ?_
            refine hK27 _ _ _ ?_
            refine at_cond_false (congrArg (fun b => some (Value.bool b)) (show _ = false from by first | assumption | (rw [Bool.not_eq_false']; exact decide_eq_true (by omega)))) ?_
            refine at_seq_k (fun K28 hK28 => ?_)
            refine at_region ?_
            refine at_v (ov_strL rfl rfl rfl rfl) rfl rfl rfl ?_
            refine at_v (ov_assign rfl rfl) rfl rfl rfl ?_
            refine at_nil ?_
            refine at_normal ?_
            refine hK28 _ _ _ ?_
            refine at_cond_false (congrArg (fun b => some (Value.bool b)) (show _ = false from by first | assumption | (rw [Bool.not_eq_false']; exact decide_eq_true (by omega)))) ?_
            refine at_seq_k (fun K29 hK29 => ?_)
            refine at_region ?_
            refine at_v (ov_strL rfl rfl rfl rfl) rfl rfl rfl ?_
            refine at_v (ov_assign rfl rfl) rfl rfl rfl ?_
            refine at_nil ?_
            refine at_normal ?_
            refine hK29 _ _ _ ?_
            refine at_cond_false (congrArg (fun b => some (Value.bool b)) (show _ = false from by first | assumption | (rw [Bool.not_eq_false']; exact decide_eq_true (by omega)))) ?_
            refine at_seq_k (fun K30 hK30 => ?_)
            refine at_region ?_
            refine at_v (ov_strL rfl rfl rfl rfl) rfl rfl rfl ?_
            refine at_v (ov_assign rfl rfl) rfl rfl rfl ?_
            refine at_nil ?_
            refine at_normal ?_
            refine hK30 _ _ _ ?_
            refine at_cond_false (congrArg (fun b => some (Value.bool b)) (show _ = false from by first | assumption | (rw [Bool.not_eq_false']; exact decide_eq_true (by omega)))) ?_
            refine at_region ?_
            refine at_v (ov_strL rfl rfl rfl rfl) rfl rfl rfl ?_
            refine at_v (ov_assign rfl rfl) rfl rfl rfl ?_
            refine at_nil ?_
            refine at_normal ?_
            refine hK25 _ _ _ ?_
            refine at_cond_false (congrArg (fun b => some (Value.bool b)) (show _ = false from by first | assumption | (rw [Bool.not_eq_false']; exact decide_eq_true (by omega)))) ?_
            refine at_skip ?_
            refine at_inb_normal ?_
            refine at_inb_normal ?_
            refine at_normal ?_
            refine hK15 _ _ _ ?_
            refine at_region ?_
            refine at_v ((ov_int rfl rfl rfl rfl).eq (congrArg (Value.int .i64) (inK_i64 (by omega) (by omega)))) rfl rfl rfl ?_
            refine at_v (ov_move rfl rfl) rfl rfl rfl ?_
            refine at_nil ?_
            refine at_normal ?_
            refine at_roundF (k + 1, t.2, false) ⟨hlt, hscan⟩ (by simp only; omega) ⟨rfl, rfl, rfl, trivial⟩ rfl ?_
            exact fun _ s => s.finEq (ks := [1, 1]) (js := [0]) rfl rfl rfl
        · obtain ⟨e0, e1, e2, e3⟩ := hcase
          have hin : headsW.contains t.2 = false := by simp [headsW, e0, e1, e2, e3]
          rw [if_neg (by rw [hin]; simp)] at hscan
          have hih0 : decide (t.2 = [83, 69, 76, 69, 67, 84]) = false := decide_eq_false e0
          have hih1 : decide (t.2 = [87, 73, 84, 72]) = false := decide_eq_false e1
          have hih2 : decide (t.2 = [84, 65, 66, 76, 69]) = false := decide_eq_false e2
          have hih3 : decide (t.2 = [86, 65, 76, 85, 69, 83]) = false := decide_eq_false e3
          refine at_skip ?_
          refine at_normal ?_
          refine hK14 _ _ _ ?_
          refine at_seq_k (fun K15 hK15 => ?_)
          refine at_block ?_
          refine at_seq_k (fun K16 hK16 => ?_)
          refine at_region ?_
          refine at_v (ov_indexRd (fun _ s => s.rd (k := 0) rfl) rfl Tryz.underlying28 rfl rfl rfl ht) rfl rfl rfl ?_
          refine at_v (ov_loadRdS (vs := [_, _]) (fun _ s => s.rd (k := 0) rfl) rfl rfl rfl ht rfl rfl) rfl rfl rfl ?_
          refine at_t (ot_allocA rfl Tryz.zeroValue33) rfl rfl rfl ?_
          rintro _ _ ⟨g1, rfl, rfl⟩
          refine at_t0 (ot_store (k := 0) rfl rfl rfl rfl rfl rfl rfl) rfl rfl ?_
          rintro _ _ ⟨rfl, rfl⟩
          simp only [setAt, splice, spliceL, Value.cells]
          refine at_nil ?_
          refine at_normal ?_
          refine hK16 _ _ _ ?_
          refine at_seq_k (fun K17 hK17 => ?_)
          refine at_block ?_
          refine at_seq_k (fun K18 hK18 => ?_)
          refine at_region ?_
          refine at_v (ov_fieldAddr (k := 0) (r := 0) rfl rfl rfl rfl) rfl rfl rfl ?_
          refine at_v (ov_load rfl rfl rfl (fun _ s => s.ld (k := 0) rfl rfl)) rfl rfl rfl ?_
          refine at_v (ov_int rfl rfl rfl rfl) rfl rfl rfl ?_
          refine at_v (ov_assign rfl rfl) rfl rfl rfl ?_
          refine at_nil ?_
          refine at_normal ?_
          refine hK18 _ _ _ ?_
          refine at_cond_false (congrArg (fun b => some (Value.bool b)) (show _ = false from decide_eq_false (by omega))) ?_
          refine at_seq_k (fun K19 hK19 => ?_)
          refine at_region ?_
          refine at_v (ov_move rfl rfl) rfl rfl rfl ?_
          refine at_v (ov_strL rfl rfl rfl rfl) rfl rfl rfl ?_
          refine at_v (ov_move rfl rfl) rfl rfl rfl ?_
          refine at_unwanted (j := 2) rfl rfl rfl rfl ?_
          refine at_unwanted (j := 2) rfl rfl rfl rfl ?_
          refine at_unwanted (j := 2) rfl rfl rfl rfl ?_
          refine at_unwanted (j := 2) rfl rfl rfl rfl ?_
          refine at_unwantedN (j := 6) rfl rfl rfl ?_
          refine at_unwantedN (j := 6) rfl rfl rfl ?_
          refine at_unwantedN (j := 6) rfl rfl rfl ?_
          refine at_unwanted (j := 2) rfl rfl rfl rfl ?_
          refine at_v (ov_pick_f rfl rfl rfl) rfl rfl rfl ?_
          refine at_v (ov_assign rfl rfl) rfl rfl rfl ?_
          refine at_nil ?_
          refine at_normal ?_
          refine hK19 _ _ _ ?_
          refine at_cond_false rfl ?_
          refine at_seq_k (fun K20 hK20 => ?_)
          refine at_region ?_
          refine at_v (ov_fieldAddr (k := 0) (r := 0) rfl rfl rfl rfl) rfl rfl rfl ?_
          refine at_v (ov_load rfl rfl rfl (fun _ s => s.ld (k := 0) rfl rfl)) rfl rfl rfl ?_
          refine at_v (ov_int rfl rfl rfl rfl) rfl rfl rfl ?_
          refine at_v (ov_move rfl rfl) rfl rfl rfl ?_
          refine at_reval 52 (.bool false) rfl (congrArg Value.bool (decide_eq_false (by omega))) ?_
          refine at_unwanted (j := 3) rfl rfl rfl rfl ?_
          refine at_unwanted (j := 3) rfl rfl rfl rfl ?_
          refine at_unwanted (j := 3) rfl rfl rfl rfl ?_
          refine at_v (ov_pick_f rfl rfl rfl) rfl rfl rfl ?_
          refine at_v (ov_assign rfl rfl) rfl rfl rfl ?_
          refine at_nil ?_
          refine at_normal ?_
          refine hK20 _ _ _ ?_
          refine at_cond_false rfl ?_
          refine at_seq_k (fun K21 hK21 => ?_)
          refine at_region ?_
          refine at_v (ov_move rfl rfl) rfl rfl rfl ?_
          refine at_v (ov_strL rfl rfl rfl rfl) rfl rfl rfl ?_
          refine at_v (ov_move rfl rfl) rfl rfl rfl ?_
          refine at_wanted (j := 2) rfl ?_
          refine at_v (ov_fieldAddr (k := 0) (r := 0) rfl rfl rfl rfl) rfl rfl rfl ?_
          refine at_wanted (j := 2) rfl ?_
          refine at_v (ov_load rfl rfl rfl (fun _ s => s.ld (k := 0) rfl rfl)) rfl rfl rfl ?_
          refine at_wanted (j := 2) rfl ?_
          refine at_v (ov_int rfl rfl rfl rfl) rfl rfl rfl ?_
          refine at_v (ov_pick_t rfl rfl rfl) rfl rfl rfl ?_
          refine at_v (ov_assign rfl rfl) rfl rfl rfl ?_
          refine at_nil ?_
          refine at_normal ?_
          refine hK21 _ _ _ ?_
          refine at_cond_false (congrArg (fun b => some (Value.bool b)) (show _ = false from by first | assumption | (rw [Bool.not_eq_false']; exact decide_eq_true (by omega)))) ?_
          refine at_seq_k (fun K22 hK22 => ?_)
          refine at_region ?_
          refine at_v (ov_move rfl rfl) rfl rfl rfl ?_
          refine at_v (ov_strL rfl rfl rfl rfl) rfl rfl rfl ?_
          refine at_v (ov_assign rfl rfl) rfl rfl rfl ?_
          refine at_nil ?_
          refine at_normal ?_
          refine hK22 _ _ _ ?_
          refine at_cond_true rfl ?_
          refine at_region ?_
          refine at_v (ov_fieldAddr (k := 1) (r := 1) rfl rfl rfl rfl) rfl rfl rfl ?_
          refine at_v (ov_load rfl rfl rfl (fun _ s => s.ld (k := 0) rfl rfl)) rfl rfl rfl ?_
          refine at_v (ov_assign rfl rfl) rfl rfl rfl ?_
          refine at_nil ?_
          refine at_inb_normal ?_
          refine at_normal ?_
          refine hK17 _ _ _ ?_
          refine at_seq_k (fun K23 hK23 => ?_)
          refine at_region ?_
          refine at_v (ov_fieldAddr (k := 0) (r := 0) rfl rfl rfl rfl) rfl rfl rfl ?_
          refine at_v (ov_load rfl rfl rfl (fun _ s => s.ld (k := 0) rfl rfl)) rfl rfl rfl ?_
          refine at_v (ov_int rfl rfl rfl rfl) rfl rfl rfl ?_
          refine at_v (ov_move rfl rfl) rfl rfl rfl ?_
          refine at_reval 73 (.bool true) rfl (congrArg Value.bool (decide_eq_true (by omega))) ?_
          refine at_wanted (j := 3) rfl ?_
          refine at_v (ov_move rfl rfl) rfl rfl rfl ?_
          refine at_wanted (j := 3) rfl ?_
          refine at_v (ov_strL rfl rfl rfl rfl) rfl rfl rfl ?_
          refine at_wanted (j := 3) rfl ?_
          refine at_v (ov_move rfl rfl) rfl rfl rfl ?_
          refine at_reval 76 (.bool false) rfl (congrArg Value.bool (by first | assumption | (rw [Bool.not_eq_false']; exact decide_eq_true (by omega)))) ?_
          refine at_wanted (j := 6) rfl ?_
          refine at_v (ov_move rfl rfl) rfl rfl rfl ?_
          refine at_wanted (j := 6) rfl ?_
          refine at_v (ov_strL rfl rfl rfl rfl) rfl rfl rfl ?_
          refine at_wanted (j := 3) rfl ?_
          refine at_v (ov_pick_f rfl rfl rfl) rfl rfl rfl ?_
          refine at_wanted (j := 3) rfl ?_
          refine at_v (ov_move rfl rfl) rfl rfl rfl ?_
          refine at_reval 80 (.bool false) rfl (congrArg Value.bool (by first | assumption | (rw [Bool.not_eq_false']; exact decide_eq_true (by omega)))) ?_
          refine at_wanted (j := 10) rfl ?_
          refine at_v (ov_move rfl rfl) rfl rfl rfl ?_
          refine at_wanted (j := 10) rfl ?_
          refine at_v (ov_strL rfl rfl rfl rfl) rfl rfl rfl ?_
          refine at_wanted (j := 3) rfl ?_
          refine at_v (ov_pick_f rfl rfl rfl) rfl rfl rfl ?_
          refine at_wanted (j := 3) rfl ?_
          refine at_v (ov_move rfl rfl) rfl rfl rfl ?_
          refine at_reval 84 (.bool false) rfl (congrArg Value.bool (by first | assumption | (rw [Bool.not_eq_false']; exact decide_eq_true (by omega)))) ?_
          refine at_wanted (j := 14) rfl ?_
          refine at_v (ov_move rfl rfl) rfl rfl rfl ?_
          refine at_wanted (j := 14) rfl ?_
          refine at_v (ov_strL rfl rfl rfl rfl) rfl rfl rfl ?_
          refine at_wanted (j := 3) rfl ?_
          refine at_v (ov_pick_f rfl rfl rfl) rfl rfl rfl ?_
          refine at_v (ov_pick_t rfl rfl rfl) rfl rfl rfl ?_
          refine at_nil ?_
          refine at_normal ?_
          refine hK23 _ _ _ ?_
          refine at_cond_false (congrArg (fun b => some (Value.bool b)) (show _ = false from by first | assumption | (rw [Bool.not_eq_false']; exact decide_eq_true (by omega)))) ?_
          refine at_skip ?_
          refine at_inb_normal ?_
          refine at_normal ?_
          refine hK15 _ _ _ ?_
          refine at_region ?_
          refine at_v ((ov_int rfl rfl rfl rfl).eq (congrArg (Value.int .i64) (inK_i64 (by omega) (by omega)))) rfl rfl rfl ?_
          refine at_v (ov_move rfl rfl) rfl rfl rfl ?_
          refine at_nil ?_
          refine at_normal ?_
          refine at_roundF (k + 1, t.2, false) ⟨hlt, hscan⟩ (by simp only; omega) ⟨rfl, rfl, rfl, trivial⟩ rfl ?_
          exact fun _ s => s.finEq (ks := [1, 1]) (js := [0]) rfl rfl rfl
      · have hih : decide (h = []) = false := decide_eq_false hnil
        rw [if_neg (by simp [hnil]), if_neg hnil] at hscan
        by_cases h1w : t.1 = 1
        · have hi1w : decide (t.1 = 1) = true := decide_eq_true h1w
          have hi6 : decide (t.1 = 6) = false := by simp [h1w]
          have hcase : (h = wSELECT ∨ h = wWITH ∨ h = wTABLE ∨ h = wVALUES) ∨ (h ≠ wSELECT ∧ h ≠ wWITH ∧ h ≠ wTABLE ∧ h ≠ wVALUES) := by
            by_cases e0 : h = wSELECT
            · exact .inl (by simp [e0])
            by_cases e1 : h = wWITH
            · exact .inl (by simp [e1])
            by_cases e2 : h = wTABLE
            · exact .inl (by simp [e2])
            by_cases e3 : h = wVALUES
            · exact .inl (by simp [e3])
            exact .inr ⟨e0, e1, e2, e3⟩
          rcases hcase with hcase | hcase
          · have hin : headsW.contains h = true := by rcases hcase with e | e | e | e <;> rw [e] <;> decide
            have hw : writesW.contains t.2 = false := by
              cases hw : writesW.contains t.2 with
              | false => rfl
              | true => rw [if_pos ⟨h1w, hin, hw⟩] at hscan; cases hscan
            rw [if_neg (by rw [hw]; simp)] at hscan
            obtain ⟨n0, n1, n2, n3, n4, n5⟩ : t.2 ≠ wINSERT ∧ t.2 ≠ wUPDATE ∧ t.2 ≠ wDELETE ∧ t.2 ≠ wREPLACE ∧ t.2 ≠ wINTO ∧ t.2 ≠ wSHARE := by simpa [writesW] using hw
            have hiw0 : decide (t.2 = [73, 78, 83, 69, 82, 84]) = false := decide_eq_false n0
            have hiw1 : decide (t.2 = [85, 80, 68, 65, 84, 69]) = false := decide_eq_false n1
            have hiw2 : decide (t.2 = [68, 69, 76, 69, 84, 69]) = false := decide_eq_false n2
            have hiw3 : decide (t.2 = [82, 69, 80, 76, 65, 67, 69]) = false := decide_eq_false n3
            have hiw4 : decide (t.2 = [73, 78, 84, 79]) = false := decide_eq_false n4
            have hiw5 : decide (t.2 = [83, 72, 65, 82, 69]) = false := decide_eq_false n5
            rcases hcase with e | e | e | e
            · have hih0 : decide (h = [83, 69, 76, 69, 67, 84]) = true := by rw [e]; decide
              refine at_skip ?_
              refine at_normal ?_
              refine hK14 _ _ _ ?_
              refine at_seq_k (fun K15 hK15 => ?_)
              refine at_block ?_
              refine at_seq_k (fun K16 hK16 => ?_)
              refine at_region ?_
              refine at_v (ov_indexRd (fun _ s => s.rd (k := 0) rfl) rfl Tryz.underlying28 rfl rfl rfl ht) rfl rfl rfl ?_
              refine at_v (ov_loadRdS (vs := [_, _]) (fun _ s => s.rd (k := 0) rfl) rfl rfl rfl ht rfl rfl) rfl rfl rfl ?_
              refine at_t (ot_allocA rfl Tryz.zeroValue33) rfl rfl rfl ?_
              rintro _ _ ⟨g1, rfl, rfl⟩
              refine at_t0 (ot_store (k := 0) rfl rfl rfl rfl rfl rfl rfl) rfl rfl ?_
              rintro _ _ ⟨rfl, rfl⟩
              simp only [setAt, splice, spliceL, Value.cells]
              refine at_nil ?_
              refine at_normal ?_
              refine hK16 _ _ _ ?_
              refine at_seq_k (fun K17 hK17 => ?_)
              refine at_block ?_
              refine at_seq_k (fun K18 hK18 => ?_)
              refine at_region ?_
              refine at_v (ov_fieldAddr (k := 0) (r := 0) rfl rfl rfl rfl) rfl rfl rfl ?_
              refine at_v (ov_load rfl rfl rfl (fun _ s => s.ld (k := 0) rfl rfl)) rfl rfl rfl ?_
              refine at_v (ov_int rfl rfl rfl rfl) rfl rfl rfl ?_
              refine at_v (ov_assign rfl rfl) rfl rfl rfl ?_
              refine at_nil ?_
              refine at_normal ?_
              refine hK18 _ _ _ ?_
              refine at_cond_false (congrArg (fun b => some (Value.bool b)) (show _ = false from decide_eq_false (by omega))) ?_
              refine at_seq_k (fun K19 hK19 => ?_)
              refine at_region ?_
              refine at_v (ov_move rfl rfl) rfl rfl rfl ?_
              refine at_v (ov_strL rfl rfl rfl rfl) rfl rfl rfl ?_
              refine at_v (ov_move rfl rfl) rfl rfl rfl ?_
              refine at_unwanted (j := 2) rfl rfl rfl rfl ?_
              refine at_unwanted (j := 2) rfl rfl rfl rfl ?_
              refine at_unwanted (j := 2) rfl rfl rfl rfl ?_
              refine at_unwanted (j := 2) rfl rfl rfl rfl ?_
              refine at_unwantedN (j := 6) rfl rfl rfl ?_
              refine at_unwantedN (j := 6) rfl rfl rfl ?_
              refine at_unwantedN (j := 6) rfl rfl rfl ?_
              refine at_unwanted (j := 2) rfl rfl rfl rfl ?_
              refine at_v (ov_pick_f rfl rfl rfl) rfl rfl rfl ?_
              refine at_v (ov_assign rfl rfl) rfl rfl rfl ?_
              refine at_nil ?_
              refine at_normal ?_
              refine hK19 _ _ _ ?_
              refine at_cond_false rfl ?_
              refine at_seq_k (fun K20 hK20 => ?_)
              refine at_region ?_
              refine at_v (ov_fieldAddr (k := 0) (r := 0) rfl rfl rfl rfl) rfl rfl rfl ?_
              refine at_v (ov_load rfl rfl rfl (fun _ s => s.ld (k := 0) rfl rfl)) rfl rfl rfl ?_
              refine at_v (ov_int rfl rfl rfl rfl) rfl rfl rfl ?_
              refine at_v (ov_move rfl rfl) rfl rfl rfl ?_
              refine at_reval 52 (.bool false) rfl (congrArg Value.bool (decide_eq_false (by omega))) ?_
              refine at_unwanted (j := 3) rfl rfl rfl rfl ?_
              refine at_unwanted (j := 3) rfl rfl rfl rfl ?_
              refine at_unwanted (j := 3) rfl rfl rfl rfl ?_
              refine at_v (ov_pick_f rfl rfl rfl) rfl rfl rfl ?_
              refine at_v (ov_assign rfl rfl) rfl rfl rfl ?_
              refine at_nil ?_
              refine at_normal ?_
              refine hK20 _ _ _ ?_
              refine at_cond_false rfl ?_
              refine at_seq_k (fun K21 hK21 => ?_)
              refine at_region ?_
              refine at_v (ov_move rfl rfl) rfl rfl rfl ?_
              refine at_v (ov_strL rfl rfl rfl rfl) rfl rfl rfl ?_
              refine at_v (ov_move rfl rfl) rfl rfl rfl ?_
              refine at_reval 60 (.bool false) rfl (congrArg Value.bool (decide_eq_false (by omega))) ?_
              refine at_unwanted (j := 2) rfl rfl rfl rfl ?_
              refine at_unwanted (j := 2) rfl rfl rfl rfl ?_
              refine at_unwanted (j := 2) rfl rfl rfl rfl ?_
              refine at_v (ov_pick_f rfl rfl rfl) rfl rfl rfl ?_
              refine at_v (ov_assign rfl rfl) rfl rfl rfl ?_
              refine at_nil ?_
              refine at_normal ?_
              refine hK21 _ _ _ ?_
              refine at_cond_false rfl ?_
              refine at_seq_k (fun K22 hK22 => ?_)
              refine at_region ?_
              refine at_v (ov_move rfl rfl) rfl rfl rfl ?_
              refine at_v (ov_strL rfl rfl rfl rfl) rfl rfl rfl ?_
              refine at_v (ov_assign rfl rfl) rfl rfl rfl ?_
              refine at_nil ?_
              refine at_normal ?_
              refine hK22 _ _ _ ?_
              refine at_cond_false (congrArg (fun b => some (Value.bool b)) (show _ = false from decide_eq_false (by omega))) ?_
              refine at_skip ?_
              refine at_inb_normal ?_
              refine at_normal ?_
              refine hK17 _ _ _ ?_
              refine at_seq_k (fun K23 hK23 => ?_)
              refine at_region ?_
              refine at_v (ov_fieldAddr (k := 0) (r := 0) rfl rfl rfl rfl) rfl rfl rfl ?_
              refine at_v (ov_load rfl rfl rfl (fun _ s => s.ld (k := 0) rfl rfl)) rfl rfl rfl ?_
              refine at_v (ov_int rfl rfl rfl rfl) rfl rfl rfl ?_
              refine at_v (ov_move rfl rfl) rfl rfl rfl ?_
              refine at_reval 73 (.bool true) rfl (congrArg Value.bool (decide_eq_true (by omega))) ?_
              refine at_wanted (j := 3) rfl ?_
              refine at_v (ov_move rfl rfl) rfl rfl rfl ?_
              refine at_wanted (j := 3) rfl ?_
              refine at_v (ov_strL rfl rfl rfl rfl) rfl rfl rfl ?_
              refine at_wanted (j := 3) rfl ?_
              refine at_v (ov_move rfl rfl) rfl rfl rfl ?_
              refine at_reval 76 (.bool true) rfl (congrArg Value.bool (by first | assumption | (rw [Bool.not_eq_true']; exact decide_eq_false (by omega)))) ?_
              refine at_unwanted (j := 6) rfl rfl rfl rfl ?_
              refine at_unwanted (j := 6) rfl rfl rfl rfl ?_
              refine at_wanted (j := 3) rfl ?_
              refine at_v (ov_pick_t rfl rfl rfl) rfl rfl rfl ?_
              refine at_wanted (j := 3) rfl ?_
              refine at_v (ov_move rfl rfl) rfl rfl rfl ?_
              refine at_unwanted (j := 10) rfl rfl rfl rfl ?_
              refine at_unwanted (j := 10) rfl rfl rfl rfl ?_
              refine at_wanted (j := 3) rfl ?_
              refine at_v (ov_pick_t rfl rfl rfl) rfl rfl rfl ?_
              refine at_wanted (j := 3) rfl ?_
              refine at_v (ov_move rfl rfl) rfl rfl rfl ?_
              refine at_unwanted (j := 14) rfl rfl rfl rfl ?_
              refine at_unwanted (j := 14) rfl rfl rfl rfl ?_
              refine at_wanted (j := 3) rfl ?_
              refine at_v (ov_pick_t rfl rfl rfl) rfl rfl rfl ?_
              refine at_v (ov_pick_t rfl rfl rfl) rfl rfl rfl ?_
              refine at_nil ?_
              refine at_normal ?_
              refine hK23 _ _ _ ?_
              refine at_cond_true rfl ?_
              refine at_seq_k (fun K24 hK24 => ?_)
              refine at_region ?_
              refine at_v (ov_fieldAddr (k := 1) (r := 1) rfl rfl rfl rfl) rfl rfl rfl ?_
              refine at_v (ov_load rfl rfl rfl (fun _ s => s.ld (k := 0) rfl rfl)) rfl rfl rfl ?_
              refine at_nil ?_
              refine at_normal ?_
              refine hK24 _ _ _ ?_
              refine at_block ?_
              refine at_seq_k (fun K25 hK25 => ?_)
              refine at_seq_k (fun K26 hK26 => ?_)
              refine at_region ?_
              refine at_v (ov_strL rfl rfl rfl rfl) rfl rfl rfl ?_
              refine at_v (ov_assign rfl rfl) rfl rfl rfl ?_
              refine at_nil ?_
              refine at_normal ?_
              refine hK26 _ _ _ ?_
              refine at_cond_false (congrArg (fun b => some (Value.bool b)) (show _ = false from by first | assumption | (rw [Bool.not_eq_false']; exact decide_eq_true (by omega)))) ?_
              refine at_seq_k (fun K27 hK27 => ?_)
              refine at_region ?_
              refine at_v (ov_strL rfl rfl rfl rfl) rfl rfl rfl ?_
              refine at_v (ov_assign rfl rfl) rfl rfl rfl ?_
              refine at_nil ?_
              refine at_normal ?_
              refine hK27 _ _ _ ?_
              refine at_cond_false (congrArg (fun b => some (Value.bool b)) (show _ = false from by first | assumption | (rw [Bool.not_eq_false']; exact decide_eq_true (by omega)))) ?_
              refine at_seq_k (fun K28 hK28 => ?_)
              refine at_region ?_
              refine at_v (ov_strL rfl rfl rfl rfl) rfl rfl rfl ?_
              refine at_v (ov_assign rfl rfl) rfl rfl rfl ?_
              refine at_nil ?_
              refine at_normal ?_
              refine hK28 _ _ _ ?_
              refine at_cond_false (congrArg (fun b => some (Value.bool b)) (show _ = false from by first | assumption | (rw [Bool.not_eq_false']; exact decide_eq_true (by omega)))) ?_
              refine at_seq_k (fun K29 hK29 => ?_)
              refine at_region ?_
              refine at_v (ov_strL rfl rfl rfl rfl) rfl rfl rfl ?_
              refine at_v (ov_assign rfl rfl) rfl rfl rfl ?_
              refine at_nil ?_
              refine at_normal ?_
              refine hK29 _ _ _ ?_
              refine at_cond_false (congrArg (fun b => some (Value.bool b)) (show _ = false from by first | assumption | (rw [Bool.not_eq_false']; exact decide_eq_true (by omega)))) ?_
              refine at_seq_k (fun K30 hK30 => ?_)
              refine at_region ?_
              refine at_v (ov_strL rfl rfl rfl rfl) rfl rfl rfl ?_
              refine at_v (ov_assign rfl rfl) rfl rfl rfl ?_
              refine at_nil ?_
              refine at_normal ?_
              refine hK30 _ _ _ ?_
              refine at_cond_false (congrArg (fun b => some (Value.bool b)) (show _ = false from by first | assumption | (rw [Bool.not_eq_false']; exact decide_eq_true (by omega)))) ?_
              refine at_region ?_
              refine at_v (ov_strL rfl rfl rfl rfl) rfl rfl rfl ?_
              refine at_v (ov_assign rfl rfl) rfl rfl rfl ?_
              refine at_nil ?_
              refine at_normal ?_
              refine hK25 _ _ _ ?_
              refine at_cond_false (congrArg (fun b => some (Value.bool b)) (show _ = false from by first | assumption | (rw [Bool.not_eq_false']; exact decide_eq_true (by omega)))) ?_
              refine at_skip ?_
              refine at_inb_normal ?_
              refine at_inb_normal ?_
              refine at_normal ?_
              refine hK15 _ _ _ ?_
              refine at_region ?_
              refine at_v ((ov_int rfl rfl rfl rfl).eq (congrArg (Value.int .i64) (inK_i64 (by omega) (by omega)))) rfl rfl rfl ?_
              refine at_v (ov_move rfl rfl) rfl rfl rfl ?_
              refine at_nil ?_
              refine at_normal ?_
              refine at_roundF (k + 1, h, false) ⟨hlt, hscan⟩ (by simp only; omega) ⟨rfl, rfl, rfl, trivial⟩ rfl ?_
              exact fun _ s => s.finEq (ks := [1, 1]) (js := [0]) rfl rfl rfl
            · have hih0 : decide (h = [83, 69, 76, 69, 67, 84]) = false := by rw [e]; decide
              have hih1 : decide (h = [87, 73, 84, 72]) = true := by rw [e]; decide
              refine at_skip ?_
              refine at_normal ?_
              refine hK14 _ _ _ ?_
              refine at_seq_k (fun K15 hK15 => ?_)
              refine at_block ?_
              refine at_seq_k (fun K16 hK16 => ?_)
              refine at_region ?_
              refine at_v (ov_indexRd (fun _ s => s.rd (k := 0) rfl) rfl Tryz.underlying28 rfl rfl rfl ht) rfl rfl rfl ?_
              refine at_v (ov_loadRdS (vs := [_, _]) (fun _ s => s.rd (k := 0) rfl) rfl rfl rfl ht rfl rfl) rfl rfl rfl ?_
              refine at_t (ot_allocA rfl Tryz.zeroValue33) rfl rfl rfl ?_
              rintro _ _ ⟨g1, rfl, rfl⟩
              refine at_t0 (ot_store (k := 0) rfl rfl rfl rfl rfl rfl rfl) rfl rfl ?_
              rintro _ _ ⟨rfl, rfl⟩
              simp only [setAt, splice, spliceL, Value.cells]
              refine at_nil ?_
              refine at_normal ?_
              refine hK16 _ _ _ ?_
              refine at_seq_k (fun K17 hK17 => ?_)
              refine at_block ?_
              refine at_seq_k (fun K18 hK18 => ?_)
              refine at_region ?_
              refine at_v (ov_fieldAddr (k := 0) (r := 0) rfl rfl rfl rfl) rfl rfl rfl ?_
              refine at_v (ov_load rfl rfl rfl (fun _ s => s.ld (k := 0) rfl rfl)) rfl rfl rfl ?_
              refine at_v (ov_int rfl rfl rfl rfl) rfl rfl rfl ?_
              refine at_v (ov_assign rfl rfl) rfl rfl rfl ?_
              refine at_nil ?_
              refine at_normal ?_
              refine hK18 _ _ _ ?_
              refine at_cond_false (congrArg (fun b => some (Value.bool b)) (show _ = false from decide_eq_false (by omega))) ?_
              refine at_seq_k (fun K19 hK19 => ?_)
              refine at_region ?_
              refine at_v (ov_move rfl rfl) rfl rfl rfl ?_
              refine at_v (ov_strL rfl rfl rfl rfl) rfl rfl rfl ?_
              refine at_v (ov_move rfl rfl) rfl rfl rfl ?_
              refine at_unwanted (j := 2) rfl rfl rfl rfl ?_
              refine at_unwanted (j := 2) rfl rfl rfl rfl ?_
              refine at_unwanted (j := 2) rfl rfl rfl rfl ?_
              refine at_unwanted (j := 2) rfl rfl rfl rfl ?_
              refine at_unwantedN (j := 6) rfl rfl rfl ?_
              refine at_unwantedN (j := 6) rfl rfl rfl ?_
              refine at_unwantedN (j := 6) rfl rfl rfl ?_
              refine at_unwanted (j := 2) rfl rfl rfl rfl ?_
              refine at_v (ov_pick_f rfl rfl rfl) rfl rfl rfl ?_
              refine at_v (ov_assign rfl rfl) rfl rfl rfl ?_
              refine at_nil ?_
              refine at_normal ?_
              refine hK19 _ _ _ ?_
              refine at_cond_false rfl ?_
              refine at_seq_k (fun K20 hK20 => ?_)
              refine at_region ?_
              refine at_v (ov_fieldAddr (k := 0) (r := 0) rfl rfl rfl rfl) rfl rfl rfl ?_
              refine at_v (ov_load rfl rfl rfl (fun _ s => s.ld (k := 0) rfl rfl)) rfl rfl rfl ?_
              refine at_v (ov_int rfl rfl rfl rfl) rfl rfl rfl ?_
              refine at_v (ov_move rfl rfl) rfl rfl rfl ?_
              refine at_reval 52 (.bool false) rfl (congrArg Value.bool (decide_eq_false (by omega))) ?_
              refine at_unwanted (j := 3) rfl rfl rfl rfl ?_
              refine at_unwanted (j := 3) rfl rfl rfl rfl ?_
              refine at_unwanted (j := 3) rfl rfl rfl rfl ?_
              refine at_v (ov_pick_f rfl rfl rfl) rfl rfl rfl ?_
              refine at_v (ov_assign rfl rfl) rfl rfl rfl ?_
              refine at_nil ?_
              refine at_normal ?_
              refine hK20 _ _ _ ?_
              refine at_cond_false rfl ?_
              refine at_seq_k (fun K21 hK21 => ?_)
              refine at_region ?_
              refine at_v (ov_move rfl rfl) rfl rfl rfl ?_
              refine at_v (ov_strL rfl rfl rfl rfl) rfl rfl rfl ?_
              refine at_v (ov_move rfl rfl) rfl rfl rfl ?_
              refine at_reval 60 (.bool false) rfl (congrArg Value.bool (decide_eq_false (by omega))) ?_
              refine at_unwanted (j := 2) rfl rfl rfl rfl ?_
              refine at_unwanted (j := 2) rfl rfl rfl rfl ?_
              refine at_unwanted (j := 2) rfl rfl rfl rfl ?_
              refine at_v (ov_pick_f rfl rfl rfl) rfl rfl rfl ?_
              refine at_v (ov_assign rfl rfl) rfl rfl rfl ?_
              refine at_nil ?_
              refine at_normal ?_
              refine hK21 _ _ _ ?_
              refine at_cond_false rfl ?_
              refine at_seq_k (fun K22 hK22 => ?_)
              refine at_region ?_
              refine at_v (ov_move rfl rfl) rfl rfl rfl ?_
              refine at_v (ov_strL rfl rfl rfl rfl) rfl rfl rfl ?_
              refine at_v (ov_assign rfl rfl) rfl rfl rfl ?_
              refine at_nil ?_
              refine at_normal ?_
              refine hK22 _ _ _ ?_
              refine at_cond_false (congrArg (fun b => some (Value.bool b)) (show _ = false from decide_eq_false (by omega))) ?_
              refine at_skip ?_
              refine at_inb_normal ?_
              refine at_normal ?_
              refine hK17 _ _ _ ?_
              refine at_seq_k (fun K23 hK23 => ?_)
              refine at_region ?_
              refine at_v (ov_fieldAddr (k := 0) (r := 0) rfl rfl rfl rfl) rfl rfl rfl ?_
              refine at_v (ov_load rfl rfl rfl (fun _ s => s.ld (k := 0) rfl rfl)) rfl rfl rfl ?_
              refine at_v (ov_int rfl rfl rfl rfl) rfl rfl rfl ?_
              refine at_v (ov_move rfl rfl) rfl rfl rfl ?_
              refine at_reval 73 (.bool true) rfl (congrArg Value.bool (decide_eq_true (by omega))) ?_
              refine at_wanted (j := 3) rfl ?_
              refine at_v (ov_move rfl rfl) rfl rfl rfl ?_
              refine at_wanted (j := 3) rfl ?_
              refine at_v (ov_strL rfl rfl rfl rfl) rfl rfl rfl ?_
              refine at_wanted (j := 3) rfl ?_
              refine at_v (ov_move rfl rfl) rfl rfl rfl ?_
              refine at_reval 76 (.bool false) rfl (congrArg Value.bool (by first | assumption | (rw [Bool.not_eq_false']; exact decide_eq_true (by omega)))) ?_
              refine at_wanted (j := 6) rfl ?_
              refine at_v (ov_move rfl rfl) rfl rfl rfl ?_
              refine at_wanted (j := 6) rfl ?_
              refine at_v (ov_strL rfl rfl rfl rfl) rfl rfl rfl ?_
              refine at_wanted (j := 3) rfl ?_
              refine at_v (ov_pick_f rfl rfl rfl) rfl rfl rfl ?_
              refine at_wanted (j := 3) rfl ?_
              refine at_v (ov_move rfl rfl) rfl rfl rfl ?_
              refine at_reval 80 (.bool true) rfl (congrArg Value.bool (by first | assumption | (rw [Bool.not_eq_true']; exact decide_eq_false (by omega)))) ?_
              refine at_unwanted (j := 10) rfl rfl rfl rfl ?_
              refine at_unwanted (j := 10) rfl rfl rfl rfl ?_
              refine at_wanted (j := 3) rfl ?_
              refine at_v (ov_pick_t rfl rfl rfl) rfl rfl rfl ?_
              refine at_wanted (j := 3) rfl ?_
              refine at_v (ov_move rfl rfl) rfl rfl rfl ?_
              refine at_unwanted (j := 14) rfl rfl rfl rfl ?_
              refine at_unwanted (j := 14) rfl rfl rfl rfl ?_
              refine at_wanted (j := 3) rfl ?_
              refine at_v (ov_pick_t rfl rfl rfl) rfl rfl rfl ?_
              refine at_v (ov_pick_t rfl rfl rfl) rfl rfl rfl ?_
              refine at_nil ?_
              refine at_normal ?_
              refine hK23 _ _ _ ?_
              refine at_cond_true rfl ?_
              refine at_seq_k (fun K24 hK24 => ?_)
              refine at_region ?_
              refine at_v (ov_fieldAddr (k := 1) (r := 1) rfl rfl rfl rfl) rfl rfl rfl ?_
              refine at_v (ov_load rfl rfl rfl (fun _ s => s.ld (k := 0) rfl rfl)) rfl rfl rfl ?_
              refine at_nil ?_
              refine at_normal ?_
              refine hK24 _ _ _ ?_
              refine at_block ?_
              refine at_seq_k (fun K25 hK25 => ?_)
              refine at_seq_k (fun K26 hK26 => ?_)
              refine at_region ?_
              refine at_v (ov_strL rfl rfl rfl rfl) rfl rfl rfl ?_
              refine at_v (ov_assign rfl rfl) rfl rfl rfl ?_
              refine at_nil ?_
              refine at_normal ?_
              refine hK26 _ _ _ ?_
              refine at_cond_false (congrArg (fun b => some (Value.bool b)) (show _ = false from by first | assumption | (rw [Bool.not_eq_false']; exact decide_eq_true (by omega)))) ?_
              refine at_seq_k (fun K27 hK27 => ?_)
              refine at_region ?_
              refine at_v (ov_strL rfl rfl rfl rfl) rfl rfl rfl ?_
              refine at_v (ov_assign rfl rfl) rfl rfl rfl ?_
              refine at_nil ?_
              refine at_normal ?_
              refine hK27 _ _ _ ?_
              refine at_cond_false (congrArg (fun b => some (Value.bool b)) (show _ = false from by first | assumption | (rw [Bool.not_eq_false']; exact decide_eq_true (by omega)))) ?_
              refine at_seq_k (fun K28 hK28 => ?_)
              refine at_region ?_
              refine at_v (ov_strL rfl rfl rfl rfl) rfl rfl rfl ?_
              refine at_v (ov_assign rfl rfl) rfl rfl rfl ?_
              refine at_nil ?_
              refine at_normal ?_
              refine hK28 _ _ _ ?_
              refine at_cond_false (congrArg (fun b => some (Value.bool b)) (show _ = false from by first | assumption | (rw [Bool.not_eq_false']; exact decide_eq_true (by omega)))) ?_
              refine at_seq_k (fun K29 hK29 => ?_)
              refine at_region ?_
              refine at_v (ov_strL rfl rfl rfl rfl) rfl rfl rfl ?_
              refine at_v (ov_assign rfl rfl) rfl rfl rfl ?_
              refine at_nil ?_
              refine at_normal ?_
              refine hK29 _ _ _ ?_
              refine at_cond_false (congrArg (fun b => some (Value.bool b)) (show _ = false from by first | assumption | (rw [Bool.not_eq_false']; exact decide_eq_true (by omega)))) ?_
              refine at_seq_k (fun K30 hK30 => ?_)
              refine at_region ?_
              refine at_v (ov_strL rfl rfl rfl rfl) rfl rfl rfl ?_
              refine at_v (ov_assign rfl rfl) rfl rfl rfl ?_
              refine at_nil ?_
              refine at_normal ?_
              refine hK30 _ _ _ ?_
              refine at_cond_false (congrArg (fun b => some (Value.bool b)) (show _ = false from by first | assumption | (rw [Bool.not_eq_false']; exact decide_eq_true (by omega)))) ?_
              refine at_region ?_
              refine at_v (ov_strL rfl rfl rfl rfl) rfl rfl rfl ?_
              refine at_v (ov_assign rfl rfl) rfl rfl rfl ?_
              refine at_nil ?_
              refine at_normal ?_
              refine hK25 _ _ _ ?_
              refine at_cond_false (congrArg (fun b => some (Value.bool b)) (show _ = false from by first | assumption | (rw [Bool.not_eq_false']; exact decide_eq_true (by omega)))) ?_
              refine at_skip ?_
              refine at_inb_normal ?_
              refine at_inb_normal ?_
              refine at_normal ?_
              refine hK15 _ _ _ ?_
              refine at_region ?_
              refine at_v ((ov_int rfl rfl rfl rfl).eq (congrArg (Value.int .i64) (inK_i64 (by omega) (by omega)))) rfl rfl rfl ?_
              refine at_v (ov_move rfl rfl) rfl rfl rfl ?_
              refine at_nil ?_
              refine at_normal ?_
              refine at_roundF (k + 1, h, false) ⟨hlt, hscan⟩ (by simp only; omega) ⟨rfl, rfl, rfl, trivial⟩ rfl ?_
              exact fun _ s => s.finEq (ks := [1, 1]) (js := [0]) rfl rfl rfl
            · have hih0 : decide (h = [83, 69, 76, 69, 67, 84]) = false := by rw [e]; decide
              have hih1 : decide (h = [87, 73, 84, 72]) = false := by rw [e]; decide
              have hih2 : decide (h = [84, 65, 66, 76, 69]) = true := by rw [e]; decide
              refine at_skip ?_
              refine at_normal ?_
              refine hK14 _ _ _ ?_
              refine at_seq_k (fun K15 hK15 => ?_)
              refine at_block ?_
              refine at_seq_k (fun K16 hK16 => ?_)
              refine at_region ?_
              refine at_v (ov_indexRd (fun _ s => s.rd (k := 0) rfl) rfl Tryz.underlying28 rfl rfl rfl ht) rfl rfl rfl ?_
              refine at_v (ov_loadRdS (vs := [_, _]) (fun _ s => s.rd (k := 0) rfl) rfl rfl rfl ht rfl rfl) rfl rfl rfl ?_
              refine at_t (ot_allocA rfl Tryz.zeroValue33) rfl rfl rfl ?_
              rintro _ _ ⟨g1, rfl, rfl⟩
              refine at_t0 (ot_store (k := 0) rfl rfl rfl rfl rfl rfl rfl) rfl rfl ?_
              rintro _ _ ⟨rfl, rfl⟩
              simp only [setAt, splice, spliceL, Value.cells]
              refine at_nil ?_
              refine at_normal ?_
              refine hK16 _ _ _ ?_
              refine at_seq_k (fun K17 hK17 => ?_)
              refine at_block ?_
              refine at_seq_k (fun K18 hK18 => ?_)
              refine at_region ?_
              refine at_v (ov_fieldAddr (k := 0) (r := 0) rfl rfl rfl rfl) rfl rfl rfl ?_
              refine at_v (ov_load rfl rfl rfl (fun _ s => s.ld (k := 0) rfl rfl)) rfl rfl rfl ?_
              refine at_v (ov_int rfl rfl rfl rfl) rfl rfl rfl ?_
              refine at_v (ov_assign rfl rfl) rfl rfl rfl ?_
              refine at_nil ?_
              refine at_normal ?_
              refine hK18 _ _ _ ?_
              refine at_cond_false (congrArg (fun b => some (Value.bool b)) (show _ = false from decide_eq_false (by omega))) ?_
              refine at_seq_k (fun K19 hK19 => ?_)
              refine at_region ?_
              refine at_v (ov_move rfl rfl) rfl rfl rfl ?_
              refine at_v (ov_strL rfl rfl rfl rfl) rfl rfl rfl ?_
              refine at_v (ov_move rfl rfl) rfl rfl rfl ?_
              refine at_unwanted (j := 2) rfl rfl rfl rfl ?_
              refine at_unwanted (j := 2) rfl rfl rfl rfl ?_
              refine at_unwanted (j := 2) rfl rfl rfl rfl ?_
              refine at_unwanted (j := 2) rfl rfl rfl rfl ?_
              refine at_unwantedN (j := 6) rfl rfl rfl ?_
              refine at_unwantedN (j := 6) rfl rfl rfl ?_
              refine at_unwantedN (j := 6) rfl rfl rfl ?_
              refine at_unwanted (j := 2) rfl rfl rfl rfl ?_
              refine at_v (ov_pick_f rfl rfl rfl) rfl rfl rfl ?_
              refine at_v (ov_assign rfl rfl) rfl rfl rfl ?_
              refine at_nil ?_
              refine at_normal ?_
              refine hK19 _ _ _ ?_
              refine at_cond_false rfl ?_
              refine at_seq_k (fun K20 hK20 => ?_)
              refine at_region ?_
              refine at_v (ov_fieldAddr (k := 0) (r := 0) rfl rfl rfl rfl) rfl rfl rfl ?_
              refine at_v (ov_load rfl rfl rfl (fun _ s => s.ld (k := 0) rfl rfl)) rfl rfl rfl ?_
              refine at_v (ov_int rfl rfl rfl rfl) rfl rfl rfl ?_
              refine at_v (ov_move rfl rfl) rfl rfl rfl ?_
              refine at_reval 52 (.bool false) rfl (congrArg Value.bool (decide_eq_false (by omega))) ?_
              refine at_unwanted (j := 3) rfl rfl rfl rfl ?_
              refine at_unwanted (j := 3) rfl rfl rfl rfl ?_
              refine at_unwanted (j := 3) rfl rfl rfl rfl ?_
              refine at_v (ov_pick_f rfl rfl rfl) rfl rfl rfl ?_
              refine at_v (ov_assign rfl rfl) rfl rfl rfl ?_
              refine at_nil ?_
              refine at_normal ?_
              refine hK20 _ _ _ ?_
              refine at_cond_false rfl ?_
              refine at_seq_k (fun K21 hK21 => ?_)
              refine at_region ?_
              refine at_v (ov_move rfl rfl) rfl rfl rfl ?_
              refine at_v (ov_strL rfl rfl rfl rfl) rfl rfl rfl ?_
              refine at_v (ov_move rfl rfl) rfl rfl rfl ?_
              refine at_reval 60 (.bool false) rfl (congrArg Value.bool (decide_eq_false (by omega))) ?_
              refine at_unwanted (j := 2) rfl rfl rfl rfl ?_
              refine at_unwanted (j := 2) rfl rfl rfl rfl ?_
              refine at_unwanted (j := 2) rfl rfl rfl rfl ?_
              refine at_v (ov_pick_f rfl rfl rfl) rfl rfl rfl ?_
              refine at_v (ov_assign rfl rfl) rfl rfl rfl ?_
              refine at_nil ?_
              refine at_normal ?_
              refine hK21 _ _ _ ?_
              refine at_cond_false rfl ?_
              refine at_seq_k (fun K22 hK22 => ?_)
              refine at_region ?_
              refine at_v (ov_move rfl rfl) rfl rfl rfl ?_
              refine at_v (ov_strL rfl rfl rfl rfl) rfl rfl rfl ?_
              refine at_v (ov_assign rfl rfl) rfl rfl rfl ?_
              refine at_nil ?_
              refine at_normal ?_
              refine hK22 _ _ _ ?_
              refine at_cond_false (congrArg (fun b => some (Value.bool b)) (show _ = false from decide_eq_false (by omega))) ?_
              refine at_skip ?_
              refine at_inb_normal ?_
              refine at_normal ?_
              refine hK17 _ _ _ ?_
              refine at_seq_k (fun K23 hK23 => ?_)
              refine at_region ?_
              refine at_v (ov_fieldAddr (k := 0) (r := 0) rfl rfl rfl rfl) rfl rfl rfl ?_
              refine at_v (ov_load rfl rfl rfl (fun _ s => s.ld (k := 0) rfl rfl)) rfl rfl rfl ?_
              refine at_v (ov_int rfl rfl rfl rfl) rfl rfl rfl ?_
              refine at_v (ov_move rfl rfl) rfl rfl rfl ?_
              refine at_reval 73 (.bool true) rfl (congrArg Value.bool (decide_eq_true (by omega))) ?_
              refine at_wanted (j := 3) rfl ?_
              refine at_v (ov_move rfl rfl) rfl rfl rfl ?_
              refine at_wanted (j := 3) rfl ?_
              refine at_v (ov_strL rfl rfl rfl rfl) rfl rfl rfl ?_
              refine at_wanted (j := 3) rfl ?_
              refine at_v (ov_move rfl rfl) rfl rfl rfl ?_
              refine at_reval 76 (.bool false) rfl (congrArg Value.bool (by first | assumption | (rw [Bool.not_eq_false']; exact decide_eq_true (by omega)))) ?_
              refine at_wanted (j := 6) rfl ?_
              refine at_v (ov_move rfl rfl) rfl rfl rfl ?_
              refine at_wanted (j := 6) rfl ?_
              refine at_v (ov_strL rfl rfl rfl rfl) rfl rfl rfl ?_
              refine at_wanted (j := 3) rfl ?_
              refine at_v (ov_pick_f rfl rfl rfl) rfl rfl rfl ?_
              refine at_wanted (j := 3) rfl ?_
              refine at_v (ov_move rfl rfl) rfl rfl rfl ?_
              refine at_reval 80 (.bool false) rfl (congrArg Value.bool (by first | assumption | (rw [Bool.not_eq_false']; exact decide_eq_true (by omega)))) ?_
              refine at_wanted (j := 10) rfl ?_
              refine at_v (ov_move rfl rfl) rfl rfl rfl ?_
              refine at_wanted (j := 10) rfl ?_
              refine at_v (ov_strL rfl rfl rfl rfl) rfl rfl rfl ?_
              refine at_wanted (j := 3) rfl ?_
              refine at_v (ov_pick_f rfl rfl rfl) rfl rfl rfl ?_
              refine at_wanted (j := 3) rfl ?_
              refine at_v (ov_move rfl rfl) rfl rfl rfl ?_
              refine at_reval 84 (.bool true) rfl (congrArg Value.bool (by first | assumption | (rw [Bool.not_eq_true']; exact decide_eq_false (by omega)))) ?_
              refine at_unwanted (j := 14) rfl rfl rfl rfl ?_
              refine at_unwanted (j := 14) rfl rfl rfl rfl ?_
              refine at_wanted (j := 3) rfl ?_
              refine at_v (ov_pick_t rfl rfl rfl) rfl rfl rfl ?_
              refine at_v (ov_pick_t rfl rfl rfl) rfl rfl rfl ?_
              refine at_nil ?_
              refine at_normal ?_
              refine hK23 _ _ _ ?_
              refine at_cond_true rfl ?_
              refine at_seq_k (fun K24 hK24 => ?_)
              refine at_region ?_
              refine at_v (ov_fieldAddr (k := 1) (r := 1) rfl rfl rfl rfl) rfl rfl rfl ?_
              refine at_v (ov_load rfl rfl rfl (fun _ s => s.ld (k := 0) rfl rfl)) rfl rfl rfl ?_
              refine at_nil ?_
              refine at_normal ?_
              refine hK24 _ _ _ ?_
              refine at_block ?_
              refine at_seq_k (fun K25 hK25 => ?_)
              refine at_seq_k (fun K26 hK26 => ?_)
              refine at_region ?_
              refine at_v (ov_strL rfl rfl rfl rfl) rfl rfl rfl ?_
              refine at_v (ov_assign rfl rfl) rfl rfl rfl ?_
              refine at_nil ?_
              refine at_normal ?_
              refine hK26 _ _ _ ?_
              refine at_cond_false (congrArg (fun b => some (Value.bool b)) (show _ = false from by first | assumption | (rw [Bool.not_eq_false']; exact decide_eq_true (by omega)))) ?_
              refine at_seq_k (fun K27 hK27 => ?_)
              refine at_region ?_
              refine at_v (ov_strL rfl rfl rfl rfl) rfl rfl rfl ?_
              refine at_v (ov_assign rfl rfl) rfl rfl rfl ?_
              refine at_nil ?_
              refine at_normal ?_
              refine hK27 _ _ _ ?_
              refine at_cond_false (congrArg (fun b => some (Value.bool b)) (show _ = false from by first | assumption | (rw [Bool.not_eq_false']; exact decide_eq_true (by omega)))) ?_
              refine at_seq_k (fun K28 hK28 => ?_)
              refine at_region ?_
              refine at_v (ov_strL rfl rfl rfl rfl) rfl rfl rfl ?_
              refine at_v (ov_assign rfl rfl) rfl rfl rfl ?_
              refine at_nil ?_
              refine at_normal ?_
              refine hK28 _ _ _ ?_
              refine at_cond_false (congrArg (fun b => some (Value.bool b)) (show _ = false from by first | assumption | (rw [Bool.not_eq_false']; exact decide_eq_true (by omega)))) ?_
              refine at_seq_k (fun K29 hK29 => ?_)
              refine at_region ?_
              refine at_v (ov_strL rfl rfl rfl rfl) rfl rfl rfl ?_
              refine at_v (ov_assign rfl rfl) rfl rfl rfl ?_
              refine at_nil ?_
              refine at_normal ?_
              refine hK29 _ _ _ ?_
              refine at_cond_false (congrArg (fun b => some (Value.bool b)) (show _ = false from by first | assumption | (rw [Bool.not_eq_false']; exact decide_eq_true (by omega)))) ?_
              refine at_seq_k (fun K30 hK30 => ?_)
              refine at_region ?_
              refine at_v (ov_strL rfl rfl rfl rfl) rfl rfl rfl ?_
              refine at_v (ov_assign rfl rfl) rfl rfl rfl ?_
              refine at_nil ?_
              refine at_normal ?_
              refine hK30 _ _ _ ?_
              refine at_cond_false (congrArg (fun b => some (Value.bool b)) (show _ = false from by first | assumption | (rw [Bool.not_eq_false']; exact decide_eq_true (by omega)))) ?_
              refine at_region ?_
              refine at_v (ov_strL rfl rfl rfl rfl) rfl rfl rfl ?_
              refine at_v (ov_assign rfl rfl) rfl rfl rfl ?_
              refine at_nil ?_
              refine at_normal ?_
              refine hK25 _ _ _ ?_
              refine at_cond_false (congrArg (fun b => some (Value.bool b)) (show _ = false from by first | assumption | (rw [Bool.not_eq_false']; exact decide_eq_true (by omega)))) ?_
              refine at_skip ?_
              refine at_inb_normal ?_
              refine at_inb_normal ?_
              refine at_normal ?_
              refine hK15 _ _ _ ?_
              refine at_region ?_
              refine at_v ((ov_int rfl rfl rfl rfl).eq (congrArg (Value.int .i64) (inK_i64 (by omega) (by omega)))) rfl rfl rfl ?_
              refine at_v (ov_move rfl rfl) rfl rfl rfl ?_
              refine at_nil ?_
              refine at_normal ?_
              refine at_roundF (k + 1, h, false) ⟨hlt, hscan⟩ (by simp only; omega) ⟨rfl, rfl, rfl, trivial⟩ rfl ?_
              exact fun _ s => s.finEq (ks := [1, 1]) (js := [0]) rfl rfl rfl
            · have hih0 : decide (h = [83, 69, 76, 69, 67, 84]) = false := by rw [e]; decide
              have hih1 : decide (h = [87, 73, 84, 72]) = false := by rw [e]; decide
              have hih2 : decide (h = [84, 65, 66, 76, 69]) = false := by rw [e]; decide
              have hih3 : decide (h = [86, 65, 76, 85, 69, 83]) = true := by rw [e]; decide
              refine at_skip ?_
              refine at_normal ?_
              refine hK14 _ _ _ ?_
              refine at_seq_k (fun K15 hK15 => ?_)
              refine at_block ?_
              refine at_seq_k (fun K16 hK16 => ?_)
              refine at_region ?_
              refine at_v (ov_indexRd (fun _ s => s.rd (k := 0) rfl) rfl Tryz.underlying28 rfl rfl rfl ht) rfl rfl rfl ?_
              refine at_v (ov_loadRdS (vs := [_, _]) (fun _ s => s.rd (k := 0) rfl) rfl rfl rfl ht rfl rfl) rfl rfl rfl ?_
              refine at_t (ot_allocA rfl Tryz.zeroValue33) rfl rfl rfl ?_
              rintro _ _ ⟨g1, rfl, rfl⟩
              refine at_t0 (ot_store (k := 0) rfl rfl rfl rfl rfl rfl rfl) rfl rfl ?_
              rintro _ _ ⟨rfl, rfl⟩
              simp only [setAt, splice, spliceL, Value.cells]
              refine at_nil ?_
              refine at_normal ?_
              refine hK16 _ _ _ ?_
              refine at_seq_k (fun K17 hK17 => ?_)
              refine at_block ?_
              refine at_seq_k (fun K18 hK18 => ?_)
              refine at_region ?_
              refine at_v (ov_fieldAddr (k := 0) (r := 0) rfl rfl rfl rfl) rfl rfl rfl ?_
              refine at_v (ov_load rfl rfl rfl (fun _ s => s.ld (k := 0) rfl rfl)) rfl rfl rfl ?_
              refine at_v (ov_int rfl rfl rfl rfl) rfl rfl rfl ?_
              refine at_v (ov_assign rfl rfl) rfl rfl rfl ?_
              refine at_nil ?_
              refine at_normal ?_
              refine hK18 _ _ _ ?_
              refine at_cond_false (congrArg (fun b => some (Value.bool b)) (show _ = false from decide_eq_false (by omega))) ?_
              refine at_seq_k (fun K19 hK19 => ?_)
              refine at_region ?_
              refine at_v (ov_move rfl rfl) rfl rfl rfl ?_
              refine at_v (ov_strL rfl rfl rfl rfl) rfl rfl rfl ?_
              refine at_v (ov_move rfl rfl) rfl rfl rfl ?_
              refine at_unwanted (j := 2) rfl rfl rfl rfl ?_
              refine at_unwanted (j := 2) rfl rfl rfl rfl ?_
              refine at_unwanted (j := 2) rfl rfl rfl rfl ?_
              refine at_unwanted (j := 2) rfl rfl rfl rfl ?_
              refine at_unwantedN (j := 6) rfl rfl rfl ?_
              refine at_unwantedN (j := 6) rfl rfl rfl ?_
              refine at_unwantedN (j := 6) rfl rfl rfl ?_
              refine at_unwanted (j := 2) rfl rfl rfl rfl ?_
              refine at_v (ov_pick_f rfl rfl rfl) rfl rfl rfl ?_
              refine at_v (ov_assign rfl rfl) rfl rfl rfl ?_
              refine at_nil ?_
              refine at_normal ?_
              refine hK19 _ _ _ ?_
              refine at_cond_false rfl ?_
              refine at_seq_k (fun K20 hK20 => ?_)
              refine at_region ?_
              refine at_v (ov_fieldAddr (k := 0) (r := 0) rfl rfl rfl rfl) rfl rfl rfl ?_
              refine at_v (ov_load rfl rfl rfl (fun _ s => s.ld (k := 0) rfl rfl)) rfl rfl rfl ?_
              refine at_v (ov_int rfl rfl rfl rfl) rfl rfl rfl ?_
              refine at_v (ov_move rfl rfl) rfl rfl rfl ?_
              refine at_reval 52 (.bool false) rfl (congrArg Value.bool (decide_eq_false (by omega))) ?_
              refine at_unwanted (j := 3) rfl rfl rfl rfl ?_
              refine at_unwanted (j := 3) rfl rfl rfl rfl ?_
              refine at_unwanted (j := 3) rfl rfl rfl rfl ?_
              refine at_v (ov_pick_f rfl rfl rfl) rfl rfl rfl ?_
              refine at_v (ov_assign rfl rfl) rfl rfl rfl ?_
              refine at_nil ?_
              refine at_normal ?_
              refine hK20 _ _ _ ?_
              refine at_cond_false rfl ?_
              refine at_seq_k (fun K21 hK21 => ?_)
              refine at_region ?_
              refine at_v (ov_move rfl rfl) rfl rfl rfl ?_
              refine at_v (ov_strL rfl rfl rfl rfl) rfl rfl rfl ?_
              refine at_v (ov_move rfl rfl) rfl rfl rfl ?_
              refine at_reval 60 (.bool false) rfl (congrArg Value.bool (decide_eq_false (by omega))) ?_
              refine at_unwanted (j := 2) rfl rfl rfl rfl ?_
              refine at_unwanted (j := 2) rfl rfl rfl rfl ?_
              refine at_unwanted (j := 2) rfl rfl rfl rfl ?_
              refine at_v (ov_pick_f rfl rfl rfl) rfl rfl rfl ?_
              refine at_v (ov_assign rfl rfl) rfl rfl rfl ?_
              refine at_nil ?_
              refine at_normal ?_
              refine hK21 _ _ _ ?_
              refine at_cond_false rfl ?_
              refine at_seq_k (fun K22 hK22 => ?_)
              refine at_region ?_
              refine at_v (ov_move rfl rfl) rfl rfl rfl ?_
              refine at_v (ov_strL rfl rfl rfl rfl) rfl rfl rfl ?_
              refine at_v (ov_assign rfl rfl) rfl rfl rfl ?_
              refine at_nil ?_
              refine at_normal ?_
              refine hK22 _ _ _ ?_
              refine at_cond_false (congrArg (fun b => some (Value.bool b)) (show _ = false from decide_eq_false (by omega))) ?_
              refine at_skip ?_
              refine at_inb_normal ?_
              refine at_normal ?_
              refine hK17 _ _ _ ?_
              refine at_seq_k (fun K23 hK23 => ?_)
              refine at_region ?_
              refine at_v (ov_fieldAddr (k := 0) (r := 0) rfl rfl rfl rfl) rfl rfl rfl ?_
              refine at_v (ov_load rfl rfl rfl (fun _ s => s.ld (k := 0) rfl rfl)) rfl rfl rfl ?_
              refine at_v (ov_int rfl rfl rfl rfl) rfl rfl rfl ?_
              refine at_v (ov_move rfl rfl) rfl rfl rfl ?_
              refine at_reval 73 (.bool true) rfl (congrArg Value.bool (decide_eq_true (by omega))) ?_
              refine at_wanted (j := 3) rfl ?_
              refine at_v (ov_move rfl rfl) rfl rfl rfl ?_
              refine at_wanted (j := 3) rfl ?_
              refine at_v (ov_strL rfl rfl rfl rfl) rfl rfl rfl ?_
              refine at_wanted (j := 3) rfl ?_
              refine at_v (ov_move rfl rfl) rfl rfl rfl ?_
              refine at_reval 76 (.bool false) rfl (congrArg Value.bool (by first | assumption | (rw [Bool.not_eq_false']; exact decide_eq_true (by omega)))) ?_
              refine at_wanted (j := 6) rfl ?_
              refine at_v (ov_move rfl rfl) rfl rfl rfl ?_
              refine at_wanted (j := 6) rfl ?_
              refine at_v (ov_strL rfl rfl rfl rfl) rfl rfl rfl ?_
              refine at_wanted (j := 3) rfl ?_
              refine at_v (ov_pick_f rfl rfl rfl) rfl rfl rfl ?_
              refine at_wanted (j := 3) rfl ?_
              refine at_v (ov_move rfl rfl) rfl rfl rfl ?_
              refine at_reval 80 (.bool false) rfl (congrArg Value.bool (by first | assumption | (rw [Bool.not_eq_false']; exact decide_eq_true (by omega)))) ?_
              refine at_wanted (j := 10) rfl ?_
              refine at_v (ov_move rfl rfl) rfl rfl rfl ?_
              refine at_wanted (j := 10) rfl ?_
              refine at_v (ov_strL rfl rfl rfl rfl) rfl rfl rfl ?_
              refine at_wanted (j := 3) rfl ?_
              refine at_v (ov_pick_f rfl rfl rfl) rfl rfl rfl ?_
              refine at_wanted (j := 3) rfl ?_
              refine at_v (ov_move rfl rfl) rfl rfl rfl ?_
              refine at_reval 84 (.bool false) rfl (congrArg Value.bool (by first | assumption | (rw [Bool.not_eq_false']; exact decide_eq_true (by omega)))) ?_
              refine at_wanted (j := 14) rfl ?_
              refine at_v (ov_move rfl rfl) rfl rfl rfl ?_
              refine at_wanted (j := 14) rfl ?_
              refine at_v (ov_strL rfl rfl rfl rfl) rfl rfl rfl ?_
              refine at_wanted (j := 3) rfl ?_
              refine at_v (ov_pick_f rfl rfl rfl) rfl rfl rfl ?_
              refine at_v (ov_pick_t rfl rfl rfl) rfl rfl rfl ?_
              refine at_nil ?_
              refine at_normal ?_
              refine hK23 _ _ _ ?_
              refine at_cond_true (congrArg (fun b => some (Value.bool b)) (show _ = true from by first | assumption | (rw [Bool.not_eq_true']; exact decide_eq_false (by omega)))) ?_
              refine at_seq_k (fun K24 hK24 => ?_)
              refine at_region ?_
              refine at_v (ov_fieldAddr (k := 1) (r := 1) rfl rfl rfl rfl) rfl rfl rfl ?_
              refine at_v (ov_load rfl rfl rfl (fun _ s => s.ld (k := 0) rfl rfl)) rfl rfl rfl ?_
              refine at_nil ?_
              refine at_normal ?_
              refine hK24 _ _ _ ?_
              refine at_block ?_
              refine at_seq_k (fun K25 hK25 => ?_)
              refine at_seq_k (fun K26 hK26 => ?_)
              refine at_region ?_
              refine at_v (ov_strL rfl rfl rfl rfl) rfl rfl rfl ?_
              refine at_v (ov_assign rfl rfl) rfl rfl rfl ?_
              refine at_nil ?_
              refine at_normal ?_
              refine hK26 _ _ _ ?_
              refine at_cond_false (congrArg (fun b => some (Value.bool b)) (show _ = false from by first | assumption | (rw [Bool.not_eq_false']; exact decide_eq_true (by omega)))) ?_
              refine at_seq_k (fun K27 hK27 => ?_)
              refine at_region ?_
              refine at_v (ov_strL rfl rfl rfl rfl) rfl rfl rfl ?_
              refine at_v (ov_assign rfl rfl) rfl rfl rfl ?_
              refine at_nil ?_
              refine at_normal ?_
              refine hK27 _ _ _ ?_
              refine at_cond_false (congrArg (fun b => some (Value.bool b)) (show _ = false from by first | assumption | (rw [Bool.not_eq_false']; exact decide_eq_true (by omega)))) ?_
              refine at_seq_k (fun K28 hK28 => ?_)
              refine at_region ?_
              refine at_v (ov_strL rfl rfl rfl rfl) rfl rfl rfl ?_
              refine at_v (ov_assign rfl rfl) rfl rfl rfl ?_
              refine at_nil ?_
              refine at_normal ?_
              refine hK28 _ _ _ ?_
              refine at_cond_false (congrArg (fun b => some (Value.bool b)) (show _ = false from by first | assumption | (rw [Bool.not_eq_false']; exact decide_eq_true (by omega)))) ?_
              refine at_seq_k (fun K29 hK29 => ?_)
              refine at_region ?_
              refine at_v (ov_strL rfl rfl rfl rfl) rfl rfl rfl ?_
              refine at_v (ov_assign rfl rfl) rfl rfl rfl ?_
              refine at_nil ?_
              refine at_normal ?_
              refine hK29 _ _ _ ?_
              refine at_cond_false (congrArg (fun b => some (Value.bool b)) (show _ = false from by first | assumption | (rw [Bool.not_eq_false']; exact decide_eq_true (by omega)))) ?_
              refine at_seq_k (fun K30 hK30 => ?_)
              refine at_region ?_
              refine at_v (ov_strL rfl rfl rfl rfl) rfl rfl rfl ?_
              refine at_v (ov_assign rfl rfl) rfl rfl rfl ?_
              refine at_nil ?_
              refine at_normal ?_
              refine hK30 _ _ _ ?_
              refine at_cond_false (congrArg (fun b => some (Value.bool b)) (show _ = false from by first | assumption | (rw [Bool.not_eq_false']; exact decide_eq_true (by omega)))) ?_
              refine at_region ?_
              refine at_v (ov_strL rfl rfl rfl rfl) rfl rfl rfl ?_
              refine at_v (ov_assign rfl rfl) rfl rfl rfl ?_
              refine at_nil ?_
              refine at_normal ?_
              refine hK25 _ _ _ ?_
              refine at_cond_false (congrArg (fun b => some (Value.bool b)) (show _ = false from by first | assumption | (rw [Bool.not_eq_false']; exact decide_eq_true (by omega)))) ?_
              refine at_skip ?_
              refine at_inb_normal ?_
              refine at_inb_normal ?_
              refine at_normal ?_
              refine hK15 _ _ _ ?_
              refine at_region ?_
              refine at_v ((ov_int rfl rfl rfl rfl).eq (congrArg (Value.int .i64) (inK_i64 (by omega) (by omega)))) rfl rfl rfl ?_
              refine at_v (ov_move rfl rfl) rfl rfl rfl ?_
              refine at_nil ?_
              refine at_normal ?_
              refine at_roundF (k + 1, h, false) ⟨hlt, hscan⟩ (by simp only; omega) ⟨rfl, rfl, rfl, trivial⟩ rfl ?_
              exact fun _ s => s.finEq (ks := [1, 1]) (js := [0]) rfl rfl rfl
          · obtain ⟨e0, e1, e2, e3⟩ := hcase
            have hin : headsW.contains h = false := by simp [headsW, e0, e1, e2, e3]
            rw [if_neg (by rw [hin]; simp)] at hscan
            have hih0 : decide (h = [83, 69, 76, 69, 67, 84]) = false := decide_eq_false e0
            have hih1 : decide (h = [87, 73, 84, 72]) = false := decide_eq_false e1
            have hih2 : decide (h = [84, 65, 66, 76, 69]) = false := decide_eq_false e2
            have hih3 : decide (h = [86, 65, 76, 85, 69, 83]) = false := decide_eq_false e3
            refine at_skip ?_
            refine at_normal ?_
            refine hK14 _ _ _ ?_
            refine at_seq_k (fun K15 hK15 => ?_)
            refine at_block ?_
            refine at_seq_k (fun K16 hK16 => ?_)
            refine at_region ?_
            refine at_v (ov_indexRd (fun _ s => s.rd (k := 0) rfl) rfl Tryz.underlying28 rfl rfl rfl ht) rfl rfl rfl ?_
            refine at_v (ov_loadRdS (vs := [_, _]) (fun _ s => s.rd (k := 0) rfl) rfl rfl rfl ht rfl rfl) rfl rfl rfl ?_
            refine at_t (ot_allocA rfl Tryz.zeroValue33) rfl rfl rfl ?_
            rintro _ _ ⟨g1, rfl, rfl⟩
            refine at_t0 (ot_store (k := 0) rfl rfl rfl rfl rfl rfl rfl) rfl rfl ?_
            rintro _ _ ⟨rfl, rfl⟩
            simp only [setAt, splice, spliceL, Value.cells]
            refine at_nil ?_
            refine at_normal ?_
            refine hK16 _ _ _ ?_
            refine at_seq_k (fun K17 hK17 => ?_)
            refine at_block ?_
            refine at_seq_k (fun K18 hK18 => ?_)
            refine at_region ?_
            refine at_v (ov_fieldAddr (k := 0) (r := 0) rfl rfl rfl rfl) rfl rfl rfl ?_
            refine at_v (ov_load rfl rfl rfl (fun _ s => s.ld (k := 0) rfl rfl)) rfl rfl rfl ?_
            refine at_v (ov_int rfl rfl rfl rfl) rfl rfl rfl ?_
            refine at_v (ov_assign rfl rfl) rfl rfl rfl ?_
            refine at_nil ?_
            refine at_normal ?_
            refine hK18 _ _ _ ?_
            refine at_cond_false (congrArg (fun b => some (Value.bool b)) (show _ = false from decide_eq_false (by omega))) ?_
            refine at_seq_k (fun K19 hK19 => ?_)
            refine at_region ?_
            refine at_v (ov_move rfl rfl) rfl rfl rfl ?_
            refine at_v (ov_strL rfl rfl rfl rfl) rfl rfl rfl ?_
            refine at_v (ov_move rfl rfl) rfl rfl rfl ?_
            refine at_unwanted (j := 2) rfl rfl rfl rfl ?_
            refine at_unwanted (j := 2) rfl rfl rfl rfl ?_
            refine at_unwanted (j := 2) rfl rfl rfl rfl ?_
            refine at_unwanted (j := 2) rfl rfl rfl rfl ?_
            refine at_unwantedN (j := 6) rfl rfl rfl ?_
            refine at_unwantedN (j := 6) rfl rfl rfl ?_
            refine at_unwantedN (j := 6) rfl rfl rfl ?_
            refine at_unwanted (j := 2) rfl rfl rfl rfl ?_
            refine at_v (ov_pick_f rfl rfl rfl) rfl rfl rfl ?_
            refine at_v (ov_assign rfl rfl) rfl rfl rfl ?_
            refine at_nil ?_
            refine at_normal ?_
            refine hK19 _ _ _ ?_
            refine at_cond_false rfl ?_
            refine at_seq_k (fun K20 hK20 => ?_)
            refine at_region ?_
            refine at_v (ov_fieldAddr (k := 0) (r := 0) rfl rfl rfl rfl) rfl rfl rfl ?_
            refine at_v (ov_load rfl rfl rfl (fun _ s => s.ld (k := 0) rfl rfl)) rfl rfl rfl ?_
            refine at_v (ov_int rfl rfl rfl rfl) rfl rfl rfl ?_
            refine at_v (ov_move rfl rfl) rfl rfl rfl ?_
            refine at_reval 52 (.bool false) rfl (congrArg Value.bool (decide_eq_false (by omega))) ?_
            refine at_unwanted (j := 3) rfl rfl rfl rfl ?_
            refine at_unwanted (j := 3) rfl rfl rfl rfl ?_
            refine at_unwanted (j := 3) rfl rfl rfl rfl ?_
            refine at_v (ov_pick_f rfl rfl rfl) rfl rfl rfl ?_
            refine at_v (ov_assign rfl rfl) rfl rfl rfl ?_
            refine at_nil ?_
            refine at_normal ?_
            refine hK20 _ _ _ ?_
            refine at_cond_false rfl ?_
            refine at_seq_k (fun K21 hK21 => ?_)
            refine at_region ?_
            refine at_v (ov_move rfl rfl) rfl rfl rfl ?_
            refine at_v (ov_strL rfl rfl rfl rfl) rfl rfl rfl ?_
            refine at_v (ov_move rfl rfl) rfl rfl rfl ?_
            refine at_reval 60 (.bool false) rfl (congrArg Value.bool (decide_eq_false (by omega))) ?_
            refine at_unwanted (j := 2) rfl rfl rfl rfl ?_
            refine at_unwanted (j := 2) rfl rfl rfl rfl ?_
            refine at_unwanted (j := 2) rfl rfl rfl rfl ?_
            refine at_v (ov_pick_f rfl rfl rfl) rfl rfl rfl ?_
            refine at_v (ov_assign rfl rfl) rfl rfl rfl ?_
            refine at_nil ?_
            refine at_normal ?_
            refine hK21 _ _ _ ?_
            refine at_cond_false rfl ?_
            refine at_seq_k (fun K22 hK22 => ?_)
            refine at_region ?_
            refine at_v (ov_move rfl rfl) rfl rfl rfl ?_
            refine at_v (ov_strL rfl rfl rfl rfl) rfl rfl rfl ?_
            refine at_v (ov_assign rfl rfl) rfl rfl rfl ?_
            refine at_nil ?_
            refine at_normal ?_
            refine hK22 _ _ _ ?_
            refine at_cond_false (congrArg (fun b => some (Value.bool b)) (show _ = false from decide_eq_false (by omega))) ?_
            refine at_skip ?_
            refine at_inb_normal ?_
            refine at_normal ?_
            refine hK17 _ _ _ ?_
            refine at_seq_k (fun K23 hK23 => ?_)
            refine at_region ?_
            refine at_v (ov_fieldAddr (k := 0) (r := 0) rfl rfl rfl rfl) rfl rfl rfl ?_
            refine at_v (ov_load rfl rfl rfl (fun _ s => s.ld (k := 0) rfl rfl)) rfl rfl rfl ?_
            refine at_v (ov_int rfl rfl rfl rfl) rfl rfl rfl ?_
            refine at_v (ov_move rfl rfl) rfl rfl rfl ?_
            refine at_reval 73 (.bool true) rfl (congrArg Value.bool (decide_eq_true (by omega))) ?_
            refine at_wanted (j := 3) rfl ?_
            refine at_v (ov_move rfl rfl) rfl rfl rfl ?_
            refine at_wanted (j := 3) rfl ?_
            refine at_v (ov_strL rfl rfl rfl rfl) rfl rfl rfl ?_
            refine at_wanted (j := 3) rfl ?_
            refine at_v (ov_move rfl rfl) rfl rfl rfl ?_
            refine at_reval 76 (.bool false) rfl (congrArg Value.bool (by first | assumption | (rw [Bool.not_eq_false']; exact decide_eq_true (by omega)))) ?_
            refine at_wanted (j := 6) rfl ?_
            refine at_v (ov_move rfl rfl) rfl rfl rfl ?_
            refine at_wanted (j := 6) rfl ?_
            refine at_v (ov_strL rfl rfl rfl rfl) rfl rfl rfl ?_
            refine at_wanted (j := 3) rfl ?_
            refine at_v (ov_pick_f rfl rfl rfl) rfl rfl rfl ?_
            refine at_wanted (j := 3) rfl ?_
            refine at_v (ov_move rfl rfl) rfl rfl rfl ?_
            refine at_reval 80 (.bool false) rfl (congrArg Value.bool (by first | assumption | (rw [Bool.not_eq_false']; exact decide_eq_true (by omega)))) ?_
            refine at_wanted (j := 10) rfl ?_
            refine at_v (ov_move rfl rfl) rfl rfl rfl ?_
            refine at_wanted (j := 10) rfl ?_
            refine at_v (ov_strL rfl rfl rfl rfl) rfl rfl rfl ?_
            refine at_wanted (j := 3) rfl ?_
            refine at_v (ov_pick_f rfl rfl rfl) rfl rfl rfl ?_
            refine at_wanted (j := 3) rfl ?_
            refine at_v (ov_move rfl rfl) rfl rfl rfl ?_
            refine at_reval 84 (.bool false) rfl (congrArg Value.bool (by first | assumption | (rw [Bool.not_eq_false']; exact decide_eq_true (by omega)))) ?_
            refine at_wanted (j := 14) rfl ?_
            refine at_v (ov_move rfl rfl) rfl rfl rfl ?_
            refine at_wanted (j := 14) rfl ?_
            refine at_v (ov_strL rfl rfl rfl rfl) rfl rfl rfl ?_
            refine at_wanted (j := 3) rfl ?_
            refine at_v (ov_pick_f rfl rfl rfl) rfl rfl rfl ?_
            refine at_v (ov_pick_t rfl rfl rfl) rfl rfl rfl ?_
            refine at_nil ?_
            refine at_normal ?_
            refine hK23 _ _ _ ?_
            refine at_cond_false (congrArg (fun b => some (Value.bool b)) (show _ = false from by first | assumption | (rw [Bool.not_eq_false']; exact decide_eq_true (by omega)))) ?_
            refine at_skip ?_
            refine at_inb_normal ?_
            refine at_normal ?_
            refine hK15 _ _ _ ?_
            refine at_region ?_
            refine at_v ((ov_int rfl rfl rfl rfl).eq (congrArg (Value.int .i64) (inK_i64 (by omega) (by omega)))) rfl rfl rfl ?_
            refine at_v (ov_move rfl rfl) rfl rfl rfl ?_
            refine at_nil ?_
            refine at_normal ?_
            refine at_roundF (k + 1, h, false) ⟨hlt, hscan⟩ (by simp only; omega) ⟨rfl, rfl, rfl, trivial⟩ rfl ?_
            exact fun _ s => s.finEq (ks := [1, 1]) (js := [0]) rfl rfl rfl
        · have hi1w : decide (t.1 = 1) = false := decide_eq_false h1w
          rw [if_neg (by simp [h1w])] at hscan
          cases hsb : decide (t.1 = 6) with
          | true =>
            have hi7 : decide (t.2 = [59]) = false := decide_eq_false fun e2 => hsg (Prod.ext (of_decide_eq_true hsb) e2)
            refine at_skip ?_
            refine at_normal ?_
            refine hK14 _ _ _ ?_
            refine at_seq_k (fun K15 hK15 => ?_)
            refine at_block ?_
            refine at_seq_k (fun K16 hK16 => ?_)
            refine at_region ?_
            refine at_v (ov_indexRd (fun _ s => s.rd (k := 0) rfl) rfl Tryz.underlying28 rfl rfl rfl ht) rfl rfl rfl ?_
            refine at_v (ov_loadRdS (vs := [_, _]) (fun _ s => s.rd (k := 0) rfl) rfl rfl rfl ht rfl rfl) rfl rfl rfl ?_
            refine at_t (ot_allocA rfl Tryz.zeroValue33) rfl rfl rfl ?_
            rintro _ _ ⟨g1, rfl, rfl⟩
            refine at_t0 (ot_store (k := 0) rfl rfl rfl rfl rfl rfl rfl) rfl rfl ?_
            rintro _ _ ⟨rfl, rfl⟩
            simp only [setAt, splice, spliceL, Value.cells]
            refine at_nil ?_
            refine at_normal ?_
            refine hK16 _ _ _ ?_
            refine at_seq_k (fun K17 hK17 => ?_)
            refine at_block ?_
            refine at_seq_k (fun K18 hK18 => ?_)
            refine at_region ?_
            refine at_v (ov_fieldAddr (k := 0) (r := 0) rfl rfl rfl rfl) rfl rfl rfl ?_
            refine at_v (ov_load rfl rfl rfl (fun _ s => s.ld (k := 0) rfl rfl)) rfl rfl rfl ?_
            refine at_v (ov_int rfl rfl rfl rfl) rfl rfl rfl ?_
            refine at_v (ov_assign rfl rfl) rfl rfl rfl ?_
            refine at_nil ?_
            refine at_normal ?_
            refine hK18 _ _ _ ?_
            refine at_cond_false (congrArg (fun b => some (Value.bool b)) (show _ = false from decide_eq_false (by omega))) ?_
            refine at_seq_k (fun K19 hK19 => ?_)
            refine at_region ?_
            refine at_v (ov_move rfl rfl) rfl rfl rfl ?_
            refine at_v (ov_strL rfl rfl rfl rfl) rfl rfl rfl ?_
            refine at_v (ov_move rfl rfl) rfl rfl rfl ?_
            refine at_unwanted (j := 2) rfl rfl rfl rfl ?_
            refine at_unwanted (j := 2) rfl rfl rfl rfl ?_
            refine at_unwanted (j := 2) rfl rfl rfl rfl ?_
            refine at_unwanted (j := 2) rfl rfl rfl rfl ?_
            refine at_unwantedN (j := 6) rfl rfl rfl ?_
            refine at_unwantedN (j := 6) rfl rfl rfl ?_
            refine at_unwantedN (j := 6) rfl rfl rfl ?_
            refine at_unwanted (j := 2) rfl rfl rfl rfl ?_
            refine at_v (ov_pick_f rfl rfl rfl) rfl rfl rfl ?_
            refine at_v (ov_assign rfl rfl) rfl rfl rfl ?_
            refine at_nil ?_
            refine at_normal ?_
            refine hK19 _ _ _ ?_
            refine at_cond_false rfl ?_
            refine at_seq_k (fun K20 hK20 => ?_)
            refine at_region ?_
            refine at_v (ov_fieldAddr (k := 0) (r := 0) rfl rfl rfl rfl) rfl rfl rfl ?_
            refine at_v (ov_load rfl rfl rfl (fun _ s => s.ld (k := 0) rfl rfl)) rfl rfl rfl ?_
            refine at_v (ov_int rfl rfl rfl rfl) rfl rfl rfl ?_
            refine at_v (ov_move rfl rfl) rfl rfl rfl ?_
            refine at_reval 52 (.bool true) rfl (congrArg Value.bool (by first | assumption | (rw [Bool.not_eq_true']; exact decide_eq_false (by omega)))) ?_
            refine at_wanted (j := 3) rfl ?_
            refine at_v (ov_fieldAddr (k := 1) (r := 1) rfl rfl rfl rfl) rfl rfl rfl ?_
            refine at_wanted (j := 3) rfl ?_
            refine at_v (ov_load rfl rfl rfl (fun _ s => s.ld (k := 0) rfl rfl)) rfl rfl rfl ?_
            refine at_wanted (j := 3) rfl ?_
            refine at_v (ov_strL rfl rfl rfl rfl) rfl rfl rfl ?_
            refine at_v (ov_pick_t rfl rfl rfl) rfl rfl rfl ?_
            refine at_v (ov_assign rfl rfl) rfl rfl rfl ?_
            refine at_nil ?_
            refine at_normal ?_
            refine hK20 _ _ _ ?_
            refine at_cond_false (congrArg (fun b => some (Value.bool b)) (show _ = false from by first | assumption | (rw [Bool.not_eq_false']; exact decide_eq_true (by omega)))) ?_
            refine at_seq_k (fun K21 hK21 => ?_)
            refine at_region ?_
            refine at_v (ov_move rfl rfl) rfl rfl rfl ?_
            refine at_v (ov_strL rfl rfl rfl rfl) rfl rfl rfl ?_
            refine at_v (ov_move rfl rfl) rfl rfl rfl ?_
            refine at_reval 60 (.bool false) rfl (congrArg Value.bool (decide_eq_false (by omega))) ?_
            refine at_unwanted (j := 2) rfl rfl rfl rfl ?_
            refine at_unwanted (j := 2) rfl rfl rfl rfl ?_
            refine at_unwanted (j := 2) rfl rfl rfl rfl ?_
            refine at_v (ov_pick_f rfl rfl rfl) rfl rfl rfl ?_
            refine at_v (ov_assign rfl rfl) rfl rfl rfl ?_
            refine at_nil ?_
            refine at_normal ?_
            refine hK21 _ _ _ ?_
            refine at_cond_false rfl ?_
            refine at_seq_k (fun K22 hK22 => ?_)
            refine at_region ?_
            refine at_v (ov_move rfl rfl) rfl rfl rfl ?_
            refine at_v (ov_strL rfl rfl rfl rfl) rfl rfl rfl ?_
            refine at_v (ov_assign rfl rfl) rfl rfl rfl ?_
            refine at_nil ?_
            refine at_normal ?_
            refine hK22 _ _ _ ?_
            refine at_cond_false (congrArg (fun b => some (Value.bool b)) (show _ = false from decide_eq_false (by omega))) ?_
            refine at_skip ?_
            refine at_inb_normal ?_
            refine at_normal ?_
            refine hK17 _ _ _ ?_
            refine at_seq_k (fun K23 hK23 => ?_)
            refine at_region ?_
            refine at_v (ov_fieldAddr (k := 0) (r := 0) rfl rfl rfl rfl) rfl rfl rfl ?_
            refine at_v (ov_load rfl rfl rfl (fun _ s => s.ld (k := 0) rfl rfl)) rfl rfl rfl ?_
            refine at_v (ov_int rfl rfl rfl rfl) rfl rfl rfl ?_
            refine at_v (ov_move rfl rfl) rfl rfl rfl ?_
            refine at_reval 73 (.bool false) rfl (congrArg Value.bool (decide_eq_false (by omega))) ?_
            refine at_unwanted (j := 3) rfl rfl rfl rfl ?_
            refine at_unwanted (j := 3) rfl rfl rfl rfl ?_
            refine at_unwanted (j := 3) rfl rfl rfl rfl ?_
            refine at_unwantedN (j := 6) rfl rfl rfl ?_
            refine at_unwantedN (j := 6) rfl rfl rfl ?_
            refine at_unwanted (j := 3) rfl rfl rfl rfl ?_
            refine at_unwanted (j := 3) rfl rfl rfl rfl ?_
            refine at_unwantedN (j := 10) rfl rfl rfl ?_
            refine at_unwantedN (j := 10) rfl rfl rfl ?_
            refine at_unwanted (j := 3) rfl rfl rfl rfl ?_
            refine at_unwanted (j := 3) rfl rfl rfl rfl ?_
            refine at_unwantedN (j := 14) rfl rfl rfl ?_
            refine at_unwantedN (j := 14) rfl rfl rfl ?_
            refine at_unwanted (j := 3) rfl rfl rfl rfl ?_
            refine at_v (ov_pick_f rfl rfl rfl) rfl rfl rfl ?_
            refine at_nil ?_
            refine at_normal ?_
            refine hK23 _ _ _ ?_
            refine at_cond_false rfl ?_
            refine at_skip ?_
            refine at_inb_normal ?_
            refine at_normal ?_
            refine hK15 _ _ _ ?_
            refine at_region ?_
            refine at_v ((ov_int rfl rfl rfl rfl).eq (congrArg (Value.int .i64) (inK_i64 (by omega) (by omega)))) rfl rfl rfl ?_
            refine at_v (ov_move rfl rfl) rfl rfl rfl ?_
            refine at_nil ?_
            refine at_normal ?_
            refine at_roundF (k + 1, h, false) ⟨hlt, hscan⟩ (by simp only; omega) ⟨rfl, rfl, rfl, trivial⟩ rfl ?_
            exact fun _ s => s.finEq (ks := [1, 1]) (js := [0]) rfl rfl rfl
          | false =>
            refine at_skip ?_
            refine at_normal ?_
            refine hK14 _ _ _ ?_
            refine at_seq_k (fun K15 hK15 => ?_)
            refine at_block ?_
            refine at_seq_k (fun K16 hK16 => ?_)
            refine at_region ?_
            refine at_v (ov_indexRd (fun _ s => s.rd (k := 0) rfl) rfl Tryz.underlying28 rfl rfl rfl ht) rfl rfl rfl ?_
            refine at_v (ov_loadRdS (vs := [_, _]) (fun _ s => s.rd (k := 0) rfl) rfl rfl rfl ht rfl rfl) rfl rfl rfl ?_
            refine at_t (ot_allocA rfl Tryz.zeroValue33) rfl rfl rfl ?_
            rintro _ _ ⟨g1, rfl, rfl⟩
            refine at_t0 (ot_store (k := 0) rfl rfl rfl rfl rfl rfl rfl) rfl rfl ?_
            rintro _ _ ⟨rfl, rfl⟩
            simp only [setAt, splice, spliceL, Value.cells]
            refine at_nil ?_
            refine at_normal ?_
            refine hK16 _ _ _ ?_
            refine at_seq_k (fun K17 hK17 => ?_)
            refine at_block ?_
            refine at_seq_k (fun K18 hK18 => ?_)
            refine at_region ?_
            refine at_v (ov_fieldAddr (k := 0) (r := 0) rfl rfl rfl rfl) rfl rfl rfl ?_
            refine at_v (ov_load rfl rfl rfl (fun _ s => s.ld (k := 0) rfl rfl)) rfl rfl rfl ?_
            refine at_v (ov_int rfl rfl rfl rfl) rfl rfl rfl ?_
            refine at_v (ov_assign rfl rfl) rfl rfl rfl ?_
            refine at_nil ?_
            refine at_normal ?_
            refine hK18 _ _ _ ?_
            refine at_cond_false (congrArg (fun b => some (Value.bool b)) (show _ = false from decide_eq_false (by omega))) ?_
            refine at_seq_k (fun K19 hK19 => ?_)
            refine at_region ?_
            refine at_v (ov_move rfl rfl) rfl rfl rfl ?_
            refine at_v (ov_strL rfl rfl rfl rfl) rfl rfl rfl ?_
            refine at_v (ov_move rfl rfl) rfl rfl rfl ?_
            refine at_unwanted (j := 2) rfl rfl rfl rfl ?_
            refine at_unwanted (j := 2) rfl rfl rfl rfl ?_
            refine at_unwanted (j := 2) rfl rfl rfl rfl ?_
            refine at_unwanted (j := 2) rfl rfl rfl rfl ?_
            refine at_unwantedN (j := 6) rfl rfl rfl ?_
            refine at_unwantedN (j := 6) rfl rfl rfl ?_
            refine at_unwantedN (j := 6) rfl rfl rfl ?_
            refine at_unwanted (j := 2) rfl rfl rfl rfl ?_
            refine at_v (ov_pick_f rfl rfl rfl) rfl rfl rfl ?_
            refine at_v (ov_assign rfl rfl) rfl rfl rfl ?_
            refine at_nil ?_
            refine at_normal ?_
            refine hK19 _ _ _ ?_
            refine at_cond_false rfl ?_
            refine at_seq_k (fun K20 hK20 => ?_)
            refine at_region ?_
            refine at_v (ov_fieldAddr (k := 0) (r := 0) rfl rfl rfl rfl) rfl rfl rfl ?_
            refine at_v (ov_load rfl rfl rfl (fun _ s => s.ld (k := 0) rfl rfl)) rfl rfl rfl ?_
            refine at_v (ov_int rfl rfl rfl rfl) rfl rfl rfl ?_
            refine at_v (ov_move rfl rfl) rfl rfl rfl ?_
            refine at_reval 52 (.bool false) rfl (congrArg Value.bool (by first | assumption | (rw [Bool.not_eq_false']; exact decide_eq_true (by omega)))) ?_
            refine at_unwanted (j := 3) rfl rfl rfl rfl ?_
            refine at_unwanted (j := 3) rfl rfl rfl rfl ?_
            refine at_unwanted (j := 3) rfl rfl rfl rfl ?_
            refine at_v (ov_pick_f rfl rfl rfl) rfl rfl rfl ?_
            refine at_v (ov_assign rfl rfl) rfl rfl rfl ?_
            refine at_nil ?_
            refine at_normal ?_
            refine hK20 _ _ _ ?_
            refine at_cond_false rfl ?_
            refine at_seq_k (fun K21 hK21 => ?_)
            refine at_region ?_
            refine at_v (ov_move rfl rfl) rfl rfl rfl ?_
            refine at_v (ov_strL rfl rfl rfl rfl) rfl rfl rfl ?_
            refine at_v (ov_move rfl rfl) rfl rfl rfl ?_
            refine at_reval 60 (.bool false) rfl (congrArg Value.bool (decide_eq_false (by omega))) ?_
            refine at_unwanted (j := 2) rfl rfl rfl rfl ?_
            refine at_unwanted (j := 2) rfl rfl rfl rfl ?_
            refine at_unwanted (j := 2) rfl rfl rfl rfl ?_
            refine at_v (ov_pick_f rfl rfl rfl) rfl rfl rfl ?_
            refine at_v (ov_assign rfl rfl) rfl rfl rfl ?_
            refine at_nil ?_
            refine at_normal ?_
            refine hK21 _ _ _ ?_
            refine at_cond_false rfl ?_
            refine at_seq_k (fun K22 hK22 => ?_)
            refine at_region ?_
            refine at_v (ov_move rfl rfl) rfl rfl rfl ?_
            refine at_v (ov_strL rfl rfl rfl rfl) rfl rfl rfl ?_
            refine at_v (ov_assign rfl rfl) rfl rfl rfl ?_
            refine at_nil ?_
            refine at_normal ?_
            refine hK22 _ _ _ ?_
            refine at_cond_false (congrArg (fun b => some (Value.bool b)) (show _ = false from decide_eq_false (by omega))) ?_
            refine at_skip ?_
            refine at_inb_normal ?_
            refine at_normal ?_
            refine hK17 _ _ _ ?_
            refine at_seq_k (fun K23 hK23 => ?_)
            refine at_region ?_
            refine at_v (ov_fieldAddr (k := 0) (r := 0) rfl rfl rfl rfl) rfl rfl rfl ?_
            refine at_v (ov_load rfl rfl rfl (fun _ s => s.ld (k := 0) rfl rfl)) rfl rfl rfl ?_
            refine at_v (ov_int rfl rfl rfl rfl) rfl rfl rfl ?_
            refine at_v (ov_move rfl rfl) rfl rfl rfl ?_
            refine at_reval 73 (.bool false) rfl (congrArg Value.bool (decide_eq_false (by omega))) ?_
            refine at_unwanted (j := 3) rfl rfl rfl rfl ?_
            refine at_unwanted (j := 3) rfl rfl rfl rfl ?_
            refine at_unwanted (j := 3) rfl rfl rfl rfl ?_
            refine at_unwantedN (j := 6) rfl rfl rfl ?_
            refine at_unwantedN (j := 6) rfl rfl rfl ?_
            refine at_unwanted (j := 3) rfl rfl rfl rfl ?_
            refine at_unwanted (j := 3) rfl rfl rfl rfl ?_
            refine at_unwantedN (j := 10) rfl rfl rfl ?_
            refine at_unwantedN (j := 10) rfl rfl rfl ?_
            refine at_unwanted (j := 3) rfl rfl rfl rfl ?_
            refine at_unwanted (j := 3) rfl rfl rfl rfl ?_
            refine at_unwantedN (j := 14) rfl rfl rfl ?_
            refine at_unwantedN (j := 14) rfl rfl rfl ?_
            refine at_unwanted (j := 3) rfl rfl rfl rfl ?_
            refine at_v (ov_pick_f rfl rfl rfl) rfl rfl rfl ?_
            refine at_nil ?_
            refine at_normal ?_
            refine hK23 _ _ _ ?_
            refine at_cond_false rfl ?_
            refine at_skip ?_
            refine at_inb_normal ?_
            refine at_normal ?_
            refine hK15 _ _ _ ?_
            refine at_region ?_
            refine at_v ((ov_int rfl rfl rfl rfl).eq (congrArg (Value.int .i64) (inK_i64 (by omega) (by omega)))) rfl rfl rfl ?_
            refine at_v (ov_move rfl rfl) rfl rfl rfl ?_
            refine at_nil ?_
            refine at_normal ?_
            refine at_roundF (k + 1, h, false) ⟨hlt, hscan⟩ (by simp only; omega) ⟨rfl, rfl, rfl, trivial⟩ rfl ?_
            exact fun _ s => s.finEq (ks := [1, 1]) (js := [0]) rfl rfl rfl
    · have hk2 : k = l.length := by
        have : ¬ k < l.length := by simpa using hc
        omega
      have hhH : h = H := by
        rw [hk2, List.drop_length] at hscan
        simpa [scanT] using hscan
      subst hhH
      have hm : h = wSELECT ∨ h = wWITH ∨ h = wTABLE ∨ h = wVALUES ∨ h = wSHOW ∨ h = wDESCRIBE ∨ h = wDESC ∨ h = wEXPLAIN := by simpa [finalW] using hfin
      rcases hm with e | e | e | e | e | e | e | e
      · have hih0 : decide (h = [83, 69, 76, 69, 67, 84]) = true := by rw [e]; decide
        refine at_exit ?_
        refine at_then_exit ?_
        refine at_then_exit ?_
        refine at_exit_eq ?_
        refine at_normal ?_
        refine hK11 _ _ _ ?_
        refine at_seq_k (fun K15 hK15 => ?_)
        refine at_seq_k (fun K16 hK16 => ?_)
        refine at_region ?_
        refine at_v (ov_move rfl rfl) rfl rfl rfl ?_
        refine at_nil ?_
        refine at_normal ?_
        refine hK16 _ _ _ ?_
        refine at_block ?_
        refine at_seq_k (fun K17 hK17 => ?_)
        refine at_seq_k (fun K18 hK18 => ?_)
        refine at_region ?_
        refine at_v (ov_strL rfl rfl rfl rfl) rfl rfl rfl ?_
        refine at_v (ov_assign rfl rfl) rfl rfl rfl ?_
        refine at_nil ?_
        refine at_normal ?_
        refine hK18 _ _ _ ?_
        refine at_cond_true (congrArg (fun b => some (Value.bool b)) (show _ = true from by first | assumption | (rw [Bool.not_eq_true']; exact decide_eq_false (by omega)))) ?_
        refine at_skip ?_
        refine at_normal ?_
        refine hK17 _ _ _ ?_
        refine at_cond_true (congrArg (fun b => some (Value.bool b)) (show _ = true from by first | assumption | (rw [Bool.not_eq_true']; exact decide_eq_false (by omega)))) ?_
        refine at_seq_k (fun K19 hK19 => ?_)
        refine at_region ?_
        refine at_v (ov_assign rfl rfl) rfl rfl rfl ?_
        refine at_nil ?_
        refine at_normal ?_
        refine hK19 _ _ _ ?_
        refine at_ret ?_
        refine at_inb_ret ?_
        refine at_then_ret ?_
        refine at_end ?_
        refine at_fin (rsV rfl (res_tmp rfl)) ?_
        refine ⟨_, ⟨rfl, rfl⟩, ?_⟩
        exact fun _ s => s.finEq (ks := []) (js := [0, 0]) rfl rfl rfl
      · have hih0 : decide (h = [83, 69, 76, 69, 67, 84]) = false := by rw [e]; decide
        have hih1 : decide (h = [87, 73, 84, 72]) = true := by rw [e]; decide
        refine at_exit ?_
        refine at_then_exit ?_
        refine at_then_exit ?_
        refine at_exit_eq ?_
        refine at_normal ?_
        refine hK11 _ _ _ ?_
        refine at_seq_k (fun K15 hK15 => ?_)
        refine at_seq_k (fun K16 hK16 => ?_)
        refine at_region ?_
        refine at_v (ov_move rfl rfl) rfl rfl rfl ?_
        refine at_nil ?_
        refine at_normal ?_
        refine hK16 _ _ _ ?_
        refine at_block ?_
        refine at_seq_k (fun K17 hK17 => ?_)
        refine at_seq_k (fun K18 hK18 => ?_)
        refine at_region ?_
        refine at_v (ov_strL rfl rfl rfl rfl) rfl rfl rfl ?_
        refine at_v (ov_assign rfl rfl) rfl rfl rfl ?_
        refine at_nil ?_
        refine at_normal ?_
        refine hK18 _ _ _ ?_
        refine at_cond_false (congrArg (fun b => some (Value.bool b)) (show _ = false from by first | assumption | (rw [Bool.not_eq_false']; exact decide_eq_true (by omega)))) ?_
        refine at_seq_k (fun K19 hK19 => ?_)
        refine at_region ?_
        refine at_v (ov_strL rfl rfl rfl rfl) rfl rfl rfl ?_
        refine at_v (ov_assign rfl rfl) rfl rfl rfl ?_
        refine at_nil ?_
        refine at_normal ?_
        refine hK19 _ _ _ ?_
        refine at_cond_true (congrArg (fun b => some (Value.bool b)) (show _ = true from by first | assumption | (rw [Bool.not_eq_true']; exact decide_eq_false (by omega)))) ?_
        refine at_skip ?_
        refine at_normal ?_
        refine hK17 _ _ _ ?_
        refine at_cond_true (congrArg (fun b => some (Value.bool b)) (show _ = true from by first | assumption | (rw [Bool.not_eq_true']; exact decide_eq_false (by omega)))) ?_
        refine at_seq_k (fun K20 hK20 => ?_)
        refine at_region ?_
        refine at_v (ov_assign rfl rfl) rfl rfl rfl ?_
        refine at_nil ?_
        refine at_normal ?_
        refine hK20 _ _ _ ?_
        refine at_ret ?_
        refine at_inb_ret ?_
        refine at_then_ret ?_
        refine at_end ?_
        refine at_fin (rsV rfl (res_tmp rfl)) ?_
        refine ⟨_, ⟨rfl, rfl⟩, ?_⟩
        exact fun _ s => s.finEq (ks := []) (js := [0, 0]) rfl rfl rfl
      · have hih0 : decide (h = [83, 69, 76, 69, 67, 84]) = false := by rw [e]; decide
        have hih1 : decide (h = [87, 73, 84, 72]) = false := by rw [e]; decide
        have hih2 : decide (h = [84, 65, 66, 76, 69]) = true := by rw [e]; decide
        refine at_exit ?_
        refine at_then_exit ?_
        refine at_then_exit ?_
        refine at_exit_eq ?_
        refine at_normal ?_
        refine hK11 _ _ _ ?_
        refine at_seq_k (fun K15 hK15 => ?_)
        refine at_seq_k (fun K16 hK16 => ?_)
        refine at_region ?_
        refine at_v (ov_move rfl rfl) rfl rfl rfl ?_
        refine at_nil ?_
        refine at_normal ?_
        refine hK16 _ _ _ ?_
        refine at_block ?_
        refine at_seq_k (fun K17 hK17 => ?_)
        refine at_seq_k (fun K18 hK18 => ?_)
        refine at_region ?_
        refine at_v (ov_strL rfl rfl rfl rfl) rfl rfl rfl ?_
        refine at_v (ov_assign rfl rfl) rfl rfl rfl ?_
        refine at_nil ?_
        refine at_normal ?_
        refine hK18 _ _ _ ?_
        refine at_cond_false (congrArg (fun b => some (Value.bool b)) (show _ = false from by first | assumption | (rw [Bool.not_eq_false']; exact decide_eq_true (by omega)))) ?_
        refine at_seq_k (fun K19 hK19 => ?_)
        refine at_region ?_
        refine at_v (ov_strL rfl rfl rfl rfl) rfl rfl rfl ?_
        refine at_v (ov_assign rfl rfl) rfl rfl rfl ?_
        refine at_nil ?_
        refine at_normal ?_
        refine hK19 _ _ _ ?_
        refine at_cond_false (congrArg (fun b => some (Value.bool b)) (show _ = false from by first | assumption | (rw [Bool.not_eq_false']; exact decide_eq_true (by omega)))) ?_
        refine at_seq_k (fun K20 hK20 => ?_)
        refine at_region ?_
        refine at_v (ov_strL rfl rfl rfl rfl) rfl rfl rfl ?_
        refine at_v (ov_assign rfl rfl) rfl rfl rfl ?_
        refine at_nil ?_
        refine at_normal ?_
        refine hK20 _ _ _ ?_
        refine at_cond_true (congrArg (fun b => some (Value.bool b)) (show _ = true from by first | assumption | (rw [Bool.not_eq_true']; exact decide_eq_false (by omega)))) ?_
        refine at_skip ?_
        refine at_normal ?_
        refine hK17 _ _ _ ?_
        refine at_cond_true (congrArg (fun b => some (Value.bool b)) (show _ = true from by first | assumption | (rw [Bool.not_eq_true']; exact decide_eq_false (by omega)))) ?_
        refine at_seq_k (fun K21 hK21 => ?_)
        refine at_region ?_
        refine at_v (ov_assign rfl rfl) rfl rfl rfl ?_
        refine at_nil ?_
        refine at_normal ?_
        refine hK21 _ _ _ ?_
        refine at_ret ?_
        refine at_inb_ret ?_
        refine at_then_ret ?_
        refine at_end ?_
        refine at_fin (rsV rfl (res_tmp rfl)) ?_
        refine ⟨_, ⟨rfl, rfl⟩, ?_⟩
        exact fun _ s => s.finEq (ks := []) (js := [0, 0]) rfl rfl rfl
      · have hih0 : decide (h = [83, 69, 76, 69, 67, 84]) = false := by rw [e]; decide
        have hih1 : decide (h = [87, 73, 84, 72]) = false := by rw [e]; decide
        have hih2 : decide (h = [84, 65, 66, 76, 69]) = false := by rw [e]; decide
        have hih3 : decide (h = [86, 65, 76, 85, 69, 83]) = true := by rw [e]; decide
        refine at_exit ?_
        refine at_then_exit ?_
        refine at_then_exit ?_
        refine at_exit_eq ?_
        refine at_normal ?_
        refine hK11 _ _ _ ?_
        refine at_seq_k (fun K15 hK15 => ?_)
        refine at_seq_k (fun K16 hK16 => ?_)
        refine at_region ?_
        refine at_v (ov_move rfl rfl) rfl rfl rfl ?_
        refine at_nil ?_
        refine at_normal ?_
        refine hK16 _ _ _ ?_
        refine at_block ?_
        refine at_seq_k (fun K17 hK17 => ?_)
        refine at_seq_k (fun K18 hK18 => ?_)
        refine at_region ?_
        refine at_v (ov_strL rfl rfl rfl rfl) rfl rfl rfl ?_
        refine at_v (ov_assign rfl rfl) rfl rfl rfl ?_
        refine at_nil ?_
        refine at_normal ?_
        refine hK18 _ _ _ ?_
        refine at_cond_false (congrArg (fun b => some (Value.bool b)) (show _ = false from by first | assumption | (rw [Bool.not_eq_false']; exact decide_eq_true (by omega)))) ?_
        refine at_seq_k (fun K19 hK19 => ?_)
        refine at_region ?_
        refine at_v (ov_strL rfl rfl rfl rfl) rfl rfl rfl ?_
        refine at_v (ov_assign rfl rfl) rfl rfl rfl ?_
        refine at_nil ?_
        refine at_normal ?_
        refine hK19 _ _ _ ?_
        refine at_cond_false (congrArg (fun b => some (Value.bool b)) (show _ = false from by first | assumption | (rw [Bool.not_eq_false']; exact decide_eq_true (by omega)))) ?_
        refine at_seq_k (fun K20 hK20 => ?_)
        refine at_region ?_
        refine at_v (ov_strL rfl rfl rfl rfl) rfl rfl rfl ?_
        refine at_v (ov_assign rfl rfl) rfl rfl rfl ?_
        refine at_nil ?_
        refine at_normal ?_
        refine hK20 _ _ _ ?_
        refine at_cond_false (congrArg (fun b => some (Value.bool b)) (show _ = false from by first | assumption | (rw [Bool.not_eq_false']; exact decide_eq_true (by omega)))) ?_
        refine at_seq_k (fun K21 hK21 => ?_)
        refine at_region ?_
        refine at_v (ov_strL rfl rfl rfl rfl) rfl rfl rfl ?_
        refine at_v (ov_assign rfl rfl) rfl rfl rfl ?_
        refine at_nil ?_
        refine at_normal ?_
        refine hK21 _ _ _ ?_
        refine at_cond_true (congrArg (fun b => some (Value.bool b)) (show _ = true from by first | assumption | (rw [Bool.not_eq_true']; exact decide_eq_false (by omega)))) ?_
        refine at_skip ?_
        refine at_normal ?_
        refine hK17 _ _ _ ?_
        refine at_cond_true (congrArg (fun b => some (Value.bool b)) (show _ = true from by first | assumption | (rw [Bool.not_eq_true']; exact decide_eq_false (by omega)))) ?_
        refine at_seq_k (fun K22 hK22 => ?_)
        refine at_region ?_
        refine at_v (ov_assign rfl rfl) rfl rfl rfl ?_
        refine at_nil ?_
        refine at_normal ?_
        refine hK22 _ _ _ ?_
        refine at_ret ?_
        refine at_inb_ret ?_
        refine at_then_ret ?_
        refine at_end ?_
        refine at_fin (rsV rfl (res_tmp rfl)) ?_
        refine ⟨_, ⟨rfl, rfl⟩, ?_⟩
        exact fun _ s => s.finEq (ks := []) (js := [0, 0]) rfl rfl rfl
      · have hih0 : decide (h = [83, 69, 76, 69, 67, 84]) = false := by rw [e]; decide
        have hih1 : decide (h = [87, 73, 84, 72]) = false := by rw [e]; decide
        have hih2 : decide (h = [84, 65, 66, 76, 69]) = false := by rw [e]; decide
        have hih3 : decide (h = [86, 65, 76, 85, 69, 83]) = false := by rw [e]; decide
        have hih4 : decide (h = [83, 72, 79, 87]) = true := by rw [e]; decide
        refine at_exit ?_
        refine at_then_exit ?_
        refine at_then_exit ?_
        refine at_exit_eq ?_
        refine at_normal ?_
        refine hK11 _ _ _ ?_
        refine at_seq_k (fun K15 hK15 => ?_)
        refine at_seq_k (fun K16 hK16 => ?_)
        refine at_region ?_
        refine at_v (ov_move rfl rfl) rfl rfl rfl ?_
        refine at_nil ?_
        refine at_normal ?_
        refine hK16 _ _ _ ?_
        refine at_block ?_
        refine at_seq_k (fun K17 hK17 => ?_)
        refine at_seq_k (fun K18 hK18 => ?_)
        refine at_region ?_
        refine at_v (ov_strL rfl rfl rfl rfl) rfl rfl rfl ?_
        refine at_v (ov_assign rfl rfl) rfl rfl rfl ?_
        refine at_nil ?_
        refine at_normal ?_
        refine hK18 _ _ _ ?_
        refine at_cond_false (congrArg (fun b => some (Value.bool b)) (show _ = false from by first | assumption | (rw [Bool.not_eq_false']; exact decide_eq_true (by omega)))) ?_
        refine at_seq_k (fun K19 hK19 => ?_)
        refine at_region ?_
        refine at_v (ov_strL rfl rfl rfl rfl) rfl rfl rfl ?_
        refine at_v (ov_assign rfl rfl) rfl rfl rfl ?_
        refine at_nil ?_
        refine at_normal ?_
        refine hK19 _ _ _ ?_
        refine at_cond_false (congrArg (fun b => some (Value.bool b)) (show _ = false from by first | assumption | (rw [Bool.not_eq_false']; exact decide_eq_true (by omega)))) ?_
        refine at_seq_k (fun K20 hK20 => ?_)
        refine at_region ?_
        refine at_v (ov_strL rfl rfl rfl rfl) rfl rfl rfl ?_
        refine at_v (ov_assign rfl rfl) rfl rfl rfl ?_
        refine at_nil ?_
        refine at_normal ?_
        refine hK20 _ _ _ ?_
        refine at_cond_false (congrArg (fun b => some (Value.bool b)) (show _ = false from by first | assumption | (rw [Bool.not_eq_false']; exact decide_eq_true (by omega)))) ?_
        refine at_seq_k (fun K21 hK21 => ?_)
        refine at_region ?_
        refine at_v (ov_strL rfl rfl rfl rfl) rfl rfl rfl ?_
        refine at_v (ov_assign rfl rfl) rfl rfl rfl ?_
        refine at_nil ?_
        refine at_normal ?_
        refine hK21 _ _ _ ?_
        refine at_cond_false (congrArg (fun b => some (Value.bool b)) (show _ = false from by first | assumption | (rw [Bool.not_eq_false']; exact decide_eq_true (by omega)))) ?_
        refine at_seq_k (fun K22 hK22 => ?_)
        refine at_region ?_
        refine at_v (ov_strL rfl rfl rfl rfl) rfl rfl rfl ?_
        refine at_v (ov_assign rfl rfl) rfl rfl rfl ?_
        refine at_nil ?_
        refine at_normal ?_
        refine hK22 _ _ _ ?_
        refine at_cond_true (congrArg (fun b => some (Value.bool b)) (show _ = true from by first | assumption | (rw [Bool.not_eq_true']; exact decide_eq_false (by omega)))) ?_
        refine at_skip ?_
        refine at_normal ?_
        refine hK17 _ _ _ ?_
        refine at_cond_true (congrArg (fun b => some (Value.bool b)) (show _ = true from by first | assumption | (rw [Bool.not_eq_true']; exact decide_eq_false (by omega)))) ?_
        refine at_seq_k (fun K23 hK23 => ?_)
        refine at_region ?_
        refine at_v (ov_assign rfl rfl) rfl rfl rfl ?_
        refine at_nil ?_
        refine at_normal ?_
        refine hK23 _ _ _ ?_
        refine at_ret ?_
        refine at_inb_ret ?_
        refine at_then_ret ?_
        refine at_end ?_
        refine at_fin (rsV rfl (res_tmp rfl)) ?_
        refine ⟨_, ⟨rfl, rfl⟩, ?_⟩
        exact fun _ s => s.finEq (ks := []) (js := [0, 0]) rfl rfl rfl
      · have hih0 : decide (h = [83, 69, 76, 69, 67, 84]) = false := by rw [e]; decide
        have hih1 : decide (h = [87, 73, 84, 72]) = false := by rw [e]; decide
        have hih2 : decide (h = [84, 65, 66, 76, 69]) = false := by rw [e]; decide
        have hih3 : decide (h = [86, 65, 76, 85, 69, 83]) = false := by rw [e]; decide
        have hih4 : decide (h = [83, 72, 79, 87]) = false := by rw [e]; decide
        have hih5 : decide (h = [68, 69, 83, 67, 82, 73, 66, 69]) = true := by rw [e]; decide
        refine at_exit ?_
        refine at_then_exit ?_
        refine at_then_exit ?_
        refine at_exit_eq ?_
        refine at_normal ?_
        refine hK11 _ _ _ ?_
        refine at_seq_k (fun K15 hK15 => ?_)
        refine at_seq_k (fun K16 hK16 => ?_)
        refine at_region ?_
        refine at_v (ov_move rfl rfl) rfl rfl rfl ?_
        refine at_nil ?_
        refine at_normal ?_
        refine hK16 _ _ _ ?_
        refine at_block ?_
        refine at_seq_k (fun K17 hK17 => ?_)
        refine at_seq_k (fun K18 hK18 => ?_)
        refine at_region ?_
        refine at_v (ov_strL rfl rfl rfl rfl) rfl rfl rfl ?_
        refine at_v (ov_assign rfl rfl) rfl rfl rfl ?_
        refine at_nil ?_
        refine at_normal ?_
        refine hK18 _ _ _ ?_
        refine at_cond_false (congrArg (fun b => some (Value.bool b)) (show _ = false from by first | assumption | (rw [Bool.not_eq_false']; exact decide_eq_true (by omega)))) ?_
        refine at_seq_k (fun K19 hK19 => ?_)
        refine at_region ?_
        refine at_v (ov_strL rfl rfl rfl rfl) rfl rfl rfl ?_
        refine at_v (ov_assign rfl rfl) rfl rfl rfl ?_
        refine at_nil ?_
        refine at_normal ?_
        refine hK19 _ _ _ ?_
        refine at_cond_false (congrArg (fun b => some (Value.bool b)) (show _ = false from by first | assumption | (rw [Bool.not_eq_false']; exact decide_eq_true (by omega)))) ?_
        refine at_seq_k (fun K20 hK20 => ?_)
        refine at_region ?_
        refine at_v (ov_strL rfl rfl rfl rfl) rfl rfl rfl ?_
        refine at_v (ov_assign rfl rfl) rfl rfl rfl ?_
        refine at_nil ?_
        refine at_normal ?_
        refine hK20 _ _ _ ?_
        refine at_cond_false (congrArg (fun b => some (Value.bool b)) (show _ = false from by first | assumption | (rw [Bool.not_eq_false']; exact decide_eq_true (by omega)))) ?_
        refine at_seq_k (fun K21 hK21 => ?_)
        refine at_region ?_
        refine at_v (ov_strL rfl rfl rfl rfl) rfl rfl rfl ?_
        refine at_v (ov_assign rfl rfl) rfl rfl rfl ?_
        refine at_nil ?_
        refine at_normal ?_
        refine hK21 _ _ _ ?_
        refine at_cond_false (congrArg (fun b => some (Value.bool b)) (show _ = false from by first | assumption | (rw [Bool.not_eq_false']; exact decide_eq_true (by omega)))) ?_
        refine at_seq_k (fun K22 hK22 => ?_)
        refine at_region ?_
        refine at_v (ov_strL rfl rfl rfl rfl) rfl rfl rfl ?_
        refine at_v (ov_assign rfl rfl) rfl rfl rfl ?_
        refine at_nil ?_
        refine at_normal ?_
        refine hK22 _ _ _ ?_
        refine at_cond_false (congrArg (fun b => some (Value.bool b)) (show _ = false from by first | assumption | (rw [Bool.not_eq_false']; exact decide_eq_true (by omega)))) ?_
        refine at_seq_k (fun K23 hK23 => ?_)
        refine at_region ?_
        refine at_v (ov_strL rfl rfl rfl rfl) rfl rfl rfl ?_
        refine at_v (ov_assign rfl rfl) rfl rfl rfl ?_
        refine at_nil ?_
        refine at_normal ?_
        refine hK23 _ _ _ ?_
        refine at_cond_true (congrArg (fun b => some (Value.bool b)) (show _ = true from by first | assumption | (rw [Bool.not_eq_true']; exact decide_eq_false (by omega)))) ?_
        refine at_skip ?_
        refine at_normal ?_
        refine hK17 _ _ _ ?_
        refine at_cond_true (congrArg (fun b => some (Value.bool b)) (show _ = true from by first | assumption | (rw [Bool.not_eq_true']; exact decide_eq_false (by omega)))) ?_
        refine at_seq_k (fun K24 hK24 => ?_)
        refine at_region ?_
        refine at_v (ov_assign rfl rfl) rfl rfl rfl ?_
        refine at_nil ?_
        refine at_normal ?_
        refine hK24 _ _ _ ?_
        refine at_ret ?_
        refine at_inb_ret ?_
        refine at_then_ret ?_
        refine at_end ?_
        refine at_fin (rsV rfl (res_tmp rfl)) ?_
        refine ⟨_, ⟨rfl, rfl⟩, ?_⟩
        exact fun _ s => s.finEq (ks := []) (js := [0, 0]) rfl rfl rfl
      · have hih0 : decide (h = [83, 69, 76, 69, 67, 84]) = false := by rw [e]; decide
        have hih1 : decide (h = [87, 73, 84, 72]) = false := by rw [e]; decide
        have hih2 : decide (h = [84, 65, 66, 76, 69]) = false := by rw [e]; decide
        have hih3 : decide (h = [86, 65, 76, 85, 69, 83]) = false := by rw [e]; decide
        have hih4 : decide (h = [83, 72, 79, 87]) = false := by rw [e]; decide
        have hih5 : decide (h = [68, 69, 83, 67, 82, 73, 66, 69]) = false := by rw [e]; decide
        have hih6 : decide (h = [68, 69, 83, 67]) = true := by rw [e]; decide
        refine at_exit ?_
        refine at_then_exit ?_
        refine at_then_exit ?_
        refine at_exit_eq ?_
        refine at_normal ?_
        refine hK11 _ _ _ ?_
        refine at_seq_k (fun K15 hK15 => ?_)
        refine at_seq_k (fun K16 hK16 => ?_)
        refine at_region ?_
        refine at_v (ov_move rfl rfl) rfl rfl rfl ?_
        refine at_nil ?_
        refine at_normal ?_
        refine hK16 _ _ _ ?_
        refine at_block ?_
        refine at_seq_k (fun K17 hK17 => ?_)
        refine at_seq_k (fun K18 hK18 => ?_)
        refine at_region ?_
        refine at_v (ov_strL rfl rfl rfl rfl) rfl rfl rfl ?_
        refine at_v (ov_assign rfl rfl) rfl rfl rfl ?_
        refine at_nil ?_
        refine at_normal ?_
        refine hK18 _ _ _ ?_
        refine at_cond_false (congrArg (fun b => some (Value.bool b)) (show _ = false from by first | assumption | (rw [Bool.not_eq_false']; exact decide_eq_true (by omega)))) ?_
        refine at_seq_k (fun K19 hK19 => ?_)
        refine at_region ?_
        refine at_v (ov_strL rfl rfl rfl rfl) rfl rfl rfl ?_
        refine at_v (ov_assign rfl rfl) rfl rfl rfl ?_
        refine at_nil ?_
        refine at_normal ?_
        refine hK19 _ _ _ ?_
        refine at_cond_false (congrArg (fun b => some (Value.bool b)) (show _ = false from by first | assumption | (rw [Bool.not_eq_false']; exact decide_eq_true (by omega)))) ?_
        refine at_seq_k (fun K20 hK20 => ?_)
        refine at_region ?_
        refine at_v (ov_strL rfl rfl rfl rfl) rfl rfl rfl ?_
        refine at_v (ov_assign rfl rfl) rfl rfl rfl ?_
        refine at_nil ?_
        refine at_normal ?_
        refine hK20 _ _ _ ?_
        refine at_cond_false (congrArg (fun b => some (Value.bool b)) (show _ = false from by first | assumption | (rw [Bool.not_eq_false']; exact decide_eq_true (by omega)))) ?_
        refine at_seq_k (fun K21 hK21 => ?_)
        refine at_region ?_
        refine at_v (ov_strL rfl rfl rfl rfl) rfl rfl rfl ?_
        refine at_v (ov_assign rfl rfl) rfl rfl rfl ?_
        refine at_nil ?_
        refine at_normal ?_
        refine hK21 _ _ _ ?_
        refine at_cond_false (congrArg (fun b => some (Value.bool b)) (show _ = false from by first | assumption | (rw [Bool.not_eq_false']; exact decide_eq_true (by omega)))) ?_
        refine at_seq_k (fun K22 hK22 => ?_)
        refine at_region ?_
        refine at_v (ov_strL rfl rfl rfl rfl) rfl rfl rfl ?_
        refine at_v (ov_assign rfl rfl) rfl rfl rfl ?_
        refine at_nil ?_
        refine at_normal ?_
        refine hK22 _ _ _ ?_
        refine at_cond_false (congrArg (fun b => some (Value.bool b)) (show _ = false from by first | assumption | (rw [Bool.not_eq_false']; exact decide_eq_true (by omega)))) ?_
        refine at_seq_k (fun K23 hK23 => ?_)
        refine at_region ?_
        refine at_v (ov_strL rfl rfl rfl rfl) rfl rfl rfl ?_
        refine at_v (ov_assign rfl rfl) rfl rfl rfl ?_
        refine at_nil ?_
        refine at_normal ?_
        refine hK23 _ _ _ ?_
        refine at_cond_false (congrArg (fun b => some (Value.bool b)) (show _ = false from by first | assumption | (rw [Bool.not_eq_false']; exact decide_eq_true (by omega)))) ?_
        refine at_seq_k (fun K24 hK24 => ?_)
        refine at_region ?_
        refine at_v (ov_strL rfl rfl rfl rfl) rfl rfl rfl ?_
        refine at_v (ov_assign rfl rfl) rfl rfl rfl ?_
        refine at_nil ?_
        refine at_normal ?_
        refine hK24 _ _ _ ?_
        refine at_cond_true (congrArg (fun b => some (Value.bool b)) (show _ = true from by first | assumption | (rw [Bool.not_eq_true']; exact decide_eq_false (by omega)))) ?_
        refine at_skip ?_
        refine at_normal ?_
        refine hK17 _ _ _ ?_
        refine at_cond_true (congrArg (fun b => some (Value.bool b)) (show _ = true from by first | assumption | (rw [Bool.not_eq_true']; exact decide_eq_false (by omega)))) ?_
        refine at_seq_k (fun K25 hK25 => ?_)
        refine at_region ?_
        refine at_v (ov_assign rfl rfl) rfl rfl rfl ?_
        refine at_nil ?_
        refine at_normal ?_
        refine hK25 _ _ _ ?_
        refine at_ret ?_
        refine at_inb_ret ?_
        refine at_then_ret ?_
        refine at_end ?_
        refine at_fin (rsV rfl (res_tmp rfl)) ?_
        refine ⟨_, ⟨rfl, rfl⟩, ?_⟩
        exact fun _ s => s.finEq (ks := []) (js := [0, 0]) rfl rfl rfl
      · have hih0 : decide (h = [83, 69, 76, 69, 67, 84]) = false := by rw [e]; decide
        have hih1 : decide (h = [87, 73, 84, 72]) = false := by rw [e]; decide
        have hih2 : decide (h = [84, 65, 66, 76, 69]) = false := by rw [e]; decide
        have hih3 : decide (h = [86, 65, 76, 85, 69, 83]) = false := by rw [e]; decide
        have hih4 : decide (h = [83, 72, 79, 87]) = false := by rw [e]; decide
        have hih5 : decide (h = [68, 69, 83, 67, 82, 73, 66, 69]) = false := by rw [e]; decide
        have hih6 : decide (h = [68, 69, 83, 67]) = false := by rw [e]; decide
        have hih7 : decide (h = [69, 88, 80, 76, 65, 73, 78]) = true := by rw [e]; decide
        refine at_exit ?_
        refine at_then_exit ?_
        refine at_then_exit ?_
        refine at_exit_eq ?_
        refine at_normal ?_
        refine hK11 _ _ _ ?_
        refine at_seq_k (fun K15 hK15 => ?_)
        refine at_seq_k (fun K16 hK16 => ?_)
        refine at_region ?_
        refine at_v (ov_move rfl rfl) rfl rfl rfl ?_
        refine at_nil ?_
        refine at_normal ?_
        refine hK16 _ _ _ ?_
        refine at_block ?_
        refine at_seq_k (fun K17 hK17 => ?_)
        refine at_seq_k (fun K18 hK18 => ?_)
        refine at_region ?_
        refine at_v (ov_strL rfl rfl rfl rfl) rfl rfl rfl ?_
        refine at_v (ov_assign rfl rfl) rfl rfl rfl ?_
        refine at_nil ?_
        refine at_normal ?_
        refine hK18 _ _ _ ?_
        refine at_cond_false (congrArg (fun b => some (Value.bool b)) (show _ = false from by first | assumption | (rw [Bool.not_eq_false']; exact decide_eq_true (by omega)))) ?_
        refine at_seq_k (fun K19 hK19 => ?_)
        refine at_region ?_
        refine at_v (ov_strL rfl rfl rfl rfl) rfl rfl rfl ?_
        refine at_v (ov_assign rfl rfl) rfl rfl rfl ?_
        refine at_nil ?_
        refine at_normal ?_
        refine hK19 _ _ _ ?_
        refine at_cond_false (congrArg (fun b => some (Value.bool b)) (show _ = false from by first | assumption | (rw [Bool.not_eq_false']; exact decide_eq_true (by omega)))) ?_
        refine at_seq_k (fun K20 hK20 => ?_)
        refine at_region ?_
        refine at_v (ov_strL rfl rfl rfl rfl) rfl rfl rfl ?_
        refine at_v (ov_assign rfl rfl) rfl rfl rfl ?_
        refine at_nil ?_
        refine at_normal ?_
        refine hK20 _ _ _ ?_
        refine at_cond_false (congrArg (fun b => some (Value.bool b)) (show _ = false from by first | assumption | (rw [Bool.not_eq_false']; exact decide_eq_true (by omega)))) ?_
        refine at_seq_k (fun K21 hK21 => ?_)
        refine at_region ?_
        refine at_v (ov_strL rfl rfl rfl rfl) rfl rfl rfl ?_
        refine at_v (ov_assign rfl rfl) rfl rfl rfl ?_
        refine at_nil ?_
        refine at_normal ?_
        refine hK21 _ _ _ ?_
        refine at_cond_false (congrArg (fun b => some (Value.bool b)) (show _ = false from by first | assumption | (rw [Bool.not_eq_false']; exact decide_eq_true (by omega)))) ?_
        refine at_seq_k (fun K22 hK22 => ?_)
        refine at_region ?_
        refine at_v (ov_strL rfl rfl rfl rfl) rfl rfl rfl ?_
        refine at_v (ov_assign rfl rfl) rfl rfl rfl ?_
        refine at_nil ?_
        refine at_normal ?_
        refine hK22 _ _ _ ?_
        refine at_cond_false (congrArg (fun b => some (Value.bool b)) (show _ = false from by first | assumption | (rw [Bool.not_eq_false']; exact decide_eq_true (by omega)))) ?_
        refine at_seq_k (fun K23 hK23 => ?_)
        refine at_region ?_
        refine at_v (ov_strL rfl rfl rfl rfl) rfl rfl rfl ?_
        refine at_v (ov_assign rfl rfl) rfl rfl rfl ?_
        refine at_nil ?_
        refine at_normal ?_
        refine hK23 _ _ _ ?_
        refine at_cond_false (congrArg (fun b => some (Value.bool b)) (show _ = false from by first | assumption | (rw [Bool.not_eq_false']; exact decide_eq_true (by omega)))) ?_
        refine at_seq_k (fun K24 hK24 => ?_)
        refine at_region ?_
        refine at_v (ov_strL rfl rfl rfl rfl) rfl rfl rfl ?_
        refine at_v (ov_assign rfl rfl) rfl rfl rfl ?_
        refine at_nil ?_
        refine at_normal ?_
        refine hK24 _ _ _ ?_
        refine at_cond_false (congrArg (fun b => some (Value.bool b)) (show _ = false from by first | assumption | (rw [Bool.not_eq_false']; exact decide_eq_true (by omega)))) ?_
        refine at_region ?_
        refine at_v (ov_strL rfl rfl rfl rfl) rfl rfl rfl ?_
        refine at_v (ov_assign rfl rfl) rfl rfl rfl ?_
        refine at_nil ?_
        refine at_normal ?_
        refine hK17 _ _ _ ?_
        refine at_cond_true (congrArg (fun b => some (Value.bool b)) (show _ = true from by first | assumption | (rw [Bool.not_eq_true']; exact decide_eq_false (by omega)))) ?_
        refine at_seq_k (fun K25 hK25 => ?_)
        refine at_region ?_
        refine at_v (ov_assign rfl rfl) rfl rfl rfl ?_
        refine at_nil ?_
        refine at_normal ?_
        refine hK25 _ _ _ ?_
        refine at_ret ?_
        refine at_inb_ret ?_
        refine at_then_ret ?_
        refine at_end ?_
        refine at_fin (rsV rfl (res_tmp rfl)) ?_
        refine ⟨_, ⟨rfl, rfl⟩, ?_⟩
        exact fun _ s => s.finEq (ks := []) (js := [0, 0]) rfl rfl rfl
  · have hi2 : (!decide (classL s = 1)) = true := by simp [h2]
    refine at_seq_k (fun K0 hK0 => ?_)
    refine at_region ?_
    refine at_v (ov_assign rfl rfl) rfl rfl rfl ?_
    refine at_nil ?_
    refine at_normal ?_
    refine hK0 _ _ _ ?_
    refine at_seq_k (fun K1 hK1 => ?_)
    refine at_seq_k (fun K2 hK2 => ?_)
    refine at_region ?_
    refine at_t (ot_call (ks := []) rfl rfl rfl Tryz.call7 rfl (T7 _ (by first | assumption | rfl | omega | decide | (simp; done) | (simp at *; omega))) rfl) rfl rfl rfl ?_
    rintro v0 _ ⟨m0, hp0, rfl⟩
    obtain ⟨rfl, rfl⟩ := hp0
    simp only [List.cons_append, List.nil_append, splice, spliceL]
    refine at_v (ov_not rfl rfl) rfl rfl rfl ?_
    refine at_nil ?_
    refine at_normal ?_
    refine hK2 _ _ _ ?_
    refine at_cond_false rfl ?_
    refine at_skip ?_
    refine at_normal ?_
    refine hK1 _ _ _ ?_
    refine at_seq_k (fun K3 hK3 => ?_)
    refine at_seq_k (fun K4 hK4 => ?_)
    refine at_region ?_
    refine at_v (ov_move rfl rfl) rfl rfl rfl ?_
    refine at_v (ov_len_strL rfl Tryz.underlying9 rfl) rfl rfl rfl ?_
    refine at_v (ov_int rfl rfl rfl rfl) rfl rfl rfl ?_
    refine at_nil ?_
    refine at_normal ?_
    refine hK4 _ _ _ ?_
    refine at_cond_false (congrArg (fun b => some (Value.bool b)) (show _ = false from decide_eq_false (by omega))) ?_
    refine at_skip ?_
    refine at_normal ?_
    refine hK3 _ _ _ ?_
    refine at_seq_k (fun K5 hK5 => ?_)
    refine at_seq_k (fun K6 hK6 => ?_)
    refine at_region ?_
    refine at_t (ot_call (ks := []) rfl rfl rfl Tryz.call8 rfl (T8 _) rfl) rfl rfl rfl ?_
    rintro v0 _ ⟨m0, hp0, rfl⟩
    obtain ⟨g0, hp0⟩ := hp0
    obtain ⟨rfl, rfl⟩ := hp0
    simp only [List.cons_append, List.nil_append, splice, spliceL]
    refine at_v (ov_move rfl rfl) rfl rfl rfl ?_
    refine at_fold (A := Cl g0) [0] rfl cl_new ?_
    refine at_t (ot_call (ks := [0]) rfl rfl rfl Tryz.call9 rfl (T9 _ _ (by first | assumption | rfl | omega | decide | (simp; done) | (simp at *; omega)) (by first | assumption | rfl | omega | decide | (simp; done) | (simp at *; omega))) rfl) rfl rfl rfl ?_
    rintro v0 _ ⟨m0, hp0, rfl⟩
    obtain ⟨rfl, rfl⟩ := hp0
    simp only [List.cons_append, List.nil_append, splice, spliceL]
    refine at_v (ov_int rfl rfl rfl rfl) rfl rfl rfl ?_
    refine at_nil ?_
    refine at_normal ?_
    refine hK6 _ _ _ ?_
    refine at_cond_true (congrArg (fun b => some (Value.bool b)) (show _ = true from by first | assumption | (rw [Bool.not_eq_true']; exact decide_eq_false (by omega)))) ?_
    refine at_seq_k (fun K7 hK7 => ?_)
    refine at_region ?_
    refine at_v (ov_assign rfl rfl) rfl rfl rfl ?_
    refine at_nil ?_
    refine at_normal ?_
    refine hK7 _ _ _ ?_
    refine at_ret ?_
    refine at_then_ret ?_
    refine at_end ?_
    refine at_fin (rsV rfl (res_tmp rfl)) ?_
    refine ⟨_, ⟨rfl, rfl⟩, ?_⟩
    exact fun _ s => s.finEq (ks := []) (js := [0]) rfl rfl rfl
end Go.Proofs.YtgclahlbifbgdaaGreatDoor
