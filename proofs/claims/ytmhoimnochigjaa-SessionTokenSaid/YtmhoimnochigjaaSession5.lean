/- SessionToken, walked. -/
import Derived.Test.YtmhoimnochigjaaProg
import Derived.Test.YtmhoimnochigjaaSession2
import Derived.Test.YtmhoimnochigjaaSLRow
import Derived.KernelRfl
set_option linter.unusedSimpArgs false
set_option linter.unusedVariables false
set_option maxRecDepth 100000
set_option maxHeartbeats 4000000
namespace Go.Proofs.Ytmhoimnochigjaa
open Go Go.Proofs.Ytmhoimnochigjaa.SL Go.RowKit
theorem leftN_le (te tp : Int) (cuts : List (Int × Int)) : leftN te tp cuts ≤ tp := by
  unfold leftN
  induction cuts generalizing tp with
  | nil => simp
  | cons c r ih =>
    rw [List.foldl_cons]
    refine Int.le_trans (ih _) ?_
    unfold left1
    split <;> omega
theorem leftN_last (te tp : Int) (cuts : List (Int × Int)) (ep cut : Int) (h : te < ep) : leftN te tp (cuts ++ [(ep, cut)]) ≤ cut := by
  unfold leftN
  rw [List.foldl_append]
  simp only [List.foldl_cons, List.foldl_nil, left1, h, if_true]
  omega
theorem T5 (w0 : World) (A : Option Addr) (c : Nat) (l : List AM) (hr : Rd actE w0 10 A l) (hm : l.length ≤ 9223372036854775807) : Tri Try.prog w0 5 [.slice A l.length c] [] fun v m => v = .bool true ∧ m = [] := by
  refine tri_of Try.func5 rfl rfl fun F => ?_
  simp only [Try.ntmps5, argEnv, List.cons_append, List.nil_append]
  refine at_seq_k (fun K0 hK0 => ?_)
  refine at_region ?_
  refine at_v (ov_assign rfl rfl) rfl rfl rfl ?_
  refine at_nil ?_
  refine at_normal ?_
  refine hK0 _ _ ?_
  refine at_seq_k (fun K1 hK1 => ?_)
  refine at_seq_k (fun K2 hK2 => ?_)
  refine at_region ?_
  refine at_t (ot_call (ks := []) rfl rfl rfl Try.call6 rfl (T6 _) rfl) rfl rfl rfl ?_
  rintro v0 _ ⟨m0, hp0, rfl⟩
  obtain ⟨rfl, rfl⟩ := hp0
  simp only [List.cons_append, List.nil_append]
  refine at_v (ov_not rfl rfl) rfl rfl rfl ?_
  refine at_nil ?_
  refine at_normal ?_
  refine hK2 _ _ ?_
  refine at_cond_false rfl ?_
  refine at_skip ?_
  refine at_normal ?_
  refine hK1 _ _ ?_
  refine at_seq_k (fun K3 hK3 => ?_)
  refine at_seq_k (fun K4 hK4 => ?_)
  refine at_region ?_
  refine at_v (ov_move rfl rfl) rfl rfl rfl ?_
  refine at_t (ot_call (ks := []) rfl rfl rfl Try.call7 rfl (T7 _ _ _ _ (by first | assumption | omega | decide | (simp; done) | (simp at *; omega)) (by first | assumption | omega | decide | (simp; done) | (simp at *; omega))) rfl) rfl rfl rfl ?_
  rintro v0 _ ⟨m0, hp0, rfl⟩
  obtain ⟨b0, hp0⟩ := hp0
  obtain ⟨hq0, hp0⟩ := hp0
  obtain ⟨rfl, rfl⟩ := hp0
  simp only [List.cons_append, List.nil_append]
  refine at_nil ?_
  refine at_normal ?_
  refine hK4 _ _ ?_
  refine at_cond rfl (fun h => ?_) (fun h => ?_)
  · refine at_seq_k (fun K5 hK5 => ?_)
    refine at_region ?_
    refine at_v (ov_assign rfl rfl) rfl rfl rfl ?_
    refine at_nil ?_
    refine at_normal ?_
    refine hK5 _ _ ?_
    refine at_ret ?_
    refine at_then_ret ?_
    refine at_end ?_
    refine at_fin (rsV rfl (res_tmp rfl)) ?_
    refine ⟨_, ⟨rfl, rfl⟩, ?_⟩
    exact fun _ s => s.finEq (ks := []) (js := []) rfl rfl rfl
  · have hl := hq0 h
    refine at_skip ?_
    refine at_normal ?_
    refine hK3 _ _ ?_
    refine at_seq_k (fun K5 hK5 => ?_)
    refine at_region ?_
    refine at_t (ot_call (ks := []) rfl rfl rfl Try.call8 rfl (T8 _) rfl) rfl rfl rfl ?_
    rintro v0 _ ⟨m0, hp0, rfl⟩
    obtain ⟨g0, hp0⟩ := hp0
    obtain ⟨rfl, rfl⟩ := hp0
    simp only [List.cons_append, List.nil_append]
    refine at_t (ot_call (ks := []) rfl rfl rfl Try.call9 rfl (T9 _ _) rfl) rfl rfl rfl ?_
    rintro v0 _ ⟨m0, hp0, rfl⟩
    obtain ⟨g1, hp0⟩ := hp0
    obtain ⟨rfl, rfl⟩ := hp0
    simp only [List.cons_append, List.nil_append]
    refine at_v (ov_assign rfl rfl) rfl rfl rfl ?_
    refine at_v (ov_assign rfl rfl) rfl rfl rfl ?_
    refine at_nil ?_
    refine at_normal ?_
    refine hK5 _ _ ?_
    refine at_seq_k (fun K6 hK6 => ?_)
    refine at_seq_k (fun K7 hK7 => ?_)
    refine at_region ?_
    refine at_v (ov_move rfl rfl) rfl rfl rfl ?_
    refine at_v (ov_len_slice rfl Try.underlying22 rfl) rfl rfl rfl ?_
    refine at_v (ov_move rfl rfl) rfl rfl rfl ?_
    refine at_nil ?_
    refine at_normal ?_
    refine hK7 _ _ ?_
    refine at_block ?_
    refine at_loopE [21, 22, 23, 6, 24, 25, 26, 27, 7, 8, 28, 29, 30, 31, 9, 32, 33, 10, 35, 36, 37, 38, 39, 40, 41, 34, 42, 43, 44, 45, 46, 47, 48, 49, 50, 51, 52, 53, 54, 55, 56, 57, 58, 59, 60, 61, 62, 63, 64, 65, 66, 67, 68, 69, 70, 71, 2, 73, 74, 75, 76, 77, 78, 79, 72, 80, 81, 82, 83, 84, 85, 86, 87, 88, 89, 90, 91, 93, 94, 95, 92, 96, 97, 98, 99, 11, 100, 101, 102, 103, 104, 105, 106, 107, 108, 109, 110, 111, 112, 113, 114, 115, 116, 117, 118, 119, 120, 121, 122, 123, 124, 125, 126, 127, 128, 129, 130, 131, 133, 134, 135, 132, 136, 20] (fun k => k ≤ l.length) (fun k => [(20, .int .i64 (k : Nat))]) (fun k m => setAt 0 (ViewA g1 (runS (l.take k)).2) (setAt 1 (SessA g0 (runS (l.take k)).1) m)) (fun k => l.length - k) 0 (Nat.zero_le _) ⟨rfl, trivial⟩ (fun _ s => s) ?_
    intro k hk
    simp only [setAt] at hk ⊢
    have hcl := runS_len l k hk
    generalize hst : runS (l.take k) = st at hcl ⊢
    obtain ⟨s, v⟩ := st
    simp only [] at hcl ⊢
    refine at_seq_k (fun K8 hK8 => ?_)
    refine at_region ?_
    refine at_v (ov_int rfl rfl rfl rfl) rfl rfl rfl ?_
    refine at_nil ?_
    refine at_normal ?_
    refine hK8 _ _ ?_
    refine at_seq_k (fun K9 hK9 => ?_)
    refine at_cond rfl (fun hc => ?_) (fun hc => ?_)
    · have hlt : k < l.length := by simpa using hc
      have hget : l[k]? = some l[k] := List.getElem?_eq_getElem hlt
      have hlen : v.cuts.length ≤ 999999 := by omega
      by_cases hid : l[k].d = 5
      · have hib : doB s v l[k] = !s.lost := by simp [doB, hid]
        cases hil : s.lost with
        | true =>
          have hi1 : (doS s v l[k]).te = s.te := by simp [doS, hid, SM.wrote, hil]
          have hi2 : (doS s v l[k]).tp = s.tp := by simp [doS, hid, SM.wrote, hil]
          refine at_skip ?_
          refine at_normal ?_
          refine hK9 _ _ ?_
          refine at_seq_k (fun K10 hK10 => ?_)
          refine at_block ?_
          refine at_seq_k (fun K11 hK11 => ?_)
          refine at_region ?_
          refine at_v (ov_indexRd (fun _ s => hr.up s) rfl Try.underlying22 rfl rfl rfl hget) rfl rfl rfl ?_
          refine at_v (ov_loadRdS (vs := [_, _, _, _, _, _, _, _, _, _]) (fun _ s => hr.up s) rfl rfl rfl hget rfl rfl) rfl rfl rfl ?_
          refine at_t (ot_allocA rfl Try.zeroValue36) rfl rfl rfl ?_
          rintro _ _ ⟨g2, rfl, rfl⟩
          refine at_t0 (ot_store (k := 0) rfl rfl rfl rfl rfl rfl rfl) rfl rfl ?_
          rintro _ _ ⟨rfl, rfl⟩
          simp only [setAt, splice, spliceL, Value.cells]
          refine at_nil ?_
          refine at_normal ?_
          refine hK11 _ _ ?_
          refine at_seq_k (fun K12 hK12 => ?_)
          refine at_region ?_
          refine at_v (ov_move rfl rfl) rfl rfl rfl ?_
          refine at_t (ot_call (ks := [2]) rfl rfl rfl Try.call15 rfl (T15 _ _ _) rfl) rfl rfl rfl ?_
          rintro v0 _ ⟨m0, hp0, rfl⟩
          obtain ⟨rfl, rfl⟩ := hp0
          simp only [List.cons_append, List.nil_append]
          refine at_v (ov_move rfl rfl) rfl rfl rfl ?_
          refine at_t (ot_call (ks := [2]) rfl rfl rfl Try.call16 rfl (T16 _ _ _) rfl) rfl rfl rfl ?_
          rintro v0 _ ⟨m0, hp0, rfl⟩
          obtain ⟨rfl, rfl⟩ := hp0
          simp only [List.cons_append, List.nil_append]
          refine at_t (ot_allocA rfl Try.zeroValue34) rfl rfl rfl ?_
          rintro _ _ ⟨g3, rfl, rfl⟩
          refine at_t0 (ot_store (k := 0) rfl rfl rfl rfl rfl rfl rfl) rfl rfl ?_
          rintro _ _ ⟨rfl, rfl⟩
          simp only [setAt, splice, spliceL, Value.cells]
          refine at_v (ov_assign rfl rfl) rfl rfl rfl ?_
          refine at_nil ?_
          refine at_normal ?_
          refine hK12 _ _ ?_
          refine at_seq_k (fun K13 hK13 => ?_)
          refine at_region ?_
          refine at_v (ov_move rfl rfl) rfl rfl rfl ?_
          refine at_v (ov_move rfl rfl) rfl rfl rfl ?_
          refine at_v (ov_loadS (cs := [_, _, _, _, _, _, _, _, _, _]) rfl rfl rfl rfl (fun _ s => s.lds (k := 3) rfl ⟨rfl, rfl, rfl, rfl, rfl, rfl, rfl, rfl, rfl, rfl, trivial⟩)) rfl rfl rfl ?_
          refine at_t (ot_call (ks := [2, 1]) rfl rfl rfl Try.call10 rfl (T10 _ _ _ _ _ _ (by first | assumption | omega | decide | (simp; done) | (simp at *; omega))) rfl) rfl rfl rfl ?_
          rintro v0 _ ⟨m0, hp0, rfl⟩
          obtain ⟨rfl, rfl⟩ := hp0
          simp only [List.cons_append, List.nil_append]
          refine at_t (ot_allocA rfl Try.zeroValue39) rfl rfl rfl ?_
          rintro _ _ ⟨g4, rfl, rfl⟩
          refine at_t0 (ot_store (k := 0) rfl rfl rfl rfl rfl rfl rfl) rfl rfl ?_
          rintro _ _ ⟨rfl, rfl⟩
          simp only [setAt, splice, spliceL, Value.cells]
          refine at_nil ?_
          refine at_normal ?_
          refine hK13 _ _ ?_
          refine at_seq_k (fun K14 hK14 => ?_)
          refine at_region ?_
          refine at_v (ov_move rfl rfl) rfl rfl rfl ?_
          refine at_t (ot_call (ks := [1]) rfl rfl rfl Try.call15 rfl (T15 _ _ _) rfl) rfl rfl rfl ?_
          rintro v0 _ ⟨m0, hp0, rfl⟩
          obtain ⟨rfl, rfl⟩ := hp0
          simp only [List.cons_append, List.nil_append]
          refine at_t (ot_allocA rfl Try.zeroValue34) rfl rfl rfl ?_
          rintro _ _ ⟨g5, rfl, rfl⟩
          refine at_t0 (ot_store (k := 0) rfl rfl rfl rfl rfl rfl rfl) rfl rfl ?_
          rintro _ _ ⟨rfl, rfl⟩
          simp only [setAt, splice, spliceL, Value.cells]
          refine at_nil ?_
          refine at_normal ?_
          refine hK14 _ _ ?_
          refine at_block ?_
          refine at_seq_k (fun K15 hK15 => ?_)
          refine at_region ?_
          refine at_v (ov_fieldAddr (k := 0) (r := 0) rfl rfl rfl rfl) rfl rfl rfl ?_
          refine at_v (ov_load rfl rfl rfl (fun _ s => s.ld (k := 5) rfl rfl)) rfl rfl rfl ?_
          refine at_v (ov_int rfl rfl rfl rfl) rfl rfl rfl ?_
          refine at_v (ov_move rfl rfl) rfl rfl rfl ?_
          refine at_reval 38 (.bool true) rfl (congrArg Value.bool (decide_eq_true (by omega))) ?_
          refine at_wanted (j := 3) rfl ?_
          refine at_v (ov_fieldAddr (k := 0) (r := 0) rfl rfl rfl rfl) rfl rfl rfl ?_
          refine at_wanted (j := 3) rfl ?_
          refine at_v (ov_load rfl rfl rfl (fun _ s => s.ld (k := 2) rfl rfl)) rfl rfl rfl ?_
          refine at_v (ov_pick_t rfl rfl rfl) rfl rfl rfl ?_
          refine at_v (ov_assign rfl rfl) rfl rfl rfl ?_
          refine at_nil ?_
          refine at_normal ?_
          refine hK15 _ _ ?_
          refine at_cond_false (congrArg (fun b => some (Value.bool b)) (show _ = false from by simp [h, hc, hid, hib, hil, hi1, hi2]; done)) ?_
          refine at_seq_k (fun K16 hK16 => ?_)
          refine at_region ?_
          refine at_v (ov_fieldAddr (k := 0) (r := 0) rfl rfl rfl rfl) rfl rfl rfl ?_
          refine at_v (ov_load rfl rfl rfl (fun _ s => s.ld (k := 5) rfl rfl)) rfl rfl rfl ?_
          refine at_v (ov_int rfl rfl rfl rfl) rfl rfl rfl ?_
          refine at_v (ov_move rfl rfl) rfl rfl rfl ?_
          refine at_reval 76 (.bool false) rfl (congrArg Value.bool (decide_eq_false (by omega))) ?_
          refine at_unwanted (j := 3) rfl rfl rfl rfl ?_
          refine at_unwanted (j := 3) rfl rfl rfl rfl ?_
          refine at_v (ov_pick_f rfl rfl rfl) rfl rfl rfl ?_
          refine at_v (ov_assign rfl rfl) rfl rfl rfl ?_
          refine at_nil ?_
          refine at_normal ?_
          refine hK16 _ _ ?_
          refine at_cond_false rfl ?_
          refine at_seq_k (fun K17 hK17 => ?_)
          refine at_region ?_
          refine at_v (ov_fieldAddr (k := 0) (r := 0) rfl rfl rfl rfl) rfl rfl rfl ?_
          refine at_v (ov_load rfl rfl rfl (fun _ s => s.ld (k := 5) rfl rfl)) rfl rfl rfl ?_
          refine at_v (ov_int rfl rfl rfl rfl) rfl rfl rfl ?_
          refine at_v (ov_assign rfl rfl) rfl rfl rfl ?_
          refine at_nil ?_
          refine at_normal ?_
          refine hK17 _ _ ?_
          refine at_cond_false (congrArg (fun b => some (Value.bool b)) (show _ = false from decide_eq_false (by omega))) ?_
          refine at_seq_k (fun K18 hK18 => ?_)
          refine at_region ?_
          refine at_v (ov_loadS (cs := [_, _]) rfl rfl rfl rfl (fun _ s => s.lds (k := 0) rfl ⟨rfl, rfl, trivial⟩)) rfl rfl rfl ?_
          refine at_v (ov_loadS (cs := [_, _]) rfl rfl rfl rfl (fun _ s => s.lds (k := 4) rfl ⟨rfl, rfl, trivial⟩)) rfl rfl rfl ?_
          refine at_v (ov_neS rfl (by kernel_rfl) rfl rfl rfl rfl) rfl rfl rfl ?_
          refine at_v (ov_assign rfl rfl) rfl rfl rfl ?_
          refine at_nil ?_
          refine at_normal ?_
          refine hK18 _ _ ?_
          refine at_cond_false (congrArg (fun b => some (Value.bool b)) (show _ = false from by simp [h, hc, hid, hib, hil, hi1, hi2]; done)) ?_
          refine at_skip ?_
          refine at_inb_normal ?_
          refine at_inb_normal ?_
          refine at_normal ?_
          refine hK10 _ _ ?_
          refine at_region ?_
          refine at_v ((ov_int rfl rfl rfl rfl).eq (congrArg (Value.int .i64) (inK_i64 (by omega) (by omega)))) rfl rfl rfl ?_
          refine at_v (ov_move rfl rfl) rfl rfl rfl ?_
          refine at_nil ?_
          refine at_normal ?_
          refine at_roundF (k + 1) hlt (by omega) ⟨rfl, trivial⟩ rfl ?_
          simp only [setAt]
          rw [runS_succ l k hlt, hst]
          exact fun _ s => s.finEq (ks := [3, 1]) (js := [0, 0, 0, 0]) rfl rfl rfl
        | false =>
          by_cases hlat : s.te > l[k].te ∨ s.te = l[k].te ∧ s.tp > l[k].tp
          · have hi1 : (doS s v l[k]).te = s.te := by simp [doS, hid, SM.wrote, hil, laterT, hlat]
            have hi2 : (doS s v l[k]).tp = s.tp := by simp [doS, hid, SM.wrote, hil, laterT, hlat]
            refine at_skip ?_
            refine at_normal ?_
            refine hK9 _ _ ?_
            refine at_seq_k (fun K10 hK10 => ?_)
            refine at_block ?_
            refine at_seq_k (fun K11 hK11 => ?_)
            refine at_region ?_
            refine at_v (ov_indexRd (fun _ s => hr.up s) rfl Try.underlying22 rfl rfl rfl hget) rfl rfl rfl ?_
            refine at_v (ov_loadRdS (vs := [_, _, _, _, _, _, _, _, _, _]) (fun _ s => hr.up s) rfl rfl rfl hget rfl rfl) rfl rfl rfl ?_
            refine at_t (ot_allocA rfl Try.zeroValue36) rfl rfl rfl ?_
            rintro _ _ ⟨g2, rfl, rfl⟩
            refine at_t0 (ot_store (k := 0) rfl rfl rfl rfl rfl rfl rfl) rfl rfl ?_
            rintro _ _ ⟨rfl, rfl⟩
            simp only [setAt, splice, spliceL, Value.cells]
            refine at_nil ?_
            refine at_normal ?_
            refine hK11 _ _ ?_
            refine at_seq_k (fun K12 hK12 => ?_)
            refine at_region ?_
            refine at_v (ov_move rfl rfl) rfl rfl rfl ?_
            refine at_t (ot_call (ks := [2]) rfl rfl rfl Try.call15 rfl (T15 _ _ _) rfl) rfl rfl rfl ?_
            rintro v0 _ ⟨m0, hp0, rfl⟩
            obtain ⟨rfl, rfl⟩ := hp0
            simp only [List.cons_append, List.nil_append]
            refine at_v (ov_move rfl rfl) rfl rfl rfl ?_
            refine at_t (ot_call (ks := [2]) rfl rfl rfl Try.call16 rfl (T16 _ _ _) rfl) rfl rfl rfl ?_
            rintro v0 _ ⟨m0, hp0, rfl⟩
            obtain ⟨rfl, rfl⟩ := hp0
            simp only [List.cons_append, List.nil_append]
            refine at_t (ot_allocA rfl Try.zeroValue34) rfl rfl rfl ?_
            rintro _ _ ⟨g3, rfl, rfl⟩
            refine at_t0 (ot_store (k := 0) rfl rfl rfl rfl rfl rfl rfl) rfl rfl ?_
            rintro _ _ ⟨rfl, rfl⟩
            simp only [setAt, splice, spliceL, Value.cells]
            refine at_v (ov_assign rfl rfl) rfl rfl rfl ?_
            refine at_nil ?_
            refine at_normal ?_
            refine hK12 _ _ ?_
            refine at_seq_k (fun K13 hK13 => ?_)
            refine at_region ?_
            refine at_v (ov_move rfl rfl) rfl rfl rfl ?_
            refine at_v (ov_move rfl rfl) rfl rfl rfl ?_
            refine at_v (ov_loadS (cs := [_, _, _, _, _, _, _, _, _, _]) rfl rfl rfl rfl (fun _ s => s.lds (k := 3) rfl ⟨rfl, rfl, rfl, rfl, rfl, rfl, rfl, rfl, rfl, rfl, trivial⟩)) rfl rfl rfl ?_
            refine at_t (ot_call (ks := [2, 1]) rfl rfl rfl Try.call10 rfl (T10 _ _ _ _ _ _ (by first | assumption | omega | decide | (simp; done) | (simp at *; omega))) rfl) rfl rfl rfl ?_
            rintro v0 _ ⟨m0, hp0, rfl⟩
            obtain ⟨rfl, rfl⟩ := hp0
            simp only [List.cons_append, List.nil_append]
            refine at_t (ot_allocA rfl Try.zeroValue39) rfl rfl rfl ?_
            rintro _ _ ⟨g4, rfl, rfl⟩
            refine at_t0 (ot_store (k := 0) rfl rfl rfl rfl rfl rfl rfl) rfl rfl ?_
            rintro _ _ ⟨rfl, rfl⟩
            simp only [setAt, splice, spliceL, Value.cells]
            refine at_nil ?_
            refine at_normal ?_
            refine hK13 _ _ ?_
            refine at_seq_k (fun K14 hK14 => ?_)
            refine at_region ?_
            refine at_v (ov_move rfl rfl) rfl rfl rfl ?_
            refine at_t (ot_call (ks := [1]) rfl rfl rfl Try.call15 rfl (T15 _ _ _) rfl) rfl rfl rfl ?_
            rintro v0 _ ⟨m0, hp0, rfl⟩
            obtain ⟨rfl, rfl⟩ := hp0
            simp only [List.cons_append, List.nil_append]
            refine at_t (ot_allocA rfl Try.zeroValue34) rfl rfl rfl ?_
            rintro _ _ ⟨g5, rfl, rfl⟩
            refine at_t0 (ot_store (k := 0) rfl rfl rfl rfl rfl rfl rfl) rfl rfl ?_
            rintro _ _ ⟨rfl, rfl⟩
            simp only [setAt, splice, spliceL, Value.cells]
            refine at_nil ?_
            refine at_normal ?_
            refine hK14 _ _ ?_
            refine at_block ?_
            refine at_seq_k (fun K15 hK15 => ?_)
            refine at_region ?_
            refine at_v (ov_fieldAddr (k := 0) (r := 0) rfl rfl rfl rfl) rfl rfl rfl ?_
            refine at_v (ov_load rfl rfl rfl (fun _ s => s.ld (k := 5) rfl rfl)) rfl rfl rfl ?_
            refine at_v (ov_int rfl rfl rfl rfl) rfl rfl rfl ?_
            refine at_v (ov_move rfl rfl) rfl rfl rfl ?_
            refine at_reval 38 (.bool true) rfl (congrArg Value.bool (decide_eq_true (by omega))) ?_
            refine at_wanted (j := 3) rfl ?_
            refine at_v (ov_fieldAddr (k := 0) (r := 0) rfl rfl rfl rfl) rfl rfl rfl ?_
            refine at_wanted (j := 3) rfl ?_
            refine at_v (ov_load rfl rfl rfl (fun _ s => s.ld (k := 2) rfl rfl)) rfl rfl rfl ?_
            refine at_v (ov_pick_t rfl rfl rfl) rfl rfl rfl ?_
            refine at_v (ov_assign rfl rfl) rfl rfl rfl ?_
            refine at_nil ?_
            refine at_normal ?_
            refine hK15 _ _ ?_
            refine at_cond_true (congrArg (fun b => some (Value.bool b)) (show _ = true from by simp [h, hc, hid, hib, hil, hi1, hi2]; done)) ?_
            refine at_seq_k (fun K16 hK16 => ?_)
            refine at_region ?_
            refine at_v (ov_loadS (cs := [_, _]) rfl rfl rfl rfl (fun _ s => s.lds (k := 0) rfl ⟨rfl, rfl, trivial⟩)) rfl rfl rfl ?_
            refine at_v (ov_loadS (cs := [_, _]) rfl rfl rfl rfl (fun _ s => s.lds (k := 4) rfl ⟨rfl, rfl, trivial⟩)) rfl rfl rfl ?_
            refine at_v (ov_neS rfl (by kernel_rfl) rfl rfl rfl rfl) rfl rfl rfl ?_
            refine at_v (ov_move rfl rfl) rfl rfl rfl ?_
            refine at_reval 45 (.bool false) rfl (congrArg Value.bool (by simp [h, hc, hid, hib, hil, hi1, hi2]; done)) ?_
            refine at_unwanted (j := 3) rfl rfl rfl rfl ?_
            refine at_unwanted (j := 3) rfl rfl rfl rfl ?_
            refine at_unwanted (j := 3) rfl rfl rfl rfl ?_
            refine at_unwanted (j := 3) rfl rfl rfl rfl ?_
            refine at_v (ov_pick_f rfl rfl rfl) rfl rfl rfl ?_
            refine at_v (ov_move rfl rfl) rfl rfl rfl ?_
            refine at_wanted (j := 9) rfl ?_
            refine at_v (ov_fieldAddr (k := 0) (r := 0) rfl rfl rfl rfl) rfl rfl rfl ?_
            refine at_wanted (j := 9) rfl ?_
            refine at_v (ov_load rfl rfl rfl (fun _ s => s.ld (k := 0) rfl rfl)) rfl rfl rfl ?_
            refine at_wanted (j := 9) rfl ?_
            refine at_v (ov_fieldAddr (k := 0) (r := 0) rfl rfl rfl rfl) rfl rfl rfl ?_
            refine at_wanted (j := 9) rfl ?_
            refine at_v (ov_load rfl rfl rfl (fun _ s => s.ld (k := 4) rfl rfl)) rfl rfl rfl ?_
            refine at_wanted (j := 9) rfl ?_
            refine at_v (ov_int rfl rfl rfl rfl) rfl rfl rfl ?_
            refine at_v (ov_pick_f rfl rfl rfl) rfl rfl rfl ?_
            refine at_v (ov_move rfl rfl) rfl rfl rfl ?_
            refine at_reval 58 (.bool false) rfl (congrArg Value.bool (decide_eq_false (by omega))) ?_
            refine at_wanted (j := 16) rfl ?_
            refine at_v (ov_fieldAddr (k := 0) (r := 0) rfl rfl rfl rfl) rfl rfl rfl ?_
            refine at_wanted (j := 16) rfl ?_
            refine at_v (ov_load rfl rfl rfl (fun _ s => s.ld (k := 0) rfl rfl)) rfl rfl rfl ?_
            refine at_wanted (j := 16) rfl ?_
            refine at_v (ov_fieldAddr (k := 0) (r := 0) rfl rfl rfl rfl) rfl rfl rfl ?_
            refine at_wanted (j := 16) rfl ?_
            refine at_v (ov_load rfl rfl rfl (fun _ s => s.ld (k := 4) rfl rfl)) rfl rfl rfl ?_
            refine at_wanted (j := 16) rfl ?_
            refine at_v (ov_int rfl rfl rfl rfl) rfl rfl rfl ?_
            refine at_wanted (j := 16) rfl ?_
            refine at_v (ov_move rfl rfl) rfl rfl rfl ?_
            refine at_reval 64 (.bool true) rfl (congrArg Value.bool (decide_eq_true (by omega))) ?_
            refine at_wanted (j := 22) rfl ?_
            refine at_v (ov_fieldAddr (k := 1) (r := 1) rfl rfl rfl rfl) rfl rfl rfl ?_
            refine at_wanted (j := 22) rfl ?_
            refine at_v (ov_load rfl rfl rfl (fun _ s => s.ld (k := 0) rfl rfl)) rfl rfl rfl ?_
            refine at_wanted (j := 22) rfl ?_
            refine at_v (ov_fieldAddr (k := 1) (r := 1) rfl rfl rfl rfl) rfl rfl rfl ?_
            refine at_wanted (j := 22) rfl ?_
            refine at_v (ov_load rfl rfl rfl (fun _ s => s.ld (k := 4) rfl rfl)) rfl rfl rfl ?_
            refine at_wanted (j := 22) rfl ?_
            refine at_v (ov_int rfl rfl rfl rfl) rfl rfl rfl ?_
            refine at_wanted (j := 16) rfl ?_
            refine at_v (ov_pick_t rfl rfl rfl) rfl rfl rfl ?_
            refine at_v (ov_pick_f rfl rfl rfl) rfl rfl rfl ?_
            refine at_nil ?_
            refine at_normal ?_
            refine hK16 _ _ ?_
            refine at_cond_false (congrArg (fun b => some (Value.bool b)) (show _ = false from decide_eq_false (by omega))) ?_
            refine at_skip ?_
            refine at_inb_normal ?_
            refine at_inb_normal ?_
            refine at_normal ?_
            refine hK10 _ _ ?_
            refine at_region ?_
            refine at_v ((ov_int rfl rfl rfl rfl).eq (congrArg (Value.int .i64) (inK_i64 (by omega) (by omega)))) rfl rfl rfl ?_
            refine at_v (ov_move rfl rfl) rfl rfl rfl ?_
            refine at_nil ?_
            refine at_normal ?_
            refine at_roundF (k + 1) hlt (by omega) ⟨rfl, trivial⟩ rfl ?_
            simp only [setAt]
            rw [runS_succ l k hlt, hst]
            exact fun _ s => s.finEq (ks := [3, 1]) (js := [0, 0, 0, 0]) rfl rfl rfl
          · have hi1 : (doS s v l[k]).te = l[k].te := by simp [doS, hid, SM.wrote, hil, laterT, hlat]
            have hi2 : (doS s v l[k]).tp = l[k].tp := by simp [doS, hid, SM.wrote, hil, laterT, hlat]
            refine at_skip ?_
            refine at_normal ?_
            refine hK9 _ _ ?_
            refine at_seq_k (fun K10 hK10 => ?_)
            refine at_block ?_
            refine at_seq_k (fun K11 hK11 => ?_)
            refine at_region ?_
            refine at_v (ov_indexRd (fun _ s => hr.up s) rfl Try.underlying22 rfl rfl rfl hget) rfl rfl rfl ?_
            refine at_v (ov_loadRdS (vs := [_, _, _, _, _, _, _, _, _, _]) (fun _ s => hr.up s) rfl rfl rfl hget rfl rfl) rfl rfl rfl ?_
            refine at_t (ot_allocA rfl Try.zeroValue36) rfl rfl rfl ?_
            rintro _ _ ⟨g2, rfl, rfl⟩
            refine at_t0 (ot_store (k := 0) rfl rfl rfl rfl rfl rfl rfl) rfl rfl ?_
            rintro _ _ ⟨rfl, rfl⟩
            simp only [setAt, splice, spliceL, Value.cells]
            refine at_nil ?_
            refine at_normal ?_
            refine hK11 _ _ ?_
            refine at_seq_k (fun K12 hK12 => ?_)
            refine at_region ?_
            refine at_v (ov_move rfl rfl) rfl rfl rfl ?_
            refine at_t (ot_call (ks := [2]) rfl rfl rfl Try.call15 rfl (T15 _ _ _) rfl) rfl rfl rfl ?_
            rintro v0 _ ⟨m0, hp0, rfl⟩
            obtain ⟨rfl, rfl⟩ := hp0
            simp only [List.cons_append, List.nil_append]
            refine at_v (ov_move rfl rfl) rfl rfl rfl ?_
            refine at_t (ot_call (ks := [2]) rfl rfl rfl Try.call16 rfl (T16 _ _ _) rfl) rfl rfl rfl ?_
            rintro v0 _ ⟨m0, hp0, rfl⟩
            obtain ⟨rfl, rfl⟩ := hp0
            simp only [List.cons_append, List.nil_append]
            refine at_t (ot_allocA rfl Try.zeroValue34) rfl rfl rfl ?_
            rintro _ _ ⟨g3, rfl, rfl⟩
            refine at_t0 (ot_store (k := 0) rfl rfl rfl rfl rfl rfl rfl) rfl rfl ?_
            rintro _ _ ⟨rfl, rfl⟩
            simp only [setAt, splice, spliceL, Value.cells]
            refine at_v (ov_assign rfl rfl) rfl rfl rfl ?_
            refine at_nil ?_
            refine at_normal ?_
            refine hK12 _ _ ?_
            refine at_seq_k (fun K13 hK13 => ?_)
            refine at_region ?_
            refine at_v (ov_move rfl rfl) rfl rfl rfl ?_
            refine at_v (ov_move rfl rfl) rfl rfl rfl ?_
            refine at_v (ov_loadS (cs := [_, _, _, _, _, _, _, _, _, _]) rfl rfl rfl rfl (fun _ s => s.lds (k := 3) rfl ⟨rfl, rfl, rfl, rfl, rfl, rfl, rfl, rfl, rfl, rfl, trivial⟩)) rfl rfl rfl ?_
            refine at_t (ot_call (ks := [2, 1]) rfl rfl rfl Try.call10 rfl (T10 _ _ _ _ _ _ (by first | assumption | omega | decide | (simp; done) | (simp at *; omega))) rfl) rfl rfl rfl ?_
            rintro v0 _ ⟨m0, hp0, rfl⟩
            obtain ⟨rfl, rfl⟩ := hp0
            simp only [List.cons_append, List.nil_append]
            refine at_t (ot_allocA rfl Try.zeroValue39) rfl rfl rfl ?_
            rintro _ _ ⟨g4, rfl, rfl⟩
            refine at_t0 (ot_store (k := 0) rfl rfl rfl rfl rfl rfl rfl) rfl rfl ?_
            rintro _ _ ⟨rfl, rfl⟩
            simp only [setAt, splice, spliceL, Value.cells]
            refine at_nil ?_
            refine at_normal ?_
            refine hK13 _ _ ?_
            refine at_seq_k (fun K14 hK14 => ?_)
            refine at_region ?_
            refine at_v (ov_move rfl rfl) rfl rfl rfl ?_
            refine at_t (ot_call (ks := [1]) rfl rfl rfl Try.call15 rfl (T15 _ _ _) rfl) rfl rfl rfl ?_
            rintro v0 _ ⟨m0, hp0, rfl⟩
            obtain ⟨rfl, rfl⟩ := hp0
            simp only [List.cons_append, List.nil_append]
            refine at_t (ot_allocA rfl Try.zeroValue34) rfl rfl rfl ?_
            rintro _ _ ⟨g5, rfl, rfl⟩
            refine at_t0 (ot_store (k := 0) rfl rfl rfl rfl rfl rfl rfl) rfl rfl ?_
            rintro _ _ ⟨rfl, rfl⟩
            simp only [setAt, splice, spliceL, Value.cells]
            refine at_nil ?_
            refine at_normal ?_
            refine hK14 _ _ ?_
            refine at_block ?_
            refine at_seq_k (fun K15 hK15 => ?_)
            refine at_region ?_
            refine at_v (ov_fieldAddr (k := 0) (r := 0) rfl rfl rfl rfl) rfl rfl rfl ?_
            refine at_v (ov_load rfl rfl rfl (fun _ s => s.ld (k := 5) rfl rfl)) rfl rfl rfl ?_
            refine at_v (ov_int rfl rfl rfl rfl) rfl rfl rfl ?_
            refine at_v (ov_move rfl rfl) rfl rfl rfl ?_
            refine at_reval 38 (.bool true) rfl (congrArg Value.bool (decide_eq_true (by omega))) ?_
            refine at_wanted (j := 3) rfl ?_
            refine at_v (ov_fieldAddr (k := 0) (r := 0) rfl rfl rfl rfl) rfl rfl rfl ?_
            refine at_wanted (j := 3) rfl ?_
            refine at_v (ov_load rfl rfl rfl (fun _ s => s.ld (k := 2) rfl rfl)) rfl rfl rfl ?_
            refine at_v (ov_pick_t rfl rfl rfl) rfl rfl rfl ?_
            refine at_v (ov_assign rfl rfl) rfl rfl rfl ?_
            refine at_nil ?_
            refine at_normal ?_
            refine hK15 _ _ ?_
            refine at_cond_true (congrArg (fun b => some (Value.bool b)) (show _ = true from by simp [h, hc, hid, hib, hil, hi1, hi2]; done)) ?_
            refine at_seq_k (fun K16 hK16 => ?_)
            refine at_region ?_
            refine at_v (ov_loadS (cs := [_, _]) rfl rfl rfl rfl (fun _ s => s.lds (k := 0) rfl ⟨rfl, rfl, trivial⟩)) rfl rfl rfl ?_
            refine at_v (ov_loadS (cs := [_, _]) rfl rfl rfl rfl (fun _ s => s.lds (k := 4) rfl ⟨rfl, rfl, trivial⟩)) rfl rfl rfl ?_
            refine at_v (ov_neS rfl (by kernel_rfl) rfl rfl rfl rfl) rfl rfl rfl ?_
            refine at_v (ov_move rfl rfl) rfl rfl rfl ?_
            refine at_bool (t := 45) rfl (fun h0 => ?_) (fun h0 => ?_)
            ·
              simp only [decide_eq_true_eq, decide_eq_false_iff_not, Bool.not_eq_true', Bool.not_eq_false', Int.not_lt, Int.not_le, Bool.and_eq_true, Bool.or_eq_true, Bool.and_eq_false_iff, Bool.or_eq_false_iff, gt_iff_lt, ge_iff_le] at h0
              refine at_wanted (j := 3) rfl ?_
              refine at_v (ov_loadS (cs := [_, _]) rfl rfl rfl rfl (fun _ s => s.lds (k := 0) rfl ⟨rfl, rfl, trivial⟩)) rfl rfl rfl ?_
              refine at_wanted (j := 3) rfl ?_
              refine at_v (ov_fieldAddr (k := 6) (r := 6) rfl rfl rfl rfl) rfl rfl rfl ?_
              refine at_wanted (j := 3) rfl ?_
              refine at_v (ov_loadS (cs := [_, _]) rfl rfl rfl rfl (fun _ s => s.lds (k := 5) rfl ⟨rfl, rfl, trivial⟩)) rfl rfl rfl ?_
              refine at_wanted (j := 3) rfl ?_
              refine at_v (ov_neS rfl (by kernel_rfl) rfl rfl rfl rfl) rfl rfl rfl ?_
              refine at_v (ov_pick_t rfl rfl rfl) rfl rfl rfl ?_
              refine at_v (ov_move rfl rfl) rfl rfl rfl ?_
              refine at_reval 51 (.bool false) rfl (congrArg Value.bool (by simp [h, hc, hid, hib, hil, hi1, hi2]; done)) ?_
              refine at_wanted (j := 9) rfl ?_
              refine at_v (ov_fieldAddr (k := 0) (r := 0) rfl rfl rfl rfl) rfl rfl rfl ?_
              refine at_wanted (j := 9) rfl ?_
              refine at_v (ov_load rfl rfl rfl (fun _ s => s.ld (k := 0) rfl rfl)) rfl rfl rfl ?_
              refine at_wanted (j := 9) rfl ?_
              refine at_v (ov_fieldAddr (k := 0) (r := 0) rfl rfl rfl rfl) rfl rfl rfl ?_
              refine at_wanted (j := 9) rfl ?_
              refine at_v (ov_load rfl rfl rfl (fun _ s => s.ld (k := 4) rfl rfl)) rfl rfl rfl ?_
              refine at_wanted (j := 9) rfl ?_
              refine at_v (ov_int rfl rfl rfl rfl) rfl rfl rfl ?_
              refine at_v (ov_pick_f rfl rfl rfl) rfl rfl rfl ?_
              refine at_v (ov_move rfl rfl) rfl rfl rfl ?_
              refine at_reval 58 (.bool false) rfl (congrArg Value.bool (decide_eq_false (by omega))) ?_
              refine at_wanted (j := 16) rfl ?_
              refine at_v (ov_fieldAddr (k := 0) (r := 0) rfl rfl rfl rfl) rfl rfl rfl ?_
              refine at_wanted (j := 16) rfl ?_
              refine at_v (ov_load rfl rfl rfl (fun _ s => s.ld (k := 0) rfl rfl)) rfl rfl rfl ?_
              refine at_wanted (j := 16) rfl ?_
              refine at_v (ov_fieldAddr (k := 0) (r := 0) rfl rfl rfl rfl) rfl rfl rfl ?_
              refine at_wanted (j := 16) rfl ?_
              refine at_v (ov_load rfl rfl rfl (fun _ s => s.ld (k := 4) rfl rfl)) rfl rfl rfl ?_
              refine at_wanted (j := 16) rfl ?_
              refine at_v (ov_int rfl rfl rfl rfl) rfl rfl rfl ?_
              refine at_wanted (j := 16) rfl ?_
              refine at_v (ov_move rfl rfl) rfl rfl rfl ?_
              refine at_bool (t := 64) rfl (fun h1 => ?_) (fun h1 => ?_)
              ·
                simp only [decide_eq_true_eq, decide_eq_false_iff_not, Bool.not_eq_true', Bool.not_eq_false', Int.not_lt, Int.not_le, Bool.and_eq_true, Bool.or_eq_true, Bool.and_eq_false_iff, Bool.or_eq_false_iff, gt_iff_lt, ge_iff_le] at h1
                refine at_wanted (j := 22) rfl ?_
                refine at_v (ov_fieldAddr (k := 1) (r := 1) rfl rfl rfl rfl) rfl rfl rfl ?_
                refine at_wanted (j := 22) rfl ?_
                refine at_v (ov_load rfl rfl rfl (fun _ s => s.ld (k := 0) rfl rfl)) rfl rfl rfl ?_
                refine at_wanted (j := 22) rfl ?_
                refine at_v (ov_fieldAddr (k := 1) (r := 1) rfl rfl rfl rfl) rfl rfl rfl ?_
                refine at_wanted (j := 22) rfl ?_
                refine at_v (ov_load rfl rfl rfl (fun _ s => s.ld (k := 4) rfl rfl)) rfl rfl rfl ?_
                refine at_wanted (j := 22) rfl ?_
                refine at_v (ov_int rfl rfl rfl rfl) rfl rfl rfl ?_
                refine at_wanted (j := 16) rfl ?_
                refine at_v (ov_pick_t rfl rfl rfl) rfl rfl rfl ?_
                refine at_v (ov_pick_f rfl rfl rfl) rfl rfl rfl ?_
                refine at_nil ?_
                refine at_normal ?_
                refine hK16 _ _ ?_
                refine at_cond_false (congrArg (fun b => some (Value.bool b)) (show _ = false from decide_eq_false (by omega))) ?_
                refine at_skip ?_
                refine at_inb_normal ?_
                refine at_inb_normal ?_
                refine at_normal ?_
                refine hK10 _ _ ?_
                refine at_region ?_
                refine at_v ((ov_int rfl rfl rfl rfl).eq (congrArg (Value.int .i64) (inK_i64 (by omega) (by omega)))) rfl rfl rfl ?_
                refine at_v (ov_move rfl rfl) rfl rfl rfl ?_
                refine at_nil ?_
                refine at_normal ?_
                refine at_roundF (k + 1) hlt (by omega) ⟨rfl, trivial⟩ rfl ?_
                simp only [setAt]
                rw [runS_succ l k hlt, hst]
                exact fun _ s => s.finEq (ks := [3, 1]) (js := [0, 0, 0, 0]) rfl rfl rfl
              ·
                simp only [decide_eq_true_eq, decide_eq_false_iff_not, Bool.not_eq_true', Bool.not_eq_false', Int.not_lt, Int.not_le, Bool.and_eq_true, Bool.or_eq_true, Bool.and_eq_false_iff, Bool.or_eq_false_iff, gt_iff_lt, ge_iff_le] at h1
                refine at_unwanted (j := 22) rfl rfl rfl rfl ?_
                refine at_unwanted (j := 22) rfl rfl rfl rfl ?_
                refine at_unwanted (j := 22) rfl rfl rfl rfl ?_
                refine at_unwanted (j := 22) rfl rfl rfl rfl ?_
                refine at_unwanted (j := 22) rfl rfl rfl rfl ?_
                refine at_wanted (j := 16) rfl ?_
                refine at_v (ov_pick_f rfl rfl rfl) rfl rfl rfl ?_
                refine at_v (ov_pick_f rfl rfl rfl) rfl rfl rfl ?_
                refine at_nil ?_
                refine at_normal ?_
                refine hK16 _ _ ?_
                refine at_cond_false rfl ?_
                refine at_skip ?_
                refine at_inb_normal ?_
                refine at_inb_normal ?_
                refine at_normal ?_
                refine hK10 _ _ ?_
                refine at_region ?_
                refine at_v ((ov_int rfl rfl rfl rfl).eq (congrArg (Value.int .i64) (inK_i64 (by omega) (by omega)))) rfl rfl rfl ?_
                refine at_v (ov_move rfl rfl) rfl rfl rfl ?_
                refine at_nil ?_
                refine at_normal ?_
                refine at_roundF (k + 1) hlt (by omega) ⟨rfl, trivial⟩ rfl ?_
                simp only [setAt]
                rw [runS_succ l k hlt, hst]
                exact fun _ s => s.finEq (ks := [3, 1]) (js := [0, 0, 0, 0]) rfl rfl rfl
            ·
              simp only [decide_eq_true_eq, decide_eq_false_iff_not, Bool.not_eq_true', Bool.not_eq_false', Int.not_lt, Int.not_le, Bool.and_eq_true, Bool.or_eq_true, Bool.and_eq_false_iff, Bool.or_eq_false_iff, gt_iff_lt, ge_iff_le] at h0
              refine at_unwanted (j := 3) rfl rfl rfl rfl ?_
              refine at_unwanted (j := 3) rfl rfl rfl rfl ?_
              refine at_unwanted (j := 3) rfl rfl rfl rfl ?_
              refine at_unwanted (j := 3) rfl rfl rfl rfl ?_
              refine at_v (ov_pick_f rfl rfl rfl) rfl rfl rfl ?_
              refine at_v (ov_move rfl rfl) rfl rfl rfl ?_
              refine at_wanted (j := 9) rfl ?_
              refine at_v (ov_fieldAddr (k := 0) (r := 0) rfl rfl rfl rfl) rfl rfl rfl ?_
              refine at_wanted (j := 9) rfl ?_
              refine at_v (ov_load rfl rfl rfl (fun _ s => s.ld (k := 0) rfl rfl)) rfl rfl rfl ?_
              refine at_wanted (j := 9) rfl ?_
              refine at_v (ov_fieldAddr (k := 0) (r := 0) rfl rfl rfl rfl) rfl rfl rfl ?_
              refine at_wanted (j := 9) rfl ?_
              refine at_v (ov_load rfl rfl rfl (fun _ s => s.ld (k := 4) rfl rfl)) rfl rfl rfl ?_
              refine at_wanted (j := 9) rfl ?_
              refine at_v (ov_int rfl rfl rfl rfl) rfl rfl rfl ?_
              refine at_v (ov_pick_f rfl rfl rfl) rfl rfl rfl ?_
              refine at_v (ov_move rfl rfl) rfl rfl rfl ?_
              refine at_reval 58 (.bool false) rfl (congrArg Value.bool (decide_eq_false (by omega))) ?_
              refine at_wanted (j := 16) rfl ?_
              refine at_v (ov_fieldAddr (k := 0) (r := 0) rfl rfl rfl rfl) rfl rfl rfl ?_
              refine at_wanted (j := 16) rfl ?_
              refine at_v (ov_load rfl rfl rfl (fun _ s => s.ld (k := 0) rfl rfl)) rfl rfl rfl ?_
              refine at_wanted (j := 16) rfl ?_
              refine at_v (ov_fieldAddr (k := 0) (r := 0) rfl rfl rfl rfl) rfl rfl rfl ?_
              refine at_wanted (j := 16) rfl ?_
              refine at_v (ov_load rfl rfl rfl (fun _ s => s.ld (k := 4) rfl rfl)) rfl rfl rfl ?_
              refine at_wanted (j := 16) rfl ?_
              refine at_v (ov_int rfl rfl rfl rfl) rfl rfl rfl ?_
              refine at_wanted (j := 16) rfl ?_
              refine at_v (ov_move rfl rfl) rfl rfl rfl ?_
              refine at_reval 64 (.bool true) rfl (congrArg Value.bool (decide_eq_true (by omega))) ?_
              refine at_wanted (j := 22) rfl ?_
              refine at_v (ov_fieldAddr (k := 1) (r := 1) rfl rfl rfl rfl) rfl rfl rfl ?_
              refine at_wanted (j := 22) rfl ?_
              refine at_v (ov_load rfl rfl rfl (fun _ s => s.ld (k := 0) rfl rfl)) rfl rfl rfl ?_
              refine at_wanted (j := 22) rfl ?_
              refine at_v (ov_fieldAddr (k := 1) (r := 1) rfl rfl rfl rfl) rfl rfl rfl ?_
              refine at_wanted (j := 22) rfl ?_
              refine at_v (ov_load rfl rfl rfl (fun _ s => s.ld (k := 4) rfl rfl)) rfl rfl rfl ?_
              refine at_wanted (j := 22) rfl ?_
              refine at_v (ov_int rfl rfl rfl rfl) rfl rfl rfl ?_
              refine at_wanted (j := 16) rfl ?_
              refine at_v (ov_pick_t rfl rfl rfl) rfl rfl rfl ?_
              refine at_v (ov_pick_f rfl rfl rfl) rfl rfl rfl ?_
              refine at_nil ?_
              refine at_normal ?_
              refine hK16 _ _ ?_
              refine at_cond_false (congrArg (fun b => some (Value.bool b)) (show _ = false from decide_eq_false (by omega))) ?_
              refine at_skip ?_
              refine at_inb_normal ?_
              refine at_inb_normal ?_
              refine at_normal ?_
              refine hK10 _ _ ?_
              refine at_region ?_
              refine at_v ((ov_int rfl rfl rfl rfl).eq (congrArg (Value.int .i64) (inK_i64 (by omega) (by omega)))) rfl rfl rfl ?_
              refine at_v (ov_move rfl rfl) rfl rfl rfl ?_
              refine at_nil ?_
              refine at_normal ?_
              refine at_roundF (k + 1) hlt (by omega) ⟨rfl, trivial⟩ rfl ?_
              simp only [setAt]
              rw [runS_succ l k hlt, hst]
              exact fun _ s => s.finEq (ks := [3, 1]) (js := [0, 0, 0, 0]) rfl rfl rfl
      · by_cases hid6 : l[k].d = 6
        · have hle := leftN_le s.te s.tp (v.learn l[k].ep l[k].n l[k].cut).cuts
          have hiv : doV v l[k] = v.learn l[k].ep l[k].n l[k].cut := by simp [doV, hid6]
          have hv0 : (v.learn l[k].ep l[k].n l[k].cut).e = v.e ∨ (l[k].ep > v.e ∧ (v.learn l[k].ep l[k].n l[k].cut).e = l[k].ep ∧ (s.te < l[k].ep → leftN s.te s.tp (v.learn l[k].ep l[k].n l[k].cut).cuts ≤ l[k].cut)) := by
            unfold VM.learn
            split
            · exact .inl rfl
            · exact .inr ⟨by omega, rfl, fun h => leftN_last _ _ _ _ _ h⟩
          by_cases hge : s.te ≥ (v.learn l[k].ep l[k].n l[k].cut).e
          · have hib : doB s v l[k] = false := by simp [doB, hid6, bringB, hge]
            have hi1 : (doS s v l[k]).te = s.te := by simp [doS, hid6, SM.learn, bringT, hge]
            have hi2 : (doS s v l[k]).tp = s.tp := by simp [doS, hid6, SM.learn, bringT, hge]
            generalize hvv : v.learn l[k].ep l[k].n l[k].cut = V at *
            have hiv2 : (doV v l[k]).e = V.e := by rw [hiv]
            refine at_skip ?_
            refine at_normal ?_
            refine hK9 _ _ ?_
            refine at_seq_k (fun K10 hK10 => ?_)
            refine at_block ?_
            refine at_seq_k (fun K11 hK11 => ?_)
            refine at_region ?_
            refine at_v (ov_indexRd (fun _ s => hr.up s) rfl Try.underlying22 rfl rfl rfl hget) rfl rfl rfl ?_
            refine at_v (ov_loadRdS (vs := [_, _, _, _, _, _, _, _, _, _]) (fun _ s => hr.up s) rfl rfl rfl hget rfl rfl) rfl rfl rfl ?_
            refine at_t (ot_allocA rfl Try.zeroValue36) rfl rfl rfl ?_
            rintro _ _ ⟨g2, rfl, rfl⟩
            refine at_t0 (ot_store (k := 0) rfl rfl rfl rfl rfl rfl rfl) rfl rfl ?_
            rintro _ _ ⟨rfl, rfl⟩
            simp only [setAt, splice, spliceL, Value.cells]
            refine at_nil ?_
            refine at_normal ?_
            refine hK11 _ _ ?_
            refine at_seq_k (fun K12 hK12 => ?_)
            refine at_region ?_
            refine at_v (ov_move rfl rfl) rfl rfl rfl ?_
            refine at_t (ot_call (ks := [2]) rfl rfl rfl Try.call15 rfl (T15 _ _ _) rfl) rfl rfl rfl ?_
            rintro v0 _ ⟨m0, hp0, rfl⟩
            obtain ⟨rfl, rfl⟩ := hp0
            simp only [List.cons_append, List.nil_append]
            refine at_v (ov_move rfl rfl) rfl rfl rfl ?_
            refine at_t (ot_call (ks := [2]) rfl rfl rfl Try.call16 rfl (T16 _ _ _) rfl) rfl rfl rfl ?_
            rintro v0 _ ⟨m0, hp0, rfl⟩
            obtain ⟨rfl, rfl⟩ := hp0
            simp only [List.cons_append, List.nil_append]
            refine at_t (ot_allocA rfl Try.zeroValue34) rfl rfl rfl ?_
            rintro _ _ ⟨g3, rfl, rfl⟩
            refine at_t0 (ot_store (k := 0) rfl rfl rfl rfl rfl rfl rfl) rfl rfl ?_
            rintro _ _ ⟨rfl, rfl⟩
            simp only [setAt, splice, spliceL, Value.cells]
            refine at_v (ov_assign rfl rfl) rfl rfl rfl ?_
            refine at_nil ?_
            refine at_normal ?_
            refine hK12 _ _ ?_
            refine at_seq_k (fun K13 hK13 => ?_)
            refine at_region ?_
            refine at_v (ov_move rfl rfl) rfl rfl rfl ?_
            refine at_v (ov_move rfl rfl) rfl rfl rfl ?_
            refine at_v (ov_loadS (cs := [_, _, _, _, _, _, _, _, _, _]) rfl rfl rfl rfl (fun _ s => s.lds (k := 3) rfl ⟨rfl, rfl, rfl, rfl, rfl, rfl, rfl, rfl, rfl, rfl, trivial⟩)) rfl rfl rfl ?_
            refine at_t (ot_call (ks := [2, 1]) rfl rfl rfl Try.call10 rfl (T10 _ _ _ _ _ _ (by first | assumption | omega | decide | (simp; done) | (simp at *; omega))) rfl) rfl rfl rfl ?_
            rintro v0 _ ⟨m0, hp0, rfl⟩
            obtain ⟨rfl, rfl⟩ := hp0
            simp only [List.cons_append, List.nil_append]
            refine at_t (ot_allocA rfl Try.zeroValue39) rfl rfl rfl ?_
            rintro _ _ ⟨g4, rfl, rfl⟩
            refine at_t0 (ot_store (k := 0) rfl rfl rfl rfl rfl rfl rfl) rfl rfl ?_
            rintro _ _ ⟨rfl, rfl⟩
            simp only [setAt, splice, spliceL, Value.cells]
            refine at_nil ?_
            refine at_normal ?_
            refine hK13 _ _ ?_
            refine at_seq_k (fun K14 hK14 => ?_)
            refine at_region ?_
            refine at_v (ov_move rfl rfl) rfl rfl rfl ?_
            refine at_t (ot_call (ks := [1]) rfl rfl rfl Try.call15 rfl (T15 _ _ _) rfl) rfl rfl rfl ?_
            rintro v0 _ ⟨m0, hp0, rfl⟩
            obtain ⟨rfl, rfl⟩ := hp0
            simp only [List.cons_append, List.nil_append]
            refine at_t (ot_allocA rfl Try.zeroValue34) rfl rfl rfl ?_
            rintro _ _ ⟨g5, rfl, rfl⟩
            refine at_t0 (ot_store (k := 0) rfl rfl rfl rfl rfl rfl rfl) rfl rfl ?_
            rintro _ _ ⟨rfl, rfl⟩
            simp only [setAt, splice, spliceL, Value.cells]
            refine at_nil ?_
            refine at_normal ?_
            refine hK14 _ _ ?_
            refine at_block ?_
            refine at_seq_k (fun K15 hK15 => ?_)
            refine at_region ?_
            refine at_v (ov_fieldAddr (k := 0) (r := 0) rfl rfl rfl rfl) rfl rfl rfl ?_
            refine at_v (ov_load rfl rfl rfl (fun _ s => s.ld (k := 5) rfl rfl)) rfl rfl rfl ?_
            refine at_v (ov_int rfl rfl rfl rfl) rfl rfl rfl ?_
            refine at_v (ov_move rfl rfl) rfl rfl rfl ?_
            refine at_reval 38 (.bool false) rfl (congrArg Value.bool (decide_eq_false (by omega))) ?_
            refine at_unwanted (j := 3) rfl rfl rfl rfl ?_
            refine at_unwanted (j := 3) rfl rfl rfl rfl ?_
            refine at_v (ov_pick_f rfl rfl rfl) rfl rfl rfl ?_
            refine at_v (ov_assign rfl rfl) rfl rfl rfl ?_
            refine at_nil ?_
            refine at_normal ?_
            refine hK15 _ _ ?_
            refine at_cond_false rfl ?_
            refine at_seq_k (fun K16 hK16 => ?_)
            refine at_region ?_
            refine at_v (ov_fieldAddr (k := 0) (r := 0) rfl rfl rfl rfl) rfl rfl rfl ?_
            refine at_v (ov_load rfl rfl rfl (fun _ s => s.ld (k := 5) rfl rfl)) rfl rfl rfl ?_
            refine at_v (ov_int rfl rfl rfl rfl) rfl rfl rfl ?_
            refine at_v (ov_move rfl rfl) rfl rfl rfl ?_
            refine at_reval 76 (.bool true) rfl (congrArg Value.bool (decide_eq_true (by omega))) ?_
            refine at_wanted (j := 3) rfl ?_
            refine at_v (ov_fieldAddr (k := 0) (r := 0) rfl rfl rfl rfl) rfl rfl rfl ?_
            refine at_wanted (j := 3) rfl ?_
            refine at_v (ov_load rfl rfl rfl (fun _ s => s.ld (k := 2) rfl rfl)) rfl rfl rfl ?_
            refine at_v (ov_pick_t rfl rfl rfl) rfl rfl rfl ?_
            refine at_v (ov_assign rfl rfl) rfl rfl rfl ?_
            refine at_nil ?_
            refine at_normal ?_
            refine hK16 _ _ ?_
            refine at_cond_false (congrArg (fun b => some (Value.bool b)) (show _ = false from by simp [h, hc, hid, hid6, hib, hi1, hi2, hiv, hiv2]; done)) ?_
            refine at_seq_k (fun K17 hK17 => ?_)
            refine at_region ?_
            refine at_v (ov_fieldAddr (k := 0) (r := 0) rfl rfl rfl rfl) rfl rfl rfl ?_
            refine at_v (ov_load rfl rfl rfl (fun _ s => s.ld (k := 5) rfl rfl)) rfl rfl rfl ?_
            refine at_v (ov_int rfl rfl rfl rfl) rfl rfl rfl ?_
            refine at_v (ov_assign rfl rfl) rfl rfl rfl ?_
            refine at_nil ?_
            refine at_normal ?_
            refine hK17 _ _ ?_
            refine at_cond_true (congrArg (fun b => some (Value.bool b)) (show _ = true from decide_eq_true (by omega))) ?_
            refine at_seq_k (fun K18 hK18 => ?_)
            refine at_region ?_
            refine at_v (ov_move rfl rfl) rfl rfl rfl ?_
            refine at_t (ot_call (ks := [3]) rfl rfl rfl Try.call16 rfl (T16 _ _ _) rfl) rfl rfl rfl ?_
            rintro v0 _ ⟨m0, hp0, rfl⟩
            obtain ⟨rfl, rfl⟩ := hp0
            simp only [List.cons_append, List.nil_append]
            refine at_v (ov_move rfl rfl) rfl rfl rfl ?_
            refine at_v (ov_int rfl rfl rfl rfl) rfl rfl rfl ?_
            refine at_v (ov_assign rfl rfl) rfl rfl rfl ?_
            refine at_nil ?_
            refine at_normal ?_
            refine hK18 _ _ ?_
            refine at_seq_k (fun K19 hK19 => ?_)
            refine at_draw _ [] 1000 [(2, 0), (1, 1), (2, 2), (1, 3), (1, 4), (2, 5), (2, 6), (1, 7), (2, 8), (1, 9), (2, 10), (0, 11), (1, 12), (1, 13), (2, 14), (2, 15), (2, 16), (2, 17), (2, 18), (1, 19), (2, 20), (0, 21), (1, 22), (2, 23), (2, 24), (2, 25), (1, 26), (2, 27), (1, 28), (1, 29), (2, 30), (2, 31)] (by kernel_rfl) (by kernel_rfl) (fun _ s => (s.pulls (ks := [1, 2, 2, 2]) rfl).left) ?_
            refine aq_p (ov_fieldAddr (k := 1) (r := 1) rfl rfl rfl rfl) rfl rfl rfl ?_
            refine aq_v (ov_load rfl rfl rfl (fun _ s => s.ld (k := 0) rfl rfl)) rfl rfl rfl ?_
            refine aq_p (ov_fieldAddr (k := 1) (r := 1) rfl rfl rfl rfl) rfl rfl rfl ?_
            refine aq_v (ov_load rfl rfl rfl (fun _ s => s.ld (k := 2) rfl rfl)) rfl rfl rfl ?_
            refine aq_v (ov_int rfl rfl rfl rfl) rfl rfl rfl ?_
            refine aq_p (ov_move rfl rfl) rfl rfl rfl ?_
            refine at_reval 105 (.bool false) rfl (congrArg Value.bool (by simp [h, hc, hid, hid6, hib, hi1, hi2, hiv, hiv2]; done)) ?_
            refine aq_wanted (j := 5) rfl ?_
            refine aq_p (ov_fieldAddr (k := 0) (r := 0) rfl rfl rfl rfl) rfl rfl rfl ?_
            refine aq_wanted (j := 5) rfl ?_
            refine aq_v (ov_load rfl rfl rfl (fun _ s => s.ld (k := 0) rfl rfl)) rfl rfl rfl ?_
            refine aq_wanted (j := 5) rfl ?_
            refine aq_p (ov_fieldAddr (k := 0) (r := 0) rfl rfl rfl rfl) rfl rfl rfl ?_
            refine aq_wanted (j := 5) rfl ?_
            refine aq_v (ov_load rfl rfl rfl (fun _ s => s.ld (k := 2) rfl rfl)) rfl rfl rfl ?_
            refine aq_wanted (j := 5) rfl ?_
            refine aq_p (ov_move rfl rfl) rfl rfl rfl ?_
            refine aq_wanted (j := 5) rfl ?_
            refine aq_t (ot_call (ks := [0]) rfl rfl rfl Try.call16 rfl (T16 _ _ _) rfl) rfl rfl rfl ?_
            rintro v0 _ ⟨m0, hp0, rfl⟩
            obtain ⟨rfl, rfl⟩ := hp0
            simp only [List.cons_append, List.nil_append]
            refine ⟨fun _ s => (s.pulls (ks := [1, 2, 2, 2]) rfl).left, ?_⟩
            refine aq_wanted (j := 5) rfl ?_
            refine aq_v (ov_max rfl rfl rfl) rfl rfl rfl ?_
            refine aq_wanted (j := 5) rfl ?_
            refine aq_v (ov_int rfl rfl rfl rfl) rfl rfl rfl ?_
            refine aq_p (ov_pick_f rfl rfl rfl) rfl rfl rfl ?_
            refine aq_p (ov_move rfl rfl) rfl rfl rfl ?_
            refine at_bool (t := 115) rfl (fun h0 => ?_) (fun h0 => ?_)
            ·
              simp only [decide_eq_true_eq, decide_eq_false_iff_not, Bool.not_eq_true', Bool.not_eq_false', Int.not_lt, Int.not_le, Bool.and_eq_true, Bool.or_eq_true, Bool.and_eq_false_iff, Bool.or_eq_false_iff, gt_iff_lt, ge_iff_le] at h0
              (exfalso; omega)
            ·
              simp only [decide_eq_true_eq, decide_eq_false_iff_not, Bool.not_eq_true', Bool.not_eq_false', Int.not_lt, Int.not_le, Bool.and_eq_true, Bool.or_eq_true, Bool.and_eq_false_iff, Bool.or_eq_false_iff, gt_iff_lt, ge_iff_le] at h0
              refine aq_wanted (j := 15) rfl ?_
              refine aq_p (ov_move rfl rfl) rfl rfl rfl ?_
              refine aq_wanted (j := 15) rfl ?_
              refine aq_p (ov_move rfl rfl) rfl rfl rfl ?_
              refine at_bool (t := 117) rfl (fun h1 => ?_) (fun h1 => ?_)
              ·
                simp only [decide_eq_true_eq, decide_eq_false_iff_not, Bool.not_eq_true', Bool.not_eq_false', Int.not_lt, Int.not_le, Bool.and_eq_true, Bool.or_eq_true, Bool.and_eq_false_iff, Bool.or_eq_false_iff, gt_iff_lt, ge_iff_le] at h1
                refine aq_wanted (j := 17) rfl ?_
                refine aq_p (ov_fieldAddr (k := 0) (r := 0) rfl rfl rfl rfl) rfl rfl rfl ?_
                refine aq_wanted (j := 17) rfl ?_
                refine aq_v (ov_load rfl rfl rfl (fun _ s => s.ld (k := 2) rfl rfl)) rfl rfl rfl ?_
                refine aq_wanted (j := 17) rfl ?_
                refine aq_p (ov_move rfl rfl) rfl rfl rfl ?_
                refine aq_wanted (j := 17) rfl ?_
                refine aq_t (ot_call (ks := [0]) rfl rfl rfl Try.call16 rfl (T16 _ _ _) rfl) rfl rfl rfl ?_
                rintro v0 _ ⟨m0, hp0, rfl⟩
                obtain ⟨rfl, rfl⟩ := hp0
                simp only [List.cons_append, List.nil_append]
                refine ⟨fun _ s => (s.pulls (ks := [1, 2, 2, 2]) rfl).left, ?_⟩
                refine aq_wanted (j := 17) rfl ?_
                refine aq_v (ov_int rfl rfl rfl rfl) rfl rfl rfl ?_
                refine aq_wanted (j := 15) rfl ?_
                refine aq_p (ov_pick_t rfl rfl rfl) rfl rfl rfl ?_
                refine aq_wanted (j := 15) rfl ?_
                refine aq_p (ov_move rfl rfl) rfl rfl rfl ?_
                refine at_reval 124 (.bool false) rfl (congrArg Value.bool (decide_eq_false (by omega))) ?_
                refine aq_unwanted (j := 24) rfl rfl rfl rfl rfl ?_
                refine aq_unwanted (j := 24) rfl rfl rfl rfl rfl ?_
                refine aq_unwanted (j := 24) rfl rfl rfl rfl rfl ?_
                refine aq_unwanted (j := 24) rfl rfl rfl rfl rfl ?_
                refine aq_unwanted (j := 24) rfl rfl rfl rfl rfl ?_
                refine aq_wanted (j := 15) rfl ?_
                refine aq_p (ov_pick_f rfl rfl rfl) rfl rfl rfl ?_
                refine aq_p (ov_pick_f rfl rfl rfl) rfl rfl rfl ?_
                refine aq_nil ?_
                refine at_normal ?_
                refine hK19 _ _ ?_
                refine at_cond_false rfl ?_
                refine at_skip ?_
                refine at_inb_normal ?_
                refine at_inb_normal ?_
                refine at_normal ?_
                refine hK10 _ _ ?_
                refine at_region ?_
                refine at_v ((ov_int rfl rfl rfl rfl).eq (congrArg (Value.int .i64) (inK_i64 (by omega) (by omega)))) rfl rfl rfl ?_
                refine at_v (ov_move rfl rfl) rfl rfl rfl ?_
                refine at_nil ?_
                refine at_normal ?_
                refine at_roundF (k + 1) hlt (by omega) ⟨rfl, trivial⟩ rfl ?_
                simp only [setAt]
                rw [runS_succ l k hlt, hst]
                exact fun _ s => s.finEq (ks := [0, 1]) (js := [0, 0, 0, 0]) rfl rfl rfl
              ·
                simp only [decide_eq_true_eq, decide_eq_false_iff_not, Bool.not_eq_true', Bool.not_eq_false', Int.not_lt, Int.not_le, Bool.and_eq_true, Bool.or_eq_true, Bool.and_eq_false_iff, Bool.or_eq_false_iff, gt_iff_lt, ge_iff_le] at h1
                refine aq_unwanted (j := 17) rfl rfl rfl rfl rfl ?_
                refine aq_unwanted (j := 17) rfl rfl rfl rfl rfl ?_
                refine aq_unwanted (j := 17) rfl rfl rfl rfl rfl ?_
                refine aq_unwanted (j := 17) rfl rfl rfl rfl rfl ?_
                refine aq_unwanted (j := 17) rfl rfl rfl rfl rfl ?_
                refine aq_wanted (j := 15) rfl ?_
                refine aq_p (ov_pick_f rfl rfl rfl) rfl rfl rfl ?_
                refine aq_wanted (j := 15) rfl ?_
                refine aq_p (ov_move rfl rfl) rfl rfl rfl ?_
                refine aq_unwanted (j := 24) rfl rfl rfl rfl rfl ?_
                refine aq_unwanted (j := 24) rfl rfl rfl rfl rfl ?_
                refine aq_unwanted (j := 24) rfl rfl rfl rfl rfl ?_
                refine aq_unwanted (j := 24) rfl rfl rfl rfl rfl ?_
                refine aq_unwanted (j := 24) rfl rfl rfl rfl rfl ?_
                refine aq_wanted (j := 15) rfl ?_
                refine aq_p (ov_pick_f rfl rfl rfl) rfl rfl rfl ?_
                refine aq_p (ov_pick_f rfl rfl rfl) rfl rfl rfl ?_
                refine aq_nil ?_
                refine at_normal ?_
                refine hK19 _ _ ?_
                refine at_cond_false rfl ?_
                refine at_skip ?_
                refine at_inb_normal ?_
                refine at_inb_normal ?_
                refine at_normal ?_
                refine hK10 _ _ ?_
                refine at_region ?_
                refine at_v ((ov_int rfl rfl rfl rfl).eq (congrArg (Value.int .i64) (inK_i64 (by omega) (by omega)))) rfl rfl rfl ?_
                refine at_v (ov_move rfl rfl) rfl rfl rfl ?_
                refine at_nil ?_
                refine at_normal ?_
                refine at_roundF (k + 1) hlt (by omega) ⟨rfl, trivial⟩ rfl ?_
                simp only [setAt]
                rw [runS_succ l k hlt, hst]
                exact fun _ s => s.finEq (ks := [0, 1]) (js := [0, 0, 0, 0]) rfl rfl rfl
          · have hi1 : (doS s v l[k]).te = (v.learn l[k].ep l[k].n l[k].cut).e := by simp [doS, hid6, SM.learn, bringT, hge]
            have hi2 : (doS s v l[k]).tp = leftN s.te s.tp (v.learn l[k].ep l[k].n l[k].cut).cuts := by simp [doS, hid6, SM.learn, bringT, hge]
            generalize hvv : v.learn l[k].ep l[k].n l[k].cut = V at *
            have hiv2 : (doV v l[k]).e = V.e := by rw [hiv]
            generalize hlf : leftN s.te s.tp V.cuts = left at *
            by_cases heq : left = s.tp
            · have hib : doB s v l[k] = false := by simp [doB, hid6, bringB, hge, hvv, hlf, heq]
              refine at_skip ?_
              refine at_normal ?_
              refine hK9 _ _ ?_
              refine at_seq_k (fun K10 hK10 => ?_)
              refine at_block ?_
              refine at_seq_k (fun K11 hK11 => ?_)
              refine at_region ?_
              refine at_v (ov_indexRd (fun _ s => hr.up s) rfl Try.underlying22 rfl rfl rfl hget) rfl rfl rfl ?_
              refine at_v (ov_loadRdS (vs := [_, _, _, _, _, _, _, _, _, _]) (fun _ s => hr.up s) rfl rfl rfl hget rfl rfl) rfl rfl rfl ?_
              refine at_t (ot_allocA rfl Try.zeroValue36) rfl rfl rfl ?_
              rintro _ _ ⟨g2, rfl, rfl⟩
              refine at_t0 (ot_store (k := 0) rfl rfl rfl rfl rfl rfl rfl) rfl rfl ?_
              rintro _ _ ⟨rfl, rfl⟩
              simp only [setAt, splice, spliceL, Value.cells]
              refine at_nil ?_
              refine at_normal ?_
              refine hK11 _ _ ?_
              refine at_seq_k (fun K12 hK12 => ?_)
              refine at_region ?_
              refine at_v (ov_move rfl rfl) rfl rfl rfl ?_
              refine at_t (ot_call (ks := [2]) rfl rfl rfl Try.call15 rfl (T15 _ _ _) rfl) rfl rfl rfl ?_
              rintro v0 _ ⟨m0, hp0, rfl⟩
              obtain ⟨rfl, rfl⟩ := hp0
              simp only [List.cons_append, List.nil_append]
              refine at_v (ov_move rfl rfl) rfl rfl rfl ?_
              refine at_t (ot_call (ks := [2]) rfl rfl rfl Try.call16 rfl (T16 _ _ _) rfl) rfl rfl rfl ?_
              rintro v0 _ ⟨m0, hp0, rfl⟩
              obtain ⟨rfl, rfl⟩ := hp0
              simp only [List.cons_append, List.nil_append]
              refine at_t (ot_allocA rfl Try.zeroValue34) rfl rfl rfl ?_
              rintro _ _ ⟨g3, rfl, rfl⟩
              refine at_t0 (ot_store (k := 0) rfl rfl rfl rfl rfl rfl rfl) rfl rfl ?_
              rintro _ _ ⟨rfl, rfl⟩
              simp only [setAt, splice, spliceL, Value.cells]
              refine at_v (ov_assign rfl rfl) rfl rfl rfl ?_
              refine at_nil ?_
              refine at_normal ?_
              refine hK12 _ _ ?_
              refine at_seq_k (fun K13 hK13 => ?_)
              refine at_region ?_
              refine at_v (ov_move rfl rfl) rfl rfl rfl ?_
              refine at_v (ov_move rfl rfl) rfl rfl rfl ?_
              refine at_v (ov_loadS (cs := [_, _, _, _, _, _, _, _, _, _]) rfl rfl rfl rfl (fun _ s => s.lds (k := 3) rfl ⟨rfl, rfl, rfl, rfl, rfl, rfl, rfl, rfl, rfl, rfl, trivial⟩)) rfl rfl rfl ?_
              refine at_t (ot_call (ks := [2, 1]) rfl rfl rfl Try.call10 rfl (T10 _ _ _ _ _ _ (by first | assumption | omega | decide | (simp; done) | (simp at *; omega))) rfl) rfl rfl rfl ?_
              rintro v0 _ ⟨m0, hp0, rfl⟩
              obtain ⟨rfl, rfl⟩ := hp0
              simp only [List.cons_append, List.nil_append]
              refine at_t (ot_allocA rfl Try.zeroValue39) rfl rfl rfl ?_
              rintro _ _ ⟨g4, rfl, rfl⟩
              refine at_t0 (ot_store (k := 0) rfl rfl rfl rfl rfl rfl rfl) rfl rfl ?_
              rintro _ _ ⟨rfl, rfl⟩
              simp only [setAt, splice, spliceL, Value.cells]
              refine at_nil ?_
              refine at_normal ?_
              refine hK13 _ _ ?_
              refine at_seq_k (fun K14 hK14 => ?_)
              refine at_region ?_
              refine at_v (ov_move rfl rfl) rfl rfl rfl ?_
              refine at_t (ot_call (ks := [1]) rfl rfl rfl Try.call15 rfl (T15 _ _ _) rfl) rfl rfl rfl ?_
              rintro v0 _ ⟨m0, hp0, rfl⟩
              obtain ⟨rfl, rfl⟩ := hp0
              simp only [List.cons_append, List.nil_append]
              refine at_t (ot_allocA rfl Try.zeroValue34) rfl rfl rfl ?_
              rintro _ _ ⟨g5, rfl, rfl⟩
              refine at_t0 (ot_store (k := 0) rfl rfl rfl rfl rfl rfl rfl) rfl rfl ?_
              rintro _ _ ⟨rfl, rfl⟩
              simp only [setAt, splice, spliceL, Value.cells]
              refine at_nil ?_
              refine at_normal ?_
              refine hK14 _ _ ?_
              refine at_block ?_
              refine at_seq_k (fun K15 hK15 => ?_)
              refine at_region ?_
              refine at_v (ov_fieldAddr (k := 0) (r := 0) rfl rfl rfl rfl) rfl rfl rfl ?_
              refine at_v (ov_load rfl rfl rfl (fun _ s => s.ld (k := 5) rfl rfl)) rfl rfl rfl ?_
              refine at_v (ov_int rfl rfl rfl rfl) rfl rfl rfl ?_
              refine at_v (ov_move rfl rfl) rfl rfl rfl ?_
              refine at_reval 38 (.bool false) rfl (congrArg Value.bool (decide_eq_false (by omega))) ?_
              refine at_unwanted (j := 3) rfl rfl rfl rfl ?_
              refine at_unwanted (j := 3) rfl rfl rfl rfl ?_
              refine at_v (ov_pick_f rfl rfl rfl) rfl rfl rfl ?_
              refine at_v (ov_assign rfl rfl) rfl rfl rfl ?_
              refine at_nil ?_
              refine at_normal ?_
              refine hK15 _ _ ?_
              refine at_cond_false rfl ?_
              refine at_seq_k (fun K16 hK16 => ?_)
              refine at_region ?_
              refine at_v (ov_fieldAddr (k := 0) (r := 0) rfl rfl rfl rfl) rfl rfl rfl ?_
              refine at_v (ov_load rfl rfl rfl (fun _ s => s.ld (k := 5) rfl rfl)) rfl rfl rfl ?_
              refine at_v (ov_int rfl rfl rfl rfl) rfl rfl rfl ?_
              refine at_v (ov_move rfl rfl) rfl rfl rfl ?_
              refine at_reval 76 (.bool true) rfl (congrArg Value.bool (decide_eq_true (by omega))) ?_
              refine at_wanted (j := 3) rfl ?_
              refine at_v (ov_fieldAddr (k := 0) (r := 0) rfl rfl rfl rfl) rfl rfl rfl ?_
              refine at_wanted (j := 3) rfl ?_
              refine at_v (ov_load rfl rfl rfl (fun _ s => s.ld (k := 2) rfl rfl)) rfl rfl rfl ?_
              refine at_v (ov_pick_t rfl rfl rfl) rfl rfl rfl ?_
              refine at_v (ov_assign rfl rfl) rfl rfl rfl ?_
              refine at_nil ?_
              refine at_normal ?_
              refine hK16 _ _ ?_
              refine at_cond_false (congrArg (fun b => some (Value.bool b)) (show _ = false from by simp [h, hc, hid, hid6, hiv, hi1, hiv2, hi2, hib]; done)) ?_
              refine at_seq_k (fun K17 hK17 => ?_)
              refine at_region ?_
              refine at_v (ov_fieldAddr (k := 0) (r := 0) rfl rfl rfl rfl) rfl rfl rfl ?_
              refine at_v (ov_load rfl rfl rfl (fun _ s => s.ld (k := 5) rfl rfl)) rfl rfl rfl ?_
              refine at_v (ov_int rfl rfl rfl rfl) rfl rfl rfl ?_
              refine at_v (ov_assign rfl rfl) rfl rfl rfl ?_
              refine at_nil ?_
              refine at_normal ?_
              refine hK17 _ _ ?_
              refine at_cond_true (congrArg (fun b => some (Value.bool b)) (show _ = true from decide_eq_true (by omega))) ?_
              refine at_seq_k (fun K18 hK18 => ?_)
              refine at_region ?_
              refine at_v (ov_move rfl rfl) rfl rfl rfl ?_
              refine at_t (ot_call (ks := [3]) rfl rfl rfl Try.call16 rfl (T16 _ _ _) rfl) rfl rfl rfl ?_
              rintro v0 _ ⟨m0, hp0, rfl⟩
              obtain ⟨rfl, rfl⟩ := hp0
              simp only [List.cons_append, List.nil_append]
              refine at_v (ov_move rfl rfl) rfl rfl rfl ?_
              refine at_v (ov_int rfl rfl rfl rfl) rfl rfl rfl ?_
              refine at_v (ov_assign rfl rfl) rfl rfl rfl ?_
              refine at_nil ?_
              refine at_normal ?_
              refine hK18 _ _ ?_
              refine at_seq_k (fun K19 hK19 => ?_)
              refine at_draw _ [] 1000 [(2, 0), (1, 1), (2, 2), (1, 3), (1, 4), (2, 5), (2, 6), (1, 7), (2, 8), (1, 9), (2, 10), (0, 11), (1, 12), (1, 13), (2, 14), (2, 15), (2, 16), (2, 17), (2, 18), (1, 19), (2, 20), (0, 21), (1, 22), (2, 23), (2, 24), (2, 25), (1, 26), (2, 27), (1, 28), (1, 29), (2, 30), (2, 31)] (by kernel_rfl) (by kernel_rfl) (fun _ s => (s.pulls (ks := [1, 2, 2, 2]) rfl).left) ?_
              refine aq_p (ov_fieldAddr (k := 1) (r := 1) rfl rfl rfl rfl) rfl rfl rfl ?_
              refine aq_v (ov_load rfl rfl rfl (fun _ s => s.ld (k := 0) rfl rfl)) rfl rfl rfl ?_
              refine aq_p (ov_fieldAddr (k := 1) (r := 1) rfl rfl rfl rfl) rfl rfl rfl ?_
              refine aq_v (ov_load rfl rfl rfl (fun _ s => s.ld (k := 2) rfl rfl)) rfl rfl rfl ?_
              refine aq_v (ov_int rfl rfl rfl rfl) rfl rfl rfl ?_
              refine aq_p (ov_move rfl rfl) rfl rfl rfl ?_
              refine at_bool (t := 105) rfl (fun h0 => ?_) (fun h0 => ?_)
              ·
                simp only [decide_eq_true_eq, decide_eq_false_iff_not, Bool.not_eq_true', Bool.not_eq_false', Int.not_lt, Int.not_le, Bool.and_eq_true, Bool.or_eq_true, Bool.and_eq_false_iff, Bool.or_eq_false_iff, gt_iff_lt, ge_iff_le] at h0
                (exfalso; omega)
              ·
                simp only [decide_eq_true_eq, decide_eq_false_iff_not, Bool.not_eq_true', Bool.not_eq_false', Int.not_lt, Int.not_le, Bool.and_eq_true, Bool.or_eq_true, Bool.and_eq_false_iff, Bool.or_eq_false_iff, gt_iff_lt, ge_iff_le] at h0
                refine aq_wanted (j := 5) rfl ?_
                refine aq_p (ov_fieldAddr (k := 0) (r := 0) rfl rfl rfl rfl) rfl rfl rfl ?_
                refine aq_wanted (j := 5) rfl ?_
                refine aq_v (ov_load rfl rfl rfl (fun _ s => s.ld (k := 0) rfl rfl)) rfl rfl rfl ?_
                refine aq_wanted (j := 5) rfl ?_
                refine aq_p (ov_fieldAddr (k := 0) (r := 0) rfl rfl rfl rfl) rfl rfl rfl ?_
                refine aq_wanted (j := 5) rfl ?_
                refine aq_v (ov_load rfl rfl rfl (fun _ s => s.ld (k := 2) rfl rfl)) rfl rfl rfl ?_
                refine aq_wanted (j := 5) rfl ?_
                refine aq_p (ov_move rfl rfl) rfl rfl rfl ?_
                refine aq_wanted (j := 5) rfl ?_
                refine aq_t (ot_call (ks := [0]) rfl rfl rfl Try.call16 rfl (T16 _ _ _) rfl) rfl rfl rfl ?_
                rintro v0 _ ⟨m0, hp0, rfl⟩
                obtain ⟨rfl, rfl⟩ := hp0
                simp only [List.cons_append, List.nil_append]
                refine ⟨fun _ s => (s.pulls (ks := [1, 2, 2, 2]) rfl).left, ?_⟩
                refine aq_wanted (j := 5) rfl ?_
                refine aq_v (ov_max rfl rfl rfl) rfl rfl rfl ?_
                refine aq_wanted (j := 5) rfl ?_
                refine aq_v (ov_int rfl rfl rfl rfl) rfl rfl rfl ?_
                refine aq_p (ov_pick_f rfl rfl rfl) rfl rfl rfl ?_
                refine aq_p (ov_move rfl rfl) rfl rfl rfl ?_
                refine at_bool (t := 115) rfl (fun h1 => ?_) (fun h1 => ?_)
                ·
                  simp only [decide_eq_true_eq, decide_eq_false_iff_not, Bool.not_eq_true', Bool.not_eq_false', Int.not_lt, Int.not_le, Bool.and_eq_true, Bool.or_eq_true, Bool.and_eq_false_iff, Bool.or_eq_false_iff, gt_iff_lt, ge_iff_le] at h1
                  (exfalso; omega)
                ·
                  simp only [decide_eq_true_eq, decide_eq_false_iff_not, Bool.not_eq_true', Bool.not_eq_false', Int.not_lt, Int.not_le, Bool.and_eq_true, Bool.or_eq_true, Bool.and_eq_false_iff, Bool.or_eq_false_iff, gt_iff_lt, ge_iff_le] at h1
                  refine aq_wanted (j := 15) rfl ?_
                  refine aq_p (ov_move rfl rfl) rfl rfl rfl ?_
                  refine aq_wanted (j := 15) rfl ?_
                  refine aq_p (ov_move rfl rfl) rfl rfl rfl ?_
                  refine at_bool (t := 117) rfl (fun h2 => ?_) (fun h2 => ?_)
                  ·
                    simp only [decide_eq_true_eq, decide_eq_false_iff_not, Bool.not_eq_true', Bool.not_eq_false', Int.not_lt, Int.not_le, Bool.and_eq_true, Bool.or_eq_true, Bool.and_eq_false_iff, Bool.or_eq_false_iff, gt_iff_lt, ge_iff_le] at h2
                    refine aq_wanted (j := 17) rfl ?_
                    refine aq_p (ov_fieldAddr (k := 0) (r := 0) rfl rfl rfl rfl) rfl rfl rfl ?_
                    refine aq_wanted (j := 17) rfl ?_
                    refine aq_v (ov_load rfl rfl rfl (fun _ s => s.ld (k := 2) rfl rfl)) rfl rfl rfl ?_
                    refine aq_wanted (j := 17) rfl ?_
                    refine aq_p (ov_move rfl rfl) rfl rfl rfl ?_
                    refine aq_wanted (j := 17) rfl ?_
                    refine aq_t (ot_call (ks := [0]) rfl rfl rfl Try.call16 rfl (T16 _ _ _) rfl) rfl rfl rfl ?_
                    rintro v0 _ ⟨m0, hp0, rfl⟩
                    obtain ⟨rfl, rfl⟩ := hp0
                    simp only [List.cons_append, List.nil_append]
                    refine ⟨fun _ s => (s.pulls (ks := [1, 2, 2, 2]) rfl).left, ?_⟩
                    refine aq_wanted (j := 17) rfl ?_
                    refine aq_v (ov_int rfl rfl rfl rfl) rfl rfl rfl ?_
                    refine aq_wanted (j := 15) rfl ?_
                    refine aq_p (ov_pick_t rfl rfl rfl) rfl rfl rfl ?_
                    refine aq_wanted (j := 15) rfl ?_
                    refine aq_p (ov_move rfl rfl) rfl rfl rfl ?_
                    refine at_reval 124 (.bool true) rfl (congrArg Value.bool (decide_eq_true (by omega))) ?_
                    refine aq_wanted (j := 24) rfl ?_
                    refine aq_p (ov_fieldAddr (k := 1) (r := 1) rfl rfl rfl rfl) rfl rfl rfl ?_
                    refine aq_wanted (j := 24) rfl ?_
                    refine aq_v (ov_load rfl rfl rfl (fun _ s => s.ld (k := 2) rfl rfl)) rfl rfl rfl ?_
                    refine aq_wanted (j := 24) rfl ?_
                    refine aq_p (ov_fieldAddr (k := 9) (r := 9) rfl rfl rfl rfl) rfl rfl rfl ?_
                    refine aq_wanted (j := 24) rfl ?_
                    refine aq_v (ov_load rfl rfl rfl (fun _ s => s.ld (k := 3) rfl rfl)) rfl rfl rfl ?_
                    refine aq_wanted (j := 24) rfl ?_
                    refine aq_v (ov_int rfl rfl rfl rfl) rfl rfl rfl ?_
                    refine aq_wanted (j := 15) rfl ?_
                    refine aq_p (ov_pick_t rfl rfl rfl) rfl rfl rfl ?_
                    refine aq_p (ov_pick_f rfl rfl rfl) rfl rfl rfl ?_
                    refine aq_nil ?_
                    refine at_normal ?_
                    refine hK19 _ _ ?_
                    refine at_cond_false (congrArg (fun b => some (Value.bool b)) (show _ = false from decide_eq_false (by omega))) ?_
                    refine at_skip ?_
                    refine at_inb_normal ?_
                    refine at_inb_normal ?_
                    refine at_normal ?_
                    refine hK10 _ _ ?_
                    refine at_region ?_
                    refine at_v ((ov_int rfl rfl rfl rfl).eq (congrArg (Value.int .i64) (inK_i64 (by omega) (by omega)))) rfl rfl rfl ?_
                    refine at_v (ov_move rfl rfl) rfl rfl rfl ?_
                    refine at_nil ?_
                    refine at_normal ?_
                    refine at_roundF (k + 1) hlt (by omega) ⟨rfl, trivial⟩ rfl ?_
                    simp only [setAt]
                    rw [runS_succ l k hlt, hst]
                    exact fun _ s => s.finEq (ks := [0, 1]) (js := [0, 0, 0, 0]) rfl rfl rfl
                  ·
                    simp only [decide_eq_true_eq, decide_eq_false_iff_not, Bool.not_eq_true', Bool.not_eq_false', Int.not_lt, Int.not_le, Bool.and_eq_true, Bool.or_eq_true, Bool.and_eq_false_iff, Bool.or_eq_false_iff, gt_iff_lt, ge_iff_le] at h2
                    refine aq_unwanted (j := 17) rfl rfl rfl rfl rfl ?_
                    refine aq_unwanted (j := 17) rfl rfl rfl rfl rfl ?_
                    refine aq_unwanted (j := 17) rfl rfl rfl rfl rfl ?_
                    refine aq_unwanted (j := 17) rfl rfl rfl rfl rfl ?_
                    refine aq_unwanted (j := 17) rfl rfl rfl rfl rfl ?_
                    refine aq_wanted (j := 15) rfl ?_
                    refine aq_p (ov_pick_f rfl rfl rfl) rfl rfl rfl ?_
                    refine aq_wanted (j := 15) rfl ?_
                    refine aq_p (ov_move rfl rfl) rfl rfl rfl ?_
                    refine aq_unwanted (j := 24) rfl rfl rfl rfl rfl ?_
                    refine aq_unwanted (j := 24) rfl rfl rfl rfl rfl ?_
                    refine aq_unwanted (j := 24) rfl rfl rfl rfl rfl ?_
                    refine aq_unwanted (j := 24) rfl rfl rfl rfl rfl ?_
                    refine aq_unwanted (j := 24) rfl rfl rfl rfl rfl ?_
                    refine aq_wanted (j := 15) rfl ?_
                    refine aq_p (ov_pick_f rfl rfl rfl) rfl rfl rfl ?_
                    refine aq_p (ov_pick_f rfl rfl rfl) rfl rfl rfl ?_
                    refine aq_nil ?_
                    refine at_normal ?_
                    refine hK19 _ _ ?_
                    refine at_cond_false rfl ?_
                    refine at_skip ?_
                    refine at_inb_normal ?_
                    refine at_inb_normal ?_
                    refine at_normal ?_
                    refine hK10 _ _ ?_
                    refine at_region ?_
                    refine at_v ((ov_int rfl rfl rfl rfl).eq (congrArg (Value.int .i64) (inK_i64 (by omega) (by omega)))) rfl rfl rfl ?_
                    refine at_v (ov_move rfl rfl) rfl rfl rfl ?_
                    refine at_nil ?_
                    refine at_normal ?_
                    refine at_roundF (k + 1) hlt (by omega) ⟨rfl, trivial⟩ rfl ?_
                    simp only [setAt]
                    rw [runS_succ l k hlt, hst]
                    exact fun _ s => s.finEq (ks := [0, 1]) (js := [0, 0, 0, 0]) rfl rfl rfl
            · have hib : doB s v l[k] = true := by simp [doB, hid6, bringB, hge, hvv, hlf, heq]
              refine at_skip ?_
              refine at_normal ?_
              refine hK9 _ _ ?_
              refine at_seq_k (fun K10 hK10 => ?_)
              refine at_block ?_
              refine at_seq_k (fun K11 hK11 => ?_)
              refine at_region ?_
              refine at_v (ov_indexRd (fun _ s => hr.up s) rfl Try.underlying22 rfl rfl rfl hget) rfl rfl rfl ?_
              refine at_v (ov_loadRdS (vs := [_, _, _, _, _, _, _, _, _, _]) (fun _ s => hr.up s) rfl rfl rfl hget rfl rfl) rfl rfl rfl ?_
              refine at_t (ot_allocA rfl Try.zeroValue36) rfl rfl rfl ?_
              rintro _ _ ⟨g2, rfl, rfl⟩
              refine at_t0 (ot_store (k := 0) rfl rfl rfl rfl rfl rfl rfl) rfl rfl ?_
              rintro _ _ ⟨rfl, rfl⟩
              simp only [setAt, splice, spliceL, Value.cells]
              refine at_nil ?_
              refine at_normal ?_
              refine hK11 _ _ ?_
              refine at_seq_k (fun K12 hK12 => ?_)
              refine at_region ?_
              refine at_v (ov_move rfl rfl) rfl rfl rfl ?_
              refine at_t (ot_call (ks := [2]) rfl rfl rfl Try.call15 rfl (T15 _ _ _) rfl) rfl rfl rfl ?_
              rintro v0 _ ⟨m0, hp0, rfl⟩
              obtain ⟨rfl, rfl⟩ := hp0
              simp only [List.cons_append, List.nil_append]
              refine at_v (ov_move rfl rfl) rfl rfl rfl ?_
              refine at_t (ot_call (ks := [2]) rfl rfl rfl Try.call16 rfl (T16 _ _ _) rfl) rfl rfl rfl ?_
              rintro v0 _ ⟨m0, hp0, rfl⟩
              obtain ⟨rfl, rfl⟩ := hp0
              simp only [List.cons_append, List.nil_append]
              refine at_t (ot_allocA rfl Try.zeroValue34) rfl rfl rfl ?_
              rintro _ _ ⟨g3, rfl, rfl⟩
              refine at_t0 (ot_store (k := 0) rfl rfl rfl rfl rfl rfl rfl) rfl rfl ?_
              rintro _ _ ⟨rfl, rfl⟩
              simp only [setAt, splice, spliceL, Value.cells]
              refine at_v (ov_assign rfl rfl) rfl rfl rfl ?_
              refine at_nil ?_
              refine at_normal ?_
              refine hK12 _ _ ?_
              refine at_seq_k (fun K13 hK13 => ?_)
              refine at_region ?_
              refine at_v (ov_move rfl rfl) rfl rfl rfl ?_
              refine at_v (ov_move rfl rfl) rfl rfl rfl ?_
              refine at_v (ov_loadS (cs := [_, _, _, _, _, _, _, _, _, _]) rfl rfl rfl rfl (fun _ s => s.lds (k := 3) rfl ⟨rfl, rfl, rfl, rfl, rfl, rfl, rfl, rfl, rfl, rfl, trivial⟩)) rfl rfl rfl ?_
              refine at_t (ot_call (ks := [2, 1]) rfl rfl rfl Try.call10 rfl (T10 _ _ _ _ _ _ (by first | assumption | omega | decide | (simp; done) | (simp at *; omega))) rfl) rfl rfl rfl ?_
              rintro v0 _ ⟨m0, hp0, rfl⟩
              obtain ⟨rfl, rfl⟩ := hp0
              simp only [List.cons_append, List.nil_append]
              refine at_t (ot_allocA rfl Try.zeroValue39) rfl rfl rfl ?_
              rintro _ _ ⟨g4, rfl, rfl⟩
              refine at_t0 (ot_store (k := 0) rfl rfl rfl rfl rfl rfl rfl) rfl rfl ?_
              rintro _ _ ⟨rfl, rfl⟩
              simp only [setAt, splice, spliceL, Value.cells]
              refine at_nil ?_
              refine at_normal ?_
              refine hK13 _ _ ?_
              refine at_seq_k (fun K14 hK14 => ?_)
              refine at_region ?_
              refine at_v (ov_move rfl rfl) rfl rfl rfl ?_
              refine at_t (ot_call (ks := [1]) rfl rfl rfl Try.call15 rfl (T15 _ _ _) rfl) rfl rfl rfl ?_
              rintro v0 _ ⟨m0, hp0, rfl⟩
              obtain ⟨rfl, rfl⟩ := hp0
              simp only [List.cons_append, List.nil_append]
              refine at_t (ot_allocA rfl Try.zeroValue34) rfl rfl rfl ?_
              rintro _ _ ⟨g5, rfl, rfl⟩
              refine at_t0 (ot_store (k := 0) rfl rfl rfl rfl rfl rfl rfl) rfl rfl ?_
              rintro _ _ ⟨rfl, rfl⟩
              simp only [setAt, splice, spliceL, Value.cells]
              refine at_nil ?_
              refine at_normal ?_
              refine hK14 _ _ ?_
              refine at_block ?_
              refine at_seq_k (fun K15 hK15 => ?_)
              refine at_region ?_
              refine at_v (ov_fieldAddr (k := 0) (r := 0) rfl rfl rfl rfl) rfl rfl rfl ?_
              refine at_v (ov_load rfl rfl rfl (fun _ s => s.ld (k := 5) rfl rfl)) rfl rfl rfl ?_
              refine at_v (ov_int rfl rfl rfl rfl) rfl rfl rfl ?_
              refine at_v (ov_move rfl rfl) rfl rfl rfl ?_
              refine at_reval 38 (.bool false) rfl (congrArg Value.bool (decide_eq_false (by omega))) ?_
              refine at_unwanted (j := 3) rfl rfl rfl rfl ?_
              refine at_unwanted (j := 3) rfl rfl rfl rfl ?_
              refine at_v (ov_pick_f rfl rfl rfl) rfl rfl rfl ?_
              refine at_v (ov_assign rfl rfl) rfl rfl rfl ?_
              refine at_nil ?_
              refine at_normal ?_
              refine hK15 _ _ ?_
              refine at_cond_false rfl ?_
              refine at_seq_k (fun K16 hK16 => ?_)
              refine at_region ?_
              refine at_v (ov_fieldAddr (k := 0) (r := 0) rfl rfl rfl rfl) rfl rfl rfl ?_
              refine at_v (ov_load rfl rfl rfl (fun _ s => s.ld (k := 5) rfl rfl)) rfl rfl rfl ?_
              refine at_v (ov_int rfl rfl rfl rfl) rfl rfl rfl ?_
              refine at_v (ov_move rfl rfl) rfl rfl rfl ?_
              refine at_reval 76 (.bool true) rfl (congrArg Value.bool (decide_eq_true (by omega))) ?_
              refine at_wanted (j := 3) rfl ?_
              refine at_v (ov_fieldAddr (k := 0) (r := 0) rfl rfl rfl rfl) rfl rfl rfl ?_
              refine at_wanted (j := 3) rfl ?_
              refine at_v (ov_load rfl rfl rfl (fun _ s => s.ld (k := 2) rfl rfl)) rfl rfl rfl ?_
              refine at_v (ov_pick_t rfl rfl rfl) rfl rfl rfl ?_
              refine at_v (ov_assign rfl rfl) rfl rfl rfl ?_
              refine at_nil ?_
              refine at_normal ?_
              refine hK16 _ _ ?_
              refine at_cond_true (congrArg (fun b => some (Value.bool b)) (show _ = true from by simp [h, hc, hid, hid6, hiv, hi1, hiv2, hi2, hib]; done)) ?_
              refine at_seq_k (fun K17 hK17 => ?_)
              refine at_draw _ [] 1000 [(2, 0), (1, 1), (2, 2), (0, 3), (1, 4), (2, 5), (2, 6), (1, 7), (2, 8), (1, 9), (1, 10), (2, 11)] (by kernel_rfl) (by kernel_rfl) (fun _ s => (s.pulls (ks := [0, 1, 2, 2]) rfl).left) ?_
              refine aq_p (ov_fieldAddr (k := 0) (r := 0) rfl rfl rfl rfl) rfl rfl rfl ?_
              refine aq_v (ov_load rfl rfl rfl (fun _ s => s.ld (k := 0) rfl rfl)) rfl rfl rfl ?_
              refine aq_p (ov_move rfl rfl) rfl rfl rfl ?_
              refine aq_t (ot_call (ks := [3]) rfl rfl rfl Try.call16 rfl (T16 _ _ _) rfl) rfl rfl rfl ?_
              rintro v0 _ ⟨m0, hp0, rfl⟩
              obtain ⟨rfl, rfl⟩ := hp0
              simp only [List.cons_append, List.nil_append]
              refine ⟨fun _ s => (s.pulls (ks := [1, 2, 2, 2]) rfl).left, ?_⟩
              refine aq_v (ov_int rfl rfl rfl rfl) rfl rfl rfl ?_
              refine aq_p (ov_move rfl rfl) rfl rfl rfl ?_
              refine at_reval 85 (.bool false) rfl (congrArg Value.bool (by simp [h, hc, hid, hid6, hiv, hi1, hiv2, hi2, hib]; done)) ?_
              refine aq_wanted (j := 5) rfl ?_
              refine aq_p (ov_fieldAddr (k := 1) (r := 1) rfl rfl rfl rfl) rfl rfl rfl ?_
              refine aq_wanted (j := 5) rfl ?_
              refine aq_v (ov_load rfl rfl rfl (fun _ s => s.ld (k := 0) rfl rfl)) rfl rfl rfl ?_
              refine aq_wanted (j := 5) rfl ?_
              refine aq_p (ov_fieldAddr (k := 1) (r := 1) rfl rfl rfl rfl) rfl rfl rfl ?_
              refine aq_wanted (j := 5) rfl ?_
              refine aq_v (ov_load rfl rfl rfl (fun _ s => s.ld (k := 2) rfl rfl)) rfl rfl rfl ?_
              refine aq_wanted (j := 5) rfl ?_
              refine aq_v (ov_int rfl rfl rfl rfl) rfl rfl rfl ?_
              refine aq_p (ov_pick_f rfl rfl rfl) rfl rfl rfl ?_
              refine aq_nil ?_
              refine at_normal ?_
              refine hK17 _ _ ?_
              refine at_cond_false (congrArg (fun b => some (Value.bool b)) (show _ = false from decide_eq_false (by omega))) ?_
              refine at_skip ?_
              refine at_inb_normal ?_
              refine at_inb_normal ?_
              refine at_normal ?_
              refine hK10 _ _ ?_
              refine at_region ?_
              refine at_v ((ov_int rfl rfl rfl rfl).eq (congrArg (Value.int .i64) (inK_i64 (by omega) (by omega)))) rfl rfl rfl ?_
              refine at_v (ov_move rfl rfl) rfl rfl rfl ?_
              refine at_nil ?_
              refine at_normal ?_
              refine at_roundF (k + 1) hlt (by omega) ⟨rfl, trivial⟩ rfl ?_
              simp only [setAt]
              rw [runS_succ l k hlt, hst]
              exact fun _ s => s.finEq (ks := [0, 1]) (js := [0, 0, 0, 0]) rfl rfl rfl
        · have hi1 : (doS s v l[k]).te = s.te := by simp only [doS, hid, hid6, if_false, SM.push, SM.pop, SM.begin, SM.end_, SM.abort, SM.ack, SM.verdict]; (repeat' split) <;> rfl
          have hi2 : (doS s v l[k]).tp = s.tp := by simp only [doS, hid, hid6, if_false, SM.push, SM.pop, SM.begin, SM.end_, SM.abort, SM.ack, SM.verdict]; (repeat' split) <;> rfl
          refine at_skip ?_
          refine at_normal ?_
          refine hK9 _ _ ?_
          refine at_seq_k (fun K10 hK10 => ?_)
          refine at_block ?_
          refine at_seq_k (fun K11 hK11 => ?_)
          refine at_region ?_
          refine at_v (ov_indexRd (fun _ s => hr.up s) rfl Try.underlying22 rfl rfl rfl hget) rfl rfl rfl ?_
          refine at_v (ov_loadRdS (vs := [_, _, _, _, _, _, _, _, _, _]) (fun _ s => hr.up s) rfl rfl rfl hget rfl rfl) rfl rfl rfl ?_
          refine at_t (ot_allocA rfl Try.zeroValue36) rfl rfl rfl ?_
          rintro _ _ ⟨g2, rfl, rfl⟩
          refine at_t0 (ot_store (k := 0) rfl rfl rfl rfl rfl rfl rfl) rfl rfl ?_
          rintro _ _ ⟨rfl, rfl⟩
          simp only [setAt, splice, spliceL, Value.cells]
          refine at_nil ?_
          refine at_normal ?_
          refine hK11 _ _ ?_
          refine at_seq_k (fun K12 hK12 => ?_)
          refine at_region ?_
          refine at_v (ov_move rfl rfl) rfl rfl rfl ?_
          refine at_t (ot_call (ks := [2]) rfl rfl rfl Try.call15 rfl (T15 _ _ _) rfl) rfl rfl rfl ?_
          rintro v0 _ ⟨m0, hp0, rfl⟩
          obtain ⟨rfl, rfl⟩ := hp0
          simp only [List.cons_append, List.nil_append]
          refine at_v (ov_move rfl rfl) rfl rfl rfl ?_
          refine at_t (ot_call (ks := [2]) rfl rfl rfl Try.call16 rfl (T16 _ _ _) rfl) rfl rfl rfl ?_
          rintro v0 _ ⟨m0, hp0, rfl⟩
          obtain ⟨rfl, rfl⟩ := hp0
          simp only [List.cons_append, List.nil_append]
          refine at_t (ot_allocA rfl Try.zeroValue34) rfl rfl rfl ?_
          rintro _ _ ⟨g3, rfl, rfl⟩
          refine at_t0 (ot_store (k := 0) rfl rfl rfl rfl rfl rfl rfl) rfl rfl ?_
          rintro _ _ ⟨rfl, rfl⟩
          simp only [setAt, splice, spliceL, Value.cells]
          refine at_v (ov_assign rfl rfl) rfl rfl rfl ?_
          refine at_nil ?_
          refine at_normal ?_
          refine hK12 _ _ ?_
          refine at_seq_k (fun K13 hK13 => ?_)
          refine at_region ?_
          refine at_v (ov_move rfl rfl) rfl rfl rfl ?_
          refine at_v (ov_move rfl rfl) rfl rfl rfl ?_
          refine at_v (ov_loadS (cs := [_, _, _, _, _, _, _, _, _, _]) rfl rfl rfl rfl (fun _ s => s.lds (k := 3) rfl ⟨rfl, rfl, rfl, rfl, rfl, rfl, rfl, rfl, rfl, rfl, trivial⟩)) rfl rfl rfl ?_
          refine at_t (ot_call (ks := [2, 1]) rfl rfl rfl Try.call10 rfl (T10 _ _ _ _ _ _ (by first | assumption | omega | decide | (simp; done) | (simp at *; omega))) rfl) rfl rfl rfl ?_
          rintro v0 _ ⟨m0, hp0, rfl⟩
          obtain ⟨rfl, rfl⟩ := hp0
          simp only [List.cons_append, List.nil_append]
          refine at_t (ot_allocA rfl Try.zeroValue39) rfl rfl rfl ?_
          rintro _ _ ⟨g4, rfl, rfl⟩
          refine at_t0 (ot_store (k := 0) rfl rfl rfl rfl rfl rfl rfl) rfl rfl ?_
          rintro _ _ ⟨rfl, rfl⟩
          simp only [setAt, splice, spliceL, Value.cells]
          refine at_nil ?_
          refine at_normal ?_
          refine hK13 _ _ ?_
          refine at_seq_k (fun K14 hK14 => ?_)
          refine at_region ?_
          refine at_v (ov_move rfl rfl) rfl rfl rfl ?_
          refine at_t (ot_call (ks := [1]) rfl rfl rfl Try.call15 rfl (T15 _ _ _) rfl) rfl rfl rfl ?_
          rintro v0 _ ⟨m0, hp0, rfl⟩
          obtain ⟨rfl, rfl⟩ := hp0
          simp only [List.cons_append, List.nil_append]
          refine at_t (ot_allocA rfl Try.zeroValue34) rfl rfl rfl ?_
          rintro _ _ ⟨g5, rfl, rfl⟩
          refine at_t0 (ot_store (k := 0) rfl rfl rfl rfl rfl rfl rfl) rfl rfl ?_
          rintro _ _ ⟨rfl, rfl⟩
          simp only [setAt, splice, spliceL, Value.cells]
          refine at_nil ?_
          refine at_normal ?_
          refine hK14 _ _ ?_
          refine at_block ?_
          refine at_seq_k (fun K15 hK15 => ?_)
          refine at_region ?_
          refine at_v (ov_fieldAddr (k := 0) (r := 0) rfl rfl rfl rfl) rfl rfl rfl ?_
          refine at_v (ov_load rfl rfl rfl (fun _ s => s.ld (k := 5) rfl rfl)) rfl rfl rfl ?_
          refine at_v (ov_int rfl rfl rfl rfl) rfl rfl rfl ?_
          refine at_v (ov_move rfl rfl) rfl rfl rfl ?_
          refine at_reval 38 (.bool false) rfl (congrArg Value.bool (decide_eq_false (by omega))) ?_
          refine at_unwanted (j := 3) rfl rfl rfl rfl ?_
          refine at_unwanted (j := 3) rfl rfl rfl rfl ?_
          refine at_v (ov_pick_f rfl rfl rfl) rfl rfl rfl ?_
          refine at_v (ov_assign rfl rfl) rfl rfl rfl ?_
          refine at_nil ?_
          refine at_normal ?_
          refine hK15 _ _ ?_
          refine at_cond_false rfl ?_
          refine at_seq_k (fun K16 hK16 => ?_)
          refine at_region ?_
          refine at_v (ov_fieldAddr (k := 0) (r := 0) rfl rfl rfl rfl) rfl rfl rfl ?_
          refine at_v (ov_load rfl rfl rfl (fun _ s => s.ld (k := 5) rfl rfl)) rfl rfl rfl ?_
          refine at_v (ov_int rfl rfl rfl rfl) rfl rfl rfl ?_
          refine at_v (ov_move rfl rfl) rfl rfl rfl ?_
          refine at_reval 76 (.bool false) rfl (congrArg Value.bool (decide_eq_false (by omega))) ?_
          refine at_unwanted (j := 3) rfl rfl rfl rfl ?_
          refine at_unwanted (j := 3) rfl rfl rfl rfl ?_
          refine at_v (ov_pick_f rfl rfl rfl) rfl rfl rfl ?_
          refine at_v (ov_assign rfl rfl) rfl rfl rfl ?_
          refine at_nil ?_
          refine at_normal ?_
          refine hK16 _ _ ?_
          refine at_cond_false rfl ?_
          refine at_seq_k (fun K17 hK17 => ?_)
          refine at_region ?_
          refine at_v (ov_fieldAddr (k := 0) (r := 0) rfl rfl rfl rfl) rfl rfl rfl ?_
          refine at_v (ov_load rfl rfl rfl (fun _ s => s.ld (k := 5) rfl rfl)) rfl rfl rfl ?_
          refine at_v (ov_int rfl rfl rfl rfl) rfl rfl rfl ?_
          refine at_v (ov_assign rfl rfl) rfl rfl rfl ?_
          refine at_nil ?_
          refine at_normal ?_
          refine hK17 _ _ ?_
          refine at_cond_false (congrArg (fun b => some (Value.bool b)) (show _ = false from decide_eq_false (by omega))) ?_
          refine at_seq_k (fun K18 hK18 => ?_)
          refine at_region ?_
          refine at_v (ov_loadS (cs := [_, _]) rfl rfl rfl rfl (fun _ s => s.lds (k := 0) rfl ⟨rfl, rfl, trivial⟩)) rfl rfl rfl ?_
          refine at_v (ov_loadS (cs := [_, _]) rfl rfl rfl rfl (fun _ s => s.lds (k := 4) rfl ⟨rfl, rfl, trivial⟩)) rfl rfl rfl ?_
          refine at_v (ov_neS rfl (by kernel_rfl) rfl rfl rfl rfl) rfl rfl rfl ?_
          refine at_v (ov_assign rfl rfl) rfl rfl rfl ?_
          refine at_nil ?_
          refine at_normal ?_
          refine hK18 _ _ ?_
          refine at_cond_false (congrArg (fun b => some (Value.bool b)) (show _ = false from by simp [h, hc, hid, hid6, hi1, hi2]; done)) ?_
          refine at_skip ?_
          refine at_inb_normal ?_
          refine at_inb_normal ?_
          refine at_normal ?_
          refine hK10 _ _ ?_
          refine at_region ?_
          refine at_v ((ov_int rfl rfl rfl rfl).eq (congrArg (Value.int .i64) (inK_i64 (by omega) (by omega)))) rfl rfl rfl ?_
          refine at_v (ov_move rfl rfl) rfl rfl rfl ?_
          refine at_nil ?_
          refine at_normal ?_
          refine at_roundF (k + 1) hlt (by omega) ⟨rfl, trivial⟩ rfl ?_
          simp only [setAt]
          rw [runS_succ l k hlt, hst]
          exact fun _ s => s.finEq (ks := [3, 1]) (js := [0, 0, 0, 0]) rfl rfl rfl
    · refine at_exit ?_
      refine at_then_exit ?_
      refine at_then_exit ?_
      refine at_exit_eq ?_
      refine at_normal ?_
      refine hK6 _ _ ?_
      refine at_seq_k (fun K10 hK10 => ?_)
      refine at_region ?_
      refine at_v (ov_assign rfl rfl) rfl rfl rfl ?_
      refine at_nil ?_
      refine at_normal ?_
      refine hK10 _ _ ?_
      refine at_ret ?_
      refine at_end ?_
      refine at_fin (rsV rfl (res_tmp rfl)) ?_
      refine ⟨_, ⟨rfl, rfl⟩, ?_⟩
      exact fun _ s => s.finEq (ks := []) (js := [0, 0]) rfl rfl rfl
end Go.Proofs.Ytmhoimnochigjaa
