/- PoolBounds, walked. -/
import Derived.Test.YtlkcccihkfggmaaProg
import Derived.Test.YtlkcccihkfggmaaPool8
import Derived.Test.YtlkcccihkfggmaaSLExt
import Derived.KernelRfl
set_option linter.unusedSimpArgs false
set_option linter.unusedVariables false
set_option maxRecDepth 100000
set_option maxHeartbeats 4000000
namespace Go.Proofs.Ytlkcccihkfggmaa
open Go Go.Proofs.Ytlkcccihkfggmaa.SL Go.RowKit
theorem bnd {n : Nat} {p : PM} (h : Wf n p) {x : XM} (hx : x ∈ p.cs) : (max x.2.1.o 0 = 0 ∧ x.2.1.state = 1 ∧ x.2.1.f = 0) ∨ (¬ max x.2.1.o 0 = 0 ∧ x.2.1.state = 2) ∨ (¬ max x.2.1.o 0 = 0 ∧ x.2.1.state = 3 ∧ ¬ x.2.1.f = 0) := by
  obtain ⟨h1, h2, h3⟩ := h.con x hx
  unfold CM.state
  by_cases h0 : x.2.1.o = 0
  · left
    refine ⟨by omega, ?_, ?_⟩
    · rw [if_neg (by omega), if_pos h0]
    · apply Decidable.byContradiction
      intro hf
      have := h2 hf
      omega
  · right
    cases hr : x.2.1.r with
    | true => right; exact ⟨by omega, by rw [if_neg (by omega), if_neg h0, if_pos rfl], h3 hr⟩
    | false => left; exact ⟨by omega, by rw [if_neg (by omega), if_neg h0, if_neg (by simp)]⟩
theorem own_ne {n : Nat} {p : PM} (h : Wf n p) {i k : Nat} {x y : XM} (hx : p.cs[i]? = some x) (hy : p.cs[k]? = some y) (hne : ¬ i = k) (ho : ¬ max x.2.1.o 0 = 0) : ¬ max x.2.1.o 0 = max y.2.1.o 0 := by
  obtain ⟨h1, h2⟩ := List.getElem?_eq_some_iff.1 hx
  obtain ⟨h3, h4⟩ := List.getElem?_eq_some_iff.1 hy
  have cx := (h.con x (List.mem_of_getElem? hx)).1
  have cy := (h.con y (List.mem_of_getElem? hy)).1
  rcases Nat.lt_or_gt_of_ne hne with hlt | hlt
  · have := List.pairwise_iff_getElem.1 h.pw i k h1 h3 hlt
    rw [h2, h4] at this
    have := this.2
    omega
  · have := List.pairwise_iff_getElem.1 h.pw k i h3 h1 hlt
    rw [h2, h4] at this
    have := this.2
    omega
theorem T3 (w0 : World) (room wait idle : Int) (A : Option Addr) (c : Nat) (l : List PA) (hr : Rd paE w0 6 A l) (hm : l.length ≤ 9223372036854775807) (hok : ∀ x ∈ l, x.ok) :
    Tri Try.prog w0 3 [.int .i64 room, .int .i64 wait, .int .u64 idle, .slice A l.length c] [] fun v m => v = .bool true ∧ m = [] := by
  refine tri_of Try.func3 rfl rfl fun F => ?_
  simp only [Try.ntmps3, argEnv, List.cons_append, List.nil_append]
  refine at_seq_k (fun K0 hK0 => ?_)
  refine at_region ?_
  refine at_v (ov_assign rfl rfl) rfl rfl rfl ?_
  refine at_nil ?_
  refine at_normal ?_
  refine hK0 _ _ _ ?_
  refine at_seq_k (fun K1 hK1 => ?_)
  refine at_seq_k (fun K2 hK2 => ?_)
  refine at_region ?_
  refine at_t (ot_call (ks := []) rfl rfl rfl Try.call8 rfl (T8 _) rfl) rfl rfl rfl ?_
  rintro v0 _ ⟨m0, hp0, rfl⟩
  obtain ⟨rfl, rfl⟩ := hp0
  simp only [List.cons_append, List.nil_append, splice, spliceL]
  refine at_v (ov_not rfl rfl) rfl rfl rfl ?_
  refine at_nil ?_
  refine at_normal ?_
  refine hK2 _ _ _ ?_
  refine at_cond_false rfl ?_
  refine at_skip ?_
  refine at_normal ?_
  refine hK1 _ _ _ ?_
  refine at_seq_k (fun K3 hK3 => ?_)
  refine at_region ?_
  refine at_v (ov_move rfl rfl) rfl rfl rfl ?_
  refine at_v (ov_move rfl rfl) rfl rfl rfl ?_
  refine at_v (ov_move rfl rfl) rfl rfl rfl ?_
  refine at_t (ot_call (ks := []) rfl rfl rfl Try.call9 rfl (T9 _ _ _ _) rfl) rfl rfl rfl ?_
  rintro v0 _ ⟨m0, hp0, rfl⟩
  obtain ⟨b0, hp0⟩ := hp0
  obtain ⟨hq0, hp0⟩ := hp0
  obtain ⟨hq1, hp0⟩ := hp0
  cases b0 with
  | false =>
    obtain ⟨rfl, rfl⟩ := hq1 rfl
    simp only [List.nil_append]
    refine at_v (ov_move rfl rfl) rfl rfl rfl ?_
    refine at_v (ov_extract rfl rfl rfl) rfl rfl rfl ?_
    refine at_v (ov_extract rfl rfl rfl) rfl rfl rfl ?_
    refine at_v (ov_assign rfl rfl) rfl rfl rfl ?_
    refine at_v (ov_assign rfl rfl) rfl rfl rfl ?_
    refine at_nil ?_
    refine at_normal ?_
    refine hK3 _ _ _ ?_
    refine at_seq_k (fun K4 hK4 => ?_)
    refine at_seq_k (fun K5 hK5 => ?_)
    refine at_region ?_
    refine at_v (ov_move rfl rfl) rfl rfl rfl ?_
    refine at_v (ov_ptr_nil (q := none) rfl Try.underlying25 rfl rfl) rfl rfl rfl ?_
    refine at_v (ov_move rfl rfl) rfl rfl rfl ?_
    refine at_unwanted (j := 2) rfl rfl rfl rfl ?_
    refine at_unwanted (j := 2) rfl rfl rfl rfl ?_
    refine at_unwanted (j := 2) rfl rfl rfl rfl ?_
    refine at_v (ov_pick_t rfl rfl rfl) rfl rfl rfl ?_
    refine at_nil ?_
    refine at_normal ?_
    refine hK5 _ _ _ ?_
    refine at_cond_true rfl ?_
    refine at_seq_k (fun K6 hK6 => ?_)
    refine at_region ?_
    refine at_v (ov_assign rfl rfl) rfl rfl rfl ?_
    refine at_nil ?_
    refine at_normal ?_
    refine hK6 _ _ _ ?_
    refine at_ret ?_
    refine at_then_ret ?_
    refine at_end ?_
    refine at_fin (rsV rfl (res_tmp rfl)) ?_
    refine ⟨_, ⟨rfl, rfl⟩, ?_⟩
    exact fun _ s => s.finEq (ks := []) (js := []) rfl rfl rfl
  | true =>
    obtain ⟨g, rfl, rfl⟩ := hp0 rfl
    have hb : 0 ≤ wait ∧ wait ≤ 12 ∧ 1 ≤ room ∧ room ≤ 6 ∧ idle ≠ 0 := by simpa using hq0
    clear hq0 hq1 hp0
    have hw0 : Wf 0 (initP room idle wait) := wf_init ⟨hb.1, hb.2.1, hb.2.2.1, hb.2.2.2.1⟩
    simp only [List.cons_append, List.nil_append]
    by_cases hi1 : (l.length : Int) > 100
    · refine at_v (ov_move rfl rfl) rfl rfl rfl ?_
      refine at_v (ov_extract rfl rfl rfl) rfl rfl rfl ?_
      refine at_v (ov_extract rfl rfl rfl) rfl rfl rfl ?_
      refine at_v (ov_assign rfl rfl) rfl rfl rfl ?_
      refine at_v (ov_assign rfl rfl) rfl rfl rfl ?_
      refine at_nil ?_
      refine at_normal ?_
      refine hK3 _ _ _ ?_
      refine at_seq_k (fun K4 hK4 => ?_)
      refine at_seq_k (fun K5 hK5 => ?_)
      refine at_region ?_
      refine at_v (ov_move rfl rfl) rfl rfl rfl ?_
      refine at_v (ov_ptr_nil (q := none) rfl Try.underlying25 rfl rfl) rfl rfl rfl ?_
      refine at_v (ov_move rfl rfl) rfl rfl rfl ?_
      refine at_wanted (j := 2) rfl ?_
      refine at_v (ov_move rfl rfl) rfl rfl rfl ?_
      refine at_wanted (j := 2) rfl ?_
      refine at_v (ov_len_slice rfl Try.underlying23 rfl) rfl rfl rfl ?_
      refine at_wanted (j := 2) rfl ?_
      refine at_v (ov_int rfl rfl rfl rfl) rfl rfl rfl ?_
      refine at_v (ov_pick_f rfl rfl rfl) rfl rfl rfl ?_
      refine at_nil ?_
      refine at_normal ?_
      refine hK5 _ _ _ ?_
      refine at_cond_true (congrArg (fun b => some (Value.bool b)) (show _ = true from decide_eq_true (by omega))) ?_
      refine at_seq_k (fun K6 hK6 => ?_)
      refine at_region ?_
      refine at_v (ov_assign rfl rfl) rfl rfl rfl ?_
      refine at_nil ?_
      refine at_normal ?_
      refine hK6 _ _ _ ?_
      refine at_ret ?_
      refine at_then_ret ?_
      refine at_end ?_
      refine at_fin (rsV rfl (res_tmp rfl)) ?_
      refine ⟨_, ⟨rfl, rfl⟩, ?_⟩
      exact fun _ s => s.finEq (ks := []) (js := [0]) rfl rfl rfl
    · have hl : l.length ≤ 100 := by omega
      refine at_v (ov_move rfl rfl) rfl rfl rfl ?_
      refine at_v (ov_extract rfl rfl rfl) rfl rfl rfl ?_
      refine at_v (ov_extract rfl rfl rfl) rfl rfl rfl ?_
      refine at_v (ov_assign rfl rfl) rfl rfl rfl ?_
      refine at_v (ov_assign rfl rfl) rfl rfl rfl ?_
      refine at_nil ?_
      refine at_normal ?_
      refine hK3 _ _ _ ?_
      refine at_seq_k (fun K4 hK4 => ?_)
      refine at_seq_k (fun K5 hK5 => ?_)
      refine at_region ?_
      refine at_v (ov_move rfl rfl) rfl rfl rfl ?_
      refine at_v (ov_ptr_nil (q := none) rfl Try.underlying25 rfl rfl) rfl rfl rfl ?_
      refine at_v (ov_move rfl rfl) rfl rfl rfl ?_
      refine at_wanted (j := 2) rfl ?_
      refine at_v (ov_move rfl rfl) rfl rfl rfl ?_
      refine at_wanted (j := 2) rfl ?_
      refine at_v (ov_len_slice rfl Try.underlying23 rfl) rfl rfl rfl ?_
      refine at_wanted (j := 2) rfl ?_
      refine at_v (ov_int rfl rfl rfl rfl) rfl rfl rfl ?_
      refine at_v (ov_pick_f rfl rfl rfl) rfl rfl rfl ?_
      refine at_nil ?_
      refine at_normal ?_
      refine hK5 _ _ _ ?_
      refine at_cond_false (congrArg (fun b => some (Value.bool b)) (show _ = false from decide_eq_false (by omega))) ?_
      refine at_skip ?_
      refine at_normal ?_
      refine hK4 _ _ _ ?_
      refine at_seq_k (fun K6 hK6 => ?_)
      refine at_seq_k (fun K7 hK7 => ?_)
      refine at_region ?_
      refine at_v (ov_move rfl rfl) rfl rfl rfl ?_
      refine at_v (ov_len_slice rfl Try.underlying23 rfl) rfl rfl rfl ?_
      refine at_v (ov_move rfl rfl) rfl rfl rfl ?_
      refine at_nil ?_
      refine at_normal ?_
      refine hK7 _ _ _ ?_
      refine at_block ?_
      refine at_loopE [40, 41, 42, 12, 43, 44, 45, 46, 47, 48, 49, 13, 14, 50, 51, 52, 53, 54, 55, 56, 57, 58, 59, 8, 60, 61, 62, 63, 64, 65, 66, 16, 15, 67, 68, 69, 70, 71, 72, 73, 74, 75, 76, 77, 78, 79, 80, 81, 82, 83, 84, 85, 86, 87, 88, 89, 90, 91, 92, 93, 94, 95, 96, 97, 98, 99, 100, 101, 102, 103, 104, 105, 106, 107, 108, 109, 110, 111, 112, 113, 114, 115, 116, 117, 118, 119, 120, 121, 122, 123, 124, 125, 18, 17, 126, 127, 128, 129, 130, 131, 132, 133, 134, 135, 136, 137, 138, 139, 140, 141, 142, 143, 144, 145, 146, 147, 20, 148, 149, 150, 151, 152, 153, 154, 39] (fun k => k ≤ l.length) (fun k => [(39, .int .i64 (k : Nat))]) (fun k m => setAt 0 (PO g (runP (initP room idle wait) (l.take k))) m) (fun k => l.length - k) 0 (Nat.zero_le _) ⟨rfl, trivial⟩ (fun _ s => s) ?_
      intro k hk
      simp only [setAt]
      have hwk := wf_runK hw0 hl hok k
      have hrs : ∀ h : k < l.length, runP (initP room idle wait) (l.take (k + 1)) = doP (runP (initP room idle wait) (l.take k)) l[k] := fun h => runP_succ _ _ _ h
      have hms := run_most (initP room idle wait) (l.take k)
      generalize runP (initP room idle wait) (l.take k) = p at hwk hrs hms ⊢
      refine at_seq_k (fun K8 hK8 => ?_)
      refine at_region ?_
      refine at_v (ov_int rfl rfl rfl rfl) rfl rfl rfl ?_
      refine at_nil ?_
      refine at_normal ?_
      refine hK8 _ _ _ ?_
      refine at_seq_k (fun K9 hK9 => ?_)
      refine at_cond rfl (fun hc => ?_) (fun hc => ?_)
      · have hlt : k < l.length := by simpa using hc
        have hget : l[k]? = some l[k] := List.getElem?_eq_getElem hlt
        have hxok := hok l[k] (List.mem_of_getElem? hget)
        have hrs := hrs hlt
        generalize l[k] = x at hget hxok hrs
        have hw2 := hwk.do_ (by omega) x hxok
        have hms2 := do_most p x
        have hi2 : ¬ ((doP p x).cs.length : Int) > room := by have := hw2.len; have : (doP p x).most = room := by rw [hms2.1, hms.1]; rfl
                                                              omega
        have hi3 : ¬ ((doP p x).L.length : Int) > wait := by have := hw2.lenL; have : (doP p x).wm = wait := by rw [hms2.2.2, hms.2.2]; rfl
                                                             omega
        have h62 := hw2.h6
        have hL12 : (doP p x).L.length ≤ 12 := by have := hw2.lenL; have := hw2.wm_; omega
        refine at_skip ?_
        refine at_normal ?_
        refine hK9 _ _ _ ?_
        refine at_seq_k (fun K10 hK10 => ?_)
        refine at_block ?_
        refine at_seq_k (fun K11 hK11 => ?_)
        refine at_region ?_
        refine at_v (ov_indexRd (fun _ s => hr.up s) rfl Try.underlying23 rfl rfl rfl hget) rfl rfl rfl ?_
        refine at_v (ov_loadRdS (vs := [_, _, _, _, _, _]) (fun _ s => hr.up s) rfl rfl rfl hget rfl rfl) rfl rfl rfl ?_
        refine at_t (ot_allocA rfl Try.zeroValue30) rfl rfl rfl ?_
        rintro _ _ ⟨g0, rfl, rfl⟩
        refine at_t0 (ot_store (k := 0) rfl rfl rfl rfl rfl rfl rfl) rfl rfl ?_
        rintro _ _ ⟨rfl, rfl⟩
        simp only [setAt, splice, spliceL, Value.cells]
        refine at_nil ?_
        refine at_normal ?_
        refine hK11 _ _ _ ?_
        refine at_seq_k (fun K12 hK12 => ?_)
        refine at_region ?_
        refine at_v (ov_move rfl rfl) rfl rfl rfl ?_
        refine at_v (ov_loadS (cs := [_, _, _, _, _, _]) rfl rfl rfl rfl (fun _ s => s.lds (k := 0) rfl ⟨rfl, rfl, rfl, rfl, rfl, rfl, trivial⟩)) rfl rfl rfl ?_
        refine at_t (ot_call (ks := [1]) rfl rfl rfl Try.call10 rfl (T10 _ _ (by first | assumption | rfl | omega | decide | (simp; done) | (simp at *; omega)) (by first | assumption | rfl | omega | decide | (simp; done) | (simp at *; omega))) rfl) rfl rfl rfl ?_
        rintro v0 _ ⟨m0, hp0, rfl⟩
        obtain ⟨rfl, rfl⟩ := hp0
        simp only [List.cons_append, List.nil_append, splice, spliceL]
        refine at_nil ?_
        refine at_normal ?_
        refine hK12 _ _ _ ?_
        refine at_seq_k (fun K13 hK13 => ?_)
        refine at_region ?_
        refine at_v (ov_move rfl rfl) rfl rfl rfl ?_
        refine at_t (ot_call (ks := [0]) rfl rfl rfl Try.call11 rfl (T11a _ (by first | assumption | rfl | omega | decide | (simp; done) | (simp at *; omega))) rfl) rfl rfl rfl ?_
        rintro v0 _ ⟨m0, hp0, rfl⟩
        obtain ⟨A0, hp0⟩ := hp0
        obtain ⟨c0, hp0⟩ := hp0
        obtain ⟨rfl, rfl⟩ := hp0
        simp only [List.cons_append, List.nil_append, splice, spliceL]
        refine at_v (ov_move rfl rfl) rfl rfl rfl ?_
        refine at_t (ot_call (ks := [1]) rfl rfl rfl Try.call12 rfl (T12 _) rfl) rfl rfl rfl ?_
        rintro v0 _ ⟨m0, hp0, rfl⟩
        obtain ⟨A1, hp0⟩ := hp0
        obtain ⟨c1, hp0⟩ := hp0
        obtain ⟨rfl, rfl⟩ := hp0
        simp only [List.cons_append, List.nil_append, splice, spliceL]
        refine at_v (ov_assign rfl rfl) rfl rfl rfl ?_
        refine at_v (ov_assign rfl rfl) rfl rfl rfl ?_
        refine at_nil ?_
        refine at_normal ?_
        refine hK13 _ _ _ ?_
        refine at_seq_k (fun K14 hK14 => ?_)
        refine at_seq_k (fun K15 hK15 => ?_)
        refine at_region ?_
        refine at_v (ov_move rfl rfl) rfl rfl rfl ?_
        refine at_v (ov_len_slice rfl Try.underlying34 rfl) rfl rfl rfl ?_
        refine at_v (ov_move rfl rfl) rfl rfl rfl ?_
        refine at_v (ov_int rfl rfl rfl rfl) rfl rfl rfl ?_
        refine at_v (ov_move rfl rfl) rfl rfl rfl ?_
        refine at_reval 54 (.bool false) rfl (congrArg Value.bool (decide_eq_false (by omega))) ?_
        refine at_wanted (j := 4) rfl ?_
        refine at_v (ov_move rfl rfl) rfl rfl rfl ?_
        refine at_wanted (j := 4) rfl ?_
        refine at_v (ov_len_slice rfl Try.underlying36 rfl) rfl rfl rfl ?_
        refine at_wanted (j := 4) rfl ?_
        refine at_v (ov_move rfl rfl) rfl rfl rfl ?_
        refine at_wanted (j := 4) rfl ?_
        refine at_v (ov_int rfl rfl rfl rfl) rfl rfl rfl ?_
        refine at_v (ov_pick_f rfl rfl rfl) rfl rfl rfl ?_
        refine at_nil ?_
        refine at_normal ?_
        refine hK15 _ _ _ ?_
        refine at_cond_false (congrArg (fun b => some (Value.bool b)) (show _ = false from decide_eq_false (by omega))) ?_
        refine at_skip ?_
        refine at_normal ?_
        refine hK14 _ _ _ ?_
        refine at_seq_k (fun K16 hK16 => ?_)
        refine at_region ?_
        refine at_v (ov_move rfl rfl) rfl rfl rfl ?_
        refine at_v (ov_len_slice rfl Try.underlying34 rfl) rfl rfl rfl ?_
        refine at_v (ov_move rfl rfl) rfl rfl rfl ?_
        refine at_nil ?_
        refine at_normal ?_
        refine hK16 _ _ _ ?_
        refine at_block ?_
        refine at_loopE [63, 64, 65, 66, 16, 15, 67, 68, 69, 70, 71, 72, 73, 74, 75, 76, 77, 78, 79, 80, 81, 82, 83, 84, 85, 86, 87, 88, 89, 90, 91, 92, 93, 94, 95, 96, 97, 98, 99, 100, 101, 102, 103, 104, 105, 106, 107, 108, 109, 110, 111, 112, 113, 114, 115, 116, 117, 118, 8, 119, 120, 121, 122, 123, 124, 125, 18, 17, 126, 127, 128, 129, 130, 131, 132, 133, 134, 135, 136, 137, 138, 139, 140, 141, 142, 143, 144, 145, 146, 147, 20, 148, 149, 150, 151, 152, 153, 62] (fun j => j ≤ (doP p x).cs.length) (fun j => [(62, .int .i64 (j : Nat))]) (fun i m => m) (fun j => (doP p x).cs.length - j) 0 (Nat.zero_le _) ⟨rfl, trivial⟩ (fun _ s => s) ?_
        intro j hj
        refine at_seq_k (fun K17 hK17 => ?_)
        refine at_region ?_
        refine at_v (ov_int rfl rfl rfl rfl) rfl rfl rfl ?_
        refine at_nil ?_
        refine at_normal ?_
        refine hK17 _ _ _ ?_
        refine at_seq_k (fun K18 hK18 => ?_)
        refine at_cond rfl (fun hc => ?_) (fun hc => ?_)
        · have hjt : j < (doP p x).cs.length := by simpa using hc
          obtain ⟨y, hy⟩ : ∃ y, (doP p x).cs[j]? = some y := ⟨_, List.getElem?_eq_getElem hjt⟩
          have hym := List.mem_of_getElem? hy
          have hby := bnd hw2 hym
          cases j with
          | zero =>
            rcases hby with ⟨hi5, hi6, hi7⟩ | ⟨hi5, hi6⟩ | ⟨hi5, hi6, hi7⟩
            · refine at_skip ?_
              refine at_normal ?_
              refine hK18 _ _ _ ?_
              refine at_seq_k (fun K19 hK19 => ?_)
              refine at_block ?_
              refine at_seq_k (fun K20 hK20 => ?_)
              refine at_region ?_
              refine at_v (ov_move rfl rfl) rfl rfl rfl ?_
              refine at_v (ov_indexRd (fun _ s => s.rd (k := 2) rfl) rfl Try.underlying34 rfl rfl rfl hy) rfl rfl rfl ?_
              refine at_v (ov_loadRdS (vs := [_, _, _, _, _, _]) (fun _ s => s.rd (k := 2) rfl) rfl rfl rfl hy rfl rfl) rfl rfl rfl ?_
              refine at_t (ot_allocA rfl Try.zeroValue39) rfl rfl rfl ?_
              rintro _ _ ⟨g1, rfl, rfl⟩
              refine at_v (ov_assign rfl rfl) rfl rfl rfl ?_
              refine at_t0 (ot_store (k := 0) rfl rfl rfl rfl rfl rfl rfl) rfl rfl ?_
              rintro _ _ ⟨rfl, rfl⟩
              simp only [setAt, splice, spliceL, Value.cells]
              refine at_nil ?_
              refine at_normal ?_
              refine hK20 _ _ _ ?_
              refine at_seq_k (fun K21 hK21 => ?_)
              refine at_seq_k (fun K22 hK22 => ?_)
              refine at_draw _ [] 1000 [(2, 0), (2, 1), (2, 2), (2, 3), (2, 4), (2, 5), (1, 6), (2, 7), (1, 8), (2, 9), (1, 10), (2, 11), (2, 12), (2, 13), (2, 14), (1, 15), (2, 16), (2, 17), (1, 18), (2, 19), (2, 20), (2, 21), (2, 22), (2, 23), (1, 24), (2, 25), (2, 26), (2, 27), (2, 28), (1, 29), (2, 30), (2, 31), (2, 32), (2, 33), (1, 34), (2, 35), (2, 36), (2, 37), (1, 38), (2, 39), (2, 40), (2, 41), (2, 42), (2, 43), (1, 44), (2, 45), (2, 46), (2, 47), (1, 48), (2, 49), (2, 50), (2, 51)] (by kernel_rfl) (by kernel_rfl) (fun _ s => (s.pulls (ks := [0, 3]) rfl).left) ?_
              refine aq_p (ov_move rfl rfl) rfl rfl rfl ?_
              refine aq_p (ov_int rfl rfl rfl rfl) rfl rfl rfl ?_
              refine aq_p (ov_move rfl rfl) rfl rfl rfl ?_
              refine aq_unwanted (j := 2) rfl rfl rfl rfl rfl ?_
              refine aq_unwanted (j := 2) rfl rfl rfl rfl rfl ?_
              refine aq_unwanted (j := 2) rfl rfl rfl rfl rfl ?_
              refine aq_unwanted (j := 2) rfl rfl rfl rfl rfl ?_
              refine aq_unwanted (j := 2) rfl rfl rfl rfl rfl ?_
              refine aq_unwanted (j := 2) rfl rfl rfl rfl rfl ?_
              refine aq_unwanted (j := 2) rfl rfl rfl rfl rfl ?_
              refine aq_unwanted (j := 2) rfl rfl rfl rfl rfl ?_
              refine aq_unwanted (j := 2) rfl rfl rfl rfl rfl ?_
              refine aq_p (ov_pick_f rfl rfl rfl) rfl rfl rfl ?_
              refine aq_p (ov_move rfl rfl) rfl rfl rfl ?_
              refine aq_wanted (j := 13) rfl ?_
              refine aq_p (ov_fieldAddr (k := 2) (r := 2) rfl rfl rfl rfl) rfl rfl rfl ?_
              refine aq_wanted (j := 13) rfl ?_
              refine aq_v (ov_load rfl rfl rfl (fun _ s => s.ld (k := 0) rfl rfl)) rfl rfl rfl ?_
              refine aq_wanted (j := 13) rfl ?_
              refine aq_p (ov_int rfl rfl rfl rfl) rfl rfl rfl ?_
              refine aq_wanted (j := 13) rfl ?_
              refine aq_p (ov_fieldAddr (k := 1) (r := 1) rfl rfl rfl rfl) rfl rfl rfl ?_
              refine aq_wanted (j := 13) rfl ?_
              refine aq_v (ov_load rfl rfl rfl (fun _ s => s.ld (k := 0) rfl rfl)) rfl rfl rfl ?_
              refine aq_wanted (j := 13) rfl ?_
              refine aq_p (ov_int rfl rfl rfl rfl) rfl rfl rfl ?_
              refine aq_wanted (j := 13) rfl ?_
              refine aq_p (ov_boolne rfl Try.underlying4 rfl rfl) rfl rfl rfl ?_
              refine aq_p (ov_pick_f rfl rfl rfl) rfl rfl rfl ?_
              refine aq_p (ov_move rfl rfl) rfl rfl rfl ?_
              refine at_reval 89 (.bool false) rfl (congrArg Value.bool (by simp [hi1, hc, hi2, hi3, hc, hi5, hi6, hi7]; done)) ?_
              refine aq_wanted (j := 22) rfl ?_
              refine aq_p (ov_fieldAddr (k := 1) (r := 1) rfl rfl rfl rfl) rfl rfl rfl ?_
              refine aq_wanted (j := 22) rfl ?_
              refine aq_v (ov_load rfl rfl rfl (fun _ s => s.ld (k := 0) rfl rfl)) rfl rfl rfl ?_
              refine aq_wanted (j := 22) rfl ?_
              refine aq_p (ov_int rfl rfl rfl rfl) rfl rfl rfl ?_
              refine aq_p (ov_pick_f rfl rfl rfl) rfl rfl rfl ?_
              refine aq_p (ov_move rfl rfl) rfl rfl rfl ?_
              refine at_reval 94 (.bool false) rfl (congrArg Value.bool (decide_eq_false (by omega))) ?_
              refine aq_wanted (j := 27) rfl ?_
              refine aq_p (ov_fieldAddr (k := 1) (r := 1) rfl rfl rfl rfl) rfl rfl rfl ?_
              refine aq_wanted (j := 27) rfl ?_
              refine aq_v (ov_load rfl rfl rfl (fun _ s => s.ld (k := 0) rfl rfl)) rfl rfl rfl ?_
              refine aq_wanted (j := 27) rfl ?_
              refine aq_p (ov_int rfl rfl rfl rfl) rfl rfl rfl ?_
              refine aq_p (ov_pick_f rfl rfl rfl) rfl rfl rfl ?_
              refine aq_p (ov_move rfl rfl) rfl rfl rfl ?_
              refine at_reval 99 (.bool false) rfl (congrArg Value.bool (decide_eq_false (by omega))) ?_
              refine aq_wanted (j := 32) rfl ?_
              refine aq_p (ov_fieldAddr (k := 4) (r := 4) rfl rfl rfl rfl) rfl rfl rfl ?_
              refine aq_wanted (j := 32) rfl ?_
              refine aq_v (ov_load rfl rfl rfl (fun _ s => s.ld (k := 0) rfl rfl)) rfl rfl rfl ?_
              refine aq_wanted (j := 32) rfl ?_
              refine aq_p (ov_int rfl rfl rfl rfl) rfl rfl rfl ?_
              refine aq_wanted (j := 32) rfl ?_
              refine aq_p (ov_move rfl rfl) rfl rfl rfl ?_
              refine at_reval 103 (.bool false) rfl (congrArg Value.bool (by first | assumption | (rw [Bool.not_eq_false']; exact decide_eq_true (by omega)))) ?_
              refine aq_unwanted (j := 36) rfl rfl rfl rfl rfl ?_
              refine aq_unwanted (j := 36) rfl rfl rfl rfl rfl ?_
              refine aq_unwanted (j := 36) rfl rfl rfl rfl rfl ?_
              refine aq_wanted (j := 32) rfl ?_
              refine aq_p (ov_pick_f rfl rfl rfl) rfl rfl rfl ?_
              refine aq_p (ov_pick_f rfl rfl rfl) rfl rfl rfl ?_
              refine aq_p (ov_move rfl rfl) rfl rfl rfl ?_
              refine aq_wanted (j := 42) rfl ?_
              refine aq_p (ov_fieldAddr (k := 1) (r := 1) rfl rfl rfl rfl) rfl rfl rfl ?_
              refine aq_wanted (j := 42) rfl ?_
              refine aq_v (ov_load rfl rfl rfl (fun _ s => s.ld (k := 0) rfl rfl)) rfl rfl rfl ?_
              refine aq_wanted (j := 42) rfl ?_
              refine aq_p (ov_int rfl rfl rfl rfl) rfl rfl rfl ?_
              refine aq_wanted (j := 42) rfl ?_
              refine aq_p (ov_move rfl rfl) rfl rfl rfl ?_
              refine at_reval 113 (.bool false) rfl (congrArg Value.bool (decide_eq_false (by omega))) ?_
              refine aq_unwanted (j := 46) rfl rfl rfl rfl rfl ?_
              refine aq_unwanted (j := 46) rfl rfl rfl rfl rfl ?_
              refine aq_unwanted (j := 46) rfl rfl rfl rfl rfl ?_
              refine aq_wanted (j := 42) rfl ?_
              refine aq_p (ov_pick_f rfl rfl rfl) rfl rfl rfl ?_
              refine aq_p (ov_pick_f rfl rfl rfl) rfl rfl rfl ?_
              refine aq_nil ?_
              refine at_normal ?_
              refine hK22 _ _ _ ?_
              refine at_cond_false rfl ?_
              refine at_skip ?_
              refine at_normal ?_
              refine hK21 _ _ _ ?_
              refine at_seq_k (fun K23 hK23 => ?_)
              refine at_seq_k (fun K24 hK24 => ?_)
              refine at_region ?_
              refine at_v (ov_move rfl rfl) rfl rfl rfl ?_
              refine at_v (ov_len_slice rfl Try.underlying34 rfl) rfl rfl rfl ?_
              refine at_v (ov_move rfl rfl) rfl rfl rfl ?_
              refine at_nil ?_
              refine at_normal ?_
              refine hK24 _ _ _ ?_
              refine at_block ?_
              refine at_loopE [122, 123, 124, 125, 18, 17, 126, 127, 128, 129, 130, 131, 132, 133, 134, 135, 136, 137, 138, 139, 140, 8, 141, 121] (fun q => q ≤ (doP p x).cs.length) (fun q => [(121, .int .i64 (q : Nat))]) (fun i m => m) (fun q => (doP p x).cs.length - q) 0 (Nat.zero_le _) ⟨rfl, trivial⟩ (fun _ s => s) ?_
              intro q hq
              refine at_seq_k (fun K25 hK25 => ?_)
              refine at_region ?_
              refine at_v (ov_int rfl rfl rfl rfl) rfl rfl rfl ?_
              refine at_nil ?_
              refine at_normal ?_
              refine hK25 _ _ _ ?_
              refine at_seq_k (fun K26 hK26 => ?_)
              refine at_cond rfl (fun hc => ?_) (fun hc => ?_)
              · have hqt : q < (doP p x).cs.length := by simpa using hc
                obtain ⟨z, hz⟩ : ∃ z, (doP p x).cs[q]? = some z := ⟨_, List.getElem?_eq_getElem hqt⟩
                by_cases hjq : 0 = q
                · subst hjq
                  refine at_skip ?_
                  refine at_normal ?_
                  refine hK26 _ _ _ ?_
                  refine at_seq_k (fun K27 hK27 => ?_)
                  refine at_block ?_
                  refine at_seq_k (fun K28 hK28 => ?_)
                  refine at_region ?_
                  refine at_v (ov_move rfl rfl) rfl rfl rfl ?_
                  refine at_v (ov_indexRd (fun _ s => s.rd (k := 3) rfl) rfl Try.underlying34 rfl rfl rfl hy) rfl rfl rfl ?_
                  refine at_v (ov_loadRdS (vs := [_, _, _, _, _, _]) (fun _ s => s.rd (k := 3) rfl) rfl rfl rfl hy rfl rfl) rfl rfl rfl ?_
                  refine at_t (ot_allocA rfl Try.zeroValue39) rfl rfl rfl ?_
                  rintro _ _ ⟨g2, rfl, rfl⟩
                  refine at_v (ov_assign rfl rfl) rfl rfl rfl ?_
                  refine at_t0 (ot_store (k := 0) rfl rfl rfl rfl rfl rfl rfl) rfl rfl ?_
                  rintro _ _ ⟨rfl, rfl⟩
                  simp only [setAt, splice, spliceL, Value.cells]
                  refine at_nil ?_
                  refine at_normal ?_
                  refine hK28 _ _ _ ?_
                  refine at_seq_k (fun K29 hK29 => ?_)
                  refine at_region ?_
                  refine at_v (ov_move rfl rfl) rfl rfl rfl ?_
                  refine at_v (ov_move rfl rfl) rfl rfl rfl ?_
                  refine at_v (ov_int rfl rfl rfl rfl) rfl rfl rfl ?_
                  refine at_v (ov_move rfl rfl) rfl rfl rfl ?_
                  refine at_unwanted (j := 3) rfl rfl rfl rfl ?_
                  refine at_unwanted (j := 3) rfl rfl rfl rfl ?_
                  refine at_unwanted (j := 3) rfl rfl rfl rfl ?_
                  refine at_v (ov_pick_f rfl rfl rfl) rfl rfl rfl ?_
                  refine at_v (ov_move rfl rfl) rfl rfl rfl ?_
                  refine at_unwanted (j := 8) rfl rfl rfl rfl ?_
                  refine at_unwanted (j := 8) rfl rfl rfl rfl ?_
                  refine at_unwanted (j := 8) rfl rfl rfl rfl ?_
                  refine at_unwanted (j := 8) rfl rfl rfl rfl ?_
                  refine at_unwanted (j := 8) rfl rfl rfl rfl ?_
                  refine at_v (ov_pick_f rfl rfl rfl) rfl rfl rfl ?_
                  refine at_nil ?_
                  refine at_normal ?_
                  refine hK29 _ _ _ ?_
                  refine at_cond_false rfl ?_
                  refine at_skip ?_
                  refine at_inb_normal ?_
                  refine at_normal ?_
                  refine hK27 _ _ _ ?_
                  refine at_region ?_
                  refine at_v ((ov_int rfl rfl rfl rfl).eq (congrArg (Value.int .i64) (inK_i64 (by omega) (by omega)))) rfl rfl rfl ?_
                  refine at_v (ov_move rfl rfl) rfl rfl rfl ?_
                  refine at_nil ?_
                  refine at_normal ?_
                  refine at_roundF (0 + 1) hqt (by omega) ⟨rfl, trivial⟩ rfl ?_
                  exact fun _ s => s.finEq (ks := [1, 1, 1, 1, 1]) (js := [0]) rfl rfl rfl
                · have hi9 : (!decide (((0 : Nat) : Int) = (q : Int))) = true := by simp; omega
                  refine at_skip ?_
                  refine at_normal ?_
                  refine hK26 _ _ _ ?_
                  refine at_seq_k (fun K27 hK27 => ?_)
                  refine at_block ?_
                  refine at_seq_k (fun K28 hK28 => ?_)
                  refine at_region ?_
                  refine at_v (ov_move rfl rfl) rfl rfl rfl ?_
                  refine at_v (ov_indexRd (fun _ s => s.rd (k := 3) rfl) rfl Try.underlying34 rfl rfl rfl hz) rfl rfl rfl ?_
                  refine at_v (ov_loadRdS (vs := [_, _, _, _, _, _]) (fun _ s => s.rd (k := 3) rfl) rfl rfl rfl hz rfl rfl) rfl rfl rfl ?_
                  refine at_t (ot_allocA rfl Try.zeroValue39) rfl rfl rfl ?_
                  rintro _ _ ⟨g2, rfl, rfl⟩
                  refine at_v (ov_assign rfl rfl) rfl rfl rfl ?_
                  refine at_t0 (ot_store (k := 0) rfl rfl rfl rfl rfl rfl rfl) rfl rfl ?_
                  rintro _ _ ⟨rfl, rfl⟩
                  simp only [setAt, splice, spliceL, Value.cells]
                  refine at_nil ?_
                  refine at_normal ?_
                  refine hK28 _ _ _ ?_
                  refine at_seq_k (fun K29 hK29 => ?_)
                  refine at_region ?_
                  refine at_v (ov_move rfl rfl) rfl rfl rfl ?_
                  refine at_v (ov_move rfl rfl) rfl rfl rfl ?_
                  refine at_v (ov_int rfl rfl rfl rfl) rfl rfl rfl ?_
                  refine at_v (ov_move rfl rfl) rfl rfl rfl ?_
                  refine at_reval 129 (.bool true) rfl (congrArg Value.bool (by first | assumption | (rw [Bool.not_eq_true']; exact decide_eq_false (by omega)))) ?_
                  refine at_wanted (j := 3) rfl ?_
                  refine at_v (ov_fieldAddr (k := 2) (r := 2) rfl rfl rfl rfl) rfl rfl rfl ?_
                  refine at_wanted (j := 3) rfl ?_
                  refine at_v (ov_load rfl rfl rfl (fun _ s => s.ld (k := 1) rfl rfl)) rfl rfl rfl ?_
                  refine at_wanted (j := 3) rfl ?_
                  refine at_v (ov_int rfl rfl rfl rfl) rfl rfl rfl ?_
                  refine at_v (ov_pick_t rfl rfl rfl) rfl rfl rfl ?_
                  refine at_v (ov_move rfl rfl) rfl rfl rfl ?_
                  refine at_reval 134 (.bool false) rfl (congrArg Value.bool (by first | assumption | (rw [Bool.not_eq_false']; exact decide_eq_true (by omega)))) ?_
                  refine at_unwanted (j := 8) rfl rfl rfl rfl ?_
                  refine at_unwanted (j := 8) rfl rfl rfl rfl ?_
                  refine at_unwanted (j := 8) rfl rfl rfl rfl ?_
                  refine at_unwanted (j := 8) rfl rfl rfl rfl ?_
                  refine at_unwanted (j := 8) rfl rfl rfl rfl ?_
                  refine at_v (ov_pick_f rfl rfl rfl) rfl rfl rfl ?_
                  refine at_nil ?_
                  refine at_normal ?_
                  refine hK29 _ _ _ ?_
                  refine at_cond_false rfl ?_
                  refine at_skip ?_
                  refine at_inb_normal ?_
                  refine at_normal ?_
                  refine hK27 _ _ _ ?_
                  refine at_region ?_
                  refine at_v ((ov_int rfl rfl rfl rfl).eq (congrArg (Value.int .i64) (inK_i64 (by omega) (by omega)))) rfl rfl rfl ?_
                  refine at_v (ov_move rfl rfl) rfl rfl rfl ?_
                  refine at_nil ?_
                  refine at_normal ?_
                  refine at_roundF (q + 1) hqt (by omega) ⟨rfl, trivial⟩ rfl ?_
                  exact fun _ s => s.finEq (ks := [1, 1, 1, 1, 1]) (js := [0]) rfl rfl rfl
              · refine at_exit ?_
                refine at_then_exit ?_
                refine at_then_exit ?_
                refine at_exit_eq ?_
                refine at_normal ?_
                refine hK23 _ _ _ ?_
                refine at_seq_k (fun K27 hK27 => ?_)
                refine at_region ?_
                refine at_v (ov_move rfl rfl) rfl rfl rfl ?_
                refine at_v (ov_len_slice rfl Try.underlying36 rfl) rfl rfl rfl ?_
                refine at_v (ov_move rfl rfl) rfl rfl rfl ?_
                refine at_nil ?_
                refine at_normal ?_
                refine hK27 _ _ _ ?_
                refine at_block ?_
                refine at_loopE [145, 146, 147, 20, 148, 149, 150, 151, 8, 152, 144] (fun q => q ≤ (doP p x).L.length) (fun q => [(144, .int .i64 (q : Nat))]) (fun i m => m) (fun q => (doP p x).L.length - q) 0 (Nat.zero_le _) ⟨rfl, trivial⟩ (fun _ s => s) ?_
                intro q hq
                refine at_seq_k (fun K28 hK28 => ?_)
                refine at_region ?_
                refine at_v (ov_int rfl rfl rfl rfl) rfl rfl rfl ?_
                refine at_nil ?_
                refine at_normal ?_
                refine hK28 _ _ _ ?_
                refine at_seq_k (fun K29 hK29 => ?_)
                refine at_cond rfl (fun hc => ?_) (fun hc => ?_)
                · have hqt : q < (doP p x).L.length := by simpa using hc
                  obtain ⟨se, hse⟩ : ∃ se, (doP p x).L[q]? = some se := ⟨_, List.getElem?_eq_getElem hqt⟩
                  have hps := hw2.pos se (List.mem_of_getElem? hse)
                  have hi10 : ¬ se = max y.2.1.o 0 := by
                    have := hps.2 y hym
                    have := hps.1
                    omega
                  refine at_skip ?_
                  refine at_normal ?_
                  refine hK29 _ _ _ ?_
                  refine at_seq_k (fun K30 hK30 => ?_)
                  refine at_block ?_
                  refine at_seq_k (fun K31 hK31 => ?_)
                  refine at_region ?_
                  refine at_v (ov_indexRd (fun _ s => s.rd (k := 1) rfl) rfl Try.underlying36 rfl rfl rfl hse) rfl rfl rfl ?_
                  refine at_v (ov_loadRd0 (fun _ s => s.rd (k := 1) rfl) rfl rfl rfl hse rfl) rfl rfl rfl ?_
                  refine at_v (ov_assign rfl rfl) rfl rfl rfl ?_
                  refine at_nil ?_
                  refine at_normal ?_
                  refine hK31 _ _ _ ?_
                  refine at_seq_k (fun K32 hK32 => ?_)
                  refine at_region ?_
                  refine at_v (ov_move rfl rfl) rfl rfl rfl ?_
                  refine at_v (ov_fieldAddr (k := 2) (r := 2) rfl rfl rfl rfl) rfl rfl rfl ?_
                  refine at_v (ov_load rfl rfl rfl (fun _ s => s.ld (k := 0) rfl rfl)) rfl rfl rfl ?_
                  refine at_v (ov_int rfl rfl rfl rfl) rfl rfl rfl ?_
                  refine at_nil ?_
                  refine at_normal ?_
                  refine hK32 _ _ _ ?_
                  refine at_cond_false (congrArg (fun b => some (Value.bool b)) (show _ = false from decide_eq_false (by omega))) ?_
                  refine at_skip ?_
                  refine at_inb_normal ?_
                  refine at_normal ?_
                  refine hK30 _ _ _ ?_
                  refine at_region ?_
                  refine at_v ((ov_int rfl rfl rfl rfl).eq (congrArg (Value.int .i64) (inK_i64 (by omega) (by omega)))) rfl rfl rfl ?_
                  refine at_v (ov_move rfl rfl) rfl rfl rfl ?_
                  refine at_nil ?_
                  refine at_normal ?_
                  refine at_roundF (q + 1) hqt (by omega) ⟨rfl, trivial⟩ rfl ?_
                  exact fun _ s => s.finEq (ks := [0, 0, 0, 0, 0]) (js := []) rfl rfl rfl
                · refine at_exit ?_
                  refine at_then_exit ?_
                  refine at_then_exit ?_
                  refine at_exit_eq ?_
                  refine at_inb_normal ?_
                  refine at_normal ?_
                  refine hK19 _ _ _ ?_
                  refine at_region ?_
                  refine at_v ((ov_int rfl rfl rfl rfl).eq (congrArg (Value.int .i64) (inK_i64 (by omega) (by omega)))) rfl rfl rfl ?_
                  refine at_v (ov_move rfl rfl) rfl rfl rfl ?_
                  refine at_nil ?_
                  refine at_normal ?_
                  refine at_roundF (0 + 1) hjt (by omega) ⟨rfl, trivial⟩ rfl ?_
                  exact fun _ s => s.finEq (ks := [1, 1, 1, 1]) (js := [0]) rfl rfl rfl
  
            · by_cases hi7 : y.2.1.f = 0
              · refine at_skip ?_
                refine at_normal ?_
                refine hK18 _ _ _ ?_
                refine at_seq_k (fun K19 hK19 => ?_)
                refine at_block ?_
                refine at_seq_k (fun K20 hK20 => ?_)
                refine at_region ?_
                refine at_v (ov_move rfl rfl) rfl rfl rfl ?_
                refine at_v (ov_indexRd (fun _ s => s.rd (k := 2) rfl) rfl Try.underlying34 rfl rfl rfl hy) rfl rfl rfl ?_
                refine at_v (ov_loadRdS (vs := [_, _, _, _, _, _]) (fun _ s => s.rd (k := 2) rfl) rfl rfl rfl hy rfl rfl) rfl rfl rfl ?_
                refine at_t (ot_allocA rfl Try.zeroValue39) rfl rfl rfl ?_
                rintro _ _ ⟨g1, rfl, rfl⟩
                refine at_v (ov_assign rfl rfl) rfl rfl rfl ?_
                refine at_t0 (ot_store (k := 0) rfl rfl rfl rfl rfl rfl rfl) rfl rfl ?_
                rintro _ _ ⟨rfl, rfl⟩
                simp only [setAt, splice, spliceL, Value.cells]
                refine at_nil ?_
                refine at_normal ?_
                refine hK20 _ _ _ ?_
                refine at_seq_k (fun K21 hK21 => ?_)
                refine at_seq_k (fun K22 hK22 => ?_)
                refine at_draw _ [] 1000 [(2, 0), (2, 1), (2, 2), (2, 3), (2, 4), (2, 5), (1, 6), (2, 7), (1, 8), (2, 9), (1, 10), (2, 11), (2, 12), (2, 13), (2, 14), (1, 15), (2, 16), (2, 17), (1, 18), (2, 19), (2, 20), (2, 21), (2, 22), (2, 23), (1, 24), (2, 25), (2, 26), (2, 27), (2, 28), (1, 29), (2, 30), (2, 31), (2, 32), (2, 33), (1, 34), (2, 35), (2, 36), (2, 37), (1, 38), (2, 39), (2, 40), (2, 41), (2, 42), (2, 43), (1, 44), (2, 45), (2, 46), (2, 47), (1, 48), (2, 49), (2, 50), (2, 51)] (by kernel_rfl) (by kernel_rfl) (fun _ s => (s.pulls (ks := [0, 3]) rfl).left) ?_
                refine aq_p (ov_move rfl rfl) rfl rfl rfl ?_
                refine aq_p (ov_int rfl rfl rfl rfl) rfl rfl rfl ?_
                refine aq_p (ov_move rfl rfl) rfl rfl rfl ?_
                refine aq_unwanted (j := 2) rfl rfl rfl rfl rfl ?_
                refine aq_unwanted (j := 2) rfl rfl rfl rfl rfl ?_
                refine aq_unwanted (j := 2) rfl rfl rfl rfl rfl ?_
                refine aq_unwanted (j := 2) rfl rfl rfl rfl rfl ?_
                refine aq_unwanted (j := 2) rfl rfl rfl rfl rfl ?_
                refine aq_unwanted (j := 2) rfl rfl rfl rfl rfl ?_
                refine aq_unwanted (j := 2) rfl rfl rfl rfl rfl ?_
                refine aq_unwanted (j := 2) rfl rfl rfl rfl rfl ?_
                refine aq_unwanted (j := 2) rfl rfl rfl rfl rfl ?_
                refine aq_p (ov_pick_f rfl rfl rfl) rfl rfl rfl ?_
                refine aq_p (ov_move rfl rfl) rfl rfl rfl ?_
                refine aq_wanted (j := 13) rfl ?_
                refine aq_p (ov_fieldAddr (k := 2) (r := 2) rfl rfl rfl rfl) rfl rfl rfl ?_
                refine aq_wanted (j := 13) rfl ?_
                refine aq_v (ov_load rfl rfl rfl (fun _ s => s.ld (k := 0) rfl rfl)) rfl rfl rfl ?_
                refine aq_wanted (j := 13) rfl ?_
                refine aq_p (ov_int rfl rfl rfl rfl) rfl rfl rfl ?_
                refine aq_wanted (j := 13) rfl ?_
                refine aq_p (ov_fieldAddr (k := 1) (r := 1) rfl rfl rfl rfl) rfl rfl rfl ?_
                refine aq_wanted (j := 13) rfl ?_
                refine aq_v (ov_load rfl rfl rfl (fun _ s => s.ld (k := 0) rfl rfl)) rfl rfl rfl ?_
                refine aq_wanted (j := 13) rfl ?_
                refine aq_p (ov_int rfl rfl rfl rfl) rfl rfl rfl ?_
                refine aq_wanted (j := 13) rfl ?_
                refine aq_p (ov_boolne rfl Try.underlying4 rfl rfl) rfl rfl rfl ?_
                refine aq_p (ov_pick_f rfl rfl rfl) rfl rfl rfl ?_
                refine aq_p (ov_move rfl rfl) rfl rfl rfl ?_
                refine at_reval 89 (.bool false) rfl (congrArg Value.bool (by simp [hi1, hc, hi2, hi3, hc, hi5, hi6, hi7]; done)) ?_
                refine aq_wanted (j := 22) rfl ?_
                refine aq_p (ov_fieldAddr (k := 1) (r := 1) rfl rfl rfl rfl) rfl rfl rfl ?_
                refine aq_wanted (j := 22) rfl ?_
                refine aq_v (ov_load rfl rfl rfl (fun _ s => s.ld (k := 0) rfl rfl)) rfl rfl rfl ?_
                refine aq_wanted (j := 22) rfl ?_
                refine aq_p (ov_int rfl rfl rfl rfl) rfl rfl rfl ?_
                refine aq_p (ov_pick_f rfl rfl rfl) rfl rfl rfl ?_
                refine aq_p (ov_move rfl rfl) rfl rfl rfl ?_
                refine at_reval 94 (.bool false) rfl (congrArg Value.bool (decide_eq_false (by omega))) ?_
                refine aq_wanted (j := 27) rfl ?_
                refine aq_p (ov_fieldAddr (k := 1) (r := 1) rfl rfl rfl rfl) rfl rfl rfl ?_
                refine aq_wanted (j := 27) rfl ?_
                refine aq_v (ov_load rfl rfl rfl (fun _ s => s.ld (k := 0) rfl rfl)) rfl rfl rfl ?_
                refine aq_wanted (j := 27) rfl ?_
                refine aq_p (ov_int rfl rfl rfl rfl) rfl rfl rfl ?_
                refine aq_p (ov_pick_f rfl rfl rfl) rfl rfl rfl ?_
                refine aq_p (ov_move rfl rfl) rfl rfl rfl ?_
                refine at_reval 99 (.bool false) rfl (congrArg Value.bool (decide_eq_false (by omega))) ?_
                refine aq_wanted (j := 32) rfl ?_
                refine aq_p (ov_fieldAddr (k := 4) (r := 4) rfl rfl rfl rfl) rfl rfl rfl ?_
                refine aq_wanted (j := 32) rfl ?_
                refine aq_v (ov_load rfl rfl rfl (fun _ s => s.ld (k := 0) rfl rfl)) rfl rfl rfl ?_
                refine aq_wanted (j := 32) rfl ?_
                refine aq_p (ov_int rfl rfl rfl rfl) rfl rfl rfl ?_
                refine aq_wanted (j := 32) rfl ?_
                refine aq_p (ov_move rfl rfl) rfl rfl rfl ?_
                refine at_reval 103 (.bool false) rfl (congrArg Value.bool (by first | assumption | (rw [Bool.not_eq_false']; exact decide_eq_true (by omega)))) ?_
                refine aq_unwanted (j := 36) rfl rfl rfl rfl rfl ?_
                refine aq_unwanted (j := 36) rfl rfl rfl rfl rfl ?_
                refine aq_unwanted (j := 36) rfl rfl rfl rfl rfl ?_
                refine aq_wanted (j := 32) rfl ?_
                refine aq_p (ov_pick_f rfl rfl rfl) rfl rfl rfl ?_
                refine aq_p (ov_pick_f rfl rfl rfl) rfl rfl rfl ?_
                refine aq_p (ov_move rfl rfl) rfl rfl rfl ?_
                refine aq_wanted (j := 42) rfl ?_
                refine aq_p (ov_fieldAddr (k := 1) (r := 1) rfl rfl rfl rfl) rfl rfl rfl ?_
                refine aq_wanted (j := 42) rfl ?_
                refine aq_v (ov_load rfl rfl rfl (fun _ s => s.ld (k := 0) rfl rfl)) rfl rfl rfl ?_
                refine aq_wanted (j := 42) rfl ?_
                refine aq_p (ov_int rfl rfl rfl rfl) rfl rfl rfl ?_
                refine aq_wanted (j := 42) rfl ?_
                refine aq_p (ov_move rfl rfl) rfl rfl rfl ?_
                refine at_reval 113 (.bool false) rfl (congrArg Value.bool (decide_eq_false (by omega))) ?_
                refine aq_unwanted (j := 46) rfl rfl rfl rfl rfl ?_
                refine aq_unwanted (j := 46) rfl rfl rfl rfl rfl ?_
                refine aq_unwanted (j := 46) rfl rfl rfl rfl rfl ?_
                refine aq_wanted (j := 42) rfl ?_
                refine aq_p (ov_pick_f rfl rfl rfl) rfl rfl rfl ?_
                refine aq_p (ov_pick_f rfl rfl rfl) rfl rfl rfl ?_
                refine aq_nil ?_
                refine at_normal ?_
                refine hK22 _ _ _ ?_
                refine at_cond_false rfl ?_
                refine at_skip ?_
                refine at_normal ?_
                refine hK21 _ _ _ ?_
                refine at_seq_k (fun K23 hK23 => ?_)
                refine at_seq_k (fun K24 hK24 => ?_)
                refine at_region ?_
                refine at_v (ov_move rfl rfl) rfl rfl rfl ?_
                refine at_v (ov_len_slice rfl Try.underlying34 rfl) rfl rfl rfl ?_
                refine at_v (ov_move rfl rfl) rfl rfl rfl ?_
                refine at_nil ?_
                refine at_normal ?_
                refine hK24 _ _ _ ?_
                refine at_block ?_
                refine at_loopE [122, 123, 124, 125, 18, 17, 126, 127, 128, 129, 130, 131, 132, 133, 134, 135, 136, 137, 138, 139, 140, 8, 141, 121] (fun q => q ≤ (doP p x).cs.length) (fun q => [(121, .int .i64 (q : Nat))]) (fun i m => m) (fun q => (doP p x).cs.length - q) 0 (Nat.zero_le _) ⟨rfl, trivial⟩ (fun _ s => s) ?_
                intro q hq
                refine at_seq_k (fun K25 hK25 => ?_)
                refine at_region ?_
                refine at_v (ov_int rfl rfl rfl rfl) rfl rfl rfl ?_
                refine at_nil ?_
                refine at_normal ?_
                refine hK25 _ _ _ ?_
                refine at_seq_k (fun K26 hK26 => ?_)
                refine at_cond rfl (fun hc => ?_) (fun hc => ?_)
                · have hqt : q < (doP p x).cs.length := by simpa using hc
                  obtain ⟨z, hz⟩ : ∃ z, (doP p x).cs[q]? = some z := ⟨_, List.getElem?_eq_getElem hqt⟩
                  by_cases hjq : 0 = q
                  · subst hjq
                    refine at_skip ?_
                    refine at_normal ?_
                    refine hK26 _ _ _ ?_
                    refine at_seq_k (fun K27 hK27 => ?_)
                    refine at_block ?_
                    refine at_seq_k (fun K28 hK28 => ?_)
                    refine at_region ?_
                    refine at_v (ov_move rfl rfl) rfl rfl rfl ?_
                    refine at_v (ov_indexRd (fun _ s => s.rd (k := 3) rfl) rfl Try.underlying34 rfl rfl rfl hy) rfl rfl rfl ?_
                    refine at_v (ov_loadRdS (vs := [_, _, _, _, _, _]) (fun _ s => s.rd (k := 3) rfl) rfl rfl rfl hy rfl rfl) rfl rfl rfl ?_
                    refine at_t (ot_allocA rfl Try.zeroValue39) rfl rfl rfl ?_
                    rintro _ _ ⟨g2, rfl, rfl⟩
                    refine at_v (ov_assign rfl rfl) rfl rfl rfl ?_
                    refine at_t0 (ot_store (k := 0) rfl rfl rfl rfl rfl rfl rfl) rfl rfl ?_
                    rintro _ _ ⟨rfl, rfl⟩
                    simp only [setAt, splice, spliceL, Value.cells]
                    refine at_nil ?_
                    refine at_normal ?_
                    refine hK28 _ _ _ ?_
                    refine at_seq_k (fun K29 hK29 => ?_)
                    refine at_region ?_
                    refine at_v (ov_move rfl rfl) rfl rfl rfl ?_
                    refine at_v (ov_move rfl rfl) rfl rfl rfl ?_
                    refine at_v (ov_int rfl rfl rfl rfl) rfl rfl rfl ?_
                    refine at_v (ov_move rfl rfl) rfl rfl rfl ?_
                    refine at_unwanted (j := 3) rfl rfl rfl rfl ?_
                    refine at_unwanted (j := 3) rfl rfl rfl rfl ?_
                    refine at_unwanted (j := 3) rfl rfl rfl rfl ?_
                    refine at_v (ov_pick_f rfl rfl rfl) rfl rfl rfl ?_
                    refine at_v (ov_move rfl rfl) rfl rfl rfl ?_
                    refine at_unwanted (j := 8) rfl rfl rfl rfl ?_
                    refine at_unwanted (j := 8) rfl rfl rfl rfl ?_
                    refine at_unwanted (j := 8) rfl rfl rfl rfl ?_
                    refine at_unwanted (j := 8) rfl rfl rfl rfl ?_
                    refine at_unwanted (j := 8) rfl rfl rfl rfl ?_
                    refine at_v (ov_pick_f rfl rfl rfl) rfl rfl rfl ?_
                    refine at_nil ?_
                    refine at_normal ?_
                    refine hK29 _ _ _ ?_
                    refine at_cond_false rfl ?_
                    refine at_skip ?_
                    refine at_inb_normal ?_
                    refine at_normal ?_
                    refine hK27 _ _ _ ?_
                    refine at_region ?_
                    refine at_v ((ov_int rfl rfl rfl rfl).eq (congrArg (Value.int .i64) (inK_i64 (by omega) (by omega)))) rfl rfl rfl ?_
                    refine at_v (ov_move rfl rfl) rfl rfl rfl ?_
                    refine at_nil ?_
                    refine at_normal ?_
                    refine at_roundF (0 + 1) hqt (by omega) ⟨rfl, trivial⟩ rfl ?_
                    exact fun _ s => s.finEq (ks := [1, 1, 1, 1, 1]) (js := [0]) rfl rfl rfl
                  · have hi9 : (!decide (((0 : Nat) : Int) = (q : Int))) = true := by simp; omega
                    have hi11 := own_ne hw2 hy hz hjq hi5
                    refine at_skip ?_
                    refine at_normal ?_
                    refine hK26 _ _ _ ?_
                    refine at_seq_k (fun K27 hK27 => ?_)
                    refine at_block ?_
                    refine at_seq_k (fun K28 hK28 => ?_)
                    refine at_region ?_
                    refine at_v (ov_move rfl rfl) rfl rfl rfl ?_
                    refine at_v (ov_indexRd (fun _ s => s.rd (k := 3) rfl) rfl Try.underlying34 rfl rfl rfl hz) rfl rfl rfl ?_
                    refine at_v (ov_loadRdS (vs := [_, _, _, _, _, _]) (fun _ s => s.rd (k := 3) rfl) rfl rfl rfl hz rfl rfl) rfl rfl rfl ?_
                    refine at_t (ot_allocA rfl Try.zeroValue39) rfl rfl rfl ?_
                    rintro _ _ ⟨g2, rfl, rfl⟩
                    refine at_v (ov_assign rfl rfl) rfl rfl rfl ?_
                    refine at_t0 (ot_store (k := 0) rfl rfl rfl rfl rfl rfl rfl) rfl rfl ?_
                    rintro _ _ ⟨rfl, rfl⟩
                    simp only [setAt, splice, spliceL, Value.cells]
                    refine at_nil ?_
                    refine at_normal ?_
                    refine hK28 _ _ _ ?_
                    refine at_seq_k (fun K29 hK29 => ?_)
                    refine at_region ?_
                    refine at_v (ov_move rfl rfl) rfl rfl rfl ?_
                    refine at_v (ov_move rfl rfl) rfl rfl rfl ?_
                    refine at_v (ov_int rfl rfl rfl rfl) rfl rfl rfl ?_
                    refine at_v (ov_move rfl rfl) rfl rfl rfl ?_
                    refine at_reval 129 (.bool true) rfl (congrArg Value.bool (by first | assumption | (rw [Bool.not_eq_true']; exact decide_eq_false (by omega)))) ?_
                    refine at_wanted (j := 3) rfl ?_
                    refine at_v (ov_fieldAddr (k := 2) (r := 2) rfl rfl rfl rfl) rfl rfl rfl ?_
                    refine at_wanted (j := 3) rfl ?_
                    refine at_v (ov_load rfl rfl rfl (fun _ s => s.ld (k := 1) rfl rfl)) rfl rfl rfl ?_
                    refine at_wanted (j := 3) rfl ?_
                    refine at_v (ov_int rfl rfl rfl rfl) rfl rfl rfl ?_
                    refine at_v (ov_pick_t rfl rfl rfl) rfl rfl rfl ?_
                    refine at_v (ov_move rfl rfl) rfl rfl rfl ?_
                    refine at_reval 134 (.bool true) rfl (congrArg Value.bool (by first | assumption | (rw [Bool.not_eq_true']; exact decide_eq_false (by omega)))) ?_
                    refine at_wanted (j := 8) rfl ?_
                    refine at_v (ov_fieldAddr (k := 2) (r := 2) rfl rfl rfl rfl) rfl rfl rfl ?_
                    refine at_wanted (j := 8) rfl ?_
                    refine at_v (ov_load rfl rfl rfl (fun _ s => s.ld (k := 1) rfl rfl)) rfl rfl rfl ?_
                    refine at_wanted (j := 8) rfl ?_
                    refine at_v (ov_fieldAddr (k := 2) (r := 2) rfl rfl rfl rfl) rfl rfl rfl ?_
                    refine at_wanted (j := 8) rfl ?_
                    refine at_v (ov_load rfl rfl rfl (fun _ s => s.ld (k := 0) rfl rfl)) rfl rfl rfl ?_
                    refine at_wanted (j := 8) rfl ?_
                    refine at_v (ov_int rfl rfl rfl rfl) rfl rfl rfl ?_
                    refine at_v (ov_pick_t rfl rfl rfl) rfl rfl rfl ?_
                    refine at_nil ?_
                    refine at_normal ?_
                    refine hK29 _ _ _ ?_
                    refine at_cond_false (congrArg (fun b => some (Value.bool b)) (show _ = false from decide_eq_false (by omega))) ?_
                    refine at_skip ?_
                    refine at_inb_normal ?_
                    refine at_normal ?_
                    refine hK27 _ _ _ ?_
                    refine at_region ?_
                    refine at_v ((ov_int rfl rfl rfl rfl).eq (congrArg (Value.int .i64) (inK_i64 (by omega) (by omega)))) rfl rfl rfl ?_
                    refine at_v (ov_move rfl rfl) rfl rfl rfl ?_
                    refine at_nil ?_
                    refine at_normal ?_
                    refine at_roundF (q + 1) hqt (by omega) ⟨rfl, trivial⟩ rfl ?_
                    exact fun _ s => s.finEq (ks := [1, 1, 1, 1, 1]) (js := [0]) rfl rfl rfl
                · refine at_exit ?_
                  refine at_then_exit ?_
                  refine at_then_exit ?_
                  refine at_exit_eq ?_
                  refine at_normal ?_
                  refine hK23 _ _ _ ?_
                  refine at_seq_k (fun K27 hK27 => ?_)
                  refine at_region ?_
                  refine at_v (ov_move rfl rfl) rfl rfl rfl ?_
                  refine at_v (ov_len_slice rfl Try.underlying36 rfl) rfl rfl rfl ?_
                  refine at_v (ov_move rfl rfl) rfl rfl rfl ?_
                  refine at_nil ?_
                  refine at_normal ?_
                  refine hK27 _ _ _ ?_
                  refine at_block ?_
                  refine at_loopE [145, 146, 147, 20, 148, 149, 150, 151, 8, 152, 144] (fun q => q ≤ (doP p x).L.length) (fun q => [(144, .int .i64 (q : Nat))]) (fun i m => m) (fun q => (doP p x).L.length - q) 0 (Nat.zero_le _) ⟨rfl, trivial⟩ (fun _ s => s) ?_
                  intro q hq
                  refine at_seq_k (fun K28 hK28 => ?_)
                  refine at_region ?_
                  refine at_v (ov_int rfl rfl rfl rfl) rfl rfl rfl ?_
                  refine at_nil ?_
                  refine at_normal ?_
                  refine hK28 _ _ _ ?_
                  refine at_seq_k (fun K29 hK29 => ?_)
                  refine at_cond rfl (fun hc => ?_) (fun hc => ?_)
                  · have hqt : q < (doP p x).L.length := by simpa using hc
                    obtain ⟨se, hse⟩ : ∃ se, (doP p x).L[q]? = some se := ⟨_, List.getElem?_eq_getElem hqt⟩
                    have hps := hw2.pos se (List.mem_of_getElem? hse)
                    have hi10 : ¬ se = max y.2.1.o 0 := by
                      have := hps.2 y hym
                      have := hps.1
                      omega
                    refine at_skip ?_
                    refine at_normal ?_
                    refine hK29 _ _ _ ?_
                    refine at_seq_k (fun K30 hK30 => ?_)
                    refine at_block ?_
                    refine at_seq_k (fun K31 hK31 => ?_)
                    refine at_region ?_
                    refine at_v (ov_indexRd (fun _ s => s.rd (k := 1) rfl) rfl Try.underlying36 rfl rfl rfl hse) rfl rfl rfl ?_
                    refine at_v (ov_loadRd0 (fun _ s => s.rd (k := 1) rfl) rfl rfl rfl hse rfl) rfl rfl rfl ?_
                    refine at_v (ov_assign rfl rfl) rfl rfl rfl ?_
                    refine at_nil ?_
                    refine at_normal ?_
                    refine hK31 _ _ _ ?_
                    refine at_seq_k (fun K32 hK32 => ?_)
                    refine at_region ?_
                    refine at_v (ov_move rfl rfl) rfl rfl rfl ?_
                    refine at_v (ov_fieldAddr (k := 2) (r := 2) rfl rfl rfl rfl) rfl rfl rfl ?_
                    refine at_v (ov_load rfl rfl rfl (fun _ s => s.ld (k := 0) rfl rfl)) rfl rfl rfl ?_
                    refine at_v (ov_int rfl rfl rfl rfl) rfl rfl rfl ?_
                    refine at_nil ?_
                    refine at_normal ?_
                    refine hK32 _ _ _ ?_
                    refine at_cond_false (congrArg (fun b => some (Value.bool b)) (show _ = false from decide_eq_false (by omega))) ?_
                    refine at_skip ?_
                    refine at_inb_normal ?_
                    refine at_normal ?_
                    refine hK30 _ _ _ ?_
                    refine at_region ?_
                    refine at_v ((ov_int rfl rfl rfl rfl).eq (congrArg (Value.int .i64) (inK_i64 (by omega) (by omega)))) rfl rfl rfl ?_
                    refine at_v (ov_move rfl rfl) rfl rfl rfl ?_
                    refine at_nil ?_
                    refine at_normal ?_
                    refine at_roundF (q + 1) hqt (by omega) ⟨rfl, trivial⟩ rfl ?_
                    exact fun _ s => s.finEq (ks := [0, 0, 0, 0, 0]) (js := []) rfl rfl rfl
                  · refine at_exit ?_
                    refine at_then_exit ?_
                    refine at_then_exit ?_
                    refine at_exit_eq ?_
                    refine at_inb_normal ?_
                    refine at_normal ?_
                    refine hK19 _ _ _ ?_
                    refine at_region ?_
                    refine at_v ((ov_int rfl rfl rfl rfl).eq (congrArg (Value.int .i64) (inK_i64 (by omega) (by omega)))) rfl rfl rfl ?_
                    refine at_v (ov_move rfl rfl) rfl rfl rfl ?_
                    refine at_nil ?_
                    refine at_normal ?_
                    refine at_roundF (0 + 1) hjt (by omega) ⟨rfl, trivial⟩ rfl ?_
                    exact fun _ s => s.finEq (ks := [1, 1, 1, 1]) (js := [0]) rfl rfl rfl
    
              · refine at_skip ?_
                refine at_normal ?_
                refine hK18 _ _ _ ?_
                refine at_seq_k (fun K19 hK19 => ?_)
                refine at_block ?_
                refine at_seq_k (fun K20 hK20 => ?_)
                refine at_region ?_
                refine at_v (ov_move rfl rfl) rfl rfl rfl ?_
                refine at_v (ov_indexRd (fun _ s => s.rd (k := 2) rfl) rfl Try.underlying34 rfl rfl rfl hy) rfl rfl rfl ?_
                refine at_v (ov_loadRdS (vs := [_, _, _, _, _, _]) (fun _ s => s.rd (k := 2) rfl) rfl rfl rfl hy rfl rfl) rfl rfl rfl ?_
                refine at_t (ot_allocA rfl Try.zeroValue39) rfl rfl rfl ?_
                rintro _ _ ⟨g1, rfl, rfl⟩
                refine at_v (ov_assign rfl rfl) rfl rfl rfl ?_
                refine at_t0 (ot_store (k := 0) rfl rfl rfl rfl rfl rfl rfl) rfl rfl ?_
                rintro _ _ ⟨rfl, rfl⟩
                simp only [setAt, splice, spliceL, Value.cells]
                refine at_nil ?_
                refine at_normal ?_
                refine hK20 _ _ _ ?_
                refine at_seq_k (fun K21 hK21 => ?_)
                refine at_seq_k (fun K22 hK22 => ?_)
                refine at_draw _ [] 1000 [(2, 0), (2, 1), (2, 2), (2, 3), (2, 4), (2, 5), (1, 6), (2, 7), (1, 8), (2, 9), (1, 10), (2, 11), (2, 12), (2, 13), (2, 14), (1, 15), (2, 16), (2, 17), (1, 18), (2, 19), (2, 20), (2, 21), (2, 22), (2, 23), (1, 24), (2, 25), (2, 26), (2, 27), (2, 28), (1, 29), (2, 30), (2, 31), (2, 32), (2, 33), (1, 34), (2, 35), (2, 36), (2, 37), (1, 38), (2, 39), (2, 40), (2, 41), (2, 42), (2, 43), (1, 44), (2, 45), (2, 46), (2, 47), (1, 48), (2, 49), (2, 50), (2, 51)] (by kernel_rfl) (by kernel_rfl) (fun _ s => (s.pulls (ks := [0, 3]) rfl).left) ?_
                refine aq_p (ov_move rfl rfl) rfl rfl rfl ?_
                refine aq_p (ov_int rfl rfl rfl rfl) rfl rfl rfl ?_
                refine aq_p (ov_move rfl rfl) rfl rfl rfl ?_
                refine aq_unwanted (j := 2) rfl rfl rfl rfl rfl ?_
                refine aq_unwanted (j := 2) rfl rfl rfl rfl rfl ?_
                refine aq_unwanted (j := 2) rfl rfl rfl rfl rfl ?_
                refine aq_unwanted (j := 2) rfl rfl rfl rfl rfl ?_
                refine aq_unwanted (j := 2) rfl rfl rfl rfl rfl ?_
                refine aq_unwanted (j := 2) rfl rfl rfl rfl rfl ?_
                refine aq_unwanted (j := 2) rfl rfl rfl rfl rfl ?_
                refine aq_unwanted (j := 2) rfl rfl rfl rfl rfl ?_
                refine aq_unwanted (j := 2) rfl rfl rfl rfl rfl ?_
                refine aq_p (ov_pick_f rfl rfl rfl) rfl rfl rfl ?_
                refine aq_p (ov_move rfl rfl) rfl rfl rfl ?_
                refine aq_wanted (j := 13) rfl ?_
                refine aq_p (ov_fieldAddr (k := 2) (r := 2) rfl rfl rfl rfl) rfl rfl rfl ?_
                refine aq_wanted (j := 13) rfl ?_
                refine aq_v (ov_load rfl rfl rfl (fun _ s => s.ld (k := 0) rfl rfl)) rfl rfl rfl ?_
                refine aq_wanted (j := 13) rfl ?_
                refine aq_p (ov_int rfl rfl rfl rfl) rfl rfl rfl ?_
                refine aq_wanted (j := 13) rfl ?_
                refine aq_p (ov_fieldAddr (k := 1) (r := 1) rfl rfl rfl rfl) rfl rfl rfl ?_
                refine aq_wanted (j := 13) rfl ?_
                refine aq_v (ov_load rfl rfl rfl (fun _ s => s.ld (k := 0) rfl rfl)) rfl rfl rfl ?_
                refine aq_wanted (j := 13) rfl ?_
                refine aq_p (ov_int rfl rfl rfl rfl) rfl rfl rfl ?_
                refine aq_wanted (j := 13) rfl ?_
                refine aq_p (ov_boolne rfl Try.underlying4 rfl rfl) rfl rfl rfl ?_
                refine aq_p (ov_pick_f rfl rfl rfl) rfl rfl rfl ?_
                refine aq_p (ov_move rfl rfl) rfl rfl rfl ?_
                refine at_reval 89 (.bool false) rfl (congrArg Value.bool (by simp [hi1, hc, hi2, hi3, hc, hi5, hi6, hi7]; done)) ?_
                refine aq_wanted (j := 22) rfl ?_
                refine aq_p (ov_fieldAddr (k := 1) (r := 1) rfl rfl rfl rfl) rfl rfl rfl ?_
                refine aq_wanted (j := 22) rfl ?_
                refine aq_v (ov_load rfl rfl rfl (fun _ s => s.ld (k := 0) rfl rfl)) rfl rfl rfl ?_
                refine aq_wanted (j := 22) rfl ?_
                refine aq_p (ov_int rfl rfl rfl rfl) rfl rfl rfl ?_
                refine aq_p (ov_pick_f rfl rfl rfl) rfl rfl rfl ?_
                refine aq_p (ov_move rfl rfl) rfl rfl rfl ?_
                refine at_reval 94 (.bool false) rfl (congrArg Value.bool (decide_eq_false (by omega))) ?_
                refine aq_wanted (j := 27) rfl ?_
                refine aq_p (ov_fieldAddr (k := 1) (r := 1) rfl rfl rfl rfl) rfl rfl rfl ?_
                refine aq_wanted (j := 27) rfl ?_
                refine aq_v (ov_load rfl rfl rfl (fun _ s => s.ld (k := 0) rfl rfl)) rfl rfl rfl ?_
                refine aq_wanted (j := 27) rfl ?_
                refine aq_p (ov_int rfl rfl rfl rfl) rfl rfl rfl ?_
                refine aq_p (ov_pick_f rfl rfl rfl) rfl rfl rfl ?_
                refine aq_p (ov_move rfl rfl) rfl rfl rfl ?_
                refine at_reval 99 (.bool false) rfl (congrArg Value.bool (decide_eq_false (by omega))) ?_
                refine aq_wanted (j := 32) rfl ?_
                refine aq_p (ov_fieldAddr (k := 4) (r := 4) rfl rfl rfl rfl) rfl rfl rfl ?_
                refine aq_wanted (j := 32) rfl ?_
                refine aq_v (ov_load rfl rfl rfl (fun _ s => s.ld (k := 0) rfl rfl)) rfl rfl rfl ?_
                refine aq_wanted (j := 32) rfl ?_
                refine aq_p (ov_int rfl rfl rfl rfl) rfl rfl rfl ?_
                refine aq_wanted (j := 32) rfl ?_
                refine aq_p (ov_move rfl rfl) rfl rfl rfl ?_
                refine at_reval 103 (.bool true) rfl (congrArg Value.bool (by first | assumption | (rw [Bool.not_eq_true']; exact decide_eq_false (by omega)))) ?_
                refine aq_wanted (j := 36) rfl ?_
                refine aq_p (ov_fieldAddr (k := 2) (r := 2) rfl rfl rfl rfl) rfl rfl rfl ?_
                refine aq_wanted (j := 36) rfl ?_
                refine aq_v (ov_load rfl rfl rfl (fun _ s => s.ld (k := 0) rfl rfl)) rfl rfl rfl ?_
                refine aq_wanted (j := 36) rfl ?_
                refine aq_p (ov_int rfl rfl rfl rfl) rfl rfl rfl ?_
                refine aq_wanted (j := 32) rfl ?_
                refine aq_p (ov_pick_t rfl rfl rfl) rfl rfl rfl ?_
                refine aq_p (ov_pick_f rfl rfl rfl) rfl rfl rfl ?_
                refine aq_p (ov_move rfl rfl) rfl rfl rfl ?_
                refine at_reval 109 (.bool false) rfl (congrArg Value.bool (decide_eq_false (by omega))) ?_
                refine aq_wanted (j := 42) rfl ?_
                refine aq_p (ov_fieldAddr (k := 1) (r := 1) rfl rfl rfl rfl) rfl rfl rfl ?_
                refine aq_wanted (j := 42) rfl ?_
                refine aq_v (ov_load rfl rfl rfl (fun _ s => s.ld (k := 0) rfl rfl)) rfl rfl rfl ?_
                refine aq_wanted (j := 42) rfl ?_
                refine aq_p (ov_int rfl rfl rfl rfl) rfl rfl rfl ?_
                refine aq_wanted (j := 42) rfl ?_
                refine aq_p (ov_move rfl rfl) rfl rfl rfl ?_
                refine at_reval 113 (.bool false) rfl (congrArg Value.bool (decide_eq_false (by omega))) ?_
                refine aq_unwanted (j := 46) rfl rfl rfl rfl rfl ?_
                refine aq_unwanted (j := 46) rfl rfl rfl rfl rfl ?_
                refine aq_unwanted (j := 46) rfl rfl rfl rfl rfl ?_
                refine aq_wanted (j := 42) rfl ?_
                refine aq_p (ov_pick_f rfl rfl rfl) rfl rfl rfl ?_
                refine aq_p (ov_pick_f rfl rfl rfl) rfl rfl rfl ?_
                refine aq_nil ?_
                refine at_normal ?_
                refine hK22 _ _ _ ?_
                refine at_cond_false rfl ?_
                refine at_skip ?_
                refine at_normal ?_
                refine hK21 _ _ _ ?_
                refine at_seq_k (fun K23 hK23 => ?_)
                refine at_seq_k (fun K24 hK24 => ?_)
                refine at_region ?_
                refine at_v (ov_move rfl rfl) rfl rfl rfl ?_
                refine at_v (ov_len_slice rfl Try.underlying34 rfl) rfl rfl rfl ?_
                refine at_v (ov_move rfl rfl) rfl rfl rfl ?_
                refine at_nil ?_
                refine at_normal ?_
                refine hK24 _ _ _ ?_
                refine at_block ?_
                refine at_loopE [122, 123, 124, 125, 18, 17, 126, 127, 128, 129, 130, 131, 132, 133, 134, 135, 136, 137, 138, 139, 140, 8, 141, 121] (fun q => q ≤ (doP p x).cs.length) (fun q => [(121, .int .i64 (q : Nat))]) (fun i m => m) (fun q => (doP p x).cs.length - q) 0 (Nat.zero_le _) ⟨rfl, trivial⟩ (fun _ s => s) ?_
                intro q hq
                refine at_seq_k (fun K25 hK25 => ?_)
                refine at_region ?_
                refine at_v (ov_int rfl rfl rfl rfl) rfl rfl rfl ?_
                refine at_nil ?_
                refine at_normal ?_
                refine hK25 _ _ _ ?_
                refine at_seq_k (fun K26 hK26 => ?_)
                refine at_cond rfl (fun hc => ?_) (fun hc => ?_)
                · have hqt : q < (doP p x).cs.length := by simpa using hc
                  obtain ⟨z, hz⟩ : ∃ z, (doP p x).cs[q]? = some z := ⟨_, List.getElem?_eq_getElem hqt⟩
                  by_cases hjq : 0 = q
                  · subst hjq
                    refine at_skip ?_
                    refine at_normal ?_
                    refine hK26 _ _ _ ?_
                    refine at_seq_k (fun K27 hK27 => ?_)
                    refine at_block ?_
                    refine at_seq_k (fun K28 hK28 => ?_)
                    refine at_region ?_
                    refine at_v (ov_move rfl rfl) rfl rfl rfl ?_
                    refine at_v (ov_indexRd (fun _ s => s.rd (k := 3) rfl) rfl Try.underlying34 rfl rfl rfl hy) rfl rfl rfl ?_
                    refine at_v (ov_loadRdS (vs := [_, _, _, _, _, _]) (fun _ s => s.rd (k := 3) rfl) rfl rfl rfl hy rfl rfl) rfl rfl rfl ?_
                    refine at_t (ot_allocA rfl Try.zeroValue39) rfl rfl rfl ?_
                    rintro _ _ ⟨g2, rfl, rfl⟩
                    refine at_v (ov_assign rfl rfl) rfl rfl rfl ?_
                    refine at_t0 (ot_store (k := 0) rfl rfl rfl rfl rfl rfl rfl) rfl rfl ?_
                    rintro _ _ ⟨rfl, rfl⟩
                    simp only [setAt, splice, spliceL, Value.cells]
                    refine at_nil ?_
                    refine at_normal ?_
                    refine hK28 _ _ _ ?_
                    refine at_seq_k (fun K29 hK29 => ?_)
                    refine at_region ?_
                    refine at_v (ov_move rfl rfl) rfl rfl rfl ?_
                    refine at_v (ov_move rfl rfl) rfl rfl rfl ?_
                    refine at_v (ov_int rfl rfl rfl rfl) rfl rfl rfl ?_
                    refine at_v (ov_move rfl rfl) rfl rfl rfl ?_
                    refine at_unwanted (j := 3) rfl rfl rfl rfl ?_
                    refine at_unwanted (j := 3) rfl rfl rfl rfl ?_
                    refine at_unwanted (j := 3) rfl rfl rfl rfl ?_
                    refine at_v (ov_pick_f rfl rfl rfl) rfl rfl rfl ?_
                    refine at_v (ov_move rfl rfl) rfl rfl rfl ?_
                    refine at_unwanted (j := 8) rfl rfl rfl rfl ?_
                    refine at_unwanted (j := 8) rfl rfl rfl rfl ?_
                    refine at_unwanted (j := 8) rfl rfl rfl rfl ?_
                    refine at_unwanted (j := 8) rfl rfl rfl rfl ?_
                    refine at_unwanted (j := 8) rfl rfl rfl rfl ?_
                    refine at_v (ov_pick_f rfl rfl rfl) rfl rfl rfl ?_
                    refine at_nil ?_
                    refine at_normal ?_
                    refine hK29 _ _ _ ?_
                    refine at_cond_false rfl ?_
                    refine at_skip ?_
                    refine at_inb_normal ?_
                    refine at_normal ?_
                    refine hK27 _ _ _ ?_
                    refine at_region ?_
                    refine at_v ((ov_int rfl rfl rfl rfl).eq (congrArg (Value.int .i64) (inK_i64 (by omega) (by omega)))) rfl rfl rfl ?_
                    refine at_v (ov_move rfl rfl) rfl rfl rfl ?_
                    refine at_nil ?_
                    refine at_normal ?_
                    refine at_roundF (0 + 1) hqt (by omega) ⟨rfl, trivial⟩ rfl ?_
                    exact fun _ s => s.finEq (ks := [1, 1, 1, 1, 1]) (js := [0]) rfl rfl rfl
                  · have hi9 : (!decide (((0 : Nat) : Int) = (q : Int))) = true := by simp; omega
                    have hi11 := own_ne hw2 hy hz hjq hi5
                    refine at_skip ?_
                    refine at_normal ?_
                    refine hK26 _ _ _ ?_
                    refine at_seq_k (fun K27 hK27 => ?_)
                    refine at_block ?_
                    refine at_seq_k (fun K28 hK28 => ?_)
                    refine at_region ?_
                    refine at_v (ov_move rfl rfl) rfl rfl rfl ?_
                    refine at_v (ov_indexRd (fun _ s => s.rd (k := 3) rfl) rfl Try.underlying34 rfl rfl rfl hz) rfl rfl rfl ?_
                    refine at_v (ov_loadRdS (vs := [_, _, _, _, _, _]) (fun _ s => s.rd (k := 3) rfl) rfl rfl rfl hz rfl rfl) rfl rfl rfl ?_
                    refine at_t (ot_allocA rfl Try.zeroValue39) rfl rfl rfl ?_
                    rintro _ _ ⟨g2, rfl, rfl⟩
                    refine at_v (ov_assign rfl rfl) rfl rfl rfl ?_
                    refine at_t0 (ot_store (k := 0) rfl rfl rfl rfl rfl rfl rfl) rfl rfl ?_
                    rintro _ _ ⟨rfl, rfl⟩
                    simp only [setAt, splice, spliceL, Value.cells]
                    refine at_nil ?_
                    refine at_normal ?_
                    refine hK28 _ _ _ ?_
                    refine at_seq_k (fun K29 hK29 => ?_)
                    refine at_region ?_
                    refine at_v (ov_move rfl rfl) rfl rfl rfl ?_
                    refine at_v (ov_move rfl rfl) rfl rfl rfl ?_
                    refine at_v (ov_int rfl rfl rfl rfl) rfl rfl rfl ?_
                    refine at_v (ov_move rfl rfl) rfl rfl rfl ?_
                    refine at_reval 129 (.bool true) rfl (congrArg Value.bool (by first | assumption | (rw [Bool.not_eq_true']; exact decide_eq_false (by omega)))) ?_
                    refine at_wanted (j := 3) rfl ?_
                    refine at_v (ov_fieldAddr (k := 2) (r := 2) rfl rfl rfl rfl) rfl rfl rfl ?_
                    refine at_wanted (j := 3) rfl ?_
                    refine at_v (ov_load rfl rfl rfl (fun _ s => s.ld (k := 1) rfl rfl)) rfl rfl rfl ?_
                    refine at_wanted (j := 3) rfl ?_
                    refine at_v (ov_int rfl rfl rfl rfl) rfl rfl rfl ?_
                    refine at_v (ov_pick_t rfl rfl rfl) rfl rfl rfl ?_
                    refine at_v (ov_move rfl rfl) rfl rfl rfl ?_
                    refine at_reval 134 (.bool true) rfl (congrArg Value.bool (by first | assumption | (rw [Bool.not_eq_true']; exact decide_eq_false (by omega)))) ?_
                    refine at_wanted (j := 8) rfl ?_
                    refine at_v (ov_fieldAddr (k := 2) (r := 2) rfl rfl rfl rfl) rfl rfl rfl ?_
                    refine at_wanted (j := 8) rfl ?_
                    refine at_v (ov_load rfl rfl rfl (fun _ s => s.ld (k := 1) rfl rfl)) rfl rfl rfl ?_
                    refine at_wanted (j := 8) rfl ?_
                    refine at_v (ov_fieldAddr (k := 2) (r := 2) rfl rfl rfl rfl) rfl rfl rfl ?_
                    refine at_wanted (j := 8) rfl ?_
                    refine at_v (ov_load rfl rfl rfl (fun _ s => s.ld (k := 0) rfl rfl)) rfl rfl rfl ?_
                    refine at_wanted (j := 8) rfl ?_
                    refine at_v (ov_int rfl rfl rfl rfl) rfl rfl rfl ?_
                    refine at_v (ov_pick_t rfl rfl rfl) rfl rfl rfl ?_
                    refine at_nil ?_
                    refine at_normal ?_
                    refine hK29 _ _ _ ?_
                    refine at_cond_false (congrArg (fun b => some (Value.bool b)) (show _ = false from decide_eq_false (by omega))) ?_
                    refine at_skip ?_
                    refine at_inb_normal ?_
                    refine at_normal ?_
                    refine hK27 _ _ _ ?_
                    refine at_region ?_
                    refine at_v ((ov_int rfl rfl rfl rfl).eq (congrArg (Value.int .i64) (inK_i64 (by omega) (by omega)))) rfl rfl rfl ?_
                    refine at_v (ov_move rfl rfl) rfl rfl rfl ?_
                    refine at_nil ?_
                    refine at_normal ?_
                    refine at_roundF (q + 1) hqt (by omega) ⟨rfl, trivial⟩ rfl ?_
                    exact fun _ s => s.finEq (ks := [1, 1, 1, 1, 1]) (js := [0]) rfl rfl rfl
                · refine at_exit ?_
                  refine at_then_exit ?_
                  refine at_then_exit ?_
                  refine at_exit_eq ?_
                  refine at_normal ?_
                  refine hK23 _ _ _ ?_
                  refine at_seq_k (fun K27 hK27 => ?_)
                  refine at_region ?_
                  refine at_v (ov_move rfl rfl) rfl rfl rfl ?_
                  refine at_v (ov_len_slice rfl Try.underlying36 rfl) rfl rfl rfl ?_
                  refine at_v (ov_move rfl rfl) rfl rfl rfl ?_
                  refine at_nil ?_
                  refine at_normal ?_
                  refine hK27 _ _ _ ?_
                  refine at_block ?_
                  refine at_loopE [145, 146, 147, 20, 148, 149, 150, 151, 8, 152, 144] (fun q => q ≤ (doP p x).L.length) (fun q => [(144, .int .i64 (q : Nat))]) (fun i m => m) (fun q => (doP p x).L.length - q) 0 (Nat.zero_le _) ⟨rfl, trivial⟩ (fun _ s => s) ?_
                  intro q hq
                  refine at_seq_k (fun K28 hK28 => ?_)
                  refine at_region ?_
                  refine at_v (ov_int rfl rfl rfl rfl) rfl rfl rfl ?_
                  refine at_nil ?_
                  refine at_normal ?_
                  refine hK28 _ _ _ ?_
                  refine at_seq_k (fun K29 hK29 => ?_)
                  refine at_cond rfl (fun hc => ?_) (fun hc => ?_)
                  · have hqt : q < (doP p x).L.length := by simpa using hc
                    obtain ⟨se, hse⟩ : ∃ se, (doP p x).L[q]? = some se := ⟨_, List.getElem?_eq_getElem hqt⟩
                    have hps := hw2.pos se (List.mem_of_getElem? hse)
                    have hi10 : ¬ se = max y.2.1.o 0 := by
                      have := hps.2 y hym
                      have := hps.1
                      omega
                    refine at_skip ?_
                    refine at_normal ?_
                    refine hK29 _ _ _ ?_
                    refine at_seq_k (fun K30 hK30 => ?_)
                    refine at_block ?_
                    refine at_seq_k (fun K31 hK31 => ?_)
                    refine at_region ?_
                    refine at_v (ov_indexRd (fun _ s => s.rd (k := 1) rfl) rfl Try.underlying36 rfl rfl rfl hse) rfl rfl rfl ?_
                    refine at_v (ov_loadRd0 (fun _ s => s.rd (k := 1) rfl) rfl rfl rfl hse rfl) rfl rfl rfl ?_
                    refine at_v (ov_assign rfl rfl) rfl rfl rfl ?_
                    refine at_nil ?_
                    refine at_normal ?_
                    refine hK31 _ _ _ ?_
                    refine at_seq_k (fun K32 hK32 => ?_)
                    refine at_region ?_
                    refine at_v (ov_move rfl rfl) rfl rfl rfl ?_
                    refine at_v (ov_fieldAddr (k := 2) (r := 2) rfl rfl rfl rfl) rfl rfl rfl ?_
                    refine at_v (ov_load rfl rfl rfl (fun _ s => s.ld (k := 0) rfl rfl)) rfl rfl rfl ?_
                    refine at_v (ov_int rfl rfl rfl rfl) rfl rfl rfl ?_
                    refine at_nil ?_
                    refine at_normal ?_
                    refine hK32 _ _ _ ?_
                    refine at_cond_false (congrArg (fun b => some (Value.bool b)) (show _ = false from decide_eq_false (by omega))) ?_
                    refine at_skip ?_
                    refine at_inb_normal ?_
                    refine at_normal ?_
                    refine hK30 _ _ _ ?_
                    refine at_region ?_
                    refine at_v ((ov_int rfl rfl rfl rfl).eq (congrArg (Value.int .i64) (inK_i64 (by omega) (by omega)))) rfl rfl rfl ?_
                    refine at_v (ov_move rfl rfl) rfl rfl rfl ?_
                    refine at_nil ?_
                    refine at_normal ?_
                    refine at_roundF (q + 1) hqt (by omega) ⟨rfl, trivial⟩ rfl ?_
                    exact fun _ s => s.finEq (ks := [0, 0, 0, 0, 0]) (js := []) rfl rfl rfl
                  · refine at_exit ?_
                    refine at_then_exit ?_
                    refine at_then_exit ?_
                    refine at_exit_eq ?_
                    refine at_inb_normal ?_
                    refine at_normal ?_
                    refine hK19 _ _ _ ?_
                    refine at_region ?_
                    refine at_v ((ov_int rfl rfl rfl rfl).eq (congrArg (Value.int .i64) (inK_i64 (by omega) (by omega)))) rfl rfl rfl ?_
                    refine at_v (ov_move rfl rfl) rfl rfl rfl ?_
                    refine at_nil ?_
                    refine at_normal ?_
                    refine at_roundF (0 + 1) hjt (by omega) ⟨rfl, trivial⟩ rfl ?_
                    exact fun _ s => s.finEq (ks := [1, 1, 1, 1]) (js := [0]) rfl rfl rfl
    
            · refine at_skip ?_
              refine at_normal ?_
              refine hK18 _ _ _ ?_
              refine at_seq_k (fun K19 hK19 => ?_)
              refine at_block ?_
              refine at_seq_k (fun K20 hK20 => ?_)
              refine at_region ?_
              refine at_v (ov_move rfl rfl) rfl rfl rfl ?_
              refine at_v (ov_indexRd (fun _ s => s.rd (k := 2) rfl) rfl Try.underlying34 rfl rfl rfl hy) rfl rfl rfl ?_
              refine at_v (ov_loadRdS (vs := [_, _, _, _, _, _]) (fun _ s => s.rd (k := 2) rfl) rfl rfl rfl hy rfl rfl) rfl rfl rfl ?_
              refine at_t (ot_allocA rfl Try.zeroValue39) rfl rfl rfl ?_
              rintro _ _ ⟨g1, rfl, rfl⟩
              refine at_v (ov_assign rfl rfl) rfl rfl rfl ?_
              refine at_t0 (ot_store (k := 0) rfl rfl rfl rfl rfl rfl rfl) rfl rfl ?_
              rintro _ _ ⟨rfl, rfl⟩
              simp only [setAt, splice, spliceL, Value.cells]
              refine at_nil ?_
              refine at_normal ?_
              refine hK20 _ _ _ ?_
              refine at_seq_k (fun K21 hK21 => ?_)
              refine at_seq_k (fun K22 hK22 => ?_)
              refine at_draw _ [] 1000 [(2, 0), (2, 1), (2, 2), (2, 3), (2, 4), (2, 5), (1, 6), (2, 7), (1, 8), (2, 9), (1, 10), (2, 11), (2, 12), (2, 13), (2, 14), (1, 15), (2, 16), (2, 17), (1, 18), (2, 19), (2, 20), (2, 21), (2, 22), (2, 23), (1, 24), (2, 25), (2, 26), (2, 27), (2, 28), (1, 29), (2, 30), (2, 31), (2, 32), (2, 33), (1, 34), (2, 35), (2, 36), (2, 37), (1, 38), (2, 39), (2, 40), (2, 41), (2, 42), (2, 43), (1, 44), (2, 45), (2, 46), (2, 47), (1, 48), (2, 49), (2, 50), (2, 51)] (by kernel_rfl) (by kernel_rfl) (fun _ s => (s.pulls (ks := [0, 3]) rfl).left) ?_
              refine aq_p (ov_move rfl rfl) rfl rfl rfl ?_
              refine aq_p (ov_int rfl rfl rfl rfl) rfl rfl rfl ?_
              refine aq_p (ov_move rfl rfl) rfl rfl rfl ?_
              refine aq_unwanted (j := 2) rfl rfl rfl rfl rfl ?_
              refine aq_unwanted (j := 2) rfl rfl rfl rfl rfl ?_
              refine aq_unwanted (j := 2) rfl rfl rfl rfl rfl ?_
              refine aq_unwanted (j := 2) rfl rfl rfl rfl rfl ?_
              refine aq_unwanted (j := 2) rfl rfl rfl rfl rfl ?_
              refine aq_unwanted (j := 2) rfl rfl rfl rfl rfl ?_
              refine aq_unwanted (j := 2) rfl rfl rfl rfl rfl ?_
              refine aq_unwanted (j := 2) rfl rfl rfl rfl rfl ?_
              refine aq_unwanted (j := 2) rfl rfl rfl rfl rfl ?_
              refine aq_p (ov_pick_f rfl rfl rfl) rfl rfl rfl ?_
              refine aq_p (ov_move rfl rfl) rfl rfl rfl ?_
              refine aq_wanted (j := 13) rfl ?_
              refine aq_p (ov_fieldAddr (k := 2) (r := 2) rfl rfl rfl rfl) rfl rfl rfl ?_
              refine aq_wanted (j := 13) rfl ?_
              refine aq_v (ov_load rfl rfl rfl (fun _ s => s.ld (k := 0) rfl rfl)) rfl rfl rfl ?_
              refine aq_wanted (j := 13) rfl ?_
              refine aq_p (ov_int rfl rfl rfl rfl) rfl rfl rfl ?_
              refine aq_wanted (j := 13) rfl ?_
              refine aq_p (ov_fieldAddr (k := 1) (r := 1) rfl rfl rfl rfl) rfl rfl rfl ?_
              refine aq_wanted (j := 13) rfl ?_
              refine aq_v (ov_load rfl rfl rfl (fun _ s => s.ld (k := 0) rfl rfl)) rfl rfl rfl ?_
              refine aq_wanted (j := 13) rfl ?_
              refine aq_p (ov_int rfl rfl rfl rfl) rfl rfl rfl ?_
              refine aq_wanted (j := 13) rfl ?_
              refine aq_p (ov_boolne rfl Try.underlying4 rfl rfl) rfl rfl rfl ?_
              refine aq_p (ov_pick_f rfl rfl rfl) rfl rfl rfl ?_
              refine aq_p (ov_move rfl rfl) rfl rfl rfl ?_
              refine at_reval 89 (.bool false) rfl (congrArg Value.bool (by simp [hi1, hc, hi2, hi3, hc, hi5, hi6, hi7]; done)) ?_
              refine aq_wanted (j := 22) rfl ?_
              refine aq_p (ov_fieldAddr (k := 1) (r := 1) rfl rfl rfl rfl) rfl rfl rfl ?_
              refine aq_wanted (j := 22) rfl ?_
              refine aq_v (ov_load rfl rfl rfl (fun _ s => s.ld (k := 0) rfl rfl)) rfl rfl rfl ?_
              refine aq_wanted (j := 22) rfl ?_
              refine aq_p (ov_int rfl rfl rfl rfl) rfl rfl rfl ?_
              refine aq_p (ov_pick_f rfl rfl rfl) rfl rfl rfl ?_
              refine aq_p (ov_move rfl rfl) rfl rfl rfl ?_
              refine at_reval 94 (.bool false) rfl (congrArg Value.bool (decide_eq_false (by omega))) ?_
              refine aq_wanted (j := 27) rfl ?_
              refine aq_p (ov_fieldAddr (k := 1) (r := 1) rfl rfl rfl rfl) rfl rfl rfl ?_
              refine aq_wanted (j := 27) rfl ?_
              refine aq_v (ov_load rfl rfl rfl (fun _ s => s.ld (k := 0) rfl rfl)) rfl rfl rfl ?_
              refine aq_wanted (j := 27) rfl ?_
              refine aq_p (ov_int rfl rfl rfl rfl) rfl rfl rfl ?_
              refine aq_p (ov_pick_f rfl rfl rfl) rfl rfl rfl ?_
              refine aq_p (ov_move rfl rfl) rfl rfl rfl ?_
              refine at_reval 99 (.bool false) rfl (congrArg Value.bool (decide_eq_false (by omega))) ?_
              refine aq_wanted (j := 32) rfl ?_
              refine aq_p (ov_fieldAddr (k := 4) (r := 4) rfl rfl rfl rfl) rfl rfl rfl ?_
              refine aq_wanted (j := 32) rfl ?_
              refine aq_v (ov_load rfl rfl rfl (fun _ s => s.ld (k := 0) rfl rfl)) rfl rfl rfl ?_
              refine aq_wanted (j := 32) rfl ?_
              refine aq_p (ov_int rfl rfl rfl rfl) rfl rfl rfl ?_
              refine aq_wanted (j := 32) rfl ?_
              refine aq_p (ov_move rfl rfl) rfl rfl rfl ?_
              refine at_reval 103 (.bool true) rfl (congrArg Value.bool (by first | assumption | (rw [Bool.not_eq_true']; exact decide_eq_false (by omega)))) ?_
              refine aq_wanted (j := 36) rfl ?_
              refine aq_p (ov_fieldAddr (k := 2) (r := 2) rfl rfl rfl rfl) rfl rfl rfl ?_
              refine aq_wanted (j := 36) rfl ?_
              refine aq_v (ov_load rfl rfl rfl (fun _ s => s.ld (k := 0) rfl rfl)) rfl rfl rfl ?_
              refine aq_wanted (j := 36) rfl ?_
              refine aq_p (ov_int rfl rfl rfl rfl) rfl rfl rfl ?_
              refine aq_wanted (j := 32) rfl ?_
              refine aq_p (ov_pick_t rfl rfl rfl) rfl rfl rfl ?_
              refine aq_p (ov_pick_f rfl rfl rfl) rfl rfl rfl ?_
              refine aq_p (ov_move rfl rfl) rfl rfl rfl ?_
              refine at_reval 109 (.bool false) rfl (congrArg Value.bool (decide_eq_false (by omega))) ?_
              refine aq_wanted (j := 42) rfl ?_
              refine aq_p (ov_fieldAddr (k := 1) (r := 1) rfl rfl rfl rfl) rfl rfl rfl ?_
              refine aq_wanted (j := 42) rfl ?_
              refine aq_v (ov_load rfl rfl rfl (fun _ s => s.ld (k := 0) rfl rfl)) rfl rfl rfl ?_
              refine aq_wanted (j := 42) rfl ?_
              refine aq_p (ov_int rfl rfl rfl rfl) rfl rfl rfl ?_
              refine aq_wanted (j := 42) rfl ?_
              refine aq_p (ov_move rfl rfl) rfl rfl rfl ?_
              refine at_reval 113 (.bool true) rfl (congrArg Value.bool (decide_eq_true (by omega))) ?_
              refine aq_wanted (j := 46) rfl ?_
              refine aq_p (ov_fieldAddr (k := 4) (r := 4) rfl rfl rfl rfl) rfl rfl rfl ?_
              refine aq_wanted (j := 46) rfl ?_
              refine aq_v (ov_load rfl rfl rfl (fun _ s => s.ld (k := 0) rfl rfl)) rfl rfl rfl ?_
              refine aq_wanted (j := 46) rfl ?_
              refine aq_p (ov_int rfl rfl rfl rfl) rfl rfl rfl ?_
              refine aq_wanted (j := 42) rfl ?_
              refine aq_p (ov_pick_t rfl rfl rfl) rfl rfl rfl ?_
              refine aq_p (ov_pick_f rfl rfl rfl) rfl rfl rfl ?_
              refine aq_nil ?_
              refine at_normal ?_
              refine hK22 _ _ _ ?_
              refine at_cond_false (congrArg (fun b => some (Value.bool b)) (show _ = false from decide_eq_false (by omega))) ?_
              refine at_skip ?_
              refine at_normal ?_
              refine hK21 _ _ _ ?_
              refine at_seq_k (fun K23 hK23 => ?_)
              refine at_seq_k (fun K24 hK24 => ?_)
              refine at_region ?_
              refine at_v (ov_move rfl rfl) rfl rfl rfl ?_
              refine at_v (ov_len_slice rfl Try.underlying34 rfl) rfl rfl rfl ?_
              refine at_v (ov_move rfl rfl) rfl rfl rfl ?_
              refine at_nil ?_
              refine at_normal ?_
              refine hK24 _ _ _ ?_
              refine at_block ?_
              refine at_loopE [122, 123, 124, 125, 18, 17, 126, 127, 128, 129, 130, 131, 132, 133, 134, 135, 136, 137, 138, 139, 140, 8, 141, 121] (fun q => q ≤ (doP p x).cs.length) (fun q => [(121, .int .i64 (q : Nat))]) (fun i m => m) (fun q => (doP p x).cs.length - q) 0 (Nat.zero_le _) ⟨rfl, trivial⟩ (fun _ s => s) ?_
              intro q hq
              refine at_seq_k (fun K25 hK25 => ?_)
              refine at_region ?_
              refine at_v (ov_int rfl rfl rfl rfl) rfl rfl rfl ?_
              refine at_nil ?_
              refine at_normal ?_
              refine hK25 _ _ _ ?_
              refine at_seq_k (fun K26 hK26 => ?_)
              refine at_cond rfl (fun hc => ?_) (fun hc => ?_)
              · have hqt : q < (doP p x).cs.length := by simpa using hc
                obtain ⟨z, hz⟩ : ∃ z, (doP p x).cs[q]? = some z := ⟨_, List.getElem?_eq_getElem hqt⟩
                by_cases hjq : 0 = q
                · subst hjq
                  refine at_skip ?_
                  refine at_normal ?_
                  refine hK26 _ _ _ ?_
                  refine at_seq_k (fun K27 hK27 => ?_)
                  refine at_block ?_
                  refine at_seq_k (fun K28 hK28 => ?_)
                  refine at_region ?_
                  refine at_v (ov_move rfl rfl) rfl rfl rfl ?_
                  refine at_v (ov_indexRd (fun _ s => s.rd (k := 3) rfl) rfl Try.underlying34 rfl rfl rfl hy) rfl rfl rfl ?_
                  refine at_v (ov_loadRdS (vs := [_, _, _, _, _, _]) (fun _ s => s.rd (k := 3) rfl) rfl rfl rfl hy rfl rfl) rfl rfl rfl ?_
                  refine at_t (ot_allocA rfl Try.zeroValue39) rfl rfl rfl ?_
                  rintro _ _ ⟨g2, rfl, rfl⟩
                  refine at_v (ov_assign rfl rfl) rfl rfl rfl ?_
                  refine at_t0 (ot_store (k := 0) rfl rfl rfl rfl rfl rfl rfl) rfl rfl ?_
                  rintro _ _ ⟨rfl, rfl⟩
                  simp only [setAt, splice, spliceL, Value.cells]
                  refine at_nil ?_
                  refine at_normal ?_
                  refine hK28 _ _ _ ?_
                  refine at_seq_k (fun K29 hK29 => ?_)
                  refine at_region ?_
                  refine at_v (ov_move rfl rfl) rfl rfl rfl ?_
                  refine at_v (ov_move rfl rfl) rfl rfl rfl ?_
                  refine at_v (ov_int rfl rfl rfl rfl) rfl rfl rfl ?_
                  refine at_v (ov_move rfl rfl) rfl rfl rfl ?_
                  refine at_unwanted (j := 3) rfl rfl rfl rfl ?_
                  refine at_unwanted (j := 3) rfl rfl rfl rfl ?_
                  refine at_unwanted (j := 3) rfl rfl rfl rfl ?_
                  refine at_v (ov_pick_f rfl rfl rfl) rfl rfl rfl ?_
                  refine at_v (ov_move rfl rfl) rfl rfl rfl ?_
                  refine at_unwanted (j := 8) rfl rfl rfl rfl ?_
                  refine at_unwanted (j := 8) rfl rfl rfl rfl ?_
                  refine at_unwanted (j := 8) rfl rfl rfl rfl ?_
                  refine at_unwanted (j := 8) rfl rfl rfl rfl ?_
                  refine at_unwanted (j := 8) rfl rfl rfl rfl ?_
                  refine at_v (ov_pick_f rfl rfl rfl) rfl rfl rfl ?_
                  refine at_nil ?_
                  refine at_normal ?_
                  refine hK29 _ _ _ ?_
                  refine at_cond_false rfl ?_
                  refine at_skip ?_
                  refine at_inb_normal ?_
                  refine at_normal ?_
                  refine hK27 _ _ _ ?_
                  refine at_region ?_
                  refine at_v ((ov_int rfl rfl rfl rfl).eq (congrArg (Value.int .i64) (inK_i64 (by omega) (by omega)))) rfl rfl rfl ?_
                  refine at_v (ov_move rfl rfl) rfl rfl rfl ?_
                  refine at_nil ?_
                  refine at_normal ?_
                  refine at_roundF (0 + 1) hqt (by omega) ⟨rfl, trivial⟩ rfl ?_
                  exact fun _ s => s.finEq (ks := [1, 1, 1, 1, 1]) (js := [0]) rfl rfl rfl
                · have hi9 : (!decide (((0 : Nat) : Int) = (q : Int))) = true := by simp; omega
                  have hi11 := own_ne hw2 hy hz hjq hi5
                  refine at_skip ?_
                  refine at_normal ?_
                  refine hK26 _ _ _ ?_
                  refine at_seq_k (fun K27 hK27 => ?_)
                  refine at_block ?_
                  refine at_seq_k (fun K28 hK28 => ?_)
                  refine at_region ?_
                  refine at_v (ov_move rfl rfl) rfl rfl rfl ?_
                  refine at_v (ov_indexRd (fun _ s => s.rd (k := 3) rfl) rfl Try.underlying34 rfl rfl rfl hz) rfl rfl rfl ?_
                  refine at_v (ov_loadRdS (vs := [_, _, _, _, _, _]) (fun _ s => s.rd (k := 3) rfl) rfl rfl rfl hz rfl rfl) rfl rfl rfl ?_
                  refine at_t (ot_allocA rfl Try.zeroValue39) rfl rfl rfl ?_
                  rintro _ _ ⟨g2, rfl, rfl⟩
                  refine at_v (ov_assign rfl rfl) rfl rfl rfl ?_
                  refine at_t0 (ot_store (k := 0) rfl rfl rfl rfl rfl rfl rfl) rfl rfl ?_
                  rintro _ _ ⟨rfl, rfl⟩
                  simp only [setAt, splice, spliceL, Value.cells]
                  refine at_nil ?_
                  refine at_normal ?_
                  refine hK28 _ _ _ ?_
                  refine at_seq_k (fun K29 hK29 => ?_)
                  refine at_region ?_
                  refine at_v (ov_move rfl rfl) rfl rfl rfl ?_
                  refine at_v (ov_move rfl rfl) rfl rfl rfl ?_
                  refine at_v (ov_int rfl rfl rfl rfl) rfl rfl rfl ?_
                  refine at_v (ov_move rfl rfl) rfl rfl rfl ?_
                  refine at_reval 129 (.bool true) rfl (congrArg Value.bool (by first | assumption | (rw [Bool.not_eq_true']; exact decide_eq_false (by omega)))) ?_
                  refine at_wanted (j := 3) rfl ?_
                  refine at_v (ov_fieldAddr (k := 2) (r := 2) rfl rfl rfl rfl) rfl rfl rfl ?_
                  refine at_wanted (j := 3) rfl ?_
                  refine at_v (ov_load rfl rfl rfl (fun _ s => s.ld (k := 1) rfl rfl)) rfl rfl rfl ?_
                  refine at_wanted (j := 3) rfl ?_
                  refine at_v (ov_int rfl rfl rfl rfl) rfl rfl rfl ?_
                  refine at_v (ov_pick_t rfl rfl rfl) rfl rfl rfl ?_
                  refine at_v (ov_move rfl rfl) rfl rfl rfl ?_
                  refine at_reval 134 (.bool true) rfl (congrArg Value.bool (by first | assumption | (rw [Bool.not_eq_true']; exact decide_eq_false (by omega)))) ?_
                  refine at_wanted (j := 8) rfl ?_
                  refine at_v (ov_fieldAddr (k := 2) (r := 2) rfl rfl rfl rfl) rfl rfl rfl ?_
                  refine at_wanted (j := 8) rfl ?_
                  refine at_v (ov_load rfl rfl rfl (fun _ s => s.ld (k := 1) rfl rfl)) rfl rfl rfl ?_
                  refine at_wanted (j := 8) rfl ?_
                  refine at_v (ov_fieldAddr (k := 2) (r := 2) rfl rfl rfl rfl) rfl rfl rfl ?_
                  refine at_wanted (j := 8) rfl ?_
                  refine at_v (ov_load rfl rfl rfl (fun _ s => s.ld (k := 0) rfl rfl)) rfl rfl rfl ?_
                  refine at_wanted (j := 8) rfl ?_
                  refine at_v (ov_int rfl rfl rfl rfl) rfl rfl rfl ?_
                  refine at_v (ov_pick_t rfl rfl rfl) rfl rfl rfl ?_
                  refine at_nil ?_
                  refine at_normal ?_
                  refine hK29 _ _ _ ?_
                  refine at_cond_false (congrArg (fun b => some (Value.bool b)) (show _ = false from decide_eq_false (by omega))) ?_
                  refine at_skip ?_
                  refine at_inb_normal ?_
                  refine at_normal ?_
                  refine hK27 _ _ _ ?_
                  refine at_region ?_
                  refine at_v ((ov_int rfl rfl rfl rfl).eq (congrArg (Value.int .i64) (inK_i64 (by omega) (by omega)))) rfl rfl rfl ?_
                  refine at_v (ov_move rfl rfl) rfl rfl rfl ?_
                  refine at_nil ?_
                  refine at_normal ?_
                  refine at_roundF (q + 1) hqt (by omega) ⟨rfl, trivial⟩ rfl ?_
                  exact fun _ s => s.finEq (ks := [1, 1, 1, 1, 1]) (js := [0]) rfl rfl rfl
              · refine at_exit ?_
                refine at_then_exit ?_
                refine at_then_exit ?_
                refine at_exit_eq ?_
                refine at_normal ?_
                refine hK23 _ _ _ ?_
                refine at_seq_k (fun K27 hK27 => ?_)
                refine at_region ?_
                refine at_v (ov_move rfl rfl) rfl rfl rfl ?_
                refine at_v (ov_len_slice rfl Try.underlying36 rfl) rfl rfl rfl ?_
                refine at_v (ov_move rfl rfl) rfl rfl rfl ?_
                refine at_nil ?_
                refine at_normal ?_
                refine hK27 _ _ _ ?_
                refine at_block ?_
                refine at_loopE [145, 146, 147, 20, 148, 149, 150, 151, 8, 152, 144] (fun q => q ≤ (doP p x).L.length) (fun q => [(144, .int .i64 (q : Nat))]) (fun i m => m) (fun q => (doP p x).L.length - q) 0 (Nat.zero_le _) ⟨rfl, trivial⟩ (fun _ s => s) ?_
                intro q hq
                refine at_seq_k (fun K28 hK28 => ?_)
                refine at_region ?_
                refine at_v (ov_int rfl rfl rfl rfl) rfl rfl rfl ?_
                refine at_nil ?_
                refine at_normal ?_
                refine hK28 _ _ _ ?_
                refine at_seq_k (fun K29 hK29 => ?_)
                refine at_cond rfl (fun hc => ?_) (fun hc => ?_)
                · have hqt : q < (doP p x).L.length := by simpa using hc
                  obtain ⟨se, hse⟩ : ∃ se, (doP p x).L[q]? = some se := ⟨_, List.getElem?_eq_getElem hqt⟩
                  have hps := hw2.pos se (List.mem_of_getElem? hse)
                  have hi10 : ¬ se = max y.2.1.o 0 := by
                    have := hps.2 y hym
                    have := hps.1
                    omega
                  refine at_skip ?_
                  refine at_normal ?_
                  refine hK29 _ _ _ ?_
                  refine at_seq_k (fun K30 hK30 => ?_)
                  refine at_block ?_
                  refine at_seq_k (fun K31 hK31 => ?_)
                  refine at_region ?_
                  refine at_v (ov_indexRd (fun _ s => s.rd (k := 1) rfl) rfl Try.underlying36 rfl rfl rfl hse) rfl rfl rfl ?_
                  refine at_v (ov_loadRd0 (fun _ s => s.rd (k := 1) rfl) rfl rfl rfl hse rfl) rfl rfl rfl ?_
                  refine at_v (ov_assign rfl rfl) rfl rfl rfl ?_
                  refine at_nil ?_
                  refine at_normal ?_
                  refine hK31 _ _ _ ?_
                  refine at_seq_k (fun K32 hK32 => ?_)
                  refine at_region ?_
                  refine at_v (ov_move rfl rfl) rfl rfl rfl ?_
                  refine at_v (ov_fieldAddr (k := 2) (r := 2) rfl rfl rfl rfl) rfl rfl rfl ?_
                  refine at_v (ov_load rfl rfl rfl (fun _ s => s.ld (k := 0) rfl rfl)) rfl rfl rfl ?_
                  refine at_v (ov_int rfl rfl rfl rfl) rfl rfl rfl ?_
                  refine at_nil ?_
                  refine at_normal ?_
                  refine hK32 _ _ _ ?_
                  refine at_cond_false (congrArg (fun b => some (Value.bool b)) (show _ = false from decide_eq_false (by omega))) ?_
                  refine at_skip ?_
                  refine at_inb_normal ?_
                  refine at_normal ?_
                  refine hK30 _ _ _ ?_
                  refine at_region ?_
                  refine at_v ((ov_int rfl rfl rfl rfl).eq (congrArg (Value.int .i64) (inK_i64 (by omega) (by omega)))) rfl rfl rfl ?_
                  refine at_v (ov_move rfl rfl) rfl rfl rfl ?_
                  refine at_nil ?_
                  refine at_normal ?_
                  refine at_roundF (q + 1) hqt (by omega) ⟨rfl, trivial⟩ rfl ?_
                  exact fun _ s => s.finEq (ks := [0, 0, 0, 0, 0]) (js := []) rfl rfl rfl
                · refine at_exit ?_
                  refine at_then_exit ?_
                  refine at_then_exit ?_
                  refine at_exit_eq ?_
                  refine at_inb_normal ?_
                  refine at_normal ?_
                  refine hK19 _ _ _ ?_
                  refine at_region ?_
                  refine at_v ((ov_int rfl rfl rfl rfl).eq (congrArg (Value.int .i64) (inK_i64 (by omega) (by omega)))) rfl rfl rfl ?_
                  refine at_v (ov_move rfl rfl) rfl rfl rfl ?_
                  refine at_nil ?_
                  refine at_normal ?_
                  refine at_roundF (0 + 1) hjt (by omega) ⟨rfl, trivial⟩ rfl ?_
                  exact fun _ s => s.finEq (ks := [1, 1, 1, 1]) (js := [0]) rfl rfl rfl
  
          | succ j =>
            have hpred := True.intro
            obtain ⟨u, hu⟩ : ∃ u, (doP p x).cs[j]? = some u := ⟨_, List.getElem?_eq_getElem (by omega)⟩
            have hi4 : ¬ u.1 ≥ y.1 := by
              obtain ⟨h1, h2⟩ := List.getElem?_eq_some_iff.1 hu
              obtain ⟨h3, h4⟩ := List.getElem?_eq_some_iff.1 hy
              have := List.pairwise_iff_getElem.1 hw2.pw j (j + 1) h1 h3 (by omega)
              rw [h2, h4] at this
              have := this.1
              omega
            rcases hby with ⟨hi5, hi6, hi7⟩ | ⟨hi5, hi6⟩ | ⟨hi5, hi6, hi7⟩
            · refine at_rowSome (enc := infoE) (xs := (doP p x).cs) 2 rfl (fun e => by rw [e] at hu; simp at hu) fun hsome => ?_
              refine at_skip ?_
              refine at_normal ?_
              refine hK18 _ _ _ ?_
              refine at_seq_k (fun K19 hK19 => ?_)
              refine at_block ?_
              refine at_seq_k (fun K20 hK20 => ?_)
              refine at_region ?_
              refine at_v (ov_move rfl rfl) rfl rfl rfl ?_
              refine at_v (ov_indexRd (fun _ s => s.rd (k := 2) rfl) rfl Try.underlying34 rfl rfl rfl hy) rfl rfl rfl ?_
              refine at_v (ov_loadRdS (vs := [_, _, _, _, _, _]) (fun _ s => s.rd (k := 2) rfl) rfl rfl rfl hy rfl rfl) rfl rfl rfl ?_
              refine at_t (ot_allocA rfl Try.zeroValue39) rfl rfl rfl ?_
              rintro _ _ ⟨g1, rfl, rfl⟩
              refine at_v (ov_assign rfl rfl) rfl rfl rfl ?_
              refine at_t0 (ot_store (k := 0) rfl rfl rfl rfl rfl rfl rfl) rfl rfl ?_
              rintro _ _ ⟨rfl, rfl⟩
              simp only [setAt, splice, spliceL, Value.cells]
              refine at_nil ?_
              refine at_normal ?_
              refine hK20 _ _ _ ?_
              refine at_seq_k (fun K21 hK21 => ?_)
              refine at_seq_k (fun K22 hK22 => ?_)
              refine at_draw _ [] 1000 [(2, 0), (2, 1), (2, 2), (2, 3), (2, 4), (2, 5), (1, 6), (2, 7), (1, 8), (2, 9), (1, 10), (2, 11), (2, 12), (2, 13), (2, 14), (1, 15), (2, 16), (2, 17), (1, 18), (2, 19), (2, 20), (2, 21), (2, 22), (2, 23), (1, 24), (2, 25), (2, 26), (2, 27), (2, 28), (1, 29), (2, 30), (2, 31), (2, 32), (2, 33), (1, 34), (2, 35), (2, 36), (2, 37), (1, 38), (2, 39), (2, 40), (2, 41), (2, 42), (2, 43), (1, 44), (2, 45), (2, 46), (2, 47), (1, 48), (2, 49), (2, 50), (2, 51)] (by kernel_rfl) (by kernel_rfl) (fun _ s => (s.pulls (ks := [0, 2]) rfl).left) ?_
              refine aq_p (ov_move rfl rfl) rfl rfl rfl ?_
              refine aq_p (ov_int rfl rfl rfl rfl) rfl rfl rfl ?_
              refine aq_p (ov_move rfl rfl) rfl rfl rfl ?_
              refine at_reval 69 (.bool true) rfl (congrArg Value.bool (decide_eq_true (by omega))) ?_
              refine aq_wanted (j := 2) rfl ?_
              refine aq_p (ov_move rfl rfl) rfl rfl rfl ?_
              refine aq_wanted (j := 2) rfl ?_
              refine aq_p (ov_move rfl rfl) rfl rfl rfl ?_
              refine aq_wanted (j := 2) rfl ?_
              refine aq_p ((ov_int rfl rfl rfl rfl).eq (congrArg (Value.int .i64) (inK_pred (by omega)))) rfl rfl rfl ?_
              refine aq_wanted (j := 2) rfl ?_
              refine aq_v (ov_indexRd (fun _ s => s.rd (k := 1) rfl) rfl Try.underlying34 rfl rfl rfl hu) rfl rfl rfl ?_
              refine aq_wanted (j := 2) rfl ?_
              refine aq_p (ov_fieldE (k := 0) (by assumption) rfl rfl rfl) rfl rfl rfl ?_
              refine aq_wanted (j := 2) rfl ?_
              refine aq_v (ov_loadRd0 (fun _ s => s.rd (k := 1) rfl) rfl rfl rfl hu rfl) rfl rfl rfl ?_
              refine aq_wanted (j := 2) rfl ?_
              refine aq_p (ov_fieldAddr (k := 0) (r := 0) rfl rfl rfl rfl) rfl rfl rfl ?_
              refine aq_wanted (j := 2) rfl ?_
              refine aq_v (ov_load rfl rfl rfl (fun _ s => s.ld (k := 0) rfl rfl)) rfl rfl rfl ?_
              refine aq_wanted (j := 2) rfl ?_
              refine aq_p (ov_int rfl rfl rfl rfl) rfl rfl rfl ?_
              refine aq_p (ov_pick_t rfl rfl rfl) rfl rfl rfl ?_
              refine aq_p (ov_move rfl rfl) rfl rfl rfl ?_
              refine at_reval 80 (.bool false) rfl (congrArg Value.bool (decide_eq_false (by omega))) ?_
              refine aq_wanted (j := 13) rfl ?_
              refine aq_p (ov_fieldAddr (k := 2) (r := 2) rfl rfl rfl rfl) rfl rfl rfl ?_
              refine aq_wanted (j := 13) rfl ?_
              refine aq_v (ov_load rfl rfl rfl (fun _ s => s.ld (k := 0) rfl rfl)) rfl rfl rfl ?_
              refine aq_wanted (j := 13) rfl ?_
              refine aq_p (ov_int rfl rfl rfl rfl) rfl rfl rfl ?_
              refine aq_wanted (j := 13) rfl ?_
              refine aq_p (ov_fieldAddr (k := 1) (r := 1) rfl rfl rfl rfl) rfl rfl rfl ?_
              refine aq_wanted (j := 13) rfl ?_
              refine aq_v (ov_load rfl rfl rfl (fun _ s => s.ld (k := 0) rfl rfl)) rfl rfl rfl ?_
              refine aq_wanted (j := 13) rfl ?_
              refine aq_p (ov_int rfl rfl rfl rfl) rfl rfl rfl ?_
              refine aq_wanted (j := 13) rfl ?_
              refine aq_p (ov_boolne rfl Try.underlying4 rfl rfl) rfl rfl rfl ?_
              refine aq_p (ov_pick_f rfl rfl rfl) rfl rfl rfl ?_
              refine aq_p (ov_move rfl rfl) rfl rfl rfl ?_
              refine at_reval 89 (.bool false) rfl (congrArg Value.bool (by simp [hi1, hc, hi2, hi3, hc, hi4, hi5, hi6, hi7]; done)) ?_
              refine aq_wanted (j := 22) rfl ?_
              refine aq_p (ov_fieldAddr (k := 1) (r := 1) rfl rfl rfl rfl) rfl rfl rfl ?_
              refine aq_wanted (j := 22) rfl ?_
              refine aq_v (ov_load rfl rfl rfl (fun _ s => s.ld (k := 0) rfl rfl)) rfl rfl rfl ?_
              refine aq_wanted (j := 22) rfl ?_
              refine aq_p (ov_int rfl rfl rfl rfl) rfl rfl rfl ?_
              refine aq_p (ov_pick_f rfl rfl rfl) rfl rfl rfl ?_
              refine aq_p (ov_move rfl rfl) rfl rfl rfl ?_
              refine at_reval 94 (.bool false) rfl (congrArg Value.bool (decide_eq_false (by omega))) ?_
              refine aq_wanted (j := 27) rfl ?_
              refine aq_p (ov_fieldAddr (k := 1) (r := 1) rfl rfl rfl rfl) rfl rfl rfl ?_
              refine aq_wanted (j := 27) rfl ?_
              refine aq_v (ov_load rfl rfl rfl (fun _ s => s.ld (k := 0) rfl rfl)) rfl rfl rfl ?_
              refine aq_wanted (j := 27) rfl ?_
              refine aq_p (ov_int rfl rfl rfl rfl) rfl rfl rfl ?_
              refine aq_p (ov_pick_f rfl rfl rfl) rfl rfl rfl ?_
              refine aq_p (ov_move rfl rfl) rfl rfl rfl ?_
              refine at_reval 99 (.bool false) rfl (congrArg Value.bool (decide_eq_false (by omega))) ?_
              refine aq_wanted (j := 32) rfl ?_
              refine aq_p (ov_fieldAddr (k := 4) (r := 4) rfl rfl rfl rfl) rfl rfl rfl ?_
              refine aq_wanted (j := 32) rfl ?_
              refine aq_v (ov_load rfl rfl rfl (fun _ s => s.ld (k := 0) rfl rfl)) rfl rfl rfl ?_
              refine aq_wanted (j := 32) rfl ?_
              refine aq_p (ov_int rfl rfl rfl rfl) rfl rfl rfl ?_
              refine aq_wanted (j := 32) rfl ?_
              refine aq_p (ov_move rfl rfl) rfl rfl rfl ?_
              refine at_reval 103 (.bool false) rfl (congrArg Value.bool (by first | assumption | (rw [Bool.not_eq_false']; exact decide_eq_true (by omega)))) ?_
              refine aq_unwanted (j := 36) rfl rfl rfl rfl rfl ?_
              refine aq_unwanted (j := 36) rfl rfl rfl rfl rfl ?_
              refine aq_unwanted (j := 36) rfl rfl rfl rfl rfl ?_
              refine aq_wanted (j := 32) rfl ?_
              refine aq_p (ov_pick_f rfl rfl rfl) rfl rfl rfl ?_
              refine aq_p (ov_pick_f rfl rfl rfl) rfl rfl rfl ?_
              refine aq_p (ov_move rfl rfl) rfl rfl rfl ?_
              refine aq_wanted (j := 42) rfl ?_
              refine aq_p (ov_fieldAddr (k := 1) (r := 1) rfl rfl rfl rfl) rfl rfl rfl ?_
              refine aq_wanted (j := 42) rfl ?_
              refine aq_v (ov_load rfl rfl rfl (fun _ s => s.ld (k := 0) rfl rfl)) rfl rfl rfl ?_
              refine aq_wanted (j := 42) rfl ?_
              refine aq_p (ov_int rfl rfl rfl rfl) rfl rfl rfl ?_
              refine aq_wanted (j := 42) rfl ?_
              refine aq_p (ov_move rfl rfl) rfl rfl rfl ?_
              refine at_reval 113 (.bool false) rfl (congrArg Value.bool (decide_eq_false (by omega))) ?_
              refine aq_unwanted (j := 46) rfl rfl rfl rfl rfl ?_
              refine aq_unwanted (j := 46) rfl rfl rfl rfl rfl ?_
              refine aq_unwanted (j := 46) rfl rfl rfl rfl rfl ?_
              refine aq_wanted (j := 42) rfl ?_
              refine aq_p (ov_pick_f rfl rfl rfl) rfl rfl rfl ?_
              refine aq_p (ov_pick_f rfl rfl rfl) rfl rfl rfl ?_
              refine aq_nil ?_
              refine at_normal ?_
              refine hK22 _ _ _ ?_
              refine at_cond_false rfl ?_
              refine at_skip ?_
              refine at_normal ?_
              refine hK21 _ _ _ ?_
              refine at_seq_k (fun K23 hK23 => ?_)
              refine at_seq_k (fun K24 hK24 => ?_)
              refine at_region ?_
              refine at_v (ov_move rfl rfl) rfl rfl rfl ?_
              refine at_v (ov_len_slice rfl Try.underlying34 rfl) rfl rfl rfl ?_
              refine at_v (ov_move rfl rfl) rfl rfl rfl ?_
              refine at_nil ?_
              refine at_normal ?_
              refine hK24 _ _ _ ?_
              refine at_block ?_
              refine at_loopE [122, 123, 124, 125, 18, 17, 126, 127, 128, 129, 130, 131, 132, 133, 134, 135, 136, 137, 138, 139, 140, 8, 141, 121] (fun q => q ≤ (doP p x).cs.length) (fun q => [(121, .int .i64 (q : Nat))]) (fun i m => m) (fun q => (doP p x).cs.length - q) 0 (Nat.zero_le _) ⟨rfl, trivial⟩ (fun _ s => s) ?_
              intro q hq
              refine at_seq_k (fun K25 hK25 => ?_)
              refine at_region ?_
              refine at_v (ov_int rfl rfl rfl rfl) rfl rfl rfl ?_
              refine at_nil ?_
              refine at_normal ?_
              refine hK25 _ _ _ ?_
              refine at_seq_k (fun K26 hK26 => ?_)
              refine at_cond rfl (fun hc => ?_) (fun hc => ?_)
              · have hqt : q < (doP p x).cs.length := by simpa using hc
                obtain ⟨z, hz⟩ : ∃ z, (doP p x).cs[q]? = some z := ⟨_, List.getElem?_eq_getElem hqt⟩
                by_cases hjq : (j + 1) = q
                · subst hjq
                  refine at_skip ?_
                  refine at_normal ?_
                  refine hK26 _ _ _ ?_
                  refine at_seq_k (fun K27 hK27 => ?_)
                  refine at_block ?_
                  refine at_seq_k (fun K28 hK28 => ?_)
                  refine at_region ?_
                  refine at_v (ov_move rfl rfl) rfl rfl rfl ?_
                  refine at_v (ov_indexRd (fun _ s => s.rd (k := 3) rfl) rfl Try.underlying34 rfl rfl rfl hy) rfl rfl rfl ?_
                  refine at_v (ov_loadRdS (vs := [_, _, _, _, _, _]) (fun _ s => s.rd (k := 3) rfl) rfl rfl rfl hy rfl rfl) rfl rfl rfl ?_
                  refine at_t (ot_allocA rfl Try.zeroValue39) rfl rfl rfl ?_
                  rintro _ _ ⟨g2, rfl, rfl⟩
                  refine at_v (ov_assign rfl rfl) rfl rfl rfl ?_
                  refine at_t0 (ot_store (k := 0) rfl rfl rfl rfl rfl rfl rfl) rfl rfl ?_
                  rintro _ _ ⟨rfl, rfl⟩
                  simp only [setAt, splice, spliceL, Value.cells]
                  refine at_nil ?_
                  refine at_normal ?_
                  refine hK28 _ _ _ ?_
                  refine at_seq_k (fun K29 hK29 => ?_)
                  refine at_region ?_
                  refine at_v (ov_move rfl rfl) rfl rfl rfl ?_
                  refine at_v (ov_move rfl rfl) rfl rfl rfl ?_
                  refine at_v (ov_int rfl rfl rfl rfl) rfl rfl rfl ?_
                  refine at_v (ov_move rfl rfl) rfl rfl rfl ?_
                  refine at_reval 129 (.bool false) rfl (congrArg Value.bool (by first | assumption | (rw [Bool.not_eq_false']; exact decide_eq_true (by omega)))) ?_
                  refine at_unwanted (j := 3) rfl rfl rfl rfl ?_
                  refine at_unwanted (j := 3) rfl rfl rfl rfl ?_
                  refine at_unwanted (j := 3) rfl rfl rfl rfl ?_
                  refine at_v (ov_pick_f rfl rfl rfl) rfl rfl rfl ?_
                  refine at_v (ov_move rfl rfl) rfl rfl rfl ?_
                  refine at_unwanted (j := 8) rfl rfl rfl rfl ?_
                  refine at_unwanted (j := 8) rfl rfl rfl rfl ?_
                  refine at_unwanted (j := 8) rfl rfl rfl rfl ?_
                  refine at_unwanted (j := 8) rfl rfl rfl rfl ?_
                  refine at_unwanted (j := 8) rfl rfl rfl rfl ?_
                  refine at_v (ov_pick_f rfl rfl rfl) rfl rfl rfl ?_
                  refine at_nil ?_
                  refine at_normal ?_
                  refine hK29 _ _ _ ?_
                  refine at_cond_false rfl ?_
                  refine at_skip ?_
                  refine at_inb_normal ?_
                  refine at_normal ?_
                  refine hK27 _ _ _ ?_
                  refine at_region ?_
                  refine at_v ((ov_int rfl rfl rfl rfl).eq (congrArg (Value.int .i64) (inK_i64 (by omega) (by omega)))) rfl rfl rfl ?_
                  refine at_v (ov_move rfl rfl) rfl rfl rfl ?_
                  refine at_nil ?_
                  refine at_normal ?_
                  refine at_roundF ((j + 1) + 1) hqt (by omega) ⟨rfl, trivial⟩ rfl ?_
                  exact fun _ s => s.finEq (ks := [1, 1, 1, 1, 1]) (js := [0]) rfl rfl rfl
                · have hi9 : (!decide ((((j + 1) : Nat) : Int) = (q : Int))) = true := by simp; omega
                  refine at_skip ?_
                  refine at_normal ?_
                  refine hK26 _ _ _ ?_
                  refine at_seq_k (fun K27 hK27 => ?_)
                  refine at_block ?_
                  refine at_seq_k (fun K28 hK28 => ?_)
                  refine at_region ?_
                  refine at_v (ov_move rfl rfl) rfl rfl rfl ?_
                  refine at_v (ov_indexRd (fun _ s => s.rd (k := 3) rfl) rfl Try.underlying34 rfl rfl rfl hz) rfl rfl rfl ?_
                  refine at_v (ov_loadRdS (vs := [_, _, _, _, _, _]) (fun _ s => s.rd (k := 3) rfl) rfl rfl rfl hz rfl rfl) rfl rfl rfl ?_
                  refine at_t (ot_allocA rfl Try.zeroValue39) rfl rfl rfl ?_
                  rintro _ _ ⟨g2, rfl, rfl⟩
                  refine at_v (ov_assign rfl rfl) rfl rfl rfl ?_
                  refine at_t0 (ot_store (k := 0) rfl rfl rfl rfl rfl rfl rfl) rfl rfl ?_
                  rintro _ _ ⟨rfl, rfl⟩
                  simp only [setAt, splice, spliceL, Value.cells]
                  refine at_nil ?_
                  refine at_normal ?_
                  refine hK28 _ _ _ ?_
                  refine at_seq_k (fun K29 hK29 => ?_)
                  refine at_region ?_
                  refine at_v (ov_move rfl rfl) rfl rfl rfl ?_
                  refine at_v (ov_move rfl rfl) rfl rfl rfl ?_
                  refine at_v (ov_int rfl rfl rfl rfl) rfl rfl rfl ?_
                  refine at_v (ov_move rfl rfl) rfl rfl rfl ?_
                  refine at_reval 129 (.bool true) rfl (congrArg Value.bool (by first | assumption | (rw [Bool.not_eq_true']; exact decide_eq_false (by omega)))) ?_
                  refine at_wanted (j := 3) rfl ?_
                  refine at_v (ov_fieldAddr (k := 2) (r := 2) rfl rfl rfl rfl) rfl rfl rfl ?_
                  refine at_wanted (j := 3) rfl ?_
                  refine at_v (ov_load rfl rfl rfl (fun _ s => s.ld (k := 1) rfl rfl)) rfl rfl rfl ?_
                  refine at_wanted (j := 3) rfl ?_
                  refine at_v (ov_int rfl rfl rfl rfl) rfl rfl rfl ?_
                  refine at_v (ov_pick_t rfl rfl rfl) rfl rfl rfl ?_
                  refine at_v (ov_move rfl rfl) rfl rfl rfl ?_
                  refine at_reval 134 (.bool false) rfl (congrArg Value.bool (by first | assumption | (rw [Bool.not_eq_false']; exact decide_eq_true (by omega)))) ?_
                  refine at_unwanted (j := 8) rfl rfl rfl rfl ?_
                  refine at_unwanted (j := 8) rfl rfl rfl rfl ?_
                  refine at_unwanted (j := 8) rfl rfl rfl rfl ?_
                  refine at_unwanted (j := 8) rfl rfl rfl rfl ?_
                  refine at_unwanted (j := 8) rfl rfl rfl rfl ?_
                  refine at_v (ov_pick_f rfl rfl rfl) rfl rfl rfl ?_
                  refine at_nil ?_
                  refine at_normal ?_
                  refine hK29 _ _ _ ?_
                  refine at_cond_false rfl ?_
                  refine at_skip ?_
                  refine at_inb_normal ?_
                  refine at_normal ?_
                  refine hK27 _ _ _ ?_
                  refine at_region ?_
                  refine at_v ((ov_int rfl rfl rfl rfl).eq (congrArg (Value.int .i64) (inK_i64 (by omega) (by omega)))) rfl rfl rfl ?_
                  refine at_v (ov_move rfl rfl) rfl rfl rfl ?_
                  refine at_nil ?_
                  refine at_normal ?_
                  refine at_roundF (q + 1) hqt (by omega) ⟨rfl, trivial⟩ rfl ?_
                  exact fun _ s => s.finEq (ks := [1, 1, 1, 1, 1]) (js := [0]) rfl rfl rfl
              · refine at_exit ?_
                refine at_then_exit ?_
                refine at_then_exit ?_
                refine at_exit_eq ?_
                refine at_normal ?_
                refine hK23 _ _ _ ?_
                refine at_seq_k (fun K27 hK27 => ?_)
                refine at_region ?_
                refine at_v (ov_move rfl rfl) rfl rfl rfl ?_
                refine at_v (ov_len_slice rfl Try.underlying36 rfl) rfl rfl rfl ?_
                refine at_v (ov_move rfl rfl) rfl rfl rfl ?_
                refine at_nil ?_
                refine at_normal ?_
                refine hK27 _ _ _ ?_
                refine at_block ?_
                refine at_loopE [145, 146, 147, 20, 148, 149, 150, 151, 8, 152, 144] (fun q => q ≤ (doP p x).L.length) (fun q => [(144, .int .i64 (q : Nat))]) (fun i m => m) (fun q => (doP p x).L.length - q) 0 (Nat.zero_le _) ⟨rfl, trivial⟩ (fun _ s => s) ?_
                intro q hq
                refine at_seq_k (fun K28 hK28 => ?_)
                refine at_region ?_
                refine at_v (ov_int rfl rfl rfl rfl) rfl rfl rfl ?_
                refine at_nil ?_
                refine at_normal ?_
                refine hK28 _ _ _ ?_
                refine at_seq_k (fun K29 hK29 => ?_)
                refine at_cond rfl (fun hc => ?_) (fun hc => ?_)
                · have hqt : q < (doP p x).L.length := by simpa using hc
                  obtain ⟨se, hse⟩ : ∃ se, (doP p x).L[q]? = some se := ⟨_, List.getElem?_eq_getElem hqt⟩
                  have hps := hw2.pos se (List.mem_of_getElem? hse)
                  have hi10 : ¬ se = max y.2.1.o 0 := by
                    have := hps.2 y hym
                    have := hps.1
                    omega
                  refine at_skip ?_
                  refine at_normal ?_
                  refine hK29 _ _ _ ?_
                  refine at_seq_k (fun K30 hK30 => ?_)
                  refine at_block ?_
                  refine at_seq_k (fun K31 hK31 => ?_)
                  refine at_region ?_
                  refine at_v (ov_indexRd (fun _ s => s.rd (k := 1) rfl) rfl Try.underlying36 rfl rfl rfl hse) rfl rfl rfl ?_
                  refine at_v (ov_loadRd0 (fun _ s => s.rd (k := 1) rfl) rfl rfl rfl hse rfl) rfl rfl rfl ?_
                  refine at_v (ov_assign rfl rfl) rfl rfl rfl ?_
                  refine at_nil ?_
                  refine at_normal ?_
                  refine hK31 _ _ _ ?_
                  refine at_seq_k (fun K32 hK32 => ?_)
                  refine at_region ?_
                  refine at_v (ov_move rfl rfl) rfl rfl rfl ?_
                  refine at_v (ov_fieldAddr (k := 2) (r := 2) rfl rfl rfl rfl) rfl rfl rfl ?_
                  refine at_v (ov_load rfl rfl rfl (fun _ s => s.ld (k := 0) rfl rfl)) rfl rfl rfl ?_
                  refine at_v (ov_int rfl rfl rfl rfl) rfl rfl rfl ?_
                  refine at_nil ?_
                  refine at_normal ?_
                  refine hK32 _ _ _ ?_
                  refine at_cond_false (congrArg (fun b => some (Value.bool b)) (show _ = false from decide_eq_false (by omega))) ?_
                  refine at_skip ?_
                  refine at_inb_normal ?_
                  refine at_normal ?_
                  refine hK30 _ _ _ ?_
                  refine at_region ?_
                  refine at_v ((ov_int rfl rfl rfl rfl).eq (congrArg (Value.int .i64) (inK_i64 (by omega) (by omega)))) rfl rfl rfl ?_
                  refine at_v (ov_move rfl rfl) rfl rfl rfl ?_
                  refine at_nil ?_
                  refine at_normal ?_
                  refine at_roundF (q + 1) hqt (by omega) ⟨rfl, trivial⟩ rfl ?_
                  exact fun _ s => s.finEq (ks := [0, 0, 0, 0, 0]) (js := []) rfl rfl rfl
                · refine at_exit ?_
                  refine at_then_exit ?_
                  refine at_then_exit ?_
                  refine at_exit_eq ?_
                  refine at_inb_normal ?_
                  refine at_normal ?_
                  refine hK19 _ _ _ ?_
                  refine at_region ?_
                  refine at_v ((ov_int rfl rfl rfl rfl).eq (congrArg (Value.int .i64) (inK_i64 (by omega) (by omega)))) rfl rfl rfl ?_
                  refine at_v (ov_move rfl rfl) rfl rfl rfl ?_
                  refine at_nil ?_
                  refine at_normal ?_
                  refine at_roundF ((j + 1) + 1) hjt (by omega) ⟨rfl, trivial⟩ rfl ?_
                  exact fun _ s => s.finEq (ks := [1, 1, 1, 1]) (js := [0]) rfl rfl rfl
  
            · by_cases hi7 : y.2.1.f = 0
              · refine at_rowSome (enc := infoE) (xs := (doP p x).cs) 2 rfl (fun e => by rw [e] at hu; simp at hu) fun hsome => ?_
                refine at_skip ?_
                refine at_normal ?_
                refine hK18 _ _ _ ?_
                refine at_seq_k (fun K19 hK19 => ?_)
                refine at_block ?_
                refine at_seq_k (fun K20 hK20 => ?_)
                refine at_region ?_
                refine at_v (ov_move rfl rfl) rfl rfl rfl ?_
                refine at_v (ov_indexRd (fun _ s => s.rd (k := 2) rfl) rfl Try.underlying34 rfl rfl rfl hy) rfl rfl rfl ?_
                refine at_v (ov_loadRdS (vs := [_, _, _, _, _, _]) (fun _ s => s.rd (k := 2) rfl) rfl rfl rfl hy rfl rfl) rfl rfl rfl ?_
                refine at_t (ot_allocA rfl Try.zeroValue39) rfl rfl rfl ?_
                rintro _ _ ⟨g1, rfl, rfl⟩
                refine at_v (ov_assign rfl rfl) rfl rfl rfl ?_
                refine at_t0 (ot_store (k := 0) rfl rfl rfl rfl rfl rfl rfl) rfl rfl ?_
                rintro _ _ ⟨rfl, rfl⟩
                simp only [setAt, splice, spliceL, Value.cells]
                refine at_nil ?_
                refine at_normal ?_
                refine hK20 _ _ _ ?_
                refine at_seq_k (fun K21 hK21 => ?_)
                refine at_seq_k (fun K22 hK22 => ?_)
                refine at_draw _ [] 1000 [(2, 0), (2, 1), (2, 2), (2, 3), (2, 4), (2, 5), (1, 6), (2, 7), (1, 8), (2, 9), (1, 10), (2, 11), (2, 12), (2, 13), (2, 14), (1, 15), (2, 16), (2, 17), (1, 18), (2, 19), (2, 20), (2, 21), (2, 22), (2, 23), (1, 24), (2, 25), (2, 26), (2, 27), (2, 28), (1, 29), (2, 30), (2, 31), (2, 32), (2, 33), (1, 34), (2, 35), (2, 36), (2, 37), (1, 38), (2, 39), (2, 40), (2, 41), (2, 42), (2, 43), (1, 44), (2, 45), (2, 46), (2, 47), (1, 48), (2, 49), (2, 50), (2, 51)] (by kernel_rfl) (by kernel_rfl) (fun _ s => (s.pulls (ks := [0, 2]) rfl).left) ?_
                refine aq_p (ov_move rfl rfl) rfl rfl rfl ?_
                refine aq_p (ov_int rfl rfl rfl rfl) rfl rfl rfl ?_
                refine aq_p (ov_move rfl rfl) rfl rfl rfl ?_
                refine at_reval 69 (.bool true) rfl (congrArg Value.bool (decide_eq_true (by omega))) ?_
                refine aq_wanted (j := 2) rfl ?_
                refine aq_p (ov_move rfl rfl) rfl rfl rfl ?_
                refine aq_wanted (j := 2) rfl ?_
                refine aq_p (ov_move rfl rfl) rfl rfl rfl ?_
                refine aq_wanted (j := 2) rfl ?_
                refine aq_p ((ov_int rfl rfl rfl rfl).eq (congrArg (Value.int .i64) (inK_pred (by omega)))) rfl rfl rfl ?_
                refine aq_wanted (j := 2) rfl ?_
                refine aq_v (ov_indexRd (fun _ s => s.rd (k := 1) rfl) rfl Try.underlying34 rfl rfl rfl hu) rfl rfl rfl ?_
                refine aq_wanted (j := 2) rfl ?_
                refine aq_p (ov_fieldE (k := 0) (by assumption) rfl rfl rfl) rfl rfl rfl ?_
                refine aq_wanted (j := 2) rfl ?_
                refine aq_v (ov_loadRd0 (fun _ s => s.rd (k := 1) rfl) rfl rfl rfl hu rfl) rfl rfl rfl ?_
                refine aq_wanted (j := 2) rfl ?_
                refine aq_p (ov_fieldAddr (k := 0) (r := 0) rfl rfl rfl rfl) rfl rfl rfl ?_
                refine aq_wanted (j := 2) rfl ?_
                refine aq_v (ov_load rfl rfl rfl (fun _ s => s.ld (k := 0) rfl rfl)) rfl rfl rfl ?_
                refine aq_wanted (j := 2) rfl ?_
                refine aq_p (ov_int rfl rfl rfl rfl) rfl rfl rfl ?_
                refine aq_p (ov_pick_t rfl rfl rfl) rfl rfl rfl ?_
                refine aq_p (ov_move rfl rfl) rfl rfl rfl ?_
                refine at_reval 80 (.bool false) rfl (congrArg Value.bool (decide_eq_false (by omega))) ?_
                refine aq_wanted (j := 13) rfl ?_
                refine aq_p (ov_fieldAddr (k := 2) (r := 2) rfl rfl rfl rfl) rfl rfl rfl ?_
                refine aq_wanted (j := 13) rfl ?_
                refine aq_v (ov_load rfl rfl rfl (fun _ s => s.ld (k := 0) rfl rfl)) rfl rfl rfl ?_
                refine aq_wanted (j := 13) rfl ?_
                refine aq_p (ov_int rfl rfl rfl rfl) rfl rfl rfl ?_
                refine aq_wanted (j := 13) rfl ?_
                refine aq_p (ov_fieldAddr (k := 1) (r := 1) rfl rfl rfl rfl) rfl rfl rfl ?_
                refine aq_wanted (j := 13) rfl ?_
                refine aq_v (ov_load rfl rfl rfl (fun _ s => s.ld (k := 0) rfl rfl)) rfl rfl rfl ?_
                refine aq_wanted (j := 13) rfl ?_
                refine aq_p (ov_int rfl rfl rfl rfl) rfl rfl rfl ?_
                refine aq_wanted (j := 13) rfl ?_
                refine aq_p (ov_boolne rfl Try.underlying4 rfl rfl) rfl rfl rfl ?_
                refine aq_p (ov_pick_f rfl rfl rfl) rfl rfl rfl ?_
                refine aq_p (ov_move rfl rfl) rfl rfl rfl ?_
                refine at_reval 89 (.bool false) rfl (congrArg Value.bool (by simp [hi1, hc, hi2, hi3, hc, hi4, hi5, hi6, hi7]; done)) ?_
                refine aq_wanted (j := 22) rfl ?_
                refine aq_p (ov_fieldAddr (k := 1) (r := 1) rfl rfl rfl rfl) rfl rfl rfl ?_
                refine aq_wanted (j := 22) rfl ?_
                refine aq_v (ov_load rfl rfl rfl (fun _ s => s.ld (k := 0) rfl rfl)) rfl rfl rfl ?_
                refine aq_wanted (j := 22) rfl ?_
                refine aq_p (ov_int rfl rfl rfl rfl) rfl rfl rfl ?_
                refine aq_p (ov_pick_f rfl rfl rfl) rfl rfl rfl ?_
                refine aq_p (ov_move rfl rfl) rfl rfl rfl ?_
                refine at_reval 94 (.bool false) rfl (congrArg Value.bool (decide_eq_false (by omega))) ?_
                refine aq_wanted (j := 27) rfl ?_
                refine aq_p (ov_fieldAddr (k := 1) (r := 1) rfl rfl rfl rfl) rfl rfl rfl ?_
                refine aq_wanted (j := 27) rfl ?_
                refine aq_v (ov_load rfl rfl rfl (fun _ s => s.ld (k := 0) rfl rfl)) rfl rfl rfl ?_
                refine aq_wanted (j := 27) rfl ?_
                refine aq_p (ov_int rfl rfl rfl rfl) rfl rfl rfl ?_
                refine aq_p (ov_pick_f rfl rfl rfl) rfl rfl rfl ?_
                refine aq_p (ov_move rfl rfl) rfl rfl rfl ?_
                refine at_reval 99 (.bool false) rfl (congrArg Value.bool (decide_eq_false (by omega))) ?_
                refine aq_wanted (j := 32) rfl ?_
                refine aq_p (ov_fieldAddr (k := 4) (r := 4) rfl rfl rfl rfl) rfl rfl rfl ?_
                refine aq_wanted (j := 32) rfl ?_
                refine aq_v (ov_load rfl rfl rfl (fun _ s => s.ld (k := 0) rfl rfl)) rfl rfl rfl ?_
                refine aq_wanted (j := 32) rfl ?_
                refine aq_p (ov_int rfl rfl rfl rfl) rfl rfl rfl ?_
                refine aq_wanted (j := 32) rfl ?_
                refine aq_p (ov_move rfl rfl) rfl rfl rfl ?_
                refine at_reval 103 (.bool false) rfl (congrArg Value.bool (by first | assumption | (rw [Bool.not_eq_false']; exact decide_eq_true (by omega)))) ?_
                refine aq_unwanted (j := 36) rfl rfl rfl rfl rfl ?_
                refine aq_unwanted (j := 36) rfl rfl rfl rfl rfl ?_
                refine aq_unwanted (j := 36) rfl rfl rfl rfl rfl ?_
                refine aq_wanted (j := 32) rfl ?_
                refine aq_p (ov_pick_f rfl rfl rfl) rfl rfl rfl ?_
                refine aq_p (ov_pick_f rfl rfl rfl) rfl rfl rfl ?_
                refine aq_p (ov_move rfl rfl) rfl rfl rfl ?_
                refine aq_wanted (j := 42) rfl ?_
                refine aq_p (ov_fieldAddr (k := 1) (r := 1) rfl rfl rfl rfl) rfl rfl rfl ?_
                refine aq_wanted (j := 42) rfl ?_
                refine aq_v (ov_load rfl rfl rfl (fun _ s => s.ld (k := 0) rfl rfl)) rfl rfl rfl ?_
                refine aq_wanted (j := 42) rfl ?_
                refine aq_p (ov_int rfl rfl rfl rfl) rfl rfl rfl ?_
                refine aq_wanted (j := 42) rfl ?_
                refine aq_p (ov_move rfl rfl) rfl rfl rfl ?_
                refine at_reval 113 (.bool false) rfl (congrArg Value.bool (decide_eq_false (by omega))) ?_
                refine aq_unwanted (j := 46) rfl rfl rfl rfl rfl ?_
                refine aq_unwanted (j := 46) rfl rfl rfl rfl rfl ?_
                refine aq_unwanted (j := 46) rfl rfl rfl rfl rfl ?_
                refine aq_wanted (j := 42) rfl ?_
                refine aq_p (ov_pick_f rfl rfl rfl) rfl rfl rfl ?_
                refine aq_p (ov_pick_f rfl rfl rfl) rfl rfl rfl ?_
                refine aq_nil ?_
                refine at_normal ?_
                refine hK22 _ _ _ ?_
                refine at_cond_false rfl ?_
                refine at_skip ?_
                refine at_normal ?_
                refine hK21 _ _ _ ?_
                refine at_seq_k (fun K23 hK23 => ?_)
                refine at_seq_k (fun K24 hK24 => ?_)
                refine at_region ?_
                refine at_v (ov_move rfl rfl) rfl rfl rfl ?_
                refine at_v (ov_len_slice rfl Try.underlying34 rfl) rfl rfl rfl ?_
                refine at_v (ov_move rfl rfl) rfl rfl rfl ?_
                refine at_nil ?_
                refine at_normal ?_
                refine hK24 _ _ _ ?_
                refine at_block ?_
                refine at_loopE [122, 123, 124, 125, 18, 17, 126, 127, 128, 129, 130, 131, 132, 133, 134, 135, 136, 137, 138, 139, 140, 8, 141, 121] (fun q => q ≤ (doP p x).cs.length) (fun q => [(121, .int .i64 (q : Nat))]) (fun i m => m) (fun q => (doP p x).cs.length - q) 0 (Nat.zero_le _) ⟨rfl, trivial⟩ (fun _ s => s) ?_
                intro q hq
                refine at_seq_k (fun K25 hK25 => ?_)
                refine at_region ?_
                refine at_v (ov_int rfl rfl rfl rfl) rfl rfl rfl ?_
                refine at_nil ?_
                refine at_normal ?_
                refine hK25 _ _ _ ?_
                refine at_seq_k (fun K26 hK26 => ?_)
                refine at_cond rfl (fun hc => ?_) (fun hc => ?_)
                · have hqt : q < (doP p x).cs.length := by simpa using hc
                  obtain ⟨z, hz⟩ : ∃ z, (doP p x).cs[q]? = some z := ⟨_, List.getElem?_eq_getElem hqt⟩
                  by_cases hjq : (j + 1) = q
                  · subst hjq
                    refine at_skip ?_
                    refine at_normal ?_
                    refine hK26 _ _ _ ?_
                    refine at_seq_k (fun K27 hK27 => ?_)
                    refine at_block ?_
                    refine at_seq_k (fun K28 hK28 => ?_)
                    refine at_region ?_
                    refine at_v (ov_move rfl rfl) rfl rfl rfl ?_
                    refine at_v (ov_indexRd (fun _ s => s.rd (k := 3) rfl) rfl Try.underlying34 rfl rfl rfl hy) rfl rfl rfl ?_
                    refine at_v (ov_loadRdS (vs := [_, _, _, _, _, _]) (fun _ s => s.rd (k := 3) rfl) rfl rfl rfl hy rfl rfl) rfl rfl rfl ?_
                    refine at_t (ot_allocA rfl Try.zeroValue39) rfl rfl rfl ?_
                    rintro _ _ ⟨g2, rfl, rfl⟩
                    refine at_v (ov_assign rfl rfl) rfl rfl rfl ?_
                    refine at_t0 (ot_store (k := 0) rfl rfl rfl rfl rfl rfl rfl) rfl rfl ?_
                    rintro _ _ ⟨rfl, rfl⟩
                    simp only [setAt, splice, spliceL, Value.cells]
                    refine at_nil ?_
                    refine at_normal ?_
                    refine hK28 _ _ _ ?_
                    refine at_seq_k (fun K29 hK29 => ?_)
                    refine at_region ?_
                    refine at_v (ov_move rfl rfl) rfl rfl rfl ?_
                    refine at_v (ov_move rfl rfl) rfl rfl rfl ?_
                    refine at_v (ov_int rfl rfl rfl rfl) rfl rfl rfl ?_
                    refine at_v (ov_move rfl rfl) rfl rfl rfl ?_
                    refine at_reval 129 (.bool false) rfl (congrArg Value.bool (by first | assumption | (rw [Bool.not_eq_false']; exact decide_eq_true (by omega)))) ?_
                    refine at_unwanted (j := 3) rfl rfl rfl rfl ?_
                    refine at_unwanted (j := 3) rfl rfl rfl rfl ?_
                    refine at_unwanted (j := 3) rfl rfl rfl rfl ?_
                    refine at_v (ov_pick_f rfl rfl rfl) rfl rfl rfl ?_
                    refine at_v (ov_move rfl rfl) rfl rfl rfl ?_
                    refine at_unwanted (j := 8) rfl rfl rfl rfl ?_
                    refine at_unwanted (j := 8) rfl rfl rfl rfl ?_
                    refine at_unwanted (j := 8) rfl rfl rfl rfl ?_
                    refine at_unwanted (j := 8) rfl rfl rfl rfl ?_
                    refine at_unwanted (j := 8) rfl rfl rfl rfl ?_
                    refine at_v (ov_pick_f rfl rfl rfl) rfl rfl rfl ?_
                    refine at_nil ?_
                    refine at_normal ?_
                    refine hK29 _ _ _ ?_
                    refine at_cond_false rfl ?_
                    refine at_skip ?_
                    refine at_inb_normal ?_
                    refine at_normal ?_
                    refine hK27 _ _ _ ?_
                    refine at_region ?_
                    refine at_v ((ov_int rfl rfl rfl rfl).eq (congrArg (Value.int .i64) (inK_i64 (by omega) (by omega)))) rfl rfl rfl ?_
                    refine at_v (ov_move rfl rfl) rfl rfl rfl ?_
                    refine at_nil ?_
                    refine at_normal ?_
                    refine at_roundF ((j + 1) + 1) hqt (by omega) ⟨rfl, trivial⟩ rfl ?_
                    exact fun _ s => s.finEq (ks := [1, 1, 1, 1, 1]) (js := [0]) rfl rfl rfl
                  · have hi9 : (!decide ((((j + 1) : Nat) : Int) = (q : Int))) = true := by simp; omega
                    have hi11 := own_ne hw2 hy hz hjq hi5
                    refine at_skip ?_
                    refine at_normal ?_
                    refine hK26 _ _ _ ?_
                    refine at_seq_k (fun K27 hK27 => ?_)
                    refine at_block ?_
                    refine at_seq_k (fun K28 hK28 => ?_)
                    refine at_region ?_
                    refine at_v (ov_move rfl rfl) rfl rfl rfl ?_
                    refine at_v (ov_indexRd (fun _ s => s.rd (k := 3) rfl) rfl Try.underlying34 rfl rfl rfl hz) rfl rfl rfl ?_
                    refine at_v (ov_loadRdS (vs := [_, _, _, _, _, _]) (fun _ s => s.rd (k := 3) rfl) rfl rfl rfl hz rfl rfl) rfl rfl rfl ?_
                    refine at_t (ot_allocA rfl Try.zeroValue39) rfl rfl rfl ?_
                    rintro _ _ ⟨g2, rfl, rfl⟩
                    refine at_v (ov_assign rfl rfl) rfl rfl rfl ?_
                    refine at_t0 (ot_store (k := 0) rfl rfl rfl rfl rfl rfl rfl) rfl rfl ?_
                    rintro _ _ ⟨rfl, rfl⟩
                    simp only [setAt, splice, spliceL, Value.cells]
                    refine at_nil ?_
                    refine at_normal ?_
                    refine hK28 _ _ _ ?_
                    refine at_seq_k (fun K29 hK29 => ?_)
                    refine at_region ?_
                    refine at_v (ov_move rfl rfl) rfl rfl rfl ?_
                    refine at_v (ov_move rfl rfl) rfl rfl rfl ?_
                    refine at_v (ov_int rfl rfl rfl rfl) rfl rfl rfl ?_
                    refine at_v (ov_move rfl rfl) rfl rfl rfl ?_
                    refine at_reval 129 (.bool true) rfl (congrArg Value.bool (by first | assumption | (rw [Bool.not_eq_true']; exact decide_eq_false (by omega)))) ?_
                    refine at_wanted (j := 3) rfl ?_
                    refine at_v (ov_fieldAddr (k := 2) (r := 2) rfl rfl rfl rfl) rfl rfl rfl ?_
                    refine at_wanted (j := 3) rfl ?_
                    refine at_v (ov_load rfl rfl rfl (fun _ s => s.ld (k := 1) rfl rfl)) rfl rfl rfl ?_
                    refine at_wanted (j := 3) rfl ?_
                    refine at_v (ov_int rfl rfl rfl rfl) rfl rfl rfl ?_
                    refine at_v (ov_pick_t rfl rfl rfl) rfl rfl rfl ?_
                    refine at_v (ov_move rfl rfl) rfl rfl rfl ?_
                    refine at_reval 134 (.bool true) rfl (congrArg Value.bool (by first | assumption | (rw [Bool.not_eq_true']; exact decide_eq_false (by omega)))) ?_
                    refine at_wanted (j := 8) rfl ?_
                    refine at_v (ov_fieldAddr (k := 2) (r := 2) rfl rfl rfl rfl) rfl rfl rfl ?_
                    refine at_wanted (j := 8) rfl ?_
                    refine at_v (ov_load rfl rfl rfl (fun _ s => s.ld (k := 1) rfl rfl)) rfl rfl rfl ?_
                    refine at_wanted (j := 8) rfl ?_
                    refine at_v (ov_fieldAddr (k := 2) (r := 2) rfl rfl rfl rfl) rfl rfl rfl ?_
                    refine at_wanted (j := 8) rfl ?_
                    refine at_v (ov_load rfl rfl rfl (fun _ s => s.ld (k := 0) rfl rfl)) rfl rfl rfl ?_
                    refine at_wanted (j := 8) rfl ?_
                    refine at_v (ov_int rfl rfl rfl rfl) rfl rfl rfl ?_
                    refine at_v (ov_pick_t rfl rfl rfl) rfl rfl rfl ?_
                    refine at_nil ?_
                    refine at_normal ?_
                    refine hK29 _ _ _ ?_
                    refine at_cond_false (congrArg (fun b => some (Value.bool b)) (show _ = false from decide_eq_false (by omega))) ?_
                    refine at_skip ?_
                    refine at_inb_normal ?_
                    refine at_normal ?_
                    refine hK27 _ _ _ ?_
                    refine at_region ?_
                    refine at_v ((ov_int rfl rfl rfl rfl).eq (congrArg (Value.int .i64) (inK_i64 (by omega) (by omega)))) rfl rfl rfl ?_
                    refine at_v (ov_move rfl rfl) rfl rfl rfl ?_
                    refine at_nil ?_
                    refine at_normal ?_
                    refine at_roundF (q + 1) hqt (by omega) ⟨rfl, trivial⟩ rfl ?_
                    exact fun _ s => s.finEq (ks := [1, 1, 1, 1, 1]) (js := [0]) rfl rfl rfl
                · refine at_exit ?_
                  refine at_then_exit ?_
                  refine at_then_exit ?_
                  refine at_exit_eq ?_
                  refine at_normal ?_
                  refine hK23 _ _ _ ?_
                  refine at_seq_k (fun K27 hK27 => ?_)
                  refine at_region ?_
                  refine at_v (ov_move rfl rfl) rfl rfl rfl ?_
                  refine at_v (ov_len_slice rfl Try.underlying36 rfl) rfl rfl rfl ?_
                  refine at_v (ov_move rfl rfl) rfl rfl rfl ?_
                  refine at_nil ?_
                  refine at_normal ?_
                  refine hK27 _ _ _ ?_
                  refine at_block ?_
                  refine at_loopE [145, 146, 147, 20, 148, 149, 150, 151, 8, 152, 144] (fun q => q ≤ (doP p x).L.length) (fun q => [(144, .int .i64 (q : Nat))]) (fun i m => m) (fun q => (doP p x).L.length - q) 0 (Nat.zero_le _) ⟨rfl, trivial⟩ (fun _ s => s) ?_
                  intro q hq
                  refine at_seq_k (fun K28 hK28 => ?_)
                  refine at_region ?_
                  refine at_v (ov_int rfl rfl rfl rfl) rfl rfl rfl ?_
                  refine at_nil ?_
                  refine at_normal ?_
                  refine hK28 _ _ _ ?_
                  refine at_seq_k (fun K29 hK29 => ?_)
                  refine at_cond rfl (fun hc => ?_) (fun hc => ?_)
                  · have hqt : q < (doP p x).L.length := by simpa using hc
                    obtain ⟨se, hse⟩ : ∃ se, (doP p x).L[q]? = some se := ⟨_, List.getElem?_eq_getElem hqt⟩
                    have hps := hw2.pos se (List.mem_of_getElem? hse)
                    have hi10 : ¬ se = max y.2.1.o 0 := by
                      have := hps.2 y hym
                      have := hps.1
                      omega
                    refine at_skip ?_
                    refine at_normal ?_
                    refine hK29 _ _ _ ?_
                    refine at_seq_k (fun K30 hK30 => ?_)
                    refine at_block ?_
                    refine at_seq_k (fun K31 hK31 => ?_)
                    refine at_region ?_
                    refine at_v (ov_indexRd (fun _ s => s.rd (k := 1) rfl) rfl Try.underlying36 rfl rfl rfl hse) rfl rfl rfl ?_
                    refine at_v (ov_loadRd0 (fun _ s => s.rd (k := 1) rfl) rfl rfl rfl hse rfl) rfl rfl rfl ?_
                    refine at_v (ov_assign rfl rfl) rfl rfl rfl ?_
                    refine at_nil ?_
                    refine at_normal ?_
                    refine hK31 _ _ _ ?_
                    refine at_seq_k (fun K32 hK32 => ?_)
                    refine at_region ?_
                    refine at_v (ov_move rfl rfl) rfl rfl rfl ?_
                    refine at_v (ov_fieldAddr (k := 2) (r := 2) rfl rfl rfl rfl) rfl rfl rfl ?_
                    refine at_v (ov_load rfl rfl rfl (fun _ s => s.ld (k := 0) rfl rfl)) rfl rfl rfl ?_
                    refine at_v (ov_int rfl rfl rfl rfl) rfl rfl rfl ?_
                    refine at_nil ?_
                    refine at_normal ?_
                    refine hK32 _ _ _ ?_
                    refine at_cond_false (congrArg (fun b => some (Value.bool b)) (show _ = false from decide_eq_false (by omega))) ?_
                    refine at_skip ?_
                    refine at_inb_normal ?_
                    refine at_normal ?_
                    refine hK30 _ _ _ ?_
                    refine at_region ?_
                    refine at_v ((ov_int rfl rfl rfl rfl).eq (congrArg (Value.int .i64) (inK_i64 (by omega) (by omega)))) rfl rfl rfl ?_
                    refine at_v (ov_move rfl rfl) rfl rfl rfl ?_
                    refine at_nil ?_
                    refine at_normal ?_
                    refine at_roundF (q + 1) hqt (by omega) ⟨rfl, trivial⟩ rfl ?_
                    exact fun _ s => s.finEq (ks := [0, 0, 0, 0, 0]) (js := []) rfl rfl rfl
                  · refine at_exit ?_
                    refine at_then_exit ?_
                    refine at_then_exit ?_
                    refine at_exit_eq ?_
                    refine at_inb_normal ?_
                    refine at_normal ?_
                    refine hK19 _ _ _ ?_
                    refine at_region ?_
                    refine at_v ((ov_int rfl rfl rfl rfl).eq (congrArg (Value.int .i64) (inK_i64 (by omega) (by omega)))) rfl rfl rfl ?_
                    refine at_v (ov_move rfl rfl) rfl rfl rfl ?_
                    refine at_nil ?_
                    refine at_normal ?_
                    refine at_roundF ((j + 1) + 1) hjt (by omega) ⟨rfl, trivial⟩ rfl ?_
                    exact fun _ s => s.finEq (ks := [1, 1, 1, 1]) (js := [0]) rfl rfl rfl
    
              · refine at_rowSome (enc := infoE) (xs := (doP p x).cs) 2 rfl (fun e => by rw [e] at hu; simp at hu) fun hsome => ?_
                refine at_skip ?_
                refine at_normal ?_
                refine hK18 _ _ _ ?_
                refine at_seq_k (fun K19 hK19 => ?_)
                refine at_block ?_
                refine at_seq_k (fun K20 hK20 => ?_)
                refine at_region ?_
                refine at_v (ov_move rfl rfl) rfl rfl rfl ?_
                refine at_v (ov_indexRd (fun _ s => s.rd (k := 2) rfl) rfl Try.underlying34 rfl rfl rfl hy) rfl rfl rfl ?_
                refine at_v (ov_loadRdS (vs := [_, _, _, _, _, _]) (fun _ s => s.rd (k := 2) rfl) rfl rfl rfl hy rfl rfl) rfl rfl rfl ?_
                refine at_t (ot_allocA rfl Try.zeroValue39) rfl rfl rfl ?_
                rintro _ _ ⟨g1, rfl, rfl⟩
                refine at_v (ov_assign rfl rfl) rfl rfl rfl ?_
                refine at_t0 (ot_store (k := 0) rfl rfl rfl rfl rfl rfl rfl) rfl rfl ?_
                rintro _ _ ⟨rfl, rfl⟩
                simp only [setAt, splice, spliceL, Value.cells]
                refine at_nil ?_
                refine at_normal ?_
                refine hK20 _ _ _ ?_
                refine at_seq_k (fun K21 hK21 => ?_)
                refine at_seq_k (fun K22 hK22 => ?_)
                refine at_draw _ [] 1000 [(2, 0), (2, 1), (2, 2), (2, 3), (2, 4), (2, 5), (1, 6), (2, 7), (1, 8), (2, 9), (1, 10), (2, 11), (2, 12), (2, 13), (2, 14), (1, 15), (2, 16), (2, 17), (1, 18), (2, 19), (2, 20), (2, 21), (2, 22), (2, 23), (1, 24), (2, 25), (2, 26), (2, 27), (2, 28), (1, 29), (2, 30), (2, 31), (2, 32), (2, 33), (1, 34), (2, 35), (2, 36), (2, 37), (1, 38), (2, 39), (2, 40), (2, 41), (2, 42), (2, 43), (1, 44), (2, 45), (2, 46), (2, 47), (1, 48), (2, 49), (2, 50), (2, 51)] (by kernel_rfl) (by kernel_rfl) (fun _ s => (s.pulls (ks := [0, 2]) rfl).left) ?_
                refine aq_p (ov_move rfl rfl) rfl rfl rfl ?_
                refine aq_p (ov_int rfl rfl rfl rfl) rfl rfl rfl ?_
                refine aq_p (ov_move rfl rfl) rfl rfl rfl ?_
                refine at_reval 69 (.bool true) rfl (congrArg Value.bool (decide_eq_true (by omega))) ?_
                refine aq_wanted (j := 2) rfl ?_
                refine aq_p (ov_move rfl rfl) rfl rfl rfl ?_
                refine aq_wanted (j := 2) rfl ?_
                refine aq_p (ov_move rfl rfl) rfl rfl rfl ?_
                refine aq_wanted (j := 2) rfl ?_
                refine aq_p ((ov_int rfl rfl rfl rfl).eq (congrArg (Value.int .i64) (inK_pred (by omega)))) rfl rfl rfl ?_
                refine aq_wanted (j := 2) rfl ?_
                refine aq_v (ov_indexRd (fun _ s => s.rd (k := 1) rfl) rfl Try.underlying34 rfl rfl rfl hu) rfl rfl rfl ?_
                refine aq_wanted (j := 2) rfl ?_
                refine aq_p (ov_fieldE (k := 0) (by assumption) rfl rfl rfl) rfl rfl rfl ?_
                refine aq_wanted (j := 2) rfl ?_
                refine aq_v (ov_loadRd0 (fun _ s => s.rd (k := 1) rfl) rfl rfl rfl hu rfl) rfl rfl rfl ?_
                refine aq_wanted (j := 2) rfl ?_
                refine aq_p (ov_fieldAddr (k := 0) (r := 0) rfl rfl rfl rfl) rfl rfl rfl ?_
                refine aq_wanted (j := 2) rfl ?_
                refine aq_v (ov_load rfl rfl rfl (fun _ s => s.ld (k := 0) rfl rfl)) rfl rfl rfl ?_
                refine aq_wanted (j := 2) rfl ?_
                refine aq_p (ov_int rfl rfl rfl rfl) rfl rfl rfl ?_
                refine aq_p (ov_pick_t rfl rfl rfl) rfl rfl rfl ?_
                refine aq_p (ov_move rfl rfl) rfl rfl rfl ?_
                refine at_reval 80 (.bool false) rfl (congrArg Value.bool (decide_eq_false (by omega))) ?_
                refine aq_wanted (j := 13) rfl ?_
                refine aq_p (ov_fieldAddr (k := 2) (r := 2) rfl rfl rfl rfl) rfl rfl rfl ?_
                refine aq_wanted (j := 13) rfl ?_
                refine aq_v (ov_load rfl rfl rfl (fun _ s => s.ld (k := 0) rfl rfl)) rfl rfl rfl ?_
                refine aq_wanted (j := 13) rfl ?_
                refine aq_p (ov_int rfl rfl rfl rfl) rfl rfl rfl ?_
                refine aq_wanted (j := 13) rfl ?_
                refine aq_p (ov_fieldAddr (k := 1) (r := 1) rfl rfl rfl rfl) rfl rfl rfl ?_
                refine aq_wanted (j := 13) rfl ?_
                refine aq_v (ov_load rfl rfl rfl (fun _ s => s.ld (k := 0) rfl rfl)) rfl rfl rfl ?_
                refine aq_wanted (j := 13) rfl ?_
                refine aq_p (ov_int rfl rfl rfl rfl) rfl rfl rfl ?_
                refine aq_wanted (j := 13) rfl ?_
                refine aq_p (ov_boolne rfl Try.underlying4 rfl rfl) rfl rfl rfl ?_
                refine aq_p (ov_pick_f rfl rfl rfl) rfl rfl rfl ?_
                refine aq_p (ov_move rfl rfl) rfl rfl rfl ?_
                refine at_reval 89 (.bool false) rfl (congrArg Value.bool (by simp [hi1, hc, hi2, hi3, hc, hi4, hi5, hi6, hi7]; done)) ?_
                refine aq_wanted (j := 22) rfl ?_
                refine aq_p (ov_fieldAddr (k := 1) (r := 1) rfl rfl rfl rfl) rfl rfl rfl ?_
                refine aq_wanted (j := 22) rfl ?_
                refine aq_v (ov_load rfl rfl rfl (fun _ s => s.ld (k := 0) rfl rfl)) rfl rfl rfl ?_
                refine aq_wanted (j := 22) rfl ?_
                refine aq_p (ov_int rfl rfl rfl rfl) rfl rfl rfl ?_
                refine aq_p (ov_pick_f rfl rfl rfl) rfl rfl rfl ?_
                refine aq_p (ov_move rfl rfl) rfl rfl rfl ?_
                refine at_reval 94 (.bool false) rfl (congrArg Value.bool (decide_eq_false (by omega))) ?_
                refine aq_wanted (j := 27) rfl ?_
                refine aq_p (ov_fieldAddr (k := 1) (r := 1) rfl rfl rfl rfl) rfl rfl rfl ?_
                refine aq_wanted (j := 27) rfl ?_
                refine aq_v (ov_load rfl rfl rfl (fun _ s => s.ld (k := 0) rfl rfl)) rfl rfl rfl ?_
                refine aq_wanted (j := 27) rfl ?_
                refine aq_p (ov_int rfl rfl rfl rfl) rfl rfl rfl ?_
                refine aq_p (ov_pick_f rfl rfl rfl) rfl rfl rfl ?_
                refine aq_p (ov_move rfl rfl) rfl rfl rfl ?_
                refine at_reval 99 (.bool false) rfl (congrArg Value.bool (decide_eq_false (by omega))) ?_
                refine aq_wanted (j := 32) rfl ?_
                refine aq_p (ov_fieldAddr (k := 4) (r := 4) rfl rfl rfl rfl) rfl rfl rfl ?_
                refine aq_wanted (j := 32) rfl ?_
                refine aq_v (ov_load rfl rfl rfl (fun _ s => s.ld (k := 0) rfl rfl)) rfl rfl rfl ?_
                refine aq_wanted (j := 32) rfl ?_
                refine aq_p (ov_int rfl rfl rfl rfl) rfl rfl rfl ?_
                refine aq_wanted (j := 32) rfl ?_
                refine aq_p (ov_move rfl rfl) rfl rfl rfl ?_
                refine at_reval 103 (.bool true) rfl (congrArg Value.bool (by first | assumption | (rw [Bool.not_eq_true']; exact decide_eq_false (by omega)))) ?_
                refine aq_wanted (j := 36) rfl ?_
                refine aq_p (ov_fieldAddr (k := 2) (r := 2) rfl rfl rfl rfl) rfl rfl rfl ?_
                refine aq_wanted (j := 36) rfl ?_
                refine aq_v (ov_load rfl rfl rfl (fun _ s => s.ld (k := 0) rfl rfl)) rfl rfl rfl ?_
                refine aq_wanted (j := 36) rfl ?_
                refine aq_p (ov_int rfl rfl rfl rfl) rfl rfl rfl ?_
                refine aq_wanted (j := 32) rfl ?_
                refine aq_p (ov_pick_t rfl rfl rfl) rfl rfl rfl ?_
                refine aq_p (ov_pick_f rfl rfl rfl) rfl rfl rfl ?_
                refine aq_p (ov_move rfl rfl) rfl rfl rfl ?_
                refine at_reval 109 (.bool false) rfl (congrArg Value.bool (decide_eq_false (by omega))) ?_
                refine aq_wanted (j := 42) rfl ?_
                refine aq_p (ov_fieldAddr (k := 1) (r := 1) rfl rfl rfl rfl) rfl rfl rfl ?_
                refine aq_wanted (j := 42) rfl ?_
                refine aq_v (ov_load rfl rfl rfl (fun _ s => s.ld (k := 0) rfl rfl)) rfl rfl rfl ?_
                refine aq_wanted (j := 42) rfl ?_
                refine aq_p (ov_int rfl rfl rfl rfl) rfl rfl rfl ?_
                refine aq_wanted (j := 42) rfl ?_
                refine aq_p (ov_move rfl rfl) rfl rfl rfl ?_
                refine at_reval 113 (.bool false) rfl (congrArg Value.bool (decide_eq_false (by omega))) ?_
                refine aq_unwanted (j := 46) rfl rfl rfl rfl rfl ?_
                refine aq_unwanted (j := 46) rfl rfl rfl rfl rfl ?_
                refine aq_unwanted (j := 46) rfl rfl rfl rfl rfl ?_
                refine aq_wanted (j := 42) rfl ?_
                refine aq_p (ov_pick_f rfl rfl rfl) rfl rfl rfl ?_
                refine aq_p (ov_pick_f rfl rfl rfl) rfl rfl rfl ?_
                refine aq_nil ?_
                refine at_normal ?_
                refine hK22 _ _ _ ?_
                refine at_cond_false rfl ?_
                refine at_skip ?_
                refine at_normal ?_
                refine hK21 _ _ _ ?_
                refine at_seq_k (fun K23 hK23 => ?_)
                refine at_seq_k (fun K24 hK24 => ?_)
                refine at_region ?_
                refine at_v (ov_move rfl rfl) rfl rfl rfl ?_
                refine at_v (ov_len_slice rfl Try.underlying34 rfl) rfl rfl rfl ?_
                refine at_v (ov_move rfl rfl) rfl rfl rfl ?_
                refine at_nil ?_
                refine at_normal ?_
                refine hK24 _ _ _ ?_
                refine at_block ?_
                refine at_loopE [122, 123, 124, 125, 18, 17, 126, 127, 128, 129, 130, 131, 132, 133, 134, 135, 136, 137, 138, 139, 140, 8, 141, 121] (fun q => q ≤ (doP p x).cs.length) (fun q => [(121, .int .i64 (q : Nat))]) (fun i m => m) (fun q => (doP p x).cs.length - q) 0 (Nat.zero_le _) ⟨rfl, trivial⟩ (fun _ s => s) ?_
                intro q hq
                refine at_seq_k (fun K25 hK25 => ?_)
                refine at_region ?_
                refine at_v (ov_int rfl rfl rfl rfl) rfl rfl rfl ?_
                refine at_nil ?_
                refine at_normal ?_
                refine hK25 _ _ _ ?_
                refine at_seq_k (fun K26 hK26 => ?_)
                refine at_cond rfl (fun hc => ?_) (fun hc => ?_)
                · have hqt : q < (doP p x).cs.length := by simpa using hc
                  obtain ⟨z, hz⟩ : ∃ z, (doP p x).cs[q]? = some z := ⟨_, List.getElem?_eq_getElem hqt⟩
                  by_cases hjq : (j + 1) = q
                  · subst hjq
                    refine at_skip ?_
                    refine at_normal ?_
                    refine hK26 _ _ _ ?_
                    refine at_seq_k (fun K27 hK27 => ?_)
                    refine at_block ?_
                    refine at_seq_k (fun K28 hK28 => ?_)
                    refine at_region ?_
                    refine at_v (ov_move rfl rfl) rfl rfl rfl ?_
                    refine at_v (ov_indexRd (fun _ s => s.rd (k := 3) rfl) rfl Try.underlying34 rfl rfl rfl hy) rfl rfl rfl ?_
                    refine at_v (ov_loadRdS (vs := [_, _, _, _, _, _]) (fun _ s => s.rd (k := 3) rfl) rfl rfl rfl hy rfl rfl) rfl rfl rfl ?_
                    refine at_t (ot_allocA rfl Try.zeroValue39) rfl rfl rfl ?_
                    rintro _ _ ⟨g2, rfl, rfl⟩
                    refine at_v (ov_assign rfl rfl) rfl rfl rfl ?_
                    refine at_t0 (ot_store (k := 0) rfl rfl rfl rfl rfl rfl rfl) rfl rfl ?_
                    rintro _ _ ⟨rfl, rfl⟩
                    simp only [setAt, splice, spliceL, Value.cells]
                    refine at_nil ?_
                    refine at_normal ?_
                    refine hK28 _ _ _ ?_
                    refine at_seq_k (fun K29 hK29 => ?_)
                    refine at_region ?_
                    refine at_v (ov_move rfl rfl) rfl rfl rfl ?_
                    refine at_v (ov_move rfl rfl) rfl rfl rfl ?_
                    refine at_v (ov_int rfl rfl rfl rfl) rfl rfl rfl ?_
                    refine at_v (ov_move rfl rfl) rfl rfl rfl ?_
                    refine at_reval 129 (.bool false) rfl (congrArg Value.bool (by first | assumption | (rw [Bool.not_eq_false']; exact decide_eq_true (by omega)))) ?_
                    refine at_unwanted (j := 3) rfl rfl rfl rfl ?_
                    refine at_unwanted (j := 3) rfl rfl rfl rfl ?_
                    refine at_unwanted (j := 3) rfl rfl rfl rfl ?_
                    refine at_v (ov_pick_f rfl rfl rfl) rfl rfl rfl ?_
                    refine at_v (ov_move rfl rfl) rfl rfl rfl ?_
                    refine at_unwanted (j := 8) rfl rfl rfl rfl ?_
                    refine at_unwanted (j := 8) rfl rfl rfl rfl ?_
                    refine at_unwanted (j := 8) rfl rfl rfl rfl ?_
                    refine at_unwanted (j := 8) rfl rfl rfl rfl ?_
                    refine at_unwanted (j := 8) rfl rfl rfl rfl ?_
                    refine at_v (ov_pick_f rfl rfl rfl) rfl rfl rfl ?_
                    refine at_nil ?_
                    refine at_normal ?_
                    refine hK29 _ _ _ ?_
                    refine at_cond_false rfl ?_
                    refine at_skip ?_
                    refine at_inb_normal ?_
                    refine at_normal ?_
                    refine hK27 _ _ _ ?_
                    refine at_region ?_
                    refine at_v ((ov_int rfl rfl rfl rfl).eq (congrArg (Value.int .i64) (inK_i64 (by omega) (by omega)))) rfl rfl rfl ?_
                    refine at_v (ov_move rfl rfl) rfl rfl rfl ?_
                    refine at_nil ?_
                    refine at_normal ?_
                    refine at_roundF ((j + 1) + 1) hqt (by omega) ⟨rfl, trivial⟩ rfl ?_
                    exact fun _ s => s.finEq (ks := [1, 1, 1, 1, 1]) (js := [0]) rfl rfl rfl
                  · have hi9 : (!decide ((((j + 1) : Nat) : Int) = (q : Int))) = true := by simp; omega
                    have hi11 := own_ne hw2 hy hz hjq hi5
                    refine at_skip ?_
                    refine at_normal ?_
                    refine hK26 _ _ _ ?_
                    refine at_seq_k (fun K27 hK27 => ?_)
                    refine at_block ?_
                    refine at_seq_k (fun K28 hK28 => ?_)
                    refine at_region ?_
                    refine at_v (ov_move rfl rfl) rfl rfl rfl ?_
                    refine at_v (ov_indexRd (fun _ s => s.rd (k := 3) rfl) rfl Try.underlying34 rfl rfl rfl hz) rfl rfl rfl ?_
                    refine at_v (ov_loadRdS (vs := [_, _, _, _, _, _]) (fun _ s => s.rd (k := 3) rfl) rfl rfl rfl hz rfl rfl) rfl rfl rfl ?_
                    refine at_t (ot_allocA rfl Try.zeroValue39) rfl rfl rfl ?_
                    rintro _ _ ⟨g2, rfl, rfl⟩
                    refine at_v (ov_assign rfl rfl) rfl rfl rfl ?_
                    refine at_t0 (ot_store (k := 0) rfl rfl rfl rfl rfl rfl rfl) rfl rfl ?_
                    rintro _ _ ⟨rfl, rfl⟩
                    simp only [setAt, splice, spliceL, Value.cells]
                    refine at_nil ?_
                    refine at_normal ?_
                    refine hK28 _ _ _ ?_
                    refine at_seq_k (fun K29 hK29 => ?_)
                    refine at_region ?_
                    refine at_v (ov_move rfl rfl) rfl rfl rfl ?_
                    refine at_v (ov_move rfl rfl) rfl rfl rfl ?_
                    refine at_v (ov_int rfl rfl rfl rfl) rfl rfl rfl ?_
                    refine at_v (ov_move rfl rfl) rfl rfl rfl ?_
                    refine at_reval 129 (.bool true) rfl (congrArg Value.bool (by first | assumption | (rw [Bool.not_eq_true']; exact decide_eq_false (by omega)))) ?_
                    refine at_wanted (j := 3) rfl ?_
                    refine at_v (ov_fieldAddr (k := 2) (r := 2) rfl rfl rfl rfl) rfl rfl rfl ?_
                    refine at_wanted (j := 3) rfl ?_
                    refine at_v (ov_load rfl rfl rfl (fun _ s => s.ld (k := 1) rfl rfl)) rfl rfl rfl ?_
                    refine at_wanted (j := 3) rfl ?_
                    refine at_v (ov_int rfl rfl rfl rfl) rfl rfl rfl ?_
                    refine at_v (ov_pick_t rfl rfl rfl) rfl rfl rfl ?_
                    refine at_v (ov_move rfl rfl) rfl rfl rfl ?_
                    refine at_reval 134 (.bool true) rfl (congrArg Value.bool (by first | assumption | (rw [Bool.not_eq_true']; exact decide_eq_false (by omega)))) ?_
                    refine at_wanted (j := 8) rfl ?_
                    refine at_v (ov_fieldAddr (k := 2) (r := 2) rfl rfl rfl rfl) rfl rfl rfl ?_
                    refine at_wanted (j := 8) rfl ?_
                    refine at_v (ov_load rfl rfl rfl (fun _ s => s.ld (k := 1) rfl rfl)) rfl rfl rfl ?_
                    refine at_wanted (j := 8) rfl ?_
                    refine at_v (ov_fieldAddr (k := 2) (r := 2) rfl rfl rfl rfl) rfl rfl rfl ?_
                    refine at_wanted (j := 8) rfl ?_
                    refine at_v (ov_load rfl rfl rfl (fun _ s => s.ld (k := 0) rfl rfl)) rfl rfl rfl ?_
                    refine at_wanted (j := 8) rfl ?_
                    refine at_v (ov_int rfl rfl rfl rfl) rfl rfl rfl ?_
                    refine at_v (ov_pick_t rfl rfl rfl) rfl rfl rfl ?_
                    refine at_nil ?_
                    refine at_normal ?_
                    refine hK29 _ _ _ ?_
                    refine at_cond_false (congrArg (fun b => some (Value.bool b)) (show _ = false from decide_eq_false (by omega))) ?_
                    refine at_skip ?_
                    refine at_inb_normal ?_
                    refine at_normal ?_
                    refine hK27 _ _ _ ?_
                    refine at_region ?_
                    refine at_v ((ov_int rfl rfl rfl rfl).eq (congrArg (Value.int .i64) (inK_i64 (by omega) (by omega)))) rfl rfl rfl ?_
                    refine at_v (ov_move rfl rfl) rfl rfl rfl ?_
                    refine at_nil ?_
                    refine at_normal ?_
                    refine at_roundF (q + 1) hqt (by omega) ⟨rfl, trivial⟩ rfl ?_
                    exact fun _ s => s.finEq (ks := [1, 1, 1, 1, 1]) (js := [0]) rfl rfl rfl
                · refine at_exit ?_
                  refine at_then_exit ?_
                  refine at_then_exit ?_
                  refine at_exit_eq ?_
                  refine at_normal ?_
                  refine hK23 _ _ _ ?_
                  refine at_seq_k (fun K27 hK27 => ?_)
                  refine at_region ?_
                  refine at_v (ov_move rfl rfl) rfl rfl rfl ?_
                  refine at_v (ov_len_slice rfl Try.underlying36 rfl) rfl rfl rfl ?_
                  refine at_v (ov_move rfl rfl) rfl rfl rfl ?_
                  refine at_nil ?_
                  refine at_normal ?_
                  refine hK27 _ _ _ ?_
                  refine at_block ?_
                  refine at_loopE [145, 146, 147, 20, 148, 149, 150, 151, 8, 152, 144] (fun q => q ≤ (doP p x).L.length) (fun q => [(144, .int .i64 (q : Nat))]) (fun i m => m) (fun q => (doP p x).L.length - q) 0 (Nat.zero_le _) ⟨rfl, trivial⟩ (fun _ s => s) ?_
                  intro q hq
                  refine at_seq_k (fun K28 hK28 => ?_)
                  refine at_region ?_
                  refine at_v (ov_int rfl rfl rfl rfl) rfl rfl rfl ?_
                  refine at_nil ?_
                  refine at_normal ?_
                  refine hK28 _ _ _ ?_
                  refine at_seq_k (fun K29 hK29 => ?_)
                  refine at_cond rfl (fun hc => ?_) (fun hc => ?_)
                  · have hqt : q < (doP p x).L.length := by simpa using hc
                    obtain ⟨se, hse⟩ : ∃ se, (doP p x).L[q]? = some se := ⟨_, List.getElem?_eq_getElem hqt⟩
                    have hps := hw2.pos se (List.mem_of_getElem? hse)
                    have hi10 : ¬ se = max y.2.1.o 0 := by
                      have := hps.2 y hym
                      have := hps.1
                      omega
                    refine at_skip ?_
                    refine at_normal ?_
                    refine hK29 _ _ _ ?_
                    refine at_seq_k (fun K30 hK30 => ?_)
                    refine at_block ?_
                    refine at_seq_k (fun K31 hK31 => ?_)
                    refine at_region ?_
                    refine at_v (ov_indexRd (fun _ s => s.rd (k := 1) rfl) rfl Try.underlying36 rfl rfl rfl hse) rfl rfl rfl ?_
                    refine at_v (ov_loadRd0 (fun _ s => s.rd (k := 1) rfl) rfl rfl rfl hse rfl) rfl rfl rfl ?_
                    refine at_v (ov_assign rfl rfl) rfl rfl rfl ?_
                    refine at_nil ?_
                    refine at_normal ?_
                    refine hK31 _ _ _ ?_
                    refine at_seq_k (fun K32 hK32 => ?_)
                    refine at_region ?_
                    refine at_v (ov_move rfl rfl) rfl rfl rfl ?_
                    refine at_v (ov_fieldAddr (k := 2) (r := 2) rfl rfl rfl rfl) rfl rfl rfl ?_
                    refine at_v (ov_load rfl rfl rfl (fun _ s => s.ld (k := 0) rfl rfl)) rfl rfl rfl ?_
                    refine at_v (ov_int rfl rfl rfl rfl) rfl rfl rfl ?_
                    refine at_nil ?_
                    refine at_normal ?_
                    refine hK32 _ _ _ ?_
                    refine at_cond_false (congrArg (fun b => some (Value.bool b)) (show _ = false from decide_eq_false (by omega))) ?_
                    refine at_skip ?_
                    refine at_inb_normal ?_
                    refine at_normal ?_
                    refine hK30 _ _ _ ?_
                    refine at_region ?_
                    refine at_v ((ov_int rfl rfl rfl rfl).eq (congrArg (Value.int .i64) (inK_i64 (by omega) (by omega)))) rfl rfl rfl ?_
                    refine at_v (ov_move rfl rfl) rfl rfl rfl ?_
                    refine at_nil ?_
                    refine at_normal ?_
                    refine at_roundF (q + 1) hqt (by omega) ⟨rfl, trivial⟩ rfl ?_
                    exact fun _ s => s.finEq (ks := [0, 0, 0, 0, 0]) (js := []) rfl rfl rfl
                  · refine at_exit ?_
                    refine at_then_exit ?_
                    refine at_then_exit ?_
                    refine at_exit_eq ?_
                    refine at_inb_normal ?_
                    refine at_normal ?_
                    refine hK19 _ _ _ ?_
                    refine at_region ?_
                    refine at_v ((ov_int rfl rfl rfl rfl).eq (congrArg (Value.int .i64) (inK_i64 (by omega) (by omega)))) rfl rfl rfl ?_
                    refine at_v (ov_move rfl rfl) rfl rfl rfl ?_
                    refine at_nil ?_
                    refine at_normal ?_
                    refine at_roundF ((j + 1) + 1) hjt (by omega) ⟨rfl, trivial⟩ rfl ?_
                    exact fun _ s => s.finEq (ks := [1, 1, 1, 1]) (js := [0]) rfl rfl rfl
    
            · refine at_rowSome (enc := infoE) (xs := (doP p x).cs) 2 rfl (fun e => by rw [e] at hu; simp at hu) fun hsome => ?_
              refine at_skip ?_
              refine at_normal ?_
              refine hK18 _ _ _ ?_
              refine at_seq_k (fun K19 hK19 => ?_)
              refine at_block ?_
              refine at_seq_k (fun K20 hK20 => ?_)
              refine at_region ?_
              refine at_v (ov_move rfl rfl) rfl rfl rfl ?_
              refine at_v (ov_indexRd (fun _ s => s.rd (k := 2) rfl) rfl Try.underlying34 rfl rfl rfl hy) rfl rfl rfl ?_
              refine at_v (ov_loadRdS (vs := [_, _, _, _, _, _]) (fun _ s => s.rd (k := 2) rfl) rfl rfl rfl hy rfl rfl) rfl rfl rfl ?_
              refine at_t (ot_allocA rfl Try.zeroValue39) rfl rfl rfl ?_
              rintro _ _ ⟨g1, rfl, rfl⟩
              refine at_v (ov_assign rfl rfl) rfl rfl rfl ?_
              refine at_t0 (ot_store (k := 0) rfl rfl rfl rfl rfl rfl rfl) rfl rfl ?_
              rintro _ _ ⟨rfl, rfl⟩
              simp only [setAt, splice, spliceL, Value.cells]
              refine at_nil ?_
              refine at_normal ?_
              refine hK20 _ _ _ ?_
              refine at_seq_k (fun K21 hK21 => ?_)
              refine at_seq_k (fun K22 hK22 => ?_)
              refine at_draw _ [] 1000 [(2, 0), (2, 1), (2, 2), (2, 3), (2, 4), (2, 5), (1, 6), (2, 7), (1, 8), (2, 9), (1, 10), (2, 11), (2, 12), (2, 13), (2, 14), (1, 15), (2, 16), (2, 17), (1, 18), (2, 19), (2, 20), (2, 21), (2, 22), (2, 23), (1, 24), (2, 25), (2, 26), (2, 27), (2, 28), (1, 29), (2, 30), (2, 31), (2, 32), (2, 33), (1, 34), (2, 35), (2, 36), (2, 37), (1, 38), (2, 39), (2, 40), (2, 41), (2, 42), (2, 43), (1, 44), (2, 45), (2, 46), (2, 47), (1, 48), (2, 49), (2, 50), (2, 51)] (by kernel_rfl) (by kernel_rfl) (fun _ s => (s.pulls (ks := [0, 2]) rfl).left) ?_
              refine aq_p (ov_move rfl rfl) rfl rfl rfl ?_
              refine aq_p (ov_int rfl rfl rfl rfl) rfl rfl rfl ?_
              refine aq_p (ov_move rfl rfl) rfl rfl rfl ?_
              refine at_reval 69 (.bool true) rfl (congrArg Value.bool (decide_eq_true (by omega))) ?_
              refine aq_wanted (j := 2) rfl ?_
              refine aq_p (ov_move rfl rfl) rfl rfl rfl ?_
              refine aq_wanted (j := 2) rfl ?_
              refine aq_p (ov_move rfl rfl) rfl rfl rfl ?_
              refine aq_wanted (j := 2) rfl ?_
              refine aq_p ((ov_int rfl rfl rfl rfl).eq (congrArg (Value.int .i64) (inK_pred (by omega)))) rfl rfl rfl ?_
              refine aq_wanted (j := 2) rfl ?_
              refine aq_v (ov_indexRd (fun _ s => s.rd (k := 1) rfl) rfl Try.underlying34 rfl rfl rfl hu) rfl rfl rfl ?_
              refine aq_wanted (j := 2) rfl ?_
              refine aq_p (ov_fieldE (k := 0) (by assumption) rfl rfl rfl) rfl rfl rfl ?_
              refine aq_wanted (j := 2) rfl ?_
              refine aq_v (ov_loadRd0 (fun _ s => s.rd (k := 1) rfl) rfl rfl rfl hu rfl) rfl rfl rfl ?_
              refine aq_wanted (j := 2) rfl ?_
              refine aq_p (ov_fieldAddr (k := 0) (r := 0) rfl rfl rfl rfl) rfl rfl rfl ?_
              refine aq_wanted (j := 2) rfl ?_
              refine aq_v (ov_load rfl rfl rfl (fun _ s => s.ld (k := 0) rfl rfl)) rfl rfl rfl ?_
              refine aq_wanted (j := 2) rfl ?_
              refine aq_p (ov_int rfl rfl rfl rfl) rfl rfl rfl ?_
              refine aq_p (ov_pick_t rfl rfl rfl) rfl rfl rfl ?_
              refine aq_p (ov_move rfl rfl) rfl rfl rfl ?_
              refine at_reval 80 (.bool false) rfl (congrArg Value.bool (decide_eq_false (by omega))) ?_
              refine aq_wanted (j := 13) rfl ?_
              refine aq_p (ov_fieldAddr (k := 2) (r := 2) rfl rfl rfl rfl) rfl rfl rfl ?_
              refine aq_wanted (j := 13) rfl ?_
              refine aq_v (ov_load rfl rfl rfl (fun _ s => s.ld (k := 0) rfl rfl)) rfl rfl rfl ?_
              refine aq_wanted (j := 13) rfl ?_
              refine aq_p (ov_int rfl rfl rfl rfl) rfl rfl rfl ?_
              refine aq_wanted (j := 13) rfl ?_
              refine aq_p (ov_fieldAddr (k := 1) (r := 1) rfl rfl rfl rfl) rfl rfl rfl ?_
              refine aq_wanted (j := 13) rfl ?_
              refine aq_v (ov_load rfl rfl rfl (fun _ s => s.ld (k := 0) rfl rfl)) rfl rfl rfl ?_
              refine aq_wanted (j := 13) rfl ?_
              refine aq_p (ov_int rfl rfl rfl rfl) rfl rfl rfl ?_
              refine aq_wanted (j := 13) rfl ?_
              refine aq_p (ov_boolne rfl Try.underlying4 rfl rfl) rfl rfl rfl ?_
              refine aq_p (ov_pick_f rfl rfl rfl) rfl rfl rfl ?_
              refine aq_p (ov_move rfl rfl) rfl rfl rfl ?_
              refine at_reval 89 (.bool false) rfl (congrArg Value.bool (by simp [hi1, hc, hi2, hi3, hc, hi4, hi5, hi6, hi7]; done)) ?_
              refine aq_wanted (j := 22) rfl ?_
              refine aq_p (ov_fieldAddr (k := 1) (r := 1) rfl rfl rfl rfl) rfl rfl rfl ?_
              refine aq_wanted (j := 22) rfl ?_
              refine aq_v (ov_load rfl rfl rfl (fun _ s => s.ld (k := 0) rfl rfl)) rfl rfl rfl ?_
              refine aq_wanted (j := 22) rfl ?_
              refine aq_p (ov_int rfl rfl rfl rfl) rfl rfl rfl ?_
              refine aq_p (ov_pick_f rfl rfl rfl) rfl rfl rfl ?_
              refine aq_p (ov_move rfl rfl) rfl rfl rfl ?_
              refine at_reval 94 (.bool false) rfl (congrArg Value.bool (decide_eq_false (by omega))) ?_
              refine aq_wanted (j := 27) rfl ?_
              refine aq_p (ov_fieldAddr (k := 1) (r := 1) rfl rfl rfl rfl) rfl rfl rfl ?_
              refine aq_wanted (j := 27) rfl ?_
              refine aq_v (ov_load rfl rfl rfl (fun _ s => s.ld (k := 0) rfl rfl)) rfl rfl rfl ?_
              refine aq_wanted (j := 27) rfl ?_
              refine aq_p (ov_int rfl rfl rfl rfl) rfl rfl rfl ?_
              refine aq_p (ov_pick_f rfl rfl rfl) rfl rfl rfl ?_
              refine aq_p (ov_move rfl rfl) rfl rfl rfl ?_
              refine at_reval 99 (.bool false) rfl (congrArg Value.bool (decide_eq_false (by omega))) ?_
              refine aq_wanted (j := 32) rfl ?_
              refine aq_p (ov_fieldAddr (k := 4) (r := 4) rfl rfl rfl rfl) rfl rfl rfl ?_
              refine aq_wanted (j := 32) rfl ?_
              refine aq_v (ov_load rfl rfl rfl (fun _ s => s.ld (k := 0) rfl rfl)) rfl rfl rfl ?_
              refine aq_wanted (j := 32) rfl ?_
              refine aq_p (ov_int rfl rfl rfl rfl) rfl rfl rfl ?_
              refine aq_wanted (j := 32) rfl ?_
              refine aq_p (ov_move rfl rfl) rfl rfl rfl ?_
              refine at_reval 103 (.bool true) rfl (congrArg Value.bool (by first | assumption | (rw [Bool.not_eq_true']; exact decide_eq_false (by omega)))) ?_
              refine aq_wanted (j := 36) rfl ?_
              refine aq_p (ov_fieldAddr (k := 2) (r := 2) rfl rfl rfl rfl) rfl rfl rfl ?_
              refine aq_wanted (j := 36) rfl ?_
              refine aq_v (ov_load rfl rfl rfl (fun _ s => s.ld (k := 0) rfl rfl)) rfl rfl rfl ?_
              refine aq_wanted (j := 36) rfl ?_
              refine aq_p (ov_int rfl rfl rfl rfl) rfl rfl rfl ?_
              refine aq_wanted (j := 32) rfl ?_
              refine aq_p (ov_pick_t rfl rfl rfl) rfl rfl rfl ?_
              refine aq_p (ov_pick_f rfl rfl rfl) rfl rfl rfl ?_
              refine aq_p (ov_move rfl rfl) rfl rfl rfl ?_
              refine at_reval 109 (.bool false) rfl (congrArg Value.bool (decide_eq_false (by omega))) ?_
              refine aq_wanted (j := 42) rfl ?_
              refine aq_p (ov_fieldAddr (k := 1) (r := 1) rfl rfl rfl rfl) rfl rfl rfl ?_
              refine aq_wanted (j := 42) rfl ?_
              refine aq_v (ov_load rfl rfl rfl (fun _ s => s.ld (k := 0) rfl rfl)) rfl rfl rfl ?_
              refine aq_wanted (j := 42) rfl ?_
              refine aq_p (ov_int rfl rfl rfl rfl) rfl rfl rfl ?_
              refine aq_wanted (j := 42) rfl ?_
              refine aq_p (ov_move rfl rfl) rfl rfl rfl ?_
              refine at_reval 113 (.bool true) rfl (congrArg Value.bool (decide_eq_true (by omega))) ?_
              refine aq_wanted (j := 46) rfl ?_
              refine aq_p (ov_fieldAddr (k := 4) (r := 4) rfl rfl rfl rfl) rfl rfl rfl ?_
              refine aq_wanted (j := 46) rfl ?_
              refine aq_v (ov_load rfl rfl rfl (fun _ s => s.ld (k := 0) rfl rfl)) rfl rfl rfl ?_
              refine aq_wanted (j := 46) rfl ?_
              refine aq_p (ov_int rfl rfl rfl rfl) rfl rfl rfl ?_
              refine aq_wanted (j := 42) rfl ?_
              refine aq_p (ov_pick_t rfl rfl rfl) rfl rfl rfl ?_
              refine aq_p (ov_pick_f rfl rfl rfl) rfl rfl rfl ?_
              refine aq_nil ?_
              refine at_normal ?_
              refine hK22 _ _ _ ?_
              refine at_cond_false (congrArg (fun b => some (Value.bool b)) (show _ = false from decide_eq_false (by omega))) ?_
              refine at_skip ?_
              refine at_normal ?_
              refine hK21 _ _ _ ?_
              refine at_seq_k (fun K23 hK23 => ?_)
              refine at_seq_k (fun K24 hK24 => ?_)
              refine at_region ?_
              refine at_v (ov_move rfl rfl) rfl rfl rfl ?_
              refine at_v (ov_len_slice rfl Try.underlying34 rfl) rfl rfl rfl ?_
              refine at_v (ov_move rfl rfl) rfl rfl rfl ?_
              refine at_nil ?_
              refine at_normal ?_
              refine hK24 _ _ _ ?_
              refine at_block ?_
              refine at_loopE [122, 123, 124, 125, 18, 17, 126, 127, 128, 129, 130, 131, 132, 133, 134, 135, 136, 137, 138, 139, 140, 8, 141, 121] (fun q => q ≤ (doP p x).cs.length) (fun q => [(121, .int .i64 (q : Nat))]) (fun i m => m) (fun q => (doP p x).cs.length - q) 0 (Nat.zero_le _) ⟨rfl, trivial⟩ (fun _ s => s) ?_
              intro q hq
              refine at_seq_k (fun K25 hK25 => ?_)
              refine at_region ?_
              refine at_v (ov_int rfl rfl rfl rfl) rfl rfl rfl ?_
              refine at_nil ?_
              refine at_normal ?_
              refine hK25 _ _ _ ?_
              refine at_seq_k (fun K26 hK26 => ?_)
              refine at_cond rfl (fun hc => ?_) (fun hc => ?_)
              · have hqt : q < (doP p x).cs.length := by simpa using hc
                obtain ⟨z, hz⟩ : ∃ z, (doP p x).cs[q]? = some z := ⟨_, List.getElem?_eq_getElem hqt⟩
                by_cases hjq : (j + 1) = q
                · subst hjq
                  refine at_skip ?_
                  refine at_normal ?_
                  refine hK26 _ _ _ ?_
                  refine at_seq_k (fun K27 hK27 => ?_)
                  refine at_block ?_
                  refine at_seq_k (fun K28 hK28 => ?_)
                  refine at_region ?_
                  refine at_v (ov_move rfl rfl) rfl rfl rfl ?_
                  refine at_v (ov_indexRd (fun _ s => s.rd (k := 3) rfl) rfl Try.underlying34 rfl rfl rfl hy) rfl rfl rfl ?_
                  refine at_v (ov_loadRdS (vs := [_, _, _, _, _, _]) (fun _ s => s.rd (k := 3) rfl) rfl rfl rfl hy rfl rfl) rfl rfl rfl ?_
                  refine at_t (ot_allocA rfl Try.zeroValue39) rfl rfl rfl ?_
                  rintro _ _ ⟨g2, rfl, rfl⟩
                  refine at_v (ov_assign rfl rfl) rfl rfl rfl ?_
                  refine at_t0 (ot_store (k := 0) rfl rfl rfl rfl rfl rfl rfl) rfl rfl ?_
                  rintro _ _ ⟨rfl, rfl⟩
                  simp only [setAt, splice, spliceL, Value.cells]
                  refine at_nil ?_
                  refine at_normal ?_
                  refine hK28 _ _ _ ?_
                  refine at_seq_k (fun K29 hK29 => ?_)
                  refine at_region ?_
                  refine at_v (ov_move rfl rfl) rfl rfl rfl ?_
                  refine at_v (ov_move rfl rfl) rfl rfl rfl ?_
                  refine at_v (ov_int rfl rfl rfl rfl) rfl rfl rfl ?_
                  refine at_v (ov_move rfl rfl) rfl rfl rfl ?_
                  refine at_reval 129 (.bool false) rfl (congrArg Value.bool (by first | assumption | (rw [Bool.not_eq_false']; exact decide_eq_true (by omega)))) ?_
                  refine at_unwanted (j := 3) rfl rfl rfl rfl ?_
                  refine at_unwanted (j := 3) rfl rfl rfl rfl ?_
                  refine at_unwanted (j := 3) rfl rfl rfl rfl ?_
                  refine at_v (ov_pick_f rfl rfl rfl) rfl rfl rfl ?_
                  refine at_v (ov_move rfl rfl) rfl rfl rfl ?_
                  refine at_unwanted (j := 8) rfl rfl rfl rfl ?_
                  refine at_unwanted (j := 8) rfl rfl rfl rfl ?_
                  refine at_unwanted (j := 8) rfl rfl rfl rfl ?_
                  refine at_unwanted (j := 8) rfl rfl rfl rfl ?_
                  refine at_unwanted (j := 8) rfl rfl rfl rfl ?_
                  refine at_v (ov_pick_f rfl rfl rfl) rfl rfl rfl ?_
                  refine at_nil ?_
                  refine at_normal ?_
                  refine hK29 _ _ _ ?_
                  refine at_cond_false rfl ?_
                  refine at_skip ?_
                  refine at_inb_normal ?_
                  refine at_normal ?_
                  refine hK27 _ _ _ ?_
                  refine at_region ?_
                  refine at_v ((ov_int rfl rfl rfl rfl).eq (congrArg (Value.int .i64) (inK_i64 (by omega) (by omega)))) rfl rfl rfl ?_
                  refine at_v (ov_move rfl rfl) rfl rfl rfl ?_
                  refine at_nil ?_
                  refine at_normal ?_
                  refine at_roundF ((j + 1) + 1) hqt (by omega) ⟨rfl, trivial⟩ rfl ?_
                  exact fun _ s => s.finEq (ks := [1, 1, 1, 1, 1]) (js := [0]) rfl rfl rfl
                · have hi9 : (!decide ((((j + 1) : Nat) : Int) = (q : Int))) = true := by simp; omega
                  have hi11 := own_ne hw2 hy hz hjq hi5
                  refine at_skip ?_
                  refine at_normal ?_
                  refine hK26 _ _ _ ?_
                  refine at_seq_k (fun K27 hK27 => ?_)
                  refine at_block ?_
                  refine at_seq_k (fun K28 hK28 => ?_)
                  refine at_region ?_
                  refine at_v (ov_move rfl rfl) rfl rfl rfl ?_
                  refine at_v (ov_indexRd (fun _ s => s.rd (k := 3) rfl) rfl Try.underlying34 rfl rfl rfl hz) rfl rfl rfl ?_
                  refine at_v (ov_loadRdS (vs := [_, _, _, _, _, _]) (fun _ s => s.rd (k := 3) rfl) rfl rfl rfl hz rfl rfl) rfl rfl rfl ?_
                  refine at_t (ot_allocA rfl Try.zeroValue39) rfl rfl rfl ?_
                  rintro _ _ ⟨g2, rfl, rfl⟩
                  refine at_v (ov_assign rfl rfl) rfl rfl rfl ?_
                  refine at_t0 (ot_store (k := 0) rfl rfl rfl rfl rfl rfl rfl) rfl rfl ?_
                  rintro _ _ ⟨rfl, rfl⟩
                  simp only [setAt, splice, spliceL, Value.cells]
                  refine at_nil ?_
                  refine at_normal ?_
                  refine hK28 _ _ _ ?_
                  refine at_seq_k (fun K29 hK29 => ?_)
                  refine at_region ?_
                  refine at_v (ov_move rfl rfl) rfl rfl rfl ?_
                  refine at_v (ov_move rfl rfl) rfl rfl rfl ?_
                  refine at_v (ov_int rfl rfl rfl rfl) rfl rfl rfl ?_
                  refine at_v (ov_move rfl rfl) rfl rfl rfl ?_
                  refine at_reval 129 (.bool true) rfl (congrArg Value.bool (by first | assumption | (rw [Bool.not_eq_true']; exact decide_eq_false (by omega)))) ?_
                  refine at_wanted (j := 3) rfl ?_
                  refine at_v (ov_fieldAddr (k := 2) (r := 2) rfl rfl rfl rfl) rfl rfl rfl ?_
                  refine at_wanted (j := 3) rfl ?_
                  refine at_v (ov_load rfl rfl rfl (fun _ s => s.ld (k := 1) rfl rfl)) rfl rfl rfl ?_
                  refine at_wanted (j := 3) rfl ?_
                  refine at_v (ov_int rfl rfl rfl rfl) rfl rfl rfl ?_
                  refine at_v (ov_pick_t rfl rfl rfl) rfl rfl rfl ?_
                  refine at_v (ov_move rfl rfl) rfl rfl rfl ?_
                  refine at_reval 134 (.bool true) rfl (congrArg Value.bool (by first | assumption | (rw [Bool.not_eq_true']; exact decide_eq_false (by omega)))) ?_
                  refine at_wanted (j := 8) rfl ?_
                  refine at_v (ov_fieldAddr (k := 2) (r := 2) rfl rfl rfl rfl) rfl rfl rfl ?_
                  refine at_wanted (j := 8) rfl ?_
                  refine at_v (ov_load rfl rfl rfl (fun _ s => s.ld (k := 1) rfl rfl)) rfl rfl rfl ?_
                  refine at_wanted (j := 8) rfl ?_
                  refine at_v (ov_fieldAddr (k := 2) (r := 2) rfl rfl rfl rfl) rfl rfl rfl ?_
                  refine at_wanted (j := 8) rfl ?_
                  refine at_v (ov_load rfl rfl rfl (fun _ s => s.ld (k := 0) rfl rfl)) rfl rfl rfl ?_
                  refine at_wanted (j := 8) rfl ?_
                  refine at_v (ov_int rfl rfl rfl rfl) rfl rfl rfl ?_
                  refine at_v (ov_pick_t rfl rfl rfl) rfl rfl rfl ?_
                  refine at_nil ?_
                  refine at_normal ?_
                  refine hK29 _ _ _ ?_
                  refine at_cond_false (congrArg (fun b => some (Value.bool b)) (show _ = false from decide_eq_false (by omega))) ?_
                  refine at_skip ?_
                  refine at_inb_normal ?_
                  refine at_normal ?_
                  refine hK27 _ _ _ ?_
                  refine at_region ?_
                  refine at_v ((ov_int rfl rfl rfl rfl).eq (congrArg (Value.int .i64) (inK_i64 (by omega) (by omega)))) rfl rfl rfl ?_
                  refine at_v (ov_move rfl rfl) rfl rfl rfl ?_
                  refine at_nil ?_
                  refine at_normal ?_
                  refine at_roundF (q + 1) hqt (by omega) ⟨rfl, trivial⟩ rfl ?_
                  exact fun _ s => s.finEq (ks := [1, 1, 1, 1, 1]) (js := [0]) rfl rfl rfl
              · refine at_exit ?_
                refine at_then_exit ?_
                refine at_then_exit ?_
                refine at_exit_eq ?_
                refine at_normal ?_
                refine hK23 _ _ _ ?_
                refine at_seq_k (fun K27 hK27 => ?_)
                refine at_region ?_
                refine at_v (ov_move rfl rfl) rfl rfl rfl ?_
                refine at_v (ov_len_slice rfl Try.underlying36 rfl) rfl rfl rfl ?_
                refine at_v (ov_move rfl rfl) rfl rfl rfl ?_
                refine at_nil ?_
                refine at_normal ?_
                refine hK27 _ _ _ ?_
                refine at_block ?_
                refine at_loopE [145, 146, 147, 20, 148, 149, 150, 151, 8, 152, 144] (fun q => q ≤ (doP p x).L.length) (fun q => [(144, .int .i64 (q : Nat))]) (fun i m => m) (fun q => (doP p x).L.length - q) 0 (Nat.zero_le _) ⟨rfl, trivial⟩ (fun _ s => s) ?_
                intro q hq
                refine at_seq_k (fun K28 hK28 => ?_)
                refine at_region ?_
                refine at_v (ov_int rfl rfl rfl rfl) rfl rfl rfl ?_
                refine at_nil ?_
                refine at_normal ?_
                refine hK28 _ _ _ ?_
                refine at_seq_k (fun K29 hK29 => ?_)
                refine at_cond rfl (fun hc => ?_) (fun hc => ?_)
                · have hqt : q < (doP p x).L.length := by simpa using hc
                  obtain ⟨se, hse⟩ : ∃ se, (doP p x).L[q]? = some se := ⟨_, List.getElem?_eq_getElem hqt⟩
                  have hps := hw2.pos se (List.mem_of_getElem? hse)
                  have hi10 : ¬ se = max y.2.1.o 0 := by
                    have := hps.2 y hym
                    have := hps.1
                    omega
                  refine at_skip ?_
                  refine at_normal ?_
                  refine hK29 _ _ _ ?_
                  refine at_seq_k (fun K30 hK30 => ?_)
                  refine at_block ?_
                  refine at_seq_k (fun K31 hK31 => ?_)
                  refine at_region ?_
                  refine at_v (ov_indexRd (fun _ s => s.rd (k := 1) rfl) rfl Try.underlying36 rfl rfl rfl hse) rfl rfl rfl ?_
                  refine at_v (ov_loadRd0 (fun _ s => s.rd (k := 1) rfl) rfl rfl rfl hse rfl) rfl rfl rfl ?_
                  refine at_v (ov_assign rfl rfl) rfl rfl rfl ?_
                  refine at_nil ?_
                  refine at_normal ?_
                  refine hK31 _ _ _ ?_
                  refine at_seq_k (fun K32 hK32 => ?_)
                  refine at_region ?_
                  refine at_v (ov_move rfl rfl) rfl rfl rfl ?_
                  refine at_v (ov_fieldAddr (k := 2) (r := 2) rfl rfl rfl rfl) rfl rfl rfl ?_
                  refine at_v (ov_load rfl rfl rfl (fun _ s => s.ld (k := 0) rfl rfl)) rfl rfl rfl ?_
                  refine at_v (ov_int rfl rfl rfl rfl) rfl rfl rfl ?_
                  refine at_nil ?_
                  refine at_normal ?_
                  refine hK32 _ _ _ ?_
                  refine at_cond_false (congrArg (fun b => some (Value.bool b)) (show _ = false from decide_eq_false (by omega))) ?_
                  refine at_skip ?_
                  refine at_inb_normal ?_
                  refine at_normal ?_
                  refine hK30 _ _ _ ?_
                  refine at_region ?_
                  refine at_v ((ov_int rfl rfl rfl rfl).eq (congrArg (Value.int .i64) (inK_i64 (by omega) (by omega)))) rfl rfl rfl ?_
                  refine at_v (ov_move rfl rfl) rfl rfl rfl ?_
                  refine at_nil ?_
                  refine at_normal ?_
                  refine at_roundF (q + 1) hqt (by omega) ⟨rfl, trivial⟩ rfl ?_
                  exact fun _ s => s.finEq (ks := [0, 0, 0, 0, 0]) (js := []) rfl rfl rfl
                · refine at_exit ?_
                  refine at_then_exit ?_
                  refine at_then_exit ?_
                  refine at_exit_eq ?_
                  refine at_inb_normal ?_
                  refine at_normal ?_
                  refine hK19 _ _ _ ?_
                  refine at_region ?_
                  refine at_v ((ov_int rfl rfl rfl rfl).eq (congrArg (Value.int .i64) (inK_i64 (by omega) (by omega)))) rfl rfl rfl ?_
                  refine at_v (ov_move rfl rfl) rfl rfl rfl ?_
                  refine at_nil ?_
                  refine at_normal ?_
                  refine at_roundF ((j + 1) + 1) hjt (by omega) ⟨rfl, trivial⟩ rfl ?_
                  exact fun _ s => s.finEq (ks := [1, 1, 1, 1]) (js := [0]) rfl rfl rfl
  
        · refine at_exit ?_
          refine at_then_exit ?_
          refine at_then_exit ?_
          refine at_exit_eq ?_
          refine at_inb_normal ?_
          refine at_normal ?_
          refine hK10 _ _ _ ?_
          refine at_region ?_
          refine at_v ((ov_int rfl rfl rfl rfl).eq (congrArg (Value.int .i64) (inK_i64 (by omega) (by omega)))) rfl rfl rfl ?_
          refine at_v (ov_move rfl rfl) rfl rfl rfl ?_
          refine at_nil ?_
          refine at_normal ?_
          refine at_roundF (k + 1) hlt (by omega) ⟨rfl, trivial⟩ rfl ?_
          rw [hrs]
          exact fun _ s => s.finEq (ks := [1]) (js := [0, 0, 0]) rfl rfl rfl
      · refine at_exit ?_
        refine at_then_exit ?_
        refine at_then_exit ?_
        refine at_exit_eq ?_
        refine at_normal ?_
        refine hK6 _ _ _ ?_
        refine at_seq_k (fun K10 hK10 => ?_)
        refine at_region ?_
        refine at_v (ov_assign rfl rfl) rfl rfl rfl ?_
        refine at_nil ?_
        refine at_normal ?_
        refine hK10 _ _ _ ?_
        refine at_ret ?_
        refine at_end ?_
        refine at_fin (rsV rfl (res_tmp rfl)) ?_
        refine ⟨_, ⟨rfl, rfl⟩, ?_⟩
        exact fun _ s => s.finEq (ks := []) (js := [0]) rfl rfl rfl
