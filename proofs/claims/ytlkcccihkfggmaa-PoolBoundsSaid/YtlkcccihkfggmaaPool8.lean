/- PoolFair, walked. -/
import Derived.Test.YtlkcccihkfggmaaProg
import Derived.Test.YtlkcccihkfggmaaPool7
import Derived.Test.YtlkcccihkfggmaaSLExt
import Derived.KernelRfl
set_option linter.unusedSimpArgs false
set_option linter.unusedVariables false
set_option maxRecDepth 100000
set_option maxHeartbeats 4000000
namespace Go.Proofs.Ytlkcccihkfggmaa
open Go Go.Proofs.Ytlkcccihkfggmaa.SL Go.RowKit
theorem T13d (w0 : World) {A B : Option Addr} {c d c' d' : Nat} {xs zs : List Int} (hm : xs.length ≤ 1000) (hm2 : zs.length ≤ 1000) :
    Tri Try.prog w0 13 [.slice A xs.length c, .slice (dropA B d' 1 1) (zs.drop 1).length d] [Row wE 3 1 A c' xs, Row wE 3 1 B d' zs] fun v m => v = .bool (decide (xs = zs.drop 1)) ∧ m = [Row wE 3 1 A c' xs, Row wE 3 1 B d' zs] := by
  refine (Tri.of_all (Post := fun v m => v = .bool (decide (xs = zs.drop 1)) ∧ m = []) fun w s => ?_).post fun v m ⟨m', ⟨h1, h2⟩, h3⟩ => ⟨h1, by rw [h3, h2]; rfl⟩
  have hrd : Rd wE w 1 (dropA B d' 1 1) (zs.drop 1) := by
    by_cases hz : zs.length ≤ 1
    · rw [List.drop_eq_nil_of_le hz]
      exact ⟨fun x hx => by simp at hx, fun h => absurd rfl h⟩
    · have hle := (s.rowLen (k := 1) rfl).1
      have r := s.rd (k := 1) rfl
      obtain ⟨ad, e, _⟩ := r.at_ (by intro e; rw [e] at hz; simp at hz)
      subst e
      have : dropA (some ad) d' 1 1 = some (ad.add (1 * 1)) := by unfold dropA; rw [if_neg (by omega)]; rfl
      rw [this]
      exact r.drop 1
  exact T13 w (s.rd (k := 0) rfl) hrd (by omega) (by rw [List.length_drop]; omega)
/-- What Acquire may make. -/
theorem acq_cases (most wm last : Int) (L : List Int) (cs : List XM) (se e now : Int) :
    (∃ c, (c = 1 ∨ c = 7) ∧ acqM most wm last L cs se e now = (0, c, last, L, cs))
    ∨ (1 ≤ se ∧ hasB L cs se = false ∧ L = [] ∧ (giveM most last cs se e now).2.1 = true ∧ acqM most wm last L cs se e now = ((giveM most last cs se e now).1, 0, (giveM most last cs se e now).2.2.1, L, (giveM most last cs se e now).2.2.2))
    ∨ (1 ≤ se ∧ hasB L cs se = false ∧ ∃ last' cs', ((last' = last ∧ cs' = cs ∧ L ≠ []) ∨ (L = [] ∧ (giveM most last cs se e now).2.1 = false ∧ last' = (giveM most last cs se e now).2.2.1 ∧ cs' = (giveM most last cs se e now).2.2.2)) ∧
      (((L.length : Int) = wm ∧ acqM most wm last L cs se e now = (0, 5, last', L, cs')) ∨ ((L.length : Int) ≠ wm ∧ acqM most wm last L cs se e now = (0, 13, last', L ++ [se], cs')))) := by
  unfold acqM
  by_cases h1 : se < 1
  · left; exact ⟨1, .inl rfl, if_pos h1⟩
  rw [if_neg h1]
  cases hb : hasB L cs se with
  | true => left; exact ⟨7, .inr rfl, if_pos rfl⟩
  | false =>
    right
    rw [if_neg (by simp)]
    cases L with
    | nil =>
      simp only
      by_cases hg : (giveM most last cs se e now).2.1 = true
      · left; exact ⟨by omega, trivial, trivial, hg, if_pos hg⟩
      · right
        refine ⟨by omega, trivial, _, _, .inr ⟨trivial, by simpa using hg, rfl, rfl⟩, ?_⟩
        rw [if_neg hg]
        unfold putM
        by_cases hl : ((([] : List Int).length : Nat) : Int) = wm
        · left; exact ⟨hl, by rw [if_pos hl]⟩
        · right; exact ⟨hl, by rw [if_neg hl]⟩
    | cons y r =>
      right
      refine ⟨by omega, rfl, last, cs, .inl ⟨rfl, rfl, by simp⟩, ?_⟩
      simp only
      unfold putM
      by_cases hl : (((y :: r).length : Nat) : Int) = wm
      · left; exact ⟨hl, by rw [if_pos hl]⟩
      · right; exact ⟨hl, by rw [if_neg hl]⟩
theorem serve_cases (most last : Int) (L : List Int) (cs : List XM) (e now : Int) :
    (L = [] ∧ serveM most last L cs e now = (0, 0, false, last, L, cs))
    ∨ ∃ x r, L = x :: r ∧ (((giveM most last cs x e now).2.1 = true ∧ serveM most last L cs e now = (x, (giveM most last cs x e now).1, true, (giveM most last cs x e now).2.2.1, r, (giveM most last cs x e now).2.2.2))
      ∨ ((giveM most last cs x e now).2.1 = false ∧ serveM most last L cs e now = (0, 0, false, (giveM most last cs x e now).2.2.1, L, (giveM most last cs x e now).2.2.2))) := by
  cases L with
  | nil => left; exact ⟨rfl, rfl⟩
  | cons x r =>
    right
    refine ⟨x, r, rfl, ?_⟩
    unfold serveM
    by_cases hg : (giveM most last cs x e now).2.1 = true
    · left; exact ⟨hg, if_pos hg⟩
    · right; exact ⟨by simpa using hg, if_neg hg⟩
theorem do0 (p : PM) (x : PA) (hd : x.d = 0) : doP p x = { p with last := (acqM p.most p.wm p.last p.L p.cs x.se x.e x.now).2.2.1, L := (acqM p.most p.wm p.last p.L p.cs x.se x.e x.now).2.2.2.1, cs := (acqM p.most p.wm p.last p.L p.cs x.se x.e x.now).2.2.2.2 }
    ∧ doT p x = ⟨(acqM p.most p.wm p.last p.L p.cs x.se x.e x.now).1, 0, 0, false, (acqM p.most p.wm p.last p.L p.cs x.se x.e x.now).2.1⟩ := by
  unfold doP doT; exact ⟨if_pos hd, if_pos hd⟩
theorem do1 (p : PM) (x : PA) (hd : x.d = 1) : doP p x = { p with last := (serveM p.most p.last p.L p.cs x.e x.now).2.2.2.1, L := (serveM p.most p.last p.L p.cs x.e x.now).2.2.2.2.1, cs := (serveM p.most p.last p.L p.cs x.e x.now).2.2.2.2.2 }
    ∧ doT p x = ⟨(serveM p.most p.last p.L p.cs x.e x.now).1, (serveM p.most p.last p.L p.cs x.e x.now).2.1, 0, (serveM p.most p.last p.L p.cs x.e x.now).2.2.1, 0⟩ := by
  unfold doP doT
  have h0 : ¬ x.d = 0 := by omega
  exact ⟨by rw [if_neg h0, if_pos hd], by rw [if_neg h0, if_pos hd]⟩
theorem doL (p : PM) (x : PA) (h0 : x.d ≠ 0) (h1 : x.d ≠ 1) (h2 : x.d ≠ 2) : (doP p x).L = p.L ∧ (doP p x).last = p.last := by
  unfold doP
  simp only [if_neg h0, if_neg h1, if_neg h2]
  (repeat' split) <;> exact ⟨rfl, rfl⟩
theorem give_pos {n : Nat} {p : PM} (h : Wf n p) {s e now : Int} (hg : (giveM p.most p.last p.cs s e now).2.1 = true) : 1 ≤ (giveM p.most p.last p.cs s e now).1 := by
  rcases give_cases p.most p.last p.cs s e now with ⟨k, y, hy, hl, _, e2⟩ | ⟨_, _, e2⟩ | ⟨_, _, e2⟩
  · rw [e2]
    obtain ⟨z, hz, e3, _⟩ := upd_mem.1 (List.mem_of_getElem? hy)
    have := h.ids z hz
    rw [← e3]; exact this.1
  · rw [e2] at hg; cases hg
  · rw [e2]; have := h.last_; simp only; omega
theorem fair0 {n : Nat} {p : PM} (h : Wf n p) (x : PA) (hd : x.d = 0) (he : (doT p x).e = 0) : p.L = [] ∧ (doP p x).L = [] ∧ 1 ≤ (doT p x).a := by
  obtain ⟨e1, e2⟩ := do0 p x hd
  rw [e2] at he ⊢
  rw [e1]
  rcases acq_cases p.most p.wm p.last p.L p.cs x.se x.e x.now with ⟨c, hc, ha⟩ | ⟨_, _, hL, hg, ha⟩ | ⟨_, _, l', c', _, ⟨_, ha⟩ | ⟨_, ha⟩⟩
  · rw [ha] at he; simp only at he; omega
  · rw [ha]; exact ⟨hL, hL, give_pos h hg⟩
  · rw [ha] at he; simp only at he; omega
  · rw [ha] at he; simp only at he; omega
theorem fair13 {p : PM} (x : PA) (hd : x.d = 0) (he : (doT p x).e = 13) : (doP p x).L = p.L ++ [x.se] := by
  obtain ⟨e1, e2⟩ := do0 p x hd
  rw [e2] at he
  rw [e1]
  rcases acq_cases p.most p.wm p.last p.L p.cs x.se x.e x.now with ⟨c, hc, ha⟩ | ⟨_, _, hL, hg, ha⟩ | ⟨_, _, l', c', _, ⟨_, ha⟩ | ⟨_, ha⟩⟩
  · rw [ha] at he; simp only at he; omega
  · rw [ha] at he; simp only at he; omega
  · rw [ha] at he; simp only at he; omega
  · rw [ha]
theorem fairServe {p : PM} (x : PA) (hd : x.d = 1) (he : (doT p x).is = true) : p.L = (doT p x).a :: (doP p x).L := by
  obtain ⟨e1, e2⟩ := do1 p x hd
  rw [e2] at he ⊢
  rw [e1]
  rcases serve_cases p.most p.last p.L p.cs x.e x.now with ⟨_, ha⟩ | ⟨y, r, hL, ⟨_, ha⟩ | ⟨_, ha⟩⟩
  · rw [ha] at he; simp at he
  · rw [ha]; exact hL
  · rw [ha] at he; simp at he
theorem fairElse {p : PM} (x : PA) (h2 : x.d ≠ 2) (h0 : ¬ (x.d = 0 ∧ (doT p x).e = 0)) (h13 : ¬ (x.d = 0 ∧ (doT p x).e = 13)) (h1 : ¬ (x.d = 1 ∧ (doT p x).is = true)) : (doP p x).L = p.L := by
  by_cases hd0 : x.d = 0
  · obtain ⟨e1, e2⟩ := do0 p x hd0
    rw [e2] at h0 h13
    rw [e1]
    rcases acq_cases p.most p.wm p.last p.L p.cs x.se x.e x.now with ⟨c, hc, ha⟩ | ⟨_, _, hL, hg, ha⟩ | ⟨_, _, l', c', _, ⟨_, ha⟩ | ⟨_, ha⟩⟩
    · rw [ha]
    · rw [ha]
    · rw [ha]
    · rw [ha] at h13; exact absurd ⟨hd0, rfl⟩ h13
  · by_cases hd1 : x.d = 1
    · obtain ⟨e1, e2⟩ := do1 p x hd1
      rw [e2] at h1
      rw [e1]
      rcases serve_cases p.most p.last p.L p.cs x.e x.now with ⟨_, ha⟩ | ⟨y, r, hL, ⟨_, ha⟩ | ⟨_, ha⟩⟩
      · rw [ha]
      · rw [ha] at h1; exact absurd ⟨hd1, rfl⟩ h1
      · rw [ha]
    · exact (doL p x hd0 hd1 h2).1
theorem T4 (w0 : World) (room wait : Int) (A : Option Addr) (c : Nat) (l : List PA) (hr : Rd paE w0 6 A l) (hm : l.length ≤ 9223372036854775807) (hok : ∀ x ∈ l, x.ok) :
    Tri Try.prog w0 4 [.int .i64 room, .int .i64 wait, .slice A l.length c] [] fun v m => v = .bool true ∧ m = [] := by
  refine tri_of Try.func4 rfl rfl fun F => ?_
  simp only [Try.ntmps4, argEnv, List.cons_append, List.nil_append]
  refine at_seq_k (fun K0 hK0 => ?_)
  refine at_region ?_
  refine at_v (ov_assign rfl rfl) rfl rfl rfl ?_
  refine at_nil ?_
  refine at_normal ?_
  refine hK0 _ _ _ ?_
  refine at_seq_k (fun K1 hK1 => ?_)
  refine at_seq_k (fun K2 hK2 => ?_)
  refine at_region ?_
  refine at_t (ot_call (ks := []) rfl rfl rfl Try.call8 rfl (T8 _) rfl) rfl rfl rfl ?_
  rintro v0 _ ⟨m0, hp0, rfl⟩
  obtain ⟨rfl, rfl⟩ := hp0
  simp only [List.cons_append, List.nil_append, splice, spliceL]
  refine at_v (ov_not rfl rfl) rfl rfl rfl ?_
  refine at_nil ?_
  refine at_normal ?_
  refine hK2 _ _ _ ?_
  refine at_cond_false rfl ?_
  refine at_skip ?_
  refine at_normal ?_
  refine hK1 _ _ _ ?_
  refine at_seq_k (fun K3 hK3 => ?_)
  refine at_region ?_
  refine at_v (ov_move rfl rfl) rfl rfl rfl ?_
  refine at_v (ov_move rfl rfl) rfl rfl rfl ?_
  refine at_t (ot_call (ks := []) rfl rfl rfl Try.call9 rfl (T9 _ _ _ _) rfl) rfl rfl rfl ?_
  rintro v0 _ ⟨m0, hp0, rfl⟩
  obtain ⟨b0, hp0⟩ := hp0
  obtain ⟨hq0, hp0⟩ := hp0
  obtain ⟨hq1, hp0⟩ := hp0
  cases b0 with
  | false =>
    obtain ⟨rfl, rfl⟩ := hq1 rfl
    simp only [List.nil_append]
    refine at_v (ov_move rfl rfl) rfl rfl rfl ?_
    refine at_v (ov_extract rfl rfl rfl) rfl rfl rfl ?_
    refine at_v (ov_extract rfl rfl rfl) rfl rfl rfl ?_
    refine at_v (ov_assign rfl rfl) rfl rfl rfl ?_
    refine at_v (ov_assign rfl rfl) rfl rfl rfl ?_
    refine at_nil ?_
    refine at_normal ?_
    refine hK3 _ _ _ ?_
    refine at_seq_k (fun K4 hK4 => ?_)
    refine at_seq_k (fun K5 hK5 => ?_)
    refine at_region ?_
    refine at_v (ov_move rfl rfl) rfl rfl rfl ?_
    refine at_v (ov_ptr_nil (q := none) rfl Try.underlying25 rfl rfl) rfl rfl rfl ?_
    refine at_v (ov_move rfl rfl) rfl rfl rfl ?_
    refine at_unwanted (j := 2) rfl rfl rfl rfl ?_
    refine at_unwanted (j := 2) rfl rfl rfl rfl ?_
    refine at_unwanted (j := 2) rfl rfl rfl rfl ?_
    refine at_v (ov_pick_t rfl rfl rfl) rfl rfl rfl ?_
    refine at_nil ?_
    refine at_normal ?_
    refine hK5 _ _ _ ?_
    refine at_cond_true rfl ?_
    refine at_seq_k (fun K6 hK6 => ?_)
    refine at_region ?_
    refine at_v (ov_assign rfl rfl) rfl rfl rfl ?_
    refine at_nil ?_
    refine at_normal ?_
    refine hK6 _ _ _ ?_
    refine at_ret ?_
    refine at_then_ret ?_
    refine at_end ?_
    refine at_fin (rsV rfl (res_tmp rfl)) ?_
    refine ⟨_, ⟨rfl, rfl⟩, ?_⟩
    exact fun _ s => s.finEq (ks := []) (js := []) rfl rfl rfl
  | true =>
    obtain ⟨g, rfl, rfl⟩ := hp0 rfl
    have hb : 0 ≤ wait ∧ wait ≤ 12 ∧ 1 ≤ room ∧ room ≤ 6 ∧ (1 : Int) ≠ 0 := by simpa using hq0
    clear hq0 hq1 hp0
    have hw0 : Wf 0 (initP room 1 wait) := wf_init ⟨hb.1, hb.2.1, hb.2.2.1, hb.2.2.2.1⟩
    simp only [List.cons_append, List.nil_append]
    by_cases hi1 : (l.length : Int) > 100
    · refine at_v (ov_move rfl rfl) rfl rfl rfl ?_
      refine at_v (ov_extract rfl rfl rfl) rfl rfl rfl ?_
      refine at_v (ov_extract rfl rfl rfl) rfl rfl rfl ?_
      refine at_v (ov_assign rfl rfl) rfl rfl rfl ?_
      refine at_v (ov_assign rfl rfl) rfl rfl rfl ?_
      refine at_nil ?_
      refine at_normal ?_
      refine hK3 _ _ _ ?_
      refine at_seq_k (fun K4 hK4 => ?_)
      refine at_seq_k (fun K5 hK5 => ?_)
      refine at_region ?_
      refine at_v (ov_move rfl rfl) rfl rfl rfl ?_
      refine at_v (ov_ptr_nil (q := none) rfl Try.underlying25 rfl rfl) rfl rfl rfl ?_
      refine at_v (ov_move rfl rfl) rfl rfl rfl ?_
      refine at_wanted (j := 2) rfl ?_
      refine at_v (ov_move rfl rfl) rfl rfl rfl ?_
      refine at_wanted (j := 2) rfl ?_
      refine at_v (ov_len_slice rfl Try.underlying23 rfl) rfl rfl rfl ?_
      refine at_wanted (j := 2) rfl ?_
      refine at_v (ov_int rfl rfl rfl rfl) rfl rfl rfl ?_
      refine at_v (ov_pick_f rfl rfl rfl) rfl rfl rfl ?_
      refine at_nil ?_
      refine at_normal ?_
      refine hK5 _ _ _ ?_
      refine at_cond_true (congrArg (fun b => some (Value.bool b)) (show _ = true from decide_eq_true (by omega))) ?_
      refine at_seq_k (fun K6 hK6 => ?_)
      refine at_region ?_
      refine at_v (ov_assign rfl rfl) rfl rfl rfl ?_
      refine at_nil ?_
      refine at_normal ?_
      refine hK6 _ _ _ ?_
      refine at_ret ?_
      refine at_then_ret ?_
      refine at_end ?_
      refine at_fin (rsV rfl (res_tmp rfl)) ?_
      refine ⟨_, ⟨rfl, rfl⟩, ?_⟩
      exact fun _ s => s.finEq (ks := []) (js := [0]) rfl rfl rfl
    · have hl : l.length ≤ 100 := by omega
      refine at_v (ov_move rfl rfl) rfl rfl rfl ?_
      refine at_v (ov_extract rfl rfl rfl) rfl rfl rfl ?_
      refine at_v (ov_extract rfl rfl rfl) rfl rfl rfl ?_
      refine at_v (ov_assign rfl rfl) rfl rfl rfl ?_
      refine at_v (ov_assign rfl rfl) rfl rfl rfl ?_
      refine at_nil ?_
      refine at_normal ?_
      refine hK3 _ _ _ ?_
      refine at_seq_k (fun K4 hK4 => ?_)
      refine at_seq_k (fun K5 hK5 => ?_)
      refine at_region ?_
      refine at_v (ov_move rfl rfl) rfl rfl rfl ?_
      refine at_v (ov_ptr_nil (q := none) rfl Try.underlying25 rfl rfl) rfl rfl rfl ?_
      refine at_v (ov_move rfl rfl) rfl rfl rfl ?_
      refine at_wanted (j := 2) rfl ?_
      refine at_v (ov_move rfl rfl) rfl rfl rfl ?_
      refine at_wanted (j := 2) rfl ?_
      refine at_v (ov_len_slice rfl Try.underlying23 rfl) rfl rfl rfl ?_
      refine at_wanted (j := 2) rfl ?_
      refine at_v (ov_int rfl rfl rfl rfl) rfl rfl rfl ?_
      refine at_v (ov_pick_f rfl rfl rfl) rfl rfl rfl ?_
      refine at_nil ?_
      refine at_normal ?_
      refine hK5 _ _ _ ?_
      refine at_cond_false (congrArg (fun b => some (Value.bool b)) (show _ = false from decide_eq_false (by omega))) ?_
      refine at_skip ?_
      refine at_normal ?_
      refine hK4 _ _ _ ?_
      refine at_seq_k (fun K6 hK6 => ?_)
      refine at_seq_k (fun K7 hK7 => ?_)
      refine at_region ?_
      refine at_v (ov_move rfl rfl) rfl rfl rfl ?_
      refine at_v (ov_len_slice rfl Try.underlying23 rfl) rfl rfl rfl ?_
      refine at_v (ov_move rfl rfl) rfl rfl rfl ?_
      refine at_nil ?_
      refine at_normal ?_
      refine hK7 _ _ _ ?_
      refine at_block ?_
      refine at_loopE [32, 33, 34, 10, 35, 36, 11, 37, 38, 39, 12, 40, 41, 13, 43, 44, 45, 46, 47, 48, 49, 50, 42, 51, 52, 53, 54, 55, 56, 57, 58, 59, 60, 61, 62, 63, 6, 65, 66, 67, 68, 69, 70, 71, 72, 64, 73, 74, 75, 76, 77, 78, 79, 80, 82, 83, 84, 85, 86, 87, 88, 81, 89, 90, 91, 92, 93, 94, 95, 96, 97, 98, 99, 100, 101, 102, 103, 104, 105, 106, 108, 109, 110, 111, 112, 113, 114, 115, 116, 107, 117, 31] (fun k => k ≤ l.length) (fun k => [(31, .int .i64 (k : Nat))]) (fun k m => setAt 0 (PO g (runP (initP room 1 wait) (l.take k))) m) (fun k => l.length - k) 0 (Nat.zero_le _) ⟨rfl, trivial⟩ (fun _ s => s) ?_
      intro k hk
      simp only [setAt]
      have hwk := wf_runK hw0 hl hok k
      have hrs : ∀ h : k < l.length, runP (initP room 1 wait) (l.take (k + 1)) = doP (runP (initP room 1 wait) (l.take k)) l[k] := fun h => runP_succ _ _ _ h
      generalize runP (initP room 1 wait) (l.take k) = p at hwk hrs ⊢
      have hL : p.L.length ≤ 12 := by have := hwk.lenL; have := hwk.wm_; omega
      refine at_seq_k (fun K8 hK8 => ?_)
      refine at_region ?_
      refine at_v (ov_int rfl rfl rfl rfl) rfl rfl rfl ?_
      refine at_nil ?_
      refine at_normal ?_
      refine hK8 _ _ _ ?_
      refine at_seq_k (fun K9 hK9 => ?_)
      refine at_cond rfl (fun hc => ?_) (fun hc => ?_)
      · have hlt : k < l.length := by simpa using hc
        have hget : l[k]? = some l[k] := List.getElem?_eq_getElem hlt
        have hxok := hok l[k] (List.mem_of_getElem? hget)
        have hrs := hrs hlt
        generalize l[k] = x at hget hxok hrs
        have hw2 := hwk.do_ (by omega) x hxok
        have hL2 : (doP p x).L.length ≤ 12 := by have := hw2.lenL; have := hw2.wm_; omega
        by_cases hA : x.d = 0 ∧ (doT p x).e = 0
        · obtain ⟨hi2, hi3⟩ := hA
          obtain ⟨hf1, hf2, hf3⟩ := fair0 hwk x hi2 hi3
          have hi4 : ¬ (p.L.length : Int) > 0 := by simp [hf1]
          have hi5 : ¬ ((doP p x).L.length : Int) > 0 := by simp [hf2]
          refine at_skip ?_
          refine at_normal ?_
          refine hK9 _ _ _ ?_
          refine at_seq_k (fun K10 hK10 => ?_)
          refine at_block ?_
          refine at_seq_k (fun K11 hK11 => ?_)
          refine at_region ?_
          refine at_v (ov_indexRd (fun _ s => hr.up s) rfl Try.underlying23 rfl rfl rfl hget) rfl rfl rfl ?_
          refine at_v (ov_loadRdS (vs := [_, _, _, _, _, _]) (fun _ s => hr.up s) rfl rfl rfl hget rfl rfl) rfl rfl rfl ?_
          refine at_t (ot_allocA rfl Try.zeroValue30) rfl rfl rfl ?_
          rintro _ _ ⟨g0, rfl, rfl⟩
          refine at_t0 (ot_store (k := 0) rfl rfl rfl rfl rfl rfl rfl) rfl rfl ?_
          rintro _ _ ⟨rfl, rfl⟩
          simp only [setAt, splice, spliceL, Value.cells]
          refine at_nil ?_
          refine at_normal ?_
          refine hK11 _ _ _ ?_
          refine at_seq_k (fun K12 hK12 => ?_)
          refine at_region ?_
          refine at_v (ov_move rfl rfl) rfl rfl rfl ?_
          refine at_t (ot_call (ks := [1]) rfl rfl rfl Try.call12 rfl (T12 _) rfl) rfl rfl rfl ?_
          rintro v0 _ ⟨m0, hp0, rfl⟩
          obtain ⟨A0, hp0⟩ := hp0
          obtain ⟨c0, hp0⟩ := hp0
          obtain ⟨rfl, rfl⟩ := hp0
          simp only [List.cons_append, List.nil_append, splice, spliceL]
          refine at_v (ov_assign rfl rfl) rfl rfl rfl ?_
          refine at_nil ?_
          refine at_normal ?_
          refine hK12 _ _ _ ?_
          refine at_seq_k (fun K13 hK13 => ?_)
          refine at_region ?_
          refine at_v (ov_move rfl rfl) rfl rfl rfl ?_
          refine at_v (ov_loadS (cs := [_, _, _, _, _, _]) rfl rfl rfl rfl (fun _ s => s.lds (k := 2) rfl ⟨rfl, rfl, rfl, rfl, rfl, rfl, trivial⟩)) rfl rfl rfl ?_
          refine at_t (ot_call (ks := [1]) rfl rfl rfl Try.call10 rfl (T10 _ _ (by first | assumption | rfl | omega | decide | (simp; done) | (simp at *; omega)) (by first | assumption | rfl | omega | decide | (simp; done) | (simp at *; omega))) rfl) rfl rfl rfl ?_
          rintro v0 _ ⟨m0, hp0, rfl⟩
          obtain ⟨rfl, rfl⟩ := hp0
          simp only [List.cons_append, List.nil_append, splice, spliceL]
          refine at_t (ot_allocA rfl Try.zeroValue32) rfl rfl rfl ?_
          rintro _ _ ⟨g1, rfl, rfl⟩
          refine at_t0 (ot_store (k := 0) rfl rfl rfl rfl rfl rfl rfl) rfl rfl ?_
          rintro _ _ ⟨rfl, rfl⟩
          simp only [setAt, splice, spliceL, Value.cells]
          refine at_nil ?_
          refine at_normal ?_
          refine hK13 _ _ _ ?_
          refine at_seq_k (fun K14 hK14 => ?_)
          refine at_region ?_
          refine at_v (ov_move rfl rfl) rfl rfl rfl ?_
          refine at_t (ot_call (ks := [1]) rfl rfl rfl Try.call12 rfl (T12 _) rfl) rfl rfl rfl ?_
          rintro v0 _ ⟨m0, hp0, rfl⟩
          obtain ⟨A1, hp0⟩ := hp0
          obtain ⟨c1, hp0⟩ := hp0
          obtain ⟨rfl, rfl⟩ := hp0
          simp only [List.cons_append, List.nil_append, splice, spliceL]
          refine at_v (ov_assign rfl rfl) rfl rfl rfl ?_
          refine at_nil ?_
          refine at_normal ?_
          refine hK14 _ _ _ ?_
          refine at_block ?_
          refine at_seq_k (fun K15 hK15 => ?_)
          refine at_region ?_
          refine at_v (ov_fieldAddr (k := 0) (r := 0) rfl rfl rfl rfl) rfl rfl rfl ?_
          refine at_v (ov_load rfl rfl rfl (fun _ s => s.ld (k := 4) rfl rfl)) rfl rfl rfl ?_
          refine at_v (ov_int rfl rfl rfl rfl) rfl rfl rfl ?_
          refine at_v (ov_move rfl rfl) rfl rfl rfl ?_
          refine at_reval 46 (.bool true) rfl (congrArg Value.bool (decide_eq_true (by omega))) ?_
          refine at_wanted (j := 3) rfl ?_
          refine at_v (ov_fieldAddr (k := 4) (r := 4) rfl rfl rfl rfl) rfl rfl rfl ?_
          refine at_wanted (j := 3) rfl ?_
          refine at_v (ov_load rfl rfl rfl (fun _ s => s.ld (k := 2) rfl rfl)) rfl rfl rfl ?_
          refine at_wanted (j := 3) rfl ?_
          refine at_v (ov_int rfl rfl rfl rfl) rfl rfl rfl ?_
          refine at_v (ov_pick_t rfl rfl rfl) rfl rfl rfl ?_
          refine at_v (ov_assign rfl rfl) rfl rfl rfl ?_
          refine at_nil ?_
          refine at_normal ?_
          refine hK15 _ _ _ ?_
          refine at_cond_true (congrArg (fun b => some (Value.bool b)) (show _ = true from decide_eq_true (by omega))) ?_
          refine at_seq_k (fun K16 hK16 => ?_)
          refine at_region ?_
          refine at_v (ov_move rfl rfl) rfl rfl rfl ?_
          refine at_v (ov_len_slice rfl Try.underlying36 rfl) rfl rfl rfl ?_
          refine at_v (ov_int rfl rfl rfl rfl) rfl rfl rfl ?_
          refine at_v (ov_move rfl rfl) rfl rfl rfl ?_
          refine at_reval 54 (.bool false) rfl (congrArg Value.bool (decide_eq_false (by omega))) ?_
          refine at_wanted (j := 3) rfl ?_
          refine at_v (ov_move rfl rfl) rfl rfl rfl ?_
          refine at_wanted (j := 3) rfl ?_
          refine at_v (ov_len_slice rfl Try.underlying36 rfl) rfl rfl rfl ?_
          refine at_wanted (j := 3) rfl ?_
          refine at_v (ov_int rfl rfl rfl rfl) rfl rfl rfl ?_
          refine at_v (ov_pick_f rfl rfl rfl) rfl rfl rfl ?_
          refine at_v (ov_move rfl rfl) rfl rfl rfl ?_
          refine at_reval 59 (.bool false) rfl (congrArg Value.bool (decide_eq_false (by omega))) ?_
          refine at_wanted (j := 8) rfl ?_
          refine at_v (ov_fieldAddr (k := 0) (r := 0) rfl rfl rfl rfl) rfl rfl rfl ?_
          refine at_wanted (j := 8) rfl ?_
          refine at_v (ov_load rfl rfl rfl (fun _ s => s.ld (k := 2) rfl rfl)) rfl rfl rfl ?_
          refine at_wanted (j := 8) rfl ?_
          refine at_v (ov_int rfl rfl rfl rfl) rfl rfl rfl ?_
          refine at_v (ov_pick_f rfl rfl rfl) rfl rfl rfl ?_
          refine at_nil ?_
          refine at_normal ?_
          refine hK16 _ _ _ ?_
          refine at_cond_false (congrArg (fun b => some (Value.bool b)) (show _ = false from decide_eq_false (by omega))) ?_
          refine at_skip ?_
          refine at_inb_normal ?_
          refine at_inb_normal ?_
          refine at_normal ?_
          refine hK10 _ _ _ ?_
          refine at_region ?_
          refine at_v ((ov_int rfl rfl rfl rfl).eq (congrArg (Value.int .i64) (inK_i64 (by omega) (by omega)))) rfl rfl rfl ?_
          refine at_v (ov_move rfl rfl) rfl rfl rfl ?_
          refine at_nil ?_
          refine at_normal ?_
          refine at_roundF (k + 1) hlt (by omega) ⟨rfl, trivial⟩ rfl ?_
          rw [hrs]
          exact fun _ s => s.finEq (ks := [1]) (js := [0, 0, 0, 0]) rfl rfl rfl
        · by_cases hB : x.d = 0 ∧ (doT p x).e = 13
          · obtain ⟨hi2, hi3⟩ := hB
            have hf := fair13 x hi2 hi3
            have hwt : Tri Try.prog w0 12 [ptrTo g] [PO g (doP p x)] fun v m => ∃ A c, v = .slice A (p.L ++ [x.se]).length c ∧ m = [Row wE 3 1 A c (p.L ++ [x.se]), PO g (doP p x)] := by
              rw [← hf]; exact T12 w0
            refine at_skip ?_
            refine at_normal ?_
            refine hK9 _ _ _ ?_
            refine at_seq_k (fun K10 hK10 => ?_)
            refine at_block ?_
            refine at_seq_k (fun K11 hK11 => ?_)
            refine at_region ?_
            refine at_v (ov_indexRd (fun _ s => hr.up s) rfl Try.underlying23 rfl rfl rfl hget) rfl rfl rfl ?_
            refine at_v (ov_loadRdS (vs := [_, _, _, _, _, _]) (fun _ s => hr.up s) rfl rfl rfl hget rfl rfl) rfl rfl rfl ?_
            refine at_t (ot_allocA rfl Try.zeroValue30) rfl rfl rfl ?_
            rintro _ _ ⟨g0, rfl, rfl⟩
            refine at_t0 (ot_store (k := 0) rfl rfl rfl rfl rfl rfl rfl) rfl rfl ?_
            rintro _ _ ⟨rfl, rfl⟩
            simp only [setAt, splice, spliceL, Value.cells]
            refine at_nil ?_
            refine at_normal ?_
            refine hK11 _ _ _ ?_
            refine at_seq_k (fun K12 hK12 => ?_)
            refine at_region ?_
            refine at_v (ov_move rfl rfl) rfl rfl rfl ?_
            refine at_t (ot_call (ks := [1]) rfl rfl rfl Try.call12 rfl (T12 _) rfl) rfl rfl rfl ?_
            rintro v0 _ ⟨m0, hp0, rfl⟩
            obtain ⟨A0, hp0⟩ := hp0
            obtain ⟨c0, hp0⟩ := hp0
            obtain ⟨rfl, rfl⟩ := hp0
            simp only [List.cons_append, List.nil_append, splice, spliceL]
            refine at_v (ov_assign rfl rfl) rfl rfl rfl ?_
            refine at_nil ?_
            refine at_normal ?_
            refine hK12 _ _ _ ?_
            refine at_seq_k (fun K13 hK13 => ?_)
            refine at_region ?_
            refine at_v (ov_move rfl rfl) rfl rfl rfl ?_
            refine at_v (ov_loadS (cs := [_, _, _, _, _, _]) rfl rfl rfl rfl (fun _ s => s.lds (k := 2) rfl ⟨rfl, rfl, rfl, rfl, rfl, rfl, trivial⟩)) rfl rfl rfl ?_
            refine at_t (ot_call (ks := [1]) rfl rfl rfl Try.call10 rfl (T10 _ _ (by first | assumption | rfl | omega | decide | (simp; done) | (simp at *; omega)) (by first | assumption | rfl | omega | decide | (simp; done) | (simp at *; omega))) rfl) rfl rfl rfl ?_
            rintro v0 _ ⟨m0, hp0, rfl⟩
            obtain ⟨rfl, rfl⟩ := hp0
            simp only [List.cons_append, List.nil_append, splice, spliceL]
            refine at_t (ot_allocA rfl Try.zeroValue32) rfl rfl rfl ?_
            rintro _ _ ⟨g1, rfl, rfl⟩
            refine at_t0 (ot_store (k := 0) rfl rfl rfl rfl rfl rfl rfl) rfl rfl ?_
            rintro _ _ ⟨rfl, rfl⟩
            simp only [setAt, splice, spliceL, Value.cells]
            refine at_nil ?_
            refine at_normal ?_
            refine hK13 _ _ _ ?_
            refine at_seq_k (fun K14 hK14 => ?_)
            refine at_region ?_
            refine at_v (ov_move rfl rfl) rfl rfl rfl ?_
            refine at_t (ot_call (ks := [1]) rfl rfl rfl Try.call12 rfl (hwt ) rfl) rfl rfl rfl ?_
            rintro v0 _ ⟨m0, hp0, rfl⟩
            obtain ⟨A1, hp0⟩ := hp0
            obtain ⟨c1, hp0⟩ := hp0
            obtain ⟨rfl, rfl⟩ := hp0
            simp only [List.cons_append, List.nil_append, splice, spliceL]
            refine at_v (ov_assign rfl rfl) rfl rfl rfl ?_
            refine at_nil ?_
            refine at_normal ?_
            refine hK14 _ _ _ ?_
            refine at_block ?_
            refine at_seq_k (fun K15 hK15 => ?_)
            refine at_region ?_
            refine at_v (ov_fieldAddr (k := 0) (r := 0) rfl rfl rfl rfl) rfl rfl rfl ?_
            refine at_v (ov_load rfl rfl rfl (fun _ s => s.ld (k := 4) rfl rfl)) rfl rfl rfl ?_
            refine at_v (ov_int rfl rfl rfl rfl) rfl rfl rfl ?_
            refine at_v (ov_move rfl rfl) rfl rfl rfl ?_
            refine at_reval 46 (.bool true) rfl (congrArg Value.bool (decide_eq_true (by omega))) ?_
            refine at_wanted (j := 3) rfl ?_
            refine at_v (ov_fieldAddr (k := 4) (r := 4) rfl rfl rfl rfl) rfl rfl rfl ?_
            refine at_wanted (j := 3) rfl ?_
            refine at_v (ov_load rfl rfl rfl (fun _ s => s.ld (k := 2) rfl rfl)) rfl rfl rfl ?_
            refine at_wanted (j := 3) rfl ?_
            refine at_v (ov_int rfl rfl rfl rfl) rfl rfl rfl ?_
            refine at_v (ov_pick_t rfl rfl rfl) rfl rfl rfl ?_
            refine at_v (ov_assign rfl rfl) rfl rfl rfl ?_
            refine at_nil ?_
            refine at_normal ?_
            refine hK15 _ _ _ ?_
            refine at_cond_false (congrArg (fun b => some (Value.bool b)) (show _ = false from decide_eq_false (by omega))) ?_
            refine at_seq_k (fun K16 hK16 => ?_)
            refine at_region ?_
            refine at_v (ov_fieldAddr (k := 0) (r := 0) rfl rfl rfl rfl) rfl rfl rfl ?_
            refine at_v (ov_load rfl rfl rfl (fun _ s => s.ld (k := 4) rfl rfl)) rfl rfl rfl ?_
            refine at_v (ov_int rfl rfl rfl rfl) rfl rfl rfl ?_
            refine at_v (ov_move rfl rfl) rfl rfl rfl ?_
            refine at_reval 68 (.bool true) rfl (congrArg Value.bool (decide_eq_true (by omega))) ?_
            refine at_wanted (j := 3) rfl ?_
            refine at_v (ov_fieldAddr (k := 4) (r := 4) rfl rfl rfl rfl) rfl rfl rfl ?_
            refine at_wanted (j := 3) rfl ?_
            refine at_v (ov_load rfl rfl rfl (fun _ s => s.ld (k := 2) rfl rfl)) rfl rfl rfl ?_
            refine at_wanted (j := 3) rfl ?_
            refine at_v (ov_int rfl rfl rfl rfl) rfl rfl rfl ?_
            refine at_v (ov_pick_t rfl rfl rfl) rfl rfl rfl ?_
            refine at_v (ov_assign rfl rfl) rfl rfl rfl ?_
            refine at_nil ?_
            refine at_normal ?_
            refine hK16 _ _ _ ?_
            refine at_cond_true (congrArg (fun b => some (Value.bool b)) (show _ = true from decide_eq_true (by omega))) ?_
            refine at_seq_k (fun K17 hK17 => ?_)
            refine at_region ?_
            refine at_v (ov_move rfl rfl) rfl rfl rfl ?_
            refine at_v (ov_move rfl rfl) rfl rfl rfl ?_
            refine at_v (ov_fieldAddr (k := 1) (r := 1) rfl rfl rfl rfl) rfl rfl rfl ?_
            refine at_v (ov_load rfl rfl rfl (fun _ s => s.ld (k := 4) rfl rfl)) rfl rfl rfl ?_
            refine at_t (ot_buildSlice (cs := [_]) rfl Try.underlying36 rfl rfl rfl rfl rfl rfl) rfl rfl rfl ?_
            rintro _ _ ⟨g2, rfl, rfl⟩
            refine at_t (ot_append (k := 4) (size := 1) (bytes := 8) (ys := [x.se]) (fun _ s => s.rdPt (k := 0) rfl rfl (by simp [wE])) rfl Try.underlying36 (ti := Try.t3) rfl rfl rfl rfl rfl (by decide) rfl rfl rfl (by simp [wE, Value.oneCell']) (by simp; omega) (by decide)) rfl rfl rfl ?_
            rintro _ _ ⟨A2, c2, rfl, rfl⟩
            simp only [setAt]
            refine at_t (ot_call (ks := [1, 3]) rfl rfl rfl Try.call13 rfl (T13a _ (by first | assumption | rfl | omega | decide | (simp; done) | (simp at *; omega)) (by first | assumption | rfl | omega | decide | (simp; done) | (simp at *; omega))) rfl) rfl rfl rfl ?_
            rintro v0 _ ⟨m0, hp0, rfl⟩
            obtain ⟨rfl, rfl⟩ := hp0
            simp only [List.cons_append, List.nil_append, splice, spliceL]
            refine at_v (ov_not rfl rfl) rfl rfl rfl ?_
            refine at_nil ?_
            refine at_normal ?_
            refine hK17 _ _ _ ?_
            refine at_cond_false rfl ?_
            refine at_skip ?_
            refine at_inb_normal ?_
            refine at_inb_normal ?_
            refine at_normal ?_
            refine hK10 _ _ _ ?_
            refine at_region ?_
            refine at_v ((ov_int rfl rfl rfl rfl).eq (congrArg (Value.int .i64) (inK_i64 (by omega) (by omega)))) rfl rfl rfl ?_
            refine at_v (ov_move rfl rfl) rfl rfl rfl ?_
            refine at_nil ?_
            refine at_normal ?_
            refine at_roundF (k + 1) hlt (by omega) ⟨rfl, trivial⟩ rfl ?_
            rw [hrs]
            exact fun _ s => s.finEq (ks := [3]) (js := [0, 0, 0, 0, 0]) rfl rfl rfl
          · by_cases hC : x.d = 1 ∧ (doT p x).is = true
            · obtain ⟨hi2, hi3⟩ := hC
              have hf := fairServe x hi2 hi3
              have hwt : Tri Try.prog w0 12 [ptrTo g] [PO g p] fun v m => ∃ A c, v = .slice A ((doT p x).a :: (doP p x).L).length c ∧ m = [Row wE 3 1 A c ((doT p x).a :: (doP p x).L), PO g p] := by
                rw [← hf]; exact T12 w0
              have hi4 : ¬ (((doT p x).a :: (doP p x).L).length : Int) = 0 := by simp; omega
              have hcat : ((doT p x).a :: (doP p x).L)[0]? = some (doT p x).a := rfl
              have hl12 : ((doT p x).a :: (doP p x).L).length ≤ 12 := by rw [← hf]; exact hL
              refine at_skip ?_
              refine at_normal ?_
              refine hK9 _ _ _ ?_
              refine at_seq_k (fun K10 hK10 => ?_)
              refine at_block ?_
              refine at_seq_k (fun K11 hK11 => ?_)
              refine at_region ?_
              refine at_v (ov_indexRd (fun _ s => hr.up s) rfl Try.underlying23 rfl rfl rfl hget) rfl rfl rfl ?_
              refine at_v (ov_loadRdS (vs := [_, _, _, _, _, _]) (fun _ s => hr.up s) rfl rfl rfl hget rfl rfl) rfl rfl rfl ?_
              refine at_t (ot_allocA rfl Try.zeroValue30) rfl rfl rfl ?_
              rintro _ _ ⟨g0, rfl, rfl⟩
              refine at_t0 (ot_store (k := 0) rfl rfl rfl rfl rfl rfl rfl) rfl rfl ?_
              rintro _ _ ⟨rfl, rfl⟩
              simp only [setAt, splice, spliceL, Value.cells]
              refine at_nil ?_
              refine at_normal ?_
              refine hK11 _ _ _ ?_
              refine at_seq_k (fun K12 hK12 => ?_)
              refine at_region ?_
              refine at_v (ov_move rfl rfl) rfl rfl rfl ?_
              refine at_t (ot_call (ks := [1]) rfl rfl rfl Try.call12 rfl (hwt ) rfl) rfl rfl rfl ?_
              rintro v0 _ ⟨m0, hp0, rfl⟩
              obtain ⟨A0, hp0⟩ := hp0
              obtain ⟨c0, hp0⟩ := hp0
              obtain ⟨rfl, rfl⟩ := hp0
              simp only [List.cons_append, List.nil_append, splice, spliceL]
              refine at_v (ov_assign rfl rfl) rfl rfl rfl ?_
              refine at_nil ?_
              refine at_normal ?_
              refine hK12 _ _ _ ?_
              refine at_seq_k (fun K13 hK13 => ?_)
              refine at_region ?_
              refine at_v (ov_move rfl rfl) rfl rfl rfl ?_
              refine at_v (ov_loadS (cs := [_, _, _, _, _, _]) rfl rfl rfl rfl (fun _ s => s.lds (k := 2) rfl ⟨rfl, rfl, rfl, rfl, rfl, rfl, trivial⟩)) rfl rfl rfl ?_
              refine at_t (ot_call (ks := [1]) rfl rfl rfl Try.call10 rfl (T10 _ _ (by first | assumption | rfl | omega | decide | (simp; done) | (simp at *; omega)) (by first | assumption | rfl | omega | decide | (simp; done) | (simp at *; omega))) rfl) rfl rfl rfl ?_
              rintro v0 _ ⟨m0, hp0, rfl⟩
              obtain ⟨rfl, rfl⟩ := hp0
              simp only [List.cons_append, List.nil_append, splice, spliceL]
              refine at_t (ot_allocA rfl Try.zeroValue32) rfl rfl rfl ?_
              rintro _ _ ⟨g1, rfl, rfl⟩
              refine at_t0 (ot_store (k := 0) rfl rfl rfl rfl rfl rfl rfl) rfl rfl ?_
              rintro _ _ ⟨rfl, rfl⟩
              simp only [setAt, splice, spliceL, Value.cells]
              refine at_nil ?_
              refine at_normal ?_
              refine hK13 _ _ _ ?_
              refine at_seq_k (fun K14 hK14 => ?_)
              refine at_region ?_
              refine at_v (ov_move rfl rfl) rfl rfl rfl ?_
              refine at_t (ot_call (ks := [1]) rfl rfl rfl Try.call12 rfl (T12 _) rfl) rfl rfl rfl ?_
              rintro v0 _ ⟨m0, hp0, rfl⟩
              obtain ⟨A1, hp0⟩ := hp0
              obtain ⟨c1, hp0⟩ := hp0
              obtain ⟨rfl, rfl⟩ := hp0
              simp only [List.cons_append, List.nil_append, splice, spliceL]
              refine at_v (ov_assign rfl rfl) rfl rfl rfl ?_
              refine at_nil ?_
              refine at_normal ?_
              refine hK14 _ _ _ ?_
              refine at_block ?_
              refine at_seq_k (fun K15 hK15 => ?_)
              refine at_region ?_
              refine at_v (ov_fieldAddr (k := 0) (r := 0) rfl rfl rfl rfl) rfl rfl rfl ?_
              refine at_v (ov_load rfl rfl rfl (fun _ s => s.ld (k := 4) rfl rfl)) rfl rfl rfl ?_
              refine at_v (ov_int rfl rfl rfl rfl) rfl rfl rfl ?_
              refine at_v (ov_move rfl rfl) rfl rfl rfl ?_
              refine at_reval 46 (.bool false) rfl (congrArg Value.bool (decide_eq_false (by omega))) ?_
              refine at_unwanted (j := 3) rfl rfl rfl rfl ?_
              refine at_unwanted (j := 3) rfl rfl rfl rfl ?_
              refine at_unwanted (j := 3) rfl rfl rfl rfl ?_
              refine at_v (ov_pick_f rfl rfl rfl) rfl rfl rfl ?_
              refine at_v (ov_assign rfl rfl) rfl rfl rfl ?_
              refine at_nil ?_
              refine at_normal ?_
              refine hK15 _ _ _ ?_
              refine at_cond_false rfl ?_
              refine at_seq_k (fun K16 hK16 => ?_)
              refine at_region ?_
              refine at_v (ov_fieldAddr (k := 0) (r := 0) rfl rfl rfl rfl) rfl rfl rfl ?_
              refine at_v (ov_load rfl rfl rfl (fun _ s => s.ld (k := 4) rfl rfl)) rfl rfl rfl ?_
              refine at_v (ov_int rfl rfl rfl rfl) rfl rfl rfl ?_
              refine at_v (ov_move rfl rfl) rfl rfl rfl ?_
              refine at_reval 68 (.bool false) rfl (congrArg Value.bool (decide_eq_false (by omega))) ?_
              refine at_unwanted (j := 3) rfl rfl rfl rfl ?_
              refine at_unwanted (j := 3) rfl rfl rfl rfl ?_
              refine at_unwanted (j := 3) rfl rfl rfl rfl ?_
              refine at_v (ov_pick_f rfl rfl rfl) rfl rfl rfl ?_
              refine at_v (ov_assign rfl rfl) rfl rfl rfl ?_
              refine at_nil ?_
              refine at_normal ?_
              refine hK16 _ _ _ ?_
              refine at_cond_false rfl ?_
              refine at_seq_k (fun K17 hK17 => ?_)
              refine at_region ?_
              refine at_v (ov_fieldAddr (k := 0) (r := 0) rfl rfl rfl rfl) rfl rfl rfl ?_
              refine at_v (ov_load rfl rfl rfl (fun _ s => s.ld (k := 4) rfl rfl)) rfl rfl rfl ?_
              refine at_v (ov_int rfl rfl rfl rfl) rfl rfl rfl ?_
              refine at_v (ov_move rfl rfl) rfl rfl rfl ?_
              refine at_reval 85 (.bool true) rfl (congrArg Value.bool (decide_eq_true (by omega))) ?_
              refine at_wanted (j := 3) rfl ?_
              refine at_v (ov_fieldAddr (k := 3) (r := 3) rfl rfl rfl rfl) rfl rfl rfl ?_
              refine at_wanted (j := 3) rfl ?_
              refine at_v (ov_load rfl rfl rfl (fun _ s => s.ld (k := 2) rfl rfl)) rfl rfl rfl ?_
              refine at_v (ov_pick_t rfl rfl rfl) rfl rfl rfl ?_
              refine at_v (ov_assign rfl rfl) rfl rfl rfl ?_
              refine at_nil ?_
              refine at_normal ?_
              refine hK17 _ _ _ ?_
              refine at_cond_true (congrArg (fun b => some (Value.bool b)) (show _ = true from by first | assumption | (rw [Bool.not_eq_true']; exact decide_eq_false (by omega)))) ?_
              refine at_seq_k (fun K18 hK18 => ?_)
              refine at_draw _ [] 1000 [(2, 0), (1, 1), (2, 2), (2, 3), (2, 4), (1, 5), (1, 6), (2, 7), (1, 8), (2, 9), (2, 10), (2, 11), (2, 12), (2, 13), (1, 14), (0, 15), (2, 16), (2, 17)] (by kernel_rfl) (by kernel_rfl) (fun _ s => (s.pulls (ks := [0, 0, 0, 0, 0]) rfl).left) ?_
              refine aq_p (ov_move rfl rfl) rfl rfl rfl ?_
              refine aq_v (ov_len_slice rfl Try.underlying36 rfl) rfl rfl rfl ?_
              refine aq_p (ov_int rfl rfl rfl rfl) rfl rfl rfl ?_
              refine aq_p (ov_move rfl rfl) rfl rfl rfl ?_
              refine aq_wanted (j := 3) rfl ?_
              refine aq_p (ov_move rfl rfl) rfl rfl rfl ?_
              refine aq_wanted (j := 3) rfl ?_
              refine aq_v (ov_indexRd (fun _ s => s.rd (k := 3) rfl) rfl Try.underlying36 rfl rfl rfl hcat) rfl rfl rfl ?_
              refine aq_wanted (j := 3) rfl ?_
              refine aq_v (ov_loadRd0 (fun _ s => s.rd (k := 3) rfl) rfl rfl rfl hcat rfl) rfl rfl rfl ?_
              refine aq_wanted (j := 3) rfl ?_
              refine aq_p (ov_fieldAddr (k := 0) (r := 0) rfl rfl rfl rfl) rfl rfl rfl ?_
              refine aq_wanted (j := 3) rfl ?_
              refine aq_v (ov_load rfl rfl rfl (fun _ s => s.ld (k := 2) rfl rfl)) rfl rfl rfl ?_
              refine aq_wanted (j := 3) rfl ?_
              refine aq_p (ov_int rfl rfl rfl rfl) rfl rfl rfl ?_
              refine aq_p (ov_pick_f rfl rfl rfl) rfl rfl rfl ?_
              refine aq_p (ov_move rfl rfl) rfl rfl rfl ?_
              refine at_reval 100 (.bool false) rfl (congrArg Value.bool (by first | assumption | (rw [Bool.not_eq_false']; exact decide_eq_true (by omega)))) ?_
              refine aq_wanted (j := 11) rfl ?_
              refine aq_p (ov_move rfl rfl) rfl rfl rfl ?_
              refine aq_wanted (j := 11) rfl ?_
              refine aq_p (ov_move rfl rfl) rfl rfl rfl ?_
              refine aq_wanted (j := 11) rfl ?_
              refine at_rowLen (xs := (doT p x).a :: (doP p x).L) (enc := wE) 3 rfl fun hc1 hc2 => ?_
              refine aq_v (ov_sliceFrom (k := 1) rfl Try.underlying36 rfl rfl rfl (by simp) (by assumption)) rfl rfl rfl ?_
              refine aq_wanted (j := 11) rfl ?_
              refine aq_t (ot_call (ks := [0, 2]) rfl rfl rfl Try.call13 rfl (T13d _ (by first | assumption | rfl | omega | decide | (simp; done) | (simp at *; omega)) (by first | assumption | rfl | omega | decide | (simp; done) | (simp at *; omega))) rfl) rfl rfl rfl ?_
              rintro v0 _ ⟨m0, hp0, rfl⟩
              obtain ⟨rfl, rfl⟩ := hp0
              simp only [List.cons_append, List.nil_append, splice, spliceL]
              refine ⟨fun _ s => (s.pulls (ks := [0, 1, 1, 0, 0]) rfl).left, ?_⟩
              refine aq_wanted (j := 11) rfl ?_
              refine aq_p (ov_not rfl rfl) rfl rfl rfl ?_
              refine aq_p (ov_pick_f rfl rfl rfl) rfl rfl rfl ?_
              refine aq_nil ?_
              refine at_normal ?_
              refine hK18 _ _ _ ?_
              refine at_cond_false (congrArg (fun b => some (Value.bool b)) (show _ = false from by simp; done)) ?_
              refine at_skip ?_
              refine at_inb_normal ?_
              refine at_inb_normal ?_
              refine at_normal ?_
              refine hK10 _ _ _ ?_
              refine at_region ?_
              refine at_v ((ov_int rfl rfl rfl rfl).eq (congrArg (Value.int .i64) (inK_i64 (by omega) (by omega)))) rfl rfl rfl ?_
              refine at_v (ov_move rfl rfl) rfl rfl rfl ?_
              refine at_nil ?_
              refine at_normal ?_
              refine at_roundF (k + 1) hlt (by omega) ⟨rfl, trivial⟩ rfl ?_
              rw [hrs]
              exact fun _ s => s.finEq (ks := [2]) (js := [0, 0, 0, 0]) rfl rfl rfl
            · by_cases hi2 : x.d = 2
              · have hi3 : ¬ x.d = 0 := by omega
                have hi4 : ¬ x.d = 1 := by omega
                refine at_skip ?_
                refine at_normal ?_
                refine hK9 _ _ _ ?_
                refine at_seq_k (fun K10 hK10 => ?_)
                refine at_block ?_
                refine at_seq_k (fun K11 hK11 => ?_)
                refine at_region ?_
                refine at_v (ov_indexRd (fun _ s => hr.up s) rfl Try.underlying23 rfl rfl rfl hget) rfl rfl rfl ?_
                refine at_v (ov_loadRdS (vs := [_, _, _, _, _, _]) (fun _ s => hr.up s) rfl rfl rfl hget rfl rfl) rfl rfl rfl ?_
                refine at_t (ot_allocA rfl Try.zeroValue30) rfl rfl rfl ?_
                rintro _ _ ⟨g0, rfl, rfl⟩
                refine at_t0 (ot_store (k := 0) rfl rfl rfl rfl rfl rfl rfl) rfl rfl ?_
                rintro _ _ ⟨rfl, rfl⟩
                simp only [setAt, splice, spliceL, Value.cells]
                refine at_nil ?_
                refine at_normal ?_
                refine hK11 _ _ _ ?_
                refine at_seq_k (fun K12 hK12 => ?_)
                refine at_region ?_
                refine at_v (ov_move rfl rfl) rfl rfl rfl ?_
                refine at_t (ot_call (ks := [1]) rfl rfl rfl Try.call12 rfl (T12 _) rfl) rfl rfl rfl ?_
                rintro v0 _ ⟨m0, hp0, rfl⟩
                obtain ⟨A0, hp0⟩ := hp0
                obtain ⟨c0, hp0⟩ := hp0
                obtain ⟨rfl, rfl⟩ := hp0
                simp only [List.cons_append, List.nil_append, splice, spliceL]
                refine at_v (ov_assign rfl rfl) rfl rfl rfl ?_
                refine at_nil ?_
                refine at_normal ?_
                refine hK12 _ _ _ ?_
                refine at_seq_k (fun K13 hK13 => ?_)
                refine at_region ?_
                refine at_v (ov_move rfl rfl) rfl rfl rfl ?_
                refine at_v (ov_loadS (cs := [_, _, _, _, _, _]) rfl rfl rfl rfl (fun _ s => s.lds (k := 2) rfl ⟨rfl, rfl, rfl, rfl, rfl, rfl, trivial⟩)) rfl rfl rfl ?_
                refine at_t (ot_call (ks := [1]) rfl rfl rfl Try.call10 rfl (T10 _ _ (by first | assumption | rfl | omega | decide | (simp; done) | (simp at *; omega)) (by first | assumption | rfl | omega | decide | (simp; done) | (simp at *; omega))) rfl) rfl rfl rfl ?_
                rintro v0 _ ⟨m0, hp0, rfl⟩
                obtain ⟨rfl, rfl⟩ := hp0
                simp only [List.cons_append, List.nil_append, splice, spliceL]
                refine at_t (ot_allocA rfl Try.zeroValue32) rfl rfl rfl ?_
                rintro _ _ ⟨g1, rfl, rfl⟩
                refine at_t0 (ot_store (k := 0) rfl rfl rfl rfl rfl rfl rfl) rfl rfl ?_
                rintro _ _ ⟨rfl, rfl⟩
                simp only [setAt, splice, spliceL, Value.cells]
                refine at_nil ?_
                refine at_normal ?_
                refine hK13 _ _ _ ?_
                refine at_seq_k (fun K14 hK14 => ?_)
                refine at_region ?_
                refine at_v (ov_move rfl rfl) rfl rfl rfl ?_
                refine at_t (ot_call (ks := [1]) rfl rfl rfl Try.call12 rfl (T12 _) rfl) rfl rfl rfl ?_
                rintro v0 _ ⟨m0, hp0, rfl⟩
                obtain ⟨A1, hp0⟩ := hp0
                obtain ⟨c1, hp0⟩ := hp0
                obtain ⟨rfl, rfl⟩ := hp0
                simp only [List.cons_append, List.nil_append, splice, spliceL]
                refine at_v (ov_assign rfl rfl) rfl rfl rfl ?_
                refine at_nil ?_
                refine at_normal ?_
                refine hK14 _ _ _ ?_
                refine at_block ?_
                refine at_seq_k (fun K15 hK15 => ?_)
                refine at_region ?_
                refine at_v (ov_fieldAddr (k := 0) (r := 0) rfl rfl rfl rfl) rfl rfl rfl ?_
                refine at_v (ov_load rfl rfl rfl (fun _ s => s.ld (k := 4) rfl rfl)) rfl rfl rfl ?_
                refine at_v (ov_int rfl rfl rfl rfl) rfl rfl rfl ?_
                refine at_v (ov_move rfl rfl) rfl rfl rfl ?_
                refine at_reval 46 (.bool false) rfl (congrArg Value.bool (decide_eq_false (by omega))) ?_
                refine at_unwanted (j := 3) rfl rfl rfl rfl ?_
                refine at_unwanted (j := 3) rfl rfl rfl rfl ?_
                refine at_unwanted (j := 3) rfl rfl rfl rfl ?_
                refine at_v (ov_pick_f rfl rfl rfl) rfl rfl rfl ?_
                refine at_v (ov_assign rfl rfl) rfl rfl rfl ?_
                refine at_nil ?_
                refine at_normal ?_
                refine hK15 _ _ _ ?_
                refine at_cond_false rfl ?_
                refine at_seq_k (fun K16 hK16 => ?_)
                refine at_region ?_
                refine at_v (ov_fieldAddr (k := 0) (r := 0) rfl rfl rfl rfl) rfl rfl rfl ?_
                refine at_v (ov_load rfl rfl rfl (fun _ s => s.ld (k := 4) rfl rfl)) rfl rfl rfl ?_
                refine at_v (ov_int rfl rfl rfl rfl) rfl rfl rfl ?_
                refine at_v (ov_move rfl rfl) rfl rfl rfl ?_
                refine at_reval 68 (.bool false) rfl (congrArg Value.bool (decide_eq_false (by omega))) ?_
                refine at_unwanted (j := 3) rfl rfl rfl rfl ?_
                refine at_unwanted (j := 3) rfl rfl rfl rfl ?_
                refine at_unwanted (j := 3) rfl rfl rfl rfl ?_
                refine at_v (ov_pick_f rfl rfl rfl) rfl rfl rfl ?_
                refine at_v (ov_assign rfl rfl) rfl rfl rfl ?_
                refine at_nil ?_
                refine at_normal ?_
                refine hK16 _ _ _ ?_
                refine at_cond_false rfl ?_
                refine at_seq_k (fun K17 hK17 => ?_)
                refine at_region ?_
                refine at_v (ov_fieldAddr (k := 0) (r := 0) rfl rfl rfl rfl) rfl rfl rfl ?_
                refine at_v (ov_load rfl rfl rfl (fun _ s => s.ld (k := 4) rfl rfl)) rfl rfl rfl ?_
                refine at_v (ov_int rfl rfl rfl rfl) rfl rfl rfl ?_
                refine at_v (ov_move rfl rfl) rfl rfl rfl ?_
                refine at_reval 85 (.bool false) rfl (congrArg Value.bool (decide_eq_false (by omega))) ?_
                refine at_unwanted (j := 3) rfl rfl rfl rfl ?_
                refine at_unwanted (j := 3) rfl rfl rfl rfl ?_
                refine at_v (ov_pick_f rfl rfl rfl) rfl rfl rfl ?_
                refine at_v (ov_assign rfl rfl) rfl rfl rfl ?_
                refine at_nil ?_
                refine at_normal ?_
                refine hK17 _ _ _ ?_
                refine at_cond_false rfl ?_
                refine at_seq_k (fun K18 hK18 => ?_)
                refine at_region ?_
                refine at_v (ov_fieldAddr (k := 0) (r := 0) rfl rfl rfl rfl) rfl rfl rfl ?_
                refine at_v (ov_load rfl rfl rfl (fun _ s => s.ld (k := 4) rfl rfl)) rfl rfl rfl ?_
                refine at_v (ov_int rfl rfl rfl rfl) rfl rfl rfl ?_
                refine at_v (ov_move rfl rfl) rfl rfl rfl ?_
                refine at_reval 111 (.bool false) rfl (congrArg Value.bool (by first | assumption | (rw [Bool.not_eq_false']; exact decide_eq_true (by omega)))) ?_
                refine at_unwanted (j := 3) rfl rfl rfl rfl ?_
                refine at_unwanted (j := 3) rfl rfl rfl rfl ?_
                refine at_unwanted (j := 3) rfl rfl rfl rfl ?_
                refine at_unwanted (j := 3) rfl rfl rfl rfl ?_
                refine at_v (ov_pick_f rfl rfl rfl) rfl rfl rfl ?_
                refine at_v (ov_assign rfl rfl) rfl rfl rfl ?_
                refine at_nil ?_
                refine at_normal ?_
                refine hK18 _ _ _ ?_
                refine at_cond_false rfl ?_
                refine at_skip ?_
                refine at_inb_normal ?_
                refine at_inb_normal ?_
                refine at_normal ?_
                refine hK10 _ _ _ ?_
                refine at_region ?_
                refine at_v ((ov_int rfl rfl rfl rfl).eq (congrArg (Value.int .i64) (inK_i64 (by omega) (by omega)))) rfl rfl rfl ?_
                refine at_v (ov_move rfl rfl) rfl rfl rfl ?_
                refine at_nil ?_
                refine at_normal ?_
                refine at_roundF (k + 1) hlt (by omega) ⟨rfl, trivial⟩ rfl ?_
                rw [hrs]
                exact fun _ s => s.finEq (ks := [1]) (js := [0, 0, 0, 0]) rfl rfl rfl
              have hf := fairElse x hi2 hA hB hC
              by_cases hi3 : x.d = 0
              · have hi4 : ¬ (doT p x).e = 0 := fun h => hA ⟨hi3, h⟩
                have hi5 : ¬ (doT p x).e = 13 := fun h => hB ⟨hi3, h⟩
                have hwt : Tri Try.prog w0 12 [ptrTo g] [PO g (doP p x)] fun v m => ∃ A c, v = .slice A p.L.length c ∧ m = [Row wE 3 1 A c p.L, PO g (doP p x)] := by
                  rw [← hf]; exact T12 w0
                refine at_skip ?_
                refine at_normal ?_
                refine hK9 _ _ _ ?_
                refine at_seq_k (fun K10 hK10 => ?_)
                refine at_block ?_
                refine at_seq_k (fun K11 hK11 => ?_)
                refine at_region ?_
                refine at_v (ov_indexRd (fun _ s => hr.up s) rfl Try.underlying23 rfl rfl rfl hget) rfl rfl rfl ?_
                refine at_v (ov_loadRdS (vs := [_, _, _, _, _, _]) (fun _ s => hr.up s) rfl rfl rfl hget rfl rfl) rfl rfl rfl ?_
                refine at_t (ot_allocA rfl Try.zeroValue30) rfl rfl rfl ?_
                rintro _ _ ⟨g0, rfl, rfl⟩
                refine at_t0 (ot_store (k := 0) rfl rfl rfl rfl rfl rfl rfl) rfl rfl ?_
                rintro _ _ ⟨rfl, rfl⟩
                simp only [setAt, splice, spliceL, Value.cells]
                refine at_nil ?_
                refine at_normal ?_
                refine hK11 _ _ _ ?_
                refine at_seq_k (fun K12 hK12 => ?_)
                refine at_region ?_
                refine at_v (ov_move rfl rfl) rfl rfl rfl ?_
                refine at_t (ot_call (ks := [1]) rfl rfl rfl Try.call12 rfl (T12 _) rfl) rfl rfl rfl ?_
                rintro v0 _ ⟨m0, hp0, rfl⟩
                obtain ⟨A0, hp0⟩ := hp0
                obtain ⟨c0, hp0⟩ := hp0
                obtain ⟨rfl, rfl⟩ := hp0
                simp only [List.cons_append, List.nil_append, splice, spliceL]
                refine at_v (ov_assign rfl rfl) rfl rfl rfl ?_
                refine at_nil ?_
                refine at_normal ?_
                refine hK12 _ _ _ ?_
                refine at_seq_k (fun K13 hK13 => ?_)
                refine at_region ?_
                refine at_v (ov_move rfl rfl) rfl rfl rfl ?_
                refine at_v (ov_loadS (cs := [_, _, _, _, _, _]) rfl rfl rfl rfl (fun _ s => s.lds (k := 2) rfl ⟨rfl, rfl, rfl, rfl, rfl, rfl, trivial⟩)) rfl rfl rfl ?_
                refine at_t (ot_call (ks := [1]) rfl rfl rfl Try.call10 rfl (T10 _ _ (by first | assumption | rfl | omega | decide | (simp; done) | (simp at *; omega)) (by first | assumption | rfl | omega | decide | (simp; done) | (simp at *; omega))) rfl) rfl rfl rfl ?_
                rintro v0 _ ⟨m0, hp0, rfl⟩
                obtain ⟨rfl, rfl⟩ := hp0
                simp only [List.cons_append, List.nil_append, splice, spliceL]
                refine at_t (ot_allocA rfl Try.zeroValue32) rfl rfl rfl ?_
                rintro _ _ ⟨g1, rfl, rfl⟩
                refine at_t0 (ot_store (k := 0) rfl rfl rfl rfl rfl rfl rfl) rfl rfl ?_
                rintro _ _ ⟨rfl, rfl⟩
                simp only [setAt, splice, spliceL, Value.cells]
                refine at_nil ?_
                refine at_normal ?_
                refine hK13 _ _ _ ?_
                refine at_seq_k (fun K14 hK14 => ?_)
                refine at_region ?_
                refine at_v (ov_move rfl rfl) rfl rfl rfl ?_
                refine at_t (ot_call (ks := [1]) rfl rfl rfl Try.call12 rfl (hwt ) rfl) rfl rfl rfl ?_
                rintro v0 _ ⟨m0, hp0, rfl⟩
                obtain ⟨A1, hp0⟩ := hp0
                obtain ⟨c1, hp0⟩ := hp0
                obtain ⟨rfl, rfl⟩ := hp0
                simp only [List.cons_append, List.nil_append, splice, spliceL]
                refine at_v (ov_assign rfl rfl) rfl rfl rfl ?_
                refine at_nil ?_
                refine at_normal ?_
                refine hK14 _ _ _ ?_
                refine at_block ?_
                refine at_seq_k (fun K15 hK15 => ?_)
                refine at_region ?_
                refine at_v (ov_fieldAddr (k := 0) (r := 0) rfl rfl rfl rfl) rfl rfl rfl ?_
                refine at_v (ov_load rfl rfl rfl (fun _ s => s.ld (k := 4) rfl rfl)) rfl rfl rfl ?_
                refine at_v (ov_int rfl rfl rfl rfl) rfl rfl rfl ?_
                refine at_v (ov_move rfl rfl) rfl rfl rfl ?_
                refine at_reval 46 (.bool true) rfl (congrArg Value.bool (decide_eq_true (by omega))) ?_
                refine at_wanted (j := 3) rfl ?_
                refine at_v (ov_fieldAddr (k := 4) (r := 4) rfl rfl rfl rfl) rfl rfl rfl ?_
                refine at_wanted (j := 3) rfl ?_
                refine at_v (ov_load rfl rfl rfl (fun _ s => s.ld (k := 2) rfl rfl)) rfl rfl rfl ?_
                refine at_wanted (j := 3) rfl ?_
                refine at_v (ov_int rfl rfl rfl rfl) rfl rfl rfl ?_
                refine at_v (ov_pick_t rfl rfl rfl) rfl rfl rfl ?_
                refine at_v (ov_assign rfl rfl) rfl rfl rfl ?_
                refine at_nil ?_
                refine at_normal ?_
                refine hK15 _ _ _ ?_
                refine at_cond_false (congrArg (fun b => some (Value.bool b)) (show _ = false from decide_eq_false (by omega))) ?_
                refine at_seq_k (fun K16 hK16 => ?_)
                refine at_region ?_
                refine at_v (ov_fieldAddr (k := 0) (r := 0) rfl rfl rfl rfl) rfl rfl rfl ?_
                refine at_v (ov_load rfl rfl rfl (fun _ s => s.ld (k := 4) rfl rfl)) rfl rfl rfl ?_
                refine at_v (ov_int rfl rfl rfl rfl) rfl rfl rfl ?_
                refine at_v (ov_move rfl rfl) rfl rfl rfl ?_
                refine at_reval 68 (.bool true) rfl (congrArg Value.bool (decide_eq_true (by omega))) ?_
                refine at_wanted (j := 3) rfl ?_
                refine at_v (ov_fieldAddr (k := 4) (r := 4) rfl rfl rfl rfl) rfl rfl rfl ?_
                refine at_wanted (j := 3) rfl ?_
                refine at_v (ov_load rfl rfl rfl (fun _ s => s.ld (k := 2) rfl rfl)) rfl rfl rfl ?_
                refine at_wanted (j := 3) rfl ?_
                refine at_v (ov_int rfl rfl rfl rfl) rfl rfl rfl ?_
                refine at_v (ov_pick_t rfl rfl rfl) rfl rfl rfl ?_
                refine at_v (ov_assign rfl rfl) rfl rfl rfl ?_
                refine at_nil ?_
                refine at_normal ?_
                refine hK16 _ _ _ ?_
                refine at_cond_false (congrArg (fun b => some (Value.bool b)) (show _ = false from decide_eq_false (by omega))) ?_
                refine at_seq_k (fun K17 hK17 => ?_)
                refine at_region ?_
                refine at_v (ov_fieldAddr (k := 0) (r := 0) rfl rfl rfl rfl) rfl rfl rfl ?_
                refine at_v (ov_load rfl rfl rfl (fun _ s => s.ld (k := 4) rfl rfl)) rfl rfl rfl ?_
                refine at_v (ov_int rfl rfl rfl rfl) rfl rfl rfl ?_
                refine at_v (ov_move rfl rfl) rfl rfl rfl ?_
                refine at_reval 85 (.bool false) rfl (congrArg Value.bool (decide_eq_false (by omega))) ?_
                refine at_unwanted (j := 3) rfl rfl rfl rfl ?_
                refine at_unwanted (j := 3) rfl rfl rfl rfl ?_
                refine at_v (ov_pick_f rfl rfl rfl) rfl rfl rfl ?_
                refine at_v (ov_assign rfl rfl) rfl rfl rfl ?_
                refine at_nil ?_
                refine at_normal ?_
                refine hK17 _ _ _ ?_
                refine at_cond_false rfl ?_
                refine at_seq_k (fun K18 hK18 => ?_)
                refine at_region ?_
                refine at_v (ov_fieldAddr (k := 0) (r := 0) rfl rfl rfl rfl) rfl rfl rfl ?_
                refine at_v (ov_load rfl rfl rfl (fun _ s => s.ld (k := 4) rfl rfl)) rfl rfl rfl ?_
                refine at_v (ov_int rfl rfl rfl rfl) rfl rfl rfl ?_
                refine at_v (ov_move rfl rfl) rfl rfl rfl ?_
                refine at_reval 111 (.bool true) rfl (congrArg Value.bool (by first | assumption | (rw [Bool.not_eq_true']; exact decide_eq_false (by omega)))) ?_
                refine at_wanted (j := 3) rfl ?_
                refine at_v (ov_move rfl rfl) rfl rfl rfl ?_
                refine at_wanted (j := 3) rfl ?_
                refine at_v (ov_move rfl rfl) rfl rfl rfl ?_
                refine at_wanted (j := 3) rfl ?_
                refine at_t (ot_call (ks := [3, 0]) rfl rfl rfl Try.call13 rfl (T13a _ (by first | assumption | rfl | omega | decide | (simp; done) | (simp at *; omega)) (by first | assumption | rfl | omega | decide | (simp; done) | (simp at *; omega))) rfl) rfl rfl rfl ?_
                rintro v0 _ ⟨m0, hp0, rfl⟩
                obtain ⟨rfl, rfl⟩ := hp0
                simp only [List.cons_append, List.nil_append, splice, spliceL]
                refine at_wanted (j := 3) rfl ?_
                refine at_v (ov_not rfl rfl) rfl rfl rfl ?_
                refine at_v (ov_pick_t rfl rfl rfl) rfl rfl rfl ?_
                refine at_v (ov_assign rfl rfl) rfl rfl rfl ?_
                refine at_nil ?_
                refine at_normal ?_
                refine hK18 _ _ _ ?_
                refine at_cond_false rfl ?_
                refine at_skip ?_
                refine at_inb_normal ?_
                refine at_inb_normal ?_
                refine at_normal ?_
                refine hK10 _ _ _ ?_
                refine at_region ?_
                refine at_v ((ov_int rfl rfl rfl rfl).eq (congrArg (Value.int .i64) (inK_i64 (by omega) (by omega)))) rfl rfl rfl ?_
                refine at_v (ov_move rfl rfl) rfl rfl rfl ?_
                refine at_nil ?_
                refine at_normal ?_
                refine at_roundF (k + 1) hlt (by omega) ⟨rfl, trivial⟩ rfl ?_
                rw [hrs]
                exact fun _ s => s.finEq (ks := [2]) (js := [0, 0, 0, 0]) rfl rfl rfl
              by_cases hi4 : x.d = 1
              · have hi5 : (doT p x).is = false := by
                  cases he : (doT p x).is with
                  | false => rfl
                  | true => exact absurd ⟨hi4, he⟩ hC
                have hwt : Tri Try.prog w0 12 [ptrTo g] [PO g (doP p x)] fun v m => ∃ A c, v = .slice A p.L.length c ∧ m = [Row wE 3 1 A c p.L, PO g (doP p x)] := by
                  rw [← hf]; exact T12 w0
                refine at_skip ?_
                refine at_normal ?_
                refine hK9 _ _ _ ?_
                refine at_seq_k (fun K10 hK10 => ?_)
                refine at_block ?_
                refine at_seq_k (fun K11 hK11 => ?_)
                refine at_region ?_
                refine at_v (ov_indexRd (fun _ s => hr.up s) rfl Try.underlying23 rfl rfl rfl hget) rfl rfl rfl ?_
                refine at_v (ov_loadRdS (vs := [_, _, _, _, _, _]) (fun _ s => hr.up s) rfl rfl rfl hget rfl rfl) rfl rfl rfl ?_
                refine at_t (ot_allocA rfl Try.zeroValue30) rfl rfl rfl ?_
                rintro _ _ ⟨g0, rfl, rfl⟩
                refine at_t0 (ot_store (k := 0) rfl rfl rfl rfl rfl rfl rfl) rfl rfl ?_
                rintro _ _ ⟨rfl, rfl⟩
                simp only [setAt, splice, spliceL, Value.cells]
                refine at_nil ?_
                refine at_normal ?_
                refine hK11 _ _ _ ?_
                refine at_seq_k (fun K12 hK12 => ?_)
                refine at_region ?_
                refine at_v (ov_move rfl rfl) rfl rfl rfl ?_
                refine at_t (ot_call (ks := [1]) rfl rfl rfl Try.call12 rfl (T12 _) rfl) rfl rfl rfl ?_
                rintro v0 _ ⟨m0, hp0, rfl⟩
                obtain ⟨A0, hp0⟩ := hp0
                obtain ⟨c0, hp0⟩ := hp0
                obtain ⟨rfl, rfl⟩ := hp0
                simp only [List.cons_append, List.nil_append, splice, spliceL]
                refine at_v (ov_assign rfl rfl) rfl rfl rfl ?_
                refine at_nil ?_
                refine at_normal ?_
                refine hK12 _ _ _ ?_
                refine at_seq_k (fun K13 hK13 => ?_)
                refine at_region ?_
                refine at_v (ov_move rfl rfl) rfl rfl rfl ?_
                refine at_v (ov_loadS (cs := [_, _, _, _, _, _]) rfl rfl rfl rfl (fun _ s => s.lds (k := 2) rfl ⟨rfl, rfl, rfl, rfl, rfl, rfl, trivial⟩)) rfl rfl rfl ?_
                refine at_t (ot_call (ks := [1]) rfl rfl rfl Try.call10 rfl (T10 _ _ (by first | assumption | rfl | omega | decide | (simp; done) | (simp at *; omega)) (by first | assumption | rfl | omega | decide | (simp; done) | (simp at *; omega))) rfl) rfl rfl rfl ?_
                rintro v0 _ ⟨m0, hp0, rfl⟩
                obtain ⟨rfl, rfl⟩ := hp0
                simp only [List.cons_append, List.nil_append, splice, spliceL]
                refine at_t (ot_allocA rfl Try.zeroValue32) rfl rfl rfl ?_
                rintro _ _ ⟨g1, rfl, rfl⟩
                refine at_t0 (ot_store (k := 0) rfl rfl rfl rfl rfl rfl rfl) rfl rfl ?_
                rintro _ _ ⟨rfl, rfl⟩
                simp only [setAt, splice, spliceL, Value.cells]
                refine at_nil ?_
                refine at_normal ?_
                refine hK13 _ _ _ ?_
                refine at_seq_k (fun K14 hK14 => ?_)
                refine at_region ?_
                refine at_v (ov_move rfl rfl) rfl rfl rfl ?_
                refine at_t (ot_call (ks := [1]) rfl rfl rfl Try.call12 rfl (hwt ) rfl) rfl rfl rfl ?_
                rintro v0 _ ⟨m0, hp0, rfl⟩
                obtain ⟨A1, hp0⟩ := hp0
                obtain ⟨c1, hp0⟩ := hp0
                obtain ⟨rfl, rfl⟩ := hp0
                simp only [List.cons_append, List.nil_append, splice, spliceL]
                refine at_v (ov_assign rfl rfl) rfl rfl rfl ?_
                refine at_nil ?_
                refine at_normal ?_
                refine hK14 _ _ _ ?_
                refine at_block ?_
                refine at_seq_k (fun K15 hK15 => ?_)
                refine at_region ?_
                refine at_v (ov_fieldAddr (k := 0) (r := 0) rfl rfl rfl rfl) rfl rfl rfl ?_
                refine at_v (ov_load rfl rfl rfl (fun _ s => s.ld (k := 4) rfl rfl)) rfl rfl rfl ?_
                refine at_v (ov_int rfl rfl rfl rfl) rfl rfl rfl ?_
                refine at_v (ov_move rfl rfl) rfl rfl rfl ?_
                refine at_reval 46 (.bool false) rfl (congrArg Value.bool (decide_eq_false (by omega))) ?_
                refine at_unwanted (j := 3) rfl rfl rfl rfl ?_
                refine at_unwanted (j := 3) rfl rfl rfl rfl ?_
                refine at_unwanted (j := 3) rfl rfl rfl rfl ?_
                refine at_v (ov_pick_f rfl rfl rfl) rfl rfl rfl ?_
                refine at_v (ov_assign rfl rfl) rfl rfl rfl ?_
                refine at_nil ?_
                refine at_normal ?_
                refine hK15 _ _ _ ?_
                refine at_cond_false rfl ?_
                refine at_seq_k (fun K16 hK16 => ?_)
                refine at_region ?_
                refine at_v (ov_fieldAddr (k := 0) (r := 0) rfl rfl rfl rfl) rfl rfl rfl ?_
                refine at_v (ov_load rfl rfl rfl (fun _ s => s.ld (k := 4) rfl rfl)) rfl rfl rfl ?_
                refine at_v (ov_int rfl rfl rfl rfl) rfl rfl rfl ?_
                refine at_v (ov_move rfl rfl) rfl rfl rfl ?_
                refine at_reval 68 (.bool false) rfl (congrArg Value.bool (decide_eq_false (by omega))) ?_
                refine at_unwanted (j := 3) rfl rfl rfl rfl ?_
                refine at_unwanted (j := 3) rfl rfl rfl rfl ?_
                refine at_unwanted (j := 3) rfl rfl rfl rfl ?_
                refine at_v (ov_pick_f rfl rfl rfl) rfl rfl rfl ?_
                refine at_v (ov_assign rfl rfl) rfl rfl rfl ?_
                refine at_nil ?_
                refine at_normal ?_
                refine hK16 _ _ _ ?_
                refine at_cond_false rfl ?_
                refine at_seq_k (fun K17 hK17 => ?_)
                refine at_region ?_
                refine at_v (ov_fieldAddr (k := 0) (r := 0) rfl rfl rfl rfl) rfl rfl rfl ?_
                refine at_v (ov_load rfl rfl rfl (fun _ s => s.ld (k := 4) rfl rfl)) rfl rfl rfl ?_
                refine at_v (ov_int rfl rfl rfl rfl) rfl rfl rfl ?_
                refine at_v (ov_move rfl rfl) rfl rfl rfl ?_
                refine at_reval 85 (.bool true) rfl (congrArg Value.bool (decide_eq_true (by omega))) ?_
                refine at_wanted (j := 3) rfl ?_
                refine at_v (ov_fieldAddr (k := 3) (r := 3) rfl rfl rfl rfl) rfl rfl rfl ?_
                refine at_wanted (j := 3) rfl ?_
                refine at_v (ov_load rfl rfl rfl (fun _ s => s.ld (k := 2) rfl rfl)) rfl rfl rfl ?_
                refine at_v (ov_pick_t rfl rfl rfl) rfl rfl rfl ?_
                refine at_v (ov_assign rfl rfl) rfl rfl rfl ?_
                refine at_nil ?_
                refine at_normal ?_
                refine hK17 _ _ _ ?_
                refine at_cond_false (congrArg (fun b => some (Value.bool b)) (show _ = false from by first | assumption | (rw [Bool.not_eq_false']; exact decide_eq_true (by omega)))) ?_
                refine at_seq_k (fun K18 hK18 => ?_)
                refine at_region ?_
                refine at_v (ov_fieldAddr (k := 0) (r := 0) rfl rfl rfl rfl) rfl rfl rfl ?_
                refine at_v (ov_load rfl rfl rfl (fun _ s => s.ld (k := 4) rfl rfl)) rfl rfl rfl ?_
                refine at_v (ov_int rfl rfl rfl rfl) rfl rfl rfl ?_
                refine at_v (ov_move rfl rfl) rfl rfl rfl ?_
                refine at_reval 111 (.bool true) rfl (congrArg Value.bool (by first | assumption | (rw [Bool.not_eq_true']; exact decide_eq_false (by omega)))) ?_
                refine at_wanted (j := 3) rfl ?_
                refine at_v (ov_move rfl rfl) rfl rfl rfl ?_
                refine at_wanted (j := 3) rfl ?_
                refine at_v (ov_move rfl rfl) rfl rfl rfl ?_
                refine at_wanted (j := 3) rfl ?_
                refine at_t (ot_call (ks := [3, 0]) rfl rfl rfl Try.call13 rfl (T13a _ (by first | assumption | rfl | omega | decide | (simp; done) | (simp at *; omega)) (by first | assumption | rfl | omega | decide | (simp; done) | (simp at *; omega))) rfl) rfl rfl rfl ?_
                rintro v0 _ ⟨m0, hp0, rfl⟩
                obtain ⟨rfl, rfl⟩ := hp0
                simp only [List.cons_append, List.nil_append, splice, spliceL]
                refine at_wanted (j := 3) rfl ?_
                refine at_v (ov_not rfl rfl) rfl rfl rfl ?_
                refine at_v (ov_pick_t rfl rfl rfl) rfl rfl rfl ?_
                refine at_v (ov_assign rfl rfl) rfl rfl rfl ?_
                refine at_nil ?_
                refine at_normal ?_
                refine hK18 _ _ _ ?_
                refine at_cond_false rfl ?_
                refine at_skip ?_
                refine at_inb_normal ?_
                refine at_inb_normal ?_
                refine at_normal ?_
                refine hK10 _ _ _ ?_
                refine at_region ?_
                refine at_v ((ov_int rfl rfl rfl rfl).eq (congrArg (Value.int .i64) (inK_i64 (by omega) (by omega)))) rfl rfl rfl ?_
                refine at_v (ov_move rfl rfl) rfl rfl rfl ?_
                refine at_nil ?_
                refine at_normal ?_
                refine at_roundF (k + 1) hlt (by omega) ⟨rfl, trivial⟩ rfl ?_
                rw [hrs]
                exact fun _ s => s.finEq (ks := [2]) (js := [0, 0, 0, 0]) rfl rfl rfl
              ·
                have hwt : Tri Try.prog w0 12 [ptrTo g] [PO g (doP p x)] fun v m => ∃ A c, v = .slice A p.L.length c ∧ m = [Row wE 3 1 A c p.L, PO g (doP p x)] := by
                  rw [← hf]; exact T12 w0
                refine at_skip ?_
                refine at_normal ?_
                refine hK9 _ _ _ ?_
                refine at_seq_k (fun K10 hK10 => ?_)
                refine at_block ?_
                refine at_seq_k (fun K11 hK11 => ?_)
                refine at_region ?_
                refine at_v (ov_indexRd (fun _ s => hr.up s) rfl Try.underlying23 rfl rfl rfl hget) rfl rfl rfl ?_
                refine at_v (ov_loadRdS (vs := [_, _, _, _, _, _]) (fun _ s => hr.up s) rfl rfl rfl hget rfl rfl) rfl rfl rfl ?_
                refine at_t (ot_allocA rfl Try.zeroValue30) rfl rfl rfl ?_
                rintro _ _ ⟨g0, rfl, rfl⟩
                refine at_t0 (ot_store (k := 0) rfl rfl rfl rfl rfl rfl rfl) rfl rfl ?_
                rintro _ _ ⟨rfl, rfl⟩
                simp only [setAt, splice, spliceL, Value.cells]
                refine at_nil ?_
                refine at_normal ?_
                refine hK11 _ _ _ ?_
                refine at_seq_k (fun K12 hK12 => ?_)
                refine at_region ?_
                refine at_v (ov_move rfl rfl) rfl rfl rfl ?_
                refine at_t (ot_call (ks := [1]) rfl rfl rfl Try.call12 rfl (T12 _) rfl) rfl rfl rfl ?_
                rintro v0 _ ⟨m0, hp0, rfl⟩
                obtain ⟨A0, hp0⟩ := hp0
                obtain ⟨c0, hp0⟩ := hp0
                obtain ⟨rfl, rfl⟩ := hp0
                simp only [List.cons_append, List.nil_append, splice, spliceL]
                refine at_v (ov_assign rfl rfl) rfl rfl rfl ?_
                refine at_nil ?_
                refine at_normal ?_
                refine hK12 _ _ _ ?_
                refine at_seq_k (fun K13 hK13 => ?_)
                refine at_region ?_
                refine at_v (ov_move rfl rfl) rfl rfl rfl ?_
                refine at_v (ov_loadS (cs := [_, _, _, _, _, _]) rfl rfl rfl rfl (fun _ s => s.lds (k := 2) rfl ⟨rfl, rfl, rfl, rfl, rfl, rfl, trivial⟩)) rfl rfl rfl ?_
                refine at_t (ot_call (ks := [1]) rfl rfl rfl Try.call10 rfl (T10 _ _ (by first | assumption | rfl | omega | decide | (simp; done) | (simp at *; omega)) (by first | assumption | rfl | omega | decide | (simp; done) | (simp at *; omega))) rfl) rfl rfl rfl ?_
                rintro v0 _ ⟨m0, hp0, rfl⟩
                obtain ⟨rfl, rfl⟩ := hp0
                simp only [List.cons_append, List.nil_append, splice, spliceL]
                refine at_t (ot_allocA rfl Try.zeroValue32) rfl rfl rfl ?_
                rintro _ _ ⟨g1, rfl, rfl⟩
                refine at_t0 (ot_store (k := 0) rfl rfl rfl rfl rfl rfl rfl) rfl rfl ?_
                rintro _ _ ⟨rfl, rfl⟩
                simp only [setAt, splice, spliceL, Value.cells]
                refine at_nil ?_
                refine at_normal ?_
                refine hK13 _ _ _ ?_
                refine at_seq_k (fun K14 hK14 => ?_)
                refine at_region ?_
                refine at_v (ov_move rfl rfl) rfl rfl rfl ?_
                refine at_t (ot_call (ks := [1]) rfl rfl rfl Try.call12 rfl (hwt ) rfl) rfl rfl rfl ?_
                rintro v0 _ ⟨m0, hp0, rfl⟩
                obtain ⟨A1, hp0⟩ := hp0
                obtain ⟨c1, hp0⟩ := hp0
                obtain ⟨rfl, rfl⟩ := hp0
                simp only [List.cons_append, List.nil_append, splice, spliceL]
                refine at_v (ov_assign rfl rfl) rfl rfl rfl ?_
                refine at_nil ?_
                refine at_normal ?_
                refine hK14 _ _ _ ?_
                refine at_block ?_
                refine at_seq_k (fun K15 hK15 => ?_)
                refine at_region ?_
                refine at_v (ov_fieldAddr (k := 0) (r := 0) rfl rfl rfl rfl) rfl rfl rfl ?_
                refine at_v (ov_load rfl rfl rfl (fun _ s => s.ld (k := 4) rfl rfl)) rfl rfl rfl ?_
                refine at_v (ov_int rfl rfl rfl rfl) rfl rfl rfl ?_
                refine at_v (ov_move rfl rfl) rfl rfl rfl ?_
                refine at_reval 46 (.bool false) rfl (congrArg Value.bool (decide_eq_false (by omega))) ?_
                refine at_unwanted (j := 3) rfl rfl rfl rfl ?_
                refine at_unwanted (j := 3) rfl rfl rfl rfl ?_
                refine at_unwanted (j := 3) rfl rfl rfl rfl ?_
                refine at_v (ov_pick_f rfl rfl rfl) rfl rfl rfl ?_
                refine at_v (ov_assign rfl rfl) rfl rfl rfl ?_
                refine at_nil ?_
                refine at_normal ?_
                refine hK15 _ _ _ ?_
                refine at_cond_false rfl ?_
                refine at_seq_k (fun K16 hK16 => ?_)
                refine at_region ?_
                refine at_v (ov_fieldAddr (k := 0) (r := 0) rfl rfl rfl rfl) rfl rfl rfl ?_
                refine at_v (ov_load rfl rfl rfl (fun _ s => s.ld (k := 4) rfl rfl)) rfl rfl rfl ?_
                refine at_v (ov_int rfl rfl rfl rfl) rfl rfl rfl ?_
                refine at_v (ov_move rfl rfl) rfl rfl rfl ?_
                refine at_reval 68 (.bool false) rfl (congrArg Value.bool (decide_eq_false (by omega))) ?_
                refine at_unwanted (j := 3) rfl rfl rfl rfl ?_
                refine at_unwanted (j := 3) rfl rfl rfl rfl ?_
                refine at_unwanted (j := 3) rfl rfl rfl rfl ?_
                refine at_v (ov_pick_f rfl rfl rfl) rfl rfl rfl ?_
                refine at_v (ov_assign rfl rfl) rfl rfl rfl ?_
                refine at_nil ?_
                refine at_normal ?_
                refine hK16 _ _ _ ?_
                refine at_cond_false rfl ?_
                refine at_seq_k (fun K17 hK17 => ?_)
                refine at_region ?_
                refine at_v (ov_fieldAddr (k := 0) (r := 0) rfl rfl rfl rfl) rfl rfl rfl ?_
                refine at_v (ov_load rfl rfl rfl (fun _ s => s.ld (k := 4) rfl rfl)) rfl rfl rfl ?_
                refine at_v (ov_int rfl rfl rfl rfl) rfl rfl rfl ?_
                refine at_v (ov_move rfl rfl) rfl rfl rfl ?_
                refine at_reval 85 (.bool false) rfl (congrArg Value.bool (decide_eq_false (by omega))) ?_
                refine at_unwanted (j := 3) rfl rfl rfl rfl ?_
                refine at_unwanted (j := 3) rfl rfl rfl rfl ?_
                refine at_v (ov_pick_f rfl rfl rfl) rfl rfl rfl ?_
                refine at_v (ov_assign rfl rfl) rfl rfl rfl ?_
                refine at_nil ?_
                refine at_normal ?_
                refine hK17 _ _ _ ?_
                refine at_cond_false rfl ?_
                refine at_seq_k (fun K18 hK18 => ?_)
                refine at_region ?_
                refine at_v (ov_fieldAddr (k := 0) (r := 0) rfl rfl rfl rfl) rfl rfl rfl ?_
                refine at_v (ov_load rfl rfl rfl (fun _ s => s.ld (k := 4) rfl rfl)) rfl rfl rfl ?_
                refine at_v (ov_int rfl rfl rfl rfl) rfl rfl rfl ?_
                refine at_v (ov_move rfl rfl) rfl rfl rfl ?_
                refine at_reval 111 (.bool true) rfl (congrArg Value.bool (by first | assumption | (rw [Bool.not_eq_true']; exact decide_eq_false (by omega)))) ?_
                refine at_wanted (j := 3) rfl ?_
                refine at_v (ov_move rfl rfl) rfl rfl rfl ?_
                refine at_wanted (j := 3) rfl ?_
                refine at_v (ov_move rfl rfl) rfl rfl rfl ?_
                refine at_wanted (j := 3) rfl ?_
                refine at_t (ot_call (ks := [3, 0]) rfl rfl rfl Try.call13 rfl (T13a _ (by first | assumption | rfl | omega | decide | (simp; done) | (simp at *; omega)) (by first | assumption | rfl | omega | decide | (simp; done) | (simp at *; omega))) rfl) rfl rfl rfl ?_
                rintro v0 _ ⟨m0, hp0, rfl⟩
                obtain ⟨rfl, rfl⟩ := hp0
                simp only [List.cons_append, List.nil_append, splice, spliceL]
                refine at_wanted (j := 3) rfl ?_
                refine at_v (ov_not rfl rfl) rfl rfl rfl ?_
                refine at_v (ov_pick_t rfl rfl rfl) rfl rfl rfl ?_
                refine at_v (ov_assign rfl rfl) rfl rfl rfl ?_
                refine at_nil ?_
                refine at_normal ?_
                refine hK18 _ _ _ ?_
                refine at_cond_false rfl ?_
                refine at_skip ?_
                refine at_inb_normal ?_
                refine at_inb_normal ?_
                refine at_normal ?_
                refine hK10 _ _ _ ?_
                refine at_region ?_
                refine at_v ((ov_int rfl rfl rfl rfl).eq (congrArg (Value.int .i64) (inK_i64 (by omega) (by omega)))) rfl rfl rfl ?_
                refine at_v (ov_move rfl rfl) rfl rfl rfl ?_
                refine at_nil ?_
                refine at_normal ?_
                refine at_roundF (k + 1) hlt (by omega) ⟨rfl, trivial⟩ rfl ?_
                rw [hrs]
                exact fun _ s => s.finEq (ks := [2]) (js := [0, 0, 0, 0]) rfl rfl rfl
      · refine at_exit ?_
        refine at_then_exit ?_
        refine at_then_exit ?_
        refine at_exit_eq ?_
        refine at_normal ?_
        refine hK6 _ _ _ ?_
        refine at_seq_k (fun K10 hK10 => ?_)
        refine at_region ?_
        refine at_v (ov_assign rfl rfl) rfl rfl rfl ?_
        refine at_nil ?_
        refine at_normal ?_
        refine hK10 _ _ _ ?_
        refine at_ret ?_
        refine at_end ?_
        refine at_fin (rsV rfl (res_tmp rfl)) ?_
        refine ⟨_, ⟨rfl, rfl⟩, ?_⟩
        exact fun _ s => s.finEq (ks := []) (js := [0]) rfl rfl rfl
