/- The reference of classing, walked: tokens. -/
import Derived.Test.YtgclahlbifbgdaaGreatDoorProg
import Derived.Test.YtgclahlbifbgdaaGreatDoorClassLaw
import Derived.Test.YtgclahlbifbgdaaGreatDoorSLStr
import Derived.KernelRfl
set_option linter.unusedSimpArgs false
set_option linter.unusedVariables false
set_option maxRecDepth 100000
set_option maxHeartbeats 4000000
namespace Go.Proofs.YtgclahlbifbgdaaGreatDoor
open Go Go.Proofs.YtgclahlbifbgdaaGreatDoor.SL Go.RowKit
theorem tokN_succ (f : Nat) (l : List Tok) : tokN (f + 1) l = if (l.any fun t => decide (t = signL)) then 7
    else if readsW.contains (wordAt l 0) then 1
    else if wordAt l 0 = wEXPLAIN then (if wordIn l 1 anaW then (if tokN f (l.drop 2) = 2 ∨ tokN f (l.drop 2) = 7 then tokN f (l.drop 2) else 1) else 1)
    else if changeW.contains (wordAt l 0) then 2
    else if askW.contains (wordAt l 0) then asksL l
    else if wordAt l 0 = wBEGIN then beginL l
    else if wordAt l 0 = wSTART then startL l
    else if wordAt l 0 = wCOMMIT then endsL 4 l
    else if wordAt l 0 = wROLLBACK then endsL 5 l
    else if wordAt l 0 = wSET then setL l
    else 7 := rfl
theorem ref_tokens_step (w0 : World) {A : Option Addr} {c f : Nat} {l : List Tok} (hr : Rd tE w0 2 A l) (hm : l.length ≤ 10000) (hc : l.length ≤ c) (hg : Good l) (ht : ∀ t ∈ l, t.2.length ≤ 10000)
    (hIH : 2 ≤ l.length → Tri Tryz.prog w0 29 [.slice (dropA A c 2 2) (l.drop 2).length (c - 2)] [] fun v m => v = .int .i64 (tokN f (l.drop 2)) ∧ m = []) :
    Tri Tryz.prog w0 29 [.slice A l.length c] [] fun v m => v = .int .i64 (tokN (f + 1) l) ∧ m = [] := by
  refine tri_of Tryz.func29 rfl rfl fun F => ?_
  simp only [Tryz.ntmps29, argEnv, List.nil_append]
  have hwl : ∀ i, (wordAt l i).length ≤ 10000 := fun i => by
    unfold wordAt
    cases h : l[i]? with
    | none => simp
    | some x => simp only; split; exact ht x (List.mem_of_getElem? h); simp
  have hW0 : Tri Tryz.prog w0 47 [.slice A l.length c, .int .i64 0] [] fun v m => v = SV (wordAt l 0) ∧ m = [] := T47 w0 hr hm 0 (by decide)
  have hW1 : Tri Tryz.prog w0 47 [.slice A l.length c, .int .i64 1] [] fun v m => v = SV (wordAt l 1) ∧ m = [] := T47 w0 hr hm 1 (by decide)
  have hin : ∀ (i : Nat) (ws : List BL), (spaced ws).length ≤ 10000 → Tri Tryz.prog w0 48 [SV (wordAt l i), SV (spaced ws)] [] fun v m => v = .bool (inL (wordAt l i) (spaced ws)) ∧ m = [] := fun i ws h => T48 w0 _ _ (hwl i) h
  have r1 := hin 0 readsW (by decide)
  rw [in_spaced (hg.at 0) ok_readsW, sp_readsW] at r1
  have r2 := hin 1 anaW (by decide)
  rw [in_wordIn hg 1 ok_anaW, sp_anaW] at r2
  have r3 := hin 0 changeW (by decide)
  rw [in_spaced (hg.at 0) ok_changeW, sp_changeW] at r3
  have r4 := hin 0 askW (by decide)
  rw [in_spaced (hg.at 0) ok_askW, sp_askW] at r4
  have r5 := hin 1 wtW (by decide)
  rw [in_wordIn hg 1 ok_wtW, sp_wtW] at r5
  have r6 := hin 1 setW (by decide)
  rw [in_wordIn hg 1 ok_setW, sp_setW] at r6
  have r7 := T49 w0 (c := c) hr hm ht (spaced writesW) (by decide)
  rw [hasW_spaced hg ok_writesW, sp_writesW] at r7
  have r8 := T49 w0 (c := c) hr hm ht (spaced selW) (by decide)
  rw [hasW_spaced hg ok_selW, sp_selW] at r8
  clear hin
  have et := tokN_succ f l
  have e0W := eq_wordIn (l := l) 0 (w := wWITH) (by decide)
  have e1T := eq_wordIn (l := l) 1 (w := wTRANSACTION) (by decide)
  have e1W := eq_wordIn (l := l) 1 (w := wWORK) (by decide)
  refine at_seq_k (fun K0 hK0 => ?_)
  refine at_region ?_
  refine at_v (ov_assign rfl rfl) rfl rfl rfl ?_
  refine at_nil ?_
  refine at_normal ?_
  refine hK0 _ _ _ ?_
  refine at_seq_k (fun K1 hK1 => ?_)
  refine at_region ?_
  refine at_v (ov_move rfl rfl) rfl rfl rfl ?_
  refine at_t (ot_call (ks := []) rfl rfl rfl Tryz.call47 rfl (hW0 ) rfl) rfl rfl rfl ?_
  rintro v0 _ ⟨m0, hp0, rfl⟩
  obtain ⟨rfl, rfl⟩ := hp0
  simp only [List.cons_append, List.nil_append, splice, spliceL]
  refine at_v (ov_assign rfl rfl) rfl rfl rfl ?_
  refine at_nil ?_
  refine at_normal ?_
  refine hK1 _ _ _ ?_
  refine at_seq_k (fun K2 hK2 => ?_)
  refine at_seq_k (fun K3 hK3 => ?_)
  refine at_region ?_
  refine at_v (ov_assign rfl rfl) rfl rfl rfl ?_
  refine at_nil ?_
  refine at_normal ?_
  refine hK3 _ _ _ ?_
  refine at_block ?_
  refine at_loopE [10, 11, 12, 13, 16, 17, 18, 19, 20, 2, 14, 15, 4] (fun k => k ≤ l.length ∧ ∀ x ∈ l.take k, decide (x = signL) = false) (fun k => [(4, .int .i64 (k : Nat))]) (fun _ m => m) (fun k => l.length - k) 0 ⟨Nat.zero_le _, by simp⟩ ⟨rfl, trivial⟩ (fun _ s => s) ?_
  rintro k ⟨hk, hb⟩
  rcases Nat.lt_or_ge k l.length with hlt | hge
  · have hi1 : decide ((k : Int) < l.length) = true := decide_eq_true (by omega)
    obtain ⟨x, hget⟩ : ∃ x, l[k]? = some x := ⟨_, List.getElem?_eq_getElem hlt⟩
    have hS := T28 w0 x
    cases hp : decide (x = signL) with
    | true =>
      rw [hp] at hS
      have ha : (l.any fun t => decide (t = signL)) = true := List.any_eq_true.2 ⟨x, List.mem_of_getElem? hget, hp⟩
      rw [if_pos ha] at et
      refine at_seq_k (fun K4 hK4 => ?_)
      refine at_seq_k (fun K5 hK5 => ?_)
      refine at_region ?_
      refine at_v (ov_move rfl rfl) rfl rfl rfl ?_
      refine at_v (ov_move rfl rfl) rfl rfl rfl ?_
      refine at_v (ov_len_slice rfl Tryz.underlying28 rfl) rfl rfl rfl ?_
      refine at_v (ov_int rfl rfl rfl rfl) rfl rfl rfl ?_
      refine at_nil ?_
      refine at_normal ?_
      refine hK5 _ _ _ ?_
      refine at_cond_true (congrArg (fun b => some (Value.bool b)) (show _ = true from decide_eq_true (by omega))) ?_
      refine at_skip ?_
      refine at_normal ?_
      refine hK4 _ _ _ ?_
      refine at_seq_k (fun K6 hK6 => ?_)
      refine at_block ?_
      refine at_seq_k (fun K7 hK7 => ?_)
      refine at_region ?_
      refine at_v (ov_move rfl rfl) rfl rfl rfl ?_
      refine at_v (ov_move rfl rfl) rfl rfl rfl ?_
      refine at_v (ov_indexRd (fun _ s => hr.up s) rfl Tryz.underlying28 rfl rfl rfl hget) rfl rfl rfl ?_
      refine at_v (ov_loadRdS (vs := [_, _]) (fun _ s => hr.up s) rfl rfl rfl hget rfl rfl) rfl rfl rfl ?_
      refine at_t (ot_call (ks := []) rfl rfl rfl Tryz.call28 rfl (hS ) rfl) rfl rfl rfl ?_
      rintro v0 _ ⟨m0, hp0, rfl⟩
      obtain ⟨rfl, rfl⟩ := hp0
      simp only [List.cons_append, List.nil_append, splice, spliceL]
      refine at_nil ?_
      refine at_normal ?_
      refine hK7 _ _ _ ?_
      refine at_cond_true rfl ?_
      refine at_seq_k (fun K8 hK8 => ?_)
      refine at_region ?_
      refine at_v (ov_assign rfl rfl) rfl rfl rfl ?_
      refine at_nil ?_
      refine at_normal ?_
      refine hK8 _ _ _ ?_
      refine at_ret ?_
      refine at_inb_ret ?_
      refine at_then_ret ?_
      refine at_then_ret ?_
      refine at_inb_ret ?_
      refine at_then_ret ?_
      refine at_end ?_
      refine at_fin (rsV rfl (res_tmp rfl)) ?_
      refine ⟨_, ⟨by rw [et], rfl⟩, ?_⟩
      exact fun _ s => s.finEq (ks := []) (js := []) rfl rfl rfl
    | false =>
      rw [hp] at hS
      refine at_seq_k (fun K4 hK4 => ?_)
      refine at_seq_k (fun K5 hK5 => ?_)
      refine at_region ?_
      refine at_v (ov_move rfl rfl) rfl rfl rfl ?_
      refine at_v (ov_move rfl rfl) rfl rfl rfl ?_
      refine at_v (ov_len_slice rfl Tryz.underlying28 rfl) rfl rfl rfl ?_
      refine at_v (ov_int rfl rfl rfl rfl) rfl rfl rfl ?_
      refine at_nil ?_
      refine at_normal ?_
      refine hK5 _ _ _ ?_
      refine at_cond_true (congrArg (fun b => some (Value.bool b)) (show _ = true from decide_eq_true (by omega))) ?_
      refine at_skip ?_
      refine at_normal ?_
      refine hK4 _ _ _ ?_
      refine at_seq_k (fun K6 hK6 => ?_)
      refine at_block ?_
      refine at_seq_k (fun K7 hK7 => ?_)
      refine at_region ?_
      refine at_v (ov_move rfl rfl) rfl rfl rfl ?_
      refine at_v (ov_move rfl rfl) rfl rfl rfl ?_
      refine at_v (ov_indexRd (fun _ s => hr.up s) rfl Tryz.underlying28 rfl rfl rfl hget) rfl rfl rfl ?_
      refine at_v (ov_loadRdS (vs := [_, _]) (fun _ s => hr.up s) rfl rfl rfl hget rfl rfl) rfl rfl rfl ?_
      refine at_t (ot_call (ks := []) rfl rfl rfl Tryz.call28 rfl (hS ) rfl) rfl rfl rfl ?_
      rintro v0 _ ⟨m0, hp0, rfl⟩
      obtain ⟨rfl, rfl⟩ := hp0
      simp only [List.cons_append, List.nil_append, splice, spliceL]
      refine at_nil ?_
      refine at_normal ?_
      refine hK7 _ _ _ ?_
      refine at_cond_false rfl ?_
      refine at_skip ?_
      refine at_inb_normal ?_
      refine at_normal ?_
      refine hK6 _ _ _ ?_
      refine at_region ?_
      refine at_v (ov_move rfl rfl) rfl rfl rfl ?_
      refine at_v ((ov_int rfl rfl rfl rfl).eq (congrArg (Value.int .i64) (inK_i64 (by omega) (by omega)))) rfl rfl rfl ?_
      refine at_v (ov_assign rfl rfl) rfl rfl rfl ?_
      refine at_nil ?_
      refine at_normal ?_
      refine at_roundF (k + 1) ⟨hlt, fun y hy => ?_⟩ (by omega) ⟨rfl, trivial⟩ rfl ?_
      · rw [List.take_add_one, hget] at hy
        rcases List.mem_append.1 hy with hy | hy
        · exact hb y hy
        · simp at hy; subst hy; exact hp
      exact fun _ s => s.finEq (ks := []) (js := []) rfl rfl rfl
  have hi1 : decide ((k : Int) < l.length) = false := decide_eq_false (by omega)
  rw [List.take_of_length_le hge] at hb
  have ha : (l.any fun t => decide (t = signL)) = false := by
    rw [Bool.eq_false_iff]
    intro e
    obtain ⟨x, hx, hp⟩ := List.any_eq_true.1 e
    rw [hb x hx] at hp; cases hp
  rw [ha] at et
  simp only [Bool.false_eq_true, if_false] at et
  clear hb ha
  cases c1 : readsW.contains (wordAt l 0) with
  | true =>
    rw [c1] at r1 et
    refine at_seq_k (fun K4 hK4 => ?_)
    refine at_seq_k (fun K5 hK5 => ?_)
    refine at_region ?_
    refine at_v (ov_move rfl rfl) rfl rfl rfl ?_
    refine at_v (ov_move rfl rfl) rfl rfl rfl ?_
    refine at_v (ov_len_slice rfl Tryz.underlying28 rfl) rfl rfl rfl ?_
    refine at_v (ov_int rfl rfl rfl rfl) rfl rfl rfl ?_
    refine at_nil ?_
    refine at_normal ?_
    refine hK5 _ _ _ ?_
    refine at_cond_false (congrArg (fun b => some (Value.bool b)) (show _ = false from decide_eq_false (by omega))) ?_
    refine at_exit ?_
    refine at_then_exit ?_
    refine at_then_exit ?_
    refine at_exit_eq ?_
    refine at_normal ?_
    refine hK2 _ _ _ ?_
    refine at_seq_k (fun K6 hK6 => ?_)
    refine at_region ?_
    refine at_v (ov_move rfl rfl) rfl rfl rfl ?_
    refine at_v (ov_len_slice rfl Tryz.underlying28 rfl) rfl rfl rfl ?_
    refine at_v (ov_int rfl rfl rfl rfl) rfl rfl rfl ?_
    refine at_v (ov_assign rfl rfl) rfl rfl rfl ?_
    refine at_nil ?_
    refine at_normal ?_
    refine hK6 _ _ _ ?_
    refine at_seq_k (fun K7 hK7 => ?_)
    refine at_region ?_
    refine at_v (ov_move rfl rfl) rfl rfl rfl ?_
    refine at_t (ot_call (ks := []) rfl rfl rfl Tryz.call47 rfl (hW1 ) rfl) rfl rfl rfl ?_
    rintro v0 _ ⟨m0, hp0, rfl⟩
    obtain ⟨rfl, rfl⟩ := hp0
    simp only [List.cons_append, List.nil_append, splice, spliceL]
    refine at_v (ov_assign rfl rfl) rfl rfl rfl ?_
    refine at_nil ?_
    refine at_normal ?_
    refine hK7 _ _ _ ?_
    refine at_seq_k (fun K8 hK8 => ?_)
    refine at_block ?_
    refine at_seq_k (fun K9 hK9 => ?_)
    refine at_region ?_
    refine at_v (ov_move rfl rfl) rfl rfl rfl ?_
    refine at_t (ot_call (ks := []) rfl rfl rfl Tryz.call48 rfl (r1 ) rfl) rfl rfl rfl ?_
    rintro v0 _ ⟨m0, hp0, rfl⟩
    obtain ⟨rfl, rfl⟩ := hp0
    simp only [List.cons_append, List.nil_append, splice, spliceL]
    refine at_v (ov_assign rfl rfl) rfl rfl rfl ?_
    refine at_nil ?_
    refine at_normal ?_
    refine hK9 _ _ _ ?_
    refine at_cond_true rfl ?_
    refine at_seq_k (fun K10 hK10 => ?_)
    refine at_region ?_
    refine at_v (ov_assign rfl rfl) rfl rfl rfl ?_
    refine at_nil ?_
    refine at_normal ?_
    refine hK10 _ _ _ ?_
    refine at_ret ?_
    refine at_inb_ret ?_
    refine at_then_ret ?_
    refine at_end ?_
    refine at_fin (rsV rfl (res_tmp rfl)) ?_
    refine ⟨_, ⟨by rw [et]; rfl, rfl⟩, ?_⟩
    exact fun _ s => s.finEq (ks := []) (js := []) rfl rfl rfl
  | false =>
  rw [c1] at r1 et
  simp only [Bool.false_eq_true, if_false] at et
  clear c1
  have p1 : (wordIn l 1 anaW = true → 2 ≤ l.length) := fun h => by
    unfold wordIn at h
    cases hx : l[1]? with
    | none => rw [hx] at h; cases h
    | some x => have := (List.getElem?_eq_some_iff.1 hx).1; omega
  by_cases cEXPLAIN : wordAt l 0 = wEXPLAIN
  · rw [if_pos cEXPLAIN] at et
    have fEXPLAIN : decide (wordAt l 0 = wEXPLAIN) = true := by rw [cEXPLAIN]; decide
    have fBEGIN : decide (wordAt l 0 = wBEGIN) = false := by rw [cEXPLAIN]; decide
    have fSTART : decide (wordAt l 0 = wSTART) = false := by rw [cEXPLAIN]; decide
    have fCOMMIT : decide (wordAt l 0 = wCOMMIT) = false := by rw [cEXPLAIN]; decide
    have fROLLBACK : decide (wordAt l 0 = wROLLBACK) = false := by rw [cEXPLAIN]; decide
    have fSET : decide (wordAt l 0 = wSET) = false := by rw [cEXPLAIN]; decide
    cases c2 : wordIn l 1 anaW with
    | false =>
      rw [c2] at r2 et
      refine at_seq_k (fun K4 hK4 => ?_)
      refine at_seq_k (fun K5 hK5 => ?_)
      refine at_region ?_
      refine at_v (ov_move rfl rfl) rfl rfl rfl ?_
      refine at_v (ov_move rfl rfl) rfl rfl rfl ?_
      refine at_v (ov_len_slice rfl Tryz.underlying28 rfl) rfl rfl rfl ?_
      refine at_v (ov_int rfl rfl rfl rfl) rfl rfl rfl ?_
      refine at_nil ?_
      refine at_normal ?_
      refine hK5 _ _ _ ?_
      refine at_cond_false (congrArg (fun b => some (Value.bool b)) (show _ = false from decide_eq_false (by omega))) ?_
      refine at_exit ?_
      refine at_then_exit ?_
      refine at_then_exit ?_
      refine at_exit_eq ?_
      refine at_normal ?_
      refine hK2 _ _ _ ?_
      refine at_seq_k (fun K6 hK6 => ?_)
      refine at_region ?_
      refine at_v (ov_move rfl rfl) rfl rfl rfl ?_
      refine at_v (ov_len_slice rfl Tryz.underlying28 rfl) rfl rfl rfl ?_
      refine at_v (ov_int rfl rfl rfl rfl) rfl rfl rfl ?_
      refine at_v (ov_assign rfl rfl) rfl rfl rfl ?_
      refine at_nil ?_
      refine at_normal ?_
      refine hK6 _ _ _ ?_
      refine at_seq_k (fun K7 hK7 => ?_)
      refine at_region ?_
      refine at_v (ov_move rfl rfl) rfl rfl rfl ?_
      refine at_t (ot_call (ks := []) rfl rfl rfl Tryz.call47 rfl (hW1 ) rfl) rfl rfl rfl ?_
      rintro v0 _ ⟨m0, hp0, rfl⟩
      obtain ⟨rfl, rfl⟩ := hp0
      simp only [List.cons_append, List.nil_append, splice, spliceL]
      refine at_v (ov_assign rfl rfl) rfl rfl rfl ?_
      refine at_nil ?_
      refine at_normal ?_
      refine hK7 _ _ _ ?_
      refine at_seq_k (fun K8 hK8 => ?_)
      refine at_block ?_
      refine at_seq_k (fun K9 hK9 => ?_)
      refine at_region ?_
      refine at_v (ov_move rfl rfl) rfl rfl rfl ?_
      refine at_t (ot_call (ks := []) rfl rfl rfl Tryz.call48 rfl (r1 ) rfl) rfl rfl rfl ?_
      rintro v0 _ ⟨m0, hp0, rfl⟩
      obtain ⟨rfl, rfl⟩ := hp0
      simp only [List.cons_append, List.nil_append, splice, spliceL]
      refine at_v (ov_assign rfl rfl) rfl rfl rfl ?_
      refine at_nil ?_
      refine at_normal ?_
      refine hK9 _ _ _ ?_
      refine at_cond_false rfl ?_
      refine at_seq_k (fun K10 hK10 => ?_)
      refine at_region ?_
      refine at_v (ov_move rfl rfl) rfl rfl rfl ?_
      refine at_v (ov_strL rfl rfl rfl rfl) rfl rfl rfl ?_
      refine at_v (ov_assign rfl rfl) rfl rfl rfl ?_
      refine at_nil ?_
      refine at_normal ?_
      refine hK10 _ _ _ ?_
      refine at_cond_true (congrArg (fun b => some (Value.bool b)) (show _ = true from by first | assumption | (rw [Bool.not_eq_true']; exact decide_eq_false (by omega)))) ?_
      refine at_seq_k (fun K11 hK11 => ?_)
      refine at_seq_k (fun K12 hK12 => ?_)
      refine at_region ?_
      refine at_v (ov_move rfl rfl) rfl rfl rfl ?_
      refine at_t (ot_call (ks := []) rfl rfl rfl Tryz.call48 rfl (r2 ) rfl) rfl rfl rfl ?_
      rintro v0 _ ⟨m0, hp0, rfl⟩
      obtain ⟨rfl, rfl⟩ := hp0
      simp only [List.cons_append, List.nil_append, splice, spliceL]
      refine at_nil ?_
      refine at_normal ?_
      refine hK12 _ _ _ ?_
      refine at_cond_false rfl ?_
      refine at_skip ?_
      refine at_normal ?_
      refine hK11 _ _ _ ?_
      refine at_seq_k (fun K13 hK13 => ?_)
      refine at_region ?_
      refine at_v (ov_assign rfl rfl) rfl rfl rfl ?_
      refine at_nil ?_
      refine at_normal ?_
      refine hK13 _ _ _ ?_
      refine at_ret ?_
      refine at_inb_ret ?_
      refine at_then_ret ?_
      refine at_end ?_
      refine at_fin (rsV rfl (res_tmp rfl)) ?_
      refine ⟨_, ⟨by rw [et]; rfl, rfl⟩, ?_⟩
      exact fun _ s => s.finEq (ks := []) (js := []) rfl rfl rfl
    | true =>
      have hlen2 := p1 c2
      have hI := hIH hlen2
      rw [c2] at r2 et
      simp only [if_true] at et
      generalize tokN f (l.drop 2) = n at hI et
      by_cases n2 : n = 2
      · have g2 : decide (n = 2) = true := decide_eq_true n2
        rw [if_pos (.inl n2)] at et
        refine at_seq_k (fun K4 hK4 => ?_)
        refine at_seq_k (fun K5 hK5 => ?_)
        refine at_region ?_
        refine at_v (ov_move rfl rfl) rfl rfl rfl ?_
        refine at_v (ov_move rfl rfl) rfl rfl rfl ?_
        refine at_v (ov_len_slice rfl Tryz.underlying28 rfl) rfl rfl rfl ?_
        refine at_v (ov_int rfl rfl rfl rfl) rfl rfl rfl ?_
        refine at_nil ?_
        refine at_normal ?_
        refine hK5 _ _ _ ?_
        refine at_cond_false (congrArg (fun b => some (Value.bool b)) (show _ = false from decide_eq_false (by omega))) ?_
        refine at_exit ?_
        refine at_then_exit ?_
        refine at_then_exit ?_
        refine at_exit_eq ?_
        refine at_normal ?_
        refine hK2 _ _ _ ?_
        refine at_seq_k (fun K6 hK6 => ?_)
        refine at_region ?_
        refine at_v (ov_move rfl rfl) rfl rfl rfl ?_
        refine at_v (ov_len_slice rfl Tryz.underlying28 rfl) rfl rfl rfl ?_
        refine at_v (ov_int rfl rfl rfl rfl) rfl rfl rfl ?_
        refine at_v (ov_assign rfl rfl) rfl rfl rfl ?_
        refine at_nil ?_
        refine at_normal ?_
        refine hK6 _ _ _ ?_
        refine at_seq_k (fun K7 hK7 => ?_)
        refine at_region ?_
        refine at_v (ov_move rfl rfl) rfl rfl rfl ?_
        refine at_t (ot_call (ks := []) rfl rfl rfl Tryz.call47 rfl (hW1 ) rfl) rfl rfl rfl ?_
        rintro v0 _ ⟨m0, hp0, rfl⟩
        obtain ⟨rfl, rfl⟩ := hp0
        simp only [List.cons_append, List.nil_append, splice, spliceL]
        refine at_v (ov_assign rfl rfl) rfl rfl rfl ?_
        refine at_nil ?_
        refine at_normal ?_
        refine hK7 _ _ _ ?_
        refine at_seq_k (fun K8 hK8 => ?_)
        refine at_block ?_
        refine at_seq_k (fun K9 hK9 => ?_)
        refine at_region ?_
        refine at_v (ov_move rfl rfl) rfl rfl rfl ?_
        refine at_t (ot_call (ks := []) rfl rfl rfl Tryz.call48 rfl (r1 ) rfl) rfl rfl rfl ?_
        rintro v0 _ ⟨m0, hp0, rfl⟩
        obtain ⟨rfl, rfl⟩ := hp0
        simp only [List.cons_append, List.nil_append, splice, spliceL]
        refine at_v (ov_assign rfl rfl) rfl rfl rfl ?_
        refine at_nil ?_
        refine at_normal ?_
        refine hK9 _ _ _ ?_
        refine at_cond_false rfl ?_
        refine at_seq_k (fun K10 hK10 => ?_)
        refine at_region ?_
        refine at_v (ov_move rfl rfl) rfl rfl rfl ?_
        refine at_v (ov_strL rfl rfl rfl rfl) rfl rfl rfl ?_
        refine at_v (ov_assign rfl rfl) rfl rfl rfl ?_
        refine at_nil ?_
        refine at_normal ?_
        refine hK10 _ _ _ ?_
        refine at_cond_true (congrArg (fun b => some (Value.bool b)) (show _ = true from by first | assumption | (rw [Bool.not_eq_true']; exact decide_eq_false (by omega)))) ?_
        refine at_seq_k (fun K11 hK11 => ?_)
        refine at_seq_k (fun K12 hK12 => ?_)
        refine at_region ?_
        refine at_v (ov_move rfl rfl) rfl rfl rfl ?_
        refine at_t (ot_call (ks := []) rfl rfl rfl Tryz.call48 rfl (r2 ) rfl) rfl rfl rfl ?_
        rintro v0 _ ⟨m0, hp0, rfl⟩
        obtain ⟨rfl, rfl⟩ := hp0
        simp only [List.cons_append, List.nil_append, splice, spliceL]
        refine at_nil ?_
        refine at_normal ?_
        refine hK12 _ _ _ ?_
        refine at_cond_true rfl ?_
        refine at_seq_k (fun K13 hK13 => ?_)
        refine at_region ?_
        refine at_v (ov_move rfl rfl) rfl rfl rfl ?_
        refine at_v (ov_sliceFrom (k := 2) rfl Tryz.underlying28 rfl rfl rfl (by first | (simp; done) | assumption | omega) (by assumption)) rfl rfl rfl ?_
        refine at_t (ot_call (ks := []) rfl rfl rfl Tryz.call29 rfl (hI ) rfl) rfl rfl rfl ?_
        rintro v0 _ ⟨m0, hp0, rfl⟩
        obtain ⟨rfl, rfl⟩ := hp0
        simp only [List.cons_append, List.nil_append, splice, spliceL]
        refine at_v (ov_assign rfl rfl) rfl rfl rfl ?_
        refine at_nil ?_
        refine at_normal ?_
        refine hK13 _ _ _ ?_
        refine at_seq_k (fun K14 hK14 => ?_)
        refine at_region ?_
        refine at_v (ov_move rfl rfl) rfl rfl rfl ?_
        refine at_v (ov_int rfl rfl rfl rfl) rfl rfl rfl ?_
        refine at_v (ov_move rfl rfl) rfl rfl rfl ?_
        refine at_reval 39 (.bool true) rfl (congrArg Value.bool (decide_eq_true (by omega))) ?_
        refine at_unwanted (j := 2) rfl rfl rfl rfl ?_
        refine at_unwanted (j := 2) rfl rfl rfl rfl ?_
        refine at_v (ov_pick_t rfl rfl rfl) rfl rfl rfl ?_
        refine at_nil ?_
        refine at_normal ?_
        refine hK14 _ _ _ ?_
        refine at_cond_true rfl ?_
        refine at_seq_k (fun K15 hK15 => ?_)
        refine at_region ?_
        refine at_v (ov_move rfl rfl) rfl rfl rfl ?_
        refine at_v (ov_assign rfl rfl) rfl rfl rfl ?_
        refine at_nil ?_
        refine at_normal ?_
        refine hK15 _ _ _ ?_
        refine at_ret ?_
        refine at_then_ret ?_
        refine at_inb_ret ?_
        refine at_then_ret ?_
        refine at_end ?_
        refine at_fin (rsV rfl (res_tmp rfl)) ?_
        refine ⟨_, ⟨by rw [et], rfl⟩, ?_⟩
        exact fun _ s => s.finEq (ks := []) (js := []) rfl rfl rfl
      have g2 : decide (n = 2) = false := decide_eq_false n2
      by_cases n7 : n = 7
      · have g7 : decide (n = 7) = true := decide_eq_true n7
        rw [if_pos (.inr n7)] at et
        refine at_seq_k (fun K4 hK4 => ?_)
        refine at_seq_k (fun K5 hK5 => ?_)
        refine at_region ?_
        refine at_v (ov_move rfl rfl) rfl rfl rfl ?_
        refine at_v (ov_move rfl rfl) rfl rfl rfl ?_
        refine at_v (ov_len_slice rfl Tryz.underlying28 rfl) rfl rfl rfl ?_
        refine at_v (ov_int rfl rfl rfl rfl) rfl rfl rfl ?_
        refine at_nil ?_
        refine at_normal ?_
        refine hK5 _ _ _ ?_
        refine at_cond_false (congrArg (fun b => some (Value.bool b)) (show _ = false from decide_eq_false (by omega))) ?_
        refine at_exit ?_
        refine at_then_exit ?_
        refine at_then_exit ?_
        refine at_exit_eq ?_
        refine at_normal ?_
        refine hK2 _ _ _ ?_
        refine at_seq_k (fun K6 hK6 => ?_)
        refine at_region ?_
        refine at_v (ov_move rfl rfl) rfl rfl rfl ?_
        refine at_v (ov_len_slice rfl Tryz.underlying28 rfl) rfl rfl rfl ?_
        refine at_v (ov_int rfl rfl rfl rfl) rfl rfl rfl ?_
        refine at_v (ov_assign rfl rfl) rfl rfl rfl ?_
        refine at_nil ?_
        refine at_normal ?_
        refine hK6 _ _ _ ?_
        refine at_seq_k (fun K7 hK7 => ?_)
        refine at_region ?_
        refine at_v (ov_move rfl rfl) rfl rfl rfl ?_
        refine at_t (ot_call (ks := []) rfl rfl rfl Tryz.call47 rfl (hW1 ) rfl) rfl rfl rfl ?_
        rintro v0 _ ⟨m0, hp0, rfl⟩
        obtain ⟨rfl, rfl⟩ := hp0
        simp only [List.cons_append, List.nil_append, splice, spliceL]
        refine at_v (ov_assign rfl rfl) rfl rfl rfl ?_
        refine at_nil ?_
        refine at_normal ?_
        refine hK7 _ _ _ ?_
        refine at_seq_k (fun K8 hK8 => ?_)
        refine at_block ?_
        refine at_seq_k (fun K9 hK9 => ?_)
        refine at_region ?_
        refine at_v (ov_move rfl rfl) rfl rfl rfl ?_
        refine at_t (ot_call (ks := []) rfl rfl rfl Tryz.call48 rfl (r1 ) rfl) rfl rfl rfl ?_
        rintro v0 _ ⟨m0, hp0, rfl⟩
        obtain ⟨rfl, rfl⟩ := hp0
        simp only [List.cons_append, List.nil_append, splice, spliceL]
        refine at_v (ov_assign rfl rfl) rfl rfl rfl ?_
        refine at_nil ?_
        refine at_normal ?_
        refine hK9 _ _ _ ?_
        refine at_cond_false rfl ?_
        refine at_seq_k (fun K10 hK10 => ?_)
        refine at_region ?_
        refine at_v (ov_move rfl rfl) rfl rfl rfl ?_
        refine at_v (ov_strL rfl rfl rfl rfl) rfl rfl rfl ?_
        refine at_v (ov_assign rfl rfl) rfl rfl rfl ?_
        refine at_nil ?_
        refine at_normal ?_
        refine hK10 _ _ _ ?_
        refine at_cond_true (congrArg (fun b => some (Value.bool b)) (show _ = true from by first | assumption | (rw [Bool.not_eq_true']; exact decide_eq_false (by omega)))) ?_
        refine at_seq_k (fun K11 hK11 => ?_)
        refine at_seq_k (fun K12 hK12 => ?_)
        refine at_region ?_
        refine at_v (ov_move rfl rfl) rfl rfl rfl ?_
        refine at_t (ot_call (ks := []) rfl rfl rfl Tryz.call48 rfl (r2 ) rfl) rfl rfl rfl ?_
        rintro v0 _ ⟨m0, hp0, rfl⟩
        obtain ⟨rfl, rfl⟩ := hp0
        simp only [List.cons_append, List.nil_append, splice, spliceL]
        refine at_nil ?_
        refine at_normal ?_
        refine hK12 _ _ _ ?_
        refine at_cond_true rfl ?_
        refine at_seq_k (fun K13 hK13 => ?_)
        refine at_region ?_
        refine at_v (ov_move rfl rfl) rfl rfl rfl ?_
        refine at_v (ov_sliceFrom (k := 2) rfl Tryz.underlying28 rfl rfl rfl (by first | (simp; done) | assumption | omega) (by assumption)) rfl rfl rfl ?_
        refine at_t (ot_call (ks := []) rfl rfl rfl Tryz.call29 rfl (hI ) rfl) rfl rfl rfl ?_
        rintro v0 _ ⟨m0, hp0, rfl⟩
        obtain ⟨rfl, rfl⟩ := hp0
        simp only [List.cons_append, List.nil_append, splice, spliceL]
        refine at_v (ov_assign rfl rfl) rfl rfl rfl ?_
        refine at_nil ?_
        refine at_normal ?_
        refine hK13 _ _ _ ?_
        refine at_seq_k (fun K14 hK14 => ?_)
        refine at_region ?_
        refine at_v (ov_move rfl rfl) rfl rfl rfl ?_
        refine at_v (ov_int rfl rfl rfl rfl) rfl rfl rfl ?_
        refine at_v (ov_move rfl rfl) rfl rfl rfl ?_
        refine at_reval 39 (.bool false) rfl (congrArg Value.bool (decide_eq_false (by omega))) ?_
        refine at_wanted (j := 2) rfl ?_
        refine at_v (ov_move rfl rfl) rfl rfl rfl ?_
        refine at_wanted (j := 2) rfl ?_
        refine at_v (ov_int rfl rfl rfl rfl) rfl rfl rfl ?_
        refine at_v (ov_pick_f rfl rfl rfl) rfl rfl rfl ?_
        refine at_nil ?_
        refine at_normal ?_
        refine hK14 _ _ _ ?_
        refine at_cond_true (congrArg (fun b => some (Value.bool b)) (show _ = true from decide_eq_true (by omega))) ?_
        refine at_seq_k (fun K15 hK15 => ?_)
        refine at_region ?_
        refine at_v (ov_move rfl rfl) rfl rfl rfl ?_
        refine at_v (ov_assign rfl rfl) rfl rfl rfl ?_
        refine at_nil ?_
        refine at_normal ?_
        refine hK15 _ _ _ ?_
        refine at_ret ?_
        refine at_then_ret ?_
        refine at_inb_ret ?_
        refine at_then_ret ?_
        refine at_end ?_
        refine at_fin (rsV rfl (res_tmp rfl)) ?_
        refine ⟨_, ⟨by rw [et], rfl⟩, ?_⟩
        exact fun _ s => s.finEq (ks := []) (js := []) rfl rfl rfl
      have g7 : decide (n = 7) = false := decide_eq_false n7
      rw [if_neg (by omega)] at et
      refine at_seq_k (fun K4 hK4 => ?_)
      refine at_seq_k (fun K5 hK5 => ?_)
      refine at_region ?_
      refine at_v (ov_move rfl rfl) rfl rfl rfl ?_
      refine at_v (ov_move rfl rfl) rfl rfl rfl ?_
      refine at_v (ov_len_slice rfl Tryz.underlying28 rfl) rfl rfl rfl ?_
      refine at_v (ov_int rfl rfl rfl rfl) rfl rfl rfl ?_
      refine at_nil ?_
      refine at_normal ?_
      refine hK5 _ _ _ ?_
      refine at_cond_false (congrArg (fun b => some (Value.bool b)) (show _ = false from decide_eq_false (by omega))) ?_
      refine at_exit ?_
      refine at_then_exit ?_
      refine at_then_exit ?_
      refine at_exit_eq ?_
      refine at_normal ?_
      refine hK2 _ _ _ ?_
      refine at_seq_k (fun K6 hK6 => ?_)
      refine at_region ?_
      refine at_v (ov_move rfl rfl) rfl rfl rfl ?_
      refine at_v (ov_len_slice rfl Tryz.underlying28 rfl) rfl rfl rfl ?_
      refine at_v (ov_int rfl rfl rfl rfl) rfl rfl rfl ?_
      refine at_v (ov_assign rfl rfl) rfl rfl rfl ?_
      refine at_nil ?_
      refine at_normal ?_
      refine hK6 _ _ _ ?_
      refine at_seq_k (fun K7 hK7 => ?_)
      refine at_region ?_
      refine at_v (ov_move rfl rfl) rfl rfl rfl ?_
      refine at_t (ot_call (ks := []) rfl rfl rfl Tryz.call47 rfl (hW1 ) rfl) rfl rfl rfl ?_
      rintro v0 _ ⟨m0, hp0, rfl⟩
      obtain ⟨rfl, rfl⟩ := hp0
      simp only [List.cons_append, List.nil_append, splice, spliceL]
      refine at_v (ov_assign rfl rfl) rfl rfl rfl ?_
      refine at_nil ?_
      refine at_normal ?_
      refine hK7 _ _ _ ?_
      refine at_seq_k (fun K8 hK8 => ?_)
      refine at_block ?_
      refine at_seq_k (fun K9 hK9 => ?_)
      refine at_region ?_
      refine at_v (ov_move rfl rfl) rfl rfl rfl ?_
      refine at_t (ot_call (ks := []) rfl rfl rfl Tryz.call48 rfl (r1 ) rfl) rfl rfl rfl ?_
      rintro v0 _ ⟨m0, hp0, rfl⟩
      obtain ⟨rfl, rfl⟩ := hp0
      simp only [List.cons_append, List.nil_append, splice, spliceL]
      refine at_v (ov_assign rfl rfl) rfl rfl rfl ?_
      refine at_nil ?_
      refine at_normal ?_
      refine hK9 _ _ _ ?_
      refine at_cond_false rfl ?_
      refine at_seq_k (fun K10 hK10 => ?_)
      refine at_region ?_
      refine at_v (ov_move rfl rfl) rfl rfl rfl ?_
      refine at_v (ov_strL rfl rfl rfl rfl) rfl rfl rfl ?_
      refine at_v (ov_assign rfl rfl) rfl rfl rfl ?_
      refine at_nil ?_
      refine at_normal ?_
      refine hK10 _ _ _ ?_
      refine at_cond_true (congrArg (fun b => some (Value.bool b)) (show _ = true from by first | assumption | (rw [Bool.not_eq_true']; exact decide_eq_false (by omega)))) ?_
      refine at_seq_k (fun K11 hK11 => ?_)
      refine at_seq_k (fun K12 hK12 => ?_)
      refine at_region ?_
      refine at_v (ov_move rfl rfl) rfl rfl rfl ?_
      refine at_t (ot_call (ks := []) rfl rfl rfl Tryz.call48 rfl (r2 ) rfl) rfl rfl rfl ?_
      rintro v0 _ ⟨m0, hp0, rfl⟩
      obtain ⟨rfl, rfl⟩ := hp0
      simp only [List.cons_append, List.nil_append, splice, spliceL]
      refine at_nil ?_
      refine at_normal ?_
      refine hK12 _ _ _ ?_
      refine at_cond_true rfl ?_
      refine at_seq_k (fun K13 hK13 => ?_)
      refine at_region ?_
      refine at_v (ov_move rfl rfl) rfl rfl rfl ?_
      refine at_v (ov_sliceFrom (k := 2) rfl Tryz.underlying28 rfl rfl rfl (by first | (simp; done) | assumption | omega) (by assumption)) rfl rfl rfl ?_
      refine at_t (ot_call (ks := []) rfl rfl rfl Tryz.call29 rfl (hI ) rfl) rfl rfl rfl ?_
      rintro v0 _ ⟨m0, hp0, rfl⟩
      obtain ⟨rfl, rfl⟩ := hp0
      simp only [List.cons_append, List.nil_append, splice, spliceL]
      refine at_v (ov_assign rfl rfl) rfl rfl rfl ?_
      refine at_nil ?_
      refine at_normal ?_
      refine hK13 _ _ _ ?_
      refine at_seq_k (fun K14 hK14 => ?_)
      refine at_region ?_
      refine at_v (ov_move rfl rfl) rfl rfl rfl ?_
      refine at_v (ov_int rfl rfl rfl rfl) rfl rfl rfl ?_
      refine at_v (ov_move rfl rfl) rfl rfl rfl ?_
      refine at_reval 39 (.bool false) rfl (congrArg Value.bool (decide_eq_false (by omega))) ?_
      refine at_wanted (j := 2) rfl ?_
      refine at_v (ov_move rfl rfl) rfl rfl rfl ?_
      refine at_wanted (j := 2) rfl ?_
      refine at_v (ov_int rfl rfl rfl rfl) rfl rfl rfl ?_
      refine at_v (ov_pick_f rfl rfl rfl) rfl rfl rfl ?_
      refine at_nil ?_
      refine at_normal ?_
      refine hK14 _ _ _ ?_
      refine at_cond_false (congrArg (fun b => some (Value.bool b)) (show _ = false from decide_eq_false (by omega))) ?_
      refine at_skip ?_
      refine at_normal ?_
      refine hK11 _ _ _ ?_
      refine at_seq_k (fun K15 hK15 => ?_)
      refine at_region ?_
      refine at_v (ov_assign rfl rfl) rfl rfl rfl ?_
      refine at_nil ?_
      refine at_normal ?_
      refine hK15 _ _ _ ?_
      refine at_ret ?_
      refine at_inb_ret ?_
      refine at_then_ret ?_
      refine at_end ?_
      refine at_fin (rsV rfl (res_tmp rfl)) ?_
      refine ⟨_, ⟨by rw [et], rfl⟩, ?_⟩
      exact fun _ s => s.finEq (ks := []) (js := []) rfl rfl rfl
  rw [if_neg cEXPLAIN] at et
  have fEXPLAIN : decide (wordAt l 0 = wEXPLAIN) = false := decide_eq_false cEXPLAIN
  cases c3 : changeW.contains (wordAt l 0) with
  | true =>
    rw [c3] at r3 et
    refine at_seq_k (fun K4 hK4 => ?_)
    refine at_seq_k (fun K5 hK5 => ?_)
    refine at_region ?_
    refine at_v (ov_move rfl rfl) rfl rfl rfl ?_
    refine at_v (ov_move rfl rfl) rfl rfl rfl ?_
    refine at_v (ov_len_slice rfl Tryz.underlying28 rfl) rfl rfl rfl ?_
    refine at_v (ov_int rfl rfl rfl rfl) rfl rfl rfl ?_
    refine at_nil ?_
    refine at_normal ?_
    refine hK5 _ _ _ ?_
    refine at_cond_false (congrArg (fun b => some (Value.bool b)) (show _ = false from decide_eq_false (by omega))) ?_
    refine at_exit ?_
    refine at_then_exit ?_
    refine at_then_exit ?_
    refine at_exit_eq ?_
    refine at_normal ?_
    refine hK2 _ _ _ ?_
    refine at_seq_k (fun K6 hK6 => ?_)
    refine at_region ?_
    refine at_v (ov_move rfl rfl) rfl rfl rfl ?_
    refine at_v (ov_len_slice rfl Tryz.underlying28 rfl) rfl rfl rfl ?_
    refine at_v (ov_int rfl rfl rfl rfl) rfl rfl rfl ?_
    refine at_v (ov_assign rfl rfl) rfl rfl rfl ?_
    refine at_nil ?_
    refine at_normal ?_
    refine hK6 _ _ _ ?_
    refine at_seq_k (fun K7 hK7 => ?_)
    refine at_region ?_
    refine at_v (ov_move rfl rfl) rfl rfl rfl ?_
    refine at_t (ot_call (ks := []) rfl rfl rfl Tryz.call47 rfl (hW1 ) rfl) rfl rfl rfl ?_
    rintro v0 _ ⟨m0, hp0, rfl⟩
    obtain ⟨rfl, rfl⟩ := hp0
    simp only [List.cons_append, List.nil_append, splice, spliceL]
    refine at_v (ov_assign rfl rfl) rfl rfl rfl ?_
    refine at_nil ?_
    refine at_normal ?_
    refine hK7 _ _ _ ?_
    refine at_seq_k (fun K8 hK8 => ?_)
    refine at_block ?_
    refine at_seq_k (fun K9 hK9 => ?_)
    refine at_region ?_
    refine at_v (ov_move rfl rfl) rfl rfl rfl ?_
    refine at_t (ot_call (ks := []) rfl rfl rfl Tryz.call48 rfl (r1 ) rfl) rfl rfl rfl ?_
    rintro v0 _ ⟨m0, hp0, rfl⟩
    obtain ⟨rfl, rfl⟩ := hp0
    simp only [List.cons_append, List.nil_append, splice, spliceL]
    refine at_v (ov_assign rfl rfl) rfl rfl rfl ?_
    refine at_nil ?_
    refine at_normal ?_
    refine hK9 _ _ _ ?_
    refine at_cond_false rfl ?_
    refine at_seq_k (fun K10 hK10 => ?_)
    refine at_region ?_
    refine at_v (ov_move rfl rfl) rfl rfl rfl ?_
    refine at_v (ov_strL rfl rfl rfl rfl) rfl rfl rfl ?_
    refine at_v (ov_assign rfl rfl) rfl rfl rfl ?_
    refine at_nil ?_
    refine at_normal ?_
    refine hK10 _ _ _ ?_
    refine at_cond_false (congrArg (fun b => some (Value.bool b)) (show _ = false from by first | assumption | (rw [Bool.not_eq_false']; exact decide_eq_true (by omega)))) ?_
    refine at_seq_k (fun K11 hK11 => ?_)
    refine at_region ?_
    refine at_v (ov_move rfl rfl) rfl rfl rfl ?_
    refine at_t (ot_call (ks := []) rfl rfl rfl Tryz.call48 rfl (r3 ) rfl) rfl rfl rfl ?_
    rintro v0 _ ⟨m0, hp0, rfl⟩
    obtain ⟨rfl, rfl⟩ := hp0
    simp only [List.cons_append, List.nil_append, splice, spliceL]
    refine at_v (ov_assign rfl rfl) rfl rfl rfl ?_
    refine at_nil ?_
    refine at_normal ?_
    refine hK11 _ _ _ ?_
    refine at_cond_true rfl ?_
    refine at_seq_k (fun K12 hK12 => ?_)
    refine at_region ?_
    refine at_v (ov_assign rfl rfl) rfl rfl rfl ?_
    refine at_nil ?_
    refine at_normal ?_
    refine hK12 _ _ _ ?_
    refine at_ret ?_
    refine at_inb_ret ?_
    refine at_then_ret ?_
    refine at_end ?_
    refine at_fin (rsV rfl (res_tmp rfl)) ?_
    refine ⟨_, ⟨by rw [et]; rfl, rfl⟩, ?_⟩
    exact fun _ s => s.finEq (ks := []) (js := []) rfl rfl rfl
  | false =>
  rw [c3] at r3 et
  simp only [Bool.false_eq_true, if_false] at et
  clear c3
  cases c4 : askW.contains (wordAt l 0) with
  | true =>
    rw [c4] at r4 et
    simp only [if_true] at et
    unfold asksL at et
    cases h1 : hasIn l writesW with
    | true =>
      rw [h1] at r7 et
      refine at_seq_k (fun K4 hK4 => ?_)
      refine at_seq_k (fun K5 hK5 => ?_)
      refine at_region ?_
      refine at_v (ov_move rfl rfl) rfl rfl rfl ?_
      refine at_v (ov_move rfl rfl) rfl rfl rfl ?_
      refine at_v (ov_len_slice rfl Tryz.underlying28 rfl) rfl rfl rfl ?_
      refine at_v (ov_int rfl rfl rfl rfl) rfl rfl rfl ?_
      refine at_nil ?_
      refine at_normal ?_
      refine hK5 _ _ _ ?_
      refine at_cond_false (congrArg (fun b => some (Value.bool b)) (show _ = false from decide_eq_false (by omega))) ?_
      refine at_exit ?_
      refine at_then_exit ?_
      refine at_then_exit ?_
      refine at_exit_eq ?_
      refine at_normal ?_
      refine hK2 _ _ _ ?_
      refine at_seq_k (fun K6 hK6 => ?_)
      refine at_region ?_
      refine at_v (ov_move rfl rfl) rfl rfl rfl ?_
      refine at_v (ov_len_slice rfl Tryz.underlying28 rfl) rfl rfl rfl ?_
      refine at_v (ov_int rfl rfl rfl rfl) rfl rfl rfl ?_
      refine at_v (ov_assign rfl rfl) rfl rfl rfl ?_
      refine at_nil ?_
      refine at_normal ?_
      refine hK6 _ _ _ ?_
      refine at_seq_k (fun K7 hK7 => ?_)
      refine at_region ?_
      refine at_v (ov_move rfl rfl) rfl rfl rfl ?_
      refine at_t (ot_call (ks := []) rfl rfl rfl Tryz.call47 rfl (hW1 ) rfl) rfl rfl rfl ?_
      rintro v0 _ ⟨m0, hp0, rfl⟩
      obtain ⟨rfl, rfl⟩ := hp0
      simp only [List.cons_append, List.nil_append, splice, spliceL]
      refine at_v (ov_assign rfl rfl) rfl rfl rfl ?_
      refine at_nil ?_
      refine at_normal ?_
      refine hK7 _ _ _ ?_
      refine at_seq_k (fun K8 hK8 => ?_)
      refine at_block ?_
      refine at_seq_k (fun K9 hK9 => ?_)
      refine at_region ?_
      refine at_v (ov_move rfl rfl) rfl rfl rfl ?_
      refine at_t (ot_call (ks := []) rfl rfl rfl Tryz.call48 rfl (r1 ) rfl) rfl rfl rfl ?_
      rintro v0 _ ⟨m0, hp0, rfl⟩
      obtain ⟨rfl, rfl⟩ := hp0
      simp only [List.cons_append, List.nil_append, splice, spliceL]
      refine at_v (ov_assign rfl rfl) rfl rfl rfl ?_
      refine at_nil ?_
      refine at_normal ?_
      refine hK9 _ _ _ ?_
      refine at_cond_false rfl ?_
      refine at_seq_k (fun K10 hK10 => ?_)
      refine at_region ?_
      refine at_v (ov_move rfl rfl) rfl rfl rfl ?_
      refine at_v (ov_strL rfl rfl rfl rfl) rfl rfl rfl ?_
      refine at_v (ov_assign rfl rfl) rfl rfl rfl ?_
      refine at_nil ?_
      refine at_normal ?_
      refine hK10 _ _ _ ?_
      refine at_cond_false (congrArg (fun b => some (Value.bool b)) (show _ = false from by first | assumption | (rw [Bool.not_eq_false']; exact decide_eq_true (by omega)))) ?_
      refine at_seq_k (fun K11 hK11 => ?_)
      refine at_region ?_
      refine at_v (ov_move rfl rfl) rfl rfl rfl ?_
      refine at_t (ot_call (ks := []) rfl rfl rfl Tryz.call48 rfl (r3 ) rfl) rfl rfl rfl ?_
      rintro v0 _ ⟨m0, hp0, rfl⟩
      obtain ⟨rfl, rfl⟩ := hp0
      simp only [List.cons_append, List.nil_append, splice, spliceL]
      refine at_v (ov_assign rfl rfl) rfl rfl rfl ?_
      refine at_nil ?_
      refine at_normal ?_
      refine hK11 _ _ _ ?_
      refine at_cond_false rfl ?_
      refine at_seq_k (fun K12 hK12 => ?_)
      refine at_region ?_
      refine at_v (ov_move rfl rfl) rfl rfl rfl ?_
      refine at_t (ot_call (ks := []) rfl rfl rfl Tryz.call48 rfl (r4 ) rfl) rfl rfl rfl ?_
      rintro v0 _ ⟨m0, hp0, rfl⟩
      obtain ⟨rfl, rfl⟩ := hp0
      simp only [List.cons_append, List.nil_append, splice, spliceL]
      refine at_v (ov_assign rfl rfl) rfl rfl rfl ?_
      refine at_nil ?_
      refine at_normal ?_
      refine hK12 _ _ _ ?_
      refine at_cond_true rfl ?_
      refine at_seq_k (fun K13 hK13 => ?_)
      refine at_seq_k (fun K14 hK14 => ?_)
      refine at_region ?_
      refine at_v (ov_move rfl rfl) rfl rfl rfl ?_
      refine at_t (ot_call (ks := []) rfl rfl rfl Tryz.call49 rfl (r7 ) rfl) rfl rfl rfl ?_
      rintro v0 _ ⟨m0, hp0, rfl⟩
      obtain ⟨rfl, rfl⟩ := hp0
      simp only [List.cons_append, List.nil_append, splice, spliceL]
      refine at_nil ?_
      refine at_normal ?_
      refine hK14 _ _ _ ?_
      refine at_cond_true rfl ?_
      refine at_seq_k (fun K15 hK15 => ?_)
      refine at_region ?_
      refine at_v (ov_assign rfl rfl) rfl rfl rfl ?_
      refine at_nil ?_
      refine at_normal ?_
      refine hK15 _ _ _ ?_
      refine at_ret ?_
      refine at_then_ret ?_
      refine at_inb_ret ?_
      refine at_then_ret ?_
      refine at_end ?_
      refine at_fin (rsV rfl (res_tmp rfl)) ?_
      refine ⟨_, ⟨by rw [et]; rfl, rfl⟩, ?_⟩
      exact fun _ s => s.finEq (ks := []) (js := []) rfl rfl rfl
    | false =>
    rw [h1] at r7
    rw [h1, ← e0W] at et
    cases fWITH : decide (wordAt l 0 = wWITH) with
    | false =>
      rw [fWITH] at et
      refine at_seq_k (fun K4 hK4 => ?_)
      refine at_seq_k (fun K5 hK5 => ?_)
      refine at_region ?_
      refine at_v (ov_move rfl rfl) rfl rfl rfl ?_
      refine at_v (ov_move rfl rfl) rfl rfl rfl ?_
      refine at_v (ov_len_slice rfl Tryz.underlying28 rfl) rfl rfl rfl ?_
      refine at_v (ov_int rfl rfl rfl rfl) rfl rfl rfl ?_
      refine at_nil ?_
      refine at_normal ?_
      refine hK5 _ _ _ ?_
      refine at_cond_false (congrArg (fun b => some (Value.bool b)) (show _ = false from decide_eq_false (by omega))) ?_
      refine at_exit ?_
      refine at_then_exit ?_
      refine at_then_exit ?_
      refine at_exit_eq ?_
      refine at_normal ?_
      refine hK2 _ _ _ ?_
      refine at_seq_k (fun K6 hK6 => ?_)
      refine at_region ?_
      refine at_v (ov_move rfl rfl) rfl rfl rfl ?_
      refine at_v (ov_len_slice rfl Tryz.underlying28 rfl) rfl rfl rfl ?_
      refine at_v (ov_int rfl rfl rfl rfl) rfl rfl rfl ?_
      refine at_v (ov_assign rfl rfl) rfl rfl rfl ?_
      refine at_nil ?_
      refine at_normal ?_
      refine hK6 _ _ _ ?_
      refine at_seq_k (fun K7 hK7 => ?_)
      refine at_region ?_
      refine at_v (ov_move rfl rfl) rfl rfl rfl ?_
      refine at_t (ot_call (ks := []) rfl rfl rfl Tryz.call47 rfl (hW1 ) rfl) rfl rfl rfl ?_
      rintro v0 _ ⟨m0, hp0, rfl⟩
      obtain ⟨rfl, rfl⟩ := hp0
      simp only [List.cons_append, List.nil_append, splice, spliceL]
      refine at_v (ov_assign rfl rfl) rfl rfl rfl ?_
      refine at_nil ?_
      refine at_normal ?_
      refine hK7 _ _ _ ?_
      refine at_seq_k (fun K8 hK8 => ?_)
      refine at_block ?_
      refine at_seq_k (fun K9 hK9 => ?_)
      refine at_region ?_
      refine at_v (ov_move rfl rfl) rfl rfl rfl ?_
      refine at_t (ot_call (ks := []) rfl rfl rfl Tryz.call48 rfl (r1 ) rfl) rfl rfl rfl ?_
      rintro v0 _ ⟨m0, hp0, rfl⟩
      obtain ⟨rfl, rfl⟩ := hp0
      simp only [List.cons_append, List.nil_append, splice, spliceL]
      refine at_v (ov_assign rfl rfl) rfl rfl rfl ?_
      refine at_nil ?_
      refine at_normal ?_
      refine hK9 _ _ _ ?_
      refine at_cond_false rfl ?_
      refine at_seq_k (fun K10 hK10 => ?_)
      refine at_region ?_
      refine at_v (ov_move rfl rfl) rfl rfl rfl ?_
      refine at_v (ov_strL rfl rfl rfl rfl) rfl rfl rfl ?_
      refine at_v (ov_assign rfl rfl) rfl rfl rfl ?_
      refine at_nil ?_
      refine at_normal ?_
      refine hK10 _ _ _ ?_
      refine at_cond_false (congrArg (fun b => some (Value.bool b)) (show _ = false from by first | assumption | (rw [Bool.not_eq_false']; exact decide_eq_true (by omega)))) ?_
      refine at_seq_k (fun K11 hK11 => ?_)
      refine at_region ?_
      refine at_v (ov_move rfl rfl) rfl rfl rfl ?_
      refine at_t (ot_call (ks := []) rfl rfl rfl Tryz.call48 rfl (r3 ) rfl) rfl rfl rfl ?_
      rintro v0 _ ⟨m0, hp0, rfl⟩
      obtain ⟨rfl, rfl⟩ := hp0
      simp only [List.cons_append, List.nil_append, splice, spliceL]
      refine at_v (ov_assign rfl rfl) rfl rfl rfl ?_
      refine at_nil ?_
      refine at_normal ?_
      refine hK11 _ _ _ ?_
      refine at_cond_false rfl ?_
      refine at_seq_k (fun K12 hK12 => ?_)
      refine at_region ?_
      refine at_v (ov_move rfl rfl) rfl rfl rfl ?_
      refine at_t (ot_call (ks := []) rfl rfl rfl Tryz.call48 rfl (r4 ) rfl) rfl rfl rfl ?_
      rintro v0 _ ⟨m0, hp0, rfl⟩
      obtain ⟨rfl, rfl⟩ := hp0
      simp only [List.cons_append, List.nil_append, splice, spliceL]
      refine at_v (ov_assign rfl rfl) rfl rfl rfl ?_
      refine at_nil ?_
      refine at_normal ?_
      refine hK12 _ _ _ ?_
      refine at_cond_true rfl ?_
      refine at_seq_k (fun K13 hK13 => ?_)
      refine at_seq_k (fun K14 hK14 => ?_)
      refine at_region ?_
      refine at_v (ov_move rfl rfl) rfl rfl rfl ?_
      refine at_t (ot_call (ks := []) rfl rfl rfl Tryz.call49 rfl (r7 ) rfl) rfl rfl rfl ?_
      rintro v0 _ ⟨m0, hp0, rfl⟩
      obtain ⟨rfl, rfl⟩ := hp0
      simp only [List.cons_append, List.nil_append, splice, spliceL]
      refine at_nil ?_
      refine at_normal ?_
      refine hK14 _ _ _ ?_
      refine at_cond_false rfl ?_
      refine at_skip ?_
      refine at_normal ?_
      refine hK13 _ _ _ ?_
      refine at_seq_k (fun K15 hK15 => ?_)
      refine at_seq_k (fun K16 hK16 => ?_)
      refine at_region ?_
      refine at_v (ov_move rfl rfl) rfl rfl rfl ?_
      refine at_v (ov_strL rfl rfl rfl rfl) rfl rfl rfl ?_
      refine at_v (ov_move rfl rfl) rfl rfl rfl ?_
      refine at_reval 54 (.bool false) rfl (congrArg Value.bool (by first | assumption | (rw [Bool.not_eq_false']; exact decide_eq_true (by omega)))) ?_
      refine at_unwanted (j := 2) rfl rfl rfl rfl ?_
      refine at_unwanted (j := 2) rfl rfl rfl rfl ?_
      refine at_unwanted (j := 2) rfl rfl rfl rfl ?_
      refine at_v (ov_pick_f rfl rfl rfl) rfl rfl rfl ?_
      refine at_nil ?_
      refine at_normal ?_
      refine hK16 _ _ _ ?_
      refine at_cond_false rfl ?_
      refine at_skip ?_
      refine at_normal ?_
      refine hK15 _ _ _ ?_
      refine at_seq_k (fun K17 hK17 => ?_)
      refine at_region ?_
      refine at_v (ov_assign rfl rfl) rfl rfl rfl ?_
      refine at_nil ?_
      refine at_normal ?_
      refine hK17 _ _ _ ?_
      refine at_ret ?_
      refine at_inb_ret ?_
      refine at_then_ret ?_
      refine at_end ?_
      refine at_fin (rsV rfl (res_tmp rfl)) ?_
      refine ⟨_, ⟨by rw [et]; rfl, rfl⟩, ?_⟩
      exact fun _ s => s.finEq (ks := []) (js := []) rfl rfl rfl
    | true =>
    rw [fWITH] at et
    cases h2 : hasIn l selW with
    | true =>
      rw [h2] at r8
      have h2' : hasIn l [wSELECT] = true := h2
      rw [h2'] at et
      refine at_seq_k (fun K4 hK4 => ?_)
      refine at_seq_k (fun K5 hK5 => ?_)
      refine at_region ?_
      refine at_v (ov_move rfl rfl) rfl rfl rfl ?_
      refine at_v (ov_move rfl rfl) rfl rfl rfl ?_
      refine at_v (ov_len_slice rfl Tryz.underlying28 rfl) rfl rfl rfl ?_
      refine at_v (ov_int rfl rfl rfl rfl) rfl rfl rfl ?_
      refine at_nil ?_
      refine at_normal ?_
      refine hK5 _ _ _ ?_
      refine at_cond_false (congrArg (fun b => some (Value.bool b)) (show _ = false from decide_eq_false (by omega))) ?_
      refine at_exit ?_
      refine at_then_exit ?_
      refine at_then_exit ?_
      refine at_exit_eq ?_
      refine at_normal ?_
      refine hK2 _ _ _ ?_
      refine at_seq_k (fun K6 hK6 => ?_)
      refine at_region ?_
      refine at_v (ov_move rfl rfl) rfl rfl rfl ?_
      refine at_v (ov_len_slice rfl Tryz.underlying28 rfl) rfl rfl rfl ?_
      refine at_v (ov_int rfl rfl rfl rfl) rfl rfl rfl ?_
      refine at_v (ov_assign rfl rfl) rfl rfl rfl ?_
      refine at_nil ?_
      refine at_normal ?_
      refine hK6 _ _ _ ?_
      refine at_seq_k (fun K7 hK7 => ?_)
      refine at_region ?_
      refine at_v (ov_move rfl rfl) rfl rfl rfl ?_
      refine at_t (ot_call (ks := []) rfl rfl rfl Tryz.call47 rfl (hW1 ) rfl) rfl rfl rfl ?_
      rintro v0 _ ⟨m0, hp0, rfl⟩
      obtain ⟨rfl, rfl⟩ := hp0
      simp only [List.cons_append, List.nil_append, splice, spliceL]
      refine at_v (ov_assign rfl rfl) rfl rfl rfl ?_
      refine at_nil ?_
      refine at_normal ?_
      refine hK7 _ _ _ ?_
      refine at_seq_k (fun K8 hK8 => ?_)
      refine at_block ?_
      refine at_seq_k (fun K9 hK9 => ?_)
      refine at_region ?_
      refine at_v (ov_move rfl rfl) rfl rfl rfl ?_
      refine at_t (ot_call (ks := []) rfl rfl rfl Tryz.call48 rfl (r1 ) rfl) rfl rfl rfl ?_
      rintro v0 _ ⟨m0, hp0, rfl⟩
      obtain ⟨rfl, rfl⟩ := hp0
      simp only [List.cons_append, List.nil_append, splice, spliceL]
      refine at_v (ov_assign rfl rfl) rfl rfl rfl ?_
      refine at_nil ?_
      refine at_normal ?_
      refine hK9 _ _ _ ?_
      refine at_cond_false rfl ?_
      refine at_seq_k (fun K10 hK10 => ?_)
      refine at_region ?_
      refine at_v (ov_move rfl rfl) rfl rfl rfl ?_
      refine at_v (ov_strL rfl rfl rfl rfl) rfl rfl rfl ?_
      refine at_v (ov_assign rfl rfl) rfl rfl rfl ?_
      refine at_nil ?_
      refine at_normal ?_
      refine hK10 _ _ _ ?_
      refine at_cond_false (congrArg (fun b => some (Value.bool b)) (show _ = false from by first | assumption | (rw [Bool.not_eq_false']; exact decide_eq_true (by omega)))) ?_
      refine at_seq_k (fun K11 hK11 => ?_)
      refine at_region ?_
      refine at_v (ov_move rfl rfl) rfl rfl rfl ?_
      refine at_t (ot_call (ks := []) rfl rfl rfl Tryz.call48 rfl (r3 ) rfl) rfl rfl rfl ?_
      rintro v0 _ ⟨m0, hp0, rfl⟩
      obtain ⟨rfl, rfl⟩ := hp0
      simp only [List.cons_append, List.nil_append, splice, spliceL]
      refine at_v (ov_assign rfl rfl) rfl rfl rfl ?_
      refine at_nil ?_
      refine at_normal ?_
      refine hK11 _ _ _ ?_
      refine at_cond_false rfl ?_
      refine at_seq_k (fun K12 hK12 => ?_)
      refine at_region ?_
      refine at_v (ov_move rfl rfl) rfl rfl rfl ?_
      refine at_t (ot_call (ks := []) rfl rfl rfl Tryz.call48 rfl (r4 ) rfl) rfl rfl rfl ?_
      rintro v0 _ ⟨m0, hp0, rfl⟩
      obtain ⟨rfl, rfl⟩ := hp0
      simp only [List.cons_append, List.nil_append, splice, spliceL]
      refine at_v (ov_assign rfl rfl) rfl rfl rfl ?_
      refine at_nil ?_
      refine at_normal ?_
      refine hK12 _ _ _ ?_
      refine at_cond_true rfl ?_
      refine at_seq_k (fun K13 hK13 => ?_)
      refine at_seq_k (fun K14 hK14 => ?_)
      refine at_region ?_
      refine at_v (ov_move rfl rfl) rfl rfl rfl ?_
      refine at_t (ot_call (ks := []) rfl rfl rfl Tryz.call49 rfl (r7 ) rfl) rfl rfl rfl ?_
      rintro v0 _ ⟨m0, hp0, rfl⟩
      obtain ⟨rfl, rfl⟩ := hp0
      simp only [List.cons_append, List.nil_append, splice, spliceL]
      refine at_nil ?_
      refine at_normal ?_
      refine hK14 _ _ _ ?_
      refine at_cond_false rfl ?_
      refine at_skip ?_
      refine at_normal ?_
      refine hK13 _ _ _ ?_
      refine at_seq_k (fun K15 hK15 => ?_)
      refine at_seq_k (fun K16 hK16 => ?_)
      refine at_region ?_
      refine at_v (ov_move rfl rfl) rfl rfl rfl ?_
      refine at_v (ov_strL rfl rfl rfl rfl) rfl rfl rfl ?_
      refine at_v (ov_move rfl rfl) rfl rfl rfl ?_
      refine at_reval 54 (.bool true) rfl (congrArg Value.bool (by first | assumption | (rw [Bool.not_eq_true']; exact decide_eq_false (by omega)))) ?_
      refine at_wanted (j := 2) rfl ?_
      refine at_v (ov_move rfl rfl) rfl rfl rfl ?_
      refine at_wanted (j := 2) rfl ?_
      refine at_t (ot_call (ks := []) rfl rfl rfl Tryz.call49 rfl (r8 ) rfl) rfl rfl rfl ?_
      rintro v0 _ ⟨m0, hp0, rfl⟩
      obtain ⟨rfl, rfl⟩ := hp0
      simp only [List.cons_append, List.nil_append, splice, spliceL]
      refine at_wanted (j := 2) rfl ?_
      refine at_v (ov_not rfl rfl) rfl rfl rfl ?_
      refine at_v (ov_pick_t rfl rfl rfl) rfl rfl rfl ?_
      refine at_nil ?_
      refine at_normal ?_
      refine hK16 _ _ _ ?_
      refine at_cond_false rfl ?_
      refine at_skip ?_
      refine at_normal ?_
      refine hK15 _ _ _ ?_
      refine at_seq_k (fun K17 hK17 => ?_)
      refine at_region ?_
      refine at_v (ov_assign rfl rfl) rfl rfl rfl ?_
      refine at_nil ?_
      refine at_normal ?_
      refine hK17 _ _ _ ?_
      refine at_ret ?_
      refine at_inb_ret ?_
      refine at_then_ret ?_
      refine at_end ?_
      refine at_fin (rsV rfl (res_tmp rfl)) ?_
      refine ⟨_, ⟨by rw [et]; rfl, rfl⟩, ?_⟩
      exact fun _ s => s.finEq (ks := []) (js := []) rfl rfl rfl
    | false =>
      rw [h2] at r8
      have h2' : hasIn l [wSELECT] = false := h2
      rw [h2'] at et
      refine at_seq_k (fun K4 hK4 => ?_)
      refine at_seq_k (fun K5 hK5 => ?_)
      refine at_region ?_
      refine at_v (ov_move rfl rfl) rfl rfl rfl ?_
      refine at_v (ov_move rfl rfl) rfl rfl rfl ?_
      refine at_v (ov_len_slice rfl Tryz.underlying28 rfl) rfl rfl rfl ?_
      refine at_v (ov_int rfl rfl rfl rfl) rfl rfl rfl ?_
      refine at_nil ?_
      refine at_normal ?_
      refine hK5 _ _ _ ?_
      refine at_cond_false (congrArg (fun b => some (Value.bool b)) (show _ = false from decide_eq_false (by omega))) ?_
      refine at_exit ?_
      refine at_then_exit ?_
      refine at_then_exit ?_
      refine at_exit_eq ?_
      refine at_normal ?_
      refine hK2 _ _ _ ?_
      refine at_seq_k (fun K6 hK6 => ?_)
      refine at_region ?_
      refine at_v (ov_move rfl rfl) rfl rfl rfl ?_
      refine at_v (ov_len_slice rfl Tryz.underlying28 rfl) rfl rfl rfl ?_
      refine at_v (ov_int rfl rfl rfl rfl) rfl rfl rfl ?_
      refine at_v (ov_assign rfl rfl) rfl rfl rfl ?_
      refine at_nil ?_
      refine at_normal ?_
      refine hK6 _ _ _ ?_
      refine at_seq_k (fun K7 hK7 => ?_)
      refine at_region ?_
      refine at_v (ov_move rfl rfl) rfl rfl rfl ?_
      refine at_t (ot_call (ks := []) rfl rfl rfl Tryz.call47 rfl (hW1 ) rfl) rfl rfl rfl ?_
      rintro v0 _ ⟨m0, hp0, rfl⟩
      obtain ⟨rfl, rfl⟩ := hp0
      simp only [List.cons_append, List.nil_append, splice, spliceL]
      refine at_v (ov_assign rfl rfl) rfl rfl rfl ?_
      refine at_nil ?_
      refine at_normal ?_
      refine hK7 _ _ _ ?_
      refine at_seq_k (fun K8 hK8 => ?_)
      refine at_block ?_
      refine at_seq_k (fun K9 hK9 => ?_)
      refine at_region ?_
      refine at_v (ov_move rfl rfl) rfl rfl rfl ?_
      refine at_t (ot_call (ks := []) rfl rfl rfl Tryz.call48 rfl (r1 ) rfl) rfl rfl rfl ?_
      rintro v0 _ ⟨m0, hp0, rfl⟩
      obtain ⟨rfl, rfl⟩ := hp0
      simp only [List.cons_append, List.nil_append, splice, spliceL]
      refine at_v (ov_assign rfl rfl) rfl rfl rfl ?_
      refine at_nil ?_
      refine at_normal ?_
      refine hK9 _ _ _ ?_
      refine at_cond_false rfl ?_
      refine at_seq_k (fun K10 hK10 => ?_)
      refine at_region ?_
      refine at_v (ov_move rfl rfl) rfl rfl rfl ?_
      refine at_v (ov_strL rfl rfl rfl rfl) rfl rfl rfl ?_
      refine at_v (ov_assign rfl rfl) rfl rfl rfl ?_
      refine at_nil ?_
      refine at_normal ?_
      refine hK10 _ _ _ ?_
      refine at_cond_false (congrArg (fun b => some (Value.bool b)) (show _ = false from by first | assumption | (rw [Bool.not_eq_false']; exact decide_eq_true (by omega)))) ?_
      refine at_seq_k (fun K11 hK11 => ?_)
      refine at_region ?_
      refine at_v (ov_move rfl rfl) rfl rfl rfl ?_
      refine at_t (ot_call (ks := []) rfl rfl rfl Tryz.call48 rfl (r3 ) rfl) rfl rfl rfl ?_
      rintro v0 _ ⟨m0, hp0, rfl⟩
      obtain ⟨rfl, rfl⟩ := hp0
      simp only [List.cons_append, List.nil_append, splice, spliceL]
      refine at_v (ov_assign rfl rfl) rfl rfl rfl ?_
      refine at_nil ?_
      refine at_normal ?_
      refine hK11 _ _ _ ?_
      refine at_cond_false rfl ?_
      refine at_seq_k (fun K12 hK12 => ?_)
      refine at_region ?_
      refine at_v (ov_move rfl rfl) rfl rfl rfl ?_
      refine at_t (ot_call (ks := []) rfl rfl rfl Tryz.call48 rfl (r4 ) rfl) rfl rfl rfl ?_
      rintro v0 _ ⟨m0, hp0, rfl⟩
      obtain ⟨rfl, rfl⟩ := hp0
      simp only [List.cons_append, List.nil_append, splice, spliceL]
      refine at_v (ov_assign rfl rfl) rfl rfl rfl ?_
      refine at_nil ?_
      refine at_normal ?_
      refine hK12 _ _ _ ?_
      refine at_cond_true rfl ?_
      refine at_seq_k (fun K13 hK13 => ?_)
      refine at_seq_k (fun K14 hK14 => ?_)
      refine at_region ?_
      refine at_v (ov_move rfl rfl) rfl rfl rfl ?_
      refine at_t (ot_call (ks := []) rfl rfl rfl Tryz.call49 rfl (r7 ) rfl) rfl rfl rfl ?_
      rintro v0 _ ⟨m0, hp0, rfl⟩
      obtain ⟨rfl, rfl⟩ := hp0
      simp only [List.cons_append, List.nil_append, splice, spliceL]
      refine at_nil ?_
      refine at_normal ?_
      refine hK14 _ _ _ ?_
      refine at_cond_false rfl ?_
      refine at_skip ?_
      refine at_normal ?_
      refine hK13 _ _ _ ?_
      refine at_seq_k (fun K15 hK15 => ?_)
      refine at_seq_k (fun K16 hK16 => ?_)
      refine at_region ?_
      refine at_v (ov_move rfl rfl) rfl rfl rfl ?_
      refine at_v (ov_strL rfl rfl rfl rfl) rfl rfl rfl ?_
      refine at_v (ov_move rfl rfl) rfl rfl rfl ?_
      refine at_reval 54 (.bool true) rfl (congrArg Value.bool (by first | assumption | (rw [Bool.not_eq_true']; exact decide_eq_false (by omega)))) ?_
      refine at_wanted (j := 2) rfl ?_
      refine at_v (ov_move rfl rfl) rfl rfl rfl ?_
      refine at_wanted (j := 2) rfl ?_
      refine at_t (ot_call (ks := []) rfl rfl rfl Tryz.call49 rfl (r8 ) rfl) rfl rfl rfl ?_
      rintro v0 _ ⟨m0, hp0, rfl⟩
      obtain ⟨rfl, rfl⟩ := hp0
      simp only [List.cons_append, List.nil_append, splice, spliceL]
      refine at_wanted (j := 2) rfl ?_
      refine at_v (ov_not rfl rfl) rfl rfl rfl ?_
      refine at_v (ov_pick_t rfl rfl rfl) rfl rfl rfl ?_
      refine at_nil ?_
      refine at_normal ?_
      refine hK16 _ _ _ ?_
      refine at_cond_true rfl ?_
      refine at_seq_k (fun K17 hK17 => ?_)
      refine at_region ?_
      refine at_v (ov_assign rfl rfl) rfl rfl rfl ?_
      refine at_nil ?_
      refine at_normal ?_
      refine hK17 _ _ _ ?_
      refine at_ret ?_
      refine at_then_ret ?_
      refine at_inb_ret ?_
      refine at_then_ret ?_
      refine at_end ?_
      refine at_fin (rsV rfl (res_tmp rfl)) ?_
      refine ⟨_, ⟨by rw [et]; rfl, rfl⟩, ?_⟩
      exact fun _ s => s.finEq (ks := []) (js := []) rfl rfl rfl
  | false =>
  rw [c4] at r4 et
  simp only [Bool.false_eq_true, if_false] at et
  clear c4
  have l1 : ∀ {b}, b = decide (l.length = 1) → decide ((l.length : Int) = 1) = b := fun h => by rw [h]; exact decide_eq_decide.2 (by omega)
  have l2 : ∀ {b}, b = decide (l.length = 2) → decide ((l.length : Int) = 2) = b := fun h => by rw [h]; exact decide_eq_decide.2 (by omega)
  by_cases cBEGIN : wordAt l 0 = wBEGIN
  · rw [if_pos cBEGIN] at et
    have fEXPLAIN : decide (wordAt l 0 = wEXPLAIN) = false := by rw [cBEGIN]; decide
    have fBEGIN : decide (wordAt l 0 = wBEGIN) = true := by rw [cBEGIN]; decide
    have fSTART : decide (wordAt l 0 = wSTART) = false := by rw [cBEGIN]; decide
    have fCOMMIT : decide (wordAt l 0 = wCOMMIT) = false := by rw [cBEGIN]; decide
    have fROLLBACK : decide (wordAt l 0 = wROLLBACK) = false := by rw [cBEGIN]; decide
    have fSET : decide (wordAt l 0 = wSET) = false := by rw [cBEGIN]; decide
    unfold beginL at et
    by_cases n1 : l.length = 1
    · have g1 := l1 (decide_eq_true n1).symm
      refine at_seq_k (fun K4 hK4 => ?_)
      refine at_seq_k (fun K5 hK5 => ?_)
      refine at_region ?_
      refine at_v (ov_move rfl rfl) rfl rfl rfl ?_
      refine at_v (ov_move rfl rfl) rfl rfl rfl ?_
      refine at_v (ov_len_slice rfl Tryz.underlying28 rfl) rfl rfl rfl ?_
      refine at_v (ov_int rfl rfl rfl rfl) rfl rfl rfl ?_
      refine at_nil ?_
      refine at_normal ?_
      refine hK5 _ _ _ ?_
      refine at_cond_false (congrArg (fun b => some (Value.bool b)) (show _ = false from decide_eq_false (by omega))) ?_
      refine at_exit ?_
      refine at_then_exit ?_
      refine at_then_exit ?_
      refine at_exit_eq ?_
      refine at_normal ?_
      refine hK2 _ _ _ ?_
      refine at_seq_k (fun K6 hK6 => ?_)
      refine at_region ?_
      refine at_v (ov_move rfl rfl) rfl rfl rfl ?_
      refine at_v (ov_len_slice rfl Tryz.underlying28 rfl) rfl rfl rfl ?_
      refine at_v (ov_int rfl rfl rfl rfl) rfl rfl rfl ?_
      refine at_v (ov_assign rfl rfl) rfl rfl rfl ?_
      refine at_nil ?_
      refine at_normal ?_
      refine hK6 _ _ _ ?_
      refine at_seq_k (fun K7 hK7 => ?_)
      refine at_region ?_
      refine at_v (ov_move rfl rfl) rfl rfl rfl ?_
      refine at_t (ot_call (ks := []) rfl rfl rfl Tryz.call47 rfl (hW1 ) rfl) rfl rfl rfl ?_
      rintro v0 _ ⟨m0, hp0, rfl⟩
      obtain ⟨rfl, rfl⟩ := hp0
      simp only [List.cons_append, List.nil_append, splice, spliceL]
      refine at_v (ov_assign rfl rfl) rfl rfl rfl ?_
      refine at_nil ?_
      refine at_normal ?_
      refine hK7 _ _ _ ?_
      refine at_seq_k (fun K8 hK8 => ?_)
      refine at_block ?_
      refine at_seq_k (fun K9 hK9 => ?_)
      refine at_region ?_
      refine at_v (ov_move rfl rfl) rfl rfl rfl ?_
      refine at_t (ot_call (ks := []) rfl rfl rfl Tryz.call48 rfl (r1 ) rfl) rfl rfl rfl ?_
      rintro v0 _ ⟨m0, hp0, rfl⟩
      obtain ⟨rfl, rfl⟩ := hp0
      simp only [List.cons_append, List.nil_append, splice, spliceL]
      refine at_v (ov_assign rfl rfl) rfl rfl rfl ?_
      refine at_nil ?_
      refine at_normal ?_
      refine hK9 _ _ _ ?_
      refine at_cond_false rfl ?_
      refine at_seq_k (fun K10 hK10 => ?_)
      refine at_region ?_
      refine at_v (ov_move rfl rfl) rfl rfl rfl ?_
      refine at_v (ov_strL rfl rfl rfl rfl) rfl rfl rfl ?_
      refine at_v (ov_assign rfl rfl) rfl rfl rfl ?_
      refine at_nil ?_
      refine at_normal ?_
      refine hK10 _ _ _ ?_
      refine at_cond_false (congrArg (fun b => some (Value.bool b)) (show _ = false from by first | assumption | (rw [Bool.not_eq_false']; exact decide_eq_true (by omega)))) ?_
      refine at_seq_k (fun K11 hK11 => ?_)
      refine at_region ?_
      refine at_v (ov_move rfl rfl) rfl rfl rfl ?_
      refine at_t (ot_call (ks := []) rfl rfl rfl Tryz.call48 rfl (r3 ) rfl) rfl rfl rfl ?_
      rintro v0 _ ⟨m0, hp0, rfl⟩
      obtain ⟨rfl, rfl⟩ := hp0
      simp only [List.cons_append, List.nil_append, splice, spliceL]
      refine at_v (ov_assign rfl rfl) rfl rfl rfl ?_
      refine at_nil ?_
      refine at_normal ?_
      refine hK11 _ _ _ ?_
      refine at_cond_false rfl ?_
      refine at_seq_k (fun K12 hK12 => ?_)
      refine at_region ?_
      refine at_v (ov_move rfl rfl) rfl rfl rfl ?_
      refine at_t (ot_call (ks := []) rfl rfl rfl Tryz.call48 rfl (r4 ) rfl) rfl rfl rfl ?_
      rintro v0 _ ⟨m0, hp0, rfl⟩
      obtain ⟨rfl, rfl⟩ := hp0
      simp only [List.cons_append, List.nil_append, splice, spliceL]
      refine at_v (ov_assign rfl rfl) rfl rfl rfl ?_
      refine at_nil ?_
      refine at_normal ?_
      refine hK12 _ _ _ ?_
      refine at_cond_false rfl ?_
      refine at_seq_k (fun K13 hK13 => ?_)
      refine at_region ?_
      refine at_v (ov_move rfl rfl) rfl rfl rfl ?_
      refine at_v (ov_strL rfl rfl rfl rfl) rfl rfl rfl ?_
      refine at_v (ov_move rfl rfl) rfl rfl rfl ?_
      refine at_reval 62 (.bool true) rfl (congrArg Value.bool (by first | assumption | (rw [Bool.not_eq_true']; exact decide_eq_false (by omega)))) ?_
      refine at_wanted (j := 2) rfl ?_
      refine at_v (ov_move rfl rfl) rfl rfl rfl ?_
      refine at_wanted (j := 2) rfl ?_
      refine at_v (ov_move rfl rfl) rfl rfl rfl ?_
      refine at_reval 64 (.bool true) rfl (congrArg Value.bool (decide_eq_true (by omega))) ?_
      refine at_unwanted (j := 4) rfl rfl rfl rfl ?_
      refine at_unwanted (j := 4) rfl rfl rfl rfl ?_
      refine at_unwanted (j := 4) rfl rfl rfl rfl ?_
      refine at_unwanted (j := 4) rfl rfl rfl rfl ?_
      refine at_unwantedN (j := 8) rfl rfl rfl ?_
      refine at_unwantedN (j := 8) rfl rfl rfl ?_
      refine at_unwanted (j := 4) rfl rfl rfl rfl ?_
      refine at_wanted (j := 2) rfl ?_
      refine at_v (ov_pick_t rfl rfl rfl) rfl rfl rfl ?_
      refine at_v (ov_pick_t rfl rfl rfl) rfl rfl rfl ?_
      refine at_v (ov_move rfl rfl) rfl rfl rfl ?_
      refine at_unwanted (j := 14) rfl rfl rfl rfl ?_
      refine at_unwanted (j := 14) rfl rfl rfl rfl ?_
      refine at_unwanted (j := 14) rfl rfl rfl rfl ?_
      refine at_unwantedN (j := 17) rfl rfl rfl ?_
      refine at_unwantedN (j := 17) rfl rfl rfl ?_
      refine at_unwanted (j := 14) rfl rfl rfl rfl ?_
      refine at_v (ov_pick_t rfl rfl rfl) rfl rfl rfl ?_
      refine at_v (ov_assign rfl rfl) rfl rfl rfl ?_
      refine at_nil ?_
      refine at_normal ?_
      refine hK13 _ _ _ ?_
      refine at_cond_true rfl ?_
      refine at_seq_k (fun K14 hK14 => ?_)
      refine at_region ?_
      refine at_v (ov_assign rfl rfl) rfl rfl rfl ?_
      refine at_nil ?_
      refine at_normal ?_
      refine hK14 _ _ _ ?_
      refine at_ret ?_
      refine at_inb_ret ?_
      refine at_then_ret ?_
      refine at_end ?_
      refine at_fin (rsV rfl (res_tmp rfl)) ?_
      refine ⟨_, ⟨by rw [et, if_pos (.inl n1)], rfl⟩, ?_⟩
      exact fun _ s => s.finEq (ks := []) (js := []) rfl rfl rfl
    have g1 := l1 (decide_eq_false n1).symm
    by_cases n2 : l.length = 2
    · have g2 := l2 (decide_eq_true n2).symm
      cases q : wordIn l 1 wtW with
      | true =>
        rw [q] at r5
        have q' : wordIn l 1 [wWORK, wTRANSACTION] = true := q
        refine at_seq_k (fun K4 hK4 => ?_)
        refine at_seq_k (fun K5 hK5 => ?_)
        refine at_region ?_
        refine at_v (ov_move rfl rfl) rfl rfl rfl ?_
        refine at_v (ov_move rfl rfl) rfl rfl rfl ?_
        refine at_v (ov_len_slice rfl Tryz.underlying28 rfl) rfl rfl rfl ?_
        refine at_v (ov_int rfl rfl rfl rfl) rfl rfl rfl ?_
        refine at_nil ?_
        refine at_normal ?_
        refine hK5 _ _ _ ?_
        refine at_cond_false (congrArg (fun b => some (Value.bool b)) (show _ = false from decide_eq_false (by omega))) ?_
        refine at_exit ?_
        refine at_then_exit ?_
        refine at_then_exit ?_
        refine at_exit_eq ?_
        refine at_normal ?_
        refine hK2 _ _ _ ?_
        refine at_seq_k (fun K6 hK6 => ?_)
        refine at_region ?_
        refine at_v (ov_move rfl rfl) rfl rfl rfl ?_
        refine at_v (ov_len_slice rfl Tryz.underlying28 rfl) rfl rfl rfl ?_
        refine at_v (ov_int rfl rfl rfl rfl) rfl rfl rfl ?_
        refine at_v (ov_assign rfl rfl) rfl rfl rfl ?_
        refine at_nil ?_
        refine at_normal ?_
        refine hK6 _ _ _ ?_
        refine at_seq_k (fun K7 hK7 => ?_)
        refine at_region ?_
        refine at_v (ov_move rfl rfl) rfl rfl rfl ?_
        refine at_t (ot_call (ks := []) rfl rfl rfl Tryz.call47 rfl (hW1 ) rfl) rfl rfl rfl ?_
        rintro v0 _ ⟨m0, hp0, rfl⟩
        obtain ⟨rfl, rfl⟩ := hp0
        simp only [List.cons_append, List.nil_append, splice, spliceL]
        refine at_v (ov_assign rfl rfl) rfl rfl rfl ?_
        refine at_nil ?_
        refine at_normal ?_
        refine hK7 _ _ _ ?_
        refine at_seq_k (fun K8 hK8 => ?_)
        refine at_block ?_
        refine at_seq_k (fun K9 hK9 => ?_)
        refine at_region ?_
        refine at_v (ov_move rfl rfl) rfl rfl rfl ?_
        refine at_t (ot_call (ks := []) rfl rfl rfl Tryz.call48 rfl (r1 ) rfl) rfl rfl rfl ?_
        rintro v0 _ ⟨m0, hp0, rfl⟩
        obtain ⟨rfl, rfl⟩ := hp0
        simp only [List.cons_append, List.nil_append, splice, spliceL]
        refine at_v (ov_assign rfl rfl) rfl rfl rfl ?_
        refine at_nil ?_
        refine at_normal ?_
        refine hK9 _ _ _ ?_
        refine at_cond_false rfl ?_
        refine at_seq_k (fun K10 hK10 => ?_)
        refine at_region ?_
        refine at_v (ov_move rfl rfl) rfl rfl rfl ?_
        refine at_v (ov_strL rfl rfl rfl rfl) rfl rfl rfl ?_
        refine at_v (ov_assign rfl rfl) rfl rfl rfl ?_
        refine at_nil ?_
        refine at_normal ?_
        refine hK10 _ _ _ ?_
        refine at_cond_false (congrArg (fun b => some (Value.bool b)) (show _ = false from by first | assumption | (rw [Bool.not_eq_false']; exact decide_eq_true (by omega)))) ?_
        refine at_seq_k (fun K11 hK11 => ?_)
        refine at_region ?_
        refine at_v (ov_move rfl rfl) rfl rfl rfl ?_
        refine at_t (ot_call (ks := []) rfl rfl rfl Tryz.call48 rfl (r3 ) rfl) rfl rfl rfl ?_
        rintro v0 _ ⟨m0, hp0, rfl⟩
        obtain ⟨rfl, rfl⟩ := hp0
        simp only [List.cons_append, List.nil_append, splice, spliceL]
        refine at_v (ov_assign rfl rfl) rfl rfl rfl ?_
        refine at_nil ?_
        refine at_normal ?_
        refine hK11 _ _ _ ?_
        refine at_cond_false rfl ?_
        refine at_seq_k (fun K12 hK12 => ?_)
        refine at_region ?_
        refine at_v (ov_move rfl rfl) rfl rfl rfl ?_
        refine at_t (ot_call (ks := []) rfl rfl rfl Tryz.call48 rfl (r4 ) rfl) rfl rfl rfl ?_
        rintro v0 _ ⟨m0, hp0, rfl⟩
        obtain ⟨rfl, rfl⟩ := hp0
        simp only [List.cons_append, List.nil_append, splice, spliceL]
        refine at_v (ov_assign rfl rfl) rfl rfl rfl ?_
        refine at_nil ?_
        refine at_normal ?_
        refine hK12 _ _ _ ?_
        refine at_cond_false rfl ?_
        refine at_seq_k (fun K13 hK13 => ?_)
        refine at_region ?_
        refine at_v (ov_move rfl rfl) rfl rfl rfl ?_
        refine at_v (ov_strL rfl rfl rfl rfl) rfl rfl rfl ?_
        refine at_v (ov_move rfl rfl) rfl rfl rfl ?_
        refine at_reval 62 (.bool true) rfl (congrArg Value.bool (by first | assumption | (rw [Bool.not_eq_true']; exact decide_eq_false (by omega)))) ?_
        refine at_wanted (j := 2) rfl ?_
        refine at_v (ov_move rfl rfl) rfl rfl rfl ?_
        refine at_wanted (j := 2) rfl ?_
        refine at_v (ov_move rfl rfl) rfl rfl rfl ?_
        refine at_reval 64 (.bool false) rfl (congrArg Value.bool (decide_eq_false (by omega))) ?_
        refine at_wanted (j := 4) rfl ?_
        refine at_v (ov_move rfl rfl) rfl rfl rfl ?_
        refine at_wanted (j := 4) rfl ?_
        refine at_v (ov_len_slice rfl Tryz.underlying28 rfl) rfl rfl rfl ?_
        refine at_wanted (j := 4) rfl ?_
        refine at_v (ov_int rfl rfl rfl rfl) rfl rfl rfl ?_
        refine at_wanted (j := 4) rfl ?_
        refine at_v (ov_move rfl rfl) rfl rfl rfl ?_
        refine at_reval 68 (.bool true) rfl (congrArg Value.bool (decide_eq_true (by omega))) ?_
        refine at_wanted (j := 8) rfl ?_
        refine at_v (ov_move rfl rfl) rfl rfl rfl ?_
        refine at_wanted (j := 8) rfl ?_
        refine at_t (ot_call (ks := []) rfl rfl rfl Tryz.call48 rfl (r5 ) rfl) rfl rfl rfl ?_
        rintro v0 _ ⟨m0, hp0, rfl⟩
        obtain ⟨rfl, rfl⟩ := hp0
        simp only [List.cons_append, List.nil_append, splice, spliceL]
        refine at_wanted (j := 4) rfl ?_
        refine at_v (ov_pick_t rfl rfl rfl) rfl rfl rfl ?_
        refine at_wanted (j := 2) rfl ?_
        refine at_v (ov_pick_f rfl rfl rfl) rfl rfl rfl ?_
        refine at_v (ov_pick_t rfl rfl rfl) rfl rfl rfl ?_
        refine at_v (ov_move rfl rfl) rfl rfl rfl ?_
        refine at_unwanted (j := 14) rfl rfl rfl rfl ?_
        refine at_unwanted (j := 14) rfl rfl rfl rfl ?_
        refine at_unwanted (j := 14) rfl rfl rfl rfl ?_
        refine at_unwantedN (j := 17) rfl rfl rfl ?_
        refine at_unwantedN (j := 17) rfl rfl rfl ?_
        refine at_unwanted (j := 14) rfl rfl rfl rfl ?_
        refine at_v (ov_pick_t rfl rfl rfl) rfl rfl rfl ?_
        refine at_v (ov_assign rfl rfl) rfl rfl rfl ?_
        refine at_nil ?_
        refine at_normal ?_
        refine hK13 _ _ _ ?_
        refine at_cond_true rfl ?_
        refine at_seq_k (fun K14 hK14 => ?_)
        refine at_region ?_
        refine at_v (ov_assign rfl rfl) rfl rfl rfl ?_
        refine at_nil ?_
        refine at_normal ?_
        refine hK14 _ _ _ ?_
        refine at_ret ?_
        refine at_inb_ret ?_
        refine at_then_ret ?_
        refine at_end ?_
        refine at_fin (rsV rfl (res_tmp rfl)) ?_
        refine ⟨_, ⟨by rw [et, if_pos (.inr ⟨n2, q'⟩)], rfl⟩, ?_⟩
        exact fun _ s => s.finEq (ks := []) (js := []) rfl rfl rfl
      | false =>
        rw [q] at r5
        have q' : wordIn l 1 [wWORK, wTRANSACTION] = false := q
        refine at_seq_k (fun K4 hK4 => ?_)
        refine at_seq_k (fun K5 hK5 => ?_)
        refine at_region ?_
        refine at_v (ov_move rfl rfl) rfl rfl rfl ?_
        refine at_v (ov_move rfl rfl) rfl rfl rfl ?_
        refine at_v (ov_len_slice rfl Tryz.underlying28 rfl) rfl rfl rfl ?_
        refine at_v (ov_int rfl rfl rfl rfl) rfl rfl rfl ?_
        refine at_nil ?_
        refine at_normal ?_
        refine hK5 _ _ _ ?_
        refine at_cond_false (congrArg (fun b => some (Value.bool b)) (show _ = false from decide_eq_false (by omega))) ?_
        refine at_exit ?_
        refine at_then_exit ?_
        refine at_then_exit ?_
        refine at_exit_eq ?_
        refine at_normal ?_
        refine hK2 _ _ _ ?_
        refine at_seq_k (fun K6 hK6 => ?_)
        refine at_region ?_
        refine at_v (ov_move rfl rfl) rfl rfl rfl ?_
        refine at_v (ov_len_slice rfl Tryz.underlying28 rfl) rfl rfl rfl ?_
        refine at_v (ov_int rfl rfl rfl rfl) rfl rfl rfl ?_
        refine at_v (ov_assign rfl rfl) rfl rfl rfl ?_
        refine at_nil ?_
        refine at_normal ?_
        refine hK6 _ _ _ ?_
        refine at_seq_k (fun K7 hK7 => ?_)
        refine at_region ?_
        refine at_v (ov_move rfl rfl) rfl rfl rfl ?_
        refine at_t (ot_call (ks := []) rfl rfl rfl Tryz.call47 rfl (hW1 ) rfl) rfl rfl rfl ?_
        rintro v0 _ ⟨m0, hp0, rfl⟩
        obtain ⟨rfl, rfl⟩ := hp0
        simp only [List.cons_append, List.nil_append, splice, spliceL]
        refine at_v (ov_assign rfl rfl) rfl rfl rfl ?_
        refine at_nil ?_
        refine at_normal ?_
        refine hK7 _ _ _ ?_
        refine at_seq_k (fun K8 hK8 => ?_)
        refine at_block ?_
        refine at_seq_k (fun K9 hK9 => ?_)
        refine at_region ?_
        refine at_v (ov_move rfl rfl) rfl rfl rfl ?_
        refine at_t (ot_call (ks := []) rfl rfl rfl Tryz.call48 rfl (r1 ) rfl) rfl rfl rfl ?_
        rintro v0 _ ⟨m0, hp0, rfl⟩
        obtain ⟨rfl, rfl⟩ := hp0
        simp only [List.cons_append, List.nil_append, splice, spliceL]
        refine at_v (ov_assign rfl rfl) rfl rfl rfl ?_
        refine at_nil ?_
        refine at_normal ?_
        refine hK9 _ _ _ ?_
        refine at_cond_false rfl ?_
        refine at_seq_k (fun K10 hK10 => ?_)
        refine at_region ?_
        refine at_v (ov_move rfl rfl) rfl rfl rfl ?_
        refine at_v (ov_strL rfl rfl rfl rfl) rfl rfl rfl ?_
        refine at_v (ov_assign rfl rfl) rfl rfl rfl ?_
        refine at_nil ?_
        refine at_normal ?_
        refine hK10 _ _ _ ?_
        refine at_cond_false (congrArg (fun b => some (Value.bool b)) (show _ = false from by first | assumption | (rw [Bool.not_eq_false']; exact decide_eq_true (by omega)))) ?_
        refine at_seq_k (fun K11 hK11 => ?_)
        refine at_region ?_
        refine at_v (ov_move rfl rfl) rfl rfl rfl ?_
        refine at_t (ot_call (ks := []) rfl rfl rfl Tryz.call48 rfl (r3 ) rfl) rfl rfl rfl ?_
        rintro v0 _ ⟨m0, hp0, rfl⟩
        obtain ⟨rfl, rfl⟩ := hp0
        simp only [List.cons_append, List.nil_append, splice, spliceL]
        refine at_v (ov_assign rfl rfl) rfl rfl rfl ?_
        refine at_nil ?_
        refine at_normal ?_
        refine hK11 _ _ _ ?_
        refine at_cond_false rfl ?_
        refine at_seq_k (fun K12 hK12 => ?_)
        refine at_region ?_
        refine at_v (ov_move rfl rfl) rfl rfl rfl ?_
        refine at_t (ot_call (ks := []) rfl rfl rfl Tryz.call48 rfl (r4 ) rfl) rfl rfl rfl ?_
        rintro v0 _ ⟨m0, hp0, rfl⟩
        obtain ⟨rfl, rfl⟩ := hp0
        simp only [List.cons_append, List.nil_append, splice, spliceL]
        refine at_v (ov_assign rfl rfl) rfl rfl rfl ?_
        refine at_nil ?_
        refine at_normal ?_
        refine hK12 _ _ _ ?_
        refine at_cond_false rfl ?_
        refine at_seq_k (fun K13 hK13 => ?_)
        refine at_region ?_
        refine at_v (ov_move rfl rfl) rfl rfl rfl ?_
        refine at_v (ov_strL rfl rfl rfl rfl) rfl rfl rfl ?_
        refine at_v (ov_move rfl rfl) rfl rfl rfl ?_
        refine at_reval 62 (.bool true) rfl (congrArg Value.bool (by first | assumption | (rw [Bool.not_eq_true']; exact decide_eq_false (by omega)))) ?_
        refine at_wanted (j := 2) rfl ?_
        refine at_v (ov_move rfl rfl) rfl rfl rfl ?_
        refine at_wanted (j := 2) rfl ?_
        refine at_v (ov_move rfl rfl) rfl rfl rfl ?_
        refine at_reval 64 (.bool false) rfl (congrArg Value.bool (decide_eq_false (by omega))) ?_
        refine at_wanted (j := 4) rfl ?_
        refine at_v (ov_move rfl rfl) rfl rfl rfl ?_
        refine at_wanted (j := 4) rfl ?_
        refine at_v (ov_len_slice rfl Tryz.underlying28 rfl) rfl rfl rfl ?_
        refine at_wanted (j := 4) rfl ?_
        refine at_v (ov_int rfl rfl rfl rfl) rfl rfl rfl ?_
        refine at_wanted (j := 4) rfl ?_
        refine at_v (ov_move rfl rfl) rfl rfl rfl ?_
        refine at_reval 68 (.bool true) rfl (congrArg Value.bool (decide_eq_true (by omega))) ?_
        refine at_wanted (j := 8) rfl ?_
        refine at_v (ov_move rfl rfl) rfl rfl rfl ?_
        refine at_wanted (j := 8) rfl ?_
        refine at_t (ot_call (ks := []) rfl rfl rfl Tryz.call48 rfl (r5 ) rfl) rfl rfl rfl ?_
        rintro v0 _ ⟨m0, hp0, rfl⟩
        obtain ⟨rfl, rfl⟩ := hp0
        simp only [List.cons_append, List.nil_append, splice, spliceL]
        refine at_wanted (j := 4) rfl ?_
        refine at_v (ov_pick_t rfl rfl rfl) rfl rfl rfl ?_
        refine at_wanted (j := 2) rfl ?_
        refine at_v (ov_pick_f rfl rfl rfl) rfl rfl rfl ?_
        refine at_v (ov_pick_t rfl rfl rfl) rfl rfl rfl ?_
        refine at_v (ov_move rfl rfl) rfl rfl rfl ?_
        refine at_wanted (j := 14) rfl ?_
        refine at_v (ov_move rfl rfl) rfl rfl rfl ?_
        refine at_wanted (j := 14) rfl ?_
        refine at_v (ov_strL rfl rfl rfl rfl) rfl rfl rfl ?_
        refine at_wanted (j := 14) rfl ?_
        refine at_v (ov_move rfl rfl) rfl rfl rfl ?_
        refine at_reval 77 (.bool false) rfl (congrArg Value.bool (by first | assumption | (rw [Bool.not_eq_false']; exact decide_eq_true (by omega)))) ?_
        refine at_unwanted (j := 17) rfl rfl rfl rfl ?_
        refine at_unwanted (j := 17) rfl rfl rfl rfl ?_
        refine at_wanted (j := 14) rfl ?_
        refine at_v (ov_pick_f rfl rfl rfl) rfl rfl rfl ?_
        refine at_v (ov_pick_f rfl rfl rfl) rfl rfl rfl ?_
        refine at_v (ov_assign rfl rfl) rfl rfl rfl ?_
        refine at_nil ?_
        refine at_normal ?_
        refine hK13 _ _ _ ?_
        refine at_cond_false rfl ?_
        refine at_seq_k (fun K14 hK14 => ?_)
        refine at_region ?_
        refine at_v (ov_move rfl rfl) rfl rfl rfl ?_
        refine at_v (ov_strL rfl rfl rfl rfl) rfl rfl rfl ?_
        refine at_v (ov_move rfl rfl) rfl rfl rfl ?_
        refine at_reval 85 (.bool false) rfl (congrArg Value.bool (by first | assumption | (rw [Bool.not_eq_false']; exact decide_eq_true (by omega)))) ?_
        refine at_unwanted (j := 2) rfl rfl rfl rfl ?_
        refine at_unwanted (j := 2) rfl rfl rfl rfl ?_
        refine at_unwantedN (j := 4) rfl rfl rfl ?_
        refine at_unwantedN (j := 4) rfl rfl rfl ?_
        refine at_unwantedN (j := 4) rfl rfl rfl ?_
        refine at_unwantedN (j := 4) rfl rfl rfl ?_
        refine at_unwantedN (j := 8) rfl rfl rfl ?_
        refine at_unwantedN (j := 8) rfl rfl rfl ?_
        refine at_unwantedN (j := 4) rfl rfl rfl ?_
        refine at_unwanted (j := 2) rfl rfl rfl rfl ?_
        refine at_v (ov_pick_f rfl rfl rfl) rfl rfl rfl ?_
        refine at_v (ov_assign rfl rfl) rfl rfl rfl ?_
        refine at_nil ?_
        refine at_normal ?_
        refine hK14 _ _ _ ?_
        refine at_cond_false rfl ?_
        refine at_seq_k (fun K15 hK15 => ?_)
        refine at_region ?_
        refine at_v (ov_move rfl rfl) rfl rfl rfl ?_
        refine at_v (ov_strL rfl rfl rfl rfl) rfl rfl rfl ?_
        refine at_v (ov_move rfl rfl) rfl rfl rfl ?_
        refine at_reval 100 (.bool false) rfl (congrArg Value.bool (by first | assumption | (rw [Bool.not_eq_false']; exact decide_eq_true (by omega)))) ?_
        refine at_unwanted (j := 2) rfl rfl rfl rfl ?_
        refine at_unwanted (j := 2) rfl rfl rfl rfl ?_
        refine at_unwantedN (j := 4) rfl rfl rfl ?_
        refine at_unwantedN (j := 4) rfl rfl rfl ?_
        refine at_unwantedN (j := 4) rfl rfl rfl ?_
        refine at_unwantedN (j := 4) rfl rfl rfl ?_
        refine at_unwantedN (j := 8) rfl rfl rfl ?_
        refine at_unwantedN (j := 8) rfl rfl rfl ?_
        refine at_unwantedN (j := 4) rfl rfl rfl ?_
        refine at_unwanted (j := 2) rfl rfl rfl rfl ?_
        refine at_v (ov_pick_f rfl rfl rfl) rfl rfl rfl ?_
        refine at_v (ov_assign rfl rfl) rfl rfl rfl ?_
        refine at_nil ?_
        refine at_normal ?_
        refine hK15 _ _ _ ?_
        refine at_cond_false rfl ?_
        refine at_seq_k (fun K16 hK16 => ?_)
        refine at_region ?_
        refine at_v (ov_move rfl rfl) rfl rfl rfl ?_
        refine at_v (ov_strL rfl rfl rfl rfl) rfl rfl rfl ?_
        refine at_v (ov_move rfl rfl) rfl rfl rfl ?_
        refine at_reval 115 (.bool false) rfl (congrArg Value.bool (by first | assumption | (rw [Bool.not_eq_false']; exact decide_eq_true (by omega)))) ?_
        refine at_unwanted (j := 2) rfl rfl rfl rfl ?_
        refine at_unwanted (j := 2) rfl rfl rfl rfl ?_
        refine at_unwanted (j := 2) rfl rfl rfl rfl ?_
        refine at_v (ov_pick_f rfl rfl rfl) rfl rfl rfl ?_
        refine at_v (ov_assign rfl rfl) rfl rfl rfl ?_
        refine at_nil ?_
        refine at_normal ?_
        refine hK16 _ _ _ ?_
        refine at_cond_false rfl ?_
        refine at_skip ?_
        refine at_inb_normal ?_
        refine at_normal ?_
        refine hK8 _ _ _ ?_
        refine at_seq_k (fun K17 hK17 => ?_)
        refine at_region ?_
        refine at_v (ov_assign rfl rfl) rfl rfl rfl ?_
        refine at_nil ?_
        refine at_normal ?_
        refine hK17 _ _ _ ?_
        refine at_ret ?_
        refine at_end ?_
        refine at_fin (rsV rfl (res_tmp rfl)) ?_
        refine ⟨_, ⟨by rw [et, if_neg (by rw [q']; simp [n1])], rfl⟩, ?_⟩
        exact fun _ s => s.finEq (ks := []) (js := []) rfl rfl rfl
    have g2 := l2 (decide_eq_false n2).symm
    refine at_seq_k (fun K4 hK4 => ?_)
    refine at_seq_k (fun K5 hK5 => ?_)
    refine at_region ?_
    refine at_v (ov_move rfl rfl) rfl rfl rfl ?_
    refine at_v (ov_move rfl rfl) rfl rfl rfl ?_
    refine at_v (ov_len_slice rfl Tryz.underlying28 rfl) rfl rfl rfl ?_
    refine at_v (ov_int rfl rfl rfl rfl) rfl rfl rfl ?_
    refine at_nil ?_
    refine at_normal ?_
    refine hK5 _ _ _ ?_
    refine at_cond_false (congrArg (fun b => some (Value.bool b)) (show _ = false from decide_eq_false (by omega))) ?_
    refine at_exit ?_
    refine at_then_exit ?_
    refine at_then_exit ?_
    refine at_exit_eq ?_
    refine at_normal ?_
    refine hK2 _ _ _ ?_
    refine at_seq_k (fun K6 hK6 => ?_)
    refine at_region ?_
    refine at_v (ov_move rfl rfl) rfl rfl rfl ?_
    refine at_v (ov_len_slice rfl Tryz.underlying28 rfl) rfl rfl rfl ?_
    refine at_v (ov_int rfl rfl rfl rfl) rfl rfl rfl ?_
    refine at_v (ov_assign rfl rfl) rfl rfl rfl ?_
    refine at_nil ?_
    refine at_normal ?_
    refine hK6 _ _ _ ?_
    refine at_seq_k (fun K7 hK7 => ?_)
    refine at_region ?_
    refine at_v (ov_move rfl rfl) rfl rfl rfl ?_
    refine at_t (ot_call (ks := []) rfl rfl rfl Tryz.call47 rfl (hW1 ) rfl) rfl rfl rfl ?_
    rintro v0 _ ⟨m0, hp0, rfl⟩
    obtain ⟨rfl, rfl⟩ := hp0
    simp only [List.cons_append, List.nil_append, splice, spliceL]
    refine at_v (ov_assign rfl rfl) rfl rfl rfl ?_
    refine at_nil ?_
    refine at_normal ?_
    refine hK7 _ _ _ ?_
    refine at_seq_k (fun K8 hK8 => ?_)
    refine at_block ?_
    refine at_seq_k (fun K9 hK9 => ?_)
    refine at_region ?_
    refine at_v (ov_move rfl rfl) rfl rfl rfl ?_
    refine at_t (ot_call (ks := []) rfl rfl rfl Tryz.call48 rfl (r1 ) rfl) rfl rfl rfl ?_
    rintro v0 _ ⟨m0, hp0, rfl⟩
    obtain ⟨rfl, rfl⟩ := hp0
    simp only [List.cons_append, List.nil_append, splice, spliceL]
    refine at_v (ov_assign rfl rfl) rfl rfl rfl ?_
    refine at_nil ?_
    refine at_normal ?_
    refine hK9 _ _ _ ?_
    refine at_cond_false rfl ?_
    refine at_seq_k (fun K10 hK10 => ?_)
    refine at_region ?_
    refine at_v (ov_move rfl rfl) rfl rfl rfl ?_
    refine at_v (ov_strL rfl rfl rfl rfl) rfl rfl rfl ?_
    refine at_v (ov_assign rfl rfl) rfl rfl rfl ?_
    refine at_nil ?_
    refine at_normal ?_
    refine hK10 _ _ _ ?_
    refine at_cond_false (congrArg (fun b => some (Value.bool b)) (show _ = false from by first | assumption | (rw [Bool.not_eq_false']; exact decide_eq_true (by omega)))) ?_
    refine at_seq_k (fun K11 hK11 => ?_)
    refine at_region ?_
    refine at_v (ov_move rfl rfl) rfl rfl rfl ?_
    refine at_t (ot_call (ks := []) rfl rfl rfl Tryz.call48 rfl (r3 ) rfl) rfl rfl rfl ?_
    rintro v0 _ ⟨m0, hp0, rfl⟩
    obtain ⟨rfl, rfl⟩ := hp0
    simp only [List.cons_append, List.nil_append, splice, spliceL]
    refine at_v (ov_assign rfl rfl) rfl rfl rfl ?_
    refine at_nil ?_
    refine at_normal ?_
    refine hK11 _ _ _ ?_
    refine at_cond_false rfl ?_
    refine at_seq_k (fun K12 hK12 => ?_)
    refine at_region ?_
    refine at_v (ov_move rfl rfl) rfl rfl rfl ?_
    refine at_t (ot_call (ks := []) rfl rfl rfl Tryz.call48 rfl (r4 ) rfl) rfl rfl rfl ?_
    rintro v0 _ ⟨m0, hp0, rfl⟩
    obtain ⟨rfl, rfl⟩ := hp0
    simp only [List.cons_append, List.nil_append, splice, spliceL]
    refine at_v (ov_assign rfl rfl) rfl rfl rfl ?_
    refine at_nil ?_
    refine at_normal ?_
    refine hK12 _ _ _ ?_
    refine at_cond_false rfl ?_
    refine at_seq_k (fun K13 hK13 => ?_)
    refine at_region ?_
    refine at_v (ov_move rfl rfl) rfl rfl rfl ?_
    refine at_v (ov_strL rfl rfl rfl rfl) rfl rfl rfl ?_
    refine at_v (ov_move rfl rfl) rfl rfl rfl ?_
    refine at_reval 62 (.bool true) rfl (congrArg Value.bool (by first | assumption | (rw [Bool.not_eq_true']; exact decide_eq_false (by omega)))) ?_
    refine at_wanted (j := 2) rfl ?_
    refine at_v (ov_move rfl rfl) rfl rfl rfl ?_
    refine at_wanted (j := 2) rfl ?_
    refine at_v (ov_move rfl rfl) rfl rfl rfl ?_
    refine at_reval 64 (.bool false) rfl (congrArg Value.bool (decide_eq_false (by omega))) ?_
    refine at_wanted (j := 4) rfl ?_
    refine at_v (ov_move rfl rfl) rfl rfl rfl ?_
    refine at_wanted (j := 4) rfl ?_
    refine at_v (ov_len_slice rfl Tryz.underlying28 rfl) rfl rfl rfl ?_
    refine at_wanted (j := 4) rfl ?_
    refine at_v (ov_int rfl rfl rfl rfl) rfl rfl rfl ?_
    refine at_wanted (j := 4) rfl ?_
    refine at_v (ov_move rfl rfl) rfl rfl rfl ?_
    refine at_reval 68 (.bool false) rfl (congrArg Value.bool (decide_eq_false (by omega))) ?_
    refine at_unwanted (j := 8) rfl rfl rfl rfl ?_
    refine at_unwanted (j := 8) rfl rfl rfl rfl ?_
    refine at_wanted (j := 4) rfl ?_
    refine at_v (ov_pick_f rfl rfl rfl) rfl rfl rfl ?_
    refine at_wanted (j := 2) rfl ?_
    refine at_v (ov_pick_f rfl rfl rfl) rfl rfl rfl ?_
    refine at_v (ov_pick_t rfl rfl rfl) rfl rfl rfl ?_
    refine at_v (ov_move rfl rfl) rfl rfl rfl ?_
    refine at_wanted (j := 14) rfl ?_
    refine at_v (ov_move rfl rfl) rfl rfl rfl ?_
    refine at_wanted (j := 14) rfl ?_
    refine at_v (ov_strL rfl rfl rfl rfl) rfl rfl rfl ?_
    refine at_wanted (j := 14) rfl ?_
    refine at_v (ov_move rfl rfl) rfl rfl rfl ?_
    refine at_reval 77 (.bool false) rfl (congrArg Value.bool (by first | assumption | (rw [Bool.not_eq_false']; exact decide_eq_true (by omega)))) ?_
    refine at_unwanted (j := 17) rfl rfl rfl rfl ?_
    refine at_unwanted (j := 17) rfl rfl rfl rfl ?_
    refine at_wanted (j := 14) rfl ?_
    refine at_v (ov_pick_f rfl rfl rfl) rfl rfl rfl ?_
    refine at_v (ov_pick_f rfl rfl rfl) rfl rfl rfl ?_
    refine at_v (ov_assign rfl rfl) rfl rfl rfl ?_
    refine at_nil ?_
    refine at_normal ?_
    refine hK13 _ _ _ ?_
    refine at_cond_false rfl ?_
    refine at_seq_k (fun K14 hK14 => ?_)
    refine at_region ?_
    refine at_v (ov_move rfl rfl) rfl rfl rfl ?_
    refine at_v (ov_strL rfl rfl rfl rfl) rfl rfl rfl ?_
    refine at_v (ov_move rfl rfl) rfl rfl rfl ?_
    refine at_reval 85 (.bool false) rfl (congrArg Value.bool (by first | assumption | (rw [Bool.not_eq_false']; exact decide_eq_true (by omega)))) ?_
    refine at_unwanted (j := 2) rfl rfl rfl rfl ?_
    refine at_unwanted (j := 2) rfl rfl rfl rfl ?_
    refine at_unwantedN (j := 4) rfl rfl rfl ?_
    refine at_unwantedN (j := 4) rfl rfl rfl ?_
    refine at_unwantedN (j := 4) rfl rfl rfl ?_
    refine at_unwantedN (j := 4) rfl rfl rfl ?_
    refine at_unwantedN (j := 8) rfl rfl rfl ?_
    refine at_unwantedN (j := 8) rfl rfl rfl ?_
    refine at_unwantedN (j := 4) rfl rfl rfl ?_
    refine at_unwanted (j := 2) rfl rfl rfl rfl ?_
    refine at_v (ov_pick_f rfl rfl rfl) rfl rfl rfl ?_
    refine at_v (ov_assign rfl rfl) rfl rfl rfl ?_
    refine at_nil ?_
    refine at_normal ?_
    refine hK14 _ _ _ ?_
    refine at_cond_false rfl ?_
    refine at_seq_k (fun K15 hK15 => ?_)
    refine at_region ?_
    refine at_v (ov_move rfl rfl) rfl rfl rfl ?_
    refine at_v (ov_strL rfl rfl rfl rfl) rfl rfl rfl ?_
    refine at_v (ov_move rfl rfl) rfl rfl rfl ?_
    refine at_reval 100 (.bool false) rfl (congrArg Value.bool (by first | assumption | (rw [Bool.not_eq_false']; exact decide_eq_true (by omega)))) ?_
    refine at_unwanted (j := 2) rfl rfl rfl rfl ?_
    refine at_unwanted (j := 2) rfl rfl rfl rfl ?_
    refine at_unwantedN (j := 4) rfl rfl rfl ?_
    refine at_unwantedN (j := 4) rfl rfl rfl ?_
    refine at_unwantedN (j := 4) rfl rfl rfl ?_
    refine at_unwantedN (j := 4) rfl rfl rfl ?_
    refine at_unwantedN (j := 8) rfl rfl rfl ?_
    refine at_unwantedN (j := 8) rfl rfl rfl ?_
    refine at_unwantedN (j := 4) rfl rfl rfl ?_
    refine at_unwanted (j := 2) rfl rfl rfl rfl ?_
    refine at_v (ov_pick_f rfl rfl rfl) rfl rfl rfl ?_
    refine at_v (ov_assign rfl rfl) rfl rfl rfl ?_
    refine at_nil ?_
    refine at_normal ?_
    refine hK15 _ _ _ ?_
    refine at_cond_false rfl ?_
    refine at_seq_k (fun K16 hK16 => ?_)
    refine at_region ?_
    refine at_v (ov_move rfl rfl) rfl rfl rfl ?_
    refine at_v (ov_strL rfl rfl rfl rfl) rfl rfl rfl ?_
    refine at_v (ov_move rfl rfl) rfl rfl rfl ?_
    refine at_reval 115 (.bool false) rfl (congrArg Value.bool (by first | assumption | (rw [Bool.not_eq_false']; exact decide_eq_true (by omega)))) ?_
    refine at_unwanted (j := 2) rfl rfl rfl rfl ?_
    refine at_unwanted (j := 2) rfl rfl rfl rfl ?_
    refine at_unwanted (j := 2) rfl rfl rfl rfl ?_
    refine at_v (ov_pick_f rfl rfl rfl) rfl rfl rfl ?_
    refine at_v (ov_assign rfl rfl) rfl rfl rfl ?_
    refine at_nil ?_
    refine at_normal ?_
    refine hK16 _ _ _ ?_
    refine at_cond_false rfl ?_
    refine at_skip ?_
    refine at_inb_normal ?_
    refine at_normal ?_
    refine hK8 _ _ _ ?_
    refine at_seq_k (fun K17 hK17 => ?_)
    refine at_region ?_
    refine at_v (ov_assign rfl rfl) rfl rfl rfl ?_
    refine at_nil ?_
    refine at_normal ?_
    refine hK17 _ _ _ ?_
    refine at_ret ?_
    refine at_end ?_
    refine at_fin (rsV rfl (res_tmp rfl)) ?_
    refine ⟨_, ⟨by rw [et, if_neg (by omega)], rfl⟩, ?_⟩
    exact fun _ s => s.finEq (ks := []) (js := []) rfl rfl rfl
  rw [if_neg cBEGIN] at et
  have fBEGIN : decide (wordAt l 0 = wBEGIN) = false := decide_eq_false cBEGIN
  by_cases cSTART : wordAt l 0 = wSTART
  · rw [if_pos cSTART] at et
    have fEXPLAIN : decide (wordAt l 0 = wEXPLAIN) = false := by rw [cSTART]; decide
    have fBEGIN : decide (wordAt l 0 = wBEGIN) = false := by rw [cSTART]; decide
    have fSTART : decide (wordAt l 0 = wSTART) = true := by rw [cSTART]; decide
    have fCOMMIT : decide (wordAt l 0 = wCOMMIT) = false := by rw [cSTART]; decide
    have fROLLBACK : decide (wordAt l 0 = wROLLBACK) = false := by rw [cSTART]; decide
    have fSET : decide (wordAt l 0 = wSET) = false := by rw [cSTART]; decide
    unfold startL at et
    cases q : decide (wordAt l 1 = wTRANSACTION) with
    | true =>
      have q' := e1T.symm.trans q
      refine at_seq_k (fun K4 hK4 => ?_)
      refine at_seq_k (fun K5 hK5 => ?_)
      refine at_region ?_
      refine at_v (ov_move rfl rfl) rfl rfl rfl ?_
      refine at_v (ov_move rfl rfl) rfl rfl rfl ?_
      refine at_v (ov_len_slice rfl Tryz.underlying28 rfl) rfl rfl rfl ?_
      refine at_v (ov_int rfl rfl rfl rfl) rfl rfl rfl ?_
      refine at_nil ?_
      refine at_normal ?_
      refine hK5 _ _ _ ?_
      refine at_cond_false (congrArg (fun b => some (Value.bool b)) (show _ = false from decide_eq_false (by omega))) ?_
      refine at_exit ?_
      refine at_then_exit ?_
      refine at_then_exit ?_
      refine at_exit_eq ?_
      refine at_normal ?_
      refine hK2 _ _ _ ?_
      refine at_seq_k (fun K6 hK6 => ?_)
      refine at_region ?_
      refine at_v (ov_move rfl rfl) rfl rfl rfl ?_
      refine at_v (ov_len_slice rfl Tryz.underlying28 rfl) rfl rfl rfl ?_
      refine at_v (ov_int rfl rfl rfl rfl) rfl rfl rfl ?_
      refine at_v (ov_assign rfl rfl) rfl rfl rfl ?_
      refine at_nil ?_
      refine at_normal ?_
      refine hK6 _ _ _ ?_
      refine at_seq_k (fun K7 hK7 => ?_)
      refine at_region ?_
      refine at_v (ov_move rfl rfl) rfl rfl rfl ?_
      refine at_t (ot_call (ks := []) rfl rfl rfl Tryz.call47 rfl (hW1 ) rfl) rfl rfl rfl ?_
      rintro v0 _ ⟨m0, hp0, rfl⟩
      obtain ⟨rfl, rfl⟩ := hp0
      simp only [List.cons_append, List.nil_append, splice, spliceL]
      refine at_v (ov_assign rfl rfl) rfl rfl rfl ?_
      refine at_nil ?_
      refine at_normal ?_
      refine hK7 _ _ _ ?_
      refine at_seq_k (fun K8 hK8 => ?_)
      refine at_block ?_
      refine at_seq_k (fun K9 hK9 => ?_)
      refine at_region ?_
      refine at_v (ov_move rfl rfl) rfl rfl rfl ?_
      refine at_t (ot_call (ks := []) rfl rfl rfl Tryz.call48 rfl (r1 ) rfl) rfl rfl rfl ?_
      rintro v0 _ ⟨m0, hp0, rfl⟩
      obtain ⟨rfl, rfl⟩ := hp0
      simp only [List.cons_append, List.nil_append, splice, spliceL]
      refine at_v (ov_assign rfl rfl) rfl rfl rfl ?_
      refine at_nil ?_
      refine at_normal ?_
      refine hK9 _ _ _ ?_
      refine at_cond_false rfl ?_
      refine at_seq_k (fun K10 hK10 => ?_)
      refine at_region ?_
      refine at_v (ov_move rfl rfl) rfl rfl rfl ?_
      refine at_v (ov_strL rfl rfl rfl rfl) rfl rfl rfl ?_
      refine at_v (ov_assign rfl rfl) rfl rfl rfl ?_
      refine at_nil ?_
      refine at_normal ?_
      refine hK10 _ _ _ ?_
      refine at_cond_false (congrArg (fun b => some (Value.bool b)) (show _ = false from by first | assumption | (rw [Bool.not_eq_false']; exact decide_eq_true (by omega)))) ?_
      refine at_seq_k (fun K11 hK11 => ?_)
      refine at_region ?_
      refine at_v (ov_move rfl rfl) rfl rfl rfl ?_
      refine at_t (ot_call (ks := []) rfl rfl rfl Tryz.call48 rfl (r3 ) rfl) rfl rfl rfl ?_
      rintro v0 _ ⟨m0, hp0, rfl⟩
      obtain ⟨rfl, rfl⟩ := hp0
      simp only [List.cons_append, List.nil_append, splice, spliceL]
      refine at_v (ov_assign rfl rfl) rfl rfl rfl ?_
      refine at_nil ?_
      refine at_normal ?_
      refine hK11 _ _ _ ?_
      refine at_cond_false rfl ?_
      refine at_seq_k (fun K12 hK12 => ?_)
      refine at_region ?_
      refine at_v (ov_move rfl rfl) rfl rfl rfl ?_
      refine at_t (ot_call (ks := []) rfl rfl rfl Tryz.call48 rfl (r4 ) rfl) rfl rfl rfl ?_
      rintro v0 _ ⟨m0, hp0, rfl⟩
      obtain ⟨rfl, rfl⟩ := hp0
      simp only [List.cons_append, List.nil_append, splice, spliceL]
      refine at_v (ov_assign rfl rfl) rfl rfl rfl ?_
      refine at_nil ?_
      refine at_normal ?_
      refine hK12 _ _ _ ?_
      refine at_cond_false rfl ?_
      refine at_seq_k (fun K13 hK13 => ?_)
      refine at_region ?_
      refine at_v (ov_move rfl rfl) rfl rfl rfl ?_
      refine at_v (ov_strL rfl rfl rfl rfl) rfl rfl rfl ?_
      refine at_v (ov_move rfl rfl) rfl rfl rfl ?_
      refine at_reval 62 (.bool false) rfl (congrArg Value.bool (by first | assumption | (rw [Bool.not_eq_false']; exact decide_eq_true (by omega)))) ?_
      refine at_unwanted (j := 2) rfl rfl rfl rfl ?_
      refine at_unwanted (j := 2) rfl rfl rfl rfl ?_
      refine at_unwantedN (j := 4) rfl rfl rfl ?_
      refine at_unwantedN (j := 4) rfl rfl rfl ?_
      refine at_unwantedN (j := 4) rfl rfl rfl ?_
      refine at_unwantedN (j := 4) rfl rfl rfl ?_
      refine at_unwantedN (j := 8) rfl rfl rfl ?_
      refine at_unwantedN (j := 8) rfl rfl rfl ?_
      refine at_unwantedN (j := 4) rfl rfl rfl ?_
      refine at_unwanted (j := 2) rfl rfl rfl rfl ?_
      refine at_v (ov_pick_f rfl rfl rfl) rfl rfl rfl ?_
      refine at_v (ov_move rfl rfl) rfl rfl rfl ?_
      refine at_wanted (j := 14) rfl ?_
      refine at_v (ov_move rfl rfl) rfl rfl rfl ?_
      refine at_wanted (j := 14) rfl ?_
      refine at_v (ov_strL rfl rfl rfl rfl) rfl rfl rfl ?_
      refine at_wanted (j := 14) rfl ?_
      refine at_v (ov_move rfl rfl) rfl rfl rfl ?_
      refine at_reval 77 (.bool true) rfl (congrArg Value.bool (by first | assumption | (rw [Bool.not_eq_true']; exact decide_eq_false (by omega)))) ?_
      refine at_wanted (j := 17) rfl ?_
      refine at_v (ov_move rfl rfl) rfl rfl rfl ?_
      refine at_wanted (j := 17) rfl ?_
      refine at_v (ov_strL rfl rfl rfl rfl) rfl rfl rfl ?_
      refine at_wanted (j := 14) rfl ?_
      refine at_v (ov_pick_t rfl rfl rfl) rfl rfl rfl ?_
      refine at_v (ov_pick_f rfl rfl rfl) rfl rfl rfl ?_
      refine at_v (ov_assign rfl rfl) rfl rfl rfl ?_
      refine at_nil ?_
      refine at_normal ?_
      refine hK13 _ _ _ ?_
      refine at_cond_true (congrArg (fun b => some (Value.bool b)) (show _ = true from by first | assumption | (rw [Bool.not_eq_true']; exact decide_eq_false (by omega)))) ?_
      refine at_seq_k (fun K14 hK14 => ?_)
      refine at_region ?_
      refine at_v (ov_assign rfl rfl) rfl rfl rfl ?_
      refine at_nil ?_
      refine at_normal ?_
      refine hK14 _ _ _ ?_
      refine at_ret ?_
      refine at_inb_ret ?_
      refine at_then_ret ?_
      refine at_end ?_
      refine at_fin (rsV rfl (res_tmp rfl)) ?_
      refine ⟨_, ⟨by rw [et, q']; rfl, rfl⟩, ?_⟩
      exact fun _ s => s.finEq (ks := []) (js := []) rfl rfl rfl
    | false =>
      have q' := e1T.symm.trans q
      refine at_seq_k (fun K4 hK4 => ?_)
      refine at_seq_k (fun K5 hK5 => ?_)
      refine at_region ?_
      refine at_v (ov_move rfl rfl) rfl rfl rfl ?_
      refine at_v (ov_move rfl rfl) rfl rfl rfl ?_
      refine at_v (ov_len_slice rfl Tryz.underlying28 rfl) rfl rfl rfl ?_
      refine at_v (ov_int rfl rfl rfl rfl) rfl rfl rfl ?_
      refine at_nil ?_
      refine at_normal ?_
      refine hK5 _ _ _ ?_
      refine at_cond_false (congrArg (fun b => some (Value.bool b)) (show _ = false from decide_eq_false (by omega))) ?_
      refine at_exit ?_
      refine at_then_exit ?_
      refine at_then_exit ?_
      refine at_exit_eq ?_
      refine at_normal ?_
      refine hK2 _ _ _ ?_
      refine at_seq_k (fun K6 hK6 => ?_)
      refine at_region ?_
      refine at_v (ov_move rfl rfl) rfl rfl rfl ?_
      refine at_v (ov_len_slice rfl Tryz.underlying28 rfl) rfl rfl rfl ?_
      refine at_v (ov_int rfl rfl rfl rfl) rfl rfl rfl ?_
      refine at_v (ov_assign rfl rfl) rfl rfl rfl ?_
      refine at_nil ?_
      refine at_normal ?_
      refine hK6 _ _ _ ?_
      refine at_seq_k (fun K7 hK7 => ?_)
      refine at_region ?_
      refine at_v (ov_move rfl rfl) rfl rfl rfl ?_
      refine at_t (ot_call (ks := []) rfl rfl rfl Tryz.call47 rfl (hW1 ) rfl) rfl rfl rfl ?_
      rintro v0 _ ⟨m0, hp0, rfl⟩
      obtain ⟨rfl, rfl⟩ := hp0
      simp only [List.cons_append, List.nil_append, splice, spliceL]
      refine at_v (ov_assign rfl rfl) rfl rfl rfl ?_
      refine at_nil ?_
      refine at_normal ?_
      refine hK7 _ _ _ ?_
      refine at_seq_k (fun K8 hK8 => ?_)
      refine at_block ?_
      refine at_seq_k (fun K9 hK9 => ?_)
      refine at_region ?_
      refine at_v (ov_move rfl rfl) rfl rfl rfl ?_
      refine at_t (ot_call (ks := []) rfl rfl rfl Tryz.call48 rfl (r1 ) rfl) rfl rfl rfl ?_
      rintro v0 _ ⟨m0, hp0, rfl⟩
      obtain ⟨rfl, rfl⟩ := hp0
      simp only [List.cons_append, List.nil_append, splice, spliceL]
      refine at_v (ov_assign rfl rfl) rfl rfl rfl ?_
      refine at_nil ?_
      refine at_normal ?_
      refine hK9 _ _ _ ?_
      refine at_cond_false rfl ?_
      refine at_seq_k (fun K10 hK10 => ?_)
      refine at_region ?_
      refine at_v (ov_move rfl rfl) rfl rfl rfl ?_
      refine at_v (ov_strL rfl rfl rfl rfl) rfl rfl rfl ?_
      refine at_v (ov_assign rfl rfl) rfl rfl rfl ?_
      refine at_nil ?_
      refine at_normal ?_
      refine hK10 _ _ _ ?_
      refine at_cond_false (congrArg (fun b => some (Value.bool b)) (show _ = false from by first | assumption | (rw [Bool.not_eq_false']; exact decide_eq_true (by omega)))) ?_
      refine at_seq_k (fun K11 hK11 => ?_)
      refine at_region ?_
      refine at_v (ov_move rfl rfl) rfl rfl rfl ?_
      refine at_t (ot_call (ks := []) rfl rfl rfl Tryz.call48 rfl (r3 ) rfl) rfl rfl rfl ?_
      rintro v0 _ ⟨m0, hp0, rfl⟩
      obtain ⟨rfl, rfl⟩ := hp0
      simp only [List.cons_append, List.nil_append, splice, spliceL]
      refine at_v (ov_assign rfl rfl) rfl rfl rfl ?_
      refine at_nil ?_
      refine at_normal ?_
      refine hK11 _ _ _ ?_
      refine at_cond_false rfl ?_
      refine at_seq_k (fun K12 hK12 => ?_)
      refine at_region ?_
      refine at_v (ov_move rfl rfl) rfl rfl rfl ?_
      refine at_t (ot_call (ks := []) rfl rfl rfl Tryz.call48 rfl (r4 ) rfl) rfl rfl rfl ?_
      rintro v0 _ ⟨m0, hp0, rfl⟩
      obtain ⟨rfl, rfl⟩ := hp0
      simp only [List.cons_append, List.nil_append, splice, spliceL]
      refine at_v (ov_assign rfl rfl) rfl rfl rfl ?_
      refine at_nil ?_
      refine at_normal ?_
      refine hK12 _ _ _ ?_
      refine at_cond_false rfl ?_
      refine at_seq_k (fun K13 hK13 => ?_)
      refine at_region ?_
      refine at_v (ov_move rfl rfl) rfl rfl rfl ?_
      refine at_v (ov_strL rfl rfl rfl rfl) rfl rfl rfl ?_
      refine at_v (ov_move rfl rfl) rfl rfl rfl ?_
      refine at_reval 62 (.bool false) rfl (congrArg Value.bool (by first | assumption | (rw [Bool.not_eq_false']; exact decide_eq_true (by omega)))) ?_
      refine at_unwanted (j := 2) rfl rfl rfl rfl ?_
      refine at_unwanted (j := 2) rfl rfl rfl rfl ?_
      refine at_unwantedN (j := 4) rfl rfl rfl ?_
      refine at_unwantedN (j := 4) rfl rfl rfl ?_
      refine at_unwantedN (j := 4) rfl rfl rfl ?_
      refine at_unwantedN (j := 4) rfl rfl rfl ?_
      refine at_unwantedN (j := 8) rfl rfl rfl ?_
      refine at_unwantedN (j := 8) rfl rfl rfl ?_
      refine at_unwantedN (j := 4) rfl rfl rfl ?_
      refine at_unwanted (j := 2) rfl rfl rfl rfl ?_
      refine at_v (ov_pick_f rfl rfl rfl) rfl rfl rfl ?_
      refine at_v (ov_move rfl rfl) rfl rfl rfl ?_
      refine at_wanted (j := 14) rfl ?_
      refine at_v (ov_move rfl rfl) rfl rfl rfl ?_
      refine at_wanted (j := 14) rfl ?_
      refine at_v (ov_strL rfl rfl rfl rfl) rfl rfl rfl ?_
      refine at_wanted (j := 14) rfl ?_
      refine at_v (ov_move rfl rfl) rfl rfl rfl ?_
      refine at_reval 77 (.bool true) rfl (congrArg Value.bool (by first | assumption | (rw [Bool.not_eq_true']; exact decide_eq_false (by omega)))) ?_
      refine at_wanted (j := 17) rfl ?_
      refine at_v (ov_move rfl rfl) rfl rfl rfl ?_
      refine at_wanted (j := 17) rfl ?_
      refine at_v (ov_strL rfl rfl rfl rfl) rfl rfl rfl ?_
      refine at_wanted (j := 14) rfl ?_
      refine at_v (ov_pick_t rfl rfl rfl) rfl rfl rfl ?_
      refine at_v (ov_pick_f rfl rfl rfl) rfl rfl rfl ?_
      refine at_v (ov_assign rfl rfl) rfl rfl rfl ?_
      refine at_nil ?_
      refine at_normal ?_
      refine hK13 _ _ _ ?_
      refine at_cond_false (congrArg (fun b => some (Value.bool b)) (show _ = false from by first | assumption | (rw [Bool.not_eq_false']; exact decide_eq_true (by omega)))) ?_
      refine at_seq_k (fun K14 hK14 => ?_)
      refine at_region ?_
      refine at_v (ov_move rfl rfl) rfl rfl rfl ?_
      refine at_v (ov_strL rfl rfl rfl rfl) rfl rfl rfl ?_
      refine at_v (ov_move rfl rfl) rfl rfl rfl ?_
      refine at_reval 85 (.bool false) rfl (congrArg Value.bool (by first | assumption | (rw [Bool.not_eq_false']; exact decide_eq_true (by omega)))) ?_
      refine at_unwanted (j := 2) rfl rfl rfl rfl ?_
      refine at_unwanted (j := 2) rfl rfl rfl rfl ?_
      refine at_unwantedN (j := 4) rfl rfl rfl ?_
      refine at_unwantedN (j := 4) rfl rfl rfl ?_
      refine at_unwantedN (j := 4) rfl rfl rfl ?_
      refine at_unwantedN (j := 4) rfl rfl rfl ?_
      refine at_unwantedN (j := 8) rfl rfl rfl ?_
      refine at_unwantedN (j := 8) rfl rfl rfl ?_
      refine at_unwantedN (j := 4) rfl rfl rfl ?_
      refine at_unwanted (j := 2) rfl rfl rfl rfl ?_
      refine at_v (ov_pick_f rfl rfl rfl) rfl rfl rfl ?_
      refine at_v (ov_assign rfl rfl) rfl rfl rfl ?_
      refine at_nil ?_
      refine at_normal ?_
      refine hK14 _ _ _ ?_
      refine at_cond_false rfl ?_
      refine at_seq_k (fun K15 hK15 => ?_)
      refine at_region ?_
      refine at_v (ov_move rfl rfl) rfl rfl rfl ?_
      refine at_v (ov_strL rfl rfl rfl rfl) rfl rfl rfl ?_
      refine at_v (ov_move rfl rfl) rfl rfl rfl ?_
      refine at_reval 100 (.bool false) rfl (congrArg Value.bool (by first | assumption | (rw [Bool.not_eq_false']; exact decide_eq_true (by omega)))) ?_
      refine at_unwanted (j := 2) rfl rfl rfl rfl ?_
      refine at_unwanted (j := 2) rfl rfl rfl rfl ?_
      refine at_unwantedN (j := 4) rfl rfl rfl ?_
      refine at_unwantedN (j := 4) rfl rfl rfl ?_
      refine at_unwantedN (j := 4) rfl rfl rfl ?_
      refine at_unwantedN (j := 4) rfl rfl rfl ?_
      refine at_unwantedN (j := 8) rfl rfl rfl ?_
      refine at_unwantedN (j := 8) rfl rfl rfl ?_
      refine at_unwantedN (j := 4) rfl rfl rfl ?_
      refine at_unwanted (j := 2) rfl rfl rfl rfl ?_
      refine at_v (ov_pick_f rfl rfl rfl) rfl rfl rfl ?_
      refine at_v (ov_assign rfl rfl) rfl rfl rfl ?_
      refine at_nil ?_
      refine at_normal ?_
      refine hK15 _ _ _ ?_
      refine at_cond_false rfl ?_
      refine at_seq_k (fun K16 hK16 => ?_)
      refine at_region ?_
      refine at_v (ov_move rfl rfl) rfl rfl rfl ?_
      refine at_v (ov_strL rfl rfl rfl rfl) rfl rfl rfl ?_
      refine at_v (ov_move rfl rfl) rfl rfl rfl ?_
      refine at_reval 115 (.bool false) rfl (congrArg Value.bool (by first | assumption | (rw [Bool.not_eq_false']; exact decide_eq_true (by omega)))) ?_
      refine at_unwanted (j := 2) rfl rfl rfl rfl ?_
      refine at_unwanted (j := 2) rfl rfl rfl rfl ?_
      refine at_unwanted (j := 2) rfl rfl rfl rfl ?_
      refine at_v (ov_pick_f rfl rfl rfl) rfl rfl rfl ?_
      refine at_v (ov_assign rfl rfl) rfl rfl rfl ?_
      refine at_nil ?_
      refine at_normal ?_
      refine hK16 _ _ _ ?_
      refine at_cond_false rfl ?_
      refine at_skip ?_
      refine at_inb_normal ?_
      refine at_normal ?_
      refine hK8 _ _ _ ?_
      refine at_seq_k (fun K17 hK17 => ?_)
      refine at_region ?_
      refine at_v (ov_assign rfl rfl) rfl rfl rfl ?_
      refine at_nil ?_
      refine at_normal ?_
      refine hK17 _ _ _ ?_
      refine at_ret ?_
      refine at_end ?_
      refine at_fin (rsV rfl (res_tmp rfl)) ?_
      refine ⟨_, ⟨by rw [et, q']; rfl, rfl⟩, ?_⟩
      exact fun _ s => s.finEq (ks := []) (js := []) rfl rfl rfl
  rw [if_neg cSTART] at et
  have fSTART : decide (wordAt l 0 = wSTART) = false := decide_eq_false cSTART
  by_cases cCOMMIT : wordAt l 0 = wCOMMIT
  · rw [if_pos cCOMMIT] at et
    have fEXPLAIN : decide (wordAt l 0 = wEXPLAIN) = false := by rw [cCOMMIT]; decide
    have fBEGIN : decide (wordAt l 0 = wBEGIN) = false := by rw [cCOMMIT]; decide
    have fSTART : decide (wordAt l 0 = wSTART) = false := by rw [cCOMMIT]; decide
    have fCOMMIT : decide (wordAt l 0 = wCOMMIT) = true := by rw [cCOMMIT]; decide
    have fROLLBACK : decide (wordAt l 0 = wROLLBACK) = false := by rw [cCOMMIT]; decide
    have fSET : decide (wordAt l 0 = wSET) = false := by rw [cCOMMIT]; decide
    unfold endsL at et
    by_cases n1 : l.length = 1
    · have g1 := l1 (decide_eq_true n1).symm
      refine at_seq_k (fun K4 hK4 => ?_)
      refine at_seq_k (fun K5 hK5 => ?_)
      refine at_region ?_
      refine at_v (ov_move rfl rfl) rfl rfl rfl ?_
      refine at_v (ov_move rfl rfl) rfl rfl rfl ?_
      refine at_v (ov_len_slice rfl Tryz.underlying28 rfl) rfl rfl rfl ?_
      refine at_v (ov_int rfl rfl rfl rfl) rfl rfl rfl ?_
      refine at_nil ?_
      refine at_normal ?_
      refine hK5 _ _ _ ?_
      refine at_cond_false (congrArg (fun b => some (Value.bool b)) (show _ = false from decide_eq_false (by omega))) ?_
      refine at_exit ?_
      refine at_then_exit ?_
      refine at_then_exit ?_
      refine at_exit_eq ?_
      refine at_normal ?_
      refine hK2 _ _ _ ?_
      refine at_seq_k (fun K6 hK6 => ?_)
      refine at_region ?_
      refine at_v (ov_move rfl rfl) rfl rfl rfl ?_
      refine at_v (ov_len_slice rfl Tryz.underlying28 rfl) rfl rfl rfl ?_
      refine at_v (ov_int rfl rfl rfl rfl) rfl rfl rfl ?_
      refine at_v (ov_assign rfl rfl) rfl rfl rfl ?_
      refine at_nil ?_
      refine at_normal ?_
      refine hK6 _ _ _ ?_
      refine at_seq_k (fun K7 hK7 => ?_)
      refine at_region ?_
      refine at_v (ov_move rfl rfl) rfl rfl rfl ?_
      refine at_t (ot_call (ks := []) rfl rfl rfl Tryz.call47 rfl (hW1 ) rfl) rfl rfl rfl ?_
      rintro v0 _ ⟨m0, hp0, rfl⟩
      obtain ⟨rfl, rfl⟩ := hp0
      simp only [List.cons_append, List.nil_append, splice, spliceL]
      refine at_v (ov_assign rfl rfl) rfl rfl rfl ?_
      refine at_nil ?_
      refine at_normal ?_
      refine hK7 _ _ _ ?_
      refine at_seq_k (fun K8 hK8 => ?_)
      refine at_block ?_
      refine at_seq_k (fun K9 hK9 => ?_)
      refine at_region ?_
      refine at_v (ov_move rfl rfl) rfl rfl rfl ?_
      refine at_t (ot_call (ks := []) rfl rfl rfl Tryz.call48 rfl (r1 ) rfl) rfl rfl rfl ?_
      rintro v0 _ ⟨m0, hp0, rfl⟩
      obtain ⟨rfl, rfl⟩ := hp0
      simp only [List.cons_append, List.nil_append, splice, spliceL]
      refine at_v (ov_assign rfl rfl) rfl rfl rfl ?_
      refine at_nil ?_
      refine at_normal ?_
      refine hK9 _ _ _ ?_
      refine at_cond_false rfl ?_
      refine at_seq_k (fun K10 hK10 => ?_)
      refine at_region ?_
      refine at_v (ov_move rfl rfl) rfl rfl rfl ?_
      refine at_v (ov_strL rfl rfl rfl rfl) rfl rfl rfl ?_
      refine at_v (ov_assign rfl rfl) rfl rfl rfl ?_
      refine at_nil ?_
      refine at_normal ?_
      refine hK10 _ _ _ ?_
      refine at_cond_false (congrArg (fun b => some (Value.bool b)) (show _ = false from by first | assumption | (rw [Bool.not_eq_false']; exact decide_eq_true (by omega)))) ?_
      refine at_seq_k (fun K11 hK11 => ?_)
      refine at_region ?_
      refine at_v (ov_move rfl rfl) rfl rfl rfl ?_
      refine at_t (ot_call (ks := []) rfl rfl rfl Tryz.call48 rfl (r3 ) rfl) rfl rfl rfl ?_
      rintro v0 _ ⟨m0, hp0, rfl⟩
      obtain ⟨rfl, rfl⟩ := hp0
      simp only [List.cons_append, List.nil_append, splice, spliceL]
      refine at_v (ov_assign rfl rfl) rfl rfl rfl ?_
      refine at_nil ?_
      refine at_normal ?_
      refine hK11 _ _ _ ?_
      refine at_cond_false rfl ?_
      refine at_seq_k (fun K12 hK12 => ?_)
      refine at_region ?_
      refine at_v (ov_move rfl rfl) rfl rfl rfl ?_
      refine at_t (ot_call (ks := []) rfl rfl rfl Tryz.call48 rfl (r4 ) rfl) rfl rfl rfl ?_
      rintro v0 _ ⟨m0, hp0, rfl⟩
      obtain ⟨rfl, rfl⟩ := hp0
      simp only [List.cons_append, List.nil_append, splice, spliceL]
      refine at_v (ov_assign rfl rfl) rfl rfl rfl ?_
      refine at_nil ?_
      refine at_normal ?_
      refine hK12 _ _ _ ?_
      refine at_cond_false rfl ?_
      refine at_seq_k (fun K13 hK13 => ?_)
      refine at_region ?_
      refine at_v (ov_move rfl rfl) rfl rfl rfl ?_
      refine at_v (ov_strL rfl rfl rfl rfl) rfl rfl rfl ?_
      refine at_v (ov_move rfl rfl) rfl rfl rfl ?_
      refine at_reval 62 (.bool false) rfl (congrArg Value.bool (by first | assumption | (rw [Bool.not_eq_false']; exact decide_eq_true (by omega)))) ?_
      refine at_unwanted (j := 2) rfl rfl rfl rfl ?_
      refine at_unwanted (j := 2) rfl rfl rfl rfl ?_
      refine at_unwantedN (j := 4) rfl rfl rfl ?_
      refine at_unwantedN (j := 4) rfl rfl rfl ?_
      refine at_unwantedN (j := 4) rfl rfl rfl ?_
      refine at_unwantedN (j := 4) rfl rfl rfl ?_
      refine at_unwantedN (j := 8) rfl rfl rfl ?_
      refine at_unwantedN (j := 8) rfl rfl rfl ?_
      refine at_unwantedN (j := 4) rfl rfl rfl ?_
      refine at_unwanted (j := 2) rfl rfl rfl rfl ?_
      refine at_v (ov_pick_f rfl rfl rfl) rfl rfl rfl ?_
      refine at_v (ov_move rfl rfl) rfl rfl rfl ?_
      refine at_wanted (j := 14) rfl ?_
      refine at_v (ov_move rfl rfl) rfl rfl rfl ?_
      refine at_wanted (j := 14) rfl ?_
      refine at_v (ov_strL rfl rfl rfl rfl) rfl rfl rfl ?_
      refine at_wanted (j := 14) rfl ?_
      refine at_v (ov_move rfl rfl) rfl rfl rfl ?_
      refine at_reval 77 (.bool false) rfl (congrArg Value.bool (by first | assumption | (rw [Bool.not_eq_false']; exact decide_eq_true (by omega)))) ?_
      refine at_unwanted (j := 17) rfl rfl rfl rfl ?_
      refine at_unwanted (j := 17) rfl rfl rfl rfl ?_
      refine at_wanted (j := 14) rfl ?_
      refine at_v (ov_pick_f rfl rfl rfl) rfl rfl rfl ?_
      refine at_v (ov_pick_f rfl rfl rfl) rfl rfl rfl ?_
      refine at_v (ov_assign rfl rfl) rfl rfl rfl ?_
      refine at_nil ?_
      refine at_normal ?_
      refine hK13 _ _ _ ?_
      refine at_cond_false rfl ?_
      refine at_seq_k (fun K14 hK14 => ?_)
      refine at_region ?_
      refine at_v (ov_move rfl rfl) rfl rfl rfl ?_
      refine at_v (ov_strL rfl rfl rfl rfl) rfl rfl rfl ?_
      refine at_v (ov_move rfl rfl) rfl rfl rfl ?_
      refine at_reval 85 (.bool true) rfl (congrArg Value.bool (by first | assumption | (rw [Bool.not_eq_true']; exact decide_eq_false (by omega)))) ?_
      refine at_wanted (j := 2) rfl ?_
      refine at_v (ov_move rfl rfl) rfl rfl rfl ?_
      refine at_wanted (j := 2) rfl ?_
      refine at_v (ov_move rfl rfl) rfl rfl rfl ?_
      refine at_reval 87 (.bool true) rfl (congrArg Value.bool (decide_eq_true (by omega))) ?_
      refine at_unwanted (j := 4) rfl rfl rfl rfl ?_
      refine at_unwanted (j := 4) rfl rfl rfl rfl ?_
      refine at_unwanted (j := 4) rfl rfl rfl rfl ?_
      refine at_unwanted (j := 4) rfl rfl rfl rfl ?_
      refine at_unwantedN (j := 8) rfl rfl rfl ?_
      refine at_unwantedN (j := 8) rfl rfl rfl ?_
      refine at_unwanted (j := 4) rfl rfl rfl rfl ?_
      refine at_wanted (j := 2) rfl ?_
      refine at_v (ov_pick_t rfl rfl rfl) rfl rfl rfl ?_
      refine at_v (ov_pick_t rfl rfl rfl) rfl rfl rfl ?_
      refine at_v (ov_assign rfl rfl) rfl rfl rfl ?_
      refine at_nil ?_
      refine at_normal ?_
      refine hK14 _ _ _ ?_
      refine at_cond_true rfl ?_
      refine at_seq_k (fun K15 hK15 => ?_)
      refine at_region ?_
      refine at_v (ov_assign rfl rfl) rfl rfl rfl ?_
      refine at_nil ?_
      refine at_normal ?_
      refine hK15 _ _ _ ?_
      refine at_ret ?_
      refine at_inb_ret ?_
      refine at_then_ret ?_
      refine at_end ?_
      refine at_fin (rsV rfl (res_tmp rfl)) ?_
      refine ⟨_, ⟨by rw [et, if_pos (.inl n1)], rfl⟩, ?_⟩
      exact fun _ s => s.finEq (ks := []) (js := []) rfl rfl rfl
    have g1 := l1 (decide_eq_false n1).symm
    by_cases n2 : l.length = 2
    · have g2 := l2 (decide_eq_true n2).symm
      cases q : decide (wordAt l 1 = wWORK) with
      | true =>
        have q' := e1W.symm.trans q
        refine at_seq_k (fun K4 hK4 => ?_)
        refine at_seq_k (fun K5 hK5 => ?_)
        refine at_region ?_
        refine at_v (ov_move rfl rfl) rfl rfl rfl ?_
        refine at_v (ov_move rfl rfl) rfl rfl rfl ?_
        refine at_v (ov_len_slice rfl Tryz.underlying28 rfl) rfl rfl rfl ?_
        refine at_v (ov_int rfl rfl rfl rfl) rfl rfl rfl ?_
        refine at_nil ?_
        refine at_normal ?_
        refine hK5 _ _ _ ?_
        refine at_cond_false (congrArg (fun b => some (Value.bool b)) (show _ = false from decide_eq_false (by omega))) ?_
        refine at_exit ?_
        refine at_then_exit ?_
        refine at_then_exit ?_
        refine at_exit_eq ?_
        refine at_normal ?_
        refine hK2 _ _ _ ?_
        refine at_seq_k (fun K6 hK6 => ?_)
        refine at_region ?_
        refine at_v (ov_move rfl rfl) rfl rfl rfl ?_
        refine at_v (ov_len_slice rfl Tryz.underlying28 rfl) rfl rfl rfl ?_
        refine at_v (ov_int rfl rfl rfl rfl) rfl rfl rfl ?_
        refine at_v (ov_assign rfl rfl) rfl rfl rfl ?_
        refine at_nil ?_
        refine at_normal ?_
        refine hK6 _ _ _ ?_
        refine at_seq_k (fun K7 hK7 => ?_)
        refine at_region ?_
        refine at_v (ov_move rfl rfl) rfl rfl rfl ?_
        refine at_t (ot_call (ks := []) rfl rfl rfl Tryz.call47 rfl (hW1 ) rfl) rfl rfl rfl ?_
        rintro v0 _ ⟨m0, hp0, rfl⟩
        obtain ⟨rfl, rfl⟩ := hp0
        simp only [List.cons_append, List.nil_append, splice, spliceL]
        refine at_v (ov_assign rfl rfl) rfl rfl rfl ?_
        refine at_nil ?_
        refine at_normal ?_
        refine hK7 _ _ _ ?_
        refine at_seq_k (fun K8 hK8 => ?_)
        refine at_block ?_
        refine at_seq_k (fun K9 hK9 => ?_)
        refine at_region ?_
        refine at_v (ov_move rfl rfl) rfl rfl rfl ?_
        refine at_t (ot_call (ks := []) rfl rfl rfl Tryz.call48 rfl (r1 ) rfl) rfl rfl rfl ?_
        rintro v0 _ ⟨m0, hp0, rfl⟩
        obtain ⟨rfl, rfl⟩ := hp0
        simp only [List.cons_append, List.nil_append, splice, spliceL]
        refine at_v (ov_assign rfl rfl) rfl rfl rfl ?_
        refine at_nil ?_
        refine at_normal ?_
        refine hK9 _ _ _ ?_
        refine at_cond_false rfl ?_
        refine at_seq_k (fun K10 hK10 => ?_)
        refine at_region ?_
        refine at_v (ov_move rfl rfl) rfl rfl rfl ?_
        refine at_v (ov_strL rfl rfl rfl rfl) rfl rfl rfl ?_
        refine at_v (ov_assign rfl rfl) rfl rfl rfl ?_
        refine at_nil ?_
        refine at_normal ?_
        refine hK10 _ _ _ ?_
        refine at_cond_false (congrArg (fun b => some (Value.bool b)) (show _ = false from by first | assumption | (rw [Bool.not_eq_false']; exact decide_eq_true (by omega)))) ?_
        refine at_seq_k (fun K11 hK11 => ?_)
        refine at_region ?_
        refine at_v (ov_move rfl rfl) rfl rfl rfl ?_
        refine at_t (ot_call (ks := []) rfl rfl rfl Tryz.call48 rfl (r3 ) rfl) rfl rfl rfl ?_
        rintro v0 _ ⟨m0, hp0, rfl⟩
        obtain ⟨rfl, rfl⟩ := hp0
        simp only [List.cons_append, List.nil_append, splice, spliceL]
        refine at_v (ov_assign rfl rfl) rfl rfl rfl ?_
        refine at_nil ?_
        refine at_normal ?_
        refine hK11 _ _ _ ?_
        refine at_cond_false rfl ?_
        refine at_seq_k (fun K12 hK12 => ?_)
        refine at_region ?_
        refine at_v (ov_move rfl rfl) rfl rfl rfl ?_
        refine at_t (ot_call (ks := []) rfl rfl rfl Tryz.call48 rfl (r4 ) rfl) rfl rfl rfl ?_
        rintro v0 _ ⟨m0, hp0, rfl⟩
        obtain ⟨rfl, rfl⟩ := hp0
        simp only [List.cons_append, List.nil_append, splice, spliceL]
        refine at_v (ov_assign rfl rfl) rfl rfl rfl ?_
        refine at_nil ?_
        refine at_normal ?_
        refine hK12 _ _ _ ?_
        refine at_cond_false rfl ?_
        refine at_seq_k (fun K13 hK13 => ?_)
        refine at_region ?_
        refine at_v (ov_move rfl rfl) rfl rfl rfl ?_
        refine at_v (ov_strL rfl rfl rfl rfl) rfl rfl rfl ?_
        refine at_v (ov_move rfl rfl) rfl rfl rfl ?_
        refine at_reval 62 (.bool false) rfl (congrArg Value.bool (by first | assumption | (rw [Bool.not_eq_false']; exact decide_eq_true (by omega)))) ?_
        refine at_unwanted (j := 2) rfl rfl rfl rfl ?_
        refine at_unwanted (j := 2) rfl rfl rfl rfl ?_
        refine at_unwantedN (j := 4) rfl rfl rfl ?_
        refine at_unwantedN (j := 4) rfl rfl rfl ?_
        refine at_unwantedN (j := 4) rfl rfl rfl ?_
        refine at_unwantedN (j := 4) rfl rfl rfl ?_
        refine at_unwantedN (j := 8) rfl rfl rfl ?_
        refine at_unwantedN (j := 8) rfl rfl rfl ?_
        refine at_unwantedN (j := 4) rfl rfl rfl ?_
        refine at_unwanted (j := 2) rfl rfl rfl rfl ?_
        refine at_v (ov_pick_f rfl rfl rfl) rfl rfl rfl ?_
        refine at_v (ov_move rfl rfl) rfl rfl rfl ?_
        refine at_wanted (j := 14) rfl ?_
        refine at_v (ov_move rfl rfl) rfl rfl rfl ?_
        refine at_wanted (j := 14) rfl ?_
        refine at_v (ov_strL rfl rfl rfl rfl) rfl rfl rfl ?_
        refine at_wanted (j := 14) rfl ?_
        refine at_v (ov_move rfl rfl) rfl rfl rfl ?_
        refine at_reval 77 (.bool false) rfl (congrArg Value.bool (by first | assumption | (rw [Bool.not_eq_false']; exact decide_eq_true (by omega)))) ?_
        refine at_unwanted (j := 17) rfl rfl rfl rfl ?_
        refine at_unwanted (j := 17) rfl rfl rfl rfl ?_
        refine at_wanted (j := 14) rfl ?_
        refine at_v (ov_pick_f rfl rfl rfl) rfl rfl rfl ?_
        refine at_v (ov_pick_f rfl rfl rfl) rfl rfl rfl ?_
        refine at_v (ov_assign rfl rfl) rfl rfl rfl ?_
        refine at_nil ?_
        refine at_normal ?_
        refine hK13 _ _ _ ?_
        refine at_cond_false rfl ?_
        refine at_seq_k (fun K14 hK14 => ?_)
        refine at_region ?_
        refine at_v (ov_move rfl rfl) rfl rfl rfl ?_
        refine at_v (ov_strL rfl rfl rfl rfl) rfl rfl rfl ?_
        refine at_v (ov_move rfl rfl) rfl rfl rfl ?_
        refine at_reval 85 (.bool true) rfl (congrArg Value.bool (by first | assumption | (rw [Bool.not_eq_true']; exact decide_eq_false (by omega)))) ?_
        refine at_wanted (j := 2) rfl ?_
        refine at_v (ov_move rfl rfl) rfl rfl rfl ?_
        refine at_wanted (j := 2) rfl ?_
        refine at_v (ov_move rfl rfl) rfl rfl rfl ?_
        refine at_reval 87 (.bool false) rfl (congrArg Value.bool (decide_eq_false (by omega))) ?_
        refine at_wanted (j := 4) rfl ?_
        refine at_v (ov_move rfl rfl) rfl rfl rfl ?_
        refine at_wanted (j := 4) rfl ?_
        refine at_v (ov_len_slice rfl Tryz.underlying28 rfl) rfl rfl rfl ?_
        refine at_wanted (j := 4) rfl ?_
        refine at_v (ov_int rfl rfl rfl rfl) rfl rfl rfl ?_
        refine at_wanted (j := 4) rfl ?_
        refine at_v (ov_move rfl rfl) rfl rfl rfl ?_
        refine at_reval 91 (.bool true) rfl (congrArg Value.bool (decide_eq_true (by omega))) ?_
        refine at_wanted (j := 8) rfl ?_
        refine at_v (ov_move rfl rfl) rfl rfl rfl ?_
        refine at_wanted (j := 8) rfl ?_
        refine at_v (ov_strL rfl rfl rfl rfl) rfl rfl rfl ?_
        refine at_wanted (j := 4) rfl ?_
        refine at_v (ov_pick_t rfl rfl rfl) rfl rfl rfl ?_
        refine at_wanted (j := 2) rfl ?_
        refine at_v (ov_pick_f rfl rfl rfl) rfl rfl rfl ?_
        refine at_v (ov_pick_t rfl rfl rfl) rfl rfl rfl ?_
        refine at_v (ov_assign rfl rfl) rfl rfl rfl ?_
        refine at_nil ?_
        refine at_normal ?_
        refine hK14 _ _ _ ?_
        refine at_cond_true (congrArg (fun b => some (Value.bool b)) (show _ = true from by first | assumption | (rw [Bool.not_eq_true']; exact decide_eq_false (by omega)))) ?_
        refine at_seq_k (fun K15 hK15 => ?_)
        refine at_region ?_
        refine at_v (ov_assign rfl rfl) rfl rfl rfl ?_
        refine at_nil ?_
        refine at_normal ?_
        refine hK15 _ _ _ ?_
        refine at_ret ?_
        refine at_inb_ret ?_
        refine at_then_ret ?_
        refine at_end ?_
        refine at_fin (rsV rfl (res_tmp rfl)) ?_
        refine ⟨_, ⟨by rw [et, if_pos (.inr ⟨n2, q'⟩)], rfl⟩, ?_⟩
        exact fun _ s => s.finEq (ks := []) (js := []) rfl rfl rfl
      | false =>
        have q' := e1W.symm.trans q
        refine at_seq_k (fun K4 hK4 => ?_)
        refine at_seq_k (fun K5 hK5 => ?_)
        refine at_region ?_
        refine at_v (ov_move rfl rfl) rfl rfl rfl ?_
        refine at_v (ov_move rfl rfl) rfl rfl rfl ?_
        refine at_v (ov_len_slice rfl Tryz.underlying28 rfl) rfl rfl rfl ?_
        refine at_v (ov_int rfl rfl rfl rfl) rfl rfl rfl ?_
        refine at_nil ?_
        refine at_normal ?_
        refine hK5 _ _ _ ?_
        refine at_cond_false (congrArg (fun b => some (Value.bool b)) (show _ = false from decide_eq_false (by omega))) ?_
        refine at_exit ?_
        refine at_then_exit ?_
        refine at_then_exit ?_
        refine at_exit_eq ?_
        refine at_normal ?_
        refine hK2 _ _ _ ?_
        refine at_seq_k (fun K6 hK6 => ?_)
        refine at_region ?_
        refine at_v (ov_move rfl rfl) rfl rfl rfl ?_
        refine at_v (ov_len_slice rfl Tryz.underlying28 rfl) rfl rfl rfl ?_
        refine at_v (ov_int rfl rfl rfl rfl) rfl rfl rfl ?_
        refine at_v (ov_assign rfl rfl) rfl rfl rfl ?_
        refine at_nil ?_
        refine at_normal ?_
        refine hK6 _ _ _ ?_
        refine at_seq_k (fun K7 hK7 => ?_)
        refine at_region ?_
        refine at_v (ov_move rfl rfl) rfl rfl rfl ?_
        refine at_t (ot_call (ks := []) rfl rfl rfl Tryz.call47 rfl (hW1 ) rfl) rfl rfl rfl ?_
        rintro v0 _ ⟨m0, hp0, rfl⟩
        obtain ⟨rfl, rfl⟩ := hp0
        simp only [List.cons_append, List.nil_append, splice, spliceL]
        refine at_v (ov_assign rfl rfl) rfl rfl rfl ?_
        refine at_nil ?_
        refine at_normal ?_
        refine hK7 _ _ _ ?_
        refine at_seq_k (fun K8 hK8 => ?_)
        refine at_block ?_
        refine at_seq_k (fun K9 hK9 => ?_)
        refine at_region ?_
        refine at_v (ov_move rfl rfl) rfl rfl rfl ?_
        refine at_t (ot_call (ks := []) rfl rfl rfl Tryz.call48 rfl (r1 ) rfl) rfl rfl rfl ?_
        rintro v0 _ ⟨m0, hp0, rfl⟩
        obtain ⟨rfl, rfl⟩ := hp0
        simp only [List.cons_append, List.nil_append, splice, spliceL]
        refine at_v (ov_assign rfl rfl) rfl rfl rfl ?_
        refine at_nil ?_
        refine at_normal ?_
        refine hK9 _ _ _ ?_
        refine at_cond_false rfl ?_
        refine at_seq_k (fun K10 hK10 => ?_)
        refine at_region ?_
        refine at_v (ov_move rfl rfl) rfl rfl rfl ?_
        refine at_v (ov_strL rfl rfl rfl rfl) rfl rfl rfl ?_
        refine at_v (ov_assign rfl rfl) rfl rfl rfl ?_
        refine at_nil ?_
        refine at_normal ?_
        refine hK10 _ _ _ ?_
        refine at_cond_false (congrArg (fun b => some (Value.bool b)) (show _ = false from by first | assumption | (rw [Bool.not_eq_false']; exact decide_eq_true (by omega)))) ?_
        refine at_seq_k (fun K11 hK11 => ?_)
        refine at_region ?_
        refine at_v (ov_move rfl rfl) rfl rfl rfl ?_
        refine at_t (ot_call (ks := []) rfl rfl rfl Tryz.call48 rfl (r3 ) rfl) rfl rfl rfl ?_
        rintro v0 _ ⟨m0, hp0, rfl⟩
        obtain ⟨rfl, rfl⟩ := hp0
        simp only [List.cons_append, List.nil_append, splice, spliceL]
        refine at_v (ov_assign rfl rfl) rfl rfl rfl ?_
        refine at_nil ?_
        refine at_normal ?_
        refine hK11 _ _ _ ?_
        refine at_cond_false rfl ?_
        refine at_seq_k (fun K12 hK12 => ?_)
        refine at_region ?_
        refine at_v (ov_move rfl rfl) rfl rfl rfl ?_
        refine at_t (ot_call (ks := []) rfl rfl rfl Tryz.call48 rfl (r4 ) rfl) rfl rfl rfl ?_
        rintro v0 _ ⟨m0, hp0, rfl⟩
        obtain ⟨rfl, rfl⟩ := hp0
        simp only [List.cons_append, List.nil_append, splice, spliceL]
        refine at_v (ov_assign rfl rfl) rfl rfl rfl ?_
        refine at_nil ?_
        refine at_normal ?_
        refine hK12 _ _ _ ?_
        refine at_cond_false rfl ?_
        refine at_seq_k (fun K13 hK13 => ?_)
        refine at_region ?_
        refine at_v (ov_move rfl rfl) rfl rfl rfl ?_
        refine at_v (ov_strL rfl rfl rfl rfl) rfl rfl rfl ?_
        refine at_v (ov_move rfl rfl) rfl rfl rfl ?_
        refine at_reval 62 (.bool false) rfl (congrArg Value.bool (by first | assumption | (rw [Bool.not_eq_false']; exact decide_eq_true (by omega)))) ?_
        refine at_unwanted (j := 2) rfl rfl rfl rfl ?_
        refine at_unwanted (j := 2) rfl rfl rfl rfl ?_
        refine at_unwantedN (j := 4) rfl rfl rfl ?_
        refine at_unwantedN (j := 4) rfl rfl rfl ?_
        refine at_unwantedN (j := 4) rfl rfl rfl ?_
        refine at_unwantedN (j := 4) rfl rfl rfl ?_
        refine at_unwantedN (j := 8) rfl rfl rfl ?_
        refine at_unwantedN (j := 8) rfl rfl rfl ?_
        refine at_unwantedN (j := 4) rfl rfl rfl ?_
        refine at_unwanted (j := 2) rfl rfl rfl rfl ?_
        refine at_v (ov_pick_f rfl rfl rfl) rfl rfl rfl ?_
        refine at_v (ov_move rfl rfl) rfl rfl rfl ?_
        refine at_wanted (j := 14) rfl ?_
        refine at_v (ov_move rfl rfl) rfl rfl rfl ?_
        refine at_wanted (j := 14) rfl ?_
        refine at_v (ov_strL rfl rfl rfl rfl) rfl rfl rfl ?_
        refine at_wanted (j := 14) rfl ?_
        refine at_v (ov_move rfl rfl) rfl rfl rfl ?_
        refine at_reval 77 (.bool false) rfl (congrArg Value.bool (by first | assumption | (rw [Bool.not_eq_false']; exact decide_eq_true (by omega)))) ?_
        refine at_unwanted (j := 17) rfl rfl rfl rfl ?_
        refine at_unwanted (j := 17) rfl rfl rfl rfl ?_
        refine at_wanted (j := 14) rfl ?_
        refine at_v (ov_pick_f rfl rfl rfl) rfl rfl rfl ?_
        refine at_v (ov_pick_f rfl rfl rfl) rfl rfl rfl ?_
        refine at_v (ov_assign rfl rfl) rfl rfl rfl ?_
        refine at_nil ?_
        refine at_normal ?_
        refine hK13 _ _ _ ?_
        refine at_cond_false rfl ?_
        refine at_seq_k (fun K14 hK14 => ?_)
        refine at_region ?_
        refine at_v (ov_move rfl rfl) rfl rfl rfl ?_
        refine at_v (ov_strL rfl rfl rfl rfl) rfl rfl rfl ?_
        refine at_v (ov_move rfl rfl) rfl rfl rfl ?_
        refine at_reval 85 (.bool true) rfl (congrArg Value.bool (by first | assumption | (rw [Bool.not_eq_true']; exact decide_eq_false (by omega)))) ?_
        refine at_wanted (j := 2) rfl ?_
        refine at_v (ov_move rfl rfl) rfl rfl rfl ?_
        refine at_wanted (j := 2) rfl ?_
        refine at_v (ov_move rfl rfl) rfl rfl rfl ?_
        refine at_reval 87 (.bool false) rfl (congrArg Value.bool (decide_eq_false (by omega))) ?_
        refine at_wanted (j := 4) rfl ?_
        refine at_v (ov_move rfl rfl) rfl rfl rfl ?_
        refine at_wanted (j := 4) rfl ?_
        refine at_v (ov_len_slice rfl Tryz.underlying28 rfl) rfl rfl rfl ?_
        refine at_wanted (j := 4) rfl ?_
        refine at_v (ov_int rfl rfl rfl rfl) rfl rfl rfl ?_
        refine at_wanted (j := 4) rfl ?_
        refine at_v (ov_move rfl rfl) rfl rfl rfl ?_
        refine at_reval 91 (.bool true) rfl (congrArg Value.bool (decide_eq_true (by omega))) ?_
        refine at_wanted (j := 8) rfl ?_
        refine at_v (ov_move rfl rfl) rfl rfl rfl ?_
        refine at_wanted (j := 8) rfl ?_
        refine at_v (ov_strL rfl rfl rfl rfl) rfl rfl rfl ?_
        refine at_wanted (j := 4) rfl ?_
        refine at_v (ov_pick_t rfl rfl rfl) rfl rfl rfl ?_
        refine at_wanted (j := 2) rfl ?_
        refine at_v (ov_pick_f rfl rfl rfl) rfl rfl rfl ?_
        refine at_v (ov_pick_t rfl rfl rfl) rfl rfl rfl ?_
        refine at_v (ov_assign rfl rfl) rfl rfl rfl ?_
        refine at_nil ?_
        refine at_normal ?_
        refine hK14 _ _ _ ?_
        refine at_cond_false (congrArg (fun b => some (Value.bool b)) (show _ = false from by first | assumption | (rw [Bool.not_eq_false']; exact decide_eq_true (by omega)))) ?_
        refine at_seq_k (fun K15 hK15 => ?_)
        refine at_region ?_
        refine at_v (ov_move rfl rfl) rfl rfl rfl ?_
        refine at_v (ov_strL rfl rfl rfl rfl) rfl rfl rfl ?_
        refine at_v (ov_move rfl rfl) rfl rfl rfl ?_
        refine at_reval 100 (.bool false) rfl (congrArg Value.bool (by first | assumption | (rw [Bool.not_eq_false']; exact decide_eq_true (by omega)))) ?_
        refine at_unwanted (j := 2) rfl rfl rfl rfl ?_
        refine at_unwanted (j := 2) rfl rfl rfl rfl ?_
        refine at_unwantedN (j := 4) rfl rfl rfl ?_
        refine at_unwantedN (j := 4) rfl rfl rfl ?_
        refine at_unwantedN (j := 4) rfl rfl rfl ?_
        refine at_unwantedN (j := 4) rfl rfl rfl ?_
        refine at_unwantedN (j := 8) rfl rfl rfl ?_
        refine at_unwantedN (j := 8) rfl rfl rfl ?_
        refine at_unwantedN (j := 4) rfl rfl rfl ?_
        refine at_unwanted (j := 2) rfl rfl rfl rfl ?_
        refine at_v (ov_pick_f rfl rfl rfl) rfl rfl rfl ?_
        refine at_v (ov_assign rfl rfl) rfl rfl rfl ?_
        refine at_nil ?_
        refine at_normal ?_
        refine hK15 _ _ _ ?_
        refine at_cond_false rfl ?_
        refine at_seq_k (fun K16 hK16 => ?_)
        refine at_region ?_
        refine at_v (ov_move rfl rfl) rfl rfl rfl ?_
        refine at_v (ov_strL rfl rfl rfl rfl) rfl rfl rfl ?_
        refine at_v (ov_move rfl rfl) rfl rfl rfl ?_
        refine at_reval 115 (.bool false) rfl (congrArg Value.bool (by first | assumption | (rw [Bool.not_eq_false']; exact decide_eq_true (by omega)))) ?_
        refine at_unwanted (j := 2) rfl rfl rfl rfl ?_
        refine at_unwanted (j := 2) rfl rfl rfl rfl ?_
        refine at_unwanted (j := 2) rfl rfl rfl rfl ?_
        refine at_v (ov_pick_f rfl rfl rfl) rfl rfl rfl ?_
        refine at_v (ov_assign rfl rfl) rfl rfl rfl ?_
        refine at_nil ?_
        refine at_normal ?_
        refine hK16 _ _ _ ?_
        refine at_cond_false rfl ?_
        refine at_skip ?_
        refine at_inb_normal ?_
        refine at_normal ?_
        refine hK8 _ _ _ ?_
        refine at_seq_k (fun K17 hK17 => ?_)
        refine at_region ?_
        refine at_v (ov_assign rfl rfl) rfl rfl rfl ?_
        refine at_nil ?_
        refine at_normal ?_
        refine hK17 _ _ _ ?_
        refine at_ret ?_
        refine at_end ?_
        refine at_fin (rsV rfl (res_tmp rfl)) ?_
        refine ⟨_, ⟨by rw [et, if_neg (by rw [q']; simp [n1])], rfl⟩, ?_⟩
        exact fun _ s => s.finEq (ks := []) (js := []) rfl rfl rfl
    have g2 := l2 (decide_eq_false n2).symm
    refine at_seq_k (fun K4 hK4 => ?_)
    refine at_seq_k (fun K5 hK5 => ?_)
    refine at_region ?_
    refine at_v (ov_move rfl rfl) rfl rfl rfl ?_
    refine at_v (ov_move rfl rfl) rfl rfl rfl ?_
    refine at_v (ov_len_slice rfl Tryz.underlying28 rfl) rfl rfl rfl ?_
    refine at_v (ov_int rfl rfl rfl rfl) rfl rfl rfl ?_
    refine at_nil ?_
    refine at_normal ?_
    refine hK5 _ _ _ ?_
    refine at_cond_false (congrArg (fun b => some (Value.bool b)) (show _ = false from decide_eq_false (by omega))) ?_
    refine at_exit ?_
    refine at_then_exit ?_
    refine at_then_exit ?_
    refine at_exit_eq ?_
    refine at_normal ?_
    refine hK2 _ _ _ ?_
    refine at_seq_k (fun K6 hK6 => ?_)
    refine at_region ?_
    refine at_v (ov_move rfl rfl) rfl rfl rfl ?_
    refine at_v (ov_len_slice rfl Tryz.underlying28 rfl) rfl rfl rfl ?_
    refine at_v (ov_int rfl rfl rfl rfl) rfl rfl rfl ?_
    refine at_v (ov_assign rfl rfl) rfl rfl rfl ?_
    refine at_nil ?_
    refine at_normal ?_
    refine hK6 _ _ _ ?_
    refine at_seq_k (fun K7 hK7 => ?_)
    refine at_region ?_
    refine at_v (ov_move rfl rfl) rfl rfl rfl ?_
    refine at_t (ot_call (ks := []) rfl rfl rfl Tryz.call47 rfl (hW1 ) rfl) rfl rfl rfl ?_
    rintro v0 _ ⟨m0, hp0, rfl⟩
    obtain ⟨rfl, rfl⟩ := hp0
    simp only [List.cons_append, List.nil_append, splice, spliceL]
    refine at_v (ov_assign rfl rfl) rfl rfl rfl ?_
    refine at_nil ?_
    refine at_normal ?_
    refine hK7 _ _ _ ?_
    refine at_seq_k (fun K8 hK8 => ?_)
    refine at_block ?_
    refine at_seq_k (fun K9 hK9 => ?_)
    refine at_region ?_
    refine at_v (ov_move rfl rfl) rfl rfl rfl ?_
    refine at_t (ot_call (ks := []) rfl rfl rfl Tryz.call48 rfl (r1 ) rfl) rfl rfl rfl ?_
    rintro v0 _ ⟨m0, hp0, rfl⟩
    obtain ⟨rfl, rfl⟩ := hp0
    simp only [List.cons_append, List.nil_append, splice, spliceL]
    refine at_v (ov_assign rfl rfl) rfl rfl rfl ?_
    refine at_nil ?_
    refine at_normal ?_
    refine hK9 _ _ _ ?_
    refine at_cond_false rfl ?_
    refine at_seq_k (fun K10 hK10 => ?_)
    refine at_region ?_
    refine at_v (ov_move rfl rfl) rfl rfl rfl ?_
    refine at_v (ov_strL rfl rfl rfl rfl) rfl rfl rfl ?_
    refine at_v (ov_assign rfl rfl) rfl rfl rfl ?_
    refine at_nil ?_
    refine at_normal ?_
    refine hK10 _ _ _ ?_
    refine at_cond_false (congrArg (fun b => some (Value.bool b)) (show _ = false from by first | assumption | (rw [Bool.not_eq_false']; exact decide_eq_true (by omega)))) ?_
    refine at_seq_k (fun K11 hK11 => ?_)
    refine at_region ?_
    refine at_v (ov_move rfl rfl) rfl rfl rfl ?_
    refine at_t (ot_call (ks := []) rfl rfl rfl Tryz.call48 rfl (r3 ) rfl) rfl rfl rfl ?_
    rintro v0 _ ⟨m0, hp0, rfl⟩
    obtain ⟨rfl, rfl⟩ := hp0
    simp only [List.cons_append, List.nil_append, splice, spliceL]
    refine at_v (ov_assign rfl rfl) rfl rfl rfl ?_
    refine at_nil ?_
    refine at_normal ?_
    refine hK11 _ _ _ ?_
    refine at_cond_false rfl ?_
    refine at_seq_k (fun K12 hK12 => ?_)
    refine at_region ?_
    refine at_v (ov_move rfl rfl) rfl rfl rfl ?_
    refine at_t (ot_call (ks := []) rfl rfl rfl Tryz.call48 rfl (r4 ) rfl) rfl rfl rfl ?_
    rintro v0 _ ⟨m0, hp0, rfl⟩
    obtain ⟨rfl, rfl⟩ := hp0
    simp only [List.cons_append, List.nil_append, splice, spliceL]
    refine at_v (ov_assign rfl rfl) rfl rfl rfl ?_
    refine at_nil ?_
    refine at_normal ?_
    refine hK12 _ _ _ ?_
    refine at_cond_false rfl ?_
    refine at_seq_k (fun K13 hK13 => ?_)
    refine at_region ?_
    refine at_v (ov_move rfl rfl) rfl rfl rfl ?_
    refine at_v (ov_strL rfl rfl rfl rfl) rfl rfl rfl ?_
    refine at_v (ov_move rfl rfl) rfl rfl rfl ?_
    refine at_reval 62 (.bool false) rfl (congrArg Value.bool (by first | assumption | (rw [Bool.not_eq_false']; exact decide_eq_true (by omega)))) ?_
    refine at_unwanted (j := 2) rfl rfl rfl rfl ?_
    refine at_unwanted (j := 2) rfl rfl rfl rfl ?_
    refine at_unwantedN (j := 4) rfl rfl rfl ?_
    refine at_unwantedN (j := 4) rfl rfl rfl ?_
    refine at_unwantedN (j := 4) rfl rfl rfl ?_
    refine at_unwantedN (j := 4) rfl rfl rfl ?_
    refine at_unwantedN (j := 8) rfl rfl rfl ?_
    refine at_unwantedN (j := 8) rfl rfl rfl ?_
    refine at_unwantedN (j := 4) rfl rfl rfl ?_
    refine at_unwanted (j := 2) rfl rfl rfl rfl ?_
    refine at_v (ov_pick_f rfl rfl rfl) rfl rfl rfl ?_
    refine at_v (ov_move rfl rfl) rfl rfl rfl ?_
    refine at_wanted (j := 14) rfl ?_
    refine at_v (ov_move rfl rfl) rfl rfl rfl ?_
    refine at_wanted (j := 14) rfl ?_
    refine at_v (ov_strL rfl rfl rfl rfl) rfl rfl rfl ?_
    refine at_wanted (j := 14) rfl ?_
    refine at_v (ov_move rfl rfl) rfl rfl rfl ?_
    refine at_reval 77 (.bool false) rfl (congrArg Value.bool (by first | assumption | (rw [Bool.not_eq_false']; exact decide_eq_true (by omega)))) ?_
    refine at_unwanted (j := 17) rfl rfl rfl rfl ?_
    refine at_unwanted (j := 17) rfl rfl rfl rfl ?_
    refine at_wanted (j := 14) rfl ?_
    refine at_v (ov_pick_f rfl rfl rfl) rfl rfl rfl ?_
    refine at_v (ov_pick_f rfl rfl rfl) rfl rfl rfl ?_
    refine at_v (ov_assign rfl rfl) rfl rfl rfl ?_
    refine at_nil ?_
    refine at_normal ?_
    refine hK13 _ _ _ ?_
    refine at_cond_false rfl ?_
    refine at_seq_k (fun K14 hK14 => ?_)
    refine at_region ?_
    refine at_v (ov_move rfl rfl) rfl rfl rfl ?_
    refine at_v (ov_strL rfl rfl rfl rfl) rfl rfl rfl ?_
    refine at_v (ov_move rfl rfl) rfl rfl rfl ?_
    refine at_reval 85 (.bool true) rfl (congrArg Value.bool (by first | assumption | (rw [Bool.not_eq_true']; exact decide_eq_false (by omega)))) ?_
    refine at_wanted (j := 2) rfl ?_
    refine at_v (ov_move rfl rfl) rfl rfl rfl ?_
    refine at_wanted (j := 2) rfl ?_
    refine at_v (ov_move rfl rfl) rfl rfl rfl ?_
    refine at_reval 87 (.bool false) rfl (congrArg Value.bool (decide_eq_false (by omega))) ?_
    refine at_wanted (j := 4) rfl ?_
    refine at_v (ov_move rfl rfl) rfl rfl rfl ?_
    refine at_wanted (j := 4) rfl ?_
    refine at_v (ov_len_slice rfl Tryz.underlying28 rfl) rfl rfl rfl ?_
    refine at_wanted (j := 4) rfl ?_
    refine at_v (ov_int rfl rfl rfl rfl) rfl rfl rfl ?_
    refine at_wanted (j := 4) rfl ?_
    refine at_v (ov_move rfl rfl) rfl rfl rfl ?_
    refine at_reval 91 (.bool false) rfl (congrArg Value.bool (decide_eq_false (by omega))) ?_
    refine at_unwanted (j := 8) rfl rfl rfl rfl ?_
    refine at_unwanted (j := 8) rfl rfl rfl rfl ?_
    refine at_wanted (j := 4) rfl ?_
    refine at_v (ov_pick_f rfl rfl rfl) rfl rfl rfl ?_
    refine at_wanted (j := 2) rfl ?_
    refine at_v (ov_pick_f rfl rfl rfl) rfl rfl rfl ?_
    refine at_v (ov_pick_t rfl rfl rfl) rfl rfl rfl ?_
    refine at_v (ov_assign rfl rfl) rfl rfl rfl ?_
    refine at_nil ?_
    refine at_normal ?_
    refine hK14 _ _ _ ?_
    refine at_cond_false rfl ?_
    refine at_seq_k (fun K15 hK15 => ?_)
    refine at_region ?_
    refine at_v (ov_move rfl rfl) rfl rfl rfl ?_
    refine at_v (ov_strL rfl rfl rfl rfl) rfl rfl rfl ?_
    refine at_v (ov_move rfl rfl) rfl rfl rfl ?_
    refine at_reval 100 (.bool false) rfl (congrArg Value.bool (by first | assumption | (rw [Bool.not_eq_false']; exact decide_eq_true (by omega)))) ?_
    refine at_unwanted (j := 2) rfl rfl rfl rfl ?_
    refine at_unwanted (j := 2) rfl rfl rfl rfl ?_
    refine at_unwantedN (j := 4) rfl rfl rfl ?_
    refine at_unwantedN (j := 4) rfl rfl rfl ?_
    refine at_unwantedN (j := 4) rfl rfl rfl ?_
    refine at_unwantedN (j := 4) rfl rfl rfl ?_
    refine at_unwantedN (j := 8) rfl rfl rfl ?_
    refine at_unwantedN (j := 8) rfl rfl rfl ?_
    refine at_unwantedN (j := 4) rfl rfl rfl ?_
    refine at_unwanted (j := 2) rfl rfl rfl rfl ?_
    refine at_v (ov_pick_f rfl rfl rfl) rfl rfl rfl ?_
    refine at_v (ov_assign rfl rfl) rfl rfl rfl ?_
    refine at_nil ?_
    refine at_normal ?_
    refine hK15 _ _ _ ?_
    refine at_cond_false rfl ?_
    refine at_seq_k (fun K16 hK16 => ?_)
    refine at_region ?_
    refine at_v (ov_move rfl rfl) rfl rfl rfl ?_
    refine at_v (ov_strL rfl rfl rfl rfl) rfl rfl rfl ?_
    refine at_v (ov_move rfl rfl) rfl rfl rfl ?_
    refine at_reval 115 (.bool false) rfl (congrArg Value.bool (by first | assumption | (rw [Bool.not_eq_false']; exact decide_eq_true (by omega)))) ?_
    refine at_unwanted (j := 2) rfl rfl rfl rfl ?_
    refine at_unwanted (j := 2) rfl rfl rfl rfl ?_
    refine at_unwanted (j := 2) rfl rfl rfl rfl ?_
    refine at_v (ov_pick_f rfl rfl rfl) rfl rfl rfl ?_
    refine at_v (ov_assign rfl rfl) rfl rfl rfl ?_
    refine at_nil ?_
    refine at_normal ?_
    refine hK16 _ _ _ ?_
    refine at_cond_false rfl ?_
    refine at_skip ?_
    refine at_inb_normal ?_
    refine at_normal ?_
    refine hK8 _ _ _ ?_
    refine at_seq_k (fun K17 hK17 => ?_)
    refine at_region ?_
    refine at_v (ov_assign rfl rfl) rfl rfl rfl ?_
    refine at_nil ?_
    refine at_normal ?_
    refine hK17 _ _ _ ?_
    refine at_ret ?_
    refine at_end ?_
    refine at_fin (rsV rfl (res_tmp rfl)) ?_
    refine ⟨_, ⟨by rw [et, if_neg (by omega)], rfl⟩, ?_⟩
    exact fun _ s => s.finEq (ks := []) (js := []) rfl rfl rfl
  rw [if_neg cCOMMIT] at et
  have fCOMMIT : decide (wordAt l 0 = wCOMMIT) = false := decide_eq_false cCOMMIT
  by_cases cROLLBACK : wordAt l 0 = wROLLBACK
  · rw [if_pos cROLLBACK] at et
    have fEXPLAIN : decide (wordAt l 0 = wEXPLAIN) = false := by rw [cROLLBACK]; decide
    have fBEGIN : decide (wordAt l 0 = wBEGIN) = false := by rw [cROLLBACK]; decide
    have fSTART : decide (wordAt l 0 = wSTART) = false := by rw [cROLLBACK]; decide
    have fCOMMIT : decide (wordAt l 0 = wCOMMIT) = false := by rw [cROLLBACK]; decide
    have fROLLBACK : decide (wordAt l 0 = wROLLBACK) = true := by rw [cROLLBACK]; decide
    have fSET : decide (wordAt l 0 = wSET) = false := by rw [cROLLBACK]; decide
    unfold endsL at et
    by_cases n1 : l.length = 1
    · have g1 := l1 (decide_eq_true n1).symm
      refine at_seq_k (fun K4 hK4 => ?_)
      refine at_seq_k (fun K5 hK5 => ?_)
      refine at_region ?_
      refine at_v (ov_move rfl rfl) rfl rfl rfl ?_
      refine at_v (ov_move rfl rfl) rfl rfl rfl ?_
      refine at_v (ov_len_slice rfl Tryz.underlying28 rfl) rfl rfl rfl ?_
      refine at_v (ov_int rfl rfl rfl rfl) rfl rfl rfl ?_
      refine at_nil ?_
      refine at_normal ?_
      refine hK5 _ _ _ ?_
      refine at_cond_false (congrArg (fun b => some (Value.bool b)) (show _ = false from decide_eq_false (by omega))) ?_
      refine at_exit ?_
      refine at_then_exit ?_
      refine at_then_exit ?_
      refine at_exit_eq ?_
      refine at_normal ?_
      refine hK2 _ _ _ ?_
      refine at_seq_k (fun K6 hK6 => ?_)
      refine at_region ?_
      refine at_v (ov_move rfl rfl) rfl rfl rfl ?_
      refine at_v (ov_len_slice rfl Tryz.underlying28 rfl) rfl rfl rfl ?_
      refine at_v (ov_int rfl rfl rfl rfl) rfl rfl rfl ?_
      refine at_v (ov_assign rfl rfl) rfl rfl rfl ?_
      refine at_nil ?_
      refine at_normal ?_
      refine hK6 _ _ _ ?_
      refine at_seq_k (fun K7 hK7 => ?_)
      refine at_region ?_
      refine at_v (ov_move rfl rfl) rfl rfl rfl ?_
      refine at_t (ot_call (ks := []) rfl rfl rfl Tryz.call47 rfl (hW1 ) rfl) rfl rfl rfl ?_
      rintro v0 _ ⟨m0, hp0, rfl⟩
      obtain ⟨rfl, rfl⟩ := hp0
      simp only [List.cons_append, List.nil_append, splice, spliceL]
      refine at_v (ov_assign rfl rfl) rfl rfl rfl ?_
      refine at_nil ?_
      refine at_normal ?_
      refine hK7 _ _ _ ?_
      refine at_seq_k (fun K8 hK8 => ?_)
      refine at_block ?_
      refine at_seq_k (fun K9 hK9 => ?_)
      refine at_region ?_
      refine at_v (ov_move rfl rfl) rfl rfl rfl ?_
      refine at_t (ot_call (ks := []) rfl rfl rfl Tryz.call48 rfl (r1 ) rfl) rfl rfl rfl ?_
      rintro v0 _ ⟨m0, hp0, rfl⟩
      obtain ⟨rfl, rfl⟩ := hp0
      simp only [List.cons_append, List.nil_append, splice, spliceL]
      refine at_v (ov_assign rfl rfl) rfl rfl rfl ?_
      refine at_nil ?_
      refine at_normal ?_
      refine hK9 _ _ _ ?_
      refine at_cond_false rfl ?_
      refine at_seq_k (fun K10 hK10 => ?_)
      refine at_region ?_
      refine at_v (ov_move rfl rfl) rfl rfl rfl ?_
      refine at_v (ov_strL rfl rfl rfl rfl) rfl rfl rfl ?_
      refine at_v (ov_assign rfl rfl) rfl rfl rfl ?_
      refine at_nil ?_
      refine at_normal ?_
      refine hK10 _ _ _ ?_
      refine at_cond_false (congrArg (fun b => some (Value.bool b)) (show _ = false from by first | assumption | (rw [Bool.not_eq_false']; exact decide_eq_true (by omega)))) ?_
      refine at_seq_k (fun K11 hK11 => ?_)
      refine at_region ?_
      refine at_v (ov_move rfl rfl) rfl rfl rfl ?_
      refine at_t (ot_call (ks := []) rfl rfl rfl Tryz.call48 rfl (r3 ) rfl) rfl rfl rfl ?_
      rintro v0 _ ⟨m0, hp0, rfl⟩
      obtain ⟨rfl, rfl⟩ := hp0
      simp only [List.cons_append, List.nil_append, splice, spliceL]
      refine at_v (ov_assign rfl rfl) rfl rfl rfl ?_
      refine at_nil ?_
      refine at_normal ?_
      refine hK11 _ _ _ ?_
      refine at_cond_false rfl ?_
      refine at_seq_k (fun K12 hK12 => ?_)
      refine at_region ?_
      refine at_v (ov_move rfl rfl) rfl rfl rfl ?_
      refine at_t (ot_call (ks := []) rfl rfl rfl Tryz.call48 rfl (r4 ) rfl) rfl rfl rfl ?_
      rintro v0 _ ⟨m0, hp0, rfl⟩
      obtain ⟨rfl, rfl⟩ := hp0
      simp only [List.cons_append, List.nil_append, splice, spliceL]
      refine at_v (ov_assign rfl rfl) rfl rfl rfl ?_
      refine at_nil ?_
      refine at_normal ?_
      refine hK12 _ _ _ ?_
      refine at_cond_false rfl ?_
      refine at_seq_k (fun K13 hK13 => ?_)
      refine at_region ?_
      refine at_v (ov_move rfl rfl) rfl rfl rfl ?_
      refine at_v (ov_strL rfl rfl rfl rfl) rfl rfl rfl ?_
      refine at_v (ov_move rfl rfl) rfl rfl rfl ?_
      refine at_reval 62 (.bool false) rfl (congrArg Value.bool (by first | assumption | (rw [Bool.not_eq_false']; exact decide_eq_true (by omega)))) ?_
      refine at_unwanted (j := 2) rfl rfl rfl rfl ?_
      refine at_unwanted (j := 2) rfl rfl rfl rfl ?_
      refine at_unwantedN (j := 4) rfl rfl rfl ?_
      refine at_unwantedN (j := 4) rfl rfl rfl ?_
      refine at_unwantedN (j := 4) rfl rfl rfl ?_
      refine at_unwantedN (j := 4) rfl rfl rfl ?_
      refine at_unwantedN (j := 8) rfl rfl rfl ?_
      refine at_unwantedN (j := 8) rfl rfl rfl ?_
      refine at_unwantedN (j := 4) rfl rfl rfl ?_
      refine at_unwanted (j := 2) rfl rfl rfl rfl ?_
      refine at_v (ov_pick_f rfl rfl rfl) rfl rfl rfl ?_
      refine at_v (ov_move rfl rfl) rfl rfl rfl ?_
      refine at_wanted (j := 14) rfl ?_
      refine at_v (ov_move rfl rfl) rfl rfl rfl ?_
      refine at_wanted (j := 14) rfl ?_
      refine at_v (ov_strL rfl rfl rfl rfl) rfl rfl rfl ?_
      refine at_wanted (j := 14) rfl ?_
      refine at_v (ov_move rfl rfl) rfl rfl rfl ?_
      refine at_reval 77 (.bool false) rfl (congrArg Value.bool (by first | assumption | (rw [Bool.not_eq_false']; exact decide_eq_true (by omega)))) ?_
      refine at_unwanted (j := 17) rfl rfl rfl rfl ?_
      refine at_unwanted (j := 17) rfl rfl rfl rfl ?_
      refine at_wanted (j := 14) rfl ?_
      refine at_v (ov_pick_f rfl rfl rfl) rfl rfl rfl ?_
      refine at_v (ov_pick_f rfl rfl rfl) rfl rfl rfl ?_
      refine at_v (ov_assign rfl rfl) rfl rfl rfl ?_
      refine at_nil ?_
      refine at_normal ?_
      refine hK13 _ _ _ ?_
      refine at_cond_false rfl ?_
      refine at_seq_k (fun K14 hK14 => ?_)
      refine at_region ?_
      refine at_v (ov_move rfl rfl) rfl rfl rfl ?_
      refine at_v (ov_strL rfl rfl rfl rfl) rfl rfl rfl ?_
      refine at_v (ov_move rfl rfl) rfl rfl rfl ?_
      refine at_reval 85 (.bool false) rfl (congrArg Value.bool (by first | assumption | (rw [Bool.not_eq_false']; exact decide_eq_true (by omega)))) ?_
      refine at_unwanted (j := 2) rfl rfl rfl rfl ?_
      refine at_unwanted (j := 2) rfl rfl rfl rfl ?_
      refine at_unwantedN (j := 4) rfl rfl rfl ?_
      refine at_unwantedN (j := 4) rfl rfl rfl ?_
      refine at_unwantedN (j := 4) rfl rfl rfl ?_
      refine at_unwantedN (j := 4) rfl rfl rfl ?_
      refine at_unwantedN (j := 8) rfl rfl rfl ?_
      refine at_unwantedN (j := 8) rfl rfl rfl ?_
      refine at_unwantedN (j := 4) rfl rfl rfl ?_
      refine at_unwanted (j := 2) rfl rfl rfl rfl ?_
      refine at_v (ov_pick_f rfl rfl rfl) rfl rfl rfl ?_
      refine at_v (ov_assign rfl rfl) rfl rfl rfl ?_
      refine at_nil ?_
      refine at_normal ?_
      refine hK14 _ _ _ ?_
      refine at_cond_false rfl ?_
      refine at_seq_k (fun K15 hK15 => ?_)
      refine at_region ?_
      refine at_v (ov_move rfl rfl) rfl rfl rfl ?_
      refine at_v (ov_strL rfl rfl rfl rfl) rfl rfl rfl ?_
      refine at_v (ov_move rfl rfl) rfl rfl rfl ?_
      refine at_reval 100 (.bool true) rfl (congrArg Value.bool (by first | assumption | (rw [Bool.not_eq_true']; exact decide_eq_false (by omega)))) ?_
      refine at_wanted (j := 2) rfl ?_
      refine at_v (ov_move rfl rfl) rfl rfl rfl ?_
      refine at_wanted (j := 2) rfl ?_
      refine at_v (ov_move rfl rfl) rfl rfl rfl ?_
      refine at_reval 102 (.bool true) rfl (congrArg Value.bool (decide_eq_true (by omega))) ?_
      refine at_unwanted (j := 4) rfl rfl rfl rfl ?_
      refine at_unwanted (j := 4) rfl rfl rfl rfl ?_
      refine at_unwanted (j := 4) rfl rfl rfl rfl ?_
      refine at_unwanted (j := 4) rfl rfl rfl rfl ?_
      refine at_unwantedN (j := 8) rfl rfl rfl ?_
      refine at_unwantedN (j := 8) rfl rfl rfl ?_
      refine at_unwanted (j := 4) rfl rfl rfl rfl ?_
      refine at_wanted (j := 2) rfl ?_
      refine at_v (ov_pick_t rfl rfl rfl) rfl rfl rfl ?_
      refine at_v (ov_pick_t rfl rfl rfl) rfl rfl rfl ?_
      refine at_v (ov_assign rfl rfl) rfl rfl rfl ?_
      refine at_nil ?_
      refine at_normal ?_
      refine hK15 _ _ _ ?_
      refine at_cond_true rfl ?_
      refine at_seq_k (fun K16 hK16 => ?_)
      refine at_region ?_
      refine at_v (ov_assign rfl rfl) rfl rfl rfl ?_
      refine at_nil ?_
      refine at_normal ?_
      refine hK16 _ _ _ ?_
      refine at_ret ?_
      refine at_inb_ret ?_
      refine at_then_ret ?_
      refine at_end ?_
      refine at_fin (rsV rfl (res_tmp rfl)) ?_
      refine ⟨_, ⟨by rw [et, if_pos (.inl n1)], rfl⟩, ?_⟩
      exact fun _ s => s.finEq (ks := []) (js := []) rfl rfl rfl
    have g1 := l1 (decide_eq_false n1).symm
    by_cases n2 : l.length = 2
    · have g2 := l2 (decide_eq_true n2).symm
      cases q : decide (wordAt l 1 = wWORK) with
      | true =>
        have q' := e1W.symm.trans q
        refine at_seq_k (fun K4 hK4 => ?_)
        refine at_seq_k (fun K5 hK5 => ?_)
        refine at_region ?_
        refine at_v (ov_move rfl rfl) rfl rfl rfl ?_
        refine at_v (ov_move rfl rfl) rfl rfl rfl ?_
        refine at_v (ov_len_slice rfl Tryz.underlying28 rfl) rfl rfl rfl ?_
        refine at_v (ov_int rfl rfl rfl rfl) rfl rfl rfl ?_
        refine at_nil ?_
        refine at_normal ?_
        refine hK5 _ _ _ ?_
        refine at_cond_false (congrArg (fun b => some (Value.bool b)) (show _ = false from decide_eq_false (by omega))) ?_
        refine at_exit ?_
        refine at_then_exit ?_
        refine at_then_exit ?_
        refine at_exit_eq ?_
        refine at_normal ?_
        refine hK2 _ _ _ ?_
        refine at_seq_k (fun K6 hK6 => ?_)
        refine at_region ?_
        refine at_v (ov_move rfl rfl) rfl rfl rfl ?_
        refine at_v (ov_len_slice rfl Tryz.underlying28 rfl) rfl rfl rfl ?_
        refine at_v (ov_int rfl rfl rfl rfl) rfl rfl rfl ?_
        refine at_v (ov_assign rfl rfl) rfl rfl rfl ?_
        refine at_nil ?_
        refine at_normal ?_
        refine hK6 _ _ _ ?_
        refine at_seq_k (fun K7 hK7 => ?_)
        refine at_region ?_
        refine at_v (ov_move rfl rfl) rfl rfl rfl ?_
        refine at_t (ot_call (ks := []) rfl rfl rfl Tryz.call47 rfl (hW1 ) rfl) rfl rfl rfl ?_
        rintro v0 _ ⟨m0, hp0, rfl⟩
        obtain ⟨rfl, rfl⟩ := hp0
        simp only [List.cons_append, List.nil_append, splice, spliceL]
        refine at_v (ov_assign rfl rfl) rfl rfl rfl ?_
        refine at_nil ?_
        refine at_normal ?_
        refine hK7 _ _ _ ?_
        refine at_seq_k (fun K8 hK8 => ?_)
        refine at_block ?_
        refine at_seq_k (fun K9 hK9 => ?_)
        refine at_region ?_
        refine at_v (ov_move rfl rfl) rfl rfl rfl ?_
        refine at_t (ot_call (ks := []) rfl rfl rfl Tryz.call48 rfl (r1 ) rfl) rfl rfl rfl ?_
        rintro v0 _ ⟨m0, hp0, rfl⟩
        obtain ⟨rfl, rfl⟩ := hp0
        simp only [List.cons_append, List.nil_append, splice, spliceL]
        refine at_v (ov_assign rfl rfl) rfl rfl rfl ?_
        refine at_nil ?_
        refine at_normal ?_
        refine hK9 _ _ _ ?_
        refine at_cond_false rfl ?_
        refine at_seq_k (fun K10 hK10 => ?_)
        refine at_region ?_
        refine at_v (ov_move rfl rfl) rfl rfl rfl ?_
        refine at_v (ov_strL rfl rfl rfl rfl) rfl rfl rfl ?_
        refine at_v (ov_assign rfl rfl) rfl rfl rfl ?_
        refine at_nil ?_
        refine at_normal ?_
        refine hK10 _ _ _ ?_
        refine at_cond_false (congrArg (fun b => some (Value.bool b)) (show _ = false from by first | assumption | (rw [Bool.not_eq_false']; exact decide_eq_true (by omega)))) ?_
        refine at_seq_k (fun K11 hK11 => ?_)
        refine at_region ?_
        refine at_v (ov_move rfl rfl) rfl rfl rfl ?_
        refine at_t (ot_call (ks := []) rfl rfl rfl Tryz.call48 rfl (r3 ) rfl) rfl rfl rfl ?_
        rintro v0 _ ⟨m0, hp0, rfl⟩
        obtain ⟨rfl, rfl⟩ := hp0
        simp only [List.cons_append, List.nil_append, splice, spliceL]
        refine at_v (ov_assign rfl rfl) rfl rfl rfl ?_
        refine at_nil ?_
        refine at_normal ?_
        refine hK11 _ _ _ ?_
        refine at_cond_false rfl ?_
        refine at_seq_k (fun K12 hK12 => ?_)
        refine at_region ?_
        refine at_v (ov_move rfl rfl) rfl rfl rfl ?_
        refine at_t (ot_call (ks := []) rfl rfl rfl Tryz.call48 rfl (r4 ) rfl) rfl rfl rfl ?_
        rintro v0 _ ⟨m0, hp0, rfl⟩
        obtain ⟨rfl, rfl⟩ := hp0
        simp only [List.cons_append, List.nil_append, splice, spliceL]
        refine at_v (ov_assign rfl rfl) rfl rfl rfl ?_
        refine at_nil ?_
        refine at_normal ?_
        refine hK12 _ _ _ ?_
        refine at_cond_false rfl ?_
        refine at_seq_k (fun K13 hK13 => ?_)
        refine at_region ?_
        refine at_v (ov_move rfl rfl) rfl rfl rfl ?_
        refine at_v (ov_strL rfl rfl rfl rfl) rfl rfl rfl ?_
        refine at_v (ov_move rfl rfl) rfl rfl rfl ?_
        refine at_reval 62 (.bool false) rfl (congrArg Value.bool (by first | assumption | (rw [Bool.not_eq_false']; exact decide_eq_true (by omega)))) ?_
        refine at_unwanted (j := 2) rfl rfl rfl rfl ?_
        refine at_unwanted (j := 2) rfl rfl rfl rfl ?_
        refine at_unwantedN (j := 4) rfl rfl rfl ?_
        refine at_unwantedN (j := 4) rfl rfl rfl ?_
        refine at_unwantedN (j := 4) rfl rfl rfl ?_
        refine at_unwantedN (j := 4) rfl rfl rfl ?_
        refine at_unwantedN (j := 8) rfl rfl rfl ?_
        refine at_unwantedN (j := 8) rfl rfl rfl ?_
        refine at_unwantedN (j := 4) rfl rfl rfl ?_
        refine at_unwanted (j := 2) rfl rfl rfl rfl ?_
        refine at_v (ov_pick_f rfl rfl rfl) rfl rfl rfl ?_
        refine at_v (ov_move rfl rfl) rfl rfl rfl ?_
        refine at_wanted (j := 14) rfl ?_
        refine at_v (ov_move rfl rfl) rfl rfl rfl ?_
        refine at_wanted (j := 14) rfl ?_
        refine at_v (ov_strL rfl rfl rfl rfl) rfl rfl rfl ?_
        refine at_wanted (j := 14) rfl ?_
        refine at_v (ov_move rfl rfl) rfl rfl rfl ?_
        refine at_reval 77 (.bool false) rfl (congrArg Value.bool (by first | assumption | (rw [Bool.not_eq_false']; exact decide_eq_true (by omega)))) ?_
        refine at_unwanted (j := 17) rfl rfl rfl rfl ?_
        refine at_unwanted (j := 17) rfl rfl rfl rfl ?_
        refine at_wanted (j := 14) rfl ?_
        refine at_v (ov_pick_f rfl rfl rfl) rfl rfl rfl ?_
        refine at_v (ov_pick_f rfl rfl rfl) rfl rfl rfl ?_
        refine at_v (ov_assign rfl rfl) rfl rfl rfl ?_
        refine at_nil ?_
        refine at_normal ?_
        refine hK13 _ _ _ ?_
        refine at_cond_false rfl ?_
        refine at_seq_k (fun K14 hK14 => ?_)
        refine at_region ?_
        refine at_v (ov_move rfl rfl) rfl rfl rfl ?_
        refine at_v (ov_strL rfl rfl rfl rfl) rfl rfl rfl ?_
        refine at_v (ov_move rfl rfl) rfl rfl rfl ?_
        refine at_reval 85 (.bool false) rfl (congrArg Value.bool (by first | assumption | (rw [Bool.not_eq_false']; exact decide_eq_true (by omega)))) ?_
        refine at_unwanted (j := 2) rfl rfl rfl rfl ?_
        refine at_unwanted (j := 2) rfl rfl rfl rfl ?_
        refine at_unwantedN (j := 4) rfl rfl rfl ?_
        refine at_unwantedN (j := 4) rfl rfl rfl ?_
        refine at_unwantedN (j := 4) rfl rfl rfl ?_
        refine at_unwantedN (j := 4) rfl rfl rfl ?_
        refine at_unwantedN (j := 8) rfl rfl rfl ?_
        refine at_unwantedN (j := 8) rfl rfl rfl ?_
        refine at_unwantedN (j := 4) rfl rfl rfl ?_
        refine at_unwanted (j := 2) rfl rfl rfl rfl ?_
        refine at_v (ov_pick_f rfl rfl rfl) rfl rfl rfl ?_
        refine at_v (ov_assign rfl rfl) rfl rfl rfl ?_
        refine at_nil ?_
        refine at_normal ?_
        refine hK14 _ _ _ ?_
        refine at_cond_false rfl ?_
        refine at_seq_k (fun K15 hK15 => ?_)
        refine at_region ?_
        refine at_v (ov_move rfl rfl) rfl rfl rfl ?_
        refine at_v (ov_strL rfl rfl rfl rfl) rfl rfl rfl ?_
        refine at_v (ov_move rfl rfl) rfl rfl rfl ?_
        refine at_reval 100 (.bool true) rfl (congrArg Value.bool (by first | assumption | (rw [Bool.not_eq_true']; exact decide_eq_false (by omega)))) ?_
        refine at_wanted (j := 2) rfl ?_
        refine at_v (ov_move rfl rfl) rfl rfl rfl ?_
        refine at_wanted (j := 2) rfl ?_
        refine at_v (ov_move rfl rfl) rfl rfl rfl ?_
        refine at_reval 102 (.bool false) rfl (congrArg Value.bool (decide_eq_false (by omega))) ?_
        refine at_wanted (j := 4) rfl ?_
        refine at_v (ov_move rfl rfl) rfl rfl rfl ?_
        refine at_wanted (j := 4) rfl ?_
        refine at_v (ov_len_slice rfl Tryz.underlying28 rfl) rfl rfl rfl ?_
        refine at_wanted (j := 4) rfl ?_
        refine at_v (ov_int rfl rfl rfl rfl) rfl rfl rfl ?_
        refine at_wanted (j := 4) rfl ?_
        refine at_v (ov_move rfl rfl) rfl rfl rfl ?_
        refine at_reval 106 (.bool true) rfl (congrArg Value.bool (decide_eq_true (by omega))) ?_
        refine at_wanted (j := 8) rfl ?_
        refine at_v (ov_move rfl rfl) rfl rfl rfl ?_
        refine at_wanted (j := 8) rfl ?_
        refine at_v (ov_strL rfl rfl rfl rfl) rfl rfl rfl ?_
        refine at_wanted (j := 4) rfl ?_
        refine at_v (ov_pick_t rfl rfl rfl) rfl rfl rfl ?_
        refine at_wanted (j := 2) rfl ?_
        refine at_v (ov_pick_f rfl rfl rfl) rfl rfl rfl ?_
        refine at_v (ov_pick_t rfl rfl rfl) rfl rfl rfl ?_
        refine at_v (ov_assign rfl rfl) rfl rfl rfl ?_
        refine at_nil ?_
        refine at_normal ?_
        refine hK15 _ _ _ ?_
        refine at_cond_true (congrArg (fun b => some (Value.bool b)) (show _ = true from by first | assumption | (rw [Bool.not_eq_true']; exact decide_eq_false (by omega)))) ?_
        refine at_seq_k (fun K16 hK16 => ?_)
        refine at_region ?_
        refine at_v (ov_assign rfl rfl) rfl rfl rfl ?_
        refine at_nil ?_
        refine at_normal ?_
        refine hK16 _ _ _ ?_
        refine at_ret ?_
        refine at_inb_ret ?_
        refine at_then_ret ?_
        refine at_end ?_
        refine at_fin (rsV rfl (res_tmp rfl)) ?_
        refine ⟨_, ⟨by rw [et, if_pos (.inr ⟨n2, q'⟩)], rfl⟩, ?_⟩
        exact fun _ s => s.finEq (ks := []) (js := []) rfl rfl rfl
      | false =>
        have q' := e1W.symm.trans q
        refine at_seq_k (fun K4 hK4 => ?_)
        refine at_seq_k (fun K5 hK5 => ?_)
        refine at_region ?_
        refine at_v (ov_move rfl rfl) rfl rfl rfl ?_
        refine at_v (ov_move rfl rfl) rfl rfl rfl ?_
        refine at_v (ov_len_slice rfl Tryz.underlying28 rfl) rfl rfl rfl ?_
        refine at_v (ov_int rfl rfl rfl rfl) rfl rfl rfl ?_
        refine at_nil ?_
        refine at_normal ?_
        refine hK5 _ _ _ ?_
        refine at_cond_false (congrArg (fun b => some (Value.bool b)) (show _ = false from decide_eq_false (by omega))) ?_
        refine at_exit ?_
        refine at_then_exit ?_
        refine at_then_exit ?_
        refine at_exit_eq ?_
        refine at_normal ?_
        refine hK2 _ _ _ ?_
        refine at_seq_k (fun K6 hK6 => ?_)
        refine at_region ?_
        refine at_v (ov_move rfl rfl) rfl rfl rfl ?_
        refine at_v (ov_len_slice rfl Tryz.underlying28 rfl) rfl rfl rfl ?_
        refine at_v (ov_int rfl rfl rfl rfl) rfl rfl rfl ?_
        refine at_v (ov_assign rfl rfl) rfl rfl rfl ?_
        refine at_nil ?_
        refine at_normal ?_
        refine hK6 _ _ _ ?_
        refine at_seq_k (fun K7 hK7 => ?_)
        refine at_region ?_
        refine at_v (ov_move rfl rfl) rfl rfl rfl ?_
        refine at_t (ot_call (ks := []) rfl rfl rfl Tryz.call47 rfl (hW1 ) rfl) rfl rfl rfl ?_
        rintro v0 _ ⟨m0, hp0, rfl⟩
        obtain ⟨rfl, rfl⟩ := hp0
        simp only [List.cons_append, List.nil_append, splice, spliceL]
        refine at_v (ov_assign rfl rfl) rfl rfl rfl ?_
        refine at_nil ?_
        refine at_normal ?_
        refine hK7 _ _ _ ?_
        refine at_seq_k (fun K8 hK8 => ?_)
        refine at_block ?_
        refine at_seq_k (fun K9 hK9 => ?_)
        refine at_region ?_
        refine at_v (ov_move rfl rfl) rfl rfl rfl ?_
        refine at_t (ot_call (ks := []) rfl rfl rfl Tryz.call48 rfl (r1 ) rfl) rfl rfl rfl ?_
        rintro v0 _ ⟨m0, hp0, rfl⟩
        obtain ⟨rfl, rfl⟩ := hp0
        simp only [List.cons_append, List.nil_append, splice, spliceL]
        refine at_v (ov_assign rfl rfl) rfl rfl rfl ?_
        refine at_nil ?_
        refine at_normal ?_
        refine hK9 _ _ _ ?_
        refine at_cond_false rfl ?_
        refine at_seq_k (fun K10 hK10 => ?_)
        refine at_region ?_
        refine at_v (ov_move rfl rfl) rfl rfl rfl ?_
        refine at_v (ov_strL rfl rfl rfl rfl) rfl rfl rfl ?_
        refine at_v (ov_assign rfl rfl) rfl rfl rfl ?_
        refine at_nil ?_
        refine at_normal ?_
        refine hK10 _ _ _ ?_
        refine at_cond_false (congrArg (fun b => some (Value.bool b)) (show _ = false from by first | assumption | (rw [Bool.not_eq_false']; exact decide_eq_true (by omega)))) ?_
        refine at_seq_k (fun K11 hK11 => ?_)
        refine at_region ?_
        refine at_v (ov_move rfl rfl) rfl rfl rfl ?_
        refine at_t (ot_call (ks := []) rfl rfl rfl Tryz.call48 rfl (r3 ) rfl) rfl rfl rfl ?_
        rintro v0 _ ⟨m0, hp0, rfl⟩
        obtain ⟨rfl, rfl⟩ := hp0
        simp only [List.cons_append, List.nil_append, splice, spliceL]
        refine at_v (ov_assign rfl rfl) rfl rfl rfl ?_
        refine at_nil ?_
        refine at_normal ?_
        refine hK11 _ _ _ ?_
        refine at_cond_false rfl ?_
        refine at_seq_k (fun K12 hK12 => ?_)
        refine at_region ?_
        refine at_v (ov_move rfl rfl) rfl rfl rfl ?_
        refine at_t (ot_call (ks := []) rfl rfl rfl Tryz.call48 rfl (r4 ) rfl) rfl rfl rfl ?_
        rintro v0 _ ⟨m0, hp0, rfl⟩
        obtain ⟨rfl, rfl⟩ := hp0
        simp only [List.cons_append, List.nil_append, splice, spliceL]
        refine at_v (ov_assign rfl rfl) rfl rfl rfl ?_
        refine at_nil ?_
        refine at_normal ?_
        refine hK12 _ _ _ ?_
        refine at_cond_false rfl ?_
        refine at_seq_k (fun K13 hK13 => ?_)
        refine at_region ?_
        refine at_v (ov_move rfl rfl) rfl rfl rfl ?_
        refine at_v (ov_strL rfl rfl rfl rfl) rfl rfl rfl ?_
        refine at_v (ov_move rfl rfl) rfl rfl rfl ?_
        refine at_reval 62 (.bool false) rfl (congrArg Value.bool (by first | assumption | (rw [Bool.not_eq_false']; exact decide_eq_true (by omega)))) ?_
        refine at_unwanted (j := 2) rfl rfl rfl rfl ?_
        refine at_unwanted (j := 2) rfl rfl rfl rfl ?_
        refine at_unwantedN (j := 4) rfl rfl rfl ?_
        refine at_unwantedN (j := 4) rfl rfl rfl ?_
        refine at_unwantedN (j := 4) rfl rfl rfl ?_
        refine at_unwantedN (j := 4) rfl rfl rfl ?_
        refine at_unwantedN (j := 8) rfl rfl rfl ?_
        refine at_unwantedN (j := 8) rfl rfl rfl ?_
        refine at_unwantedN (j := 4) rfl rfl rfl ?_
        refine at_unwanted (j := 2) rfl rfl rfl rfl ?_
        refine at_v (ov_pick_f rfl rfl rfl) rfl rfl rfl ?_
        refine at_v (ov_move rfl rfl) rfl rfl rfl ?_
        refine at_wanted (j := 14) rfl ?_
        refine at_v (ov_move rfl rfl) rfl rfl rfl ?_
        refine at_wanted (j := 14) rfl ?_
        refine at_v (ov_strL rfl rfl rfl rfl) rfl rfl rfl ?_
        refine at_wanted (j := 14) rfl ?_
        refine at_v (ov_move rfl rfl) rfl rfl rfl ?_
        refine at_reval 77 (.bool false) rfl (congrArg Value.bool (by first | assumption | (rw [Bool.not_eq_false']; exact decide_eq_true (by omega)))) ?_
        refine at_unwanted (j := 17) rfl rfl rfl rfl ?_
        refine at_unwanted (j := 17) rfl rfl rfl rfl ?_
        refine at_wanted (j := 14) rfl ?_
        refine at_v (ov_pick_f rfl rfl rfl) rfl rfl rfl ?_
        refine at_v (ov_pick_f rfl rfl rfl) rfl rfl rfl ?_
        refine at_v (ov_assign rfl rfl) rfl rfl rfl ?_
        refine at_nil ?_
        refine at_normal ?_
        refine hK13 _ _ _ ?_
        refine at_cond_false rfl ?_
        refine at_seq_k (fun K14 hK14 => ?_)
        refine at_region ?_
        refine at_v (ov_move rfl rfl) rfl rfl rfl ?_
        refine at_v (ov_strL rfl rfl rfl rfl) rfl rfl rfl ?_
        refine at_v (ov_move rfl rfl) rfl rfl rfl ?_
        refine at_reval 85 (.bool false) rfl (congrArg Value.bool (by first | assumption | (rw [Bool.not_eq_false']; exact decide_eq_true (by omega)))) ?_
        refine at_unwanted (j := 2) rfl rfl rfl rfl ?_
        refine at_unwanted (j := 2) rfl rfl rfl rfl ?_
        refine at_unwantedN (j := 4) rfl rfl rfl ?_
        refine at_unwantedN (j := 4) rfl rfl rfl ?_
        refine at_unwantedN (j := 4) rfl rfl rfl ?_
        refine at_unwantedN (j := 4) rfl rfl rfl ?_
        refine at_unwantedN (j := 8) rfl rfl rfl ?_
        refine at_unwantedN (j := 8) rfl rfl rfl ?_
        refine at_unwantedN (j := 4) rfl rfl rfl ?_
        refine at_unwanted (j := 2) rfl rfl rfl rfl ?_
        refine at_v (ov_pick_f rfl rfl rfl) rfl rfl rfl ?_
        refine at_v (ov_assign rfl rfl) rfl rfl rfl ?_
        refine at_nil ?_
        refine at_normal ?_
        refine hK14 _ _ _ ?_
        refine at_cond_false rfl ?_
        refine at_seq_k (fun K15 hK15 => ?_)
        refine at_region ?_
        refine at_v (ov_move rfl rfl) rfl rfl rfl ?_
        refine at_v (ov_strL rfl rfl rfl rfl) rfl rfl rfl ?_
        refine at_v (ov_move rfl rfl) rfl rfl rfl ?_
        refine at_reval 100 (.bool true) rfl (congrArg Value.bool (by first | assumption | (rw [Bool.not_eq_true']; exact decide_eq_false (by omega)))) ?_
        refine at_wanted (j := 2) rfl ?_
        refine at_v (ov_move rfl rfl) rfl rfl rfl ?_
        refine at_wanted (j := 2) rfl ?_
        refine at_v (ov_move rfl rfl) rfl rfl rfl ?_
        refine at_reval 102 (.bool false) rfl (congrArg Value.bool (decide_eq_false (by omega))) ?_
        refine at_wanted (j := 4) rfl ?_
        refine at_v (ov_move rfl rfl) rfl rfl rfl ?_
        refine at_wanted (j := 4) rfl ?_
        refine at_v (ov_len_slice rfl Tryz.underlying28 rfl) rfl rfl rfl ?_
        refine at_wanted (j := 4) rfl ?_
        refine at_v (ov_int rfl rfl rfl rfl) rfl rfl rfl ?_
        refine at_wanted (j := 4) rfl ?_
        refine at_v (ov_move rfl rfl) rfl rfl rfl ?_
        refine at_reval 106 (.bool true) rfl (congrArg Value.bool (decide_eq_true (by omega))) ?_
        refine at_wanted (j := 8) rfl ?_
        refine at_v (ov_move rfl rfl) rfl rfl rfl ?_
        refine at_wanted (j := 8) rfl ?_
        refine at_v (ov_strL rfl rfl rfl rfl) rfl rfl rfl ?_
        refine at_wanted (j := 4) rfl ?_
        refine at_v (ov_pick_t rfl rfl rfl) rfl rfl rfl ?_
        refine at_wanted (j := 2) rfl ?_
        refine at_v (ov_pick_f rfl rfl rfl) rfl rfl rfl ?_
        refine at_v (ov_pick_t rfl rfl rfl) rfl rfl rfl ?_
        refine at_v (ov_assign rfl rfl) rfl rfl rfl ?_
        refine at_nil ?_
        refine at_normal ?_
        refine hK15 _ _ _ ?_
        refine at_cond_false (congrArg (fun b => some (Value.bool b)) (show _ = false from by first | assumption | (rw [Bool.not_eq_false']; exact decide_eq_true (by omega)))) ?_
        refine at_seq_k (fun K16 hK16 => ?_)
        refine at_region ?_
        refine at_v (ov_move rfl rfl) rfl rfl rfl ?_
        refine at_v (ov_strL rfl rfl rfl rfl) rfl rfl rfl ?_
        refine at_v (ov_move rfl rfl) rfl rfl rfl ?_
        refine at_reval 115 (.bool false) rfl (congrArg Value.bool (by first | assumption | (rw [Bool.not_eq_false']; exact decide_eq_true (by omega)))) ?_
        refine at_unwanted (j := 2) rfl rfl rfl rfl ?_
        refine at_unwanted (j := 2) rfl rfl rfl rfl ?_
        refine at_unwanted (j := 2) rfl rfl rfl rfl ?_
        refine at_v (ov_pick_f rfl rfl rfl) rfl rfl rfl ?_
        refine at_v (ov_assign rfl rfl) rfl rfl rfl ?_
        refine at_nil ?_
        refine at_normal ?_
        refine hK16 _ _ _ ?_
        refine at_cond_false rfl ?_
        refine at_skip ?_
        refine at_inb_normal ?_
        refine at_normal ?_
        refine hK8 _ _ _ ?_
        refine at_seq_k (fun K17 hK17 => ?_)
        refine at_region ?_
        refine at_v (ov_assign rfl rfl) rfl rfl rfl ?_
        refine at_nil ?_
        refine at_normal ?_
        refine hK17 _ _ _ ?_
        refine at_ret ?_
        refine at_end ?_
        refine at_fin (rsV rfl (res_tmp rfl)) ?_
        refine ⟨_, ⟨by rw [et, if_neg (by rw [q']; simp [n1])], rfl⟩, ?_⟩
        exact fun _ s => s.finEq (ks := []) (js := []) rfl rfl rfl
    have g2 := l2 (decide_eq_false n2).symm
    refine at_seq_k (fun K4 hK4 => ?_)
    refine at_seq_k (fun K5 hK5 => ?_)
    refine at_region ?_
    refine at_v (ov_move rfl rfl) rfl rfl rfl ?_
    refine at_v (ov_move rfl rfl) rfl rfl rfl ?_
    refine at_v (ov_len_slice rfl Tryz.underlying28 rfl) rfl rfl rfl ?_
    refine at_v (ov_int rfl rfl rfl rfl) rfl rfl rfl ?_
    refine at_nil ?_
    refine at_normal ?_
    refine hK5 _ _ _ ?_
    refine at_cond_false (congrArg (fun b => some (Value.bool b)) (show _ = false from decide_eq_false (by omega))) ?_
    refine at_exit ?_
    refine at_then_exit ?_
    refine at_then_exit ?_
    refine at_exit_eq ?_
    refine at_normal ?_
    refine hK2 _ _ _ ?_
    refine at_seq_k (fun K6 hK6 => ?_)
    refine at_region ?_
    refine at_v (ov_move rfl rfl) rfl rfl rfl ?_
    refine at_v (ov_len_slice rfl Tryz.underlying28 rfl) rfl rfl rfl ?_
    refine at_v (ov_int rfl rfl rfl rfl) rfl rfl rfl ?_
    refine at_v (ov_assign rfl rfl) rfl rfl rfl ?_
    refine at_nil ?_
    refine at_normal ?_
    refine hK6 _ _ _ ?_
    refine at_seq_k (fun K7 hK7 => ?_)
    refine at_region ?_
    refine at_v (ov_move rfl rfl) rfl rfl rfl ?_
    refine at_t (ot_call (ks := []) rfl rfl rfl Tryz.call47 rfl (hW1 ) rfl) rfl rfl rfl ?_
    rintro v0 _ ⟨m0, hp0, rfl⟩
    obtain ⟨rfl, rfl⟩ := hp0
    simp only [List.cons_append, List.nil_append, splice, spliceL]
    refine at_v (ov_assign rfl rfl) rfl rfl rfl ?_
    refine at_nil ?_
    refine at_normal ?_
    refine hK7 _ _ _ ?_
    refine at_seq_k (fun K8 hK8 => ?_)
    refine at_block ?_
    refine at_seq_k (fun K9 hK9 => ?_)
    refine at_region ?_
    refine at_v (ov_move rfl rfl) rfl rfl rfl ?_
    refine at_t (ot_call (ks := []) rfl rfl rfl Tryz.call48 rfl (r1 ) rfl) rfl rfl rfl ?_
    rintro v0 _ ⟨m0, hp0, rfl⟩
    obtain ⟨rfl, rfl⟩ := hp0
    simp only [List.cons_append, List.nil_append, splice, spliceL]
    refine at_v (ov_assign rfl rfl) rfl rfl rfl ?_
    refine at_nil ?_
    refine at_normal ?_
    refine hK9 _ _ _ ?_
    refine at_cond_false rfl ?_
    refine at_seq_k (fun K10 hK10 => ?_)
    refine at_region ?_
    refine at_v (ov_move rfl rfl) rfl rfl rfl ?_
    refine at_v (ov_strL rfl rfl rfl rfl) rfl rfl rfl ?_
    refine at_v (ov_assign rfl rfl) rfl rfl rfl ?_
    refine at_nil ?_
    refine at_normal ?_
    refine hK10 _ _ _ ?_
    refine at_cond_false (congrArg (fun b => some (Value.bool b)) (show _ = false from by first | assumption | (rw [Bool.not_eq_false']; exact decide_eq_true (by omega)))) ?_
    refine at_seq_k (fun K11 hK11 => ?_)
    refine at_region ?_
    refine at_v (ov_move rfl rfl) rfl rfl rfl ?_
    refine at_t (ot_call (ks := []) rfl rfl rfl Tryz.call48 rfl (r3 ) rfl) rfl rfl rfl ?_
    rintro v0 _ ⟨m0, hp0, rfl⟩
    obtain ⟨rfl, rfl⟩ := hp0
    simp only [List.cons_append, List.nil_append, splice, spliceL]
    refine at_v (ov_assign rfl rfl) rfl rfl rfl ?_
    refine at_nil ?_
    refine at_normal ?_
    refine hK11 _ _ _ ?_
    refine at_cond_false rfl ?_
    refine at_seq_k (fun K12 hK12 => ?_)
    refine at_region ?_
    refine at_v (ov_move rfl rfl) rfl rfl rfl ?_
    refine at_t (ot_call (ks := []) rfl rfl rfl Tryz.call48 rfl (r4 ) rfl) rfl rfl rfl ?_
    rintro v0 _ ⟨m0, hp0, rfl⟩
    obtain ⟨rfl, rfl⟩ := hp0
    simp only [List.cons_append, List.nil_append, splice, spliceL]
    refine at_v (ov_assign rfl rfl) rfl rfl rfl ?_
    refine at_nil ?_
    refine at_normal ?_
    refine hK12 _ _ _ ?_
    refine at_cond_false rfl ?_
    refine at_seq_k (fun K13 hK13 => ?_)
    refine at_region ?_
    refine at_v (ov_move rfl rfl) rfl rfl rfl ?_
    refine at_v (ov_strL rfl rfl rfl rfl) rfl rfl rfl ?_
    refine at_v (ov_move rfl rfl) rfl rfl rfl ?_
    refine at_reval 62 (.bool false) rfl (congrArg Value.bool (by first | assumption | (rw [Bool.not_eq_false']; exact decide_eq_true (by omega)))) ?_
    refine at_unwanted (j := 2) rfl rfl rfl rfl ?_
    refine at_unwanted (j := 2) rfl rfl rfl rfl ?_
    refine at_unwantedN (j := 4) rfl rfl rfl ?_
    refine at_unwantedN (j := 4) rfl rfl rfl ?_
    refine at_unwantedN (j := 4) rfl rfl rfl ?_
    refine at_unwantedN (j := 4) rfl rfl rfl ?_
    refine at_unwantedN (j := 8) rfl rfl rfl ?_
    refine at_unwantedN (j := 8) rfl rfl rfl ?_
    refine at_unwantedN (j := 4) rfl rfl rfl ?_
    refine at_unwanted (j := 2) rfl rfl rfl rfl ?_
    refine at_v (ov_pick_f rfl rfl rfl) rfl rfl rfl ?_
    refine at_v (ov_move rfl rfl) rfl rfl rfl ?_
    refine at_wanted (j := 14) rfl ?_
    refine at_v (ov_move rfl rfl) rfl rfl rfl ?_
    refine at_wanted (j := 14) rfl ?_
    refine at_v (ov_strL rfl rfl rfl rfl) rfl rfl rfl ?_
    refine at_wanted (j := 14) rfl ?_
    refine at_v (ov_move rfl rfl) rfl rfl rfl ?_
    refine at_reval 77 (.bool false) rfl (congrArg Value.bool (by first | assumption | (rw [Bool.not_eq_false']; exact decide_eq_true (by omega)))) ?_
    refine at_unwanted (j := 17) rfl rfl rfl rfl ?_
    refine at_unwanted (j := 17) rfl rfl rfl rfl ?_
    refine at_wanted (j := 14) rfl ?_
    refine at_v (ov_pick_f rfl rfl rfl) rfl rfl rfl ?_
    refine at_v (ov_pick_f rfl rfl rfl) rfl rfl rfl ?_
    refine at_v (ov_assign rfl rfl) rfl rfl rfl ?_
    refine at_nil ?_
    refine at_normal ?_
    refine hK13 _ _ _ ?_
    refine at_cond_false rfl ?_
    refine at_seq_k (fun K14 hK14 => ?_)
    refine at_region ?_
    refine at_v (ov_move rfl rfl) rfl rfl rfl ?_
    refine at_v (ov_strL rfl rfl rfl rfl) rfl rfl rfl ?_
    refine at_v (ov_move rfl rfl) rfl rfl rfl ?_
    refine at_reval 85 (.bool false) rfl (congrArg Value.bool (by first | assumption | (rw [Bool.not_eq_false']; exact decide_eq_true (by omega)))) ?_
    refine at_unwanted (j := 2) rfl rfl rfl rfl ?_
    refine at_unwanted (j := 2) rfl rfl rfl rfl ?_
    refine at_unwantedN (j := 4) rfl rfl rfl ?_
    refine at_unwantedN (j := 4) rfl rfl rfl ?_
    refine at_unwantedN (j := 4) rfl rfl rfl ?_
    refine at_unwantedN (j := 4) rfl rfl rfl ?_
    refine at_unwantedN (j := 8) rfl rfl rfl ?_
    refine at_unwantedN (j := 8) rfl rfl rfl ?_
    refine at_unwantedN (j := 4) rfl rfl rfl ?_
    refine at_unwanted (j := 2) rfl rfl rfl rfl ?_
    refine at_v (ov_pick_f rfl rfl rfl) rfl rfl rfl ?_
    refine at_v (ov_assign rfl rfl) rfl rfl rfl ?_
    refine at_nil ?_
    refine at_normal ?_
    refine hK14 _ _ _ ?_
    refine at_cond_false rfl ?_
    refine at_seq_k (fun K15 hK15 => ?_)
    refine at_region ?_
    refine at_v (ov_move rfl rfl) rfl rfl rfl ?_
    refine at_v (ov_strL rfl rfl rfl rfl) rfl rfl rfl ?_
    refine at_v (ov_move rfl rfl) rfl rfl rfl ?_
    refine at_reval 100 (.bool true) rfl (congrArg Value.bool (by first | assumption | (rw [Bool.not_eq_true']; exact decide_eq_false (by omega)))) ?_
    refine at_wanted (j := 2) rfl ?_
    refine at_v (ov_move rfl rfl) rfl rfl rfl ?_
    refine at_wanted (j := 2) rfl ?_
    refine at_v (ov_move rfl rfl) rfl rfl rfl ?_
    refine at_reval 102 (.bool false) rfl (congrArg Value.bool (decide_eq_false (by omega))) ?_
    refine at_wanted (j := 4) rfl ?_
    refine at_v (ov_move rfl rfl) rfl rfl rfl ?_
    refine at_wanted (j := 4) rfl ?_
    refine at_v (ov_len_slice rfl Tryz.underlying28 rfl) rfl rfl rfl ?_
    refine at_wanted (j := 4) rfl ?_
    refine at_v (ov_int rfl rfl rfl rfl) rfl rfl rfl ?_
    refine at_wanted (j := 4) rfl ?_
    refine at_v (ov_move rfl rfl) rfl rfl rfl ?_
    refine at_reval 106 (.bool false) rfl (congrArg Value.bool (decide_eq_false (by omega))) ?_
    refine at_unwanted (j := 8) rfl rfl rfl rfl ?_
    refine at_unwanted (j := 8) rfl rfl rfl rfl ?_
    refine at_wanted (j := 4) rfl ?_
    refine at_v (ov_pick_f rfl rfl rfl) rfl rfl rfl ?_
    refine at_wanted (j := 2) rfl ?_
    refine at_v (ov_pick_f rfl rfl rfl) rfl rfl rfl ?_
    refine at_v (ov_pick_t rfl rfl rfl) rfl rfl rfl ?_
    refine at_v (ov_assign rfl rfl) rfl rfl rfl ?_
    refine at_nil ?_
    refine at_normal ?_
    refine hK15 _ _ _ ?_
    refine at_cond_false rfl ?_
    refine at_seq_k (fun K16 hK16 => ?_)
    refine at_region ?_
    refine at_v (ov_move rfl rfl) rfl rfl rfl ?_
    refine at_v (ov_strL rfl rfl rfl rfl) rfl rfl rfl ?_
    refine at_v (ov_move rfl rfl) rfl rfl rfl ?_
    refine at_reval 115 (.bool false) rfl (congrArg Value.bool (by first | assumption | (rw [Bool.not_eq_false']; exact decide_eq_true (by omega)))) ?_
    refine at_unwanted (j := 2) rfl rfl rfl rfl ?_
    refine at_unwanted (j := 2) rfl rfl rfl rfl ?_
    refine at_unwanted (j := 2) rfl rfl rfl rfl ?_
    refine at_v (ov_pick_f rfl rfl rfl) rfl rfl rfl ?_
    refine at_v (ov_assign rfl rfl) rfl rfl rfl ?_
    refine at_nil ?_
    refine at_normal ?_
    refine hK16 _ _ _ ?_
    refine at_cond_false rfl ?_
    refine at_skip ?_
    refine at_inb_normal ?_
    refine at_normal ?_
    refine hK8 _ _ _ ?_
    refine at_seq_k (fun K17 hK17 => ?_)
    refine at_region ?_
    refine at_v (ov_assign rfl rfl) rfl rfl rfl ?_
    refine at_nil ?_
    refine at_normal ?_
    refine hK17 _ _ _ ?_
    refine at_ret ?_
    refine at_end ?_
    refine at_fin (rsV rfl (res_tmp rfl)) ?_
    refine ⟨_, ⟨by rw [et, if_neg (by omega)], rfl⟩, ?_⟩
    exact fun _ s => s.finEq (ks := []) (js := []) rfl rfl rfl
  rw [if_neg cROLLBACK] at et
  have fROLLBACK : decide (wordAt l 0 = wROLLBACK) = false := decide_eq_false cROLLBACK
  by_cases cSET : wordAt l 0 = wSET
  · rw [if_pos cSET] at et
    have fEXPLAIN : decide (wordAt l 0 = wEXPLAIN) = false := by rw [cSET]; decide
    have fBEGIN : decide (wordAt l 0 = wBEGIN) = false := by rw [cSET]; decide
    have fSTART : decide (wordAt l 0 = wSTART) = false := by rw [cSET]; decide
    have fCOMMIT : decide (wordAt l 0 = wCOMMIT) = false := by rw [cSET]; decide
    have fROLLBACK : decide (wordAt l 0 = wROLLBACK) = false := by rw [cSET]; decide
    have fSET : decide (wordAt l 0 = wSET) = true := by rw [cSET]; decide
    unfold setL at et
    cases q : wordIn l 1 setW with
    | true =>
      rw [q] at r6
      have q' : wordIn l 1 [wAUTOCOMMIT, wGLOBAL, wPERSIST] = true := q
      refine at_seq_k (fun K4 hK4 => ?_)
      refine at_seq_k (fun K5 hK5 => ?_)
      refine at_region ?_
      refine at_v (ov_move rfl rfl) rfl rfl rfl ?_
      refine at_v (ov_move rfl rfl) rfl rfl rfl ?_
      refine at_v (ov_len_slice rfl Tryz.underlying28 rfl) rfl rfl rfl ?_
      refine at_v (ov_int rfl rfl rfl rfl) rfl rfl rfl ?_
      refine at_nil ?_
      refine at_normal ?_
      refine hK5 _ _ _ ?_
      refine at_cond_false (congrArg (fun b => some (Value.bool b)) (show _ = false from decide_eq_false (by omega))) ?_
      refine at_exit ?_
      refine at_then_exit ?_
      refine at_then_exit ?_
      refine at_exit_eq ?_
      refine at_normal ?_
      refine hK2 _ _ _ ?_
      refine at_seq_k (fun K6 hK6 => ?_)
      refine at_region ?_
      refine at_v (ov_move rfl rfl) rfl rfl rfl ?_
      refine at_v (ov_len_slice rfl Tryz.underlying28 rfl) rfl rfl rfl ?_
      refine at_v (ov_int rfl rfl rfl rfl) rfl rfl rfl ?_
      refine at_v (ov_assign rfl rfl) rfl rfl rfl ?_
      refine at_nil ?_
      refine at_normal ?_
      refine hK6 _ _ _ ?_
      refine at_seq_k (fun K7 hK7 => ?_)
      refine at_region ?_
      refine at_v (ov_move rfl rfl) rfl rfl rfl ?_
      refine at_t (ot_call (ks := []) rfl rfl rfl Tryz.call47 rfl (hW1 ) rfl) rfl rfl rfl ?_
      rintro v0 _ ⟨m0, hp0, rfl⟩
      obtain ⟨rfl, rfl⟩ := hp0
      simp only [List.cons_append, List.nil_append, splice, spliceL]
      refine at_v (ov_assign rfl rfl) rfl rfl rfl ?_
      refine at_nil ?_
      refine at_normal ?_
      refine hK7 _ _ _ ?_
      refine at_seq_k (fun K8 hK8 => ?_)
      refine at_block ?_
      refine at_seq_k (fun K9 hK9 => ?_)
      refine at_region ?_
      refine at_v (ov_move rfl rfl) rfl rfl rfl ?_
      refine at_t (ot_call (ks := []) rfl rfl rfl Tryz.call48 rfl (r1 ) rfl) rfl rfl rfl ?_
      rintro v0 _ ⟨m0, hp0, rfl⟩
      obtain ⟨rfl, rfl⟩ := hp0
      simp only [List.cons_append, List.nil_append, splice, spliceL]
      refine at_v (ov_assign rfl rfl) rfl rfl rfl ?_
      refine at_nil ?_
      refine at_normal ?_
      refine hK9 _ _ _ ?_
      refine at_cond_false rfl ?_
      refine at_seq_k (fun K10 hK10 => ?_)
      refine at_region ?_
      refine at_v (ov_move rfl rfl) rfl rfl rfl ?_
      refine at_v (ov_strL rfl rfl rfl rfl) rfl rfl rfl ?_
      refine at_v (ov_assign rfl rfl) rfl rfl rfl ?_
      refine at_nil ?_
      refine at_normal ?_
      refine hK10 _ _ _ ?_
      refine at_cond_false (congrArg (fun b => some (Value.bool b)) (show _ = false from by first | assumption | (rw [Bool.not_eq_false']; exact decide_eq_true (by omega)))) ?_
      refine at_seq_k (fun K11 hK11 => ?_)
      refine at_region ?_
      refine at_v (ov_move rfl rfl) rfl rfl rfl ?_
      refine at_t (ot_call (ks := []) rfl rfl rfl Tryz.call48 rfl (r3 ) rfl) rfl rfl rfl ?_
      rintro v0 _ ⟨m0, hp0, rfl⟩
      obtain ⟨rfl, rfl⟩ := hp0
      simp only [List.cons_append, List.nil_append, splice, spliceL]
      refine at_v (ov_assign rfl rfl) rfl rfl rfl ?_
      refine at_nil ?_
      refine at_normal ?_
      refine hK11 _ _ _ ?_
      refine at_cond_false rfl ?_
      refine at_seq_k (fun K12 hK12 => ?_)
      refine at_region ?_
      refine at_v (ov_move rfl rfl) rfl rfl rfl ?_
      refine at_t (ot_call (ks := []) rfl rfl rfl Tryz.call48 rfl (r4 ) rfl) rfl rfl rfl ?_
      rintro v0 _ ⟨m0, hp0, rfl⟩
      obtain ⟨rfl, rfl⟩ := hp0
      simp only [List.cons_append, List.nil_append, splice, spliceL]
      refine at_v (ov_assign rfl rfl) rfl rfl rfl ?_
      refine at_nil ?_
      refine at_normal ?_
      refine hK12 _ _ _ ?_
      refine at_cond_false rfl ?_
      refine at_seq_k (fun K13 hK13 => ?_)
      refine at_region ?_
      refine at_v (ov_move rfl rfl) rfl rfl rfl ?_
      refine at_v (ov_strL rfl rfl rfl rfl) rfl rfl rfl ?_
      refine at_v (ov_move rfl rfl) rfl rfl rfl ?_
      refine at_reval 62 (.bool false) rfl (congrArg Value.bool (by first | assumption | (rw [Bool.not_eq_false']; exact decide_eq_true (by omega)))) ?_
      refine at_unwanted (j := 2) rfl rfl rfl rfl ?_
      refine at_unwanted (j := 2) rfl rfl rfl rfl ?_
      refine at_unwantedN (j := 4) rfl rfl rfl ?_
      refine at_unwantedN (j := 4) rfl rfl rfl ?_
      refine at_unwantedN (j := 4) rfl rfl rfl ?_
      refine at_unwantedN (j := 4) rfl rfl rfl ?_
      refine at_unwantedN (j := 8) rfl rfl rfl ?_
      refine at_unwantedN (j := 8) rfl rfl rfl ?_
      refine at_unwantedN (j := 4) rfl rfl rfl ?_
      refine at_unwanted (j := 2) rfl rfl rfl rfl ?_
      refine at_v (ov_pick_f rfl rfl rfl) rfl rfl rfl ?_
      refine at_v (ov_move rfl rfl) rfl rfl rfl ?_
      refine at_wanted (j := 14) rfl ?_
      refine at_v (ov_move rfl rfl) rfl rfl rfl ?_
      refine at_wanted (j := 14) rfl ?_
      refine at_v (ov_strL rfl rfl rfl rfl) rfl rfl rfl ?_
      refine at_wanted (j := 14) rfl ?_
      refine at_v (ov_move rfl rfl) rfl rfl rfl ?_
      refine at_reval 77 (.bool false) rfl (congrArg Value.bool (by first | assumption | (rw [Bool.not_eq_false']; exact decide_eq_true (by omega)))) ?_
      refine at_unwanted (j := 17) rfl rfl rfl rfl ?_
      refine at_unwanted (j := 17) rfl rfl rfl rfl ?_
      refine at_wanted (j := 14) rfl ?_
      refine at_v (ov_pick_f rfl rfl rfl) rfl rfl rfl ?_
      refine at_v (ov_pick_f rfl rfl rfl) rfl rfl rfl ?_
      refine at_v (ov_assign rfl rfl) rfl rfl rfl ?_
      refine at_nil ?_
      refine at_normal ?_
      refine hK13 _ _ _ ?_
      refine at_cond_false rfl ?_
      refine at_seq_k (fun K14 hK14 => ?_)
      refine at_region ?_
      refine at_v (ov_move rfl rfl) rfl rfl rfl ?_
      refine at_v (ov_strL rfl rfl rfl rfl) rfl rfl rfl ?_
      refine at_v (ov_move rfl rfl) rfl rfl rfl ?_
      refine at_reval 85 (.bool false) rfl (congrArg Value.bool (by first | assumption | (rw [Bool.not_eq_false']; exact decide_eq_true (by omega)))) ?_
      refine at_unwanted (j := 2) rfl rfl rfl rfl ?_
      refine at_unwanted (j := 2) rfl rfl rfl rfl ?_
      refine at_unwantedN (j := 4) rfl rfl rfl ?_
      refine at_unwantedN (j := 4) rfl rfl rfl ?_
      refine at_unwantedN (j := 4) rfl rfl rfl ?_
      refine at_unwantedN (j := 4) rfl rfl rfl ?_
      refine at_unwantedN (j := 8) rfl rfl rfl ?_
      refine at_unwantedN (j := 8) rfl rfl rfl ?_
      refine at_unwantedN (j := 4) rfl rfl rfl ?_
      refine at_unwanted (j := 2) rfl rfl rfl rfl ?_
      refine at_v (ov_pick_f rfl rfl rfl) rfl rfl rfl ?_
      refine at_v (ov_assign rfl rfl) rfl rfl rfl ?_
      refine at_nil ?_
      refine at_normal ?_
      refine hK14 _ _ _ ?_
      refine at_cond_false rfl ?_
      refine at_seq_k (fun K15 hK15 => ?_)
      refine at_region ?_
      refine at_v (ov_move rfl rfl) rfl rfl rfl ?_
      refine at_v (ov_strL rfl rfl rfl rfl) rfl rfl rfl ?_
      refine at_v (ov_move rfl rfl) rfl rfl rfl ?_
      refine at_reval 100 (.bool false) rfl (congrArg Value.bool (by first | assumption | (rw [Bool.not_eq_false']; exact decide_eq_true (by omega)))) ?_
      refine at_unwanted (j := 2) rfl rfl rfl rfl ?_
      refine at_unwanted (j := 2) rfl rfl rfl rfl ?_
      refine at_unwantedN (j := 4) rfl rfl rfl ?_
      refine at_unwantedN (j := 4) rfl rfl rfl ?_
      refine at_unwantedN (j := 4) rfl rfl rfl ?_
      refine at_unwantedN (j := 4) rfl rfl rfl ?_
      refine at_unwantedN (j := 8) rfl rfl rfl ?_
      refine at_unwantedN (j := 8) rfl rfl rfl ?_
      refine at_unwantedN (j := 4) rfl rfl rfl ?_
      refine at_unwanted (j := 2) rfl rfl rfl rfl ?_
      refine at_v (ov_pick_f rfl rfl rfl) rfl rfl rfl ?_
      refine at_v (ov_assign rfl rfl) rfl rfl rfl ?_
      refine at_nil ?_
      refine at_normal ?_
      refine hK15 _ _ _ ?_
      refine at_cond_false rfl ?_
      refine at_seq_k (fun K16 hK16 => ?_)
      refine at_region ?_
      refine at_v (ov_move rfl rfl) rfl rfl rfl ?_
      refine at_v (ov_strL rfl rfl rfl rfl) rfl rfl rfl ?_
      refine at_v (ov_move rfl rfl) rfl rfl rfl ?_
      refine at_reval 115 (.bool true) rfl (congrArg Value.bool (by first | assumption | (rw [Bool.not_eq_true']; exact decide_eq_false (by omega)))) ?_
      refine at_wanted (j := 2) rfl ?_
      refine at_v (ov_move rfl rfl) rfl rfl rfl ?_
      refine at_wanted (j := 2) rfl ?_
      refine at_t (ot_call (ks := []) rfl rfl rfl Tryz.call48 rfl (r6 ) rfl) rfl rfl rfl ?_
      rintro v0 _ ⟨m0, hp0, rfl⟩
      obtain ⟨rfl, rfl⟩ := hp0
      simp only [List.cons_append, List.nil_append, splice, spliceL]
      refine at_wanted (j := 2) rfl ?_
      refine at_v (ov_not rfl rfl) rfl rfl rfl ?_
      refine at_v (ov_pick_t rfl rfl rfl) rfl rfl rfl ?_
      refine at_v (ov_assign rfl rfl) rfl rfl rfl ?_
      refine at_nil ?_
      refine at_normal ?_
      refine hK16 _ _ _ ?_
      refine at_cond_false rfl ?_
      refine at_skip ?_
      refine at_inb_normal ?_
      refine at_normal ?_
      refine hK8 _ _ _ ?_
      refine at_seq_k (fun K17 hK17 => ?_)
      refine at_region ?_
      refine at_v (ov_assign rfl rfl) rfl rfl rfl ?_
      refine at_nil ?_
      refine at_normal ?_
      refine hK17 _ _ _ ?_
      refine at_ret ?_
      refine at_end ?_
      refine at_fin (rsV rfl (res_tmp rfl)) ?_
      refine ⟨_, ⟨by rw [et, q']; rfl, rfl⟩, ?_⟩
      exact fun _ s => s.finEq (ks := []) (js := []) rfl rfl rfl
    | false =>
      rw [q] at r6
      have q' : wordIn l 1 [wAUTOCOMMIT, wGLOBAL, wPERSIST] = false := q
      refine at_seq_k (fun K4 hK4 => ?_)
      refine at_seq_k (fun K5 hK5 => ?_)
      refine at_region ?_
      refine at_v (ov_move rfl rfl) rfl rfl rfl ?_
      refine at_v (ov_move rfl rfl) rfl rfl rfl ?_
      refine at_v (ov_len_slice rfl Tryz.underlying28 rfl) rfl rfl rfl ?_
      refine at_v (ov_int rfl rfl rfl rfl) rfl rfl rfl ?_
      refine at_nil ?_
      refine at_normal ?_
      refine hK5 _ _ _ ?_
      refine at_cond_false (congrArg (fun b => some (Value.bool b)) (show _ = false from decide_eq_false (by omega))) ?_
      refine at_exit ?_
      refine at_then_exit ?_
      refine at_then_exit ?_
      refine at_exit_eq ?_
      refine at_normal ?_
      refine hK2 _ _ _ ?_
      refine at_seq_k (fun K6 hK6 => ?_)
      refine at_region ?_
      refine at_v (ov_move rfl rfl) rfl rfl rfl ?_
      refine at_v (ov_len_slice rfl Tryz.underlying28 rfl) rfl rfl rfl ?_
      refine at_v (ov_int rfl rfl rfl rfl) rfl rfl rfl ?_
      refine at_v (ov_assign rfl rfl) rfl rfl rfl ?_
      refine at_nil ?_
      refine at_normal ?_
      refine hK6 _ _ _ ?_
      refine at_seq_k (fun K7 hK7 => ?_)
      refine at_region ?_
      refine at_v (ov_move rfl rfl) rfl rfl rfl ?_
      refine at_t (ot_call (ks := []) rfl rfl rfl Tryz.call47 rfl (hW1 ) rfl) rfl rfl rfl ?_
      rintro v0 _ ⟨m0, hp0, rfl⟩
      obtain ⟨rfl, rfl⟩ := hp0
      simp only [List.cons_append, List.nil_append, splice, spliceL]
      refine at_v (ov_assign rfl rfl) rfl rfl rfl ?_
      refine at_nil ?_
      refine at_normal ?_
      refine hK7 _ _ _ ?_
      refine at_seq_k (fun K8 hK8 => ?_)
      refine at_block ?_
      refine at_seq_k (fun K9 hK9 => ?_)
      refine at_region ?_
      refine at_v (ov_move rfl rfl) rfl rfl rfl ?_
      refine at_t (ot_call (ks := []) rfl rfl rfl Tryz.call48 rfl (r1 ) rfl) rfl rfl rfl ?_
      rintro v0 _ ⟨m0, hp0, rfl⟩
      obtain ⟨rfl, rfl⟩ := hp0
      simp only [List.cons_append, List.nil_append, splice, spliceL]
      refine at_v (ov_assign rfl rfl) rfl rfl rfl ?_
      refine at_nil ?_
      refine at_normal ?_
      refine hK9 _ _ _ ?_
      refine at_cond_false rfl ?_
      refine at_seq_k (fun K10 hK10 => ?_)
      refine at_region ?_
      refine at_v (ov_move rfl rfl) rfl rfl rfl ?_
      refine at_v (ov_strL rfl rfl rfl rfl) rfl rfl rfl ?_
      refine at_v (ov_assign rfl rfl) rfl rfl rfl ?_
      refine at_nil ?_
      refine at_normal ?_
      refine hK10 _ _ _ ?_
      refine at_cond_false (congrArg (fun b => some (Value.bool b)) (show _ = false from by first | assumption | (rw [Bool.not_eq_false']; exact decide_eq_true (by omega)))) ?_
      refine at_seq_k (fun K11 hK11 => ?_)
      refine at_region ?_
      refine at_v (ov_move rfl rfl) rfl rfl rfl ?_
      refine at_t (ot_call (ks := []) rfl rfl rfl Tryz.call48 rfl (r3 ) rfl) rfl rfl rfl ?_
      rintro v0 _ ⟨m0, hp0, rfl⟩
      obtain ⟨rfl, rfl⟩ := hp0
      simp only [List.cons_append, List.nil_append, splice, spliceL]
      refine at_v (ov_assign rfl rfl) rfl rfl rfl ?_
      refine at_nil ?_
      refine at_normal ?_
      refine hK11 _ _ _ ?_
      refine at_cond_false rfl ?_
      refine at_seq_k (fun K12 hK12 => ?_)
      refine at_region ?_
      refine at_v (ov_move rfl rfl) rfl rfl rfl ?_
      refine at_t (ot_call (ks := []) rfl rfl rfl Tryz.call48 rfl (r4 ) rfl) rfl rfl rfl ?_
      rintro v0 _ ⟨m0, hp0, rfl⟩
      obtain ⟨rfl, rfl⟩ := hp0
      simp only [List.cons_append, List.nil_append, splice, spliceL]
      refine at_v (ov_assign rfl rfl) rfl rfl rfl ?_
      refine at_nil ?_
      refine at_normal ?_
      refine hK12 _ _ _ ?_
      refine at_cond_false rfl ?_
      refine at_seq_k (fun K13 hK13 => ?_)
      refine at_region ?_
      refine at_v (ov_move rfl rfl) rfl rfl rfl ?_
      refine at_v (ov_strL rfl rfl rfl rfl) rfl rfl rfl ?_
      refine at_v (ov_move rfl rfl) rfl rfl rfl ?_
      refine at_reval 62 (.bool false) rfl (congrArg Value.bool (by first | assumption | (rw [Bool.not_eq_false']; exact decide_eq_true (by omega)))) ?_
      refine at_unwanted (j := 2) rfl rfl rfl rfl ?_
      refine at_unwanted (j := 2) rfl rfl rfl rfl ?_
      refine at_unwantedN (j := 4) rfl rfl rfl ?_
      refine at_unwantedN (j := 4) rfl rfl rfl ?_
      refine at_unwantedN (j := 4) rfl rfl rfl ?_
      refine at_unwantedN (j := 4) rfl rfl rfl ?_
      refine at_unwantedN (j := 8) rfl rfl rfl ?_
      refine at_unwantedN (j := 8) rfl rfl rfl ?_
      refine at_unwantedN (j := 4) rfl rfl rfl ?_
      refine at_unwanted (j := 2) rfl rfl rfl rfl ?_
      refine at_v (ov_pick_f rfl rfl rfl) rfl rfl rfl ?_
      refine at_v (ov_move rfl rfl) rfl rfl rfl ?_
      refine at_wanted (j := 14) rfl ?_
      refine at_v (ov_move rfl rfl) rfl rfl rfl ?_
      refine at_wanted (j := 14) rfl ?_
      refine at_v (ov_strL rfl rfl rfl rfl) rfl rfl rfl ?_
      refine at_wanted (j := 14) rfl ?_
      refine at_v (ov_move rfl rfl) rfl rfl rfl ?_
      refine at_reval 77 (.bool false) rfl (congrArg Value.bool (by first | assumption | (rw [Bool.not_eq_false']; exact decide_eq_true (by omega)))) ?_
      refine at_unwanted (j := 17) rfl rfl rfl rfl ?_
      refine at_unwanted (j := 17) rfl rfl rfl rfl ?_
      refine at_wanted (j := 14) rfl ?_
      refine at_v (ov_pick_f rfl rfl rfl) rfl rfl rfl ?_
      refine at_v (ov_pick_f rfl rfl rfl) rfl rfl rfl ?_
      refine at_v (ov_assign rfl rfl) rfl rfl rfl ?_
      refine at_nil ?_
      refine at_normal ?_
      refine hK13 _ _ _ ?_
      refine at_cond_false rfl ?_
      refine at_seq_k (fun K14 hK14 => ?_)
      refine at_region ?_
      refine at_v (ov_move rfl rfl) rfl rfl rfl ?_
      refine at_v (ov_strL rfl rfl rfl rfl) rfl rfl rfl ?_
      refine at_v (ov_move rfl rfl) rfl rfl rfl ?_
      refine at_reval 85 (.bool false) rfl (congrArg Value.bool (by first | assumption | (rw [Bool.not_eq_false']; exact decide_eq_true (by omega)))) ?_
      refine at_unwanted (j := 2) rfl rfl rfl rfl ?_
      refine at_unwanted (j := 2) rfl rfl rfl rfl ?_
      refine at_unwantedN (j := 4) rfl rfl rfl ?_
      refine at_unwantedN (j := 4) rfl rfl rfl ?_
      refine at_unwantedN (j := 4) rfl rfl rfl ?_
      refine at_unwantedN (j := 4) rfl rfl rfl ?_
      refine at_unwantedN (j := 8) rfl rfl rfl ?_
      refine at_unwantedN (j := 8) rfl rfl rfl ?_
      refine at_unwantedN (j := 4) rfl rfl rfl ?_
      refine at_unwanted (j := 2) rfl rfl rfl rfl ?_
      refine at_v (ov_pick_f rfl rfl rfl) rfl rfl rfl ?_
      refine at_v (ov_assign rfl rfl) rfl rfl rfl ?_
      refine at_nil ?_
      refine at_normal ?_
      refine hK14 _ _ _ ?_
      refine at_cond_false rfl ?_
      refine at_seq_k (fun K15 hK15 => ?_)
      refine at_region ?_
      refine at_v (ov_move rfl rfl) rfl rfl rfl ?_
      refine at_v (ov_strL rfl rfl rfl rfl) rfl rfl rfl ?_
      refine at_v (ov_move rfl rfl) rfl rfl rfl ?_
      refine at_reval 100 (.bool false) rfl (congrArg Value.bool (by first | assumption | (rw [Bool.not_eq_false']; exact decide_eq_true (by omega)))) ?_
      refine at_unwanted (j := 2) rfl rfl rfl rfl ?_
      refine at_unwanted (j := 2) rfl rfl rfl rfl ?_
      refine at_unwantedN (j := 4) rfl rfl rfl ?_
      refine at_unwantedN (j := 4) rfl rfl rfl ?_
      refine at_unwantedN (j := 4) rfl rfl rfl ?_
      refine at_unwantedN (j := 4) rfl rfl rfl ?_
      refine at_unwantedN (j := 8) rfl rfl rfl ?_
      refine at_unwantedN (j := 8) rfl rfl rfl ?_
      refine at_unwantedN (j := 4) rfl rfl rfl ?_
      refine at_unwanted (j := 2) rfl rfl rfl rfl ?_
      refine at_v (ov_pick_f rfl rfl rfl) rfl rfl rfl ?_
      refine at_v (ov_assign rfl rfl) rfl rfl rfl ?_
      refine at_nil ?_
      refine at_normal ?_
      refine hK15 _ _ _ ?_
      refine at_cond_false rfl ?_
      refine at_seq_k (fun K16 hK16 => ?_)
      refine at_region ?_
      refine at_v (ov_move rfl rfl) rfl rfl rfl ?_
      refine at_v (ov_strL rfl rfl rfl rfl) rfl rfl rfl ?_
      refine at_v (ov_move rfl rfl) rfl rfl rfl ?_
      refine at_reval 115 (.bool true) rfl (congrArg Value.bool (by first | assumption | (rw [Bool.not_eq_true']; exact decide_eq_false (by omega)))) ?_
      refine at_wanted (j := 2) rfl ?_
      refine at_v (ov_move rfl rfl) rfl rfl rfl ?_
      refine at_wanted (j := 2) rfl ?_
      refine at_t (ot_call (ks := []) rfl rfl rfl Tryz.call48 rfl (r6 ) rfl) rfl rfl rfl ?_
      rintro v0 _ ⟨m0, hp0, rfl⟩
      obtain ⟨rfl, rfl⟩ := hp0
      simp only [List.cons_append, List.nil_append, splice, spliceL]
      refine at_wanted (j := 2) rfl ?_
      refine at_v (ov_not rfl rfl) rfl rfl rfl ?_
      refine at_v (ov_pick_t rfl rfl rfl) rfl rfl rfl ?_
      refine at_v (ov_assign rfl rfl) rfl rfl rfl ?_
      refine at_nil ?_
      refine at_normal ?_
      refine hK16 _ _ _ ?_
      refine at_cond_true rfl ?_
      refine at_seq_k (fun K17 hK17 => ?_)
      refine at_region ?_
      refine at_v (ov_assign rfl rfl) rfl rfl rfl ?_
      refine at_nil ?_
      refine at_normal ?_
      refine hK17 _ _ _ ?_
      refine at_ret ?_
      refine at_inb_ret ?_
      refine at_then_ret ?_
      refine at_end ?_
      refine at_fin (rsV rfl (res_tmp rfl)) ?_
      refine ⟨_, ⟨by rw [et, q']; rfl, rfl⟩, ?_⟩
      exact fun _ s => s.finEq (ks := []) (js := []) rfl rfl rfl
  rw [if_neg cSET] at et
  have fSET : decide (wordAt l 0 = wSET) = false := decide_eq_false cSET
  refine at_seq_k (fun K4 hK4 => ?_)
  refine at_seq_k (fun K5 hK5 => ?_)
  refine at_region ?_
  refine at_v (ov_move rfl rfl) rfl rfl rfl ?_
  refine at_v (ov_move rfl rfl) rfl rfl rfl ?_
  refine at_v (ov_len_slice rfl Tryz.underlying28 rfl) rfl rfl rfl ?_
  refine at_v (ov_int rfl rfl rfl rfl) rfl rfl rfl ?_
  refine at_nil ?_
  refine at_normal ?_
  refine hK5 _ _ _ ?_
  refine at_cond_false (congrArg (fun b => some (Value.bool b)) (show _ = false from decide_eq_false (by omega))) ?_
  refine at_exit ?_
  refine at_then_exit ?_
  refine at_then_exit ?_
  refine at_exit_eq ?_
  refine at_normal ?_
  refine hK2 _ _ _ ?_
  refine at_seq_k (fun K6 hK6 => ?_)
  refine at_region ?_
  refine at_v (ov_move rfl rfl) rfl rfl rfl ?_
  refine at_v (ov_len_slice rfl Tryz.underlying28 rfl) rfl rfl rfl ?_
  refine at_v (ov_int rfl rfl rfl rfl) rfl rfl rfl ?_
  refine at_v (ov_assign rfl rfl) rfl rfl rfl ?_
  refine at_nil ?_
  refine at_normal ?_
  refine hK6 _ _ _ ?_
  refine at_seq_k (fun K7 hK7 => ?_)
  refine at_region ?_
  refine at_v (ov_move rfl rfl) rfl rfl rfl ?_
  refine at_t (ot_call (ks := []) rfl rfl rfl Tryz.call47 rfl (hW1 ) rfl) rfl rfl rfl ?_
  rintro v0 _ ⟨m0, hp0, rfl⟩
  obtain ⟨rfl, rfl⟩ := hp0
  simp only [List.cons_append, List.nil_append, splice, spliceL]
  refine at_v (ov_assign rfl rfl) rfl rfl rfl ?_
  refine at_nil ?_
  refine at_normal ?_
  refine hK7 _ _ _ ?_
  refine at_seq_k (fun K8 hK8 => ?_)
  refine at_block ?_
  refine at_seq_k (fun K9 hK9 => ?_)
  refine at_region ?_
  refine at_v (ov_move rfl rfl) rfl rfl rfl ?_
  refine at_t (ot_call (ks := []) rfl rfl rfl Tryz.call48 rfl (r1 ) rfl) rfl rfl rfl ?_
  rintro v0 _ ⟨m0, hp0, rfl⟩
  obtain ⟨rfl, rfl⟩ := hp0
  simp only [List.cons_append, List.nil_append, splice, spliceL]
  refine at_v (ov_assign rfl rfl) rfl rfl rfl ?_
  refine at_nil ?_
  refine at_normal ?_
  refine hK9 _ _ _ ?_
  refine at_cond_false rfl ?_
  refine at_seq_k (fun K10 hK10 => ?_)
  refine at_region ?_
  refine at_v (ov_move rfl rfl) rfl rfl rfl ?_
  refine at_v (ov_strL rfl rfl rfl rfl) rfl rfl rfl ?_
  refine at_v (ov_assign rfl rfl) rfl rfl rfl ?_
  refine at_nil ?_
  refine at_normal ?_
  refine hK10 _ _ _ ?_
  refine at_cond_false (congrArg (fun b => some (Value.bool b)) (show _ = false from by first | assumption | (rw [Bool.not_eq_false']; exact decide_eq_true (by omega)))) ?_
  refine at_seq_k (fun K11 hK11 => ?_)
  refine at_region ?_
  refine at_v (ov_move rfl rfl) rfl rfl rfl ?_
  refine at_t (ot_call (ks := []) rfl rfl rfl Tryz.call48 rfl (r3 ) rfl) rfl rfl rfl ?_
  rintro v0 _ ⟨m0, hp0, rfl⟩
  obtain ⟨rfl, rfl⟩ := hp0
  simp only [List.cons_append, List.nil_append, splice, spliceL]
  refine at_v (ov_assign rfl rfl) rfl rfl rfl ?_
  refine at_nil ?_
  refine at_normal ?_
  refine hK11 _ _ _ ?_
  refine at_cond_false rfl ?_
  refine at_seq_k (fun K12 hK12 => ?_)
  refine at_region ?_
  refine at_v (ov_move rfl rfl) rfl rfl rfl ?_
  refine at_t (ot_call (ks := []) rfl rfl rfl Tryz.call48 rfl (r4 ) rfl) rfl rfl rfl ?_
  rintro v0 _ ⟨m0, hp0, rfl⟩
  obtain ⟨rfl, rfl⟩ := hp0
  simp only [List.cons_append, List.nil_append, splice, spliceL]
  refine at_v (ov_assign rfl rfl) rfl rfl rfl ?_
  refine at_nil ?_
  refine at_normal ?_
  refine hK12 _ _ _ ?_
  refine at_cond_false rfl ?_
  refine at_seq_k (fun K13 hK13 => ?_)
  refine at_region ?_
  refine at_v (ov_move rfl rfl) rfl rfl rfl ?_
  refine at_v (ov_strL rfl rfl rfl rfl) rfl rfl rfl ?_
  refine at_v (ov_move rfl rfl) rfl rfl rfl ?_
  refine at_reval 62 (.bool false) rfl (congrArg Value.bool (by first | assumption | (rw [Bool.not_eq_false']; exact decide_eq_true (by omega)))) ?_
  refine at_unwanted (j := 2) rfl rfl rfl rfl ?_
  refine at_unwanted (j := 2) rfl rfl rfl rfl ?_
  refine at_unwantedN (j := 4) rfl rfl rfl ?_
  refine at_unwantedN (j := 4) rfl rfl rfl ?_
  refine at_unwantedN (j := 4) rfl rfl rfl ?_
  refine at_unwantedN (j := 4) rfl rfl rfl ?_
  refine at_unwantedN (j := 8) rfl rfl rfl ?_
  refine at_unwantedN (j := 8) rfl rfl rfl ?_
  refine at_unwantedN (j := 4) rfl rfl rfl ?_
  refine at_unwanted (j := 2) rfl rfl rfl rfl ?_
  refine at_v (ov_pick_f rfl rfl rfl) rfl rfl rfl ?_
  refine at_v (ov_move rfl rfl) rfl rfl rfl ?_
  refine at_wanted (j := 14) rfl ?_
  refine at_v (ov_move rfl rfl) rfl rfl rfl ?_
  refine at_wanted (j := 14) rfl ?_
  refine at_v (ov_strL rfl rfl rfl rfl) rfl rfl rfl ?_
  refine at_wanted (j := 14) rfl ?_
  refine at_v (ov_move rfl rfl) rfl rfl rfl ?_
  refine at_reval 77 (.bool false) rfl (congrArg Value.bool (by first | assumption | (rw [Bool.not_eq_false']; exact decide_eq_true (by omega)))) ?_
  refine at_unwanted (j := 17) rfl rfl rfl rfl ?_
  refine at_unwanted (j := 17) rfl rfl rfl rfl ?_
  refine at_wanted (j := 14) rfl ?_
  refine at_v (ov_pick_f rfl rfl rfl) rfl rfl rfl ?_
  refine at_v (ov_pick_f rfl rfl rfl) rfl rfl rfl ?_
  refine at_v (ov_assign rfl rfl) rfl rfl rfl ?_
  refine at_nil ?_
  refine at_normal ?_
  refine hK13 _ _ _ ?_
  refine at_cond_false rfl ?_
  refine at_seq_k (fun K14 hK14 => ?_)
  refine at_region ?_
  refine at_v (ov_move rfl rfl) rfl rfl rfl ?_
  refine at_v (ov_strL rfl rfl rfl rfl) rfl rfl rfl ?_
  refine at_v (ov_move rfl rfl) rfl rfl rfl ?_
  refine at_reval 85 (.bool false) rfl (congrArg Value.bool (by first | assumption | (rw [Bool.not_eq_false']; exact decide_eq_true (by omega)))) ?_
  refine at_unwanted (j := 2) rfl rfl rfl rfl ?_
  refine at_unwanted (j := 2) rfl rfl rfl rfl ?_
  refine at_unwantedN (j := 4) rfl rfl rfl ?_
  refine at_unwantedN (j := 4) rfl rfl rfl ?_
  refine at_unwantedN (j := 4) rfl rfl rfl ?_
  refine at_unwantedN (j := 4) rfl rfl rfl ?_
  refine at_unwantedN (j := 8) rfl rfl rfl ?_
  refine at_unwantedN (j := 8) rfl rfl rfl ?_
  refine at_unwantedN (j := 4) rfl rfl rfl ?_
  refine at_unwanted (j := 2) rfl rfl rfl rfl ?_
  refine at_v (ov_pick_f rfl rfl rfl) rfl rfl rfl ?_
  refine at_v (ov_assign rfl rfl) rfl rfl rfl ?_
  refine at_nil ?_
  refine at_normal ?_
  refine hK14 _ _ _ ?_
  refine at_cond_false rfl ?_
  refine at_seq_k (fun K15 hK15 => ?_)
  refine at_region ?_
  refine at_v (ov_move rfl rfl) rfl rfl rfl ?_
  refine at_v (ov_strL rfl rfl rfl rfl) rfl rfl rfl ?_
  refine at_v (ov_move rfl rfl) rfl rfl rfl ?_
  refine at_reval 100 (.bool false) rfl (congrArg Value.bool (by first | assumption | (rw [Bool.not_eq_false']; exact decide_eq_true (by omega)))) ?_
  refine at_unwanted (j := 2) rfl rfl rfl rfl ?_
  refine at_unwanted (j := 2) rfl rfl rfl rfl ?_
  refine at_unwantedN (j := 4) rfl rfl rfl ?_
  refine at_unwantedN (j := 4) rfl rfl rfl ?_
  refine at_unwantedN (j := 4) rfl rfl rfl ?_
  refine at_unwantedN (j := 4) rfl rfl rfl ?_
  refine at_unwantedN (j := 8) rfl rfl rfl ?_
  refine at_unwantedN (j := 8) rfl rfl rfl ?_
  refine at_unwantedN (j := 4) rfl rfl rfl ?_
  refine at_unwanted (j := 2) rfl rfl rfl rfl ?_
  refine at_v (ov_pick_f rfl rfl rfl) rfl rfl rfl ?_
  refine at_v (ov_assign rfl rfl) rfl rfl rfl ?_
  refine at_nil ?_
  refine at_normal ?_
  refine hK15 _ _ _ ?_
  refine at_cond_false rfl ?_
  refine at_seq_k (fun K16 hK16 => ?_)
  refine at_region ?_
  refine at_v (ov_move rfl rfl) rfl rfl rfl ?_
  refine at_v (ov_strL rfl rfl rfl rfl) rfl rfl rfl ?_
  refine at_v (ov_move rfl rfl) rfl rfl rfl ?_
  refine at_reval 115 (.bool false) rfl (congrArg Value.bool (by first | assumption | (rw [Bool.not_eq_false']; exact decide_eq_true (by omega)))) ?_
  refine at_unwanted (j := 2) rfl rfl rfl rfl ?_
  refine at_unwanted (j := 2) rfl rfl rfl rfl ?_
  refine at_unwanted (j := 2) rfl rfl rfl rfl ?_
  refine at_v (ov_pick_f rfl rfl rfl) rfl rfl rfl ?_
  refine at_v (ov_assign rfl rfl) rfl rfl rfl ?_
  refine at_nil ?_
  refine at_normal ?_
  refine hK16 _ _ _ ?_
  refine at_cond_false rfl ?_
  refine at_skip ?_
  refine at_inb_normal ?_
  refine at_normal ?_
  refine hK8 _ _ _ ?_
  refine at_seq_k (fun K17 hK17 => ?_)
  refine at_region ?_
  refine at_v (ov_assign rfl rfl) rfl rfl rfl ?_
  refine at_nil ?_
  refine at_normal ?_
  refine hK17 _ _ _ ?_
  refine at_ret ?_
  refine at_end ?_
  refine at_fin (rsV rfl (res_tmp rfl)) ?_
  refine ⟨_, ⟨by rw [et], rfl⟩, ?_⟩
  exact fun _ s => s.finEq (ks := []) (js := []) rfl rfl rfl
theorem T29 (w0 : World) : ∀ (f : Nat) {A : Option Addr} {c : Nat} {l : List Tok}, l.length ≤ f → Rd tE w0 2 A l → l.length ≤ 10000 → l.length ≤ c → Good l → (∀ t ∈ l, t.2.length ≤ 10000) →
    Tri Tryz.prog w0 29 [.slice A l.length c] [] fun v m => v = .int .i64 (tokN (f + 1) l) ∧ m = [] := by
  intro f
  induction f with
  | zero => intro A c l h hr hm hc hg ht; exact ref_tokens_step w0 hr hm hc hg ht (fun h2 => absurd h2 (by omega))
  | succ f ih =>
    intro A c l h hr hm hc hg ht
    refine ref_tokens_step w0 hr hm hc hg ht (fun h2 => ?_)
    have := ih (A := dropA A c 2 2) (c := c - 2) (l := l.drop 2) (by rw [List.length_drop]; omega) (hr.dropA hc 2) (by rw [List.length_drop]; omega) (by rw [List.length_drop]; omega) (hg.drop 2) (fun t h => ht t (List.mem_of_mem_drop h))
    exact this
end Go.Proofs.YtgclahlbifbgdaaGreatDoor
