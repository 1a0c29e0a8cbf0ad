/- The reference of tally, walked; awake, large. -/
import Derived.Test.YtbcackbjajlohaaDoorProg
import Derived.Test.YtbcackbjajlohaaDoorTally2
import Derived.Lib.ItoaMem
import Derived.Test.YtbcackbjajlohaaDoorSLStr
import Derived.KernelRfl
set_option linter.unusedSimpArgs false
set_option linter.unusedVariables false
set_option maxRecDepth 100000
namespace Go.Proofs.YtbcackbjajlohaaDoor
open Go Go.Proofs.YtbcackbjajlohaaDoor.SL Go.RowKit
def cE (n : Int) : List Value := [.int .i64 n]
/-- The reference's tally. -/
def RefT (g : Nat) (l : List ByteArray) (cs : List Int) : HP := fun h => ∃ NA, ∃ nc, ∃ CA, ∃ cc, (l.length ≤ 100 ∧ cs.length = l.length) ∧
  star [cl g #[.slice NA l.length nc, .slice CA cs.length cc] 34, Row sE 9 1 NA nc l, Row cE 2 1 CA cc cs] h
theorem at_ref {w0 : World} {n : Nat} {ds : List Deferred} {R : Act → World → Prop} {env : Env} {l : List HP} {g : Nat} {ls : List ByteArray} {cs : List Int}
    (k : ∀ NA nc CA cc, ls.length ≤ 100 → cs.length = ls.length → At w0 n ds R env (cl g #[.slice NA ls.length nc, .slice CA cs.length cc] 34 :: Row sE 9 1 NA nc ls :: Row cE 2 1 CA cc cs :: l)) : At w0 n ds R env (RefT g ls cs :: l) :=
  at_ex fun NA => at_ex fun nc => at_ex fun CA => at_ex fun cc => at_and fun ⟨h1, h2⟩ => at_open (k NA nc CA cc h1 h2)
theorem T21 (w0 : World) {g : Nat} {V : Value} {A : Option Addr} {c : Nat} {xs : List ByteArray} (s : ByteArray) (hm : xs.length ≤ 100) :
    Tri Tryd.prog w0 21 [ptrTo g, .string s] [cl g #[.slice A xs.length c, V] 34, Row sE 9 1 A c xs] fun v m => v = .int .i64 (idxV xs s) ∧ m = [cl g #[.slice A xs.length c, V] 34, Row sE 9 1 A c xs] := by
  refine tri_of Tryd.func21 rfl rfl fun F => ?_
  simp only [Tryd.ntmps21, argEnv, List.cons_append, List.nil_append]
  refine at_seq_k (fun K0 hK0 => ?_)
  refine at_region ?_
  refine at_v (ov_assign rfl rfl) rfl rfl rfl ?_
  refine at_nil ?_
  refine at_normal ?_
  refine hK0 _ _ _ ?_
  refine at_seq_k (fun K1 hK1 => ?_)
  refine at_seq_k (fun K2 hK2 => ?_)
  refine at_region ?_
  refine at_v (ov_assign rfl rfl) rfl rfl rfl ?_
  refine at_nil ?_
  refine at_normal ?_
  refine hK2 _ _ _ ?_
  refine at_block ?_
  refine at_loopE [6, 7, 8, 9, 10, 11, 12, 15, 16, 17, 18, 19, 20, 21, 22, 23, 24, 4, 13, 14, 5] (fun k => k ≤ xs.length ∧ s ∉ xs.take k) (fun k => [(5, .int .i64 (k : Nat))]) (fun _ l => l) (fun k => xs.length - k) 0 ⟨Nat.zero_le _, by simp⟩ ⟨rfl, trivial⟩ (fun _ s => s) ?_
  rintro k ⟨hk, hb⟩
  refine at_seq_k (fun K3 hK3 => ?_)
  refine at_seq_k (fun K4 hK4 => ?_)
  refine at_region ?_
  refine at_v (ov_move rfl rfl) rfl rfl rfl ?_
  refine at_v (ov_move rfl rfl) rfl rfl rfl ?_
  refine at_v (ov_nilCheck rfl rfl) rfl rfl rfl ?_
  refine at_v (ov_fieldAddr (k := 0) (r := 0) rfl rfl rfl rfl) rfl rfl rfl ?_
  refine at_v (ov_load rfl rfl rfl (fun _ s => s.ld (k := 0) rfl rfl)) rfl rfl rfl ?_
  refine at_v (ov_len_slice rfl Tryd.underlying22 rfl) rfl rfl rfl ?_
  refine at_v (ov_int rfl rfl rfl rfl) rfl rfl rfl ?_
  refine at_nil ?_
  refine at_normal ?_
  refine hK4 _ _ _ ?_
  refine at_cond rfl (fun hc => ?_) (fun hc => ?_)
  · have hlt : k < xs.length := by simpa using hc
    obtain ⟨x, hget⟩ : ∃ x, xs[k]? = some x := ⟨_, List.getElem?_eq_getElem hlt⟩
    by_cases he : x = s
    · have hi : decide (x = s) = true := decide_eq_true he
      have hp := posS_hit (he ▸ hget) hb
      refine at_skip ?_
      refine at_normal ?_
      refine hK3 _ _ _ ?_
      refine at_seq_k (fun K5 hK5 => ?_)
      refine at_block ?_
      refine at_seq_k (fun K6 hK6 => ?_)
      refine at_region ?_
      refine at_v (ov_move rfl rfl) rfl rfl rfl ?_
      refine at_v (ov_nilCheck rfl rfl) rfl rfl rfl ?_
      refine at_v (ov_fieldAddr (k := 0) (r := 0) rfl rfl rfl rfl) rfl rfl rfl ?_
      refine at_v (ov_load rfl rfl rfl (fun _ s => s.ld (k := 0) rfl rfl)) rfl rfl rfl ?_
      refine at_v (ov_move rfl rfl) rfl rfl rfl ?_
      refine at_v (ov_indexRd (fun _ s => s.rd (k := 1) rfl) rfl Tryd.underlying22 rfl rfl rfl hget) rfl rfl rfl ?_
      refine at_v (ov_loadRd0 (fun _ s => s.rd (k := 1) rfl) rfl rfl rfl hget rfl) rfl rfl rfl ?_
      refine at_v (ov_move rfl rfl) rfl rfl rfl ?_
      refine at_v (ov_str rfl rfl rfl rfl) rfl rfl rfl ?_
      refine at_nil ?_
      refine at_normal ?_
      refine hK6 _ _ _ ?_
      refine at_cond_true (congrArg (fun b => some (Value.bool b)) (show _ = true from decide_eq_true (by omega))) ?_
      refine at_seq_k (fun K7 hK7 => ?_)
      refine at_region ?_
      refine at_v (ov_move rfl rfl) rfl rfl rfl ?_
      refine at_v (ov_assign rfl rfl) rfl rfl rfl ?_
      refine at_nil ?_
      refine at_normal ?_
      refine hK7 _ _ _ ?_
      refine at_ret ?_
      refine at_inb_ret ?_
      refine at_then_ret ?_
      refine at_then_ret ?_
      refine at_inb_ret ?_
      refine at_then_ret ?_
      refine at_end ?_
      refine at_fin (rsV rfl (res_tmp rfl)) ?_
      refine ⟨_, ⟨by simp [idxV, hp], rfl⟩, ?_⟩
      exact fun _ s => s.finEq (ks := [0, 0]) (js := []) rfl rfl rfl
    · have hi : decide (x = s) = false := decide_eq_false he
      have hnx := take_succ_mem hget hb he
      refine at_skip ?_
      refine at_normal ?_
      refine hK3 _ _ _ ?_
      refine at_seq_k (fun K5 hK5 => ?_)
      refine at_block ?_
      refine at_seq_k (fun K6 hK6 => ?_)
      refine at_region ?_
      refine at_v (ov_move rfl rfl) rfl rfl rfl ?_
      refine at_v (ov_nilCheck rfl rfl) rfl rfl rfl ?_
      refine at_v (ov_fieldAddr (k := 0) (r := 0) rfl rfl rfl rfl) rfl rfl rfl ?_
      refine at_v (ov_load rfl rfl rfl (fun _ s => s.ld (k := 0) rfl rfl)) rfl rfl rfl ?_
      refine at_v (ov_move rfl rfl) rfl rfl rfl ?_
      refine at_v (ov_indexRd (fun _ s => s.rd (k := 1) rfl) rfl Tryd.underlying22 rfl rfl rfl hget) rfl rfl rfl ?_
      refine at_v (ov_loadRd0 (fun _ s => s.rd (k := 1) rfl) rfl rfl rfl hget rfl) rfl rfl rfl ?_
      refine at_v (ov_move rfl rfl) rfl rfl rfl ?_
      refine at_v (ov_str rfl rfl rfl rfl) rfl rfl rfl ?_
      refine at_nil ?_
      refine at_normal ?_
      refine hK6 _ _ _ ?_
      refine at_cond_false (congrArg (fun b => some (Value.bool b)) (show _ = false from decide_eq_false (by omega))) ?_
      refine at_skip ?_
      refine at_inb_normal ?_
      refine at_normal ?_
      refine hK5 _ _ _ ?_
      refine at_region ?_
      refine at_v (ov_move rfl rfl) rfl rfl rfl ?_
      refine at_v ((ov_int rfl rfl rfl rfl).eq (congrArg (Value.int .i64) (inK_i64 (by omega) (by omega)))) rfl rfl rfl ?_
      refine at_v (ov_assign rfl rfl) rfl rfl rfl ?_
      refine at_nil ?_
      refine at_normal ?_
      refine at_roundF (k + 1) ⟨hlt, hnx⟩ (by omega) ⟨rfl, trivial⟩ rfl ?_
      exact fun _ s => s.finEq (ks := [0, 0]) (js := []) rfl rfl rfl
  · have hk2 : k = xs.length := by
      have : ¬ k < xs.length := by simpa using hc
      omega
    subst hk2
    rw [List.take_length] at hb
    have hp := posS_miss hb
    refine at_exit ?_
    refine at_then_exit ?_
    refine at_then_exit ?_
    refine at_exit_eq ?_
    refine at_normal ?_
    refine hK1 _ _ _ ?_
    refine at_seq_k (fun K5 hK5 => ?_)
    refine at_region ?_
    refine at_v (ov_assign rfl rfl) rfl rfl rfl ?_
    refine at_nil ?_
    refine at_normal ?_
    refine hK5 _ _ _ ?_
    refine at_ret ?_
    refine at_end ?_
    refine at_fin (rsV rfl (res_tmp rfl)) ?_
    refine ⟨_, ⟨by simp [idxV, hp], rfl⟩, ?_⟩
    exact fun _ s => s.finEq (ks := [0, 0]) (js := []) rfl rfl rfl
theorem T9 (w0 : World) {A : Option Addr} {c : Nat} {xs : List ByteArray} (hr : Rd sE w0 1 A xs) (hm : xs.length ≤ 100) :
    Tri Tryd.prog w0 9 [.slice A xs.length c] [] fun v m => ∃ g, v = ptrTo g ∧ m = [RefT g (uniqL xs) (List.replicate (uniqL xs).length 0)] := by
  refine tri_of Tryd.func9 rfl rfl fun F => ?_
  simp only [Tryd.ntmps9, argEnv, List.nil_append]
  refine at_rowNil sE 9 1 ?_
  refine at_rowNil cE 2 1 ?_
  refine at_seq_k (fun K0 hK0 => ?_)
  refine at_region ?_
  refine at_v (ov_assign rfl rfl) rfl rfl rfl ?_
  refine at_nil ?_
  refine at_normal ?_
  refine hK0 _ _ _ ?_
  refine at_seq_k (fun K1 hK1 => ?_)
  refine at_region ?_
  refine at_v (ov_build (cs := [_, _]) rfl rfl rfl rfl) rfl rfl rfl ?_
  refine at_t (ot_boxA rfl rfl) rfl rfl rfl ?_
  rintro _ _ ⟨g0, rfl, rfl⟩
  refine at_v (ov_assign rfl rfl) rfl rfl rfl ?_
  refine at_nil ?_
  refine at_normal ?_
  refine hK1 _ _ _ ?_
  refine at_seq_k (fun K2 hK2 => ?_)
  refine at_seq_k (fun K3 hK3 => ?_)
  refine at_region ?_
  refine at_v (ov_assign rfl rfl) rfl rfl rfl ?_
  refine at_nil ?_
  refine at_normal ?_
  refine hK3 _ _ _ ?_
  refine at_block ?_
  refine at_loopE [7, 8, 9, 10, 13, 14, 15, 16, 17, 18, 19, 20, 21, 22, 23, 24, 25, 26, 27, 28, 29, 30, 31, 32, 33, 34, 35, 36, 37, 38, 39, 40, 41, 11, 12, 4] (fun i : Nat × Option Addr × Nat × Option Addr × Nat => i.1 ≤ xs.length) (fun i => [(4, .int .i64 (i.1 : Nat))]) (fun i m => setAt 0 (cl g0 #[.slice i.2.1 (uniqL (xs.take i.1)).length i.2.2.1, .slice i.2.2.2.1 (List.replicate (uniqL (xs.take i.1)).length (0 : Int)).length i.2.2.2.2] 34) (setAt 1 (Row cE 2 1 i.2.2.2.1 i.2.2.2.2 (List.replicate (uniqL (xs.take i.1)).length 0)) (setAt 2 (Row sE 9 1 i.2.1 i.2.2.1 (uniqL (xs.take i.1))) m))) (fun i => xs.length - i.1) (0, none, 0, none, 0) (Nat.zero_le _) ⟨rfl, trivial⟩ (fun _ s => s) ?_
  rintro ⟨k, A1, c1, A2, c2⟩ hk
  simp only [setAt] at hk ⊢
  have hul := uniq_len (xs.take k)
  have htk : (xs.take k).length ≤ 100 := by rw [List.length_take]; omega
  have hu100 : (uniqL (xs.take k)).length ≤ 100 := by omega
  have hrep : (List.replicate (uniqL (xs.take k)).length (0 : Int)).length = (uniqL (xs.take k)).length := by simp
  refine at_seq_k (fun K4 hK4 => ?_)
  refine at_seq_k (fun K5 hK5 => ?_)
  refine at_region ?_
  refine at_v (ov_move rfl rfl) rfl rfl rfl ?_
  refine at_v (ov_move rfl rfl) rfl rfl rfl ?_
  refine at_v (ov_len_slice rfl Tryd.underlying22 rfl) rfl rfl rfl ?_
  refine at_v (ov_int rfl rfl rfl rfl) rfl rfl rfl ?_
  refine at_nil ?_
  refine at_normal ?_
  refine hK5 _ _ _ ?_
  refine at_cond rfl (fun hc => ?_) (fun hc => ?_)
  · have hlt : k < xs.length := by simpa using hc
    obtain ⟨x, hget⟩ : ∃ x, xs[k]? = some x := ⟨_, List.getElem?_eq_getElem hlt⟩
    have hs := uniq_succ hget
    cases hp : posS (uniqL (xs.take k)) x with
    | some j =>
      have e : uniqL (xs.take (k + 1)) = uniqL (xs.take k) := by rw [hs]; simp [uniq1, hp]
      have hi : decide (idxV (uniqL (xs.take k)) x < 0) = false := by simp [idxV, hp]
      refine at_skip ?_
      refine at_normal ?_
      refine hK4 _ _ _ ?_
      refine at_seq_k (fun K6 hK6 => ?_)
      refine at_block ?_
      refine at_seq_k (fun K7 hK7 => ?_)
      refine at_region ?_
      refine at_v (ov_move rfl rfl) rfl rfl rfl ?_
      refine at_v (ov_move rfl rfl) rfl rfl rfl ?_
      refine at_v (ov_move rfl rfl) rfl rfl rfl ?_
      refine at_v (ov_indexRd (fun _ s => hr.up s) rfl Tryd.underlying22 rfl rfl rfl hget) rfl rfl rfl ?_
      refine at_v (ov_loadRd0 (fun _ s => hr.up s) rfl rfl rfl hget rfl) rfl rfl rfl ?_
      refine at_t (ot_call (ks := [0, 1]) rfl rfl rfl Tryd.call21 rfl (T21 _ _ (by first | assumption | rfl | omega | decide | (simp; done) | (simp at *; omega))) rfl) rfl rfl rfl ?_
      rintro v0 _ ⟨m0, hp0, rfl⟩
      obtain ⟨rfl, rfl⟩ := hp0
      simp only [List.cons_append, List.nil_append, splice, spliceL]
      refine at_v (ov_int rfl rfl rfl rfl) rfl rfl rfl ?_
      refine at_nil ?_
      refine at_normal ?_
      refine hK7 _ _ _ ?_
      refine at_cond_false (congrArg (fun b => some (Value.bool b)) (show _ = false from by first | assumption | (rw [Bool.not_eq_false']; exact decide_eq_true (by omega)))) ?_
      refine at_skip ?_
      refine at_inb_normal ?_
      refine at_normal ?_
      refine hK6 _ _ _ ?_
      refine at_region ?_
      refine at_v (ov_move rfl rfl) rfl rfl rfl ?_
      refine at_v ((ov_int rfl rfl rfl rfl).eq (congrArg (Value.int .i64) (inK_i64 (by omega) (by omega)))) rfl rfl rfl ?_
      refine at_v (ov_assign rfl rfl) rfl rfl rfl ?_
      refine at_nil ?_
      refine at_normal ?_
      refine at_roundF (k + 1, A1, c1, A2, c2) hlt (by simp only; omega) ⟨rfl, trivial⟩ rfl ?_
      simp only [e]
      exact fun _ s => s.finEq (ks := [0, 1, 0]) (js := []) rfl rfl rfl
    | none =>
      have e : uniqL (xs.take (k + 1)) = uniqL (xs.take k) ++ [x] := by rw [hs]; simp [uniq1, hp]
      have hi : decide (idxV (uniqL (xs.take k)) x < 0) = true := by simp [idxV, hp]
      have e2 : List.replicate (uniqL (xs.take k) ++ [x]).length (0 : Int) = List.replicate (uniqL (xs.take k)).length (0 : Int) ++ [0] := by simp [List.replicate_succ']
      refine at_skip ?_
      refine at_normal ?_
      refine hK4 _ _ _ ?_
      refine at_seq_k (fun K6 hK6 => ?_)
      refine at_block ?_
      refine at_seq_k (fun K7 hK7 => ?_)
      refine at_region ?_
      refine at_v (ov_move rfl rfl) rfl rfl rfl ?_
      refine at_v (ov_move rfl rfl) rfl rfl rfl ?_
      refine at_v (ov_move rfl rfl) rfl rfl rfl ?_
      refine at_v (ov_indexRd (fun _ s => hr.up s) rfl Tryd.underlying22 rfl rfl rfl hget) rfl rfl rfl ?_
      refine at_v (ov_loadRd0 (fun _ s => hr.up s) rfl rfl rfl hget rfl) rfl rfl rfl ?_
      refine at_t (ot_call (ks := [0, 1]) rfl rfl rfl Tryd.call21 rfl (T21 _ _ (by first | assumption | rfl | omega | decide | (simp; done) | (simp at *; omega))) rfl) rfl rfl rfl ?_
      rintro v0 _ ⟨m0, hp0, rfl⟩
      obtain ⟨rfl, rfl⟩ := hp0
      simp only [List.cons_append, List.nil_append, splice, spliceL]
      refine at_v (ov_int rfl rfl rfl rfl) rfl rfl rfl ?_
      refine at_nil ?_
      refine at_normal ?_
      refine hK7 _ _ _ ?_
      refine at_cond_true (congrArg (fun b => some (Value.bool b)) (show _ = true from by first | assumption | (rw [Bool.not_eq_true']; exact decide_eq_false (by omega)))) ?_
      refine at_seq_k (fun K8 hK8 => ?_)
      refine at_draw _ [] 13 [(2, 0), (2, 1), (2, 2), (2, 3), (1, 4), (2, 5), (2, 6), (1, 7), (1, 8), (0, 9), (0, 10), (2, 11), (2, 12), (3, 13)] (by kernel_rfl) (by kernel_rfl) (fun _ s => (s.pulls (ks := [0]) rfl).left) ?_
      refine aq_p (ov_move rfl rfl) rfl rfl rfl ?_
      refine aq_p (ov_move rfl rfl) rfl rfl rfl ?_
      refine aq_p (ov_nilCheck rfl rfl) rfl rfl rfl ?_
      refine aq_p (ov_fieldAddr (k := 0) (r := 0) rfl rfl rfl rfl) rfl rfl rfl ?_
      refine aq_v (ov_load rfl rfl rfl (fun _ s => s.ld (k := 0) rfl rfl)) rfl rfl rfl ?_
      refine aq_p (ov_move rfl rfl) rfl rfl rfl ?_
      refine aq_p (ov_move rfl rfl) rfl rfl rfl ?_
      refine aq_v (ov_indexRd (fun _ s => hr.up s) rfl Tryd.underlying22 rfl rfl rfl hget) rfl rfl rfl ?_
      refine aq_v (ov_loadRd0 (fun _ s => hr.up s) rfl rfl rfl hget rfl) rfl rfl rfl ?_
      refine aq_t (ot_buildSlice (cs := [_]) rfl Tryd.underlying22 rfl rfl rfl rfl rfl rfl) rfl rfl rfl ?_
      rintro _ _ ⟨g1, rfl, rfl⟩
      refine ⟨fun _ s => (s.pulls (ks := [1]) rfl).left, ?_⟩
      refine aq_t (ot_append (k := 2) (size := 1) (bytes := 16) (ys := [x]) (fun _ s => s.rdPt (k := 0) rfl rfl (by simp [sE])) rfl Tryd.underlying22 (ti := Tryd.t9) rfl rfl rfl rfl rfl (by decide) rfl rfl rfl (by simp [sE, Value.oneCell']) (by simp; omega) (by decide)) rfl rfl rfl ?_
      rintro _ _ ⟨A0, c0, rfl, rfl⟩
      simp only [setAt]
      refine ⟨fun _ s => (s.pulls (ks := [1]) rfl).left, ?_⟩
      refine aq_p (ov_nilCheck rfl rfl) rfl rfl rfl ?_
      refine aq_p (ov_fieldAddr (k := 0) (r := 0) rfl rfl rfl rfl) rfl rfl rfl ?_
      refine aq_b0 (ot_store (k := 1) rfl rfl rfl rfl rfl rfl rfl) rfl rfl ?_
      rintro _ _ ⟨rfl, rfl⟩
      simp only [setAt, splice, spliceL, Value.cells]
      refine ⟨fun _ s => (s.pulls (ks := []) rfl).left, ?_⟩
      refine aq_nil ?_
      refine at_normal ?_
      refine hK8 _ _ _ ?_
      refine at_region ?_
      refine at_v (ov_move rfl rfl) rfl rfl rfl ?_
      refine at_v (ov_move rfl rfl) rfl rfl rfl ?_
      refine at_v (ov_nilCheck rfl rfl) rfl rfl rfl ?_
      refine at_v (ov_fieldAddr (k := 1) (r := 1) rfl rfl rfl rfl) rfl rfl rfl ?_
      refine at_v (ov_load rfl rfl rfl (fun _ s => s.ld (k := 1) rfl rfl)) rfl rfl rfl ?_
      refine at_t (ot_buildSlice (cs := [_]) rfl Tryd.underlying32 rfl rfl rfl rfl rfl rfl) rfl rfl rfl ?_
      rintro _ _ ⟨g2, rfl, rfl⟩
      refine at_t (ot_append (k := 4) (size := 1) (bytes := 8) (ys := [(0 : Int)]) (fun _ s => s.rdPt (k := 0) rfl rfl (by simp [cE])) rfl Tryd.underlying32 (ti := Tryd.t2) rfl rfl rfl rfl rfl (by decide) rfl rfl rfl (by simp [cE, Value.oneCell']) (by simp; omega) (by decide)) rfl rfl rfl ?_
      rintro _ _ ⟨A3, c3, rfl, rfl⟩
      simp only [setAt]
      refine at_v (ov_nilCheck rfl rfl) rfl rfl rfl ?_
      refine at_v (ov_fieldAddr (k := 1) (r := 1) rfl rfl rfl rfl) rfl rfl rfl ?_
      refine at_t0 (ot_store (k := 2) rfl rfl rfl rfl rfl rfl rfl) rfl rfl ?_
      rintro _ _ ⟨rfl, rfl⟩
      simp only [setAt, splice, spliceL, Value.cells]
      refine at_nil ?_
      refine at_inb_normal ?_
      refine at_normal ?_
      refine hK6 _ _ _ ?_
      refine at_region ?_
      refine at_v (ov_move rfl rfl) rfl rfl rfl ?_
      refine at_v ((ov_int rfl rfl rfl rfl).eq (congrArg (Value.int .i64) (inK_i64 (by omega) (by omega)))) rfl rfl rfl ?_
      refine at_v (ov_assign rfl rfl) rfl rfl rfl ?_
      refine at_nil ?_
      refine at_normal ?_
      refine at_roundF (k + 1, A0, c0, A3, c3) hlt (by simp only; omega) ⟨rfl, trivial⟩ rfl ?_
      simp only [e, e2]
      exact fun _ s => s.finEq (ks := [2, 3, 2]) (js := [0, 0]) rfl rfl rfl
  · have hk2 : k = xs.length := by
      have : ¬ k < xs.length := by simpa using hc
      omega
    subst hk2
    rw [List.take_length] at hul hu100 hrep ⊢
    refine at_exit ?_
    refine at_then_exit ?_
    refine at_then_exit ?_
    refine at_exit_eq ?_
    refine at_normal ?_
    refine hK2 _ _ _ ?_
    refine at_seq_k (fun K6 hK6 => ?_)
    refine at_region ?_
    refine at_v (ov_move rfl rfl) rfl rfl rfl ?_
    refine at_v (ov_assign rfl rfl) rfl rfl rfl ?_
    refine at_nil ?_
    refine at_normal ?_
    refine hK6 _ _ _ ?_
    refine at_ret ?_
    refine at_end ?_
    refine at_fold (A := RefT g0 (uniqL xs) (List.replicate (uniqL xs).length 0)) [0, 1, 0] rfl (fun h s => ⟨A1, c1, A2, c2, ⟨hu100, hrep⟩, s⟩) ?_
    refine at_fin (rsV rfl (res_tmp rfl)) ?_
    refine ⟨_, ⟨_, rfl, rfl⟩, ?_⟩
    exact fun _ s => s.finEq (ks := [0]) (js := []) rfl rfl rfl
theorem idxV_neg {l : List ByteArray} {s : ByteArray} (h : posS l s = none) : idxV l s = -1 := by simp [idxV, h]
theorem idxV_pos {l : List ByteArray} {s : ByteArray} {k : Nat} (h : posS l s = some k) : idxV l s = (k : Nat) := by simp [idxV, h]
theorem T13 (w0 : World) {g : Nat} {l : List ByteArray} {cs : List Int} (s : ByteArray) (d : Int) :
    Tri Tryd.prog w0 13 [ptrTo g, .string s, .int .i64 d] [RefT g l cs] fun v m => v = .bool (cntOf l cs s).isSome ∧ m = [RefT g l (addC l cs s d)] := by
  refine tri_of Tryd.func13 rfl rfl fun F => ?_
  simp only [Tryd.ntmps13, argEnv, List.cons_append, List.nil_append]
  refine at_ref fun NA nc CA cc hl hc => ?_
  cases hp : posS l s with
  | none =>
    have ho := cntOf_none (cs := cs) hp
    have hi : decide (idxV l s < 0) = true := by simp [idxV, hp]
    refine at_seq_k (fun K0 hK0 => ?_)
    refine at_region ?_
    refine at_v (ov_assign rfl rfl) rfl rfl rfl ?_
    refine at_nil ?_
    refine at_normal ?_
    refine hK0 _ _ _ ?_
    refine at_seq_k (fun K1 hK1 => ?_)
    refine at_region ?_
    refine at_v (ov_move rfl rfl) rfl rfl rfl ?_
    refine at_v (ov_move rfl rfl) rfl rfl rfl ?_
    refine at_t (ot_call (ks := [0, 0]) rfl rfl rfl Tryd.call21 rfl (T21 _ _ (by first | assumption | rfl | omega | decide | (simp; done) | (simp at *; omega))) rfl) rfl rfl rfl ?_
    rintro v0 _ ⟨m0, hp0, rfl⟩
    obtain ⟨rfl, rfl⟩ := hp0
    simp only [List.cons_append, List.nil_append, splice, spliceL]
    refine at_v (ov_assign rfl rfl) rfl rfl rfl ?_
    refine at_nil ?_
    refine at_normal ?_
    refine hK1 _ _ _ ?_
    refine at_seq_k (fun K2 hK2 => ?_)
    refine at_seq_k (fun K3 hK3 => ?_)
    refine at_region ?_
    refine at_v (ov_move rfl rfl) rfl rfl rfl ?_
    refine at_v (ov_int rfl rfl rfl rfl) rfl rfl rfl ?_
    refine at_nil ?_
    refine at_normal ?_
    refine hK3 _ _ _ ?_
    refine at_cond_true (congrArg (fun b => some (Value.bool b)) (show _ = true from by first | assumption | (rw [Bool.not_eq_true']; exact decide_eq_false (by omega)))) ?_
    refine at_seq_k (fun K4 hK4 => ?_)
    refine at_region ?_
    refine at_v (ov_assign rfl rfl) rfl rfl rfl ?_
    refine at_nil ?_
    refine at_normal ?_
    refine hK4 _ _ _ ?_
    refine at_ret ?_
    refine at_then_ret ?_
    refine at_end ?_
    simp only [addC, ho]
    refine at_fold (A := RefT g l cs) [0, 0, 0] rfl (fun h s => ⟨NA, nc, CA, cc, ⟨hl, hc⟩, s⟩) ?_
    refine at_fin (rsV rfl (res_tmp rfl)) ?_
    refine ⟨_, ⟨rfl, rfl⟩, ?_⟩
    exact fun _ s => s.finEq (ks := [0]) (js := []) rfl rfl rfl
  | some k =>
    obtain ⟨n, hk, ho⟩ := cntOf_some (cs := cs) hp hc
    have hlt : k < cs.length := (List.getElem?_eq_some_iff.1 hk).1
    have hi := idxV_pos hp
    have hi2 : decide (idxV l s < 0) = false := by simp [idxV, hp]
    refine at_seq_k (fun K0 hK0 => ?_)
    refine at_region ?_
    refine at_v (ov_assign rfl rfl) rfl rfl rfl ?_
    refine at_nil ?_
    refine at_normal ?_
    refine hK0 _ _ _ ?_
    refine at_seq_k (fun K1 hK1 => ?_)
    refine at_region ?_
    refine at_v (ov_move rfl rfl) rfl rfl rfl ?_
    refine at_v (ov_move rfl rfl) rfl rfl rfl ?_
    refine at_t (ot_call (ks := [0, 0]) rfl rfl rfl Tryd.call21 rfl (T21 _ _ (by first | assumption | rfl | omega | decide | (simp; done) | (simp at *; omega))) rfl) rfl rfl rfl ?_
    rintro v0 _ ⟨m0, hp0, rfl⟩
    obtain ⟨rfl, rfl⟩ := hp0
    simp only [List.cons_append, List.nil_append, splice, spliceL]
    refine at_v (ov_assign rfl rfl) rfl rfl rfl ?_
    refine at_nil ?_
    refine at_normal ?_
    refine hK1 _ _ _ ?_
    refine at_seq_k (fun K2 hK2 => ?_)
    refine at_seq_k (fun K3 hK3 => ?_)
    refine at_region ?_
    refine at_v (ov_move rfl rfl) rfl rfl rfl ?_
    refine at_v (ov_int rfl rfl rfl rfl) rfl rfl rfl ?_
    refine at_nil ?_
    refine at_normal ?_
    refine hK3 _ _ _ ?_
    refine at_cond_false (congrArg (fun b => some (Value.bool b)) (show _ = false from decide_eq_false (by omega))) ?_
    refine at_skip ?_
    refine at_normal ?_
    refine hK2 _ _ _ ?_
    refine at_seq_k (fun K4 hK4 => ?_)
    refine at_reval 7 (.int .i64 (k : Nat)) rfl (by rw [hi]) ?_
    refine at_draw _ [] 15 [(2, 0), (2, 1), (2, 2), (1, 3), (2, 4), (2, 5), (2, 6), (2, 7), (1, 8), (2, 9), (1, 10), (1, 11), (2, 12), (2, 13), (1, 14), (3, 15)] (by kernel_rfl) (by kernel_rfl) (fun _ s => (s.pulls (ks := [0, 0, 0]) rfl).left) ?_
    refine aq_p (ov_move rfl rfl) rfl rfl rfl ?_
    refine aq_p (ov_nilCheck rfl rfl) rfl rfl rfl ?_
    refine aq_p (ov_fieldAddr (k := 1) (r := 1) rfl rfl rfl rfl) rfl rfl rfl ?_
    refine aq_v (ov_load rfl rfl rfl (fun _ s => s.ld (k := 0) rfl rfl)) rfl rfl rfl ?_
    refine aq_p (ov_move rfl rfl) rfl rfl rfl ?_
    refine aq_p (ov_move rfl rfl) rfl rfl rfl ?_
    refine aq_p (ov_nilCheck rfl rfl) rfl rfl rfl ?_
    refine aq_p (ov_fieldAddr (k := 1) (r := 1) rfl rfl rfl rfl) rfl rfl rfl ?_
    refine aq_v (ov_load rfl rfl rfl (fun _ s => s.ld (k := 0) rfl rfl)) rfl rfl rfl ?_
    refine aq_p (ov_move rfl rfl) rfl rfl rfl ?_
    refine aq_v (ov_indexRd (fun _ s => s.rd (k := 2) rfl) rfl Tryd.underlying32 rfl rfl rfl hk) rfl rfl rfl ?_
    refine aq_v (ov_loadRd0 (fun _ s => s.rd (k := 2) rfl) rfl rfl rfl hk rfl) rfl rfl rfl ?_
    refine aq_p (ov_move rfl rfl) rfl rfl rfl ?_
    refine aq_p (ov_int rfl rfl rfl rfl) rfl rfl rfl ?_
    refine aq_v (ov_indexRd (fun _ s => s.rd (k := 2) rfl) rfl Tryd.underlying32 rfl rfl rfl hk) rfl rfl rfl ?_
    refine aq_b0 (ot_storeRow0 (k := 2) rfl rfl rfl rfl hk rfl (Nat.le_refl _) rfl rfl) rfl rfl ?_
    rintro _ _ ⟨_, rfl⟩
    simp only [setAt]
    refine ⟨fun _ s => (s.pulls (ks := []) rfl).left, ?_⟩
    refine aq_nil ?_
    refine at_normal ?_
    refine hK4 _ _ _ ?_
    refine at_seq_k (fun K5 hK5 => ?_)
    refine at_region ?_
    refine at_v (ov_assign rfl rfl) rfl rfl rfl ?_
    refine at_nil ?_
    refine at_normal ?_
    refine hK5 _ _ _ ?_
    refine at_ret ?_
    refine at_end ?_
    simp only [addC, ho, putC, hp]
    refine at_fold (A := RefT g l (cs.set k (IntKind.i64.wrap (n + d)))) [0, 0, 0] rfl (fun h s => ⟨NA, nc, CA, cc, ⟨hl, by simpa using hc⟩, by rw [List.length_set]; exact s⟩) ?_
    refine at_fin (rsV rfl (res_tmp rfl)) ?_
    refine ⟨_, ⟨rfl, rfl⟩, ?_⟩
    exact fun _ s => s.finEq (ks := [0]) (js := []) rfl rfl rfl
theorem T17 (w0 : World) {g : Nat} {l : List ByteArray} {cs : List Int} (s : ByteArray) :
    Tri Tryd.prog w0 17 [ptrTo g, .string s] [RefT g l cs] fun v m => v = .tuple #[.int .i64 ((cntOf l cs s).getD 0), .bool (cntOf l cs s).isSome] ∧ m = [RefT g l cs] := by
  refine tri_of Tryd.func17 rfl rfl fun F => ?_
  simp only [Tryd.ntmps17, argEnv, List.cons_append, List.nil_append]
  refine at_ref fun NA nc CA cc hl hc => ?_
  cases hp : posS l s with
  | none =>
    have ho := cntOf_none (cs := cs) hp
    have hi : decide (idxV l s < 0) = true := by simp [idxV, hp]
    refine at_seq_k (fun K0 hK0 => ?_)
    refine at_region ?_
    refine at_v (ov_assign rfl rfl) rfl rfl rfl ?_
    refine at_v (ov_assign rfl rfl) rfl rfl rfl ?_
    refine at_nil ?_
    refine at_normal ?_
    refine hK0 _ _ _ ?_
    refine at_seq_k (fun K1 hK1 => ?_)
    refine at_region ?_
    refine at_v (ov_move rfl rfl) rfl rfl rfl ?_
    refine at_v (ov_move rfl rfl) rfl rfl rfl ?_
    refine at_t (ot_call (ks := [0, 0]) rfl rfl rfl Tryd.call21 rfl (T21 _ _ (by first | assumption | rfl | omega | decide | (simp; done) | (simp at *; omega))) rfl) rfl rfl rfl ?_
    rintro v0 _ ⟨m0, hp0, rfl⟩
    obtain ⟨rfl, rfl⟩ := hp0
    simp only [List.cons_append, List.nil_append, splice, spliceL]
    refine at_v (ov_assign rfl rfl) rfl rfl rfl ?_
    refine at_nil ?_
    refine at_normal ?_
    refine hK1 _ _ _ ?_
    refine at_seq_k (fun K2 hK2 => ?_)
    refine at_seq_k (fun K3 hK3 => ?_)
    refine at_region ?_
    refine at_v (ov_move rfl rfl) rfl rfl rfl ?_
    refine at_v (ov_int rfl rfl rfl rfl) rfl rfl rfl ?_
    refine at_nil ?_
    refine at_normal ?_
    refine hK3 _ _ _ ?_
    refine at_cond_true (congrArg (fun b => some (Value.bool b)) (show _ = true from by first | assumption | (rw [Bool.not_eq_true']; exact decide_eq_false (by omega)))) ?_
    refine at_seq_k (fun K4 hK4 => ?_)
    refine at_region ?_
    refine at_v (ov_assign rfl rfl) rfl rfl rfl ?_
    refine at_v (ov_assign rfl rfl) rfl rfl rfl ?_
    refine at_nil ?_
    refine at_normal ?_
    refine hK4 _ _ _ ?_
    refine at_ret ?_
    refine at_then_ret ?_
    refine at_end ?_
    simp only [ho]
    refine at_fold (A := RefT g l cs) [0, 0, 0] rfl (fun h s => ⟨NA, nc, CA, cc, ⟨hl, hc⟩, s⟩) ?_
    refine at_fin (rsL (vs := [_, _]) rfl ⟨res_tmp rfl, res_tmp rfl, trivial⟩ rfl) ?_
    refine ⟨_, ⟨rfl, rfl⟩, ?_⟩
    exact fun _ s => s.finEq (ks := [0]) (js := []) rfl rfl rfl
  | some k =>
    obtain ⟨n, hk, ho⟩ := cntOf_some (cs := cs) hp hc
    have hlt : k < cs.length := (List.getElem?_eq_some_iff.1 hk).1
    have hi := idxV_pos hp
    have hi2 : decide (idxV l s < 0) = false := by simp [idxV, hp]
    refine at_seq_k (fun K0 hK0 => ?_)
    refine at_region ?_
    refine at_v (ov_assign rfl rfl) rfl rfl rfl ?_
    refine at_v (ov_assign rfl rfl) rfl rfl rfl ?_
    refine at_nil ?_
    refine at_normal ?_
    refine hK0 _ _ _ ?_
    refine at_seq_k (fun K1 hK1 => ?_)
    refine at_region ?_
    refine at_v (ov_move rfl rfl) rfl rfl rfl ?_
    refine at_v (ov_move rfl rfl) rfl rfl rfl ?_
    refine at_t (ot_call (ks := [0, 0]) rfl rfl rfl Tryd.call21 rfl (T21 _ _ (by first | assumption | rfl | omega | decide | (simp; done) | (simp at *; omega))) rfl) rfl rfl rfl ?_
    rintro v0 _ ⟨m0, hp0, rfl⟩
    obtain ⟨rfl, rfl⟩ := hp0
    simp only [List.cons_append, List.nil_append, splice, spliceL]
    refine at_v (ov_assign rfl rfl) rfl rfl rfl ?_
    refine at_nil ?_
    refine at_normal ?_
    refine hK1 _ _ _ ?_
    refine at_seq_k (fun K2 hK2 => ?_)
    refine at_seq_k (fun K3 hK3 => ?_)
    refine at_region ?_
    refine at_v (ov_move rfl rfl) rfl rfl rfl ?_
    refine at_v (ov_int rfl rfl rfl rfl) rfl rfl rfl ?_
    refine at_nil ?_
    refine at_normal ?_
    refine hK3 _ _ _ ?_
    refine at_cond_false (congrArg (fun b => some (Value.bool b)) (show _ = false from decide_eq_false (by omega))) ?_
    refine at_skip ?_
    refine at_normal ?_
    refine hK2 _ _ _ ?_
    refine at_seq_k (fun K4 hK4 => ?_)
    refine at_region ?_
    refine at_v (ov_move rfl rfl) rfl rfl rfl ?_
    refine at_v (ov_nilCheck rfl rfl) rfl rfl rfl ?_
    refine at_v (ov_fieldAddr (k := 1) (r := 1) rfl rfl rfl rfl) rfl rfl rfl ?_
    refine at_v (ov_load rfl rfl rfl (fun _ s => s.ld (k := 0) rfl rfl)) rfl rfl rfl ?_
    refine at_v (ov_move rfl rfl) rfl rfl rfl ?_
    refine at_reval 16 (.int .i64 (k : Nat)) rfl (by rw [hi]) ?_
    refine at_v (ov_indexRd (fun _ s => s.rd (k := 2) rfl) rfl Tryd.underlying32 rfl rfl rfl hk) rfl rfl rfl ?_
    refine at_v (ov_loadRd0 (fun _ s => s.rd (k := 2) rfl) rfl rfl rfl hk rfl) rfl rfl rfl ?_
    refine at_v (ov_assign rfl rfl) rfl rfl rfl ?_
    refine at_v (ov_assign rfl rfl) rfl rfl rfl ?_
    refine at_nil ?_
    refine at_normal ?_
    refine hK4 _ _ _ ?_
    refine at_ret ?_
    refine at_end ?_
    simp only [ho]
    refine at_fold (A := RefT g l cs) [0, 0, 0] rfl (fun h s => ⟨NA, nc, CA, cc, ⟨hl, hc⟩, s⟩) ?_
    refine at_fin (rsL (vs := [_, _]) rfl ⟨res_tmp rfl, res_tmp rfl, trivial⟩ rfl) ?_
    refine ⟨_, ⟨rfl, rfl⟩, ?_⟩
    exact fun _ s => s.finEq (ks := [0]) (js := []) rfl rfl rfl
theorem T15 (w0 : World) {g : Nat} {l : List ByteArray} {cs : List Int} (s : ByteArray) (old d : Int) :
    Tri Tryd.prog w0 15 [ptrTo g, .string s, .int .i64 old, .int .i64 d] [RefT g l cs] fun v m => v = .bool (swapB l cs s old) ∧ m = [RefT g l (swapC l cs s old d)] := by
  refine tri_of Tryd.func15 rfl rfl fun F => ?_
  simp only [Tryd.ntmps15, argEnv, List.cons_append, List.nil_append]
  refine at_ref fun NA nc CA cc hl hc => ?_
  cases hp : posS l s with
  | none =>
    have ho := cntOf_none (cs := cs) hp
    have hi : decide (idxV l s < 0) = true := by simp [idxV, hp]
    refine at_seq_k (fun K0 hK0 => ?_)
    refine at_region ?_
    refine at_v (ov_assign rfl rfl) rfl rfl rfl ?_
    refine at_nil ?_
    refine at_normal ?_
    refine hK0 _ _ _ ?_
    refine at_seq_k (fun K1 hK1 => ?_)
    refine at_region ?_
    refine at_v (ov_move rfl rfl) rfl rfl rfl ?_
    refine at_v (ov_move rfl rfl) rfl rfl rfl ?_
    refine at_t (ot_call (ks := [0, 0]) rfl rfl rfl Tryd.call21 rfl (T21 _ _ (by first | assumption | rfl | omega | decide | (simp; done) | (simp at *; omega))) rfl) rfl rfl rfl ?_
    rintro v0 _ ⟨m0, hp0, rfl⟩
    obtain ⟨rfl, rfl⟩ := hp0
    simp only [List.cons_append, List.nil_append, splice, spliceL]
    refine at_v (ov_assign rfl rfl) rfl rfl rfl ?_
    refine at_nil ?_
    refine at_normal ?_
    refine hK1 _ _ _ ?_
    refine at_seq_k (fun K2 hK2 => ?_)
    refine at_seq_k (fun K3 hK3 => ?_)
    refine at_region ?_
    refine at_v (ov_move rfl rfl) rfl rfl rfl ?_
    refine at_v (ov_int rfl rfl rfl rfl) rfl rfl rfl ?_
    refine at_v (ov_move rfl rfl) rfl rfl rfl ?_
    refine at_reval 15 (.bool true) rfl (congrArg Value.bool (by first | assumption | (rw [Bool.not_eq_true']; exact decide_eq_false (by omega)))) ?_
    refine at_unwanted (j := 2) rfl rfl rfl rfl ?_
    refine at_unwanted (j := 2) rfl rfl rfl rfl ?_
    refine at_unwanted (j := 2) rfl rfl rfl rfl ?_
    refine at_unwanted (j := 2) rfl rfl rfl rfl ?_
    refine at_unwanted (j := 2) rfl rfl rfl rfl ?_
    refine at_unwanted (j := 2) rfl rfl rfl rfl ?_
    refine at_unwanted (j := 2) rfl rfl rfl rfl ?_
    refine at_unwanted (j := 2) rfl rfl rfl rfl ?_
    refine at_unwanted (j := 2) rfl rfl rfl rfl ?_
    refine at_v (ov_pick_t rfl rfl rfl) rfl rfl rfl ?_
    refine at_nil ?_
    refine at_normal ?_
    refine hK3 _ _ _ ?_
    refine at_cond_true rfl ?_
    refine at_seq_k (fun K4 hK4 => ?_)
    refine at_region ?_
    refine at_v (ov_assign rfl rfl) rfl rfl rfl ?_
    refine at_nil ?_
    refine at_normal ?_
    refine hK4 _ _ _ ?_
    refine at_ret ?_
    refine at_then_ret ?_
    refine at_end ?_
    simp only [swapC, swapB, ho]
    refine at_fold (A := RefT g l cs) [0, 0, 0] rfl (fun h s => ⟨NA, nc, CA, cc, ⟨hl, hc⟩, s⟩) ?_
    refine at_fin (rsV rfl (res_tmp rfl)) ?_
    refine ⟨_, ⟨rfl, rfl⟩, ?_⟩
    exact fun _ s => s.finEq (ks := [0]) (js := []) rfl rfl rfl
  | some k =>
    obtain ⟨n, hk, ho⟩ := cntOf_some (cs := cs) hp hc
    have hlt : k < cs.length := (List.getElem?_eq_some_iff.1 hk).1
    have hi := idxV_pos hp
    have hi2 : decide (idxV l s < 0) = false := by simp [idxV, hp]
    refine at_seq_k (fun K0 hK0 => ?_)
    refine at_region ?_
    refine at_v (ov_assign rfl rfl) rfl rfl rfl ?_
    refine at_nil ?_
    refine at_normal ?_
    refine hK0 _ _ _ ?_
    refine at_seq_k (fun K1 hK1 => ?_)
    refine at_region ?_
    refine at_v (ov_move rfl rfl) rfl rfl rfl ?_
    refine at_v (ov_move rfl rfl) rfl rfl rfl ?_
    refine at_t (ot_call (ks := [0, 0]) rfl rfl rfl Tryd.call21 rfl (T21 _ _ (by first | assumption | rfl | omega | decide | (simp; done) | (simp at *; omega))) rfl) rfl rfl rfl ?_
    rintro v0 _ ⟨m0, hp0, rfl⟩
    obtain ⟨rfl, rfl⟩ := hp0
    simp only [List.cons_append, List.nil_append, splice, spliceL]
    refine at_v (ov_assign rfl rfl) rfl rfl rfl ?_
    refine at_nil ?_
    refine at_normal ?_
    refine hK1 _ _ _ ?_
    refine at_seq_k (fun K2 hK2 => ?_)
    refine at_seq_k (fun K3 hK3 => ?_)
    refine at_region ?_
    refine at_v (ov_move rfl rfl) rfl rfl rfl ?_
    refine at_v (ov_int rfl rfl rfl rfl) rfl rfl rfl ?_
    refine at_v (ov_move rfl rfl) rfl rfl rfl ?_
    refine at_reval 15 (.bool false) rfl (congrArg Value.bool (decide_eq_false (by omega))) ?_
    refine at_wanted (j := 2) rfl ?_
    refine at_v (ov_move rfl rfl) rfl rfl rfl ?_
    refine at_wanted (j := 2) rfl ?_
    refine at_v (ov_nilCheck rfl rfl) rfl rfl rfl ?_
    refine at_wanted (j := 2) rfl ?_
    refine at_v (ov_fieldAddr (k := 1) (r := 1) rfl rfl rfl rfl) rfl rfl rfl ?_
    refine at_wanted (j := 2) rfl ?_
    refine at_v (ov_load rfl rfl rfl (fun _ s => s.ld (k := 0) rfl rfl)) rfl rfl rfl ?_
    refine at_wanted (j := 2) rfl ?_
    refine at_v (ov_move rfl rfl) rfl rfl rfl ?_
    refine at_wanted (j := 2) rfl ?_
    refine at_reval 9 (.int .i64 (k : Nat)) rfl (by rw [hi]) ?_
    refine at_reval 20 (.int .i64 (k : Nat)) rfl (by rw [hi]) ?_
    by_cases he : n = old
    · have hi3 : (!decide (n = old)) = false := by simp [he]
      refine at_v (ov_indexRd (fun _ s => s.rd (k := 2) rfl) rfl Tryd.underlying32 rfl rfl rfl hk) rfl rfl rfl ?_
      refine at_wanted (j := 2) rfl ?_
      refine at_v (ov_loadRd0 (fun _ s => s.rd (k := 2) rfl) rfl rfl rfl hk rfl) rfl rfl rfl ?_
      refine at_wanted (j := 2) rfl ?_
      refine at_v (ov_move rfl rfl) rfl rfl rfl ?_
      refine at_wanted (j := 2) rfl ?_
      refine at_v (ov_int rfl rfl rfl rfl) rfl rfl rfl ?_
      refine at_v (ov_pick_f rfl rfl rfl) rfl rfl rfl ?_
      refine at_nil ?_
      refine at_normal ?_
      refine hK3 _ _ _ ?_
      refine at_cond_false (congrArg (fun b => some (Value.bool b)) (show _ = false from by first | assumption | (rw [Bool.not_eq_false']; exact decide_eq_true (by omega)))) ?_
      refine at_skip ?_
      refine at_normal ?_
      refine hK2 _ _ _ ?_
      refine at_seq_k (fun K4 hK4 => ?_)
      refine at_region ?_
      refine at_v (ov_move rfl rfl) rfl rfl rfl ?_
      refine at_v (ov_nilCheck rfl rfl) rfl rfl rfl ?_
      refine at_v (ov_fieldAddr (k := 1) (r := 1) rfl rfl rfl rfl) rfl rfl rfl ?_
      refine at_v (ov_load rfl rfl rfl (fun _ s => s.ld (k := 0) rfl rfl)) rfl rfl rfl ?_
      refine at_v (ov_move rfl rfl) rfl rfl rfl ?_
      refine at_v (ov_move rfl rfl) rfl rfl rfl ?_
      refine at_v (ov_indexRd (fun _ s => s.rd (k := 2) rfl) rfl Tryd.underlying32 rfl rfl rfl hk) rfl rfl rfl ?_
      refine at_t0 (ot_storeRow0 (k := 2) rfl rfl rfl rfl hk rfl (Nat.le_refl _) rfl rfl) rfl rfl ?_
      rintro _ _ ⟨_, rfl⟩
      simp only [setAt]
      refine at_nil ?_
      refine at_normal ?_
      refine hK4 _ _ _ ?_
      refine at_seq_k (fun K5 hK5 => ?_)
      refine at_region ?_
      refine at_v (ov_assign rfl rfl) rfl rfl rfl ?_
      refine at_nil ?_
      refine at_normal ?_
      refine hK5 _ _ _ ?_
      refine at_ret ?_
      refine at_end ?_
      simp only [swapC, swapB, ho, putC, hp, he, decide_true]
      refine at_fold (A := RefT g l (cs.set k d)) [0, 0, 0] rfl (fun h s => ⟨NA, nc, CA, cc, ⟨hl, by simpa using hc⟩, by rw [List.length_set]; exact s⟩) ?_
      refine at_fin (rsV rfl (res_tmp rfl)) ?_
      refine ⟨_, ⟨rfl, rfl⟩, ?_⟩
      exact fun _ s => s.finEq (ks := [0]) (js := []) rfl rfl rfl
    · have hi3 : (!decide (n = old)) = true := by simp [he]
      refine at_v (ov_indexRd (fun _ s => s.rd (k := 2) rfl) rfl Tryd.underlying32 rfl rfl rfl hk) rfl rfl rfl ?_
      refine at_wanted (j := 2) rfl ?_
      refine at_v (ov_loadRd0 (fun _ s => s.rd (k := 2) rfl) rfl rfl rfl hk rfl) rfl rfl rfl ?_
      refine at_wanted (j := 2) rfl ?_
      refine at_v (ov_move rfl rfl) rfl rfl rfl ?_
      refine at_wanted (j := 2) rfl ?_
      refine at_v (ov_int rfl rfl rfl rfl) rfl rfl rfl ?_
      refine at_v (ov_pick_f rfl rfl rfl) rfl rfl rfl ?_
      refine at_nil ?_
      refine at_normal ?_
      refine hK3 _ _ _ ?_
      refine at_cond_true (congrArg (fun b => some (Value.bool b)) (show _ = true from by first | assumption | (rw [Bool.not_eq_true']; exact decide_eq_false (by omega)))) ?_
      refine at_seq_k (fun K4 hK4 => ?_)
      refine at_region ?_
      refine at_v (ov_assign rfl rfl) rfl rfl rfl ?_
      refine at_nil ?_
      refine at_normal ?_
      refine hK4 _ _ _ ?_
      refine at_ret ?_
      refine at_then_ret ?_
      refine at_end ?_
      simp only [swapC, swapB, ho, putC, hp, he, decide_false]
      refine at_fold (A := RefT g l cs) [0, 0, 0] rfl (fun h s => ⟨NA, nc, CA, cc, ⟨hl, hc⟩, s⟩) ?_
      refine at_fin (rsV rfl (res_tmp rfl)) ?_
      refine ⟨_, ⟨rfl, rfl⟩, ?_⟩
      exact fun _ s => s.finEq (ks := [0]) (js := []) rfl rfl rfl
/-! ### digits -/
def digB (u : Nat) : ByteArray := ⟨(Lib.decDigits u).toArray⟩
theorem digB_small {u : Nat} (h : u < 10) : digB u = ⟨[UInt8.ofNat (48 + u)].toArray⟩ := by
  unfold digB; rw [Lib.decDigits, dif_pos h]
theorem digB_big {u : Nat} (h : ¬ u < 10) : digB u = digB (u / 10) ++ ⟨[UInt8.ofNat (48 + u % 10)].toArray⟩ := by
  unfold digB; conv => lhs; rw [Lib.decDigits, dif_neg h]
  apply WideShapes.bytes_inj
  simp
theorem dig_byte (u : Nat) : IntKind.u8.wrap (48 - (-(u : Int)).tmod 10) = ((UInt8.ofNat (48 + u % 10)).toNat : Int) := by
  have h1 : (-(u : Int)).tmod 10 = -((u % 10 : Nat) : Int) := by rw [Int.neg_tmod, Int.tmod_eq_emod_of_nonneg (by omega)]; omega
  rw [h1]
  have h2 : u % 10 < 10 := Nat.mod_lt _ (by decide)
  rw [UInt8.toNat_ofNat', Nat.mod_eq_of_lt (show 48 + u % 10 < 2 ^ 8 by omega)]
  simp [IntKind.wrap, IntKind.bits, IntKind.signed]
  omega
theorem digB_size (u : Nat) (h : u ≤ 9223372036854775808) : (digB u).size ≤ 20 := by
  have : (digB u).size = (Lib.decDigits u).length := by simp [digB, ByteArray.size]
  rw [this]
  have h2 := Lib.itoa_length_le (-(u : Int)) (by omega) (by omega)
  by_cases h0 : u = 0
  · subst h0; rw [Lib.decDigits, dif_pos (by decide)]; decide
  · rw [Lib.itoa_neg u (by omega), List.length_cons] at h2; omega
theorem T28 (u : Nat) : u ≤ 9223372036854775808 → ∀ w0 : World, Tri Tryd.prog w0 28 [.int .i64 (-(u : Int))] [] fun v m => v = .string (digB u) ∧ m = [] := by
  induction u using Nat.strongRecOn with
  | _ u ih =>
  intro hu w0
  have hby := dig_byte u
  have hmod : (-(u : Int)).tmod 10 = -((u % 10 : Nat) : Int) := by rw [Int.neg_tmod, Int.tmod_eq_emod_of_nonneg (by omega)]; omega
  refine tri_of Tryd.func28 rfl rfl fun F => ?_
  simp only [Tryd.ntmps28, argEnv, List.nil_append]
  refine at_seq_k (fun K0 hK0 => ?_)
  refine at_region ?_
  refine at_v (ov_assign rfl rfl) rfl rfl rfl ?_
  refine at_nil ?_
  refine at_normal ?_
  refine hK0 _ _ _ ?_
  refine at_seq_k (fun K1 hK1 => ?_)
  refine at_region ?_
  refine at_v (ov_move rfl rfl) rfl rfl rfl ?_
  refine at_v (ov_rem rfl rfl rfl (by omega)) rfl rfl rfl ?_
  refine at_v ((ov_int rfl rfl rfl rfl).eq (congrArg (Value.int .i64) (inK_i64 (by omega) (by omega)))) rfl rfl rfl ?_
  refine at_v (ov_conv_int rfl rfl Tryd.underlying5 rfl) rfl rfl rfl ?_
  refine at_t (ot_buildSlice (cs := [_]) rfl Tryd.underlying79 rfl rfl rfl rfl rfl rfl) rfl rfl rfl ?_
  rintro _ _ ⟨g0, rfl, rfl⟩
  refine at_v (ov_bytesStr (bs := [UInt8.ofNat (48 + u % 10)]) (fun _ s => s.rdPt (k := 0) rfl (by show [Value.int .u8 (IntKind.u8.wrap _)] = _; rw [hby]; rfl) (by simp [bE])) ⟨_, rfl⟩ rfl Tryd.underlying79 Tryd.underlying5 Tryd.underlying9 rfl) rfl rfl rfl ?_
  by_cases hs : u < 10
  · have h1 := digB_small hs
    have hi : decide (-(u : Int) > -10) = true := decide_eq_true (by omega)
    rw [Nat.mod_eq_of_lt hs]
    refine at_v (ov_assign rfl rfl) rfl rfl rfl ?_
    refine at_nil ?_
    refine at_normal ?_
    refine hK1 _ _ _ ?_
    refine at_seq_k (fun K2 hK2 => ?_)
    refine at_seq_k (fun K3 hK3 => ?_)
    refine at_region ?_
    refine at_v (ov_move rfl rfl) rfl rfl rfl ?_
    refine at_v (ov_int rfl rfl rfl rfl) rfl rfl rfl ?_
    refine at_nil ?_
    refine at_normal ?_
    refine hK3 _ _ _ ?_
    refine at_cond_true (congrArg (fun b => some (Value.bool b)) (show _ = true from decide_eq_true (by omega))) ?_
    refine at_seq_k (fun K4 hK4 => ?_)
    refine at_region ?_
    refine at_v (ov_move rfl rfl) rfl rfl rfl ?_
    refine at_v (ov_assign rfl rfl) rfl rfl rfl ?_
    refine at_nil ?_
    refine at_normal ?_
    refine hK4 _ _ _ ?_
    refine at_ret ?_
    refine at_then_ret ?_
    refine at_end ?_
    refine at_fin (rsV rfl (res_tmp rfl)) ?_
    refine ⟨_, ⟨by rw [h1], rfl⟩, ?_⟩
    exact fun _ s => s.finEq (ks := []) (js := [0]) rfl rfl rfl
  · have h1 := digB_big hs
    have hi : decide (-(u : Int) > -10) = false := decide_eq_false (by omega)
    have hq : (-(u : Int)).tdiv 10 = -((u / 10 : Nat) : Int) := by rw [Int.neg_tdiv, Int.tdiv_eq_ediv_of_nonneg (by omega)]; omega
    have hrec := ih (u / 10) (by omega) (by omega) w0
    have hsz := digB_size (u / 10) (by omega)
    have hs1 : (⟨[UInt8.ofNat (48 + u % 10)].toArray⟩ : ByteArray).size = 1 := rfl
    refine at_v (ov_assign rfl rfl) rfl rfl rfl ?_
    refine at_nil ?_
    refine at_normal ?_
    refine hK1 _ _ _ ?_
    refine at_seq_k (fun K2 hK2 => ?_)
    refine at_seq_k (fun K3 hK3 => ?_)
    refine at_region ?_
    refine at_v (ov_move rfl rfl) rfl rfl rfl ?_
    refine at_v (ov_int rfl rfl rfl rfl) rfl rfl rfl ?_
    refine at_nil ?_
    refine at_normal ?_
    refine hK3 _ _ _ ?_
    refine at_cond_false (congrArg (fun b => some (Value.bool b)) (show _ = false from decide_eq_false (by omega))) ?_
    refine at_skip ?_
    refine at_normal ?_
    refine hK2 _ _ _ ?_
    refine at_seq_k (fun K4 hK4 => ?_)
    refine at_region ?_
    refine at_v (ov_move rfl rfl) rfl rfl rfl ?_
    refine at_v (ov_quo rfl rfl rfl (by omega)) rfl rfl rfl ?_
    refine at_reval 14 (.int .i64 (-((u / 10 : Nat) : Int))) rfl (by rw [hq, inK_i64 (by omega) (by omega)]) ?_
    refine at_t (ot_call (ks := []) rfl rfl rfl Tryd.call28 rfl (hrec ) rfl) rfl rfl rfl ?_
    rintro v0 _ ⟨m0, hp0, rfl⟩
    obtain ⟨rfl, rfl⟩ := hp0
    simp only [List.cons_append, List.nil_append, splice, spliceL]
    refine at_v (ov_move rfl rfl) rfl rfl rfl ?_
    refine at_v (ov_cat rfl rfl rfl (by omega)) rfl rfl rfl ?_
    refine at_v (ov_assign rfl rfl) rfl rfl rfl ?_
    refine at_nil ?_
    refine at_normal ?_
    refine hK4 _ _ _ ?_
    refine at_ret ?_
    refine at_end ?_
    refine at_fin (rsV rfl (res_tmp rfl)) ?_
    refine ⟨_, ⟨by rw [h1], rfl⟩, ?_⟩
    exact fun _ s => s.finEq (ks := []) (js := [0]) rfl rfl rfl
theorem digits_pos {n : Int} (h : 0 < n) : itoaB n = digB n.natAbs := by
  unfold itoaB digB Lib.itoa
  rw [if_neg (by omega)]
  congr 2
  exact congrArg Lib.decDigits (by omega)
theorem digits_neg {n : Int} (h : n < 0) : itoaB n = ⟨#[45]⟩ ++ digB n.natAbs := by
  unfold itoaB digB Lib.itoa
  rw [if_pos h]
  apply WideShapes.bytes_inj
  simp
theorem cat_assoc (a b c : ByteArray) : a ++ b ++ c = a ++ (b ++ c) := by
  apply WideShapes.bytes_inj; simp
theorem T19 (w0 : World) {g : Nat} {l : List ByteArray} {cs : List Int} (hs : ∀ s ∈ l, s.size ≤ 300) (hcs : okC cs) :
    Tri Tryd.prog w0 19 [ptrTo g] [RefT g l cs] fun v m => ∃ B d, v = .slice B (linesL l cs).length d ∧ m = [Row sE 9 1 B d (linesL l cs), RefT g l cs] := by
  refine tri_of Tryd.func19 rfl rfl fun F => ?_
  simp only [Tryd.ntmps19, argEnv, List.cons_append, List.nil_append]
  refine at_ref fun NA nc CA cc hl hc => ?_
  refine at_seq_k (fun K0 hK0 => ?_)
  refine at_region ?_
  refine at_v (ov_assign rfl rfl) rfl rfl rfl ?_
  refine at_nil ?_
  refine at_normal ?_
  refine hK0 _ _ _ ?_
  refine at_seq_k (fun K1 hK1 => ?_)
  refine at_region ?_
  refine at_t (ot_buildSlice (cs := []) rfl Tryd.underlying22 rfl rfl rfl rfl rfl rfl) rfl rfl rfl ?_
  rintro _ _ ⟨g0, rfl, rfl⟩
  refine at_v (ov_assign rfl rfl) rfl rfl rfl ?_
  refine at_nil ?_
  refine at_normal ?_
  refine hK1 _ _ _ ?_
  refine at_seq_k (fun K2 hK2 => ?_)
  refine at_seq_k (fun K3 hK3 => ?_)
  refine at_region ?_
  refine at_v (ov_assign rfl rfl) rfl rfl rfl ?_
  refine at_nil ?_
  refine at_normal ?_
  refine hK3 _ _ _ ?_
  refine at_block ?_
  refine at_rowOf (c := 0) (size := 1) sE 0 [] rfl (by simp) (by simp) (by decide) (by simp) rfl ?_
  simp only [setAt]
  refine at_loopE [7, 8, 9, 10, 11, 12, 13, 16, 17, 18, 19, 20, 21, 22, 5, 23, 24, 25, 26, 27, 28, 29, 30, 31, 32, 33, 34, 35, 36, 37, 38, 39, 3, 40, 41, 42, 43, 44, 45, 46, 47, 48, 49, 50, 51, 52, 53, 54, 55, 14, 15, 4] (fun i : Nat × Option Addr × Nat => i.1 ≤ l.length) (fun i => [(4, .int .i64 (i.1 : Nat)), (3, .slice i.2.1 (linesL (l.take i.1) (cs.take i.1)).length i.2.2)]) (fun i m => setAt 0 (Row sE 9 1 i.2.1 i.2.2 (linesL (l.take i.1) (cs.take i.1))) m) (fun i => l.length - i.1) (0, some ⟨g0, 0, none⟩, 0) (Nat.zero_le _) ⟨rfl, rfl, trivial⟩ (fun _ s => s) ?_
  rintro ⟨k, A1, c1⟩ hk
  simp only [setAt] at hk ⊢
  have hul := lines_len (l.take k) (cs.take k)
  have htk : (l.take k).length ≤ 100 := by rw [List.length_take]; omega
  refine at_seq_k (fun K4 hK4 => ?_)
  refine at_seq_k (fun K5 hK5 => ?_)
  refine at_region ?_
  refine at_v (ov_move rfl rfl) rfl rfl rfl ?_
  refine at_v (ov_move rfl rfl) rfl rfl rfl ?_
  refine at_v (ov_nilCheck rfl rfl) rfl rfl rfl ?_
  refine at_v (ov_fieldAddr (k := 0) (r := 0) rfl rfl rfl rfl) rfl rfl rfl ?_
  refine at_v (ov_load rfl rfl rfl (fun _ s => s.ld (k := 1) rfl rfl)) rfl rfl rfl ?_
  refine at_v (ov_len_slice rfl Tryd.underlying22 rfl) rfl rfl rfl ?_
  refine at_v (ov_int rfl rfl rfl rfl) rfl rfl rfl ?_
  refine at_nil ?_
  refine at_normal ?_
  refine hK5 _ _ _ ?_
  refine at_cond rfl (fun hc2 => ?_) (fun hc2 => ?_)
  · have hlt : k < l.length := by simpa using hc2
    obtain ⟨x, hget⟩ : ∃ x, l[k]? = some x := ⟨_, List.getElem?_eq_getElem hlt⟩
    obtain ⟨n, hgc⟩ : ∃ n, cs[k]? = some n := ⟨_, List.getElem?_eq_getElem (by omega)⟩
    have hsx := hs x (List.mem_of_getElem? hget)
    have hnx := hcs n (List.mem_of_getElem? hgc)
    have hst := lines_succ hget hgc
    have hdig := T28 n.natAbs (by omega) w0
    have hdsz := digB_size n.natAbs (by omega)
    have hs1 : (⟨#[32]⟩ : ByteArray).size = 1 := rfl
    have hs2 : (x ++ (⟨#[32]⟩ : ByteArray)).size = x.size + 1 := by rw [ByteArray.size_append, hs1]
    have hs3 : (⟨#[32, 45]⟩ : ByteArray).size = 2 := rfl
    have hs4 : (x ++ (⟨#[32, 45]⟩ : ByteArray)).size = x.size + 2 := by rw [ByteArray.size_append, hs3]
    rcases Int.lt_trichotomy n 0 with hz | hz | hz
    · rw [if_neg (by omega)] at hst
      have hi1 : decide (n > 0) = false := decide_eq_false (by omega)
      have hi2 : decide (n < 0) = true := decide_eq_true hz
      have e1 : n = -((n.natAbs : Nat) : Int) := by omega
      have e2 : lineOf x n = x ++ ⟨#[32, 45]⟩ ++ digB n.natAbs := by
        unfold lineOf; rw [digits_neg hz, cat_assoc, cat_assoc]; congr 1
      rw [← e1] at hdig
      refine at_skip ?_
      refine at_normal ?_
      refine hK4 _ _ _ ?_
      refine at_seq_k (fun K6 hK6 => ?_)
      refine at_block ?_
      refine at_seq_k (fun K7 hK7 => ?_)
      refine at_region ?_
      refine at_v (ov_move rfl rfl) rfl rfl rfl ?_
      refine at_v (ov_nilCheck rfl rfl) rfl rfl rfl ?_
      refine at_v (ov_fieldAddr (k := 1) (r := 1) rfl rfl rfl rfl) rfl rfl rfl ?_
      refine at_v (ov_load rfl rfl rfl (fun _ s => s.ld (k := 1) rfl rfl)) rfl rfl rfl ?_
      refine at_v (ov_move rfl rfl) rfl rfl rfl ?_
      refine at_v (ov_indexRd (fun _ s => s.rd (k := 3) rfl) rfl Tryd.underlying32 rfl rfl rfl hgc) rfl rfl rfl ?_
      refine at_v (ov_loadRd0 (fun _ s => s.rd (k := 3) rfl) rfl rfl rfl hgc rfl) rfl rfl rfl ?_
      refine at_v (ov_assign rfl rfl) rfl rfl rfl ?_
      refine at_nil ?_
      refine at_normal ?_
      refine hK7 _ _ _ ?_
      refine at_seq_k (fun K8 hK8 => ?_)
      refine at_seq_k (fun K9 hK9 => ?_)
      refine at_region ?_
      refine at_v (ov_move rfl rfl) rfl rfl rfl ?_
      refine at_v (ov_int rfl rfl rfl rfl) rfl rfl rfl ?_
      refine at_nil ?_
      refine at_normal ?_
      refine hK9 _ _ _ ?_
      refine at_cond_false (congrArg (fun b => some (Value.bool b)) (show _ = false from decide_eq_false (by omega))) ?_
      refine at_skip ?_
      refine at_normal ?_
      refine hK8 _ _ _ ?_
      refine at_seq_k (fun K10 hK10 => ?_)
      refine at_region ?_
      refine at_v (ov_move rfl rfl) rfl rfl rfl ?_
      refine at_v (ov_int rfl rfl rfl rfl) rfl rfl rfl ?_
      refine at_nil ?_
      refine at_normal ?_
      refine hK10 _ _ _ ?_
      refine at_cond_true (congrArg (fun b => some (Value.bool b)) (show _ = true from decide_eq_true (by omega))) ?_
      refine at_draw _ [] 1000 [(2, 0), (2, 1), (2, 2), (2, 3), (1, 4), (2, 5), (1, 6), (1, 7), (2, 8), (2, 9), (0, 10), (2, 11), (0, 12), (0, 13), (2, 14)] (by kernel_rfl) (by kernel_rfl) (fun _ s => (s.pulls (ks := [1, 1]) rfl).left) ?_
      refine aq_p (ov_move rfl rfl) rfl rfl rfl ?_
      refine aq_p (ov_move rfl rfl) rfl rfl rfl ?_
      refine aq_p (ov_nilCheck rfl rfl) rfl rfl rfl ?_
      refine aq_p (ov_fieldAddr (k := 0) (r := 0) rfl rfl rfl rfl) rfl rfl rfl ?_
      refine aq_v (ov_load rfl rfl rfl (fun _ s => s.ld (k := 0) rfl rfl)) rfl rfl rfl ?_
      refine aq_p (ov_move rfl rfl) rfl rfl rfl ?_
      refine aq_v (ov_indexRd (fun _ s => s.rd (k := 1) rfl) rfl Tryd.underlying22 rfl rfl rfl hget) rfl rfl rfl ?_
      refine aq_v (ov_loadRd0 (fun _ s => s.rd (k := 1) rfl) rfl rfl rfl hget rfl) rfl rfl rfl ?_
      refine aq_p (ov_cat rfl rfl rfl (by omega)) rfl rfl rfl ?_
      refine aq_p (ov_move rfl rfl) rfl rfl rfl ?_
      refine aq_t (ot_call (ks := []) rfl rfl rfl Tryd.call28 rfl (hdig ) rfl) rfl rfl rfl ?_
      rintro v0 _ ⟨m0, hp0, rfl⟩
      obtain ⟨rfl, rfl⟩ := hp0
      simp only [List.cons_append, List.nil_append, splice, spliceL]
      refine ⟨fun _ s => (s.pulls (ks := [1, 1]) rfl).left, ?_⟩
      refine aq_p (ov_cat rfl rfl rfl (by omega)) rfl rfl rfl ?_
      refine aq_t (ot_buildSlice (cs := [_]) rfl Tryd.underlying22 rfl rfl rfl rfl rfl rfl) rfl rfl rfl ?_
      rintro _ _ ⟨g1, rfl, rfl⟩
      refine ⟨fun _ s => (s.pulls (ks := [2, 2]) rfl).left, ?_⟩
      refine aq_t (ot_append (k := 1) (size := 1) (bytes := 16) (ys := [x ++ ⟨#[32, 45]⟩ ++ digB n.natAbs]) (fun _ s => s.rdPt (k := 0) rfl rfl (by simp [sE])) rfl Tryd.underlying22 (ti := Tryd.t9) rfl rfl rfl rfl rfl (by decide) rfl rfl rfl (by simp [sE, Value.oneCell']) (by simp; omega) (by decide)) rfl rfl rfl ?_
      rintro _ _ ⟨A0, c0, rfl, rfl⟩
      simp only [setAt]
      refine ⟨fun _ s => (s.pulls (ks := [2, 2]) rfl).left, ?_⟩
      rw [← e2]
      refine aq_p (ov_assign rfl rfl) rfl rfl rfl ?_
      refine aq_nil ?_
      refine at_inb_normal ?_
      refine at_normal ?_
      refine hK6 _ _ _ ?_
      refine at_region ?_
      refine at_v (ov_move rfl rfl) rfl rfl rfl ?_
      refine at_v ((ov_int rfl rfl rfl rfl).eq (congrArg (Value.int .i64) (inK_i64 (by omega) (by omega)))) rfl rfl rfl ?_
      refine at_v (ov_assign rfl rfl) rfl rfl rfl ?_
      refine at_nil ?_
      refine at_normal ?_
      refine at_roundF (k + 1, A0, c0) hlt (by simp only; omega) ⟨rfl, look_eq rfl (by simp only [hst]), trivial⟩ rfl ?_
      simp only [hst]
      exact fun _ s => s.finEq (ks := [1, 1, 1, 1]) (js := [0]) rfl rfl rfl
    · rw [if_pos hz, List.append_nil] at hst
      have hi1 : decide (n > 0) = false := decide_eq_false (by omega)
      have hi2 : decide (n < 0) = false := decide_eq_false (by omega)
      refine at_skip ?_
      refine at_normal ?_
      refine hK4 _ _ _ ?_
      refine at_seq_k (fun K6 hK6 => ?_)
      refine at_block ?_
      refine at_seq_k (fun K7 hK7 => ?_)
      refine at_region ?_
      refine at_v (ov_move rfl rfl) rfl rfl rfl ?_
      refine at_v (ov_nilCheck rfl rfl) rfl rfl rfl ?_
      refine at_v (ov_fieldAddr (k := 1) (r := 1) rfl rfl rfl rfl) rfl rfl rfl ?_
      refine at_v (ov_load rfl rfl rfl (fun _ s => s.ld (k := 1) rfl rfl)) rfl rfl rfl ?_
      refine at_v (ov_move rfl rfl) rfl rfl rfl ?_
      refine at_v (ov_indexRd (fun _ s => s.rd (k := 3) rfl) rfl Tryd.underlying32 rfl rfl rfl hgc) rfl rfl rfl ?_
      refine at_v (ov_loadRd0 (fun _ s => s.rd (k := 3) rfl) rfl rfl rfl hgc rfl) rfl rfl rfl ?_
      refine at_v (ov_assign rfl rfl) rfl rfl rfl ?_
      refine at_nil ?_
      refine at_normal ?_
      refine hK7 _ _ _ ?_
      refine at_seq_k (fun K8 hK8 => ?_)
      refine at_seq_k (fun K9 hK9 => ?_)
      refine at_region ?_
      refine at_v (ov_move rfl rfl) rfl rfl rfl ?_
      refine at_v (ov_int rfl rfl rfl rfl) rfl rfl rfl ?_
      refine at_nil ?_
      refine at_normal ?_
      refine hK9 _ _ _ ?_
      refine at_cond_false (congrArg (fun b => some (Value.bool b)) (show _ = false from decide_eq_false (by omega))) ?_
      refine at_skip ?_
      refine at_normal ?_
      refine hK8 _ _ _ ?_
      refine at_seq_k (fun K10 hK10 => ?_)
      refine at_region ?_
      refine at_v (ov_move rfl rfl) rfl rfl rfl ?_
      refine at_v (ov_int rfl rfl rfl rfl) rfl rfl rfl ?_
      refine at_nil ?_
      refine at_normal ?_
      refine hK10 _ _ _ ?_
      refine at_cond_false (congrArg (fun b => some (Value.bool b)) (show _ = false from decide_eq_false (by omega))) ?_
      refine at_skip ?_
      refine at_inb_normal ?_
      refine at_normal ?_
      refine hK6 _ _ _ ?_
      refine at_region ?_
      refine at_v (ov_move rfl rfl) rfl rfl rfl ?_
      refine at_v ((ov_int rfl rfl rfl rfl).eq (congrArg (Value.int .i64) (inK_i64 (by omega) (by omega)))) rfl rfl rfl ?_
      refine at_v (ov_assign rfl rfl) rfl rfl rfl ?_
      refine at_nil ?_
      refine at_normal ?_
      refine at_roundF (k + 1, A1, c1) hlt (by simp only; omega) ⟨rfl, look_eq rfl (by simp only [hst]), trivial⟩ rfl ?_
      simp only [hst]
      exact fun _ s => s.finEq (ks := [0, 0, 0, 0]) (js := []) rfl rfl rfl
    · rw [if_neg (by omega)] at hst
      have hi1 : decide (n > 0) = true := decide_eq_true hz
      have hi2 : decide (n < 0) = false := decide_eq_false (by omega)
      have e1 : -n = -((n.natAbs : Nat) : Int) := by omega
      have e2 : lineOf x n = x ++ ⟨#[32]⟩ ++ digB n.natAbs := by
        unfold lineOf; rw [digits_pos hz]; rfl
      rw [← e1] at hdig
      refine at_skip ?_
      refine at_normal ?_
      refine hK4 _ _ _ ?_
      refine at_seq_k (fun K6 hK6 => ?_)
      refine at_block ?_
      refine at_seq_k (fun K7 hK7 => ?_)
      refine at_region ?_
      refine at_v (ov_move rfl rfl) rfl rfl rfl ?_
      refine at_v (ov_nilCheck rfl rfl) rfl rfl rfl ?_
      refine at_v (ov_fieldAddr (k := 1) (r := 1) rfl rfl rfl rfl) rfl rfl rfl ?_
      refine at_v (ov_load rfl rfl rfl (fun _ s => s.ld (k := 1) rfl rfl)) rfl rfl rfl ?_
      refine at_v (ov_move rfl rfl) rfl rfl rfl ?_
      refine at_v (ov_indexRd (fun _ s => s.rd (k := 3) rfl) rfl Tryd.underlying32 rfl rfl rfl hgc) rfl rfl rfl ?_
      refine at_v (ov_loadRd0 (fun _ s => s.rd (k := 3) rfl) rfl rfl rfl hgc rfl) rfl rfl rfl ?_
      refine at_v (ov_assign rfl rfl) rfl rfl rfl ?_
      refine at_nil ?_
      refine at_normal ?_
      refine hK7 _ _ _ ?_
      refine at_seq_k (fun K8 hK8 => ?_)
      refine at_seq_k (fun K9 hK9 => ?_)
      refine at_region ?_
      refine at_v (ov_move rfl rfl) rfl rfl rfl ?_
      refine at_v (ov_int rfl rfl rfl rfl) rfl rfl rfl ?_
      refine at_nil ?_
      refine at_normal ?_
      refine hK9 _ _ _ ?_
      refine at_cond_true (congrArg (fun b => some (Value.bool b)) (show _ = true from decide_eq_true (by omega))) ?_
      refine at_draw _ [] 1000 [(2, 0), (2, 1), (2, 2), (2, 3), (1, 4), (2, 5), (1, 6), (1, 7), (2, 8), (2, 9), (2, 10), (0, 11), (2, 12), (0, 13), (0, 14), (2, 15)] (by kernel_rfl) (by kernel_rfl) (fun _ s => (s.pulls (ks := [1, 1]) rfl).left) ?_
      refine aq_p (ov_move rfl rfl) rfl rfl rfl ?_
      refine aq_p (ov_move rfl rfl) rfl rfl rfl ?_
      refine aq_p (ov_nilCheck rfl rfl) rfl rfl rfl ?_
      refine aq_p (ov_fieldAddr (k := 0) (r := 0) rfl rfl rfl rfl) rfl rfl rfl ?_
      refine aq_v (ov_load rfl rfl rfl (fun _ s => s.ld (k := 0) rfl rfl)) rfl rfl rfl ?_
      refine aq_p (ov_move rfl rfl) rfl rfl rfl ?_
      refine aq_v (ov_indexRd (fun _ s => s.rd (k := 1) rfl) rfl Tryd.underlying22 rfl rfl rfl hget) rfl rfl rfl ?_
      refine aq_v (ov_loadRd0 (fun _ s => s.rd (k := 1) rfl) rfl rfl rfl hget rfl) rfl rfl rfl ?_
      refine aq_p (ov_cat rfl rfl rfl (by omega)) rfl rfl rfl ?_
      refine aq_p (ov_move rfl rfl) rfl rfl rfl ?_
      refine aq_p ((ov_neg rfl rfl).eq (congrArg (Value.int .i64) (inK_i64 (by omega) (by omega)))) rfl rfl rfl ?_
      refine aq_t (ot_call (ks := []) rfl rfl rfl Tryd.call28 rfl (hdig ) rfl) rfl rfl rfl ?_
      rintro v0 _ ⟨m0, hp0, rfl⟩
      obtain ⟨rfl, rfl⟩ := hp0
      simp only [List.cons_append, List.nil_append, splice, spliceL]
      refine ⟨fun _ s => (s.pulls (ks := [1, 1]) rfl).left, ?_⟩
      refine aq_p (ov_cat rfl rfl rfl (by omega)) rfl rfl rfl ?_
      refine aq_t (ot_buildSlice (cs := [_]) rfl Tryd.underlying22 rfl rfl rfl rfl rfl rfl) rfl rfl rfl ?_
      rintro _ _ ⟨g1, rfl, rfl⟩
      refine ⟨fun _ s => (s.pulls (ks := [2, 2]) rfl).left, ?_⟩
      refine aq_t (ot_append (k := 1) (size := 1) (bytes := 16) (ys := [x ++ ⟨#[32]⟩ ++ digB n.natAbs]) (fun _ s => s.rdPt (k := 0) rfl rfl (by simp [sE])) rfl Tryd.underlying22 (ti := Tryd.t9) rfl rfl rfl rfl rfl (by decide) rfl rfl rfl (by simp [sE, Value.oneCell']) (by simp; omega) (by decide)) rfl rfl rfl ?_
      rintro _ _ ⟨A0, c0, rfl, rfl⟩
      simp only [setAt]
      refine ⟨fun _ s => (s.pulls (ks := [2, 2]) rfl).left, ?_⟩
      rw [← e2]
      refine aq_p (ov_assign rfl rfl) rfl rfl rfl ?_
      refine aq_nil ?_
      refine at_normal ?_
      refine hK8 _ _ _ ?_
      refine at_seq_k (fun K10 hK10 => ?_)
      refine at_region ?_
      refine at_v (ov_move rfl rfl) rfl rfl rfl ?_
      refine at_v (ov_int rfl rfl rfl rfl) rfl rfl rfl ?_
      refine at_nil ?_
      refine at_normal ?_
      refine hK10 _ _ _ ?_
      refine at_cond_false (congrArg (fun b => some (Value.bool b)) (show _ = false from decide_eq_false (by omega))) ?_
      refine at_skip ?_
      refine at_inb_normal ?_
      refine at_normal ?_
      refine hK6 _ _ _ ?_
      refine at_region ?_
      refine at_v (ov_move rfl rfl) rfl rfl rfl ?_
      refine at_v ((ov_int rfl rfl rfl rfl).eq (congrArg (Value.int .i64) (inK_i64 (by omega) (by omega)))) rfl rfl rfl ?_
      refine at_v (ov_assign rfl rfl) rfl rfl rfl ?_
      refine at_nil ?_
      refine at_normal ?_
      refine at_roundF (k + 1, A0, c0) hlt (by simp only; omega) ⟨rfl, look_eq rfl (by simp only [hst]), trivial⟩ rfl ?_
      simp only [hst]
      exact fun _ s => s.finEq (ks := [1, 1, 1, 1]) (js := [0]) rfl rfl rfl
  · have hk2 : k = l.length := by
      have : ¬ k < l.length := by simpa using hc2
      omega
    subst hk2
    rw [List.take_length, List.take_of_length_le (by omega)]
    refine at_exit ?_
    refine at_then_exit ?_
    refine at_then_exit ?_
    refine at_exit_eq ?_
    refine at_normal ?_
    refine hK2 _ _ _ ?_
    refine at_seq_k (fun K6 hK6 => ?_)
    refine at_region ?_
    refine at_v (ov_move rfl rfl) rfl rfl rfl ?_
    refine at_v (ov_assign rfl rfl) rfl rfl rfl ?_
    refine at_nil ?_
    refine at_normal ?_
    refine hK6 _ _ _ ?_
    refine at_ret ?_
    refine at_end ?_
    refine at_fold (A := RefT g l cs) [1, 1, 1] rfl (fun h s => ⟨NA, nc, CA, cc, ⟨hl, hc⟩, s⟩) ?_
    refine at_fin (rsV rfl (res_tmp rfl)) ?_
    refine ⟨_, ⟨_, _, rfl, rfl⟩, ?_⟩
    exact fun _ s => s.finEq (ks := [1, 0]) (js := []) rfl rfl rfl
