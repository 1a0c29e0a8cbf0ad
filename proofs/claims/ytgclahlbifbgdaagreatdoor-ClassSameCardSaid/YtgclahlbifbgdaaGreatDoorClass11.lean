/- Package class: explain, walked; tokens whole. -/
import Derived.Test.YtgclahlbifbgdaaGreatDoorProg
import Derived.Test.YtgclahlbifbgdaaGreatDoorClass10
import Derived.Test.YtgclahlbifbgdaaGreatDoorSLStr
import Derived.KernelRfl
set_option linter.unusedSimpArgs false
set_option linter.unusedVariables false
set_option maxRecDepth 100000
set_option maxHeartbeats 4000000
namespace Go.Proofs.YtgclahlbifbgdaaGreatDoor
open Go Go.Proofs.YtgclahlbifbgdaaGreatDoor.SL Go.RowKit
theorem at_rowDrop {w0 : World} {n : Nat} {ds : List Deferred} {R : Act → World → Prop} {env : Env} {α : Type} {enc : α → List Value} {l : List HP} (j k : Nat) {e : TypeId} {size : Nat} {A : Option Addr} {c : Nat} {xs : List α} (hk : nth k l = some (Row enc e size A c xs)) (hj : j ≤ xs.length)
    (h : At w0 n ds R env (setAt k (Row enc e size (dropA A c j size) (c - j) (xs.drop j)) l)) : At w0 n ds R env l := fun a w f s => by
  refine h a w f ?_
  obtain ⟨r, hp, hs⟩ := nth_pull hk
  have s1 : Sat w0 w (Row enc e size A c xs :: r) := s.imp fun _ hh => star_perm hp hh
  have s2 : Sat w0 w (Row enc e size (dropA A c j size) (c - j) (xs.drop j) :: r) := s1.imp fun h ⟨p, q, h1, h2, h3⟩ => ⟨p, q, Row.drop h1 j hj, h2, h3⟩
  exact s2.imp fun _ hh => star_perm (hs _).symm hh
theorem prog_explain_step (w0 : World) {g : Nat} {A : Option Addr} {c f : Nat} {l : List Tok} (hm : l.length ≤ 200)
    (hIH : 2 ≤ l.length → Tri Tryz.prog w0 27 [ptrTo g, .slice (dropA A c 2 2) (l.drop 2).length (c - 2)] [Row tE 37 2 (dropA A c 2 2) (c - 2) (l.drop 2), Cl g] fun v m => v = .int .i64 (tokN f (l.drop 2)) ∧ m = [Cl g]) :
    Tri Tryz.prog w0 52 [ptrTo g, .slice A l.length c] [Row tE 37 2 A c l, Cl g] fun v m => v = .int .i64 (if wordIn l 1 anaW then (if tokN f (l.drop 2) = 2 ∨ tokN f (l.drop 2) = 7 then tokN f (l.drop 2) else 1) else 1) ∧ m = [Cl g] := by
  refine tri_of Tryz.func52 rfl rfl fun F => ?_
  simp only [Tryz.ntmps52, argEnv, List.cons_append, List.nil_append]
  refine at_rowLen 0 rfl (fun hle _ => ?_)
  have p1 : (wordIn l 1 anaW = true → 2 ≤ l.length) := fun h => by
    unfold wordIn at h
    cases hx : l[1]? with
    | none => rw [hx] at h; cases h
    | some x => have := (List.getElem?_eq_some_iff.1 hx).1; omega
  have hW := fun {B} {c'} {d} {d'} => T85b w0 (A := A) (B := B) (c := c) (c' := c') (d := d) (d' := d') (l := l) (ws := anaW) (by omega) (by decide) 1 (by decide)
  refine at_seq_k (fun K0 hK0 => ?_)
  refine at_region ?_
  refine at_v (ov_assign rfl rfl) rfl rfl rfl ?_
  refine at_nil ?_
  refine at_normal ?_
  refine hK0 _ _ _ ?_
  refine at_seq_k (fun K1 hK1 => ?_)
  refine at_seq_k (fun K2 hK2 => ?_)
  refine at_region ?_
  refine at_v (ov_move rfl rfl) rfl rfl rfl ?_
  refine at_t (ot_buildSlice (cs := [_, _]) rfl Tryz.underlying73 rfl rfl rfl rfl rfl rfl) rfl rfl rfl ?_
  rintro _ _ ⟨g0, rfl, rfl⟩
  refine at_rowOf bsE 0 (size := 1) (c := 2) anaW rfl (fun _ _ => rfl) (by decide) (by decide) (by decide) rfl ?_
  simp only [setAt]
  refine at_reval 7 (.slice (some ⟨g0, 0, none⟩) anaW.length 2) rfl rfl ?_
  cases c2 : wordIn l 1 anaW with
  | false =>
    rw [c2] at hW
    refine at_t (ot_call (ks := [1, 0]) rfl rfl rfl Tryz.call85 rfl (hW ) rfl) rfl rfl rfl ?_
    rintro v0 _ ⟨m0, hp0, rfl⟩
    obtain ⟨rfl, rfl⟩ := hp0
    simp only [List.cons_append, List.nil_append, splice, spliceL]
    refine at_v (ov_not rfl rfl) rfl rfl rfl ?_
    refine at_nil ?_
    refine at_normal ?_
    refine hK2 _ _ _ ?_
    refine at_cond_true rfl ?_
    refine at_seq_k (fun K3 hK3 => ?_)
    refine at_region ?_
    refine at_v (ov_assign rfl rfl) rfl rfl rfl ?_
    refine at_nil ?_
    refine at_normal ?_
    refine hK3 _ _ _ ?_
    refine at_ret ?_
    refine at_then_ret ?_
    refine at_end ?_
    refine at_fin (rsV rfl (res_tmp rfl)) ?_
    refine ⟨_, ⟨by rw [c2]; rfl, rfl⟩, ?_⟩
    exact fun _ s => s.finEq (ks := [2]) (js := [0, 0]) rfl rfl rfl
  | true =>
    have hlen2 := p1 c2
    have hI := hIH hlen2
    rw [c2] at hW
    generalize hn : tokN f (l.drop 2) = n at hI
    refine at_t (ot_call (ks := [1, 0]) rfl rfl rfl Tryz.call85 rfl (hW ) rfl) rfl rfl rfl ?_
    rintro v0 _ ⟨m0, hp0, rfl⟩
    obtain ⟨rfl, rfl⟩ := hp0
    simp only [List.cons_append, List.nil_append, splice, spliceL]
    refine at_v (ov_not rfl rfl) rfl rfl rfl ?_
    refine at_nil ?_
    refine at_normal ?_
    refine hK2 _ _ _ ?_
    refine at_cond_false rfl ?_
    refine at_skip ?_
    refine at_normal ?_
    refine hK1 _ _ _ ?_
    refine at_seq_k (fun K3 hK3 => ?_)
    refine at_seq_k (fun K4 hK4 => ?_)
    refine at_region ?_
    refine at_v (ov_move rfl rfl) rfl rfl rfl ?_
    refine at_v (ov_move rfl rfl) rfl rfl rfl ?_
    refine at_v (ov_sliceFrom (k := 2) rfl Tryz.underlying36 rfl rfl rfl (by first | (simp; done) | assumption | omega) (by assumption)) rfl rfl rfl ?_
    refine at_reval 12 (.slice (dropA A c 2 2) (l.drop 2).length (c - 2)) rfl rfl ?_
    refine at_rowDrop 2 0 rfl hlen2 ?_
    simp only [setAt]
    by_cases n2 : n = 2
    · have g2 : decide (n = 2) = true := decide_eq_true n2
      refine at_t (ot_call (ks := [0, 1]) rfl rfl rfl Tryz.call27 rfl (hI ) rfl) rfl rfl rfl ?_
      rintro v0 _ ⟨m0, hp0, rfl⟩
      obtain ⟨rfl, rfl⟩ := hp0
      simp only [List.cons_append, List.nil_append, splice, spliceL]
      refine at_v (ov_assign rfl rfl) rfl rfl rfl ?_
      refine at_nil ?_
      refine at_normal ?_
      refine hK4 _ _ _ ?_
      refine at_seq_k (fun K5 hK5 => ?_)
      refine at_region ?_
      refine at_v (ov_move rfl rfl) rfl rfl rfl ?_
      refine at_v (ov_int rfl rfl rfl rfl) rfl rfl rfl ?_
      refine at_v (ov_move rfl rfl) rfl rfl rfl ?_
      refine at_reval 16 (.bool true) rfl (congrArg Value.bool (decide_eq_true (by omega))) ?_
      refine at_unwanted (j := 2) rfl rfl rfl rfl ?_
      refine at_unwanted (j := 2) rfl rfl rfl rfl ?_
      refine at_v (ov_pick_t rfl rfl rfl) rfl rfl rfl ?_
      refine at_nil ?_
      refine at_normal ?_
      refine hK5 _ _ _ ?_
      refine at_cond_true rfl ?_
      refine at_seq_k (fun K6 hK6 => ?_)
      refine at_region ?_
      refine at_v (ov_move rfl rfl) rfl rfl rfl ?_
      refine at_v (ov_assign rfl rfl) rfl rfl rfl ?_
      refine at_nil ?_
      refine at_normal ?_
      refine hK6 _ _ _ ?_
      refine at_ret ?_
      refine at_then_ret ?_
      refine at_end ?_
      refine at_fin (rsV rfl (res_tmp rfl)) ?_
      refine ⟨_, ⟨by rw [c2, hn, if_pos rfl, if_pos (.inl n2)], rfl⟩, ?_⟩
      exact fun _ s => s.finEq (ks := [0]) (js := [0]) rfl rfl rfl
    have g2 : decide (n = 2) = false := decide_eq_false n2
    by_cases n7 : n = 7
    · have g7 : decide (n = 7) = true := decide_eq_true n7
      refine at_t (ot_call (ks := [0, 1]) rfl rfl rfl Tryz.call27 rfl (hI ) rfl) rfl rfl rfl ?_
      rintro v0 _ ⟨m0, hp0, rfl⟩
      obtain ⟨rfl, rfl⟩ := hp0
      simp only [List.cons_append, List.nil_append, splice, spliceL]
      refine at_v (ov_assign rfl rfl) rfl rfl rfl ?_
      refine at_nil ?_
      refine at_normal ?_
      refine hK4 _ _ _ ?_
      refine at_seq_k (fun K5 hK5 => ?_)
      refine at_region ?_
      refine at_v (ov_move rfl rfl) rfl rfl rfl ?_
      refine at_v (ov_int rfl rfl rfl rfl) rfl rfl rfl ?_
      refine at_v (ov_move rfl rfl) rfl rfl rfl ?_
      refine at_reval 16 (.bool false) rfl (congrArg Value.bool (decide_eq_false (by omega))) ?_
      refine at_wanted (j := 2) rfl ?_
      refine at_v (ov_move rfl rfl) rfl rfl rfl ?_
      refine at_wanted (j := 2) rfl ?_
      refine at_v (ov_int rfl rfl rfl rfl) rfl rfl rfl ?_
      refine at_v (ov_pick_f rfl rfl rfl) rfl rfl rfl ?_
      refine at_nil ?_
      refine at_normal ?_
      refine hK5 _ _ _ ?_
      refine at_cond_true (congrArg (fun b => some (Value.bool b)) (show _ = true from decide_eq_true (by omega))) ?_
      refine at_seq_k (fun K6 hK6 => ?_)
      refine at_region ?_
      refine at_v (ov_move rfl rfl) rfl rfl rfl ?_
      refine at_v (ov_assign rfl rfl) rfl rfl rfl ?_
      refine at_nil ?_
      refine at_normal ?_
      refine hK6 _ _ _ ?_
      refine at_ret ?_
      refine at_then_ret ?_
      refine at_end ?_
      refine at_fin (rsV rfl (res_tmp rfl)) ?_
      refine ⟨_, ⟨by rw [c2, hn, if_pos rfl, if_pos (.inr n7)], rfl⟩, ?_⟩
      exact fun _ s => s.finEq (ks := [0]) (js := [0]) rfl rfl rfl
    have g7 : decide (n = 7) = false := decide_eq_false n7
    refine at_t (ot_call (ks := [0, 1]) rfl rfl rfl Tryz.call27 rfl (hI ) rfl) rfl rfl rfl ?_
    rintro v0 _ ⟨m0, hp0, rfl⟩
    obtain ⟨rfl, rfl⟩ := hp0
    simp only [List.cons_append, List.nil_append, splice, spliceL]
    refine at_v (ov_assign rfl rfl) rfl rfl rfl ?_
    refine at_nil ?_
    refine at_normal ?_
    refine hK4 _ _ _ ?_
    refine at_seq_k (fun K5 hK5 => ?_)
    refine at_region ?_
    refine at_v (ov_move rfl rfl) rfl rfl rfl ?_
    refine at_v (ov_int rfl rfl rfl rfl) rfl rfl rfl ?_
    refine at_v (ov_move rfl rfl) rfl rfl rfl ?_
    refine at_reval 16 (.bool false) rfl (congrArg Value.bool (decide_eq_false (by omega))) ?_
    refine at_wanted (j := 2) rfl ?_
    refine at_v (ov_move rfl rfl) rfl rfl rfl ?_
    refine at_wanted (j := 2) rfl ?_
    refine at_v (ov_int rfl rfl rfl rfl) rfl rfl rfl ?_
    refine at_v (ov_pick_f rfl rfl rfl) rfl rfl rfl ?_
    refine at_nil ?_
    refine at_normal ?_
    refine hK5 _ _ _ ?_
    refine at_cond_false (congrArg (fun b => some (Value.bool b)) (show _ = false from decide_eq_false (by omega))) ?_
    refine at_skip ?_
    refine at_normal ?_
    refine hK3 _ _ _ ?_
    refine at_seq_k (fun K6 hK6 => ?_)
    refine at_region ?_
    refine at_v (ov_assign rfl rfl) rfl rfl rfl ?_
    refine at_nil ?_
    refine at_normal ?_
    refine hK6 _ _ _ ?_
    refine at_ret ?_
    refine at_end ?_
    refine at_fin (rsV rfl (res_tmp rfl)) ?_
    refine ⟨_, ⟨by rw [c2, hn, if_pos rfl, if_neg (by omega)], rfl⟩, ?_⟩
    exact fun _ s => s.finEq (ks := [0]) (js := [0]) rfl rfl rfl
theorem T27 (w0 : World) {g : Nat} : ∀ (f : Nat) {A : Option Addr} {c : Nat} {l : List Tok}, l.length ≤ f → l.length ≤ 200 →
    Tri Tryz.prog w0 27 [ptrTo g, .slice A l.length c] [Row tE 37 2 A c l, Cl g] fun v m => v = .int .i64 (tokN (f + 1) l) ∧ m = [Cl g] := by
  intro f
  induction f with
  | zero => intro A c l h hm; exact prog_tokens_step w0 hm (prog_explain_step w0 hm (fun h2 => absurd h2 (by omega)))
  | succ f ih =>
    intro A c l h hm
    refine prog_tokens_step w0 hm (prog_explain_step w0 hm (fun h2 => ?_))
    exact ih (A := dropA A c 2 2) (c := c - 2) (l := l.drop 2) (by rw [List.length_drop]; omega) (by rw [List.length_drop]; omega)
end Go.Proofs.YtgclahlbifbgdaaGreatDoor
