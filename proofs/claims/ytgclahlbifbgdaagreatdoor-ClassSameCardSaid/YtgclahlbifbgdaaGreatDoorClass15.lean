/- Package class: Once and begins where the rules aren't made yet; what uses them, of a new classer. -/
import Derived.Test.YtgclahlbifbgdaaGreatDoorProg
import Derived.Test.YtgclahlbifbgdaaGreatDoorClass14
import Derived.Test.YtgclahlbifbgdaaGreatDoorSLStr
import Derived.KernelRfl
set_option linter.unusedSimpArgs false
set_option linter.unusedVariables false
set_option maxRecDepth 100000
set_option maxHeartbeats 4000000
namespace Go.Proofs.YtgclahlbifbgdaaGreatDoor
open Go Go.Proofs.YtgclahlbifbgdaaGreatDoor.SL Go.RowKit
theorem T84 (w0 : World) {g b : Nat} : Tri Tryz.prog w0 84 [.pointer (some ⟨g, 0, none⟩), .func (.func 51) #[] #[ptrTo b]] [cl b #[ptrTo g] 23, CC g 0 0 0 (.map none)] fun v m => ∃ mb b4 b5, ∃ bs1 bs2 : List Nat, ∃ kvs, (bs1.length = 3 ∧ bs2.length = 12 ∧ kvs.Perm (rulesL b4 b5 bs1 bs2)) ∧ v = .tuple #[] ∧ m = [cl b #[ptrTo g] 23, CC g 1 0 0 (.map (some mb)), MapA KS mb kvs, cl b4 #[.int .i64 4] 3, cl b5 #[.int .i64 5] 3, Boxes 1 bs1, Boxes 2 bs2] := by
  refine tri_of Tryz.func84 rfl rfl fun F => ?_
  simp only [Tryz.ntmps84, argEnv, List.cons_append, List.nil_append]
  refine at_seq_k (fun K0 hK0 => ?_)
  refine at_region ?_
  refine at_v (ov_move rfl rfl) rfl rfl rfl ?_
  refine at_v (ov_nilCheck rfl rfl) rfl rfl rfl ?_
  refine at_v (ov_fieldAddr (k := 1) (r := 1) rfl rfl rfl rfl) rfl rfl rfl ?_
  refine at_t (ot_call (ks := [1]) rfl rfl rfl Tryz.call105 rfl (T105 _ (by first | assumption | rfl | omega | decide | (simp; done) | (simp at *; omega))) rfl) rfl rfl rfl ?_
  rintro v0 _ ⟨m0, hp0, rfl⟩
  obtain ⟨rfl, rfl⟩ := hp0
  simp only [List.cons_append, List.nil_append, splice, spliceL]
  refine at_nil ?_
  refine at_normal ?_
  refine hK0 _ _ _ ?_
  refine at_seq_k (fun K1 hK1 => ?_)
  refine at_region ?_
  refine at_v (ov_move rfl rfl) rfl rfl rfl ?_
  refine at_v (ov_nilCheck rfl rfl) rfl rfl rfl ?_
  refine at_v (ov_fieldAddr (k := 1) (r := 1) rfl rfl rfl rfl) rfl rfl rfl ?_
  refine at_defer (first := []) (caps := []) rfl rfl rfl rfl rfl ?_
  refine at_nil ?_
  refine at_normal ?_
  refine hK1 _ _ _ ?_
  refine at_seq_k (fun K2 hK2 => ?_)
  refine at_region ?_
  refine at_v (ov_move rfl rfl) rfl rfl rfl ?_
  refine at_v (ov_nilCheck rfl rfl) rfl rfl rfl ?_
  refine at_v (ov_fieldAddr (k := 0) (r := 0) rfl rfl rfl rfl) rfl rfl rfl ?_
  refine at_t (ot_call (ks := [0]) rfl rfl rfl Tryz.call83 rfl (T83 _ (by first | assumption | rfl | omega | decide | (simp; done) | (simp at *; omega))) rfl) rfl rfl rfl ?_
  rintro v0 _ ⟨m0, hp0, rfl⟩
  obtain ⟨rfl, rfl⟩ := hp0
  simp only [List.cons_append, List.nil_append, splice, spliceL]
  refine at_v (ov_not rfl rfl) rfl rfl rfl ?_
  refine at_nil ?_
  refine at_normal ?_
  refine hK2 _ _ _ ?_
  refine at_cond_true rfl ?_
  refine at_seq_k (fun K3 hK3 => ?_)
  refine at_region ?_
  refine at_v (ov_move rfl rfl) rfl rfl rfl ?_
  refine at_v (ov_nilCheck rfl rfl) rfl rfl rfl ?_
  refine at_v (ov_fieldAddr (k := 0) (r := 0) rfl rfl rfl rfl) rfl rfl rfl ?_
  refine at_defer (first := []) (caps := []) rfl rfl rfl rfl rfl ?_
  refine at_nil ?_
  refine at_normal ?_
  refine hK3 _ _ _ ?_
  refine at_region ?_
  refine at_v (ov_move rfl rfl) rfl rfl rfl ?_
  refine at_t (ot_call (ks := [1, 0]) rfl rfl rfl Tryz.call51 rfl (T51 _) rfl) rfl rfl rfl ?_
  rintro v0 _ ⟨m0, hp0, rfl⟩
  obtain ⟨mb0, hp0⟩ := hp0
  obtain ⟨b40, hp0⟩ := hp0
  obtain ⟨b50, hp0⟩ := hp0
  obtain ⟨bs10, hp0⟩ := hp0
  obtain ⟨bs20, hp0⟩ := hp0
  obtain ⟨kvs0, hp0⟩ := hp0
  obtain ⟨hq0, hp0⟩ := hp0
  obtain ⟨rfl, rfl⟩ := hp0
  simp only [List.cons_append, List.nil_append, splice, spliceL]
  refine at_nil ?_
  refine at_end ?_
  refine at_leave (vs := [.pointer (some ⟨g, 0, none⟩), .bool true]) (ks := [1]) Tryz.call107 rfl (D107 w0 (u := .int .u32 0) rfl) rfl ?_
  rintro _ _ ⟨rfl, rfl⟩
  simp only [List.cons_append, List.nil_append, splice, spliceL]
  refine at_leave (vs := [.pointer (some ⟨g, 1, none⟩)]) (ks := [0]) Tryz.call106 rfl (D106 w0 rfl) rfl ?_
  rintro _ _ ⟨rfl, rfl⟩
  simp only [List.cons_append, List.nil_append, splice, spliceL]
  refine at_fin (rs0 rfl) ?_
  refine ⟨_, ⟨mb0, b40, b50, bs10, bs20, kvs0, by assumption, rfl, rfl⟩, ?_⟩
  exact fun _ s => s.finEq (ks := [1, 0, 0, 0, 0, 0, 0]) (js := []) rfl rfl rfl
theorem T50a (w0 : World) {g b : Nat} : Tri Tryz.prog w0 50 [.pointer (some ⟨g, 0, none⟩), .func (.func 51) #[] #[ptrTo b]] [cl b #[ptrTo g] 23, CC g 0 0 0 (.map none)] fun v m => ∃ mb b4 b5, ∃ bs1 bs2 : List Nat, ∃ kvs, (bs1.length = 3 ∧ bs2.length = 12 ∧ kvs.Perm (rulesL b4 b5 bs1 bs2)) ∧ v = .tuple #[] ∧ m = [cl b #[ptrTo g] 23, CC g 1 0 0 (.map (some mb)), MapA KS mb kvs, cl b4 #[.int .i64 4] 3, cl b5 #[.int .i64 5] 3, Boxes 1 bs1, Boxes 2 bs2] := by
  refine tri_of Tryz.func50 rfl rfl fun F => ?_
  simp only [Tryz.ntmps50, argEnv, List.cons_append, List.nil_append]
  refine at_seq_k (fun K0 hK0 => ?_)
  refine at_region ?_
  refine at_v (ov_move rfl rfl) rfl rfl rfl ?_
  refine at_v (ov_nilCheck rfl rfl) rfl rfl rfl ?_
  refine at_v (ov_fieldAddr (k := 0) (r := 0) rfl rfl rfl rfl) rfl rfl rfl ?_
  refine at_t (ot_call (ks := [1]) rfl rfl rfl Tryz.call83 rfl (T83 _ (by first | assumption | rfl | omega | decide | (simp; done) | (simp at *; omega))) rfl) rfl rfl rfl ?_
  rintro v0 _ ⟨m0, hp0, rfl⟩
  obtain ⟨rfl, rfl⟩ := hp0
  simp only [List.cons_append, List.nil_append, splice, spliceL]
  refine at_v (ov_not rfl rfl) rfl rfl rfl ?_
  refine at_nil ?_
  refine at_normal ?_
  refine hK0 _ _ _ ?_
  refine at_cond_true rfl ?_
  refine at_region ?_
  refine at_v (ov_move rfl rfl) rfl rfl rfl ?_
  refine at_v (ov_move rfl rfl) rfl rfl rfl ?_
  refine at_t (ot_call (ks := [1, 0]) rfl rfl rfl Tryz.call84 rfl (T84 _) rfl) rfl rfl rfl ?_
  rintro v0 _ ⟨m0, hp0, rfl⟩
  obtain ⟨mb0, hp0⟩ := hp0
  obtain ⟨b40, hp0⟩ := hp0
  obtain ⟨b50, hp0⟩ := hp0
  obtain ⟨bs10, hp0⟩ := hp0
  obtain ⟨bs20, hp0⟩ := hp0
  obtain ⟨kvs0, hp0⟩ := hp0
  obtain ⟨hq0, hp0⟩ := hp0
  obtain ⟨rfl, rfl⟩ := hp0
  simp only [List.cons_append, List.nil_append, splice, spliceL]
  refine at_nil ?_
  refine at_end ?_
  refine at_fin (rs0 rfl) ?_
  refine ⟨_, ⟨mb0, b40, b50, bs10, bs20, kvs0, by assumption, rfl, rfl⟩, ?_⟩
  exact fun _ s => s.finEq (ks := [0, 0, 0, 0, 0, 0, 0]) (js := []) rfl rfl rfl
/-- A classer, in use or not. -/
def Cl (g : Nat) : HP := fun h => CC g 0 0 0 (.map none) h ∨ Cls g 0 h
theorem at_cl {w0 : World} {n : Nat} {ds : List Deferred} {R : Act → World → Prop} {env : Env} {l : List HP} {g : Nat}
    (h1 : At w0 n ds R env (CC g 0 0 0 (.map none) :: l)) (h2 : At w0 n ds R env (Cls g 0 :: l)) : At w0 n ds R env (Cl g :: l) := fun a w f s => by
  obtain ⟨bel, h, ⟨p, q, hp, hq, hd, l1, l2⟩, kk⟩ := s
  rcases hp with hp | hp
  · exact h1 a w f ⟨bel, h, ⟨p, q, hp, hq, hd, l1, l2⟩, kk⟩
  · exact h2 a w f ⟨bel, h, ⟨p, q, hp, hq, hd, l1, l2⟩, kk⟩
/-- begins, of any classer. -/
theorem T31c (w0 : World) {g : Nat} : Tri Tryz.prog w0 31 [ptrTo g] [Cl g] fun v m => ∃ mb b4 b5, ∃ bs1 bs2 : List Nat, ∃ kvs, (bs1.length = 3 ∧ bs2.length = 12 ∧ kvs.Perm (rulesL b4 b5 bs1 bs2)) ∧ v = .map (some mb) ∧ m = [CC g 1 0 0 (.map (some mb)), MapA KS mb kvs, cl b4 #[.int .i64 4] 3, cl b5 #[.int .i64 5] 3, Boxes 1 bs1, Boxes 2 bs2] := by
  refine tri_of Tryz.func31 rfl rfl fun F => ?_
  simp only [Tryz.ntmps31, argEnv, List.cons_append, List.nil_append]
  refine at_cl ?_ ?_
  · refine at_seq_k (fun K0 hK0 => ?_)
    refine at_region ?_
    refine at_t (ot_box1 rfl rfl rfl) rfl rfl rfl ?_
    rintro _ _ ⟨g0, rfl, rfl⟩
    refine at_v (ov_assign rfl rfl) rfl rfl rfl ?_
    refine at_nil ?_
    refine at_normal ?_
    refine hK0 _ _ _ ?_
    refine at_seq_k (fun K1 hK1 => ?_)
    refine at_region ?_
    refine at_v (ov_load rfl rfl rfl (fun _ s => s.ld (k := 0) rfl rfl)) rfl rfl rfl ?_
    refine at_v (ov_nilCheck rfl rfl) rfl rfl rfl ?_
    refine at_v (ov_fieldAddr (k := 0) (r := 0) rfl rfl rfl rfl) rfl rfl rfl ?_
    refine at_v (ov_makeFunc (first := []) rfl rfl rfl) rfl rfl rfl ?_
    refine at_t (ot_call (ks := [0, 0]) rfl rfl rfl Tryz.call50 rfl (T50a _) rfl) rfl rfl rfl ?_
    rintro v0 _ ⟨m0, hp0, rfl⟩
    obtain ⟨mb0, hp0⟩ := hp0
    obtain ⟨b40, hp0⟩ := hp0
    obtain ⟨b50, hp0⟩ := hp0
    obtain ⟨bs10, hp0⟩ := hp0
    obtain ⟨bs20, hp0⟩ := hp0
    obtain ⟨kvs0, hp0⟩ := hp0
    obtain ⟨hq0, hp0⟩ := hp0
    obtain ⟨rfl, rfl⟩ := hp0
    simp only [List.cons_append, List.nil_append, splice, spliceL]
    refine at_nil ?_
    refine at_normal ?_
    refine hK1 _ _ _ ?_
    refine at_seq_k (fun K2 hK2 => ?_)
    refine at_region ?_
    refine at_v (ov_load rfl rfl rfl (fun _ s => s.ld (k := 0) rfl rfl)) rfl rfl rfl ?_
    refine at_v (ov_nilCheck rfl rfl) rfl rfl rfl ?_
    refine at_v (ov_fieldAddr (k := 3) (r := 3) rfl rfl rfl rfl) rfl rfl rfl ?_
    refine at_v (ov_load rfl rfl rfl (fun _ s => s.ld (k := 1) rfl rfl)) rfl rfl rfl ?_
    refine at_v (ov_assign rfl rfl) rfl rfl rfl ?_
    refine at_nil ?_
    refine at_normal ?_
    refine hK2 _ _ _ ?_
    refine at_ret ?_
    refine at_end ?_
    refine at_fin (rsV rfl (res_tmp rfl)) ?_
    refine ⟨_, ⟨mb0, b40, b50, bs10, bs20, kvs0, by assumption, rfl, rfl⟩, ?_⟩
    exact fun _ s => s.finEq (ks := [1, 1, 1, 1, 1, 1]) (js := [0]) rfl rfl rfl
  · refine at_cls fun mb b4 b5 bs1 bs2 kvs hl1 hl2 hperm => ?_
    refine at_seq_k (fun K0 hK0 => ?_)
    refine at_region ?_
    refine at_t (ot_box1 rfl rfl rfl) rfl rfl rfl ?_
    rintro _ _ ⟨g0, rfl, rfl⟩
    refine at_v (ov_assign rfl rfl) rfl rfl rfl ?_
    refine at_nil ?_
    refine at_normal ?_
    refine hK0 _ _ _ ?_
    refine at_seq_k (fun K1 hK1 => ?_)
    refine at_region ?_
    refine at_v (ov_load rfl rfl rfl (fun _ s => s.ld (k := 0) rfl rfl)) rfl rfl rfl ?_
    refine at_v (ov_nilCheck rfl rfl) rfl rfl rfl ?_
    refine at_v (ov_fieldAddr (k := 0) (r := 0) rfl rfl rfl rfl) rfl rfl rfl ?_
    refine at_v (ov_makeFunc (first := []) rfl rfl rfl) rfl rfl rfl ?_
    refine at_t (ot_call (ks := [1]) rfl rfl rfl Tryz.call50 rfl (T50 _) rfl) rfl rfl rfl ?_
    rintro v0 _ ⟨m0, hp0, rfl⟩
    obtain ⟨rfl, rfl⟩ := hp0
    simp only [List.cons_append, List.nil_append, splice, spliceL]
    refine at_nil ?_
    refine at_normal ?_
    refine hK1 _ _ _ ?_
    refine at_seq_k (fun K2 hK2 => ?_)
    refine at_region ?_
    refine at_v (ov_load rfl rfl rfl (fun _ s => s.ld (k := 1) rfl rfl)) rfl rfl rfl ?_
    refine at_v (ov_nilCheck rfl rfl) rfl rfl rfl ?_
    refine at_v (ov_fieldAddr (k := 3) (r := 3) rfl rfl rfl rfl) rfl rfl rfl ?_
    refine at_v (ov_load rfl rfl rfl (fun _ s => s.ld (k := 0) rfl rfl)) rfl rfl rfl ?_
    refine at_v (ov_assign rfl rfl) rfl rfl rfl ?_
    refine at_nil ?_
    refine at_normal ?_
    refine hK2 _ _ _ ?_
    refine at_ret ?_
    refine at_end ?_
    refine at_fin (rsV rfl (res_tmp rfl)) ?_
    refine ⟨_, ⟨mb, b4, b5, bs1, bs2, kvs, ⟨hl1, hl2, hperm⟩, rfl, rfl⟩, ?_⟩
    exact fun _ s => s.finEq (ks := [0, 1, 1, 1, 1, 1]) (js := [0]) rfl rfl rfl
/-- An operation that reads what isn't kept, in a region that draws its order: where its place is fixed. -/
theorem aq_v0 {P : Program} {w0 : World} {n : Nat} {ds : List Deferred} {env : Env} {l S S2 : List HP} {Q : Exit → Act → World → Prop} {ops : Array Oper} {o : Oper} {rest : List (Nat × Oper)} {v : Value} {d : Nat} (h : OpV P w0 n ds env l o v) (hg : o.guard = none) (hd : o.dst = some d) (hn : Nat.blt d n = true) (hS : ∀ w, Sat w0 w l → Sat w0 w S)
    (k : At w0 n ds (pi P ops w0 S2 Q S rest) ((d, v) :: env) l) : At w0 n ds (pi P ops w0 S2 Q S ((0, o) :: rest)) env l :=
  aq_t h.T hg hd hn fun u l' ⟨h1, h2⟩ => by subst h1; subst h2; exact ⟨hS, k⟩
theorem cl_fold {g mb b4 b5 : Nat} {bs1 bs2 : List Nat} {kvs : List (Value × Value)} (hx : bs1.length = 3 ∧ bs2.length = 12 ∧ kvs.Perm (rulesL b4 b5 bs1 bs2)) (h : PH)
    (s : star [CC g 1 0 0 (.map (some mb)), MapA KS mb kvs, cl b4 #[.int .i64 4] 3, cl b5 #[.int .i64 5] 3, Boxes 1 bs1, Boxes 2 bs2] h) : Cl g h := .inr ⟨mb, b4, b5, bs1, bs2, kvs, hx, s⟩
end Go.Proofs.YtgclahlbifbgdaaGreatDoor
