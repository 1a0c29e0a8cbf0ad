/- Package class: Once and begins where the rules aren't made yet; what uses them, of a new classer. -/
import Derived.Test.YtfcmajgnpnlkiaaGreatDoorProg
import Derived.Test.YtfcmajgnpnlkiaaGreatDoorClass14
import Derived.Test.YtfcmajgnpnlkiaaGreatDoorSLB
import Derived.KernelRfl
set_option linter.unusedSimpArgs false
set_option linter.unusedVariables false
set_option maxRecDepth 100000
set_option maxHeartbeats 4000000
namespace Go.Proofs.YtfcmajgnpnlkiaaGreatDoor
open Go Go.Proofs.YtfcmajgnpnlkiaaGreatDoor.SL Go.RowKit
theorem T131 (w0 : World) {g b : Nat} : Tri Tryz.prog w0 131 [.pointer (some ⟨g, 0, none⟩), .func (.func 90) #[] #[ptrTo b]] [cl b #[ptrTo g] 65, CC g 0 0 0 (.map none)] fun v m => ∃ mb b4 b5, ∃ bs1 bs2 : List Nat, ∃ kvs, (bs1.length = 3 ∧ bs2.length = 12 ∧ kvs.Perm (rulesL b4 b5 bs1 bs2)) ∧ v = .tuple #[] ∧ m = [cl b #[ptrTo g] 65, CC g 1 0 0 (.map (some mb)), MapA KS mb kvs, cl b4 #[.int .i64 4] 3, cl b5 #[.int .i64 5] 3, Boxes 1 bs1, Boxes 2 bs2] := by
 refine tri_k Tryz.func131 rfl rfl fun F => ?_;simp only [Tryz.ntmps131, argEnv, List.cons_append, List.nil_append];refine zH fun zq zQ => ?_;refine zC 5 rfl ?_;refine zcall [1] rfl rfl rfl Tryz.call166 rfl (T166 _ (by first | assumption | rfl | omega | decide | (simp; done) | (simp at *; omega))) rfl ?_;simp only [zca, zna, splice, spliceL];refine zO 7 rfl ?_;refine at_defer (first := []) (caps := []) rfl rfl rfl rfl rfl ?_;refine zO 7 rfl ?_;refine zcall [0] rfl rfl rfl Tryz.call130 rfl (T130 _ (by first | assumption | rfl | omega | decide | (simp; done) | (simp at *; omega))) rfl ?_;simp only [zca, zna, splice, spliceL];refine zO 9 rfl ?_;refine at_defer (first := []) (caps := []) rfl rfl rfl rfl rfl ?_;refine zO 4 rfl ?_;refine zT (ot_call (ks := [1, 0]) rfl rfl rfl Tryz.call90 rfl (T90 _) rfl) ?_;rintro v0 _ ⟨m0, hp0, rfl⟩;obtain ⟨mb0, hp0⟩ := hp0;obtain ⟨b40, hp0⟩ := hp0;obtain ⟨b50, hp0⟩ := hp0;obtain ⟨bs10, hp0⟩ := hp0;obtain ⟨bs20, hp0⟩ := hp0;obtain ⟨kvs0, hp0⟩ := hp0;obtain ⟨hq0, hp0⟩ := hp0;obtain ⟨rfl, rfl⟩ := hp0;simp only [zca, zna, splice, spliceL];refine zO 1 rfl ?_;refine zQ ?_;refine at_end ?_;refine at_leave (vs := [.pointer (some ⟨g, 0, none⟩), .bool true]) (ks := [1]) Tryz.call168 rfl (D168 w0 (u := .int .u32 0) rfl) rfl ?_;rintro _ _ ⟨rfl, rfl⟩;simp only [zca, zna, splice, spliceL];refine at_leave (vs := [.pointer (some ⟨g, 1, none⟩)]) (ks := [0]) Tryz.call167 rfl (D167 w0 rfl) rfl ?_;rintro _ _ ⟨rfl, rfl⟩;simp only [zca, zna, splice, spliceL];refine at_fin (rs0 rfl) ?_;refine ⟨_, ⟨mb0, b40, b50, bs10, bs20, kvs0, by assumption, rfl, rfl⟩, ?_⟩;exact zE [1, 0, 0, 0, 0, 0, 0] []
theorem T89a (w0 : World) {g b : Nat} : Tri Tryz.prog w0 89 [.pointer (some ⟨g, 0, none⟩), .func (.func 90) #[] #[ptrTo b]] [cl b #[ptrTo g] 65, CC g 0 0 0 (.map none)] fun v m => ∃ mb b4 b5, ∃ bs1 bs2 : List Nat, ∃ kvs, (bs1.length = 3 ∧ bs2.length = 12 ∧ kvs.Perm (rulesL b4 b5 bs1 bs2)) ∧ v = .tuple #[] ∧ m = [cl b #[ptrTo g] 65, CC g 1 0 0 (.map (some mb)), MapA KS mb kvs, cl b4 #[.int .i64 4] 3, cl b5 #[.int .i64 5] 3, Boxes 1 bs1, Boxes 2 bs2] := by
 refine tri_k Tryz.func89 rfl rfl fun F => ?_;simp only [Tryz.ntmps89, argEnv, List.cons_append, List.nil_append];refine zH fun zq zQ => ?_;refine zC 5 rfl ?_;refine zcall [1] rfl rfl rfl Tryz.call130 rfl (T130 _ (by first | assumption | rfl | omega | decide | (simp; done) | (simp at *; omega))) rfl ?_;simp only [zca, zna, splice, spliceL];refine zO 7 rfl ?_;refine zT (ot_call (ks := [1, 0]) rfl rfl rfl Tryz.call131 rfl (T131 _) rfl) ?_;rintro v0 _ ⟨m0, hp0, rfl⟩;obtain ⟨mb0, hp0⟩ := hp0;obtain ⟨b40, hp0⟩ := hp0;obtain ⟨b50, hp0⟩ := hp0;obtain ⟨bs10, hp0⟩ := hp0;obtain ⟨bs20, hp0⟩ := hp0;obtain ⟨kvs0, hp0⟩ := hp0;obtain ⟨hq0, hp0⟩ := hp0;obtain ⟨rfl, rfl⟩ := hp0;simp only [zca, zna, splice, spliceL];refine zO 1 rfl ?_;refine zQ ?_;refine at_end ?_;refine at_fin (rs0 rfl) ?_;refine ⟨_, ⟨mb0, b40, b50, bs10, bs20, kvs0, by assumption, rfl, rfl⟩, ?_⟩;exact zE [0, 0, 0, 0, 0, 0, 0] []
def Cl (g : Nat) : HP := fun h => CC g 0 0 0 (.map none) h ∨ Cls g 0 h
theorem at_cl {w0 : World} {n : Nat} {ds : List Deferred} {R : Act → World → Prop} {env : Env} {l : List HP} {g : Nat}
    (h1 : At w0 n ds R env (CC g 0 0 0 (.map none) :: l)) (h2 : At w0 n ds R env (Cls g 0 :: l)) : At w0 n ds R env (Cl g :: l) := fun a w f s => by
  obtain ⟨bel, h, ⟨p, q, hp, hq, hd, l1, l2⟩, kk⟩ := s
  rcases hp with hp | hp
  · exact h1 a w f ⟨bel, h, ⟨p, q, hp, hq, hd, l1, l2⟩, kk⟩
  · exact h2 a w f ⟨bel, h, ⟨p, q, hp, hq, hd, l1, l2⟩, kk⟩
theorem T64c (w0 : World) {g : Nat} : Tri Tryz.prog w0 64 [ptrTo g] [Cl g] fun v m => ∃ mb b4 b5, ∃ bs1 bs2 : List Nat, ∃ kvs, (bs1.length = 3 ∧ bs2.length = 12 ∧ kvs.Perm (rulesL b4 b5 bs1 bs2)) ∧ v = .map (some mb) ∧ m = [CC g 1 0 0 (.map (some mb)), MapA KS mb kvs, cl b4 #[.int .i64 4] 3, cl b5 #[.int .i64 5] 3, Boxes 1 bs1, Boxes 2 bs2] := by
 refine tri_k Tryz.func64 rfl rfl fun F => ?_;simp only [Tryz.ntmps64, argEnv, List.cons_append, List.nil_append];refine at_cl ?_ ?_
 ·refine zH fun zq zQ => ?_;refine zC 2 rfl ?_;refine zT (ot_box1 rfl rfl rfl) ?_;rintro _ _ ⟨g0, rfl, rfl⟩;refine zOM [(0,_,_,_)] ⟨rfl,trivial⟩ [0] 9 rfl ?_;refine zT (ot_call (ks := [0, 0]) rfl rfl rfl Tryz.call89 rfl (T89a _) rfl) ?_;rintro v0 _ ⟨m0, hp0, rfl⟩;obtain ⟨mb0, hp0⟩ := hp0;obtain ⟨b40, hp0⟩ := hp0;obtain ⟨b50, hp0⟩ := hp0;obtain ⟨bs10, hp0⟩ := hp0;obtain ⟨bs20, hp0⟩ := hp0;obtain ⟨kvs0, hp0⟩ := hp0;obtain ⟨hq0, hp0⟩ := hp0;obtain ⟨rfl, rfl⟩ := hp0;simp only [zca, zna, splice, spliceL];refine zOM [(0,_,_,_),(1,_,_,_)] ⟨rfl,rfl,trivial⟩ [0,1] 12 rfl ?_;refine zQ ?_;refine at_end ?_;refine zfin ?_;refine ⟨_, ⟨mb0, b40, b50, bs10, bs20, kvs0, by assumption, rfl, rfl⟩, ?_⟩;exact zE [1, 1, 1, 1, 1, 1] [0]
 ·refine at_cls fun mb b4 b5 bs1 bs2 kvs hl1 hl2 hperm => ?_;refine zH fun zq zQ => ?_;refine zC 2 rfl ?_;refine zT (ot_box1 rfl rfl rfl) ?_;rintro _ _ ⟨g0, rfl, rfl⟩;refine zOM [(0,_,_,_)] ⟨rfl,trivial⟩ [0] 9 rfl ?_;refine zcall [1] rfl rfl rfl Tryz.call89 rfl (T89 _) rfl ?_;simp only [zca, zna, splice, spliceL];refine zOM [(0,_,_,_),(1,_,_,_)] ⟨rfl,rfl,trivial⟩ [1,0] 12 rfl ?_;refine zQ ?_;refine at_end ?_;refine zfin ?_;refine ⟨_, ⟨mb, b4, b5, bs1, bs2, kvs, ⟨hl1, hl2, hperm⟩, rfl, rfl⟩, ?_⟩;exact zE [0, 1, 1, 1, 1, 1] [0]
theorem aq_v0h {P : Program} {w0 : World} {n : Nat} {ds : List Deferred} {env : Env} {l S S2 : List HP} {Q : Exit → Act → World → Prop} {ops : Array Oper} {o : Oper} {rest : List (Nat × Oper)} {v : Value} {d : Nat} (h : OpV P w0 n ds env l o v) (hg : o.guard = none) (hd : o.dst = some d) (hn : Nat.blt d n = true) (hS : ∀ w, Sat w0 w l → Sat w0 w S)
    (k : At w0 n ds (pi P ops w0 S2 Q S rest) ((d, v) :: env) l) : At w0 n ds (pi P ops w0 S2 Q S ((0, o) :: rest)) env l :=
  aq_t h.T hg hd hn fun u l' ⟨h1, h2⟩ => by subst h1; subst h2; exact ⟨hS, k⟩
theorem cl_fold {g mb b4 b5 : Nat} {bs1 bs2 : List Nat} {kvs : List (Value × Value)} (hx : bs1.length = 3 ∧ bs2.length = 12 ∧ kvs.Perm (rulesL b4 b5 bs1 bs2)) (h : PH)
    (s : star [CC g 1 0 0 (.map (some mb)), MapA KS mb kvs, cl b4 #[.int .i64 4] 3, cl b5 #[.int .i64 5] 3, Boxes 1 bs1, Boxes 2 bs2] h) : Cl g h := .inr ⟨mb, b4, b5, bs1, bs2, kvs, hx, s⟩
open Go Go.Proofs.YtfcmajgnpnlkiaaGreatDoor.SL Go.RowKit
theorem T133a (w0 : World) (cv : Value) {b : Nat} {k : Int} {A : Option Addr} {c c' : Nat} {l : List Tok} (hm : l.length ≤ 10000) : Tri Tryz.prog w0 133 [cv, .slice A l.length c, ptrTo b] [Row tE 119 2 A c' l, cl b #[.int .i64 k] 3] fun v m => v = .int .i64 (endsL k l) ∧ m = [Row tE 119 2 A c' l, cl b #[.int .i64 k] 3] := by
 refine tri_k Tryz.func133 rfl rfl fun F => ?_;simp only [Tryz.ntmps133, argEnv, List.cons_append, List.nil_append]
 by_cases h1 : l.length = 1
 ·have hi1 : decide ((l.length : Int) = 1) = true := decide_eq_true (by omega);refine zH fun zq zQ => ?_;refine zC 12 rfl ?_;refine zru 9 ?_;refine zOM [(1,_,_,_)] ⟨rfl,trivial⟩ [0] 20 rfl ?_;refine zQ ?_;refine at_end ?_;refine zfin ?_;refine ⟨_, ⟨by simp [endsL, h1], rfl⟩, ?_⟩;exact zE [0, 0] []
 have hi1 : decide ((l.length : Int) = 1) = false := decide_eq_false (by omega)
 by_cases h2 : l.length = 2
 ·have hi2 : decide ((l.length : Int) = 2) = true := decide_eq_true (by omega);refine zH fun zq zQ => ?_;refine zC 12 rfl ?_;refine zrg 9 ?_;refine zO 4 rfl ?_;refine zru 13 ?_;refine zO 1 rfl ?_;refine at_wanted (j := 7) rfl ?_;refine zT (ot_buildSlice (cs := [_]) rfl Tryz.underlying35 rfl rfl rfl rfl rfl rfl) ?_;rintro _ _ ⟨g0, rfl, rfl⟩;refine at_wanted (j := 7) rfl ?_;refine at_rowOf bsE 0 (size := 1) (c := 1) [wWORK] rfl (fun _ _ => rfl) (by decide) (by decide) (by decide) rfl ?_;simp only [setAt];refine at_reval 15 (.slice (some ⟨g0, 0, none⟩) ([wWORK] : List BL).length 1) rfl rfl ?_;have hW := fun {B} {d} {d'} => T132b w0 (A := A) (B := B) (c := c) (c' := c') (d := d) (d' := d') (l := l) (ws := [wWORK]) hm (by decide) 1 (by decide)
  cases hw : wordIn l 1 [wWORK] with
  | true =>
   rw [hw] at hW;refine zcall [1, 0] rfl rfl rfl Tryz.call132 rfl (hW ) rfl ?_;simp only [zca, zna, splice, spliceL];refine zOM [(2,_,_,_)] ⟨rfl,trivial⟩ [0] 13 rfl ?_;refine zQ ?_;refine at_end ?_;refine zfin ?_;refine ⟨_, ⟨by simp [endsL, h2, hw], rfl⟩, ?_⟩;exact zE [0, 1] [0]
  | false =>
   rw [hw] at hW;refine zcall [1, 0] rfl rfl rfl Tryz.call132 rfl (hW ) rfl ?_;simp only [zca, zna, splice, spliceL];refine zO 13 rfl ?_;refine zQ ?_;refine at_end ?_;refine zfin ?_;refine ⟨_, ⟨by simp [endsL, h2, hw], rfl⟩, ?_⟩;exact zE [0, 1] [0]
 ·have hi2 : decide ((l.length : Int) = 2) = false := decide_eq_false (by omega);refine zH fun zq zQ => ?_;refine zC 12 rfl ?_;refine zrg 9 ?_;refine zO 4 rfl ?_;refine zrg 13 ?_;refine zO 16 rfl ?_;refine zQ ?_;refine at_end ?_;refine zfin ?_;refine ⟨_, ⟨by simp [endsL, h1, h2], rfl⟩, ?_⟩;exact zE [0, 0] []
theorem perm_at {kvs m : List (Value × Value)} (h : kvs.Perm m) {p : Value × Value} (hp : p ∈ m) : ∃ j : Nat, kvs[j]? = some p := List.getElem?_of_mem (h.mem_iff.2 hp)
theorem perm_no {kvs m : List (Value × Value)} (h : kvs.Perm m) {key : Value} (hn : ∀ p ∈ m, p.1 ≠ key) : ∀ p ∈ kvs, p.1 ≠ key := fun p hp => hn p (h.mem_iff.1 hp)
theorem prog_tokens_step (w0 : World) {g : Nat} {A : Option Addr} {c f : Nat} {l : List Tok} (hm : l.length ≤ 200)
 (hE : Tri Tryz.prog w0 91 [ptrTo g, .slice A l.length c] [Row tE 119 2 A c l, Cl g] fun v m => v = .int .i64 (if wordIn l 1 anaW then (if tokN f (l.drop 2) = 2 ∨ tokN f (l.drop 2) = 7 then tokN f (l.drop 2) else 1) else 1) ∧ m = [Cl g]) :
 Tri Tryz.prog w0 49 [ptrTo g, .slice A l.length c] [Row tE 119 2 A c l, Cl g] fun v m => v = .int .i64 (tokN (f + 1) l) ∧ m = [Cl g] := by
 refine tri_k Tryz.func49 rfl rfl fun F => ?_;simp only [Tryz.ntmps49, argEnv, List.cons_append, List.nil_append];have et := tokN_succ f l;have hCF := fun {c' d : Nat} => T63a w0 (A := A) (c := d) (c' := c') (l := l) (by omega)
 cases hany : (l.any fun t => decide (t = signL)) with
 | true =>
  rw [hany] at hCF;rw [if_pos hany] at et
  cases l with
  | nil => cases hany
  | cons x r =>
   have hi0 : decide (((x :: r).length : Int) = 0) = false := decide_eq_false (by simp; omega);have hget : (x :: r)[0]? = some x := rfl
   by_cases h1 : x.1 = 1
   ·have hi1 : (!decide (x.1 = 1)) = false := by simp [h1]
    refine zH fun zq zQ => ?_;refine zC 13 rfl ?_;refine at_wanted (j := 3) rfl ?_;refine zV (ov_indexRd (fun _ s => s.rd (k := 0) rfl) rfl Tryz.underlying114 rfl rfl rfl hget) ?_;refine at_wanted (j := 3) rfl ?_;refine zV (ov_fieldRd0 (k := 0) (fun _ s => s.rd (k := 0) rfl) rfl rfl hget rfl) ?_;refine at_wanted (j := 3) rfl ?_;refine zV (ov_loadRd0 (fun _ s => s.rd (k := 0) rfl) rfl rfl rfl hget rfl) ?_;refine zO 3 rfl ?_;refine zrf 17 ?_;refine zO 1 rfl ?_;refine at_wanted (j := 10) rfl ?_;refine zcall [0] rfl rfl rfl Tryz.call63 rfl (hCF ) rfl ?_;simp only [zca, zna, splice, spliceL];refine zO 11 rfl ?_;refine zQ ?_;refine at_end ?_;refine zfin ?_;refine ⟨_, ⟨by rw [et], rfl⟩, ?_⟩;exact zE [1] [0]
   ·have hi1 : (!decide (x.1 = 1)) = true := by simp [h1]
    refine zH fun zq zQ => ?_;refine zC 13 rfl ?_;refine at_wanted (j := 3) rfl ?_;refine zV (ov_indexRd (fun _ s => s.rd (k := 0) rfl) rfl Tryz.underlying114 rfl rfl rfl hget) ?_;refine at_wanted (j := 3) rfl ?_;refine zV (ov_fieldRd0 (k := 0) (fun _ s => s.rd (k := 0) rfl) rfl rfl hget rfl) ?_;refine at_wanted (j := 3) rfl ?_;refine zV (ov_loadRd0 (fun _ s => s.rd (k := 0) rfl) rfl rfl rfl hget rfl) ?_;refine zO 3 rfl ?_;refine zrt 17 ?_;refine zO 13 rfl ?_;refine zQ ?_;refine at_end ?_;refine zfin ?_;refine ⟨_, ⟨by rw [et], rfl⟩, ?_⟩;exact zE [1] [0]
 | false =>
 rw [hany] at hCF et;simp only [Bool.false_eq_true, if_false] at et;clear hany
 have none7 : wordAt l 0 = [] → tokN (f + 1) l = 7 := fun h => by
  rw [et, h];rw [if_neg (by decide), if_neg (by decide), if_neg (by decide), if_neg (by decide), if_neg (by decide), if_neg (by decide), if_neg (by decide), if_neg (by decide), if_neg (by decide)]
 cases l with
 | nil =>
  have hi0 : decide ((([] : List Tok).length : Int) = 0) = true := by decide
  refine zH fun zq zQ => ?_;refine zC 32 rfl ?_;refine zQ ?_;refine at_end ?_;refine zfin ?_;refine ⟨_, ⟨by rw [none7 rfl], rfl⟩, ?_⟩;exact zE [1] [0]
 | cons x r =>
 have hi0 : decide (((x :: r).length : Int) = 0) = false := decide_eq_false (by simp; omega);have hget : (x :: r)[0]? = some x := rfl
 by_cases h1 : x.1 = 1
 ·have hi1 : (!decide (x.1 = 1)) = false := by simp [h1]
  have hw : wordAt (x :: r) 0 = x.2 := by simp [wordAt, h1]
  rw [hw] at et;clear none7;refine zH fun zq zQ => ?_;refine zC 13 rfl ?_;refine at_wanted (j := 3) rfl ?_;refine zV (ov_indexRd (fun _ s => s.rd (k := 0) rfl) rfl Tryz.underlying114 rfl rfl rfl hget) ?_;refine at_wanted (j := 3) rfl ?_;refine zV (ov_fieldRd0 (k := 0) (fun _ s => s.rd (k := 0) rfl) rfl rfl hget rfl) ?_;refine at_wanted (j := 3) rfl ?_;refine zV (ov_loadRd0 (fun _ s => s.rd (k := 0) rfl) rfl rfl rfl hget rfl) ?_;refine zO 3 rfl ?_;refine zrf 17 ?_;refine zO 1 rfl ?_;refine at_wanted (j := 10) rfl ?_;refine zcall [0] rfl rfl rfl Tryz.call63 rfl (hCF ) rfl ?_;simp only [zca, zna, splice, spliceL];refine zO 7 rfl ?_;refine at_draw _ [] 1000 [(2, 0), (2, 2), (1, 3), (1, 4), (1, 5), (0, 1), (0, 6), (2, 7), (2, 8), (2, 9), (2, 10), (2, 11)] (by kernel_rfl) (by kernel_rfl) (fun _ s => (s.pulls (ks := [0]) rfl).left) ?_;refine qM ?_;refine qM ?_;refine qV (ov_indexRd (fun _ s => s.rd (k := 0) rfl) rfl Tryz.underlying114 rfl rfl rfl hget) ?_;refine qV (ov_fieldRd0 (k := 1) (fun _ s => s.rd (k := 0) rfl) rfl rfl hget rfl) ?_;refine qV (ov_loadRd (fun _ s => s.rd (k := 0) rfl) rfl rfl rfl hget rfl) ?_;refine aq_t (ot_call (ks := [1]) rfl rfl rfl Tryz.call64 rfl (T64c _) rfl) rfl rfl rfl ?_;rintro v0 _ ⟨m0, hp0, rfl⟩;obtain ⟨mb0, hp0⟩ := hp0;obtain ⟨b40, hp0⟩ := hp0;obtain ⟨b50, hp0⟩ := hp0;obtain ⟨bs10, hp0⟩ := hp0;obtain ⟨bs20, hp0⟩ := hp0;obtain ⟨kvs0, hp0⟩ := hp0;obtain ⟨hq0, hp0⟩ := hp0;obtain ⟨rfl, rfl⟩ := hp0;simp only [zca, zna, splice, spliceL];refine ⟨fun _ s => (s.pulls (ks := [6]) rfl).left, ?_⟩;obtain ⟨hl1, hl2, hperm⟩ : bs10.length = 3 ∧ bs20.length = 12 ∧ kvs0.Perm (rulesL b40 b50 bs10 bs20) := by assumption
  cases c1 : readsW.contains x.2 with
  | true =>
   rw [c1] at et;obtain ⟨b, hb, hmem⟩ := rules_read (b4 := b40) (b5 := b50) (bs2 := bs20) hl1 c1;obtain ⟨j, hj⟩ := perm_at hperm hmem
   unfold capV at hj
   refine aq_v0h (ov_lookupOk (k := 1) rfl Tryz.underlying111 Tryz.underlying9 rfl rfl rfl trivial hj) rfl rfl rfl (fun _ s => (s.pulls (ks := [6]) rfl).left) ?_;refine qM ?_;refine qP (ov_extract rfl rfl rfl) ?_;refine qP (ov_extract rfl rfl rfl) ?_;refine qP (ov_assign rfl rfl) ?_;refine qP (ov_assign rfl rfl) ?_;refine aq_nil ?_;refine zX 16 rfl ?_;refine zcall [4] rfl rfl rfl Tryz.call134 rfl (T134a _ _ _ (by first | assumption | rfl | omega | decide | (simp; done) | (simp at *; omega))) rfl ?_;simp only [zca, zna, splice, spliceL];refine zO 4 rfl ?_;refine zQ ?_;refine at_end ?_;refine at_fold (A := Cl g) [1, 1, 1, 1, 0, 0] rfl (cl_fold ⟨hl1, hl2, hperm⟩) ?_;refine zfin ?_;refine ⟨_, ⟨by rw [et]; rfl, rfl⟩, ?_⟩;exact zE [0] [0]
  | false =>
  rw [c1] at et;simp only [Bool.false_eq_true, if_false] at et
  by_cases cE : x.2 = wEXPLAIN
  ·rw [if_pos cE] at et;obtain ⟨j, hj⟩ := perm_at hperm (p := (SV x.2, fnV 91)) (by rw [cE]; simp [rulesL])
   unfold fnV at hj
   refine aq_v0h (ov_lookupOk (k := 1) rfl Tryz.underlying111 Tryz.underlying9 rfl rfl rfl trivial hj) rfl rfl rfl (fun _ s => (s.pulls (ks := [6]) rfl).left) ?_;refine qM ?_;refine qP (ov_extract rfl rfl rfl) ?_;refine qP (ov_extract rfl rfl rfl) ?_;refine qP (ov_assign rfl rfl) ?_;refine qP (ov_assign rfl rfl) ?_;refine aq_nil ?_;refine zX 16 rfl ?_;refine at_fold (A := Cl g) [0, 0, 0, 0, 0, 0] rfl (cl_fold ⟨hl1, hl2, hperm⟩) ?_;refine zcall [1, 0] rfl rfl rfl Tryz.call91 rfl (hE ) rfl ?_;simp only [zca, zna, splice, spliceL];refine zO 4 rfl ?_;refine zQ ?_;refine at_end ?_;refine zfin ?_;refine ⟨_, ⟨by rw [et], rfl⟩, ?_⟩;exact zE [0] []
  rw [if_neg cE] at et
  cases c3 : changeW.contains x.2 with
  | true =>
   rw [c3] at et;obtain ⟨b, hb, hmem⟩ := rules_change (b4 := b40) (b5 := b50) (bs1 := bs10) hl2 c3;have hAl := fun lv => T134a w0 (ptrTo g) lv (k := 2) hb;obtain ⟨j, hj⟩ := perm_at hperm hmem
   unfold capV at hj
   refine aq_v0h (ov_lookupOk (k := 1) rfl Tryz.underlying111 Tryz.underlying9 rfl rfl rfl trivial hj) rfl rfl rfl (fun _ s => (s.pulls (ks := [6]) rfl).left) ?_;refine qM ?_;refine qP (ov_extract rfl rfl rfl) ?_;refine qP (ov_extract rfl rfl rfl) ?_;refine qP (ov_assign rfl rfl) ?_;refine qP (ov_assign rfl rfl) ?_;refine aq_nil ?_;refine zX 16 rfl ?_;refine zcall [5] rfl rfl rfl Tryz.call134 rfl (hAl _) rfl ?_;simp only [zca, zna, splice, spliceL];refine zO 4 rfl ?_;refine zQ ?_;refine at_end ?_;refine at_fold (A := Cl g) [1, 1, 1, 1, 1, 0] rfl (cl_fold ⟨hl1, hl2, hperm⟩) ?_;refine zfin ?_;refine ⟨_, ⟨by rw [et]; rfl, rfl⟩, ?_⟩;exact zE [0] [0]
  | false =>
  rw [c3] at et;simp only [Bool.false_eq_true, if_false] at et
  cases c4 : askW.contains x.2 with
  | true =>
   rw [c4] at et;obtain ⟨j, hj⟩ := perm_at hperm (rules_ask (b4 := b40) (b5 := b50) (bs1 := bs10) (bs2 := bs20) c4)
   unfold fnV at hj
   refine aq_v0h (ov_lookupOk (k := 1) rfl Tryz.underlying111 Tryz.underlying9 rfl rfl rfl trivial hj) rfl rfl rfl (fun _ s => (s.pulls (ks := [6]) rfl).left) ?_;refine qM ?_;refine qP (ov_extract rfl rfl rfl) ?_;refine qP (ov_extract rfl rfl rfl) ?_;refine qP (ov_assign rfl rfl) ?_;refine qP (ov_assign rfl rfl) ?_;refine aq_nil ?_;refine zX 16 rfl ?_;refine zcall [6] rfl rfl rfl Tryz.call97 rfl (T97a _ _ (by first | assumption | rfl | omega | decide | (simp; done) | (simp at *; omega))) rfl ?_;simp only [zca, zna, splice, spliceL];refine zO 4 rfl ?_;refine zQ ?_;refine at_end ?_;refine at_fold (A := Cl g) [1, 1, 1, 1, 1, 1] rfl (cl_fold ⟨hl1, hl2, hperm⟩) ?_;refine zfin ?_;refine ⟨_, ⟨by rw [et]; rfl, rfl⟩, ?_⟩;exact zE [0] [0]
  | false =>
  rw [c4] at et;simp only [Bool.false_eq_true, if_false] at et
  by_cases cBEGIN : x.2 = wBEGIN
  ·rw [if_pos cBEGIN] at et;obtain ⟨j, hj⟩ := perm_at hperm (p := (SV x.2, fnV 92)) (by rw [cBEGIN]; simp [rulesL])
   unfold fnV at hj
   refine aq_v0h (ov_lookupOk (k := 1) rfl Tryz.underlying111 Tryz.underlying9 rfl rfl rfl trivial hj) rfl rfl rfl (fun _ s => (s.pulls (ks := [6]) rfl).left) ?_;refine qM ?_;refine qP (ov_extract rfl rfl rfl) ?_;refine qP (ov_extract rfl rfl rfl) ?_;refine qP (ov_assign rfl rfl) ?_;refine qP (ov_assign rfl rfl) ?_;refine aq_nil ?_;refine zX 16 rfl ?_;refine zcall [6] rfl rfl rfl Tryz.call92 rfl (T92a _ _ (by first | assumption | rfl | omega | decide | (simp; done) | (simp at *; omega))) rfl ?_;simp only [zca, zna, splice, spliceL];refine zO 4 rfl ?_;refine zQ ?_;refine at_end ?_;refine at_fold (A := Cl g) [1, 1, 1, 1, 1, 1] rfl (cl_fold ⟨hl1, hl2, hperm⟩) ?_;refine zfin ?_;refine ⟨_, ⟨by rw [et], rfl⟩, ?_⟩;exact zE [0] [0]
  rw [if_neg cBEGIN] at et
  by_cases cSTART : x.2 = wSTART
  ·rw [if_pos cSTART] at et;obtain ⟨j, hj⟩ := perm_at hperm (p := (SV x.2, fnV 93)) (by rw [cSTART]; simp [rulesL])
   unfold fnV at hj
   refine aq_v0h (ov_lookupOk (k := 1) rfl Tryz.underlying111 Tryz.underlying9 rfl rfl rfl trivial hj) rfl rfl rfl (fun _ s => (s.pulls (ks := [6]) rfl).left) ?_;refine qM ?_;refine qP (ov_extract rfl rfl rfl) ?_;refine qP (ov_extract rfl rfl rfl) ?_;refine qP (ov_assign rfl rfl) ?_;refine qP (ov_assign rfl rfl) ?_;refine aq_nil ?_;refine zX 16 rfl ?_;refine zcall [6] rfl rfl rfl Tryz.call93 rfl (T93a _ _ (by first | assumption | rfl | omega | decide | (simp; done) | (simp at *; omega))) rfl ?_;simp only [zca, zna, splice, spliceL];refine zO 4 rfl ?_;refine zQ ?_;refine at_end ?_;refine at_fold (A := Cl g) [1, 1, 1, 1, 1, 1] rfl (cl_fold ⟨hl1, hl2, hperm⟩) ?_;refine zfin ?_;refine ⟨_, ⟨by rw [et], rfl⟩, ?_⟩;exact zE [0] [0]
  rw [if_neg cSTART] at et
  by_cases cCOMMIT : x.2 = wCOMMIT
  ·rw [if_pos cCOMMIT] at et;obtain ⟨j, hj⟩ := perm_at hperm (p := (SV x.2, capV 133 b40)) (by rw [cCOMMIT]; simp [rulesL])
   unfold capV at hj
   refine aq_v0h (ov_lookupOk (k := 1) rfl Tryz.underlying111 Tryz.underlying9 rfl rfl rfl trivial hj) rfl rfl rfl (fun _ s => (s.pulls (ks := [6]) rfl).left) ?_;refine qM ?_;refine qP (ov_extract rfl rfl rfl) ?_;refine qP (ov_extract rfl rfl rfl) ?_;refine qP (ov_assign rfl rfl) ?_;refine qP (ov_assign rfl rfl) ?_;refine aq_nil ?_;refine zX 16 rfl ?_;refine zcall [6, 2] rfl rfl rfl Tryz.call133 rfl (T133a _ _ (by first | assumption | rfl | omega | decide | (simp; done) | (simp at *; omega))) rfl ?_;simp only [zca, zna, splice, spliceL];refine zO 4 rfl ?_;refine zQ ?_;refine at_end ?_;refine at_fold (A := Cl g) [2, 2, 1, 1, 1, 1] rfl (cl_fold ⟨hl1, hl2, hperm⟩) ?_;refine zfin ?_;refine ⟨_, ⟨by rw [et], rfl⟩, ?_⟩;exact zE [0] [0]
  rw [if_neg cCOMMIT] at et
  by_cases cROLLBACK : x.2 = wROLLBACK
  ·rw [if_pos cROLLBACK] at et;obtain ⟨j, hj⟩ := perm_at hperm (p := (SV x.2, capV 133 b50)) (by rw [cROLLBACK]; simp [rulesL])
   unfold capV at hj
   refine aq_v0h (ov_lookupOk (k := 1) rfl Tryz.underlying111 Tryz.underlying9 rfl rfl rfl trivial hj) rfl rfl rfl (fun _ s => (s.pulls (ks := [6]) rfl).left) ?_;refine qM ?_;refine qP (ov_extract rfl rfl rfl) ?_;refine qP (ov_extract rfl rfl rfl) ?_;refine qP (ov_assign rfl rfl) ?_;refine qP (ov_assign rfl rfl) ?_;refine aq_nil ?_;refine zX 16 rfl ?_;refine zcall [6, 3] rfl rfl rfl Tryz.call133 rfl (T133a _ _ (by first | assumption | rfl | omega | decide | (simp; done) | (simp at *; omega))) rfl ?_;simp only [zca, zna, splice, spliceL];refine zO 4 rfl ?_;refine zQ ?_;refine at_end ?_;refine at_fold (A := Cl g) [2, 2, 2, 1, 1, 1] rfl (cl_fold ⟨hl1, hl2, hperm⟩) ?_;refine zfin ?_;refine ⟨_, ⟨by rw [et], rfl⟩, ?_⟩;exact zE [0] [0]
  rw [if_neg cROLLBACK] at et
  by_cases cSET : x.2 = wSET
  ·rw [if_pos cSET] at et;obtain ⟨j, hj⟩ := perm_at hperm (p := (SV x.2, fnV 95)) (by rw [cSET]; simp [rulesL])
   unfold fnV at hj
   refine aq_v0h (ov_lookupOk (k := 1) rfl Tryz.underlying111 Tryz.underlying9 rfl rfl rfl trivial hj) rfl rfl rfl (fun _ s => (s.pulls (ks := [6]) rfl).left) ?_;refine qM ?_;refine qP (ov_extract rfl rfl rfl) ?_;refine qP (ov_extract rfl rfl rfl) ?_;refine qP (ov_assign rfl rfl) ?_;refine qP (ov_assign rfl rfl) ?_;refine aq_nil ?_;refine zX 16 rfl ?_;refine zcall [6] rfl rfl rfl Tryz.call95 rfl (T95a _ _ (by first | assumption | rfl | omega | decide | (simp; done) | (simp at *; omega))) rfl ?_;simp only [zca, zna, splice, spliceL];refine zO 4 rfl ?_;refine zQ ?_;refine at_end ?_;refine at_fold (A := Cl g) [1, 1, 1, 1, 1, 1] rfl (cl_fold ⟨hl1, hl2, hperm⟩) ?_;refine zfin ?_;refine ⟨_, ⟨by rw [et], rfl⟩, ?_⟩;exact zE [0] [0]
  rw [if_neg cSET] at et;have hno := perm_no hperm (rules_none (b4 := b40) (b5 := b50) (bs1 := bs10) (bs2 := bs20) c1 cE c3 c4 cBEGIN cSTART cCOMMIT cROLLBACK cSET);refine aq_v0h (ov_lookupNo (k := 1) rfl Tryz.underlying111 Tryz.underlying9 Tryz.zeroValue138 rfl rfl rfl trivial (by assumption)) rfl rfl rfl (fun _ s => (s.pulls (ks := [6]) rfl).left) ?_;refine qM ?_;refine qP (ov_extract rfl rfl rfl) ?_;refine qP (ov_extract rfl rfl rfl) ?_;refine qP (ov_assign rfl rfl) ?_;refine qP (ov_assign rfl rfl) ?_;refine aq_nil ?_;refine zX 16 rfl ?_;refine zQ ?_;refine at_end ?_;refine at_fold (A := Cl g) [0, 0, 0, 0, 0, 0] rfl (cl_fold ⟨hl1, hl2, hperm⟩) ?_;refine zfin ?_;refine ⟨_, ⟨by rw [et], rfl⟩, ?_⟩;exact zE [0] [0]
 ·have hi1 : (!decide (x.1 = 1)) = true := by simp [h1]
  have hw : wordAt (x :: r) 0 = [] := by simp [wordAt, h1]
  refine zH fun zq zQ => ?_;refine zC 13 rfl ?_;refine at_wanted (j := 3) rfl ?_;refine zV (ov_indexRd (fun _ s => s.rd (k := 0) rfl) rfl Tryz.underlying114 rfl rfl rfl hget) ?_;refine at_wanted (j := 3) rfl ?_;refine zV (ov_fieldRd0 (k := 0) (fun _ s => s.rd (k := 0) rfl) rfl rfl hget rfl) ?_;refine at_wanted (j := 3) rfl ?_;refine zV (ov_loadRd0 (fun _ s => s.rd (k := 0) rfl) rfl rfl rfl hget rfl) ?_;refine zO 3 rfl ?_;refine zrt 17 ?_;refine zO 13 rfl ?_;refine zQ ?_;refine at_end ?_;refine zfin ?_;refine ⟨_, ⟨by rw [none7 hw], rfl⟩, ?_⟩;exact zE [1] [0]
open Go Go.Proofs.YtfcmajgnpnlkiaaGreatDoor.SL Go.RowKit
theorem at_rowDrop {w0 : World} {n : Nat} {ds : List Deferred} {R : Act → World → Prop} {env : Env} {α : Type} {enc : α → List Value} {l : List HP} (j k : Nat) {e : TypeId} {size : Nat} {A : Option Addr} {c : Nat} {xs : List α} (hk : nth k l = some (Row enc e size A c xs)) (hj : j ≤ xs.length)
    (h : At w0 n ds R env (setAt k (Row enc e size (dropA A c j size) (c - j) (xs.drop j)) l)) : At w0 n ds R env l := fun a w f s => by
  refine h a w f ?_;obtain ⟨r, hp, hs⟩ := nth_pull hk;have s1 : Sat w0 w (Row enc e size A c xs :: r) := s.imp fun _ hh => star_perm hp hh;have s2 : Sat w0 w (Row enc e size (dropA A c j size) (c - j) (xs.drop j) :: r) := s1.imp fun h ⟨p, q, h1, h2, h3⟩ => ⟨p, q, Row.drop h1 j hj, h2, h3⟩;exact s2.imp fun _ hh => star_perm (hs _).symm hh
theorem prog_explain_step (w0 : World) {g : Nat} {A : Option Addr} {c f : Nat} {l : List Tok} (hm : l.length ≤ 200)
 (hIH : 2 ≤ l.length → Tri Tryz.prog w0 49 [ptrTo g, .slice (dropA A c 2 2) (l.drop 2).length (c - 2)] [Row tE 119 2 (dropA A c 2 2) (c - 2) (l.drop 2), Cl g] fun v m => v = .int .i64 (tokN f (l.drop 2)) ∧ m = [Cl g]) :
 Tri Tryz.prog w0 91 [ptrTo g, .slice A l.length c] [Row tE 119 2 A c l, Cl g] fun v m => v = .int .i64 (if wordIn l 1 anaW then (if tokN f (l.drop 2) = 2 ∨ tokN f (l.drop 2) = 7 then tokN f (l.drop 2) else 1) else 1) ∧ m = [Cl g] := by
 refine tri_k Tryz.func91 rfl rfl fun F => ?_;simp only [Tryz.ntmps91, argEnv, List.cons_append, List.nil_append];refine at_rowLen 0 rfl (fun hle _ => ?_)
 have p1 : (wordIn l 1 anaW = true → 2 ≤ l.length) := fun h => by
  unfold wordIn at h
  cases hx : l[1]? with
  | none => rw [hx] at h; cases h
  | some x => have := (List.getElem?_eq_some_iff.1 hx).1; omega
 have hW := fun {B} {c'} {d} {d'} => T132b w0 (A := A) (B := B) (c := c) (c' := c') (d := d) (d' := d') (l := l) (ws := anaW) (by omega) (by decide) 1 (by decide);refine zH fun zq zQ => ?_;refine zC 9 rfl ?_;refine zT (ot_buildSlice (cs := [_, _]) rfl Tryz.underlying35 rfl rfl rfl rfl rfl rfl) ?_;rintro _ _ ⟨g0, rfl, rfl⟩;refine at_rowOf bsE 0 (size := 1) (c := 2) anaW rfl (fun _ _ => rfl) (by decide) (by decide) (by decide) rfl ?_;simp only [setAt];refine at_reval 7 (.slice (some ⟨g0, 0, none⟩) anaW.length 2) rfl rfl ?_
 cases c2 : wordIn l 1 anaW with
 | false =>
  rw [c2] at hW;refine zcall [1, 0] rfl rfl rfl Tryz.call132 rfl (hW ) rfl ?_;simp only [zca, zna, splice, spliceL];refine zO 11 rfl ?_;refine zQ ?_;refine at_end ?_;refine zfin ?_;refine ⟨_, ⟨by rw [c2]; rfl, rfl⟩, ?_⟩;exact zE [2] [0, 0]
 | true =>
  have hlen2 := p1 c2;have hI := hIH hlen2;rw [c2] at hW
  generalize hn : tokN f (l.drop 2) = n at hI
  refine zcall [1, 0] rfl rfl rfl Tryz.call132 rfl (hW ) rfl ?_;simp only [zca, zna, splice, spliceL];refine zO 11 rfl ?_;refine zV (ov_sliceFrom (k := 2) rfl Tryz.underlying114 rfl rfl rfl (by first | (simp; done) | assumption | omega) (by assumption)) ?_;refine at_reval 12 (.slice (dropA A c 2 2) (l.drop 2).length (c - 2)) rfl rfl ?_;refine at_rowDrop 2 0 rfl hlen2 ?_;simp only [setAt]
  by_cases n2 : n = 2
  ·have g2 : decide (n = 2) = true := decide_eq_true n2;refine zcall [0, 1] rfl rfl rfl Tryz.call49 rfl (hI ) rfl ?_;simp only [zca, zna, splice, spliceL];refine zO 8 rfl ?_;refine zru 16 ?_;refine zO 14 rfl ?_;refine zQ ?_;refine at_end ?_;refine zfin ?_;refine ⟨_, ⟨by rw [c2, hn, if_pos rfl, if_pos (.inl n2)], rfl⟩, ?_⟩;exact zE [0] [0]
  have g2 : decide (n = 2) = false := decide_eq_false n2
  by_cases n7 : n = 7
  ·have g7 : decide (n = 7) = true := decide_eq_true n7;refine zcall [0, 1] rfl rfl rfl Tryz.call49 rfl (hI ) rfl ?_;simp only [zca, zna, splice, spliceL];refine zO 8 rfl ?_;refine zrg 16 ?_;refine zO 5 rfl ?_;refine zu ?_;refine zC 8 rfl ?_;refine zQ ?_;refine at_end ?_;refine zfin ?_;refine ⟨_, ⟨by rw [c2, hn, if_pos rfl, if_pos (.inr n7)], rfl⟩, ?_⟩;exact zE [0] [0]
  have g7 : decide (n = 7) = false := decide_eq_false n7;refine zcall [0, 1] rfl rfl rfl Tryz.call49 rfl (hI ) rfl ?_;simp only [zca, zna, splice, spliceL];refine zO 8 rfl ?_;refine zrg 16 ?_;refine zO 5 rfl ?_;refine zg ?_;refine zC 8 rfl ?_;refine zQ ?_;refine at_end ?_;refine zfin ?_;refine ⟨_, ⟨by rw [c2, hn, if_pos rfl, if_neg (by omega)], rfl⟩, ?_⟩;exact zE [0] [0]
theorem T49 (w0 : World) {g : Nat} : ∀ (f : Nat) {A : Option Addr} {c : Nat} {l : List Tok}, l.length ≤ f → l.length ≤ 200 →
    Tri Tryz.prog w0 49 [ptrTo g, .slice A l.length c] [Row tE 119 2 A c l, Cl g] fun v m => v = .int .i64 (tokN (f + 1) l) ∧ m = [Cl g] := by
  intro f
  induction f with
  | zero => intro A c l h hm; exact prog_tokens_step w0 hm (prog_explain_step w0 hm (fun h2 => absurd h2 (by omega)))
  | succ f ih =>
    intro A c l h hm;refine prog_tokens_step w0 hm (prog_explain_step w0 hm (fun h2 => ?_));exact ih (A := dropA A c 2 2) (c := c - 2) (l := l.drop 2) (by rw [List.length_drop]; omega) (by rw [List.length_drop]; omega)
open Go Go.Proofs.YtfcmajgnpnlkiaaGreatDoor.SL Go.RowKit
theorem T26 (w0 : World) {g : Nat} (s : BL) (hs : s.length ≤ 10000) (hM : MaxL w0) : Tri Tryz.prog w0 26 [ptrTo g, SV s] [Cl g] fun v m => v = .int .i64 (classL s) ∧ m = [Cl g] := by
 refine tri_k Tryz.func26 rfl rfl fun F => ?_;simp only [Tryz.ntmps26, argEnv, List.cons_append, List.nil_append];have hL := T45 w0 s (by omega) hM;have hn := lexR_len s
 unfold classL
 generalize (lexR s).1 = l at hL hn ⊢
 generalize (lexR s).2 = er at hL ⊢
 by_cases he : er = 0
 ·rw [if_pos he];have hi0 : (!decide (er = 0)) = false := by simp [he]
  have hnl := noHints_le l;obtain ⟨m, hmd⟩ : ∃ m, noHints l = m := ⟨_, rfl⟩;have hD := fun {A c} => T46 w0 (A := A) (c := c) (l := l) (by omega);rw [hmd] at hnl hD ⊢;refine zH fun zq zQ => ?_;refine zC 8 rfl ?_;refine zT (ot_call (ks := []) rfl rfl rfl Tryz.call45 rfl (hL ) rfl) ?_;rintro v0 _ ⟨m0, hp0, rfl⟩;obtain ⟨A0, hp0⟩ := hp0;obtain ⟨c0, hp0⟩ := hp0;obtain ⟨rfl, rfl⟩ := hp0;simp only [zca, zna, splice, spliceL];refine zO 14 rfl ?_;refine zf ?_;refine zC 5 rfl ?_;refine zcall [0] rfl rfl rfl Tryz.call46 rfl (hD ) rfl ?_;simp only [zca, zna, splice, spliceL];refine zO 5 rfl ?_;refine at_loopK [16, 17, 18, 19, 20, 21, 22, 23, 24, 25, 26, 27, 28, 29, 30, 31, 32, 5] (fun i : List Tok => i.length ≤ 200 ∧ trimE m = trimE i) (fun i => [(5, .slice A0 i.length c0)]) (fun i q => setAt 0 (Row tE 119 2 A0 c0 i) q) (fun i => i.length) m ⟨by omega, rfl⟩ ⟨rfl, trivial⟩ (fun _ s => s) ?_;rintro i ⟨hil, hie⟩;simp only [setAt] at hil hie ⊢;have hT := T49 w0 (g := g) 200 (A := A0) (c := c0) (l := i) hil hil
  rcases List.eq_nil_or_concat i with h0 | ⟨i', x, rfl⟩
  ·have hi3 : decide ((i.length : Int) > 0) = false := by rw [h0]; decide
   refine zC 7 rfl ?_;refine zrf 19 ?_;refine zO 20 rfl ?_;refine zcall [0, 0] rfl rfl rfl Tryz.call49 rfl (hT ) rfl ?_;simp only [zca, zna, splice, spliceL];refine zO 4 rfl ?_;refine zQ ?_;refine at_end ?_;refine zfin ?_;refine ⟨_, ⟨by rw [hie, h0, trimE_nil], rfl⟩, ?_⟩;exact zE [0] []
  ·rw [List.concat_eq_append] at *;have hi3 : decide (((i' ++ [x]).length : Int) > 0) = true := decide_eq_true (by rw [List.length_append, List.length_cons, List.length_nil]; omega);refine at_rowLen 0 rfl (fun hle _ => ?_);have hget : (i' ++ [x])[i'.length]? = some x := by simp
   have hS := T48 w0 x;have hlen : ((i' ++ [x]).length : Int) - 1 = ((i'.length : Nat) : Int) := by simp
   rw [trimE_snoc] at hie;refine zC 7 rfl ?_;refine zru 19 ?_;refine zO 3 rfl ?_;refine at_wanted (j := 3) rfl ?_;refine zV zI ?_;refine at_wanted (j := 3) rfl ?_;refine at_reval 23 (.int .i64 (i'.length : Nat)) rfl (congrArg (Value.int .i64) hlen) ?_
   cases hx : decide (x = signL) with
   | true =>
    rw [hx] at hS;rw [if_pos (of_decide_eq_true hx)] at hie;refine zV (ov_indexRd (fun _ s => s.rd (k := 0) rfl) rfl Tryz.underlying114 rfl rfl rfl hget) ?_;refine at_wanted (j := 3) rfl ?_;refine zV (ov_loadRdS (vs := [_, _]) (fun _ s => s.rd (k := 0) rfl) rfl rfl rfl hget rfl rfl) ?_;refine at_wanted (j := 3) rfl ?_;refine zcall [] rfl rfl rfl Tryz.call48 rfl (hS ) rfl ?_;simp only [zca, zna, splice, spliceL];refine zO 11 rfl ?_;refine zV zI ?_;refine at_reval 31 (.int .i64 (i'.length : Nat)) rfl (congrArg (Value.int .i64) hlen) ?_;have hkk : i'.length ≤ (i' ++ [x]).length := by simp
    refine zV (ov_sliceTo rfl Tryz.underlying114 rfl rfl rfl (by first | assumption | omega) (by assumption)) ?_;refine zOR 4 rfl ?_;refine at_rowTake i'.length 0 rfl ?_;have htk : (i' ++ [x]).take i'.length = i' := List.take_left
    try rw [htk]
    simp only [setAt];refine at_roundF i' ⟨by simp at hil; omega, hie⟩ (by simp) ⟨rfl, trivial⟩ rfl ?_;exact zE [0, 0] []
   | false =>
    rw [hx] at hS;rw [if_neg (of_decide_eq_false hx)] at hie;refine zV (ov_indexRd (fun _ s => s.rd (k := 0) rfl) rfl Tryz.underlying114 rfl rfl rfl hget) ?_;refine at_wanted (j := 3) rfl ?_;refine zV (ov_loadRdS (vs := [_, _]) (fun _ s => s.rd (k := 0) rfl) rfl rfl rfl hget rfl rfl) ?_;refine at_wanted (j := 3) rfl ?_;refine zcall [] rfl rfl rfl Tryz.call48 rfl (hS ) rfl ?_;simp only [zca, zna, splice, spliceL];refine zO 13 rfl ?_;refine zcall [0, 0] rfl rfl rfl Tryz.call49 rfl (hT ) rfl ?_;simp only [zca, zna, splice, spliceL];refine zO 4 rfl ?_;refine zQ ?_;refine at_end ?_;refine zfin ?_;refine ⟨_, ⟨by rw [hie], rfl⟩, ?_⟩;exact zE [0] []
 ·rw [if_neg he];have hi0 : (!decide (er = 0)) = true := by simp [he]
  refine zH fun zq zQ => ?_;refine zC 8 rfl ?_;refine zT (ot_call (ks := []) rfl rfl rfl Tryz.call45 rfl (hL ) rfl) ?_;rintro v0 _ ⟨m0, hp0, rfl⟩;obtain ⟨A0, hp0⟩ := hp0;obtain ⟨c0, hp0⟩ := hp0;obtain ⟨rfl, rfl⟩ := hp0;simp only [zca, zna, splice, spliceL];refine zO 14 rfl ?_;refine zt ?_;refine zC 7 rfl ?_;refine zQ ?_;refine at_end ?_;refine zfin ?_;refine ⟨_, ⟨rfl, rfl⟩, ?_⟩;exact zE [1] [0]
end Go.Proofs.YtfcmajgnpnlkiaaGreatDoor
