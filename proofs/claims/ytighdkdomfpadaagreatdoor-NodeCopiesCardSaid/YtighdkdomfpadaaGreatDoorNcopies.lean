/- The statement NodeCopies, walked. -/
import Derived.Test.YtighdkdomfpadaaGreatDoorProg
import Derived.Test.YtighdkdomfpadaaGreatDoorFences
import Derived.Test.YtighdkdomfpadaaGreatDoorSLB
import Derived.KernelRfl
set_option linter.unusedSimpArgs false
set_option linter.unusedVariables false
set_option maxRecDepth 100000
set_option maxHeartbeats 4000000
namespace Go.Proofs.YtighdkdomfpadaaGreatDoor
open Go Go.Proofs.YtighdkdomfpadaaGreatDoor.SL Go.RowKit
theorem do_ge {ss : List ND} {x : AC} (h : ∀ s ∈ ss, 1 ≤ s.ep) : ∀ s ∈ (doL ss x).1, 1 ≤ s.ep := by
  have key : ∀ (i : Nat) (s' : ND), 1 ≤ s'.ep → ∀ s ∈ ss.set i s', 1 ≤ s.ep := fun i s' h' s hs => by
    rcases List.mem_or_eq_of_mem_set hs with hs | rfl
    · exact h s hs
    · exact h'
  unfold doL
  cases hs : ss[ofI x.nd]? with
  | none => exact h
  | some s =>
    have hns := h s (List.mem_of_getElem? hs)
    simp only
    split
    · obtain ⟨ext, hr⟩ := run_law s x.cn x.ep x.rd x.tx
      exact key _ _ (by rw [hr.ep]; exact hns)
    · split
      · exact key _ _ (by unfold closeN; split <;> exact hns)
      · split
        · exact key _ _ (by unfold leadN; split <;> simp only <;> omega)
        · cases hf : ss[ofI x.fr]? with
          | none => exact h
          | some f => exact key _ _ (by unfold copyN; split <;> (try split) <;> simp only <;> (try have := h f (List.mem_of_getElem? hf)) <;> omega)
/-- Who copies from one that leads: behind it, or of its epoch and no leader. -/
def Under (s f : ND) : Prop := s.ep < f.ep ∨ (s.ep = f.ep ∧ s.ld = false)
theorem copy_under {s f : ND} (h : Under s f) (m : Int) : (copyN s f m).1.ep = f.ep ∧ (copyN s f m).1.ld = false ∧ (copyN s f m).1.lg = s.lg.take (bothL s.lg f.lg) ++ nextL s.lg f.lg m ∧ (copyN s f m).2 = ((nextL s.lg f.lg m).length : Int) := by
  have h1 : ¬ (f.ep < s.ep ∨ (f.ep = s.ep ∧ s.ld = true)) := by
    rintro (h1 | ⟨h1, h2⟩)
    · rcases h with h | ⟨h, _⟩ <;> omega
    · rcases h with h | ⟨h, h3⟩
      · omega
      · rw [h3] at h2; cases h2
  unfold copyN
  rw [if_neg h1]
  split
  · exact ⟨rfl, rfl, rfl, rfl⟩
  · rcases h with h | ⟨h, h3⟩
    · omega
    · exact ⟨h, h3, rfl, rfl⟩
theorem copy_under' {s f : ND} (h : Under s f) (m : Int) : Under (copyN s f m).1 f := by
  obtain ⟨h1, h2, _⟩ := copy_under h m
  exact .inr ⟨h1, h2⟩
theorem copy_many {s f : ND} (h : Under s f) (m : Int) : 0 ≤ (copyN s f m).2 ∧ (copyN s f m).2 ≤ max m 0 := by
  obtain ⟨_, _, _, h4⟩ := copy_under h m
  rw [h4]
  unfold nextL
  rw [List.length_take]
  omega
theorem copy_all {s f : ND} (h : Under s f) (hf : f.lg.length ≤ 200) : (copyN s f 200).1.lg = f.lg := by
  obtain ⟨_, _, h3, _⟩ := copy_under h 200
  rw [h3, both_take]
  unfold nextL
  rw [List.take_of_length_le (l := f.lg.drop _) (by rw [List.length_drop]; simp; omega), List.take_append_drop]
theorem copy_same {s f : ND} (h1 : s.ep = f.ep) (h2 : s.ld = false) (h3 : s.lg = f.lg) (m : Int) : copyN s f m = (s, 0) := by
  unfold copyN
  rw [if_neg (by rintro (h | ⟨_, h⟩); omega; rw [h2] at h; cases h), if_neg (by omega), h3, both_self, next_self, List.take_length, List.append_nil, ← h3]
  rfl
theorem copy_lead {s f : ND} (h1 : f.ep = s.ep) (h2 : s.ld = true) (m : Int) : copyN s f m = (s, 0) := by
  unfold copyN
  rw [if_pos (.inr ⟨h1, h2⟩)]
def inE (x : Int) : List Value := [.int .i64 x]
theorem T6 (w0 : World) {A B : Option Addr} {c d : Nat} {l : List AC} {ps : List Int} (hr : Rd acE w0 8 A l) (hl : l.length ≤ 4000000000000) (hep : ∀ x ∈ l, 0 ≤ x.ep ∧ x.ep < 18446744073709551616) (hr2 : Rd inE w0 1 B ps) (hM : MaxL w0) :
 Tri Tryz.prog w0 6 [.slice A l.length c, .slice B ps.length d] [] fun v m => v = .bool true ∧ m = [] := by
 refine tri_k Tryz.func6 rfl rfl fun F => ?_
 simp only [Tryz.ntmps6, argEnv, List.cons_append, List.nil_append]
 have hLg := T20 w0 (c := c) hr hl
 cases hlg : largeL l with
 | true =>
  rw [hlg] at hLg
  refine zH fun zq zQ => ?_
  refine zC 8 rfl ?_
  refine zcall [] rfl rfl rfl Tryz.call8 rfl (T8 _ (by first | assumption | rfl | omega | decide | (simp; done) | (simp at *; omega))) rfl ?_
  simp only [zca, zna, splice, spliceL]
  refine zO 10 rfl ?_
  refine zcall [] rfl rfl rfl Tryz.call20 rfl (hLg ) rfl ?_
  simp only [zca, zna, splice, spliceL]
  refine zO 15 rfl ?_
  refine zQ ?_
  refine at_end ?_
  refine at_fin (rsV rfl (res_tmp rfl)) ?_
  refine ⟨_, ⟨rfl, rfl⟩, ?_⟩
  exact zE [] []
 | false =>
 rw [hlg] at hLg
 obtain ⟨hl60, htx⟩ := large_no hlg
 by_cases ht : 60 < ps.length
 ·have hi0 : decide ((ps.length : Int) > 60) = true := decide_eq_true (by omega)
  refine zH fun zq zQ => ?_
  refine zC 8 rfl ?_
  refine zcall [] rfl rfl rfl Tryz.call8 rfl (T8 _ (by first | assumption | rfl | omega | decide | (simp; done) | (simp at *; omega))) rfl ?_
  simp only [zca, zna, splice, spliceL]
  refine zO 10 rfl ?_
  refine zcall [] rfl rfl rfl Tryz.call20 rfl (hLg ) rfl ?_
  simp only [zca, zna, splice, spliceL]
  refine zO 7 rfl ?_
  refine zcT rfl (decide_eq_true (by omega)) ?_
  refine zC 7 rfl ?_
  refine zQ ?_
  refine at_end ?_
  refine at_fin (rsV rfl (res_tmp rfl)) ?_
  refine ⟨_, ⟨rfl, rfl⟩, ?_⟩
  exact zE [] []
 have hi0 : decide ((ps.length : Int) > 60) = false := decide_eq_false (by omega)
 refine zH fun zq zQ => ?_
 refine zC 8 rfl ?_
 refine zcall [] rfl rfl rfl Tryz.call8 rfl (T8 _ (by first | assumption | rfl | omega | decide | (simp; done) | (simp at *; omega))) rfl ?_
 simp only [zca, zna, splice, spliceL]
 refine zO 10 rfl ?_
 refine zcall [] rfl rfl rfl Tryz.call20 rfl (hLg ) rfl ?_
 simp only [zca, zna, splice, spliceL]
 refine zO 7 rfl ?_
 refine zcF rfl (decide_eq_false (by omega)) ?_
 refine zC 4 rfl ?_
 refine zT (ot_call (ks := []) rfl rfl rfl Tryz.call21 rfl (T21 _) rfl) ?_
 rintro v0 _ ⟨m0, hp0, rfl⟩
 obtain ⟨A0, hp0⟩ := hp0
 obtain ⟨c0, hp0⟩ := hp0
 obtain ⟨g00, hp0⟩ := hp0
 obtain ⟨g10, hp0⟩ := hp0
 obtain ⟨g20, hp0⟩ := hp0
 obtain ⟨rfl, rfl⟩ := hp0
 simp only [zca, zna, splice, spliceL]
 refine zO 12 rfl ?_
 obtain ⟨ga, hga⟩ : ∃ gs, gs = [g00, g10, g20] := ⟨_, rfl⟩
 have ha3 : ga.length = 3 := by rw [hga]; rfl
 try rw [← hga]
 have h3 : [n0, n0, n0].length = 3 ∧ (∀ s ∈ [n0, n0, n0], NOk s) ∧ ∀ s ∈ [n0, n0, n0], 1 ≤ s.ep := ⟨rfl, fun s hs => by simp at hs; rw [hs]; exact NOk.new, fun s hs => by simp at hs; rw [hs]; decide⟩
 refine at_loopK [26, 27, 28, 7, 29, 30, 31, 32, 25] (fun i : Nat × List ND => i.1 ≤ l.length ∧ i.2.length = 3 ∧ (∀ s ∈ i.2, NOk s) ∧ ∀ s ∈ i.2, 1 ≤ s.ep) (fun i => [(25, .int .i64 (i.1 : Nat))]) (fun i q => setAt 1 (Many NodeA ga i.2) q) (fun i => l.length - i.1) (0, [n0, n0, n0]) ⟨Nat.zero_le _, h3⟩ ⟨rfl, trivial⟩ (fun _ s => s) ?_
 rintro ⟨k, ss⟩ ⟨hk, hs3, hok, hge⟩
 simp only [setAt] at hk hs3 hok hge ⊢
 rcases Nat.lt_or_ge k l.length with hlt | hnlt
 ·have hi1 : decide ((k : Int) < l.length) = true := decide_eq_true (by omega)
  obtain ⟨x, hget⟩ : ∃ x, l[k]? = some x := ⟨_, List.getElem?_eq_getElem hlt⟩
  have hxm := List.mem_of_getElem? hget
  have hxt := htx x hxm
  have hxe := hep x hxm
  obtain ⟨hd3, hdok⟩ := do_ok hok hxe.1 hxe.2 hxt
  rw [hs3] at hd3
  have hD {c c' : Nat} {A : Option Addr} := T23 w0 (A := A) (c := c) (c' := c') x ha3 hs3 hok hxt hM
  refine zC 6 rfl ?_
  refine zcT rfl (decide_eq_true (by omega)) ?_
  refine zC 6 rfl ?_
  refine zV (ov_indexRd (fun _ s => hr.up s) rfl Tryz.underlying46 rfl rfl rfl hget) ?_
  refine zV (ov_loadRdS (vs := [_, _, _, _, _, _, _, _]) (fun _ s => hr.up s) rfl rfl rfl hget rfl rfl) ?_
  refine zA Tryz.zeroValue54 fun g0 => ?_
  refine zS 0 ?_
  simp only [setAt, splice, spliceL, Value.cells]
  refine zOM [(0,_,_,_)] ⟨rfl,trivial⟩ [0] 5 rfl ?_
  refine zT (ot_call (ks := [1, 1]) rfl rfl rfl Tryz.call23 rfl (hD ) rfl) ?_
  rintro v0 _ ⟨m0, hp0, rfl⟩
  obtain ⟨B0, hp0⟩ := hp0
  obtain ⟨b0, hp0⟩ := hp0
  obtain ⟨rfl, rfl⟩ := hp0
  simp only [zca, zna, splice, spliceL]
  refine zO 4 rfl ?_
  refine zV zI ?_
  refine zOR 3 rfl ?_
  refine at_roundF (k + 1, (doL ss x).1) ⟨hlt, hd3, hdok, do_ge hge⟩ (by simp only; omega) ⟨rfl, trivial⟩ rfl ?_
  simp only [setAt]
  exact zE [0, 0] [0, 0]
 have hi1 : decide ((k : Int) < l.length) = false := decide_eq_false (by omega)
 obtain ⟨s0, s1, s2, rfl⟩ : ∃ s0 s1 s2, ss = [s0, s1, s2] := by
  match ss, hs3 with
  | [a, b, c], _ => exact ⟨a, b, c, rfl⟩
 try rw [hga]
 have k0 := hok s0 (by simp); have k1 := hok s1 (by simp); have k2 := hok s2 (by simp)
 have q0 := hge s0 (by simp); have q1 := hge s1 (by simp); have q2 := hge s2 (by simp)
 have e0 := k0.e1; have e1 := k1.e1; have e2 := k2.e1
 have z0 := k0.e0; have z1 := k1.e0; have z2 := k2.e0
 refine at_many 1 0 (g := g00) (s := s0) rfl rfl rfl ?_
 refine at_many 1 0 (g := g10) (s := s1) rfl rfl rfl ?_
 refine at_many 1 0 (g := g20) (s := s2) rfl rfl rfl ?_
 have hE0 := T27 w0 (g := g00) (s := s0)
 have hE1 := T27 w0 (g := g10) (s := s1)
 have hE2 := T27 w0 (g := g20) (s := s2)
 have i0 : [g00, g10, g20][0]? = some g00 := rfl
 have i1 : [g00, g10, g20][1]? = some g10 := rfl
 have i2 : [g00, g10, g20][2]? = some g20 := rfl
 obtain ⟨mx, hmx⟩ : ∃ mx, mx = max (max s0.ep s1.ep) s2.ep := ⟨_, rfl⟩
 refine zC 6 rfl ?_
 refine zcF rfl (decide_eq_false (by omega)) ?_
 refine zC 7 rfl ?_
 refine at_draw _ [] 1000 [(2, 0), (1, 1), (1, 2), (2, 3), (1, 4), (1, 5), (2, 7), (1, 8), (1, 9), (2, 11), (1, 12), (1, 13), (0, 6), (0, 10), (0, 14), (2, 15), (2, 16), (0, 17), (2, 18)] (by kernel_rfl) (by kernel_rfl) (fun _ s => (s.pulls (ks := [4]) rfl).left) ?_
 refine aq_p (ov_move rfl rfl) rfl rfl rfl ?_
 refine aq_v (ov_indexRd (fun _ s => s.rd (k := 0) rfl) rfl Tryz.underlying48 rfl rfl rfl i0) rfl rfl rfl ?_
 refine aq_v (ov_loadRd0 (fun _ s => s.rd (k := 0) rfl) rfl rfl rfl i0 rfl) rfl rfl rfl ?_
 refine aq_p (ov_move rfl rfl) rfl rfl rfl ?_
 refine aq_v (ov_indexRd (fun _ s => s.rd (k := 0) rfl) rfl Tryz.underlying48 rfl rfl rfl i0) rfl rfl rfl ?_
 refine aq_v (ov_loadRd0 (fun _ s => s.rd (k := 0) rfl) rfl rfl rfl i0 rfl) rfl rfl rfl ?_
 refine aq_p (ov_move rfl rfl) rfl rfl rfl ?_
 refine aq_v (ov_indexRd (fun _ s => s.rd (k := 0) rfl) rfl Tryz.underlying48 rfl rfl rfl i1) rfl rfl rfl ?_
 refine aq_v (ov_loadRd0 (fun _ s => s.rd (k := 0) rfl) rfl rfl rfl i1 rfl) rfl rfl rfl ?_
 refine aq_p (ov_move rfl rfl) rfl rfl rfl ?_
 refine aq_v (ov_indexRd (fun _ s => s.rd (k := 0) rfl) rfl Tryz.underlying48 rfl rfl rfl i2) rfl rfl rfl ?_
 refine aq_v (ov_loadRd0 (fun _ s => s.rd (k := 0) rfl) rfl rfl rfl i2 rfl) rfl rfl rfl ?_
 refine aq_t (ot_call (ks := [3]) rfl rfl rfl Tryz.call27 rfl (hE0 ) rfl) rfl rfl rfl ?_
 rintro v0 _ ⟨m0, hp0, rfl⟩
 obtain ⟨rfl, rfl⟩ := hp0
 simp only [zca, zna, splice, spliceL]
 refine ⟨fun _ s => (s.pulls (ks := [4]) rfl).left, ?_⟩
 refine aq_t (ot_call (ks := [3]) rfl rfl rfl Tryz.call27 rfl (hE1 ) rfl) rfl rfl rfl ?_
 rintro v0 _ ⟨m0, hp0, rfl⟩
 obtain ⟨rfl, rfl⟩ := hp0
 simp only [zca, zna, splice, spliceL]
 refine ⟨fun _ s => (s.pulls (ks := [4]) rfl).left, ?_⟩
 refine aq_t (ot_call (ks := [2]) rfl rfl rfl Tryz.call27 rfl (hE2 ) rfl) rfl rfl rfl ?_
 rintro v0 _ ⟨m0, hp0, rfl⟩
 obtain ⟨rfl, rfl⟩ := hp0
 simp only [zca, zna, splice, spliceL]
 refine ⟨fun _ s => (s.pulls (ks := [4]) rfl).left, ?_⟩
 refine aq_p (ov_max3 rfl rfl rfl rfl) rfl rfl rfl ?_
 refine aq_p (ov_int rfl rfl rfl rfl) rfl rfl rfl ?_
 refine aq_t (ot_call (ks := [2]) rfl rfl rfl Tryz.call10 rfl (T10 _ _) rfl) rfl rfl rfl ?_
 rintro v0 _ ⟨m0, hp0, rfl⟩
 obtain ⟨rfl, rfl⟩ := hp0
 simp only [zca, zna, splice, spliceL]
 refine ⟨fun _ s => (s.pulls (ks := [4]) rfl).left, ?_⟩
 refine aq_p (ov_not rfl rfl) rfl rfl rfl ?_
 refine aq_nil ?_
 refine zX 1 rfl ?_
 try rw [← hmx]
 by_cases hM1 : mx = 18446744073709551615
 ·have hw : IntKind.u64.wrap (mx + 1) = 0 := by rw [u64_wrap, hM1]; rfl
  have hld : leadN s0 0 = (s0, false) := by unfold leadN; rw [if_pos (by omega)]
  try rw [hw]
  try rw [hld]
  by_cases y0 : s0.ep = 18446744073709551615
  ·have j0 : decide (s0.ep = 18446744073709551615) = true := decide_eq_true y0
   refine zC 4 rfl ?_
   refine zV (ov_indexRd (fun _ s => s.rd (k := 4) rfl) rfl Tryz.underlying48 rfl rfl rfl i0) ?_
   refine zV (ov_loadRd0 (fun _ s => s.rd (k := 4) rfl) rfl rfl rfl i0 rfl) ?_
   refine zcall [0] rfl rfl rfl Tryz.call27 rfl (hE0 ) rfl ?_
   simp only [zca, zna, splice, spliceL]
   refine zO 2 rfl ?_
   refine zrT 57 rfl (decide_eq_true (by omega)) ?_
   refine zO 18 rfl ?_
   refine zQ ?_
   refine at_end ?_
   refine at_fin (rsV rfl (res_tmp rfl)) ?_
   refine ⟨_, ⟨rfl, rfl⟩, ?_⟩
   exact zE [] [0, 0, 0, 0, 0]
  have j0 : decide (s0.ep = 18446744073709551615) = false := decide_eq_false y0
  by_cases y1 : s1.ep = 18446744073709551615
  ·have j1 : decide (s1.ep = 18446744073709551615) = true := decide_eq_true y1
   refine zC 4 rfl ?_
   refine zV (ov_indexRd (fun _ s => s.rd (k := 4) rfl) rfl Tryz.underlying48 rfl rfl rfl i0) ?_
   refine zV (ov_loadRd0 (fun _ s => s.rd (k := 4) rfl) rfl rfl rfl i0 rfl) ?_
   refine zcall [0] rfl rfl rfl Tryz.call27 rfl (hE0 ) rfl ?_
   simp only [zca, zna, splice, spliceL]
   refine zO 2 rfl ?_
   refine zrF 57 rfl (decide_eq_false (by omega)) ?_
   refine zO 1 rfl ?_
   refine at_wanted (j := 5) rfl ?_
   refine zV (ov_indexRd (fun _ s => s.rd (k := 4) rfl) rfl Tryz.underlying48 rfl rfl rfl i1) ?_
   refine at_wanted (j := 5) rfl ?_
   refine zV (ov_loadRd0 (fun _ s => s.rd (k := 4) rfl) rfl rfl rfl i1 rfl) ?_
   refine at_wanted (j := 5) rfl ?_
   refine zcall [2] rfl rfl rfl Tryz.call27 rfl (hE1 ) rfl ?_
   simp only [zca, zna, splice, spliceL]
   refine zO 3 rfl ?_
   refine zrT 64 rfl (decide_eq_true (by omega)) ?_
   refine zO 11 rfl ?_
   refine zQ ?_
   refine at_end ?_
   refine at_fin (rsV rfl (res_tmp rfl)) ?_
   refine ⟨_, ⟨rfl, rfl⟩, ?_⟩
   exact zE [] [0, 0, 0, 0, 0]
  have j1 : decide (s1.ep = 18446744073709551615) = false := decide_eq_false y1
  have j2 : decide (s2.ep = 18446744073709551615) = true := decide_eq_true (by omega)
  refine zC 4 rfl ?_
  refine zV (ov_indexRd (fun _ s => s.rd (k := 4) rfl) rfl Tryz.underlying48 rfl rfl rfl i0) ?_
  refine zV (ov_loadRd0 (fun _ s => s.rd (k := 4) rfl) rfl rfl rfl i0 rfl) ?_
  refine zcall [0] rfl rfl rfl Tryz.call27 rfl (hE0 ) rfl ?_
  simp only [zca, zna, splice, spliceL]
  refine zO 2 rfl ?_
  refine zrF 57 rfl (decide_eq_false (by omega)) ?_
  refine zO 1 rfl ?_
  refine at_wanted (j := 5) rfl ?_
  refine zV (ov_indexRd (fun _ s => s.rd (k := 4) rfl) rfl Tryz.underlying48 rfl rfl rfl i1) ?_
  refine at_wanted (j := 5) rfl ?_
  refine zV (ov_loadRd0 (fun _ s => s.rd (k := 4) rfl) rfl rfl rfl i1 rfl) ?_
  refine at_wanted (j := 5) rfl ?_
  refine zcall [2] rfl rfl rfl Tryz.call27 rfl (hE1 ) rfl ?_
  simp only [zca, zna, splice, spliceL]
  refine zO 3 rfl ?_
  refine zrF 64 rfl (decide_eq_false (by omega)) ?_
  refine zO 1 rfl ?_
  refine at_wanted (j := 12) rfl ?_
  refine zV (ov_indexRd (fun _ s => s.rd (k := 4) rfl) rfl Tryz.underlying48 rfl rfl rfl i2) ?_
  refine at_wanted (j := 12) rfl ?_
  refine zV (ov_loadRd0 (fun _ s => s.rd (k := 4) rfl) rfl rfl rfl i2 rfl) ?_
  refine at_wanted (j := 12) rfl ?_
  refine zcall [2] rfl rfl rfl Tryz.call27 rfl (hE2 ) rfl ?_
  simp only [zca, zna, splice, spliceL]
  refine zO 7 rfl ?_
  refine zQ ?_
  refine at_end ?_
  refine at_fin (rsV rfl (res_tmp rfl)) ?_
  refine ⟨_, ⟨by rw [j2], rfl⟩, ?_⟩
  exact zE [] [0, 0, 0, 0, 0]
 have hw : IntKind.u64.wrap (mx + 1) = mx + 1 := inK_u64 (by omega) (by omega)
 obtain ⟨f, hf⟩ : ∃ f : ND, f = ⟨mx + 1, true, s0.lg, []⟩ := ⟨_, rfl⟩
 have hld : leadN s0 (mx + 1) = (f, true) := by unfold leadN; rw [if_neg (by omega), hf]
 have hfk : NOk f := by have := k0.lead (e := mx + 1) (by omega) (by omega); rwa [hld] at this
 have hfe : f.ep = mx + 1 := by rw [hf]
 have hfl : f.ld = true := by rw [hf]
 try rw [hw]
 try rw [hld]
 have u1 : Under s1 f := .inl (by omega)
 have u2 : Under s2 f := .inl (by omega)
 clear hf hld hw
 refine zC 12 rfl ?_
 refine at_loopK [74, 75, 76, 9, 77, 78, 79, 80, 81, 82, 83, 84, 10, 85, 86, 87, 88, 89, 90, 91, 92, 4, 93, 73] (fun i : Nat × ND => i.1 ≤ ps.length ∧ NOk i.2 ∧ Under i.2 f) (fun i => [(73, .int .i64 (i.1 : Nat))]) (fun i q => setAt 2 (NodeA g10 i.2) q) (fun i => ps.length - i.1) (0, s1) ⟨Nat.zero_le _, k1, u1⟩ ⟨rfl, trivial⟩ (fun _ s => s) ?_
 rintro ⟨q, s⟩ ⟨hq, hok1, hun⟩
 simp only [setAt] at hq hok1 hun ⊢
 rcases Nat.lt_or_ge q ps.length with hql | hqg
 ·have hi2 : decide ((q : Int) < ps.length) = true := decide_eq_true (by omega)
  obtain ⟨n, hgn⟩ : ∃ n, ps[q]? = some n := ⟨_, List.getElem?_eq_getElem hql⟩
  have hR := T31 w0 (g := g10) (g' := g00) hok1 hfk n
  obtain ⟨c0', c1'⟩ := copy_many hun n
  have hi3 : decide ((copyN s f n).2 < 0) = false := decide_eq_false (by omega)
  have hi4 : decide ((copyN s f n).2 > max n 0) = false := decide_eq_false (by omega)
  refine zC 6 rfl ?_
  refine zcT rfl (decide_eq_true (by omega)) ?_
  refine zC 6 rfl ?_
  refine zV (ov_indexRd (fun _ s => hr2.up s) rfl Tryz.underlying74 rfl rfl rfl hgn) ?_
  refine zV (ov_loadRd0 (fun _ s => hr2.up s) rfl rfl rfl hgn rfl) ?_
  refine zO 4 rfl ?_
  refine at_draw _ [] 1000 [(2, 0), (1, 1), (1, 2), (2, 3), (1, 4), (1, 5), (2, 6), (0, 7), (2, 8)] (by kernel_rfl) (by kernel_rfl) (fun _ s => (s.pulls (ks := [4]) rfl).left) ?_
  refine aq_p (ov_move rfl rfl) rfl rfl rfl ?_
  refine aq_v (ov_indexRd (fun _ s => s.rd (k := 0) rfl) rfl Tryz.underlying48 rfl rfl rfl i1) rfl rfl rfl ?_
  refine aq_v (ov_loadRd0 (fun _ s => s.rd (k := 0) rfl) rfl rfl rfl i1 rfl) rfl rfl rfl ?_
  refine aq_p (ov_move rfl rfl) rfl rfl rfl ?_
  refine aq_v (ov_indexRd (fun _ s => s.rd (k := 0) rfl) rfl Tryz.underlying48 rfl rfl rfl i0) rfl rfl rfl ?_
  refine aq_v (ov_loadRd0 (fun _ s => s.rd (k := 0) rfl) rfl rfl rfl i0 rfl) rfl rfl rfl ?_
  refine aq_p (ov_move rfl rfl) rfl rfl rfl ?_
  refine aq_t (ot_call (ks := [2, 0]) rfl rfl rfl Tryz.call31 rfl (hR ) rfl) rfl rfl rfl ?_
  rintro v0 _ ⟨m0, hp0, rfl⟩
  obtain ⟨rfl, rfl⟩ := hp0
  simp only [zca, zna, splice, spliceL]
  refine ⟨fun _ s => (s.pulls (ks := [4]) rfl).left, ?_⟩
  refine aq_p (ov_assign rfl rfl) rfl rfl rfl ?_
  refine aq_nil ?_
  refine zX 6 rfl ?_
  refine zrF 87 rfl (decide_eq_false (by omega)) ?_
  refine zO 2 rfl ?_
  refine at_wanted (j := 2) rfl ?_
  refine zV (ov_max rfl rfl rfl) ?_
  refine zO 4 rfl ?_
  refine zcF rfl (decide_eq_false (by omega)) ?_
  refine zC 4 rfl ?_
  refine zV zI ?_
  refine zOR 3 rfl ?_
  refine at_roundF (q + 1, (copyN s f n).1) ⟨hql, hok1.copy hfk n, copy_under' hun n⟩ (by simp only; omega) ⟨rfl, trivial⟩ rfl ?_
  simp only [setAt]
  exact zE [1, 1, 0, 0, 0] []
 have hi2 : decide ((q : Int) < ps.length) = false := decide_eq_false (by omega)
 have hR := T31 w0 (g := g10) (g' := g00) hok1 hfk 200
 have hfl2 := hfk.len
 obtain ⟨p1, hp1⟩ : ∃ p, p = (copyN s f 200).1 := ⟨_, rfl⟩
 obtain ⟨a1, a2, _, _⟩ := copy_under hun 200
 have a3 := copy_all hun hfl2
 have a4 := hok1.copy hfk 200
 have hR2 := T31 w0 (g := g20) (g' := g00) k2 hfk 200
 obtain ⟨p2, hp2⟩ : ∃ p, p = (copyN s2 f 200).1 := ⟨_, rfl⟩
 obtain ⟨b1, b2, _, _⟩ := copy_under u2 200
 have b3 := copy_all u2 hfl2
 have b4 := k2.copy hfk 200
 rw [← hp1] at hR a1 a2 a3 a4
 rw [← hp2] at hR2 b1 b2 b3 b4
 refine zC 6 rfl ?_
 refine zcF rfl (decide_eq_false (by omega)) ?_
 refine zC 6 rfl ?_
 refine at_draw _ [] 1000 [(2, 0), (1, 1), (1, 2), (2, 3), (1, 4), (1, 5), (0, 6)] (by kernel_rfl) (by kernel_rfl) (fun _ s => (s.pulls (ks := [4]) rfl).left) ?_
 refine aq_p (ov_move rfl rfl) rfl rfl rfl ?_
 refine aq_v (ov_indexRd (fun _ s => s.rd (k := 0) rfl) rfl Tryz.underlying48 rfl rfl rfl i1) rfl rfl rfl ?_
 refine aq_v (ov_loadRd0 (fun _ s => s.rd (k := 0) rfl) rfl rfl rfl i1 rfl) rfl rfl rfl ?_
 refine aq_p (ov_move rfl rfl) rfl rfl rfl ?_
 refine aq_v (ov_indexRd (fun _ s => s.rd (k := 0) rfl) rfl Tryz.underlying48 rfl rfl rfl i0) rfl rfl rfl ?_
 refine aq_v (ov_loadRd0 (fun _ s => s.rd (k := 0) rfl) rfl rfl rfl i0 rfl) rfl rfl rfl ?_
 refine aq_t (ot_call (ks := [2, 0]) rfl rfl rfl Tryz.call31 rfl (hR ) rfl) rfl rfl rfl ?_
 rintro v0 _ ⟨m0, hp0, rfl⟩
 obtain ⟨rfl, rfl⟩ := hp0
 simp only [zca, zna, splice, spliceL]
 refine ⟨fun _ s => (s.pulls (ks := [4]) rfl).left, ?_⟩
 refine aq_nil ?_
 refine zX 2 rfl ?_
 refine at_draw _ [] 1000 [(2, 0), (1, 1), (1, 2), (2, 3), (1, 4), (1, 5), (0, 6)] (by kernel_rfl) (by kernel_rfl) (fun _ s => (s.pulls (ks := [4]) rfl).left) ?_
 refine at_rowLen 4 rfl (fun hle2 _ => ?_)
 refine aq_p (ov_move rfl rfl) rfl rfl rfl ?_
 refine aq_v (ov_indexRd (fun _ s => s.rd (k := 0) rfl) rfl Tryz.underlying48 rfl rfl rfl i2) rfl rfl rfl ?_
 refine aq_v (ov_loadRd0 (fun _ s => s.rd (k := 0) rfl) rfl rfl rfl i2 rfl) rfl rfl rfl ?_
 refine aq_p (ov_move rfl rfl) rfl rfl rfl ?_
 refine aq_v (ov_indexRd (fun _ s => s.rd (k := 0) rfl) rfl Tryz.underlying48 rfl rfl rfl i0) rfl rfl rfl ?_
 refine aq_v (ov_loadRd0 (fun _ s => s.rd (k := 0) rfl) rfl rfl rfl i0 rfl) rfl rfl rfl ?_
 refine aq_t (ot_call (ks := [2, 1]) rfl rfl rfl Tryz.call31 rfl (hR2 ) rfl) rfl rfl rfl ?_
 rintro v0 _ ⟨m0, hp0, rfl⟩
 obtain ⟨rfl, rfl⟩ := hp0
 simp only [zca, zna, splice, spliceL]
 refine ⟨fun _ s => (s.pulls (ks := [4]) rfl).left, ?_⟩
 refine aq_nil ?_
 refine zX 5 rfl ?_
 refine zV (ov_sliceFrom (k := 1) rfl Tryz.underlying48 rfl rfl rfl (by first | (simp; done) | assumption | omega) (by assumption)) ?_
 refine zO 5 rfl ?_
 have hrx : ∀ w (l : List HP) (k : Nat), Sat w0 w l → nth k l = some (Row gpE 24 1 A0 c0 [g00, g10, g20]) → Rd gpE w 1 (dropA A0 c0 1 1) [g10, g20] := fun w l k st hk => rd_dropA st hk 1
 refine at_reval 109 (.slice (dropA A0 c0 1 1) [g10, g20].length (c0 - 1)) rfl rfl ?_
 refine at_reval 110 (.int .i64 ((2 : Nat) : Int)) rfl rfl ?_
 refine at_loopK [112, 113, 114, 12, 115, 116, 117, 118, 119, 120, 121, 122, 123, 124, 125, 126, 127, 128, 129, 130, 131, 132, 133, 134, 135, 136, 137, 138, 139, 140, 141, 142, 143, 144, 145, 4, 146, 111] (fun i : Nat => i ≤ 2) (fun i => [(111, .int .i64 (i : Nat))]) (fun i q => q) (fun i => 2 - i) 0 (Nat.zero_le _) ⟨rfl, trivial⟩ (fun _ s => s) ?_
 intro u hu
 rcases Nat.lt_or_ge u 2 with hu2 | hu2
 ·have hi3 : decide ((u : Int) < ((2 : Nat) : Int)) = true := decide_eq_true (by omega)
  rcases (by omega : u = 0 ∨ u = 1) with rfl | rfl
  ·have hgy : [g10, g20][0]? = some g10 := rfl
   have hc0 := copy_same (s := p1) (f := f) a1 a2 a3 200
   have hCp := T31 w0 (g := g10) (g' := g00) a4 hfk 200
   rw [hc0] at hCp
   have hlen1 := (a4).len
   have hEa := T27 w0 (g := g10) (s := p1)
   have hEb := T27 w0 (g := g00) (s := f)
   have hLe := T28 w0 (g := g10) (s := p1)
   have hLa := T19 w0 (g := g10) (s := p1) (by omega)
   have hLb := T19 w0 (g := g00) (s := f) (by omega)
   rw [a3] at hLa
   rw [a2] at hLe
   have hEn {A : Option Addr} {c c' : Nat} := T18 w0 (A := A) (c := c) (c' := c') (l := f.lg) (by omega)
   have hS {A B : Option Addr} {c d c' d' : Nat} := same15 w0 (A := A) (B := B) (c := c) (d := d) (c' := c') (d' := d') (xs := f.lg) (ys := f.lg) (by omega) (by omega)
   have hz1 : (!decide (p1.ep = f.ep)) = false := by simp [a1]
   have hz8 : decide (f.lg = f.lg) = true := decide_eq_true rfl
   refine zC 13 rfl ?_
   refine zV (ov_indexRd (fun w st => hrx w _ 4 st rfl) rfl Tryz.underlying48 rfl rfl rfl hgy) ?_
   refine zV (ov_loadRd0 (fun w st => hrx w _ 4 st rfl) rfl rfl rfl hgy rfl) ?_
   refine zO 4 rfl ?_
   refine at_draw _ [] 1000 [(2, 0), (2, 2), (1, 3), (1, 4), (0, 1), (0, 5), (2, 6), (2, 7), (2, 8), (0, 9), (2, 10), (2, 11), (2, 12), (2, 15), (1, 16), (1, 17), (0, 13), (0, 14), (0, 18), (0, 19), (0, 20), (2, 21), (2, 22), (2, 23), (2, 24), (2, 25), (1, 26), (1, 27), (0, 28), (2, 29), (2, 30)] (by kernel_rfl) (by kernel_rfl) (fun _ s => (s.pulls (ks := [4]) rfl).left) ?_
   refine aq_p (ov_move rfl rfl) rfl rfl rfl ?_
   refine aq_p (ov_move rfl rfl) rfl rfl rfl ?_
   refine aq_v (ov_indexRd (fun _ s => s.rd (k := 0) rfl) rfl Tryz.underlying48 rfl rfl rfl i0) rfl rfl rfl ?_
   refine aq_v (ov_loadRd0 (fun _ s => s.rd (k := 0) rfl) rfl rfl rfl i0 rfl) rfl rfl rfl ?_
   refine aq_t (ot_call (ks := [2]) rfl rfl rfl Tryz.call27 rfl (hEa ) rfl) rfl rfl rfl ?_
   rintro v0 _ ⟨m0, hp0, rfl⟩
   obtain ⟨rfl, rfl⟩ := hp0
   simp only [zca, zna, splice, spliceL]
   refine ⟨fun _ s => (s.pulls (ks := [4]) rfl).left, ?_⟩
   refine aq_t (ot_call (ks := [2]) rfl rfl rfl Tryz.call27 rfl (hEb ) rfl) rfl rfl rfl ?_
   rintro v0 _ ⟨m0, hp0, rfl⟩
   obtain ⟨rfl, rfl⟩ := hp0
   simp only [zca, zna, splice, spliceL]
   refine ⟨fun _ s => (s.pulls (ks := [4]) rfl).left, ?_⟩
   refine aq_p (ov_int rfl rfl rfl rfl) rfl rfl rfl ?_
   refine aq_p (ov_move rfl rfl) rfl rfl rfl ?_
   refine zrF 122 rfl (by first | assumption | (rw [Bool.not_eq_false']; exact decide_eq_true (by omega))) ?_
   refine aq_wanted (j := 7) rfl ?_
   refine aq_p (ov_move rfl rfl) rfl rfl rfl ?_
   refine aq_wanted (j := 7) rfl ?_
   refine aq_t (ot_call (ks := [1]) rfl rfl rfl Tryz.call28 rfl (hLe ) rfl) rfl rfl rfl ?_
   rintro v0 _ ⟨m0, hp0, rfl⟩
   obtain ⟨rfl, rfl⟩ := hp0
   simp only [zca, zna, splice, spliceL]
   refine ⟨fun _ s => (s.pulls (ks := [4]) rfl).left, ?_⟩
   refine aq_p (ov_pick_f rfl rfl rfl) rfl rfl rfl ?_
   refine aq_p (ov_move rfl rfl) rfl rfl rfl ?_
   refine aq_wanted (j := 11) rfl ?_
   refine aq_p (ov_move rfl rfl) rfl rfl rfl ?_
   refine aq_wanted (j := 11) rfl ?_
   refine aq_p (ov_move rfl rfl) rfl rfl rfl ?_
   refine aq_wanted (j := 11) rfl ?_
   refine aq_v (ov_indexRd (fun _ s => s.rd (k := 0) rfl) rfl Tryz.underlying48 rfl rfl rfl i0) rfl rfl rfl ?_
   refine aq_wanted (j := 11) rfl ?_
   refine aq_v (ov_loadRd0 (fun _ s => s.rd (k := 0) rfl) rfl rfl rfl i0 rfl) rfl rfl rfl ?_
   refine aq_wanted (j := 11) rfl ?_
   refine aq_t (ot_call (ks := [0]) rfl rfl rfl Tryz.call19 rfl (hLa ) rfl) rfl rfl rfl ?_
   rintro v0 _ ⟨m0, hp0, rfl⟩
   obtain ⟨B0, hp0⟩ := hp0
   obtain ⟨e3, hp0⟩ := hp0
   obtain ⟨rfl, rfl⟩ := hp0
   simp only [zca, zna, splice, spliceL]
   refine ⟨fun _ s => (s.pulls (ks := [5]) rfl).left, ?_⟩
   refine aq_wanted (j := 11) rfl ?_
   refine aq_t (ot_call (ks := [1]) rfl rfl rfl Tryz.call18 rfl (hEn ) rfl) rfl rfl rfl ?_
   rintro v0 _ ⟨m0, hp0, rfl⟩
   obtain ⟨B1, hp0⟩ := hp0
   obtain ⟨e4, hp0⟩ := hp0
   obtain ⟨rfl, rfl⟩ := hp0
   simp only [zca, zna, splice, spliceL]
   refine ⟨fun _ s => (s.pulls (ks := [6]) rfl).left, ?_⟩
   refine aq_wanted (j := 11) rfl ?_
   refine aq_t (ot_call (ks := [3]) rfl rfl rfl Tryz.call19 rfl (hLb ) rfl) rfl rfl rfl ?_
   rintro v0 _ ⟨m0, hp0, rfl⟩
   obtain ⟨B2, hp0⟩ := hp0
   obtain ⟨e5, hp0⟩ := hp0
   obtain ⟨rfl, rfl⟩ := hp0
   simp only [zca, zna, splice, spliceL]
   refine ⟨fun _ s => (s.pulls (ks := [7]) rfl).left, ?_⟩
   refine aq_wanted (j := 11) rfl ?_
   refine aq_t (ot_call (ks := [1]) rfl rfl rfl Tryz.call18 rfl (hEn ) rfl) rfl rfl rfl ?_
   rintro v0 _ ⟨m0, hp0, rfl⟩
   obtain ⟨B3, hp0⟩ := hp0
   obtain ⟨e6, hp0⟩ := hp0
   obtain ⟨rfl, rfl⟩ := hp0
   simp only [zca, zna, splice, spliceL]
   refine ⟨fun _ s => (s.pulls (ks := [8]) rfl).left, ?_⟩
   refine aq_wanted (j := 11) rfl ?_
   refine aq_t (ot_call (ks := [3, 0]) rfl rfl rfl Tryz.call17 rfl (hS ) rfl) rfl rfl rfl ?_
   rintro v0 _ ⟨m0, hp0, rfl⟩
   obtain ⟨rfl, rfl⟩ := hp0
   simp only [zca, zna, splice, spliceL]
   refine ⟨fun _ s => (s.pulls (ks := [8]) rfl).left, ?_⟩
   refine aq_wanted (j := 11) rfl ?_
   refine aq_p (ov_not rfl rfl) rfl rfl rfl ?_
   refine aq_p (ov_pick_f rfl rfl rfl) rfl rfl rfl ?_
   refine aq_p (ov_move rfl rfl) rfl rfl rfl ?_
   refine aq_wanted (j := 23) rfl ?_
   refine aq_p (ov_move rfl rfl) rfl rfl rfl ?_
   refine aq_wanted (j := 23) rfl ?_
   refine aq_p (ov_move rfl rfl) rfl rfl rfl ?_
   refine aq_wanted (j := 23) rfl ?_
   refine aq_v (ov_indexRd (fun _ s => s.rd (k := 0) rfl) rfl Tryz.underlying48 rfl rfl rfl i0) rfl rfl rfl ?_
   refine aq_wanted (j := 23) rfl ?_
   refine aq_v (ov_loadRd0 (fun _ s => s.rd (k := 0) rfl) rfl rfl rfl i0 rfl) rfl rfl rfl ?_
   refine aq_wanted (j := 23) rfl ?_
   refine aq_t (ot_call (ks := [5, 3]) rfl rfl rfl Tryz.call31 rfl (hCp ) rfl) rfl rfl rfl ?_
   rintro v0 _ ⟨m0, hp0, rfl⟩
   obtain ⟨rfl, rfl⟩ := hp0
   simp only [zca, zna, splice, spliceL]
   refine ⟨fun _ s => (s.pulls (ks := [8]) rfl).left, ?_⟩
   refine aq_wanted (j := 23) rfl ?_
   refine aq_p (ov_int rfl rfl rfl rfl) rfl rfl rfl ?_
   refine aq_p (ov_pick_f rfl rfl rfl) rfl rfl rfl ?_
   refine aq_nil ?_
   refine zX 6 rfl ?_
   refine zV zI ?_
   refine zOR 3 rfl ?_
   refine at_roundF 1 (by omega) (by omega) ⟨rfl, trivial⟩ rfl ?_
   exact zE [6, 1, 0, 4, 4] [0, 0, 0, 0]
  ·have hgy : [g10, g20][1]? = some g20 := rfl
   have hc0 := copy_same (s := p2) (f := f) b1 b2 b3 200
   have hCp := T31 w0 (g := g20) (g' := g00) b4 hfk 200
   rw [hc0] at hCp
   have hlen1 := (b4).len
   have hEa := T27 w0 (g := g20) (s := p2)
   have hEb := T27 w0 (g := g00) (s := f)
   have hLe := T28 w0 (g := g20) (s := p2)
   have hLa := T19 w0 (g := g20) (s := p2) (by omega)
   have hLb := T19 w0 (g := g00) (s := f) (by omega)
   rw [b3] at hLa
   rw [b2] at hLe
   have hEn {A : Option Addr} {c c' : Nat} := T18 w0 (A := A) (c := c) (c' := c') (l := f.lg) (by omega)
   have hS {A B : Option Addr} {c d c' d' : Nat} := same15 w0 (A := A) (B := B) (c := c) (d := d) (c' := c') (d' := d') (xs := f.lg) (ys := f.lg) (by omega) (by omega)
   have hz1 : (!decide (p2.ep = f.ep)) = false := by simp [b1]
   have hz8 : decide (f.lg = f.lg) = true := decide_eq_true rfl
   refine zC 13 rfl ?_
   refine zV (ov_indexRd (fun w st => hrx w _ 4 st rfl) rfl Tryz.underlying48 rfl rfl rfl hgy) ?_
   refine zV (ov_loadRd0 (fun w st => hrx w _ 4 st rfl) rfl rfl rfl hgy rfl) ?_
   refine zO 4 rfl ?_
   refine at_draw _ [] 1000 [(2, 0), (2, 2), (1, 3), (1, 4), (0, 1), (0, 5), (2, 6), (2, 7), (2, 8), (0, 9), (2, 10), (2, 11), (2, 12), (2, 15), (1, 16), (1, 17), (0, 13), (0, 14), (0, 18), (0, 19), (0, 20), (2, 21), (2, 22), (2, 23), (2, 24), (2, 25), (1, 26), (1, 27), (0, 28), (2, 29), (2, 30)] (by kernel_rfl) (by kernel_rfl) (fun _ s => (s.pulls (ks := [4]) rfl).left) ?_
   refine aq_p (ov_move rfl rfl) rfl rfl rfl ?_
   refine aq_p (ov_move rfl rfl) rfl rfl rfl ?_
   refine aq_v (ov_indexRd (fun _ s => s.rd (k := 0) rfl) rfl Tryz.underlying48 rfl rfl rfl i0) rfl rfl rfl ?_
   refine aq_v (ov_loadRd0 (fun _ s => s.rd (k := 0) rfl) rfl rfl rfl i0 rfl) rfl rfl rfl ?_
   refine aq_t (ot_call (ks := [0]) rfl rfl rfl Tryz.call27 rfl (hEa ) rfl) rfl rfl rfl ?_
   rintro v0 _ ⟨m0, hp0, rfl⟩
   obtain ⟨rfl, rfl⟩ := hp0
   simp only [zca, zna, splice, spliceL]
   refine ⟨fun _ s => (s.pulls (ks := [4]) rfl).left, ?_⟩
   refine aq_t (ot_call (ks := [1]) rfl rfl rfl Tryz.call27 rfl (hEb ) rfl) rfl rfl rfl ?_
   rintro v0 _ ⟨m0, hp0, rfl⟩
   obtain ⟨rfl, rfl⟩ := hp0
   simp only [zca, zna, splice, spliceL]
   refine ⟨fun _ s => (s.pulls (ks := [4]) rfl).left, ?_⟩
   refine aq_p (ov_int rfl rfl rfl rfl) rfl rfl rfl ?_
   refine aq_p (ov_move rfl rfl) rfl rfl rfl ?_
   refine zrF 122 rfl (by first | assumption | (rw [Bool.not_eq_false']; exact decide_eq_true (by omega))) ?_
   refine aq_wanted (j := 7) rfl ?_
   refine aq_p (ov_move rfl rfl) rfl rfl rfl ?_
   refine aq_wanted (j := 7) rfl ?_
   refine aq_t (ot_call (ks := [1]) rfl rfl rfl Tryz.call28 rfl (hLe ) rfl) rfl rfl rfl ?_
   rintro v0 _ ⟨m0, hp0, rfl⟩
   obtain ⟨rfl, rfl⟩ := hp0
   simp only [zca, zna, splice, spliceL]
   refine ⟨fun _ s => (s.pulls (ks := [4]) rfl).left, ?_⟩
   refine aq_p (ov_pick_f rfl rfl rfl) rfl rfl rfl ?_
   refine aq_p (ov_move rfl rfl) rfl rfl rfl ?_
   refine aq_wanted (j := 11) rfl ?_
   refine aq_p (ov_move rfl rfl) rfl rfl rfl ?_
   refine aq_wanted (j := 11) rfl ?_
   refine aq_p (ov_move rfl rfl) rfl rfl rfl ?_
   refine aq_wanted (j := 11) rfl ?_
   refine aq_v (ov_indexRd (fun _ s => s.rd (k := 0) rfl) rfl Tryz.underlying48 rfl rfl rfl i0) rfl rfl rfl ?_
   refine aq_wanted (j := 11) rfl ?_
   refine aq_v (ov_loadRd0 (fun _ s => s.rd (k := 0) rfl) rfl rfl rfl i0 rfl) rfl rfl rfl ?_
   refine aq_wanted (j := 11) rfl ?_
   refine aq_t (ot_call (ks := [0]) rfl rfl rfl Tryz.call19 rfl (hLa ) rfl) rfl rfl rfl ?_
   rintro v0 _ ⟨m0, hp0, rfl⟩
   obtain ⟨B0, hp0⟩ := hp0
   obtain ⟨e3, hp0⟩ := hp0
   obtain ⟨rfl, rfl⟩ := hp0
   simp only [zca, zna, splice, spliceL]
   refine ⟨fun _ s => (s.pulls (ks := [5]) rfl).left, ?_⟩
   refine aq_wanted (j := 11) rfl ?_
   refine aq_t (ot_call (ks := [1]) rfl rfl rfl Tryz.call18 rfl (hEn ) rfl) rfl rfl rfl ?_
   rintro v0 _ ⟨m0, hp0, rfl⟩
   obtain ⟨B1, hp0⟩ := hp0
   obtain ⟨e4, hp0⟩ := hp0
   obtain ⟨rfl, rfl⟩ := hp0
   simp only [zca, zna, splice, spliceL]
   refine ⟨fun _ s => (s.pulls (ks := [6]) rfl).left, ?_⟩
   refine aq_wanted (j := 11) rfl ?_
   refine aq_t (ot_call (ks := [3]) rfl rfl rfl Tryz.call19 rfl (hLb ) rfl) rfl rfl rfl ?_
   rintro v0 _ ⟨m0, hp0, rfl⟩
   obtain ⟨B2, hp0⟩ := hp0
   obtain ⟨e5, hp0⟩ := hp0
   obtain ⟨rfl, rfl⟩ := hp0
   simp only [zca, zna, splice, spliceL]
   refine ⟨fun _ s => (s.pulls (ks := [7]) rfl).left, ?_⟩
   refine aq_wanted (j := 11) rfl ?_
   refine aq_t (ot_call (ks := [1]) rfl rfl rfl Tryz.call18 rfl (hEn ) rfl) rfl rfl rfl ?_
   rintro v0 _ ⟨m0, hp0, rfl⟩
   obtain ⟨B3, hp0⟩ := hp0
   obtain ⟨e6, hp0⟩ := hp0
   obtain ⟨rfl, rfl⟩ := hp0
   simp only [zca, zna, splice, spliceL]
   refine ⟨fun _ s => (s.pulls (ks := [8]) rfl).left, ?_⟩
   refine aq_wanted (j := 11) rfl ?_
   refine aq_t (ot_call (ks := [3, 0]) rfl rfl rfl Tryz.call17 rfl (hS ) rfl) rfl rfl rfl ?_
   rintro v0 _ ⟨m0, hp0, rfl⟩
   obtain ⟨rfl, rfl⟩ := hp0
   simp only [zca, zna, splice, spliceL]
   refine ⟨fun _ s => (s.pulls (ks := [8]) rfl).left, ?_⟩
   refine aq_wanted (j := 11) rfl ?_
   refine aq_p (ov_not rfl rfl) rfl rfl rfl ?_
   refine aq_p (ov_pick_f rfl rfl rfl) rfl rfl rfl ?_
   refine aq_p (ov_move rfl rfl) rfl rfl rfl ?_
   refine aq_wanted (j := 23) rfl ?_
   refine aq_p (ov_move rfl rfl) rfl rfl rfl ?_
   refine aq_wanted (j := 23) rfl ?_
   refine aq_p (ov_move rfl rfl) rfl rfl rfl ?_
   refine aq_wanted (j := 23) rfl ?_
   refine aq_v (ov_indexRd (fun _ s => s.rd (k := 0) rfl) rfl Tryz.underlying48 rfl rfl rfl i0) rfl rfl rfl ?_
   refine aq_wanted (j := 23) rfl ?_
   refine aq_v (ov_loadRd0 (fun _ s => s.rd (k := 0) rfl) rfl rfl rfl i0 rfl) rfl rfl rfl ?_
   refine aq_wanted (j := 23) rfl ?_
   refine aq_t (ot_call (ks := [5, 3]) rfl rfl rfl Tryz.call31 rfl (hCp ) rfl) rfl rfl rfl ?_
   rintro v0 _ ⟨m0, hp0, rfl⟩
   obtain ⟨rfl, rfl⟩ := hp0
   simp only [zca, zna, splice, spliceL]
   refine ⟨fun _ s => (s.pulls (ks := [8]) rfl).left, ?_⟩
   refine aq_wanted (j := 23) rfl ?_
   refine aq_p (ov_int rfl rfl rfl rfl) rfl rfl rfl ?_
   refine aq_p (ov_pick_f rfl rfl rfl) rfl rfl rfl ?_
   refine aq_nil ?_
   refine zX 6 rfl ?_
   refine zV zI ?_
   refine zOR 3 rfl ?_
   refine at_roundF 2 (by omega) (by omega) ⟨rfl, trivial⟩ rfl ?_
   exact zE [0, 0, 4, 4, 4] [0, 0, 0, 0]
 have hi3 : decide ((u : Int) < ((2 : Nat) : Int)) = false := decide_eq_false (by omega)
 have hcl := copy_lead (s := f) (f := p1) a1 hfl 200
 have hCl := T31 w0 (g := g00) (g' := g10) hfk a4 200
 rw [hcl] at hCl
 have hz9 : decide ((0 : Int) = 0) = true := rfl
 refine zC 6 rfl ?_
 refine zcF rfl (decide_eq_false (by omega)) ?_
 refine zC 6 rfl ?_
 refine at_draw _ [] 1000 [(2, 0), (1, 1), (1, 2), (2, 3), (1, 4), (1, 5), (0, 6), (2, 7), (2, 8)] (by kernel_rfl) (by kernel_rfl) (fun _ s => (s.pulls (ks := [4]) rfl).left) ?_
 refine aq_p (ov_move rfl rfl) rfl rfl rfl ?_
 refine aq_v (ov_indexRd (fun _ s => s.rd (k := 0) rfl) rfl Tryz.underlying48 rfl rfl rfl i0) rfl rfl rfl ?_
 refine aq_v (ov_loadRd0 (fun _ s => s.rd (k := 0) rfl) rfl rfl rfl i0 rfl) rfl rfl rfl ?_
 refine aq_p (ov_move rfl rfl) rfl rfl rfl ?_
 refine aq_v (ov_indexRd (fun _ s => s.rd (k := 0) rfl) rfl Tryz.underlying48 rfl rfl rfl i1) rfl rfl rfl ?_
 refine aq_v (ov_loadRd0 (fun _ s => s.rd (k := 0) rfl) rfl rfl rfl i1 rfl) rfl rfl rfl ?_
 refine aq_t (ot_call (ks := [1, 1]) rfl rfl rfl Tryz.call31 rfl (hCl ) rfl) rfl rfl rfl ?_
 rintro v0 _ ⟨m0, hp0, rfl⟩
 obtain ⟨rfl, rfl⟩ := hp0
 simp only [zca, zna, splice, spliceL]
 refine ⟨fun _ s => (s.pulls (ks := [4]) rfl).left, ?_⟩
 refine aq_p (ov_int rfl rfl rfl rfl) rfl rfl rfl ?_
 refine aq_p (ov_assign rfl rfl) rfl rfl rfl ?_
 refine aq_nil ?_
 refine zX 2 rfl ?_
 refine zQ ?_
 refine at_end ?_
 refine at_fin (rsV rfl (res_tmp rfl)) ?_
 refine ⟨_, ⟨rfl, rfl⟩, ?_⟩
 exact zE [] [0, 0, 0, 0, 0]
end Go.Proofs.YtighdkdomfpadaaGreatDoor
