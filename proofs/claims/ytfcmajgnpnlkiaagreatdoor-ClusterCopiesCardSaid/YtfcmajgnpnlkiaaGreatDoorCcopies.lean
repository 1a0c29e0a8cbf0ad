/- The statement ClusterCopies, walked. -/
import Derived.Test.YtfcmajgnpnlkiaaGreatDoorProg
import Derived.Test.YtfcmajgnpnlkiaaGreatDoorCleads
import Derived.Test.YtfcmajgnpnlkiaaGreatDoorSLB
import Derived.KernelRfl
set_option linter.unusedSimpArgs false
set_option linter.unusedVariables false
set_option maxRecDepth 100000
set_option maxHeartbeats 4000000
namespace Go.Proofs.YtfcmajgnpnlkiaaGreatDoor
open Go Go.Proofs.YtfcmajgnpnlkiaaGreatDoor.SL Go.RowKit
def Under (s f : ND) : Prop := s.ep < f.ep ∨ (s.ep = f.ep ∧ s.ld = false)
theorem next_form {a b : List Ent} {m : Int} (hb : b.length ≤ 200) (hm : 0 ≤ m) : nextL a b m = (b.drop (bothL a b)).take m.toNat := by
  unfold nextL
  by_cases h : m ≤ 200
  · rw [show (max (min m 200) 0).toNat = m.toNat by omega]
  · rw [List.take_of_length_le (by rw [List.length_drop]; omega), List.take_of_length_le (by rw [List.length_drop]; omega)]
theorem both_pre {b : List Ent} {k : Nat} (hk : k ≤ b.length) : bothL (b.take k) b = k := by
  have h1 := both_ge (a := b.take k) (b := b) (k := k) (by rw [List.length_take]; omega) (by rw [List.take_take, Nat.min_self]) hk;have h2 := (both_le (b.take k) b).1;rw [List.length_take] at h2;omega
theorem copy_twice {s f : ND} (h : Under s f) (hf : f.lg.length ≤ 200) {a b : Int} (ha : 0 ≤ a) (hb : 0 ≤ b) :
    (copyN (copyN s f a).1 f b).1 = (copyN s f (a + b)).1 ∧ (copyN s f a).2 + (copyN (copyN s f a).1 f b).2 = (copyN s f (a + b)).2 := by
  have hno : ¬ (f.ep < s.ep ∨ (f.ep = s.ep ∧ s.ld = true)) := by
    rintro (h1 | ⟨h1, h2⟩)
    · rcases h with h | ⟨h, _⟩ <;> omega
    · rcases h with h | ⟨h, h3⟩
      · omega
      · rw [h3] at h2; cases h2
  obtain ⟨k, hk⟩ : ∃ k, k = bothL s.lg f.lg := ⟨_, rfl⟩;have hkl := (both_le s.lg f.lg).2;rw [← hk] at hkl
  -- the log behind a copy of m
  have hlog : ∀ m : Int, 0 ≤ m → s.lg.take (bothL s.lg f.lg) ++ nextL s.lg f.lg m = f.lg.take (k + m.toNat) := fun m hm => by
    rw [both_take, next_form hf hm, ← List.take_add, hk]
  have hlen : ∀ m : Int, 0 ≤ m → (nextL s.lg f.lg m).length = min m.toNat (f.lg.length - k) := fun m hm => by rw [next_form hf hm, List.length_take, List.length_drop, hk]
  have hq : k + min a.toNat (f.lg.length - k) ≤ f.lg.length := by omega
  have htk : f.lg.take (k + a.toNat) = f.lg.take (k + min a.toNat (f.lg.length - k)) := by
    by_cases h1 : a.toNat ≤ f.lg.length - k
    · rw [Nat.min_eq_left h1]
    · rw [Nat.min_eq_right (by omega), List.take_of_length_le (by omega), List.take_of_length_le (by omega)]
  have hb2 : bothL (f.lg.take (k + a.toNat)) f.lg = k + min a.toNat (f.lg.length - k) := by rw [htk]; exact both_pre hq
  have hlog2 : (f.lg.take (k + a.toNat)).take (bothL (f.lg.take (k + a.toNat)) f.lg) ++ nextL (f.lg.take (k + a.toNat)) f.lg b = f.lg.take (k + (a + b).toNat) := by
    rw [both_take, next_form hf hb, ← List.take_add, hb2]
    by_cases h1 : a.toNat ≤ f.lg.length - k
    · rw [Nat.min_eq_left h1, show k + a.toNat + b.toNat = k + (a + b).toNat by omega]
    · rw [List.take_of_length_le (by omega), List.take_of_length_le (by omega)]
  have hlen2 : (nextL (f.lg.take (k + a.toNat)) f.lg b).length = min b.toNat (f.lg.length - (k + min a.toNat (f.lg.length - k))) := by rw [next_form hf hb, List.length_take, List.length_drop, hb2]
  have hl := hlog a ha; have hl2 := hlog (a + b) (by omega); have hn := hlen a ha; have hn2 := hlen (a + b) (by omega);have h2 : ∀ (l o : List _) (m : Int), ¬ (f.ep < f.ep ∨ (f.ep = f.ep ∧ (⟨f.ep, false, l, o⟩ : ND).ld = true)) := fun l o m => by simp
  unfold copyN
  rw [if_neg hno, if_neg hno]
  by_cases he : s.ep < f.ep
  · rw [if_pos he, if_pos he];simp only [hl, hl2];rw [if_neg (by simp), if_neg (by simp)];simp only [hlog2, hn, hn2, hlen2];exact ⟨trivial, by omega⟩
  · rw [if_neg he, if_neg he]
    have heq : f.ep = s.ep := by rcases h with h | ⟨h, _⟩ <;> omega
    have hld : s.ld = false := by
      rcases h with h | ⟨_, h⟩
      · omega
      · exact h
    simp only [hl, hl2];rw [if_neg (by rw [heq, hld]; simp), if_neg (by omega)];simp only [hlog2, hn, hn2, hlen2];exact ⟨trivial, by omega⟩
theorem CInv.under {C : CD} (I : CInv C) {i : Nat} {s : ND} (hs : C.ns[i]? = some s) (hip : i ≠ C.pr) : Under s (firstC C) := by
  have ht := I.top s (List.mem_of_getElem? hs)
  unfold Under
  rw [I.fep]
  by_cases h : s.ep = C.ep
  · refine .inr ⟨h, ?_⟩
    cases hd : s.ld with
    | false => rfl
    | true => exact absurd (I.lead hs h hd) hip
  · exact .inl (by omega)
theorem copyC_twice {C : CD} (I : CInv C) (n : Int) {a b : Int} (ha : 0 ≤ a) (hb : 0 ≤ b) :
    (copyC (copyC C n a).1 n b).1 = (copyC C n (a + b)).1 ∧ (copyC C n a).2 + (copyC (copyC C n a).1 n b).2 = (copyC C n (a + b)).2 := by
  cases hs : atC C n with
  | none =>
    have h : ∀ m, copyC C n m = (C, 0) := fun m => by unfold copyC; rw [hs]
    rw [h, h, h]; exact ⟨rfl, rfl⟩
  | some s =>
    obtain ⟨i, rfl, hi⟩ := atC_some hs
    by_cases hp : (i : Int) = C.pr
    · have h : ∀ m, copyC C i m = (C, 0) := fun m => by unfold copyC; rw [hs]; simp only; rw [if_pos hp]
      rw [h, h, h]; exact ⟨rfl, rfl⟩
    · have hip : i ≠ C.pr := fun h => hp (by rw [h]);have hlt := (List.getElem?_eq_some_iff.1 hi).1;have h : ∀ m, copyC C i m = (setC C i (copyN s (firstC C) m).1, (copyN s (firstC C) m).2) := fun m => by unfold copyC; rw [hs]; simp only; rw [if_neg hp, Int.toNat_natCast]
      have hfl := (I.ok.ok _ (firstC_mem I.ok.n0)).len;obtain ⟨c1, c2⟩ := copy_twice (I.under hi hip) hfl ha hb;have hf := firstC_set (C := C) (i := i) (s := (copyN s (firstC C) a).1) I.ok.n0;rw [if_neg hip] at hf;have hs2 : atC (setC C i (copyN s (firstC C) a).1) (i : Nat) = some (copyN s (firstC C) a).1 := by rw [atC_nat]; exact List.getElem?_set_self hlt
      have h2 : copyC (setC C i (copyN s (firstC C) a).1) i b = (setC (setC C i (copyN s (firstC C) a).1) i (copyN (copyN s (firstC C) a).1 (firstC C) b).1, (copyN (copyN s (firstC C) a).1 (firstC C) b).2) := by
        unfold copyC; rw [hs2]; simp only; rw [if_neg (by exact hp), Int.toNat_natCast, hf]
      rw [h, h];simp only;rw [h2];refine ⟨?_, c2⟩;rw [c1]
      unfold setC
      simp only [List.set_set]
theorem copyC_many {C : CD} (I : CInv C) (n m : Int) : 0 ≤ (copyC C n m).2 ∧ (copyC C n m).2 ≤ max m 0 := by
  unfold copyC
  cases hs : atC C n with
  | none => simp only; omega
  | some s =>
    obtain ⟨i, rfl, hi⟩ := atC_some hs;simp only
    split
    · simp only; omega
    · rename_i hp
      obtain ⟨_, _, _, _, h5⟩ := I.copied hi (fun h => hp (by rw [h])) m;simp only;rw [h5]
      unfold nextL
      rw [List.length_take];omega
theorem T7 (w0 : World) {A : Option Addr} {c : Nat} {l : List A6} (nn kn a b : Int) (hr : Rd a6E w0 7 A l) (hl : l.length ≤ 4000000000000) (hM : MaxL w0) :
 Tri Tryz.prog w0 7 [.int .i64 nn, .slice A l.length c, .int .i64 kn, .int .i64 a, .int .i64 b] [] fun v m => v = .bool true ∧ m = [] := by
 refine tri_k Tryz.func7 rfl rfl fun F => ?_;simp only [Tryz.ntmps7, argEnv, List.cons_append, List.nil_append];have hLg := T9 w0 (c := c) hr hl
 cases hlg : large6 l with
 | true =>
  rw [hlg] at hLg;refine zH fun zq zQ => ?_;refine zC 8 rfl ?_;refine zcall [] rfl rfl rfl Tryz.call8 rfl (T8 _ (by first | assumption | rfl | omega | decide | (simp; done) | (simp at *; omega))) rfl ?_;simp only [zca, zna, splice, spliceL];refine zO 10 rfl ?_;refine zcall [] rfl rfl rfl Tryz.call9 rfl (hLg ) rfl ?_;simp only [zca, zna, splice, spliceL];refine zO 22 rfl ?_;refine zQ ?_;refine at_end ?_;refine zfin ?_;refine ⟨_, ⟨rfl, rfl⟩, ?_⟩;exact zE [] []
 | false =>
 rw [hlg] at hLg;obtain ⟨hl60, htx⟩ := large6_no hlg
 by_cases hb1 : 300 < max a b
 ·have x1 : decide (max a b > 300) = true := decide_eq_true hb1;refine zH fun zq zQ => ?_;refine zC 8 rfl ?_;refine zcall [] rfl rfl rfl Tryz.call8 rfl (T8 _ (by first | assumption | rfl | omega | decide | (simp; done) | (simp at *; omega))) rfl ?_;simp only [zca, zna, splice, spliceL];refine zO 10 rfl ?_;refine zcall [] rfl rfl rfl Tryz.call9 rfl (hLg ) rfl ?_;simp only [zca, zna, splice, spliceL];refine zO 3 rfl ?_;refine at_wanted (j := 2) rfl ?_;refine zV (ov_max rfl rfl rfl) ?_;refine zO 3 rfl ?_;refine zru 29 ?_;refine zO 15 rfl ?_;refine zQ ?_;refine at_end ?_;refine zfin ?_;refine ⟨_, ⟨rfl, rfl⟩, ?_⟩;exact zE [] []
 have x1 : decide (max a b > 300) = false := decide_eq_false (by omega)
 by_cases hb2 : min a b < 0
 ·have x2 : decide (min a b < 0) = true := decide_eq_true hb2;refine zH fun zq zQ => ?_;refine zC 8 rfl ?_;refine zcall [] rfl rfl rfl Tryz.call8 rfl (T8 _ (by first | assumption | rfl | omega | decide | (simp; done) | (simp at *; omega))) rfl ?_;simp only [zca, zna, splice, spliceL];refine zO 10 rfl ?_;refine zcall [] rfl rfl rfl Tryz.call9 rfl (hLg ) rfl ?_;simp only [zca, zna, splice, spliceL];refine zO 3 rfl ?_;refine at_wanted (j := 2) rfl ?_;refine zV (ov_max rfl rfl rfl) ?_;refine zO 3 rfl ?_;refine zrg 29 ?_;refine zO 2 rfl ?_;refine at_wanted (j := 8) rfl ?_;refine zV (ov_min rfl rfl rfl) ?_;refine zO 4 rfl ?_;refine zu ?_;refine zC 7 rfl ?_;refine zQ ?_;refine at_end ?_;refine zfin ?_;refine ⟨_, ⟨rfl, rfl⟩, ?_⟩;exact zE [] []
 have x2 : decide (min a b < 0) = false := decide_eq_false hb2
 by_cases hno : nn < 1 ∨ 6 < nn
 ·have hN := T10no w0 hno;refine zH fun zq zQ => ?_;refine zC 8 rfl ?_;refine zcall [] rfl rfl rfl Tryz.call8 rfl (T8 _ (by first | assumption | rfl | omega | decide | (simp; done) | (simp at *; omega))) rfl ?_;simp only [zca, zna, splice, spliceL];refine zO 10 rfl ?_;refine zcall [] rfl rfl rfl Tryz.call9 rfl (hLg ) rfl ?_;simp only [zca, zna, splice, spliceL];refine zO 3 rfl ?_;refine at_wanted (j := 2) rfl ?_;refine zV (ov_max rfl rfl rfl) ?_;refine zO 3 rfl ?_;refine zrg 29 ?_;refine zO 2 rfl ?_;refine at_wanted (j := 8) rfl ?_;refine zV (ov_min rfl rfl rfl) ?_;refine zO 4 rfl ?_;refine zg ?_;refine zC 5 rfl ?_;refine zcall [] rfl rfl rfl Tryz.call10 rfl (hN ) rfl ?_;simp only [zca, zna, splice, spliceL];refine zO 10 rfl ?_;refine zcall [] rfl rfl rfl Tryz.call10 rfl (hN ) rfl ?_;simp only [zca, zna, splice, spliceL];refine zO 11 rfl ?_;refine zV (ov_ptr_nil (q := none) rfl Tryz.underlying25 rfl rfl) ?_;refine zO 14 rfl ?_;refine zQ ?_;refine at_end ?_;refine zfin ?_;refine ⟨_, ⟨rfl, rfl⟩, ?_⟩;exact zE [] []
 obtain ⟨n, rfl⟩ : ∃ n : Nat, nn = n := ⟨nn.toNat, by omega⟩;have hn1 : 1 ≤ n := by omega
 have hn2 : n ≤ 6 := by omega
 have hN := T10s w0 hn1 hn2;refine zH fun zq zQ => ?_;refine zC 8 rfl ?_;refine zcall [] rfl rfl rfl Tryz.call8 rfl (T8 _ (by first | assumption | rfl | omega | decide | (simp; done) | (simp at *; omega))) rfl ?_;simp only [zca, zna, splice, spliceL];refine zO 10 rfl ?_;refine zcall [] rfl rfl rfl Tryz.call9 rfl (hLg ) rfl ?_;simp only [zca, zna, splice, spliceL];refine zO 3 rfl ?_;refine at_wanted (j := 2) rfl ?_;refine zV (ov_max rfl rfl rfl) ?_;refine zO 3 rfl ?_;refine zrg 29 ?_;refine zO 2 rfl ?_;refine at_wanted (j := 8) rfl ?_;refine zV (ov_min rfl rfl rfl) ?_;refine zO 4 rfl ?_;refine zg ?_;refine zC 5 rfl ?_;refine zT (ot_call (ks := []) rfl rfl rfl Tryz.call10 rfl (hN ) rfl) ?_;rintro v0 _ ⟨m0, hp0, rfl⟩;obtain ⟨g0, hp0⟩ := hp0;obtain ⟨rfl, rfl⟩ := hp0;simp only [zca, zna, splice, spliceL];refine zO 10 rfl ?_;refine zT (ot_call (ks := []) rfl rfl rfl Tryz.call10 rfl (hN ) rfl) ?_;rintro v0 _ ⟨m0, hp0, rfl⟩;obtain ⟨g1, hp0⟩ := hp0;obtain ⟨rfl, rfl⟩ := hp0;simp only [zca, zna, splice, spliceL];refine zO 11 rfl ?_;refine zV (ov_ptr_nil (q := none) rfl Tryz.underlying25 rfl rfl) ?_;refine zO 2 rfl ?_;refine at_wanted (j := 2) rfl ?_;refine zV (ov_ptr_nil (q := none) rfl Tryz.underlying25 rfl rfl) ?_;refine zO 15 rfl ?_;refine at_loopK [54, 55, 56, 16, 57, 58, 59, 60, 61, 62, 63, 53] (fun i : Nat × CD => i.1 ≤ l.length ∧ CInv i.2 ∧ i.2.ns.length = n ∧ i.2.ep ≤ 1 + i.1) (fun i => [(53, .int .i64 (i.1 : Nat))]) (fun i q => setAt 0 (CluA g1 i.2) (setAt 1 (CluA g0 i.2) q)) (fun i => l.length - i.1) (0, newC n) ⟨Nat.zero_le _, CInv.new hn1 hn2, by simp [newC]; omega, by simp [newC]⟩ ⟨rfl, trivial⟩ (fun _ s => s) ?_;rintro ⟨k, C⟩ ⟨hk, I, hCn, hCe⟩;simp only [setAt] at hk I hCn hCe ⊢
 rcases Nat.lt_or_ge k l.length with hlt | hge
 ·have hi1 : decide ((k : Int) < l.length) = true := decide_eq_true (by omega);obtain ⟨x, hget⟩ : ∃ x, l[k]? = some x := ⟨_, List.getElem?_eq_getElem hlt⟩;have hxt := htx x (List.mem_of_getElem? hget);have hD {g : Nat} := T12 w0 (g := g) I.ok x hxt hM;obtain ⟨e1, e2, e3⟩ := doC_ep (C := C) x
  unfold t6V at hD
  refine zC 6 rfl ?_;refine zu ?_;refine zC 6 rfl ?_;refine zV (ov_indexRd (fun _ s => hr.up s) rfl Tryz.underlying22 rfl rfl rfl hget) ?_;refine zV (ov_loadRdS (vs := [_, _, _, _, _, _, _]) (fun _ s => hr.up s) rfl rfl rfl hget rfl rfl) ?_;refine zA Tryz.zeroValue34 fun g2 => ?_;refine zS 0 ?_;simp only [setAt, splice, spliceL, Value.cells];refine zOM [(0,_,_,_)] ⟨rfl,trivial⟩ [0] 6 rfl ?_;refine zT (ot_call (ks := [2]) rfl rfl rfl Tryz.call12 rfl (hD ) rfl) ?_;rintro v0 _ ⟨m0, hp0, rfl⟩;obtain ⟨B0, hp0⟩ := hp0;obtain ⟨b0, hp0⟩ := hp0;obtain ⟨rfl, rfl⟩ := hp0;simp only [zca, zna, splice, spliceL];refine zOM [(2,_,_,_)] ⟨rfl,trivial⟩ [0] 5 rfl ?_;refine zT (ot_call (ks := [3]) rfl rfl rfl Tryz.call12 rfl (hD ) rfl) ?_;rintro v0 _ ⟨m0, hp0, rfl⟩;obtain ⟨B1, hp0⟩ := hp0;obtain ⟨b1, hp0⟩ := hp0;obtain ⟨rfl, rfl⟩ := hp0;simp only [zca, zna, splice, spliceL];refine zO 4 rfl ?_;refine zV zI ?_;refine zOR 3 rfl ?_;refine at_roundF (k + 1, (doC C x).1) ⟨hlt, I.do_ (by omega) x hxt, by simp only; omega, by simp only; omega⟩ (by simp only; omega) ⟨rfl, trivial⟩ rfl ?_;simp only [setAt];exact zE [0, 1] [0, 0, 0]
 have hi1 : decide ((k : Int) < l.length) = false := decide_eq_false (by omega);obtain ⟨c1, c2⟩ := copyC_twice I kn (a := a) (b := b) (by omega) (by omega);have hc1 := T29 w0 (g := g0) (C := C) I.ok.ok I.ok.n0 kn a;have J := I.copy kn a;have hc2 := T29 w0 (g := g0) (C := (copyC C kn a).1) J.ok.ok J.ok.n0 kn b;have hc3 := T29 w0 (g := g1) (C := C) I.ok.ok I.ok.n0 kn (a + b);have K := I.copy kn (a + b);rw [c1] at hc2;obtain ⟨D, hD⟩ : ∃ D, D = (copyC C kn (a + b)).1 := ⟨_, rfl⟩;rw [← hD] at hc2 hc3 K;have d1 := copyC_many I kn a;have d2 := copyC_many J kn b;have d3 := copyC_many I kn (a + b)
 have hKn : D.ns.length = n := by
  rw [hD]; unfold copyC
  cases atC C kn with
  | none => exact hCn
  | some s => simp only; split
              · exact hCn
              · simp only [setC, List.length_set]; exact hCn
 obtain ⟨m1, hm1⟩ : ∃ m, m = (copyC C kn a).2 := ⟨_, rfl⟩;obtain ⟨m2, hm2⟩ : ∃ m, m = (copyC (copyC C kn a).1 kn b).2 := ⟨_, rfl⟩;obtain ⟨m3, hm3⟩ : ∃ m, m = (copyC C kn (a + b)).2 := ⟨_, rfl⟩;rw [← hm1] at hc1 d1 c2;rw [← hm2] at hc2 d2 c2;rw [← hm3] at hc3 d3 c2;have y1 : (!decide (m1 + m2 = m3)) = false := by simp [c2]
 have y2 : decide (m1 + m2 < 0) = false := decide_eq_false (by omega);have y3 : decide (m1 + m2 > a + b) = false := decide_eq_false (by omega);refine zC 6 rfl ?_;refine zg ?_;refine zC 10 rfl ?_;refine zcall [1] rfl rfl rfl Tryz.call29 rfl (hc1 ) rfl ?_;simp only [zca, zna, splice, spliceL];refine zO 9 rfl ?_;refine zcall [0] rfl rfl rfl Tryz.call29 rfl (hc2 ) rfl ?_;simp only [zca, zna, splice, spliceL];refine zV zI ?_;refine zO 11 rfl ?_;refine zV zI ?_;refine zcall [1] rfl rfl rfl Tryz.call29 rfl (hc3 ) rfl ?_;simp only [zca, zna, splice, spliceL];refine zO 2 rfl ?_;refine zrf 82 ?_;refine zO 4 rfl ?_;refine zrg 86 ?_;refine zO 3 rfl ?_;refine at_wanted (j := 12) rfl ?_;refine zV zI ?_;refine zO 4 rfl ?_;refine zg ?_;refine zC 10 rfl ?_;refine at_loopK [95, 96, 18, 97, 98, 99, 100, 101, 102, 103, 104, 105, 106, 107, 108, 109, 110, 111, 112, 113, 114, 115, 116, 117, 118, 119, 120, 121, 122, 123, 124, 125, 126, 127, 128, 129, 130, 131, 132, 133, 10, 134, 94] (fun i : Nat => i ≤ n) (fun i => [(94, .int .i64 (i : Nat))]) (fun i q => q) (fun i => n - i) 0 (Nat.zero_le _) ⟨rfl, trivial⟩ (fun _ s => s) ?_;intro i hi
 rcases Nat.lt_or_ge i n with hlt2 | hge2
 ·have hi2 : decide ((i : Int) < n) = true := decide_eq_true (by omega);obtain ⟨s, hs⟩ : ∃ s, D.ns[i]? = some s := ⟨_, List.getElem?_eq_getElem (by omega)⟩;have hsa : atC D (i : Nat) = some s := by rw [atC_nat]; exact hs
  have hslen := (K.ok.ok s (List.mem_of_getElem? hs)).len;have hLo {g : Nat} := T21 w0 (g := g) (C := D) K.ok.ok (i : Nat);rw [show lgC D (i : Nat) = s.lg by unfold lgC; rw [hsa]] at hLo;have hLd {g : Nat} := T18 w0 (g := g) (C := D) (i : Nat);rw [show ldC D (i : Nat) = s.ld by unfold ldC; rw [hsa]] at hLd;have hEp {g : Nat} := T17 w0 (g := g) (C := D) (i : Nat);rw [show epC D (i : Nat) = s.ep by unfold epC; rw [hsa]] at hEp;have hLag {g : Nat} := T22 w0 (g := g) (C := D) K.ok.ok K.ok.n0 (i : Nat);obtain ⟨lag, hlag⟩ : ∃ m, m = lagC D (i : Nat) := ⟨_, rfl⟩;rw [← hlag] at hLag;have hEn {A : Option Addr} {c c' : Nat} := T20 w0 (A := A) (c := c) (c' := c') (l := s.lg) (by omega);have hS {A B : Option Addr} {c d c' d' : Nat} := same15 w0 (A := A) (B := B) (c := c) (d := d) (c' := c') (d' := d') (xs := s.lg) (ys := s.lg) (by omega) (by omega);have z1 : (!decide (s.ep = s.ep)) = false := by simp
  have z2 : (s.ld == s.ld) = true := by simp
  have z3 : decide (s.lg = s.lg) = true := decide_eq_true rfl;have z4 : (!decide (lag = lag)) = false := by simp
  refine zC 6 rfl ?_;refine zu ?_;refine zC 14 rfl ?_;refine zcall [1] rfl rfl rfl Tryz.call17 rfl (hEp ) rfl ?_;simp only [zca, zna, splice, spliceL];refine zO 2 rfl ?_;refine zcall [1] rfl rfl rfl Tryz.call17 rfl (hEp ) rfl ?_;simp only [zca, zna, splice, spliceL];refine zO 2 rfl ?_;refine zrf 104 ?_;refine zO 2 rfl ?_;refine at_wanted (j := 7) rfl ?_;refine zcall [1] rfl rfl rfl Tryz.call18 rfl (hLd ) rfl ?_;simp only [zca, zna, splice, spliceL];refine zO 2 rfl ?_;refine at_wanted (j := 7) rfl ?_;refine zcall [1] rfl rfl rfl Tryz.call18 rfl (hLd ) rfl ?_;simp only [zca, zna, splice, spliceL];refine at_wanted (j := 7) rfl ?_;refine zV (ov_boolne rfl Tryz.underlying4 rfl rfl) ?_;refine zO 2 rfl ?_;refine zrF 113 rfl (by simp; done) ?_;refine zO 2 rfl ?_;refine at_wanted (j := 16) rfl ?_;refine zT (ot_call (ks := [1]) rfl rfl rfl Tryz.call21 rfl (hLo ) rfl) ?_;rintro v0 _ ⟨m0, hp0, rfl⟩;obtain ⟨B0, hp0⟩ := hp0;obtain ⟨e0, hp0⟩ := hp0;obtain ⟨rfl, rfl⟩ := hp0;simp only [zca, zna, splice, spliceL];refine at_wanted (j := 16) rfl ?_;refine zT (ot_call (ks := [1]) rfl rfl rfl Tryz.call20 rfl (hEn ) rfl) ?_;rintro v0 _ ⟨m0, hp0, rfl⟩;obtain ⟨B1, hp0⟩ := hp0;obtain ⟨e1, hp0⟩ := hp0;obtain ⟨rfl, rfl⟩ := hp0;simp only [zca, zna, splice, spliceL];refine zO 2 rfl ?_;refine at_wanted (j := 16) rfl ?_;refine zT (ot_call (ks := [3]) rfl rfl rfl Tryz.call21 rfl (hLo ) rfl) ?_;rintro v0 _ ⟨m0, hp0, rfl⟩;obtain ⟨B2, hp0⟩ := hp0;obtain ⟨e2, hp0⟩ := hp0;obtain ⟨rfl, rfl⟩ := hp0;simp only [zca, zna, splice, spliceL];refine at_wanted (j := 16) rfl ?_;refine zT (ot_call (ks := [1]) rfl rfl rfl Tryz.call20 rfl (hEn ) rfl) ?_;rintro v0 _ ⟨m0, hp0, rfl⟩;obtain ⟨B3, hp0⟩ := hp0;obtain ⟨e3, hp0⟩ := hp0;obtain ⟨rfl, rfl⟩ := hp0;simp only [zca, zna, splice, spliceL];refine at_wanted (j := 16) rfl ?_;refine zcall [3, 0] rfl rfl rfl Tryz.call19 rfl (hS ) rfl ?_;simp only [zca, zna, splice, spliceL];refine zO 5 rfl ?_;refine at_wanted (j := 28) rfl ?_;refine zcall [5] rfl rfl rfl Tryz.call22 rfl (hLag ) rfl ?_;simp only [zca, zna, splice, spliceL];refine zO 2 rfl ?_;refine at_wanted (j := 28) rfl ?_;refine zcall [4] rfl rfl rfl Tryz.call22 rfl (hLag ) rfl ?_;simp only [zca, zna, splice, spliceL];refine zO 4 rfl ?_;refine zf ?_;refine zC 4 rfl ?_;refine zV zI ?_;refine zOR 3 rfl ?_;refine at_roundF (i + 1) hlt2 (by omega) ⟨rfl, trivial⟩ rfl ?_;exact zE [0, 0] [0, 0, 0, 0]
 have hi2 : decide ((i : Int) < n) = false := decide_eq_false (by omega);have hNw {g : Nat} := T15 w0 (g := g) (C := D);refine zC 6 rfl ?_;refine zg ?_;refine zC 8 rfl ?_;refine zcall [1] rfl rfl rfl Tryz.call15 rfl (hNw ) rfl ?_;simp only [zca, zna, splice, spliceL];refine zO 1 rfl ?_;refine zcall [1] rfl rfl rfl Tryz.call15 rfl (hNw ) rfl ?_;simp only [zca, zna, splice, spliceL];refine zV (ov_eqS rfl (by kernel_rfl) rfl rfl rfl rfl) ?_;refine zO 4 rfl ?_;refine zQ ?_;refine at_end ?_;refine zfin ?_;refine ⟨_, ⟨by simp, rfl⟩, ?_⟩;exact zE [] [0, 0]
end Go.Proofs.YtfcmajgnpnlkiaaGreatDoor
