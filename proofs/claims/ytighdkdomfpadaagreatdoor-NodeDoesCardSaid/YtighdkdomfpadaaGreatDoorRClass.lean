/- The reference of classing, walked: in, word, has, sign. -/
import Derived.Test.YtighdkdomfpadaaGreatDoorProg
import Derived.Test.YtighdkdomfpadaaGreatDoorClassA
import Derived.Test.YtighdkdomfpadaaGreatDoorSLB
import Derived.KernelRfl
set_option linter.unusedSimpArgs false
set_option linter.unusedVariables false
set_option maxRecDepth 100000
set_option maxHeartbeats 2000000
namespace Go.Proofs.YtighdkdomfpadaaGreatDoor
open Go Go.Proofs.YtighdkdomfpadaaGreatDoor.SL Go.RowKit
theorem T144 (w0 : World) (w l : BL) (hw : w.length ≤ 10000) (hl : l.length ≤ 10000) : Tri Tryz.prog w0 144 [SV w, SV l] [] fun v m => v = .bool (inL w l) ∧ m = [] := by
 refine tri_k Tryz.func144 rfl rfl fun F => ?_;simp only [Tryz.ntmps144, argEnv, List.nil_append]
 by_cases h0 : w = []
 ·subst h0;have hi0 : decide (([] : BL) = []) = true := by simp
  refine zH fun zq zQ => ?_;refine zC 20 rfl ?_;refine zQ ?_;refine at_end ?_;refine zfin ?_;refine ⟨_, ⟨by simp [inL], rfl⟩, ?_⟩;exact zE [] []
 have hi0 : decide (w = ([] : BL)) = false := by simp [h0]
 have e : inL w l = !decide (findL l ([32] ++ w ++ [32]) 0 < 0) := by
  rw [← contains_find];simp [inL, h0]
 have ht : ([32] ++ w ++ [32]).length = w.length + 2 := by simp
 obtain ⟨t, htd⟩ : ∃ t, [32] ++ w ++ [32] = t := ⟨_, rfl⟩;rw [htd] at e ht;rw [e];refine zH fun zq zQ => ?_;refine zC 12 rfl ?_;refine zg ?_;refine zC 5 rfl ?_;refine zV (ov_catL rfl rfl rfl (by first | omega | (simp only [List.length_append, List.length_cons, List.length_nil]; omega))) ?_;refine zV (ov_catL rfl rfl rfl (by first | omega | (simp only [List.length_append, List.length_cons, List.length_nil]; omega))) ?_;refine zO 10 rfl ?_
 try rw [htd]
 clear htd e;refine at_loopK [11, 12, 13, 14, 15, 16, 17, 20, 21, 22, 23, 24, 25, 26, 27, 28, 4, 18, 19, 5] (fun k => k ≤ l.length ∧ findL l t 0 = findL l t k) (fun k => [(5, .int .i64 (k : Nat))]) (fun _ m => m) (fun k => l.length - k) 0 ⟨Nat.zero_le _, rfl⟩ ⟨rfl, trivial⟩ (fun _ s => s) ?_;rintro k ⟨hk, hf⟩
 by_cases h : k + t.length ≤ l.length
 ·have hi1 : decide ((k : Int) + t.length ≤ l.length) = true := decide_eq_true (by omega);have e : ((k : Int) + t.length).toNat = k + t.length := by omega
  have hpa := hasPrefix_at l t k (by omega);simp only [h, decide_true, Bool.true_and] at hpa
  cases hp : Lib.hasPrefix (l.drop k) t with
  | true =>
   rw [hp] at hpa;have hi2 : decide ((l.take ((k : Int) + t.length).toNat).drop k = t) = true := by rw [e]; exact hpa.symm
   refine zC 6 rfl ?_;refine zV zI ?_;refine zO 5 rfl ?_;refine zu ?_;refine zC 11 rfl ?_;refine zV zI ?_;refine zV (ov_sliceMidL rfl Tryz.underlying9 rfl rfl rfl rfl rfl (by first | assumption | omega | (simp only [zla, zlc, zln]; omega) | (simp; done) | (simp; omega)) (by first | assumption | omega | (simp only [zla, zlc, zln]; omega) | (simp; done) | (simp; omega))) ?_;refine zO 4 rfl ?_;refine zt ?_;refine zC 11 rfl ?_;refine zQ ?_;refine at_end ?_;refine zfin ?_;refine ⟨_, ⟨by rw [hf, findL_hit (by omega) hp, decide_eq_false (by omega)]; rfl, rfl⟩, ?_⟩;exact zE [] []
  | false =>
   rw [hp] at hpa;have hi2 : decide ((l.take ((k : Int) + t.length).toNat).drop k = t) = false := by rw [e]; exact hpa.symm
   have hst := findL_step (by omega) hp;refine zC 6 rfl ?_;refine zV zI ?_;refine zO 5 rfl ?_;refine zu ?_;refine zC 11 rfl ?_;refine zV zI ?_;refine zV (ov_sliceMidL rfl Tryz.underlying9 rfl rfl rfl rfl rfl (by first | assumption | omega | (simp only [zla, zlc, zln]; omega) | (simp; done) | (simp; omega)) (by first | assumption | omega | (simp only [zla, zlc, zln]; omega) | (simp; done) | (simp; omega))) ?_;refine zO 4 rfl ?_;refine zf ?_;refine zC 5 rfl ?_;refine zV zI ?_;refine zOR 3 rfl ?_;refine at_roundF (k + 1) ⟨by omega, by rw [hf, hst]⟩ (by omega) ⟨rfl, trivial⟩ rfl ?_;exact zE [] []
 ·have hi1 : decide ((k : Int) + t.length ≤ l.length) = false := decide_eq_false (by omega);refine zC 6 rfl ?_;refine zV zI ?_;refine zO 5 rfl ?_;refine zg ?_;refine zC 11 rfl ?_;refine zQ ?_;refine at_end ?_;refine zfin ?_;refine ⟨_, ⟨by rw [hf, findL_miss (s := l) (t := t) (i := k) (by omega) (by omega)]; rfl, rfl⟩, ?_⟩;exact zE [] []
theorem T143 (w0 : World) {A : Option Addr} {c : Nat} {l : List Tok} (hr : Rd tE w0 2 A l) (hm : l.length ≤ 10000) (i : Nat) (hi : i ≤ 10000) : Tri Tryz.prog w0 143 [.slice A l.length c, .int .i64 (i : Nat)] [] fun v m => v = SV (wordAt l i) ∧ m = [] := by
 refine tri_k Tryz.func143 rfl rfl fun F => ?_;simp only [Tryz.ntmps143, argEnv, List.nil_append]
 rcases Nat.lt_or_ge i l.length with hlt | hge
 ·have hi1 : decide ((i : Int) ≥ l.length) = false := decide_eq_false (by omega);obtain ⟨x, hget⟩ : ∃ x, l[i]? = some x := ⟨_, List.getElem?_eq_getElem hlt⟩
  by_cases hk : x.1 = 1
  ·have hi2 : (!decide (x.1 = 1)) = false := by simp [hk]
   have e : wordAt l i = x.2 := by unfold wordAt; rw [hget]; simp [hk]
   rw [e];refine zH fun zq zQ => ?_;refine zC 13 rfl ?_;refine zrg 9 ?_;refine zO 2 rfl ?_;refine at_wanted (j := 4) rfl ?_;refine zV (ov_indexRd (fun _ s => hr.up s) rfl Tryz.underlying151 rfl rfl rfl hget) ?_;refine at_wanted (j := 4) rfl ?_;refine zV (ov_fieldRd0 (k := 0) (fun _ s => hr.up s) rfl rfl hget rfl) ?_;refine at_wanted (j := 4) rfl ?_;refine zV (ov_loadRd0 (fun _ s => hr.up s) rfl rfl rfl hget rfl) ?_;refine zO 4 rfl ?_;refine zf ?_;refine zC 6 rfl ?_;refine zV (ov_indexRd (fun _ s => hr.up s) rfl Tryz.underlying151 rfl rfl rfl hget) ?_;refine zV (ov_fieldRd0 (k := 1) (fun _ s => hr.up s) rfl rfl hget rfl) ?_;refine zV (ov_loadRd (fun _ s => hr.up s) rfl rfl rfl hget rfl) ?_;refine zO 4 rfl ?_;refine zQ ?_;refine at_end ?_;refine zfin ?_;refine ⟨_, ⟨rfl, rfl⟩, ?_⟩;exact zE [] []
  ·have hi2 : (!decide (x.1 = 1)) = true := by simp [hk]
   have e : wordAt l i = [] := by unfold wordAt; rw [hget]; simp [hk]
   rw [e];refine zH fun zq zQ => ?_;refine zC 13 rfl ?_;refine zrg 9 ?_;refine zO 2 rfl ?_;refine at_wanted (j := 4) rfl ?_;refine zV (ov_indexRd (fun _ s => hr.up s) rfl Tryz.underlying151 rfl rfl rfl hget) ?_;refine at_wanted (j := 4) rfl ?_;refine zV (ov_fieldRd0 (k := 0) (fun _ s => hr.up s) rfl rfl hget rfl) ?_;refine at_wanted (j := 4) rfl ?_;refine zV (ov_loadRd0 (fun _ s => hr.up s) rfl rfl rfl hget rfl) ?_;refine zO 4 rfl ?_;refine zt ?_;refine zC 7 rfl ?_;refine zQ ?_;refine at_end ?_;refine zfin ?_;refine ⟨_, ⟨rfl, rfl⟩, ?_⟩;exact zE [] []
 ·have hi1 : decide ((i : Int) ≥ l.length) = true := decide_eq_true (by omega);have e : wordAt l i = [] := by unfold wordAt; rw [List.getElem?_eq_none hge]
  rw [e];refine zH fun zq zQ => ?_;refine zC 13 rfl ?_;refine zru 9 ?_;refine zO 17 rfl ?_;refine zQ ?_;refine at_end ?_;refine zfin ?_;refine ⟨_, ⟨rfl, rfl⟩, ?_⟩;exact zE [] []
theorem T145 (w0 : World) {A : Option Addr} {c : Nat} {l : List Tok} (hr : Rd tE w0 2 A l) (hm : l.length ≤ 10000) (ht : ∀ t ∈ l, t.2.length ≤ 10000) (s : BL) (hs : s.length ≤ 10000) : Tri Tryz.prog w0 145 [.slice A l.length c, SV s] [] fun v m => v = .bool (hasW l s) ∧ m = [] := by
 refine tri_k Tryz.func145 rfl rfl fun F => ?_;simp only [Tryz.ntmps145, argEnv, List.nil_append]
 have hwl : ∀ i, (wordAt l i).length ≤ 10000 := fun i => by
  unfold wordAt
  cases h : l[i]? with
  | none => simp
  | some x => simp only; split; exact ht x (List.mem_of_getElem? h); simp
 refine zH fun zq zQ => ?_;refine zC 12 rfl ?_;refine at_loopK [6, 7, 8, 9, 12, 13, 14, 15, 16, 4, 10, 11, 5] (fun k => k ≤ l.length ∧ ((List.range k).any fun i => inL (wordAt l i) s) = false) (fun k => [(5, .int .i64 (k : Nat))]) (fun _ m => m) (fun k => l.length - k) 0 ⟨Nat.zero_le _, rfl⟩ ⟨rfl, trivial⟩ (fun _ s => s) ?_;rintro k ⟨hk, hb⟩
 rcases Nat.lt_or_ge k l.length with hlt | hge
 ·have hi1 : decide ((k : Int) < l.length) = true := decide_eq_true (by omega);have hW := T143 w0 (c := c) hr hm k (by omega);have hI := T144 w0 (wordAt l k) s (hwl k) hs
  cases hw : inL (wordAt l k) s with
  | true =>
   rw [hw] at hI
   have hall : hasW l s = true := by
    unfold hasW
    try rw [List.any_eq_true]
    exact ⟨k, List.mem_range.2 hlt, hw⟩
   refine zC 9 rfl ?_;refine zu ?_;refine zC 8 rfl ?_;refine zcall [] rfl rfl rfl Tryz.call143 rfl (hW ) rfl ?_;simp only [zca, zna, splice, spliceL];refine zO 1 rfl ?_;refine zcall [] rfl rfl rfl Tryz.call144 rfl (hI ) rfl ?_;simp only [zca, zna, splice, spliceL];refine zO 14 rfl ?_;refine zQ ?_;refine at_end ?_;refine zfin ?_;refine ⟨_, ⟨by rw [hall], rfl⟩, ?_⟩;exact zE [] []
  | false =>
   rw [hw] at hI;refine zC 9 rfl ?_;refine zu ?_;refine zC 8 rfl ?_;refine zcall [] rfl rfl rfl Tryz.call143 rfl (hW ) rfl ?_;simp only [zca, zna, splice, spliceL];refine zO 1 rfl ?_;refine zcall [] rfl rfl rfl Tryz.call144 rfl (hI ) rfl ?_;simp only [zca, zna, splice, spliceL];refine zO 8 rfl ?_;refine zV zI ?_;refine zOR 3 rfl ?_;refine at_roundF (k + 1) ⟨hlt, by rw [List.range_succ, List.any_append, hb]; simp [hw]⟩ (by omega) ⟨rfl, trivial⟩ rfl ?_;exact zE [] []
 ·have hi1 : decide ((k : Int) < l.length) = false := decide_eq_false (by omega);have hkl : k = l.length := by omega
  subst hkl;refine zC 9 rfl ?_;refine zg ?_;refine zC 11 rfl ?_;refine zQ ?_;refine at_end ?_;refine zfin ?_;refine ⟨_, ⟨by unfold hasW; rw [hb], rfl⟩, ?_⟩;exact zE [] []
theorem T112 (w0 : World) (t : Tok) : Tri Tryz.prog w0 112 [.agg #[.int .i64 t.1, SV t.2]] [] fun v m => v = .bool (decide (t = signL)) ∧ m = [] := by
 refine tri_k Tryz.func112 rfl rfl fun F => ?_;simp only [Tryz.ntmps112, argEnv, List.nil_append];obtain ⟨k, s⟩ := t
 by_cases h1 : k = 6
 ·have hi1 : decide (k = 6) = true := decide_eq_true h1;have e : decide ((k, s) = signL) = decide (s = [59]) := by subst h1; exact decide_eq_decide.2 ⟨fun h => (Prod.mk.inj h).2, fun h => by rw [h]; rfl⟩
  rw [e];refine zH fun zq zQ => ?_;refine zC 2 rfl ?_;refine zT (ot_boxA rfl rfl) ?_;rintro _ _ ⟨g0, rfl, rfl⟩;refine zOM [(0,_,_,_)] ⟨rfl,trivial⟩ [0] 9 rfl ?_;refine zru 6 ?_;refine zOM [(0,_,_,_)] ⟨rfl,trivial⟩ [0] 8 rfl ?_;refine zQ ?_;refine at_end ?_;refine zfin ?_;refine ⟨_, ⟨rfl, rfl⟩, ?_⟩;exact zE [] [0]
 ·have hi1 : decide (k = 6) = false := decide_eq_false h1;have e : decide ((k, s) = signL) = false := decide_eq_false fun h => h1 (Prod.mk.inj h).1;rw [e];refine zH fun zq zQ => ?_;refine zC 2 rfl ?_;refine zT (ot_boxA rfl rfl) ?_;rintro _ _ ⟨g0, rfl, rfl⟩;refine zOM [(0,_,_,_)] ⟨rfl,trivial⟩ [0] 9 rfl ?_;refine zrg 6 ?_;refine zO 8 rfl ?_;refine zQ ?_;refine at_end ?_;refine zfin ?_;refine ⟨_, ⟨rfl, rfl⟩, ?_⟩;exact zE [] [0]
open Go Go.Proofs.YtighdkdomfpadaaGreatDoor.SL Go.RowKit
theorem ref_tokens_step (w0 : World) {A : Option Addr} {c f : Nat} {l : List Tok} (hr : Rd tE w0 2 A l) (hm : l.length ≤ 10000) (hc : l.length ≤ c) (hg : Good l) (ht : ∀ t ∈ l, t.2.length ≤ 10000)
 (hIH : 2 ≤ l.length → Tri Tryz.prog w0 113 [.slice (dropA A c 2 2) (l.drop 2).length (c - 2)] [] fun v m => v = .int .i64 (tokN f (l.drop 2)) ∧ m = []) :
 Tri Tryz.prog w0 113 [.slice A l.length c] [] fun v m => v = .int .i64 (tokN (f + 1) l) ∧ m = [] := by
 refine tri_k Tryz.func113 rfl rfl fun F => ?_;simp only [Tryz.ntmps113, argEnv, List.nil_append]
 have hwl : ∀ i, (wordAt l i).length ≤ 10000 := fun i => by
  unfold wordAt
  cases h : l[i]? with
  | none => simp
  | some x => simp only; split; exact ht x (List.mem_of_getElem? h); simp
 have hW0 : Tri Tryz.prog w0 143 [.slice A l.length c, .int .i64 0] [] fun v m => v = SV (wordAt l 0) ∧ m = [] := T143 w0 hr hm 0 (by decide);have hW1 : Tri Tryz.prog w0 143 [.slice A l.length c, .int .i64 1] [] fun v m => v = SV (wordAt l 1) ∧ m = [] := T143 w0 hr hm 1 (by decide);have hin : ∀ (i : Nat) (ws : List BL), (spaced ws).length ≤ 10000 → Tri Tryz.prog w0 144 [SV (wordAt l i), SV (spaced ws)] [] fun v m => v = .bool (inL (wordAt l i) (spaced ws)) ∧ m = [] := fun i ws h => T144 w0 _ _ (hwl i) h;have r1 := hin 0 readsW (by decide);rw [in_spaced (hg.at 0) ok_readsW, sp_readsW] at r1;have r2 := hin 1 anaW (by decide);rw [in_wordIn hg 1 ok_anaW, sp_anaW] at r2;have r3 := hin 0 changeW (by decide);rw [in_spaced (hg.at 0) ok_changeW, sp_changeW] at r3;have r4 := hin 0 askW (by decide);rw [in_spaced (hg.at 0) ok_askW, sp_askW] at r4;have r5 := hin 1 wtW (by decide);rw [in_wordIn hg 1 ok_wtW, sp_wtW] at r5;have r6 := hin 1 setW (by decide);rw [in_wordIn hg 1 ok_setW, sp_setW] at r6;have r7 := T145 w0 (c := c) hr hm ht (spaced writesW) (by decide);rw [hasW_spaced hg ok_writesW, sp_writesW] at r7;have r8 := T145 w0 (c := c) hr hm ht (spaced selW) (by decide);rw [hasW_spaced hg ok_selW, sp_selW] at r8;clear hin;have et := tokN_succ f l;have e0W := eq_wordIn (l := l) 0 (w := wWITH) (by decide);have e1T := eq_wordIn (l := l) 1 (w := wTRANSACTION) (by decide);have e1W := eq_wordIn (l := l) 1 (w := wWORK) (by decide);refine zH fun zq zQ => ?_;refine zC 8 rfl ?_;refine zcall [] rfl rfl rfl Tryz.call143 rfl (hW0 ) rfl ?_;simp only [zca, zna, splice, spliceL];refine zO 10 rfl ?_;refine at_loopK [10, 11, 12, 13, 16, 17, 18, 19, 20, 2, 14, 15, 4] (fun k => k ≤ l.length ∧ ∀ x ∈ l.take k, decide (x = signL) = false) (fun k => [(4, .int .i64 (k : Nat))]) (fun _ m => m) (fun k => l.length - k) 0 ⟨Nat.zero_le _, by simp⟩ ⟨rfl, trivial⟩ (fun _ s => s) ?_;rintro k ⟨hk, hb⟩
 rcases Nat.lt_or_ge k l.length with hlt | hge
 ·have hi1 : decide ((k : Int) < l.length) = true := decide_eq_true (by omega);obtain ⟨x, hget⟩ : ∃ x, l[k]? = some x := ⟨_, List.getElem?_eq_getElem hlt⟩;have hS := T112 w0 x
  cases hp : decide (x = signL) with
  | true =>
   rw [hp] at hS;have ha : (l.any fun t => decide (t = signL)) = true := List.any_eq_true.2 ⟨x, List.mem_of_getElem? hget, hp⟩;rw [if_pos ha] at et;refine zC 9 rfl ?_;refine zu ?_;refine zC 8 rfl ?_;refine zV (ov_indexRd (fun _ s => hr.up s) rfl Tryz.underlying151 rfl rfl rfl hget) ?_;refine zV (ov_loadRdS (vs := [_, _]) (fun _ s => hr.up s) rfl rfl rfl hget rfl rfl) ?_;refine zcall [] rfl rfl rfl Tryz.call112 rfl (hS ) rfl ?_;simp only [zca, zna, splice, spliceL];refine zO 14 rfl ?_;refine zQ ?_;refine at_end ?_;refine zfin ?_;refine ⟨_, ⟨by rw [et], rfl⟩, ?_⟩;exact zE [] []
  | false =>
   rw [hp] at hS;refine zC 9 rfl ?_;refine zu ?_;refine zC 8 rfl ?_;refine zV (ov_indexRd (fun _ s => hr.up s) rfl Tryz.underlying151 rfl rfl rfl hget) ?_;refine zV (ov_loadRdS (vs := [_, _]) (fun _ s => hr.up s) rfl rfl rfl hget rfl rfl) ?_;refine zcall [] rfl rfl rfl Tryz.call112 rfl (hS ) rfl ?_;simp only [zca, zna, splice, spliceL];refine zO 8 rfl ?_;refine zV zI ?_;refine zOR 3 rfl ?_;refine at_roundF (k + 1) ⟨hlt, fun y hy => ?_⟩ (by omega) ⟨rfl, trivial⟩ rfl ?_
   ·rw [List.take_add_one, hget] at hy
    rcases List.mem_append.1 hy with hy | hy
    ·exact hb y hy
    ·simp at hy; subst hy; exact hp
   exact zE [] []
 have hi1 : decide ((k : Int) < l.length) = false := decide_eq_false (by omega);rw [List.take_of_length_le hge] at hb
 have ha : (l.any fun t => decide (t = signL)) = false := by
  try rw [Bool.eq_false_iff]
  intro e;obtain ⟨x, hx, hp⟩ := List.any_eq_true.1 e;rw [hb x hx] at hp; cases hp
 rw [ha] at et;simp only [Bool.false_eq_true, if_false] at et;clear hb ha
 cases c1 : readsW.contains (wordAt l 0) with
 | true =>
  rw [c1] at r1 et;refine zC 9 rfl ?_;refine zg ?_;refine zC 16 rfl ?_;refine zcall [] rfl rfl rfl Tryz.call143 rfl (hW1 ) rfl ?_;simp only [zca, zna, splice, spliceL];refine zO 8 rfl ?_;refine zcall [] rfl rfl rfl Tryz.call144 rfl (r1 ) rfl ?_;simp only [zca, zna, splice, spliceL];refine zO 12 rfl ?_;refine zQ ?_;refine at_end ?_;refine zfin ?_;refine ⟨_, ⟨by rw [et]; rfl, rfl⟩, ?_⟩;exact zE [] []
 | false =>
 rw [c1] at r1 et;simp only [Bool.false_eq_true, if_false] at et;clear c1
 have p1 : (wordIn l 1 anaW = true → 2 ≤ l.length) := fun h => by
  unfold wordIn at h
  cases hx : l[1]? with
  | none => rw [hx] at h; cases h
  | some x => have := (List.getElem?_eq_some_iff.1 hx).1; omega
 by_cases cEXPLAIN : wordAt l 0 = wEXPLAIN
 ·rw [if_pos cEXPLAIN] at et;have fEXPLAIN : decide (wordAt l 0 = wEXPLAIN) = true := by rw [cEXPLAIN]; decide
  have fBEGIN : decide (wordAt l 0 = wBEGIN) = false := by rw [cEXPLAIN]; decide
  have fSTART : decide (wordAt l 0 = wSTART) = false := by rw [cEXPLAIN]; decide
  have fCOMMIT : decide (wordAt l 0 = wCOMMIT) = false := by rw [cEXPLAIN]; decide
  have fROLLBACK : decide (wordAt l 0 = wROLLBACK) = false := by rw [cEXPLAIN]; decide
  have fSET : decide (wordAt l 0 = wSET) = false := by rw [cEXPLAIN]; decide
  cases c2 : wordIn l 1 anaW with
  | false =>
   rw [c2] at r2 et;refine zC 9 rfl ?_;refine zg ?_;refine zC 16 rfl ?_;refine zcall [] rfl rfl rfl Tryz.call143 rfl (hW1 ) rfl ?_;simp only [zca, zna, splice, spliceL];refine zO 8 rfl ?_;refine zcall [] rfl rfl rfl Tryz.call144 rfl (r1 ) rfl ?_;simp only [zca, zna, splice, spliceL];refine zO 11 rfl ?_;refine zt ?_;refine zC 4 rfl ?_;refine zcall [] rfl rfl rfl Tryz.call144 rfl (r2 ) rfl ?_;simp only [zca, zna, splice, spliceL];refine zO 13 rfl ?_;refine zQ ?_;refine at_end ?_;refine zfin ?_;refine ⟨_, ⟨by rw [et]; rfl, rfl⟩, ?_⟩;exact zE [] []
  | true =>
   have hlen2 := p1 c2;have hI := hIH hlen2;rw [c2] at r2 et;simp only [if_true] at et
   generalize tokN f (l.drop 2) = n at hI et
   by_cases n2 : n = 2
   ·have g2 : decide (n = 2) = true := decide_eq_true n2;rw [if_pos (.inl n2)] at et;refine zC 9 rfl ?_;refine zg ?_;refine zC 16 rfl ?_;refine zcall [] rfl rfl rfl Tryz.call143 rfl (hW1 ) rfl ?_;simp only [zca, zna, splice, spliceL];refine zO 8 rfl ?_;refine zcall [] rfl rfl rfl Tryz.call144 rfl (r1 ) rfl ?_;simp only [zca, zna, splice, spliceL];refine zO 11 rfl ?_;refine zt ?_;refine zC 4 rfl ?_;refine zcall [] rfl rfl rfl Tryz.call144 rfl (r2 ) rfl ?_;simp only [zca, zna, splice, spliceL];refine zO 6 rfl ?_;refine zV (ov_sliceFrom (k := 2) rfl Tryz.underlying151 rfl rfl rfl (by first | (simp; done) | assumption | omega) (by assumption)) ?_;refine zcall [] rfl rfl rfl Tryz.call113 rfl (hI ) rfl ?_;simp only [zca, zna, splice, spliceL];refine zO 8 rfl ?_;refine zru 39 ?_;refine zO 16 rfl ?_;refine zQ ?_;refine at_end ?_;refine zfin ?_;refine ⟨_, ⟨by rw [et], rfl⟩, ?_⟩;exact zE [] []
   have g2 : decide (n = 2) = false := decide_eq_false n2
   by_cases n7 : n = 7
   ·have g7 : decide (n = 7) = true := decide_eq_true n7;rw [if_pos (.inr n7)] at et;refine zC 9 rfl ?_;refine zg ?_;refine zC 16 rfl ?_;refine zcall [] rfl rfl rfl Tryz.call143 rfl (hW1 ) rfl ?_;simp only [zca, zna, splice, spliceL];refine zO 8 rfl ?_;refine zcall [] rfl rfl rfl Tryz.call144 rfl (r1 ) rfl ?_;simp only [zca, zna, splice, spliceL];refine zO 11 rfl ?_;refine zt ?_;refine zC 4 rfl ?_;refine zcall [] rfl rfl rfl Tryz.call144 rfl (r2 ) rfl ?_;simp only [zca, zna, splice, spliceL];refine zO 6 rfl ?_;refine zV (ov_sliceFrom (k := 2) rfl Tryz.underlying151 rfl rfl rfl (by first | (simp; done) | assumption | omega) (by assumption)) ?_;refine zcall [] rfl rfl rfl Tryz.call113 rfl (hI ) rfl ?_;simp only [zca, zna, splice, spliceL];refine zO 8 rfl ?_;refine zrg 39 ?_;refine zO 5 rfl ?_;refine zu ?_;refine zC 10 rfl ?_;refine zQ ?_;refine at_end ?_;refine zfin ?_;refine ⟨_, ⟨by rw [et], rfl⟩, ?_⟩;exact zE [] []
   have g7 : decide (n = 7) = false := decide_eq_false n7;rw [if_neg (by omega)] at et;refine zC 9 rfl ?_;refine zg ?_;refine zC 16 rfl ?_;refine zcall [] rfl rfl rfl Tryz.call143 rfl (hW1 ) rfl ?_;simp only [zca, zna, splice, spliceL];refine zO 8 rfl ?_;refine zcall [] rfl rfl rfl Tryz.call144 rfl (r1 ) rfl ?_;simp only [zca, zna, splice, spliceL];refine zO 11 rfl ?_;refine zt ?_;refine zC 4 rfl ?_;refine zcall [] rfl rfl rfl Tryz.call144 rfl (r2 ) rfl ?_;simp only [zca, zna, splice, spliceL];refine zO 6 rfl ?_;refine zV (ov_sliceFrom (k := 2) rfl Tryz.underlying151 rfl rfl rfl (by first | (simp; done) | assumption | omega) (by assumption)) ?_;refine zcall [] rfl rfl rfl Tryz.call113 rfl (hI ) rfl ?_;simp only [zca, zna, splice, spliceL];refine zO 8 rfl ?_;refine zrg 39 ?_;refine zO 5 rfl ?_;refine zg ?_;refine zC 10 rfl ?_;refine zQ ?_;refine at_end ?_;refine zfin ?_;refine ⟨_, ⟨by rw [et], rfl⟩, ?_⟩;exact zE [] []
 rw [if_neg cEXPLAIN] at et;have fEXPLAIN : decide (wordAt l 0 = wEXPLAIN) = false := decide_eq_false cEXPLAIN
 cases c3 : changeW.contains (wordAt l 0) with
 | true =>
  rw [c3] at r3 et;refine zC 9 rfl ?_;refine zg ?_;refine zC 16 rfl ?_;refine zcall [] rfl rfl rfl Tryz.call143 rfl (hW1 ) rfl ?_;simp only [zca, zna, splice, spliceL];refine zO 8 rfl ?_;refine zcall [] rfl rfl rfl Tryz.call144 rfl (r1 ) rfl ?_;simp only [zca, zna, splice, spliceL];refine zO 11 rfl ?_;refine zf ?_;refine zC 3 rfl ?_;refine zcall [] rfl rfl rfl Tryz.call144 rfl (r3 ) rfl ?_;simp only [zca, zna, splice, spliceL];refine zO 12 rfl ?_;refine zQ ?_;refine at_end ?_;refine zfin ?_;refine ⟨_, ⟨by rw [et]; rfl, rfl⟩, ?_⟩;exact zE [] []
 | false =>
 rw [c3] at r3 et;simp only [Bool.false_eq_true, if_false] at et;clear c3
 cases c4 : askW.contains (wordAt l 0) with
 | true =>
  rw [c4] at r4 et;simp only [if_true] at et
  unfold asksL at et
  cases h1 : hasIn l writesW with
  | true =>
   rw [h1] at r7 et;refine zC 9 rfl ?_;refine zg ?_;refine zC 16 rfl ?_;refine zcall [] rfl rfl rfl Tryz.call143 rfl (hW1 ) rfl ?_;simp only [zca, zna, splice, spliceL];refine zO 8 rfl ?_;refine zcall [] rfl rfl rfl Tryz.call144 rfl (r1 ) rfl ?_;simp only [zca, zna, splice, spliceL];refine zO 11 rfl ?_;refine zf ?_;refine zC 3 rfl ?_;refine zcall [] rfl rfl rfl Tryz.call144 rfl (r3 ) rfl ?_;simp only [zca, zna, splice, spliceL];refine zO 7 rfl ?_;refine zcall [] rfl rfl rfl Tryz.call144 rfl (r4 ) rfl ?_;simp only [zca, zna, splice, spliceL];refine zO 8 rfl ?_;refine zcall [] rfl rfl rfl Tryz.call145 rfl (r7 ) rfl ?_;simp only [zca, zna, splice, spliceL];refine zO 12 rfl ?_;refine zQ ?_;refine at_end ?_;refine zfin ?_;refine ⟨_, ⟨by rw [et]; rfl, rfl⟩, ?_⟩;exact zE [] []
  | false =>
  rw [h1] at r7;rw [h1, ← e0W] at et
  cases fWITH : decide (wordAt l 0 = wWITH) with
  | false =>
   rw [fWITH] at et;refine zC 9 rfl ?_;refine zg ?_;refine zC 16 rfl ?_;refine zcall [] rfl rfl rfl Tryz.call143 rfl (hW1 ) rfl ?_;simp only [zca, zna, splice, spliceL];refine zO 8 rfl ?_;refine zcall [] rfl rfl rfl Tryz.call144 rfl (r1 ) rfl ?_;simp only [zca, zna, splice, spliceL];refine zO 11 rfl ?_;refine zf ?_;refine zC 3 rfl ?_;refine zcall [] rfl rfl rfl Tryz.call144 rfl (r3 ) rfl ?_;simp only [zca, zna, splice, spliceL];refine zO 7 rfl ?_;refine zcall [] rfl rfl rfl Tryz.call144 rfl (r4 ) rfl ?_;simp only [zca, zna, splice, spliceL];refine zO 8 rfl ?_;refine zcall [] rfl rfl rfl Tryz.call145 rfl (r7 ) rfl ?_;simp only [zca, zna, splice, spliceL];refine zO 11 rfl ?_;refine zrf 54 ?_;refine zO 17 rfl ?_;refine zQ ?_;refine at_end ?_;refine zfin ?_;refine ⟨_, ⟨by rw [et]; rfl, rfl⟩, ?_⟩;exact zE [] []
  | true =>
  rw [fWITH] at et
  cases h2 : hasIn l selW with
  | true =>
   rw [h2] at r8;have h2' : hasIn l [wSELECT] = true := h2;rw [h2'] at et;refine zC 9 rfl ?_;refine zg ?_;refine zC 16 rfl ?_;refine zcall [] rfl rfl rfl Tryz.call143 rfl (hW1 ) rfl ?_;simp only [zca, zna, splice, spliceL];refine zO 8 rfl ?_;refine zcall [] rfl rfl rfl Tryz.call144 rfl (r1 ) rfl ?_;simp only [zca, zna, splice, spliceL];refine zO 11 rfl ?_;refine zf ?_;refine zC 3 rfl ?_;refine zcall [] rfl rfl rfl Tryz.call144 rfl (r3 ) rfl ?_;simp only [zca, zna, splice, spliceL];refine zO 7 rfl ?_;refine zcall [] rfl rfl rfl Tryz.call144 rfl (r4 ) rfl ?_;simp only [zca, zna, splice, spliceL];refine zO 8 rfl ?_;refine zcall [] rfl rfl rfl Tryz.call145 rfl (r7 ) rfl ?_;simp only [zca, zna, splice, spliceL];refine zO 11 rfl ?_;refine zrt 54 ?_;refine zO 1 rfl ?_;refine at_wanted (j := 2) rfl ?_;refine zcall [] rfl rfl rfl Tryz.call145 rfl (r8 ) rfl ?_;simp only [zca, zna, splice, spliceL];refine zO 15 rfl ?_;refine zQ ?_;refine at_end ?_;refine zfin ?_;refine ⟨_, ⟨by rw [et]; rfl, rfl⟩, ?_⟩;exact zE [] []
  | false =>
   rw [h2] at r8;have h2' : hasIn l [wSELECT] = false := h2;rw [h2'] at et;refine zC 9 rfl ?_;refine zg ?_;refine zC 16 rfl ?_;refine zcall [] rfl rfl rfl Tryz.call143 rfl (hW1 ) rfl ?_;simp only [zca, zna, splice, spliceL];refine zO 8 rfl ?_;refine zcall [] rfl rfl rfl Tryz.call144 rfl (r1 ) rfl ?_;simp only [zca, zna, splice, spliceL];refine zO 11 rfl ?_;refine zf ?_;refine zC 3 rfl ?_;refine zcall [] rfl rfl rfl Tryz.call144 rfl (r3 ) rfl ?_;simp only [zca, zna, splice, spliceL];refine zO 7 rfl ?_;refine zcall [] rfl rfl rfl Tryz.call144 rfl (r4 ) rfl ?_;simp only [zca, zna, splice, spliceL];refine zO 8 rfl ?_;refine zcall [] rfl rfl rfl Tryz.call145 rfl (r7 ) rfl ?_;simp only [zca, zna, splice, spliceL];refine zO 11 rfl ?_;refine zrt 54 ?_;refine zO 1 rfl ?_;refine at_wanted (j := 2) rfl ?_;refine zcall [] rfl rfl rfl Tryz.call145 rfl (r8 ) rfl ?_;simp only [zca, zna, splice, spliceL];refine zO 14 rfl ?_;refine zQ ?_;refine at_end ?_;refine zfin ?_;refine ⟨_, ⟨by rw [et]; rfl, rfl⟩, ?_⟩;exact zE [] []
 | false =>
 rw [c4] at r4 et;simp only [Bool.false_eq_true, if_false] at et;clear c4;have l1 : ∀ {b}, b = decide (l.length = 1) → decide ((l.length : Int) = 1) = b := fun h => by rw [h]; exact decide_eq_decide.2 (by omega)
 have l2 : ∀ {b}, b = decide (l.length = 2) → decide ((l.length : Int) = 2) = b := fun h => by rw [h]; exact decide_eq_decide.2 (by omega)
 by_cases cBEGIN : wordAt l 0 = wBEGIN
 ·rw [if_pos cBEGIN] at et;have fEXPLAIN : decide (wordAt l 0 = wEXPLAIN) = false := by rw [cBEGIN]; decide
  have fBEGIN : decide (wordAt l 0 = wBEGIN) = true := by rw [cBEGIN]; decide
  have fSTART : decide (wordAt l 0 = wSTART) = false := by rw [cBEGIN]; decide
  have fCOMMIT : decide (wordAt l 0 = wCOMMIT) = false := by rw [cBEGIN]; decide
  have fROLLBACK : decide (wordAt l 0 = wROLLBACK) = false := by rw [cBEGIN]; decide
  have fSET : decide (wordAt l 0 = wSET) = false := by rw [cBEGIN]; decide
  unfold beginL at et
  by_cases n1 : l.length = 1
  ·have g1 := l1 (decide_eq_true n1).symm;refine zC 9 rfl ?_;refine zg ?_;refine zC 16 rfl ?_;refine zcall [] rfl rfl rfl Tryz.call143 rfl (hW1 ) rfl ?_;simp only [zca, zna, splice, spliceL];refine zO 8 rfl ?_;refine zcall [] rfl rfl rfl Tryz.call144 rfl (r1 ) rfl ?_;simp only [zca, zna, splice, spliceL];refine zO 11 rfl ?_;refine zf ?_;refine zC 3 rfl ?_;refine zcall [] rfl rfl rfl Tryz.call144 rfl (r3 ) rfl ?_;simp only [zca, zna, splice, spliceL];refine zO 7 rfl ?_;refine zcall [] rfl rfl rfl Tryz.call144 rfl (r4 ) rfl ?_;simp only [zca, zna, splice, spliceL];refine zO 9 rfl ?_;refine zrt 62 ?_;refine zO 2 rfl ?_;refine zru 64 ?_;refine zO 29 rfl ?_;refine zQ ?_;refine at_end ?_;refine zfin ?_;refine ⟨_, ⟨by rw [et, if_pos (.inl n1)], rfl⟩, ?_⟩;exact zE [] []
  have g1 := l1 (decide_eq_false n1).symm
  by_cases n2 : l.length = 2
  ·have g2 := l2 (decide_eq_true n2).symm
   cases q : wordIn l 1 wtW with
   | true =>
    rw [q] at r5;have q' : wordIn l 1 [wWORK, wTRANSACTION] = true := q;refine zC 9 rfl ?_;refine zg ?_;refine zC 16 rfl ?_;refine zcall [] rfl rfl rfl Tryz.call143 rfl (hW1 ) rfl ?_;simp only [zca, zna, splice, spliceL];refine zO 8 rfl ?_;refine zcall [] rfl rfl rfl Tryz.call144 rfl (r1 ) rfl ?_;simp only [zca, zna, splice, spliceL];refine zO 11 rfl ?_;refine zf ?_;refine zC 3 rfl ?_;refine zcall [] rfl rfl rfl Tryz.call144 rfl (r3 ) rfl ?_;simp only [zca, zna, splice, spliceL];refine zO 7 rfl ?_;refine zcall [] rfl rfl rfl Tryz.call144 rfl (r4 ) rfl ?_;simp only [zca, zna, splice, spliceL];refine zO 9 rfl ?_;refine zrt 62 ?_;refine zO 2 rfl ?_;refine zrg 64 ?_;refine zO 4 rfl ?_;refine zru 68 ?_;refine zO 1 rfl ?_;refine at_wanted (j := 8) rfl ?_;refine zcall [] rfl rfl rfl Tryz.call144 rfl (r5 ) rfl ?_;simp only [zca, zna, splice, spliceL];refine zO 23 rfl ?_;refine zQ ?_;refine at_end ?_;refine zfin ?_;refine ⟨_, ⟨by rw [et, if_pos (.inr ⟨n2, q'⟩)], rfl⟩, ?_⟩;exact zE [] []
   | false =>
    rw [q] at r5;have q' : wordIn l 1 [wWORK, wTRANSACTION] = false := q;refine zC 9 rfl ?_;refine zg ?_;refine zC 16 rfl ?_;refine zcall [] rfl rfl rfl Tryz.call143 rfl (hW1 ) rfl ?_;simp only [zca, zna, splice, spliceL];refine zO 8 rfl ?_;refine zcall [] rfl rfl rfl Tryz.call144 rfl (r1 ) rfl ?_;simp only [zca, zna, splice, spliceL];refine zO 11 rfl ?_;refine zf ?_;refine zC 3 rfl ?_;refine zcall [] rfl rfl rfl Tryz.call144 rfl (r3 ) rfl ?_;simp only [zca, zna, splice, spliceL];refine zO 7 rfl ?_;refine zcall [] rfl rfl rfl Tryz.call144 rfl (r4 ) rfl ?_;simp only [zca, zna, splice, spliceL];refine zO 9 rfl ?_;refine zrt 62 ?_;refine zO 2 rfl ?_;refine zrg 64 ?_;refine zO 4 rfl ?_;refine zru 68 ?_;refine zO 1 rfl ?_;refine at_wanted (j := 8) rfl ?_;refine zcall [] rfl rfl rfl Tryz.call144 rfl (r5 ) rfl ?_;simp only [zca, zna, splice, spliceL];refine zO 7 rfl ?_;refine zrf 77 ?_;refine zO 13 rfl ?_;refine zrf 85 ?_;refine zO 20 rfl ?_;refine zrf 100 ?_;refine zO 20 rfl ?_;refine zrf 115 ?_;refine zO 17 rfl ?_;refine zQ ?_;refine at_end ?_;refine zfin ?_;refine ⟨_, ⟨by rw [et, if_neg (by rw [q']; simp [n1])], rfl⟩, ?_⟩;exact zE [] []
  have g2 := l2 (decide_eq_false n2).symm;refine zC 9 rfl ?_;refine zg ?_;refine zC 16 rfl ?_;refine zcall [] rfl rfl rfl Tryz.call143 rfl (hW1 ) rfl ?_;simp only [zca, zna, splice, spliceL];refine zO 8 rfl ?_;refine zcall [] rfl rfl rfl Tryz.call144 rfl (r1 ) rfl ?_;simp only [zca, zna, splice, spliceL];refine zO 11 rfl ?_;refine zf ?_;refine zC 3 rfl ?_;refine zcall [] rfl rfl rfl Tryz.call144 rfl (r3 ) rfl ?_;simp only [zca, zna, splice, spliceL];refine zO 7 rfl ?_;refine zcall [] rfl rfl rfl Tryz.call144 rfl (r4 ) rfl ?_;simp only [zca, zna, splice, spliceL];refine zO 9 rfl ?_;refine zrt 62 ?_;refine zO 2 rfl ?_;refine zrg 64 ?_;refine zO 4 rfl ?_;refine zrg 68 ?_;refine zO 9 rfl ?_;refine zrf 77 ?_;refine zO 13 rfl ?_;refine zrf 85 ?_;refine zO 20 rfl ?_;refine zrf 100 ?_;refine zO 20 rfl ?_;refine zrf 115 ?_;refine zO 17 rfl ?_;refine zQ ?_;refine at_end ?_;refine zfin ?_;refine ⟨_, ⟨by rw [et, if_neg (by omega)], rfl⟩, ?_⟩;exact zE [] []
 rw [if_neg cBEGIN] at et;have fBEGIN : decide (wordAt l 0 = wBEGIN) = false := decide_eq_false cBEGIN
 by_cases cSTART : wordAt l 0 = wSTART
 ·rw [if_pos cSTART] at et;have fEXPLAIN : decide (wordAt l 0 = wEXPLAIN) = false := by rw [cSTART]; decide
  have fBEGIN : decide (wordAt l 0 = wBEGIN) = false := by rw [cSTART]; decide
  have fSTART : decide (wordAt l 0 = wSTART) = true := by rw [cSTART]; decide
  have fCOMMIT : decide (wordAt l 0 = wCOMMIT) = false := by rw [cSTART]; decide
  have fROLLBACK : decide (wordAt l 0 = wROLLBACK) = false := by rw [cSTART]; decide
  have fSET : decide (wordAt l 0 = wSET) = false := by rw [cSTART]; decide
  unfold startL at et
  cases q : decide (wordAt l 1 = wTRANSACTION) with
  | true =>
   have q' := e1T.symm.trans q;refine zC 9 rfl ?_;refine zg ?_;refine zC 16 rfl ?_;refine zcall [] rfl rfl rfl Tryz.call143 rfl (hW1 ) rfl ?_;simp only [zca, zna, splice, spliceL];refine zO 8 rfl ?_;refine zcall [] rfl rfl rfl Tryz.call144 rfl (r1 ) rfl ?_;simp only [zca, zna, splice, spliceL];refine zO 11 rfl ?_;refine zf ?_;refine zC 3 rfl ?_;refine zcall [] rfl rfl rfl Tryz.call144 rfl (r3 ) rfl ?_;simp only [zca, zna, splice, spliceL];refine zO 7 rfl ?_;refine zcall [] rfl rfl rfl Tryz.call144 rfl (r4 ) rfl ?_;simp only [zca, zna, splice, spliceL];refine zO 9 rfl ?_;refine zrf 62 ?_;refine zO 15 rfl ?_;refine zrt 77 ?_;refine zO 7 rfl ?_;refine zt ?_;refine zC 8 rfl ?_;refine zQ ?_;refine at_end ?_;refine zfin ?_;refine ⟨_, ⟨by rw [et, q']; rfl, rfl⟩, ?_⟩;exact zE [] []
  | false =>
   have q' := e1T.symm.trans q;refine zC 9 rfl ?_;refine zg ?_;refine zC 16 rfl ?_;refine zcall [] rfl rfl rfl Tryz.call143 rfl (hW1 ) rfl ?_;simp only [zca, zna, splice, spliceL];refine zO 8 rfl ?_;refine zcall [] rfl rfl rfl Tryz.call144 rfl (r1 ) rfl ?_;simp only [zca, zna, splice, spliceL];refine zO 11 rfl ?_;refine zf ?_;refine zC 3 rfl ?_;refine zcall [] rfl rfl rfl Tryz.call144 rfl (r3 ) rfl ?_;simp only [zca, zna, splice, spliceL];refine zO 7 rfl ?_;refine zcall [] rfl rfl rfl Tryz.call144 rfl (r4 ) rfl ?_;simp only [zca, zna, splice, spliceL];refine zO 9 rfl ?_;refine zrf 62 ?_;refine zO 15 rfl ?_;refine zrt 77 ?_;refine zO 7 rfl ?_;refine zf ?_;refine zC 5 rfl ?_;refine zrf 85 ?_;refine zO 20 rfl ?_;refine zrf 100 ?_;refine zO 20 rfl ?_;refine zrf 115 ?_;refine zO 17 rfl ?_;refine zQ ?_;refine at_end ?_;refine zfin ?_;refine ⟨_, ⟨by rw [et, q']; rfl, rfl⟩, ?_⟩;exact zE [] []
 rw [if_neg cSTART] at et;have fSTART : decide (wordAt l 0 = wSTART) = false := decide_eq_false cSTART
 by_cases cCOMMIT : wordAt l 0 = wCOMMIT
 ·rw [if_pos cCOMMIT] at et;have fEXPLAIN : decide (wordAt l 0 = wEXPLAIN) = false := by rw [cCOMMIT]; decide
  have fBEGIN : decide (wordAt l 0 = wBEGIN) = false := by rw [cCOMMIT]; decide
  have fSTART : decide (wordAt l 0 = wSTART) = false := by rw [cCOMMIT]; decide
  have fCOMMIT : decide (wordAt l 0 = wCOMMIT) = true := by rw [cCOMMIT]; decide
  have fROLLBACK : decide (wordAt l 0 = wROLLBACK) = false := by rw [cCOMMIT]; decide
  have fSET : decide (wordAt l 0 = wSET) = false := by rw [cCOMMIT]; decide
  unfold endsL at et
  by_cases n1 : l.length = 1
  ·have g1 := l1 (decide_eq_true n1).symm;refine zC 9 rfl ?_;refine zg ?_;refine zC 16 rfl ?_;refine zcall [] rfl rfl rfl Tryz.call143 rfl (hW1 ) rfl ?_;simp only [zca, zna, splice, spliceL];refine zO 8 rfl ?_;refine zcall [] rfl rfl rfl Tryz.call144 rfl (r1 ) rfl ?_;simp only [zca, zna, splice, spliceL];refine zO 11 rfl ?_;refine zf ?_;refine zC 3 rfl ?_;refine zcall [] rfl rfl rfl Tryz.call144 rfl (r3 ) rfl ?_;simp only [zca, zna, splice, spliceL];refine zO 7 rfl ?_;refine zcall [] rfl rfl rfl Tryz.call144 rfl (r4 ) rfl ?_;simp only [zca, zna, splice, spliceL];refine zO 9 rfl ?_;refine zrf 62 ?_;refine zO 15 rfl ?_;refine zrf 77 ?_;refine zO 13 rfl ?_;refine zrt 85 ?_;refine zO 2 rfl ?_;refine zru 87 ?_;refine zO 21 rfl ?_;refine zQ ?_;refine at_end ?_;refine zfin ?_;refine ⟨_, ⟨by rw [et, if_pos (.inl n1)], rfl⟩, ?_⟩;exact zE [] []
  have g1 := l1 (decide_eq_false n1).symm
  by_cases n2 : l.length = 2
  ·have g2 := l2 (decide_eq_true n2).symm
   cases q : decide (wordAt l 1 = wWORK) with
   | true =>
    have q' := e1W.symm.trans q;refine zC 9 rfl ?_;refine zg ?_;refine zC 16 rfl ?_;refine zcall [] rfl rfl rfl Tryz.call143 rfl (hW1 ) rfl ?_;simp only [zca, zna, splice, spliceL];refine zO 8 rfl ?_;refine zcall [] rfl rfl rfl Tryz.call144 rfl (r1 ) rfl ?_;simp only [zca, zna, splice, spliceL];refine zO 11 rfl ?_;refine zf ?_;refine zC 3 rfl ?_;refine zcall [] rfl rfl rfl Tryz.call144 rfl (r3 ) rfl ?_;simp only [zca, zna, splice, spliceL];refine zO 7 rfl ?_;refine zcall [] rfl rfl rfl Tryz.call144 rfl (r4 ) rfl ?_;simp only [zca, zna, splice, spliceL];refine zO 9 rfl ?_;refine zrf 62 ?_;refine zO 15 rfl ?_;refine zrf 77 ?_;refine zO 13 rfl ?_;refine zrt 85 ?_;refine zO 2 rfl ?_;refine zrg 87 ?_;refine zO 4 rfl ?_;refine zru 91 ?_;refine zO 8 rfl ?_;refine zt ?_;refine zC 8 rfl ?_;refine zQ ?_;refine at_end ?_;refine zfin ?_;refine ⟨_, ⟨by rw [et, if_pos (.inr ⟨n2, q'⟩)], rfl⟩, ?_⟩;exact zE [] []
   | false =>
    have q' := e1W.symm.trans q;refine zC 9 rfl ?_;refine zg ?_;refine zC 16 rfl ?_;refine zcall [] rfl rfl rfl Tryz.call143 rfl (hW1 ) rfl ?_;simp only [zca, zna, splice, spliceL];refine zO 8 rfl ?_;refine zcall [] rfl rfl rfl Tryz.call144 rfl (r1 ) rfl ?_;simp only [zca, zna, splice, spliceL];refine zO 11 rfl ?_;refine zf ?_;refine zC 3 rfl ?_;refine zcall [] rfl rfl rfl Tryz.call144 rfl (r3 ) rfl ?_;simp only [zca, zna, splice, spliceL];refine zO 7 rfl ?_;refine zcall [] rfl rfl rfl Tryz.call144 rfl (r4 ) rfl ?_;simp only [zca, zna, splice, spliceL];refine zO 9 rfl ?_;refine zrf 62 ?_;refine zO 15 rfl ?_;refine zrf 77 ?_;refine zO 13 rfl ?_;refine zrt 85 ?_;refine zO 2 rfl ?_;refine zrg 87 ?_;refine zO 4 rfl ?_;refine zru 91 ?_;refine zO 8 rfl ?_;refine zf ?_;refine zC 5 rfl ?_;refine zrf 100 ?_;refine zO 20 rfl ?_;refine zrf 115 ?_;refine zO 17 rfl ?_;refine zQ ?_;refine at_end ?_;refine zfin ?_;refine ⟨_, ⟨by rw [et, if_neg (by rw [q']; simp [n1])], rfl⟩, ?_⟩;exact zE [] []
  have g2 := l2 (decide_eq_false n2).symm;refine zC 9 rfl ?_;refine zg ?_;refine zC 16 rfl ?_;refine zcall [] rfl rfl rfl Tryz.call143 rfl (hW1 ) rfl ?_;simp only [zca, zna, splice, spliceL];refine zO 8 rfl ?_;refine zcall [] rfl rfl rfl Tryz.call144 rfl (r1 ) rfl ?_;simp only [zca, zna, splice, spliceL];refine zO 11 rfl ?_;refine zf ?_;refine zC 3 rfl ?_;refine zcall [] rfl rfl rfl Tryz.call144 rfl (r3 ) rfl ?_;simp only [zca, zna, splice, spliceL];refine zO 7 rfl ?_;refine zcall [] rfl rfl rfl Tryz.call144 rfl (r4 ) rfl ?_;simp only [zca, zna, splice, spliceL];refine zO 9 rfl ?_;refine zrf 62 ?_;refine zO 15 rfl ?_;refine zrf 77 ?_;refine zO 13 rfl ?_;refine zrt 85 ?_;refine zO 2 rfl ?_;refine zrg 87 ?_;refine zO 4 rfl ?_;refine zrg 91 ?_;refine zO 14 rfl ?_;refine zrf 100 ?_;refine zO 20 rfl ?_;refine zrf 115 ?_;refine zO 17 rfl ?_;refine zQ ?_;refine at_end ?_;refine zfin ?_;refine ⟨_, ⟨by rw [et, if_neg (by omega)], rfl⟩, ?_⟩;exact zE [] []
 rw [if_neg cCOMMIT] at et;have fCOMMIT : decide (wordAt l 0 = wCOMMIT) = false := decide_eq_false cCOMMIT
 by_cases cROLLBACK : wordAt l 0 = wROLLBACK
 ·rw [if_pos cROLLBACK] at et;have fEXPLAIN : decide (wordAt l 0 = wEXPLAIN) = false := by rw [cROLLBACK]; decide
  have fBEGIN : decide (wordAt l 0 = wBEGIN) = false := by rw [cROLLBACK]; decide
  have fSTART : decide (wordAt l 0 = wSTART) = false := by rw [cROLLBACK]; decide
  have fCOMMIT : decide (wordAt l 0 = wCOMMIT) = false := by rw [cROLLBACK]; decide
  have fROLLBACK : decide (wordAt l 0 = wROLLBACK) = true := by rw [cROLLBACK]; decide
  have fSET : decide (wordAt l 0 = wSET) = false := by rw [cROLLBACK]; decide
  unfold endsL at et
  by_cases n1 : l.length = 1
  ·have g1 := l1 (decide_eq_true n1).symm;refine zC 9 rfl ?_;refine zg ?_;refine zC 16 rfl ?_;refine zcall [] rfl rfl rfl Tryz.call143 rfl (hW1 ) rfl ?_;simp only [zca, zna, splice, spliceL];refine zO 8 rfl ?_;refine zcall [] rfl rfl rfl Tryz.call144 rfl (r1 ) rfl ?_;simp only [zca, zna, splice, spliceL];refine zO 11 rfl ?_;refine zf ?_;refine zC 3 rfl ?_;refine zcall [] rfl rfl rfl Tryz.call144 rfl (r3 ) rfl ?_;simp only [zca, zna, splice, spliceL];refine zO 7 rfl ?_;refine zcall [] rfl rfl rfl Tryz.call144 rfl (r4 ) rfl ?_;simp only [zca, zna, splice, spliceL];refine zO 9 rfl ?_;refine zrf 62 ?_;refine zO 15 rfl ?_;refine zrf 77 ?_;refine zO 13 rfl ?_;refine zrf 85 ?_;refine zO 20 rfl ?_;refine zrt 100 ?_;refine zO 2 rfl ?_;refine zru 102 ?_;refine zO 21 rfl ?_;refine zQ ?_;refine at_end ?_;refine zfin ?_;refine ⟨_, ⟨by rw [et, if_pos (.inl n1)], rfl⟩, ?_⟩;exact zE [] []
  have g1 := l1 (decide_eq_false n1).symm
  by_cases n2 : l.length = 2
  ·have g2 := l2 (decide_eq_true n2).symm
   cases q : decide (wordAt l 1 = wWORK) with
   | true =>
    have q' := e1W.symm.trans q;refine zC 9 rfl ?_;refine zg ?_;refine zC 16 rfl ?_;refine zcall [] rfl rfl rfl Tryz.call143 rfl (hW1 ) rfl ?_;simp only [zca, zna, splice, spliceL];refine zO 8 rfl ?_;refine zcall [] rfl rfl rfl Tryz.call144 rfl (r1 ) rfl ?_;simp only [zca, zna, splice, spliceL];refine zO 11 rfl ?_;refine zf ?_;refine zC 3 rfl ?_;refine zcall [] rfl rfl rfl Tryz.call144 rfl (r3 ) rfl ?_;simp only [zca, zna, splice, spliceL];refine zO 7 rfl ?_;refine zcall [] rfl rfl rfl Tryz.call144 rfl (r4 ) rfl ?_;simp only [zca, zna, splice, spliceL];refine zO 9 rfl ?_;refine zrf 62 ?_;refine zO 15 rfl ?_;refine zrf 77 ?_;refine zO 13 rfl ?_;refine zrf 85 ?_;refine zO 20 rfl ?_;refine zrt 100 ?_;refine zO 2 rfl ?_;refine zrg 102 ?_;refine zO 4 rfl ?_;refine zru 106 ?_;refine zO 8 rfl ?_;refine zt ?_;refine zC 8 rfl ?_;refine zQ ?_;refine at_end ?_;refine zfin ?_;refine ⟨_, ⟨by rw [et, if_pos (.inr ⟨n2, q'⟩)], rfl⟩, ?_⟩;exact zE [] []
   | false =>
    have q' := e1W.symm.trans q;refine zC 9 rfl ?_;refine zg ?_;refine zC 16 rfl ?_;refine zcall [] rfl rfl rfl Tryz.call143 rfl (hW1 ) rfl ?_;simp only [zca, zna, splice, spliceL];refine zO 8 rfl ?_;refine zcall [] rfl rfl rfl Tryz.call144 rfl (r1 ) rfl ?_;simp only [zca, zna, splice, spliceL];refine zO 11 rfl ?_;refine zf ?_;refine zC 3 rfl ?_;refine zcall [] rfl rfl rfl Tryz.call144 rfl (r3 ) rfl ?_;simp only [zca, zna, splice, spliceL];refine zO 7 rfl ?_;refine zcall [] rfl rfl rfl Tryz.call144 rfl (r4 ) rfl ?_;simp only [zca, zna, splice, spliceL];refine zO 9 rfl ?_;refine zrf 62 ?_;refine zO 15 rfl ?_;refine zrf 77 ?_;refine zO 13 rfl ?_;refine zrf 85 ?_;refine zO 20 rfl ?_;refine zrt 100 ?_;refine zO 2 rfl ?_;refine zrg 102 ?_;refine zO 4 rfl ?_;refine zru 106 ?_;refine zO 8 rfl ?_;refine zf ?_;refine zC 5 rfl ?_;refine zrf 115 ?_;refine zO 17 rfl ?_;refine zQ ?_;refine at_end ?_;refine zfin ?_;refine ⟨_, ⟨by rw [et, if_neg (by rw [q']; simp [n1])], rfl⟩, ?_⟩;exact zE [] []
  have g2 := l2 (decide_eq_false n2).symm;refine zC 9 rfl ?_;refine zg ?_;refine zC 16 rfl ?_;refine zcall [] rfl rfl rfl Tryz.call143 rfl (hW1 ) rfl ?_;simp only [zca, zna, splice, spliceL];refine zO 8 rfl ?_;refine zcall [] rfl rfl rfl Tryz.call144 rfl (r1 ) rfl ?_;simp only [zca, zna, splice, spliceL];refine zO 11 rfl ?_;refine zf ?_;refine zC 3 rfl ?_;refine zcall [] rfl rfl rfl Tryz.call144 rfl (r3 ) rfl ?_;simp only [zca, zna, splice, spliceL];refine zO 7 rfl ?_;refine zcall [] rfl rfl rfl Tryz.call144 rfl (r4 ) rfl ?_;simp only [zca, zna, splice, spliceL];refine zO 9 rfl ?_;refine zrf 62 ?_;refine zO 15 rfl ?_;refine zrf 77 ?_;refine zO 13 rfl ?_;refine zrf 85 ?_;refine zO 20 rfl ?_;refine zrt 100 ?_;refine zO 2 rfl ?_;refine zrg 102 ?_;refine zO 4 rfl ?_;refine zrg 106 ?_;refine zO 14 rfl ?_;refine zrf 115 ?_;refine zO 17 rfl ?_;refine zQ ?_;refine at_end ?_;refine zfin ?_;refine ⟨_, ⟨by rw [et, if_neg (by omega)], rfl⟩, ?_⟩;exact zE [] []
 rw [if_neg cROLLBACK] at et;have fROLLBACK : decide (wordAt l 0 = wROLLBACK) = false := decide_eq_false cROLLBACK
 by_cases cSET : wordAt l 0 = wSET
 ·rw [if_pos cSET] at et;have fEXPLAIN : decide (wordAt l 0 = wEXPLAIN) = false := by rw [cSET]; decide
  have fBEGIN : decide (wordAt l 0 = wBEGIN) = false := by rw [cSET]; decide
  have fSTART : decide (wordAt l 0 = wSTART) = false := by rw [cSET]; decide
  have fCOMMIT : decide (wordAt l 0 = wCOMMIT) = false := by rw [cSET]; decide
  have fROLLBACK : decide (wordAt l 0 = wROLLBACK) = false := by rw [cSET]; decide
  have fSET : decide (wordAt l 0 = wSET) = true := by rw [cSET]; decide
  unfold setL at et
  cases q : wordIn l 1 setW with
  | true =>
   rw [q] at r6;have q' : wordIn l 1 [wAUTOCOMMIT, wGLOBAL, wPERSIST] = true := q;refine zC 9 rfl ?_;refine zg ?_;refine zC 16 rfl ?_;refine zcall [] rfl rfl rfl Tryz.call143 rfl (hW1 ) rfl ?_;simp only [zca, zna, splice, spliceL];refine zO 8 rfl ?_;refine zcall [] rfl rfl rfl Tryz.call144 rfl (r1 ) rfl ?_;simp only [zca, zna, splice, spliceL];refine zO 11 rfl ?_;refine zf ?_;refine zC 3 rfl ?_;refine zcall [] rfl rfl rfl Tryz.call144 rfl (r3 ) rfl ?_;simp only [zca, zna, splice, spliceL];refine zO 7 rfl ?_;refine zcall [] rfl rfl rfl Tryz.call144 rfl (r4 ) rfl ?_;simp only [zca, zna, splice, spliceL];refine zO 9 rfl ?_;refine zrf 62 ?_;refine zO 15 rfl ?_;refine zrf 77 ?_;refine zO 13 rfl ?_;refine zrf 85 ?_;refine zO 20 rfl ?_;refine zrf 100 ?_;refine zO 20 rfl ?_;refine zrt 115 ?_;refine zO 1 rfl ?_;refine at_wanted (j := 2) rfl ?_;refine zcall [] rfl rfl rfl Tryz.call144 rfl (r6 ) rfl ?_;simp only [zca, zna, splice, spliceL];refine zO 15 rfl ?_;refine zQ ?_;refine at_end ?_;refine zfin ?_;refine ⟨_, ⟨by rw [et, q']; rfl, rfl⟩, ?_⟩;exact zE [] []
  | false =>
   rw [q] at r6;have q' : wordIn l 1 [wAUTOCOMMIT, wGLOBAL, wPERSIST] = false := q;refine zC 9 rfl ?_;refine zg ?_;refine zC 16 rfl ?_;refine zcall [] rfl rfl rfl Tryz.call143 rfl (hW1 ) rfl ?_;simp only [zca, zna, splice, spliceL];refine zO 8 rfl ?_;refine zcall [] rfl rfl rfl Tryz.call144 rfl (r1 ) rfl ?_;simp only [zca, zna, splice, spliceL];refine zO 11 rfl ?_;refine zf ?_;refine zC 3 rfl ?_;refine zcall [] rfl rfl rfl Tryz.call144 rfl (r3 ) rfl ?_;simp only [zca, zna, splice, spliceL];refine zO 7 rfl ?_;refine zcall [] rfl rfl rfl Tryz.call144 rfl (r4 ) rfl ?_;simp only [zca, zna, splice, spliceL];refine zO 9 rfl ?_;refine zrf 62 ?_;refine zO 15 rfl ?_;refine zrf 77 ?_;refine zO 13 rfl ?_;refine zrf 85 ?_;refine zO 20 rfl ?_;refine zrf 100 ?_;refine zO 20 rfl ?_;refine zrt 115 ?_;refine zO 1 rfl ?_;refine at_wanted (j := 2) rfl ?_;refine zcall [] rfl rfl rfl Tryz.call144 rfl (r6 ) rfl ?_;simp only [zca, zna, splice, spliceL];refine zO 14 rfl ?_;refine zQ ?_;refine at_end ?_;refine zfin ?_;refine ⟨_, ⟨by rw [et, q']; rfl, rfl⟩, ?_⟩;exact zE [] []
 rw [if_neg cSET] at et;have fSET : decide (wordAt l 0 = wSET) = false := decide_eq_false cSET;refine zC 9 rfl ?_;refine zg ?_;refine zC 16 rfl ?_;refine zcall [] rfl rfl rfl Tryz.call143 rfl (hW1 ) rfl ?_;simp only [zca, zna, splice, spliceL];refine zO 8 rfl ?_;refine zcall [] rfl rfl rfl Tryz.call144 rfl (r1 ) rfl ?_;simp only [zca, zna, splice, spliceL];refine zO 11 rfl ?_;refine zf ?_;refine zC 3 rfl ?_;refine zcall [] rfl rfl rfl Tryz.call144 rfl (r3 ) rfl ?_;simp only [zca, zna, splice, spliceL];refine zO 7 rfl ?_;refine zcall [] rfl rfl rfl Tryz.call144 rfl (r4 ) rfl ?_;simp only [zca, zna, splice, spliceL];refine zO 9 rfl ?_;refine zrf 62 ?_;refine zO 15 rfl ?_;refine zrf 77 ?_;refine zO 13 rfl ?_;refine zrf 85 ?_;refine zO 20 rfl ?_;refine zrf 100 ?_;refine zO 20 rfl ?_;refine zrf 115 ?_;refine zO 17 rfl ?_;refine zQ ?_;refine at_end ?_;refine zfin ?_;refine ⟨_, ⟨by rw [et], rfl⟩, ?_⟩;exact zE [] []
theorem T113 (w0 : World) : ∀ (f : Nat) {A : Option Addr} {c : Nat} {l : List Tok}, l.length ≤ f → Rd tE w0 2 A l → l.length ≤ 10000 → l.length ≤ c → Good l → (∀ t ∈ l, t.2.length ≤ 10000) →
    Tri Tryz.prog w0 113 [.slice A l.length c] [] fun v m => v = .int .i64 (tokN (f + 1) l) ∧ m = [] := by
  intro f
  induction f with
  | zero => intro A c l h hr hm hc hg ht; exact ref_tokens_step w0 hr hm hc hg ht (fun h2 => absurd h2 (by omega))
  | succ f ih =>
    intro A c l h hr hm hc hg ht;refine ref_tokens_step w0 hr hm hc hg ht (fun h2 => ?_);have := ih (A := dropA A c 2 2) (c := c - 2) (l := l.drop 2) (by rw [List.length_drop]; omega) (hr.dropA hc 2) (by rw [List.length_drop]; omega) (by rw [List.length_drop]; omega) (hg.drop 2) (fun t h => ht t (List.mem_of_mem_drop h));exact this
open Go Go.Proofs.YtighdkdomfpadaaGreatDoor.SL Go.RowKit
open Go Go.Proofs.YtighdkdomfpadaaGreatDoor.SL Go.RowKit
theorem T113a (w0 : World) {A : Option Addr} {c : Nat} {l : List Tok} (hl : l.length ≤ 200) (hg : Good l) (ht : ∀ t ∈ l, t.2.length ≤ 200) :
    Tri Tryz.prog w0 113 [.slice A l.length c] [Row tE 154 2 A c l] fun v m => v = .int .i64 (tokN 201 l) ∧ m = [Row tE 154 2 A c l] :=
  (Tri.of_all fun w s => T113 w 200 hl (s.rd (k := 0) rfl) (by omega) (s.rowLen (k := 0) rfl).1 hg (fun t h => by have := ht t h; omega)).post fun v m ⟨m', ⟨h1, h2⟩, h3⟩ => ⟨h1, by rw [h3, h2]; rfl⟩
theorem T68 (w0 : World) (s : BL) (hs : s.length ≤ 10000) : Tri Tryz.prog w0 68 [SV s] [] fun v m => v = .int .i64 (classL s) ∧ m = [] := by
 refine tri_k Tryz.func68 rfl rfl fun F => ?_;simp only [Tryz.ntmps68, argEnv, List.nil_append];have hL := T72 w0 s (by omega);have hn := lexR_len s;have hg := lexR_good s;have hsh := lexR_short s
 unfold classL
 generalize (lexR s).1 = l at hL hn hg hsh ⊢
 generalize (lexR s).2 = er at hL ⊢
 by_cases he : er = 0
 ·rw [if_pos he];have hi0 : (!decide (er = 0)) = false := by simp [he]
  refine zH fun zq zQ => ?_;refine zC 8 rfl ?_;refine zT (ot_call (ks := []) rfl rfl rfl Tryz.call72 rfl (hL ) rfl) ?_;rintro v0 _ ⟨m0, hp0, rfl⟩;obtain ⟨A0, hp0⟩ := hp0;obtain ⟨c0, hp0⟩ := hp0;obtain ⟨rfl, rfl⟩ := hp0;simp only [zca, zna, splice, spliceL];refine zO 14 rfl ?_;refine zf ?_;refine zC 4 rfl ?_;refine zT (ot_buildSlice (cs := []) rfl Tryz.underlying151 rfl rfl rfl rfl rfl rfl) ?_;rintro _ _ ⟨g0, rfl, rfl⟩;refine zO 10 rfl ?_;refine at_rowOf (c := 0) (size := 2) tE 0 [] rfl (by simp) (by simp) (by decide) (by simp) rfl ?_;simp only [setAt];refine at_loopK [15, 16, 17, 18, 21, 22, 23, 24, 25, 26, 27, 28, 29, 30, 31, 32, 33, 5, 19, 20, 6] (fun i : Nat × Option Addr × Nat => i.1 ≤ l.length) (fun i => [(6, .int .i64 (i.1 : Nat)), (5, .slice i.2.1 (noHints (l.take i.1)).length i.2.2)]) (fun i m => setAt 0 (Row tE 154 2 i.2.1 i.2.2 (noHints (l.take i.1))) m) (fun i => l.length - i.1) (0, some ⟨g0, 0, none⟩, 0) (Nat.zero_le _) ⟨rfl, rfl, trivial⟩ (fun _ s => s) ?_;rintro ⟨k, B, d⟩ hk;simp only [setAt] at hk ⊢;have hnl := noHints_le (l.take k);have htk : (l.take k).length ≤ k := by simp; omega
  rcases Nat.lt_or_ge k l.length with hlt | hge
  ·have hi1 : decide ((k : Int) < l.length) = true := decide_eq_true (by omega);obtain ⟨x, hget⟩ : ∃ x, l[k]? = some x := ⟨_, List.getElem?_eq_getElem hlt⟩;have hms := noHints_succ hget
   by_cases h5 : x.1 = 5
   ·have hi2 : (!decide (x.1 = 5)) = false := by simp [h5]
    rw [if_pos h5, List.append_nil] at hms;refine zC 9 rfl ?_;refine zu ?_;refine zC 8 rfl ?_;refine zV (ov_indexRd (fun _ s => s.rd (k := 1) rfl) rfl Tryz.underlying151 rfl rfl rfl hget) ?_;refine zV (ov_fieldRd0 (k := 0) (fun _ s => s.rd (k := 1) rfl) rfl rfl hget rfl) ?_;refine zV (ov_loadRd0 (fun _ s => s.rd (k := 1) rfl) rfl rfl rfl hget rfl) ?_;refine zO 3 rfl ?_;refine zf ?_;refine zC 5 rfl ?_;refine zV zI ?_;refine zOR 3 rfl ?_;refine at_roundF (k + 1, B, d) hlt (by simp only; omega) ⟨rfl, look_eq rfl (by simp only [hms]), trivial⟩ rfl ?_;simp only [setAt, hms];exact zE [0, 0] []
   ·have hi2 : (!decide (x.1 = 5)) = true := by simp [h5]
    rw [if_neg h5] at hms;refine zC 9 rfl ?_;refine zu ?_;refine zC 8 rfl ?_;refine zV (ov_indexRd (fun _ s => s.rd (k := 1) rfl) rfl Tryz.underlying151 rfl rfl rfl hget) ?_;refine zV (ov_fieldRd0 (k := 0) (fun _ s => s.rd (k := 1) rfl) rfl rfl hget rfl) ?_;refine zV (ov_loadRd0 (fun _ s => s.rd (k := 1) rfl) rfl rfl rfl hget rfl) ?_;refine zO 3 rfl ?_;refine zt ?_;refine zC 4 rfl ?_;refine zV (ov_indexRd (fun _ s => s.rd (k := 1) rfl) rfl Tryz.underlying151 rfl rfl rfl hget) ?_;refine zV (ov_loadRdS (vs := [_, _]) (fun _ s => s.rd (k := 1) rfl) rfl rfl rfl hget rfl rfl) ?_;refine zT (ot_buildSlice (cs := [_, _]) rfl Tryz.underlying151 rfl rfl rfl rfl rfl rfl) ?_;rintro _ _ ⟨g1, rfl, rfl⟩;refine zT (ot_append (k := 1) (size := 2) (bytes := 24) (ys := [x]) (fun _ s => s.rdPt (k := 0) rfl rfl (by simp [tE])) rfl Tryz.underlying151 (ti := Tryz.t154) rfl rfl rfl rfl rfl (by decide) rfl rfl rfl (by simp [tE, Value.oneCell']) (by simp; omega) (by decide)) ?_;rintro _ _ ⟨A1, c1, rfl, rfl⟩;simp only [setAt];refine zO 6 rfl ?_;refine zV zI ?_;refine zOR 3 rfl ?_;refine at_roundF (k + 1, A1, c1) hlt (by simp only; omega) ⟨rfl, look_eq rfl (by simp only [hms]), trivial⟩ rfl ?_;simp only [setAt, hms];exact zE [1, 1] [0]
  ·have hi1 : decide ((k : Int) < l.length) = false := decide_eq_false (by omega);rw [List.take_of_length_le hge] at hnl ⊢;have hin : ∀ t ∈ noHints l, t ∈ l := fun t h => (List.mem_filter.1 h).1;obtain ⟨m, hmd⟩ : ∃ m, noHints l = m := ⟨_, rfl⟩;rw [hmd] at hnl hin ⊢;refine zC 9 rfl ?_;refine zg ?_;refine zC 7 rfl ?_;refine at_loopK [34, 35, 36, 37, 38, 39, 40, 41, 42, 43, 44, 45, 46, 47, 48, 49, 50, 5] (fun i : List Tok => i.length ≤ 200 ∧ (∀ t ∈ i, t ∈ l) ∧ trimE m = trimE i) (fun i => [(5, .slice B i.length d)]) (fun i q => setAt 0 (Row tE 154 2 B d i) q) (fun i => i.length) m ⟨by omega, hin, rfl⟩ ⟨rfl, trivial⟩ (fun _ s => s) ?_;rintro i ⟨hil, him, hie⟩;simp only [setAt] at hil him hie ⊢
   rcases List.eq_nil_or_concat i with h0 | ⟨i', x, rfl⟩
   ·have hi3 : decide ((i.length : Int) > 0) = false := by rw [h0]; decide
    have hT := T113a w0 (A := B) (c := d) (l := i) hil (fun t h => hg t (him t h)) (fun t h => hsh t (him t h));refine zC 7 rfl ?_;refine zrf 37 ?_;refine zO 19 rfl ?_;refine zcall [0] rfl rfl rfl Tryz.call113 rfl (hT ) rfl ?_;simp only [zca, zna, splice, spliceL];refine zO 4 rfl ?_;refine zQ ?_;refine at_end ?_;refine zfin ?_;refine ⟨_, ⟨by rw [hmd, hie, h0, trimE_nil], rfl⟩, ?_⟩;exact zE [] [0, 0]
   ·rw [List.concat_eq_append] at *;have hi3 : decide (((i' ++ [x]).length : Int) > 0) = true := decide_eq_true (by rw [List.length_append, List.length_cons, List.length_nil]; omega);refine at_rowLen 0 rfl (fun hle _ => ?_);have hget : (i' ++ [x])[i'.length]? = some x := by simp
    have hS := T112 w0 x;have hlen : ((i' ++ [x]).length : Int) - 1 = ((i'.length : Nat) : Int) := by simp
    rw [trimE_snoc] at hie;refine zC 7 rfl ?_;refine zru 37 ?_;refine zO 3 rfl ?_;refine at_wanted (j := 3) rfl ?_;refine zV zI ?_;refine at_wanted (j := 3) rfl ?_;refine at_reval 41 (.int .i64 (i'.length : Nat)) rfl (congrArg (Value.int .i64) hlen) ?_
    cases hx : decide (x = signL) with
    | true =>
     rw [hx] at hS;rw [if_pos (of_decide_eq_true hx)] at hie;refine zV (ov_indexRd (fun _ s => s.rd (k := 0) rfl) rfl Tryz.underlying151 rfl rfl rfl hget) ?_;refine at_wanted (j := 3) rfl ?_;refine zV (ov_loadRdS (vs := [_, _]) (fun _ s => s.rd (k := 0) rfl) rfl rfl rfl hget rfl rfl) ?_;refine at_wanted (j := 3) rfl ?_;refine zcall [] rfl rfl rfl Tryz.call112 rfl (hS ) rfl ?_;simp only [zca, zna, splice, spliceL];refine zO 11 rfl ?_;refine zV zI ?_;refine at_reval 49 (.int .i64 (i'.length : Nat)) rfl (congrArg (Value.int .i64) hlen) ?_;have hkk : i'.length ≤ (i' ++ [x]).length := by simp
     refine zV (ov_sliceTo rfl Tryz.underlying151 rfl rfl rfl (by first | assumption | omega) (by assumption)) ?_;refine zOR 4 rfl ?_;refine at_rowTake i'.length 0 rfl ?_;have htk : (i' ++ [x]).take i'.length = i' := List.take_left
     try rw [htk]
     simp only [setAt];refine at_roundF i' ⟨by simp at hil; omega, fun t h => him t (by simp [h]), hie⟩ (by simp) ⟨rfl, trivial⟩ rfl ?_;exact zE [0, 0] []
    | false =>
     rw [hx] at hS;rw [if_neg (of_decide_eq_false hx)] at hie;have hT := T113a w0 (A := B) (c := d) (l := i' ++ [x]) hil (fun t h => hg t (him t h)) (fun t h => hsh t (him t h));refine zV (ov_indexRd (fun _ s => s.rd (k := 0) rfl) rfl Tryz.underlying151 rfl rfl rfl hget) ?_;refine at_wanted (j := 3) rfl ?_;refine zV (ov_loadRdS (vs := [_, _]) (fun _ s => s.rd (k := 0) rfl) rfl rfl rfl hget rfl rfl) ?_;refine at_wanted (j := 3) rfl ?_;refine zcall [] rfl rfl rfl Tryz.call112 rfl (hS ) rfl ?_;simp only [zca, zna, splice, spliceL];refine zO 12 rfl ?_;refine zcall [0] rfl rfl rfl Tryz.call113 rfl (hT ) rfl ?_;simp only [zca, zna, splice, spliceL];refine zO 4 rfl ?_;refine zQ ?_;refine at_end ?_;refine zfin ?_;refine ⟨_, ⟨by rw [hmd, hie], rfl⟩, ?_⟩;exact zE [] [0, 0]
 ·rw [if_neg he];have hi0 : (!decide (er = 0)) = true := by simp [he]
  refine zH fun zq zQ => ?_;refine zC 8 rfl ?_;refine zT (ot_call (ks := []) rfl rfl rfl Tryz.call72 rfl (hL ) rfl) ?_;rintro v0 _ ⟨m0, hp0, rfl⟩;obtain ⟨A0, hp0⟩ := hp0;obtain ⟨c0, hp0⟩ := hp0;obtain ⟨rfl, rfl⟩ := hp0;simp only [zca, zna, splice, spliceL];refine zO 14 rfl ?_;refine zt ?_;refine zC 7 rfl ?_;refine zQ ?_;refine at_end ?_;refine zfin ?_;refine ⟨_, ⟨rfl, rfl⟩, ?_⟩;exact zE [] [0]
end Go.Proofs.YtighdkdomfpadaaGreatDoor
