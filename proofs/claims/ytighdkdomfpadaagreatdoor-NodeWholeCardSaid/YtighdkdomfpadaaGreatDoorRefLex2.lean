/- The reference of lexing, walked: token, Lex, Right, Write. -/
import Derived.Test.YtighdkdomfpadaaGreatDoorProg
import Derived.Test.YtighdkdomfpadaaGreatDoorRefLex
import Derived.Test.YtighdkdomfpadaaGreatDoorSLB
import Derived.KernelRfl
set_option linter.unusedSimpArgs false
set_option linter.unusedVariables false
set_option maxRecDepth 100000
namespace Go.Proofs.YtighdkdomfpadaaGreatDoor
open Go Go.Proofs.YtighdkdomfpadaaGreatDoor.SL Go.RowKit
theorem T116 (w0 : World) (s : BL) (i : Nat) (c : UInt8) (hs : s.length ≤ 140737488351232) (hc : s[i]? = some c) : Tri Tryz.prog w0 116 [SV s, .int .i64 (i : Nat)] [] fun v m => v = .tuple #[.agg (tE (oneL (s.drop i)).1).toArray, .int .i64 (if (oneL (s.drop i)).2 < 0 then -1 else (i : Int) + (oneL (s.drop i)).2)] ∧ m = [] := by
 refine tri_k Tryz.func116 rfl rfl fun F => ?_
 simp only [Tryz.ntmps116, argEnv, List.nil_append]
 have hil : i < s.length := (List.getElem?_eq_some_iff.1 hc).1
 obtain ⟨r, hdr, hr⟩ := drop_cons hc
 have hlen : (s.drop i).length = s.length - i := List.length_drop
 have hA2 := T147 w0 s [47, 42, 43] i hs (by decide) (by decide) (by omega)
 have hF3 := T148 w0 s [42, 47] (i + 3) hs (by decide) (by decide) (by omega)
 have hc3 : ((i + 3 : Nat) : Int) = (i : Int) + 3 := by omega
 rw [hc3] at hF3
 have hfl3 : findL s [42, 47] (i + 3) = if Lib.index ((s.drop i).drop 3) [42, 47] < 0 then -1 else (i : Int) + 3 + Lib.index ((s.drop i).drop 3) [42, 47] := by
  unfold findL; rw [List.drop_drop, hc3]
 have hB := T153 w0 s i c hs hc
 rw [← hr] at hB
 cases h1 : Lib.hasPrefix (s.drop i) [47, 42, 43] with
 | true =>
  have hone := oneL_hint hdr h1
  have hle : 3 ≤ (s.drop i).length := by simpa using (List.isPrefixOf_iff_prefix.1 h1).length_le
  have hge := Lib.index_ge ((s.drop i).drop 3) [42, 47]
  by_cases h3 : Lib.index ((s.drop i).drop 3) [42, 47] < 0
  ·rw [if_pos h3] at hfl3 hone
   rw [hfl3] at hF3
   refine zH fun zq zQ => ?_
   refine zC 2 rfl ?_
   refine zA Tryz.zeroValue154 fun g0 => ?_
   refine zO 7 rfl ?_
   refine zV (ov_indexL rfl Tryz.underlying9 rfl rfl hc (by first | rfl | omega)) ?_
   refine zO 8 rfl ?_
   refine zcall [] rfl rfl rfl Tryz.call147 rfl (hA2 ) rfl ?_
   simp only [zca, zna, splice, spliceL]
   refine zO 2 rfl ?_
   refine zcT rfl (by first | assumption | (rw [Bool.not_eq_true']; exact decide_eq_false (by omega))) ?_
   refine zC 4 rfl ?_
   refine zV zI ?_
   refine zcall [] rfl rfl rfl Tryz.call148 rfl (hF3 ) rfl ?_
   simp only [zca, zna, splice, spliceL]
   refine zO 13 rfl ?_
   refine zV (ov_build (cs := [_, _]) rfl rfl rfl rfl) ?_
   refine zS 0 ?_
   simp only [setAt, splice, spliceL, Value.cells]
   refine zO 6 rfl ?_
   refine zQ ?_
   refine at_end ?_
   refine at_fin (rsL (vs := [_, _]) rfl ⟨res_cellS (k := 0) (vs := [_, _]) rfl rfl rfl rfl ⟨rfl, rfl, trivial⟩, res_tmp rfl, trivial⟩ rfl) ?_
   refine ⟨_, ⟨by rw [hone]; rfl, rfl⟩, ?_⟩
   exact zE [] [0]
  ·rw [if_neg h3] at hfl3 hone
   rw [hfl3] at hF3
   have hix := index_le ((s.drop i).drop 3) [42, 47] (by omega)
   rw [List.length_drop] at hix
   simp only [List.length_cons, List.length_nil] at hix
   have hi3 : decide ((i : Int) + 3 + Lib.index ((s.drop i).drop 3) [42, 47] < 0) = false := decide_eq_false (by omega)
   have ek : ((i : Int) + 3).toNat = i + 3 := by omega
   have ek2 : ((i : Int) + 3 + Lib.index ((s.drop i).drop 3) [42, 47]).toNat = i + 3 + (Lib.index ((s.drop i).drop 3) [42, 47]).toNat := by omega
   have etk : (s.take ((i : Int) + 3 + Lib.index ((s.drop i).drop 3) [42, 47]).toNat).drop ((i : Int) + 3).toNat = ((s.drop i).drop 3).take (Lib.index ((s.drop i).drop 3) [42, 47]).toNat := by
    rw [ek, ek2, List.drop_take, List.drop_drop]
    congr 1; omega
   have hTr := T149 w0 (((s.drop i).drop 3).take (Lib.index ((s.drop i).drop 3) [42, 47]).toNat) (by rw [List.length_take, List.length_drop]; omega)
   rw [← etk] at hTr
   refine zH fun zq zQ => ?_
   refine zC 2 rfl ?_
   refine zA Tryz.zeroValue154 fun g0 => ?_
   refine zO 7 rfl ?_
   refine zV (ov_indexL rfl Tryz.underlying9 rfl rfl hc (by first | rfl | omega)) ?_
   refine zO 8 rfl ?_
   refine zcall [] rfl rfl rfl Tryz.call147 rfl (hA2 ) rfl ?_
   simp only [zca, zna, splice, spliceL]
   refine zO 2 rfl ?_
   refine zcT rfl (by first | assumption | (rw [Bool.not_eq_true']; exact decide_eq_false (by omega))) ?_
   refine zC 4 rfl ?_
   refine zV zI ?_
   refine zcall [] rfl rfl rfl Tryz.call148 rfl (hF3 ) rfl ?_
   simp only [zca, zna, splice, spliceL]
   refine zO 10 rfl ?_
   refine zcF rfl (decide_eq_false (by omega)) ?_
   refine zC 6 rfl ?_
   refine zV zI ?_
   refine zO 1 rfl ?_
   refine zV (ov_sliceMidL rfl Tryz.underlying9 rfl rfl rfl (Int.toNat_of_nonneg (by omega)).symm (Int.toNat_of_nonneg (by omega)).symm (by first | assumption | omega | (simp only [zla, zlc, zln]; omega) | (simp; done) | (simp; omega)) (by first | assumption | omega | (simp only [zla, zlc, zln]; omega) | (simp; done) | (simp; omega))) ?_
   refine zcall [] rfl rfl rfl Tryz.call149 rfl (hTr ) rfl ?_
   simp only [zca, zna, splice, spliceL]
   refine zV (ov_build (cs := [_, _]) rfl rfl rfl rfl) ?_
   refine zO 1 rfl ?_
   refine zV zI ?_
   refine zS 0 ?_
   simp only [setAt, splice, spliceL, Value.cells]
   refine zO 5 rfl ?_
   refine zQ ?_
   refine at_end ?_
   refine at_fin (rsL (vs := [_, _]) rfl ⟨res_cellS (k := 0) (vs := [_, _]) rfl rfl rfl rfl ⟨rfl, rfl, trivial⟩, res_tmp rfl, trivial⟩ rfl) ?_
   refine ⟨_, ⟨?_, rfl⟩, ?_⟩
   ·have e : (i : Int) + 3 + Lib.index ((s.drop i).drop 3) [42, 47] + 2 = (i : Int) + (5 + Lib.index ((s.drop i).drop 3) [42, 47]) := by omega
    try rw [hone]
    try rw [etk]
    try rw [e]
    simp only
    try rw [if_neg (by omega)]
    rfl
   exact zE [] [0]
 | false =>
 have hget : ∀ k, i ≤ k → (s.drop i)[k - i]? = s[k]? := fun k hk => by rw [List.getElem?_drop]; congr 1; omega
 have hmid : ∀ k, i ≤ k → (s.take k).drop i = (s.drop i).take (k - i) := fun k hk => by rw [List.drop_take]
 cases h2 : letterB c with
 | true =>
  have hone := oneL_word hdr h1 h2
  refine zH fun zq zQ => ?_
  refine zC 2 rfl ?_
  refine zA Tryz.zeroValue154 fun g0 => ?_
  refine zO 7 rfl ?_
  refine zV (ov_indexL rfl Tryz.underlying9 rfl rfl hc (by first | rfl | omega)) ?_
  refine zO 8 rfl ?_
  refine zcall [] rfl rfl rfl Tryz.call147 rfl (hA2 ) rfl ?_
  simp only [zca, zna, splice, spliceL]
  refine zO 2 rfl ?_
  refine zcF rfl (by first | assumption | (rw [Bool.not_eq_false']; exact decide_eq_true (by omega))) ?_
  refine zC 6 rfl ?_
  refine zcall [] rfl rfl rfl Tryz.call150 rfl (T150 _ _) rfl ?_
  simp only [zca, zna, splice, spliceL]
  refine zO 2 rfl ?_
  refine zcT rfl (by first | assumption | (rw [Bool.not_eq_true']; exact decide_eq_false (by omega))) ?_
  refine zC 8 rfl ?_
  refine at_loopK [39, 40, 41, 42, 43, 44, 45, 46, 47, 48, 49, 50, 51, 52, 53, 54, 55, 56, 8] (fun k => i ≤ k ∧ k ≤ s.length ∧ ∀ b ∈ (s.drop i).take (k - i), wordB b = true) (fun k => [(8, .int .i64 (k : Nat))]) (fun _ m => m) (fun k => s.length - k) i ⟨Nat.le_refl _, by omega, by simp⟩ ⟨rfl, trivial⟩ (fun _ s => s) ?_
  rintro k ⟨hik, hk, hb⟩
  have fin : (∀ b, s[k]? = some b → wordB b = false) → (s.drop i).takeWhile wordB = (s.take k).drop i := fun h => by
   try rw [hmid k hik]
   exact takeWhile_all hb (by omega) (fun b hb => h b (by rw [← hget k hik]; exact hb))
  have hW := T152 w0 ((s.take k).drop i) (by rw [List.length_drop, List.length_take]; omega)
  have done : (s.drop i).takeWhile wordB = (s.take k).drop i → (oneL (s.drop i)) = ((1, greatL ((s.take k).drop i)), ((k : Int) - i)) := fun e => by
   try rw [hone]
   try rw [e]
   congr 1
   rw [List.length_drop, List.length_take]; omega
  rcases Nat.lt_or_ge k s.length with hlt | hge
  ·have hi1 : decide ((k : Int) < s.length) = true := decide_eq_true (by omega)
   obtain ⟨d, hd⟩ : ∃ d, s[k]? = some d := ⟨_, List.getElem?_eq_getElem hlt⟩
   have hstep : wordB d = true → ∀ b ∈ (s.drop i).take (k + 1 - i), wordB b = true := fun hw => by
    try rw [show k + 1 - i = (k - i) + 1 by omega]
    exact take_all_succ hb (by rw [hget k hik]; exact hd) hw
   cases hl : letterB d with
   | true =>
    have hw : wordB d = true := by simp [wordB, hl]
    refine zC 8 rfl ?_
    refine zrT 43 rfl (decide_eq_true (by omega)) ?_
    refine zO 2 rfl ?_
    refine at_wanted (j := 4) rfl ?_
    refine zV (ov_indexL rfl Tryz.underlying9 rfl rfl hd (by first | rfl | omega)) ?_
    refine at_wanted (j := 4) rfl ?_
    refine zcall [] rfl rfl rfl Tryz.call150 rfl (T150 _ _) rfl ?_
    simp only [zca, zna, splice, spliceL]
    refine zO 1 rfl ?_
    refine zrT 48 rfl (by first | assumption | (rw [Bool.not_eq_true']; exact decide_eq_false (by omega))) ?_
    refine zO 14 rfl ?_
    refine zV zI ?_
    refine zOR 4 rfl ?_
    refine at_roundF (k + 1) ⟨by omega, hlt, hstep hw⟩ (by omega) ⟨rfl, trivial⟩ rfl ?_
    exact zE [0] []
   | false =>
    cases hg : digitB d with
    | true =>
     have hw : wordB d = true := by simp [wordB, hg]
     refine zC 8 rfl ?_
     refine zrT 43 rfl (decide_eq_true (by omega)) ?_
     refine zO 2 rfl ?_
     refine at_wanted (j := 4) rfl ?_
     refine zV (ov_indexL rfl Tryz.underlying9 rfl rfl hd (by first | rfl | omega)) ?_
     refine at_wanted (j := 4) rfl ?_
     refine zcall [] rfl rfl rfl Tryz.call150 rfl (T150 _ _) rfl ?_
     simp only [zca, zna, splice, spliceL]
     refine zO 1 rfl ?_
     refine zrF 48 rfl (by first | assumption | (rw [Bool.not_eq_false']; exact decide_eq_true (by omega))) ?_
     refine zO 2 rfl ?_
     refine at_wanted (j := 9) rfl ?_
     refine zV (ov_indexL rfl Tryz.underlying9 rfl rfl hd (by first | rfl | omega)) ?_
     refine at_wanted (j := 9) rfl ?_
     refine zcall [] rfl rfl rfl Tryz.call151 rfl (T151 _ _) rfl ?_
     simp only [zca, zna, splice, spliceL]
     refine zO 4 rfl ?_
     refine zcT rfl (by first | assumption | (rw [Bool.not_eq_true']; exact decide_eq_false (by omega))) ?_
     refine zC 5 rfl ?_
     refine zV zI ?_
     refine zOR 4 rfl ?_
     refine at_roundF (k + 1) ⟨by omega, hlt, hstep hw⟩ (by omega) ⟨rfl, trivial⟩ rfl ?_
     exact zE [0] []
    | false =>
     have hdn := done (fin (fun b hb => by rw [hd] at hb; cases hb; simp [wordB, hl, hg]))
     refine zC 8 rfl ?_
     refine zrT 43 rfl (decide_eq_true (by omega)) ?_
     refine zO 2 rfl ?_
     refine at_wanted (j := 4) rfl ?_
     refine zV (ov_indexL rfl Tryz.underlying9 rfl rfl hd (by first | rfl | omega)) ?_
     refine at_wanted (j := 4) rfl ?_
     refine zcall [] rfl rfl rfl Tryz.call150 rfl (T150 _ _) rfl ?_
     simp only [zca, zna, splice, spliceL]
     refine zO 1 rfl ?_
     refine zrF 48 rfl (by first | assumption | (rw [Bool.not_eq_false']; exact decide_eq_true (by omega))) ?_
     refine zO 2 rfl ?_
     refine at_wanted (j := 9) rfl ?_
     refine zV (ov_indexL rfl Tryz.underlying9 rfl rfl hd (by first | rfl | omega)) ?_
     refine at_wanted (j := 9) rfl ?_
     refine zcall [] rfl rfl rfl Tryz.call151 rfl (T151 _ _) rfl ?_
     simp only [zca, zna, splice, spliceL]
     refine zO 4 rfl ?_
     refine zcF rfl (by first | assumption | (rw [Bool.not_eq_false']; exact decide_eq_true (by omega))) ?_
     refine zC 10 rfl ?_
     refine zV (ov_sliceMidL rfl Tryz.underlying9 rfl rfl rfl rfl rfl (by first | assumption | omega | (simp only [zla, zlc, zln]; omega) | (simp; done) | (simp; omega)) (by first | assumption | omega | (simp only [zla, zlc, zln]; omega) | (simp; done) | (simp; omega))) ?_
     refine zcall [] rfl rfl rfl Tryz.call152 rfl (hW ) rfl ?_
     simp only [zca, zna, splice, spliceL]
     refine zV (ov_build (cs := [_, _]) rfl rfl rfl rfl) ?_
     refine zO 1 rfl ?_
     refine zS 0 ?_
     simp only [setAt, splice, spliceL, Value.cells]
     refine zO 5 rfl ?_
     refine zQ ?_
     refine at_end ?_
     refine at_fin (rsL (vs := [_, _]) rfl ⟨res_cellS (k := 0) (vs := [_, _]) rfl rfl rfl rfl ⟨rfl, rfl, trivial⟩, res_tmp rfl, trivial⟩ rfl) ?_
     refine ⟨_, ⟨?_, rfl⟩, ?_⟩
     ·try rw [hdn]
      simp only
      try rw [if_neg (by omega)]
      try rw [show (i : Int) + ((k : Int) - i) = k by omega]
      rfl
     exact zE [] [0]
  ·have hi1 : decide ((k : Int) < s.length) = false := decide_eq_false (by omega)
   have hdn := done (fin (fun b hb => by have := (List.getElem?_eq_some_iff.1 hb).1; omega))
   refine zC 8 rfl ?_
   refine zrF 43 rfl (decide_eq_false (by omega)) ?_
   refine zO 24 rfl ?_
   refine zV (ov_sliceMidL rfl Tryz.underlying9 rfl rfl rfl rfl rfl (by first | assumption | omega | (simp only [zla, zlc, zln]; omega) | (simp; done) | (simp; omega)) (by first | assumption | omega | (simp only [zla, zlc, zln]; omega) | (simp; done) | (simp; omega))) ?_
   refine zcall [] rfl rfl rfl Tryz.call152 rfl (hW ) rfl ?_
   simp only [zca, zna, splice, spliceL]
   refine zV (ov_build (cs := [_, _]) rfl rfl rfl rfl) ?_
   refine zO 1 rfl ?_
   refine zS 0 ?_
   simp only [setAt, splice, spliceL, Value.cells]
   refine zO 5 rfl ?_
   refine zQ ?_
   refine at_end ?_
   refine at_fin (rsL (vs := [_, _]) rfl ⟨res_cellS (k := 0) (vs := [_, _]) rfl rfl rfl rfl ⟨rfl, rfl, trivial⟩, res_tmp rfl, trivial⟩ rfl) ?_
   refine ⟨_, ⟨?_, rfl⟩, ?_⟩
   ·try rw [hdn]
    simp only
    try rw [if_neg (by omega)]
    try rw [show (i : Int) + ((k : Int) - i) = k by omega]
    rfl
   exact zE [] [0]
 | false =>
 cases h3 : digitB c with
 | true =>
  have hone := oneL_num hdr h1 h2 h3
  refine zH fun zq zQ => ?_
  refine zC 2 rfl ?_
  refine zA Tryz.zeroValue154 fun g0 => ?_
  refine zO 7 rfl ?_
  refine zV (ov_indexL rfl Tryz.underlying9 rfl rfl hc (by first | rfl | omega)) ?_
  refine zO 8 rfl ?_
  refine zcall [] rfl rfl rfl Tryz.call147 rfl (hA2 ) rfl ?_
  simp only [zca, zna, splice, spliceL]
  refine zO 2 rfl ?_
  refine zcF rfl (by first | assumption | (rw [Bool.not_eq_false']; exact decide_eq_true (by omega))) ?_
  refine zC 6 rfl ?_
  refine zcall [] rfl rfl rfl Tryz.call150 rfl (T150 _ _) rfl ?_
  simp only [zca, zna, splice, spliceL]
  refine zO 2 rfl ?_
  refine zcF rfl (by first | assumption | (rw [Bool.not_eq_false']; exact decide_eq_true (by omega))) ?_
  refine zC 6 rfl ?_
  refine zcall [] rfl rfl rfl Tryz.call151 rfl (T151 _ _) rfl ?_
  simp only [zca, zna, splice, spliceL]
  refine zO 2 rfl ?_
  refine zcT rfl (by first | assumption | (rw [Bool.not_eq_true']; exact decide_eq_false (by omega))) ?_
  refine zC 8 rfl ?_
  refine at_loopK [67, 68, 69, 70, 71, 72, 73, 74, 75, 76, 77, 78, 9] (fun k => i ≤ k ∧ k ≤ s.length ∧ ∀ b ∈ (s.drop i).take (k - i), digitB b = true) (fun k => [(9, .int .i64 (k : Nat))]) (fun _ m => m) (fun k => s.length - k) i ⟨Nat.le_refl _, by omega, by simp⟩ ⟨rfl, trivial⟩ (fun _ s => s) ?_
  rintro k ⟨hik, hk, hb⟩
  have fin : (∀ b, s[k]? = some b → digitB b = false) → (s.drop i).takeWhile digitB = (s.take k).drop i := fun h => by
   try rw [hmid k hik]
   exact takeWhile_all hb (by omega) (fun b hb => h b (by rw [← hget k hik]; exact hb))
  have done : (s.drop i).takeWhile digitB = (s.take k).drop i → (oneL (s.drop i)) = ((4, (s.take k).drop i), ((k : Int) - i)) := fun e => by
   try rw [hone]
   try rw [e]
   congr 1
   rw [List.length_drop, List.length_take]; omega
  rcases Nat.lt_or_ge k s.length with hlt | hge
  ·have hi1 : decide ((k : Int) < s.length) = true := decide_eq_true (by omega)
   obtain ⟨d, hd⟩ : ∃ d, s[k]? = some d := ⟨_, List.getElem?_eq_getElem hlt⟩
   have hstep : digitB d = true → ∀ b ∈ (s.drop i).take (k + 1 - i), digitB b = true := fun hw => by
    try rw [show k + 1 - i = (k - i) + 1 by omega]
    exact take_all_succ hb (by rw [hget k hik]; exact hd) hw
   cases hg : digitB d with
   | true =>
    refine zC 8 rfl ?_
    refine zrT 71 rfl (decide_eq_true (by omega)) ?_
    refine zO 2 rfl ?_
    refine at_wanted (j := 4) rfl ?_
    refine zV (ov_indexL rfl Tryz.underlying9 rfl rfl hd (by first | rfl | omega)) ?_
    refine at_wanted (j := 4) rfl ?_
    refine zcall [] rfl rfl rfl Tryz.call151 rfl (T151 _ _) rfl ?_
    simp only [zca, zna, splice, spliceL]
    refine zO 3 rfl ?_
    refine zcT rfl (by first | assumption | (rw [Bool.not_eq_true']; exact decide_eq_false (by omega))) ?_
    refine zC 5 rfl ?_
    refine zV zI ?_
    refine zOR 4 rfl ?_
    refine at_roundF (k + 1) ⟨by omega, hlt, hstep hg⟩ (by omega) ⟨rfl, trivial⟩ rfl ?_
    exact zE [0] []
   | false =>
    have hdn := done (fin (fun b hb => by rw [hd] at hb; cases hb; exact hg))
    refine zC 8 rfl ?_
    refine zrT 71 rfl (decide_eq_true (by omega)) ?_
    refine zO 2 rfl ?_
    refine at_wanted (j := 4) rfl ?_
    refine zV (ov_indexL rfl Tryz.underlying9 rfl rfl hd (by first | rfl | omega)) ?_
    refine at_wanted (j := 4) rfl ?_
    refine zcall [] rfl rfl rfl Tryz.call151 rfl (T151 _ _) rfl ?_
    simp only [zca, zna, splice, spliceL]
    refine zO 3 rfl ?_
    refine zcF rfl (by first | assumption | (rw [Bool.not_eq_false']; exact decide_eq_true (by omega))) ?_
    refine zC 10 rfl ?_
    refine zV (ov_sliceMidL rfl Tryz.underlying9 rfl rfl rfl rfl rfl (by first | assumption | omega | (simp only [zla, zlc, zln]; omega) | (simp; done) | (simp; omega)) (by first | assumption | omega | (simp only [zla, zlc, zln]; omega) | (simp; done) | (simp; omega))) ?_
    refine zV (ov_build (cs := [_, _]) rfl rfl rfl rfl) ?_
    refine zO 1 rfl ?_
    refine zS 0 ?_
    simp only [setAt, splice, spliceL, Value.cells]
    refine zO 5 rfl ?_
    refine zQ ?_
    refine at_end ?_
    refine at_fin (rsL (vs := [_, _]) rfl ⟨res_cellS (k := 0) (vs := [_, _]) rfl rfl rfl rfl ⟨rfl, rfl, trivial⟩, res_tmp rfl, trivial⟩ rfl) ?_
    refine ⟨_, ⟨?_, rfl⟩, ?_⟩
    ·try rw [hdn]
     simp only
     try rw [if_neg (by omega)]
     try rw [show (i : Int) + ((k : Int) - i) = k by omega]
     rfl
    exact zE [] [0]
  ·have hi1 : decide ((k : Int) < s.length) = false := decide_eq_false (by omega)
   have hdn := done (fin (fun b hb => by have := (List.getElem?_eq_some_iff.1 hb).1; omega))
   refine zC 8 rfl ?_
   refine zrF 71 rfl (decide_eq_false (by omega)) ?_
   refine zO 18 rfl ?_
   refine zV (ov_sliceMidL rfl Tryz.underlying9 rfl rfl rfl rfl rfl (by first | assumption | omega | (simp only [zla, zlc, zln]; omega) | (simp; done) | (simp; omega)) (by first | assumption | omega | (simp only [zla, zlc, zln]; omega) | (simp; done) | (simp; omega))) ?_
   refine zV (ov_build (cs := [_, _]) rfl rfl rfl rfl) ?_
   refine zO 1 rfl ?_
   refine zS 0 ?_
   simp only [setAt, splice, spliceL, Value.cells]
   refine zO 5 rfl ?_
   refine zQ ?_
   refine at_end ?_
   refine at_fin (rsL (vs := [_, _]) rfl ⟨res_cellS (k := 0) (vs := [_, _]) rfl rfl rfl rfl ⟨rfl, rfl, trivial⟩, res_tmp rfl, trivial⟩ rfl) ?_
   refine ⟨_, ⟨?_, rfl⟩, ?_⟩
   ·try rw [hdn]
    simp only
    try rw [if_neg (by omega)]
    try rw [show (i : Int) + ((k : Int) - i) = k by omega]
    rfl
   exact zE [] [0]
 | false =>
 by_cases h4 : c.toNat = 39
 ·have hi4 : decide ((c.toNat : Int) = 34) = false := decide_eq_false (by omega)
  have hi5 : decide ((c.toNat : Int) = 96) = false := decide_eq_false (by omega)
  have hi6 : decide ((c.toNat : Int) = 39) = true := decide_eq_true (by omega)
  refine zH fun zq zQ => ?_
  refine zC 2 rfl ?_
  refine zA Tryz.zeroValue154 fun g0 => ?_
  refine zO 7 rfl ?_
  refine zV (ov_indexL rfl Tryz.underlying9 rfl rfl hc (by first | rfl | omega)) ?_
  refine zO 8 rfl ?_
  refine zcall [] rfl rfl rfl Tryz.call147 rfl (hA2 ) rfl ?_
  simp only [zca, zna, splice, spliceL]
  refine zO 2 rfl ?_
  refine zcF rfl (by first | assumption | (rw [Bool.not_eq_false']; exact decide_eq_true (by omega))) ?_
  refine zC 6 rfl ?_
  refine zcall [] rfl rfl rfl Tryz.call150 rfl (T150 _ _) rfl ?_
  simp only [zca, zna, splice, spliceL]
  refine zO 2 rfl ?_
  refine zcF rfl (by first | assumption | (rw [Bool.not_eq_false']; exact decide_eq_true (by omega))) ?_
  refine zC 6 rfl ?_
  refine zcall [] rfl rfl rfl Tryz.call151 rfl (T151 _ _) rfl ?_
  simp only [zca, zna, splice, spliceL]
  refine zO 2 rfl ?_
  refine zcF rfl (by first | assumption | (rw [Bool.not_eq_false']; exact decide_eq_true (by omega))) ?_
  refine zC 8 rfl ?_
  refine zrF 87 rfl (decide_eq_false (by omega)) ?_
  refine zO 5 rfl ?_
  refine zcF rfl (decide_eq_false (by omega)) ?_
  refine zC 9 rfl ?_
  refine zcT rfl (decide_eq_true (by omega)) ?_
  refine zC 4 rfl ?_
  refine zcall [] rfl rfl rfl Tryz.call153 rfl (hB ) rfl ?_
  simp only [zca, zna, splice, spliceL]
  refine zO 10 rfl ?_
  refine zV (ov_build (cs := [_, _]) rfl rfl rfl rfl) ?_
  refine zO 1 rfl ?_
  refine zS 0 ?_
  simp only [setAt, splice, spliceL, Value.cells]
  refine zO 5 rfl ?_
  refine zQ ?_
  refine at_end ?_
  refine at_fin (rsL (vs := [_, _]) rfl ⟨res_cellS (k := 0) (vs := [_, _]) rfl rfl rfl rfl ⟨rfl, rfl, trivial⟩, res_tmp rfl, trivial⟩ rfl) ?_
  refine ⟨_, ⟨by rw [oneL_str hdr h1 h2 h3 h4]; rfl, rfl⟩, ?_⟩
  exact zE [] [0]
 by_cases h5 : c.toNat = 34
 ·have hi4 : decide ((c.toNat : Int) = 34) = true := decide_eq_true (by omega)
  refine zH fun zq zQ => ?_
  refine zC 2 rfl ?_
  refine zA Tryz.zeroValue154 fun g0 => ?_
  refine zO 7 rfl ?_
  refine zV (ov_indexL rfl Tryz.underlying9 rfl rfl hc (by first | rfl | omega)) ?_
  refine zO 8 rfl ?_
  refine zcall [] rfl rfl rfl Tryz.call147 rfl (hA2 ) rfl ?_
  simp only [zca, zna, splice, spliceL]
  refine zO 2 rfl ?_
  refine zcF rfl (by first | assumption | (rw [Bool.not_eq_false']; exact decide_eq_true (by omega))) ?_
  refine zC 6 rfl ?_
  refine zcall [] rfl rfl rfl Tryz.call150 rfl (T150 _ _) rfl ?_
  simp only [zca, zna, splice, spliceL]
  refine zO 2 rfl ?_
  refine zcF rfl (by first | assumption | (rw [Bool.not_eq_false']; exact decide_eq_true (by omega))) ?_
  refine zC 6 rfl ?_
  refine zcall [] rfl rfl rfl Tryz.call151 rfl (T151 _ _) rfl ?_
  simp only [zca, zna, splice, spliceL]
  refine zO 2 rfl ?_
  refine zcF rfl (by first | assumption | (rw [Bool.not_eq_false']; exact decide_eq_true (by omega))) ?_
  refine zC 8 rfl ?_
  refine zrT 87 rfl (decide_eq_true (by omega)) ?_
  refine zO 10 rfl ?_
  refine zcall [] rfl rfl rfl Tryz.call153 rfl (hB ) rfl ?_
  simp only [zca, zna, splice, spliceL]
  refine zO 10 rfl ?_
  refine zV (ov_build (cs := [_, _]) rfl rfl rfl rfl) ?_
  refine zO 1 rfl ?_
  refine zS 0 ?_
  simp only [setAt, splice, spliceL, Value.cells]
  refine zO 5 rfl ?_
  refine zQ ?_
  refine at_end ?_
  refine at_fin (rsL (vs := [_, _]) rfl ⟨res_cellS (k := 0) (vs := [_, _]) rfl rfl rfl rfl ⟨rfl, rfl, trivial⟩, res_tmp rfl, trivial⟩ rfl) ?_
  refine ⟨_, ⟨by rw [oneL_name hdr h1 h2 h3 h4 (.inl h5)]; rfl, rfl⟩, ?_⟩
  exact zE [] [0]
 have hi4 : decide ((c.toNat : Int) = 34) = false := decide_eq_false (by omega)
 by_cases h6 : c.toNat = 96
 ·have hi5 : decide ((c.toNat : Int) = 96) = true := decide_eq_true (by omega)
  refine zH fun zq zQ => ?_
  refine zC 2 rfl ?_
  refine zA Tryz.zeroValue154 fun g0 => ?_
  refine zO 7 rfl ?_
  refine zV (ov_indexL rfl Tryz.underlying9 rfl rfl hc (by first | rfl | omega)) ?_
  refine zO 8 rfl ?_
  refine zcall [] rfl rfl rfl Tryz.call147 rfl (hA2 ) rfl ?_
  simp only [zca, zna, splice, spliceL]
  refine zO 2 rfl ?_
  refine zcF rfl (by first | assumption | (rw [Bool.not_eq_false']; exact decide_eq_true (by omega))) ?_
  refine zC 6 rfl ?_
  refine zcall [] rfl rfl rfl Tryz.call150 rfl (T150 _ _) rfl ?_
  simp only [zca, zna, splice, spliceL]
  refine zO 2 rfl ?_
  refine zcF rfl (by first | assumption | (rw [Bool.not_eq_false']; exact decide_eq_true (by omega))) ?_
  refine zC 6 rfl ?_
  refine zcall [] rfl rfl rfl Tryz.call151 rfl (T151 _ _) rfl ?_
  simp only [zca, zna, splice, spliceL]
  refine zO 2 rfl ?_
  refine zcF rfl (by first | assumption | (rw [Bool.not_eq_false']; exact decide_eq_true (by omega))) ?_
  refine zC 8 rfl ?_
  refine zrF 87 rfl (decide_eq_false (by omega)) ?_
  refine zO 5 rfl ?_
  refine zcT rfl (decide_eq_true (by omega)) ?_
  refine zC 4 rfl ?_
  refine zcall [] rfl rfl rfl Tryz.call153 rfl (hB ) rfl ?_
  simp only [zca, zna, splice, spliceL]
  refine zO 10 rfl ?_
  refine zV (ov_build (cs := [_, _]) rfl rfl rfl rfl) ?_
  refine zO 1 rfl ?_
  refine zS 0 ?_
  simp only [setAt, splice, spliceL, Value.cells]
  refine zO 5 rfl ?_
  refine zQ ?_
  refine at_end ?_
  refine at_fin (rsL (vs := [_, _]) rfl ⟨res_cellS (k := 0) (vs := [_, _]) rfl rfl rfl rfl ⟨rfl, rfl, trivial⟩, res_tmp rfl, trivial⟩ rfl) ?_
  refine ⟨_, ⟨by rw [oneL_name hdr h1 h2 h3 h4 (.inr h6)]; rfl, rfl⟩, ?_⟩
  exact zE [] [0]
 have hi5 : decide ((c.toNat : Int) = 96) = false := decide_eq_false (by omega)
 have hi6 : decide ((c.toNat : Int) = 39) = false := decide_eq_false (by omega)
 have h56 : ¬ (c.toNat = 34 ∨ c.toNat = 96) := by omega
 by_cases h7 : 33 ≤ c.toNat
 ·have hi7 : decide ((c.toNat : Int) ≥ 33) = true := decide_eq_true (by omega)
  by_cases h8 : c.toNat ≤ 126
  ·have hi8 : decide ((c.toNat : Int) ≤ 126) = true := decide_eq_true (by omega)
   have etk : (s.take (i + 1)).drop i = [c] := by
    rw [List.drop_take, hdr, show i + 1 - i = 1 by omega]; rfl
   refine zH fun zq zQ => ?_
   refine zC 2 rfl ?_
   refine zA Tryz.zeroValue154 fun g0 => ?_
   refine zO 7 rfl ?_
   refine zV (ov_indexL rfl Tryz.underlying9 rfl rfl hc (by first | rfl | omega)) ?_
   refine zO 8 rfl ?_
   refine zcall [] rfl rfl rfl Tryz.call147 rfl (hA2 ) rfl ?_
   simp only [zca, zna, splice, spliceL]
   refine zO 2 rfl ?_
   refine zcF rfl (by first | assumption | (rw [Bool.not_eq_false']; exact decide_eq_true (by omega))) ?_
   refine zC 6 rfl ?_
   refine zcall [] rfl rfl rfl Tryz.call150 rfl (T150 _ _) rfl ?_
   simp only [zca, zna, splice, spliceL]
   refine zO 2 rfl ?_
   refine zcF rfl (by first | assumption | (rw [Bool.not_eq_false']; exact decide_eq_true (by omega))) ?_
   refine zC 6 rfl ?_
   refine zcall [] rfl rfl rfl Tryz.call151 rfl (T151 _ _) rfl ?_
   simp only [zca, zna, splice, spliceL]
   refine zO 2 rfl ?_
   refine zcF rfl (by first | assumption | (rw [Bool.not_eq_false']; exact decide_eq_true (by omega))) ?_
   refine zC 8 rfl ?_
   refine zrF 87 rfl (decide_eq_false (by omega)) ?_
   refine zO 5 rfl ?_
   refine zcF rfl (decide_eq_false (by omega)) ?_
   refine zC 9 rfl ?_
   refine zcF rfl (decide_eq_false (by omega)) ?_
   refine zC 8 rfl ?_
   refine zrT 113 rfl (decide_eq_true (by omega)) ?_
   refine zO 5 rfl ?_
   refine zcT rfl (decide_eq_true (by omega)) ?_
   refine zC 5 rfl ?_
   refine zV zI ?_
   refine zV (ov_sliceMidL rfl Tryz.underlying9 rfl rfl rfl rfl rfl (by first | assumption | omega | (simp only [zla, zlc, zln]; omega) | (simp; done) | (simp; omega)) (by first | assumption | omega | (simp only [zla, zlc, zln]; omega) | (simp; done) | (simp; omega))) ?_
   refine zV (ov_build (cs := [_, _]) rfl rfl rfl rfl) ?_
   refine zO 1 rfl ?_
   refine zV zI ?_
   refine zS 0 ?_
   simp only [setAt, splice, spliceL, Value.cells]
   refine zO 5 rfl ?_
   refine zQ ?_
   refine at_end ?_
   refine at_fin (rsL (vs := [_, _]) rfl ⟨res_cellS (k := 0) (vs := [_, _]) rfl rfl rfl rfl ⟨rfl, rfl, trivial⟩, res_tmp rfl, trivial⟩ rfl) ?_
   refine ⟨_, ⟨?_, rfl⟩, ?_⟩
   ·rw [oneL_sign hdr h1 h2 h3 h4 h56 ⟨h7, h8⟩, etk]; rfl
   exact zE [] [0]
  ·have hi8 : decide ((c.toNat : Int) ≤ 126) = false := decide_eq_false (by omega)
   refine zH fun zq zQ => ?_
   refine zC 2 rfl ?_
   refine zA Tryz.zeroValue154 fun g0 => ?_
   refine zO 7 rfl ?_
   refine zV (ov_indexL rfl Tryz.underlying9 rfl rfl hc (by first | rfl | omega)) ?_
   refine zO 8 rfl ?_
   refine zcall [] rfl rfl rfl Tryz.call147 rfl (hA2 ) rfl ?_
   simp only [zca, zna, splice, spliceL]
   refine zO 2 rfl ?_
   refine zcF rfl (by first | assumption | (rw [Bool.not_eq_false']; exact decide_eq_true (by omega))) ?_
   refine zC 6 rfl ?_
   refine zcall [] rfl rfl rfl Tryz.call150 rfl (T150 _ _) rfl ?_
   simp only [zca, zna, splice, spliceL]
   refine zO 2 rfl ?_
   refine zcF rfl (by first | assumption | (rw [Bool.not_eq_false']; exact decide_eq_true (by omega))) ?_
   refine zC 6 rfl ?_
   refine zcall [] rfl rfl rfl Tryz.call151 rfl (T151 _ _) rfl ?_
   simp only [zca, zna, splice, spliceL]
   refine zO 2 rfl ?_
   refine zcF rfl (by first | assumption | (rw [Bool.not_eq_false']; exact decide_eq_true (by omega))) ?_
   refine zC 8 rfl ?_
   refine zrF 87 rfl (decide_eq_false (by omega)) ?_
   refine zO 5 rfl ?_
   refine zcF rfl (decide_eq_false (by omega)) ?_
   refine zC 9 rfl ?_
   refine zcF rfl (decide_eq_false (by omega)) ?_
   refine zC 8 rfl ?_
   refine zrT 113 rfl (decide_eq_true (by omega)) ?_
   refine zO 5 rfl ?_
   refine zcF rfl (decide_eq_false (by omega)) ?_
   refine zC 4 rfl ?_
   refine zV (ov_build (cs := [_, _]) rfl rfl rfl rfl) ?_
   refine zS 0 ?_
   simp only [setAt, splice, spliceL, Value.cells]
   refine zO 4 rfl ?_
   refine zQ ?_
   refine at_end ?_
   refine at_fin (rsL (vs := [_, _]) rfl ⟨res_cellS (k := 0) (vs := [_, _]) rfl rfl rfl rfl ⟨rfl, rfl, trivial⟩, res_tmp rfl, trivial⟩ rfl) ?_
   refine ⟨_, ⟨by rw [oneL_none hdr h1 h2 h3 h4 h56 (by omega)]; rfl, rfl⟩, ?_⟩
   exact zE [] [0]
 ·have hi7 : decide ((c.toNat : Int) ≥ 33) = false := decide_eq_false (by omega)
  refine zH fun zq zQ => ?_
  refine zC 2 rfl ?_
  refine zA Tryz.zeroValue154 fun g0 => ?_
  refine zO 7 rfl ?_
  refine zV (ov_indexL rfl Tryz.underlying9 rfl rfl hc (by first | rfl | omega)) ?_
  refine zO 8 rfl ?_
  refine zcall [] rfl rfl rfl Tryz.call147 rfl (hA2 ) rfl ?_
  simp only [zca, zna, splice, spliceL]
  refine zO 2 rfl ?_
  refine zcF rfl (by first | assumption | (rw [Bool.not_eq_false']; exact decide_eq_true (by omega))) ?_
  refine zC 6 rfl ?_
  refine zcall [] rfl rfl rfl Tryz.call150 rfl (T150 _ _) rfl ?_
  simp only [zca, zna, splice, spliceL]
  refine zO 2 rfl ?_
  refine zcF rfl (by first | assumption | (rw [Bool.not_eq_false']; exact decide_eq_true (by omega))) ?_
  refine zC 6 rfl ?_
  refine zcall [] rfl rfl rfl Tryz.call151 rfl (T151 _ _) rfl ?_
  simp only [zca, zna, splice, spliceL]
  refine zO 2 rfl ?_
  refine zcF rfl (by first | assumption | (rw [Bool.not_eq_false']; exact decide_eq_true (by omega))) ?_
  refine zC 8 rfl ?_
  refine zrF 87 rfl (decide_eq_false (by omega)) ?_
  refine zO 5 rfl ?_
  refine zcF rfl (decide_eq_false (by omega)) ?_
  refine zC 9 rfl ?_
  refine zcF rfl (decide_eq_false (by omega)) ?_
  refine zC 8 rfl ?_
  refine zrF 113 rfl (decide_eq_false (by omega)) ?_
  refine zO 10 rfl ?_
  refine zV (ov_build (cs := [_, _]) rfl rfl rfl rfl) ?_
  refine zS 0 ?_
  simp only [setAt, splice, spliceL, Value.cells]
  refine zO 4 rfl ?_
  refine zQ ?_
  refine at_end ?_
  refine at_fin (rsL (vs := [_, _]) rfl ⟨res_cellS (k := 0) (vs := [_, _]) rfl rfl rfl rfl ⟨rfl, rfl, trivial⟩, res_tmp rfl, trivial⟩ rfl) ?_
  refine ⟨_, ⟨by rw [oneL_none hdr h1 h2 h3 h4 h56 (by omega)]; rfl, rfl⟩, ?_⟩
  exact zE [] [0]
theorem lexL_skip {s : BL} {i : Nat} {c : UInt8} (hc : s[i]? = some c) (h : skipL s i > (i : Nat)) : lexL (s.drop i) = lexL (s.drop (skipL s i).toNat) := by
  obtain ⟨r, hdr, hr⟩ := drop_cons hc
  unfold skipL at h ⊢
  rw [hdr] at h ⊢
  simp only at h ⊢
  rw [lexL_cons]
  cases hb : blankB c with
  | true =>
    simp only [if_true]
    rw [hr, show ((i : Int) + 1).toNat = i + 1 by omega]
  | false =>
    rw [hb] at h
    simp only [Bool.false_eq_true, if_false] at h ⊢
    by_cases h1 : remarkL (c :: r) < 0
    · rw [if_pos h1] at h; omega
    · rw [if_neg h1] at h ⊢
      rw [if_neg (by omega), if_neg h1, ← hdr, List.drop_drop]
      congr 2; rw [hdr]; omega
theorem lexL_stop {s : BL} {i : Nat} {c : UInt8} (hc : s[i]? = some c) (h : skipL s i < 0) : lexL (s.drop i) = none := by
  obtain ⟨r, hdr, hr⟩ := drop_cons hc
  unfold skipL at h
  rw [hdr] at h ⊢
  simp only at h
  rw [lexL_cons]
  cases hb : blankB c with
  | true => rw [hb] at h; simp only [if_true] at h; omega
  | false =>
    rw [hb] at h
    simp only [Bool.false_eq_true, if_false] at h ⊢
    by_cases h1 : remarkL (c :: r) < 0
    · rw [if_neg (by omega), if_pos h1]
    · rw [if_neg h1] at h; omega
theorem skipL_same {s : BL} {i : Nat} {c : UInt8} (hc : s[i]? = some c) (h1 : ¬ skipL s i < 0) (h2 : ¬ skipL s i > (i : Nat)) : lexL (s.drop i) = (if (oneL (s.drop i)).2 < 0 then none else (lexL (s.drop (i + (oneL (s.drop i)).2.toNat))).map ((oneL (s.drop i)).1 :: ·)) := by
  obtain ⟨r, hdr, hr⟩ := drop_cons hc
  unfold skipL at h1 h2
  rw [← List.drop_drop]
  rw [hdr] at h1 h2 ⊢
  simp only at h1 h2
  rw [lexL_cons]
  cases hb : blankB c with
  | true => rw [hb] at h2; simp only [if_true] at h2; omega
  | false =>
    rw [hb] at h1 h2
    simp only [Bool.false_eq_true, if_false] at h1 h2 ⊢
    by_cases h3 : remarkL (c :: r) < 0
    · rw [if_pos h3] at h1; omega
    · rw [if_neg h3] at h2
      rw [if_pos (by omega)]
theorem skipL_le {s : BL} {i : Nat} {c : UInt8} (hc : s[i]? = some c) : skipL s i ≤ s.length := by
  obtain ⟨r, hdr, hr⟩ := drop_cons hc
  have hil : i < s.length := (List.getElem?_eq_some_iff.1 hc).1
  have hlen : (s.drop i).length = s.length - i := List.length_drop
  have := remarkL_le c r
  rw [← hdr, hlen] at this
  unfold skipL
  rw [hdr]
  simp only
  split
  · omega
  · split
    · omega
    · rw [← hdr]; omega
theorem T72 (w0 : World) (s : BL) (hs : s.length ≤ 9223372036854775807) : Tri Tryz.prog w0 72 [SV s] [] fun v m => ∃ A c, v = .tuple #[.slice A (lexR s).1.length c, .int .i64 (lexR s).2] ∧ m = [Row tE 154 2 A c (lexR s).1] := by
 refine tri_k Tryz.func72 rfl rfl fun F => ?_
 simp only [Tryz.ntmps72, argEnv, List.nil_append]
 by_cases hlong : 200 < s.length
 ·have hi : decide ((s.length : Int) > 200) = true := decide_eq_true (by omega)
  have e : lexR s = ([], 4) := by unfold lexR; rw [if_pos hlong]
  refine at_rowNil tE 154 2 ?_
  refine zH fun zq zQ => ?_
  refine zC 14 rfl ?_
  refine zcT rfl (decide_eq_true (by omega)) ?_
  refine zC 8 rfl ?_
  refine zQ ?_
  refine at_end ?_
  refine at_fin (rsL (vs := [_, _]) rfl ⟨res_tmp rfl, res_tmp rfl, trivial⟩ rfl) ?_
  refine ⟨_, ⟨none, 0, by rw [e]; rfl, rfl⟩, ?_⟩
  try rw [e]
  exact zE [0] []
 ·have hi : decide ((s.length : Int) > 200) = false := decide_eq_false (by omega)
  have e : lexR s = match lexL s with | some ts => (ts, 0) | none => ([], 2) := by unfold lexR; rw [if_neg hlong]; cases lexL s <;> rfl
  refine zH fun zq zQ => ?_
  refine zC 14 rfl ?_
  refine zcF rfl (decide_eq_false (by omega)) ?_
  refine zC 4 rfl ?_
  refine zT (ot_buildSlice (cs := []) rfl Tryz.underlying151 rfl rfl rfl rfl rfl rfl) ?_
  rintro _ _ ⟨g0, rfl, rfl⟩
  refine zO 10 rfl ?_
  refine at_rowOf (c := 0) (size := 2) tE 0 [] rfl (by simp) (by simp) (by decide) (by simp) rfl ?_
  simp only [setAt]
  refine at_loopK [13, 14, 15, 16, 17, 18, 19, 6, 20, 21, 2, 3, 22, 23, 24, 25, 5, 27, 28, 29, 26, 30, 31, 7, 8, 32, 33, 34, 35, 36, 37, 4, 38] (fun i : Nat × List Tok × Option Addr × Nat => i.1 ≤ s.length ∧ i.2.1.length ≤ i.1 ∧ lexL s = (lexL (s.drop i.1)).map (i.2.1 ++ ·)) (fun i => [(5, .int .i64 (i.1 : Nat)), (4, .slice i.2.2.1 i.2.1.length i.2.2.2)]) (fun i m => setAt 0 (Row tE 154 2 i.2.2.1 i.2.2.2 i.2.1) m) (fun i => s.length - i.1) (0, [], some ⟨g0, 0, none⟩, 0) ⟨Nat.zero_le _, by simp, by rw [List.drop_zero]; cases lexL s <;> simp⟩ ⟨rfl, rfl, trivial⟩ (fun _ s => s) ?_
  rintro ⟨k, ts, A, c⟩ ⟨hk, htl, hinv⟩
  simp only [setAt] at hk htl hinv ⊢
  rcases Nat.lt_or_ge k s.length with hlt | hge
  ·have hi1 : decide ((k : Int) < s.length) = true := decide_eq_true (by omega)
   obtain ⟨b, hb⟩ : ∃ b, s[k]? = some b := ⟨_, List.getElem?_eq_getElem hlt⟩
   have hS := T115 w0 s k b (by omega) hb
   have hT := T116 w0 s k b (by omega) hb
   have hsl := skipL_le hb
   obtain ⟨r, hdr, hr⟩ := drop_cons hb
   have hol := oneL_le (c := b) (r := r)
   have hlen : (s.drop k).length = s.length - k := List.length_drop
   rw [← hdr, hlen] at hol
   by_cases h1 : skipL s k < 0
   ·have hi2 : decide (skipL s k < 0) = true := decide_eq_true h1
    rw [hinv, lexL_stop hb h1] at e
    simp only [Option.map_none] at e
    refine zC 9 rfl ?_
    refine zcT rfl (decide_eq_true (by omega)) ?_
    refine zC 7 rfl ?_
    refine zcall [] rfl rfl rfl Tryz.call115 rfl (hS ) rfl ?_
    simp only [zca, zna, splice, spliceL]
    refine zO 10 rfl ?_
    refine zcT rfl (decide_eq_true (by omega)) ?_
    refine zC 12 rfl ?_
    refine zQ ?_
    refine at_end ?_
    refine at_rowNil tE 154 2 ?_
    refine at_fin (rsL (vs := [_, _]) rfl ⟨res_tmp rfl, res_tmp rfl, trivial⟩ rfl) ?_
    refine ⟨_, ⟨none, 0, by rw [e]; rfl, rfl⟩, ?_⟩
    try rw [e]
    exact zE [0] [0]
   have hi2 : decide (skipL s k < 0) = false := decide_eq_false h1
   by_cases h2 : skipL s k > (k : Nat)
   ·have hi3 : decide (skipL s k > (k : Int)) = true := decide_eq_true h2
    refine zC 9 rfl ?_
    refine zcT rfl (decide_eq_true (by omega)) ?_
    refine zC 7 rfl ?_
    refine zcall [] rfl rfl rfl Tryz.call115 rfl (hS ) rfl ?_
    simp only [zca, zna, splice, spliceL]
    refine zO 10 rfl ?_
    refine zcF rfl (decide_eq_false (by omega)) ?_
    refine zC 10 rfl ?_
    refine zcT rfl (decide_eq_true (by omega)) ?_
    refine zCR 10 rfl ?_
    refine at_roundF ((skipL s k).toNat, ts, A, c) ⟨by simp only; omega, by simp only; omega, by rw [hinv, lexL_skip hb h2]⟩ (by simp only; omega) ⟨look_eq rfl (congrArg (Value.int .i64) (by simp only; omega)), rfl, trivial⟩ rfl ?_
    exact zE [0] []
   have hi3 : decide (skipL s k > (k : Int)) = false := decide_eq_false h2
   have hst := skipL_same hb h1 h2
   by_cases h3 : (oneL (s.drop k)).2 < 0
   ·rw [if_pos h3] at hst hT
    rw [hinv, hst] at e
    simp only [Option.map_none] at e
    refine zC 9 rfl ?_
    refine zcT rfl (decide_eq_true (by omega)) ?_
    refine zC 7 rfl ?_
    refine zcall [] rfl rfl rfl Tryz.call115 rfl (hS ) rfl ?_
    simp only [zca, zna, splice, spliceL]
    refine zO 10 rfl ?_
    refine zcF rfl (decide_eq_false (by omega)) ?_
    refine zC 10 rfl ?_
    refine zcF rfl (decide_eq_false (by omega)) ?_
    refine zC 6 rfl ?_
    refine zcall [] rfl rfl rfl Tryz.call116 rfl (hT ) rfl ?_
    simp only [zca, zna, splice, spliceL]
    refine zO 3 rfl ?_
    refine zA Tryz.zeroValue154 fun g1 => ?_
    refine zS 0 ?_
    simp only [setAt, splice, spliceL, Value.cells]
    refine zO 23 rfl ?_
    refine zQ ?_
    refine at_end ?_
    refine at_rowNil tE 154 2 ?_
    refine at_fin (rsL (vs := [_, _]) rfl ⟨res_tmp rfl, res_tmp rfl, trivial⟩ rfl) ?_
    refine ⟨_, ⟨none, 0, by rw [e]; rfl, rfl⟩, ?_⟩
    try rw [e]
    exact zE [0] [0, 0]
   ·rw [if_neg h3] at hst hT
    have hol2 := hol (by omega)
    have hi4 : decide ((k : Int) + (oneL (s.drop k)).2 < 0) = false := decide_eq_false (by omega)
    refine zC 9 rfl ?_
    refine zcT rfl (decide_eq_true (by omega)) ?_
    refine zC 7 rfl ?_
    refine zcall [] rfl rfl rfl Tryz.call115 rfl (hS ) rfl ?_
    simp only [zca, zna, splice, spliceL]
    refine zO 10 rfl ?_
    refine zcF rfl (decide_eq_false (by omega)) ?_
    refine zC 10 rfl ?_
    refine zcF rfl (decide_eq_false (by omega)) ?_
    refine zC 6 rfl ?_
    refine zcall [] rfl rfl rfl Tryz.call116 rfl (hT ) rfl ?_
    simp only [zca, zna, splice, spliceL]
    refine zO 3 rfl ?_
    refine zA Tryz.zeroValue154 fun g1 => ?_
    refine zS 0 ?_
    simp only [setAt, splice, spliceL, Value.cells]
    refine zO 10 rfl ?_
    refine zcF rfl (decide_eq_false (by omega)) ?_
    refine zCM [(0,_,_,_)] ⟨rfl,trivial⟩ [0] 6 rfl ?_
    refine zT (ot_buildSlice (cs := [_, _]) rfl Tryz.underlying151 rfl rfl rfl rfl rfl rfl) ?_
    rintro _ _ ⟨g2, rfl, rfl⟩
    refine zT (ot_append (k := 2) (size := 2) (bytes := 24) (ys := [(oneL (s.drop k)).1]) (fun _ s => s.rdPt (k := 0) rfl rfl (by simp [tE])) rfl Tryz.underlying151 (ti := Tryz.t154) rfl rfl rfl rfl rfl (by decide) rfl rfl rfl (by simp [tE, Value.oneCell']) (by simp; omega) (by decide)) ?_
    rintro _ _ ⟨A0, c0, rfl, rfl⟩
    simp only [setAt]
    refine zOR 9 rfl ?_
    refine at_roundF (k + (oneL (s.drop k)).2.toNat, ts ++ [(oneL (s.drop k)).1], A0, c0) ⟨by simp only; omega, by simp only [List.length_append, List.length_cons, List.length_nil]; omega, ?_⟩ (by simp only; omega) ⟨look_eq rfl (congrArg (Value.int .i64) (by simp only; omega)), rfl, trivial⟩ rfl ?_
    ·try rw [hinv]
     try rw [hst]
     try rw [Option.map_map]
     congr 1
     funext x
     simp
    exact zE [2] [0, 0]
  ·have hi1 : decide ((k : Int) < s.length) = false := decide_eq_false (by omega)
   rw [List.drop_eq_nil_of_le hge, lexL_nil] at hinv
   simp only [Option.map_some, List.append_nil] at hinv
   rw [hinv] at e
   refine zC 9 rfl ?_
   refine zcF rfl (decide_eq_false (by omega)) ?_
   refine zC 13 rfl ?_
   refine zQ ?_
   refine at_end ?_
   refine at_fin (rsL (vs := [_, _]) rfl ⟨res_tmp rfl, res_tmp rfl, trivial⟩ rfl) ?_
   refine ⟨_, ⟨A, c, by rw [e], rfl⟩, ?_⟩
   try rw [e]
   exact zE [0] []
theorem contains_find (s t : BL) : Lib.contains s t = !decide (findL s t 0 < 0) := by
  unfold findL Lib.contains
  have := Lib.index_ge s t
  rw [List.drop_zero]
  by_cases h : Lib.index s t < 0
  · rw [if_pos h]
    have h2 : ¬ (0 ≤ Lib.index s t) := by omega
    have h3 : Lib.index s t = -1 := by omega
    simp [h2, h3]
  · rw [if_neg h]
    have h2 : 0 ≤ Lib.index s t := by omega
    have h3 : Lib.index s t ≠ -1 := by omega
    simp [h2, h3]
end Go.Proofs.YtighdkdomfpadaaGreatDoor
