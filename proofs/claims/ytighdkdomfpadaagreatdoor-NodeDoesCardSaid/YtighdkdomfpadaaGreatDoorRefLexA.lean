/- The reference of lexing, walked. -/
import Derived.Test.YtighdkdomfpadaaGreatDoorProg
import Derived.Test.YtighdkdomfpadaaGreatDoorLex2
import Derived.Test.YtighdkdomfpadaaGreatDoorLexLen
import Derived.Test.YtighdkdomfpadaaGreatDoorSLB
import Derived.KernelRfl
set_option linter.unusedSimpArgs false
set_option linter.unusedVariables false
set_option maxRecDepth 100000
namespace Go.Proofs.YtighdkdomfpadaaGreatDoor
open Go Go.Proofs.YtighdkdomfpadaaGreatDoor.SL Go.RowKit
theorem T151 (w0 : World) (c : UInt8) : Tri Tryz.prog w0 151 [.int .u8 (c.toNat : Int)] [] fun v m => v = .bool (digitB c) ∧ m = [] := by
 refine tri_k Tryz.func151 rfl rfl fun F => ?_;simp only [Tryz.ntmps151, argEnv, List.nil_append]
 by_cases h1 : 48 ≤ c.toNat
 ·have hi1 : decide ((c.toNat : Int) ≥ 48) = true := decide_eq_true (by omega);refine zH fun zq zQ => ?_;refine zC 10 rfl ?_;refine zru 5 ?_;refine zO 7 rfl ?_;refine zQ ?_;refine at_end ?_;refine zfin ?_;refine ⟨_, ⟨congrArg Value.bool (by simp [digitB, h1]; omega), rfl⟩, ?_⟩;exact zE [] []
 ·have hi1 : decide ((c.toNat : Int) ≥ 48) = false := decide_eq_false (by omega);refine zH fun zq zQ => ?_;refine zC 10 rfl ?_;refine zrg 5 ?_;refine zO 7 rfl ?_;refine zQ ?_;refine at_end ?_;refine zfin ?_;refine ⟨_, ⟨congrArg Value.bool (by simp [digitB, h1]), rfl⟩, ?_⟩;exact zE [] []
theorem T150 (w0 : World) (c : UInt8) : Tri Tryz.prog w0 150 [.int .u8 (c.toNat : Int)] [] fun v m => v = .bool (letterB c) ∧ m = [] := by
 refine tri_k Tryz.func150 rfl rfl fun F => ?_;simp only [Tryz.ntmps150, argEnv, List.nil_append]
 have e2 : ∀ h1 : ¬ (65 ≤ c.toNat ∧ c.toNat ≤ 90), ∀ h2 : ¬ (97 ≤ c.toNat ∧ c.toNat ≤ 122), decide ((c.toNat : Int) = 95) = letterB c := fun h1 h2 => by
  simp only [letterB];have g1 : (decide (65 ≤ c.toNat) && decide (c.toNat ≤ 90)) = false := by simp; omega
  have g2 : (decide (97 ≤ c.toNat) && decide (c.toNat ≤ 122)) = false := by simp; omega
  rw [g1, g2];simp only [Bool.false_or]
  congr 1
  exact propext ⟨fun h => by omega, fun h => by omega⟩
 refine zH fun zq zQ => ?_;refine zC 10 rfl ?_;refine at_bool (t := 5) rfl (fun h0 => ?_) (fun h0 => ?_)
 ·
   simp only [decide_eq_true_eq, decide_eq_false_iff_not, Bool.not_eq_true', Bool.not_eq_false', Int.not_lt, Int.not_le, Bool.and_eq_true, Bool.or_eq_true, Bool.and_eq_false_iff, Bool.or_eq_false_iff, gt_iff_lt, ge_iff_le] at h0;refine zO 4 rfl ?_;refine at_bool (t := 9) rfl (fun h1 => ?_) (fun h1 => ?_)
   ·
     simp only [decide_eq_true_eq, decide_eq_false_iff_not, Bool.not_eq_true', Bool.not_eq_false', Int.not_lt, Int.not_le, Bool.and_eq_true, Bool.or_eq_true, Bool.and_eq_false_iff, Bool.or_eq_false_iff, gt_iff_lt, ge_iff_le] at h1;refine zO 15 rfl ?_;refine zQ ?_;refine at_end ?_;refine zfin ?_;refine ⟨_, ⟨congrArg Value.bool ?_, rfl⟩, ?_⟩
     first | exact e2 (by omega) (by omega) | (simp only [letterB, Bool.or_eq_true, Bool.and_eq_true, decide_eq_true_eq, eq_self_iff_true, true_eq_decide_iff]; omega) | (simp [letterB]; omega)
     exact zE [] []
   ·
     simp only [decide_eq_true_eq, decide_eq_false_iff_not, Bool.not_eq_true', Bool.not_eq_false', Int.not_lt, Int.not_le, Bool.and_eq_true, Bool.or_eq_true, Bool.and_eq_false_iff, Bool.or_eq_false_iff, gt_iff_lt, ge_iff_le] at h1;refine zO 3 rfl ?_;refine at_bool (t := 12) rfl (fun h2 => ?_) (fun h2 => ?_)
     ·
       simp only [decide_eq_true_eq, decide_eq_false_iff_not, Bool.not_eq_true', Bool.not_eq_false', Int.not_lt, Int.not_le, Bool.and_eq_true, Bool.or_eq_true, Bool.and_eq_false_iff, Bool.or_eq_false_iff, gt_iff_lt, ge_iff_le] at h2;refine zO 5 rfl ?_;refine at_bool (t := 17) rfl (fun h3 => ?_) (fun h3 => ?_)
       ·
         simp only [decide_eq_true_eq, decide_eq_false_iff_not, Bool.not_eq_true', Bool.not_eq_false', Int.not_lt, Int.not_le, Bool.and_eq_true, Bool.or_eq_true, Bool.and_eq_false_iff, Bool.or_eq_false_iff, gt_iff_lt, ge_iff_le] at h3;refine zO 7 rfl ?_;refine zQ ?_;refine at_end ?_;refine zfin ?_;refine ⟨_, ⟨congrArg Value.bool ?_, rfl⟩, ?_⟩
         first | exact e2 (by omega) (by omega) | (simp only [letterB, Bool.or_eq_true, Bool.and_eq_true, decide_eq_true_eq, eq_self_iff_true, true_eq_decide_iff]; omega) | (simp [letterB]; omega)
         exact zE [] []
       ·
         simp only [decide_eq_true_eq, decide_eq_false_iff_not, Bool.not_eq_true', Bool.not_eq_false', Int.not_lt, Int.not_le, Bool.and_eq_true, Bool.or_eq_true, Bool.and_eq_false_iff, Bool.or_eq_false_iff, gt_iff_lt, ge_iff_le] at h3;refine zO 7 rfl ?_;refine zQ ?_;refine at_end ?_;refine zfin ?_;refine ⟨_, ⟨congrArg Value.bool ?_, rfl⟩, ?_⟩
         first | exact e2 (by omega) (by omega) | (simp only [letterB, Bool.or_eq_true, Bool.and_eq_true, decide_eq_true_eq, eq_self_iff_true, true_eq_decide_iff]; omega) | (simp [letterB]; omega)
         exact zE [] []
     ·
       simp only [decide_eq_true_eq, decide_eq_false_iff_not, Bool.not_eq_true', Bool.not_eq_false', Int.not_lt, Int.not_le, Bool.and_eq_true, Bool.or_eq_true, Bool.and_eq_false_iff, Bool.or_eq_false_iff, gt_iff_lt, ge_iff_le] at h2;refine zO 12 rfl ?_;refine zQ ?_;refine at_end ?_;refine zfin ?_;refine ⟨_, ⟨congrArg Value.bool ?_, rfl⟩, ?_⟩
       first | exact e2 (by omega) (by omega) | (simp only [letterB, Bool.or_eq_true, Bool.and_eq_true, decide_eq_true_eq, eq_self_iff_true, true_eq_decide_iff]; omega) | (simp [letterB]; omega)
       exact zE [] []
 ·
   simp only [decide_eq_true_eq, decide_eq_false_iff_not, Bool.not_eq_true', Bool.not_eq_false', Int.not_lt, Int.not_le, Bool.and_eq_true, Bool.or_eq_true, Bool.and_eq_false_iff, Bool.or_eq_false_iff, gt_iff_lt, ge_iff_le] at h0;refine zO 7 rfl ?_;refine zrg 12 ?_;refine zO 12 rfl ?_;refine zQ ?_;refine at_end ?_;refine zfin ?_;refine ⟨_, ⟨congrArg Value.bool ?_, rfl⟩, ?_⟩
   first | exact e2 (by omega) (by omega) | (simp only [letterB, Bool.or_eq_true, Bool.and_eq_true, decide_eq_true_eq, eq_self_iff_true, true_eq_decide_iff]; omega) | (simp [letterB]; omega)
   exact zE [] []
theorem T146 (w0 : World) (c : UInt8) : Tri Tryz.prog w0 146 [.int .u8 (c.toNat : Int)] [] fun v m => v = .bool (blankB c) ∧ m = [] := by
 refine tri_k Tryz.func146 rfl rfl fun F => ?_;simp only [Tryz.ntmps146, argEnv, List.nil_append]
 have e2 : ∀ h1 : ¬ c.toNat = 32, ∀ h2 : ¬ c.toNat = 9, ∀ h3 : ¬ c.toNat = 10, decide ((c.toNat : Int) = 13) = blankB c := fun h1 h2 h3 => by
  simp only [blankB, h1, h2, h3, decide_false, Bool.false_or]
  congr 1
  exact propext ⟨fun h => by omega, fun h => by omega⟩
 refine zH fun zq zQ => ?_;refine zC 10 rfl ?_;refine at_bool (t := 5) rfl (fun h0 => ?_) (fun h0 => ?_)
 ·
   simp only [decide_eq_true_eq, decide_eq_false_iff_not, Bool.not_eq_true', Bool.not_eq_false', Int.not_lt, Int.not_le, Bool.and_eq_true, Bool.or_eq_true, Bool.and_eq_false_iff, Bool.or_eq_false_iff, gt_iff_lt, ge_iff_le] at h0;refine zO 15 rfl ?_;refine zQ ?_;refine at_end ?_;refine zfin ?_;refine ⟨_, ⟨congrArg Value.bool ?_, rfl⟩, ?_⟩
   first | exact e2 (by omega) (by omega) (by omega) | (simp only [blankB, Bool.or_eq_true, decide_eq_true_eq, eq_self_iff_true, true_eq_decide_iff]; omega) | (simp [blankB]; omega)
   exact zE [] []
 ·
   simp only [decide_eq_true_eq, decide_eq_false_iff_not, Bool.not_eq_true', Bool.not_eq_false', Int.not_lt, Int.not_le, Bool.and_eq_true, Bool.or_eq_true, Bool.and_eq_false_iff, Bool.or_eq_false_iff, gt_iff_lt, ge_iff_le] at h0;refine zO 4 rfl ?_;refine at_bool (t := 9) rfl (fun h1 => ?_) (fun h1 => ?_)
   ·
     simp only [decide_eq_true_eq, decide_eq_false_iff_not, Bool.not_eq_true', Bool.not_eq_false', Int.not_lt, Int.not_le, Bool.and_eq_true, Bool.or_eq_true, Bool.and_eq_false_iff, Bool.or_eq_false_iff, gt_iff_lt, ge_iff_le] at h1;refine zO 11 rfl ?_;refine zQ ?_;refine at_end ?_;refine zfin ?_;refine ⟨_, ⟨congrArg Value.bool ?_, rfl⟩, ?_⟩
     first | exact e2 (by omega) (by omega) (by omega) | (simp only [blankB, Bool.or_eq_true, decide_eq_true_eq, eq_self_iff_true, true_eq_decide_iff]; omega) | (simp [blankB]; omega)
     exact zE [] []
   ·
     simp only [decide_eq_true_eq, decide_eq_false_iff_not, Bool.not_eq_true', Bool.not_eq_false', Int.not_lt, Int.not_le, Bool.and_eq_true, Bool.or_eq_true, Bool.and_eq_false_iff, Bool.or_eq_false_iff, gt_iff_lt, ge_iff_le] at h1;refine zO 4 rfl ?_;refine at_bool (t := 13) rfl (fun h2 => ?_) (fun h2 => ?_)
     ·
       simp only [decide_eq_true_eq, decide_eq_false_iff_not, Bool.not_eq_true', Bool.not_eq_false', Int.not_lt, Int.not_le, Bool.and_eq_true, Bool.or_eq_true, Bool.and_eq_false_iff, Bool.or_eq_false_iff, gt_iff_lt, ge_iff_le] at h2;refine zO 7 rfl ?_;refine zQ ?_;refine at_end ?_;refine zfin ?_;refine ⟨_, ⟨congrArg Value.bool ?_, rfl⟩, ?_⟩
       first | exact e2 (by omega) (by omega) (by omega) | (simp only [blankB, Bool.or_eq_true, decide_eq_true_eq, eq_self_iff_true, true_eq_decide_iff]; omega) | (simp [blankB]; omega)
       exact zE [] []
     ·
       simp only [decide_eq_true_eq, decide_eq_false_iff_not, Bool.not_eq_true', Bool.not_eq_false', Int.not_lt, Int.not_le, Bool.and_eq_true, Bool.or_eq_true, Bool.and_eq_false_iff, Bool.or_eq_false_iff, gt_iff_lt, ge_iff_le] at h2;refine zO 7 rfl ?_;refine zQ ?_;refine at_end ?_;refine zfin ?_;refine ⟨_, ⟨congrArg Value.bool ?_, rfl⟩, ?_⟩
       first | exact e2 (by omega) (by omega) (by omega) | (simp only [blankB, Bool.or_eq_true, decide_eq_true_eq, eq_self_iff_true, true_eq_decide_iff]; omega) | (simp [blankB]; omega)
       exact zE [] []
theorem hasPrefix_at (s t : BL) (i : Nat) (ht : 1 ≤ t.length) : Lib.hasPrefix (s.drop i) t = (decide (i + t.length ≤ s.length) && decide ((s.take (i + t.length)).drop i = t)) := by
  unfold Lib.hasPrefix
  rw [Bool.eq_iff_iff];simp only [List.isPrefixOf_iff_prefix, Bool.and_eq_true, decide_eq_true_eq]
  constructor
  · intro h;have hl := h.length_le;rw [List.length_drop] at hl;refine ⟨by omega, ?_⟩;rw [List.prefix_iff_eq_take] at h;rw [List.drop_take, Nat.add_sub_cancel_left];exact h.symm
  · rintro ⟨h1, h2⟩;rw [List.drop_take, Nat.add_sub_cancel_left] at h2;rw [List.prefix_iff_eq_take];exact h2.symm
theorem T147 (w0 : World) (s t : BL) (i : Nat) (hs : s.length ≤ 140737488351232) (ht : 1 ≤ t.length) (ht2 : t.length ≤ 100) (hi : i ≤ 140737488351232) : Tri Tryz.prog w0 147 [SV s, SV t, .int .i64 (i : Nat)] [] fun v m => v = .bool (Lib.hasPrefix (s.drop i) t) ∧ m = [] := by
 refine tri_k Tryz.func147 rfl rfl fun F => ?_;simp only [Tryz.ntmps147, argEnv, List.nil_append];rw [hasPrefix_at s t i ht];have ec : (i : Int) + t.length = ((i + t.length : Nat) : Int) := by omega
 by_cases h : i + t.length ≤ s.length
 ·have hi1 : decide ((i : Int) + t.length ≤ s.length) = true := decide_eq_true (by omega);refine zH fun zq zQ => ?_;refine zC 10 rfl ?_;refine zV zI ?_;refine zO 4 rfl ?_;refine zru 14 ?_;refine zO 5 rfl ?_;refine at_wanted (j := 7) rfl ?_;refine zV zI ?_;refine at_wanted (j := 7) rfl ?_;refine zV (ov_sliceMidL rfl Tryz.underlying9 rfl rfl rfl rfl rfl (by first | assumption | omega | (simp only [zla, zlc, zln]; omega) | (simp; done) | (simp; omega)) (by first | assumption | omega | (simp only [zla, zlc, zln]; omega) | (simp; done) | (simp; omega))) ?_;refine zO 7 rfl ?_;refine zQ ?_;refine at_end ?_;refine zfin ?_;refine ⟨_, ⟨?_, rfl⟩, ?_⟩
  ·have e : ((i : Int) + t.length).toNat = i + t.length := by omega
   simp only [e, h, decide_true, Bool.true_and]
  exact zE [] []
 ·have hi1 : decide ((i : Int) + t.length ≤ s.length) = false := decide_eq_false (by omega);refine zH fun zq zQ => ?_;refine zC 10 rfl ?_;refine zV zI ?_;refine zO 4 rfl ?_;refine zrg 14 ?_;refine zO 14 rfl ?_;refine zQ ?_;refine at_end ?_;refine zfin ?_;refine ⟨_, ⟨by simp [h], rfl⟩, ?_⟩;exact zE [] []
def findL (s t : BL) (i : Nat) : Int := if Lib.index (s.drop i) t < 0 then -1 else (i : Nat) + Lib.index (s.drop i) t
theorem index_neg {s t : BL} (h : s.length < t.length) : Lib.index s t < 0 := by
  induction s with
  | nil => unfold Lib.index; cases t <;> simp at h ⊢
  | cons a s ih =>
    simp only [List.length_cons] at h;have := ih (by omega);have hge := Lib.index_ge s t;have hm : Lib.index s t = -1 := by omega
    unfold Lib.index
    rw [hm]
    by_cases hp : t.isPrefixOf (a :: s) = true
    · have := (List.isPrefixOf_iff_prefix.1 hp).length_le;simp only [List.length_cons] at this; omega
    · rw [if_neg hp]; simp
theorem findL_step {s t : BL} {i : Nat} (h : i < s.length) (hp : Lib.hasPrefix (s.drop i) t = false) : findL s t i = findL s t (i + 1) := by
  unfold findL
  have e : Lib.index (s.drop i) t = if Lib.index (s.drop (i + 1)) t == -1 then -1 else Lib.index (s.drop (i + 1)) t + 1 := by
    rw [List.drop_eq_getElem_cons h]
    conv => lhs; unfold Lib.index
    rw [List.drop_eq_getElem_cons h] at hp
    unfold Lib.hasPrefix at hp
    rw [if_neg (by rw [hp]; simp)]
  have hge := Lib.index_ge (s.drop (i + 1)) t;rw [e]
  by_cases hm : Lib.index (s.drop (i + 1)) t = -1
  · rw [hm]; simp
  · have hm2 : ¬ (Lib.index (s.drop (i + 1)) t == -1) = true := by simpa using hm
    rw [if_neg hm2, if_neg (by omega), if_neg (by omega)]; omega
theorem findL_hit {s t : BL} {i : Nat} (ht : 1 ≤ t.length) (hp : Lib.hasPrefix (s.drop i) t = true) : findL s t i = (i : Nat) := by
  unfold findL
  have hl := (List.isPrefixOf_iff_prefix.1 hp).length_le
  cases hd : s.drop i with
  | nil => rw [hd] at hl; simp only [List.length_nil] at hl; omega
  | cons a r =>
    rw [hd] at hp
    have : Lib.index (a :: r) t = 0 := by
      unfold Lib.index
      rw [if_pos (show t.isPrefixOf (a :: r) = true from hp)]
    rw [this]; simp
theorem findL_miss {s t : BL} {i : Nat} (h : s.length < i + t.length) (ht : 1 ≤ t.length) : findL s t i = -1 := by
  unfold findL
  rw [if_pos (index_neg (by rw [List.length_drop]; omega))]
theorem T148 (w0 : World) (s t : BL) (i : Nat) (hs : s.length ≤ 140737488351232) (ht : 1 ≤ t.length) (ht2 : t.length ≤ 100) (hi : i ≤ 140737488351234) : Tri Tryz.prog w0 148 [SV s, SV t, .int .i64 (i : Nat)] [] fun v m => v = .int .i64 (findL s t i) ∧ m = [] := by
 refine tri_k Tryz.func148 rfl rfl fun F => ?_;simp only [Tryz.ntmps148, argEnv, List.nil_append];refine zH fun zq zQ => ?_;refine zC 13 rfl ?_;refine at_loopK [9, 10, 11, 12, 13, 14, 15, 18, 19, 20, 21, 22, 23, 24, 25, 26, 27, 6, 16, 17, 7] (fun k => i ≤ k ∧ k ≤ 281474976710600 ∧ findL s t i = findL s t k) (fun k => [(7, .int .i64 (k : Nat))]) (fun _ m => m) (fun k => 281474976710600 - k) i ⟨Nat.le_refl _, by omega, rfl⟩ ⟨rfl, trivial⟩ (fun _ s => s) ?_;rintro k ⟨hk, hk2, hf⟩
 by_cases h : k + t.length ≤ s.length
 ·have hi1 : decide ((k : Int) + t.length ≤ s.length) = true := decide_eq_true (by omega);have e : ((k : Int) + t.length).toNat = k + t.length := by omega
  have hpa := hasPrefix_at s t k ht;simp only [h, decide_true, Bool.true_and] at hpa
  cases hp : Lib.hasPrefix (s.drop k) t with
  | true =>
   rw [hp] at hpa;have hi2 : decide ((s.take ((k : Int) + t.length).toNat).drop k = t) = true := by rw [e]; exact hpa.symm
   refine zC 6 rfl ?_;refine zV zI ?_;refine zO 5 rfl ?_;refine zu ?_;refine zC 11 rfl ?_;refine zV zI ?_;refine zV (ov_sliceMidL rfl Tryz.underlying9 rfl rfl rfl rfl rfl (by first | assumption | omega | (simp only [zla, zlc, zln]; omega) | (simp; done) | (simp; omega)) (by first | assumption | omega | (simp only [zla, zlc, zln]; omega) | (simp; done) | (simp; omega))) ?_;refine zO 4 rfl ?_;refine zt ?_;refine zC 12 rfl ?_;refine zQ ?_;refine at_end ?_;refine zfin ?_;refine ⟨_, ⟨by rw [hf, findL_hit ht hp], rfl⟩, ?_⟩;exact zE [] []
  | false =>
   rw [hp] at hpa;have hi2 : decide ((s.take ((k : Int) + t.length).toNat).drop k = t) = false := by rw [e]; exact hpa.symm
   refine zC 6 rfl ?_;refine zV zI ?_;refine zO 5 rfl ?_;refine zu ?_;refine zC 11 rfl ?_;refine zV zI ?_;refine zV (ov_sliceMidL rfl Tryz.underlying9 rfl rfl rfl rfl rfl (by first | assumption | omega | (simp only [zla, zlc, zln]; omega) | (simp; done) | (simp; omega)) (by first | assumption | omega | (simp only [zla, zlc, zln]; omega) | (simp; done) | (simp; omega))) ?_;refine zO 4 rfl ?_;refine zf ?_;refine zC 5 rfl ?_;refine zV zI ?_;refine zOR 3 rfl ?_;refine at_roundF (k + 1) ⟨by omega, by omega, by rw [hf, findL_step (by omega) hp]⟩ (by omega) ⟨rfl, trivial⟩ rfl ?_;exact zE [] []
 ·have hi1 : decide ((k : Int) + t.length ≤ s.length) = false := decide_eq_false (by omega);refine zC 6 rfl ?_;refine zV zI ?_;refine zO 5 rfl ?_;refine zg ?_;refine zC 11 rfl ?_;refine zQ ?_;refine at_end ?_;refine zfin ?_;refine ⟨_, ⟨by rw [hf, findL_miss (by omega) ht], rfl⟩, ?_⟩;exact zE [] []
theorem trim_swap (l : BL) : ((l.reverse.dropWhile blankB).reverse).dropWhile blankB = (((l.dropWhile blankB).reverse).dropWhile blankB).reverse := by
  induction l with
  | nil => rfl
  | cons c l ih =>
    by_cases hc : blankB c = true
    · rw [List.dropWhile_cons_of_pos hc, ← ih];rw [List.reverse_cons, List.dropWhile_append]
      by_cases he : (List.dropWhile blankB l.reverse).isEmpty = true
      · have he2 : List.dropWhile blankB l.reverse = [] := by simpa using he
        rw [if_pos he, he2, List.dropWhile_cons_of_pos hc];rfl
      · rw [if_neg he, List.reverse_append];simp only [List.reverse_cons, List.reverse_nil, List.nil_append, List.singleton_append];rw [List.dropWhile_cons_of_pos hc]
    · have hc' : blankB c = false := by simpa using hc
      rw [List.dropWhile_cons_of_neg hc];rw [List.reverse_cons, List.dropWhile_append]
      by_cases he : (List.dropWhile blankB l.reverse).isEmpty = true
      · have he2 : List.dropWhile blankB l.reverse = [] := by simpa using he
        rw [if_pos he, List.dropWhile_cons_of_neg hc];simp [hc']
      · rw [if_neg he, List.reverse_append];simp only [List.reverse_cons, List.reverse_nil, List.nil_append, List.singleton_append];rw [List.dropWhile_cons_of_neg hc]
theorem T149 (w0 : World) (l : BL) (hl : l.length ≤ 140737488351232) : Tri Tryz.prog w0 149 [SV l] [] fun v m => v = SV (Lib.trimS l [32, 9, 10, 13]) ∧ m = [] := by
 refine tri_k Tryz.func149 rfl rfl fun F => ?_;simp only [Tryz.ntmps149, argEnv, List.nil_append];rw [trimS_eq, trim_swap];refine zH fun zq zQ => ?_;refine zC 7 rfl ?_;refine at_loopK [3, 4, 5, 6, 7, 8, 9, 10, 11, 12, 0, 0] (fun r : BL => r.length ≤ l.length ∧ l.dropWhile blankB = r.dropWhile blankB) (fun r => [(0, SV r)]) (fun _ m => m) (fun r => r.length) l ⟨Nat.le_refl _, rfl⟩ ⟨rfl, trivial⟩ (fun _ s => s) ?_;rintro r ⟨hr, he⟩
 cases r with
 | cons c r =>
  have hi1 : decide (((c :: r).length : Int) > 0) = true := decide_eq_true (by simp only [List.length_cons]; omega);have h0 : (c :: r)[0]? = some c := rfl
  cases hc : blankB c with
  | true =>
   refine zC 7 rfl ?_;refine zrt 6 ?_;refine zO 1 rfl ?_;refine at_wanted (j := 3) rfl ?_;refine zV (ov_indexL rfl Tryz.underlying9 rfl rfl h0 (by first | rfl | omega)) ?_;refine at_wanted (j := 3) rfl ?_;refine zcall [] rfl rfl rfl Tryz.call146 rfl (T146 _ _) rfl ?_;simp only [zca, zna, splice, spliceL];refine zO 3 rfl ?_;refine zt ?_;refine zC 5 rfl ?_;refine zV (ov_sliceFromL (k := 1) rfl Tryz.underlying9 rfl rfl rfl (by first | assumption | omega | (simp only [zla, zlc, zln]; omega) | (simp; done) | (simp; omega))) ?_;refine zOR 4 rfl ?_;refine at_roundF r ⟨by simp only [List.length_cons] at hr; omega, by rw [he, List.dropWhile_cons_of_pos hc]⟩ (by simp) ⟨rfl, trivial⟩ rfl ?_;exact zE [] []
  | false =>
   rw [List.dropWhile_cons_of_neg (by rw [hc]; simp)] at he
   try rw [he]
   refine zC 7 rfl ?_;refine zrt 6 ?_;refine zO 1 rfl ?_;refine at_wanted (j := 3) rfl ?_;refine zV (ov_indexL rfl Tryz.underlying9 rfl rfl h0 (by first | rfl | omega)) ?_;refine at_wanted (j := 3) rfl ?_;refine zcall [] rfl rfl rfl Tryz.call146 rfl (T146 _ _) rfl ?_;simp only [zca, zna, splice, spliceL];refine zO 3 rfl ?_;refine zf ?_;refine zC 7 rfl ?_;refine at_loopK [13, 14, 15, 16, 17, 18, 19, 20, 21, 22, 23, 24, 25, 26, 27, 28, 0, 0] (fun q : BL => q.length ≤ 140737488351232 ∧ ((c :: r).reverse.dropWhile blankB).reverse = (q.reverse.dropWhile blankB).reverse) (fun q => [(0, SV q)]) (fun _ m => m) (fun q => q.length) (c :: r) ⟨by omega, rfl⟩ ⟨rfl, trivial⟩ (fun _ s => s) ?_;rintro q ⟨hq, he2⟩
   rcases List.eq_nil_or_concat q with rfl | ⟨q', d, rfl⟩
   ·have hi2 : decide ((([] : BL).length : Int) > 0) = false := by simp
    refine zC 29 rfl ?_;refine zQ ?_;refine at_end ?_;refine zfin ?_;refine ⟨_, ⟨by rw [he, he2]; rfl, rfl⟩, ?_⟩;exact zE [] []
   ·rw [List.concat_eq_append] at hq he2 ⊢;have hlen : (q' ++ [d]).length = q'.length + 1 := by simp
    have hi2 : decide (((q' ++ [d]).length : Int) > 0) = true := decide_eq_true (by omega);have hget : (q' ++ [d])[q'.length]? = some d := by simp
    cases hd : blankB d with
    | true =>
     have htk : (q' ++ [d]).take (((q' ++ [d]).length : Int) - 1).toNat = q' := by
      have e : (((q' ++ [d]).length : Int) - 1).toNat = q'.length := by omega
      rw [e]; simp
     refine zC 7 rfl ?_;refine zru 16 ?_;refine zO 3 rfl ?_;refine at_wanted (j := 3) rfl ?_;refine zV zI ?_;refine at_wanted (j := 3) rfl ?_;refine zV (ov_indexL rfl Tryz.underlying9 rfl rfl hget (by first | rfl | omega)) ?_;refine at_wanted (j := 3) rfl ?_;refine zcall [] rfl rfl rfl Tryz.call146 rfl (T146 _ _) rfl ?_;simp only [zca, zna, splice, spliceL];refine zO 3 rfl ?_;refine zt ?_;refine zC 7 rfl ?_;refine zV zI ?_;refine zV (ov_sliceToL rfl Tryz.underlying9 rfl rfl (Int.toNat_of_nonneg (by omega)).symm (by first | assumption | omega | (simp only [zla, zlc, zln]; omega) | (simp; done) | (simp; omega))) ?_;refine zOR 4 rfl ?_;refine at_roundF q' ⟨by omega, by rw [he2, List.reverse_append]; simp [hd]⟩ (by omega) ⟨look_eq rfl (by rw [htk]), trivial⟩ rfl ?_;exact zE [] []
    | false =>
     refine zC 7 rfl ?_;refine zru 16 ?_;refine zO 3 rfl ?_;refine at_wanted (j := 3) rfl ?_;refine zV zI ?_;refine at_wanted (j := 3) rfl ?_;refine zV (ov_indexL rfl Tryz.underlying9 rfl rfl hget (by first | rfl | omega)) ?_;refine at_wanted (j := 3) rfl ?_;refine zcall [] rfl rfl rfl Tryz.call146 rfl (T146 _ _) rfl ?_;simp only [zca, zna, splice, spliceL];refine zO 3 rfl ?_;refine zf ?_;refine zC 12 rfl ?_;refine zQ ?_;refine at_end ?_;refine zfin ?_;refine ⟨_, ⟨by rw [he, he2, List.reverse_append]; simp [hd], rfl⟩, ?_⟩;exact zE [] []
 | nil =>
  have hi1 : decide ((([] : BL).length : Int) > 0) = false := by simp
  rw [List.dropWhile_nil] at he
  try rw [he]
  refine zC 21 rfl ?_;refine at_loopK [13, 14, 15, 16, 17, 18, 19, 20, 21, 22, 23, 24, 25, 26, 27, 28, 0, 0] (fun q : BL => q.length ≤ 140737488351232 ∧ (([] : BL).reverse.dropWhile blankB).reverse = (q.reverse.dropWhile blankB).reverse) (fun q => [(0, SV q)]) (fun _ m => m) (fun q => q.length) ([] : BL) ⟨by simp, rfl⟩ ⟨rfl, trivial⟩ (fun _ s => s) ?_;rintro q ⟨hq, he2⟩
  rcases List.eq_nil_or_concat q with rfl | ⟨q', d, rfl⟩
  ·have hi2 : decide ((([] : BL).length : Int) > 0) = false := by simp
   refine zC 29 rfl ?_;refine zQ ?_;refine at_end ?_;refine zfin ?_;refine ⟨_, ⟨by rw [he, he2]; rfl, rfl⟩, ?_⟩;exact zE [] []
  ·rw [List.concat_eq_append] at hq he2 ⊢;have hlen : (q' ++ [d]).length = q'.length + 1 := by simp
   have hi2 : decide (((q' ++ [d]).length : Int) > 0) = true := decide_eq_true (by omega);have hget : (q' ++ [d])[q'.length]? = some d := by simp
   cases hd : blankB d with
   | true =>
    have htk : (q' ++ [d]).take (((q' ++ [d]).length : Int) - 1).toNat = q' := by
     have e : (((q' ++ [d]).length : Int) - 1).toNat = q'.length := by omega
     rw [e]; simp
    refine zC 7 rfl ?_;refine zru 16 ?_;refine zO 3 rfl ?_;refine at_wanted (j := 3) rfl ?_;refine zV zI ?_;refine at_wanted (j := 3) rfl ?_;refine zV (ov_indexL rfl Tryz.underlying9 rfl rfl hget (by first | rfl | omega)) ?_;refine at_wanted (j := 3) rfl ?_;refine zcall [] rfl rfl rfl Tryz.call146 rfl (T146 _ _) rfl ?_;simp only [zca, zna, splice, spliceL];refine zO 3 rfl ?_;refine zt ?_;refine zC 7 rfl ?_;refine zV zI ?_;refine zV (ov_sliceToL rfl Tryz.underlying9 rfl rfl (Int.toNat_of_nonneg (by omega)).symm (by first | assumption | omega | (simp only [zla, zlc, zln]; omega) | (simp; done) | (simp; omega))) ?_;refine zOR 4 rfl ?_;refine at_roundF q' ⟨by omega, by rw [he2, List.reverse_append]; simp [hd]⟩ (by omega) ⟨look_eq rfl (by rw [htk]), trivial⟩ rfl ?_;exact zE [] []
   | false =>
    refine zC 7 rfl ?_;refine zru 16 ?_;refine zO 3 rfl ?_;refine at_wanted (j := 3) rfl ?_;refine zV zI ?_;refine at_wanted (j := 3) rfl ?_;refine zV (ov_indexL rfl Tryz.underlying9 rfl rfl hget (by first | rfl | omega)) ?_;refine at_wanted (j := 3) rfl ?_;refine zcall [] rfl rfl rfl Tryz.call146 rfl (T146 _ _) rfl ?_;simp only [zca, zna, splice, spliceL];refine zO 3 rfl ?_;refine zf ?_;refine zC 12 rfl ?_;refine zQ ?_;refine at_end ?_;refine zfin ?_;refine ⟨_, ⟨by rw [he, he2, List.reverse_append]; simp [hd], rfl⟩, ?_⟩;exact zE [] []
theorem T152 (w0 : World) (l : BL) (hl : l.length ≤ 140737488351232) : Tri Tryz.prog w0 152 [SV l] [] fun v m => v = SV (greatL l) ∧ m = [] := by
 refine tri_k Tryz.func152 rfl rfl fun F => ?_;simp only [Tryz.ntmps152, argEnv, List.nil_append];refine zH fun zq zQ => ?_;refine zC 7 rfl ?_;refine zT (ot_buildSlice (cs := []) rfl Tryz.underlying165 rfl rfl rfl rfl rfl rfl) ?_;rintro _ _ ⟨g0, rfl, rfl⟩;refine zO 10 rfl ?_;refine at_rowOf (c := 0) (size := 1) bE 0 [] rfl (by simp) (by simp) (by decide) (by simp) rfl ?_;simp only [setAt];refine at_loopK [7, 8, 9, 10, 13, 14, 15, 5, 16, 17, 18, 19, 20, 21, 22, 23, 24, 25, 26, 27, 3, 11, 12, 4] (fun i : Nat × Option Addr × Nat => i.1 ≤ l.length) (fun i => [(4, .int .i64 (i.1 : Nat)), (3, .slice i.2.1 (greatL (l.take i.1)).length i.2.2)]) (fun i m => setAt 0 (Row bE 5 1 i.2.1 i.2.2 (greatL (l.take i.1))) m) (fun i => l.length - i.1) (0, some ⟨g0, 0, none⟩, 0) (Nat.zero_le _) ⟨rfl, rfl, trivial⟩ (fun _ s => s) ?_;rintro ⟨k, A, c⟩ hk;simp only [setAt] at hk ⊢;have hgl : (greatL (l.take k)).length = k := by simp [greatL]; omega
 rcases Nat.lt_or_ge k l.length with hlt | hge
 ·have hi1 : decide ((k : Int) < l.length) = true := decide_eq_true (by omega);obtain ⟨x, hget⟩ : ∃ x, l[k]? = some x := ⟨_, List.getElem?_eq_getElem hlt⟩;have hms : greatL (l.take (k + 1)) = greatL (l.take k) ++ [greatB x] := map_take_succ greatB hget
  by_cases h1 : 97 ≤ x.toNat ∧ x.toNat ≤ 122
  ·have hi2 : decide ((x.toNat : Int) ≥ 97) = true := decide_eq_true (by omega);have hi3 : decide ((x.toNat : Int) ≤ 122) = true := decide_eq_true (by omega);have hg := great_int x (by omega);rw [if_pos h1] at hg;have ew : IntKind.u8.wrap ((x.toNat : Int) - 32) = ((greatB x).toNat : Int) := by rw [hg]; simp [IntKind.wrap, IntKind.bits, IntKind.signed]; omega
   refine zC 9 rfl ?_;refine zu ?_;refine zC 8 rfl ?_;refine zV (ov_indexL rfl Tryz.underlying9 rfl rfl hget (by first | rfl | omega)) ?_;refine zO 9 rfl ?_;refine zru 18 ?_;refine zO 5 rfl ?_;refine zu ?_;refine zC 9 rfl ?_;refine zT (ot_buildSlice (cs := [_]) rfl Tryz.underlying165 rfl rfl rfl rfl rfl rfl) ?_;rintro _ _ ⟨g1, rfl, rfl⟩;simp only [ew];refine zT (ot_append (k := 1) (size := 1) (bytes := 1) (ys := [greatB x]) (fun _ s => s.rdPt (k := 0) rfl rfl (by simp [bE])) rfl Tryz.underlying165 (ti := Tryz.t5) rfl rfl rfl rfl rfl (by decide) rfl rfl rfl (by simp [bE, Value.oneCell']) (by simp; omega) (by decide)) ?_;rintro _ _ ⟨A0, c0, rfl, rfl⟩;simp only [setAt];refine zO 6 rfl ?_;refine zV zI ?_;refine zOR 3 rfl ?_;refine at_roundF (k + 1, A0, c0) hlt (by simp only; omega) ⟨rfl, look_eq rfl (by simp only [hms]), trivial⟩ rfl ?_;simp only [setAt, hms];exact zE [1] [0]
  ·have hg : greatB x = x := by unfold greatB; rw [if_neg h1]
   rw [hg] at hms
   by_cases h2 : 97 ≤ x.toNat
   ·have hi2 : decide ((x.toNat : Int) ≥ 97) = true := decide_eq_true (by omega);have hi3 : decide ((x.toNat : Int) ≤ 122) = false := decide_eq_false (by omega);refine zC 9 rfl ?_;refine zu ?_;refine zC 8 rfl ?_;refine zV (ov_indexL rfl Tryz.underlying9 rfl rfl hget (by first | rfl | omega)) ?_;refine zO 9 rfl ?_;refine zru 18 ?_;refine zO 5 rfl ?_;refine zg ?_;refine zC 5 rfl ?_;refine zT (ot_buildSlice (cs := [_]) rfl Tryz.underlying165 rfl rfl rfl rfl rfl rfl) ?_;rintro _ _ ⟨g1, rfl, rfl⟩;refine zT (ot_append (k := 1) (size := 1) (bytes := 1) (ys := [x]) (fun _ s => s.rdPt (k := 0) rfl rfl (by simp [bE])) rfl Tryz.underlying165 (ti := Tryz.t5) rfl rfl rfl rfl rfl (by decide) rfl rfl rfl (by simp [bE, Value.oneCell']) (by simp; omega) (by decide)) ?_;rintro _ _ ⟨A0, c0, rfl, rfl⟩;simp only [setAt];refine zO 6 rfl ?_;refine zV zI ?_;refine zOR 3 rfl ?_;refine at_roundF (k + 1, A0, c0) hlt (by simp only; omega) ⟨rfl, look_eq rfl (by simp only [hms]), trivial⟩ rfl ?_;simp only [setAt, hms];exact zE [1] [0]
   ·have hi2 : decide ((x.toNat : Int) ≥ 97) = false := decide_eq_false (by omega);refine zC 9 rfl ?_;refine zu ?_;refine zC 8 rfl ?_;refine zV (ov_indexL rfl Tryz.underlying9 rfl rfl hget (by first | rfl | omega)) ?_;refine zO 9 rfl ?_;refine zrg 18 ?_;refine zO 11 rfl ?_;refine zT (ot_buildSlice (cs := [_]) rfl Tryz.underlying165 rfl rfl rfl rfl rfl rfl) ?_;rintro _ _ ⟨g1, rfl, rfl⟩;refine zT (ot_append (k := 1) (size := 1) (bytes := 1) (ys := [x]) (fun _ s => s.rdPt (k := 0) rfl rfl (by simp [bE])) rfl Tryz.underlying165 (ti := Tryz.t5) rfl rfl rfl rfl rfl (by decide) rfl rfl rfl (by simp [bE, Value.oneCell']) (by simp; omega) (by decide)) ?_;rintro _ _ ⟨A0, c0, rfl, rfl⟩;simp only [setAt];refine zO 6 rfl ?_;refine zV zI ?_;refine zOR 3 rfl ?_;refine at_roundF (k + 1, A0, c0) hlt (by simp only; omega) ⟨rfl, look_eq rfl (by simp only [hms]), trivial⟩ rfl ?_;simp only [setAt, hms];exact zE [1] [0]
 ·have hi1 : decide ((k : Int) < l.length) = false := decide_eq_false (by omega);have hkl : k = l.length := by omega
  subst hkl
  try rw [List.take_length]
  refine zC 9 rfl ?_;refine zg ?_;refine zC 8 rfl ?_;refine zV (ov_bytesStr2 (fun _ s => s.rd (k := 0) rfl) rfl Tryz.underlying165 Tryz.underlying5 Tryz.underlying9 rfl) ?_;refine zO 4 rfl ?_;refine zQ ?_;refine at_end ?_;refine zfin ?_;refine ⟨_, ⟨rfl, rfl⟩, ?_⟩;exact zE [] [0]
theorem T153 (w0 : World) (s : BL) (i : Nat) (q : UInt8) (hs : s.length ≤ 140737488351232) (hq : s[i]? = some q) : Tri Tryz.prog w0 153 [SV s, .int .i64 (i : Nat)] [] fun v m => v = .tuple #[SV (quotR q (s.drop (i + 1))).1, .int .i64 (if (quotR q (s.drop (i + 1))).2 < 0 then -1 else (i : Nat) + (quotR q (s.drop (i + 1))).2)] ∧ m = [] := by
 refine tri_k Tryz.func153 rfl rfl fun F => ?_;simp only [Tryz.ntmps153, argEnv, List.nil_append];have hil : i < s.length := (List.getElem?_eq_some_iff.1 hq).1
 have hq0 : quotR q (s.drop (i + 1)) = match quotI q s (i + 1) [] with | some x => (x.1, ((x.2 : Nat) : Int) - i) | none => ([], -1) := by
  unfold quotI quotR
  cases quotL q (s.drop (i + 1)) with
  | none => rfl
  | some x =>
   simp only [Option.map_some, List.nil_append]
   congr 1
   omega
 refine zH fun zq zQ => ?_;refine zC 10 rfl ?_;refine zV (ov_indexL rfl Tryz.underlying9 rfl rfl hq (by first | rfl | omega)) ?_;refine zO 5 rfl ?_;refine zT (ot_buildSlice (cs := []) rfl Tryz.underlying165 rfl rfl rfl rfl rfl rfl) ?_;rintro _ _ ⟨g0, rfl, rfl⟩;refine zO 6 rfl ?_;refine zV zI ?_;refine zO 5 rfl ?_;refine at_rowOf (c := 0) (size := 1) bE 0 [] rfl (by simp) (by simp) (by decide) (by simp) rfl ?_;simp only [setAt];refine at_loopK [14, 15, 16, 17, 18, 19, 20, 21, 22, 23, 24, 25, 26, 27, 28, 29, 30, 31, 32, 33, 34, 35, 36, 37, 38, 39, 40, 41, 7, 42, 43, 1, 44, 45, 46, 47, 48, 49, 50, 51, 52, 4, 5, 53, 54, 55, 56, 57, 58, 59, 60, 1] (fun j : Nat × BL × Option Addr × Nat => i + 1 ≤ j.1 ∧ j.1 ≤ s.length ∧ j.2.1.length ≤ j.1 ∧ quotI q s (i + 1) [] = quotI q s j.1 j.2.1) (fun j => [(1, .int .i64 (j.1 : Nat)), (7, .slice j.2.2.1 j.2.1.length j.2.2.2)]) (fun j m => setAt 0 (Row bE 5 1 j.2.2.1 j.2.2.2 j.2.1) m) (fun j => s.length - j.1) (i + 1, [], some ⟨g0, 0, none⟩, 0) ⟨Nat.le_refl _, hil, by simp, rfl⟩ ⟨look_eq rfl (congrArg (Value.int .i64) (by simp only; omega)), rfl, trivial⟩ (fun _ s => s) ?_;rintro ⟨k, acc, A, c⟩ ⟨hk1, hk, hka, hqi⟩;simp only [setAt] at hk1 hk hka hqi ⊢;have fin : ∀ x : Nat, quotI q s k acc = some (acc, x) → i ≤ x → quotR q (s.drop (i + 1)) = (acc, (x : Int) - i) := fun x hx _ => by rw [hq0, hqi, hx]
 rcases Nat.lt_or_ge k s.length with hlt | hge
 ·have hi1 : decide ((k : Int) < s.length) = true := decide_eq_true (by omega);obtain ⟨c1, hc⟩ : ∃ c, s[k]? = some c := ⟨_, List.getElem?_eq_getElem hlt⟩
  by_cases hcq : c1 = q
  ·subst hcq;have hi2 : decide ((c1.toNat : Int) = (c1.toNat : Int)) = true := by simp
   rcases Nat.lt_or_ge (k + 1) s.length with hlt2 | hge2
   ·have hi3 : decide ((k : Int) + 1 < s.length) = true := decide_eq_true (by omega);obtain ⟨d, hd⟩ : ∃ d, s[k + 1]? = some d := ⟨_, List.getElem?_eq_getElem hlt2⟩
    by_cases hdq : d = c1
    ·subst hdq;have hstep := quotI_two (acc := acc) hc hd;have hk2 : k + 2 ≤ s.length := by omega
     refine zC 9 rfl ?_;refine zu ?_;refine zC 8 rfl ?_;refine zV (ov_indexL rfl Tryz.underlying9 rfl rfl hc (by first | rfl | omega)) ?_;refine zO 3 rfl ?_;refine zru 23 ?_;refine zO 1 rfl ?_;refine at_wanted (j := 5) rfl ?_;refine zV zI ?_;refine zO 5 rfl ?_;refine zru 30 ?_;refine zO 2 rfl ?_;refine at_wanted (j := 12) rfl ?_;refine zV zI ?_;refine at_wanted (j := 12) rfl ?_;refine zV (ov_indexL rfl Tryz.underlying9 rfl rfl hd (by first | rfl | omega)) ?_;refine zO 5 rfl ?_;refine zu ?_;refine zC 4 rfl ?_;refine zT (ot_buildSlice (cs := [_]) rfl Tryz.underlying165 rfl rfl rfl rfl rfl rfl) ?_;rintro _ _ ⟨g1, rfl, rfl⟩;refine zT (ot_append (k := 1) (size := 1) (bytes := 1) (ys := [d]) (fun _ s => s.rdPt (k := 0) rfl rfl (by simp [bE])) rfl Tryz.underlying165 (ti := Tryz.t5) rfl rfl rfl rfl rfl (by decide) rfl rfl rfl (by simp [bE, Value.oneCell']) (by simp; omega) (by decide)) ?_;rintro _ _ ⟨A0, c0, rfl, rfl⟩;simp only [setAt];refine zO 6 rfl ?_;refine zV zI ?_;refine zOR 7 rfl ?_;refine at_roundF (k + 2, acc ++ [d], A0, c0) ⟨by simp only; omega, hk2, by simp only [List.length_append, List.length_cons, List.length_nil]; omega, by rw [hqi]; exact hstep⟩ (by simp only; omega) ⟨look_eq rfl (congrArg (Value.int .i64) (by simp only; omega)), rfl, trivial⟩ rfl ?_;exact zE [1] [0]
    ·have hne : ¬ ((d.toNat : Int) = (c1.toNat : Int)) := fun e => hdq (UInt8.toNat_inj.1 (by omega));have hi4 : decide ((d.toNat : Int) = (c1.toNat : Int)) = false := by simp [hne]
     have hend : quotI c1 s k acc = some (acc, 1 + k) := by
      unfold quotI
      try rw [quotL_end hc (fun e he => by rw [hd] at he; cases he; exact hdq)]
      simp
     have hfin := fin _ hend (by omega);refine zC 9 rfl ?_;refine zu ?_;refine zC 8 rfl ?_;refine zV (ov_indexL rfl Tryz.underlying9 rfl rfl hc (by first | rfl | omega)) ?_;refine zO 3 rfl ?_;refine zru 23 ?_;refine zO 1 rfl ?_;refine at_wanted (j := 5) rfl ?_;refine zV zI ?_;refine zO 5 rfl ?_;refine zru 30 ?_;refine zO 2 rfl ?_;refine at_wanted (j := 12) rfl ?_;refine zV zI ?_;refine at_wanted (j := 12) rfl ?_;refine zV (ov_indexL rfl Tryz.underlying9 rfl rfl hd (by first | rfl | omega)) ?_;refine zO 5 rfl ?_;refine zg ?_;refine zC 7 rfl ?_;refine zV (ov_indexL rfl Tryz.underlying9 rfl rfl hc (by first | rfl | omega)) ?_;refine zO 4 rfl ?_;refine zu ?_;refine zC 3 rfl ?_;refine zV (ov_bytesStr2 (fun _ s => s.rd (k := 0) rfl) rfl Tryz.underlying165 Tryz.underlying5 Tryz.underlying9 rfl) ?_;refine zO 1 rfl ?_;refine zV zI ?_;refine zO 10 rfl ?_;refine zQ ?_;refine at_end ?_;refine at_fin (rsL (vs := [_, _]) rfl ⟨res_tmp rfl, res_tmp rfl, trivial⟩ rfl) ?_;refine ⟨_, ⟨?_, rfl⟩, ?_⟩
     ·try rw [hfin]
      simp only;have e : (i : Int) + (((1 + k : Nat) : Int) - i) = (k : Int) + 1 := by omega
      try rw [if_neg (by omega)]
      try rw [e]
     exact zE [] [0]
   ·have hi3 : decide ((k : Int) + 1 < s.length) = false := decide_eq_false (by omega)
    have hend : quotI c1 s k acc = some (acc, 1 + k) := by
     unfold quotI
     try rw [quotL_end hc (fun e he => by have := (List.getElem?_eq_some_iff.1 he).1; omega)]
     simp
    have hfin := fin _ hend (by omega);refine zC 9 rfl ?_;refine zu ?_;refine zC 8 rfl ?_;refine zV (ov_indexL rfl Tryz.underlying9 rfl rfl hc (by first | rfl | omega)) ?_;refine zO 3 rfl ?_;refine zru 23 ?_;refine zO 1 rfl ?_;refine at_wanted (j := 5) rfl ?_;refine zV zI ?_;refine zO 5 rfl ?_;refine zrg 30 ?_;refine zO 17 rfl ?_;refine zV (ov_indexL rfl Tryz.underlying9 rfl rfl hc (by first | rfl | omega)) ?_;refine zO 4 rfl ?_;refine zu ?_;refine zC 3 rfl ?_;refine zV (ov_bytesStr2 (fun _ s => s.rd (k := 0) rfl) rfl Tryz.underlying165 Tryz.underlying5 Tryz.underlying9 rfl) ?_;refine zO 1 rfl ?_;refine zV zI ?_;refine zO 10 rfl ?_;refine zQ ?_;refine at_end ?_;refine at_fin (rsL (vs := [_, _]) rfl ⟨res_tmp rfl, res_tmp rfl, trivial⟩ rfl) ?_;refine ⟨_, ⟨?_, rfl⟩, ?_⟩
    ·try rw [hfin]
     simp only;have e : (i : Int) + (((1 + k : Nat) : Int) - i) = (k : Int) + 1 := by omega
     try rw [if_neg (by omega)]
     try rw [e]
    exact zE [] [0]
  ·have hne : ¬ ((c1.toNat : Int) = (q.toNat : Int)) := fun e => hcq (UInt8.toNat_inj.1 (by omega));have hi2 : decide ((c1.toNat : Int) = (q.toNat : Int)) = false := by simp [hne]
   have hstep := quotI_hit (acc := acc) hc hcq;refine zC 9 rfl ?_;refine zu ?_;refine zC 8 rfl ?_;refine zV (ov_indexL rfl Tryz.underlying9 rfl rfl hc (by first | rfl | omega)) ?_;refine zO 3 rfl ?_;refine zrg 23 ?_;refine zO 24 rfl ?_;refine zV (ov_indexL rfl Tryz.underlying9 rfl rfl hc (by first | rfl | omega)) ?_;refine zO 4 rfl ?_;refine zg ?_;refine zC 7 rfl ?_;refine zV (ov_indexL rfl Tryz.underlying9 rfl rfl hc (by first | rfl | omega)) ?_;refine zT (ot_buildSlice (cs := [_]) rfl Tryz.underlying165 rfl rfl rfl rfl rfl rfl) ?_;rintro _ _ ⟨g1, rfl, rfl⟩;refine zT (ot_append (k := 1) (size := 1) (bytes := 1) (ys := [c1]) (fun _ s => s.rdPt (k := 0) rfl rfl (by simp [bE])) rfl Tryz.underlying165 (ti := Tryz.t5) rfl rfl rfl rfl rfl (by decide) rfl rfl rfl (by simp [bE, Value.oneCell']) (by simp; omega) (by decide)) ?_;rintro _ _ ⟨A0, c0, rfl, rfl⟩;simp only [setAt];refine zO 5 rfl ?_;refine zV zI ?_;refine zOR 4 rfl ?_;refine at_roundF (k + 1, acc ++ [c1], A0, c0) ⟨by simp only; omega, by simp only; omega, by simp only [List.length_append, List.length_cons, List.length_nil]; omega, by rw [hqi]; exact hstep⟩ (by simp only; omega) ⟨look_eq rfl (congrArg (Value.int .i64) (by simp only; omega)), rfl, trivial⟩ rfl ?_;exact zE [1] [0]
 ·have hi1 : decide ((k : Int) < s.length) = false := decide_eq_false (by omega)
  have hend : quotI q s k acc = none := by
   unfold quotI
   try rw [List.drop_eq_nil_of_le hge]
   rfl
  refine zC 9 rfl ?_;refine zg ?_;refine zC 12 rfl ?_;refine zQ ?_;refine at_end ?_;refine at_fin (rsL (vs := [_, _]) rfl ⟨res_tmp rfl, res_tmp rfl, trivial⟩ rfl) ?_;refine ⟨_, ⟨?_, rfl⟩, ?_⟩
  ·rw [hq0, hqi, hend]; rfl
  exact zE [] [0]
def skipL (s : BL) (i : Nat) : Int := match s.drop i with | [] => (i : Nat) | c :: r => if blankB c then (i : Nat) + 1 else if remarkL (c :: r) < 0 then -1 else (i : Nat) + remarkL (c :: r)
theorem indexByte_index (s : BL) (c : UInt8) : Lib.index s [c] = Lib.indexByte s c := by
  induction s with
  | nil => rfl
  | cons a s ih =>
    rw [index_cons, ih]
    conv => rhs; unfold Lib.indexByte
    by_cases h : a = c
    · subst h; simp
    · have h2 : (a == c) = false := by simpa using h
      rw [if_neg h, h2]; rfl
theorem rem_hint {l : BL} (h1 : Lib.hasPrefix l [47, 42, 43] = true) : remarkL l = 0 := by
  unfold remarkL; rw [if_pos (show Lib.hasPrefix l hintsL = true from h1)]
theorem rem_open {l : BL} (h1 : Lib.hasPrefix l [47, 42, 43] = false) (h2 : Lib.hasPrefix l [47, 42] = true) : remarkL l = if Lib.index (l.drop 2) [42, 47] < 0 then -1 else 4 + Lib.index (l.drop 2) [42, 47] := by
  unfold remarkL; rw [if_neg (by rw [show Lib.hasPrefix l hintsL = false from h1]; simp), if_pos (show Lib.hasPrefix l opensL = true from h2)]; rfl
theorem rem_line {l : BL} (h1 : Lib.hasPrefix l [47, 42, 43] = false) (h2 : Lib.hasPrefix l [47, 42] = false) (h3 : (Lib.hasPrefix l [45, 45] || Lib.hasPrefix l [35]) = true) : remarkL l = if Lib.indexByte l 10 < 0 then ((l.length : Nat) : Int) else Lib.indexByte l 10 := by
  unfold remarkL; rw [if_neg (by rw [show Lib.hasPrefix l hintsL = false from h1]; simp), if_neg (by rw [show Lib.hasPrefix l opensL = false from h2]; simp), if_pos h3]
theorem rem_none {l : BL} (h1 : Lib.hasPrefix l [47, 42, 43] = false) (h2 : Lib.hasPrefix l [47, 42] = false) (h3 : (Lib.hasPrefix l [45, 45] || Lib.hasPrefix l [35]) = false) : remarkL l = 0 := by
  unfold remarkL; rw [if_neg (by rw [show Lib.hasPrefix l hintsL = false from h1]; simp), if_neg (by rw [show Lib.hasPrefix l opensL = false from h2]; simp), if_neg (by rw [h3]; simp)]
theorem drop_cons {s : BL} {i : Nat} {c : UInt8} (h : s[i]? = some c) : ∃ r, s.drop i = c :: r ∧ r = s.drop (i + 1) := by
  obtain ⟨h1, h2⟩ := List.getElem?_eq_some_iff.1 h;exact ⟨_, by rw [List.drop_eq_getElem_cons h1, h2], rfl⟩
theorem T115 (w0 : World) (s : BL) (i : Nat) (c : UInt8) (hs : s.length ≤ 140737488351232) (hc : s[i]? = some c) : Tri Tryz.prog w0 115 [SV s, .int .i64 (i : Nat)] [] fun v m => v = .int .i64 (skipL s i) ∧ m = [] := by
 refine tri_k Tryz.func115 rfl rfl fun F => ?_;simp only [Tryz.ntmps115, argEnv, List.nil_append];have hil : i < s.length := (List.getElem?_eq_some_iff.1 hc).1;obtain ⟨r, hdr, hr⟩ := drop_cons hc;have hsk : skipL s i = if blankB c then (i : Int) + 1 else if remarkL (s.drop i) < 0 then -1 else (i : Int) + remarkL (s.drop i) := by unfold skipL; rw [hdr]
 rw [hsk];have hlen : (s.drop i).length = s.length - i := List.length_drop
 cases hb : blankB c with
 | true =>
  refine zH fun zq zQ => ?_;refine zC 10 rfl ?_;refine zV (ov_indexL rfl Tryz.underlying9 rfl rfl hc (by first | rfl | omega)) ?_;refine zcall [] rfl rfl rfl Tryz.call146 rfl (T146 _ _) rfl ?_;simp only [zca, zna, splice, spliceL];refine zO 2 rfl ?_;refine zt ?_;refine zC 3 rfl ?_;refine zV zI ?_;refine zO 5 rfl ?_;refine zQ ?_;refine at_end ?_;refine zfin ?_;refine ⟨_, ⟨by simp, rfl⟩, ?_⟩;exact zE [] []
 | false =>
 have hA1 := T147 w0 s [47, 42] i hs (by decide) (by decide) (by omega);have hA2 := T147 w0 s [47, 42, 43] i hs (by decide) (by decide) (by omega);have hA3 := T147 w0 s [45, 45] i hs (by decide) (by decide) (by omega);have hA4 := T147 w0 s [35] i hs (by decide) (by decide) (by omega);have hF2 := T148 w0 s [42, 47] (i + 2) hs (by decide) (by decide) (by omega);have hF1 := T148 w0 s [10] i hs (by decide) (by decide) (by omega);have hc2 : ((i + 2 : Nat) : Int) = (i : Int) + 2 := by omega
 rw [hc2] at hF2
 have hfl2 : findL s [42, 47] (i + 2) = if Lib.index ((s.drop i).drop 2) [42, 47] < 0 then -1 else (i : Int) + 2 + Lib.index ((s.drop i).drop 2) [42, 47] := by
  unfold findL; rw [List.drop_drop, hc2]
 have hfl1 : findL s [10] i = if Lib.indexByte (s.drop i) 10 < 0 then -1 else (i : Int) + Lib.indexByte (s.drop i) 10 := by
  unfold findL; rw [indexByte_index]
 have hpp : Lib.hasPrefix (s.drop i) [47, 42, 43] = true → Lib.hasPrefix (s.drop i) [47, 42] = true := fun h => by
  unfold Lib.hasPrefix at h ⊢
  rw [List.isPrefixOf_iff_prefix] at h ⊢;exact List.IsPrefix.trans ⟨[43], rfl⟩ h
 cases h1 : Lib.hasPrefix (s.drop i) [47, 42, 43] with
 | true =>
  have h2 := hpp h1
  have h3 : Lib.hasPrefix (s.drop i) [45, 45] = false := by
   cases hx : Lib.hasPrefix (s.drop i) [45, 45] with
   | false => rfl
   | true =>
    rw [hdr] at h2 hx
    unfold Lib.hasPrefix at h2 hx
    simp [List.isPrefixOf] at h2 hx;have := h2.1.trans hx.1.symm;exact absurd this (by decide)
  have h4 : Lib.hasPrefix (s.drop i) [35] = false := by
   cases hx : Lib.hasPrefix (s.drop i) [35] with
   | false => rfl
   | true =>
    rw [hdr] at h2 hx
    unfold Lib.hasPrefix at h2 hx
    simp [List.isPrefixOf] at h2 hx;have := h2.1.trans hx.symm;exact absurd this (by decide)
  refine zH fun zq zQ => ?_;refine zC 10 rfl ?_;refine zV (ov_indexL rfl Tryz.underlying9 rfl rfl hc (by first | rfl | omega)) ?_;refine zcall [] rfl rfl rfl Tryz.call146 rfl (T146 _ _) rfl ?_;simp only [zca, zna, splice, spliceL];refine zO 2 rfl ?_;refine zf ?_;refine zC 7 rfl ?_;refine zcall [] rfl rfl rfl Tryz.call147 rfl (hA1 ) rfl ?_;simp only [zca, zna, splice, spliceL];refine zO 1 rfl ?_;refine zrt 16 ?_;refine zO 2 rfl ?_;refine at_wanted (j := 3) rfl ?_;refine zcall [] rfl rfl rfl Tryz.call147 rfl (hA2 ) rfl ?_;simp only [zca, zna, splice, spliceL];refine zO 4 rfl ?_;refine zcF rfl (by simp [hb, h1, h2, h3, h4]; done) ?_;refine zC 7 rfl ?_;refine zcall [] rfl rfl rfl Tryz.call147 rfl (hA3 ) rfl ?_;simp only [zca, zna, splice, spliceL];refine zO 1 rfl ?_;refine zrf 33 ?_;refine zO 2 rfl ?_;refine at_wanted (j := 3) rfl ?_;refine zcall [] rfl rfl rfl Tryz.call147 rfl (hA4 ) rfl ?_;simp only [zca, zna, splice, spliceL];refine zO 3 rfl ?_;refine zf ?_;refine zC 9 rfl ?_;refine zQ ?_;refine at_end ?_;refine zfin ?_;refine ⟨_, ⟨by rw [rem_hint h1]; simp, rfl⟩, ?_⟩;exact zE [] []
 | false =>
 cases h2 : Lib.hasPrefix (s.drop i) [47, 42] with
 | true =>
  have hge := Lib.index_ge ((s.drop i).drop 2) [42, 47];have hrem := rem_open h1 h2
  by_cases h3 : Lib.index ((s.drop i).drop 2) [42, 47] < 0
  ·rw [if_pos h3] at hfl2 hrem;rw [hfl2] at hF2;refine zH fun zq zQ => ?_;refine zC 10 rfl ?_;refine zV (ov_indexL rfl Tryz.underlying9 rfl rfl hc (by first | rfl | omega)) ?_;refine zcall [] rfl rfl rfl Tryz.call146 rfl (T146 _ _) rfl ?_;simp only [zca, zna, splice, spliceL];refine zO 2 rfl ?_;refine zf ?_;refine zC 7 rfl ?_;refine zcall [] rfl rfl rfl Tryz.call147 rfl (hA1 ) rfl ?_;simp only [zca, zna, splice, spliceL];refine zO 1 rfl ?_;refine zrt 16 ?_;refine zO 2 rfl ?_;refine at_wanted (j := 3) rfl ?_;refine zcall [] rfl rfl rfl Tryz.call147 rfl (hA2 ) rfl ?_;simp only [zca, zna, splice, spliceL];refine zO 4 rfl ?_;refine zcT rfl (by simp [hb, h1, h2]; done) ?_;refine zC 4 rfl ?_;refine zV zI ?_;refine zcall [] rfl rfl rfl Tryz.call148 rfl (hF2 ) rfl ?_;simp only [zca, zna, splice, spliceL];refine zO 19 rfl ?_;refine zQ ?_;refine at_end ?_;refine zfin ?_;refine ⟨_, ⟨by rw [hrem]; simp, rfl⟩, ?_⟩;exact zE [] []
  ·rw [if_neg h3] at hfl2 hrem;rw [hfl2] at hF2;have hix := index_le ((s.drop i).drop 2) [42, 47] (by omega);rw [List.length_drop, hlen] at hix;have hi3 : decide ((i : Int) + 2 + Lib.index ((s.drop i).drop 2) [42, 47] < 0) = false := decide_eq_false (by omega);refine zH fun zq zQ => ?_;refine zC 10 rfl ?_;refine zV (ov_indexL rfl Tryz.underlying9 rfl rfl hc (by first | rfl | omega)) ?_;refine zcall [] rfl rfl rfl Tryz.call146 rfl (T146 _ _) rfl ?_;simp only [zca, zna, splice, spliceL];refine zO 2 rfl ?_;refine zf ?_;refine zC 7 rfl ?_;refine zcall [] rfl rfl rfl Tryz.call147 rfl (hA1 ) rfl ?_;simp only [zca, zna, splice, spliceL];refine zO 1 rfl ?_;refine zrt 16 ?_;refine zO 2 rfl ?_;refine at_wanted (j := 3) rfl ?_;refine zcall [] rfl rfl rfl Tryz.call147 rfl (hA2 ) rfl ?_;simp only [zca, zna, splice, spliceL];refine zO 4 rfl ?_;refine zcT rfl (by simp [hb, h1, h2, hi3]; done) ?_;refine zC 4 rfl ?_;refine zV zI ?_;refine zcall [] rfl rfl rfl Tryz.call148 rfl (hF2 ) rfl ?_;simp only [zca, zna, splice, spliceL];refine zO 10 rfl ?_;refine zg ?_;refine zC 5 rfl ?_;refine zV zI ?_;refine zO 5 rfl ?_;refine zQ ?_;refine at_end ?_;refine zfin ?_;refine ⟨_, ⟨?_, rfl⟩, ?_⟩
   ·rw [hrem]; simp only [Bool.false_eq_true, if_false]; rw [if_neg (by omega)]; congr 1; omega
   exact zE [] []
 | false =>
 have hge := Lib.indexByte_ge (s.drop i) 10
 cases h3 : Lib.hasPrefix (s.drop i) [45, 45] with
 | true =>
  have hrem := rem_line h1 h2 (by rw [h3]; rfl)
  by_cases h4 : Lib.indexByte (s.drop i) 10 < 0
  ·rw [if_pos h4] at hfl1 hrem;rw [hfl1] at hF1;refine zH fun zq zQ => ?_;refine zC 10 rfl ?_;refine zV (ov_indexL rfl Tryz.underlying9 rfl rfl hc (by first | rfl | omega)) ?_;refine zcall [] rfl rfl rfl Tryz.call146 rfl (T146 _ _) rfl ?_;simp only [zca, zna, splice, spliceL];refine zO 2 rfl ?_;refine zf ?_;refine zC 7 rfl ?_;refine zcall [] rfl rfl rfl Tryz.call147 rfl (hA1 ) rfl ?_;simp only [zca, zna, splice, spliceL];refine zO 1 rfl ?_;refine zrf 16 ?_;refine zO 15 rfl ?_;refine zcall [] rfl rfl rfl Tryz.call147 rfl (hA3 ) rfl ?_;simp only [zca, zna, splice, spliceL];refine zO 1 rfl ?_;refine zrt 33 ?_;refine zO 10 rfl ?_;refine zT (ot_buildSlice (cs := [_]) rfl Tryz.underlying165 rfl rfl rfl rfl rfl rfl) ?_;rintro _ _ ⟨g0, rfl, rfl⟩;refine zV (ov_bytesStr2 (bs := [10]) (fun _ s => s.rdPt (k := 0) rfl rfl (by simp [bE])) rfl Tryz.underlying165 Tryz.underlying5 Tryz.underlying9 rfl) ?_;refine zO 1 rfl ?_;refine zcall [] rfl rfl rfl Tryz.call148 rfl (hF1 ) rfl ?_;simp only [zca, zna, splice, spliceL];refine zO 21 rfl ?_;refine zQ ?_;refine at_end ?_;refine zfin ?_;refine ⟨_, ⟨?_, rfl⟩, ?_⟩
   ·rw [hrem, hlen]; simp only [Bool.false_eq_true, if_false]; rw [if_neg (by omega)]; congr 1; omega
   exact zE [] [0]
  ·rw [if_neg h4] at hfl1 hrem;rw [hfl1] at hF1;have hi3 : decide ((i : Int) + Lib.indexByte (s.drop i) 10 < 0) = false := decide_eq_false (by omega);refine zH fun zq zQ => ?_;refine zC 10 rfl ?_;refine zV (ov_indexL rfl Tryz.underlying9 rfl rfl hc (by first | rfl | omega)) ?_;refine zcall [] rfl rfl rfl Tryz.call146 rfl (T146 _ _) rfl ?_;simp only [zca, zna, splice, spliceL];refine zO 2 rfl ?_;refine zf ?_;refine zC 7 rfl ?_;refine zcall [] rfl rfl rfl Tryz.call147 rfl (hA1 ) rfl ?_;simp only [zca, zna, splice, spliceL];refine zO 1 rfl ?_;refine zrf 16 ?_;refine zO 15 rfl ?_;refine zcall [] rfl rfl rfl Tryz.call147 rfl (hA3 ) rfl ?_;simp only [zca, zna, splice, spliceL];refine zO 1 rfl ?_;refine zrt 33 ?_;refine zO 10 rfl ?_;refine zT (ot_buildSlice (cs := [_]) rfl Tryz.underlying165 rfl rfl rfl rfl rfl rfl) ?_;rintro _ _ ⟨g0, rfl, rfl⟩;refine zV (ov_bytesStr2 (bs := [10]) (fun _ s => s.rdPt (k := 0) rfl rfl (by simp [bE])) rfl Tryz.underlying165 Tryz.underlying5 Tryz.underlying9 rfl) ?_;refine zO 1 rfl ?_;refine zcall [] rfl rfl rfl Tryz.call148 rfl (hF1 ) rfl ?_;simp only [zca, zna, splice, spliceL];refine zO 10 rfl ?_;refine zg ?_;refine zC 10 rfl ?_;refine zQ ?_;refine at_end ?_;refine zfin ?_;refine ⟨_, ⟨?_, rfl⟩, ?_⟩
   ·try rw [hrem]; simp only [Bool.false_eq_true]
    try rw [if_false]; rw [if_neg (by omega)]
   exact zE [] [0]
 | false =>
 cases h5 : Lib.hasPrefix (s.drop i) [35] with
 | true =>
  have hrem := rem_line h1 h2 (by rw [h5]; simp)
  by_cases h4 : Lib.indexByte (s.drop i) 10 < 0
  ·rw [if_pos h4] at hfl1 hrem;rw [hfl1] at hF1;refine zH fun zq zQ => ?_;refine zC 10 rfl ?_;refine zV (ov_indexL rfl Tryz.underlying9 rfl rfl hc (by first | rfl | omega)) ?_;refine zcall [] rfl rfl rfl Tryz.call146 rfl (T146 _ _) rfl ?_;simp only [zca, zna, splice, spliceL];refine zO 2 rfl ?_;refine zf ?_;refine zC 7 rfl ?_;refine zcall [] rfl rfl rfl Tryz.call147 rfl (hA1 ) rfl ?_;simp only [zca, zna, splice, spliceL];refine zO 1 rfl ?_;refine zrf 16 ?_;refine zO 15 rfl ?_;refine zcall [] rfl rfl rfl Tryz.call147 rfl (hA3 ) rfl ?_;simp only [zca, zna, splice, spliceL];refine zO 1 rfl ?_;refine zrf 33 ?_;refine zO 2 rfl ?_;refine at_wanted (j := 3) rfl ?_;refine zcall [] rfl rfl rfl Tryz.call147 rfl (hA4 ) rfl ?_;simp only [zca, zna, splice, spliceL];refine zO 3 rfl ?_;refine zt ?_;refine zC 3 rfl ?_;refine zT (ot_buildSlice (cs := [_]) rfl Tryz.underlying165 rfl rfl rfl rfl rfl rfl) ?_;rintro _ _ ⟨g0, rfl, rfl⟩;refine zV (ov_bytesStr2 (bs := [10]) (fun _ s => s.rdPt (k := 0) rfl rfl (by simp [bE])) rfl Tryz.underlying165 Tryz.underlying5 Tryz.underlying9 rfl) ?_;refine zO 1 rfl ?_;refine zcall [] rfl rfl rfl Tryz.call148 rfl (hF1 ) rfl ?_;simp only [zca, zna, splice, spliceL];refine zO 21 rfl ?_;refine zQ ?_;refine at_end ?_;refine zfin ?_;refine ⟨_, ⟨?_, rfl⟩, ?_⟩
   ·rw [hrem, hlen]; simp only [Bool.false_eq_true, if_false]; rw [if_neg (by omega)]; congr 1; omega
   exact zE [] [0]
  ·rw [if_neg h4] at hfl1 hrem;rw [hfl1] at hF1;have hi3 : decide ((i : Int) + Lib.indexByte (s.drop i) 10 < 0) = false := decide_eq_false (by omega);refine zH fun zq zQ => ?_;refine zC 10 rfl ?_;refine zV (ov_indexL rfl Tryz.underlying9 rfl rfl hc (by first | rfl | omega)) ?_;refine zcall [] rfl rfl rfl Tryz.call146 rfl (T146 _ _) rfl ?_;simp only [zca, zna, splice, spliceL];refine zO 2 rfl ?_;refine zf ?_;refine zC 7 rfl ?_;refine zcall [] rfl rfl rfl Tryz.call147 rfl (hA1 ) rfl ?_;simp only [zca, zna, splice, spliceL];refine zO 1 rfl ?_;refine zrf 16 ?_;refine zO 15 rfl ?_;refine zcall [] rfl rfl rfl Tryz.call147 rfl (hA3 ) rfl ?_;simp only [zca, zna, splice, spliceL];refine zO 1 rfl ?_;refine zrf 33 ?_;refine zO 2 rfl ?_;refine at_wanted (j := 3) rfl ?_;refine zcall [] rfl rfl rfl Tryz.call147 rfl (hA4 ) rfl ?_;simp only [zca, zna, splice, spliceL];refine zO 3 rfl ?_;refine zt ?_;refine zC 3 rfl ?_;refine zT (ot_buildSlice (cs := [_]) rfl Tryz.underlying165 rfl rfl rfl rfl rfl rfl) ?_;rintro _ _ ⟨g0, rfl, rfl⟩;refine zV (ov_bytesStr2 (bs := [10]) (fun _ s => s.rdPt (k := 0) rfl rfl (by simp [bE])) rfl Tryz.underlying165 Tryz.underlying5 Tryz.underlying9 rfl) ?_;refine zO 1 rfl ?_;refine zcall [] rfl rfl rfl Tryz.call148 rfl (hF1 ) rfl ?_;simp only [zca, zna, splice, spliceL];refine zO 10 rfl ?_;refine zg ?_;refine zC 10 rfl ?_;refine zQ ?_;refine at_end ?_;refine zfin ?_;refine ⟨_, ⟨?_, rfl⟩, ?_⟩
   ·try rw [hrem]; simp only [Bool.false_eq_true]
    try rw [if_false]; rw [if_neg (by omega)]
   exact zE [] [0]
 | false =>
  refine zH fun zq zQ => ?_;refine zC 10 rfl ?_;refine zV (ov_indexL rfl Tryz.underlying9 rfl rfl hc (by first | rfl | omega)) ?_;refine zcall [] rfl rfl rfl Tryz.call146 rfl (T146 _ _) rfl ?_;simp only [zca, zna, splice, spliceL];refine zO 2 rfl ?_;refine zf ?_;refine zC 7 rfl ?_;refine zcall [] rfl rfl rfl Tryz.call147 rfl (hA1 ) rfl ?_;simp only [zca, zna, splice, spliceL];refine zO 1 rfl ?_;refine zrf 16 ?_;refine zO 15 rfl ?_;refine zcall [] rfl rfl rfl Tryz.call147 rfl (hA3 ) rfl ?_;simp only [zca, zna, splice, spliceL];refine zO 1 rfl ?_;refine zrf 33 ?_;refine zO 2 rfl ?_;refine at_wanted (j := 3) rfl ?_;refine zcall [] rfl rfl rfl Tryz.call147 rfl (hA4 ) rfl ?_;simp only [zca, zna, splice, spliceL];refine zO 3 rfl ?_;refine zf ?_;refine zC 9 rfl ?_;refine zQ ?_;refine at_end ?_;refine zfin ?_;refine ⟨_, ⟨by rw [rem_none h1 h2 (by rw [h3, h5]; rfl)]; simp, rfl⟩, ?_⟩;exact zE [] []
open Go Go.Proofs.YtighdkdomfpadaaGreatDoor.SL Go.RowKit
theorem T116 (w0 : World) (s : BL) (i : Nat) (c : UInt8) (hs : s.length ≤ 140737488351232) (hc : s[i]? = some c) : Tri Tryz.prog w0 116 [SV s, .int .i64 (i : Nat)] [] fun v m => v = .tuple #[.agg (tE (oneL (s.drop i)).1).toArray, .int .i64 (if (oneL (s.drop i)).2 < 0 then -1 else (i : Int) + (oneL (s.drop i)).2)] ∧ m = [] := by
 refine tri_k Tryz.func116 rfl rfl fun F => ?_;simp only [Tryz.ntmps116, argEnv, List.nil_append];have hil : i < s.length := (List.getElem?_eq_some_iff.1 hc).1;obtain ⟨r, hdr, hr⟩ := drop_cons hc;have hlen : (s.drop i).length = s.length - i := List.length_drop;have hA2 := T147 w0 s [47, 42, 43] i hs (by decide) (by decide) (by omega);have hF3 := T148 w0 s [42, 47] (i + 3) hs (by decide) (by decide) (by omega);have hc3 : ((i + 3 : Nat) : Int) = (i : Int) + 3 := by omega
 rw [hc3] at hF3
 have hfl3 : findL s [42, 47] (i + 3) = if Lib.index ((s.drop i).drop 3) [42, 47] < 0 then -1 else (i : Int) + 3 + Lib.index ((s.drop i).drop 3) [42, 47] := by
  unfold findL; rw [List.drop_drop, hc3]
 have hB := T153 w0 s i c hs hc;rw [← hr] at hB
 cases h1 : Lib.hasPrefix (s.drop i) [47, 42, 43] with
 | true =>
  have hone := oneL_hint hdr h1;have hle : 3 ≤ (s.drop i).length := by simpa using (List.isPrefixOf_iff_prefix.1 h1).length_le
  have hge := Lib.index_ge ((s.drop i).drop 3) [42, 47]
  by_cases h3 : Lib.index ((s.drop i).drop 3) [42, 47] < 0
  ·rw [if_pos h3] at hfl3 hone;rw [hfl3] at hF3;refine zH fun zq zQ => ?_;refine zC 2 rfl ?_;refine zA Tryz.zeroValue154 fun g0 => ?_;refine zO 7 rfl ?_;refine zV (ov_indexL rfl Tryz.underlying9 rfl rfl hc (by first | rfl | omega)) ?_;refine zO 8 rfl ?_;refine zcall [] rfl rfl rfl Tryz.call147 rfl (hA2 ) rfl ?_;simp only [zca, zna, splice, spliceL];refine zO 2 rfl ?_;refine zt ?_;refine zC 4 rfl ?_;refine zV zI ?_;refine zcall [] rfl rfl rfl Tryz.call148 rfl (hF3 ) rfl ?_;simp only [zca, zna, splice, spliceL];refine zO 13 rfl ?_;refine zV (ov_build (cs := [_, _]) rfl rfl rfl rfl) ?_;refine zS 0 ?_;simp only [setAt, splice, spliceL, Value.cells];refine zO 6 rfl ?_;refine zQ ?_;refine at_end ?_;refine at_fin (rsL (vs := [_, _]) rfl ⟨res_cellS (k := 0) (vs := [_, _]) rfl rfl rfl rfl ⟨rfl, rfl, trivial⟩, res_tmp rfl, trivial⟩ rfl) ?_;refine ⟨_, ⟨by rw [hone]; rfl, rfl⟩, ?_⟩;exact zE [] [0]
  ·rw [if_neg h3] at hfl3 hone;rw [hfl3] at hF3;have hix := index_le ((s.drop i).drop 3) [42, 47] (by omega);rw [List.length_drop] at hix;simp only [List.length_cons, List.length_nil] at hix;have hi3 : decide ((i : Int) + 3 + Lib.index ((s.drop i).drop 3) [42, 47] < 0) = false := decide_eq_false (by omega);have ek : ((i : Int) + 3).toNat = i + 3 := by omega
   have ek2 : ((i : Int) + 3 + Lib.index ((s.drop i).drop 3) [42, 47]).toNat = i + 3 + (Lib.index ((s.drop i).drop 3) [42, 47]).toNat := by omega
   have etk : (s.take ((i : Int) + 3 + Lib.index ((s.drop i).drop 3) [42, 47]).toNat).drop ((i : Int) + 3).toNat = ((s.drop i).drop 3).take (Lib.index ((s.drop i).drop 3) [42, 47]).toNat := by
    rw [ek, ek2, List.drop_take, List.drop_drop]
    congr 1; omega
   have hTr := T149 w0 (((s.drop i).drop 3).take (Lib.index ((s.drop i).drop 3) [42, 47]).toNat) (by rw [List.length_take, List.length_drop]; omega);rw [← etk] at hTr;refine zH fun zq zQ => ?_;refine zC 2 rfl ?_;refine zA Tryz.zeroValue154 fun g0 => ?_;refine zO 7 rfl ?_;refine zV (ov_indexL rfl Tryz.underlying9 rfl rfl hc (by first | rfl | omega)) ?_;refine zO 8 rfl ?_;refine zcall [] rfl rfl rfl Tryz.call147 rfl (hA2 ) rfl ?_;simp only [zca, zna, splice, spliceL];refine zO 2 rfl ?_;refine zt ?_;refine zC 4 rfl ?_;refine zV zI ?_;refine zcall [] rfl rfl rfl Tryz.call148 rfl (hF3 ) rfl ?_;simp only [zca, zna, splice, spliceL];refine zO 10 rfl ?_;refine zg ?_;refine zC 6 rfl ?_;refine zV zI ?_;refine zO 1 rfl ?_;refine zV (ov_sliceMidL rfl Tryz.underlying9 rfl rfl rfl (Int.toNat_of_nonneg (by omega)).symm (Int.toNat_of_nonneg (by omega)).symm (by first | assumption | omega | (simp only [zla, zlc, zln]; omega) | (simp; done) | (simp; omega)) (by first | assumption | omega | (simp only [zla, zlc, zln]; omega) | (simp; done) | (simp; omega))) ?_;refine zcall [] rfl rfl rfl Tryz.call149 rfl (hTr ) rfl ?_;simp only [zca, zna, splice, spliceL];refine zV (ov_build (cs := [_, _]) rfl rfl rfl rfl) ?_;refine zO 1 rfl ?_;refine zV zI ?_;refine zS 0 ?_;simp only [setAt, splice, spliceL, Value.cells];refine zO 5 rfl ?_;refine zQ ?_;refine at_end ?_;refine at_fin (rsL (vs := [_, _]) rfl ⟨res_cellS (k := 0) (vs := [_, _]) rfl rfl rfl rfl ⟨rfl, rfl, trivial⟩, res_tmp rfl, trivial⟩ rfl) ?_;refine ⟨_, ⟨?_, rfl⟩, ?_⟩
   ·have e : (i : Int) + 3 + Lib.index ((s.drop i).drop 3) [42, 47] + 2 = (i : Int) + (5 + Lib.index ((s.drop i).drop 3) [42, 47]) := by omega
    try rw [hone]
    try rw [etk]
    try rw [e]
    simp only
    try rw [if_neg (by omega)]
    rfl
   exact zE [] [0]
 | false =>
 have hget : ∀ k, i ≤ k → (s.drop i)[k - i]? = s[k]? := fun k hk => by rw [List.getElem?_drop]; congr 1; omega
 have hmid : ∀ k, i ≤ k → (s.take k).drop i = (s.drop i).take (k - i) := fun k hk => by rw [List.drop_take]
 cases h2 : letterB c with
 | true =>
  have hone := oneL_word hdr h1 h2;refine zH fun zq zQ => ?_;refine zC 2 rfl ?_;refine zA Tryz.zeroValue154 fun g0 => ?_;refine zO 7 rfl ?_;refine zV (ov_indexL rfl Tryz.underlying9 rfl rfl hc (by first | rfl | omega)) ?_;refine zO 8 rfl ?_;refine zcall [] rfl rfl rfl Tryz.call147 rfl (hA2 ) rfl ?_;simp only [zca, zna, splice, spliceL];refine zO 2 rfl ?_;refine zf ?_;refine zC 6 rfl ?_;refine zcall [] rfl rfl rfl Tryz.call150 rfl (T150 _ _) rfl ?_;simp only [zca, zna, splice, spliceL];refine zO 2 rfl ?_;refine zt ?_;refine zC 8 rfl ?_;refine at_loopK [39, 40, 41, 42, 43, 44, 45, 46, 47, 48, 49, 50, 51, 52, 53, 54, 55, 56, 8] (fun k => i ≤ k ∧ k ≤ s.length ∧ ∀ b ∈ (s.drop i).take (k - i), wordB b = true) (fun k => [(8, .int .i64 (k : Nat))]) (fun _ m => m) (fun k => s.length - k) i ⟨Nat.le_refl _, by omega, by simp⟩ ⟨rfl, trivial⟩ (fun _ s => s) ?_;rintro k ⟨hik, hk, hb⟩
  have fin : (∀ b, s[k]? = some b → wordB b = false) → (s.drop i).takeWhile wordB = (s.take k).drop i := fun h => by
   try rw [hmid k hik]
   exact takeWhile_all hb (by omega) (fun b hb => h b (by rw [← hget k hik]; exact hb))
  have hW := T152 w0 ((s.take k).drop i) (by rw [List.length_drop, List.length_take]; omega)
  have done : (s.drop i).takeWhile wordB = (s.take k).drop i → (oneL (s.drop i)) = ((1, greatL ((s.take k).drop i)), ((k : Int) - i)) := fun e => by
   try rw [hone]
   try rw [e]
   congr 1
   rw [List.length_drop, List.length_take]; omega
  rcases Nat.lt_or_ge k s.length with hlt | hge
  ·have hi1 : decide ((k : Int) < s.length) = true := decide_eq_true (by omega);obtain ⟨d, hd⟩ : ∃ d, s[k]? = some d := ⟨_, List.getElem?_eq_getElem hlt⟩
   have hstep : wordB d = true → ∀ b ∈ (s.drop i).take (k + 1 - i), wordB b = true := fun hw => by
    try rw [show k + 1 - i = (k - i) + 1 by omega]
    exact take_all_succ hb (by rw [hget k hik]; exact hd) hw
   cases hl : letterB d with
   | true =>
    have hw : wordB d = true := by simp [wordB, hl]
    refine zC 8 rfl ?_;refine zru 43 ?_;refine zO 2 rfl ?_;refine at_wanted (j := 4) rfl ?_;refine zV (ov_indexL rfl Tryz.underlying9 rfl rfl hd (by first | rfl | omega)) ?_;refine at_wanted (j := 4) rfl ?_;refine zcall [] rfl rfl rfl Tryz.call150 rfl (T150 _ _) rfl ?_;simp only [zca, zna, splice, spliceL];refine zO 1 rfl ?_;refine zrt 48 ?_;refine zO 14 rfl ?_;refine zV zI ?_;refine zOR 4 rfl ?_;refine at_roundF (k + 1) ⟨by omega, hlt, hstep hw⟩ (by omega) ⟨rfl, trivial⟩ rfl ?_;exact zE [0] []
   | false =>
    cases hg : digitB d with
    | true =>
     have hw : wordB d = true := by simp [wordB, hg]
     refine zC 8 rfl ?_;refine zru 43 ?_;refine zO 2 rfl ?_;refine at_wanted (j := 4) rfl ?_;refine zV (ov_indexL rfl Tryz.underlying9 rfl rfl hd (by first | rfl | omega)) ?_;refine at_wanted (j := 4) rfl ?_;refine zcall [] rfl rfl rfl Tryz.call150 rfl (T150 _ _) rfl ?_;simp only [zca, zna, splice, spliceL];refine zO 1 rfl ?_;refine zrf 48 ?_;refine zO 2 rfl ?_;refine at_wanted (j := 9) rfl ?_;refine zV (ov_indexL rfl Tryz.underlying9 rfl rfl hd (by first | rfl | omega)) ?_;refine at_wanted (j := 9) rfl ?_;refine zcall [] rfl rfl rfl Tryz.call151 rfl (T151 _ _) rfl ?_;simp only [zca, zna, splice, spliceL];refine zO 4 rfl ?_;refine zt ?_;refine zC 5 rfl ?_;refine zV zI ?_;refine zOR 4 rfl ?_;refine at_roundF (k + 1) ⟨by omega, hlt, hstep hw⟩ (by omega) ⟨rfl, trivial⟩ rfl ?_;exact zE [0] []
    | false =>
     have hdn := done (fin (fun b hb => by rw [hd] at hb; cases hb; simp [wordB, hl, hg]));refine zC 8 rfl ?_;refine zru 43 ?_;refine zO 2 rfl ?_;refine at_wanted (j := 4) rfl ?_;refine zV (ov_indexL rfl Tryz.underlying9 rfl rfl hd (by first | rfl | omega)) ?_;refine at_wanted (j := 4) rfl ?_;refine zcall [] rfl rfl rfl Tryz.call150 rfl (T150 _ _) rfl ?_;simp only [zca, zna, splice, spliceL];refine zO 1 rfl ?_;refine zrf 48 ?_;refine zO 2 rfl ?_;refine at_wanted (j := 9) rfl ?_;refine zV (ov_indexL rfl Tryz.underlying9 rfl rfl hd (by first | rfl | omega)) ?_;refine at_wanted (j := 9) rfl ?_;refine zcall [] rfl rfl rfl Tryz.call151 rfl (T151 _ _) rfl ?_;simp only [zca, zna, splice, spliceL];refine zO 4 rfl ?_;refine zf ?_;refine zC 10 rfl ?_;refine zV (ov_sliceMidL rfl Tryz.underlying9 rfl rfl rfl rfl rfl (by first | assumption | omega | (simp only [zla, zlc, zln]; omega) | (simp; done) | (simp; omega)) (by first | assumption | omega | (simp only [zla, zlc, zln]; omega) | (simp; done) | (simp; omega))) ?_;refine zcall [] rfl rfl rfl Tryz.call152 rfl (hW ) rfl ?_;simp only [zca, zna, splice, spliceL];refine zV (ov_build (cs := [_, _]) rfl rfl rfl rfl) ?_;refine zO 1 rfl ?_;refine zS 0 ?_;simp only [setAt, splice, spliceL, Value.cells];refine zO 5 rfl ?_;refine zQ ?_;refine at_end ?_;refine at_fin (rsL (vs := [_, _]) rfl ⟨res_cellS (k := 0) (vs := [_, _]) rfl rfl rfl rfl ⟨rfl, rfl, trivial⟩, res_tmp rfl, trivial⟩ rfl) ?_;refine ⟨_, ⟨?_, rfl⟩, ?_⟩
     ·try rw [hdn]
      simp only
      try rw [if_neg (by omega)]
      try rw [show (i : Int) + ((k : Int) - i) = k by omega]
      rfl
     exact zE [] [0]
  ·have hi1 : decide ((k : Int) < s.length) = false := decide_eq_false (by omega);have hdn := done (fin (fun b hb => by have := (List.getElem?_eq_some_iff.1 hb).1; omega));refine zC 8 rfl ?_;refine zrg 43 ?_;refine zO 24 rfl ?_;refine zV (ov_sliceMidL rfl Tryz.underlying9 rfl rfl rfl rfl rfl (by first | assumption | omega | (simp only [zla, zlc, zln]; omega) | (simp; done) | (simp; omega)) (by first | assumption | omega | (simp only [zla, zlc, zln]; omega) | (simp; done) | (simp; omega))) ?_;refine zcall [] rfl rfl rfl Tryz.call152 rfl (hW ) rfl ?_;simp only [zca, zna, splice, spliceL];refine zV (ov_build (cs := [_, _]) rfl rfl rfl rfl) ?_;refine zO 1 rfl ?_;refine zS 0 ?_;simp only [setAt, splice, spliceL, Value.cells];refine zO 5 rfl ?_;refine zQ ?_;refine at_end ?_;refine at_fin (rsL (vs := [_, _]) rfl ⟨res_cellS (k := 0) (vs := [_, _]) rfl rfl rfl rfl ⟨rfl, rfl, trivial⟩, res_tmp rfl, trivial⟩ rfl) ?_;refine ⟨_, ⟨?_, rfl⟩, ?_⟩
   ·try rw [hdn]
    simp only
    try rw [if_neg (by omega)]
    try rw [show (i : Int) + ((k : Int) - i) = k by omega]
    rfl
   exact zE [] [0]
 | false =>
 cases h3 : digitB c with
 | true =>
  have hone := oneL_num hdr h1 h2 h3;refine zH fun zq zQ => ?_;refine zC 2 rfl ?_;refine zA Tryz.zeroValue154 fun g0 => ?_;refine zO 7 rfl ?_;refine zV (ov_indexL rfl Tryz.underlying9 rfl rfl hc (by first | rfl | omega)) ?_;refine zO 8 rfl ?_;refine zcall [] rfl rfl rfl Tryz.call147 rfl (hA2 ) rfl ?_;simp only [zca, zna, splice, spliceL];refine zO 2 rfl ?_;refine zf ?_;refine zC 6 rfl ?_;refine zcall [] rfl rfl rfl Tryz.call150 rfl (T150 _ _) rfl ?_;simp only [zca, zna, splice, spliceL];refine zO 2 rfl ?_;refine zf ?_;refine zC 6 rfl ?_;refine zcall [] rfl rfl rfl Tryz.call151 rfl (T151 _ _) rfl ?_;simp only [zca, zna, splice, spliceL];refine zO 2 rfl ?_;refine zt ?_;refine zC 8 rfl ?_;refine at_loopK [67, 68, 69, 70, 71, 72, 73, 74, 75, 76, 77, 78, 9] (fun k => i ≤ k ∧ k ≤ s.length ∧ ∀ b ∈ (s.drop i).take (k - i), digitB b = true) (fun k => [(9, .int .i64 (k : Nat))]) (fun _ m => m) (fun k => s.length - k) i ⟨Nat.le_refl _, by omega, by simp⟩ ⟨rfl, trivial⟩ (fun _ s => s) ?_;rintro k ⟨hik, hk, hb⟩
  have fin : (∀ b, s[k]? = some b → digitB b = false) → (s.drop i).takeWhile digitB = (s.take k).drop i := fun h => by
   try rw [hmid k hik]
   exact takeWhile_all hb (by omega) (fun b hb => h b (by rw [← hget k hik]; exact hb))
  have done : (s.drop i).takeWhile digitB = (s.take k).drop i → (oneL (s.drop i)) = ((4, (s.take k).drop i), ((k : Int) - i)) := fun e => by
   try rw [hone]
   try rw [e]
   congr 1
   rw [List.length_drop, List.length_take]; omega
  rcases Nat.lt_or_ge k s.length with hlt | hge
  ·have hi1 : decide ((k : Int) < s.length) = true := decide_eq_true (by omega);obtain ⟨d, hd⟩ : ∃ d, s[k]? = some d := ⟨_, List.getElem?_eq_getElem hlt⟩
   have hstep : digitB d = true → ∀ b ∈ (s.drop i).take (k + 1 - i), digitB b = true := fun hw => by
    try rw [show k + 1 - i = (k - i) + 1 by omega]
    exact take_all_succ hb (by rw [hget k hik]; exact hd) hw
   cases hg : digitB d with
   | true =>
    refine zC 8 rfl ?_;refine zru 71 ?_;refine zO 2 rfl ?_;refine at_wanted (j := 4) rfl ?_;refine zV (ov_indexL rfl Tryz.underlying9 rfl rfl hd (by first | rfl | omega)) ?_;refine at_wanted (j := 4) rfl ?_;refine zcall [] rfl rfl rfl Tryz.call151 rfl (T151 _ _) rfl ?_;simp only [zca, zna, splice, spliceL];refine zO 3 rfl ?_;refine zt ?_;refine zC 5 rfl ?_;refine zV zI ?_;refine zOR 4 rfl ?_;refine at_roundF (k + 1) ⟨by omega, hlt, hstep hg⟩ (by omega) ⟨rfl, trivial⟩ rfl ?_;exact zE [0] []
   | false =>
    have hdn := done (fin (fun b hb => by rw [hd] at hb; cases hb; exact hg));refine zC 8 rfl ?_;refine zru 71 ?_;refine zO 2 rfl ?_;refine at_wanted (j := 4) rfl ?_;refine zV (ov_indexL rfl Tryz.underlying9 rfl rfl hd (by first | rfl | omega)) ?_;refine at_wanted (j := 4) rfl ?_;refine zcall [] rfl rfl rfl Tryz.call151 rfl (T151 _ _) rfl ?_;simp only [zca, zna, splice, spliceL];refine zO 3 rfl ?_;refine zf ?_;refine zC 10 rfl ?_;refine zV (ov_sliceMidL rfl Tryz.underlying9 rfl rfl rfl rfl rfl (by first | assumption | omega | (simp only [zla, zlc, zln]; omega) | (simp; done) | (simp; omega)) (by first | assumption | omega | (simp only [zla, zlc, zln]; omega) | (simp; done) | (simp; omega))) ?_;refine zV (ov_build (cs := [_, _]) rfl rfl rfl rfl) ?_;refine zO 1 rfl ?_;refine zS 0 ?_;simp only [setAt, splice, spliceL, Value.cells];refine zO 5 rfl ?_;refine zQ ?_;refine at_end ?_;refine at_fin (rsL (vs := [_, _]) rfl ⟨res_cellS (k := 0) (vs := [_, _]) rfl rfl rfl rfl ⟨rfl, rfl, trivial⟩, res_tmp rfl, trivial⟩ rfl) ?_;refine ⟨_, ⟨?_, rfl⟩, ?_⟩
    ·try rw [hdn]
     simp only
     try rw [if_neg (by omega)]
     try rw [show (i : Int) + ((k : Int) - i) = k by omega]
     rfl
    exact zE [] [0]
  ·have hi1 : decide ((k : Int) < s.length) = false := decide_eq_false (by omega);have hdn := done (fin (fun b hb => by have := (List.getElem?_eq_some_iff.1 hb).1; omega));refine zC 8 rfl ?_;refine zrg 71 ?_;refine zO 18 rfl ?_;refine zV (ov_sliceMidL rfl Tryz.underlying9 rfl rfl rfl rfl rfl (by first | assumption | omega | (simp only [zla, zlc, zln]; omega) | (simp; done) | (simp; omega)) (by first | assumption | omega | (simp only [zla, zlc, zln]; omega) | (simp; done) | (simp; omega))) ?_;refine zV (ov_build (cs := [_, _]) rfl rfl rfl rfl) ?_;refine zO 1 rfl ?_;refine zS 0 ?_;simp only [setAt, splice, spliceL, Value.cells];refine zO 5 rfl ?_;refine zQ ?_;refine at_end ?_;refine at_fin (rsL (vs := [_, _]) rfl ⟨res_cellS (k := 0) (vs := [_, _]) rfl rfl rfl rfl ⟨rfl, rfl, trivial⟩, res_tmp rfl, trivial⟩ rfl) ?_;refine ⟨_, ⟨?_, rfl⟩, ?_⟩
   ·try rw [hdn]
    simp only
    try rw [if_neg (by omega)]
    try rw [show (i : Int) + ((k : Int) - i) = k by omega]
    rfl
   exact zE [] [0]
 | false =>
 by_cases h4 : c.toNat = 39
 ·have hi4 : decide ((c.toNat : Int) = 34) = false := decide_eq_false (by omega);have hi5 : decide ((c.toNat : Int) = 96) = false := decide_eq_false (by omega);have hi6 : decide ((c.toNat : Int) = 39) = true := decide_eq_true (by omega);refine zH fun zq zQ => ?_;refine zC 2 rfl ?_;refine zA Tryz.zeroValue154 fun g0 => ?_;refine zO 7 rfl ?_;refine zV (ov_indexL rfl Tryz.underlying9 rfl rfl hc (by first | rfl | omega)) ?_;refine zO 8 rfl ?_;refine zcall [] rfl rfl rfl Tryz.call147 rfl (hA2 ) rfl ?_;simp only [zca, zna, splice, spliceL];refine zO 2 rfl ?_;refine zf ?_;refine zC 6 rfl ?_;refine zcall [] rfl rfl rfl Tryz.call150 rfl (T150 _ _) rfl ?_;simp only [zca, zna, splice, spliceL];refine zO 2 rfl ?_;refine zf ?_;refine zC 6 rfl ?_;refine zcall [] rfl rfl rfl Tryz.call151 rfl (T151 _ _) rfl ?_;simp only [zca, zna, splice, spliceL];refine zO 2 rfl ?_;refine zf ?_;refine zC 8 rfl ?_;refine zrg 87 ?_;refine zO 5 rfl ?_;refine zg ?_;refine zC 9 rfl ?_;refine zu ?_;refine zC 4 rfl ?_;refine zcall [] rfl rfl rfl Tryz.call153 rfl (hB ) rfl ?_;simp only [zca, zna, splice, spliceL];refine zO 10 rfl ?_;refine zV (ov_build (cs := [_, _]) rfl rfl rfl rfl) ?_;refine zO 1 rfl ?_;refine zS 0 ?_;simp only [setAt, splice, spliceL, Value.cells];refine zO 5 rfl ?_;refine zQ ?_;refine at_end ?_;refine at_fin (rsL (vs := [_, _]) rfl ⟨res_cellS (k := 0) (vs := [_, _]) rfl rfl rfl rfl ⟨rfl, rfl, trivial⟩, res_tmp rfl, trivial⟩ rfl) ?_;refine ⟨_, ⟨by rw [oneL_str hdr h1 h2 h3 h4]; rfl, rfl⟩, ?_⟩;exact zE [] [0]
 by_cases h5 : c.toNat = 34
 ·have hi4 : decide ((c.toNat : Int) = 34) = true := decide_eq_true (by omega);refine zH fun zq zQ => ?_;refine zC 2 rfl ?_;refine zA Tryz.zeroValue154 fun g0 => ?_;refine zO 7 rfl ?_;refine zV (ov_indexL rfl Tryz.underlying9 rfl rfl hc (by first | rfl | omega)) ?_;refine zO 8 rfl ?_;refine zcall [] rfl rfl rfl Tryz.call147 rfl (hA2 ) rfl ?_;simp only [zca, zna, splice, spliceL];refine zO 2 rfl ?_;refine zf ?_;refine zC 6 rfl ?_;refine zcall [] rfl rfl rfl Tryz.call150 rfl (T150 _ _) rfl ?_;simp only [zca, zna, splice, spliceL];refine zO 2 rfl ?_;refine zf ?_;refine zC 6 rfl ?_;refine zcall [] rfl rfl rfl Tryz.call151 rfl (T151 _ _) rfl ?_;simp only [zca, zna, splice, spliceL];refine zO 2 rfl ?_;refine zf ?_;refine zC 8 rfl ?_;refine zru 87 ?_;refine zO 10 rfl ?_;refine zcall [] rfl rfl rfl Tryz.call153 rfl (hB ) rfl ?_;simp only [zca, zna, splice, spliceL];refine zO 10 rfl ?_;refine zV (ov_build (cs := [_, _]) rfl rfl rfl rfl) ?_;refine zO 1 rfl ?_;refine zS 0 ?_;simp only [setAt, splice, spliceL, Value.cells];refine zO 5 rfl ?_;refine zQ ?_;refine at_end ?_;refine at_fin (rsL (vs := [_, _]) rfl ⟨res_cellS (k := 0) (vs := [_, _]) rfl rfl rfl rfl ⟨rfl, rfl, trivial⟩, res_tmp rfl, trivial⟩ rfl) ?_;refine ⟨_, ⟨by rw [oneL_name hdr h1 h2 h3 h4 (.inl h5)]; rfl, rfl⟩, ?_⟩;exact zE [] [0]
 have hi4 : decide ((c.toNat : Int) = 34) = false := decide_eq_false (by omega)
 by_cases h6 : c.toNat = 96
 ·have hi5 : decide ((c.toNat : Int) = 96) = true := decide_eq_true (by omega);refine zH fun zq zQ => ?_;refine zC 2 rfl ?_;refine zA Tryz.zeroValue154 fun g0 => ?_;refine zO 7 rfl ?_;refine zV (ov_indexL rfl Tryz.underlying9 rfl rfl hc (by first | rfl | omega)) ?_;refine zO 8 rfl ?_;refine zcall [] rfl rfl rfl Tryz.call147 rfl (hA2 ) rfl ?_;simp only [zca, zna, splice, spliceL];refine zO 2 rfl ?_;refine zf ?_;refine zC 6 rfl ?_;refine zcall [] rfl rfl rfl Tryz.call150 rfl (T150 _ _) rfl ?_;simp only [zca, zna, splice, spliceL];refine zO 2 rfl ?_;refine zf ?_;refine zC 6 rfl ?_;refine zcall [] rfl rfl rfl Tryz.call151 rfl (T151 _ _) rfl ?_;simp only [zca, zna, splice, spliceL];refine zO 2 rfl ?_;refine zf ?_;refine zC 8 rfl ?_;refine zrg 87 ?_;refine zO 5 rfl ?_;refine zu ?_;refine zC 4 rfl ?_;refine zcall [] rfl rfl rfl Tryz.call153 rfl (hB ) rfl ?_;simp only [zca, zna, splice, spliceL];refine zO 10 rfl ?_;refine zV (ov_build (cs := [_, _]) rfl rfl rfl rfl) ?_;refine zO 1 rfl ?_;refine zS 0 ?_;simp only [setAt, splice, spliceL, Value.cells];refine zO 5 rfl ?_;refine zQ ?_;refine at_end ?_;refine at_fin (rsL (vs := [_, _]) rfl ⟨res_cellS (k := 0) (vs := [_, _]) rfl rfl rfl rfl ⟨rfl, rfl, trivial⟩, res_tmp rfl, trivial⟩ rfl) ?_;refine ⟨_, ⟨by rw [oneL_name hdr h1 h2 h3 h4 (.inr h6)]; rfl, rfl⟩, ?_⟩;exact zE [] [0]
 have hi5 : decide ((c.toNat : Int) = 96) = false := decide_eq_false (by omega);have hi6 : decide ((c.toNat : Int) = 39) = false := decide_eq_false (by omega);have h56 : ¬ (c.toNat = 34 ∨ c.toNat = 96) := by omega
 by_cases h7 : 33 ≤ c.toNat
 ·have hi7 : decide ((c.toNat : Int) ≥ 33) = true := decide_eq_true (by omega)
  by_cases h8 : c.toNat ≤ 126
  ·have hi8 : decide ((c.toNat : Int) ≤ 126) = true := decide_eq_true (by omega)
   have etk : (s.take (i + 1)).drop i = [c] := by
    rw [List.drop_take, hdr, show i + 1 - i = 1 by omega]; rfl
   refine zH fun zq zQ => ?_;refine zC 2 rfl ?_;refine zA Tryz.zeroValue154 fun g0 => ?_;refine zO 7 rfl ?_;refine zV (ov_indexL rfl Tryz.underlying9 rfl rfl hc (by first | rfl | omega)) ?_;refine zO 8 rfl ?_;refine zcall [] rfl rfl rfl Tryz.call147 rfl (hA2 ) rfl ?_;simp only [zca, zna, splice, spliceL];refine zO 2 rfl ?_;refine zf ?_;refine zC 6 rfl ?_;refine zcall [] rfl rfl rfl Tryz.call150 rfl (T150 _ _) rfl ?_;simp only [zca, zna, splice, spliceL];refine zO 2 rfl ?_;refine zf ?_;refine zC 6 rfl ?_;refine zcall [] rfl rfl rfl Tryz.call151 rfl (T151 _ _) rfl ?_;simp only [zca, zna, splice, spliceL];refine zO 2 rfl ?_;refine zf ?_;refine zC 8 rfl ?_;refine zrg 87 ?_;refine zO 5 rfl ?_;refine zg ?_;refine zC 9 rfl ?_;refine zg ?_;refine zC 8 rfl ?_;refine zru 113 ?_;refine zO 5 rfl ?_;refine zu ?_;refine zC 5 rfl ?_;refine zV zI ?_;refine zV (ov_sliceMidL rfl Tryz.underlying9 rfl rfl rfl rfl rfl (by first | assumption | omega | (simp only [zla, zlc, zln]; omega) | (simp; done) | (simp; omega)) (by first | assumption | omega | (simp only [zla, zlc, zln]; omega) | (simp; done) | (simp; omega))) ?_;refine zV (ov_build (cs := [_, _]) rfl rfl rfl rfl) ?_;refine zO 1 rfl ?_;refine zV zI ?_;refine zS 0 ?_;simp only [setAt, splice, spliceL, Value.cells];refine zO 5 rfl ?_;refine zQ ?_;refine at_end ?_;refine at_fin (rsL (vs := [_, _]) rfl ⟨res_cellS (k := 0) (vs := [_, _]) rfl rfl rfl rfl ⟨rfl, rfl, trivial⟩, res_tmp rfl, trivial⟩ rfl) ?_;refine ⟨_, ⟨?_, rfl⟩, ?_⟩
   ·rw [oneL_sign hdr h1 h2 h3 h4 h56 ⟨h7, h8⟩, etk]; rfl
   exact zE [] [0]
  ·have hi8 : decide ((c.toNat : Int) ≤ 126) = false := decide_eq_false (by omega);refine zH fun zq zQ => ?_;refine zC 2 rfl ?_;refine zA Tryz.zeroValue154 fun g0 => ?_;refine zO 7 rfl ?_;refine zV (ov_indexL rfl Tryz.underlying9 rfl rfl hc (by first | rfl | omega)) ?_;refine zO 8 rfl ?_;refine zcall [] rfl rfl rfl Tryz.call147 rfl (hA2 ) rfl ?_;simp only [zca, zna, splice, spliceL];refine zO 2 rfl ?_;refine zf ?_;refine zC 6 rfl ?_;refine zcall [] rfl rfl rfl Tryz.call150 rfl (T150 _ _) rfl ?_;simp only [zca, zna, splice, spliceL];refine zO 2 rfl ?_;refine zf ?_;refine zC 6 rfl ?_;refine zcall [] rfl rfl rfl Tryz.call151 rfl (T151 _ _) rfl ?_;simp only [zca, zna, splice, spliceL];refine zO 2 rfl ?_;refine zf ?_;refine zC 8 rfl ?_;refine zrg 87 ?_;refine zO 5 rfl ?_;refine zg ?_;refine zC 9 rfl ?_;refine zg ?_;refine zC 8 rfl ?_;refine zru 113 ?_;refine zO 5 rfl ?_;refine zg ?_;refine zC 4 rfl ?_;refine zV (ov_build (cs := [_, _]) rfl rfl rfl rfl) ?_;refine zS 0 ?_;simp only [setAt, splice, spliceL, Value.cells];refine zO 4 rfl ?_;refine zQ ?_;refine at_end ?_;refine at_fin (rsL (vs := [_, _]) rfl ⟨res_cellS (k := 0) (vs := [_, _]) rfl rfl rfl rfl ⟨rfl, rfl, trivial⟩, res_tmp rfl, trivial⟩ rfl) ?_;refine ⟨_, ⟨by rw [oneL_none hdr h1 h2 h3 h4 h56 (by omega)]; rfl, rfl⟩, ?_⟩;exact zE [] [0]
 ·have hi7 : decide ((c.toNat : Int) ≥ 33) = false := decide_eq_false (by omega);refine zH fun zq zQ => ?_;refine zC 2 rfl ?_;refine zA Tryz.zeroValue154 fun g0 => ?_;refine zO 7 rfl ?_;refine zV (ov_indexL rfl Tryz.underlying9 rfl rfl hc (by first | rfl | omega)) ?_;refine zO 8 rfl ?_;refine zcall [] rfl rfl rfl Tryz.call147 rfl (hA2 ) rfl ?_;simp only [zca, zna, splice, spliceL];refine zO 2 rfl ?_;refine zf ?_;refine zC 6 rfl ?_;refine zcall [] rfl rfl rfl Tryz.call150 rfl (T150 _ _) rfl ?_;simp only [zca, zna, splice, spliceL];refine zO 2 rfl ?_;refine zf ?_;refine zC 6 rfl ?_;refine zcall [] rfl rfl rfl Tryz.call151 rfl (T151 _ _) rfl ?_;simp only [zca, zna, splice, spliceL];refine zO 2 rfl ?_;refine zf ?_;refine zC 8 rfl ?_;refine zrg 87 ?_;refine zO 5 rfl ?_;refine zg ?_;refine zC 9 rfl ?_;refine zg ?_;refine zC 8 rfl ?_;refine zrg 113 ?_;refine zO 10 rfl ?_;refine zV (ov_build (cs := [_, _]) rfl rfl rfl rfl) ?_;refine zS 0 ?_;simp only [setAt, splice, spliceL, Value.cells];refine zO 4 rfl ?_;refine zQ ?_;refine at_end ?_;refine at_fin (rsL (vs := [_, _]) rfl ⟨res_cellS (k := 0) (vs := [_, _]) rfl rfl rfl rfl ⟨rfl, rfl, trivial⟩, res_tmp rfl, trivial⟩ rfl) ?_;refine ⟨_, ⟨by rw [oneL_none hdr h1 h2 h3 h4 h56 (by omega)]; rfl, rfl⟩, ?_⟩;exact zE [] [0]
theorem lexL_skip {s : BL} {i : Nat} {c : UInt8} (hc : s[i]? = some c) (h : skipL s i > (i : Nat)) : lexL (s.drop i) = lexL (s.drop (skipL s i).toNat) := by
  obtain ⟨r, hdr, hr⟩ := drop_cons hc
  unfold skipL at h ⊢
  rw [hdr] at h ⊢;simp only at h ⊢;rw [lexL_cons]
  cases hb : blankB c with
  | true =>
    simp only [if_true];rw [hr, show ((i : Int) + 1).toNat = i + 1 by omega]
  | false =>
    rw [hb] at h;simp only [Bool.false_eq_true, if_false] at h ⊢
    by_cases h1 : remarkL (c :: r) < 0
    · rw [if_pos h1] at h; omega
    · rw [if_neg h1] at h ⊢;rw [if_neg (by omega), if_neg h1, ← hdr, List.drop_drop]
      congr 2; rw [hdr]; omega
theorem lexL_stop {s : BL} {i : Nat} {c : UInt8} (hc : s[i]? = some c) (h : skipL s i < 0) : lexL (s.drop i) = none := by
  obtain ⟨r, hdr, hr⟩ := drop_cons hc
  unfold skipL at h
  rw [hdr] at h ⊢;simp only at h;rw [lexL_cons]
  cases hb : blankB c with
  | true => rw [hb] at h; simp only [if_true] at h; omega
  | false =>
    rw [hb] at h;simp only [Bool.false_eq_true, if_false] at h ⊢
    by_cases h1 : remarkL (c :: r) < 0
    · rw [if_neg (by omega), if_pos h1]
    · rw [if_neg h1] at h; omega
theorem skipL_same {s : BL} {i : Nat} {c : UInt8} (hc : s[i]? = some c) (h1 : ¬ skipL s i < 0) (h2 : ¬ skipL s i > (i : Nat)) : lexL (s.drop i) = (if (oneL (s.drop i)).2 < 0 then none else (lexL (s.drop (i + (oneL (s.drop i)).2.toNat))).map ((oneL (s.drop i)).1 :: ·)) := by
  obtain ⟨r, hdr, hr⟩ := drop_cons hc
  unfold skipL at h1 h2
  rw [← List.drop_drop];rw [hdr] at h1 h2 ⊢;simp only at h1 h2;rw [lexL_cons]
  cases hb : blankB c with
  | true => rw [hb] at h2; simp only [if_true] at h2; omega
  | false =>
    rw [hb] at h1 h2;simp only [Bool.false_eq_true, if_false] at h1 h2 ⊢
    by_cases h3 : remarkL (c :: r) < 0
    · rw [if_pos h3] at h1; omega
    · rw [if_neg h3] at h2;rw [if_pos (by omega)]
theorem skipL_le {s : BL} {i : Nat} {c : UInt8} (hc : s[i]? = some c) : skipL s i ≤ s.length := by
  obtain ⟨r, hdr, hr⟩ := drop_cons hc;have hil : i < s.length := (List.getElem?_eq_some_iff.1 hc).1;have hlen : (s.drop i).length = s.length - i := List.length_drop;have := remarkL_le c r;rw [← hdr, hlen] at this
  unfold skipL
  rw [hdr];simp only
  split
  · omega
  · split
    · omega
    · rw [← hdr]; omega
theorem T72 (w0 : World) (s : BL) (hs : s.length ≤ 9223372036854775807) : Tri Tryz.prog w0 72 [SV s] [] fun v m => ∃ A c, v = .tuple #[.slice A (lexR s).1.length c, .int .i64 (lexR s).2] ∧ m = [Row tE 154 2 A c (lexR s).1] := by
 refine tri_k Tryz.func72 rfl rfl fun F => ?_;simp only [Tryz.ntmps72, argEnv, List.nil_append]
 by_cases hlong : 200 < s.length
 ·have hi : decide ((s.length : Int) > 200) = true := decide_eq_true (by omega);have e : lexR s = ([], 4) := by unfold lexR; rw [if_pos hlong]
  refine at_rowNil tE 154 2 ?_;refine zH fun zq zQ => ?_;refine zC 14 rfl ?_;refine zu ?_;refine zC 8 rfl ?_;refine zQ ?_;refine at_end ?_;refine at_fin (rsL (vs := [_, _]) rfl ⟨res_tmp rfl, res_tmp rfl, trivial⟩ rfl) ?_;refine ⟨_, ⟨none, 0, by rw [e]; rfl, rfl⟩, ?_⟩
  try rw [e]
  exact zE [0] []
 ·have hi : decide ((s.length : Int) > 200) = false := decide_eq_false (by omega)
  have e : lexR s = match lexL s with | some ts => (ts, 0) | none => ([], 2) := by unfold lexR; rw [if_neg hlong]; cases lexL s <;> rfl
  refine zH fun zq zQ => ?_;refine zC 14 rfl ?_;refine zg ?_;refine zC 4 rfl ?_;refine zT (ot_buildSlice (cs := []) rfl Tryz.underlying151 rfl rfl rfl rfl rfl rfl) ?_;rintro _ _ ⟨g0, rfl, rfl⟩;refine zO 10 rfl ?_;refine at_rowOf (c := 0) (size := 2) tE 0 [] rfl (by simp) (by simp) (by decide) (by simp) rfl ?_;simp only [setAt]
  refine at_loopK [13, 14, 15, 16, 17, 18, 19, 6, 20, 21, 2, 3, 22, 23, 24, 25, 5, 27, 28, 29, 26, 30, 31, 7, 8, 32, 33, 34, 35, 36, 37, 4, 38] (fun i : Nat × List Tok × Option Addr × Nat => i.1 ≤ s.length ∧ i.2.1.length ≤ i.1 ∧ lexL s = (lexL (s.drop i.1)).map (i.2.1 ++ ·)) (fun i => [(5, .int .i64 (i.1 : Nat)), (4, .slice i.2.2.1 i.2.1.length i.2.2.2)]) (fun i m => setAt 0 (Row tE 154 2 i.2.2.1 i.2.2.2 i.2.1) m) (fun i => s.length - i.1) (0, [], some ⟨g0, 0, none⟩, 0) ⟨Nat.zero_le _, by simp, by rw [List.drop_zero]; cases lexL s <;> simp⟩ ⟨rfl, rfl, trivial⟩ (fun _ s => s) ?_
  rintro ⟨k, ts, A, c⟩ ⟨hk, htl, hinv⟩;simp only [setAt] at hk htl hinv ⊢
  rcases Nat.lt_or_ge k s.length with hlt | hge
  ·have hi1 : decide ((k : Int) < s.length) = true := decide_eq_true (by omega);obtain ⟨b, hb⟩ : ∃ b, s[k]? = some b := ⟨_, List.getElem?_eq_getElem hlt⟩;have hS := T115 w0 s k b (by omega) hb;have hT := T116 w0 s k b (by omega) hb;have hsl := skipL_le hb;obtain ⟨r, hdr, hr⟩ := drop_cons hb;have hol := oneL_le (c := b) (r := r);have hlen : (s.drop k).length = s.length - k := List.length_drop;rw [← hdr, hlen] at hol
   by_cases h1 : skipL s k < 0
   ·have hi2 : decide (skipL s k < 0) = true := decide_eq_true h1;rw [hinv, lexL_stop hb h1] at e;simp only [Option.map_none] at e;refine zC 9 rfl ?_;refine zu ?_;refine zC 7 rfl ?_;refine zcall [] rfl rfl rfl Tryz.call115 rfl (hS ) rfl ?_;simp only [zca, zna, splice, spliceL];refine zO 10 rfl ?_;refine zu ?_;refine zC 12 rfl ?_;refine zQ ?_;refine at_end ?_;refine at_rowNil tE 154 2 ?_;refine at_fin (rsL (vs := [_, _]) rfl ⟨res_tmp rfl, res_tmp rfl, trivial⟩ rfl) ?_;refine ⟨_, ⟨none, 0, by rw [e]; rfl, rfl⟩, ?_⟩
    try rw [e]
    exact zE [0] [0]
   have hi2 : decide (skipL s k < 0) = false := decide_eq_false h1
   by_cases h2 : skipL s k > (k : Nat)
   ·have hi3 : decide (skipL s k > (k : Int)) = true := decide_eq_true h2;refine zC 9 rfl ?_;refine zu ?_;refine zC 7 rfl ?_;refine zcall [] rfl rfl rfl Tryz.call115 rfl (hS ) rfl ?_;simp only [zca, zna, splice, spliceL];refine zO 10 rfl ?_;refine zg ?_;refine zC 10 rfl ?_;refine zu ?_;refine zCR 10 rfl ?_;refine at_roundF ((skipL s k).toNat, ts, A, c) ⟨by simp only; omega, by simp only; omega, by rw [hinv, lexL_skip hb h2]⟩ (by simp only; omega) ⟨look_eq rfl (congrArg (Value.int .i64) (by simp only; omega)), rfl, trivial⟩ rfl ?_;exact zE [0] []
   have hi3 : decide (skipL s k > (k : Int)) = false := decide_eq_false h2;have hst := skipL_same hb h1 h2
   by_cases h3 : (oneL (s.drop k)).2 < 0
   ·rw [if_pos h3] at hst hT;rw [hinv, hst] at e;simp only [Option.map_none] at e;refine zC 9 rfl ?_;refine zu ?_;refine zC 7 rfl ?_;refine zcall [] rfl rfl rfl Tryz.call115 rfl (hS ) rfl ?_;simp only [zca, zna, splice, spliceL];refine zO 10 rfl ?_;refine zg ?_;refine zC 10 rfl ?_;refine zg ?_;refine zC 6 rfl ?_;refine zcall [] rfl rfl rfl Tryz.call116 rfl (hT ) rfl ?_;simp only [zca, zna, splice, spliceL];refine zO 3 rfl ?_;refine zA Tryz.zeroValue154 fun g1 => ?_;refine zS 0 ?_;simp only [setAt, splice, spliceL, Value.cells];refine zO 23 rfl ?_;refine zQ ?_;refine at_end ?_;refine at_rowNil tE 154 2 ?_;refine at_fin (rsL (vs := [_, _]) rfl ⟨res_tmp rfl, res_tmp rfl, trivial⟩ rfl) ?_;refine ⟨_, ⟨none, 0, by rw [e]; rfl, rfl⟩, ?_⟩
    try rw [e]
    exact zE [0] [0, 0]
   ·rw [if_neg h3] at hst hT;have hol2 := hol (by omega);have hi4 : decide ((k : Int) + (oneL (s.drop k)).2 < 0) = false := decide_eq_false (by omega);refine zC 9 rfl ?_;refine zu ?_;refine zC 7 rfl ?_;refine zcall [] rfl rfl rfl Tryz.call115 rfl (hS ) rfl ?_;simp only [zca, zna, splice, spliceL];refine zO 10 rfl ?_;refine zg ?_;refine zC 10 rfl ?_;refine zg ?_;refine zC 6 rfl ?_;refine zcall [] rfl rfl rfl Tryz.call116 rfl (hT ) rfl ?_;simp only [zca, zna, splice, spliceL];refine zO 3 rfl ?_;refine zA Tryz.zeroValue154 fun g1 => ?_;refine zS 0 ?_;simp only [setAt, splice, spliceL, Value.cells];refine zO 10 rfl ?_;refine zg ?_;refine zCM [(0,_,_,_)] ⟨rfl,trivial⟩ [0] 6 rfl ?_;refine zT (ot_buildSlice (cs := [_, _]) rfl Tryz.underlying151 rfl rfl rfl rfl rfl rfl) ?_;rintro _ _ ⟨g2, rfl, rfl⟩;refine zT (ot_append (k := 2) (size := 2) (bytes := 24) (ys := [(oneL (s.drop k)).1]) (fun _ s => s.rdPt (k := 0) rfl rfl (by simp [tE])) rfl Tryz.underlying151 (ti := Tryz.t154) rfl rfl rfl rfl rfl (by decide) rfl rfl rfl (by simp [tE, Value.oneCell']) (by simp; omega) (by decide)) ?_;rintro _ _ ⟨A0, c0, rfl, rfl⟩;simp only [setAt];refine zOR 9 rfl ?_;refine at_roundF (k + (oneL (s.drop k)).2.toNat, ts ++ [(oneL (s.drop k)).1], A0, c0) ⟨by simp only; omega, by simp only [List.length_append, List.length_cons, List.length_nil]; omega, ?_⟩ (by simp only; omega) ⟨look_eq rfl (congrArg (Value.int .i64) (by simp only; omega)), rfl, trivial⟩ rfl ?_
    ·try rw [hinv]
     try rw [hst]
     try rw [Option.map_map]
     congr 1
     funext x
     simp
    exact zE [2] [0, 0]
  ·have hi1 : decide ((k : Int) < s.length) = false := decide_eq_false (by omega);rw [List.drop_eq_nil_of_le hge, lexL_nil] at hinv;simp only [Option.map_some, List.append_nil] at hinv;rw [hinv] at e;refine zC 9 rfl ?_;refine zg ?_;refine zC 13 rfl ?_;refine zQ ?_;refine at_end ?_;refine at_fin (rsL (vs := [_, _]) rfl ⟨res_tmp rfl, res_tmp rfl, trivial⟩ rfl) ?_;refine ⟨_, ⟨A, c, by rw [e], rfl⟩, ?_⟩
   try rw [e]
   exact zE [0] []
theorem contains_find (s t : BL) : Lib.contains s t = !decide (findL s t 0 < 0) := by
  unfold findL Lib.contains
  have := Lib.index_ge s t;rw [List.drop_zero]
  by_cases h : Lib.index s t < 0
  · rw [if_pos h];have h2 : ¬ (0 ≤ Lib.index s t) := by omega
    have h3 : Lib.index s t = -1 := by omega
    simp [h2, h3]
  · rw [if_neg h];have h2 : 0 ≤ Lib.index s t := by omega
    have h3 : Lib.index s t ≠ -1 := by omega
    simp [h2, h3]
end Go.Proofs.YtighdkdomfpadaaGreatDoor
