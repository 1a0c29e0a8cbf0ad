/- The statement NodeWhole, walked. -/
import Derived.Test.YtighdkdomfpadaaGreatDoorProg
import Derived.Test.YtighdkdomfpadaaGreatDoorWholeLaw
import Derived.Test.YtighdkdomfpadaaGreatDoorSLB
import Derived.KernelRfl
set_option linter.unusedSimpArgs false
set_option linter.unusedVariables false
set_option maxRecDepth 100000
set_option maxHeartbeats 4000000
namespace Go.Proofs.YtighdkdomfpadaaGreatDoor
open Go Go.Proofs.YtighdkdomfpadaaGreatDoor.SL Go.RowKit
theorem outT_ok (lg : List Ent) (h1 : lg.length ≤ 200) (h2 : ∀ x ∈ lg, x.2.length ≤ 300) : NOk (outT lg) := ⟨by simp, by simp, h1, h2, by simp, by simp⟩
theorem inT_ok (ts : List BL) (h1 : ts.length ≤ 200) (h2 : ∀ x ∈ ts, x.length ≤ 300) : NOk (inT ts) := ⟨by simp, by simp, by simp, by simp, by simpa using h1, by simpa using h2⟩
theorem T3 (w0 : World) {A : Option Addr} {c : Nat} {l : List BL} (ed : Int) (val : BL) (hr : Rd bsE w0 1 A l) (hl : l.length ≤ 140737488351232) (hsz : ∀ x ∈ l, x.length ≤ 140737488351232) (hv : val.length ≤ 140737488351232) (hM : MaxL w0) :
 Tri Tryz.prog w0 3 [.slice A l.length c, .int .i64 ed, SV val] [] fun v m => v = .bool true ∧ m = [] := by
 refine tri_k Tryz.func3 rfl rfl fun F => ?_
 simp only [Tryz.ntmps3, argEnv, List.cons_append, List.nil_append]
 by_cases h40 : 40 < l.length
 ·have hi0 : decide ((l.length : Int) > 40) = true := decide_eq_true (by omega)
  refine zH fun zq zQ => ?_
  refine zC 8 rfl ?_
  refine zcall [] rfl rfl rfl Tryz.call8 rfl (T8 _ (by first | assumption | rfl | omega | decide | (simp; done) | (simp at *; omega))) rfl ?_
  simp only [zca, zna, splice, spliceL]
  refine zO 13 rfl ?_
  refine zrT 25 rfl (decide_eq_true (by omega)) ?_
  refine zO 14 rfl ?_
  refine zQ ?_
  refine at_end ?_
  refine at_fin (rsV rfl (res_tmp rfl)) ?_
  refine ⟨_, ⟨rfl, rfl⟩, ?_⟩
  exact zE [] []
 have hi0 : decide ((l.length : Int) > 40) = false := decide_eq_false (by omega)
 by_cases h20 : 20 < val.length
 ·have hi1 : decide ((val.length : Int) > 20) = true := decide_eq_true (by omega)
  refine zH fun zq zQ => ?_
  refine zC 8 rfl ?_
  refine zcall [] rfl rfl rfl Tryz.call8 rfl (T8 _ (by first | assumption | rfl | omega | decide | (simp; done) | (simp at *; omega))) rfl ?_
  simp only [zca, zna, splice, spliceL]
  refine zO 13 rfl ?_
  refine zrF 25 rfl (decide_eq_false (by omega)) ?_
  refine zO 6 rfl ?_
  refine zcT rfl (decide_eq_true (by omega)) ?_
  refine zC 7 rfl ?_
  refine zQ ?_
  refine at_end ?_
  refine at_fin (rsV rfl (res_tmp rfl)) ?_
  refine ⟨_, ⟨rfl, rfl⟩, ?_⟩
  exact zE [] []
 have hi1 : decide ((val.length : Int) > 20) = false := decide_eq_false (by omega)
 have ko0 := outT_ok [] (by decide) (by simp)
 have hLd {g : Nat} := T10 w0 (g := g) (s := ⟨1, false, [], []⟩) 1
 rw [wk2] at hLd
 have hB {g : Nat} := T12 w0 (g := g) ko0 1 1 false wB (by decide) hM
 rw [w_begin] at hB
 refine zH fun zq zQ => ?_
 refine zC 8 rfl ?_
 refine zcall [] rfl rfl rfl Tryz.call8 rfl (T8 _ (by first | assumption | rfl | omega | decide | (simp; done) | (simp at *; omega))) rfl ?_
 simp only [zca, zna, splice, spliceL]
 refine zO 13 rfl ?_
 refine zrF 25 rfl (decide_eq_false (by omega)) ?_
 refine zO 6 rfl ?_
 refine zcF rfl (decide_eq_false (by omega)) ?_
 refine zC 4 rfl ?_
 refine zT (ot_call (ks := []) rfl rfl rfl Tryz.call9 rfl (T9 _) rfl) ?_
 rintro v0 _ ⟨m0, hp0, rfl⟩
 obtain ⟨g0, hp0⟩ := hp0
 obtain ⟨rfl, rfl⟩ := hp0
 simp only [zca, zna, splice, spliceL]
 refine zO 6 rfl ?_
 refine zcall [0] rfl rfl rfl Tryz.call10 rfl (hLd ) rfl ?_
 simp only [zca, zna, splice, spliceL]
 refine zO 4 rfl ?_
 refine zT (ot_call (ks := []) rfl rfl rfl Tryz.call11 rfl (T11 _) rfl) ?_
 rintro v0 _ ⟨m0, hp0, rfl⟩
 obtain ⟨g1, hp0⟩ := hp0
 obtain ⟨rfl, rfl⟩ := hp0
 simp only [zca, zna, splice, spliceL]
 refine zO 7 rfl ?_
 refine zT (ot_call (ks := [1]) rfl rfl rfl Tryz.call12 rfl (hB ) rfl) ?_
 rintro v0 _ ⟨m0, hp0, rfl⟩
 obtain ⟨B0, hp0⟩ := hp0
 obtain ⟨c0, hp0⟩ := hp0
 obtain ⟨rfl, rfl⟩ := hp0
 simp only [zca, zna, splice, spliceL]
 refine zV (ov_any rfl rfl (fun _ => rfl)) ?_
 refine zO 15 rfl ?_
 refine at_fold (A := Cl g1) [2] rfl (fun h s => cl_made h s) ?_
  
 refine at_loopK [41, 42, 43, 10, 44, 45, 46, 47, 48, 49, 50, 51, 52, 6, 53, 54, 55, 11, 56, 57, 12, 58, 59, 60, 61, 62, 63, 64, 65, 66, 67, 68, 69, 70, 71, 72, 40] (fun i : Nat => i ≤ l.length ∧ ∀ x ∈ l.take i, x.length ≤ 300 ∧ classL x = 2) (fun i => [(40, .int .i64 (i : Nat))]) (fun i q => setAt 1 (NodeA g0 (inT (l.take i))) q) (fun i => l.length - i) 0 ⟨Nat.zero_le _, by simp⟩ ⟨rfl, trivial⟩ (fun _ s => s) ?_
 rintro k ⟨hk, hall⟩
 simp only [setAt] at hk ⊢
 have htl : (l.take k).length = k := by rw [List.length_take]; omega
 have hok := inT_ok (l.take k) (by omega) (fun x hx => (hall x hx).1)
 rcases Nat.lt_or_ge k l.length with hlt | hge
 ·have hi2 : decide ((k : Int) < l.length) = true := decide_eq_true (by omega)
  obtain ⟨x, hget⟩ : ∃ x, l[k]? = some x := ⟨_, List.getElem?_eq_getElem hlt⟩
  have hsu : l.take (k + 1) = l.take k ++ [x] := by rw [List.take_add_one, hget]; rfl
  by_cases hx3 : 300 < x.length
  ·have hi3 : decide ((x.length : Int) > 300) = true := decide_eq_true (by omega)
   refine zC 6 rfl ?_
   refine zcT rfl (decide_eq_true (by omega)) ?_
   refine zC 6 rfl ?_
   refine zV (ov_indexRd (fun _ s => hr.up s) rfl Tryz.underlying22 rfl rfl rfl hget) ?_
   refine zV (ov_loadRd0 (fun _ s => hr.up s) rfl rfl rfl hget rfl) ?_
   refine zO 10 rfl ?_
   refine zrT 47 rfl (decide_eq_true (by omega)) ?_
   refine zO 20 rfl ?_
   refine zQ ?_
   refine at_end ?_
   refine at_fin (rsV rfl (res_tmp rfl)) ?_
   refine ⟨_, ⟨rfl, rfl⟩, ?_⟩
   exact zE [] [0, 0, 0]
  have hi3 : decide ((x.length : Int) > 300) = false := decide_eq_false (by omega)
  have hC := T13 w0 (g := g1) x (by omega) hM
  by_cases hcx : classL x = 2
  ·have hi4 : (!decide (classL x = 2)) = false := by simp [hcx]
   have hok2 := inT_ok (l.take (k + 1)) (by rw [List.length_take]; omega) (by
    intro y hy; rw [hsu] at hy; rcases List.mem_append.1 hy with hy | hy
    ·exact (hall y hy).1
    ·simp at hy; subst hy; omega)
   have hR := T12 w0 (g := g0) hok 1 1 false x (by omega) hM
   rw [w_write hcx (by omega), ← hsu] at hR
   have hO := T12 w0 (g := g0) hok2 2 1 true wkS (by decide) hM
   rw [w_other] at hO
   refine zC 6 rfl ?_
   refine zcT rfl (decide_eq_true (by omega)) ?_
   refine zC 6 rfl ?_
   refine zV (ov_indexRd (fun _ s => hr.up s) rfl Tryz.underlying22 rfl rfl rfl hget) ?_
   refine zV (ov_loadRd0 (fun _ s => hr.up s) rfl rfl rfl hget rfl) ?_
   refine zO 10 rfl ?_
   refine zrF 47 rfl (decide_eq_false (by omega)) ?_
   refine zO 2 rfl ?_
   refine at_wanted (j := 3) rfl ?_
   refine zcall [0] rfl rfl rfl Tryz.call13 rfl (hC ) rfl ?_
   simp only [zca, zna, splice, spliceL]
   refine zO 4 rfl ?_
   refine zcF rfl (by first | assumption | (rw [Bool.not_eq_false']; exact decide_eq_true (by omega))) ?_
   refine zC 6 rfl ?_
   refine zT (ot_call (ks := [1]) rfl rfl rfl Tryz.call12 rfl (hR ) rfl) ?_
   rintro v0 _ ⟨m0, hp0, rfl⟩
   obtain ⟨B1, hp0⟩ := hp0
   obtain ⟨c1, hp0⟩ := hp0
   obtain ⟨rfl, rfl⟩ := hp0
   simp only [zca, zna, splice, spliceL]
   refine zA Tryz.zeroValue32 fun g2 => ?_
   refine zS 0 ?_
   simp only [setAt, splice, spliceL, Value.cells]
   refine zO 5 rfl ?_
   refine zT (ot_call (ks := [1]) rfl rfl rfl Tryz.call12 rfl (hO ) rfl) ?_
   rintro v0 _ ⟨m0, hp0, rfl⟩
   obtain ⟨B2, hp0⟩ := hp0
   obtain ⟨c2, hp0⟩ := hp0
   obtain ⟨rfl, rfl⟩ := hp0
   simp only [zca, zna, splice, spliceL]
   refine zA Tryz.zeroValue32 fun g3 => ?_
   refine zS 0 ?_
   simp only [setAt, splice, spliceL, Value.cells]
   refine zOM [(0,_,_,_),(3,_,_,_)] ⟨rfl,rfl,trivial⟩ [1,1,0] 25 rfl ?_
   refine zV zI ?_
   refine zOR 3 rfl ?_
   refine at_roundF (k + 1) ⟨hlt, ?_⟩ (by omega) ⟨rfl, trivial⟩ rfl ?_
   ·intro y hy; rw [hsu] at hy; rcases List.mem_append.1 hy with hy | hy
    ·exact hall y hy
    ·simp at hy; subst hy; exact ⟨by omega, hcx⟩
   simp only [setAt]
   exact zE [5, 1, 4] [0, 0, 0, 0]
  ·have hi4 : (!decide (classL x = 2)) = true := by simp [hcx]
   refine zC 6 rfl ?_
   refine zcT rfl (decide_eq_true (by omega)) ?_
   refine zC 6 rfl ?_
   refine zV (ov_indexRd (fun _ s => hr.up s) rfl Tryz.underlying22 rfl rfl rfl hget) ?_
   refine zV (ov_loadRd0 (fun _ s => hr.up s) rfl rfl rfl hget rfl) ?_
   refine zO 10 rfl ?_
   refine zrF 47 rfl (decide_eq_false (by omega)) ?_
   refine zO 2 rfl ?_
   refine at_wanted (j := 3) rfl ?_
   refine zcall [0] rfl rfl rfl Tryz.call13 rfl (hC ) rfl ?_
   simp only [zca, zna, splice, spliceL]
   refine zO 4 rfl ?_
   refine zcT rfl (by first | assumption | (rw [Bool.not_eq_true']; exact decide_eq_false (by omega))) ?_
   refine zC 12 rfl ?_
   refine zQ ?_
   refine at_end ?_
   refine at_fin (rsV rfl (res_tmp rfl)) ?_
   refine ⟨_, ⟨rfl, rfl⟩, ?_⟩
   exact zE [] [0, 0, 0]
 have hi2 : decide ((k : Int) < l.length) = false := decide_eq_false (by omega)
 rw [List.take_of_length_le hge] at hall hok htl ⊢
 refine zC 6 rfl ?_
 refine zcF rfl (decide_eq_false (by omega)) ?_
 refine zC 19 rfl ?_
 refine at_loopK [76, 77, 14, 78, 79, 80, 81, 82, 83, 84, 13, 85, 86, 87, 88, 89, 90, 91, 75] (fun i : Nat => i ≤ val.length) (fun i => [(75, .int .i64 (i : Nat)), (13, SV (39 :: dblL 39 (val.take i)))]) (fun i q => q) (fun i => val.length - i) 0 (Nat.zero_le _) ⟨rfl, rfl, trivial⟩ (fun _ s => s) ?_
 intro q hq
 have hdl := dblL_le 39 (val.take q)
 have hdt : (val.take q).length ≤ 20 := by rw [List.length_take]; omega
 rcases Nat.lt_or_ge q val.length with hql | hqg
 ·have hi3 : decide ((q : Int) < val.length) = true := decide_eq_true (by omega)
  obtain ⟨x, hget⟩ : ∃ x, val[q]? = some x := ⟨_, List.getElem?_eq_getElem hql⟩
  have hstep := dbl_step hget
  have hone : (val.take (q + 1)).drop q = [x] := by
   try rw [List.take_add_one]
   try rw [hget]
   try rw [List.drop_append]
   try rw [List.drop_of_length_le (by rw [List.length_take]; omega)]
   simp [show q - min q val.length = 0 by omega]
  by_cases hx : x = 39
  ·rw [if_pos hx] at hstep
   have hi4 : decide ((x.toNat : Int) = 39) = true := by rw [hx]; rfl
   refine zC 6 rfl ?_
   refine zcT rfl (decide_eq_true (by omega)) ?_
   refine zC 16 rfl ?_
   refine zV zI ?_
   refine zV (ov_sliceMidL rfl Tryz.underlying9 rfl rfl rfl rfl rfl (by first | assumption | omega | (simp only [zla, zlc, zln]; omega) | (simp; done) | (simp; omega)) (by first | assumption | omega | (simp only [zla, zlc, zln]; omega) | (simp; done) | (simp; omega))) ?_
   refine at_reval 83 (SV [x]) rfl (by rw [hone]) ?_
   refine zV (ov_catL rfl rfl rfl (by first | omega | (simp only [List.length_append, List.length_cons, List.length_nil]; omega))) ?_
   refine zO 7 rfl ?_
   refine zV (ov_indexL rfl Tryz.underlying9 rfl rfl hget (by first | rfl | omega)) ?_
   refine zO 3 rfl ?_
   refine zcT rfl (by first | assumption | (rw [Bool.not_eq_true']; exact decide_eq_false (by omega))) ?_
   refine zC 2 rfl ?_
   refine zV (ov_catL rfl rfl rfl (by first | omega | (simp only [List.length_append, List.length_cons, List.length_nil]; omega))) ?_
   refine zO 5 rfl ?_
   refine zV zI ?_
   refine zOR 3 rfl ?_
   refine at_roundF (q + 1) hql (by omega) ⟨rfl, ?_, trivial⟩ rfl ?_
   ·rw [hstep]; simp [hx]; rfl
   exact zE [0, 0, 0] []
  ·rw [if_neg hx] at hstep
   have hx2 : ¬ (x.toNat : Int) = 39 := fun h => hx (UInt8.toNat_inj.1 (Int.ofNat_inj.1 h))
   have hi4 : decide ((x.toNat : Int) = 39) = false := decide_eq_false hx2
   refine zC 6 rfl ?_
   refine zcT rfl (decide_eq_true (by omega)) ?_
   refine zC 16 rfl ?_
   refine zV zI ?_
   refine zV (ov_sliceMidL rfl Tryz.underlying9 rfl rfl rfl rfl rfl (by first | assumption | omega | (simp only [zla, zlc, zln]; omega) | (simp; done) | (simp; omega)) (by first | assumption | omega | (simp only [zla, zlc, zln]; omega) | (simp; done) | (simp; omega))) ?_
   refine at_reval 83 (SV [x]) rfl (by rw [hone]) ?_
   refine zV (ov_catL rfl rfl rfl (by first | omega | (simp only [List.length_append, List.length_cons, List.length_nil]; omega))) ?_
   refine zO 7 rfl ?_
   refine zV (ov_indexL rfl Tryz.underlying9 rfl rfl hget (by first | rfl | omega)) ?_
   refine zO 3 rfl ?_
   refine zcF rfl (decide_eq_false (by omega)) ?_
   refine zC 4 rfl ?_
   refine zV zI ?_
   refine zOR 3 rfl ?_
   refine at_roundF (q + 1) hql (by omega) ⟨rfl, ?_, trivial⟩ rfl ?_
   ·rw [hstep]; rfl
   exact zE [0, 0, 0] []
 have hi3 : decide ((q : Int) < val.length) = false := decide_eq_false (by omega)
 rw [List.take_of_length_le hqg] at hdl
 refine at_reval 13 (SV (39 :: dblL 39 val)) rfl (by rw [List.take_of_length_le hqg]) ?_
 have hE : (105 :: 110 :: 115 :: 101 :: 114 :: 116 :: 32 :: 105 :: 110 :: 116 :: 111 :: 32 :: 107 :: 118 :: 32 :: 118 :: 97 :: 108 :: 117 :: 101 :: 115 :: 32 :: 40 :: 39 :: 111 :: 119 :: 110 :: 39 :: 44 :: 32 :: 39 :: (dblL 39 val ++ [39, 41])) = stW val := by
  unfold stW qT
  simp only [List.cons_append, List.nil_append, List.append_assoc]
 have hv20 : val.length ≤ 20 := by omega
 have hle := stW_le val hv20
 have hput : runN (inT l) 1 1 false (105 :: 110 :: 115 :: 101 :: 114 :: 116 :: 32 :: 105 :: 110 :: 116 :: 111 :: 32 :: 107 :: 118 :: 32 :: 118 :: 97 :: 108 :: 117 :: 101 :: 115 :: 32 :: 40 :: 39 :: 111 :: 119 :: 110 :: 39 :: 44 :: 32 :: 39 :: (dblL 39 val ++ [39, 41])) = (inT (l ++ [stW val]), ⟨0, 1, 0, []⟩) := by rw [hE]; exact w_write (stW_class val hv20) (by omega)
 have hok2 := inT_ok (l ++ [stW val]) (by simp; omega) (by
  intro y hy; rcases List.mem_append.1 hy with hy | hy
  ·exact (hall y hy).1
  ·simp at hy; subst hy; omega)
 have hP := T12 w0 (g := g0) hok 1 1 false (105 :: 110 :: 115 :: 101 :: 114 :: 116 :: 32 :: 105 :: 110 :: 116 :: 111 :: 32 :: 107 :: 118 :: 32 :: 118 :: 97 :: 108 :: 117 :: 101 :: 115 :: 32 :: 40 :: 39 :: 111 :: 119 :: 110 :: 39 :: 44 :: 32 :: 39 :: (dblL 39 val ++ [39, 41])) (by rw [hE]; omega) hM
 rw [hput] at hP
 have hG := T12 w0 (g := g0) hok2 1 1 false wO (by decide) hM
 rw [w_own l hv20] at hG
 have hti : decide (([val] : List BL) = [val]) = true := decide_eq_true rfl
 refine zC 6 rfl ?_
 refine zcF rfl (decide_eq_false (by omega)) ?_
 refine zC 8 rfl ?_
 refine zV (ov_catL rfl rfl rfl (by first | omega | (simp only [List.length_append, List.length_cons, List.length_nil]; omega))) ?_
 refine zV (ov_catL rfl rfl rfl (by first | omega | (simp only [List.length_append, List.length_cons, List.length_nil]; omega))) ?_
 refine zO 8 rfl ?_
 refine zT (ot_call (ks := [1]) rfl rfl rfl Tryz.call12 rfl (hP ) rfl) ?_
 rintro v0 _ ⟨m0, hp0, rfl⟩
 obtain ⟨B1, hp0⟩ := hp0
 obtain ⟨c1, hp0⟩ := hp0
 obtain ⟨rfl, rfl⟩ := hp0
 simp only [zca, zna, splice, spliceL]
 refine zV (ov_any rfl rfl (fun _ => rfl)) ?_
 refine zO 9 rfl ?_
 refine zT (ot_call (ks := [0]) rfl rfl rfl Tryz.call12 rfl (hG ) rfl) ?_
 rintro v0 _ ⟨m0, hp0, rfl⟩
 obtain ⟨B2, hp0⟩ := hp0
 obtain ⟨c2, hp0⟩ := hp0
 obtain ⟨rfl, rfl⟩ := hp0
 simp only [zca, zna, splice, spliceL]
 refine zA Tryz.zeroValue32 fun g2 => ?_
 refine zS 0 ?_
 simp only [setAt, splice, spliceL, Value.cells]
 refine zOM [(0,_,_,_)] ⟨rfl,trivial⟩ [0,0] 12 rfl ?_
 refine at_wanted (j := 3) rfl ?_
 refine zT (ot_buildSlice (cs := [_]) rfl Tryz.underlying22 rfl rfl rfl rfl rfl rfl) ?_
 rintro _ _ ⟨g3, rfl, rfl⟩
 refine at_wanted (j := 3) rfl ?_
 refine at_rowOf bsE 0 (size := 1) (c := 1) [val] rfl (fun _ _ => rfl) (by simp) (by decide) (by simp) rfl ?_
 simp only [setAt]
 refine at_reval 109 (.slice (some ⟨g3, 0, none⟩) ([val] : List BL).length 1) rfl rfl ?_
 refine at_reval 15 (SV (stW val)) rfl (by rw [hE]) ?_
 have hO := T15 w0 ed
 have ho3 := (ofI_lt ed).1
 obtain ⟨e, he⟩ : ∃ e, e = ofI ed := ⟨_, rfl⟩
 rw [← he] at hO ho3
 have hokO := outT_ok [] (by simp) (by simp)
 have hC0 {lg : List Ent} := T16 w0 (g := g0) (s := outT lg) 1
 simp only [w_close0] at hC0
 have hL0 := T19 w0 (g := g0) (s := outT []) (by simp)
 have hE0 {A : Option Addr} {c c' : Nat} := T18 w0 (A := A) (c := c) (c' := c') (l := ([] : List Ent)) (by simp)
 have hS0 {A B : Option Addr} {c d c' d' : Nat} := same15 w0 (A := A) (B := B) (c := c) (d := d) (c' := c') (d' := d') (xs := []) (ys := []) (by simp) (by simp)
 have hz0 : decide (([] : List Ent) = []) = true := decide_eq_true rfl
 have hX0 := T12 w0 (g := g0) hokO 1 1 false wC (by decide) hM
 rw [w_commit0] at hX0
 rcases (by omega : e = 0 ∨ e = 1 ∨ e = 2) with rfl | rfl | rfl
 rotate_left
 ·have hRb := T12 w0 (g := g0) hok2 1 1 false wR (by decide) hM
  rw [w_rollback] at hRb
  refine zcall [3, 0] rfl rfl rfl Tryz.call14 rfl (T14 _ (by first | assumption | rfl | omega | decide | (simp; done) | (simp at *; omega)) (by first | assumption | rfl | omega | decide | (simp; done) | (simp at *; omega))) rfl ?_
  simp only [zca, zna, splice, spliceL]
  refine zO 9 rfl ?_
  refine zT (ot_buildSlice (cs := []) rfl Tryz.underlying36 rfl rfl rfl rfl rfl rfl) ?_
  rintro _ _ ⟨g4, rfl, rfl⟩
  refine zO 7 rfl ?_
  refine zcall [] rfl rfl rfl Tryz.call15 rfl (hO ) rfl ?_
  simp only [zca, zna, splice, spliceL]
  refine zO 20 rfl ?_
  refine zT (ot_call (ks := [4]) rfl rfl rfl Tryz.call12 rfl (hRb ) rfl) ?_
  rintro v0 _ ⟨m0, hp0, rfl⟩
  obtain ⟨B3, hp0⟩ := hp0
  obtain ⟨c3, hp0⟩ := hp0
  obtain ⟨rfl, rfl⟩ := hp0
  simp only [zca, zna, splice, spliceL]
  refine zV (ov_any rfl rfl (fun _ => rfl)) ?_
  refine zO 10 rfl ?_
  refine zT (ot_call (ks := [0]) rfl rfl rfl Tryz.call19 rfl (hL0 ) rfl) ?_
  rintro v0 _ ⟨m0, hp0, rfl⟩
  obtain ⟨B4, hp0⟩ := hp0
  obtain ⟨e0, hp0⟩ := hp0
  obtain ⟨rfl, rfl⟩ := hp0
  simp only [zca, zna, splice, spliceL]
  refine zT (ot_call (ks := [1]) rfl rfl rfl Tryz.call18 rfl (hE0 ) rfl) ?_
  rintro v0 _ ⟨m0, hp0, rfl⟩
  obtain ⟨B5, hp0⟩ := hp0
  obtain ⟨e1, hp0⟩ := hp0
  obtain ⟨rfl, rfl⟩ := hp0
  simp only [zca, zna, splice, spliceL]
  refine zO 1 rfl ?_
  refine at_rowOf (c := 0) (size := 2) enE 4 [] rfl (by simp) (by simp) (by decide) (by simp) rfl ?_
  simp only [setAt]
  refine at_reval 153 (.slice (some ⟨g4, 0, none⟩) ([] : List Ent).length 0) rfl rfl ?_
  refine zcall [0, 3] rfl rfl rfl Tryz.call17 rfl (hS0 ) rfl ?_
  simp only [zca, zna, splice, spliceL]
  refine zO 2 rfl ?_
  refine at_wanted (j := 5) rfl ?_
  refine zcall [3] rfl rfl rfl Tryz.call16 rfl (hC0 ) rfl ?_
  simp only [zca, zna, splice, spliceL]
  refine zO 4 rfl ?_
  refine at_wanted (j := 10) rfl ?_
  refine zT (ot_call (ks := [0]) rfl rfl rfl Tryz.call12 rfl (hX0 ) rfl) ?_
  rintro v0 _ ⟨m0, hp0, rfl⟩
  obtain ⟨B6, hp0⟩ := hp0
  obtain ⟨c4, hp0⟩ := hp0
  obtain ⟨rfl, rfl⟩ := hp0
  simp only [zca, zna, splice, spliceL]
  refine at_wanted (j := 10) rfl ?_
  refine zV (ov_any rfl rfl (fun _ => rfl)) ?_
  refine zO 6 rfl ?_
  refine zQ ?_
  refine at_end ?_
  refine at_fin (rsV rfl (res_tmp rfl)) ?_
  refine ⟨_, ⟨rfl, rfl⟩, ?_⟩
  exact zE [] [0, 0, 0, 0, 0, 0, 0, 0, 0, 0, 0, 0]
 ·have hCl := T16 w0 (g := g0) (s := inT (l ++ [stW val])) 1
  rw [w_close] at hCl
  refine zcall [3, 0] rfl rfl rfl Tryz.call14 rfl (T14 _ (by first | assumption | rfl | omega | decide | (simp; done) | (simp at *; omega)) (by first | assumption | rfl | omega | decide | (simp; done) | (simp at *; omega))) rfl ?_
  simp only [zca, zna, splice, spliceL]
  refine zO 9 rfl ?_
  refine zT (ot_buildSlice (cs := []) rfl Tryz.underlying36 rfl rfl rfl rfl rfl rfl) ?_
  rintro _ _ ⟨g4, rfl, rfl⟩
  refine zO 7 rfl ?_
  refine zcall [] rfl rfl rfl Tryz.call15 rfl (hO ) rfl ?_
  simp only [zca, zna, splice, spliceL]
  refine zO 27 rfl ?_
  refine zcall [4] rfl rfl rfl Tryz.call16 rfl (hCl ) rfl ?_
  simp only [zca, zna, splice, spliceL]
  refine zO 10 rfl ?_
  refine zT (ot_call (ks := [0]) rfl rfl rfl Tryz.call19 rfl (hL0 ) rfl) ?_
  rintro v0 _ ⟨m0, hp0, rfl⟩
  obtain ⟨B3, hp0⟩ := hp0
  obtain ⟨e0, hp0⟩ := hp0
  obtain ⟨rfl, rfl⟩ := hp0
  simp only [zca, zna, splice, spliceL]
  refine zT (ot_call (ks := [1]) rfl rfl rfl Tryz.call18 rfl (hE0 ) rfl) ?_
  rintro v0 _ ⟨m0, hp0, rfl⟩
  obtain ⟨B4, hp0⟩ := hp0
  obtain ⟨e1, hp0⟩ := hp0
  obtain ⟨rfl, rfl⟩ := hp0
  simp only [zca, zna, splice, spliceL]
  refine zO 1 rfl ?_
  refine at_rowOf (c := 0) (size := 2) enE 3 [] rfl (by simp) (by simp) (by decide) (by simp) rfl ?_
  simp only [setAt]
  refine at_reval 153 (.slice (some ⟨g4, 0, none⟩) ([] : List Ent).length 0) rfl rfl ?_
  refine zcall [0, 2] rfl rfl rfl Tryz.call17 rfl (hS0 ) rfl ?_
  simp only [zca, zna, splice, spliceL]
  refine zO 2 rfl ?_
  refine at_wanted (j := 5) rfl ?_
  refine zcall [3] rfl rfl rfl Tryz.call16 rfl (hC0 ) rfl ?_
  simp only [zca, zna, splice, spliceL]
  refine zO 4 rfl ?_
  refine at_wanted (j := 10) rfl ?_
  refine zT (ot_call (ks := [0]) rfl rfl rfl Tryz.call12 rfl (hX0 ) rfl) ?_
  rintro v0 _ ⟨m0, hp0, rfl⟩
  obtain ⟨B5, hp0⟩ := hp0
  obtain ⟨c3, hp0⟩ := hp0
  obtain ⟨rfl, rfl⟩ := hp0
  simp only [zca, zna, splice, spliceL]
  refine at_wanted (j := 10) rfl ?_
  refine zV (ov_any rfl rfl (fun _ => rfl)) ?_
  refine zO 6 rfl ?_
  refine zQ ?_
  refine at_end ?_
  refine at_fin (rsV rfl (res_tmp rfl)) ?_
  refine ⟨_, ⟨rfl, rfl⟩, ?_⟩
  exact zE [] [0, 0, 0, 0, 0, 0, 0, 0, 0, 0, 0]
 refine zcall [3, 0] rfl rfl rfl Tryz.call14 rfl (T14 _ (by first | assumption | rfl | omega | decide | (simp; done) | (simp at *; omega)) (by first | assumption | rfl | omega | decide | (simp; done) | (simp at *; omega))) rfl ?_
 simp only [zca, zna, splice, spliceL]
 refine zO 9 rfl ?_
 refine zT (ot_buildSlice (cs := []) rfl Tryz.underlying36 rfl rfl rfl rfl rfl rfl) ?_
 rintro _ _ ⟨g4, rfl, rfl⟩
 refine zO 7 rfl ?_
 refine zcall [] rfl rfl rfl Tryz.call15 rfl (hO ) rfl ?_
 simp only [zca, zna, splice, spliceL]
 refine zO 13 rfl ?_
 refine zT (ot_buildSlice (cs := []) rfl Tryz.underlying22 rfl rfl rfl rfl rfl rfl) ?_
 rintro _ _ ⟨g5, rfl, rfl⟩
 refine zO 1 rfl ?_
 refine at_rowOf (c := 0) (size := 1) bsE 0 [] rfl (by simp) (by simp) (by decide) (by simp) rfl ?_
 simp only [setAt]
 refine zT (ot_append (k := 0) (xs := []) (ys := l) (enc := bsE) (size := 1) (bytes := 16) (fun w s => hr.up s) rfl Tryz.underlying22 rfl rfl rfl rfl rfl (by decide) rfl rfl rfl (by simp [bsE, Value.oneCell']) (by simp; omega) (by decide)) ?_
 rintro _ _ ⟨A0, c0, rfl, rfl⟩
 simp only [setAt, List.nil_append]
 refine zO 1 rfl ?_
 refine zT (ot_buildSlice (cs := [_]) rfl Tryz.underlying22 rfl rfl rfl rfl rfl rfl) ?_
 rintro _ _ ⟨g6, rfl, rfl⟩
 refine zT (ot_append (k := 1) (size := 1) (bytes := 16) (ys := [stW val]) (fun _ s => s.rdPt (k := 0) rfl rfl (by simp [bsE])) rfl Tryz.underlying22 (ti := Tryz.t9) rfl rfl rfl rfl rfl (by decide) rfl rfl rfl (by simp [bsE, Value.oneCell']) (by simp; omega) (by decide)) ?_
 rintro _ _ ⟨A1, c3, rfl, rfl⟩
 simp only [setAt]
 obtain ⟨ts, hts⟩ : ∃ ts, ts = l ++ [stW val] := ⟨_, rfl⟩
 have htl2 : ts.length ≤ 41 := by rw [hts]; simp; omega
 have hall2 : ∀ x ∈ ts, x.length ≤ 300 := by rw [hts]; intro y hy; exact (by
  rcases List.mem_append.1 hy with hy | hy
  ·exact (hall y hy).1
  ·simp at hy; subst hy; omega)
 rw [← hts] at hok2 ⊢
 obtain ⟨W, hW⟩ : ∃ W : List Ent, W = ts.map fun t => (1, t) := ⟨_, rfl⟩
 have hWl : W.length = ts.length := by rw [hW, List.length_map]
 have hWk : ∀ k : Nat, W.take (k + 1) = W.take k ++ (match ts[k]? with | some t => [(1, t)] | none => []) := fun k => by
  try rw [List.take_add_one]
  try rw [hW]
  try rw [List.getElem?_map]
  cases ts[k]? <;> rfl
 have hWt : ∀ x ∈ W, x.2.length ≤ 300 := by rw [hW]; intro x hx; obtain ⟨t, ht, rfl⟩ := List.mem_map.1 hx; exact hall2 t ht
 refine zO 5 rfl ?_
 refine at_rowOf (c := 0) (size := 2) enE 2 [] rfl (by simp) (by simp) (by decide) (by simp) rfl ?_
 simp only [setAt]
 refine at_loopK [126, 127, 128, 19, 129, 130, 131, 132, 133, 17, 134, 125] (fun i : Nat × Option Addr × Nat => i.1 ≤ ts.length) (fun i => [(125, .int .i64 (i.1 : Nat)), (17, .slice i.2.1 (W.take i.1).length i.2.2)]) (fun i q => setAt 2 (Row enE 39 2 i.2.1 i.2.2 (W.take i.1)) q) (fun i => ts.length - i.1) (0, some ⟨g4, 0, none⟩, 0) (Nat.zero_le _) ⟨rfl, rfl, trivial⟩ (fun _ s => s) ?_
 rintro ⟨q, B, b⟩ hq
 simp only [setAt] at hq ⊢
 have hWq : (W.take q).length ≤ q := by rw [List.length_take]; omega
 rcases Nat.lt_or_ge q ts.length with hlt | hge
 ·have hi5 : decide ((q : Int) < ts.length) = true := decide_eq_true (by omega)
  obtain ⟨x, hget⟩ : ∃ x, ts[q]? = some x := ⟨_, List.getElem?_eq_getElem hlt⟩
  have hsu := hWk q
  rw [hget] at hsu
  simp only at hsu
  refine zC 6 rfl ?_
  refine zcT rfl (decide_eq_true (by omega)) ?_
  refine zC 6 rfl ?_
  refine zV (ov_indexRd (fun _ s => s.rd (k := 1) rfl) rfl Tryz.underlying22 rfl rfl rfl hget) ?_
  refine zV (ov_loadRd0 (fun _ s => s.rd (k := 1) rfl) rfl rfl rfl hget rfl) ?_
  refine zO 6 rfl ?_
  refine zV (ov_build (cs := [_, _]) rfl rfl rfl rfl) ?_
  refine zT (ot_buildSlice (cs := [_, _]) rfl Tryz.underlying36 rfl rfl rfl rfl rfl rfl) ?_
  rintro _ _ ⟨g7, rfl, rfl⟩
  refine zT (ot_append (k := 3) (size := 2) (bytes := 24) (ys := [((1 : Int), x)]) (fun _ s => s.rdPt (k := 0) rfl rfl (by simp [enE])) rfl Tryz.underlying36 (ti := Tryz.t39) rfl rfl rfl rfl rfl (by decide) rfl rfl rfl (by simp [enE, Value.oneCell']) (by simp; omega) (by decide)) ?_
  rintro _ _ ⟨A2, c4, rfl, rfl⟩
  simp only [setAt]
  try rw [← hsu]
  refine zO 5 rfl ?_
  refine zV zI ?_
  refine zOR 3 rfl ?_
  refine at_roundF (q + 1, A2, c4) hlt (by simp only; omega) ⟨rfl, rfl, trivial⟩ rfl ?_
  simp only [setAt]
  exact zE [1, 1, 1, 1, 1, 1, 1, 1, 1, 1] [0]
 have hi5 : decide ((q : Int) < ts.length) = false := decide_eq_false (by omega)
 have hWf : W.take q = W := List.take_of_length_le (by omega)
 try rw [hWf]
 have hcm := T12 w0 (g := g0) hok2 1 1 false wC (by decide) hM
 rw [w_commit (by omega), ← hW] at hcm
 have hokW := outT_ok W (by omega) hWt
 have hLW := T19 w0 (g := g0) (s := outT W) (by simp; omega)
 have hEW {A : Option Addr} {c c' : Nat} := T18 w0 (A := A) (c := c) (c' := c') (l := W) (by omega)
 have hSW {A B : Option Addr} {c d c' d' : Nat} := same15 w0 (A := A) (B := B) (c := c) (d := d) (c' := c') (d' := d') (xs := W) (ys := W) (by omega) (by omega)
 have hzW : decide (W = W) = true := decide_eq_true rfl
 have hXW := T12 w0 (g := g0) hokW 1 1 false wC (by decide) hM
 rw [w_commit0] at hXW
 refine zC 6 rfl ?_
 refine zcF rfl (decide_eq_false (by omega)) ?_
 refine zC 8 rfl ?_
 refine zT (ot_call (ks := [6]) rfl rfl rfl Tryz.call12 rfl (hcm ) rfl) ?_
 rintro v0 _ ⟨m0, hp0, rfl⟩
 obtain ⟨B3, hp0⟩ := hp0
 obtain ⟨c4, hp0⟩ := hp0
 obtain ⟨rfl, rfl⟩ := hp0
 simp only [zca, zna, splice, spliceL]
 refine zV (ov_any rfl rfl (fun _ => rfl)) ?_
 refine zO 10 rfl ?_
 refine zT (ot_call (ks := [0]) rfl rfl rfl Tryz.call19 rfl (hLW ) rfl) ?_
 rintro v0 _ ⟨m0, hp0, rfl⟩
 obtain ⟨B4, hp0⟩ := hp0
 obtain ⟨e0, hp0⟩ := hp0
 obtain ⟨rfl, rfl⟩ := hp0
 simp only [zca, zna, splice, spliceL]
 refine zT (ot_call (ks := [1]) rfl rfl rfl Tryz.call18 rfl (hEW ) rfl) ?_
 rintro v0 _ ⟨m0, hp0, rfl⟩
 obtain ⟨B5, hp0⟩ := hp0
 obtain ⟨e1, hp0⟩ := hp0
 obtain ⟨rfl, rfl⟩ := hp0
 simp only [zca, zna, splice, spliceL]
 refine zO 1 rfl ?_
 refine zcall [0, 5] rfl rfl rfl Tryz.call17 rfl (hSW ) rfl ?_
 simp only [zca, zna, splice, spliceL]
 refine zO 2 rfl ?_
 refine at_wanted (j := 5) rfl ?_
 refine zcall [3] rfl rfl rfl Tryz.call16 rfl (hC0 ) rfl ?_
 simp only [zca, zna, splice, spliceL]
 refine zO 4 rfl ?_
 refine at_wanted (j := 10) rfl ?_
 refine zT (ot_call (ks := [0]) rfl rfl rfl Tryz.call12 rfl (hXW ) rfl) ?_
 rintro v0 _ ⟨m0, hp0, rfl⟩
 obtain ⟨B6, hp0⟩ := hp0
 obtain ⟨c5, hp0⟩ := hp0
 obtain ⟨rfl, rfl⟩ := hp0
 simp only [zca, zna, splice, spliceL]
 refine at_wanted (j := 10) rfl ?_
 refine zV (ov_any rfl rfl (fun _ => rfl)) ?_
 refine zO 6 rfl ?_
 refine zQ ?_
 refine at_end ?_
 refine at_fin (rsV rfl (res_tmp rfl)) ?_
 refine ⟨_, ⟨rfl, rfl⟩, ?_⟩
 exact zE [] [0, 0, 0, 0, 0, 0, 0, 0, 0, 0, 0, 0, 0, 0]
end Go.Proofs.YtighdkdomfpadaaGreatDoor
