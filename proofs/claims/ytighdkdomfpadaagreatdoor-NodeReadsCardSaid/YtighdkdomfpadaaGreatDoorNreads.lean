/- The statement NodeReads, walked. -/
import Derived.Test.YtighdkdomfpadaaGreatDoorProg
import Derived.Test.YtighdkdomfpadaaGreatDoorFences
import Derived.Test.YtighdkdomfpadaaGreatDoorSLB
import Derived.KernelRfl
set_option linter.unusedSimpArgs false
set_option linter.unusedVariables false
set_option maxRecDepth 100000
set_option maxHeartbeats 4000000
namespace Go.Proofs.YtighdkdomfpadaaGreatDoor
open Go Go.Proofs.YtighdkdomfpadaaGreatDoor.SL Go.RowKit
/-- Who reads leaves a node as it is. -/
theorem read_law (s : ND) (k : Int) (t : BL) : (runN s k s.ep true t).1 = s ∧ decide ((runN s k s.ep true t).2.er = 0) = decide (classL t = 1) ∧ (runN s k s.ep true t).2.ep = s.ep := by
  unfold runN mayN
  by_cases h1 : classL t = 1
  · simp [h1]
  · simp [h1]
theorem alike_self (a : RP) : alikeR a a = true := by unfold alikeR; simp
theorem reads_len20 (p : PM) (l : List PR) : (readsL p l).length ≤ 20 := by
  unfold readsL
  split
  · split
    · split <;> simp
    · simp
  · split
    · rw [List.length_take]; omega
    · simp
theorem run_tx (s : ND) (k e : Int) (rd : Bool) (t : BL) : (runN s k e rd t).2.tx.length ≤ 20 := by
  unfold runN
  split
  · simp
  · split
    · exact reads_len20 _ _
    · simp
theorem do_tx (ss : List ND) (x : AC) : (doL ss x).2.r.tx.length ≤ 20 := by
  unfold doL
  split
  · simp [rp0]
  · split
    · exact run_tx _ _ _ _ _
    · split
      · simp [rp0]
      · split
        · simp [rp0]
        · split <;> simp [rp0]
theorem T7 (w0 : World) {A : Option Addr} {c : Nat} {l : List AC} (cn : Int) (tx : BL) (hr : Rd acE w0 8 A l) (hl : l.length ≤ 4000000000000) (hep : ∀ x ∈ l, 0 ≤ x.ep ∧ x.ep < 18446744073709551616) (htl : tx.length ≤ 140737488351232) (hM : MaxL w0) :
 Tri Tryz.prog w0 7 [.slice A l.length c, .int .i64 cn, SV tx] [] fun v m => v = .bool true ∧ m = [] := by
 refine tri_k Tryz.func7 rfl rfl fun F => ?_
 simp only [Tryz.ntmps7, argEnv, List.cons_append, List.nil_append]
 have hLg := T20 w0 (c := c) hr hl
 cases hlg : largeL l with
 | true =>
  rw [hlg] at hLg
  refine zH fun zq zQ => ?_
  refine zC 8 rfl ?_
  refine zcall [] rfl rfl rfl Tryz.call8 rfl (T8 _ (by first | assumption | rfl | omega | decide | (simp; done) | (simp at *; omega))) rfl ?_
  simp only [zca, zna, splice, spliceL]
  refine zO 10 rfl ?_
  refine zcall [] rfl rfl rfl Tryz.call20 rfl (hLg ) rfl ?_
  simp only [zca, zna, splice, spliceL]
  refine zO 15 rfl ?_
  refine zQ ?_
  refine at_end ?_
  refine at_fin (rsV rfl (res_tmp rfl)) ?_
  refine ⟨_, ⟨rfl, rfl⟩, ?_⟩
  exact zE [] []
 | false =>
 rw [hlg] at hLg
 obtain ⟨hl60, htx⟩ := large_no hlg
 by_cases ht : 300 < tx.length
 ·have hi0 : decide ((tx.length : Int) > 300) = true := decide_eq_true (by omega)
  refine zH fun zq zQ => ?_
  refine zC 8 rfl ?_
  refine zcall [] rfl rfl rfl Tryz.call8 rfl (T8 _ (by first | assumption | rfl | omega | decide | (simp; done) | (simp at *; omega))) rfl ?_
  simp only [zca, zna, splice, spliceL]
  refine zO 10 rfl ?_
  refine zcall [] rfl rfl rfl Tryz.call20 rfl (hLg ) rfl ?_
  simp only [zca, zna, splice, spliceL]
  refine zO 7 rfl ?_
  refine zcT rfl (decide_eq_true (by omega)) ?_
  refine zC 7 rfl ?_
  refine zQ ?_
  refine at_end ?_
  refine at_fin (rsV rfl (res_tmp rfl)) ?_
  refine ⟨_, ⟨rfl, rfl⟩, ?_⟩
  exact zE [] []
 have hi0 : decide ((tx.length : Int) > 300) = false := decide_eq_false (by omega)
 refine zH fun zq zQ => ?_
 refine zC 8 rfl ?_
 refine zcall [] rfl rfl rfl Tryz.call8 rfl (T8 _ (by first | assumption | rfl | omega | decide | (simp; done) | (simp at *; omega))) rfl ?_
 simp only [zca, zna, splice, spliceL]
 refine zO 10 rfl ?_
 refine zcall [] rfl rfl rfl Tryz.call20 rfl (hLg ) rfl ?_
 simp only [zca, zna, splice, spliceL]
 refine zO 7 rfl ?_
 refine zcF rfl (decide_eq_false (by omega)) ?_
 refine zC 4 rfl ?_
 refine zT (ot_call (ks := []) rfl rfl rfl Tryz.call21 rfl (T21 _) rfl) ?_
 rintro v0 _ ⟨m0, hp0, rfl⟩
 obtain ⟨A0, hp0⟩ := hp0
 obtain ⟨c0, hp0⟩ := hp0
 obtain ⟨g00, hp0⟩ := hp0
 obtain ⟨g10, hp0⟩ := hp0
 obtain ⟨g20, hp0⟩ := hp0
 obtain ⟨rfl, rfl⟩ := hp0
 simp only [zca, zna, splice, spliceL]
 refine zT (ot_call (ks := []) rfl rfl rfl Tryz.call21 rfl (T21 _) rfl) ?_
 rintro v0 _ ⟨m0, hp0, rfl⟩
 obtain ⟨A1, hp0⟩ := hp0
 obtain ⟨c1, hp0⟩ := hp0
 obtain ⟨g01, hp0⟩ := hp0
 obtain ⟨g11, hp0⟩ := hp0
 obtain ⟨g21, hp0⟩ := hp0
 obtain ⟨rfl, rfl⟩ := hp0
 simp only [zca, zna, splice, spliceL]
 refine zO 13 rfl ?_
 obtain ⟨ga, hga⟩ : ∃ gs, gs = [g00, g10, g20] := ⟨_, rfl⟩
 obtain ⟨gb, hgb⟩ : ∃ gs, gs = [g01, g11, g21] := ⟨_, rfl⟩
 have ha3 : ga.length = 3 := by rw [hga]; rfl
 have hb3 : gb.length = 3 := by rw [hgb]; rfl
 try rw [← hga]
 try rw [← hgb]
 have h3 : [n0, n0, n0].length = 3 ∧ ∀ s ∈ [n0, n0, n0], NOk s := ⟨rfl, fun s hs => by simp at hs; rw [hs]; exact NOk.new⟩
 refine at_loopK [32, 33, 34, 10, 35, 36, 37, 38, 39, 40, 12, 41, 42, 13, 43, 44, 45, 46, 47, 48, 49, 14, 50, 51, 52, 53, 54, 55, 56, 15, 57, 58, 59, 60, 61, 62, 63, 64, 65, 66, 67, 68, 69, 70, 71, 72, 73, 74, 75, 76, 77, 78, 79, 6, 80, 81, 82, 83, 84, 85, 86, 16, 17, 87, 88, 89, 90, 91, 92, 93, 94, 95, 96, 97, 98, 99, 100, 101, 102, 103, 104, 105, 106, 107, 31] (fun i : Nat × List ND => i.1 ≤ l.length ∧ i.2.length = 3 ∧ ∀ s ∈ i.2, NOk s) (fun i => [(31, .int .i64 (i.1 : Nat))]) (fun i q => setAt 1 (Many NodeA gb i.2) (setAt 3 (Many NodeA ga i.2) q)) (fun i => l.length - i.1) (0, [n0, n0, n0]) ⟨Nat.zero_le _, h3⟩ ⟨rfl, trivial⟩ (fun _ s => s) ?_
 rintro ⟨k, ss⟩ ⟨hk, hs3, hok⟩
 simp only [setAt] at hk hs3 hok ⊢
 rcases Nat.lt_or_ge k l.length with hlt | hge
 rotate_left
 ·have hi1 : decide ((k : Int) < l.length) = false := decide_eq_false (by omega)
  refine zC 6 rfl ?_
  refine zcF rfl (decide_eq_false (by omega)) ?_
  refine zC 11 rfl ?_
  refine zQ ?_
  refine at_end ?_
  refine at_fin (rsV rfl (res_tmp rfl)) ?_
  refine ⟨_, ⟨rfl, rfl⟩, ?_⟩
  exact zE [] [0, 0, 0, 0]
 have hi1 : decide ((k : Int) < l.length) = true := decide_eq_true (by omega)
 obtain ⟨x, hget⟩ : ∃ x, l[k]? = some x := ⟨_, List.getElem?_eq_getElem hlt⟩
 have hxm := List.mem_of_getElem? hget
 have hxt := htx x hxm
 have hxe := hep x hxm
 obtain ⟨hd3, hdok⟩ := do_ok hok hxe.1 hxe.2 hxt
 rw [hs3] at hd3
 refine zC 6 rfl ?_
 refine zcT rfl (decide_eq_true (by omega)) ?_
 refine zC 6 rfl ?_
 refine zV (ov_indexRd (fun _ s => hr.up s) rfl Tryz.underlying46 rfl rfl rfl hget) ?_
 refine zV (ov_loadRdS (vs := [_, _, _, _, _, _, _, _]) (fun _ s => hr.up s) rfl rfl rfl hget rfl rfl) ?_
 refine zA Tryz.zeroValue54 fun g0 => ?_
 refine zS 0 ?_
 simp only [setAt, splice, spliceL, Value.cells]
 refine zO 11 rfl ?_
 refine at_loopK [38, 39, 40, 12, 41, 42, 13, 43, 44, 45, 46, 47, 48, 49, 14, 50, 51, 52, 53, 54, 55, 56, 15, 57, 58, 59, 60, 61, 62, 63, 64, 65, 66, 67, 68, 69, 70, 71, 72, 73, 74, 75, 76, 77, 78, 79, 6, 80, 37] (fun i : Nat => i ≤ gb.length) (fun i => [(37, .int .i64 (i : Nat))]) (fun i q => q) (fun i => gb.length - i) 0 (Nat.zero_le _) ⟨rfl, trivial⟩ (fun _ s => s) ?_
 intro q hq
 rcases Nat.lt_or_ge q gb.length with hql | hqg
 ·have hl1 : decide ((q : Int) < gb.length) = true := decide_eq_true (by omega)
  obtain ⟨g, hgi⟩ : ∃ g, gb[q]? = some g := ⟨_, List.getElem?_eq_getElem hql⟩
  obtain ⟨s, hsi⟩ : ∃ s, ss[q]? = some s := ⟨_, List.getElem?_eq_getElem (by omega)⟩
  have hns := hok s (List.mem_of_getElem? hsi)
  have hlen := hns.len
  obtain ⟨r1, r2, r3⟩ := read_law s cn tx
  have hR := T12 w0 (g := g) hns cn s.ep true tx (by omega) hM
  have hRp {B : Option Addr} {c : Nat} := T32 w0 (runN s cn s.ep true tx).2 (B := B) (c := c)
  have htx2 := run_tx s cn s.ep true tx
  rw [r1] at hR
  obtain ⟨r, hrd⟩ : ∃ r, r = (runN s cn s.ep true tx).2 := ⟨_, rfl⟩
  rw [← hrd] at hR hRp r2 htx2
  have hL := T19 w0 (g := g) (s := s) (by omega)
  have hE {A : Option Addr} {c c' : Nat} := T18 w0 (A := A) (c := c) (c' := c') (l := s.lg) (by omega)
  have hAl {A B : Option Addr} {c d : Nat} := T25 w0 (A := A) (B := B) (c := c) (d := d) r r (by omega) (by omega)
  rw [alike_self] at hAl
  have hS {A B : Option Addr} {c d c' d' : Nat} := same15 w0 (A := A) (B := B) (c := c) (d := d) (c' := c') (d' := d') (xs := s.lg) (ys := s.lg) (by omega) (by omega)
  have hq8 : decide (s.lg = s.lg) = true := decide_eq_true rfl
  have hC {g : Nat} := T13 w0 (g := g) tx (by omega) hM
  have hq9 : (decide (r.er = 0) == decide (classL tx = 1)) = true := by rw [r2]; simp
  refine at_many 2 q hgi hsi rfl ?_
  refine zC 6 rfl ?_
  refine zcT rfl (decide_eq_true (by omega)) ?_
  refine zC 6 rfl ?_
  refine zV (ov_indexRd (fun _ s => s.rd (k := 3) rfl) rfl Tryz.underlying48 rfl rfl rfl hgi) ?_
  refine zV (ov_loadRd0 (fun _ s => s.rd (k := 3) rfl) rfl rfl rfl hgi rfl) ?_
  refine zO 6 rfl ?_
  refine zT (ot_call (ks := [0]) rfl rfl rfl Tryz.call19 rfl (hL ) rfl) ?_
  rintro v0 _ ⟨m0, hp0, rfl⟩
  obtain ⟨B0, hp0⟩ := hp0
  obtain ⟨e0, hp0⟩ := hp0
  obtain ⟨rfl, rfl⟩ := hp0
  simp only [zca, zna, splice, spliceL]
  refine zO 8 rfl ?_
  refine zcall [0] rfl rfl rfl Tryz.call27 rfl (T27 _) rfl ?_
  simp only [zca, zna, splice, spliceL]
  refine zO 1 rfl ?_
  refine zT (ot_call (ks := [0]) rfl rfl rfl Tryz.call12 rfl (hR ) rfl) ?_
  rintro v0 _ ⟨m0, hp0, rfl⟩
  obtain ⟨B1, hp0⟩ := hp0
  obtain ⟨c2, hp0⟩ := hp0
  obtain ⟨rfl, rfl⟩ := hp0
  simp only [zca, zna, splice, spliceL]
  refine zcall [] rfl rfl rfl Tryz.call32 rfl (hRp ) rfl ?_
  simp only [zca, zna, splice, spliceL]
  refine zA Tryz.zeroValue55 fun g1 => ?_
  refine zS 0 ?_
  simp only [setAt, splice, spliceL, Value.cells]
  refine zO 7 rfl ?_
  refine zcall [1] rfl rfl rfl Tryz.call27 rfl (T27 _) rfl ?_
  simp only [zca, zna, splice, spliceL]
  refine zO 1 rfl ?_
  refine zT (ot_call (ks := [0]) rfl rfl rfl Tryz.call12 rfl (hR ) rfl) ?_
  rintro v0 _ ⟨m0, hp0, rfl⟩
  obtain ⟨B2, hp0⟩ := hp0
  obtain ⟨c3, hp0⟩ := hp0
  obtain ⟨rfl, rfl⟩ := hp0
  simp only [zca, zna, splice, spliceL]
  refine zcall [] rfl rfl rfl Tryz.call32 rfl (hRp ) rfl ?_
  simp only [zca, zna, splice, spliceL]
  refine zA Tryz.zeroValue55 fun g2 => ?_
  refine zS 0 ?_
  simp only [setAt, splice, spliceL, Value.cells]
  refine zO 3 rfl ?_
  refine at_draw _ [] 1000 [(1, 0), (1, 1), (0, 2), (2, 3), (2, 4), (2, 5), (2, 7), (0, 6), (0, 8), (0, 9), (0, 10), (2, 11), (2, 12), (2, 13), (2, 14), (1, 15), (2, 16), (2, 18), (0, 17), (0, 19), (2, 20), (2, 21), (2, 22)] (by kernel_rfl) (by kernel_rfl) (fun _ s => (s.pulls (ks := [0, 2]) rfl).left) ?_
  refine aq_v (ov_loadS (cs := [_, _, _, _]) rfl rfl rfl rfl (fun _ s => s.lds (k := 1) rfl ⟨rfl, rfl, rfl, rfl, trivial⟩)) rfl rfl rfl ?_
  refine aq_v (ov_loadS (cs := [_, _, _, _]) rfl rfl rfl rfl (fun _ s => s.lds (k := 0) rfl ⟨rfl, rfl, rfl, rfl, trivial⟩)) rfl rfl rfl ?_
  refine aq_t (ot_call (ks := [4, 2]) rfl rfl rfl Tryz.call25 rfl (hAl ) rfl) rfl rfl rfl ?_
  rintro v0 _ ⟨m0, hp0, rfl⟩
  obtain ⟨rfl, rfl⟩ := hp0
  simp only [zca, zna, splice, spliceL]
  refine ⟨fun _ s => (s.pulls (ks := [2, 3]) rfl).left, ?_⟩
  refine aq_p (ov_not rfl rfl) rfl rfl rfl ?_
  refine aq_p (ov_move rfl rfl) rfl rfl rfl ?_
  refine aq_wanted (j := 4) rfl ?_
  refine aq_p (ov_move rfl rfl) rfl rfl rfl ?_
  refine aq_wanted (j := 4) rfl ?_
  refine aq_p (ov_move rfl rfl) rfl rfl rfl ?_
  refine aq_wanted (j := 4) rfl ?_
  refine aq_t (ot_call (ks := [5]) rfl rfl rfl Tryz.call18 rfl (hE ) rfl) rfl rfl rfl ?_
  rintro v0 _ ⟨m0, hp0, rfl⟩
  obtain ⟨B3, hp0⟩ := hp0
  obtain ⟨e1, hp0⟩ := hp0
  obtain ⟨rfl, rfl⟩ := hp0
  simp only [zca, zna, splice, spliceL]
  refine ⟨fun _ s => (s.pulls (ks := [4, 5]) rfl).left, ?_⟩
  refine aq_wanted (j := 4) rfl ?_
  refine aq_t (ot_call (ks := [5]) rfl rfl rfl Tryz.call19 rfl (hL ) rfl) rfl rfl rfl ?_
  rintro v0 _ ⟨m0, hp0, rfl⟩
  obtain ⟨B4, hp0⟩ := hp0
  obtain ⟨e2, hp0⟩ := hp0
  obtain ⟨rfl, rfl⟩ := hp0
  simp only [zca, zna, splice, spliceL]
  refine ⟨fun _ s => (s.pulls (ks := [6, 6]) rfl).left, ?_⟩
  refine aq_wanted (j := 4) rfl ?_
  refine aq_t (ot_call (ks := [1]) rfl rfl rfl Tryz.call18 rfl (hE ) rfl) rfl rfl rfl ?_
  rintro v0 _ ⟨m0, hp0, rfl⟩
  obtain ⟨B5, hp0⟩ := hp0
  obtain ⟨e3, hp0⟩ := hp0
  obtain ⟨rfl, rfl⟩ := hp0
  simp only [zca, zna, splice, spliceL]
  refine ⟨fun _ s => (s.pulls (ks := [7, 7]) rfl).left, ?_⟩
  refine aq_wanted (j := 4) rfl ?_
  refine aq_t (ot_call (ks := [3, 0]) rfl rfl rfl Tryz.call17 rfl (hS ) rfl) rfl rfl rfl ?_
  rintro v0 _ ⟨m0, hp0, rfl⟩
  obtain ⟨rfl, rfl⟩ := hp0
  simp only [zca, zna, splice, spliceL]
  refine ⟨fun _ s => (s.pulls (ks := [7, 7]) rfl).left, ?_⟩
  refine aq_wanted (j := 4) rfl ?_
  refine aq_p (ov_not rfl rfl) rfl rfl rfl ?_
  refine aq_p (ov_pick_f rfl rfl rfl) rfl rfl rfl ?_
  refine aq_p (ov_move rfl rfl) rfl rfl rfl ?_
  refine aq_wanted (j := 13) rfl ?_
  refine aq_p (ov_fieldAddr (k := 0) (r := 0) rfl rfl rfl rfl) rfl rfl rfl ?_
  refine aq_wanted (j := 13) rfl ?_
  refine aq_v (ov_load rfl rfl rfl (fun _ s => s.ld (k := 1) rfl rfl)) rfl rfl rfl ?_
  refine aq_wanted (j := 13) rfl ?_
  refine aq_p (ov_int rfl rfl rfl rfl) rfl rfl rfl ?_
  refine aq_wanted (j := 13) rfl ?_
  refine aq_p (ov_move rfl rfl) rfl rfl rfl ?_
  refine aq_wanted (j := 13) rfl ?_
  refine aq_t (ot_call (ks := []) rfl rfl rfl Tryz.call11 rfl (T11 _) rfl) rfl rfl rfl ?_
  rintro v0 _ ⟨m0, hp0, rfl⟩
  obtain ⟨g3, hp0⟩ := hp0
  obtain ⟨rfl, rfl⟩ := hp0
  simp only [zca, zna, splice, spliceL]
  refine ⟨fun _ s => (s.pulls (ks := [8, 8]) rfl).left, ?_⟩
  refine aq_wanted (j := 13) rfl ?_
  refine at_fold (A := Cl g3) [0] rfl (fun h s => cl_made h s) ?_
  refine aq_t (ot_call (ks := [0]) rfl rfl rfl Tryz.call13 rfl (hC ) rfl) rfl rfl rfl ?_
  rintro v0 _ ⟨m0, hp0, rfl⟩
  obtain ⟨rfl, rfl⟩ := hp0
  simp only [zca, zna, splice, spliceL]
  refine ⟨fun _ s => (s.pulls (ks := [8, 8]) rfl).left, ?_⟩
  refine aq_wanted (j := 13) rfl ?_
  refine aq_p (ov_int rfl rfl rfl rfl) rfl rfl rfl ?_
  refine aq_wanted (j := 13) rfl ?_
  refine aq_p (ov_boolne rfl Tryz.underlying4 rfl rfl) rfl rfl rfl ?_
  refine aq_p (ov_pick_f rfl rfl rfl) rfl rfl rfl ?_
  refine aq_nil ?_
  refine zX 1 rfl ?_
  refine zcF rfl (by first | assumption | (rw [Bool.not_eq_false']; exact decide_eq_true (by omega))) ?_
  refine zC 4 rfl ?_
  refine zV zI ?_
  refine zOR 3 rfl ?_
  refine at_fold (A := Many NodeA gb ss) [4, 9] rfl (fun h s => many_same hgi hsi h s) ?_
  refine at_roundF (q + 1) hql (by omega) ⟨rfl, trivial⟩ rfl ?_
  exact zE [10, 10, 0, 9, 9] [0, 0, 0, 0, 0, 0, 0, 0, 0]
 have hl1 : decide ((q : Int) < gb.length) = false := decide_eq_false (by omega)
 refine zC 6 rfl ?_
 refine zcF rfl (decide_eq_false (by omega)) ?_
 refine zC 6 rfl ?_
 refine at_pulls [1, 1, 1, 1, 0] rfl ?_
 simp only [zca, zna]
 have hDa {c c' : Nat} {A : Option Addr} := T23 w0 (A := A) (c := c) (c' := c') x ha3 hs3 hok hxt hM
 have hDb {c c' : Nat} {A : Option Addr} := T23 w0 (A := A) (c := c) (c' := c') x hb3 hs3 hok hxt hM
 obtain ⟨tt, htd⟩ : ∃ t, t = (doL ss x).2 := ⟨_, rfl⟩
 have htx2 := do_tx ss x
 rw [← htd] at htx2 hDa hDb
 obtain ⟨sn, hsn⟩ : ∃ t, t = (doL ss x).1 := ⟨_, rfl⟩
 rw [← hsn] at hDa hDb hd3 hdok
 refine at_two2 (α := Option Addr × Nat) (β := Option Addr × Nat) (none, 0) (none, 0) (fun a => tdV tt a.1 a.2) (fun _ b => tdV tt b.1 b.2)
   [_, _, _, _] (fun a => [Row gpE 24 1 A0 c0 ga, Many NodeA ga sn, Row bsE 9 1 a.1 a.2 tt.r.tx, Row gpE 24 1 A1 c1 gb, Many NodeA gb ss])
   (fun a b => [Row gpE 24 1 A1 c1 gb, Many NodeA gb sn, Row bsE 9 1 b.1 b.2 tt.r.tx, Row gpE 24 1 A0 c0 ga, Many NodeA ga sn, Row bsE 9 1 a.1 a.2 tt.r.tx])
   [cl g0 _ _] 81 82 83 84 85 86 16 17 57 (v0 := .slice A0 ga.length c0) (v1 := .agg #[.int .i64 x.do_, .int .i64 x.nd, .int .i64 x.fr, .int .i64 x.cn, .int .i64 x.mn, .int .u64 x.ep, .bool x.rd, SV x.tx]) (v3 := .slice A1 gb.length c1) (v4 := .agg #[.int .i64 x.do_, .int .i64 x.nd, .int .i64 x.fr, .int .i64 x.cn, .int .i64 x.mn, .int .u64 x.ep, .bool x.rd, SV x.tx]) ?a1 ?a2 ?a3 ?a4 ?a5 ?a6 ?a7 rfl rfl rfl rfl (ov_move rfl rfl) (ov_loadS (cs := [_, _, _, _, _, _, _, _]) rfl rfl rfl rfl (fun _ s => s.lds (k := 0) rfl ⟨rfl, rfl, rfl, rfl, rfl, rfl, rfl, rfl, trivial⟩)) (ov_move rfl rfl) (ov_loadS (cs := [_, _, _, _, _, _, _, _]) rfl rfl rfl rfl (fun _ s => s.lds (k := 0) rfl ⟨rfl, rfl, rfl, rfl, rfl, rfl, rfl, rfl, trivial⟩)) Tryz.zeroValue57 ?h2 ?h5 ?hf ?hg ?hK
 case a1 => kernel_rfl
 case a2 => kernel_rfl
 case a3 => kernel_rfl
 case a4 => kernel_rfl
 case a5 => rfl
 case a6 => kernel_rfl
 case a7 => kernel_rfl
 case h2 =>
  intro R
  refine OpT.post (Post := fun v l' => ∃ m, (∃ B b, v = tdV tt B b ∧ m = [Row gpE 24 1 A0 c0 ga, Many NodeA ga sn, Row bsE 9 1 B b tt.r.tx]) ∧ l' = m ++ (Row gpE 24 1 A1 c1 gb :: Many NodeA gb ss :: R)) ?_ ?_
  ·exact ot_call (ks := [2, 2]) rfl rfl rfl Tryz.call23 rfl hDa rfl
  ·rintro v m ⟨m0, ⟨B, b, hv, hm⟩, hq⟩
   exact ⟨_, ⟨(B, b), hv, rfl⟩, fun w s => by rw [hq, hm] at s; exact s⟩
 case h5 =>
  intro a R
  refine OpT.post (Post := fun v l' => ∃ m, (∃ B b, v = tdV tt B b ∧ m = [Row gpE 24 1 A1 c1 gb, Many NodeA gb sn, Row bsE 9 1 B b tt.r.tx]) ∧ l' = m ++ (Row gpE 24 1 A0 c0 ga :: Many NodeA ga sn :: Row bsE 9 1 a.1 a.2 tt.r.tx :: R)) ?_ ?_
  ·exact ot_call (ks := [3, 3]) rfl rfl rfl Tryz.call23 rfl hDb rfl
  ·rintro v m ⟨m0, ⟨B, b, hv, hm⟩, hq⟩
   exact ⟨_, ⟨(B, b), hv, rfl⟩, fun w s => by rw [hq, hm] at s; exact s⟩
 case hf => exact (fun a => ⟨rfl, rfl, rfl⟩)
 case hg => exact (fun a b => ⟨rfl, rfl, rfl⟩)
 case hK =>
  rintro ⟨B0, b0⟩ ⟨B1, b1⟩ g6 g7
  change At _ _ _ _ _ (cl g6 #[.int .i64 tt.r.er, .int .u64 tt.r.ep, .int .u64 tt.r.pl, .slice B0 tt.r.tx.length b0, .bool tt.is, .int .i64 tt.mn] 57 :: cl g7 #[.int .i64 tt.r.er, .int .u64 tt.r.ep, .int .u64 tt.r.pl, .slice B1 tt.r.tx.length b1, .bool tt.is, .int .i64 tt.mn] 57 :: _)
  simp only [zca, zna]
  have hAl {A B : Option Addr} {c d : Nat} := T25 w0 (A := A) (B := B) (c := c) (d := d) tt.r tt.r (by omega) (by omega)
  rw [alike_self] at hAl
  have hq1 : (tt.is == tt.is) = true := by simp
  have hq2 : (!decide (tt.mn = tt.mn)) = false := by simp
  refine zXM [(0,_,_,_),(1,_,_,_)] ⟨rfl,rfl,trivial⟩ [0,1] 7 rfl ?_
  refine zcall [7, 4] rfl rfl rfl Tryz.call25 rfl (hAl ) rfl ?_
  simp only [zca, zna, splice, spliceL]
  refine zOM [(2,_,_,_),(3,_,_,_)] ⟨rfl,rfl,trivial⟩ [0,1] 6 rfl ?_
  refine at_wanted (j := 6) rfl ?_
  refine zV (ov_boolne rfl Tryz.underlying4 rfl rfl) ?_
  refine zO 2 rfl ?_
  refine zrF 100 rfl (by simp; done) ?_
  refine zOM [(2,_,_,_),(3,_,_,_)] ⟨rfl,rfl,trivial⟩ [0,1] 8 rfl ?_
  refine zcF rfl (by first | assumption | (rw [Bool.not_eq_false']; exact decide_eq_true (by omega))) ?_
  refine zC 4 rfl ?_
  refine zV zI ?_
  refine zOR 3 rfl ?_
  refine at_roundF (k + 1, sn) ⟨hlt, hd3, hdok⟩ (by simp only; omega) ⟨rfl, trivial⟩ rfl ?_
  simp only [setAt]
  exact zE [4, 4, 4, 4] [0, 0, 0, 0, 0]
end Go.Proofs.YtighdkdomfpadaaGreatDoor
