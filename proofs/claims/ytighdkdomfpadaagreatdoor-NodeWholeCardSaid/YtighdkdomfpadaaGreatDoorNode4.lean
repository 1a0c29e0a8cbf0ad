/- Package node, walked: Run. -/
import Derived.Test.YtighdkdomfpadaaGreatDoorProg
import Derived.Test.YtighdkdomfpadaaGreatDoorNode3
import Derived.Test.YtighdkdomfpadaaGreatDoorSLB
import Derived.KernelRfl
set_option linter.unusedSimpArgs false
set_option linter.unusedVariables false
set_option maxRecDepth 100000
set_option maxHeartbeats 4000000
namespace Go.Proofs.YtighdkdomfpadaaGreatDoor
open Go Go.Proofs.YtighdkdomfpadaaGreatDoor.SL Go.RowKit
theorem T12 (w0 : World) {g : Nat} {s : ND} (hs : NOk s) (k e : Int) (rd : Bool) (t : BL) (ht : t.length ≤ 300) (hM : MaxL w0) : Tri Tryz.prog w0 12 [ptrTo g, .int .i64 k, .int .u64 e, .bool rd, SV t] [NodeA g s]
 fun v m => ∃ B c, v = .agg #[.int .i64 (runN s k e rd t).2.er, .int .u64 (runN s k e rd t).2.ep, .int .u64 (runN s k e rd t).2.pl, .slice B (runN s k e rd t).2.tx.length c] ∧ m = [NodeA g (runN s k e rd t).1, Row bsE 9 1 B c (runN s k e rd t).2.tx] := by
 refine tri_k Tryz.func12 rfl rfl fun F => ?_
 simp only [Tryz.ntmps12, argEnv, List.cons_append, List.nil_append]
 refine at_node 0 rfl fun A c mb cg => ?_
 have hC {g : Nat} := T13 w0 (g := g) t (by omega) hM
 have hlen := hs.len
 obtain ⟨is, his⟩ : ∃ is, is = classL t := ⟨_, rfl⟩
 rw [← his] at hC
 refine zH fun zq zQ => ?_
 refine zC 2 rfl ?_
 refine zA Tryz.zeroValue32 fun g0 => ?_
 refine zOM [(1,_,_,_)] ⟨rfl,trivial⟩ [0] 9 rfl ?_
 refine zcall [4] rfl rfl rfl Tryz.call13 rfl (hC ) rfl ?_
 simp only [zca, zna, splice, spliceL]
 refine zO 5 rfl ?_
 refine zA Tryz.zeroValue32 fun g1 => ?_
 refine zO 9 rfl ?_
 refine at_fold (A := NodeA g s) [3, 3, 3, 1] rfl (fun h s => node_mk (A := A) (c := c) (mb := mb) (cg := cg) h s) ?_
 have hm := T34 w0 (g := g) (s := s) e rd is
 by_cases hz : mayN s e rd is = 0
 rotate_left
 ·have hrun : runN s k e rd t = (s, ⟨mayN s e rd is, s.ep, s.lg.length, []⟩) := by unfold runN; rw [← his, if_pos hz]
  have hi1 : decide (mayN s e rd is = 0) = false := by simp [hz]
  refine zcall [0] rfl rfl rfl Tryz.call34 rfl (hm ) rfl ?_
  simp only [zca, zna, splice, spliceL]
  refine zO 1 rfl ?_
  refine zS 1 ?_
  simp only [setAt, splice, spliceL, Value.cells]
  refine zOM [(1,_,_,_)] ⟨rfl,trivial⟩ [0] 9 rfl ?_
  refine zcF rfl (decide_eq_false (by omega)) ?_
  refine zC 3 rfl ?_
  refine at_node 0 rfl fun A2 c2 mb2 cg2 => ?_
  refine at_draw _ [] 1000 [(2, 0), (2, 1), (2, 2), (1, 3), (2, 4), (2, 5), (2, 6), (1, 7), (1, 8), (2, 10), (2, 9), (0, 11), (2, 12), (0, 13)] (by kernel_rfl) (by kernel_rfl) (fun _ s => (s.pulls (ks := [0, 4]) rfl).left) ?_
  refine aq_p (ov_move rfl rfl) rfl rfl rfl ?_
  refine aq_p (ov_nilCheck rfl rfl) rfl rfl rfl ?_
  refine aq_p (ov_fieldAddr (k := 0) (r := 0) rfl rfl rfl rfl) rfl rfl rfl ?_
  refine aq_v (ov_load rfl rfl rfl (fun _ s => s.ld (k := 0) rfl rfl)) rfl rfl rfl ?_
  refine aq_p (ov_move rfl rfl) rfl rfl rfl ?_
  refine aq_p (ov_nilCheck rfl rfl) rfl rfl rfl ?_
  refine aq_p (ov_fieldAddr (k := 2) (r := 2) rfl rfl rfl rfl) rfl rfl rfl ?_
  refine aq_v (ov_load rfl rfl rfl (fun _ s => s.ld (k := 0) rfl rfl)) rfl rfl rfl ?_
  refine aq_v (ov_len_slice rfl Tryz.underlying43 rfl) rfl rfl rfl ?_
  refine aq_p (ov_fieldAddr (k := 1) (r := 1) rfl rfl rfl rfl) rfl rfl rfl ?_
  refine aq_p ((ov_conv_int rfl rfl Tryz.underlying27 rfl).eq (congrArg (Value.int .u64) (inK_u64 (by omega) (by omega)))) rfl rfl rfl ?_
  refine aq_t0 (ot_store (k := 4) rfl rfl rfl rfl rfl rfl rfl) rfl rfl ?_
  rintro _ _ ⟨rfl, rfl⟩
  simp only [setAt, splice, spliceL, Value.cells]
  refine ⟨fun _ s => (s.pulls (ks := [0, 4]) rfl).left, ?_⟩
  refine aq_p (ov_fieldAddr (k := 2) (r := 2) rfl rfl rfl rfl) rfl rfl rfl ?_
  refine aq_t0 (ot_store (k := 4) rfl rfl rfl rfl rfl rfl rfl) rfl rfl ?_
  rintro _ _ ⟨rfl, rfl⟩
  simp only [setAt, splice, spliceL, Value.cells]
  refine ⟨fun _ s => (s.pulls (ks := [0, 4]) rfl).left, ?_⟩
  refine aq_nil ?_
  refine zXM [(4,_,_,_)] ⟨rfl,trivial⟩ [0] 4 rfl ?_
  refine zS 5 ?_
  simp only [setAt, splice, spliceL, Value.cells]
  refine zO 3 rfl ?_
  refine zQ ?_
  refine at_end ?_
  refine at_fold (A := NodeA g s) [0, 0, 0, 0] rfl (fun h s => node_mk (A := A2) (c := c2) (mb := mb2) (cg := cg2) h s) ?_
  refine at_rowNil bsE 9 1 ?_
  refine at_fin (rsV rfl (res_cellS (k := 3) (vs := [_, _, _, _]) rfl rfl rfl rfl ⟨rfl, rfl, rfl, rfl, trivial⟩)) ?_
  try rw [hrun]
  refine ⟨_, ⟨none, 0, rfl, rfl⟩, ?_⟩
  exact zE [1, 0] [0, 0]
 rw [hz] at hm
 refine zcall [0] rfl rfl rfl Tryz.call34 rfl (hm ) rfl ?_
 simp only [zca, zna, splice, spliceL]
 refine zO 1 rfl ?_
 refine zS 1 ?_
 simp only [setAt, splice, spliceL, Value.cells]
 refine zOM [(1,_,_,_)] ⟨rfl,trivial⟩ [0] 13 rfl ?_
 refine zT (ot_call (ks := []) rfl rfl rfl Tryz.call35 rfl (T35 _) rfl) ?_
 rintro v0 _ ⟨m0, hp0, rfl⟩
 obtain ⟨mb0, hp0⟩ := hp0
 obtain ⟨rfl, rfl⟩ := hp0
 simp only [zca, zna, splice, spliceL]
 refine zO 1 rfl ?_
 by_cases h1 : is = 1
 ·have hrun : runN s k e rd t = (s, ⟨0, s.ep, s.lg.length, readsL (planL t) (tabF (tabN s) (waitsN s k))⟩) := by unfold runN; rw [← his, if_neg (by simp [hz]), if_pos h1]
  have hkn : ∀ p ∈ waysL, p.1 ≠ kI is := by subst h1; unfold waysL; simp
  have hi2 : decide (is = 1) = true := by simp [h1]
  refine zV (ov_lookupNo (k := 0) rfl Tryz.underlying101 Tryz.underlying3 Tryz.zeroValue99 rfl rfl rfl (by first | rfl | trivial) (by assumption)) ?_
  refine zO 21 rfl ?_
  refine zcT rfl (decide_eq_true (by omega)) ?_
  refine at_node 1 rfl fun A c mb cg => ?_
  cases hf : findO s.op k with
  | some j =>
   have hj := findO_at hf
   refine at_rmPick 2 j hj rfl fun ads A1 c1 hads ha hkv => ?_
   have hO := T37 w0 t (by omega) hM
   unfold planV at hO
   have hT := tableRaw w0 (g := g) (A := A) (c := c) (mb := mb) (cg := cg) hs hM
   have htt := tabN_tab s
   have htl := tabN_len s
   have htx := (hs.trx j).1
   have hB {A B : Option Addr} {c d c' d' : Nat} := T38 w0 (A := A) (B := B) (c := c) (d := d) (c' := c') (d' := d') (l := tabN s) (ts := trx s.op j) htt (by omega) (by omega) (by intro t ht; have := (hs.trx j).2 t ht; omega) hM
   have htt2 := tabF_tab (ts := trx s.op j) htt
   have htl2 := tabF_len (trx s.op j) (tabN s)
   have hRd {A : Option Addr} {c c' : Nat} := T36a w0 (planL t) (A := A) (c := c) (c' := c') (l := tabF (tabN s) (trx s.op j)) htt2 (by omega)
   have hw : waitsN s k = trx s.op j := by unfold waitsN; rw [hf]
   rw [hw] at hrun
   refine at_draw _ [] 1000 [(2, 0), (2, 2), (2, 4), (2, 5), (2, 6), (1, 7), (2, 8), (1, 9), (0, 1), (0, 3), (0, 10), (0, 11), (2, 12), (0, 13)] (by kernel_rfl) (by kernel_rfl) (fun _ s => (s.pulls (ks := [0, 2]) rfl).left) ?_
   refine aq_p (ov_move rfl rfl) rfl rfl rfl ?_
   refine aq_p (ov_move rfl rfl) rfl rfl rfl ?_
   refine aq_p (ov_move rfl rfl) rfl rfl rfl ?_
   refine aq_p (ov_nilCheck rfl rfl) rfl rfl rfl ?_
   refine aq_p (ov_fieldAddr (k := 3) (r := 3) rfl rfl rfl rfl) rfl rfl rfl ?_
   refine aq_v (ov_load rfl rfl rfl (fun _ s => s.ld (k := 1) rfl rfl)) rfl rfl rfl ?_
   refine aq_p (ov_move rfl rfl) rfl rfl rfl ?_
   refine aq_v (ov_lookup1 (k := 0) rfl Tryz.underlying79 Tryz.underlying3 rfl rfl rfl (by first | rfl | trivial) hkv) rfl rfl rfl ?_
   refine aq_t (ot_call (ks := []) rfl rfl rfl Tryz.call37 rfl (hO ) rfl) rfl rfl rfl ?_
   rintro v0 _ ⟨m0, hp0, rfl⟩
   obtain ⟨rfl, rfl⟩ := hp0
   simp only [zca, zna, splice, spliceL]
   refine ⟨fun _ s => (s.pulls (ks := [0, 2]) rfl).left, ?_⟩
   refine aq_t (ot_call (ks := [3, 3]) rfl rfl rfl Tryz.call26 rfl (hT ) rfl) rfl rfl rfl ?_
   rintro v0 _ ⟨m0, hp0, rfl⟩
   obtain ⟨B0, hp0⟩ := hp0
   obtain ⟨e0, hp0⟩ := hp0
   obtain ⟨e'0, hp0⟩ := hp0
   obtain ⟨rfl, rfl⟩ := hp0
   simp only [zca, zna, splice, spliceL]
   refine ⟨fun _ s => (s.pulls (ks := [3, 0]) rfl).left, ?_⟩
   refine aq_t (ot_call (ks := [2, 3]) rfl rfl rfl Tryz.call38 rfl (hB ) rfl) rfl rfl rfl ?_
   rintro v0 _ ⟨m0, hp0, rfl⟩
   obtain ⟨C0, hp0⟩ := hp0
   obtain ⟨e1, hp0⟩ := hp0
   obtain ⟨e'1, hp0⟩ := hp0
   obtain ⟨rfl, rfl⟩ := hp0
   simp only [zca, zna, splice, spliceL]
   refine ⟨fun _ s => (s.pulls (ks := [4, 2]) rfl).left, ?_⟩
   refine aq_t (ot_call (ks := [0]) rfl rfl rfl Tryz.call36 rfl (hRd ) rfl) rfl rfl rfl ?_
   rintro v0 _ ⟨m0, hp0, rfl⟩
   obtain ⟨B1, hp0⟩ := hp0
   obtain ⟨e2, hp0⟩ := hp0
   obtain ⟨rfl, rfl⟩ := hp0
   simp only [zca, zna, splice, spliceL]
   refine ⟨fun _ s => (s.pulls (ks := [5, 3]) rfl).left, ?_⟩
   refine aq_p (ov_fieldAddr (k := 3) (r := 3) rfl rfl rfl rfl) rfl rfl rfl ?_
   refine aq_t0 (ot_store (k := 9) rfl rfl rfl rfl rfl rfl rfl) rfl rfl ?_
   rintro _ _ ⟨rfl, rfl⟩
   simp only [setAt, splice, spliceL, Value.cells]
   refine ⟨fun _ s => (s.pulls (ks := [5, 3]) rfl).left, ?_⟩
   refine aq_nil ?_
   refine zX 2 rfl ?_
   refine at_draw _ [] 1000 [(2, 0), (2, 1), (2, 2), (1, 3), (2, 4), (2, 5), (2, 6), (1, 7), (1, 8), (2, 10), (2, 9), (0, 11), (2, 12), (0, 13)] (by kernel_rfl) (by kernel_rfl) (fun _ s => (s.pulls (ks := [3, 9]) rfl).left) ?_
   refine aq_p (ov_move rfl rfl) rfl rfl rfl ?_
   refine aq_p (ov_nilCheck rfl rfl) rfl rfl rfl ?_
   refine aq_p (ov_fieldAddr (k := 0) (r := 0) rfl rfl rfl rfl) rfl rfl rfl ?_
   refine aq_v (ov_load rfl rfl rfl (fun _ s => s.ld (k := 0) rfl rfl)) rfl rfl rfl ?_
   refine aq_p (ov_move rfl rfl) rfl rfl rfl ?_
   refine aq_p (ov_nilCheck rfl rfl) rfl rfl rfl ?_
   refine aq_p (ov_fieldAddr (k := 2) (r := 2) rfl rfl rfl rfl) rfl rfl rfl ?_
   refine aq_v (ov_load rfl rfl rfl (fun _ s => s.ld (k := 0) rfl rfl)) rfl rfl rfl ?_
   refine aq_v (ov_len_slice rfl Tryz.underlying43 rfl) rfl rfl rfl ?_
   refine aq_p (ov_fieldAddr (k := 1) (r := 1) rfl rfl rfl rfl) rfl rfl rfl ?_
   refine aq_p ((ov_conv_int rfl rfl Tryz.underlying27 rfl).eq (congrArg (Value.int .u64) (inK_u64 (by omega) (by omega)))) rfl rfl rfl ?_
   refine aq_t0 (ot_store (k := 9) rfl rfl rfl rfl rfl rfl rfl) rfl rfl ?_
   rintro _ _ ⟨rfl, rfl⟩
   simp only [setAt, splice, spliceL, Value.cells]
   refine ⟨fun _ s => (s.pulls (ks := [3, 9]) rfl).left, ?_⟩
   refine aq_p (ov_fieldAddr (k := 2) (r := 2) rfl rfl rfl rfl) rfl rfl rfl ?_
   refine aq_t0 (ot_store (k := 9) rfl rfl rfl rfl rfl rfl rfl) rfl rfl ?_
   rintro _ _ ⟨rfl, rfl⟩
   simp only [setAt, splice, spliceL, Value.cells]
   refine ⟨fun _ s => (s.pulls (ks := [3, 9]) rfl).left, ?_⟩
   refine aq_nil ?_
   refine zXM [(9,_,_,_)] ⟨rfl,trivial⟩ [0] 4 rfl ?_
   refine zS 10 ?_
   simp only [setAt, splice, spliceL, Value.cells]
   refine zO 3 rfl ?_
   refine zQ ?_
   refine at_end ?_
   refine at_fold (A := OpenA mb s.op) [5, 2, 4] rfl (fun h s => rm_same (ads := ads) hads hj ha h s) ?_
   refine at_fold (A := NodeA g s) [3, 3, 0, 2] rfl (fun h s => node_mk (A := A) (c := c) (mb := mb) (cg := cg) h s) ?_
   refine at_fin (rsV rfl (res_cellS (k := 5) (vs := [_, _, _, _]) rfl rfl rfl rfl ⟨rfl, rfl, rfl, rfl, trivial⟩)) ?_
   try rw [hrun]
   refine ⟨_, ⟨B1, e2, rfl, rfl⟩, ?_⟩
   exact zE [0, 0] [0, 0, 0, 0]
  | none =>
   have hno := findO_none hf
   refine at_rm 2 rfl fun ads hads => ?_
   have hkn := rm_no (kv := kI) (ads := ads) hno kI_inj
   have hO := T37 w0 t (by omega) hM
   unfold planV at hO
   have hT := tableRaw w0 (g := g) (A := A) (c := c) (mb := mb) (cg := cg) hs hM
   have htt := tabN_tab s
   have htl := tabN_len s
   have hB {A B : Option Addr} {c d c' d' : Nat} := T38 w0 (A := A) (B := B) (c := c) (d := d) (c' := c') (d' := d') (l := tabN s) (ts := []) htt (by omega) (by simp) (by simp) hM
   have htt2 := tabF_tab (ts := []) htt
   have htl2 := tabF_len ([]) (tabN s)
   have hRd {A : Option Addr} {c c' : Nat} := T36a w0 (planL t) (A := A) (c := c) (c' := c') (l := tabF (tabN s) ([])) htt2 (by simp at htl2; omega)
   have hw : waitsN s k = [] := by unfold waitsN; rw [hf]
   rw [hw] at hrun
   refine at_rowNil bsE 9 1 ?_
   refine at_draw _ [] 1000 [(2, 0), (2, 2), (2, 4), (2, 5), (2, 6), (1, 7), (2, 8), (1, 9), (0, 1), (0, 3), (0, 10), (0, 11), (2, 12), (0, 13)] (by kernel_rfl) (by kernel_rfl) (fun _ s => (s.pulls (ks := [1, 2]) rfl).left) ?_
   refine aq_p (ov_move rfl rfl) rfl rfl rfl ?_
   refine aq_p (ov_move rfl rfl) rfl rfl rfl ?_
   refine aq_p (ov_move rfl rfl) rfl rfl rfl ?_
   refine aq_p (ov_nilCheck rfl rfl) rfl rfl rfl ?_
   refine aq_p (ov_fieldAddr (k := 3) (r := 3) rfl rfl rfl rfl) rfl rfl rfl ?_
   refine aq_v (ov_load rfl rfl rfl (fun _ s => s.ld (k := 1) rfl rfl)) rfl rfl rfl ?_
   refine aq_p (ov_move rfl rfl) rfl rfl rfl ?_
   refine aq_v (ov_lookup1No (k := 0) rfl Tryz.underlying79 Tryz.underlying3 Tryz.zeroValue22 rfl rfl rfl (by first | rfl | trivial) (by assumption)) rfl rfl rfl ?_
   refine aq_t (ot_call (ks := []) rfl rfl rfl Tryz.call37 rfl (hO ) rfl) rfl rfl rfl ?_
   rintro v0 _ ⟨m0, hp0, rfl⟩
   obtain ⟨rfl, rfl⟩ := hp0
   simp only [zca, zna, splice, spliceL]
   refine ⟨fun _ s => (s.pulls (ks := [1, 2]) rfl).left, ?_⟩
   refine aq_t (ot_call (ks := [3, 3]) rfl rfl rfl Tryz.call26 rfl (hT ) rfl) rfl rfl rfl ?_
   rintro v0 _ ⟨m0, hp0, rfl⟩
   obtain ⟨B0, hp0⟩ := hp0
   obtain ⟨e0, hp0⟩ := hp0
   obtain ⟨e'0, hp0⟩ := hp0
   obtain ⟨rfl, rfl⟩ := hp0
   simp only [zca, zna, splice, spliceL]
   refine ⟨fun _ s => (s.pulls (ks := [4, 0]) rfl).left, ?_⟩
   refine aq_t (ot_call (ks := [2, 2]) rfl rfl rfl Tryz.call38 rfl (hB ) rfl) rfl rfl rfl ?_
   rintro v0 _ ⟨m0, hp0, rfl⟩
   obtain ⟨C0, hp0⟩ := hp0
   obtain ⟨e1, hp0⟩ := hp0
   obtain ⟨e'1, hp0⟩ := hp0
   obtain ⟨rfl, rfl⟩ := hp0
   simp only [zca, zna, splice, spliceL]
   refine ⟨fun _ s => (s.pulls (ks := [4, 2]) rfl).left, ?_⟩
   refine aq_t (ot_call (ks := [0]) rfl rfl rfl Tryz.call36 rfl (hRd ) rfl) rfl rfl rfl ?_
   rintro v0 _ ⟨m0, hp0, rfl⟩
   obtain ⟨B1, hp0⟩ := hp0
   obtain ⟨e2, hp0⟩ := hp0
   obtain ⟨rfl, rfl⟩ := hp0
   simp only [zca, zna, splice, spliceL]
   refine ⟨fun _ s => (s.pulls (ks := [5, 3]) rfl).left, ?_⟩
   refine aq_p (ov_fieldAddr (k := 3) (r := 3) rfl rfl rfl rfl) rfl rfl rfl ?_
   refine aq_t0 (ot_store (k := 9) rfl rfl rfl rfl rfl rfl rfl) rfl rfl ?_
   rintro _ _ ⟨rfl, rfl⟩
   simp only [setAt, splice, spliceL, Value.cells]
   refine ⟨fun _ s => (s.pulls (ks := [5, 3]) rfl).left, ?_⟩
   refine aq_nil ?_
   refine zX 2 rfl ?_
   refine at_draw _ [] 1000 [(2, 0), (2, 1), (2, 2), (1, 3), (2, 4), (2, 5), (2, 6), (1, 7), (1, 8), (2, 10), (2, 9), (0, 11), (2, 12), (0, 13)] (by kernel_rfl) (by kernel_rfl) (fun _ s => (s.pulls (ks := [3, 9]) rfl).left) ?_
   refine aq_p (ov_move rfl rfl) rfl rfl rfl ?_
   refine aq_p (ov_nilCheck rfl rfl) rfl rfl rfl ?_
   refine aq_p (ov_fieldAddr (k := 0) (r := 0) rfl rfl rfl rfl) rfl rfl rfl ?_
   refine aq_v (ov_load rfl rfl rfl (fun _ s => s.ld (k := 0) rfl rfl)) rfl rfl rfl ?_
   refine aq_p (ov_move rfl rfl) rfl rfl rfl ?_
   refine aq_p (ov_nilCheck rfl rfl) rfl rfl rfl ?_
   refine aq_p (ov_fieldAddr (k := 2) (r := 2) rfl rfl rfl rfl) rfl rfl rfl ?_
   refine aq_v (ov_load rfl rfl rfl (fun _ s => s.ld (k := 0) rfl rfl)) rfl rfl rfl ?_
   refine aq_v (ov_len_slice rfl Tryz.underlying43 rfl) rfl rfl rfl ?_
   refine aq_p (ov_fieldAddr (k := 1) (r := 1) rfl rfl rfl rfl) rfl rfl rfl ?_
   refine aq_p ((ov_conv_int rfl rfl Tryz.underlying27 rfl).eq (congrArg (Value.int .u64) (inK_u64 (by omega) (by omega)))) rfl rfl rfl ?_
   refine aq_t0 (ot_store (k := 9) rfl rfl rfl rfl rfl rfl rfl) rfl rfl ?_
   rintro _ _ ⟨rfl, rfl⟩
   simp only [setAt, splice, spliceL, Value.cells]
   refine ⟨fun _ s => (s.pulls (ks := [3, 9]) rfl).left, ?_⟩
   refine aq_p (ov_fieldAddr (k := 2) (r := 2) rfl rfl rfl rfl) rfl rfl rfl ?_
   refine aq_t0 (ot_store (k := 9) rfl rfl rfl rfl rfl rfl rfl) rfl rfl ?_
   rintro _ _ ⟨rfl, rfl⟩
   simp only [setAt, splice, spliceL, Value.cells]
   refine ⟨fun _ s => (s.pulls (ks := [3, 9]) rfl).left, ?_⟩
   refine aq_nil ?_
   refine zXM [(9,_,_,_)] ⟨rfl,trivial⟩ [0] 4 rfl ?_
   refine zS 10 ?_
   simp only [setAt, splice, spliceL, Value.cells]
   refine zO 3 rfl ?_
   refine zQ ?_
   refine at_end ?_
   refine at_fold (A := OpenA mb s.op) [5, 5] rfl (fun h s => rm_all (ads := ads) hads h s) ?_
   refine at_fold (A := NodeA g s) [4, 4, 0, 3] rfl (fun h s => node_mk (A := A) (c := c) (mb := mb) (cg := cg) h s) ?_
   refine at_fin (rsV rfl (res_cellS (k := 6) (vs := [_, _, _, _]) rfl rfl rfl rfl ⟨rfl, rfl, rfl, rfl, trivial⟩)) ?_
   try rw [hrun]
   refine ⟨_, ⟨B1, e2, rfl, rfl⟩, ?_⟩
   exact zE [0, 0] [0, 0, 0, 0, 0]
 have hi2 : decide (is = 1) = false := by simp [h1]
 have hrun : runN s k e rd t = ((doN s k is t).1, ⟨(doN s k is t).2, (doN s k is t).1.ep, (doN s k is t).1.lg.length, []⟩) := by unfold runN; rw [← his, if_neg (by simp [hz]), if_neg h1]
 have hlen2 := (hs.do_ k is ht).len
 by_cases h3 : is = 3
 ·have hkv : waysL[0]? = some (kI is, .func (.func 52) #[] #[]) := by rw [h3]; rfl
  have hD := T52 w0 (g := g) (s := s) k t
  rw [← h3] at hD
  refine zV (ov_lookupOk (k := 0) rfl Tryz.underlying101 Tryz.underlying3 rfl rfl rfl (by first | rfl | trivial) hkv) ?_
  refine zO 18 rfl ?_
  refine zcall [1] rfl rfl rfl Tryz.call52 rfl (hD ) rfl ?_
  simp only [zca, zna, splice, spliceL]
  refine zO 1 rfl ?_
  refine zS 2 ?_
  simp only [setAt, splice, spliceL, Value.cells]
  refine zO 8 rfl ?_
  refine zcF rfl (decide_eq_false (by omega)) ?_
  refine zC 3 rfl ?_
  refine at_node 0 rfl fun A2 c2 mb2 cg2 => ?_
  refine at_draw _ [] 1000 [(2, 0), (2, 1), (2, 2), (1, 3), (2, 4), (2, 5), (2, 6), (1, 7), (1, 8), (2, 10), (2, 9), (0, 11), (2, 12), (0, 13)] (by kernel_rfl) (by kernel_rfl) (fun _ s => (s.pulls (ks := [0, 5]) rfl).left) ?_
  refine aq_p (ov_move rfl rfl) rfl rfl rfl ?_
  refine aq_p (ov_nilCheck rfl rfl) rfl rfl rfl ?_
  refine aq_p (ov_fieldAddr (k := 0) (r := 0) rfl rfl rfl rfl) rfl rfl rfl ?_
  refine aq_v (ov_load rfl rfl rfl (fun _ s => s.ld (k := 0) rfl rfl)) rfl rfl rfl ?_
  refine aq_p (ov_move rfl rfl) rfl rfl rfl ?_
  refine aq_p (ov_nilCheck rfl rfl) rfl rfl rfl ?_
  refine aq_p (ov_fieldAddr (k := 2) (r := 2) rfl rfl rfl rfl) rfl rfl rfl ?_
  refine aq_v (ov_load rfl rfl rfl (fun _ s => s.ld (k := 0) rfl rfl)) rfl rfl rfl ?_
  refine aq_v (ov_len_slice rfl Tryz.underlying43 rfl) rfl rfl rfl ?_
  refine aq_p (ov_fieldAddr (k := 1) (r := 1) rfl rfl rfl rfl) rfl rfl rfl ?_
  refine aq_p ((ov_conv_int rfl rfl Tryz.underlying27 rfl).eq (congrArg (Value.int .u64) (inK_u64 (by omega) (by omega)))) rfl rfl rfl ?_
  refine aq_t0 (ot_store (k := 5) rfl rfl rfl rfl rfl rfl rfl) rfl rfl ?_
  rintro _ _ ⟨rfl, rfl⟩
  simp only [setAt, splice, spliceL, Value.cells]
  refine ⟨fun _ s => (s.pulls (ks := [0, 5]) rfl).left, ?_⟩
  refine aq_p (ov_fieldAddr (k := 2) (r := 2) rfl rfl rfl rfl) rfl rfl rfl ?_
  refine aq_t0 (ot_store (k := 5) rfl rfl rfl rfl rfl rfl rfl) rfl rfl ?_
  rintro _ _ ⟨rfl, rfl⟩
  simp only [setAt, splice, spliceL, Value.cells]
  refine ⟨fun _ s => (s.pulls (ks := [0, 5]) rfl).left, ?_⟩
  refine aq_nil ?_
  refine zXM [(5,_,_,_)] ⟨rfl,trivial⟩ [0] 4 rfl ?_
  refine zS 6 ?_
  simp only [setAt, splice, spliceL, Value.cells]
  refine zO 3 rfl ?_
  refine zQ ?_
  refine at_end ?_
  refine at_fold (A := NodeA g (doN s k is t).1) [0, 0, 0, 0] rfl (fun h s => node_mk (A := A2) (c := c2) (mb := mb2) (cg := cg2) h s) ?_
  refine at_rowNil bsE 9 1 ?_
  refine at_fin (rsV rfl (res_cellS (k := 4) (vs := [_, _, _, _]) rfl rfl rfl rfl ⟨rfl, rfl, rfl, rfl, trivial⟩)) ?_
  try rw [hrun]
  refine ⟨_, ⟨none, 0, rfl, rfl⟩, ?_⟩
  exact zE [1, 0] [0, 0, 0]
 by_cases h4 : is = 4
 ·have hkv : waysL[1]? = some (kI is, .func (.func 53) #[] #[]) := by rw [h4]; rfl
  have hD := T53 w0 (g := g) (s := s) hs k t
  rw [← h4] at hD
  refine zV (ov_lookupOk (k := 0) rfl Tryz.underlying101 Tryz.underlying3 rfl rfl rfl (by first | rfl | trivial) hkv) ?_
  refine zO 18 rfl ?_
  refine zcall [1] rfl rfl rfl Tryz.call53 rfl (hD ) rfl ?_
  simp only [zca, zna, splice, spliceL]
  refine zO 1 rfl ?_
  refine zS 2 ?_
  simp only [setAt, splice, spliceL, Value.cells]
  refine zO 8 rfl ?_
  refine zcF rfl (decide_eq_false (by omega)) ?_
  refine zC 3 rfl ?_
  refine at_node 0 rfl fun A2 c2 mb2 cg2 => ?_
  refine at_draw _ [] 1000 [(2, 0), (2, 1), (2, 2), (1, 3), (2, 4), (2, 5), (2, 6), (1, 7), (1, 8), (2, 10), (2, 9), (0, 11), (2, 12), (0, 13)] (by kernel_rfl) (by kernel_rfl) (fun _ s => (s.pulls (ks := [0, 5]) rfl).left) ?_
  refine aq_p (ov_move rfl rfl) rfl rfl rfl ?_
  refine aq_p (ov_nilCheck rfl rfl) rfl rfl rfl ?_
  refine aq_p (ov_fieldAddr (k := 0) (r := 0) rfl rfl rfl rfl) rfl rfl rfl ?_
  refine aq_v (ov_load rfl rfl rfl (fun _ s => s.ld (k := 0) rfl rfl)) rfl rfl rfl ?_
  refine aq_p (ov_move rfl rfl) rfl rfl rfl ?_
  refine aq_p (ov_nilCheck rfl rfl) rfl rfl rfl ?_
  refine aq_p (ov_fieldAddr (k := 2) (r := 2) rfl rfl rfl rfl) rfl rfl rfl ?_
  refine aq_v (ov_load rfl rfl rfl (fun _ s => s.ld (k := 0) rfl rfl)) rfl rfl rfl ?_
  refine aq_v (ov_len_slice rfl Tryz.underlying43 rfl) rfl rfl rfl ?_
  refine aq_p (ov_fieldAddr (k := 1) (r := 1) rfl rfl rfl rfl) rfl rfl rfl ?_
  refine aq_p ((ov_conv_int rfl rfl Tryz.underlying27 rfl).eq (congrArg (Value.int .u64) (inK_u64 (by omega) (by omega)))) rfl rfl rfl ?_
  refine aq_t0 (ot_store (k := 5) rfl rfl rfl rfl rfl rfl rfl) rfl rfl ?_
  rintro _ _ ⟨rfl, rfl⟩
  simp only [setAt, splice, spliceL, Value.cells]
  refine ⟨fun _ s => (s.pulls (ks := [0, 5]) rfl).left, ?_⟩
  refine aq_p (ov_fieldAddr (k := 2) (r := 2) rfl rfl rfl rfl) rfl rfl rfl ?_
  refine aq_t0 (ot_store (k := 5) rfl rfl rfl rfl rfl rfl rfl) rfl rfl ?_
  rintro _ _ ⟨rfl, rfl⟩
  simp only [setAt, splice, spliceL, Value.cells]
  refine ⟨fun _ s => (s.pulls (ks := [0, 5]) rfl).left, ?_⟩
  refine aq_nil ?_
  refine zXM [(5,_,_,_)] ⟨rfl,trivial⟩ [0] 4 rfl ?_
  refine zS 6 ?_
  simp only [setAt, splice, spliceL, Value.cells]
  refine zO 3 rfl ?_
  refine zQ ?_
  refine at_end ?_
  refine at_fold (A := NodeA g (doN s k is t).1) [0, 0, 0, 0] rfl (fun h s => node_mk (A := A2) (c := c2) (mb := mb2) (cg := cg2) h s) ?_
  refine at_rowNil bsE 9 1 ?_
  refine at_fin (rsV rfl (res_cellS (k := 4) (vs := [_, _, _, _]) rfl rfl rfl rfl ⟨rfl, rfl, rfl, rfl, trivial⟩)) ?_
  try rw [hrun]
  refine ⟨_, ⟨none, 0, rfl, rfl⟩, ?_⟩
  exact zE [1, 0] [0, 0, 0]
 by_cases h5 : is = 5
 ·have hkv : waysL[2]? = some (kI is, .func (.func 54) #[] #[]) := by rw [h5]; rfl
  have hD := T54 w0 (g := g) (s := s) k t
  rw [← h5] at hD
  refine zV (ov_lookupOk (k := 0) rfl Tryz.underlying101 Tryz.underlying3 rfl rfl rfl (by first | rfl | trivial) hkv) ?_
  refine zO 18 rfl ?_
  refine zcall [1] rfl rfl rfl Tryz.call54 rfl (hD ) rfl ?_
  simp only [zca, zna, splice, spliceL]
  refine zO 1 rfl ?_
  refine zS 2 ?_
  simp only [setAt, splice, spliceL, Value.cells]
  refine zO 8 rfl ?_
  refine zcF rfl (decide_eq_false (by omega)) ?_
  refine zC 3 rfl ?_
  refine at_node 0 rfl fun A2 c2 mb2 cg2 => ?_
  refine at_draw _ [] 1000 [(2, 0), (2, 1), (2, 2), (1, 3), (2, 4), (2, 5), (2, 6), (1, 7), (1, 8), (2, 10), (2, 9), (0, 11), (2, 12), (0, 13)] (by kernel_rfl) (by kernel_rfl) (fun _ s => (s.pulls (ks := [0, 5]) rfl).left) ?_
  refine aq_p (ov_move rfl rfl) rfl rfl rfl ?_
  refine aq_p (ov_nilCheck rfl rfl) rfl rfl rfl ?_
  refine aq_p (ov_fieldAddr (k := 0) (r := 0) rfl rfl rfl rfl) rfl rfl rfl ?_
  refine aq_v (ov_load rfl rfl rfl (fun _ s => s.ld (k := 0) rfl rfl)) rfl rfl rfl ?_
  refine aq_p (ov_move rfl rfl) rfl rfl rfl ?_
  refine aq_p (ov_nilCheck rfl rfl) rfl rfl rfl ?_
  refine aq_p (ov_fieldAddr (k := 2) (r := 2) rfl rfl rfl rfl) rfl rfl rfl ?_
  refine aq_v (ov_load rfl rfl rfl (fun _ s => s.ld (k := 0) rfl rfl)) rfl rfl rfl ?_
  refine aq_v (ov_len_slice rfl Tryz.underlying43 rfl) rfl rfl rfl ?_
  refine aq_p (ov_fieldAddr (k := 1) (r := 1) rfl rfl rfl rfl) rfl rfl rfl ?_
  refine aq_p ((ov_conv_int rfl rfl Tryz.underlying27 rfl).eq (congrArg (Value.int .u64) (inK_u64 (by omega) (by omega)))) rfl rfl rfl ?_
  refine aq_t0 (ot_store (k := 5) rfl rfl rfl rfl rfl rfl rfl) rfl rfl ?_
  rintro _ _ ⟨rfl, rfl⟩
  simp only [setAt, splice, spliceL, Value.cells]
  refine ⟨fun _ s => (s.pulls (ks := [0, 5]) rfl).left, ?_⟩
  refine aq_p (ov_fieldAddr (k := 2) (r := 2) rfl rfl rfl rfl) rfl rfl rfl ?_
  refine aq_t0 (ot_store (k := 5) rfl rfl rfl rfl rfl rfl rfl) rfl rfl ?_
  rintro _ _ ⟨rfl, rfl⟩
  simp only [setAt, splice, spliceL, Value.cells]
  refine ⟨fun _ s => (s.pulls (ks := [0, 5]) rfl).left, ?_⟩
  refine aq_nil ?_
  refine zXM [(5,_,_,_)] ⟨rfl,trivial⟩ [0] 4 rfl ?_
  refine zS 6 ?_
  simp only [setAt, splice, spliceL, Value.cells]
  refine zO 3 rfl ?_
  refine zQ ?_
  refine at_end ?_
  refine at_fold (A := NodeA g (doN s k is t).1) [0, 0, 0, 0] rfl (fun h s => node_mk (A := A2) (c := c2) (mb := mb2) (cg := cg2) h s) ?_
  refine at_rowNil bsE 9 1 ?_
  refine at_fin (rsV rfl (res_cellS (k := 4) (vs := [_, _, _, _]) rfl rfl rfl rfl ⟨rfl, rfl, rfl, rfl, trivial⟩)) ?_
  try rw [hrun]
  refine ⟨_, ⟨none, 0, rfl, rfl⟩, ?_⟩
  exact zE [1, 0] [0, 0, 0]
 by_cases h2 : is = 2
 ·have hkv : waysL[3]? = some (kI is, .func (.func 55) #[] #[]) := by rw [h2]; rfl
  have hD := T55 w0 (g := g) (s := s) hs k t
  rw [← h2] at hD
  refine zV (ov_lookupOk (k := 0) rfl Tryz.underlying101 Tryz.underlying3 rfl rfl rfl (by first | rfl | trivial) hkv) ?_
  refine zO 18 rfl ?_
  refine zcall [1] rfl rfl rfl Tryz.call55 rfl (hD ) rfl ?_
  simp only [zca, zna, splice, spliceL]
  refine zO 1 rfl ?_
  refine zS 2 ?_
  simp only [setAt, splice, spliceL, Value.cells]
  refine zO 8 rfl ?_
  refine zcF rfl (decide_eq_false (by omega)) ?_
  refine zC 3 rfl ?_
  refine at_node 0 rfl fun A2 c2 mb2 cg2 => ?_
  refine at_draw _ [] 1000 [(2, 0), (2, 1), (2, 2), (1, 3), (2, 4), (2, 5), (2, 6), (1, 7), (1, 8), (2, 10), (2, 9), (0, 11), (2, 12), (0, 13)] (by kernel_rfl) (by kernel_rfl) (fun _ s => (s.pulls (ks := [0, 5]) rfl).left) ?_
  refine aq_p (ov_move rfl rfl) rfl rfl rfl ?_
  refine aq_p (ov_nilCheck rfl rfl) rfl rfl rfl ?_
  refine aq_p (ov_fieldAddr (k := 0) (r := 0) rfl rfl rfl rfl) rfl rfl rfl ?_
  refine aq_v (ov_load rfl rfl rfl (fun _ s => s.ld (k := 0) rfl rfl)) rfl rfl rfl ?_
  refine aq_p (ov_move rfl rfl) rfl rfl rfl ?_
  refine aq_p (ov_nilCheck rfl rfl) rfl rfl rfl ?_
  refine aq_p (ov_fieldAddr (k := 2) (r := 2) rfl rfl rfl rfl) rfl rfl rfl ?_
  refine aq_v (ov_load rfl rfl rfl (fun _ s => s.ld (k := 0) rfl rfl)) rfl rfl rfl ?_
  refine aq_v (ov_len_slice rfl Tryz.underlying43 rfl) rfl rfl rfl ?_
  refine aq_p (ov_fieldAddr (k := 1) (r := 1) rfl rfl rfl rfl) rfl rfl rfl ?_
  refine aq_p ((ov_conv_int rfl rfl Tryz.underlying27 rfl).eq (congrArg (Value.int .u64) (inK_u64 (by omega) (by omega)))) rfl rfl rfl ?_
  refine aq_t0 (ot_store (k := 5) rfl rfl rfl rfl rfl rfl rfl) rfl rfl ?_
  rintro _ _ ⟨rfl, rfl⟩
  simp only [setAt, splice, spliceL, Value.cells]
  refine ⟨fun _ s => (s.pulls (ks := [0, 5]) rfl).left, ?_⟩
  refine aq_p (ov_fieldAddr (k := 2) (r := 2) rfl rfl rfl rfl) rfl rfl rfl ?_
  refine aq_t0 (ot_store (k := 5) rfl rfl rfl rfl rfl rfl rfl) rfl rfl ?_
  rintro _ _ ⟨rfl, rfl⟩
  simp only [setAt, splice, spliceL, Value.cells]
  refine ⟨fun _ s => (s.pulls (ks := [0, 5]) rfl).left, ?_⟩
  refine aq_nil ?_
  refine zXM [(5,_,_,_)] ⟨rfl,trivial⟩ [0] 4 rfl ?_
  refine zS 6 ?_
  simp only [setAt, splice, spliceL, Value.cells]
  refine zO 3 rfl ?_
  refine zQ ?_
  refine at_end ?_
  refine at_fold (A := NodeA g (doN s k is t).1) [0, 0, 0, 0] rfl (fun h s => node_mk (A := A2) (c := c2) (mb := mb2) (cg := cg2) h s) ?_
  refine at_rowNil bsE 9 1 ?_
  refine at_fin (rsV rfl (res_cellS (k := 4) (vs := [_, _, _, _]) rfl rfl rfl rfl ⟨rfl, rfl, rfl, rfl, trivial⟩)) ?_
  try rw [hrun]
  refine ⟨_, ⟨none, 0, rfl, rfl⟩, ?_⟩
  exact zE [1, 0] [0, 0, 0]
 by_cases h7 : is = 7
 ·have hkv : waysL[4]? = some (kI is, .func (.func 55) #[] #[]) := by rw [h7]; rfl
  have hD := T55 w0 (g := g) (s := s) hs k t
  rw [show doN s k 2 t = doN s k is t by unfold doN; simp [h7]] at hD
  refine zV (ov_lookupOk (k := 0) rfl Tryz.underlying101 Tryz.underlying3 rfl rfl rfl (by first | rfl | trivial) hkv) ?_
  refine zO 18 rfl ?_
  refine zcall [1] rfl rfl rfl Tryz.call55 rfl (hD ) rfl ?_
  simp only [zca, zna, splice, spliceL]
  refine zO 1 rfl ?_
  refine zS 2 ?_
  simp only [setAt, splice, spliceL, Value.cells]
  refine zO 8 rfl ?_
  refine zcF rfl (decide_eq_false (by omega)) ?_
  refine zC 3 rfl ?_
  refine at_node 0 rfl fun A2 c2 mb2 cg2 => ?_
  refine at_draw _ [] 1000 [(2, 0), (2, 1), (2, 2), (1, 3), (2, 4), (2, 5), (2, 6), (1, 7), (1, 8), (2, 10), (2, 9), (0, 11), (2, 12), (0, 13)] (by kernel_rfl) (by kernel_rfl) (fun _ s => (s.pulls (ks := [0, 5]) rfl).left) ?_
  refine aq_p (ov_move rfl rfl) rfl rfl rfl ?_
  refine aq_p (ov_nilCheck rfl rfl) rfl rfl rfl ?_
  refine aq_p (ov_fieldAddr (k := 0) (r := 0) rfl rfl rfl rfl) rfl rfl rfl ?_
  refine aq_v (ov_load rfl rfl rfl (fun _ s => s.ld (k := 0) rfl rfl)) rfl rfl rfl ?_
  refine aq_p (ov_move rfl rfl) rfl rfl rfl ?_
  refine aq_p (ov_nilCheck rfl rfl) rfl rfl rfl ?_
  refine aq_p (ov_fieldAddr (k := 2) (r := 2) rfl rfl rfl rfl) rfl rfl rfl ?_
  refine aq_v (ov_load rfl rfl rfl (fun _ s => s.ld (k := 0) rfl rfl)) rfl rfl rfl ?_
  refine aq_v (ov_len_slice rfl Tryz.underlying43 rfl) rfl rfl rfl ?_
  refine aq_p (ov_fieldAddr (k := 1) (r := 1) rfl rfl rfl rfl) rfl rfl rfl ?_
  refine aq_p ((ov_conv_int rfl rfl Tryz.underlying27 rfl).eq (congrArg (Value.int .u64) (inK_u64 (by omega) (by omega)))) rfl rfl rfl ?_
  refine aq_t0 (ot_store (k := 5) rfl rfl rfl rfl rfl rfl rfl) rfl rfl ?_
  rintro _ _ ⟨rfl, rfl⟩
  simp only [setAt, splice, spliceL, Value.cells]
  refine ⟨fun _ s => (s.pulls (ks := [0, 5]) rfl).left, ?_⟩
  refine aq_p (ov_fieldAddr (k := 2) (r := 2) rfl rfl rfl rfl) rfl rfl rfl ?_
  refine aq_t0 (ot_store (k := 5) rfl rfl rfl rfl rfl rfl rfl) rfl rfl ?_
  rintro _ _ ⟨rfl, rfl⟩
  simp only [setAt, splice, spliceL, Value.cells]
  refine ⟨fun _ s => (s.pulls (ks := [0, 5]) rfl).left, ?_⟩
  refine aq_nil ?_
  refine zXM [(5,_,_,_)] ⟨rfl,trivial⟩ [0] 4 rfl ?_
  refine zS 6 ?_
  simp only [setAt, splice, spliceL, Value.cells]
  refine zO 3 rfl ?_
  refine zQ ?_
  refine at_end ?_
  refine at_fold (A := NodeA g (doN s k is t).1) [0, 0, 0, 0] rfl (fun h s => node_mk (A := A2) (c := c2) (mb := mb2) (cg := cg2) h s) ?_
  refine at_rowNil bsE 9 1 ?_
  refine at_fin (rsV rfl (res_cellS (k := 4) (vs := [_, _, _, _]) rfl rfl rfl rfl ⟨rfl, rfl, rfl, rfl, trivial⟩)) ?_
  try rw [hrun]
  refine ⟨_, ⟨none, 0, rfl, rfl⟩, ?_⟩
  exact zE [1, 0] [0, 0, 0]
 have hkn : ∀ p ∈ waysL, p.1 ≠ kI is := by unfold waysL; simp; omega
 have hD : doN s k is t = (s, 0) := by unfold doN; simp [h2, h3, h4, h5, h7]
 rw [hD] at hrun
 refine zV (ov_lookupNo (k := 0) rfl Tryz.underlying101 Tryz.underlying3 Tryz.zeroValue99 rfl rfl rfl (by first | rfl | trivial) (by assumption)) ?_
 refine zO 21 rfl ?_
 refine zcF rfl (decide_eq_false (by omega)) ?_
 refine zC 3 rfl ?_
 refine at_node 1 rfl fun A2 c2 mb2 cg2 => ?_
 refine at_draw _ [] 1000 [(2, 0), (2, 1), (2, 2), (1, 3), (2, 4), (2, 5), (2, 6), (1, 7), (1, 8), (2, 10), (2, 9), (0, 11), (2, 12), (0, 13)] (by kernel_rfl) (by kernel_rfl) (fun _ s => (s.pulls (ks := [0, 5]) rfl).left) ?_
 refine aq_p (ov_move rfl rfl) rfl rfl rfl ?_
 refine aq_p (ov_nilCheck rfl rfl) rfl rfl rfl ?_
 refine aq_p (ov_fieldAddr (k := 0) (r := 0) rfl rfl rfl rfl) rfl rfl rfl ?_
 refine aq_v (ov_load rfl rfl rfl (fun _ s => s.ld (k := 0) rfl rfl)) rfl rfl rfl ?_
 refine aq_p (ov_move rfl rfl) rfl rfl rfl ?_
 refine aq_p (ov_nilCheck rfl rfl) rfl rfl rfl ?_
 refine aq_p (ov_fieldAddr (k := 2) (r := 2) rfl rfl rfl rfl) rfl rfl rfl ?_
 refine aq_v (ov_load rfl rfl rfl (fun _ s => s.ld (k := 0) rfl rfl)) rfl rfl rfl ?_
 refine aq_v (ov_len_slice rfl Tryz.underlying43 rfl) rfl rfl rfl ?_
 refine aq_p (ov_fieldAddr (k := 1) (r := 1) rfl rfl rfl rfl) rfl rfl rfl ?_
 refine aq_p ((ov_conv_int rfl rfl Tryz.underlying27 rfl).eq (congrArg (Value.int .u64) (inK_u64 (by omega) (by omega)))) rfl rfl rfl ?_
 refine aq_t0 (ot_store (k := 5) rfl rfl rfl rfl rfl rfl rfl) rfl rfl ?_
 rintro _ _ ⟨rfl, rfl⟩
 simp only [setAt, splice, spliceL, Value.cells]
 refine ⟨fun _ s => (s.pulls (ks := [0, 5]) rfl).left, ?_⟩
 refine aq_p (ov_fieldAddr (k := 2) (r := 2) rfl rfl rfl rfl) rfl rfl rfl ?_
 refine aq_t0 (ot_store (k := 5) rfl rfl rfl rfl rfl rfl rfl) rfl rfl ?_
 rintro _ _ ⟨rfl, rfl⟩
 simp only [setAt, splice, spliceL, Value.cells]
 refine ⟨fun _ s => (s.pulls (ks := [0, 5]) rfl).left, ?_⟩
 refine aq_nil ?_
 refine zXM [(5,_,_,_)] ⟨rfl,trivial⟩ [0] 4 rfl ?_
 refine zS 6 ?_
 simp only [setAt, splice, spliceL, Value.cells]
 refine zO 3 rfl ?_
 refine zQ ?_
 refine at_end ?_
 refine at_fold (A := NodeA g s) [0, 0, 0, 0] rfl (fun h s => node_mk (A := A2) (c := c2) (mb := mb2) (cg := cg2) h s) ?_
 refine at_rowNil bsE 9 1 ?_
 refine at_fin (rsV rfl (res_cellS (k := 4) (vs := [_, _, _, _]) rfl rfl rfl rfl ⟨rfl, rfl, rfl, rfl, trivial⟩)) ?_
 try rw [hrun]
 refine ⟨_, ⟨none, 0, rfl, rfl⟩, ?_⟩
 exact zE [1, 0] [0, 0, 0]
end Go.Proofs.YtighdkdomfpadaaGreatDoor
