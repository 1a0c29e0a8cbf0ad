/- Package node, walked: begin, commit, rollback, write, may, ways. -/
import Derived.Test.YtighdkdomfpadaaGreatDoorProg
import Derived.Test.YtighdkdomfpadaaGreatDoorNode2
import Derived.Test.YtighdkdomfpadaaGreatDoorSLB
import Derived.KernelRfl
set_option linter.unusedSimpArgs false
set_option linter.unusedVariables false
set_option maxRecDepth 100000
set_option maxHeartbeats 4000000
namespace Go.Proofs.YtighdkdomfpadaaGreatDoor
open Go Go.Proofs.YtighdkdomfpadaaGreatDoor.SL Go.RowKit
theorem T52 (w0 : World) {g : Nat} {s : ND} (k : Int) (t : BL) : Tri Tryz.prog w0 52 [ptrTo g, .int .i64 k, SV t] [NodeA g s] fun v m => v = .int .i64 (doN s k 3 t).2 ∧ m = [NodeA g (doN s k 3 t).1] := by
 refine tri_k Tryz.func52 rfl rfl fun F => ?_
 simp only [Tryz.ntmps52, argEnv, List.cons_append, List.nil_append]
 refine at_node 0 rfl fun A c mb cg => ?_
 cases hf : findO s.op k with
 | some j =>
  have hj := findO_at hf
  have hl : doN s k 3 t = (s, 7) := by unfold doN; simp [hf]
  rw [hl]
  refine at_rmPick 2 j hj rfl fun ads A1 c1 hads ha hkv => ?_
  refine zH fun zq zQ => ?_
  refine zCM [(3,_,_,_)] ⟨rfl,trivial⟩ [0] 13 rfl ?_
  refine zV (ov_lookupOk (k := 0) rfl Tryz.underlying79 Tryz.underlying3 rfl rfl rfl (by first | rfl | trivial) hkv) ?_
  refine zO 20 rfl ?_
  refine zQ ?_
  refine at_end ?_
  refine at_fold (A := OpenA mb s.op) [0, 0, 0] rfl (fun h s => rm_same (ads := ads) hads hj ha h s) ?_
  refine at_fold (A := NodeA g s) [1, 1, 0, 0] rfl (fun h s => node_mk (A := A) (c := c) (mb := mb) (cg := cg) h s) ?_
  refine at_fin (rsV rfl (res_tmp rfl)) ?_
  refine ⟨_, ⟨rfl, rfl⟩, ?_⟩
  exact zE [0] []
 | none =>
  have hno := findO_none hf
  have hl : doN s k 3 t = (⟨s.ep, s.ld, s.lg, s.op ++ [(k, [])]⟩, 0) := by unfold doN; simp [hf]
  rw [hl]
  refine at_rm 2 rfl fun ads hads => ?_
  have hkn := rm_no (kv := kI) (ads := ads) hno kI_inj
  refine zH fun zq zQ => ?_
  refine zCM [(2,_,_,_)] ⟨rfl,trivial⟩ [0] 13 rfl ?_
  refine zV (ov_lookupNo (k := 0) rfl Tryz.underlying79 Tryz.underlying3 Tryz.zeroValue22 rfl rfl rfl (by first | rfl | trivial) (by assumption)) ?_
  refine zOM [(2,_,_,_)] ⟨rfl,trivial⟩ [0] 22 rfl ?_
  refine zT0 (ot_mapNew (k := 0) rfl Tryz.underlying79 Tryz.underlying3 rfl rfl rfl rfl (by first | rfl | trivial) (by assumption)) ?_
  rintro _ _ ⟨rfl, rfl⟩
  simp only [setAt]
  refine zO 8 rfl ?_
  refine zQ ?_
  refine at_end ?_
  refine at_rowNil bsE 9 1 ?_
  refine at_fold (A := OpenA mb (s.op ++ [(k, [])])) [1, 0, 0] rfl (fun h s => rm_put (ads := ads) (A := none) (c := 0) (ts := []) hads h s) ?_
  refine at_fold (A := NodeA g ⟨s.ep, s.ld, s.lg, s.op ++ [(k, [])]⟩) [1, 1, 0, 0] rfl (fun h s => node_mk (A := A) (c := c) (mb := mb) (cg := cg) h s) ?_
  refine at_fin (rsV rfl (res_tmp rfl)) ?_
  refine ⟨_, ⟨rfl, rfl⟩, ?_⟩
  exact zE [0] []
theorem T54 (w0 : World) {g : Nat} {s : ND} (k : Int) (t : BL) : Tri Tryz.prog w0 54 [ptrTo g, .int .i64 k, SV t] [NodeA g s] fun v m => v = .int .i64 (doN s k 5 t).2 ∧ m = [NodeA g (doN s k 5 t).1] := by
 refine tri_k Tryz.func54 rfl rfl fun F => ?_
 simp only [Tryz.ntmps54, argEnv, List.cons_append, List.nil_append]
 have hC := T16 w0 (g := g) (s := s) k
 unfold closeN at hC
 cases hf : findO s.op k with
 | some j =>
  rw [hf] at hC
  have hl : doN s k 5 t = (⟨s.ep, s.ld, s.lg, s.op.eraseIdx j⟩, 0) := by unfold doN; simp [hf]
  rw [hl]
  refine zH fun zq zQ => ?_
  refine zC 10 rfl ?_
  refine zcall [0] rfl rfl rfl Tryz.call16 rfl (hC ) rfl ?_
  simp only [zca, zna, splice, spliceL]
  refine zO 12 rfl ?_
  refine zQ ?_
  refine at_end ?_
  refine at_fin (rsV rfl (res_tmp rfl)) ?_
  refine ⟨_, ⟨rfl, rfl⟩, ?_⟩
  exact zE [0] []
 | none =>
  rw [hf] at hC
  have hl : doN s k 5 t = (s, 7) := by unfold doN; simp [hf]
  rw [hl]
  refine zH fun zq zQ => ?_
  refine zC 10 rfl ?_
  refine zcall [0] rfl rfl rfl Tryz.call16 rfl (hC ) rfl ?_
  simp only [zca, zna, splice, spliceL]
  refine zO 11 rfl ?_
  refine zQ ?_
  refine at_end ?_
  refine at_fin (rsV rfl (res_tmp rfl)) ?_
  refine ⟨_, ⟨rfl, rfl⟩, ?_⟩
  exact zE [0] []
theorem T53 (w0 : World) {g : Nat} {s : ND} (hs : NOk s) (k : Int) (t : BL) : Tri Tryz.prog w0 53 [ptrTo g, .int .i64 k, SV t] [NodeA g s] fun v m => v = .int .i64 (doN s k 4 t).2 ∧ m = [NodeA g (doN s k 4 t).1] := by
 refine tri_k Tryz.func53 rfl rfl fun F => ?_
 simp only [Tryz.ntmps53, argEnv, List.cons_append, List.nil_append]
 refine at_node 0 rfl fun A c mb cg => ?_
 cases hf : findO s.op k with
 | some j =>
  have hj := findO_at hf
  have hl : doN s k 4 t = layN ⟨s.ep, s.ld, s.lg, s.op.eraseIdx j⟩ (trx s.op j) := by unfold doN; simp [hf]
  rw [hl]
  refine at_rmPick 2 j hj rfl fun ads A1 c1 hads ha hkv => ?_
  have hC := closeYes w0 (g := g) (s := s) (A := A) (c := c) (mb := mb) (cg := cg) k hkv
  refine zH fun zq zQ => ?_
  refine zCM [(3,_,_,_)] ⟨rfl,trivial⟩ [0] 12 rfl ?_
  refine zV (ov_lookup1 (k := 0) rfl Tryz.underlying79 Tryz.underlying3 rfl rfl rfl (by first | rfl | trivial) hkv) ?_
  refine zO 8 rfl ?_
  refine zcall [3, 0] rfl rfl rfl Tryz.call16 rfl (hC ) rfl ?_
  simp only [zca, zna, splice, spliceL]
  refine zO 10 rfl ?_
  refine at_fold (A := OpenA mb (s.op.eraseIdx j)) [1, 2] rfl (fun h s => rm_del (ads := ads) hads (List.getElem?_eq_some_iff.1 hj).1 h s) ?_
  refine at_fold (A := NodeA g ⟨s.ep, s.ld, s.lg, s.op.eraseIdx j⟩) [1, 2, 0, 1] rfl (fun h s => node_mk (A := A) (c := c) (mb := mb) (cg := cg) h s) ?_
  have hs2 : NOk ⟨s.ep, s.ld, s.lg, s.op.eraseIdx j⟩ := ⟨hs.e0, hs.e1, hs.len, hs.tx, fun p hp => hs.ol p (List.mem_of_mem_eraseIdx hp), fun p hp => hs.ot p (List.mem_of_mem_eraseIdx hp)⟩
  have htl := (hs.trx j).1
  have hL {B : Option Addr} {d d' : Nat} := T76 w0 (g := g) (B := B) (d := d) (d' := d') (ts := trx s.op j) hs2 (by omega)
  refine zcall [0, 0] rfl rfl rfl Tryz.call76 rfl (hL ) rfl ?_
  simp only [zca, zna, splice, spliceL]
  refine zO 4 rfl ?_
  refine zQ ?_
  refine at_end ?_
  refine at_fin (rsV rfl (res_tmp rfl)) ?_
  refine ⟨_, ⟨rfl, rfl⟩, ?_⟩
  exact zE [0] [0]
 | none =>
  have hno := findO_none hf
  have hl : doN s k 4 t = (s, 7) := by unfold doN; simp [hf]
  rw [hl]
  refine at_rm 2 rfl fun ads hads => ?_
  have hkn := rm_no (kv := kI) (ads := ads) hno kI_inj
  have hC := closeNo w0 (g := g) (s := s) (A := A) (c := c) (mb := mb) (cg := cg) k hkn
  refine zH fun zq zQ => ?_
  refine zCM [(2,_,_,_)] ⟨rfl,trivial⟩ [0] 12 rfl ?_
  refine zV (ov_lookup1No (k := 0) rfl Tryz.underlying79 Tryz.underlying3 Tryz.zeroValue22 rfl rfl rfl (by first | rfl | trivial) (by assumption)) ?_
  refine zO 8 rfl ?_
  refine zcall [2, 0] rfl rfl rfl Tryz.call16 rfl (hC ) rfl ?_
  simp only [zca, zna, splice, spliceL]
  refine zO 11 rfl ?_
  refine zQ ?_
  refine at_end ?_
  refine at_fold (A := OpenA mb s.op) [1, 1] rfl (fun h s => rm_all (ads := ads) hads h s) ?_
  refine at_fold (A := NodeA g s) [1, 1, 0, 0] rfl (fun h s => node_mk (A := A) (c := c) (mb := mb) (cg := cg) h s) ?_
  refine at_fin (rsV rfl (res_tmp rfl)) ?_
  refine ⟨_, ⟨rfl, rfl⟩, ?_⟩
  exact zE [0] []
theorem T55 (w0 : World) {g : Nat} {s : ND} (hs : NOk s) (k : Int) (t : BL) : Tri Tryz.prog w0 55 [ptrTo g, .int .i64 k, SV t] [NodeA g s] fun v m => v = .int .i64 (doN s k 2 t).2 ∧ m = [NodeA g (doN s k 2 t).1] := by
 refine tri_k Tryz.func55 rfl rfl fun F => ?_
 simp only [Tryz.ntmps55, argEnv, List.cons_append, List.nil_append]
 refine at_node 0 rfl fun A c mb cg => ?_
 cases hf : findO s.op k with
 | some j =>
  have hj := findO_at hf
  have htl := (hs.trx j).1
  refine at_rmPick 2 j hj rfl fun ads A1 c1 hads ha hkv => ?_
  by_cases h2 : 200 ≤ (trx s.op j).length
  ·have hi1 : decide (((trx s.op j).length : Int) ≥ 200) = true := decide_eq_true (by omega)
   have hl : doN s k 2 t = (s, 5) := by unfold doN; simp [hf, h2]
   rw [hl]
   refine zH fun zq zQ => ?_
   refine zCM [(3,_,_,_)] ⟨rfl,trivial⟩ [0] 12 rfl ?_
   refine zV (ov_lookupOk (k := 0) rfl Tryz.underlying79 Tryz.underlying3 rfl rfl rfl (by first | rfl | trivial) hkv) ?_
   refine zO 25 rfl ?_
   refine zcT rfl (decide_eq_true (by omega)) ?_
   refine zC 7 rfl ?_
   refine zQ ?_
   refine at_end ?_
   refine at_fold (A := OpenA mb s.op) [0, 0, 0] rfl (fun h s => rm_same (ads := ads) hads hj ha h s) ?_
   refine at_fold (A := NodeA g s) [1, 1, 0, 0] rfl (fun h s => node_mk (A := A) (c := c) (mb := mb) (cg := cg) h s) ?_
   refine at_fin (rsV rfl (res_tmp rfl)) ?_
   refine ⟨_, ⟨rfl, rfl⟩, ?_⟩
   exact zE [0] []
  ·have hi1 : decide (((trx s.op j).length : Int) ≥ 200) = false := decide_eq_false (by omega)
   have hl : doN s k 2 t = (⟨s.ep, s.ld, s.lg, s.op.set j (k, trx s.op j ++ [t])⟩, 0) := by unfold doN; simp [hf, h2]
   rw [hl]
   refine zH fun zq zQ => ?_
   refine zCM [(3,_,_,_)] ⟨rfl,trivial⟩ [0] 12 rfl ?_
   refine zV (ov_lookupOk (k := 0) rfl Tryz.underlying79 Tryz.underlying3 rfl rfl rfl (by first | rfl | trivial) hkv) ?_
   refine zO 25 rfl ?_
   refine zcF rfl (decide_eq_false (by omega)) ?_
   refine zC 3 rfl ?_
   refine at_draw _ [] 9 [(2, 0), (2, 1), (2, 2), (1, 3), (2, 4), (2, 5), (2, 6), (0, 7), (0, 8), (3, 9)] (by kernel_rfl) (by kernel_rfl) (fun _ s => (s.pulls (ks := [3]) rfl).left) ?_
   refine aq_p (ov_move rfl rfl) rfl rfl rfl ?_
   refine aq_p (ov_nilCheck rfl rfl) rfl rfl rfl ?_
   refine aq_p (ov_fieldAddr (k := 3) (r := 3) rfl rfl rfl rfl) rfl rfl rfl ?_
   refine aq_v (ov_load rfl rfl rfl (fun _ s => s.ld (k := 0) rfl rfl)) rfl rfl rfl ?_
   refine aq_p (ov_move rfl rfl) rfl rfl rfl ?_
   refine aq_p (ov_move rfl rfl) rfl rfl rfl ?_
   refine aq_p (ov_move rfl rfl) rfl rfl rfl ?_
   refine aq_t (ot_buildSlice (cs := [_]) rfl Tryz.underlying22 rfl rfl rfl rfl rfl rfl) rfl rfl rfl ?_
   rintro _ _ ⟨g0, rfl, rfl⟩
   refine ⟨fun _ s => (s.pulls (ks := [4]) rfl).left, ?_⟩
   refine aq_t (ot_append (k := 2) (size := 1) (bytes := 16) (ys := [t]) (fun _ s => s.rdPt (k := 0) rfl rfl (by simp [bsE])) rfl Tryz.underlying22 (ti := Tryz.t9) rfl rfl rfl rfl rfl (by decide) rfl rfl rfl (by simp [bsE, Value.oneCell']) (by simp; omega) (by decide)) rfl rfl rfl ?_
   rintro _ _ ⟨A0, c0, rfl, rfl⟩
   simp only [setAt]
   refine ⟨fun _ s => (s.pulls (ks := [4]) rfl).left, ?_⟩
   refine aq_b0 (ot_mapOld (k := 1) rfl Tryz.underlying79 Tryz.underlying3 rfl rfl rfl rfl (by first | rfl | trivial) hkv) rfl rfl ?_
   rintro _ _ ⟨rfl, rfl⟩
   simp only [setAt]
   refine ⟨fun _ s => (s.pulls (ks := []) rfl).left, ?_⟩
   refine aq_nil ?_
   refine zX 7 rfl ?_
   refine zQ ?_
   refine at_end ?_
   refine at_fold (A := OpenA mb (s.op.set j (k, trx s.op j ++ [t]))) [1, 1, 1] rfl (fun h s => rm_set (ads := ads) (A' := A0) (c' := c0) hads hj h s) ?_
   refine at_fold (A := NodeA g ⟨s.ep, s.ld, s.lg, s.op.set j (k, trx s.op j ++ [t])⟩) [2, 2, 0, 1] rfl (fun h s => node_mk (A := A) (c := c) (mb := mb) (cg := cg) h s) ?_
   refine at_fin (rsV rfl (res_tmp rfl)) ?_
   refine ⟨_, ⟨rfl, rfl⟩, ?_⟩
   exact zE [0] [0]
 | none =>
  have hno := findO_none hf
  have hl : doN s k 2 t = layN s [t] := by unfold doN; simp [hf]
  rw [hl]
  refine at_rm 2 rfl fun ads hads => ?_
  have hkn := rm_no (kv := kI) (ads := ads) hno kI_inj
  refine zH fun zq zQ => ?_
  refine zCM [(2,_,_,_)] ⟨rfl,trivial⟩ [0] 12 rfl ?_
  refine zV (ov_lookupNo (k := 0) rfl Tryz.underlying79 Tryz.underlying3 Tryz.zeroValue22 rfl rfl rfl (by first | rfl | trivial) (by assumption)) ?_
  refine zO 19 rfl ?_
  refine zT (ot_buildSlice (cs := [_]) rfl Tryz.underlying22 rfl rfl rfl rfl rfl rfl) ?_
  rintro _ _ ⟨g0, rfl, rfl⟩
  refine at_fold (A := OpenA mb s.op) [1, 1] rfl (fun h s => rm_all (ads := ads) hads h s) ?_
  refine at_fold (A := NodeA g s) [2, 2, 0, 1] rfl (fun h s => node_mk (A := A) (c := c) (mb := mb) (cg := cg) h s) ?_
  refine at_rowOf bsE 1 (size := 1) (c := 1) [t] rfl (fun _ _ => rfl) (Nat.le_refl _) (by decide) (Nat.le_refl _) rfl ?_
  simp only [setAt]
  refine at_reval 22 (.slice (some ⟨g0, 0, none⟩) ([t] : List BL).length 1) rfl rfl ?_
  have hL {B : Option Addr} {d d' : Nat} := T76 w0 (g := g) (B := B) (d := d) (d' := d') (ts := [t]) hs (by simp)
  refine zcall [0, 0] rfl rfl rfl Tryz.call76 rfl (hL ) rfl ?_
  simp only [zca, zna, splice, spliceL]
  refine zO 5 rfl ?_
  refine zQ ?_
  refine at_end ?_
  refine at_fin (rsV rfl (res_tmp rfl)) ?_
  refine ⟨_, ⟨rfl, rfl⟩, ?_⟩
  exact zE [0] [0]
theorem T34 (w0 : World) {g : Nat} {s : ND} (e : Int) (rd : Bool) (is : Int) : Tri Tryz.prog w0 34 [ptrTo g, .int .u64 e, .bool rd, .int .i64 is] [NodeA g s] fun v m => v = .int .i64 (mayN s e rd is) ∧ m = [NodeA g s] := by
 refine tri_k Tryz.func34 rfl rfl fun F => ?_
 simp only [Tryz.ntmps34, argEnv, List.cons_append, List.nil_append]
 refine at_node 0 rfl fun A c mb cg => ?_
 by_cases he : e = s.ep
 rotate_left
 ·have hi1 : (!decide (e = s.ep)) = true := by simp [he]
  have hm : mayN s e rd is = 8 := by unfold mayN; simp [he]
  refine zH fun zq zQ => ?_
  refine zCM [(0,_,_,_)] ⟨rfl,trivial⟩ [0] 18 rfl ?_
  refine zcT rfl (by first | assumption | (rw [Bool.not_eq_true']; exact decide_eq_false (by omega))) ?_
  refine zC 8 rfl ?_
  refine zQ ?_
  refine at_end ?_
  refine at_fold (A := NodeA g s) [0, 0, 0, 0] rfl (fun h s => node_mk (A := A) (c := c) (mb := mb) (cg := cg) h s) ?_
  refine at_fin (rsV rfl (res_tmp rfl)) ?_
  refine ⟨_, ⟨by rw [hm], rfl⟩, ?_⟩
  exact zE [0] []
 have hi1 : (!decide (e = s.ep)) = false := by simp [he]
 by_cases h0 : is = 0
 ·have hi2 : decide (is = 0) = true := by simp [h0]
  have hm : mayN s e rd is = 2 := by unfold mayN; simp [he, h0]
  refine zH fun zq zQ => ?_
  refine zCM [(0,_,_,_)] ⟨rfl,trivial⟩ [0] 18 rfl ?_
  refine zcF rfl (by first | assumption | (rw [Bool.not_eq_false']; exact decide_eq_true (by omega))) ?_
  refine zC 5 rfl ?_
  refine zrT 19 rfl (decide_eq_true (by omega)) ?_
  refine zO 18 rfl ?_
  refine zQ ?_
  refine at_end ?_
  refine at_fold (A := NodeA g s) [0, 0, 0, 0] rfl (fun h s => node_mk (A := A) (c := c) (mb := mb) (cg := cg) h s) ?_
  refine at_fin (rsV rfl (res_tmp rfl)) ?_
  refine ⟨_, ⟨by rw [hm], rfl⟩, ?_⟩
  exact zE [0] []
 have hi2 : decide (is = 0) = false := by simp [h0]
 cases rd with
 | true =>
  by_cases h1 : is = 1
  ·have hi3 : (!decide (is = 1)) = false := by simp [h1]
   have hm : mayN s e true is = 0 := by unfold mayN; simp [he, h1]
   refine zH fun zq zQ => ?_
   refine zCM [(0,_,_,_)] ⟨rfl,trivial⟩ [0] 18 rfl ?_
   refine zcF rfl (by first | assumption | (rw [Bool.not_eq_false']; exact decide_eq_true (by omega))) ?_
   refine zC 5 rfl ?_
   refine zrF 19 rfl (decide_eq_false (by omega)) ?_
   refine zO 9 rfl ?_
   refine zcF rfl (by first | assumption | (rw [Bool.not_eq_false']; exact decide_eq_true (by omega))) ?_
   refine zC 24 rfl ?_
   refine zQ ?_
   refine at_end ?_
   refine at_fold (A := NodeA g s) [0, 0, 0, 0] rfl (fun h s => node_mk (A := A) (c := c) (mb := mb) (cg := cg) h s) ?_
   refine at_fin (rsV rfl (res_tmp rfl)) ?_
   refine ⟨_, ⟨by rw [hm], rfl⟩, ?_⟩
   exact zE [0] []
  ·have hi3 : (!decide (is = 1)) = true := by simp [h1]
   have hm : mayN s e true is = 2 := by unfold mayN; simp [he, h1]
   refine zH fun zq zQ => ?_
   refine zCM [(0,_,_,_)] ⟨rfl,trivial⟩ [0] 18 rfl ?_
   refine zcF rfl (by first | assumption | (rw [Bool.not_eq_false']; exact decide_eq_true (by omega))) ?_
   refine zC 5 rfl ?_
   refine zrF 19 rfl (decide_eq_false (by omega)) ?_
   refine zO 9 rfl ?_
   refine zcT rfl (by first | assumption | (rw [Bool.not_eq_true']; exact decide_eq_false (by omega))) ?_
   refine zC 8 rfl ?_
   refine zQ ?_
   refine at_end ?_
   refine at_fold (A := NodeA g s) [0, 0, 0, 0] rfl (fun h s => node_mk (A := A) (c := c) (mb := mb) (cg := cg) h s) ?_
   refine at_fin (rsV rfl (res_tmp rfl)) ?_
   refine ⟨_, ⟨by rw [hm], rfl⟩, ?_⟩
   exact zE [0] []
 | false =>
  rcases Bool.eq_false_or_eq_true s.ld with hld | hld
  ·have hz : s.ld = true := hld
   have hm : mayN s e false is = 0 := by unfold mayN; simp [he, h0, hld]
   refine zH fun zq zQ => ?_
   refine zCM [(0,_,_,_)] ⟨rfl,trivial⟩ [0] 18 rfl ?_
   refine zcF rfl (by first | assumption | (rw [Bool.not_eq_false']; exact decide_eq_true (by omega))) ?_
   refine zC 5 rfl ?_
   refine zrF 19 rfl (decide_eq_false (by omega)) ?_
   refine zOM [(0,_,_,_)] ⟨rfl,trivial⟩ [0] 24 rfl ?_
   refine zcF rfl (by simp [hi1, hi2, hld, hz]; done) ?_
   refine zC 9 rfl ?_
   refine zQ ?_
   refine at_end ?_
   refine at_fold (A := NodeA g s) [0, 0, 0, 0] rfl (fun h s => node_mk (A := A) (c := c) (mb := mb) (cg := cg) h s) ?_
   refine at_fin (rsV rfl (res_tmp rfl)) ?_
   refine ⟨_, ⟨by rw [hm], rfl⟩, ?_⟩
   exact zE [0] []
  ·have hz : s.ld = false := hld
   have hm : mayN s e false is = 7 := by unfold mayN; simp [he, h0, hld]
   refine zH fun zq zQ => ?_
   refine zCM [(0,_,_,_)] ⟨rfl,trivial⟩ [0] 18 rfl ?_
   refine zcF rfl (by first | assumption | (rw [Bool.not_eq_false']; exact decide_eq_true (by omega))) ?_
   refine zC 5 rfl ?_
   refine zrF 19 rfl (decide_eq_false (by omega)) ?_
   refine zOM [(0,_,_,_)] ⟨rfl,trivial⟩ [0] 24 rfl ?_
   refine zcT rfl (by simp [hi1, hi2, hld, hz]; done) ?_
   refine zC 8 rfl ?_
   refine zQ ?_
   refine at_end ?_
   refine at_fold (A := NodeA g s) [0, 0, 0, 0] rfl (fun h s => node_mk (A := A) (c := c) (mb := mb) (cg := cg) h s) ?_
   refine at_fin (rsV rfl (res_tmp rfl)) ?_
   refine ⟨_, ⟨by rw [hm], rfl⟩, ?_⟩
   exact zE [0] []
def waysL : List (Value × Value) := [(kI 3, .func (.func 52) #[] #[]), (kI 4, .func (.func 53) #[] #[]), (kI 5, .func (.func 54) #[] #[]), (kI 2, .func (.func 55) #[] #[]), (kI 7, .func (.func 55) #[] #[])]
theorem T35 (w0 : World) : Tri Tryz.prog w0 35 [] [] fun v m => ∃ mb, v = .map (some mb) ∧ m = [MapA (.int .i64) mb waysL] := by
 refine tri_k Tryz.func35 rfl rfl fun F => ?_
 simp only [Tryz.ntmps35, argEnv, List.cons_append, List.nil_append]
 refine zH fun zq zQ => ?_
 refine zC 7 rfl ?_
 refine zT (ot_makeMap (TypeDesc.int IntKind.i64) rfl) ?_
 rintro _ _ ⟨mb0, rfl, rfl⟩
 refine zT0 (ot_insNew (k := 0) rfl Tryz.underlying101 Tryz.underlying3 rfl rfl rfl rfl (by first | rfl | trivial) (by simp)) ?_
 rintro _ _ ⟨rfl, rfl⟩
 simp only [setAt, List.nil_append, List.cons_append]
 refine zT0 (ot_insNew (k := 0) rfl Tryz.underlying101 Tryz.underlying3 rfl rfl rfl rfl (by first | rfl | trivial) (by simp)) ?_
 rintro _ _ ⟨rfl, rfl⟩
 simp only [setAt, List.nil_append, List.cons_append]
 refine zT0 (ot_insNew (k := 0) rfl Tryz.underlying101 Tryz.underlying3 rfl rfl rfl rfl (by first | rfl | trivial) (by simp)) ?_
 rintro _ _ ⟨rfl, rfl⟩
 simp only [setAt, List.nil_append, List.cons_append]
 refine zT0 (ot_insNew (k := 0) rfl Tryz.underlying101 Tryz.underlying3 rfl rfl rfl rfl (by first | rfl | trivial) (by simp)) ?_
 rintro _ _ ⟨rfl, rfl⟩
 simp only [setAt, List.nil_append, List.cons_append]
 refine zT0 (ot_insNew (k := 0) rfl Tryz.underlying101 Tryz.underlying3 rfl rfl rfl rfl (by first | rfl | trivial) (by simp)) ?_
 rintro _ _ ⟨rfl, rfl⟩
 simp only [setAt, List.nil_append, List.cons_append]
 refine zO 5 rfl ?_
 refine zQ ?_
 refine at_end ?_
 refine at_fin (rsV rfl (res_tmp rfl)) ?_
 refine ⟨_, ⟨mb0, rfl, rfl⟩, ?_⟩
 unfold waysL
 exact zE [0] []
end Go.Proofs.YtighdkdomfpadaaGreatDoor
