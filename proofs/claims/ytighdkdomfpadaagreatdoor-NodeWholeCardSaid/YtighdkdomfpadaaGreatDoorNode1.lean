/- Package node, walked: New, Epoch, Leads, Log, Lead, Close. -/
import Derived.Test.YtighdkdomfpadaaGreatDoorProg
import Derived.Test.YtighdkdomfpadaaGreatDoorNodeLaw
import Derived.Test.YtighdkdomfpadaaGreatDoorClassC
import Derived.Test.YtighdkdomfpadaaGreatDoorPlan6
import Derived.Test.YtighdkdomfpadaaGreatDoorPlanA
import Derived.Test.YtighdkdomfpadaaGreatDoorSLB
import Derived.KernelRfl
set_option linter.unusedSimpArgs false
set_option linter.unusedVariables false
set_option maxRecDepth 100000
set_option maxHeartbeats 4000000
namespace Go.Proofs.YtighdkdomfpadaaGreatDoor
open Go Go.Proofs.YtighdkdomfpadaaGreatDoor.SL Go.RowKit
def enE (x : Ent) : List Value := [.int .u64 x.1, SV x.2]
abbrev kI (k : Int) : Value := .int .i64 k
abbrev OpenA (mb : Nat) (o : List Trx) : HP := MapRows (.int .i64) kI bsE 9 1 mb o
theorem kI_inj (a b : Int) (h : kI a = kI b) : a = b := by injection h
abbrev NC (g : Nat) (s : ND) (A : Option Addr) (c mb cg : Nat) : HP := cl g #[.int .u64 s.ep, .bool s.ld, .slice A s.lg.length c, .map (some mb), ptrTo cg] 81
/-- A node that is held. -/
def NodeA (g : Nat) (s : ND) : HP := fun h => ∃ A c mb cg, star [NC g s A c mb cg, Row enE 73 2 A c s.lg, OpenA mb s.op, Cl cg] h
theorem at_node {w0 : World} {n : Nat} {ds : List Deferred} {R : Act → World → Prop} {env : Env} {l r : List HP} (q : Nat) {g : Nat} {s : ND} (hq : pull q l = some (NodeA g s, r))
    (h : ∀ A c mb cg, At w0 n ds R env (NC g s A c mb cg :: Row enE 73 2 A c s.lg :: OpenA mb s.op :: Cl cg :: r)) : At w0 n ds R env l := fun a w f s' => by
  obtain ⟨A, s2⟩ := (s'.perm (pull_perm hq)).ex
  obtain ⟨c, s3⟩ := s2.ex
  obtain ⟨mb, s4⟩ := s3.ex
  obtain ⟨cg, s5⟩ := s4.ex
  exact h A c mb cg a w f s5.open_
theorem cl_made {g : Nat} (h : PH) (s : star [CC g 0 0 0 (.map none)] h) : Cl g h := by
  obtain ⟨p, q, hp, _, _, l1, _⟩ := s
  exact .inl (l1 g _ hp)
theorem node_mk {g : Nat} {s : ND} {A : Option Addr} {c mb cg : Nat} (h : PH) (k : star [NC g s A c mb cg, Row enE 73 2 A c s.lg, OpenA mb s.op, Cl cg] h) : NodeA g s h := ⟨A, c, mb, cg, k⟩
theorem T9 (w0 : World) : Tri Tryz.prog w0 9 [] [] fun v m => ∃ g, v = ptrTo g ∧ m = [NodeA g ⟨1, false, [], []⟩] := by
 refine tri_k Tryz.func9 rfl rfl fun F => ?_
 simp only [Tryz.ntmps9, argEnv, List.nil_append]
 refine zH fun zq zQ => ?_
 refine zC 7 rfl ?_
 refine zT (ot_makeMap (TypeDesc.int IntKind.i64) rfl) ?_
 rintro _ _ ⟨mb0, rfl, rfl⟩
 refine zT (ot_call (ks := []) rfl rfl rfl Tryz.call11 rfl (T11 _) rfl) ?_
 rintro v0 _ ⟨m0, hp0, rfl⟩
 obtain ⟨g0, hp0⟩ := hp0
 obtain ⟨rfl, rfl⟩ := hp0
 simp only [zca, zna, splice, spliceL]
 refine zV (ov_build (cs := [_, _, _, _, _]) rfl rfl rfl rfl) ?_
 refine zT (ot_boxA rfl rfl) ?_
 rintro _ _ ⟨g1, rfl, rfl⟩
 refine zO 4 rfl ?_
 refine zQ ?_
 refine at_end ?_
 refine at_fold (A := Cl g0) [1] rfl (fun h s => cl_made h s) ?_
 refine at_fold (A := OpenA mb0 []) [2] rfl (fun h s => rm_nil h s) ?_
 refine at_rowNil enE 73 2 ?_
 refine at_fold (A := NodeA g1 ⟨1, false, [], []⟩) [3, 0, 0, 0] rfl (fun h s => node_mk (A := none) (c := 0) (mb := mb0) (cg := g0) h s) ?_
 refine at_fin (rsV rfl (res_tmp rfl)) ?_
 refine ⟨_, ⟨g1, rfl, rfl⟩, ?_⟩
 exact zE [0] []
theorem T27 (w0 : World) {g : Nat} {s : ND} : Tri Tryz.prog w0 27 [ptrTo g] [NodeA g s] fun v m => v = .int .u64 s.ep ∧ m = [NodeA g s] := by
 refine tri_k Tryz.func27 rfl rfl fun F => ?_
 simp only [Tryz.ntmps27, argEnv, List.cons_append, List.nil_append]
 refine at_node 0 rfl fun A c mb cg => ?_
 refine zH fun zq zQ => ?_
 refine zCM [(0,_,_,_)] ⟨rfl,trivial⟩ [0] 15 rfl ?_
 refine zQ ?_
 refine at_end ?_
 refine at_fold (A := NodeA g s) [0, 0, 0, 0] rfl (fun h s => node_mk (A := A) (c := c) (mb := mb) (cg := cg) h s) ?_
 refine at_fin (rsV rfl (res_tmp rfl)) ?_
 refine ⟨_, ⟨rfl, rfl⟩, ?_⟩
 exact zE [0] []
theorem T28 (w0 : World) {g : Nat} {s : ND} : Tri Tryz.prog w0 28 [ptrTo g] [NodeA g s] fun v m => v = .bool s.ld ∧ m = [NodeA g s] := by
 refine tri_k Tryz.func28 rfl rfl fun F => ?_
 simp only [Tryz.ntmps28, argEnv, List.cons_append, List.nil_append]
 refine at_node 0 rfl fun A c mb cg => ?_
 refine zH fun zq zQ => ?_
 refine zCM [(0,_,_,_)] ⟨rfl,trivial⟩ [0] 15 rfl ?_
 refine zQ ?_
 refine at_end ?_
 refine at_fold (A := NodeA g s) [0, 0, 0, 0] rfl (fun h s => node_mk (A := A) (c := c) (mb := mb) (cg := cg) h s) ?_
 refine at_fin (rsV rfl (res_tmp rfl)) ?_
 refine ⟨_, ⟨rfl, rfl⟩, ?_⟩
 exact zE [0] []
theorem enE_one (v : Ent) : ∀ x ∈ enE v, x.oneCell' = true := by intro x hx; simp [enE] at hx; rcases hx with rfl | rfl <;> rfl
theorem T44 (w0 : World) {A : Option Addr} {c : Nat} {l : List Ent} (hr : Rd enE w0 2 A l) (hm : l.length ≤ 100000) :
 Tri Tryz.prog w0 44 [.slice A l.length c] [] fun v m => ∃ B e, v = .slice B l.length e ∧ m = [Row enE 73 2 B e l] := by
 refine tri_k Tryz.func44 rfl rfl fun F => ?_
 simp only [Tryz.ntmps44, argEnv, List.cons_append, List.nil_append]
 refine zH fun zq zQ => ?_
 refine zC 9 rfl ?_
 refine zV (ov_slice_nil rfl Tryz.underlying43 rfl rfl) ?_
 refine zO 2 rfl ?_
 cases A with
 | none =>
  have hnil : l = [] := by
   by_cases e : l = []
   ·exact e
   ·obtain ⟨ad, h, _⟩ := hr.at_ e; cases h
  subst hnil
  refine zC 8 rfl ?_
  refine zQ ?_
  refine at_end ?_
  refine at_rowNil enE 73 2 ?_
  refine at_fin (rsV rfl (res_tmp rfl)) ?_
  refine ⟨_, ⟨none, 0, rfl, rfl⟩, ?_⟩
  exact zE [0] []
 | some ad =>
  refine zC 5 rfl ?_
  refine zT (ot_buildSlice (cs := []) rfl Tryz.underlying43 rfl rfl rfl rfl rfl rfl) ?_
  rintro _ _ ⟨g0, rfl, rfl⟩
  refine zO 1 rfl ?_
  refine at_rowOf (c := 0) (size := 2) enE 0 [] rfl (by simp) (by simp) (by decide) (by simp) rfl ?_
  simp only [setAt]
    
  refine zT (ot_append (k := 0) (xs := []) (ys := l) (enc := enE) (size := 2) (bytes := 24) (fun w s => hr.up s) rfl Tryz.underlying43 rfl rfl rfl rfl rfl (by decide) rfl rfl rfl (fun v _ => enE_one v) (by simp; omega) (by decide)) ?_
  rintro _ _ ⟨A0, c0, rfl, rfl⟩
  simp only [setAt, List.nil_append]
  refine zO 4 rfl ?_
  refine zQ ?_
  refine at_end ?_
  refine at_fin (rsV rfl (res_tmp rfl)) ?_
  refine ⟨_, ⟨A0, c0, rfl, rfl⟩, ?_⟩
  exact zE [0] []
theorem T44a (w0 : World) {A : Option Addr} {c c' : Nat} {l : List Ent} (hm : l.length ≤ 100000) :
    Tri Tryz.prog w0 44 [.slice A l.length c] [Row enE 73 2 A c' l] fun v m => ∃ B e, v = .slice B l.length e ∧ m = [Row enE 73 2 B e l, Row enE 73 2 A c' l] :=
  (Tri.of_all fun w s => T44 w (s.rd (k := 0) rfl) hm).post fun v m ⟨m', ⟨B, e, h1, h2⟩, h3⟩ => ⟨B, e, h1, by rw [h3, h2]; rfl⟩
theorem T19 (w0 : World) {g : Nat} {s : ND} (hl : s.lg.length ≤ 100000) : Tri Tryz.prog w0 19 [ptrTo g] [NodeA g s] fun v m => ∃ B e, v = .slice B s.lg.length e ∧ m = [NodeA g s, Row enE 73 2 B e s.lg] := by
 refine tri_k Tryz.func19 rfl rfl fun F => ?_
 simp only [Tryz.ntmps19, argEnv, List.cons_append, List.nil_append]
 refine at_node 0 rfl fun A c mb cg => ?_
 have hC {A : Option Addr} {c c' : Nat} := T44a w0 (A := A) (c := c) (c' := c') (l := s.lg) hl
 refine zH fun zq zQ => ?_
 refine zCM [(0,_,_,_)] ⟨rfl,trivial⟩ [0] 11 rfl ?_
 refine zT (ot_call (ks := [1]) rfl rfl rfl Tryz.call44 rfl (hC ) rfl) ?_
 rintro v0 _ ⟨m0, hp0, rfl⟩
 obtain ⟨B0, hp0⟩ := hp0
 obtain ⟨e0, hp0⟩ := hp0
 obtain ⟨rfl, rfl⟩ := hp0
 simp only [zca, zna, splice, spliceL]
 refine zO 4 rfl ?_
 refine zQ ?_
 refine at_end ?_
 refine at_fold (A := NodeA g s) [2, 1, 1, 1] rfl (fun h s => node_mk (A := A) (c := c) (mb := mb) (cg := cg) h s) ?_
 refine at_fin (rsV rfl (res_tmp rfl)) ?_
 refine ⟨_, ⟨_, _, rfl, rfl⟩, ?_⟩
 exact zE [0, 0] []
theorem T33 (w0 : World) {g : Nat} {s : ND} (e : Int) (b : Bool) : Tri Tryz.prog w0 33 [ptrTo g, .int .u64 e, .bool b] [NodeA g s] fun v m => v = .tuple #[] ∧ m = [NodeA g ⟨e, b, s.lg, []⟩] := by
 refine tri_k Tryz.func33 rfl rfl fun F => ?_
 simp only [Tryz.ntmps33, argEnv, List.cons_append, List.nil_append]
 refine at_node 0 rfl fun A c mb cg => ?_
 refine at_rm 2 rfl fun ads hads => ?_
 refine zH fun zq zQ => ?_
 refine zC 8 rfl ?_
 refine zS 2 ?_
 simp only [setAt, splice, spliceL, Value.cells]
 refine zO 2 rfl ?_
 refine zS 2 ?_
 simp only [setAt, splice, spliceL, Value.cells]
 refine zOM [(2,_,_,_)] ⟨rfl,trivial⟩ [0] 7 rfl ?_
 refine zT0 (ot_clearMap (k := 0) rfl Tryz.underlying79 rfl rfl) ?_
 rintro _ _ ⟨rfl, rfl⟩
 simp only [setAt]
 refine zO 1 rfl ?_
 refine zQ ?_
 refine at_end ?_
 refine at_fold (A := OpenA mb []) [0, 0] rfl (fun h s => rm_clear hads h s) ?_
 refine at_fold (A := NodeA g ⟨e, b, s.lg, []⟩) [1, 1, 0, 0] rfl (fun h s => node_mk (A := A) (c := c) (mb := mb) (cg := cg) h s) ?_
 refine at_fin (rs0 rfl) ?_
 refine ⟨_, ⟨rfl, rfl⟩, ?_⟩
 exact zE [0] []
theorem T10 (w0 : World) {g : Nat} {s : ND} (e : Int) : Tri Tryz.prog w0 10 [ptrTo g, .int .u64 e] [NodeA g s] fun v m => v = .bool (leadN s e).2 ∧ m = [NodeA g (leadN s e).1] := by
 refine tri_k Tryz.func10 rfl rfl fun F => ?_
 simp only [Tryz.ntmps10, argEnv, List.cons_append, List.nil_append]
 by_cases h : e < s.ep
 ·have hi1 : decide (e < s.ep) = true := decide_eq_true h
  have hl : leadN s e = (s, false) := by unfold leadN; rw [if_pos h]
  rw [hl]
  refine at_node 0 rfl fun A c mb cg => ?_
  refine zH fun zq zQ => ?_
  refine zCM [(0,_,_,_)] ⟨rfl,trivial⟩ [0] 16 rfl ?_
  refine zcT rfl (decide_eq_true (by omega)) ?_
  refine zC 7 rfl ?_
  refine zQ ?_
  refine at_end ?_
  refine at_fold (A := NodeA g s) [0, 0, 0, 0] rfl (fun h s => node_mk (A := A) (c := c) (mb := mb) (cg := cg) h s) ?_
  refine at_fin (rsV rfl (res_tmp rfl)) ?_
  refine ⟨_, ⟨rfl, rfl⟩, ?_⟩
  exact zE [0] []
 ·have hi1 : decide (e < s.ep) = false := decide_eq_false h
  have hl : leadN s e = (⟨e, true, s.lg, []⟩, true) := by unfold leadN; rw [if_neg h]
  rw [hl]
  refine at_node 0 rfl fun A c mb cg => ?_
  refine zH fun zq zQ => ?_
  refine zCM [(0,_,_,_)] ⟨rfl,trivial⟩ [0] 16 rfl ?_
  refine zcF rfl (decide_eq_false (by omega)) ?_
  refine zC 6 rfl ?_
  refine at_fold (A := NodeA g s) [0, 0, 0, 0] rfl (fun h s => node_mk (A := A) (c := c) (mb := mb) (cg := cg) h s) ?_
  refine zcall [0] rfl rfl rfl Tryz.call33 rfl (T33 _ _ _) rfl ?_
  simp only [zca, zna, splice, spliceL]
  refine zO 8 rfl ?_
  refine zQ ?_
  refine at_end ?_
  refine at_fin (rsV rfl (res_tmp rfl)) ?_
  refine ⟨_, ⟨rfl, rfl⟩, ?_⟩
  exact zE [0] []
theorem T16 (w0 : World) {g : Nat} {s : ND} (k : Int) : Tri Tryz.prog w0 16 [ptrTo g, .int .i64 k] [NodeA g s] fun v m => v = .bool (closeN s k).2 ∧ m = [NodeA g (closeN s k).1] := by
 refine tri_k Tryz.func16 rfl rfl fun F => ?_
 simp only [Tryz.ntmps16, argEnv, List.cons_append, List.nil_append]
 refine at_node 0 rfl fun A c mb cg => ?_
 cases hf : findO s.op k with
 | some j =>
  have hj := findO_at hf
  have hl : closeN s k = (⟨s.ep, s.ld, s.lg, s.op.eraseIdx j⟩, true) := by unfold closeN; rw [hf]
  rw [hl]
  refine at_rmPick 2 j hj rfl fun ads A1 c1 hads ha hkv => ?_
  refine zH fun zq zQ => ?_
  refine zCM [(3,_,_,_)] ⟨rfl,trivial⟩ [0] 12 rfl ?_
  refine zV (ov_lookupOk (k := 0) rfl Tryz.underlying79 Tryz.underlying3 rfl rfl rfl (by first | rfl | trivial) hkv) ?_
  refine zOM [(3,_,_,_)] ⟨rfl,trivial⟩ [0] 14 rfl ?_
  refine zT0 (ot_delete (ts := #[]) (k := 0) rfl Tryz.underlying79 Tryz.underlying3 rfl rfl rfl (by first | rfl | trivial) hkv) ?_
  rintro _ _ ⟨rfl, rfl⟩
  simp only [setAt]
  refine zO 9 rfl ?_
  refine zQ ?_
  refine at_end ?_
  refine at_fold (A := OpenA mb (s.op.eraseIdx j)) [0, 1] rfl (fun h s => rm_del (ads := ads) hads (List.getElem?_eq_some_iff.1 hj).1 h s) ?_
  refine at_fold (A := NodeA g ⟨s.ep, s.ld, s.lg, s.op.eraseIdx j⟩) [2, 2, 0, 1] rfl (fun h s => node_mk (A := A) (c := c) (mb := mb) (cg := cg) h s) ?_
  refine at_fin (rsV rfl (res_tmp rfl)) ?_
  refine ⟨_, ⟨rfl, rfl⟩, ?_⟩
  exact zE [0] [0]
 | none =>
  have hno := findO_none hf
  have hl : closeN s k = (s, false) := by unfold closeN; rw [hf]
  rw [hl]
  refine at_rm 2 rfl fun ads hads => ?_
  have hkn := rm_no (kv := kI) (ads := ads) hno kI_inj
  refine zH fun zq zQ => ?_
  refine zCM [(2,_,_,_)] ⟨rfl,trivial⟩ [0] 12 rfl ?_
  refine zV (ov_lookupNo (k := 0) rfl Tryz.underlying79 Tryz.underlying3 Tryz.zeroValue22 rfl rfl rfl (by first | rfl | trivial) (by assumption)) ?_
  refine zOM [(2,_,_,_)] ⟨rfl,trivial⟩ [0] 14 rfl ?_
  refine zT0 (ot_deleteNo (k := 0) rfl Tryz.underlying79 Tryz.underlying3 rfl rfl rfl (by first | rfl | trivial) hkn) ?_
  rintro _ _ ⟨rfl, rfl⟩
  refine zO 9 rfl ?_
  refine zQ ?_
  refine at_end ?_
  refine at_fold (A := OpenA mb s.op) [0, 0] rfl (fun h s => rm_all (ads := ads) hads h s) ?_
  refine at_fold (A := NodeA g s) [1, 1, 0, 0] rfl (fun h s => node_mk (A := A) (c := c) (mb := mb) (cg := cg) h s) ?_
  refine at_fin (rsV rfl (res_tmp rfl)) ?_
  refine ⟨_, ⟨rfl, rfl⟩, ?_⟩
  exact zE [0] []
/-- Close, over the map as it lies. -/
theorem closeYes (w0 : World) {g : Nat} {s : ND} {A : Option Addr} {c mb cg j : Nat} {kvs : List (Value × Value)} {v : Value} (k : Int) (hkv : kvs[j]? = some (kI k, v)) : Tri Tryz.prog w0 16 [ptrTo g, .int .i64 k] [NC g s A c mb cg, MapA (.int .i64) mb kvs] fun v m => v = .bool true ∧ m = [NC g s A c mb cg, MapA (.int .i64) mb (kvs.eraseIdx j)] := by
 refine tri_k Tryz.func16 rfl rfl fun F => ?_
 simp only [Tryz.ntmps16, argEnv, List.cons_append, List.nil_append]
 refine zH fun zq zQ => ?_
 refine zCM [(0,_,_,_)] ⟨rfl,trivial⟩ [0] 12 rfl ?_
 refine zV (ov_lookupOk (k := 1) rfl Tryz.underlying79 Tryz.underlying3 rfl rfl rfl (by first | rfl | trivial) hkv) ?_
 refine zOM [(0,_,_,_)] ⟨rfl,trivial⟩ [0] 14 rfl ?_
 refine zT0 (ot_delete (ts := #[]) (k := 1) rfl Tryz.underlying79 Tryz.underlying3 rfl rfl rfl (by first | rfl | trivial) hkv) ?_
 rintro _ _ ⟨rfl, rfl⟩
 simp only [setAt]
 refine zO 9 rfl ?_
 refine zQ ?_
 refine at_end ?_
 refine at_fin (rsV rfl (res_tmp rfl)) ?_
 refine ⟨_, ⟨rfl, rfl⟩, ?_⟩
 exact zE [0, 0] []
theorem closeNo (w0 : World) {g : Nat} {s : ND} {A : Option Addr} {c mb cg : Nat} {kvs : List (Value × Value)} (k : Int) (hkn : ∀ p ∈ kvs, p.1 ≠ kI k) : Tri Tryz.prog w0 16 [ptrTo g, .int .i64 k] [NC g s A c mb cg, MapA (.int .i64) mb kvs] fun v m => v = .bool false ∧ m = [NC g s A c mb cg, MapA (.int .i64) mb kvs] := by
 refine tri_k Tryz.func16 rfl rfl fun F => ?_
 simp only [Tryz.ntmps16, argEnv, List.cons_append, List.nil_append]
 refine zH fun zq zQ => ?_
 refine zCM [(0,_,_,_)] ⟨rfl,trivial⟩ [0] 12 rfl ?_
 refine zV (ov_lookupNo (k := 1) rfl Tryz.underlying79 Tryz.underlying3 Tryz.zeroValue22 rfl rfl rfl (by first | rfl | trivial) (by assumption)) ?_
 refine zOM [(0,_,_,_)] ⟨rfl,trivial⟩ [0] 14 rfl ?_
 refine zT0 (ot_deleteNo (k := 1) rfl Tryz.underlying79 Tryz.underlying3 rfl rfl rfl (by first | rfl | trivial) hkn) ?_
 rintro _ _ ⟨rfl, rfl⟩
 refine zO 9 rfl ?_
 refine zQ ?_
 refine at_end ?_
 refine at_fin (rsV rfl (res_tmp rfl)) ?_
 refine ⟨_, ⟨rfl, rfl⟩, ?_⟩
 exact zE [0, 0] []
end Go.Proofs.YtighdkdomfpadaaGreatDoor
