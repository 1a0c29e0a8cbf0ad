/- Package node, walked: behind, Table, lay. -/
import Derived.Test.YtighdkdomfpadaaGreatDoorProg
import Derived.Test.YtighdkdomfpadaaGreatDoorNode1
import Derived.Test.YtighdkdomfpadaaGreatDoorSLB
import Derived.KernelRfl
set_option linter.unusedSimpArgs false
set_option linter.unusedVariables false
set_option maxRecDepth 100000
set_option maxHeartbeats 4000000
namespace Go.Proofs.YtighdkdomfpadaaGreatDoor
open Go Go.Proofs.YtighdkdomfpadaaGreatDoor.SL Go.RowKit
theorem tabF_succ (l : List PR) {ts : List BL} {k : Nat} {x : BL} (h : ts[k]? = some x) : tabF l (ts.take (k + 1)) = (writesL (planL x) (tabF l (ts.take k))).1 := by
  rw [List.take_add_one, h, tabF_append]; rfl
theorem T38 (w0 : World) {A B : Option Addr} {c d c' d' : Nat} {l : List PR} {ts : List BL} (ht : tabB l = true) (hl : l.length ≤ 10000) (hn : ts.length ≤ 10000) (htx : ∀ t ∈ ts, t.length ≤ 10000) (hM : MaxL w0) :
 Tri Tryz.prog w0 38 [.slice A l.length c, .slice B ts.length d] [Row pE 65 2 A c' l, Row bsE 9 1 B d' ts] fun v m => ∃ C e e', v = .slice C (tabF l ts).length e ∧ m = [Row pE 65 2 C e' (tabF l ts), Row bsE 9 1 B d' ts] := by
 refine tri_k Tryz.func38 rfl rfl fun F => ?_
 simp only [Tryz.ntmps38, argEnv, List.cons_append, List.nil_append]
 refine zH fun zq zQ => ?_
 refine zC 14 rfl ?_
 refine at_loopK [10, 11, 12, 6, 14, 15, 16, 17, 13, 18, 19, 0, 20, 9] (fun i : Nat × Option Addr × Nat × Nat => i.1 ≤ ts.length) (fun i => [(9, .int .i64 (i.1 : Nat)), (0, .slice i.2.1 (tabF l (ts.take i.1)).length i.2.2.1)]) (fun i q => setAt 0 (Row pE 65 2 i.2.1 i.2.2.2 (tabF l (ts.take i.1))) q) (fun i => ts.length - i.1) (0, A, c, c') (Nat.zero_le _) ⟨rfl, rfl, trivial⟩ (fun _ s => s) ?_
 rintro ⟨k, C, e, e'⟩ hk
 simp only [setAt] at hk ⊢
 have hlen := tabF_len (ts.take k) l
 have htb := tabF_tab (ts := ts.take k) ht
 rw [List.length_take] at hlen
 rcases Nat.lt_or_ge k ts.length with hlt | hge
 ·have hi1 : decide ((k : Int) < ts.length) = true := decide_eq_true (by omega)
  obtain ⟨x, hget⟩ : ∃ x, ts[k]? = some x := ⟨_, List.getElem?_eq_getElem hlt⟩
  have hxl := htx x (List.mem_of_getElem? hget)
  have hsu := tabF_succ l hget
  have hO := T37 w0 x (by omega) hM
  unfold planV at hO
  have hW {A : Option Addr} {c c' : Nat} := T61a w0 (planL x) (A := A) (c := c) (c' := c') (l := tabF l (ts.take k)) htb (by omega)
  rw [← hsu] at hW
  refine zC 6 rfl ?_
  refine zcT rfl (decide_eq_true (by omega)) ?_
  refine zC 6 rfl ?_
  refine zV (ov_indexRd (fun _ s => s.rd (k := 1) rfl) rfl Tryz.underlying22 rfl rfl rfl hget) ?_
  refine zV (ov_loadRd0 (fun _ s => s.rd (k := 1) rfl) rfl rfl rfl hget rfl) ?_
  refine zO 5 rfl ?_
  refine zcall [] rfl rfl rfl Tryz.call37 rfl (hO ) rfl ?_
  simp only [zca, zna, splice, spliceL]
  refine zO 1 rfl ?_
  refine zT (ot_call (ks := [0]) rfl rfl rfl Tryz.call61 rfl (hW ) rfl) ?_
  rintro v0 _ ⟨m0, hp0, rfl⟩
  obtain ⟨B0, hp0⟩ := hp0
  obtain ⟨e0, hp0⟩ := hp0
  obtain ⟨rfl, rfl⟩ := hp0
  simp only [zca, zna, splice, spliceL]
  refine zO 8 rfl ?_
  refine zV zI ?_
  refine zOR 3 rfl ?_
  refine at_roundF (k + 1, B0, e0, e0) hlt (by simp only; omega) ⟨rfl, rfl, trivial⟩ rfl ?_
  simp only [setAt]
  exact zE [0, 1] [0]
 ·have hi1 : decide ((k : Int) < ts.length) = false := decide_eq_false (by omega)
  rw [List.take_of_length_le hge] at htb hlen ⊢
  refine zC 6 rfl ?_
  refine zcF rfl (decide_eq_false (by omega)) ?_
  refine zC 12 rfl ?_
  refine zQ ?_
  refine at_end ?_
  refine at_fin (rsV rfl (res_tmp rfl)) ?_
  refine ⟨_, ⟨C, e, e', rfl, rfl⟩, ?_⟩
  exact zE [0, 0] []
/-- Table, over the cells and the log alone. -/
theorem tableRaw (w0 : World) {g : Nat} {s : ND} {A : Option Addr} {c mb cg : Nat} (hs : NOk s) (hM : MaxL w0) : Tri Tryz.prog w0 26 [ptrTo g] [NC g s A c mb cg, Row enE 73 2 A c s.lg] fun v m => ∃ B e e', v = .slice B (tabN s).length e ∧ m = [NC g s A c mb cg, Row enE 73 2 A c s.lg, Row pE 65 2 B e' (tabN s)] := by
 refine tri_k Tryz.func26 rfl rfl fun F => ?_
 simp only [Tryz.ntmps26, argEnv, List.cons_append, List.nil_append]
 refine zH fun zq zQ => ?_
 refine zCM [(0,_,_,_)] ⟨rfl,trivial⟩ [0] 22 rfl ?_
 refine at_rowNil pE 65 2 ?_
 have hlg := hs.len
 refine at_loopK [12, 13, 14, 5, 15, 16, 17, 18, 19, 3, 20, 11] (fun i : Nat × Option Addr × Nat × Nat => i.1 ≤ s.lg.length) (fun i => [(11, .int .i64 (i.1 : Nat)), (3, .slice i.2.1 (tabF [] ((s.lg.take i.1).map (·.2))).length i.2.2.1)]) (fun i q => setAt 0 (Row pE 65 2 i.2.1 i.2.2.2 (tabF [] ((s.lg.take i.1).map (·.2)))) q) (fun i => s.lg.length - i.1) (0, none, 0, 0) (Nat.zero_le _) ⟨rfl, rfl, trivial⟩ (fun _ s => s) ?_
 rintro ⟨k, C, e, e'⟩ hk
 simp only [setAt] at hk ⊢
 have hlen := tabF_len ((s.lg.take k).map (·.2)) []
 have htb := tabF_tab (ts := (s.lg.take k).map (·.2)) (l := []) rfl
 rw [List.length_map, List.length_take] at hlen
 simp only [List.length_nil] at hlen
 rcases Nat.lt_or_ge k s.lg.length with hlt | hge
 ·have hi1 : decide ((k : Int) < s.lg.length) = true := decide_eq_true (by omega)
  obtain ⟨x, hget⟩ : ∃ x, s.lg[k]? = some x := ⟨_, List.getElem?_eq_getElem hlt⟩
  have hxl := hs.tx x (List.mem_of_getElem? hget)
  have hsu : tabF [] ((s.lg.take (k + 1)).map (·.2)) = tabF (tabF [] ((s.lg.take k).map (·.2))) [x.2] := by rw [List.take_add_one, hget, ← tabF_append]; simp
  have hB {A B : Option Addr} {c d c' d' : Nat} := T38 w0 (A := A) (B := B) (c := c) (d := d) (c' := c') (d' := d') (l := tabF [] ((s.lg.take k).map (·.2))) (ts := [x.2]) htb (by omega) (by simp) (by intro t ht; simp at ht; subst ht; omega) hM
  rw [← hsu] at hB
  refine zC 6 rfl ?_
  refine zcT rfl (decide_eq_true (by omega)) ?_
  refine zC 6 rfl ?_
  refine zV (ov_indexRd (fun _ s => s.rd (k := 2) rfl) rfl Tryz.underlying43 rfl rfl rfl hget) ?_
  refine zV (ov_loadRdS (vs := [_, _]) (fun _ s => s.rd (k := 2) rfl) rfl rfl rfl hget rfl rfl) ?_
  refine zA Tryz.zeroValue73 fun g0 => ?_
  refine zS 0 ?_
  simp only [setAt, splice, spliceL, Value.cells]
  refine zOM [(0,_,_,_)] ⟨rfl,trivial⟩ [0] 6 rfl ?_
  refine zT (ot_buildSlice (cs := [_]) rfl Tryz.underlying22 rfl rfl rfl rfl rfl rfl) ?_
  rintro _ _ ⟨g1, rfl, rfl⟩
  refine at_rowOf bsE 0 (size := 1) (c := 1) [x.2] rfl (fun _ _ => rfl) (Nat.le_refl _) (by decide) (Nat.le_refl _) rfl ?_
  simp only [setAt]
  refine at_reval 18 (.slice (some ⟨g1, 0, none⟩) ([x.2] : List BL).length 1) rfl rfl ?_
  refine zT (ot_call (ks := [2, 0]) rfl rfl rfl Tryz.call38 rfl (hB ) rfl) ?_
  rintro v0 _ ⟨m0, hp0, rfl⟩
  obtain ⟨C0, hp0⟩ := hp0
  obtain ⟨e0, hp0⟩ := hp0
  obtain ⟨e'0, hp0⟩ := hp0
  obtain ⟨rfl, rfl⟩ := hp0
  simp only [zca, zna, splice, spliceL]
  refine zO 5 rfl ?_
  refine zV zI ?_
  refine zOR 3 rfl ?_
  refine at_roundF (k + 1, C0, e0, e'0) hlt (by simp only; omega) ⟨rfl, rfl, trivial⟩ rfl ?_
  simp only [setAt]
  exact zE [0, 2, 2] [0, 0]
 ·have hi1 : decide ((k : Int) < s.lg.length) = false := decide_eq_false (by omega)
  rw [List.take_of_length_le hge] at htb hlen ⊢
  have htn : tabF [] (s.lg.map (·.2)) = tabN s := rfl
  try rw [htn]
  refine zC 6 rfl ?_
  refine zcF rfl (decide_eq_false (by omega)) ?_
  refine zC 12 rfl ?_
  refine zQ ?_
  refine at_end ?_
  refine at_fin (rsV rfl (res_tmp rfl)) ?_
  refine ⟨_, ⟨C, e, e', rfl, rfl⟩, ?_⟩
  exact zE [1, 1, 0] []
/-- What asks for the cells and the log alone, over a node. -/
theorem tri_node {w0 : World} {f : FuncId} {args : List Value} {g : Nat} {s : ND} {Q : Value → List HP → Prop} (h : ∀ A c mb cg, Tri Tryz.prog w0 f args [NC g s A c mb cg, Row enE 73 2 A c s.lg] fun v m => ∃ m', Q v m' ∧ m = NC g s A c mb cg :: Row enE 73 2 A c s.lg :: m') :
    Tri Tryz.prog w0 f args [NodeA g s] fun v m => ∃ m', Q v m' ∧ m = NodeA g s :: m' := fun F w s' => by
  obtain ⟨A, s2⟩ := (show Sat w0 w (NodeA g s :: F) from s').ex
  obtain ⟨c, s3⟩ := s2.ex
  obtain ⟨mb, s4⟩ := s3.ex
  obtain ⟨cg, s5⟩ := s4.ex
  refine (h A c mb cg (OpenA mb s.op :: Cl cg :: F) w s5.open_).mono ?_
  rintro e w' ⟨v, m, rfl, ⟨m', hq, rfl⟩, k⟩
  refine ⟨v, _, rfl, ⟨m', hq, rfl⟩, ?_⟩
  have k2 : Sat w0 w' ([NC g s A c mb cg, Row enE 73 2 A c s.lg, OpenA mb s.op, Cl cg] ++ (m' ++ F)) := k.perm (by
    show (NC g s A c mb cg :: Row enE 73 2 A c s.lg :: (m' ++ OpenA mb s.op :: Cl cg :: F)).Perm _
    refine ((List.perm_middle.trans ?_).cons _).cons _
    exact (List.perm_middle.cons _))
  exact k2.shut.imp fun _ ⟨p, q, h1, h2⟩ => ⟨p, q, node_mk _ h1, h2⟩
theorem T26 (w0 : World) {g : Nat} {s : ND} (hs : NOk s) (hM : MaxL w0) : Tri Tryz.prog w0 26 [ptrTo g] [NodeA g s] fun v m => ∃ B e e', v = .slice B (tabN s).length e ∧ m = [NodeA g s, Row pE 65 2 B e' (tabN s)] :=
  (tri_node (Q := fun v m' => ∃ B e e', v = .slice B (tabN s).length e ∧ m' = [Row pE 65 2 B e' (tabN s)]) fun A c mb cg => (tableRaw w0 hs hM).post fun v m ⟨B, e, e', h1, h2⟩ => ⟨_, ⟨B, e, e', h1, rfl⟩, h2⟩).post
    fun v m ⟨m', ⟨B, e, e', h1, h2⟩, h3⟩ => ⟨B, e, e', h1, by rw [h3, h2]⟩
theorem T76 (w0 : World) {g : Nat} {s : ND} {B : Option Addr} {d d' : Nat} {ts : List BL} (hs : NOk s) (hn : ts.length ≤ 10000) : Tri Tryz.prog w0 76 [ptrTo g, .slice B ts.length d] [NodeA g s, Row bsE 9 1 B d' ts] fun v m => v = .int .i64 (layN s ts).2 ∧ m = [NodeA g (layN s ts).1, Row bsE 9 1 B d' ts] := by
 refine tri_k Tryz.func76 rfl rfl fun F => ?_
 simp only [Tryz.ntmps76, argEnv, List.cons_append, List.nil_append]
 refine at_node 0 rfl fun A c mb cg => ?_
 have hlg := hs.len
 by_cases hf : 200 < s.lg.length + ts.length
 ·have hi1 : decide ((s.lg.length : Int) + ts.length > 200) = true := decide_eq_true (by omega)
  have hl : layN s ts = (s, 5) := by unfold layN; rw [if_pos hf]
  rw [hl]
  refine zH fun zq zQ => ?_
  refine zCM [(0,_,_,_)] ⟨rfl,trivial⟩ [0] 15 rfl ?_
  refine zV zI ?_
  refine zO 3 rfl ?_
  refine zcT rfl (decide_eq_true (by omega)) ?_
  refine zC 7 rfl ?_
  refine zQ ?_
  refine at_end ?_
  refine at_fold (A := NodeA g s) [0, 0, 0, 0] rfl (fun h s => node_mk (A := A) (c := c) (mb := mb) (cg := cg) h s) ?_
  refine at_fin (rsV rfl (res_tmp rfl)) ?_
  refine ⟨_, ⟨rfl, rfl⟩, ?_⟩
  exact zE [0, 0] []
 ·have hi1 : decide ((s.lg.length : Int) + ts.length > 200) = false := decide_eq_false (by omega)
  have hl : layN s ts = (⟨s.ep, s.ld, s.lg ++ ts.map (fun t => (s.ep, t)), s.op⟩, 0) := by unfold layN; rw [if_neg hf]
  rw [hl]
  refine zH fun zq zQ => ?_
  refine zCM [(0,_,_,_)] ⟨rfl,trivial⟩ [0] 15 rfl ?_
  refine zV zI ?_
  refine zO 3 rfl ?_
  refine zcF rfl (decide_eq_false (by omega)) ?_
  refine zC 11 rfl ?_
  refine at_loopK [19, 20, 21, 6, 22, 23, 24, 25, 26, 27, 28, 29, 30, 31, 32, 33, 34, 35, 36, 37, 18] (fun i : Nat × Option Addr × Nat => i.1 ≤ ts.length) (fun i => [(18, .int .i64 (i.1 : Nat))]) (fun i q => setAt 0 (cl g #[.int .u64 s.ep, .bool s.ld, .slice i.2.1 (s.lg ++ (ts.take i.1).map (fun t => (s.ep, t))).length i.2.2, .map (some mb), ptrTo cg] 81) (setAt 1 (Row enE 73 2 i.2.1 i.2.2 (s.lg ++ (ts.take i.1).map (fun t => (s.ep, t)))) q)) (fun i => ts.length - i.1) (0, A, c) (Nat.zero_le _) ⟨rfl, trivial⟩ (fun _ s => by simpa [setAt] using s) ?_
  rintro ⟨k, C, e⟩ hk
  simp only [setAt] at hk ⊢
  rcases Nat.lt_or_ge k ts.length with hlt | hge
  ·have hi2 : decide ((k : Int) < ts.length) = true := decide_eq_true (by omega)
   obtain ⟨x, hget⟩ : ∃ x, ts[k]? = some x := ⟨_, List.getElem?_eq_getElem hlt⟩
   have hsu : s.lg ++ (ts.take (k + 1)).map (fun t => (s.ep, t)) = (s.lg ++ (ts.take k).map (fun t => (s.ep, t))) ++ [(s.ep, x)] := by rw [List.take_add_one, hget]; simp
   have hlk : (s.lg ++ (ts.take k).map (fun t => (s.ep, t))).length ≤ 20000 := by simp; omega
   refine zC 6 rfl ?_
   refine zcT rfl (decide_eq_true (by omega)) ?_
   refine zC 6 rfl ?_
   refine zV (ov_indexRd (fun _ s => s.rd (k := 4) rfl) rfl Tryz.underlying22 rfl rfl rfl hget) ?_
   refine zV (ov_loadRd0 (fun _ s => s.rd (k := 4) rfl) rfl rfl rfl hget rfl) ?_
   refine zO 3 rfl ?_
   refine at_draw _ [] 15 [(2, 0), (2, 1), (2, 2), (2, 3), (1, 4), (2, 5), (2, 6), (2, 7), (1, 8), (2, 9), (2, 10), (0, 11), (0, 12), (2, 13), (2, 14), (3, 15)] (by kernel_rfl) (by kernel_rfl) (fun _ s => (s.pulls (ks := [0]) rfl).left) ?_
   refine aq_p (ov_move rfl rfl) rfl rfl rfl ?_
   refine aq_p (ov_move rfl rfl) rfl rfl rfl ?_
   refine aq_p (ov_nilCheck rfl rfl) rfl rfl rfl ?_
   refine aq_p (ov_fieldAddr (k := 2) (r := 2) rfl rfl rfl rfl) rfl rfl rfl ?_
   refine aq_v (ov_load rfl rfl rfl (fun _ s => s.ld (k := 0) rfl rfl)) rfl rfl rfl ?_
   refine aq_p (ov_move rfl rfl) rfl rfl rfl ?_
   refine aq_p (ov_nilCheck rfl rfl) rfl rfl rfl ?_
   refine aq_p (ov_fieldAddr (k := 0) (r := 0) rfl rfl rfl rfl) rfl rfl rfl ?_
   refine aq_v (ov_load rfl rfl rfl (fun _ s => s.ld (k := 0) rfl rfl)) rfl rfl rfl ?_
   refine aq_p (ov_move rfl rfl) rfl rfl rfl ?_
   refine aq_p (ov_build (cs := [_, _]) rfl rfl rfl rfl) rfl rfl rfl ?_
   refine aq_t (ot_buildSlice (cs := [_, _]) rfl Tryz.underlying43 rfl rfl rfl rfl rfl rfl) rfl rfl rfl ?_
   rintro _ _ ⟨g0, rfl, rfl⟩
   refine ⟨fun _ s => (s.pulls (ks := [1]) rfl).left, ?_⟩
   refine aq_t (ot_append (k := 2) (size := 2) (bytes := 24) (ys := [(s.ep, x)]) (fun _ s => s.rdPt (k := 0) rfl rfl (by simp [enE])) rfl Tryz.underlying43 (ti := Tryz.t73) rfl rfl rfl rfl rfl (by decide) rfl rfl rfl (by simp [enE, Value.oneCell']) (by simp; omega) (by decide)) rfl rfl rfl ?_
   rintro _ _ ⟨A0, c0, rfl, rfl⟩
   simp only [setAt]
   refine ⟨fun _ s => (s.pulls (ks := [1]) rfl).left, ?_⟩
   try rw [← hsu]
   refine aq_p (ov_nilCheck rfl rfl) rfl rfl rfl ?_
   refine aq_p (ov_fieldAddr (k := 2) (r := 2) rfl rfl rfl rfl) rfl rfl rfl ?_
   refine aq_b0 (ot_store (k := 1) rfl rfl rfl rfl rfl rfl rfl) rfl rfl ?_
   rintro _ _ ⟨rfl, rfl⟩
   simp only [setAt, splice, spliceL, Value.cells]
   refine ⟨fun _ s => (s.pulls (ks := []) rfl).left, ?_⟩
   refine aq_nil ?_
   refine zX 3 rfl ?_
   refine zV zI ?_
   refine zOR 3 rfl ?_
   refine at_roundF (k + 1, A0, c0) hlt (by simp only; omega) ⟨rfl, trivial⟩ rfl ?_
   simp only [setAt]
   exact zE [1, 1, 1, 1, 1] [0]
  ·have hi2 : decide ((k : Int) < ts.length) = false := decide_eq_false (by omega)
   try rw [List.take_of_length_le hge]
   refine zC 6 rfl ?_
   refine zcF rfl (decide_eq_false (by omega)) ?_
   refine zC 11 rfl ?_
   refine zQ ?_
   refine at_end ?_
   refine at_fold (A := NodeA g ⟨s.ep, s.ld, s.lg ++ ts.map (fun t => (s.ep, t)), s.op⟩) [0, 0, 0, 0] rfl (fun h s => node_mk (A := C) (c := e) (mb := mb) (cg := cg) h s) ?_
   refine at_fin (rsV rfl (res_tmp rfl)) ?_
   refine ⟨_, ⟨rfl, rfl⟩, ?_⟩
   exact zE [0, 0] []
end Go.Proofs.YtighdkdomfpadaaGreatDoor
