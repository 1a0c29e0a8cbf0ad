/- The statement NodeDoes, walked. -/
import Derived.Test.YtighdkdomfpadaaGreatDoorProg
import Derived.Test.YtighdkdomfpadaaGreatDoorFences
import Derived.Test.YtighdkdomfpadaaGreatDoorRNodeB
import Derived.Test.YtighdkdomfpadaaGreatDoorSLB
import Derived.KernelRfl
set_option linter.unusedSimpArgs false
set_option linter.unusedVariables false
set_option maxRecDepth 100000
set_option maxHeartbeats 4000000
namespace Go.Proofs.YtighdkdomfpadaaGreatDoor
open Go Go.Proofs.YtighdkdomfpadaaGreatDoor.SL Go.RowKit
theorem alike_self (a : RP) : alikeR a a = true := by unfold alikeR; simp
theorem reads_len20 (p : PM) (l : List PR) : (readsL p l).length ≤ 20 := by
  unfold readsL
  split
  · split
    · split <;> simp
    · simp
  · split
    · rw [List.length_take]; omega
    · simp
theorem run_tx (s : ND) (k e : Int) (rd : Bool) (t : BL) : (runN s k e rd t).2.tx.length ≤ 20 := by
  unfold runN
  split
  · simp
  · split
    · exact reads_len20 _ _
    · simp
theorem do_tx (ss : List ND) (x : AC) : (doL ss x).2.r.tx.length ≤ 20 := by
  unfold doL
  split
  · simp [rp0]
  · split
    · exact run_tx _ _ _ _ _
    · split
      · simp [rp0]
      · split
        · simp [rp0]
        · split <;> simp [rp0]
theorem lay_op (s : ND) (ts : List BL) : (layN s ts).1.op = s.op := by unfold layN; split <;> rfl
theorem do_oplen (s : ND) (k is : Int) (t : BL) : (doN s k is t).1.op.length ≤ s.op.length + 1 := by
  have her : ∀ j, (s.op.eraseIdx j).length ≤ s.op.length := fun j => by rw [List.length_eraseIdx]; split <;> omega
  unfold doN
  split
  · split <;> simp
  · split
    · split
      · rw [lay_op]; have := her; exact Nat.le_succ_of_le (her _)
      · simp
    · split
      · split
        · exact Nat.le_succ_of_le (her _)
        · simp
      · split
        · split
          · split <;> simp
          · rw [lay_op]; simp
        · simp
theorem do_op {ss : List ND} {x : AC} {n : Nat} (h : ∀ s ∈ ss, s.op.length ≤ n) : ∀ s ∈ (doL ss x).1, s.op.length ≤ n + 1 := by
  have key : ∀ (i : Nat) (s' : ND), s'.op.length ≤ n + 1 → ∀ s ∈ ss.set i s', s.op.length ≤ n + 1 := fun i s' h' s hs => by
    rcases List.mem_or_eq_of_mem_set hs with hs | rfl
    · exact Nat.le_succ_of_le (h s hs)
    · exact h'
  have h' : ∀ s ∈ ss, s.op.length ≤ n + 1 := fun s hs => Nat.le_succ_of_le (h s hs)
  unfold doL
  cases hs : ss[ofI x.nd]? with
  | none => exact h'
  | some s =>
    have hns := h s (List.mem_of_getElem? hs);simp only
    split
    · refine key _ _ ?_
      unfold runN
      split
      · simp only; omega
      · split
        · simp only; omega
        · have := do_oplen s x.cn (classL x.tx) x.tx; simp only; omega
    · split
      · refine key _ _ ?_
        unfold closeN
        split
        · rename_i j _
          have : (s.op.eraseIdx j).length ≤ s.op.length := by rw [List.length_eraseIdx]; split <;> omega
          exact Nat.le_succ_of_le (Nat.le_trans this hns)
        · exact Nat.le_succ_of_le hns
      · split
        · refine key _ _ ?_
          unfold leadN
          split
          · exact Nat.le_succ_of_le hns
          · simp
        · cases hf : ss[ofI x.fr]? with
          | none => exact h'
          | some f =>
            refine key _ _ ?_
            unfold copyN
            split
            · exact Nat.le_succ_of_le hns
            · split
              · simp
              · exact Nat.le_succ_of_le hns
theorem T4 (w0 : World) {A : Option Addr} {c : Nat} {l : List AC} (hr : Rd acE w0 8 A l) (hl : l.length ≤ 4000000000000) (hep : ∀ x ∈ l, 0 ≤ x.ep ∧ x.ep < 18446744073709551616) (hM : MaxL w0) :
 Tri Tryz.prog w0 4 [.slice A l.length c] [] fun v m => v = .bool true ∧ m = [] := by
 refine tri_k Tryz.func4 rfl rfl fun F => ?_;simp only [Tryz.ntmps4, argEnv, List.cons_append, List.nil_append];have hLg := T20 w0 (c := c) hr hl
 cases hlg : largeL l with
 | true =>
  rw [hlg] at hLg;refine zH fun zq zQ => ?_;refine zC 8 rfl ?_;refine zcall [] rfl rfl rfl Tryz.call8 rfl (T8 _ (by first | assumption | rfl | omega | decide | (simp; done) | (simp at *; omega))) rfl ?_;simp only [zca, zna, splice, spliceL];refine zO 10 rfl ?_;refine zcall [] rfl rfl rfl Tryz.call20 rfl (hLg ) rfl ?_;simp only [zca, zna, splice, spliceL];refine zO 10 rfl ?_;refine zQ ?_;refine at_end ?_;refine zfin ?_;refine ⟨_, ⟨rfl, rfl⟩, ?_⟩;exact zE [] []
 | false =>
 rw [hlg] at hLg;obtain ⟨hl60, htx⟩ := large_no hlg;refine zH fun zq zQ => ?_;refine zC 8 rfl ?_;refine zcall [] rfl rfl rfl Tryz.call8 rfl (T8 _ (by first | assumption | rfl | omega | decide | (simp; done) | (simp at *; omega))) rfl ?_;simp only [zca, zna, splice, spliceL];refine zO 10 rfl ?_;refine zcall [] rfl rfl rfl Tryz.call20 rfl (hLg ) rfl ?_;simp only [zca, zna, splice, spliceL];refine zO 7 rfl ?_;refine zT (ot_call (ks := []) rfl rfl rfl Tryz.call21 rfl (T21 _) rfl) ?_;rintro v0 _ ⟨m0, hp0, rfl⟩;obtain ⟨A0, hp0⟩ := hp0;obtain ⟨c0, hp0⟩ := hp0;obtain ⟨g00, hp0⟩ := hp0;obtain ⟨g10, hp0⟩ := hp0;obtain ⟨g20, hp0⟩ := hp0;obtain ⟨rfl, rfl⟩ := hp0;simp only [zca, zna, splice, spliceL];refine zT (ot_call (ks := []) rfl rfl rfl Tryz.call22 rfl (T22 _) rfl) ?_;rintro v0 _ ⟨m0, hp0, rfl⟩;obtain ⟨g0, hp0⟩ := hp0;obtain ⟨rfl, rfl⟩ := hp0;simp only [zca, zna, splice, spliceL];refine zT (ot_call (ks := []) rfl rfl rfl Tryz.call22 rfl (T22 _) rfl) ?_;rintro v0 _ ⟨m0, hp0, rfl⟩;obtain ⟨g1, hp0⟩ := hp0;obtain ⟨rfl, rfl⟩ := hp0;simp only [zca, zna, splice, spliceL];refine zT (ot_call (ks := []) rfl rfl rfl Tryz.call22 rfl (T22 _) rfl) ?_;rintro v0 _ ⟨m0, hp0, rfl⟩;obtain ⟨g2, hp0⟩ := hp0;obtain ⟨rfl, rfl⟩ := hp0;simp only [zca, zna, splice, spliceL];refine zT (ot_buildSlice (cs := [_, _, _]) rfl Tryz.underlying52 rfl rfl rfl rfl rfl rfl) ?_;rintro _ _ ⟨g3, rfl, rfl⟩;refine zO 13 rfl ?_;refine at_fold (A := Many RNd [g0, g1, g2] [n0, n0, n0]) [3, 2, 1] rfl (fun h s => s) ?_;refine at_rowOf gpE 1 (size := 1) (c := 3) [g0, g1, g2] rfl (fun _ _ => rfl) (Nat.le_refl _) (by decide) (Nat.le_refl _) rfl ?_;simp only [setAt];refine at_reval 4 (.slice (some ⟨g3, 0, none⟩) ([g0, g1, g2] : List Nat).length 3) rfl rfl ?_;obtain ⟨ga, hga⟩ : ∃ gs, gs = [g00, g10, g20] := ⟨_, rfl⟩;obtain ⟨gb, hgb⟩ : ∃ gs, gs = [g0, g1, g2] := ⟨_, rfl⟩;have ha3 : ga.length = 3 := by rw [hga]; rfl
 have hb3 : gb.length = 3 := by rw [hgb]; rfl
 try rw [← hga]
 try rw [← hgb]
 have h3 : [n0, n0, n0].length = 3 ∧ (∀ s ∈ [n0, n0, n0], NOk s) ∧ ∀ s ∈ [n0, n0, n0], s.op.length ≤ 0 := ⟨rfl, fun s hs => by simp at hs; rw [hs]; exact NOk.new, fun s hs => by simp at hs; rw [hs]; exact Nat.le_refl _⟩;refine at_loopK [26, 27, 28, 6, 29, 30, 31, 32, 33, 34, 7, 8, 35, 36, 37, 38, 39, 40, 41, 42, 43, 44, 45, 46, 47, 48, 49, 50, 51, 52, 53, 54, 2, 55, 56, 57, 58, 59, 60, 61, 62, 63, 64, 65, 66, 9, 10, 67, 11, 68, 69, 70, 71, 72, 73, 74, 13, 75, 76, 77, 78, 79, 80, 81, 82, 83, 84, 85, 86, 87, 88, 89, 90, 91, 92, 93, 94, 95, 96, 97, 98, 99, 100, 101, 102, 103, 104, 105, 106, 107, 108, 109, 110, 111, 112, 113, 114, 25] (fun i : Nat × List ND => i.1 ≤ l.length ∧ i.2.length = 3 ∧ (∀ s ∈ i.2, NOk s) ∧ ∀ s ∈ i.2, s.op.length ≤ i.1) (fun i => [(25, .int .i64 (i.1 : Nat))]) (fun i q => setAt 0 (Many RNd gb i.2) (setAt 3 (Many NodeA ga i.2) q)) (fun i => l.length - i.1) (0, [n0, n0, n0]) ⟨Nat.zero_le _, h3⟩ ⟨rfl, trivial⟩ (fun _ s => s) ?_;rintro ⟨k, ss⟩ ⟨hk, hs3, hok, hop⟩;simp only [setAt] at hk hs3 hok hop ⊢
 rcases Nat.lt_or_ge k l.length with hlt | hge
 rotate_left
 ·have hi1 : decide ((k : Int) < l.length) = false := decide_eq_false (by omega);refine zC 6 rfl ?_;refine zg ?_;refine zC 11 rfl ?_;refine zQ ?_;refine at_end ?_;refine zfin ?_;refine ⟨_, ⟨rfl, rfl⟩, ?_⟩;exact zE [] [0, 0, 0, 0]
 have hi1 : decide ((k : Int) < l.length) = true := decide_eq_true (by omega);obtain ⟨x, hget⟩ : ∃ x, l[k]? = some x := ⟨_, List.getElem?_eq_getElem hlt⟩;have hxm := List.mem_of_getElem? hget;have hxt := htx x hxm;have hxe := hep x hxm;obtain ⟨hd3, hdok⟩ := do_ok hok hxe.1 hxe.2 hxt;have hdop := do_op (x := x) hop;rw [hs3] at hd3;have hop2 : ∀ s ∈ ss, s.op.length ≤ 1000 := fun s hs => Nat.le_trans (hop s hs) (by omega);have hDa {c c' : Nat} {A : Option Addr} := T23 w0 (A := A) (c := c) (c' := c') x ha3 hs3 hok hxt hM;have hDb {c c' : Nat} {A : Option Addr} := T24 w0 (A := A) (c := c) (c' := c') x hb3 hs3 hok hop2 hxt;have hi := (ofI_lt x.nd).1;obtain ⟨i, hid⟩ : ∃ i, i = ofI x.nd := ⟨_, rfl⟩;have hO := T15 w0 x.nd;rw [← hid] at hO hi;obtain ⟨g, hgi⟩ : ∃ g, ga[i]? = some g := ⟨_, List.getElem?_eq_getElem (by omega)⟩;obtain ⟨h, hhi⟩ : ∃ h, gb[i]? = some h := ⟨_, List.getElem?_eq_getElem (by omega)⟩;refine zC 6 rfl ?_;refine zu ?_;refine zC 6 rfl ?_;refine zV (ov_indexRd (fun _ s => hr.up s) rfl Tryz.underlying46 rfl rfl rfl hget) ?_;refine zV (ov_loadRdS (vs := [_, _, _, _, _, _, _, _]) (fun _ s => hr.up s) rfl rfl rfl hget rfl rfl) ?_;refine zA Tryz.zeroValue54 fun g4 => ?_;refine zS 0 ?_;simp only [setAt, splice, spliceL, Value.cells];refine zO 3 rfl ?_;refine at_pulls [2, 1, 1, 1, 0] rfl ?_;simp only [zca, zna];obtain ⟨tt, htd⟩ : ∃ t, t = (doL ss x).2 := ⟨_, rfl⟩;have htx2 := do_tx ss x;rw [← htd] at htx2 hDa hDb;obtain ⟨sn, hsn⟩ : ∃ t, t = (doL ss x).1 := ⟨_, rfl⟩;rw [← hsn] at hDa hDb hd3 hdok hdop
 refine at_two2 (α := Option Addr × Nat) (β := Option Addr × Nat) (none, 0) (none, 0) (fun a => tdV tt a.1 a.2) (fun _ b => tdV tt b.1 b.2)
   [_, _, _, _] (fun a => [Row gpE 24 1 A0 c0 ga, Many NodeA ga sn, Row bsE 9 1 a.1 a.2 tt.r.tx, Row gpE 50 1 (some ⟨g3, 0, none⟩) 3 gb, Many RNd gb ss])
   (fun a b => [Row gpE 50 1 (some ⟨g3, 0, none⟩) 3 gb, Many RNd gb sn, Row bsE 9 1 b.1 b.2 tt.r.tx, Row gpE 24 1 A0 c0 ga, Many NodeA ga sn, Row bsE 9 1 a.1 a.2 tt.r.tx])
   [cl g4 _ _] 29 30 31 32 33 34 7 8 57 (v0 := .slice A0 ga.length c0) (v1 := .agg #[.int .i64 x.do_, .int .i64 x.nd, .int .i64 x.fr, .int .i64 x.cn, .int .i64 x.mn, .int .u64 x.ep, .bool x.rd, SV x.tx]) (v3 := .slice (some ⟨g3, 0, none⟩) gb.length 3) (v4 := .agg #[.int .i64 x.do_, .int .i64 x.nd, .int .i64 x.fr, .int .i64 x.cn, .int .i64 x.mn, .int .u64 x.ep, .bool x.rd, SV x.tx]) ?a1 ?a2 ?a3 ?a4 ?a5 ?a6 ?a7 rfl rfl rfl rfl (ov_move rfl rfl) (ov_loadS (cs := [_, _, _, _, _, _, _, _]) rfl rfl rfl rfl (fun _ s => s.lds (k := 0) rfl ⟨rfl, rfl, rfl, rfl, rfl, rfl, rfl, rfl, trivial⟩)) (ov_move rfl rfl) (ov_loadS (cs := [_, _, _, _, _, _, _, _]) rfl rfl rfl rfl (fun _ s => s.lds (k := 0) rfl ⟨rfl, rfl, rfl, rfl, rfl, rfl, rfl, rfl, trivial⟩)) Tryz.zeroValue57 ?h2 ?h5 ?hf ?hg ?hK
 case a1 => kernel_rfl
 case a2 => kernel_rfl
 case a3 => kernel_rfl
 case a4 => kernel_rfl
 case a5 => rfl
 case a6 => kernel_rfl
 case a7 => kernel_rfl
 case h2 =>
  intro R;refine OpT.post (Post := fun v l' => ∃ m, (∃ B b, v = tdV tt B b ∧ m = [Row gpE 24 1 A0 c0 ga, Many NodeA ga sn, Row bsE 9 1 B b tt.r.tx]) ∧ l' = m ++ (Row gpE 50 1 (some ⟨g3, 0, none⟩) 3 gb :: Many RNd gb ss :: R)) ?_ ?_
  ·exact ot_call (ks := [2, 2]) rfl rfl rfl Tryz.call23 rfl hDa rfl
  ·rintro v m ⟨m0, ⟨B, b, hv, hm⟩, hq⟩;exact ⟨_, ⟨(B, b), hv, rfl⟩, fun w s => by rw [hq, hm] at s; exact s⟩
 case h5 =>
  intro a R;refine OpT.post (Post := fun v l' => ∃ m, (∃ B b, v = tdV tt B b ∧ m = [Row gpE 50 1 (some ⟨g3, 0, none⟩) 3 gb, Many RNd gb sn, Row bsE 9 1 B b tt.r.tx]) ∧ l' = m ++ (Row gpE 24 1 A0 c0 ga :: Many NodeA ga sn :: Row bsE 9 1 a.1 a.2 tt.r.tx :: R)) ?_ ?_
  ·exact ot_call (ks := [3, 3]) rfl rfl rfl Tryz.call24 rfl hDb rfl
  ·rintro v m ⟨m0, ⟨B, b, hv, hm⟩, hq⟩;exact ⟨_, ⟨(B, b), hv, rfl⟩, fun w s => by rw [hq, hm] at s; exact s⟩
 case hf => exact (fun a => ⟨rfl, rfl, rfl⟩)
 case hg => exact (fun a b => ⟨rfl, rfl, rfl⟩)
 case hK =>
  rintro ⟨B0, b0⟩ ⟨B1, b1⟩ g6 g7
  change At _ _ _ _ _ (cl g6 #[.int .i64 tt.r.er, .int .u64 tt.r.ep, .int .u64 tt.r.pl, .slice B0 tt.r.tx.length b0, .bool tt.is, .int .i64 tt.mn] 57 :: cl g7 #[.int .i64 tt.r.er, .int .u64 tt.r.ep, .int .u64 tt.r.pl, .slice B1 tt.r.tx.length b1, .bool tt.is, .int .i64 tt.mn] 57 :: _)
  simp only [zca, zna];have hAl {A B : Option Addr} {c d : Nat} := T25 w0 (A := A) (B := B) (c := c) (d := d) tt.r tt.r (by omega) (by omega);rw [alike_self] at hAl;have hq1 : (tt.is == tt.is) = true := by simp
  have hq2 : (!decide (tt.mn = tt.mn)) = false := by simp
  refine zXM [(0,_,_,_),(1,_,_,_)] ⟨rfl,rfl,trivial⟩ [0,1] 8 rfl ?_;refine zcall [7, 4] rfl rfl rfl Tryz.call25 rfl (hAl ) rfl ?_;simp only [zca, zna, splice, spliceL];refine zOM [(2,_,_,_),(3,_,_,_)] ⟨rfl,rfl,trivial⟩ [0,1] 6 rfl ?_;refine at_wanted (j := 6) rfl ?_;refine zV (ov_boolne rfl Tryz.underlying4 rfl rfl) ?_;refine zO 2 rfl ?_;refine zrF 48 rfl (by simp; done) ?_;refine zOM [(2,_,_,_),(3,_,_,_)] ⟨rfl,rfl,trivial⟩ [0,1] 8 rfl ?_;refine zf ?_;refine zC 3 rfl ?_;refine at_draw _ [] 1000 [(2, 0), (2, 1), (1, 2), (2, 6), (2, 7), (1, 8), (0, 3), (1, 4), (1, 5), (0, 9), (1, 10), (1, 11), (2, 12), (2, 13)] (by kernel_rfl) (by kernel_rfl) (fun _ s => (s.pulls (ks := [0, 0, 0, 0, 0, 0, 0, 0, 0]) rfl).left) ?_;refine qM ?_;refine qF 1 1 ?_;refine qL 8 ?_;refine qM ?_;refine qF 1 1 ?_;refine qL 8 ?_;refine aq_t (ot_call (ks := []) rfl rfl rfl Tryz.call15 rfl (hO ) rfl) rfl rfl rfl ?_;rintro _ _ ⟨_, ⟨rfl, rfl⟩, rfl⟩;simp only [zca, zna, splice, spliceL];refine ⟨fun _ s => (s.pulls (ks := [0, 0, 0, 0, 0, 0, 0, 0, 0]) rfl).left, ?_⟩;refine qV (ov_indexRd (fun _ s => s.rd (k := 6) rfl) rfl Tryz.underlying48 rfl rfl rfl hgi) ?_;refine qV (ov_loadRd0 (fun _ s => s.rd (k := 6) rfl) rfl rfl rfl hgi rfl) ?_;refine aq_t (ot_call (ks := []) rfl rfl rfl Tryz.call15 rfl (hO ) rfl) rfl rfl rfl ?_;rintro _ _ ⟨_, ⟨rfl, rfl⟩, rfl⟩;simp only [zca, zna, splice, spliceL];refine ⟨fun _ s => (s.pulls (ks := [0, 0, 0, 0, 0, 0, 0, 0, 0]) rfl).left, ?_⟩;refine qV (ov_indexRd (fun _ s => s.rd (k := 4) rfl) rfl Tryz.underlying52 rfl rfl rfl hhi) ?_;refine qV (ov_loadRd0 (fun _ s => s.rd (k := 4) rfl) rfl rfl rfl hhi rfl) ?_;refine qP (ov_assign rfl rfl) ?_;refine qP (ov_assign rfl rfl) ?_;refine aq_nil ?_;refine zX 3 rfl ?_;refine zT (ot_buildSlice (cs := []) rfl Tryz.underlying61 rfl rfl rfl rfl rfl rfl) ?_;rintro _ _ ⟨g5, rfl, rfl⟩;refine zO 7 rfl ?_;obtain ⟨s, hsi⟩ : ∃ s, sn[i]? = some s := ⟨_, List.getElem?_eq_getElem (by omega)⟩;have hns := hdok s (List.mem_of_getElem? hsi);have hlen := hns.len;refine at_many 8 i hgi hsi rfl ?_;refine at_many 8 i hhi hsi rfl ?_;have hT := T26 w0 (g := g) hns hM;obtain ⟨T, hTd⟩ : ∃ T, T = tabN s := ⟨_, rfl⟩;have hTl : T.length ≤ 200 := by have := tabN_len s; rw [hTd]; omega
  rw [← hTd] at hT;refine zT (ot_call (ks := [2]) rfl rfl rfl Tryz.call26 rfl (hT ) rfl) ?_;rintro v0 _ ⟨m0, hp0, rfl⟩;obtain ⟨B2, hp0⟩ := hp0;obtain ⟨e0, hp0⟩ := hp0;obtain ⟨e'0, hp0⟩ := hp0;obtain ⟨rfl, rfl⟩ := hp0;simp only [zca, zna, splice, spliceL];refine zO 5 rfl ?_;refine at_rowOf pE 5 (size := 2) (c := 0) [] rfl (by simp) (Nat.le_refl _) (by decide) (by simp) (by simp) ?_;simp only [setAt];refine at_loopK [72, 73, 74, 13, 75, 76, 77, 78, 11, 79, 71] (fun i : Nat × Option Addr × Nat => i.1 ≤ T.length) (fun i => [(71, .int .i64 (i.1 : Nat)), (11, .slice i.2.1 (T.take i.1).length i.2.2)]) (fun i q => setAt 5 (Row pE 66 2 i.2.1 i.2.2 (T.take i.1)) q) (fun i => T.length - i.1) (0, some ⟨g5, 0, none⟩, 0) (Nat.zero_le _) ⟨rfl, rfl, trivial⟩ (fun _ s => s) ?_;rintro ⟨q, E, e⟩ hq;simp only [setAt] at hq ⊢;have htk : (T.take q).length ≤ 200 := by rw [List.length_take]; omega
  rcases Nat.lt_or_ge q T.length with hlt2 | hge2
  ·have hj1 : decide ((q : Int) < T.length) = true := decide_eq_true (by omega);obtain ⟨y, hgy⟩ : ∃ y, T[q]? = some y := ⟨_, List.getElem?_eq_getElem hlt2⟩;have hsu : T.take q ++ [y] = T.take (q + 1) := by rw [List.take_add_one, hgy]; rfl
   refine zC 6 rfl ?_;refine zu ?_;refine zC 6 rfl ?_;refine zV (ov_indexRd (fun _ s => s.rd (k := 1) rfl) rfl Tryz.underlying62 rfl rfl rfl hgy) ?_;refine zV (ov_loadRdS (vs := [_, _]) (fun _ s => s.rd (k := 1) rfl) rfl rfl rfl hgy rfl rfl) ?_;refine zA Tryz.zeroValue65 fun g8 => ?_;refine zS 0 ?_;simp only [setAt, splice, spliceL, Value.cells];refine zOM [(0,_,_,_)] ⟨rfl,trivial⟩ [0] 5 rfl ?_;refine zT (ot_buildSlice (cs := [_, _]) rfl Tryz.underlying61 rfl rfl rfl rfl rfl rfl) ?_;rintro _ _ ⟨g9, rfl, rfl⟩;refine zT (ot_append (k := 7) (size := 2) (bytes := 32) (ys := [y]) (fun _ s => s.rdPt (k := 0) rfl rfl (by simp [pE])) rfl Tryz.underlying61 (ti := Tryz.t66) rfl rfl rfl rfl rfl (by decide) rfl rfl rfl (by simp [pE, Value.oneCell']) (by simp; omega) (by decide)) ?_;rintro _ _ ⟨A1, c1, rfl, rfl⟩;simp only [setAt]
   try rw [hsu]
   refine zO 5 rfl ?_;refine zV zI ?_;refine zOR 3 rfl ?_;refine at_roundF (q + 1, A1, c1) hlt2 (by simp only; omega) ⟨rfl, rfl, trivial⟩ rfl ?_;simp only [setAt];exact zE [2, 2, 2, 2, 2, 2, 2, 2, 2, 2, 2, 2, 2] [0, 0]
  have hj1 : decide ((q : Int) < T.length) = false := decide_eq_false (by omega)
  try rw [List.take_of_length_le hge2]
  have hEp := T27 w0 (g := g) (s := s);have hLe := T28 w0 (g := g) (s := s);have hLo := T19 w0 (g := g) (s := s) (by omega);have hEn {A : Option Addr} {c c' : Nat} := T18 w0 (A := A) (c := c) (c' := c') (l := s.lg) (by omega);have hS {A B : Option Addr} {c d c' d' : Nat} := same15 w0 (A := A) (B := B) (c := c) (d := d) (c' := c') (d' := d') (xs := s.lg) (ys := s.lg) (by omega) (by omega);have hS6 {A B : Option Addr} {c d c' d' : Nat} := T29 w0 (A := A) (B := B) (c := c) (d := d) (c' := c') (d' := d') (xs := T) (ys := T) (by omega) (by omega);have z1 : (!decide (s.ep = s.ep)) = false := by simp
  have z2 : (s.ld == s.ld) = true := by simp
  have z3 : decide (s.lg = s.lg) = true := decide_eq_true rfl;have z4 : decide (T = T) = true := decide_eq_true rfl;refine at_rnd 2 rfl fun A8 c8 B8 b8 L hL => ?_;refine at_rowNil bsE 9 1 ?_;have hTR := T30 w0 (g := h) (c := c8) (m := L.length) (b := b8) (d := 0) (d' := 0) (ep := s.ep) (ld := s.ld) (A := A8) (B := B8) (C := none) (lg := s.lg) (ts := []) hlen hns.tx (by simp) (by simp);rw [show tabF (tabF [] (s.lg.map (·.2))) [] = T from hTd.symm] at hTR;refine zC 6 rfl ?_;refine zg ?_;refine zC 6 rfl ?_;refine at_draw _ [] 1000 [(2, 0), (2, 2), (2, 3), (2, 4), (1, 5), (0, 1), (2, 6), (2, 7), (2, 8), (2, 10), (2, 11), (2, 12), (1, 13), (0, 9), (2, 14), (2, 15), (2, 16), (2, 17), (2, 20), (2, 21), (2, 22), (1, 23), (0, 18), (0, 19), (0, 24), (2, 25), (2, 26), (2, 27), (2, 28), (2, 29), (0, 30), (0, 31), (2, 32), (2, 33)] (by kernel_rfl) (by kernel_rfl) (fun _ s => (s.pulls (ks := [1]) rfl).left) ?_;refine qM ?_;refine qM ?_;refine qN ?_;refine qF 0 0 ?_;refine qL 0 ?_;refine aq_t (ot_call (ks := [5]) rfl rfl rfl Tryz.call27 rfl (hEp ) rfl) rfl rfl rfl ?_;rintro _ _ ⟨_, ⟨rfl, rfl⟩, rfl⟩;simp only [zca, zna, splice, spliceL];refine ⟨fun _ s => (s.pulls (ks := [2]) rfl).left, ?_⟩;refine qI ?_;refine qM ?_;refine zrf 87 ?_;refine qW 7 ?_;refine qM ?_;refine qW 7 ?_;refine qM ?_;refine qW 7 ?_;refine qN ?_;refine qW 7 ?_;refine qF 1 1 ?_;refine qW 7 ?_;refine qL 0 ?_;refine qW 7 ?_;refine aq_t (ot_call (ks := [0]) rfl rfl rfl Tryz.call28 rfl (hLe ) rfl) rfl rfl rfl ?_;rintro _ _ ⟨_, ⟨rfl, rfl⟩, rfl⟩;simp only [zca, zna, splice, spliceL];refine ⟨fun _ s => (s.pulls (ks := [2]) rfl).left, ?_⟩;refine qW 7 ?_;refine qP (ov_boolne rfl Tryz.underlying4 rfl rfl) ?_;refine qP (ov_pick_f rfl rfl rfl) ?_;refine qM ?_;refine zrF 96 rfl (by simp; done) ?_;refine qW 16 ?_;refine qM ?_;refine qW 16 ?_;refine qM ?_;refine qW 16 ?_;refine qN ?_;refine qW 16 ?_;refine qF 2 2 ?_;refine qW 16 ?_;refine qL 0 ?_;refine qW 16 ?_;refine aq_t (ot_call (ks := [0]) rfl rfl rfl Tryz.call19 rfl (hLo ) rfl) rfl rfl rfl ?_;rintro v0 _ ⟨m0, hp0, rfl⟩;obtain ⟨B3, hp0⟩ := hp0;obtain ⟨e1, hp0⟩ := hp0;obtain ⟨rfl, rfl⟩ := hp0;simp only [zca, zna, splice, spliceL];refine ⟨fun _ s => (s.pulls (ks := [3]) rfl).left, ?_⟩;refine qW 16 ?_;refine aq_t (ot_call (ks := [1]) rfl rfl rfl Tryz.call18 rfl (hEn ) rfl) rfl rfl rfl ?_;rintro v0 _ ⟨m0, hp0, rfl⟩;obtain ⟨B4, hp0⟩ := hp0;obtain ⟨e2, hp0⟩ := hp0;obtain ⟨rfl, rfl⟩ := hp0;simp only [zca, zna, splice, spliceL];refine ⟨fun _ s => (s.pulls (ks := [4]) rfl).left, ?_⟩;refine qW 16 ?_;refine aq_t (ot_call (ks := [0, 4]) rfl rfl rfl Tryz.call17 rfl (hS ) rfl) rfl rfl rfl ?_;rintro _ _ ⟨_, ⟨rfl, rfl⟩, rfl⟩;simp only [zca, zna, splice, spliceL];refine ⟨fun _ s => (s.pulls (ks := [5]) rfl).left, ?_⟩;refine qW 16 ?_;refine qP (ov_not rfl rfl) ?_;refine qP (ov_pick_f rfl rfl rfl) ?_;refine qM ?_;refine qW 27 ?_;refine qM ?_;refine qW 27 ?_;refine qM ?_;refine qW 27 ?_;refine aq_t (ot_call (ks := [5, 1, 3]) rfl rfl rfl Tryz.call30 rfl (hTR ) rfl) rfl rfl rfl ?_;rintro v0 _ ⟨m0, hp0, rfl⟩;obtain ⟨E0, hp0⟩ := hp0;obtain ⟨e3, hp0⟩ := hp0;obtain ⟨rfl, rfl⟩ := hp0;simp only [zca, zna, splice, spliceL];refine ⟨fun _ s => (s.pulls (ks := [1]) rfl).left, ?_⟩;refine qW 27 ?_;refine aq_t (ot_call (ks := [12, 0]) rfl rfl rfl Tryz.call29 rfl (hS6 ) rfl) rfl rfl rfl ?_;rintro _ _ ⟨_, ⟨rfl, rfl⟩, rfl⟩;simp only [zca, zna, splice, spliceL];refine ⟨fun _ s => (s.pulls (ks := [2]) rfl).left, ?_⟩;refine qW 27 ?_;refine qP (ov_not rfl rfl) ?_;refine qP (ov_pick_f rfl rfl rfl) ?_;refine aq_nil ?_;refine zX 6 rfl ?_;refine zV zI ?_;refine zOR 3 rfl ?_;refine at_fold (A := RNd h s) [2, 2, 6, 6] rfl (fun h s => rnd_mk (A := A8) (c := c8) (B := B8) (b := b8) (L := L) hL h s) ?_;refine at_fold (A := Many RNd gb sn) [0, 7] rfl (fun h s => many_same hhi hsi h s) ?_;refine at_fold (A := Many NodeA ga sn) [6, 7] rfl (fun h s => many_same hgi hsi h s) ?_;refine at_roundF (k + 1, sn) ⟨hlt, hd3, hdok, hdop⟩ (by simp only; omega) ⟨rfl, trivial⟩ rfl ?_;simp only [setAt];exact zE [1, 11, 11, 0] [0, 0, 0, 0, 0, 0, 0, 0, 0, 0, 0]
end Go.Proofs.YtighdkdomfpadaaGreatDoor
