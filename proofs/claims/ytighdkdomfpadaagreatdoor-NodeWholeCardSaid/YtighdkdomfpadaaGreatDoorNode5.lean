/- Package node, walked: Grow, Concat, Copy. -/
import Derived.Test.YtighdkdomfpadaaGreatDoorProg
import Derived.Test.YtighdkdomfpadaaGreatDoorNode2
import Derived.Test.YtighdkdomfpadaaGreatDoorSLB
import Derived.KernelRfl
set_option linter.unusedSimpArgs false
set_option linter.unusedVariables false
set_option maxRecDepth 100000
set_option maxHeartbeats 4000000
namespace Go.Proofs.YtighdkdomfpadaaGreatDoor
open Go Go.Proofs.YtighdkdomfpadaaGreatDoor.SL Go.RowKit
theorem T75 (w0 : World) {m : Nat} (hm : m ≤ 100000) :
 Tri Tryz.prog w0 75 [.slice none 0 0, .int .i64 (m : Nat)] [] fun v q => ∃ B e, v = .slice B 0 e ∧ q = [Row enE 73 2 B e []] := by
 refine tri_k Tryz.func75 rfl rfl fun F => ?_
 simp only [Tryz.ntmps75, argEnv, List.cons_append, List.nil_append]
 by_cases h0 : m = 0
 ·subst h0
  refine zH fun zq zQ => ?_
  refine zC 20 rfl ?_
  refine zV (ov_capS rfl Tryz.underlying43 rfl) ?_
  refine zO 2 rfl ?_
  refine zV zI ?_
  refine zV zI ?_
  refine zO 19 rfl ?_
  refine zQ ?_
  refine at_end ?_
  refine at_rowNil enE 73 2 ?_
  refine at_fin (rsV rfl (res_tmp rfl)) ?_
  refine ⟨_, ⟨none, 0, rfl, rfl⟩, ?_⟩
  exact zE [0] []
 ·refine zH fun zq zQ => ?_
  refine zC 20 rfl ?_
  refine zV (ov_capS rfl Tryz.underlying43 rfl) ?_
  refine zO 2 rfl ?_
  refine zV zI ?_
  refine zV zI ?_
  refine zO 9 rfl ?_
  refine zcT rfl (decide_eq_true (by omega)) ?_
  refine zC 3 rfl ?_
  refine zV (ov_capS rfl Tryz.underlying43 rfl) ?_
    
  refine zV (ov_sliceToC (k := 0) rfl Tryz.underlying43 rfl rfl rfl (Nat.le_refl _)) ?_
  refine at_reval 1 (.int .i64 (m : Nat)) rfl (congrArg (Value.int .i64) (by omega)) ?_
  refine zO 1 rfl ?_
  refine zT (ot_appendZeros0 (enc := enE) (size := 2) (ti := Tryz.t73) ((0, []) : Ent) rfl Tryz.underlying43 Tryz.underlying3 rfl rfl rfl rfl rfl (by decide) rfl rfl (by omega) (by show m * 24 ≤ _; omega) (by decide)) ?_
  rintro _ _ ⟨A0, c0, rfl, rfl⟩
  refine zO 2 rfl ?_
  refine zV (ov_sliceToC (k := 0) rfl Tryz.underlying43 rfl rfl rfl (Nat.zero_le _)) ?_
  refine at_rowTk 0 0 rfl ?_
  simp only [setAt, List.take_zero]
  refine zO 10 rfl ?_
  refine zQ ?_
  refine at_end ?_
  refine at_fin (rsV rfl (res_tmp rfl)) ?_
  refine ⟨_, ⟨A0, c0, rfl, rfl⟩, ?_⟩
  exact zE [0] []
/-- A slice of entries, with what it holds. -/
abbrev Sl := Option Addr × Nat × List Ent
def slE (x : Sl) : List Value := [.slice x.1 x.2.2.length x.2.1]
def slCat (L : List Sl) : List Ent := (L.map (·.2.2)).flatten
theorem slCat_succ {L : List Sl} {k : Nat} {x : Sl} (h : L[k]? = some x) : slCat (L.take (k + 1)) = slCat (L.take k) ++ x.2.2 := by
  unfold slCat; rw [List.take_add_one, h]; simp
theorem T51 (w0 : World) {A : Option Addr} {c : Nat} {L : List Sl} (hr : Rd slE w0 1 A L) (hrs : ∀ x ∈ L, Rd enE w0 2 x.1 x.2.2) (hn : L.length ≤ 10) (hl : ∀ k, (slCat (L.take k)).length ≤ 10000) :
 Tri Tryz.prog w0 51 [.slice A L.length c] [] fun v q => ∃ B e, v = .slice B (slCat L).length e ∧ q = [Row enE 73 2 B e (slCat L)] := by
 refine tri_k Tryz.func51 rfl rfl fun F => ?_
 simp only [Tryz.ntmps51, argEnv, List.cons_append, List.nil_append]
 refine zH fun zq zQ => ?_
 refine zC 19 rfl ?_
 refine at_loopK [12, 13, 14, 5, 15, 16, 17, 18, 3, 19, 20, 21, 22, 11] (fun i : Nat => i ≤ L.length) (fun i => [(11, .int .i64 (i : Nat)), (3, .int .i64 (slCat (L.take i)).length)]) (fun i q => q) (fun i => L.length - i) 0 (Nat.zero_le _) ⟨rfl, rfl, trivial⟩ (fun _ s => s) ?_
 intro k hk
 have hlk := hl k
 rcases Nat.lt_or_ge k L.length with hlt | hge
 ·have hi1 : decide ((k : Int) < L.length) = true := decide_eq_true (by omega)
  obtain ⟨x, hget⟩ : ∃ x, L[k]? = some x := ⟨_, List.getElem?_eq_getElem hlt⟩
  have hsu := slCat_succ hget
  have hlk2 := hl (k + 1)
  rw [hsu, List.length_append] at hlk2
  refine zC 6 rfl ?_
  refine zcT rfl (decide_eq_true (by omega)) ?_
  refine zC 6 rfl ?_
  refine zV (ov_indexRd (fun _ s => hr.up s) rfl Tryz.underlying157 rfl rfl rfl hget) ?_
  refine zV (ov_loadRd0 (fun _ s => hr.up s) rfl rfl rfl hget rfl) ?_
  refine zO 8 rfl ?_
  refine zV zI ?_
  refine zO 14 rfl ?_
  refine zV zI ?_
  refine zOR 3 rfl ?_
  refine at_roundF (k + 1) hlt (by omega) ⟨rfl, look_eq rfl (by rw [hsu, List.length_append]; rfl), trivial⟩ rfl ?_
  exact zE [] []
 ·have hi1 : decide ((k : Int) < L.length) = false := decide_eq_false (by omega)
  rw [List.take_of_length_le hge] at hlk ⊢
  have hG := T75 w0 (m := (slCat L).length) (by omega)
  refine zC 6 rfl ?_
  refine zcF rfl (decide_eq_false (by omega)) ?_
  refine zC 8 rfl ?_
  refine zT (ot_call (ks := []) rfl rfl rfl Tryz.call75 rfl (hG ) rfl) ?_
  rintro v0 _ ⟨m0, hp0, rfl⟩
  obtain ⟨B0, hp0⟩ := hp0
  obtain ⟨e0, hp0⟩ := hp0
  obtain ⟨rfl, rfl⟩ := hp0
  simp only [zca, zna, splice, spliceL]
  refine zO 12 rfl ?_
  refine at_loopK [28, 29, 30, 8, 31, 32, 33, 6, 34, 27] (fun i : Nat × Option Addr × Nat => i.1 ≤ L.length) (fun i => [(27, .int .i64 (i.1 : Nat)), (6, .slice i.2.1 (slCat (L.take i.1)).length i.2.2)]) (fun i q => setAt 0 (Row enE 73 2 i.2.1 i.2.2 (slCat (L.take i.1))) q) (fun i => L.length - i.1) (0, B0, e0) (Nat.zero_le _) ⟨rfl, rfl, trivial⟩ (fun _ s => s) ?_
  rintro ⟨q, B, e⟩ hq
  simp only [setAt] at hq ⊢
  have hlk3 := hl q
  rcases Nat.lt_or_ge q L.length with hlt2 | hge2
  ·have hi2 : decide ((q : Int) < L.length) = true := decide_eq_true (by omega)
   obtain ⟨x, hget⟩ : ∃ x, L[q]? = some x := ⟨_, List.getElem?_eq_getElem hlt2⟩
   have hsu := slCat_succ hget
   have hlk4 := hl (q + 1)
   rw [hsu, List.length_append] at hlk4
   have hrx := hrs x (List.mem_of_getElem? hget)
   refine zC 6 rfl ?_
   refine zcT rfl (decide_eq_true (by omega)) ?_
   refine zC 6 rfl ?_
   refine zV (ov_indexRd (fun _ s => hr.up s) rfl Tryz.underlying157 rfl rfl rfl hget) ?_
   refine zV (ov_loadRd0 (fun _ s => hr.up s) rfl rfl rfl hget rfl) ?_
   refine zO 6 rfl ?_
   refine zT (ot_append (k := 0) (xs := slCat (L.take q)) (ys := x.2.2) (enc := enE) (size := 2) (bytes := 24) (fun w s => hrx.up s) rfl Tryz.underlying43 rfl rfl rfl rfl rfl (by decide) rfl rfl rfl (fun v _ => enE_one v) (by omega) (by decide)) ?_
   rintro _ _ ⟨A0, c0, rfl, rfl⟩
   simp only [setAt]
   try rw [← hsu]
   refine zO 5 rfl ?_
   refine zV zI ?_
   refine zOR 3 rfl ?_
   refine at_roundF (q + 1, A0, c0) hlt2 (by simp only; omega) ⟨rfl, rfl, trivial⟩ rfl ?_
   simp only [setAt]
   exact zE [0] []
  ·have hi2 : decide ((q : Int) < L.length) = false := decide_eq_false (by omega)
   rw [List.take_of_length_le hge2] at hlk3 ⊢
   refine zC 6 rfl ?_
   refine zcF rfl (decide_eq_false (by omega)) ?_
   refine zC 12 rfl ?_
   refine zQ ?_
   refine at_end ?_
   refine at_fin (rsV rfl (res_tmp rfl)) ?_
   refine ⟨_, ⟨B, e, rfl, rfl⟩, ?_⟩
   exact zE [0] []
theorem slCat2 (a b : Sl) (k : Nat) : (slCat (List.take k [a, b])).length ≤ a.2.2.length + b.2.2.length := by
  match k with
  | 0 => simp [slCat]
  | 1 => simp [slCat]
  | k + 2 => simp [slCat]
/-- Concat, of what two rows begin with, or go on with. -/
theorem concat2 (w0 : World) {gv : Nat} {A B : Option Addr} {c d i j k c' : Nat} {xs ys : List Ent} (hx : xs.length ≤ 200) (hy : ys.length ≤ 200) (hc : ys.length ≤ d) {z : List Ent} (hz : z = xs.take i ++ (ys.drop j).take k) (hi : i ≤ xs.length) (hj : j + k ≤ ys.length) :
    Tri Tryz.prog w0 51 [.slice (some ⟨gv, 0, none⟩) 2 2] [cl gv #[.slice A i c', .slice (dropA B d j 2) k (d - j)] 43, Row enE 73 2 A c xs, Row enE 73 2 B d ys] fun v q => ∃ C e, v = .slice C z.length e ∧ q = [Row enE 73 2 C e z, cl gv #[.slice A i c', .slice (dropA B d j 2) k (d - j)] 43, Row enE 73 2 A c xs, Row enE 73 2 B d ys] := by
  have h1 : (xs.take i).length = i := by rw [List.length_take]; omega
  have h2 : ((ys.drop j).take k).length = k := by rw [List.length_take, List.length_drop]; omega
  refine (Tri.of_all (Post := fun v q => ∃ C e, v = .slice C z.length e ∧ q = [Row enE 73 2 C e z]) fun w s => ?_).post ?_
  · have r1 := (s.rd (k := 1) rfl).take i
    have r2 := (rd_dropA s (k := 2) rfl j).take k
    have hr : Rd slE w 1 (some ⟨gv, 0, none⟩) [((A, c', xs.take i) : Sl), (dropA B d j 2, d - j, (ys.drop j).take k)] := s.rdPt (k := 0) rfl (by simp [slE, h1, h2]) (by simp [slE])
    have hT := T51 w (c := 2) hr (by
      intro x hx'
      simp only [List.mem_cons, List.not_mem_nil, or_false] at hx'
      rcases hx' with rfl | rfl
      · exact r1
      · exact r2) (by simp) (fun q => by have := slCat2 ((A, c', xs.take i) : Sl) (dropA B d j 2, d - j, (ys.drop j).take k) q; simp only [h1, h2] at this; omega)
    have e : slCat [((A, c', xs.take i) : Sl), (dropA B d j 2, d - j, (ys.drop j).take k)] = z := by rw [hz]; simp [slCat]
    rw [e] at hT
    exact hT
  · rintro v q ⟨m', ⟨C, e, h3, h4⟩, h5⟩
    exact ⟨C, e, h3, by rw [h5, h4]; rfl⟩
theorem both_step {a b : List Ent} {k : Nat} {x : Ent} (h : a.take k = b.take k) (hx : a[k]? = some x) (hy : b[k]? = some x) : a.take (k + 1) = b.take (k + 1) := by
  rw [List.take_add_one, List.take_add_one, h, hx, hy]
theorem both_end {a b : List Ent} {k : Nat} (h : a.take k = b.take k) (h1 : k ≤ a.length) (h2 : k ≤ b.length) (h3 : a.length ≤ k ∨ b.length ≤ k) : bothL a b = k := by
  have g1 := both_ge h1 h h2
  have g2 := both_le a b
  omega
theorem next_eq {a b : List Ent} {k : Nat} (most : Int) (h : bothL a b = k) (hk : k ≤ b.length) : nextL a b most = (b.drop k).take (min b.length (k + (max (min most 200) 0).toNat) - k) := by
  unfold nextL
  rw [h, List.take_eq_take_iff, List.length_drop]
  omega
theorem en_eq (a b : Ent) : (decide (a.1 = b.1) && decide ((⟨a.2.toArray⟩ : ByteArray) = ⟨b.2.toArray⟩)) = decide (a = b) := by
  rw [ba_dec]
  cases a; cases b; simp [Prod.ext_iff]
theorem T31 (w0 : World) {g g' : Nat} {s f : ND} (hs : NOk s) (hf : NOk f) (most : Int) : Tri Tryz.prog w0 31 [ptrTo g, ptrTo g', .int .i64 most] [NodeA g s, NodeA g' f] fun v m => v = .int .i64 (copyN s f most).2 ∧ m = [NodeA g (copyN s f most).1, NodeA g' f] := by
 refine tri_k Tryz.func31 rfl rfl fun F => ?_
 simp only [Tryz.ntmps31, argEnv, List.cons_append, List.nil_append]
 refine at_node 1 rfl fun A2 c2 mb2 cg2 => ?_
 refine at_node 4 rfl fun A c mb cg => ?_
 refine at_rowLen 5 rfl (fun hle2 _ => ?_)
 refine at_rowLen 1 rfl (fun hle1 _ => ?_)
 have hlen := hs.len
 have hlen2 := hf.len
 by_cases hlt : f.ep < s.ep
 ·have hi1 : decide (f.ep < s.ep) = true := by simp [hlt]
  have hcp : copyN s f most = (s, 0) := by
   have hc : f.ep < s.ep ∨ (f.ep = s.ep ∧ s.ld = true) := .inl hlt
   unfold copyN; rw [if_pos hc]
  rw [hcp]
  refine zH fun zq zQ => ?_
  refine zC 7 rfl ?_
  refine at_draw _ [] 1000 [(2, 0), (2, 1), (2, 2), (1, 3), (2, 4), (2, 5), (2, 6), (1, 7), (2, 8), (2, 9), (2, 10), (2, 11), (2, 12), (1, 13), (2, 14), (2, 15), (2, 16), (1, 17), (2, 18), (2, 19), (2, 20), (2, 21), (2, 22), (1, 23), (2, 24), (2, 25)] (by kernel_rfl) (by kernel_rfl) (fun _ s => (s.pulls (ks := [0, 3]) rfl).left) ?_
  refine aq_p (ov_move rfl rfl) rfl rfl rfl ?_
  refine aq_p (ov_nilCheck rfl rfl) rfl rfl rfl ?_
  refine aq_p (ov_fieldAddr (k := 0) (r := 0) rfl rfl rfl rfl) rfl rfl rfl ?_
  refine aq_v (ov_load rfl rfl rfl (fun _ s => s.ld (k := 1) rfl rfl)) rfl rfl rfl ?_
  refine aq_p (ov_move rfl rfl) rfl rfl rfl ?_
  refine aq_p (ov_nilCheck rfl rfl) rfl rfl rfl ?_
  refine aq_p (ov_fieldAddr (k := 0) (r := 0) rfl rfl rfl rfl) rfl rfl rfl ?_
  refine aq_v (ov_load rfl rfl rfl (fun _ s => s.ld (k := 0) rfl rfl)) rfl rfl rfl ?_
  refine aq_p (ov_int rfl rfl rfl rfl) rfl rfl rfl ?_
  refine aq_p (ov_move rfl rfl) rfl rfl rfl ?_
  refine zrT 18 rfl (decide_eq_true (by omega)) ?_
  refine aq_unwanted (j := 9) rfl rfl rfl rfl rfl ?_
  refine aq_unwanted (j := 9) rfl rfl rfl rfl rfl ?_
  refine aq_unwanted (j := 9) rfl rfl rfl rfl rfl ?_
  refine aq_unwanted (j := 9) rfl rfl rfl rfl rfl ?_
  refine aq_unwanted (j := 9) rfl rfl rfl rfl rfl ?_
  refine aq_unwanted (j := 9) rfl rfl rfl rfl rfl ?_
  refine aq_unwanted (j := 9) rfl rfl rfl rfl rfl ?_
  refine aq_unwanted (j := 9) rfl rfl rfl rfl rfl ?_
  refine aq_unwanted (j := 9) rfl rfl rfl rfl rfl ?_
  refine aq_unwanted (j := 9) rfl rfl rfl rfl rfl ?_
  refine aq_unwantedN (j := 19) rfl rfl rfl rfl ?_
  refine aq_unwantedN (j := 19) rfl rfl rfl rfl ?_
  refine aq_unwantedN (j := 19) rfl rfl rfl rfl ?_
  refine aq_unwantedN (j := 19) rfl rfl rfl rfl ?_
  refine aq_unwanted (j := 9) rfl rfl rfl rfl rfl ?_
  refine aq_p (ov_pick_t rfl rfl rfl) rfl rfl rfl ?_
  refine aq_nil ?_
  refine zX 9 rfl ?_
  refine zQ ?_
  refine at_end ?_
  refine at_fold (A := NodeA g s) [0, 0, 0, 0] rfl (fun h s => node_mk (A := A) (c := c) (mb := mb) (cg := cg) h s) ?_
  refine at_fold (A := NodeA g' f) [1, 1, 1, 1] rfl (fun h s => node_mk (A := A2) (c := c2) (mb := mb2) (cg := cg2) h s) ?_
  refine at_fin (rsV rfl (res_tmp rfl)) ?_
  refine ⟨_, ⟨rfl, rfl⟩, ?_⟩
  exact zE [1, 0] []
 have hi1 : decide (f.ep < s.ep) = false := by simp [hlt]
 by_cases heq : f.ep = s.ep
 ·have hi2 : decide (f.ep = s.ep) = true := by simp [heq]
  have hi3 : decide (f.ep > s.ep) = false := by simp; omega
  rcases Bool.eq_false_or_eq_true s.ld with hld | hld
  ·have hcp : copyN s f most = (s, 0) := by
    have hc : f.ep < s.ep ∨ (f.ep = s.ep ∧ s.ld = true) := .inr ⟨heq, hld⟩
    unfold copyN; rw [if_pos hc]
   rw [hcp]
   refine zH fun zq zQ => ?_
   refine zC 7 rfl ?_
   refine at_draw _ [] 1000 [(2, 0), (2, 1), (2, 2), (1, 3), (2, 4), (2, 5), (2, 6), (1, 7), (2, 8), (2, 9), (2, 10), (2, 11), (2, 12), (1, 13), (2, 14), (2, 15), (2, 16), (1, 17), (2, 18), (2, 19), (2, 20), (2, 21), (2, 22), (1, 23), (2, 24), (2, 25)] (by kernel_rfl) (by kernel_rfl) (fun _ s => (s.pulls (ks := [0, 3]) rfl).left) ?_
   refine aq_p (ov_move rfl rfl) rfl rfl rfl ?_
   refine aq_p (ov_nilCheck rfl rfl) rfl rfl rfl ?_
   refine aq_p (ov_fieldAddr (k := 0) (r := 0) rfl rfl rfl rfl) rfl rfl rfl ?_
   refine aq_v (ov_load rfl rfl rfl (fun _ s => s.ld (k := 1) rfl rfl)) rfl rfl rfl ?_
   refine aq_p (ov_move rfl rfl) rfl rfl rfl ?_
   refine aq_p (ov_nilCheck rfl rfl) rfl rfl rfl ?_
   refine aq_p (ov_fieldAddr (k := 0) (r := 0) rfl rfl rfl rfl) rfl rfl rfl ?_
   refine aq_v (ov_load rfl rfl rfl (fun _ s => s.ld (k := 0) rfl rfl)) rfl rfl rfl ?_
   refine aq_p (ov_int rfl rfl rfl rfl) rfl rfl rfl ?_
   refine aq_p (ov_move rfl rfl) rfl rfl rfl ?_
   refine zrF 18 rfl (decide_eq_false (by omega)) ?_
   refine aq_wanted (j := 9) rfl ?_
   refine aq_p (ov_move rfl rfl) rfl rfl rfl ?_
   refine aq_wanted (j := 9) rfl ?_
   refine aq_p (ov_nilCheck rfl rfl) rfl rfl rfl ?_
   refine aq_wanted (j := 9) rfl ?_
   refine aq_p (ov_fieldAddr (k := 0) (r := 0) rfl rfl rfl rfl) rfl rfl rfl ?_
   refine aq_wanted (j := 9) rfl ?_
   refine aq_v (ov_load rfl rfl rfl (fun _ s => s.ld (k := 1) rfl rfl)) rfl rfl rfl ?_
   refine aq_wanted (j := 9) rfl ?_
   refine aq_p (ov_move rfl rfl) rfl rfl rfl ?_
   refine aq_wanted (j := 9) rfl ?_
   refine aq_p (ov_nilCheck rfl rfl) rfl rfl rfl ?_
   refine aq_wanted (j := 9) rfl ?_
   refine aq_p (ov_fieldAddr (k := 0) (r := 0) rfl rfl rfl rfl) rfl rfl rfl ?_
   refine aq_wanted (j := 9) rfl ?_
   refine aq_v (ov_load rfl rfl rfl (fun _ s => s.ld (k := 0) rfl rfl)) rfl rfl rfl ?_
   refine aq_wanted (j := 9) rfl ?_
   refine aq_p (ov_int rfl rfl rfl rfl) rfl rfl rfl ?_
   refine aq_wanted (j := 9) rfl ?_
   refine aq_p (ov_move rfl rfl) rfl rfl rfl ?_
   refine zrT 28 rfl (decide_eq_true (by omega)) ?_
   refine aq_wanted (j := 19) rfl ?_
   refine aq_p (ov_move rfl rfl) rfl rfl rfl ?_
   refine aq_wanted (j := 19) rfl ?_
   refine aq_p (ov_nilCheck rfl rfl) rfl rfl rfl ?_
   refine aq_wanted (j := 19) rfl ?_
   refine aq_p (ov_fieldAddr (k := 1) (r := 1) rfl rfl rfl rfl) rfl rfl rfl ?_
   refine aq_wanted (j := 19) rfl ?_
   refine aq_v (ov_load rfl rfl rfl (fun _ s => s.ld (k := 0) rfl rfl)) rfl rfl rfl ?_
   refine aq_wanted (j := 9) rfl ?_
   refine aq_p (ov_pick_t rfl rfl rfl) rfl rfl rfl ?_
   refine aq_p (ov_pick_f rfl rfl rfl) rfl rfl rfl ?_
   refine aq_nil ?_
   refine zX 1 rfl ?_
   refine zcT rfl (by first | assumption | (rw [Bool.not_eq_true']; exact decide_eq_false (by omega))) ?_
   refine zC 7 rfl ?_
   refine zQ ?_
   refine at_end ?_
   refine at_fold (A := NodeA g s) [0, 0, 0, 0] rfl (fun h s => node_mk (A := A) (c := c) (mb := mb) (cg := cg) h s) ?_
   refine at_fold (A := NodeA g' f) [1, 1, 1, 1] rfl (fun h s => node_mk (A := A2) (c := c2) (mb := mb2) (cg := cg2) h s) ?_
   refine at_fin (rsV rfl (res_tmp rfl)) ?_
   refine ⟨_, ⟨rfl, rfl⟩, ?_⟩
   exact zE [1, 0] []
  ·have hcp : copyN s f most = ((⟨s.ep, s.ld, s.lg.take (bothL s.lg f.lg) ++ nextL s.lg f.lg most, s.op⟩ : ND), ((nextL s.lg f.lg most).length : Int)) := by
    have hc : ¬ (f.ep < s.ep ∨ (f.ep = s.ep ∧ s.ld = true)) := by
     rintro (h | ⟨_, h⟩)
     ·exact hlt h
     ·rw [hld] at h; cases h
    unfold copyN
    rw [if_neg hc, if_neg (by omega)]
   rw [hcp]
   refine zH fun zq zQ => ?_
   refine zC 7 rfl ?_
   refine at_draw _ [] 1000 [(2, 0), (2, 1), (2, 2), (1, 3), (2, 4), (2, 5), (2, 6), (1, 7), (2, 8), (2, 9), (2, 10), (2, 11), (2, 12), (1, 13), (2, 14), (2, 15), (2, 16), (1, 17), (2, 18), (2, 19), (2, 20), (2, 21), (2, 22), (1, 23), (2, 24), (2, 25)] (by kernel_rfl) (by kernel_rfl) (fun _ s => (s.pulls (ks := [0, 3]) rfl).left) ?_
   refine aq_p (ov_move rfl rfl) rfl rfl rfl ?_
   refine aq_p (ov_nilCheck rfl rfl) rfl rfl rfl ?_
   refine aq_p (ov_fieldAddr (k := 0) (r := 0) rfl rfl rfl rfl) rfl rfl rfl ?_
   refine aq_v (ov_load rfl rfl rfl (fun _ s => s.ld (k := 1) rfl rfl)) rfl rfl rfl ?_
   refine aq_p (ov_move rfl rfl) rfl rfl rfl ?_
   refine aq_p (ov_nilCheck rfl rfl) rfl rfl rfl ?_
   refine aq_p (ov_fieldAddr (k := 0) (r := 0) rfl rfl rfl rfl) rfl rfl rfl ?_
   refine aq_v (ov_load rfl rfl rfl (fun _ s => s.ld (k := 0) rfl rfl)) rfl rfl rfl ?_
   refine aq_p (ov_int rfl rfl rfl rfl) rfl rfl rfl ?_
   refine aq_p (ov_move rfl rfl) rfl rfl rfl ?_
   refine zrF 18 rfl (decide_eq_false (by omega)) ?_
   refine aq_wanted (j := 9) rfl ?_
   refine aq_p (ov_move rfl rfl) rfl rfl rfl ?_
   refine aq_wanted (j := 9) rfl ?_
   refine aq_p (ov_nilCheck rfl rfl) rfl rfl rfl ?_
   refine aq_wanted (j := 9) rfl ?_
   refine aq_p (ov_fieldAddr (k := 0) (r := 0) rfl rfl rfl rfl) rfl rfl rfl ?_
   refine aq_wanted (j := 9) rfl ?_
   refine aq_v (ov_load rfl rfl rfl (fun _ s => s.ld (k := 1) rfl rfl)) rfl rfl rfl ?_
   refine aq_wanted (j := 9) rfl ?_
   refine aq_p (ov_move rfl rfl) rfl rfl rfl ?_
   refine aq_wanted (j := 9) rfl ?_
   refine aq_p (ov_nilCheck rfl rfl) rfl rfl rfl ?_
   refine aq_wanted (j := 9) rfl ?_
   refine aq_p (ov_fieldAddr (k := 0) (r := 0) rfl rfl rfl rfl) rfl rfl rfl ?_
   refine aq_wanted (j := 9) rfl ?_
   refine aq_v (ov_load rfl rfl rfl (fun _ s => s.ld (k := 0) rfl rfl)) rfl rfl rfl ?_
   refine aq_wanted (j := 9) rfl ?_
   refine aq_p (ov_int rfl rfl rfl rfl) rfl rfl rfl ?_
   refine aq_wanted (j := 9) rfl ?_
   refine aq_p (ov_move rfl rfl) rfl rfl rfl ?_
   refine zrT 28 rfl (decide_eq_true (by omega)) ?_
   refine aq_wanted (j := 19) rfl ?_
   refine aq_p (ov_move rfl rfl) rfl rfl rfl ?_
   refine aq_wanted (j := 19) rfl ?_
   refine aq_p (ov_nilCheck rfl rfl) rfl rfl rfl ?_
   refine aq_wanted (j := 19) rfl ?_
   refine aq_p (ov_fieldAddr (k := 1) (r := 1) rfl rfl rfl rfl) rfl rfl rfl ?_
   refine aq_wanted (j := 19) rfl ?_
   refine aq_v (ov_load rfl rfl rfl (fun _ s => s.ld (k := 0) rfl rfl)) rfl rfl rfl ?_
   refine aq_wanted (j := 9) rfl ?_
   refine aq_p (ov_pick_t rfl rfl rfl) rfl rfl rfl ?_
   refine aq_p (ov_pick_f rfl rfl rfl) rfl rfl rfl ?_
   refine aq_nil ?_
   refine zX 1 rfl ?_
   refine zcF rfl (by first | assumption | (rw [Bool.not_eq_false']; exact decide_eq_true (by omega))) ?_
   refine zC 4 rfl ?_
   refine at_draw _ [] 1000 [(2, 0), (2, 1), (2, 2), (1, 3), (2, 4), (2, 5), (2, 6), (1, 7), (2, 8)] (by kernel_rfl) (by kernel_rfl) (fun _ s => (s.pulls (ks := [0, 3]) rfl).left) ?_
   refine aq_p (ov_move rfl rfl) rfl rfl rfl ?_
   refine aq_p (ov_nilCheck rfl rfl) rfl rfl rfl ?_
   refine aq_p (ov_fieldAddr (k := 0) (r := 0) rfl rfl rfl rfl) rfl rfl rfl ?_
   refine aq_v (ov_load rfl rfl rfl (fun _ s => s.ld (k := 1) rfl rfl)) rfl rfl rfl ?_
   refine aq_p (ov_move rfl rfl) rfl rfl rfl ?_
   refine aq_p (ov_nilCheck rfl rfl) rfl rfl rfl ?_
   refine aq_p (ov_fieldAddr (k := 0) (r := 0) rfl rfl rfl rfl) rfl rfl rfl ?_
   refine aq_v (ov_load rfl rfl rfl (fun _ s => s.ld (k := 0) rfl rfl)) rfl rfl rfl ?_
   refine aq_p (ov_int rfl rfl rfl rfl) rfl rfl rfl ?_
   refine aq_nil ?_
   refine zX 1 rfl ?_
   refine zcF rfl (decide_eq_false (by omega)) ?_
   refine zC 9 rfl ?_
   refine at_loopK [50, 51, 52, 53, 54, 55, 56, 57, 58, 59, 60, 61, 62, 63, 64, 65, 66, 67, 68, 69, 70, 71, 72, 73, 74, 75, 76, 77, 78, 79, 80, 81, 7] (fun i : Nat => i ≤ s.lg.length ∧ i ≤ f.lg.length ∧ s.lg.take i = f.lg.take i) (fun i => [(7, .int .i64 (i : Nat))]) (fun i q => q) (fun i => s.lg.length - i) 0 ⟨Nat.zero_le _, Nat.zero_le _, rfl⟩ ⟨rfl, trivial⟩ (fun _ s => s) ?_
   rintro k ⟨hk1, hk2, hk3⟩
   by_cases hk4 : k < s.lg.length ∧ k < f.lg.length
   ·have hi4 : decide ((k : Int) < min (s.lg.length : Int) (f.lg.length : Int)) = true := by simp; omega
    obtain ⟨x, hget⟩ : ∃ x, s.lg[k]? = some x := ⟨_, List.getElem?_eq_getElem hk4.1⟩
    obtain ⟨y, hget2⟩ : ∃ y, f.lg[k]? = some y := ⟨_, List.getElem?_eq_getElem hk4.2⟩
    by_cases hxy : x = y
    ·subst hxy
     refine zC 2 rfl ?_
     refine at_draw _ [] 1000 [(2, 0), (2, 1), (2, 2), (2, 3), (1, 4), (1, 5), (2, 6), (2, 7), (2, 8), (1, 9), (1, 10), (1, 11), (2, 12), (2, 13), (2, 14), (2, 15), (2, 16), (1, 17), (2, 18), (1, 19), (1, 20), (2, 21), (2, 22), (2, 23), (1, 24), (2, 25), (1, 26), (1, 27), (2, 28), (2, 29)] (by kernel_rfl) (by kernel_rfl) (fun _ s => (s.pulls (ks := [0, 0, 0, 0, 0, 0, 0, 0]) rfl).left) ?_
     refine aq_p (ov_move rfl rfl) rfl rfl rfl ?_
     refine aq_p (ov_move rfl rfl) rfl rfl rfl ?_
     refine aq_p (ov_nilCheck rfl rfl) rfl rfl rfl ?_
     refine aq_p (ov_fieldAddr (k := 2) (r := 2) rfl rfl rfl rfl) rfl rfl rfl ?_
     refine aq_v (ov_load rfl rfl rfl (fun _ s => s.ld (k := 0) rfl rfl)) rfl rfl rfl ?_
     refine aq_v (ov_len_slice rfl Tryz.underlying43 rfl) rfl rfl rfl ?_
     refine aq_p (ov_move rfl rfl) rfl rfl rfl ?_
     refine aq_p (ov_nilCheck rfl rfl) rfl rfl rfl ?_
     refine aq_p (ov_fieldAddr (k := 2) (r := 2) rfl rfl rfl rfl) rfl rfl rfl ?_
     refine aq_v (ov_load rfl rfl rfl (fun _ s => s.ld (k := 4) rfl rfl)) rfl rfl rfl ?_
     refine aq_v (ov_len_slice rfl Tryz.underlying43 rfl) rfl rfl rfl ?_
     refine aq_v (ov_min rfl rfl rfl) rfl rfl rfl ?_
     refine aq_p (ov_int rfl rfl rfl rfl) rfl rfl rfl ?_
     refine aq_p (ov_move rfl rfl) rfl rfl rfl ?_
     refine zrT 63 rfl (decide_eq_true (by omega)) ?_
     refine aq_wanted (j := 13) rfl ?_
     refine aq_p (ov_move rfl rfl) rfl rfl rfl ?_
     refine aq_wanted (j := 13) rfl ?_
     refine aq_p (ov_nilCheck rfl rfl) rfl rfl rfl ?_
     refine aq_wanted (j := 13) rfl ?_
     refine aq_p (ov_fieldAddr (k := 2) (r := 2) rfl rfl rfl rfl) rfl rfl rfl ?_
     refine aq_wanted (j := 13) rfl ?_
     refine aq_v (ov_load rfl rfl rfl (fun _ s => s.ld (k := 0) rfl rfl)) rfl rfl rfl ?_
     refine aq_wanted (j := 13) rfl ?_
     refine aq_p (ov_move rfl rfl) rfl rfl rfl ?_
     refine aq_wanted (j := 13) rfl ?_
     refine aq_v (ov_indexRd (fun _ s => s.rd (k := 1) rfl) rfl Tryz.underlying43 rfl rfl rfl hget) rfl rfl rfl ?_
     refine aq_wanted (j := 13) rfl ?_
     refine aq_v (ov_loadRdS (vs := [_, _]) (fun _ s => s.rd (k := 1) rfl) rfl rfl rfl hget rfl rfl) rfl rfl rfl ?_
     refine aq_wanted (j := 13) rfl ?_
     refine aq_p (ov_move rfl rfl) rfl rfl rfl ?_
     refine aq_wanted (j := 13) rfl ?_
     refine aq_p (ov_nilCheck rfl rfl) rfl rfl rfl ?_
     refine aq_wanted (j := 13) rfl ?_
     refine aq_p (ov_fieldAddr (k := 2) (r := 2) rfl rfl rfl rfl) rfl rfl rfl ?_
     refine aq_wanted (j := 13) rfl ?_
     refine aq_v (ov_load rfl rfl rfl (fun _ s => s.ld (k := 4) rfl rfl)) rfl rfl rfl ?_
     refine aq_wanted (j := 13) rfl ?_
     refine aq_p (ov_move rfl rfl) rfl rfl rfl ?_
     refine aq_wanted (j := 13) rfl ?_
     refine aq_v (ov_indexRd (fun _ s => s.rd (k := 5) rfl) rfl Tryz.underlying43 rfl rfl rfl hget2) rfl rfl rfl ?_
     refine aq_wanted (j := 13) rfl ?_
     refine aq_v (ov_loadRdS (vs := [_, _]) (fun _ s => s.rd (k := 5) rfl) rfl rfl rfl hget2 rfl rfl) rfl rfl rfl ?_
     refine aq_wanted (j := 13) rfl ?_
     refine aq_p (ov_eqS rfl (by kernel_rfl) rfl rfl rfl rfl) rfl rfl rfl ?_
     refine aq_p (ov_pick_t rfl rfl rfl) rfl rfl rfl ?_
     refine aq_nil ?_
     refine zX 1 rfl ?_
     refine zcT rfl (by simp; done) ?_
     refine zC 5 rfl ?_
     refine zV zI ?_
     refine zOR 4 rfl ?_
     refine at_roundF (k + 1) ⟨hk4.1, hk4.2, both_step hk3 hget hget2⟩ (by omega) ⟨rfl, trivial⟩ rfl ?_
     exact zE [0, 0, 0, 0, 0, 0, 0, 0] []
    ·have hb : bothL s.lg f.lg = k := both_stop hk3 hget hget2 hxy
     have hi5 : (decide (x.1 = y.1) && decide ((⟨x.2.toArray⟩ : ByteArray) = ⟨y.2.toArray⟩)) = false := by rw [en_eq]; simp [hxy]
     obtain ⟨hiN, hhi⟩ : ∃ h : Nat, h = min f.lg.length (k + (max (min most 200) 0).toNat) := ⟨_, rfl⟩
     have hnx := next_eq (a := s.lg) (b := f.lg) most hb hk2
     rw [← hhi] at hnx
     have hnl : (nextL s.lg f.lg most).length = hiN - k := by rw [hnx, List.length_take, List.length_drop]; omega
     have htk : (s.lg.take k).length = k := by rw [List.length_take]; omega
     have hCc {gv : Nat} := concat2 w0 (gv := gv) (A := A) (B := A2) (c := c) (d := c2) (i := (s.lg.take k).length) (j := k) (k := hiN - k) (c' := c) (xs := s.lg) (ys := f.lg) hlen hlen2 hle2 (z := s.lg.take (bothL s.lg f.lg) ++ nextL s.lg f.lg most) (by rw [htk, hb, hnx]) (by omega) (by omega)
     refine zC 2 rfl ?_
     refine at_draw _ [] 1000 [(2, 0), (2, 1), (2, 2), (2, 3), (1, 4), (1, 5), (2, 6), (2, 7), (2, 8), (1, 9), (1, 10), (1, 11), (2, 12), (2, 13), (2, 14), (2, 15), (2, 16), (1, 17), (2, 18), (1, 19), (1, 20), (2, 21), (2, 22), (2, 23), (1, 24), (2, 25), (1, 26), (1, 27), (2, 28), (2, 29)] (by kernel_rfl) (by kernel_rfl) (fun _ s => (s.pulls (ks := [0, 0, 0, 0, 0, 0, 0, 0]) rfl).left) ?_
     refine aq_p (ov_move rfl rfl) rfl rfl rfl ?_
     refine aq_p (ov_move rfl rfl) rfl rfl rfl ?_
     refine aq_p (ov_nilCheck rfl rfl) rfl rfl rfl ?_
     refine aq_p (ov_fieldAddr (k := 2) (r := 2) rfl rfl rfl rfl) rfl rfl rfl ?_
     refine aq_v (ov_load rfl rfl rfl (fun _ s => s.ld (k := 0) rfl rfl)) rfl rfl rfl ?_
     refine aq_v (ov_len_slice rfl Tryz.underlying43 rfl) rfl rfl rfl ?_
     refine aq_p (ov_move rfl rfl) rfl rfl rfl ?_
     refine aq_p (ov_nilCheck rfl rfl) rfl rfl rfl ?_
     refine aq_p (ov_fieldAddr (k := 2) (r := 2) rfl rfl rfl rfl) rfl rfl rfl ?_
     refine aq_v (ov_load rfl rfl rfl (fun _ s => s.ld (k := 4) rfl rfl)) rfl rfl rfl ?_
     refine aq_v (ov_len_slice rfl Tryz.underlying43 rfl) rfl rfl rfl ?_
     refine aq_v (ov_min rfl rfl rfl) rfl rfl rfl ?_
     refine aq_p (ov_int rfl rfl rfl rfl) rfl rfl rfl ?_
     refine aq_p (ov_move rfl rfl) rfl rfl rfl ?_
     refine zrT 63 rfl (decide_eq_true (by omega)) ?_
     refine aq_wanted (j := 13) rfl ?_
     refine aq_p (ov_move rfl rfl) rfl rfl rfl ?_
     refine aq_wanted (j := 13) rfl ?_
     refine aq_p (ov_nilCheck rfl rfl) rfl rfl rfl ?_
     refine aq_wanted (j := 13) rfl ?_
     refine aq_p (ov_fieldAddr (k := 2) (r := 2) rfl rfl rfl rfl) rfl rfl rfl ?_
     refine aq_wanted (j := 13) rfl ?_
     refine aq_v (ov_load rfl rfl rfl (fun _ s => s.ld (k := 0) rfl rfl)) rfl rfl rfl ?_
     refine aq_wanted (j := 13) rfl ?_
     refine aq_p (ov_move rfl rfl) rfl rfl rfl ?_
     refine aq_wanted (j := 13) rfl ?_
     refine aq_v (ov_indexRd (fun _ s => s.rd (k := 1) rfl) rfl Tryz.underlying43 rfl rfl rfl hget) rfl rfl rfl ?_
     refine aq_wanted (j := 13) rfl ?_
     refine aq_v (ov_loadRdS (vs := [_, _]) (fun _ s => s.rd (k := 1) rfl) rfl rfl rfl hget rfl rfl) rfl rfl rfl ?_
     refine aq_wanted (j := 13) rfl ?_
     refine aq_p (ov_move rfl rfl) rfl rfl rfl ?_
     refine aq_wanted (j := 13) rfl ?_
     refine aq_p (ov_nilCheck rfl rfl) rfl rfl rfl ?_
     refine aq_wanted (j := 13) rfl ?_
     refine aq_p (ov_fieldAddr (k := 2) (r := 2) rfl rfl rfl rfl) rfl rfl rfl ?_
     refine aq_wanted (j := 13) rfl ?_
     refine aq_v (ov_load rfl rfl rfl (fun _ s => s.ld (k := 4) rfl rfl)) rfl rfl rfl ?_
     refine aq_wanted (j := 13) rfl ?_
     refine aq_p (ov_move rfl rfl) rfl rfl rfl ?_
     refine aq_wanted (j := 13) rfl ?_
     refine aq_v (ov_indexRd (fun _ s => s.rd (k := 5) rfl) rfl Tryz.underlying43 rfl rfl rfl hget2) rfl rfl rfl ?_
     refine aq_wanted (j := 13) rfl ?_
     refine aq_v (ov_loadRdS (vs := [_, _]) (fun _ s => s.rd (k := 5) rfl) rfl rfl rfl hget2 rfl rfl) rfl rfl rfl ?_
     refine aq_wanted (j := 13) rfl ?_
     refine aq_p (ov_eqS rfl (by kernel_rfl) rfl rfl rfl rfl) rfl rfl rfl ?_
     refine aq_p (ov_pick_t rfl rfl rfl) rfl rfl rfl ?_
     refine aq_nil ?_
     refine zX 1 rfl ?_
     refine zcF rfl (by first | assumption | (rw [Bool.not_eq_false']; exact decide_eq_true (by omega))) ?_
     refine zC 6 rfl ?_
     refine at_draw _ [] 1000 [(2, 0), (2, 1), (2, 2), (1, 3), (2, 4), (2, 5), (2, 6), (2, 7), (1, 8), (1, 9), (2, 10), (2, 11), (1, 12), (1, 13), (2, 14), (1, 15), (1, 16), (2, 17)] (by kernel_rfl) (by kernel_rfl) (fun _ s => (s.pulls (ks := [0, 3]) rfl).left) ?_
     refine aq_p (ov_move rfl rfl) rfl rfl rfl ?_
     refine aq_p (ov_nilCheck rfl rfl) rfl rfl rfl ?_
     refine aq_p (ov_fieldAddr (k := 2) (r := 2) rfl rfl rfl rfl) rfl rfl rfl ?_
     refine aq_v (ov_load rfl rfl rfl (fun _ s => s.ld (k := 1) rfl rfl)) rfl rfl rfl ?_
     refine aq_p (ov_move rfl rfl) rfl rfl rfl ?_
     refine aq_p (ov_move rfl rfl) rfl rfl rfl ?_
     refine aq_p (ov_nilCheck rfl rfl) rfl rfl rfl ?_
     refine aq_p (ov_fieldAddr (k := 2) (r := 2) rfl rfl rfl rfl) rfl rfl rfl ?_
     refine aq_v (ov_load rfl rfl rfl (fun _ s => s.ld (k := 1) rfl rfl)) rfl rfl rfl ?_
     refine aq_v (ov_len_slice rfl Tryz.underlying43 rfl) rfl rfl rfl ?_
     refine aq_p (ov_move rfl rfl) rfl rfl rfl ?_
     refine aq_p (ov_move rfl rfl) rfl rfl rfl ?_
     refine aq_v (ov_min rfl rfl rfl) rfl rfl rfl ?_
     refine aq_v (ov_max rfl rfl rfl) rfl rfl rfl ?_
     refine aq_p (zI) rfl rfl rfl ?_
     refine aq_v (ov_min rfl rfl rfl) rfl rfl rfl ?_
     refine at_reval 97 (.int .i64 (hiN : Nat)) rfl (congrArg (Value.int .i64) (by omega)) ?_
     refine aq_v (ov_sliceMidC (size := 2) (k := hiN) (j := k) rfl Tryz.underlying43 rfl rfl rfl rfl (by omega) (by omega)) rfl rfl rfl ?_
     refine aq_p (ov_assign rfl rfl) rfl rfl rfl ?_
     refine aq_nil ?_
     refine zXM [(0,_,_,_)] ⟨rfl,trivial⟩ [0] 9 rfl ?_
     refine zV (ov_sliceTo rfl Tryz.underlying43 rfl rfl rfl (by first | assumption | omega) (by assumption)) ?_
     refine zO 1 rfl ?_
     refine zT (ot_buildSlice (cs := [_, _]) rfl Tryz.underlying157 rfl rfl rfl rfl rfl rfl) ?_
     rintro _ _ ⟨g0, rfl, rfl⟩
     refine zT (ot_call (ks := [0, 1, 4]) rfl rfl rfl Tryz.call51 rfl (hCc ) rfl) ?_
     rintro v0 _ ⟨m0, hp0, rfl⟩
     obtain ⟨C0, hp0⟩ := hp0
     obtain ⟨e0, hp0⟩ := hp0
     obtain ⟨rfl, rfl⟩ := hp0
     simp only [zca, zna, splice, spliceL]
     refine zO 2 rfl ?_
     refine zS 4 ?_
     simp only [setAt, splice, spliceL, Value.cells]
     refine zO 10 rfl ?_
     refine zQ ?_
     refine at_end ?_
     refine at_fold (A := NodeA g ⟨s.ep, s.ld, s.lg.take (bothL s.lg f.lg) ++ nextL s.lg f.lg most, s.op⟩) [4, 0, 3, 3] rfl (fun h s => node_mk (A := C0) (c := e0) (mb := mb) (cg := cg) h s) ?_
     refine at_fold (A := NodeA g' f) [4, 3, 3, 3] rfl (fun h s => node_mk (A := A2) (c := c2) (mb := mb2) (cg := cg2) h s) ?_
     refine at_fin (rsV rfl (res_tmp rfl)) ?_
     refine ⟨_, ⟨by rw [hnl], rfl⟩, ?_⟩
     exact zE [1, 0] [0, 0]
   ·have hi4 : decide ((k : Int) < min (s.lg.length : Int) (f.lg.length : Int)) = false := by simp; omega
    have hb : bothL s.lg f.lg = k := both_end hk3 hk1 hk2 (by omega)
    obtain ⟨hiN, hhi⟩ : ∃ h : Nat, h = min f.lg.length (k + (max (min most 200) 0).toNat) := ⟨_, rfl⟩
    have hnx := next_eq (a := s.lg) (b := f.lg) most hb hk2
    rw [← hhi] at hnx
    have hnl : (nextL s.lg f.lg most).length = hiN - k := by rw [hnx, List.length_take, List.length_drop]; omega
    have htk : (s.lg.take k).length = k := by rw [List.length_take]; omega
    have hCc {gv : Nat} := concat2 w0 (gv := gv) (A := A) (B := A2) (c := c) (d := c2) (i := (s.lg.take k).length) (j := k) (k := hiN - k) (c' := c) (xs := s.lg) (ys := f.lg) hlen hlen2 hle2 (z := s.lg.take (bothL s.lg f.lg) ++ nextL s.lg f.lg most) (by rw [htk, hb, hnx]) (by omega) (by omega)
    refine zC 2 rfl ?_
    refine at_draw _ [] 1000 [(2, 0), (2, 1), (2, 2), (2, 3), (1, 4), (1, 5), (2, 6), (2, 7), (2, 8), (1, 9), (1, 10), (1, 11), (2, 12), (2, 13), (2, 14), (2, 15), (2, 16), (1, 17), (2, 18), (1, 19), (1, 20), (2, 21), (2, 22), (2, 23), (1, 24), (2, 25), (1, 26), (1, 27), (2, 28), (2, 29)] (by kernel_rfl) (by kernel_rfl) (fun _ s => (s.pulls (ks := [0, 3]) rfl).left) ?_
    refine aq_p (ov_move rfl rfl) rfl rfl rfl ?_
    refine aq_p (ov_move rfl rfl) rfl rfl rfl ?_
    refine aq_p (ov_nilCheck rfl rfl) rfl rfl rfl ?_
    refine aq_p (ov_fieldAddr (k := 2) (r := 2) rfl rfl rfl rfl) rfl rfl rfl ?_
    refine aq_v (ov_load rfl rfl rfl (fun _ s => s.ld (k := 0) rfl rfl)) rfl rfl rfl ?_
    refine aq_v (ov_len_slice rfl Tryz.underlying43 rfl) rfl rfl rfl ?_
    refine aq_p (ov_move rfl rfl) rfl rfl rfl ?_
    refine aq_p (ov_nilCheck rfl rfl) rfl rfl rfl ?_
    refine aq_p (ov_fieldAddr (k := 2) (r := 2) rfl rfl rfl rfl) rfl rfl rfl ?_
    refine aq_v (ov_load rfl rfl rfl (fun _ s => s.ld (k := 1) rfl rfl)) rfl rfl rfl ?_
    refine aq_v (ov_len_slice rfl Tryz.underlying43 rfl) rfl rfl rfl ?_
    refine aq_v (ov_min rfl rfl rfl) rfl rfl rfl ?_
    refine aq_p (ov_int rfl rfl rfl rfl) rfl rfl rfl ?_
    refine aq_p (ov_move rfl rfl) rfl rfl rfl ?_
    refine zrF 63 rfl (decide_eq_false (by omega)) ?_
    refine aq_unwanted (j := 13) rfl rfl rfl rfl rfl ?_
    refine aq_unwanted (j := 13) rfl rfl rfl rfl rfl ?_
    refine aq_unwanted (j := 13) rfl rfl rfl rfl rfl ?_
    refine aq_unwanted (j := 13) rfl rfl rfl rfl rfl ?_
    refine aq_unwanted (j := 13) rfl rfl rfl rfl rfl ?_
    refine aq_unwanted (j := 13) rfl rfl rfl rfl rfl ?_
    refine aq_unwanted (j := 13) rfl rfl rfl rfl rfl ?_
    refine aq_unwanted (j := 13) rfl rfl rfl rfl rfl ?_
    refine aq_unwanted (j := 13) rfl rfl rfl rfl rfl ?_
    refine aq_unwanted (j := 13) rfl rfl rfl rfl rfl ?_
    refine aq_unwanted (j := 13) rfl rfl rfl rfl rfl ?_
    refine aq_unwanted (j := 13) rfl rfl rfl rfl rfl ?_
    refine aq_unwanted (j := 13) rfl rfl rfl rfl rfl ?_
    refine aq_unwanted (j := 13) rfl rfl rfl rfl rfl ?_
    refine aq_unwanted (j := 13) rfl rfl rfl rfl rfl ?_
    refine aq_p (ov_pick_f rfl rfl rfl) rfl rfl rfl ?_
    refine aq_nil ?_
    refine zX 8 rfl ?_
    refine at_draw _ [] 1000 [(2, 0), (2, 1), (2, 2), (1, 3), (2, 4), (2, 5), (2, 6), (2, 7), (1, 8), (1, 9), (2, 10), (2, 11), (1, 12), (1, 13), (2, 14), (1, 15), (1, 16), (2, 17)] (by kernel_rfl) (by kernel_rfl) (fun _ s => (s.pulls (ks := [0, 3]) rfl).left) ?_
    refine aq_p (ov_move rfl rfl) rfl rfl rfl ?_
    refine aq_p (ov_nilCheck rfl rfl) rfl rfl rfl ?_
    refine aq_p (ov_fieldAddr (k := 2) (r := 2) rfl rfl rfl rfl) rfl rfl rfl ?_
    refine aq_v (ov_load rfl rfl rfl (fun _ s => s.ld (k := 1) rfl rfl)) rfl rfl rfl ?_
    refine aq_p (ov_move rfl rfl) rfl rfl rfl ?_
    refine aq_p (ov_move rfl rfl) rfl rfl rfl ?_
    refine aq_p (ov_nilCheck rfl rfl) rfl rfl rfl ?_
    refine aq_p (ov_fieldAddr (k := 2) (r := 2) rfl rfl rfl rfl) rfl rfl rfl ?_
    refine aq_v (ov_load rfl rfl rfl (fun _ s => s.ld (k := 1) rfl rfl)) rfl rfl rfl ?_
    refine aq_v (ov_len_slice rfl Tryz.underlying43 rfl) rfl rfl rfl ?_
    refine aq_p (ov_move rfl rfl) rfl rfl rfl ?_
    refine aq_p (ov_move rfl rfl) rfl rfl rfl ?_
    refine aq_v (ov_min rfl rfl rfl) rfl rfl rfl ?_
    refine aq_v (ov_max rfl rfl rfl) rfl rfl rfl ?_
    refine aq_p (zI) rfl rfl rfl ?_
    refine aq_v (ov_min rfl rfl rfl) rfl rfl rfl ?_
    refine at_reval 97 (.int .i64 (hiN : Nat)) rfl (congrArg (Value.int .i64) (by omega)) ?_
    refine aq_v (ov_sliceMidC (size := 2) (k := hiN) (j := k) rfl Tryz.underlying43 rfl rfl rfl rfl (by omega) (by omega)) rfl rfl rfl ?_
    refine aq_p (ov_assign rfl rfl) rfl rfl rfl ?_
    refine aq_nil ?_
    refine zXM [(0,_,_,_)] ⟨rfl,trivial⟩ [0] 9 rfl ?_
    refine zV (ov_sliceTo rfl Tryz.underlying43 rfl rfl rfl (by first | assumption | omega) (by assumption)) ?_
    refine zO 1 rfl ?_
    refine zT (ot_buildSlice (cs := [_, _]) rfl Tryz.underlying157 rfl rfl rfl rfl rfl rfl) ?_
    rintro _ _ ⟨g0, rfl, rfl⟩
    refine zT (ot_call (ks := [0, 1, 4]) rfl rfl rfl Tryz.call51 rfl (hCc ) rfl) ?_
    rintro v0 _ ⟨m0, hp0, rfl⟩
    obtain ⟨C0, hp0⟩ := hp0
    obtain ⟨e0, hp0⟩ := hp0
    obtain ⟨rfl, rfl⟩ := hp0
    simp only [zca, zna, splice, spliceL]
    refine zO 2 rfl ?_
    refine zS 4 ?_
    simp only [setAt, splice, spliceL, Value.cells]
    refine zO 10 rfl ?_
    refine zQ ?_
    refine at_end ?_
    refine at_fold (A := NodeA g ⟨s.ep, s.ld, s.lg.take (bothL s.lg f.lg) ++ nextL s.lg f.lg most, s.op⟩) [4, 0, 3, 3] rfl (fun h s => node_mk (A := C0) (c := e0) (mb := mb) (cg := cg) h s) ?_
    refine at_fold (A := NodeA g' f) [4, 3, 3, 3] rfl (fun h s => node_mk (A := A2) (c := c2) (mb := mb2) (cg := cg2) h s) ?_
    refine at_fin (rsV rfl (res_tmp rfl)) ?_
    refine ⟨_, ⟨by rw [hnl], rfl⟩, ?_⟩
    exact zE [1, 0] [0, 0]
 have hi2 : decide (f.ep = s.ep) = false := by simp [heq]
 have hi3 : decide (f.ep > s.ep) = true := by simp; omega
 have hcp : copyN s f most = ((⟨f.ep, false, s.lg.take (bothL s.lg f.lg) ++ nextL s.lg f.lg most, []⟩ : ND), ((nextL s.lg f.lg most).length : Int)) := by
  have hc : ¬ (f.ep < s.ep ∨ (f.ep = s.ep ∧ s.ld = true)) := by
   rintro (h | ⟨h, _⟩)
   ·exact hlt h
   ·exact heq h
  unfold copyN
  rw [if_neg hc, if_pos (by omega)]
 rw [hcp]
 refine zH fun zq zQ => ?_
 refine zC 7 rfl ?_
 refine at_draw _ [] 1000 [(2, 0), (2, 1), (2, 2), (1, 3), (2, 4), (2, 5), (2, 6), (1, 7), (2, 8), (2, 9), (2, 10), (2, 11), (2, 12), (1, 13), (2, 14), (2, 15), (2, 16), (1, 17), (2, 18), (2, 19), (2, 20), (2, 21), (2, 22), (1, 23), (2, 24), (2, 25)] (by kernel_rfl) (by kernel_rfl) (fun _ s => (s.pulls (ks := [0, 3]) rfl).left) ?_
 refine aq_p (ov_move rfl rfl) rfl rfl rfl ?_
 refine aq_p (ov_nilCheck rfl rfl) rfl rfl rfl ?_
 refine aq_p (ov_fieldAddr (k := 0) (r := 0) rfl rfl rfl rfl) rfl rfl rfl ?_
 refine aq_v (ov_load rfl rfl rfl (fun _ s => s.ld (k := 1) rfl rfl)) rfl rfl rfl ?_
 refine aq_p (ov_move rfl rfl) rfl rfl rfl ?_
 refine aq_p (ov_nilCheck rfl rfl) rfl rfl rfl ?_
 refine aq_p (ov_fieldAddr (k := 0) (r := 0) rfl rfl rfl rfl) rfl rfl rfl ?_
 refine aq_v (ov_load rfl rfl rfl (fun _ s => s.ld (k := 0) rfl rfl)) rfl rfl rfl ?_
 refine aq_p (ov_int rfl rfl rfl rfl) rfl rfl rfl ?_
 refine aq_p (ov_move rfl rfl) rfl rfl rfl ?_
 refine zrF 18 rfl (decide_eq_false (by omega)) ?_
 refine aq_wanted (j := 9) rfl ?_
 refine aq_p (ov_move rfl rfl) rfl rfl rfl ?_
 refine aq_wanted (j := 9) rfl ?_
 refine aq_p (ov_nilCheck rfl rfl) rfl rfl rfl ?_
 refine aq_wanted (j := 9) rfl ?_
 refine aq_p (ov_fieldAddr (k := 0) (r := 0) rfl rfl rfl rfl) rfl rfl rfl ?_
 refine aq_wanted (j := 9) rfl ?_
 refine aq_v (ov_load rfl rfl rfl (fun _ s => s.ld (k := 1) rfl rfl)) rfl rfl rfl ?_
 refine aq_wanted (j := 9) rfl ?_
 refine aq_p (ov_move rfl rfl) rfl rfl rfl ?_
 refine aq_wanted (j := 9) rfl ?_
 refine aq_p (ov_nilCheck rfl rfl) rfl rfl rfl ?_
 refine aq_wanted (j := 9) rfl ?_
 refine aq_p (ov_fieldAddr (k := 0) (r := 0) rfl rfl rfl rfl) rfl rfl rfl ?_
 refine aq_wanted (j := 9) rfl ?_
 refine aq_v (ov_load rfl rfl rfl (fun _ s => s.ld (k := 0) rfl rfl)) rfl rfl rfl ?_
 refine aq_wanted (j := 9) rfl ?_
 refine aq_p (ov_int rfl rfl rfl rfl) rfl rfl rfl ?_
 refine aq_wanted (j := 9) rfl ?_
 refine aq_p (ov_move rfl rfl) rfl rfl rfl ?_
 refine zrF 28 rfl (decide_eq_false (by omega)) ?_
 refine aq_unwanted (j := 19) rfl rfl rfl rfl rfl ?_
 refine aq_unwanted (j := 19) rfl rfl rfl rfl rfl ?_
 refine aq_unwanted (j := 19) rfl rfl rfl rfl rfl ?_
 refine aq_unwanted (j := 19) rfl rfl rfl rfl rfl ?_
 refine aq_wanted (j := 9) rfl ?_
 refine aq_p (ov_pick_f rfl rfl rfl) rfl rfl rfl ?_
 refine aq_p (ov_pick_f rfl rfl rfl) rfl rfl rfl ?_
 refine aq_nil ?_
 refine zX 6 rfl ?_
 refine at_draw _ [] 1000 [(2, 0), (2, 1), (2, 2), (1, 3), (2, 4), (2, 5), (2, 6), (1, 7), (2, 8)] (by kernel_rfl) (by kernel_rfl) (fun _ s => (s.pulls (ks := [0, 3]) rfl).left) ?_
 refine aq_p (ov_move rfl rfl) rfl rfl rfl ?_
 refine aq_p (ov_nilCheck rfl rfl) rfl rfl rfl ?_
 refine aq_p (ov_fieldAddr (k := 0) (r := 0) rfl rfl rfl rfl) rfl rfl rfl ?_
 refine aq_v (ov_load rfl rfl rfl (fun _ s => s.ld (k := 1) rfl rfl)) rfl rfl rfl ?_
 refine aq_p (ov_move rfl rfl) rfl rfl rfl ?_
 refine aq_p (ov_nilCheck rfl rfl) rfl rfl rfl ?_
 refine aq_p (ov_fieldAddr (k := 0) (r := 0) rfl rfl rfl rfl) rfl rfl rfl ?_
 refine aq_v (ov_load rfl rfl rfl (fun _ s => s.ld (k := 0) rfl rfl)) rfl rfl rfl ?_
 refine aq_p (ov_int rfl rfl rfl rfl) rfl rfl rfl ?_
 refine aq_nil ?_
 refine zX 1 rfl ?_
 refine zcT rfl (decide_eq_true (by omega)) ?_
 refine zCM [(4,_,_,_)] ⟨rfl,trivial⟩ [0] 6 rfl ?_
 refine at_fold (A := NodeA g s) [0, 0, 0, 0] rfl (fun h s => node_mk (A := A) (c := c) (mb := mb) (cg := cg) h s) ?_
 refine zcall [0] rfl rfl rfl Tryz.call33 rfl (T33 _ _ _) rfl ?_
 simp only [zca, zna, splice, spliceL]
 refine zO 9 rfl ?_
 refine at_node 0 rfl fun A3 c3 mb3 cg3 => ?_
 refine at_rowLen 1 rfl (fun hle3 _ => ?_)
  
 refine at_loopK [50, 51, 52, 53, 54, 55, 56, 57, 58, 59, 60, 61, 62, 63, 64, 65, 66, 67, 68, 69, 70, 71, 72, 73, 74, 75, 76, 77, 78, 79, 80, 81, 7] (fun i : Nat => i ≤ s.lg.length ∧ i ≤ f.lg.length ∧ s.lg.take i = f.lg.take i) (fun i => [(7, .int .i64 (i : Nat))]) (fun i q => q) (fun i => s.lg.length - i) 0 ⟨Nat.zero_le _, Nat.zero_le _, rfl⟩ ⟨rfl, trivial⟩ (fun _ s => s) ?_
 rintro k ⟨hk1, hk2, hk3⟩
 by_cases hk4 : k < s.lg.length ∧ k < f.lg.length
 ·have hi4 : decide ((k : Int) < min (s.lg.length : Int) (f.lg.length : Int)) = true := by simp; omega
  obtain ⟨x, hget⟩ : ∃ x, s.lg[k]? = some x := ⟨_, List.getElem?_eq_getElem hk4.1⟩
  obtain ⟨y, hget2⟩ : ∃ y, f.lg[k]? = some y := ⟨_, List.getElem?_eq_getElem hk4.2⟩
  by_cases hxy : x = y
  ·subst hxy
   refine zC 2 rfl ?_
   refine at_draw _ [] 1000 [(2, 0), (2, 1), (2, 2), (2, 3), (1, 4), (1, 5), (2, 6), (2, 7), (2, 8), (1, 9), (1, 10), (1, 11), (2, 12), (2, 13), (2, 14), (2, 15), (2, 16), (1, 17), (2, 18), (1, 19), (1, 20), (2, 21), (2, 22), (2, 23), (1, 24), (2, 25), (1, 26), (1, 27), (2, 28), (2, 29)] (by kernel_rfl) (by kernel_rfl) (fun _ s => (s.pulls (ks := [0, 0, 0, 0, 0, 0, 0, 0]) rfl).left) ?_
   refine aq_p (ov_move rfl rfl) rfl rfl rfl ?_
   refine aq_p (ov_move rfl rfl) rfl rfl rfl ?_
   refine aq_p (ov_nilCheck rfl rfl) rfl rfl rfl ?_
   refine aq_p (ov_fieldAddr (k := 2) (r := 2) rfl rfl rfl rfl) rfl rfl rfl ?_
   refine aq_v (ov_load rfl rfl rfl (fun _ s => s.ld (k := 0) rfl rfl)) rfl rfl rfl ?_
   refine aq_v (ov_len_slice rfl Tryz.underlying43 rfl) rfl rfl rfl ?_
   refine aq_p (ov_move rfl rfl) rfl rfl rfl ?_
   refine aq_p (ov_nilCheck rfl rfl) rfl rfl rfl ?_
   refine aq_p (ov_fieldAddr (k := 2) (r := 2) rfl rfl rfl rfl) rfl rfl rfl ?_
   refine aq_v (ov_load rfl rfl rfl (fun _ s => s.ld (k := 4) rfl rfl)) rfl rfl rfl ?_
   refine aq_v (ov_len_slice rfl Tryz.underlying43 rfl) rfl rfl rfl ?_
   refine aq_v (ov_min rfl rfl rfl) rfl rfl rfl ?_
   refine aq_p (ov_int rfl rfl rfl rfl) rfl rfl rfl ?_
   refine aq_p (ov_move rfl rfl) rfl rfl rfl ?_
   refine zrT 63 rfl (by first | assumption | (rw [Bool.not_eq_true']; exact decide_eq_false (by omega))) ?_
   refine aq_wanted (j := 13) rfl ?_
   refine aq_p (ov_move rfl rfl) rfl rfl rfl ?_
   refine aq_wanted (j := 13) rfl ?_
   refine aq_p (ov_nilCheck rfl rfl) rfl rfl rfl ?_
   refine aq_wanted (j := 13) rfl ?_
   refine aq_p (ov_fieldAddr (k := 2) (r := 2) rfl rfl rfl rfl) rfl rfl rfl ?_
   refine aq_wanted (j := 13) rfl ?_
   refine aq_v (ov_load rfl rfl rfl (fun _ s => s.ld (k := 0) rfl rfl)) rfl rfl rfl ?_
   refine aq_wanted (j := 13) rfl ?_
   refine aq_p (ov_move rfl rfl) rfl rfl rfl ?_
   refine aq_wanted (j := 13) rfl ?_
   refine aq_v (ov_indexRd (fun _ s => s.rd (k := 1) rfl) rfl Tryz.underlying43 rfl rfl rfl hget) rfl rfl rfl ?_
   refine aq_wanted (j := 13) rfl ?_
   refine aq_v (ov_loadRdS (vs := [_, _]) (fun _ s => s.rd (k := 1) rfl) rfl rfl rfl hget rfl rfl) rfl rfl rfl ?_
   refine aq_wanted (j := 13) rfl ?_
   refine aq_p (ov_move rfl rfl) rfl rfl rfl ?_
   refine aq_wanted (j := 13) rfl ?_
   refine aq_p (ov_nilCheck rfl rfl) rfl rfl rfl ?_
   refine aq_wanted (j := 13) rfl ?_
   refine aq_p (ov_fieldAddr (k := 2) (r := 2) rfl rfl rfl rfl) rfl rfl rfl ?_
   refine aq_wanted (j := 13) rfl ?_
   refine aq_v (ov_load rfl rfl rfl (fun _ s => s.ld (k := 4) rfl rfl)) rfl rfl rfl ?_
   refine aq_wanted (j := 13) rfl ?_
   refine aq_p (ov_move rfl rfl) rfl rfl rfl ?_
   refine aq_wanted (j := 13) rfl ?_
   refine aq_v (ov_indexRd (fun _ s => s.rd (k := 5) rfl) rfl Tryz.underlying43 rfl rfl rfl hget2) rfl rfl rfl ?_
   refine aq_wanted (j := 13) rfl ?_
   refine aq_v (ov_loadRdS (vs := [_, _]) (fun _ s => s.rd (k := 5) rfl) rfl rfl rfl hget2 rfl rfl) rfl rfl rfl ?_
   refine aq_wanted (j := 13) rfl ?_
   refine aq_p (ov_eqS rfl (by kernel_rfl) rfl rfl rfl rfl) rfl rfl rfl ?_
   refine aq_p (ov_pick_t rfl rfl rfl) rfl rfl rfl ?_
   refine aq_nil ?_
   refine zX 1 rfl ?_
   refine zcT rfl (by simp; done) ?_
   refine zC 5 rfl ?_
   refine zV zI ?_
   refine zOR 4 rfl ?_
   refine at_roundF (k + 1) ⟨hk4.1, hk4.2, both_step hk3 hget hget2⟩ (by omega) ⟨rfl, trivial⟩ rfl ?_
   exact zE [0, 0, 0, 0, 0, 0, 0, 0] []
  ·have hb : bothL s.lg f.lg = k := both_stop hk3 hget hget2 hxy
   have hi5 : (decide (x.1 = y.1) && decide ((⟨x.2.toArray⟩ : ByteArray) = ⟨y.2.toArray⟩)) = false := by rw [en_eq]; simp [hxy]
   obtain ⟨hiN, hhi⟩ : ∃ h : Nat, h = min f.lg.length (k + (max (min most 200) 0).toNat) := ⟨_, rfl⟩
   have hnx := next_eq (a := s.lg) (b := f.lg) most hb hk2
   rw [← hhi] at hnx
   have hnl : (nextL s.lg f.lg most).length = hiN - k := by rw [hnx, List.length_take, List.length_drop]; omega
   have htk : (s.lg.take k).length = k := by rw [List.length_take]; omega
   have hCc {gv : Nat} := concat2 w0 (gv := gv) (A := A3) (B := A2) (c := c3) (d := c2) (i := (s.lg.take k).length) (j := k) (k := hiN - k) (c' := c3) (xs := s.lg) (ys := f.lg) hlen hlen2 hle2 (z := s.lg.take (bothL s.lg f.lg) ++ nextL s.lg f.lg most) (by rw [htk, hb, hnx]) (by omega) (by omega)
   refine zC 2 rfl ?_
   refine at_draw _ [] 1000 [(2, 0), (2, 1), (2, 2), (2, 3), (1, 4), (1, 5), (2, 6), (2, 7), (2, 8), (1, 9), (1, 10), (1, 11), (2, 12), (2, 13), (2, 14), (2, 15), (2, 16), (1, 17), (2, 18), (1, 19), (1, 20), (2, 21), (2, 22), (2, 23), (1, 24), (2, 25), (1, 26), (1, 27), (2, 28), (2, 29)] (by kernel_rfl) (by kernel_rfl) (fun _ s => (s.pulls (ks := [0, 0, 0, 0, 0, 0, 0, 0]) rfl).left) ?_
   refine aq_p (ov_move rfl rfl) rfl rfl rfl ?_
   refine aq_p (ov_move rfl rfl) rfl rfl rfl ?_
   refine aq_p (ov_nilCheck rfl rfl) rfl rfl rfl ?_
   refine aq_p (ov_fieldAddr (k := 2) (r := 2) rfl rfl rfl rfl) rfl rfl rfl ?_
   refine aq_v (ov_load rfl rfl rfl (fun _ s => s.ld (k := 0) rfl rfl)) rfl rfl rfl ?_
   refine aq_v (ov_len_slice rfl Tryz.underlying43 rfl) rfl rfl rfl ?_
   refine aq_p (ov_move rfl rfl) rfl rfl rfl ?_
   refine aq_p (ov_nilCheck rfl rfl) rfl rfl rfl ?_
   refine aq_p (ov_fieldAddr (k := 2) (r := 2) rfl rfl rfl rfl) rfl rfl rfl ?_
   refine aq_v (ov_load rfl rfl rfl (fun _ s => s.ld (k := 4) rfl rfl)) rfl rfl rfl ?_
   refine aq_v (ov_len_slice rfl Tryz.underlying43 rfl) rfl rfl rfl ?_
   refine aq_v (ov_min rfl rfl rfl) rfl rfl rfl ?_
   refine aq_p (ov_int rfl rfl rfl rfl) rfl rfl rfl ?_
   refine aq_p (ov_move rfl rfl) rfl rfl rfl ?_
   refine zrT 63 rfl (by first | assumption | (rw [Bool.not_eq_true']; exact decide_eq_false (by omega))) ?_
   refine aq_wanted (j := 13) rfl ?_
   refine aq_p (ov_move rfl rfl) rfl rfl rfl ?_
   refine aq_wanted (j := 13) rfl ?_
   refine aq_p (ov_nilCheck rfl rfl) rfl rfl rfl ?_
   refine aq_wanted (j := 13) rfl ?_
   refine aq_p (ov_fieldAddr (k := 2) (r := 2) rfl rfl rfl rfl) rfl rfl rfl ?_
   refine aq_wanted (j := 13) rfl ?_
   refine aq_v (ov_load rfl rfl rfl (fun _ s => s.ld (k := 0) rfl rfl)) rfl rfl rfl ?_
   refine aq_wanted (j := 13) rfl ?_
   refine aq_p (ov_move rfl rfl) rfl rfl rfl ?_
   refine aq_wanted (j := 13) rfl ?_
   refine aq_v (ov_indexRd (fun _ s => s.rd (k := 1) rfl) rfl Tryz.underlying43 rfl rfl rfl hget) rfl rfl rfl ?_
   refine aq_wanted (j := 13) rfl ?_
   refine aq_v (ov_loadRdS (vs := [_, _]) (fun _ s => s.rd (k := 1) rfl) rfl rfl rfl hget rfl rfl) rfl rfl rfl ?_
   refine aq_wanted (j := 13) rfl ?_
   refine aq_p (ov_move rfl rfl) rfl rfl rfl ?_
   refine aq_wanted (j := 13) rfl ?_
   refine aq_p (ov_nilCheck rfl rfl) rfl rfl rfl ?_
   refine aq_wanted (j := 13) rfl ?_
   refine aq_p (ov_fieldAddr (k := 2) (r := 2) rfl rfl rfl rfl) rfl rfl rfl ?_
   refine aq_wanted (j := 13) rfl ?_
   refine aq_v (ov_load rfl rfl rfl (fun _ s => s.ld (k := 4) rfl rfl)) rfl rfl rfl ?_
   refine aq_wanted (j := 13) rfl ?_
   refine aq_p (ov_move rfl rfl) rfl rfl rfl ?_
   refine aq_wanted (j := 13) rfl ?_
   refine aq_v (ov_indexRd (fun _ s => s.rd (k := 5) rfl) rfl Tryz.underlying43 rfl rfl rfl hget2) rfl rfl rfl ?_
   refine aq_wanted (j := 13) rfl ?_
   refine aq_v (ov_loadRdS (vs := [_, _]) (fun _ s => s.rd (k := 5) rfl) rfl rfl rfl hget2 rfl rfl) rfl rfl rfl ?_
   refine aq_wanted (j := 13) rfl ?_
   refine aq_p (ov_eqS rfl (by kernel_rfl) rfl rfl rfl rfl) rfl rfl rfl ?_
   refine aq_p (ov_pick_t rfl rfl rfl) rfl rfl rfl ?_
   refine aq_nil ?_
   refine zX 1 rfl ?_
   refine zcF rfl (by first | assumption | (rw [Bool.not_eq_false']; exact decide_eq_true (by omega))) ?_
   refine zC 6 rfl ?_
   refine at_draw _ [] 1000 [(2, 0), (2, 1), (2, 2), (1, 3), (2, 4), (2, 5), (2, 6), (2, 7), (1, 8), (1, 9), (2, 10), (2, 11), (1, 12), (1, 13), (2, 14), (1, 15), (1, 16), (2, 17)] (by kernel_rfl) (by kernel_rfl) (fun _ s => (s.pulls (ks := [0, 3]) rfl).left) ?_
   refine aq_p (ov_move rfl rfl) rfl rfl rfl ?_
   refine aq_p (ov_nilCheck rfl rfl) rfl rfl rfl ?_
   refine aq_p (ov_fieldAddr (k := 2) (r := 2) rfl rfl rfl rfl) rfl rfl rfl ?_
   refine aq_v (ov_load rfl rfl rfl (fun _ s => s.ld (k := 1) rfl rfl)) rfl rfl rfl ?_
   refine aq_p (ov_move rfl rfl) rfl rfl rfl ?_
   refine aq_p (ov_move rfl rfl) rfl rfl rfl ?_
   refine aq_p (ov_nilCheck rfl rfl) rfl rfl rfl ?_
   refine aq_p (ov_fieldAddr (k := 2) (r := 2) rfl rfl rfl rfl) rfl rfl rfl ?_
   refine aq_v (ov_load rfl rfl rfl (fun _ s => s.ld (k := 1) rfl rfl)) rfl rfl rfl ?_
   refine aq_v (ov_len_slice rfl Tryz.underlying43 rfl) rfl rfl rfl ?_
   refine aq_p (ov_move rfl rfl) rfl rfl rfl ?_
   refine aq_p (ov_move rfl rfl) rfl rfl rfl ?_
   refine aq_v (ov_min rfl rfl rfl) rfl rfl rfl ?_
   refine aq_v (ov_max rfl rfl rfl) rfl rfl rfl ?_
   refine aq_p (zI) rfl rfl rfl ?_
   refine aq_v (ov_min rfl rfl rfl) rfl rfl rfl ?_
   refine at_reval 97 (.int .i64 (hiN : Nat)) rfl (congrArg (Value.int .i64) (by omega)) ?_
   refine aq_v (ov_sliceMidC (size := 2) (k := hiN) (j := k) rfl Tryz.underlying43 rfl rfl rfl rfl (by omega) (by omega)) rfl rfl rfl ?_
   refine aq_p (ov_assign rfl rfl) rfl rfl rfl ?_
   refine aq_nil ?_
   refine zXM [(0,_,_,_)] ⟨rfl,trivial⟩ [0] 9 rfl ?_
   refine zV (ov_sliceTo rfl Tryz.underlying43 rfl rfl rfl (by first | assumption | omega) (by assumption)) ?_
   refine zO 1 rfl ?_
   refine zT (ot_buildSlice (cs := [_, _]) rfl Tryz.underlying157 rfl rfl rfl rfl rfl rfl) ?_
   rintro _ _ ⟨g0, rfl, rfl⟩
   refine zT (ot_call (ks := [0, 1, 4]) rfl rfl rfl Tryz.call51 rfl (hCc ) rfl) ?_
   rintro v0 _ ⟨m0, hp0, rfl⟩
   obtain ⟨C0, hp0⟩ := hp0
   obtain ⟨e0, hp0⟩ := hp0
   obtain ⟨rfl, rfl⟩ := hp0
   simp only [zca, zna, splice, spliceL]
   refine zO 2 rfl ?_
   refine zS 4 ?_
   simp only [setAt, splice, spliceL, Value.cells]
   refine zO 10 rfl ?_
   refine zQ ?_
   refine at_end ?_
   refine at_fold (A := NodeA g ⟨f.ep, false, s.lg.take (bothL s.lg f.lg) ++ nextL s.lg f.lg most, []⟩) [4, 0, 3, 3] rfl (fun h s => node_mk (A := C0) (c := e0) (mb := mb3) (cg := cg3) h s) ?_
   refine at_fold (A := NodeA g' f) [4, 3, 3, 3] rfl (fun h s => node_mk (A := A2) (c := c2) (mb := mb2) (cg := cg2) h s) ?_
   refine at_fin (rsV rfl (res_tmp rfl)) ?_
   refine ⟨_, ⟨by rw [hnl], rfl⟩, ?_⟩
   exact zE [1, 0] [0, 0]
 ·have hi4 : decide ((k : Int) < min (s.lg.length : Int) (f.lg.length : Int)) = false := by simp; omega
  have hb : bothL s.lg f.lg = k := both_end hk3 hk1 hk2 (by omega)
  obtain ⟨hiN, hhi⟩ : ∃ h : Nat, h = min f.lg.length (k + (max (min most 200) 0).toNat) := ⟨_, rfl⟩
  have hnx := next_eq (a := s.lg) (b := f.lg) most hb hk2
  rw [← hhi] at hnx
  have hnl : (nextL s.lg f.lg most).length = hiN - k := by rw [hnx, List.length_take, List.length_drop]; omega
  have htk : (s.lg.take k).length = k := by rw [List.length_take]; omega
  have hCc {gv : Nat} := concat2 w0 (gv := gv) (A := A3) (B := A2) (c := c3) (d := c2) (i := (s.lg.take k).length) (j := k) (k := hiN - k) (c' := c3) (xs := s.lg) (ys := f.lg) hlen hlen2 hle2 (z := s.lg.take (bothL s.lg f.lg) ++ nextL s.lg f.lg most) (by rw [htk, hb, hnx]) (by omega) (by omega)
  refine zC 2 rfl ?_
  refine at_draw _ [] 1000 [(2, 0), (2, 1), (2, 2), (2, 3), (1, 4), (1, 5), (2, 6), (2, 7), (2, 8), (1, 9), (1, 10), (1, 11), (2, 12), (2, 13), (2, 14), (2, 15), (2, 16), (1, 17), (2, 18), (1, 19), (1, 20), (2, 21), (2, 22), (2, 23), (1, 24), (2, 25), (1, 26), (1, 27), (2, 28), (2, 29)] (by kernel_rfl) (by kernel_rfl) (fun _ s => (s.pulls (ks := [0, 3]) rfl).left) ?_
  refine aq_p (ov_move rfl rfl) rfl rfl rfl ?_
  refine aq_p (ov_move rfl rfl) rfl rfl rfl ?_
  refine aq_p (ov_nilCheck rfl rfl) rfl rfl rfl ?_
  refine aq_p (ov_fieldAddr (k := 2) (r := 2) rfl rfl rfl rfl) rfl rfl rfl ?_
  refine aq_v (ov_load rfl rfl rfl (fun _ s => s.ld (k := 0) rfl rfl)) rfl rfl rfl ?_
  refine aq_v (ov_len_slice rfl Tryz.underlying43 rfl) rfl rfl rfl ?_
  refine aq_p (ov_move rfl rfl) rfl rfl rfl ?_
  refine aq_p (ov_nilCheck rfl rfl) rfl rfl rfl ?_
  refine aq_p (ov_fieldAddr (k := 2) (r := 2) rfl rfl rfl rfl) rfl rfl rfl ?_
  refine aq_v (ov_load rfl rfl rfl (fun _ s => s.ld (k := 1) rfl rfl)) rfl rfl rfl ?_
  refine aq_v (ov_len_slice rfl Tryz.underlying43 rfl) rfl rfl rfl ?_
  refine aq_v (ov_min rfl rfl rfl) rfl rfl rfl ?_
  refine aq_p (ov_int rfl rfl rfl rfl) rfl rfl rfl ?_
  refine aq_p (ov_move rfl rfl) rfl rfl rfl ?_
  refine zrF 63 rfl (by first | assumption | (rw [Bool.not_eq_false']; exact decide_eq_true (by omega))) ?_
  refine aq_unwanted (j := 13) rfl rfl rfl rfl rfl ?_
  refine aq_unwanted (j := 13) rfl rfl rfl rfl rfl ?_
  refine aq_unwanted (j := 13) rfl rfl rfl rfl rfl ?_
  refine aq_unwanted (j := 13) rfl rfl rfl rfl rfl ?_
  refine aq_unwanted (j := 13) rfl rfl rfl rfl rfl ?_
  refine aq_unwanted (j := 13) rfl rfl rfl rfl rfl ?_
  refine aq_unwanted (j := 13) rfl rfl rfl rfl rfl ?_
  refine aq_unwanted (j := 13) rfl rfl rfl rfl rfl ?_
  refine aq_unwanted (j := 13) rfl rfl rfl rfl rfl ?_
  refine aq_unwanted (j := 13) rfl rfl rfl rfl rfl ?_
  refine aq_unwanted (j := 13) rfl rfl rfl rfl rfl ?_
  refine aq_unwanted (j := 13) rfl rfl rfl rfl rfl ?_
  refine aq_unwanted (j := 13) rfl rfl rfl rfl rfl ?_
  refine aq_unwanted (j := 13) rfl rfl rfl rfl rfl ?_
  refine aq_unwanted (j := 13) rfl rfl rfl rfl rfl ?_
  refine aq_p (ov_pick_f rfl rfl rfl) rfl rfl rfl ?_
  refine aq_nil ?_
  refine zX 8 rfl ?_
  refine at_draw _ [] 1000 [(2, 0), (2, 1), (2, 2), (1, 3), (2, 4), (2, 5), (2, 6), (2, 7), (1, 8), (1, 9), (2, 10), (2, 11), (1, 12), (1, 13), (2, 14), (1, 15), (1, 16), (2, 17)] (by kernel_rfl) (by kernel_rfl) (fun _ s => (s.pulls (ks := [0, 3]) rfl).left) ?_
  refine aq_p (ov_move rfl rfl) rfl rfl rfl ?_
  refine aq_p (ov_nilCheck rfl rfl) rfl rfl rfl ?_
  refine aq_p (ov_fieldAddr (k := 2) (r := 2) rfl rfl rfl rfl) rfl rfl rfl ?_
  refine aq_v (ov_load rfl rfl rfl (fun _ s => s.ld (k := 1) rfl rfl)) rfl rfl rfl ?_
  refine aq_p (ov_move rfl rfl) rfl rfl rfl ?_
  refine aq_p (ov_move rfl rfl) rfl rfl rfl ?_
  refine aq_p (ov_nilCheck rfl rfl) rfl rfl rfl ?_
  refine aq_p (ov_fieldAddr (k := 2) (r := 2) rfl rfl rfl rfl) rfl rfl rfl ?_
  refine aq_v (ov_load rfl rfl rfl (fun _ s => s.ld (k := 1) rfl rfl)) rfl rfl rfl ?_
  refine aq_v (ov_len_slice rfl Tryz.underlying43 rfl) rfl rfl rfl ?_
  refine aq_p (ov_move rfl rfl) rfl rfl rfl ?_
  refine aq_p (ov_move rfl rfl) rfl rfl rfl ?_
  refine aq_v (ov_min rfl rfl rfl) rfl rfl rfl ?_
  refine aq_v (ov_max rfl rfl rfl) rfl rfl rfl ?_
  refine aq_p (zI) rfl rfl rfl ?_
  refine aq_v (ov_min rfl rfl rfl) rfl rfl rfl ?_
  refine at_reval 97 (.int .i64 (hiN : Nat)) rfl (congrArg (Value.int .i64) (by omega)) ?_
  refine aq_v (ov_sliceMidC (size := 2) (k := hiN) (j := k) rfl Tryz.underlying43 rfl rfl rfl rfl (by omega) (by omega)) rfl rfl rfl ?_
  refine aq_p (ov_assign rfl rfl) rfl rfl rfl ?_
  refine aq_nil ?_
  refine zXM [(0,_,_,_)] ⟨rfl,trivial⟩ [0] 9 rfl ?_
  refine zV (ov_sliceTo rfl Tryz.underlying43 rfl rfl rfl (by first | assumption | omega) (by assumption)) ?_
  refine zO 1 rfl ?_
  refine zT (ot_buildSlice (cs := [_, _]) rfl Tryz.underlying157 rfl rfl rfl rfl rfl rfl) ?_
  rintro _ _ ⟨g0, rfl, rfl⟩
  refine zT (ot_call (ks := [0, 1, 4]) rfl rfl rfl Tryz.call51 rfl (hCc ) rfl) ?_
  rintro v0 _ ⟨m0, hp0, rfl⟩
  obtain ⟨C0, hp0⟩ := hp0
  obtain ⟨e0, hp0⟩ := hp0
  obtain ⟨rfl, rfl⟩ := hp0
  simp only [zca, zna, splice, spliceL]
  refine zO 2 rfl ?_
  refine zS 4 ?_
  simp only [setAt, splice, spliceL, Value.cells]
  refine zO 10 rfl ?_
  refine zQ ?_
  refine at_end ?_
  refine at_fold (A := NodeA g ⟨f.ep, false, s.lg.take (bothL s.lg f.lg) ++ nextL s.lg f.lg most, []⟩) [4, 0, 3, 3] rfl (fun h s => node_mk (A := C0) (c := e0) (mb := mb3) (cg := cg3) h s) ?_
  refine at_fold (A := NodeA g' f) [4, 3, 3, 3] rfl (fun h s => node_mk (A := A2) (c := c2) (mb := mb2) (cg := cg2) h s) ?_
  refine at_fin (rsV rfl (res_tmp rfl)) ?_
  refine ⟨_, ⟨by rw [hnl], rfl⟩, ?_⟩
  exact zE [1, 0] [0, 0]
end Go.Proofs.YtighdkdomfpadaaGreatDoor
