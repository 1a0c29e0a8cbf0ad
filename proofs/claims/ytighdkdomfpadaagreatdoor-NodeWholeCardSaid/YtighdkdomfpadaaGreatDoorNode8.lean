/- The law of nodes, walked: Same, Alike, awake. -/
import Derived.Test.YtighdkdomfpadaaGreatDoorProg
import Derived.Test.YtighdkdomfpadaaGreatDoorNode7
import Derived.Test.YtighdkdomfpadaaGreatDoorRefPlan2
import Derived.Test.YtighdkdomfpadaaGreatDoorSLB
import Derived.KernelRfl
set_option linter.unusedSimpArgs false
set_option linter.unusedVariables false
set_option maxRecDepth 100000
set_option maxHeartbeats 4000000
namespace Go.Proofs.YtighdkdomfpadaaGreatDoor
open Go Go.Proofs.YtighdkdomfpadaaGreatDoor.SL Go.RowKit
theorem T17 (w0 : World) {A B : Option Addr} {c d : Nat} {xs ys : List Ent} (hr : Rd enE w0 2 A xs) (hr2 : Rd enE w0 2 B ys) (hm : xs.length ≤ 1000000) (hm2 : ys.length ≤ 1000000) :
 Tri Tryz.prog w0 17 [.slice A xs.length c, .slice B ys.length d] [] fun v m => v = .bool (decide (xs = ys)) ∧ m = [] := by
 refine tri_k Tryz.func17 rfl rfl fun F => ?_
 simp only [Tryz.ntmps17, argEnv, List.cons_append, List.nil_append]
 by_cases hil : xs.length = ys.length
 ·refine zH fun zq zQ => ?_
  refine zC 15 rfl ?_
  refine zcF rfl (by first | assumption | (rw [Bool.not_eq_false']; exact decide_eq_true (by omega))) ?_
  refine zC 9 rfl ?_
  refine at_loopK [11, 12, 13, 14, 17, 18, 19, 20, 21, 22, 23, 24, 25, 4, 15, 16, 5] (fun k => k ≤ xs.length ∧ xs.take k = ys.take k) (fun k => [(5, .int .i64 (k : Nat))]) (fun _ l => l) (fun k => xs.length - k) 0 ⟨Nat.zero_le _, rfl⟩ ⟨rfl, trivial⟩ (fun _ s => s) ?_
  rintro k ⟨hk, hb⟩
  rcases Nat.lt_or_ge k xs.length with hlt | hge
  ·have hi1 : decide ((k : Int) < xs.length) = true := decide_eq_true (by omega)
   obtain ⟨x, hget⟩ : ∃ x, xs[k]? = some x := ⟨_, List.getElem?_eq_getElem hlt⟩
   obtain ⟨y, hget2⟩ : ∃ y, ys[k]? = some y := ⟨_, List.getElem?_eq_getElem (by omega)⟩
   have hd := en_eq x y
   by_cases he : x = y
   ·have hi2 : (!(decide (x.1 = y.1) && decide ((⟨x.2.toArray⟩ : ByteArray) = ⟨y.2.toArray⟩))) = false := by rw [hd, decide_eq_true he]; rfl
    refine zC 9 rfl ?_
    refine zcT rfl (decide_eq_true (by omega)) ?_
    refine zC 5 rfl ?_
    refine at_draw _ [] 1000 [(2, 0), (2, 1), (1, 2), (1, 3), (2, 4), (2, 5), (1, 6), (1, 7), (2, 8)] (by kernel_rfl) (by kernel_rfl) (fun _ s => (s.pulls (ks := []) rfl).left) ?_
    refine aq_p (ov_move rfl rfl) rfl rfl rfl ?_
    refine aq_p (ov_move rfl rfl) rfl rfl rfl ?_
    refine aq_v (ov_indexRd (fun _ s => hr.up s) rfl Tryz.underlying36 rfl rfl rfl hget) rfl rfl rfl ?_
    refine aq_v (ov_loadRdS (vs := [_, _]) (fun _ s => hr.up s) rfl rfl rfl hget rfl rfl) rfl rfl rfl ?_
    refine aq_p (ov_move rfl rfl) rfl rfl rfl ?_
    refine aq_p (ov_move rfl rfl) rfl rfl rfl ?_
    refine aq_v (ov_indexRd (fun _ s => hr2.up s) rfl Tryz.underlying36 rfl rfl rfl hget2) rfl rfl rfl ?_
    refine aq_v (ov_loadRdS (vs := [_, _]) (fun _ s => hr2.up s) rfl rfl rfl hget2 rfl rfl) rfl rfl rfl ?_
    refine aq_p (ov_neS rfl (by kernel_rfl) rfl rfl rfl rfl) rfl rfl rfl ?_
    refine aq_nil ?_
    refine zX 1 rfl ?_
    refine zcF rfl (by first | assumption | (rw [Bool.not_eq_false']; exact decide_eq_true (by omega))) ?_
    refine zC 5 rfl ?_
    refine zV zI ?_
    refine zOR 3 rfl ?_
    refine at_roundF (k + 1) ⟨hlt, by rw [List.take_add_one, List.take_add_one, hget, hget2, he, hb]⟩ (by omega) ⟨rfl, trivial⟩ rfl ?_
    exact zE [] []
   ·have hi2 : (!(decide (x.1 = y.1) && decide ((⟨x.2.toArray⟩ : ByteArray) = ⟨y.2.toArray⟩))) = true := by rw [hd, decide_eq_false he]; rfl
    have hne : ¬ xs = ys := fun e => by subst e; rw [hget] at hget2; exact he (Option.some.inj hget2)
    refine zC 9 rfl ?_
    refine zcT rfl (decide_eq_true (by omega)) ?_
    refine zC 5 rfl ?_
    refine at_draw _ [] 1000 [(2, 0), (2, 1), (1, 2), (1, 3), (2, 4), (2, 5), (1, 6), (1, 7), (2, 8)] (by kernel_rfl) (by kernel_rfl) (fun _ s => (s.pulls (ks := []) rfl).left) ?_
    refine aq_p (ov_move rfl rfl) rfl rfl rfl ?_
    refine aq_p (ov_move rfl rfl) rfl rfl rfl ?_
    refine aq_v (ov_indexRd (fun _ s => hr.up s) rfl Tryz.underlying36 rfl rfl rfl hget) rfl rfl rfl ?_
    refine aq_v (ov_loadRdS (vs := [_, _]) (fun _ s => hr.up s) rfl rfl rfl hget rfl rfl) rfl rfl rfl ?_
    refine aq_p (ov_move rfl rfl) rfl rfl rfl ?_
    refine aq_p (ov_move rfl rfl) rfl rfl rfl ?_
    refine aq_v (ov_indexRd (fun _ s => hr2.up s) rfl Tryz.underlying36 rfl rfl rfl hget2) rfl rfl rfl ?_
    refine aq_v (ov_loadRdS (vs := [_, _]) (fun _ s => hr2.up s) rfl rfl rfl hget2 rfl rfl) rfl rfl rfl ?_
    refine aq_p (ov_neS rfl (by kernel_rfl) rfl rfl rfl rfl) rfl rfl rfl ?_
    refine aq_nil ?_
    refine zX 1 rfl ?_
    refine zcT rfl (by first | assumption | (rw [Bool.not_eq_true']; exact decide_eq_false (by omega))) ?_
    refine zC 11 rfl ?_
    refine zQ ?_
    refine at_end ?_
    refine at_fin (rsV rfl (res_tmp rfl)) ?_
    refine ⟨_, ⟨by simp [hne], rfl⟩, ?_⟩
    exact zE [] []
  ·have hi1 : decide ((k : Int) < xs.length) = false := decide_eq_false (by omega)
   rw [List.take_of_length_le hge, List.take_of_length_le (by omega)] at hb
   refine zC 9 rfl ?_
   refine zcF rfl (decide_eq_false (by omega)) ?_
   refine zC 11 rfl ?_
   refine zQ ?_
   refine at_end ?_
   refine at_fin (rsV rfl (res_tmp rfl)) ?_
   refine ⟨_, ⟨by simp [hb], rfl⟩, ?_⟩
   exact zE [] []
 ·have hne : ¬ xs = ys := fun e => hil (by rw [e])
  have hi1 : (!decide ((xs.length : Int) = ys.length)) = true := by simp; omega
  refine zH fun zq zQ => ?_
  refine zC 15 rfl ?_
  refine zcT rfl (by first | assumption | (rw [Bool.not_eq_true']; exact decide_eq_false (by omega))) ?_
  refine zC 7 rfl ?_
  refine zQ ?_
  refine at_end ?_
  refine at_fin (rsV rfl (res_tmp rfl)) ?_
  refine ⟨_, ⟨by simp [hne], rfl⟩, ?_⟩
  exact zE [] []
theorem same15 (w0 : World) {A B : Option Addr} {c d c' d' : Nat} {xs ys : List Ent} (hm : xs.length ≤ 1000000) (hm2 : ys.length ≤ 1000000) :
    Tri Tryz.prog w0 17 [.slice A xs.length c, .slice B ys.length d] [Row enE 39 2 A c' xs, Row enE 39 2 B d' ys] fun v m => v = .bool (decide (xs = ys)) ∧ m = [Row enE 39 2 A c' xs, Row enE 39 2 B d' ys] :=
  (Tri.of_all fun w s => T17 w (s.rd (k := 0) rfl) (s.rd (k := 1) rfl) hm hm2).post fun v m ⟨m', ⟨h1, h2⟩, h3⟩ => ⟨h1, by rw [h3, h2]; rfl⟩
def rpV (r : RP) (B : Option Addr) (b : Nat) : Value := .agg #[.int .i64 r.er, .int .u64 r.ep, .int .u64 r.pl, .slice B r.tx.length b]
def alikeR (a b : RP) : Bool := decide (a.er = b.er) && (decide (a.ep = b.ep) && (decide (a.pl = b.pl) && decide (a.tx = b.tx)))
theorem T25 (w0 : World) {A B : Option Addr} {c d : Nat} (a b : RP) (hm : a.tx.length ≤ 1000000) (hm2 : b.tx.length ≤ 1000000) :
 Tri Tryz.prog w0 25 [.agg #[.int .i64 a.er, .int .u64 a.ep, .int .u64 a.pl, .slice A a.tx.length c], .agg #[.int .i64 b.er, .int .u64 b.ep, .int .u64 b.pl, .slice B b.tx.length d]] [Row bsE 9 1 A c a.tx, Row bsE 9 1 B d b.tx]
   fun v m => v = .bool (alikeR a b) ∧ m = [Row bsE 9 1 A c a.tx, Row bsE 9 1 B d b.tx] := by
 refine tri_k Tryz.func25 rfl rfl fun F => ?_
 simp only [Tryz.ntmps25, argEnv, List.cons_append, List.nil_append]
 have hT := T14 w0 (A := A) (B := B) (c := c) (d := d) (c' := c) (d' := d) (xs := a.tx) (ys := b.tx) (by omega) (by omega)
 by_cases h1 : a.er = b.er
 rotate_left
 ·have hi1 : decide (a.er = b.er) = false := by simp [h1]
  have hf : alikeR a b = false := by unfold alikeR; rw [hi1]; rfl
  refine zH fun zq zQ => ?_
  refine zC 2 rfl ?_
  refine zT (ot_boxA rfl rfl) ?_
  rintro _ _ ⟨g0, rfl, rfl⟩
  refine zT (ot_boxA rfl rfl) ?_
  rintro _ _ ⟨g1, rfl, rfl⟩
  refine zOM [(0,_,_,_),(1,_,_,_)] ⟨rfl,rfl,trivial⟩ [1,0] 11 rfl ?_
  refine zrF 10 rfl (decide_eq_false (by omega)) ?_
  refine zO 24 rfl ?_
  refine zQ ?_
  refine at_end ?_
  refine at_fin (rsV rfl (res_tmp rfl)) ?_
  refine ⟨_, ⟨by rw [hf], rfl⟩, ?_⟩
  exact zE [2, 2] [0, 0]
 have hi1 : decide (a.er = b.er) = true := by simp [h1]
 by_cases h2 : a.ep = b.ep
 rotate_left
 ·have hi2 : decide (a.ep = b.ep) = false := by simp [h2]
  have hf : alikeR a b = false := by unfold alikeR; rw [hi1, hi2]; rfl
  refine zH fun zq zQ => ?_
  refine zC 2 rfl ?_
  refine zT (ot_boxA rfl rfl) ?_
  rintro _ _ ⟨g0, rfl, rfl⟩
  refine zT (ot_boxA rfl rfl) ?_
  rintro _ _ ⟨g1, rfl, rfl⟩
  refine zOM [(0,_,_,_),(1,_,_,_)] ⟨rfl,rfl,trivial⟩ [1,0] 11 rfl ?_
  refine zrT 10 rfl (decide_eq_true (by omega)) ?_
  refine zOM [(0,_,_,_),(1,_,_,_)] ⟨rfl,rfl,trivial⟩ [1,0] 7 rfl ?_
  refine zrF 17 rfl (decide_eq_false (by omega)) ?_
  refine zO 17 rfl ?_
  refine zQ ?_
  refine at_end ?_
  refine at_fin (rsV rfl (res_tmp rfl)) ?_
  refine ⟨_, ⟨by rw [hf], rfl⟩, ?_⟩
  exact zE [2, 2] [0, 0]
 have hi2 : decide (a.ep = b.ep) = true := by simp [h2]
 by_cases h3 : a.pl = b.pl
 rotate_left
 ·have hi3 : decide ((a.pl : Int) = (b.pl : Int)) = false := by simp; omega
  have hf : alikeR a b = false := by unfold alikeR; rw [hi1, hi2, decide_eq_false h3]; rfl
  refine zH fun zq zQ => ?_
  refine zC 2 rfl ?_
  refine zT (ot_boxA rfl rfl) ?_
  rintro _ _ ⟨g0, rfl, rfl⟩
  refine zT (ot_boxA rfl rfl) ?_
  rintro _ _ ⟨g1, rfl, rfl⟩
  refine zOM [(0,_,_,_),(1,_,_,_)] ⟨rfl,rfl,trivial⟩ [1,0] 11 rfl ?_
  refine zrT 10 rfl (decide_eq_true (by omega)) ?_
  refine zOM [(0,_,_,_),(1,_,_,_)] ⟨rfl,rfl,trivial⟩ [1,0] 7 rfl ?_
  refine zrT 17 rfl (decide_eq_true (by omega)) ?_
  refine zOM [(0,_,_,_),(1,_,_,_)] ⟨rfl,rfl,trivial⟩ [1,0] 7 rfl ?_
  refine zrF 24 rfl (decide_eq_false (by omega)) ?_
  refine zO 10 rfl ?_
  refine zQ ?_
  refine at_end ?_
  refine at_fin (rsV rfl (res_tmp rfl)) ?_
  refine ⟨_, ⟨by rw [hf], rfl⟩, ?_⟩
  exact zE [2, 2] [0, 0]
 have hi3 : decide ((a.pl : Int) = (b.pl : Int)) = true := by simp; omega
 have hf : alikeR a b = decide (a.tx = b.tx) := by unfold alikeR; rw [hi1, hi2, decide_eq_true h3]; rfl
 refine zH fun zq zQ => ?_
 refine zC 2 rfl ?_
 refine zT (ot_boxA rfl rfl) ?_
 rintro _ _ ⟨g0, rfl, rfl⟩
 refine zT (ot_boxA rfl rfl) ?_
 rintro _ _ ⟨g1, rfl, rfl⟩
 refine zOM [(0,_,_,_),(1,_,_,_)] ⟨rfl,rfl,trivial⟩ [1,0] 11 rfl ?_
 refine zrT 10 rfl (decide_eq_true (by omega)) ?_
 refine zOM [(0,_,_,_),(1,_,_,_)] ⟨rfl,rfl,trivial⟩ [1,0] 7 rfl ?_
 refine zrT 17 rfl (decide_eq_true (by omega)) ?_
 refine zOM [(0,_,_,_),(1,_,_,_)] ⟨rfl,rfl,trivial⟩ [1,0] 7 rfl ?_
 refine zrT 24 rfl (decide_eq_true (by omega)) ?_
 refine zOM [(0,_,_,_),(1,_,_,_)] ⟨rfl,rfl,trivial⟩ [1,0] 4 rfl ?_
 refine at_wanted (j := 19) rfl ?_
 refine zcall [2, 2] rfl rfl rfl Tryz.call14 rfl (hT ) rfl ?_
 simp only [zca, zna, splice, spliceL]
 refine zO 5 rfl ?_
 refine zQ ?_
 refine at_end ?_
 refine at_fin (rsV rfl (res_tmp rfl)) ?_
 refine ⟨_, ⟨by rw [hf], rfl⟩, ?_⟩
 exact zE [0, 0] [0, 0]
def wkX : BL := [120]
def wkA : BL := [105, 110, 115, 101, 114, 116, 32, 105, 110, 116, 111, 32, 107, 118, 32, 118, 97, 108, 117, 101, 115, 32, 40, 39, 97, 39, 44, 32, 39, 98, 39, 41]
def wkS : BL := [115, 101, 108, 101, 99, 116, 32, 42, 32, 102, 114, 111, 109, 32, 107, 118]
def wkN : ND := ⟨1, true, [(1, wkA)], []⟩
theorem wk1 : runN ⟨1, false, [], []⟩ 1 1 false wkX = (⟨1, false, [], []⟩, ⟨7, 1, 0, []⟩) := by kernel_rfl
theorem wk2 : leadN ⟨1, false, [], []⟩ 1 = (⟨1, true, [], []⟩, true) := by kernel_rfl
theorem wk3 : runN ⟨1, true, [], []⟩ 1 1 false wkA = (wkN, ⟨0, 1, 1, []⟩) := by kernel_rfl
theorem wk4 : runN wkN 1 1 true wkS = (wkN, ⟨0, 1, 1, [[97], [98]]⟩) := by kernel_rfl
theorem wk5 : runN wkN 1 2 true wkS = (wkN, ⟨8, 1, 1, []⟩) := by kernel_rfl
theorem wk6 : copyN ⟨1, false, [], []⟩ wkN 5 = (⟨1, false, [(1, wkA)], []⟩, 1) := by kernel_rfl
theorem T8 (w0 : World) (hM : MaxL w0) : Tri Tryz.prog w0 8 [] [] fun v m => v = .bool true ∧ m = [] := by
 refine tri_k Tryz.func8 rfl rfl fun F => ?_
 simp only [Tryz.ntmps8, argEnv, List.nil_append]
 have k0 : NOk ⟨1, false, [], []⟩ := NOk.new
 have k1 : NOk ⟨1, true, [], []⟩ := by have := k0.lead (e := 1) (by decide) (by decide); rwa [wk2] at this
 have k2 : NOk wkN := by have := k1.run 1 1 false (t := wkA) (by decide); rwa [wk3] at this
 have k3 : NOk ⟨1, false, [(1, wkA)], []⟩ := by have := k0.copy k2 5; rwa [wk6] at this
 have h1 {g : Nat} := T12 w0 (g := g) k0 1 1 false wkX (by decide) hM
 rw [wk1] at h1
 have h2 {g : Nat} := T10 w0 (g := g) (s := ⟨1, false, [], []⟩) 1
 rw [wk2] at h2
 have h3 {g : Nat} := T12 w0 (g := g) k1 1 1 false wkA (by decide) hM
 rw [wk3] at h3
 have h4 {g : Nat} := T12 w0 (g := g) k2 1 1 true wkS (by decide) hM
 rw [wk4] at h4
 have h5 {g : Nat} := T12 w0 (g := g) k2 1 2 true wkS (by decide) hM
 rw [wk5] at h5
 have h6 {g g' : Nat} := T31 w0 (g := g) (g' := g') k0 k2 5
 rw [wk6] at h6
 have h7 : (tabN ⟨1, false, [(1, wkA)], []⟩).length = 1 := by kernel_rfl
 have h8 {g : Nat} := T26 w0 (g := g) k3 hM
 have h9 {g : Nat} := T19 w0 (g := g) (s := ⟨1, false, [(1, wkA)], []⟩) (by decide)
 have hi1 : decide ([([97] : BL), [98]] = [[97], [98]]) = true := by decide
 have hi2 : decide (((tabN ⟨1, false, [(1, wkA)], []⟩).length : Int) = 1) = true := by rw [h7]; rfl
 refine zH fun zq zQ => ?_
 refine zC 7 rfl ?_
 refine zT (ot_call (ks := []) rfl rfl rfl Tryz.call9 rfl (T9 _) rfl) ?_
 rintro v0 _ ⟨m0, hp0, rfl⟩
 obtain ⟨g0, hp0⟩ := hp0
 obtain ⟨rfl, rfl⟩ := hp0
 simp only [zca, zna, splice, spliceL]
 refine zT (ot_call (ks := []) rfl rfl rfl Tryz.call9 rfl (T9 _) rfl) ?_
 rintro v0 _ ⟨m0, hp0, rfl⟩
 obtain ⟨g1, hp0⟩ := hp0
 obtain ⟨rfl, rfl⟩ := hp0
 simp only [zca, zna, splice, spliceL]
 refine zO 8 rfl ?_
 refine zV (ov_ptr_nil (q := none) rfl Tryz.underlying24 rfl rfl) ?_
 refine zO 2 rfl ?_
 refine at_wanted (j := 2) rfl ?_
 refine zV (ov_ptr_nil (q := none) rfl Tryz.underlying24 rfl rfl) ?_
 refine zO 9 rfl ?_
 refine zT (ot_call (ks := [1]) rfl rfl rfl Tryz.call12 rfl (h1 ) rfl) ?_
 rintro v0 _ ⟨m0, hp0, rfl⟩
 obtain ⟨B0, hp0⟩ := hp0
 obtain ⟨c0, hp0⟩ := hp0
 obtain ⟨rfl, rfl⟩ := hp0
 simp only [zca, zna, splice, spliceL]
 refine zA Tryz.zeroValue32 fun g2 => ?_
 refine zS 0 ?_
 simp only [setAt, splice, spliceL, Value.cells]
 refine zO 5 rfl ?_
 refine zcall [1] rfl rfl rfl Tryz.call10 rfl (h2 ) rfl ?_
 simp only [zca, zna, splice, spliceL]
 refine zO 5 rfl ?_
 refine zT (ot_call (ks := [0]) rfl rfl rfl Tryz.call12 rfl (h3 ) rfl) ?_
 rintro v0 _ ⟨m0, hp0, rfl⟩
 obtain ⟨B1, hp0⟩ := hp0
 obtain ⟨c1, hp0⟩ := hp0
 obtain ⟨rfl, rfl⟩ := hp0
 simp only [zca, zna, splice, spliceL]
 refine zA Tryz.zeroValue32 fun g3 => ?_
 refine zS 0 ?_
 simp only [setAt, splice, spliceL, Value.cells]
 refine zO 5 rfl ?_
 refine zT (ot_call (ks := [1]) rfl rfl rfl Tryz.call12 rfl (h4 ) rfl) ?_
 rintro v0 _ ⟨m0, hp0, rfl⟩
 obtain ⟨B2, hp0⟩ := hp0
 obtain ⟨c2, hp0⟩ := hp0
 obtain ⟨rfl, rfl⟩ := hp0
 simp only [zca, zna, splice, spliceL]
 refine zA Tryz.zeroValue32 fun g4 => ?_
 refine zS 0 ?_
 simp only [setAt, splice, spliceL, Value.cells]
 refine zO 5 rfl ?_
 refine zT (ot_call (ks := [1]) rfl rfl rfl Tryz.call12 rfl (h5 ) rfl) ?_
 rintro v0 _ ⟨m0, hp0, rfl⟩
 obtain ⟨B3, hp0⟩ := hp0
 obtain ⟨c3, hp0⟩ := hp0
 obtain ⟨rfl, rfl⟩ := hp0
 simp only [zca, zna, splice, spliceL]
 refine zA Tryz.zeroValue32 fun g5 => ?_
 refine zS 0 ?_
 simp only [setAt, splice, spliceL, Value.cells]
 refine zO 6 rfl ?_
 refine zcall [9, 1] rfl rfl rfl Tryz.call31 rfl (h6 ) rfl ?_
 simp only [zca, zna, splice, spliceL]
 refine zOM [(4,_,_,_),(6,_,_,_),(8,_,_,_)] ⟨rfl,rfl,rfl,trivial⟩ [2,1,1,0] 21 rfl ?_
 refine at_wanted (j := 13) rfl ?_
 refine zT (ot_buildSlice (cs := [_, _]) rfl Tryz.underlying22 rfl rfl rfl rfl rfl rfl) ?_
 rintro _ _ ⟨g6, rfl, rfl⟩
 refine at_wanted (j := 13) rfl ?_
 refine at_rowOf bsE 0 (size := 1) (c := 2) [[97], [98]] rfl (fun _ _ => rfl) (by decide) (by decide) (by decide) rfl ?_
 simp only [setAt]
 refine at_reval 45 (.slice (some ⟨g6, 0, none⟩) ([[97], [98]] : List BL).length 2) rfl rfl ?_
 refine zcall [6, 0] rfl rfl rfl Tryz.call14 rfl (T14 _ (by first | assumption | rfl | omega | decide | (simp; done) | (simp at *; omega)) (by first | assumption | rfl | omega | decide | (simp; done) | (simp at *; omega))) rfl ?_
 simp only [zca, zna, splice, spliceL]
 refine zOM [(4,_,_,_)] ⟨rfl,trivial⟩ [0,0] 17 rfl ?_
 refine at_wanted (j := 33) rfl ?_
 refine zT (ot_call (ks := [2]) rfl rfl rfl Tryz.call19 rfl (h9 ) rfl) ?_
 rintro v0 _ ⟨m0, hp0, rfl⟩
 obtain ⟨B4, hp0⟩ := hp0
 obtain ⟨e0, hp0⟩ := hp0
 obtain ⟨rfl, rfl⟩ := hp0
 simp only [zca, zna, splice, spliceL]
 refine zO 5 rfl ?_
 refine at_wanted (j := 39) rfl ?_
 refine zT (ot_call (ks := [0]) rfl rfl rfl Tryz.call26 rfl (h8 ) rfl) ?_
 rintro v0 _ ⟨m0, hp0, rfl⟩
 obtain ⟨B5, hp0⟩ := hp0
 obtain ⟨e1, hp0⟩ := hp0
 obtain ⟨e'0, hp0⟩ := hp0
 obtain ⟨rfl, rfl⟩ := hp0
 simp only [zca, zna, splice, spliceL]
 refine zO 5 rfl ?_
 refine at_wanted (j := 45) rfl ?_
 refine zcall [0] rfl rfl rfl Tryz.call28 rfl (T28 _) rfl ?_
 simp only [zca, zna, splice, spliceL]
 refine zO 4 rfl ?_
 refine at_wanted (j := 50) rfl ?_
 refine zcall [5] rfl rfl rfl Tryz.call28 rfl (T28 _) rfl ?_
 simp only [zca, zna, splice, spliceL]
 refine zO 5 rfl ?_
 refine zQ ?_
 refine at_end ?_
 refine at_fin (rsV rfl (res_tmp rfl)) ?_
 refine ⟨_, ⟨rfl, rfl⟩, ?_⟩
 exact zE [] [0, 0, 0, 0, 0, 0, 0, 0, 0, 0, 0, 0, 0]
end Go.Proofs.YtighdkdomfpadaaGreatDoor
