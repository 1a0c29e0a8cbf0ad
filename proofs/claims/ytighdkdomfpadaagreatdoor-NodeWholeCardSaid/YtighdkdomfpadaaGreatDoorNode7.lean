/- The law of nodes, walked: of, entries, reply, large, nodes, do. -/
import Derived.Test.YtighdkdomfpadaaGreatDoorProg
import Derived.Test.YtighdkdomfpadaaGreatDoorNode4
import Derived.Test.YtighdkdomfpadaaGreatDoorNode6
import Derived.Test.YtighdkdomfpadaaGreatDoorSLB
import Derived.KernelRfl
set_option linter.unusedSimpArgs false
set_option linter.unusedVariables false
set_option maxRecDepth 100000
set_option maxHeartbeats 4000000
namespace Go.Proofs.YtighdkdomfpadaaGreatDoor
open Go Go.Proofs.YtighdkdomfpadaaGreatDoor.SL Go.RowKit
/-- An act. -/
structure AC where
  do_ : Int
  nd : Int
  fr : Int
  cn : Int
  mn : Int
  ep : Int
  rd : Bool
  tx : BL
def acE (x : AC) : List Value := [.int .i64 x.do_, .int .i64 x.nd, .int .i64 x.fr, .int .i64 x.cn, .int .i64 x.mn, .int .u64 x.ep, .bool x.rd, SV x.tx]
/-- What an act is answered by. -/
structure TD where
  r : RP
  is : Bool
  mn : Int
def ofI (n : Int) : Nat := ((n.tmod 3 + 3).tmod 3).toNat
theorem ofI_lt (n : Int) : ofI n < 3 ∧ (n.tmod 3 + 3).tmod 3 = (ofI n : Int) := by
  have h1 : -3 < n.tmod 3 ∧ n.tmod 3 < 3 := ⟨Int.lt_tmod_of_pos n (by omega), Int.tmod_lt_of_pos n (by omega)⟩
  unfold ofI
  have h2 : 0 ≤ (n.tmod 3 + 3).tmod 3 := Int.tmod_nonneg _ (by omega)
  have h3 : (n.tmod 3 + 3).tmod 3 < 3 := Int.tmod_lt_of_pos _ (by omega)
  omega
def rp0 : RP := ⟨0, 0, 0, []⟩
def doL (ss : List ND) (x : AC) : List ND × TD :=
  match ss[ofI x.nd]? with
  | none => (ss, ⟨rp0, false, 0⟩)
  | some s =>
    if x.do_ = 0 then (ss.set (ofI x.nd) (runN s x.cn x.ep x.rd x.tx).1, ⟨(runN s x.cn x.ep x.rd x.tx).2, false, 0⟩)
    else if x.do_ = 1 then (ss.set (ofI x.nd) (closeN s x.cn).1, ⟨rp0, (closeN s x.cn).2, 0⟩)
    else if x.do_ = 2 then (ss.set (ofI x.nd) (leadN s x.ep).1, ⟨rp0, (leadN s x.ep).2, 0⟩)
    else match ss[ofI x.fr]? with
      | none => (ss, ⟨rp0, false, 0⟩)
      | some f => (ss.set (ofI x.nd) (copyN s f x.mn).1, ⟨rp0, false, (copyN s f x.mn).2⟩)
def largeL (l : List AC) : Bool := decide (60 < l.length) || l.any fun x => decide (300 < x.tx.length)
def gpE (g : Nat) : List Value := [ptrTo g]
theorem T15 (w0 : World) (n : Int) : Tri Tryz.prog w0 15 [.int .i64 n] [] fun v m => v = .int .i64 (ofI n) ∧ m = [] := by
 refine tri_k Tryz.func15 rfl rfl fun F => ?_
 simp only [Tryz.ntmps15, argEnv, List.nil_append]
 have h := ofI_lt n
 have h1 : -3 < n.tmod 3 ∧ n.tmod 3 < 3 := ⟨Int.lt_tmod_of_pos n (by omega), Int.tmod_lt_of_pos n (by omega)⟩
 refine zH fun zq zQ => ?_
 refine zC 8 rfl ?_
 refine zV (ov_rem rfl rfl rfl (by omega)) ?_
 refine zV zI ?_
 refine zV (ov_rem rfl rfl rfl (by omega)) ?_
 refine zO 4 rfl ?_
 refine zQ ?_
 refine at_end ?_
 refine at_fin (rsV rfl (res_tmp rfl)) ?_
 refine ⟨_, ⟨by rw [← h.2], rfl⟩, ?_⟩
 exact zE [] []
theorem entriesRd (w0 : World) {A : Option Addr} {c : Nat} {l : List Ent} (hr : Rd enE w0 2 A l) (hm : l.length ≤ 1000) :
 Tri Tryz.prog w0 18 [.slice A l.length c] [] fun v m => ∃ B e, v = .slice B l.length e ∧ m = [Row enE 39 2 B e l] := by
 refine tri_k Tryz.func18 rfl rfl fun F => ?_
 simp only [Tryz.ntmps18, argEnv, List.cons_append, List.nil_append]
 refine zH fun zq zQ => ?_
 refine zC 7 rfl ?_
 refine zT (ot_buildSlice (cs := []) rfl Tryz.underlying36 rfl rfl rfl rfl rfl rfl) ?_
 rintro _ _ ⟨g0, rfl, rfl⟩
 refine zO 12 rfl ?_
 refine at_rowOf (c := 0) (size := 2) enE 0 [] rfl (by simp) (by simp) (by decide) (by simp) rfl ?_
 simp only [setAt]
 refine at_loopK [10, 11, 12, 5, 13, 14, 15, 16, 3, 17, 9] (fun i : Nat × Option Addr × Nat => i.1 ≤ l.length) (fun i => [(9, .int .i64 (i.1 : Nat)), (3, .slice i.2.1 (l.take i.1).length i.2.2)]) (fun i q => setAt 0 (Row enE 39 2 i.2.1 i.2.2 (l.take i.1)) q) (fun i => l.length - i.1) (0, some ⟨g0, 0, none⟩, 0) (Nat.zero_le _) ⟨rfl, rfl, trivial⟩ (fun _ s => s) ?_
 rintro ⟨k, B, e⟩ hk
 simp only [setAt] at hk ⊢
 have htk : (l.take k).length ≤ k := by simp; omega
 rcases Nat.lt_or_ge k l.length with hlt | hge
 ·have hi1 : decide ((k : Int) < l.length) = true := decide_eq_true (by omega)
  obtain ⟨x, hget⟩ : ∃ x, l[k]? = some x := ⟨_, List.getElem?_eq_getElem hlt⟩
  have hsu : l.take (k + 1) = l.take k ++ [x] := by rw [List.take_add_one, hget]; rfl
  refine zC 6 rfl ?_
  refine zcT rfl (decide_eq_true (by omega)) ?_
  refine zC 6 rfl ?_
  refine zV (ov_indexRd (fun _ s => hr.up s) rfl Tryz.underlying43 rfl rfl rfl hget) ?_
  refine zV (ov_loadRdS (vs := [_, _]) (fun _ s => hr.up s) rfl rfl rfl hget rfl rfl) ?_
  refine zA Tryz.zeroValue73 fun g1 => ?_
  refine zS 0 ?_
  simp only [setAt, splice, spliceL, Value.cells]
  refine zOM [(0,_,_,_)] ⟨rfl,trivial⟩ [0] 5 rfl ?_
  refine zT (ot_buildSlice (cs := [_, _]) rfl Tryz.underlying36 rfl rfl rfl rfl rfl rfl) ?_
  rintro _ _ ⟨g2, rfl, rfl⟩
  refine zT (ot_append (k := 2) (size := 2) (bytes := 24) (ys := [x]) (fun _ s => s.rdPt (k := 0) rfl rfl (by simp [enE])) rfl Tryz.underlying36 (ti := Tryz.t39) rfl rfl rfl rfl rfl (by decide) rfl rfl rfl (by simp [enE, Value.oneCell']) (by simp; omega) (by decide)) ?_
  rintro _ _ ⟨A0, c0, rfl, rfl⟩
  simp only [setAt]
  try rw [← hsu]
  refine zO 5 rfl ?_
  refine zV zI ?_
  refine zOR 3 rfl ?_
  refine at_roundF (k + 1, A0, c0) hlt (by simp only; omega) ⟨rfl, rfl, trivial⟩ rfl ?_
  simp only [setAt]
  exact zE [2] [0, 0]
 ·have hi1 : decide ((k : Int) < l.length) = false := decide_eq_false (by omega)
  try rw [List.take_of_length_le hge]
  refine zC 6 rfl ?_
  refine zcF rfl (decide_eq_false (by omega)) ?_
  refine zC 12 rfl ?_
  refine zQ ?_
  refine at_end ?_
  refine at_fin (rsV rfl (res_tmp rfl)) ?_
  refine ⟨_, ⟨B, e, rfl, rfl⟩, ?_⟩
  exact zE [0] []
theorem T18 (w0 : World) {A : Option Addr} {c c' : Nat} {l : List Ent} (hm : l.length ≤ 1000) :
    Tri Tryz.prog w0 18 [.slice A l.length c] [Row enE 73 2 A c' l] fun v m => ∃ B e, v = .slice B l.length e ∧ m = [Row enE 39 2 B e l, Row enE 73 2 A c' l] :=
  (Tri.of_all fun w s => entriesRd w (s.rd (k := 0) rfl) hm).post fun v m ⟨m', ⟨B, e, h1, h2⟩, h3⟩ => ⟨B, e, h1, by rw [h3, h2]; rfl⟩
/-- Of what a row begins with. -/
theorem entriesTk (w0 : World) {A : Option Addr} {c c' n : Nat} {l z : List Ent} (hm : l.length ≤ 1000) (hz : l.take n = z) :
    Tri Tryz.prog w0 18 [.slice A (l.take n).length c] [Row enE 73 2 A c' l] fun v m => ∃ B e, v = .slice B z.length e ∧ m = [Row enE 39 2 B e z, Row enE 73 2 A c' l] := by
  subst hz
  exact (Tri.of_all fun w s => entriesRd w ((s.rd (k := 0) rfl).take n) (by rw [List.length_take]; omega)).post fun v m ⟨m', ⟨B, e, h1, h2⟩, h3⟩ => ⟨B, e, h1, by rw [h3, h2]; rfl⟩
theorem T32 (w0 : World) (r : RP) {B : Option Addr} {c : Nat} : Tri Tryz.prog w0 32 [.agg #[.int .i64 r.er, .int .u64 r.ep, .int .u64 r.pl, .slice B r.tx.length c]] [] fun v m => v = .agg #[.int .i64 r.er, .int .u64 r.ep, .int .u64 r.pl, .slice B r.tx.length c] ∧ m = [] := by
 refine tri_k Tryz.func32 rfl rfl fun F => ?_
 simp only [Tryz.ntmps32, argEnv, List.cons_append, List.nil_append]
 refine zH fun zq zQ => ?_
 refine zC 2 rfl ?_
 refine zT (ot_boxA rfl rfl) ?_
 rintro _ _ ⟨g0, rfl, rfl⟩
 refine zA Tryz.zeroValue55 fun g1 => ?_
 refine zOM [(1,_,_,_)] ⟨rfl,trivial⟩ [0,0,0,0] 12 rfl ?_
 refine zV (ov_build (cs := [_, _, _, _]) rfl rfl rfl rfl) ?_
 refine zS 0 ?_
 simp only [setAt, splice, spliceL, Value.cells]
 refine zO 3 rfl ?_
 refine zQ ?_
 refine at_end ?_
 refine at_fin (rsV rfl (res_cellS (k := 0) (vs := [_, _, _, _]) rfl rfl rfl rfl ⟨rfl, rfl, rfl, rfl, trivial⟩)) ?_
 refine ⟨_, ⟨rfl, rfl⟩, ?_⟩
 exact zE [] [0, 0]
theorem T20 (w0 : World) {A : Option Addr} {c : Nat} {l : List AC} (hr : Rd acE w0 8 A l) (hl : l.length ≤ 4000000000000) : Tri Tryz.prog w0 20 [.slice A l.length c] [] fun v m => v = .bool (largeL l) ∧ m = [] := by
 refine tri_k Tryz.func20 rfl rfl fun F => ?_
 simp only [Tryz.ntmps20, argEnv, List.cons_append, List.nil_append]
 by_cases hbig : 60 < l.length
 ·have hi2 : decide ((l.length : Int) > 60) = true := decide_eq_true (by omega)
  have hlg : largeL l = true := by unfold largeL; rw [decide_eq_true hbig]; rfl
  refine zH fun zq zQ => ?_
  refine zC 13 rfl ?_
  refine zcT rfl (decide_eq_true (by omega)) ?_
  refine zC 7 rfl ?_
  refine zQ ?_
  refine at_end ?_
  refine at_fin (rsV rfl (res_tmp rfl)) ?_
  refine ⟨_, ⟨by rw [hlg], rfl⟩, ?_⟩
  exact zE [] []
 have hi2 : decide ((l.length : Int) > 60) = false := decide_eq_false (by omega)
 refine zH fun zq zQ => ?_
 refine zC 13 rfl ?_
 refine zcF rfl (decide_eq_false (by omega)) ?_
 refine zC 11 rfl ?_
 refine at_loopK [11, 12, 13, 4, 14, 15, 16, 17, 2, 18, 10] (fun i : Nat => i ≤ l.length ∧ ∀ x ∈ l.take i, x.tx.length ≤ 300) (fun i => [(10, .int .i64 (i : Nat))]) (fun i q => q) (fun i => l.length - i) 0 ⟨Nat.zero_le _, by simp⟩ ⟨rfl, trivial⟩ (fun _ s => s) ?_
 rintro k ⟨hk, hall⟩
 rcases Nat.lt_or_ge k l.length with hlt | hge
 ·have hi1 : decide ((k : Int) < l.length) = true := decide_eq_true (by omega)
  obtain ⟨x, hget⟩ : ∃ x, l[k]? = some x := ⟨_, List.getElem?_eq_getElem hlt⟩
  by_cases hx : 300 < x.tx.length
  ·have hi3 : decide ((x.tx.length : Int) > 300) = true := decide_eq_true (by omega)
   have hlg : largeL l = true := by unfold largeL; rw [Bool.or_eq_true]; exact .inr (List.any_eq_true.2 ⟨x, List.mem_of_getElem? hget, decide_eq_true hx⟩)
   refine zC 6 rfl ?_
   refine zcT rfl (decide_eq_true (by omega)) ?_
   refine zC 6 rfl ?_
   refine zV (ov_indexRd (fun _ s => hr.up s) rfl Tryz.underlying46 rfl rfl rfl hget) ?_
   refine zV (ov_loadRdS (vs := [_, _, _, _, _, _, _, _]) (fun _ s => hr.up s) rfl rfl rfl hget rfl rfl) ?_
   refine zA Tryz.zeroValue54 fun g0 => ?_
   refine zS 0 ?_
   simp only [setAt, splice, spliceL, Value.cells]
   refine zOM [(0,_,_,_)] ⟨rfl,trivial⟩ [0] 10 rfl ?_
   refine zcT rfl (decide_eq_true (by omega)) ?_
   refine zC 11 rfl ?_
   refine zQ ?_
   refine at_end ?_
   refine at_fin (rsV rfl (res_tmp rfl)) ?_
   refine ⟨_, ⟨by rw [hlg], rfl⟩, ?_⟩
   exact zE [] [0]
  ·have hi3 : decide ((x.tx.length : Int) > 300) = false := decide_eq_false (by omega)
   refine zC 6 rfl ?_
   refine zcT rfl (decide_eq_true (by omega)) ?_
   refine zC 6 rfl ?_
   refine zV (ov_indexRd (fun _ s => hr.up s) rfl Tryz.underlying46 rfl rfl rfl hget) ?_
   refine zV (ov_loadRdS (vs := [_, _, _, _, _, _, _, _]) (fun _ s => hr.up s) rfl rfl rfl hget rfl rfl) ?_
   refine zA Tryz.zeroValue54 fun g0 => ?_
   refine zS 0 ?_
   simp only [setAt, splice, spliceL, Value.cells]
   refine zOM [(0,_,_,_)] ⟨rfl,trivial⟩ [0] 10 rfl ?_
   refine zcF rfl (decide_eq_false (by omega)) ?_
   refine zC 4 rfl ?_
   refine zV zI ?_
   refine zOR 3 rfl ?_
   refine at_roundF (k + 1) ⟨hlt, ?_⟩ (by omega) ⟨rfl, trivial⟩ rfl ?_
   ·intro y hy
    rw [List.take_add_one, hget] at hy
    simp only [Option.toList_some, List.mem_append, List.mem_singleton] at hy
    rcases hy with hy | rfl
    ·exact hall y hy
    ·omega
   exact zE [] [0]
 ·have hi1 : decide ((k : Int) < l.length) = false := decide_eq_false (by omega)
  rw [List.take_of_length_le hge] at hall
  have hlg : largeL l = false := by
   unfold largeL
   try rw [decide_eq_false hbig]
   try rw [Bool.false_or]
   try rw [Bool.eq_false_iff]
   intro h
   obtain ⟨x, hx, h2⟩ := List.any_eq_true.1 h
   have := hall x hx
   simp at h2
   omega
  refine zC 6 rfl ?_
  refine zcF rfl (decide_eq_false (by omega)) ?_
  refine zC 11 rfl ?_
  refine zQ ?_
  refine at_end ?_
  refine at_fin (rsV rfl (res_tmp rfl)) ?_
  refine ⟨_, ⟨by rw [hlg], rfl⟩, ?_⟩
  exact zE [] []
def n0 : ND := ⟨1, false, [], []⟩
theorem T21 (w0 : World) : Tri Tryz.prog w0 21 [] [] fun v m => ∃ A c, ∃ g0 g1 g2 : Nat, v = .slice A [g0, g1, g2].length c ∧ m = [Row gpE 24 1 A c [g0, g1, g2], Many NodeA [g0, g1, g2] [n0, n0, n0]] := by
 refine tri_k Tryz.func21 rfl rfl fun F => ?_
 simp only [Tryz.ntmps21, argEnv, List.cons_append, List.nil_append]
 refine zH fun zq zQ => ?_
 refine zC 7 rfl ?_
 refine zT (ot_call (ks := []) rfl rfl rfl Tryz.call9 rfl (T9 _) rfl) ?_
 rintro v0 _ ⟨m0, hp0, rfl⟩
 obtain ⟨g0, hp0⟩ := hp0
 obtain ⟨rfl, rfl⟩ := hp0
 simp only [zca, zna, splice, spliceL]
 refine zT (ot_call (ks := []) rfl rfl rfl Tryz.call9 rfl (T9 _) rfl) ?_
 rintro v0 _ ⟨m0, hp0, rfl⟩
 obtain ⟨g1, hp0⟩ := hp0
 obtain ⟨rfl, rfl⟩ := hp0
 simp only [zca, zna, splice, spliceL]
 refine zT (ot_call (ks := []) rfl rfl rfl Tryz.call9 rfl (T9 _) rfl) ?_
 rintro v0 _ ⟨m0, hp0, rfl⟩
 obtain ⟨g2, hp0⟩ := hp0
 obtain ⟨rfl, rfl⟩ := hp0
 simp only [zca, zna, splice, spliceL]
 refine zT (ot_buildSlice (cs := [_, _, _]) rfl Tryz.underlying48 rfl rfl rfl rfl rfl rfl) ?_
 rintro _ _ ⟨g3, rfl, rfl⟩
 refine zO 4 rfl ?_
 refine zQ ?_
 refine at_end ?_
 refine at_fold (A := Many NodeA [g0, g1, g2] [n0, n0, n0]) [3, 2, 1] rfl (fun h s => s) ?_
 refine at_rowOf gpE 1 (size := 1) (c := 3) [g0, g1, g2] rfl (fun _ _ => rfl) (Nat.le_refl _) (by decide) (Nat.le_refl _) rfl ?_
 simp only [setAt]
 refine at_fin (rsV rfl (res_tmp rfl)) ?_
 refine ⟨_, ⟨some ⟨g3, 0, none⟩, 3, g0, g1, g2, rfl, rfl⟩, ?_⟩
 exact zE [1, 0] []
def tdV (t : TD) (B : Option Addr) (b : Nat) : Value := .agg #[.int .i64 t.r.er, .int .u64 t.r.ep, .int .u64 t.r.pl, .slice B t.r.tx.length b, .bool t.is, .int .i64 t.mn]
theorem T23 (w0 : World) {A : Option Addr} {c c' : Nat} {gs : List Nat} {ss : List ND} (x : AC) (hg : gs.length = 3) (hs : ss.length = 3) (hok : ∀ s ∈ ss, NOk s) (htx : x.tx.length ≤ 300) (hM : MaxL w0) :
 Tri Tryz.prog w0 23 [.slice A gs.length c, .agg #[.int .i64 x.do_, .int .i64 x.nd, .int .i64 x.fr, .int .i64 x.cn, .int .i64 x.mn, .int .u64 x.ep, .bool x.rd, SV x.tx]] [Row gpE 24 1 A c' gs, Many NodeA gs ss]
   fun v m => ∃ B b, v = tdV (doL ss x).2 B b ∧ m = [Row gpE 24 1 A c' gs, Many NodeA gs (doL ss x).1, Row bsE 9 1 B b (doL ss x).2.r.tx] := by
 refine tri_k Tryz.func23 rfl rfl fun F => ?_
 simp only [Tryz.ntmps23, argEnv, List.cons_append, List.nil_append]
 have hi := (ofI_lt x.nd).1
 obtain ⟨i, hid⟩ : ∃ i, i = ofI x.nd := ⟨_, rfl⟩
 rw [← hid] at hi
 have hO := T15 w0 x.nd
 rw [← hid] at hO
 obtain ⟨g, hgi⟩ : ∃ g, gs[i]? = some g := ⟨_, List.getElem?_eq_getElem (by omega)⟩
 obtain ⟨s, hsi⟩ : ∃ s, ss[i]? = some s := ⟨_, List.getElem?_eq_getElem (by omega)⟩
 have hns := hok s (List.mem_of_getElem? hsi)
 by_cases h0 : x.do_ = 0
 ·have hd : doL ss x = (ss.set i (runN s x.cn x.ep x.rd x.tx).1, ⟨(runN s x.cn x.ep x.rd x.tx).2, false, 0⟩) := by unfold doL; rw [← hid, hsi]; simp [h0]
  have hi0 : decide (x.do_ = 0) = true := by simp [h0]
  have hR := T12 w0 (g := g) hns x.cn x.ep x.rd x.tx htx hM
  have hRp {B : Option Addr} {c : Nat} := T32 w0 (runN s x.cn x.ep x.rd x.tx).2 (B := B) (c := c)
  refine at_many 1 i hgi hsi rfl ?_
  refine zH fun zq zQ => ?_
  refine zC 2 rfl ?_
  refine zT (ot_boxA rfl rfl) ?_
  rintro _ _ ⟨g0, rfl, rfl⟩
  refine zA Tryz.zeroValue57 fun g1 => ?_
  refine zO 4 rfl ?_
  refine zA Tryz.zeroValue57 fun g2 => ?_
  refine zOM [(2,_,_,_)] ⟨rfl,trivial⟩ [0] 7 rfl ?_
  refine zcall [] rfl rfl rfl Tryz.call15 rfl (hO ) rfl ?_
  simp only [zca, zna, splice, spliceL]
  refine zV (ov_indexRd (fun _ s => s.rd (k := 5) rfl) rfl Tryz.underlying48 rfl rfl rfl hgi) ?_
  refine zV (ov_loadRd0 (fun _ s => s.rd (k := 5) rfl) rfl rfl rfl hgi rfl) ?_
  refine zOM [(2,_,_,_)] ⟨rfl,trivial⟩ [0] 17 rfl ?_
  refine zcT rfl (decide_eq_true (by omega)) ?_
  refine zCM [(2,_,_,_)] ⟨rfl,trivial⟩ [0,0,0,0] 10 rfl ?_
  refine zT (ot_call (ks := [3]) rfl rfl rfl Tryz.call12 rfl (hR ) rfl) ?_
  rintro v0 _ ⟨m0, hp0, rfl⟩
  obtain ⟨B0, hp0⟩ := hp0
  obtain ⟨c0, hp0⟩ := hp0
  obtain ⟨rfl, rfl⟩ := hp0
  simp only [zca, zna, splice, spliceL]
  refine zcall [] rfl rfl rfl Tryz.call32 rfl (hRp ) rfl ?_
  simp only [zca, zna, splice, spliceL]
  refine zO 1 rfl ?_
  refine zS 2 ?_
  simp only [setAt, splice, spliceL, Value.cells]
  refine zOM [(2,_,_,_)] ⟨rfl,trivial⟩ [0] 6 rfl ?_
  refine zS 3 ?_
  simp only [setAt, splice, spliceL, Value.cells]
  refine zO 3 rfl ?_
  refine zQ ?_
  refine at_end ?_
  refine at_fold (A := Many NodeA gs (ss.set i (runN s x.cn x.ep x.rd x.tx).1)) [0, 4] rfl (fun h s => many_back hgi (by omega) h s) ?_
  refine at_fin (rsV rfl (res_cellS (k := 3) (vs := [_, _, _, _, _, _]) rfl rfl rfl rfl ⟨rfl, rfl, rfl, rfl, rfl, rfl, trivial⟩)) ?_
  try rw [hd]
  refine ⟨_, ⟨_, _, rfl, rfl⟩, ?_⟩
  exact zE [5, 0, 0] [0, 0, 0]
 have hi0 : decide (x.do_ = 0) = false := by simp [h0]
 by_cases h1 : x.do_ = 1
 ·have hd : doL ss x = (ss.set i (closeN s x.cn).1, ⟨rp0, (closeN s x.cn).2, 0⟩) := by unfold doL; rw [← hid, hsi]; simp [h1]
  have hi1 : decide (x.do_ = 1) = true := by simp [h1]
  have hR := T16 w0 (g := g) (s := s) x.cn
  refine at_many 1 i hgi hsi rfl ?_
  refine zH fun zq zQ => ?_
  refine zC 2 rfl ?_
  refine zT (ot_boxA rfl rfl) ?_
  rintro _ _ ⟨g0, rfl, rfl⟩
  refine zA Tryz.zeroValue57 fun g1 => ?_
  refine zO 4 rfl ?_
  refine zA Tryz.zeroValue57 fun g2 => ?_
  refine zOM [(2,_,_,_)] ⟨rfl,trivial⟩ [0] 7 rfl ?_
  refine zcall [] rfl rfl rfl Tryz.call15 rfl (hO ) rfl ?_
  simp only [zca, zna, splice, spliceL]
  refine zV (ov_indexRd (fun _ s => s.rd (k := 5) rfl) rfl Tryz.underlying48 rfl rfl rfl hgi) ?_
  refine zV (ov_loadRd0 (fun _ s => s.rd (k := 5) rfl) rfl rfl rfl hgi rfl) ?_
  refine zOM [(2,_,_,_)] ⟨rfl,trivial⟩ [0] 17 rfl ?_
  refine zcF rfl (decide_eq_false (by omega)) ?_
  refine zC 6 rfl ?_
  refine zcT rfl (decide_eq_true (by omega)) ?_
  refine zCM [(2,_,_,_)] ⟨rfl,trivial⟩ [0] 4 rfl ?_
  refine zcall [3] rfl rfl rfl Tryz.call16 rfl (hR ) rfl ?_
  simp only [zca, zna, splice, spliceL]
  refine zO 1 rfl ?_
  refine zS 1 ?_
  simp only [setAt, splice, spliceL, Value.cells]
  refine zOM [(1,_,_,_)] ⟨rfl,trivial⟩ [0] 6 rfl ?_
  refine zS 2 ?_
  simp only [setAt, splice, spliceL, Value.cells]
  refine zO 3 rfl ?_
  refine zQ ?_
  refine at_end ?_
  refine at_fold (A := Many NodeA gs (ss.set i (closeN s x.cn).1)) [0, 3] rfl (fun h s => many_back hgi (by omega) h s) ?_
  refine at_rowNil bsE 9 1 ?_
  refine at_fin (rsV rfl (res_cellS (k := 3) (vs := [_, _, _, _, _, _]) rfl rfl rfl rfl ⟨rfl, rfl, rfl, rfl, rfl, rfl, trivial⟩)) ?_
  try rw [hd]
  refine ⟨_, ⟨none, 0, rfl, rfl⟩, ?_⟩
  dsimp only [rp0]
  exact zE [5, 1, 0] [0, 0, 0]
 have hi1 : decide (x.do_ = 1) = false := by simp [h1]
 by_cases h2 : x.do_ = 2
 ·have hd : doL ss x = (ss.set i (leadN s x.ep).1, ⟨rp0, (leadN s x.ep).2, 0⟩) := by unfold doL; rw [← hid, hsi]; simp [h2]
  have hi2 : decide (x.do_ = 2) = true := by simp [h2]
  have hR := T10 w0 (g := g) (s := s) x.ep
  refine at_many 1 i hgi hsi rfl ?_
  refine zH fun zq zQ => ?_
  refine zC 2 rfl ?_
  refine zT (ot_boxA rfl rfl) ?_
  rintro _ _ ⟨g0, rfl, rfl⟩
  refine zA Tryz.zeroValue57 fun g1 => ?_
  refine zO 4 rfl ?_
  refine zA Tryz.zeroValue57 fun g2 => ?_
  refine zOM [(2,_,_,_)] ⟨rfl,trivial⟩ [0] 7 rfl ?_
  refine zcall [] rfl rfl rfl Tryz.call15 rfl (hO ) rfl ?_
  simp only [zca, zna, splice, spliceL]
  refine zV (ov_indexRd (fun _ s => s.rd (k := 5) rfl) rfl Tryz.underlying48 rfl rfl rfl hgi) ?_
  refine zV (ov_loadRd0 (fun _ s => s.rd (k := 5) rfl) rfl rfl rfl hgi rfl) ?_
  refine zOM [(2,_,_,_)] ⟨rfl,trivial⟩ [0] 17 rfl ?_
  refine zcF rfl (decide_eq_false (by omega)) ?_
  refine zC 6 rfl ?_
  refine zcF rfl (decide_eq_false (by omega)) ?_
  refine zC 6 rfl ?_
  refine zcT rfl (decide_eq_true (by omega)) ?_
  refine zCM [(2,_,_,_)] ⟨rfl,trivial⟩ [0] 4 rfl ?_
  refine zcall [3] rfl rfl rfl Tryz.call10 rfl (hR ) rfl ?_
  simp only [zca, zna, splice, spliceL]
  refine zO 1 rfl ?_
  refine zS 1 ?_
  simp only [setAt, splice, spliceL, Value.cells]
  refine zOM [(1,_,_,_)] ⟨rfl,trivial⟩ [0] 6 rfl ?_
  refine zS 2 ?_
  simp only [setAt, splice, spliceL, Value.cells]
  refine zO 3 rfl ?_
  refine zQ ?_
  refine at_end ?_
  refine at_fold (A := Many NodeA gs (ss.set i (leadN s x.ep).1)) [0, 3] rfl (fun h s => many_back hgi (by omega) h s) ?_
  refine at_rowNil bsE 9 1 ?_
  refine at_fin (rsV rfl (res_cellS (k := 3) (vs := [_, _, _, _, _, _]) rfl rfl rfl rfl ⟨rfl, rfl, rfl, rfl, rfl, rfl, trivial⟩)) ?_
  try rw [hd]
  refine ⟨_, ⟨none, 0, rfl, rfl⟩, ?_⟩
  dsimp only [rp0]
  exact zE [5, 1, 0] [0, 0, 0]
 have hi2 : decide (x.do_ = 2) = false := by simp [h2]
 have hj := (ofI_lt x.fr).1
 obtain ⟨j, hjd⟩ : ∃ j, j = ofI x.fr := ⟨_, rfl⟩
 rw [← hjd] at hj
 have hO2 := T15 w0 x.fr
 rw [← hjd] at hO2
 obtain ⟨g', hgj⟩ : ∃ g, gs[j]? = some g := ⟨_, List.getElem?_eq_getElem (by omega)⟩
 obtain ⟨f, hsj⟩ : ∃ s, ss[j]? = some s := ⟨_, List.getElem?_eq_getElem (by omega)⟩
 have hnf := hok f (List.mem_of_getElem? hsj)
 have hd : doL ss x = (ss.set i (copyN s f x.mn).1, ⟨rp0, false, (copyN s f x.mn).2⟩) := by unfold doL; rw [← hid, ← hjd, hsi, hsj]; simp [h0, h1, h2]
 by_cases hij : i = j
 ·subst hij
  rw [hgi] at hgj
  obtain rfl : g = g' := Option.some.inj hgj
  rw [hsi] at hsj
  obtain rfl : s = f := Option.some.inj hsj
  rw [copyN_self] at hd
  have hR := copySelf w0 (g := g) hns x.mn
  refine at_many 1 i hgi hsi rfl ?_
  refine zH fun zq zQ => ?_
  refine zC 2 rfl ?_
  refine zT (ot_boxA rfl rfl) ?_
  rintro _ _ ⟨g0, rfl, rfl⟩
  refine zA Tryz.zeroValue57 fun g1 => ?_
  refine zO 4 rfl ?_
  refine zA Tryz.zeroValue57 fun g2 => ?_
  refine zOM [(2,_,_,_)] ⟨rfl,trivial⟩ [0] 7 rfl ?_
  refine zcall [] rfl rfl rfl Tryz.call15 rfl (hO ) rfl ?_
  simp only [zca, zna, splice, spliceL]
  refine zV (ov_indexRd (fun _ s => s.rd (k := 5) rfl) rfl Tryz.underlying48 rfl rfl rfl hgi) ?_
  refine zV (ov_loadRd0 (fun _ s => s.rd (k := 5) rfl) rfl rfl rfl hgi rfl) ?_
  refine zOM [(2,_,_,_)] ⟨rfl,trivial⟩ [0] 17 rfl ?_
  refine zcF rfl (decide_eq_false (by omega)) ?_
  refine zC 6 rfl ?_
  refine zcF rfl (decide_eq_false (by omega)) ?_
  refine zC 6 rfl ?_
  refine zcF rfl (decide_eq_false (by omega)) ?_
  refine at_draw _ [] 1000 [(2, 0), (2, 1), (2, 2), (1, 3), (2, 7), (1, 8), (0, 4), (1, 5), (1, 6), (0, 9), (2, 10), (0, 11)] (by kernel_rfl) (by kernel_rfl) (fun _ s => (s.pulls (ks := [0, 0, 0, 0, 0, 0]) rfl).left) ?_
  refine aq_p (ov_move rfl rfl) rfl rfl rfl ?_
  refine aq_p (ov_move rfl rfl) rfl rfl rfl ?_
  refine aq_p (ov_fieldAddr (k := 2) (r := 2) rfl rfl rfl rfl) rfl rfl rfl ?_
  refine aq_v (ov_load rfl rfl rfl (fun _ s => s.ld (k := 2) rfl rfl)) rfl rfl rfl ?_
  refine aq_p (ov_fieldAddr (k := 4) (r := 4) rfl rfl rfl rfl) rfl rfl rfl ?_
  refine aq_v (ov_load rfl rfl rfl (fun _ s => s.ld (k := 2) rfl rfl)) rfl rfl rfl ?_
  refine aq_t (ot_call (ks := []) rfl rfl rfl Tryz.call15 rfl (hO2 ) rfl) rfl rfl rfl ?_
  rintro v0 _ ⟨m0, hp0, rfl⟩
  obtain ⟨rfl, rfl⟩ := hp0
  simp only [zca, zna, splice, spliceL]
  refine ⟨fun _ s => (s.pulls (ks := [0, 0, 0, 0, 0, 0]) rfl).left, ?_⟩
  refine aq_v (ov_indexRd (fun _ s => s.rd (k := 5) rfl) rfl Tryz.underlying48 rfl rfl rfl hgi) rfl rfl rfl ?_
  refine aq_v (ov_loadRd0 (fun _ s => s.rd (k := 5) rfl) rfl rfl rfl hgi rfl) rfl rfl rfl ?_
  refine aq_t (ot_call (ks := [3]) rfl rfl rfl Tryz.call31 rfl (hR ) rfl) rfl rfl rfl ?_
  rintro v0 _ ⟨m0, hp0, rfl⟩
  obtain ⟨rfl, rfl⟩ := hp0
  simp only [zca, zna, splice, spliceL]
  refine ⟨fun _ s => (s.pulls (ks := [1, 1, 1, 0, 0, 0]) rfl).left, ?_⟩
  refine aq_p (ov_fieldAddr (k := 5) (r := 5) rfl rfl rfl rfl) rfl rfl rfl ?_
  refine aq_t0 (ot_store (k := 1) rfl rfl rfl rfl rfl rfl rfl) rfl rfl ?_
  rintro _ _ ⟨rfl, rfl⟩
  simp only [setAt, splice, spliceL, Value.cells]
  refine ⟨fun _ s => (s.pulls (ks := [1, 1, 1, 0, 0, 0]) rfl).left, ?_⟩
  refine aq_nil ?_
  refine zXM [(1,_,_,_)] ⟨rfl,trivial⟩ [0] 5 rfl ?_
  refine zS 2 ?_
  simp only [setAt, splice, spliceL, Value.cells]
  refine zO 3 rfl ?_
  refine zQ ?_
  refine at_end ?_
  refine at_fold (A := Many NodeA gs (ss.set i s)) [0, 3] rfl (fun h s => many_back hgi (by omega) h s) ?_
  refine at_rowNil bsE 9 1 ?_
  refine at_fin (rsV rfl (res_cellS (k := 3) (vs := [_, _, _, _, _, _]) rfl rfl rfl rfl ⟨rfl, rfl, rfl, rfl, rfl, rfl, trivial⟩)) ?_
  try rw [hd]
  refine ⟨_, ⟨none, 0, rfl, rfl⟩, ?_⟩
  dsimp only [rp0]
  exact zE [5, 1, 0] [0, 0, 0]
 ·have hR := T31 w0 (g := g) (g' := g') hns hnf x.mn
  have hgj2 := (erase_other (l := gs) hij).trans hgj
  have hsj2 := (erase_other (l := ss) hij).trans hsj
  refine at_many 1 i hgi hsi rfl ?_
  refine at_many 1 (if j < i then j else j - 1) hgj2 hsj2 rfl ?_
  refine zH fun zq zQ => ?_
  refine zC 2 rfl ?_
  refine zT (ot_boxA rfl rfl) ?_
  rintro _ _ ⟨g0, rfl, rfl⟩
  refine zA Tryz.zeroValue57 fun g1 => ?_
  refine zO 4 rfl ?_
  refine zA Tryz.zeroValue57 fun g2 => ?_
  refine zOM [(2,_,_,_)] ⟨rfl,trivial⟩ [0] 7 rfl ?_
  refine zcall [] rfl rfl rfl Tryz.call15 rfl (hO ) rfl ?_
  simp only [zca, zna, splice, spliceL]
  refine zV (ov_indexRd (fun _ s => s.rd (k := 6) rfl) rfl Tryz.underlying48 rfl rfl rfl hgi) ?_
  refine zV (ov_loadRd0 (fun _ s => s.rd (k := 6) rfl) rfl rfl rfl hgi rfl) ?_
  refine zOM [(2,_,_,_)] ⟨rfl,trivial⟩ [0] 17 rfl ?_
  refine zcF rfl (decide_eq_false (by omega)) ?_
  refine zC 6 rfl ?_
  refine zcF rfl (decide_eq_false (by omega)) ?_
  refine zC 6 rfl ?_
  refine zcF rfl (decide_eq_false (by omega)) ?_
  refine at_draw _ [] 1000 [(2, 0), (2, 1), (2, 2), (1, 3), (2, 7), (1, 8), (0, 4), (1, 5), (1, 6), (0, 9), (2, 10), (0, 11)] (by kernel_rfl) (by kernel_rfl) (fun _ s => (s.pulls (ks := [2, 5]) rfl).left) ?_
  refine aq_p (ov_move rfl rfl) rfl rfl rfl ?_
  refine aq_p (ov_move rfl rfl) rfl rfl rfl ?_
  refine aq_p (ov_fieldAddr (k := 2) (r := 2) rfl rfl rfl rfl) rfl rfl rfl ?_
  refine aq_v (ov_load rfl rfl rfl (fun _ s => s.ld (k := 0) rfl rfl)) rfl rfl rfl ?_
  refine aq_p (ov_fieldAddr (k := 4) (r := 4) rfl rfl rfl rfl) rfl rfl rfl ?_
  refine aq_v (ov_load rfl rfl rfl (fun _ s => s.ld (k := 0) rfl rfl)) rfl rfl rfl ?_
  refine aq_t (ot_call (ks := []) rfl rfl rfl Tryz.call15 rfl (hO2 ) rfl) rfl rfl rfl ?_
  rintro v0 _ ⟨m0, hp0, rfl⟩
  obtain ⟨rfl, rfl⟩ := hp0
  simp only [zca, zna, splice, spliceL]
  refine ⟨fun _ s => (s.pulls (ks := [2, 5]) rfl).left, ?_⟩
  refine aq_v (ov_indexRd (fun _ s => s.rd (k := 1) rfl) rfl Tryz.underlying48 rfl rfl rfl hgj) rfl rfl rfl ?_
  refine aq_v (ov_loadRd0 (fun _ s => s.rd (k := 1) rfl) rfl rfl rfl hgj rfl) rfl rfl rfl ?_
  refine aq_t (ot_call (ks := [5, 3]) rfl rfl rfl Tryz.call31 rfl (hR ) rfl) rfl rfl rfl ?_
  rintro v0 _ ⟨m0, hp0, rfl⟩
  obtain ⟨rfl, rfl⟩ := hp0
  simp only [zca, zna, splice, spliceL]
  refine ⟨fun _ s => (s.pulls (ks := [4, 5]) rfl).left, ?_⟩
  refine aq_p (ov_fieldAddr (k := 5) (r := 5) rfl rfl rfl rfl) rfl rfl rfl ?_
  refine aq_t0 (ot_store (k := 2) rfl rfl rfl rfl rfl rfl rfl) rfl rfl ?_
  rintro _ _ ⟨rfl, rfl⟩
  simp only [setAt, splice, spliceL, Value.cells]
  refine ⟨fun _ s => (s.pulls (ks := [4, 5]) rfl).left, ?_⟩
  refine aq_nil ?_
  refine zXM [(2,_,_,_)] ⟨rfl,trivial⟩ [0] 5 rfl ?_
  refine zS 3 ?_
  simp only [setAt, splice, spliceL, Value.cells]
  refine zO 3 rfl ?_
  refine zQ ?_
  refine at_end ?_
  refine at_fold (A := Many NodeA (gs.eraseIdx i) (ss.eraseIdx i)) [1, 4] rfl (fun h s => many_same hgj2 hsj2 h s) ?_
  refine at_fold (A := Many NodeA gs (ss.set i (copyN s f x.mn).1)) [1, 0] rfl (fun h s => many_back hgi (by omega) h s) ?_
  refine at_rowNil bsE 9 1 ?_
  refine at_fin (rsV rfl (res_cellS (k := 3) (vs := [_, _, _, _, _, _]) rfl rfl rfl rfl ⟨rfl, rfl, rfl, rfl, rfl, rfl, trivial⟩)) ?_
  try rw [hd]
  refine ⟨_, ⟨none, 0, rfl, rfl⟩, ?_⟩
  dsimp only [rp0]
  exact zE [5, 1, 0] [0, 0, 0]
end Go.Proofs.YtighdkdomfpadaaGreatDoor
