/- Package plan, walked: named, place. -/
import Derived.Test.YtfcmajgnpnlkiaaGreatDoorProg
import Derived.Test.YtfcmajgnpnlkiaaGreatDoorPlanLaw
import Derived.Test.YtfcmajgnpnlkiaaGreatDoorSLB
import Derived.KernelRfl
set_option linter.unusedSimpArgs false
set_option linter.unusedVariables false
set_option maxRecDepth 100000
set_option maxHeartbeats 4000000
namespace Go.Proofs.YtfcmajgnpnlkiaaGreatDoor
open Go Go.Proofs.YtfcmajgnpnlkiaaGreatDoor.SL Go.RowKit
theorem cmp_lt : ∀ (a b : BL), Lib.compareBytes a b < 0 ↔ ltB a b = true
  | [], [] => by simp [Lib.compareBytes, Op.bytesLess]
  | [], _ :: _ => by simp [Lib.compareBytes, Op.bytesLess]
  | _ :: _, [] => by simp [Lib.compareBytes, Op.bytesLess]
  | a :: x, b :: y => by
    have ih := cmp_lt x y;rw [ltB_cons]
    unfold Lib.compareBytes
    by_cases h1 : a < b
    · have := UInt8.lt_iff_toNat_lt.1 h1;rw [if_pos h1]; simp [this]
    · have n1 : ¬ a.toNat < b.toNat := fun h => h1 (UInt8.lt_iff_toNat_lt.2 h);rw [if_neg h1]
      by_cases h2 : b < a
      · have := UInt8.lt_iff_toNat_lt.1 h2;have n2 : ¬ a.toNat = b.toNat := by omega
        rw [if_pos h2]; simp [n1, n2]
      · have n2 : ¬ b.toNat < a.toNat := fun h => h2 (UInt8.lt_iff_toNat_lt.2 h);rw [if_neg h2, ih];have e : a.toNat = b.toNat := by omega
        simp [e]
theorem cmp_eq : ∀ (a b : BL), Lib.compareBytes a b = 0 ↔ a = b
  | [], [] => by simp [Lib.compareBytes]
  | [], _ :: _ => by simp [Lib.compareBytes]
  | _ :: _, [] => by simp [Lib.compareBytes]
  | a :: x, b :: y => by
    have ih := cmp_eq x y
    unfold Lib.compareBytes
    by_cases h1 : a < b
    · have := UInt8.lt_iff_toNat_lt.1 h1;rw [if_pos h1];simp only [List.cons.injEq]
      constructor
      · intro h; omega
      · rintro ⟨rfl, _⟩; omega
    · rw [if_neg h1]
      by_cases h2 : b < a
      · have := UInt8.lt_iff_toNat_lt.1 h2;rw [if_pos h2];simp only [List.cons.injEq]
        constructor
        · intro h; omega
        · rintro ⟨rfl, _⟩; omega
      · have n1 : ¬ a.toNat < b.toNat := fun h => h1 (UInt8.lt_iff_toNat_lt.2 h);have n2 : ¬ b.toNat < a.toNat := fun h => h2 (UInt8.lt_iff_toNat_lt.2 h);have e : a = b := UInt8.toNat_inj.1 (by omega);rw [if_neg h2, ih, List.cons.injEq];simp [e]
theorem pos_gt : ∀ {l : List PR} {key : BL} {h : Nat} {x : PR}, tabB l = true → l[h]? = some x → ltB x.1 key = true → h + 1 ≤ posL l key
  | [], key, h, x, _, e, _ => by simp at e
  | a :: l, key, 0, x, _, e, hx => by
    simp at e; subst e;rw [pos_cons, if_pos hx]; omega
  | a :: l, key, h + 1, x, ht, e, hx => by
    obtain ⟨h1, h2⟩ := tab_cons ht;have e' : l[h]? = some x := by simpa using e
    have := pos_gt h1 e' hx;rw [pos_cons, if_pos (ltB_trans (h2 x (List.mem_of_getElem? e')) hx)];omega
theorem pos_ge : ∀ {l : List PR} {key : BL} {h : Nat} {x : PR}, l[h]? = some x → ltB x.1 key = false → posL l key ≤ h
  | [], key, h, x, e, _ => by simp at e
  | a :: l, key, 0, x, e, hx => by
    simp at e; subst e;rw [pos_cons, hx]; simp
  | a :: l, key, h + 1, x, e, hx => by
    have e' : l[h]? = some x := by simpa using e
    have := pos_ge e' hx;rw [pos_cons]
    split <;> omega
theorem T103 (w0 : World) (p : PR) : Tri Tryz.prog w0 103 [.agg #[SV p.1, SV p.2]] [] fun v m => v = SV p.1 ∧ m = [] := by
 refine tri_k Tryz.func103 rfl rfl fun F => ?_;simp only [Tryz.ntmps103, argEnv, List.nil_append];refine zH fun zq zQ => ?_;refine zC 2 rfl ?_;refine zT (ot_boxA rfl rfl) ?_;rintro _ _ ⟨g0, rfl, rfl⟩;refine zOM [(0,_,_,_)] ⟨rfl,trivial⟩ [0] 11 rfl ?_;refine zQ ?_;refine at_end ?_;refine zfin ?_;refine ⟨_, ⟨rfl, rfl⟩, ?_⟩;exact zE [] [0]
theorem T139 (w0 : World) (a b : BL) : Tri Tryz.prog w0 139 [SV a, SV b] [] fun v m => v = .int .i64 (Lib.compareBytes a b) ∧ m = [] := fun F w st => by
  refine (Tryz.strings_Compare ⟨a.toArray⟩ ⟨b.toArray⟩ w).mono ?_;rintro e w' ⟨rfl, rfl⟩;exact ⟨_, [], rfl, ⟨rfl, rfl⟩, st⟩
theorem T138 (w0 : World) (x : PR) (key : BL) {b : Nat} : Tri Tryz.prog w0 138 [.agg #[SV x.1, SV x.2], SV key, ptrTo b] [cl b #[.func (.func 103) #[] #[]] 181] fun v m => v = .int .i64 (Lib.compareBytes x.1 key) ∧ m = [cl b #[.func (.func 103) #[] #[]] 181] := by
 refine tri_k Tryz.func138 rfl rfl fun F => ?_;simp only [Tryz.ntmps138, argEnv, List.cons_append, List.nil_append];refine zH fun zq zQ => ?_;refine zC 2 rfl ?_;refine zT (ot_boxA rfl rfl) ?_;rintro _ _ ⟨g0, rfl, rfl⟩;refine zOM [(0,_,_,_),(1,_,_,_)] ⟨rfl,rfl,trivial⟩ [1,0] 7 rfl ?_;refine zcall [] rfl rfl rfl Tryz.call103 rfl (T103 _ _) rfl ?_;simp only [zca, zna, splice, spliceL];refine zO 1 rfl ?_;refine zcall [] rfl rfl rfl Tryz.call139 rfl (T139 _ _ _) rfl ?_;simp only [zca, zna, splice, spliceL];refine zO 4 rfl ?_;refine zQ ?_;refine at_end ?_;refine zfin ?_;refine ⟨_, ⟨rfl, rfl⟩, ?_⟩;exact zE [1] [0]
theorem T137 (w0 : World) (key : BL) {b : Nat} {A : Option Addr} {c : Nat} {l : List PR} (hr : Rd pE w0 2 A l) (ht : tabB l = true) (hm : l.length ≤ 1000000) :
 Tri Tryz.prog w0 137 [.slice A l.length c, SV key, .func (.func 138) #[] #[ptrTo b]] [cl b #[.func (.func 103) #[] #[]] 181] fun v m => v = .tuple #[.int .i64 (posL l key : Nat), .bool (isL l key)] ∧ m = [cl b #[.func (.func 103) #[] #[]] 181] := by
 refine tri_k Tryz.func137 rfl rfl fun F => ?_;simp only [Tryz.ntmps137, argEnv, List.cons_append, List.nil_append];refine zH fun zq zQ => ?_;refine zC 22 rfl ?_;refine at_loopK [15, 16, 17, 18, 19, 20, 21, 22, 23, 11, 24, 25, 26, 27, 28, 29, 30, 31, 32, 33, 9, 34, 10] (fun i : Nat × Nat => i.1 ≤ posL l key ∧ posL l key ≤ i.2 ∧ i.2 ≤ l.length) (fun i => [(9, .int .i64 (i.1 : Nat)), (10, .int .i64 (i.2 : Nat))]) (fun i q => q) (fun i => i.2 - i.1) (0, l.length) ⟨Nat.zero_le _, pos_le l key, Nat.le_refl _⟩ ⟨rfl, rfl, trivial⟩ (fun _ s => s) ?_;rintro ⟨i, j⟩ ⟨h1, h2, h3⟩;simp only at h1 h2 h3;dsimp only
 rcases Nat.lt_or_ge i j with hlt | hge
 ·have hi1 : decide ((i : Int) < j) = true := decide_eq_true (by omega);obtain ⟨h, hh⟩ : ∃ h : Nat, h = (i + j) / 2 := ⟨_, rfl⟩;have hcast : ((i : Int) + j) / 2 = (h : Nat) := by omega
  have hhl : h < l.length := by omega
  obtain ⟨x, hget⟩ : ∃ x, l[h]? = some x := ⟨_, List.getElem?_eq_getElem hhl⟩;refine zC 8 rfl ?_;refine zu ?_;refine zC 7 rfl ?_;refine zV zI ?_;refine zV ((ov_conv_int rfl rfl Tryz.underlying239 rfl).eq (congrArg (Value.int .u64) (inK_u64 (by omega) (by omega)))) ?_;refine zV (ov_half rfl rfl rfl (by omega)) ?_;refine zV ((ov_conv_int rfl rfl Tryz.underlying3 rfl).eq (congrArg (Value.int .i64) (inK_i64 (by omega) (by omega)))) ?_;refine zO 8 rfl ?_;refine at_reval 26 (.int .i64 (h : Nat)) rfl (by rw [hcast]) ?_;refine at_reval 11 (.int .i64 (h : Nat)) rfl (by rw [hcast]) ?_
  cases hx : ltB x.1 key with
  | true =>
   have hic : decide (Lib.compareBytes x.1 key < 0) = true := decide_eq_true ((cmp_lt _ _).2 hx);have hp := pos_gt ht hget hx;refine zV (ov_indexRd (fun _ s => hr.up s) rfl Tryz.underlying150 rfl rfl rfl hget) ?_;refine zV (ov_loadRdS (vs := [_, _]) (fun _ s => hr.up s) rfl rfl rfl hget rfl rfl) ?_;refine zO 1 rfl ?_;refine zcall [0] rfl rfl rfl Tryz.call138 rfl (T138 _ _ _) rfl ?_;simp only [zca, zna, splice, spliceL];refine zO 3 rfl ?_;refine zt ?_;refine zC 2 rfl ?_;refine zV zI ?_;refine zOR 4 rfl ?_;refine at_roundF (h + 1, j) ⟨hp, h2, h3⟩ (by simp only; omega) ⟨rfl, rfl, trivial⟩ rfl ?_;exact zE [0] []
  | false =>
   have hic : decide (Lib.compareBytes x.1 key < 0) = false := decide_eq_false fun e => by rw [(cmp_lt _ _).1 e] at hx; cases hx
   have hp := pos_ge hget hx;refine zV (ov_indexRd (fun _ s => hr.up s) rfl Tryz.underlying150 rfl rfl rfl hget) ?_;refine zV (ov_loadRdS (vs := [_, _]) (fun _ s => hr.up s) rfl rfl rfl hget rfl rfl) ?_;refine zO 1 rfl ?_;refine zcall [0] rfl rfl rfl Tryz.call138 rfl (T138 _ _ _) rfl ?_;simp only [zca, zna, splice, spliceL];refine zO 3 rfl ?_;refine zf ?_;refine zCR 6 rfl ?_;refine at_roundF (i, h) ⟨h1, hp, by simp only; omega⟩ (by simp only; omega) ⟨rfl, rfl, trivial⟩ rfl ?_;exact zE [0] []
 ·have hi1 : decide ((i : Int) < j) = false := decide_eq_false (by omega);have hi : i = posL l key := by omega
  subst hi
  rcases Nat.lt_or_ge (posL l key) l.length with hlt | hge2
  ·have hi2 : decide ((posL l key : Int) < l.length) = true := decide_eq_true (by omega);obtain ⟨x, hget⟩ : ∃ x, l[posL l key]? = some x := ⟨_, List.getElem?_eq_getElem hlt⟩
   have his : isL l key = decide (Lib.compareBytes x.1 key = 0) := by
    unfold isL
    try rw [hget]
    simp only
    by_cases e : x.1 = key
    ·try rw [decide_eq_true e]
     try rw [decide_eq_true ((cmp_eq _ _).2 e)]
    ·try rw [decide_eq_false e]
     try rw [decide_eq_false (fun h => e ((cmp_eq _ _).1 h))]
   refine zC 8 rfl ?_;refine zg ?_;refine zC 12 rfl ?_;refine zru 39 ?_;refine zO 3 rfl ?_;refine at_wanted (j := 4) rfl ?_;refine zV (ov_indexRd (fun _ s => hr.up s) rfl Tryz.underlying150 rfl rfl rfl hget) ?_;refine at_wanted (j := 4) rfl ?_;refine zV (ov_loadRdS (vs := [_, _]) (fun _ s => hr.up s) rfl rfl rfl hget rfl rfl) ?_;refine zO 1 rfl ?_;refine at_wanted (j := 4) rfl ?_;refine zcall [0] rfl rfl rfl Tryz.call138 rfl (T138 _ _ _) rfl ?_;simp only [zca, zna, splice, spliceL];refine zO 7 rfl ?_;refine zQ ?_;refine at_end ?_;refine at_fin (rsL (vs := [_, _]) rfl ⟨res_tmp rfl, res_tmp rfl, trivial⟩ rfl) ?_;refine ⟨_, ⟨by rw [his], rfl⟩, ?_⟩;exact zE [0] []
  ·have hi2 : decide ((posL l key : Int) < l.length) = false := decide_eq_false (by omega)
   have his : isL l key = false := by
    unfold isL
    try rw [List.getElem?_eq_none hge2]
   refine zC 8 rfl ?_;refine zg ?_;refine zC 12 rfl ?_;refine zrg 39 ?_;refine zO 14 rfl ?_;refine zQ ?_;refine at_end ?_;refine at_fin (rsL (vs := [_, _]) rfl ⟨res_tmp rfl, res_tmp rfl, trivial⟩ rfl) ?_;refine ⟨_, ⟨by rw [his], rfl⟩, ?_⟩;exact zE [0] []
theorem T102 (w0 : World) (key : BL) {A : Option Addr} {c : Nat} {l : List PR} (hr : Rd pE w0 2 A l) (ht : tabB l = true) (hm : l.length ≤ 1000000) :
 Tri Tryz.prog w0 102 [.slice A l.length c, SV key, .func (.func 103) #[] #[]] [] fun v m => v = .tuple #[.int .i64 (posL l key : Nat), .bool (isL l key)] ∧ m = [] := by
 refine tri_k Tryz.func102 rfl rfl fun F => ?_;simp only [Tryz.ntmps102, argEnv, List.cons_append, List.nil_append];refine zH fun zq zQ => ?_;refine zC 2 rfl ?_;refine zT (ot_box1 rfl rfl rfl) ?_;rintro _ _ ⟨g0, rfl, rfl⟩;refine zO 9 rfl ?_;refine zcall [0] rfl rfl rfl Tryz.call137 rfl (T137 _ _ (by first | assumption | rfl | omega | decide | (simp; done) | (simp at *; omega)) (by first | assumption | rfl | omega | decide | (simp; done) | (simp at *; omega)) (by first | assumption | rfl | omega | decide | (simp; done) | (simp at *; omega))) rfl ?_;simp only [zca, zna, splice, spliceL];refine zO 7 rfl ?_;refine zQ ?_;refine at_end ?_;refine at_fin (rsL (vs := [_, _]) rfl ⟨res_tmp rfl, res_tmp rfl, trivial⟩ rfl) ?_;refine ⟨_, ⟨rfl, rfl⟩, ?_⟩;exact zE [] [0]
open Go Go.Proofs.YtfcmajgnpnlkiaaGreatDoor.SL Go.RowKit
theorem pE_one (p : PR) : ∀ u ∈ pE p, u.oneCell' = true := by
  intro u hu;simp only [pE, List.mem_cons, List.not_mem_nil, or_false] at hu
  rcases hu with rfl | rfl <;> rfl
theorem T148 (w0 : World) {A : Option Addr} {c : Nat} {l : List PR} (hr : Rd pE w0 2 A l) (hm : l.length ≤ 1000000) :
 Tri Tryz.prog w0 148 [.slice A l.length c] [] fun v m => ∃ B e, v = .slice B l.length e ∧ m = [Row pE 180 2 B e l] := by
 refine tri_k Tryz.func148 rfl rfl fun F => ?_;simp only [Tryz.ntmps148, argEnv, List.cons_append, List.nil_append];refine zH fun zq zQ => ?_;refine zC 9 rfl ?_;refine zV (ov_slice_nil rfl Tryz.underlying150 rfl rfl) ?_;refine zO 2 rfl ?_
 cases A with
 | none =>
  have hnil : l = [] := by
   by_cases e : l = []
   ·exact e
   ·obtain ⟨ad, h, _⟩ := hr.at_ e; cases h
  subst hnil;refine zC 8 rfl ?_;refine zQ ?_;refine at_end ?_;refine at_rowNil pE 180 2 ?_;refine zfin ?_;refine ⟨_, ⟨none, 0, rfl, rfl⟩, ?_⟩;exact zE [0] []
 | some ad =>
  refine zC 5 rfl ?_;refine zT (ot_buildSlice (cs := []) rfl Tryz.underlying150 rfl rfl rfl rfl rfl rfl) ?_;rintro _ _ ⟨g0, rfl, rfl⟩;refine zO 1 rfl ?_;refine at_rowOf (c := 0) (size := 2) pE 0 [] rfl (by simp) (by simp) (by decide) (by simp) rfl ?_;simp only [setAt];refine zT (ot_append (k := 0) (xs := []) (ys := l) (enc := pE) (size := 2) (bytes := 32) (fun w s => hr.up s) rfl Tryz.underlying150 rfl rfl rfl rfl rfl (by decide) rfl rfl rfl (fun v _ => pE_one v) (by simp; omega) (by decide)) ?_;rintro _ _ ⟨A0, c0, rfl, rfl⟩;simp only [setAt, List.nil_append];refine zO 4 rfl ?_;refine zQ ?_;refine at_end ?_;refine zfin ?_;refine ⟨_, ⟨A0, c0, rfl, rfl⟩, ?_⟩;exact zE [0] []
theorem T149 (w0 : World) (x : PR) (i : Nat) {gv : Nat} {A : Option Addr} {c : Nat} {l : List PR} (hm : l.length ≤ 1000000) (hi : i ≤ l.length) :
 Tri Tryz.prog w0 149 [.slice A l.length c, .int .i64 (i : Nat), .slice (some ⟨gv, 0, none⟩) 1 1] [Row pE 180 2 A c l, cl gv #[SV x.1, SV x.2] 180] fun v m => ∃ B e, v = .slice B (l.take i ++ x :: l.drop i).length e ∧ m = [Row pE 180 2 B e (l.take i ++ x :: l.drop i)] := by
 refine tri_k Tryz.func149 rfl rfl fun F => ?_;simp only [Tryz.ntmps149, argEnv, List.cons_append, List.nil_append];refine at_rowLen 0 rfl fun hlc hcm => ?_
 by_cases hin : i = l.length
 ·subst hin;have e1 : l.take l.length ++ x :: l.drop l.length = l ++ [x] := by simp
  refine zH fun zq zQ => ?_;refine zC 9 rfl ?_;refine zV (ov_sliceFrom rfl Tryz.underlying150 rfl rfl rfl (by first | assumption | omega) (by assumption)) ?_;refine zO 34 rfl ?_;refine zu ?_;refine zC 4 rfl ?_;refine zT (ot_append (k := 0) (size := 2) (bytes := 32) (ys := [x]) (fun _ s => s.rdPt (k := 1) rfl rfl (by simp [pE])) rfl Tryz.underlying150 (ti := Tryz.t180) rfl rfl rfl rfl rfl (by decide) rfl rfl rfl (by simp [pE, Value.oneCell']) (by simp; omega) (by decide)) ?_;rintro _ _ ⟨A0, c0, rfl, rfl⟩;simp only [setAt];refine zO 5 rfl ?_;refine zQ ?_;refine at_end ?_;refine zfin ?_;refine ⟨_, ⟨A0, c0, by rw [e1], rfl⟩, ?_⟩
  try rw [e1]
  exact zE [0] [0]
 ·have hi1 : decide ((i : Int) = l.length) = false := decide_eq_false (by omega);refine zH fun zq zQ => ?_;refine zC 9 rfl ?_;refine zV (ov_sliceFrom rfl Tryz.underlying150 rfl rfl rfl (by first | assumption | omega) (by assumption)) ?_;refine zO 34 rfl ?_;refine zg ?_;refine zC 7 rfl ?_;refine zV zI ?_;refine zO 1 rfl ?_;refine zV (ov_capS rfl Tryz.underlying150 rfl) ?_
  by_cases hroom : l.length + 1 ≤ c
  ·have hi2 : decide ((l.length : Int) + (1 : Nat) > (c : Nat)) = false := decide_eq_false (by omega);refine zO 3 rfl ?_;refine zg ?_;refine zC 7 rfl ?_;refine zV zI ?_;refine zV (ov_sliceToC (k := l.length + 1) (size := 2) rfl Tryz.underlying150 rfl rfl (congrArg (fun z => some (Value.int .i64 z)) (show ((l.length : Int) + (1 : Nat)) = ((l.length + 1 : Nat) : Int) by omega)) hroom) ?_;refine zO 10 rfl ?_;refine zV zI ?_;refine zV (ov_sliceFromC (j := i + 1) (size := 2) rfl Tryz.underlying150 rfl rfl (congrArg (fun z => some (Value.int .i64 z)) (show ((i : Int) + (1 : Nat)) = ((i + 1 : Nat) : Int) by omega)) (by omega)) ?_;have hD1 : dropA A c (i + 1) 2 = A.map (·.add ((i + 1) * 2)) := by unfold dropA; rw [if_neg (by omega)]
   refine at_reval 66 (.slice (A.map (·.add ((i + 1) * 2))) (l.length + 1 - (i + 1)) (c - (i + 1))) rfl (by rw [hD1]) ?_;refine zT (ot_extern (e := Extern.SlicesOverlaps.overlaps #[150, 150] #[4]) rfl rfl rfl (run_callFunc_extern Tryz.func173 (by decide) rfl rfl rfl) (x_overlaps (size := 2) (xs := l) (ks := [1, 0]) Tryz.underlying150 (fun _ => rfl) (by decide) (by intro e; subst e; simp at hi hin; omega) rfl)) ?_;rintro _ _ ⟨rfl, rfl⟩;refine zO 5 rfl ?_;refine at_draw _ [] 1000 [(2, 0), (2, 1), (2, 2), (2, 3), (1, 4), (2, 5), (2, 6), (1, 7), (0, 8)] (by kernel_rfl) (by kernel_rfl) (fun _ s => (s.pulls (ks := [1]) rfl).left) ?_;refine qM ?_;refine qM ?_;refine qM ?_;refine qP (zI) ?_;refine qV (ov_sliceFromC (j := i + 1) (size := 2) rfl Tryz.underlying150 rfl rfl (congrArg (fun z => some (Value.int .i64 z)) (show ((i : Int) + (1 : Nat)) = ((i + 1 : Nat) : Int) by omega)) (by omega)) ?_;refine qM ?_;refine qM ?_;refine qV (ov_sliceFromC (j := i) (size := 2) rfl Tryz.underlying150 rfl rfl rfl (by omega)) ?_;have hdl : (l.drop i).length = l.length - i := List.length_drop;refine aq_t (ot_copyRow (k := 0) (j := i + 1) (size := 2) (ys := l.drop i) (fun _ s => rd_dropA s (k := 0) rfl i) rfl Tryz.underlying150 rfl rfl rfl rfl hD1 rfl (by rw [hdl]; omega) (by omega) (by omega) (by intro e; rw [e] at hdl; simp at hdl; omega) (fun v _ => pE_one v)) rfl rfl rfl ?_;rintro _ _ ⟨rfl, rfl⟩;have htl : (l.take i).length = i := by rw [List.length_take]; omega
   have e2 : l.take (i + 1) ++ l.drop i ++ l.drop (i + 1 + (l.drop i).length) = l.take (i + 1) ++ l.drop i := by
    have h2 : l.drop (i + 1 + (l.drop i).length) = [] := List.drop_eq_nil_of_le (by rw [hdl]; omega)
    try rw [h2]
    try rw [List.append_nil]
   try rw [e2]
   simp only [setAt];have htl1 : (l.take (i + 1)).length = i + 1 := by rw [List.length_take]; omega
   have hyl : (l.take (i + 1) ++ l.drop i).length = l.length + 1 := by rw [List.length_append, htl1, hdl]; omega
   refine ⟨fun _ s => (s.pulls (ks := [1]) rfl).left, ?_⟩;refine at_reval 0 (.slice A (l.take (i + 1) ++ l.drop i).length c) rfl (by rw [hyl]) ?_;refine at_rowLen 0 rfl fun hlc1 hcm1 => ?_;refine aq_nil ?_;refine zX 5 rfl ?_;refine zV (ov_sliceFrom rfl Tryz.underlying150 rfl rfl rfl (by first | assumption | omega) (by assumption)) ?_;refine zO 1 rfl ?_;have hD0 : dropA A c i 2 = A.map (·.add (i * 2)) := by unfold dropA; rw [if_neg (by omega)]
   refine zT (ot_copyRow (k := 0) (j := i) (size := 2) (ys := [x]) (fun _ s => s.rdPt (k := 1) rfl rfl (by simp [pE])) rfl Tryz.underlying150 rfl rfl rfl rfl hD0 rfl (by rw [List.length_drop, hyl]; simp; omega) (by omega) (by simp; omega) (by simp) (by simp [pE, Value.oneCell'])) ?_;rintro _ _ ⟨rfl, rfl⟩
   have e3 : (l.take (i + 1) ++ l.drop i).take i ++ [x] ++ (l.take (i + 1) ++ l.drop i).drop (i + ([x] : List PR).length) = l.take i ++ x :: l.drop i := by
    have h1 : (l.take (i + 1) ++ l.drop i).take i = l.take i := by rw [List.take_append_of_le_length (by omega), List.take_take, Nat.min_eq_left (by omega)]
    have h2 : (l.take (i + 1) ++ l.drop i).drop (i + 1) = l.drop i := by rw [List.drop_append, List.drop_eq_nil_of_le (by omega), htl1]; simp
    rw [show ([x] : List PR).length = 1 from rfl, h1, h2]; simp
   try rw [e3]
   simp only [setAt];have hfl : (l.take (i + 1) ++ l.drop i).length = (l.take i ++ x :: l.drop i).length := by rw [hyl, List.length_append, List.length_cons, hdl, htl]; omega
   refine zO 10 rfl ?_;refine zQ ?_;refine at_end ?_;refine zfin ?_;refine ⟨_, ⟨A, c, by rw [hfl], rfl⟩, ?_⟩;exact zE [0] [0]
  ·have hi2 : decide ((l.length : Int) + (1 : Nat) > (c : Nat)) = true := decide_eq_true (by omega);refine zO 3 rfl ?_;refine zu ?_;refine zC 4 rfl ?_;refine zV (ov_sliceTo rfl Tryz.underlying150 rfl rfl rfl (by first | assumption | omega) (by assumption)) ?_;refine zO 2 rfl ?_;refine zV zI ?_;refine zO 1 rfl ?_;refine zV zI ?_;obtain ⟨m, hm1⟩ : ∃ m : Nat, m = l.length + 1 - i := ⟨_, rfl⟩;have htl : (l.take i).length = i := by rw [List.length_take]; omega
   refine at_reval 39 (.int .i64 (m : Nat)) rfl (by congr 1; omega) ?_;refine at_reval 34 (.slice A i c) rfl (by rw [htl]) ?_;refine zT (ot_appendZeros (k := 0) (m := m) (j := i) (size := 2) (([], []) : PR) rfl Tryz.underlying150 Tryz.underlying3 rfl rfl rfl rfl rfl (by decide) rfl rfl rfl (by omega) (by omega) (by omega) (by show (i + m) * 32 ≤ _; omega) (by decide)) ?_;rintro _ _ ⟨A1, c1, rfl, rfl⟩;obtain ⟨zs, hzs⟩ : ∃ zs, zs = List.replicate m (([], []) : PR) := ⟨_, rfl⟩;have hzl : zs.length = m := by rw [hzs, List.length_replicate]
   try rw [← hzs]
   have hyl : (l.take i ++ zs).length = i + m := by rw [List.length_append, htl, hzl]
   refine at_reval 40 (.slice A1 (l.take i ++ zs).length c1) rfl (by rw [hyl]) ?_;refine at_rowLen 0 rfl fun hlc1 hcm1 => ?_;refine zO 7 rfl ?_;refine zV (ov_sliceFrom rfl Tryz.underlying150 rfl rfl rfl (by first | assumption | omega) (by assumption)) ?_;refine zO 1 rfl ?_;have hD1 : dropA A1 c1 i 2 = A1.map (·.add (i * 2)) := by unfold dropA; rw [if_neg (by omega)]
   refine zT (ot_copyRow (k := 0) (j := i) (size := 2) (ys := [x]) (fun _ s => s.rdPt (k := 2) rfl rfl (by simp [pE])) rfl Tryz.underlying150 rfl rfl rfl rfl hD1 rfl (by simp; omega) (by omega) (by simp; omega) (by simp) (by simp [pE, Value.oneCell'])) ?_;rintro _ _ ⟨rfl, rfl⟩
   have e2 : (l.take i ++ zs).take i ++ [x] ++ (l.take i ++ zs).drop (i + ([x] : List PR).length) = l.take i ++ x :: zs.drop 1 := by
    have h1 : (l.take i ++ zs).take i = l.take i := by rw [List.take_append_of_le_length (by omega), List.take_take, Nat.min_self]
    have h2 : (l.take i ++ zs).drop (i + 1) = zs.drop 1 := by rw [List.drop_append, List.drop_eq_nil_of_le (by omega), htl]; simp
    rw [show ([x] : List PR).length = 1 from rfl, h1, h2]; simp
   try rw [e2]
   simp only [setAt];have hyl2 : (l.take i ++ x :: zs.drop 1).length = i + m := by simp only [List.length_append, List.length_cons, List.length_drop, htl, hzl]; omega
   refine at_reval 9 (.slice A1 (l.take i ++ x :: zs.drop 1).length c1) rfl (by rw [hyl, hyl2]) ?_;refine zO 3 rfl ?_;refine at_draw _ [] 1000 [(2, 0), (2, 1), (2, 2), (2, 3), (1, 4), (2, 5), (2, 6), (1, 7), (0, 8)] (by kernel_rfl) (by kernel_rfl) (fun _ s => (s.pulls (ks := [2]) rfl).left) ?_;refine qM ?_;refine qM ?_;refine qM ?_;refine qP (zI) ?_;refine qV (ov_sliceFrom (k := i + 1) (xs := l.take i ++ x :: zs.drop 1) (size := 2) rfl Tryz.underlying150 rfl rfl (congrArg (fun z => some (Value.int .i64 z)) (show ((i : Int) + (1 : Nat)) = ((i + 1 : Nat) : Int) by omega)) (by omega) (by omega)) ?_;refine qM ?_;refine qM ?_;refine qV (ov_sliceFrom rfl Tryz.underlying150 rfl rfl rfl (by first | assumption | omega) (by assumption)) ?_;have hD2 : dropA A1 c1 (i + 1) 2 = A1.map (·.add ((i + 1) * 2)) := by unfold dropA; rw [if_neg (by omega)]
   have hdl : (l.drop i).length = l.length - i := List.length_drop;refine aq_t (ot_copyRow (k := 0) (j := i + 1) (size := 2) (ys := l.drop i) (fun _ s => rd_dropA s (k := 1) rfl i) rfl Tryz.underlying150 rfl rfl rfl rfl hD2 rfl (by rw [List.length_drop, List.length_drop, hyl2]; omega) (by omega) (by omega) (by intro e; rw [e] at hdl; simp at hdl; omega) (fun v _ => pE_one v)) rfl rfl rfl ?_;rintro _ _ ⟨rfl, rfl⟩
   have e3 : (l.take i ++ x :: zs.drop 1).take (i + 1) ++ l.drop i ++ (l.take i ++ x :: zs.drop 1).drop (i + 1 + (l.drop i).length) = l.take i ++ x :: l.drop i := by
    have h1 : (l.take i ++ x :: zs.drop 1).take (i + 1) = l.take i ++ [x] := by
     rw [List.take_append, htl, List.take_of_length_le (by omega), show i + 1 - i = 1 by omega]; rfl
    have h2 : (l.take i ++ x :: zs.drop 1).drop (i + 1 + (l.drop i).length) = [] := List.drop_eq_nil_of_le (by rw [hyl2, hdl]; omega);rw [h1, h2]; simp
   try rw [e3]
   simp only [setAt];refine ⟨fun _ s => (s.pulls (ks := [2]) rfl).left, ?_⟩;have hfl : (l.take i ++ x :: zs.drop 1).length = (l.take i ++ x :: l.drop i).length := by rw [hyl2, List.length_append, List.length_cons, hdl, htl]; omega
   refine aq_nil ?_;refine zX 9 rfl ?_;refine zQ ?_;refine at_end ?_;refine zfin ?_;refine ⟨_, ⟨A1, c1, by rw [hfl], rfl⟩, ?_⟩;exact zE [0] [0, 0]
open Go Go.Proofs.YtfcmajgnpnlkiaaGreatDoor.SL Go.RowKit
theorem T150 (w0 : World) (i : Nat) {A : Option Addr} {c : Nat} {l : List PR} (hm : l.length ≤ 1000000) (hi : i < l.length) :
 Tri Tryz.prog w0 150 [.slice A l.length c, .int .i64 (i : Nat), .int .i64 ((i : Nat) + 1)] [Row pE 180 2 A c l] fun v m => v = .slice A (l.eraseIdx i).length c ∧ m = [Row pE 180 2 A c (l.eraseIdx i)] := by
 refine tri_k Tryz.func150 rfl rfl fun F => ?_;simp only [Tryz.ntmps150, argEnv, List.cons_append, List.nil_append];refine at_rowLen 0 rfl fun hlc hcm => ?_;refine at_reval 2 (.int .i64 ((i + 1 : Nat))) rfl rfl ?_;have hi1 : decide ((i : Int) = ((i + 1 : Nat) : Int)) = false := decide_eq_false (by omega);refine zH fun zq zQ => ?_;refine zC 12 rfl ?_;refine zV (ov_slice3 (size := 2) rfl Tryz.underlying150 rfl rfl rfl rfl rfl (by omega) (by omega) (by omega)) ?_;refine zO 10 rfl ?_;refine zg ?_;refine zC 10 rfl ?_;refine at_draw _ [] 1000 [(2, 0), (2, 1), (1, 2), (2, 3), (2, 4), (1, 5), (0, 6), (2, 7)] (by kernel_rfl) (by kernel_rfl) (fun _ s => (s.pulls (ks := []) rfl).left) ?_;refine qM ?_;refine qM ?_;refine qV (ov_sliceTo rfl Tryz.underlying150 rfl rfl rfl (by first | assumption | omega) (by assumption)) ?_;refine qM ?_;refine qM ?_;refine qV (ov_sliceFrom rfl Tryz.underlying150 rfl rfl rfl (by first | assumption | omega) (by assumption)) ?_;have htl : (l.take i).length = i := by rw [List.length_take]; omega
 have hdl : (l.drop (i + 1)).length = l.length - (i + 1) := List.length_drop;refine aq_t (ot_appendIn (k := 0) (j := (l.take i).length) (size := 2) (ys := l.drop (i + 1)) (fun _ s => rd_dropA s (k := 0) rfl (i + 1)) rfl Tryz.underlying150 rfl rfl rfl rfl rfl (by omega) (by omega) (fun v _ => pE_one v)) rfl rfl rfl ?_;rintro _ _ ⟨rfl, rfl⟩;have hel : (l.eraseIdx i).length = (l.take i).length + (l.drop (i + 1)).length := by rw [List.length_eraseIdx_of_lt hi, htl, hdl]; omega
 have e2 : l.take (l.take i).length ++ l.drop (i + 1) ++ l.drop ((l.take i).length + (l.drop (i + 1)).length) = l.eraseIdx i ++ l.drop (l.length - 1) := by
  try rw [htl]
  try rw [← List.eraseIdx_eq_take_drop_succ]
  try rw [hdl]
  congr 2; omega
 try rw [e2]
 have hdl1 : (l.drop (l.length - 1)).length = 1 := by rw [List.length_drop]; omega
 simp only [setAt];refine ⟨fun _ s => (s.pulls (ks := []) rfl).left, ?_⟩
 try rw [← hel]
 refine qP (ov_assign rfl rfl) ?_;refine aq_nil ?_;refine zX 7 rfl ?_;refine zV (ov_sliceMidC (j := (l.eraseIdx i).length) (k := l.length) (size := 2) rfl Tryz.underlying150 rfl rfl rfl rfl (by omega) (by omega)) ?_;refine at_reval 31 (.slice (dropA A c (l.eraseIdx i).length 2) ((l.eraseIdx i ++ l.drop (l.length - 1)).drop (l.eraseIdx i).length).length (c - (l.eraseIdx i).length)) rfl (by rw [List.drop_left, hdl1]; congr 1; omega) ?_;refine zT0 (ot_clearRow (k := 0) (i := (l.eraseIdx i).length) (size := 2) rfl Tryz.underlying150 Tryz.zeroValue180 rfl rfl rfl rfl (by simp)) ?_;rintro _ _ ⟨rfl, rfl⟩;have e3 : (l.eraseIdx i ++ l.drop (l.length - 1)).take (l.eraseIdx i).length = l.eraseIdx i := List.take_left
 try rw [e3]
 simp only [setAt];refine zO 9 rfl ?_;refine zQ ?_;refine at_end ?_;refine zfin ?_;refine ⟨_, ⟨rfl, rfl⟩, ?_⟩;exact zE [0] []
theorem T107 (w0 : World) (p : PM) {A : Option Addr} {c : Nat} {l : List PR} (hr : Rd pE w0 2 A l) (ht : tabB l = true) (hm : l.length ≤ 1000000) :
 Tri Tryz.prog w0 107 [.agg #[.int .i64 p.1, SV p.2.1, SV p.2.2], .slice A l.length c] [] fun v m => ∃ B e, v = .tuple #[.slice B (writesL p l).1.length e, .int .i64 (writesL p l).2] ∧ m = [Row pE 180 2 B e (writesL p l).1] := by
 refine tri_k Tryz.func107 rfl rfl fun F => ?_;simp only [Tryz.ntmps107, argEnv, List.cons_append, List.nil_append];have hpl := pos_le l p.2.1
 have hget (h : isL l p.2.1 = true) : ∃ y, l[posL l p.2.1]? = some y ∧ y.1 = p.2.1 := by
  unfold isL at h
  cases hy : l[posL l p.2.1]? with
  | none => rw [hy] at h; cases h
  | some y => rw [hy] at h; exact ⟨y, rfl, by simpa using h⟩
 by_cases h3 : p.1 = 3
 ·have hi3 : decide (p.1 = 3) = true := decide_eq_true h3
  cases his : isL l p.2.1 with
  | false =>
   have hw : writesL p l = (l.take (posL l p.2.1) ++ (p.2.1, p.2.2) :: l.drop (posL l p.2.1), 1) := by unfold writesL; rw [if_pos ⟨h3, his⟩]
   have hP := T102 w0 p.2.1 (A := A) (c := c) hr ht hm;rw [his] at hP;refine zH fun zq zQ => ?_;refine zC 2 rfl ?_;refine zT (ot_boxA rfl rfl) ?_;rintro _ _ ⟨g0, rfl, rfl⟩;refine zO 7 rfl ?_;refine zT (ot_call (ks := []) rfl rfl rfl Tryz.call148 rfl (T148 _ (by first | assumption | rfl | omega | decide | (simp; done) | (simp at *; omega)) (by first | assumption | rfl | omega | decide | (simp; done) | (simp at *; omega))) rfl) ?_;rintro v0 _ ⟨m0, hp0, rfl⟩;obtain ⟨B0, hp0⟩ := hp0;obtain ⟨e0, hp0⟩ := hp0;obtain ⟨rfl, rfl⟩ := hp0;simp only [zca, zna, splice, spliceL];refine zOM [(1,_,_,_)] ⟨rfl,trivial⟩ [0] 8 rfl ?_;refine zcall [] rfl rfl rfl Tryz.call102 rfl (hP ) rfl ?_;simp only [zca, zna, splice, spliceL];refine zOM [(1,_,_,_)] ⟨rfl,trivial⟩ [0] 15 rfl ?_;refine zru 22 ?_;refine zOM [(1,_,_,_)] ⟨rfl,trivial⟩ [0,0] 15 rfl ?_;refine zV (ov_build (cs := [_, _]) rfl rfl rfl rfl) ?_;refine zT (ot_buildSlice (cs := [_, _]) rfl Tryz.underlying150 rfl rfl rfl rfl rfl rfl) ?_;rintro _ _ ⟨g1, rfl, rfl⟩;refine zT (ot_call (ks := [1, 0]) rfl rfl rfl Tryz.call149 rfl (T149 _ _ _ (by first | assumption | rfl | omega | decide | (simp; done) | (simp at *; omega)) (by first | assumption | rfl | omega | decide | (simp; done) | (simp at *; omega))) rfl) ?_;rintro v0 _ ⟨m0, hp0, rfl⟩;obtain ⟨B1, hp0⟩ := hp0;obtain ⟨e1, hp0⟩ := hp0;obtain ⟨rfl, rfl⟩ := hp0;simp only [zca, zna, splice, spliceL];refine zO 7 rfl ?_;refine zQ ?_;refine at_end ?_;refine at_fin (rsL (vs := [_, _]) rfl ⟨res_tmp rfl, res_tmp rfl, trivial⟩ rfl) ?_;refine ⟨_, ⟨B1, e1, by rw [hw], rfl⟩, ?_⟩
   try rw [hw]
   exact zE [0] [0]
  | true =>
   obtain ⟨y, hy, hyk⟩ := hget his;have hw : writesL p l = (l.set (posL l p.2.1) (p.2.1, p.2.2), 1) := by unfold writesL; rw [if_neg (by simp [his]), if_pos (.inl h3)]
   have hP := T102 w0 p.2.1 (A := A) (c := c) hr ht hm;rw [his] at hP;refine zH fun zq zQ => ?_;refine zC 2 rfl ?_;refine zT (ot_boxA rfl rfl) ?_;rintro _ _ ⟨g0, rfl, rfl⟩;refine zO 7 rfl ?_;refine zT (ot_call (ks := []) rfl rfl rfl Tryz.call148 rfl (T148 _ (by first | assumption | rfl | omega | decide | (simp; done) | (simp at *; omega)) (by first | assumption | rfl | omega | decide | (simp; done) | (simp at *; omega))) rfl) ?_;rintro v0 _ ⟨m0, hp0, rfl⟩;obtain ⟨B0, hp0⟩ := hp0;obtain ⟨e0, hp0⟩ := hp0;obtain ⟨rfl, rfl⟩ := hp0;simp only [zca, zna, splice, spliceL];refine zOM [(1,_,_,_)] ⟨rfl,trivial⟩ [0] 8 rfl ?_;refine zcall [] rfl rfl rfl Tryz.call102 rfl (hP ) rfl ?_;simp only [zca, zna, splice, spliceL];refine zOM [(1,_,_,_)] ⟨rfl,trivial⟩ [0] 15 rfl ?_;refine zru 22 ?_;refine zOM [(1,_,_,_)] ⟨rfl,trivial⟩ [0] 13 rfl ?_;refine zru 39 ?_;refine zOM [(1,_,_,_)] ⟨rfl,trivial⟩ [0] 17 rfl ?_;refine zV (ov_indexRd (fun _ s => s.rd (k := 0) rfl) rfl Tryz.underlying150 rfl rfl rfl hy) ?_;refine zV (ov_fieldRd0 (k := 1) (fun _ s => s.rd (k := 0) rfl) rfl rfl hy rfl) ?_;refine zT0 (ot_storeRow (k := 0) (i := posL l p.2.1) (j := 1) (u := y) (u' := (y.1, p.2.2)) rfl rfl rfl rfl hy rfl (Nat.le_refl _) rfl rfl) ?_;rintro _ _ ⟨rfl, rfl⟩;simp only [setAt];refine zO 12 rfl ?_;refine zQ ?_;refine at_end ?_;have hls : (l.set (posL l p.2.1) (p.2.1, p.2.2)).length = l.length := List.length_set;refine at_fin (rsL (vs := [_, _]) rfl ⟨res_tmp rfl, res_tmp rfl, trivial⟩ rfl) ?_;refine ⟨_, ⟨B0, e0, by rw [hw, hls], rfl⟩, ?_⟩
   try rw [hw]
   simp only [hyk];exact zE [0] [0]
 ·have hi3 : decide (p.1 = 3) = false := decide_eq_false h3
  cases his : isL l p.2.1 with
  | false =>
   have hw : writesL p l = (l, 0) := by unfold writesL; rw [if_neg (by simp [h3]), if_neg (by simp [h3, his]), if_neg (by simp [his])]
   have hP := T102 w0 p.2.1 (A := A) (c := c) hr ht hm;rw [his] at hP;obtain ⟨b4, hb4⟩ : ∃ b, decide (p.1 = 4) = b := ⟨_, rfl⟩;obtain ⟨b5, hb5⟩ : ∃ b, decide (p.1 = 5) = b := ⟨_, rfl⟩
   cases b4 with
   | true =>
    have hi5 : decide (p.1 = 5) = false := decide_eq_false (by have := of_decide_eq_true hb4; omega);refine zH fun zq zQ => ?_;refine zC 2 rfl ?_;refine zT (ot_boxA rfl rfl) ?_;rintro _ _ ⟨g0, rfl, rfl⟩;refine zO 7 rfl ?_;refine zT (ot_call (ks := []) rfl rfl rfl Tryz.call148 rfl (T148 _ (by first | assumption | rfl | omega | decide | (simp; done) | (simp at *; omega)) (by first | assumption | rfl | omega | decide | (simp; done) | (simp at *; omega))) rfl) ?_;rintro v0 _ ⟨m0, hp0, rfl⟩;obtain ⟨B0, hp0⟩ := hp0;obtain ⟨e0, hp0⟩ := hp0;obtain ⟨rfl, rfl⟩ := hp0;simp only [zca, zna, splice, spliceL];refine zOM [(1,_,_,_)] ⟨rfl,trivial⟩ [0] 8 rfl ?_;refine zcall [] rfl rfl rfl Tryz.call102 rfl (hP ) rfl ?_;simp only [zca, zna, splice, spliceL];refine zOM [(1,_,_,_)] ⟨rfl,trivial⟩ [0] 15 rfl ?_;refine zrg 22 ?_;refine zOM [(1,_,_,_)] ⟨rfl,trivial⟩ [0] 13 rfl ?_;refine zrg 39 ?_;refine zOM [(1,_,_,_)] ⟨rfl,trivial⟩ [0] 4 rfl ?_;refine zrt 43 ?_;refine zOM [(1,_,_,_)] ⟨rfl,trivial⟩ [0] 13 rfl ?_;refine zrf 58 ?_;refine zO 17 rfl ?_;refine zQ ?_;refine at_end ?_;refine at_fin (rsL (vs := [_, _]) rfl ⟨res_tmp rfl, res_tmp rfl, trivial⟩ rfl) ?_;refine ⟨_, ⟨B0, e0, by rw [hw], rfl⟩, ?_⟩
    try rw [hw]
    exact zE [0] [0]
   | false =>
    cases b5 with
    | true =>
     refine zH fun zq zQ => ?_;refine zC 2 rfl ?_;refine zT (ot_boxA rfl rfl) ?_;rintro _ _ ⟨g0, rfl, rfl⟩;refine zO 7 rfl ?_;refine zT (ot_call (ks := []) rfl rfl rfl Tryz.call148 rfl (T148 _ (by first | assumption | rfl | omega | decide | (simp; done) | (simp at *; omega)) (by first | assumption | rfl | omega | decide | (simp; done) | (simp at *; omega))) rfl) ?_;rintro v0 _ ⟨m0, hp0, rfl⟩;obtain ⟨B0, hp0⟩ := hp0;obtain ⟨e0, hp0⟩ := hp0;obtain ⟨rfl, rfl⟩ := hp0;simp only [zca, zna, splice, spliceL];refine zOM [(1,_,_,_)] ⟨rfl,trivial⟩ [0] 8 rfl ?_;refine zcall [] rfl rfl rfl Tryz.call102 rfl (hP ) rfl ?_;simp only [zca, zna, splice, spliceL];refine zOM [(1,_,_,_)] ⟨rfl,trivial⟩ [0] 15 rfl ?_;refine zrg 22 ?_;refine zOM [(1,_,_,_)] ⟨rfl,trivial⟩ [0] 13 rfl ?_;refine zrg 39 ?_;refine zOM [(1,_,_,_)] ⟨rfl,trivial⟩ [0] 4 rfl ?_;refine zrf 43 ?_;refine zOM [(1,_,_,_)] ⟨rfl,trivial⟩ [0] 13 rfl ?_;refine zrt 58 ?_;refine zO 17 rfl ?_;refine zQ ?_;refine at_end ?_;refine at_fin (rsL (vs := [_, _]) rfl ⟨res_tmp rfl, res_tmp rfl, trivial⟩ rfl) ?_;refine ⟨_, ⟨B0, e0, by rw [hw], rfl⟩, ?_⟩
     try rw [hw]
     exact zE [0] [0]
    | false =>
     refine zH fun zq zQ => ?_;refine zC 2 rfl ?_;refine zT (ot_boxA rfl rfl) ?_;rintro _ _ ⟨g0, rfl, rfl⟩;refine zO 7 rfl ?_;refine zT (ot_call (ks := []) rfl rfl rfl Tryz.call148 rfl (T148 _ (by first | assumption | rfl | omega | decide | (simp; done) | (simp at *; omega)) (by first | assumption | rfl | omega | decide | (simp; done) | (simp at *; omega))) rfl) ?_;rintro v0 _ ⟨m0, hp0, rfl⟩;obtain ⟨B0, hp0⟩ := hp0;obtain ⟨e0, hp0⟩ := hp0;obtain ⟨rfl, rfl⟩ := hp0;simp only [zca, zna, splice, spliceL];refine zOM [(1,_,_,_)] ⟨rfl,trivial⟩ [0] 8 rfl ?_;refine zcall [] rfl rfl rfl Tryz.call102 rfl (hP ) rfl ?_;simp only [zca, zna, splice, spliceL];refine zOM [(1,_,_,_)] ⟨rfl,trivial⟩ [0] 15 rfl ?_;refine zrg 22 ?_;refine zOM [(1,_,_,_)] ⟨rfl,trivial⟩ [0] 13 rfl ?_;refine zrg 39 ?_;refine zOM [(1,_,_,_)] ⟨rfl,trivial⟩ [0] 4 rfl ?_;refine zrf 43 ?_;refine zOM [(1,_,_,_)] ⟨rfl,trivial⟩ [0] 13 rfl ?_;refine zrf 58 ?_;refine zO 17 rfl ?_;refine zQ ?_;refine at_end ?_;refine at_fin (rsL (vs := [_, _]) rfl ⟨res_tmp rfl, res_tmp rfl, trivial⟩ rfl) ?_;refine ⟨_, ⟨B0, e0, by rw [hw], rfl⟩, ?_⟩
     try rw [hw]
     exact zE [0] [0]
  | true =>
   obtain ⟨y, hy, hyk⟩ := hget his;have hplt : posL l p.2.1 < l.length := (List.getElem?_eq_some_iff.1 hy).1;have hP := T102 w0 p.2.1 (A := A) (c := c) hr ht hm;rw [his] at hP
   by_cases h4 : p.1 = 4
   ·have hi4 : decide (p.1 = 4) = true := decide_eq_true h4;have hw : writesL p l = (l.set (posL l p.2.1) (p.2.1, p.2.2), 1) := by unfold writesL; rw [if_neg (by simp [h3]), if_pos (.inr ⟨h4, his⟩)]
    refine zH fun zq zQ => ?_;refine zC 2 rfl ?_;refine zT (ot_boxA rfl rfl) ?_;rintro _ _ ⟨g0, rfl, rfl⟩;refine zO 7 rfl ?_;refine zT (ot_call (ks := []) rfl rfl rfl Tryz.call148 rfl (T148 _ (by first | assumption | rfl | omega | decide | (simp; done) | (simp at *; omega)) (by first | assumption | rfl | omega | decide | (simp; done) | (simp at *; omega))) rfl) ?_;rintro v0 _ ⟨m0, hp0, rfl⟩;obtain ⟨B0, hp0⟩ := hp0;obtain ⟨e0, hp0⟩ := hp0;obtain ⟨rfl, rfl⟩ := hp0;simp only [zca, zna, splice, spliceL];refine zOM [(1,_,_,_)] ⟨rfl,trivial⟩ [0] 8 rfl ?_;refine zcall [] rfl rfl rfl Tryz.call102 rfl (hP ) rfl ?_;simp only [zca, zna, splice, spliceL];refine zOM [(1,_,_,_)] ⟨rfl,trivial⟩ [0] 15 rfl ?_;refine zrg 22 ?_;refine zOM [(1,_,_,_)] ⟨rfl,trivial⟩ [0] 13 rfl ?_;refine zrg 39 ?_;refine zOM [(1,_,_,_)] ⟨rfl,trivial⟩ [0] 4 rfl ?_;refine zru 43 ?_;refine zOM [(1,_,_,_)] ⟨rfl,trivial⟩ [0] 13 rfl ?_;refine zV (ov_indexRd (fun _ s => s.rd (k := 0) rfl) rfl Tryz.underlying150 rfl rfl rfl hy) ?_;refine zV (ov_fieldRd0 (k := 1) (fun _ s => s.rd (k := 0) rfl) rfl rfl hy rfl) ?_;refine zT0 (ot_storeRow (k := 0) (i := posL l p.2.1) (j := 1) (u := y) (u' := (y.1, p.2.2)) rfl rfl rfl rfl hy rfl (Nat.le_refl _) rfl rfl) ?_;rintro _ _ ⟨rfl, rfl⟩;simp only [setAt];refine zO 12 rfl ?_;refine zQ ?_;refine at_end ?_;have hls : (l.set (posL l p.2.1) (p.2.1, p.2.2)).length = l.length := List.length_set;refine at_fin (rsL (vs := [_, _]) rfl ⟨res_tmp rfl, res_tmp rfl, trivial⟩ rfl) ?_;refine ⟨_, ⟨B0, e0, by rw [hw, hls], rfl⟩, ?_⟩
    try rw [hw]
    simp only [hyk];exact zE [0] [0]
   ·have hi4 : decide (p.1 = 4) = false := decide_eq_false h4
    by_cases h5 : p.1 = 5
    ·have hi5 : decide (p.1 = 5) = true := decide_eq_true h5;have hw : writesL p l = (l.eraseIdx (posL l p.2.1), 1) := by unfold writesL; rw [if_neg (by simp [h3]), if_neg (by simp [h3, h4]), if_pos ⟨h5, his⟩]
     refine zH fun zq zQ => ?_;refine zC 2 rfl ?_;refine zT (ot_boxA rfl rfl) ?_;rintro _ _ ⟨g0, rfl, rfl⟩;refine zO 7 rfl ?_;refine zT (ot_call (ks := []) rfl rfl rfl Tryz.call148 rfl (T148 _ (by first | assumption | rfl | omega | decide | (simp; done) | (simp at *; omega)) (by first | assumption | rfl | omega | decide | (simp; done) | (simp at *; omega))) rfl) ?_;rintro v0 _ ⟨m0, hp0, rfl⟩;obtain ⟨B0, hp0⟩ := hp0;obtain ⟨e0, hp0⟩ := hp0;obtain ⟨rfl, rfl⟩ := hp0;simp only [zca, zna, splice, spliceL];refine zOM [(1,_,_,_)] ⟨rfl,trivial⟩ [0] 8 rfl ?_;refine zcall [] rfl rfl rfl Tryz.call102 rfl (hP ) rfl ?_;simp only [zca, zna, splice, spliceL];refine zOM [(1,_,_,_)] ⟨rfl,trivial⟩ [0] 15 rfl ?_;refine zrg 22 ?_;refine zOM [(1,_,_,_)] ⟨rfl,trivial⟩ [0] 13 rfl ?_;refine zrg 39 ?_;refine zOM [(1,_,_,_)] ⟨rfl,trivial⟩ [0] 4 rfl ?_;refine zrg 43 ?_;refine zOM [(1,_,_,_)] ⟨rfl,trivial⟩ [0] 13 rfl ?_;refine zru 58 ?_;refine zO 11 rfl ?_;refine zV zI ?_;refine zcall [0] rfl rfl rfl Tryz.call150 rfl (T150 _ _ (by first | assumption | rfl | omega | decide | (simp; done) | (simp at *; omega)) (by first | assumption | rfl | omega | decide | (simp; done) | (simp at *; omega))) rfl ?_;simp only [zca, zna, splice, spliceL];refine zO 7 rfl ?_;refine zQ ?_;refine at_end ?_;refine at_fin (rsL (vs := [_, _]) rfl ⟨res_tmp rfl, res_tmp rfl, trivial⟩ rfl) ?_;refine ⟨_, ⟨B0, e0, by rw [hw], rfl⟩, ?_⟩
     try rw [hw]
     exact zE [0] [0]
    ·have hi5 : decide (p.1 = 5) = false := decide_eq_false h5;have hw : writesL p l = (l, 0) := by unfold writesL; rw [if_neg (by simp [h3]), if_neg (by simp [h3, h4]), if_neg (by simp [h5])]
     refine zH fun zq zQ => ?_;refine zC 2 rfl ?_;refine zT (ot_boxA rfl rfl) ?_;rintro _ _ ⟨g0, rfl, rfl⟩;refine zO 7 rfl ?_;refine zT (ot_call (ks := []) rfl rfl rfl Tryz.call148 rfl (T148 _ (by first | assumption | rfl | omega | decide | (simp; done) | (simp at *; omega)) (by first | assumption | rfl | omega | decide | (simp; done) | (simp at *; omega))) rfl) ?_;rintro v0 _ ⟨m0, hp0, rfl⟩;obtain ⟨B0, hp0⟩ := hp0;obtain ⟨e0, hp0⟩ := hp0;obtain ⟨rfl, rfl⟩ := hp0;simp only [zca, zna, splice, spliceL];refine zOM [(1,_,_,_)] ⟨rfl,trivial⟩ [0] 8 rfl ?_;refine zcall [] rfl rfl rfl Tryz.call102 rfl (hP ) rfl ?_;simp only [zca, zna, splice, spliceL];refine zOM [(1,_,_,_)] ⟨rfl,trivial⟩ [0] 15 rfl ?_;refine zrg 22 ?_;refine zOM [(1,_,_,_)] ⟨rfl,trivial⟩ [0] 13 rfl ?_;refine zrg 39 ?_;refine zOM [(1,_,_,_)] ⟨rfl,trivial⟩ [0] 4 rfl ?_;refine zrg 43 ?_;refine zOM [(1,_,_,_)] ⟨rfl,trivial⟩ [0] 13 rfl ?_;refine zrg 58 ?_;refine zO 17 rfl ?_;refine zQ ?_;refine at_end ?_;refine at_fin (rsL (vs := [_, _]) rfl ⟨res_tmp rfl, res_tmp rfl, trivial⟩ rfl) ?_;refine ⟨_, ⟨B0, e0, by rw [hw], rfl⟩, ?_⟩
     try rw [hw]
     exact zE [0] [0]
theorem T107a (w0 : World) (p : PM) {A : Option Addr} {c c' : Nat} {l : List PR} (ht : tabB l = true) (hm : l.length ≤ 1000000) :
    Tri Tryz.prog w0 107 [.agg #[.int .i64 p.1, SV p.2.1, SV p.2.2], .slice A l.length c] [Row pE 180 2 A c' l] fun v m => ∃ B e, v = .tuple #[.slice B (writesL p l).1.length e, .int .i64 (writesL p l).2] ∧ m = [Row pE 180 2 B e (writesL p l).1, Row pE 180 2 A c' l] :=
  (Tri.of_all fun w s => T107 w p (s.rd (k := 0) rfl) ht hm).post fun v m ⟨m', ⟨B, e, h1, h2⟩, h3⟩ => ⟨B, e, h1, by rw [h3, h2]; rfl⟩
open Go Go.Proofs.YtfcmajgnpnlkiaaGreatDoor.SL Go.RowKit
theorem flat_len2 (l : List PR) : (l.flatMap fun x => [x.1, x.2]).length = 2 * l.length := by
  induction l with
  | nil => rfl
  | cons a l ih => rw [List.flatMap_cons, List.length_append, ih]; simp; omega
theorem flat_succ {l : List PR} {k : Nat} {x : PR} (h : l[k]? = some x) : (l.take (k + 1)).flatMap (fun x => [x.1, x.2]) = (l.take k).flatMap (fun x => [x.1, x.2]) ++ [x.1, x.2] := by
  rw [List.take_add_one, h]; simp
theorem T67 (w0 : World) (p : PM) {A : Option Addr} {c : Nat} {l : List PR} (hr : Rd pE w0 2 A l) (ht : tabB l = true) (hm : l.length ≤ 1000000) :
 Tri Tryz.prog w0 67 [.agg #[.int .i64 p.1, SV p.2.1, SV p.2.2], .slice A l.length c] [] fun v m => ∃ B e, v = .slice B (readsL p l).length e ∧ m = [Row bsE 9 1 B e (readsL p l)] := by
 refine tri_k Tryz.func67 rfl rfl fun F => ?_;simp only [Tryz.ntmps67, argEnv, List.cons_append, List.nil_append]
 have hget (h : isL l p.2.1 = true) : ∃ y, l[posL l p.2.1]? = some y ∧ y.1 = p.2.1 := by
  unfold isL at h
  cases hy : l[posL l p.2.1]? with
  | none => rw [hy] at h; cases h
  | some y => rw [hy] at h; exact ⟨y, rfl, by simpa using h⟩
 have hP := T102 w0 p.2.1 (A := A) (c := c) hr ht hm
 by_cases h1 : p.1 = 1
 ·have hi1 : decide (p.1 = 1) = true := decide_eq_true h1
  cases his : isL l p.2.1 with
  | true =>
   obtain ⟨y, hy, hyk⟩ := hget his;have hw : readsL p l = [y.2] := by unfold readsL; rw [if_pos h1, hy]; simp [hyk]
   rw [his] at hP;refine zH fun zq zQ => ?_;refine zC 2 rfl ?_;refine zT (ot_boxA rfl rfl) ?_;rintro _ _ ⟨g0, rfl, rfl⟩;refine zOM [(0,_,_,_)] ⟨rfl,trivial⟩ [0] 22 rfl ?_;refine zu ?_;refine zCM [(0,_,_,_)] ⟨rfl,trivial⟩ [0] 5 rfl ?_;refine zcall [] rfl rfl rfl Tryz.call102 rfl (hP ) rfl ?_;simp only [zca, zna, splice, spliceL];refine zO 17 rfl ?_;refine zV (ov_indexRd (fun _ s => hr.up s) rfl Tryz.underlying150 rfl rfl rfl hy) ?_;refine zV (ov_fieldRd0 (k := 1) (fun _ s => hr.up s) rfl rfl hy rfl) ?_;refine zV (ov_loadRd (fun _ s => hr.up s) rfl rfl rfl hy rfl) ?_;refine zT (ot_buildSlice (cs := [_]) rfl Tryz.underlying35 rfl rfl rfl rfl rfl rfl) ?_;rintro _ _ ⟨g1, rfl, rfl⟩;refine at_rowNil bsE 9 1 ?_;refine zT (ot_append (k := 0) (xs := []) (ys := [y.2]) (enc := bsE) (size := 1) (bytes := 16) (fun _ s => s.rdPt (k := 1) rfl rfl (by simp [bsE])) rfl Tryz.underlying35 rfl rfl rfl rfl rfl (by decide) rfl rfl rfl (by simp [bsE, Value.oneCell']) (by simp) (by decide)) ?_;rintro _ _ ⟨A0, c0, rfl, rfl⟩;simp only [setAt, List.nil_append];refine zO 9 rfl ?_;refine zV (ov_min rfl rfl rfl) ?_;refine at_rowLen 0 rfl fun hlc hcm => ?_;refine zV (ov_sliceToC (k := 1) (size := 1) rfl Tryz.underlying35 rfl rfl (congrArg (fun z => some (Value.int .i64 z)) (show min (((1 : Nat)) : Int) 20 = ((1 : Nat) : Int) by omega)) hlc) ?_;refine zO 4 rfl ?_;refine zQ ?_;refine at_end ?_;refine zfin ?_;refine ⟨_, ⟨A0, c0, by rw [hw]; rfl, rfl⟩, ?_⟩
   try rw [hw]
   exact zE [0] [0, 0]
  | false =>
   have hw : readsL p l = [] := by
    unfold readsL; rw [if_pos h1]
    unfold isL at his
    cases hy : l[posL l p.2.1]? with
    | none => rfl
    | some y => rw [hy] at his; simp only [decide_eq_false_iff_not] at his; simp [his]
   rw [his] at hP;refine zH fun zq zQ => ?_;refine zC 2 rfl ?_;refine zT (ot_boxA rfl rfl) ?_;rintro _ _ ⟨g0, rfl, rfl⟩;refine zOM [(0,_,_,_)] ⟨rfl,trivial⟩ [0] 22 rfl ?_;refine zu ?_;refine zCM [(0,_,_,_)] ⟨rfl,trivial⟩ [0] 5 rfl ?_;refine zcall [] rfl rfl rfl Tryz.call102 rfl (hP ) rfl ?_;simp only [zca, zna, splice, spliceL];refine zO 21 rfl ?_;refine zV (ov_min rfl rfl rfl) ?_;refine zV (ov_sliceToC (k := 0) (size := 1) rfl Tryz.underlying35 rfl rfl (congrArg (fun z => some (Value.int .i64 z)) (show min (((0 : Nat)) : Int) 20 = ((0 : Nat) : Int) by omega)) (by decide)) ?_;refine at_rowNil bsE 9 1 ?_;refine zO 4 rfl ?_;refine zQ ?_;refine at_end ?_;refine zfin ?_;refine ⟨_, ⟨none, 0, by rw [hw]; rfl, rfl⟩, ?_⟩
   try rw [hw]
   exact zE [0] [0]
 ·have hi1 : decide (p.1 = 1) = false := decide_eq_false h1
  by_cases h2 : p.1 = 2
  ·have hi2 : decide (p.1 = 2) = true := decide_eq_true h2;have hw : readsL p l = (l.flatMap fun x => [x.1, x.2]).take 20 := by unfold readsL; rw [if_neg h1, if_pos h2]
   refine zH fun zq zQ => ?_;refine zC 2 rfl ?_;refine zT (ot_boxA rfl rfl) ?_;rintro _ _ ⟨g0, rfl, rfl⟩;refine zOM [(0,_,_,_)] ⟨rfl,trivial⟩ [0] 22 rfl ?_;refine zg ?_;refine zC 6 rfl ?_;refine zu ?_;refine zC 8 rfl ?_;refine at_rowNil bsE 9 1 ?_;refine at_loopK [35, 36, 37, 9, 38, 39, 40, 41, 42, 43, 44, 5, 45, 34] (fun i : Nat × Option Addr × Nat => i.1 ≤ l.length) (fun i => [(34, .int .i64 (i.1 : Nat)), (5, .slice i.2.1 ((l.take i.1).flatMap fun x => [x.1, x.2]).length i.2.2)]) (fun i m => setAt 0 (Row bsE 9 1 i.2.1 i.2.2 ((l.take i.1).flatMap fun x => [x.1, x.2])) m) (fun i => l.length - i.1) (0, none, 0) (Nat.zero_le _) ⟨rfl, rfl, trivial⟩ (fun _ s => s) ?_;rintro ⟨k, B, e⟩ hk;simp only [setAt] at hk ⊢;have hfl := flat_len2 (l.take k);rw [List.length_take] at hfl
   rcases Nat.lt_or_ge k l.length with hlt | hge
   ·have hi3 : decide ((k : Int) < l.length) = true := decide_eq_true (by omega);obtain ⟨x, hget⟩ : ∃ x, l[k]? = some x := ⟨_, List.getElem?_eq_getElem hlt⟩;have hsu := flat_succ hget;obtain ⟨out, hout⟩ : ∃ out, out = (l.take k).flatMap fun x => [x.1, x.2] := ⟨_, rfl⟩;rw [← hout] at hfl hsu ⊢;refine zC 6 rfl ?_;refine zu ?_;refine zC 6 rfl ?_;refine zV (ov_indexRd (fun _ s => hr.up s) rfl Tryz.underlying150 rfl rfl rfl hget) ?_;refine zV (ov_loadRdS (vs := [_, _]) (fun _ s => hr.up s) rfl rfl rfl hget rfl rfl) ?_;refine zA Tryz.zeroValue180 fun g1 => ?_;refine zS 0 ?_;simp only [setAt, splice, spliceL, Value.cells];refine zOM [(0,_,_,_)] ⟨rfl,trivial⟩ [0,0] 8 rfl ?_;refine zT (ot_buildSlice (cs := [_, _]) rfl Tryz.underlying35 rfl rfl rfl rfl rfl rfl) ?_;rintro _ _ ⟨g2, rfl, rfl⟩;refine zT (ot_append (k := 2) (size := 1) (bytes := 16) (ys := [x.1, x.2]) (fun _ s => s.rdPt (k := 0) rfl rfl (by simp [bsE])) rfl Tryz.underlying35 (ti := Tryz.t9) rfl rfl rfl rfl rfl (by decide) rfl rfl rfl (by simp [bsE, Value.oneCell']) (by simp; omega) (by decide)) ?_;rintro _ _ ⟨A0, c0, rfl, rfl⟩;simp only [setAt];refine zO 5 rfl ?_;refine zV zI ?_;refine zOR 3 rfl ?_;refine at_roundF (k + 1, A0, c0) hlt (by simp only; omega) ⟨rfl, look_eq rfl (by simp only [hsu]), trivial⟩ rfl ?_;simp only [setAt, hsu];exact zE [2, 2] [0, 0]
   ·have hi3 : decide ((k : Int) < l.length) = false := decide_eq_false (by omega);rw [List.take_of_length_le hge] at hfl ⊢
    generalize (l.flatMap fun x => [x.1, x.2]) = out at hw hfl ⊢
    refine zC 6 rfl ?_;refine zg ?_;refine zC 11 rfl ?_;refine zV (ov_min rfl rfl rfl) ?_;refine at_rowLen 0 rfl fun hlc hcm => ?_;refine zV (ov_sliceToC (k := min out.length 20) (size := 1) rfl Tryz.underlying35 rfl rfl (congrArg (fun z => some (Value.int .i64 z)) (show min ((out.length : Nat) : Int) 20 = ((min out.length 20 : Nat) : Int) by omega)) (by omega)) ?_;refine at_rowTk 20 0 rfl ?_;simp only [setAt];refine zO 4 rfl ?_;refine zQ ?_;refine at_end ?_;refine zfin ?_;have htk : (out.take 20).length = min out.length 20 := by rw [List.length_take]; omega
    refine ⟨_, ⟨B, e, by rw [hw, htk], rfl⟩, ?_⟩
    try rw [hw]
    exact zE [0] [0]
  ·have hi2 : decide (p.1 = 2) = false := decide_eq_false h2;have hw : readsL p l = [] := by unfold readsL; rw [if_neg h1, if_neg h2]
   refine zH fun zq zQ => ?_;refine zC 2 rfl ?_;refine zT (ot_boxA rfl rfl) ?_;rintro _ _ ⟨g0, rfl, rfl⟩;refine zOM [(0,_,_,_)] ⟨rfl,trivial⟩ [0] 22 rfl ?_;refine zg ?_;refine zC 6 rfl ?_;refine zg ?_;refine zC 8 rfl ?_;refine zV (ov_min rfl rfl rfl) ?_;refine zV (ov_sliceToC (k := 0) (size := 1) rfl Tryz.underlying35 rfl rfl (congrArg (fun z => some (Value.int .i64 z)) (show min (((0 : Nat)) : Int) 20 = ((0 : Nat) : Int) by omega)) (by decide)) ?_;refine at_rowNil bsE 9 1 ?_;refine zO 4 rfl ?_;refine zQ ?_;refine at_end ?_;refine zfin ?_;refine ⟨_, ⟨none, 0, by rw [hw]; rfl, rfl⟩, ?_⟩
   try rw [hw]
   exact zE [0] [0]
theorem T67a (w0 : World) (p : PM) {A : Option Addr} {c c' : Nat} {l : List PR} (ht : tabB l = true) (hm : l.length ≤ 1000000) :
    Tri Tryz.prog w0 67 [.agg #[.int .i64 p.1, SV p.2.1, SV p.2.2], .slice A l.length c] [Row pE 180 2 A c' l] fun v m => ∃ B e, v = .slice B (readsL p l).length e ∧ m = [Row bsE 9 1 B e (readsL p l), Row pE 180 2 A c' l] :=
  (Tri.of_all fun w s => T67 w p (s.rd (k := 0) rfl) ht hm).post fun v m ⟨m', ⟨B, e, h1, h2⟩, h3⟩ => ⟨B, e, h1, by rw [h3, h2]; rfl⟩
end Go.Proofs.YtfcmajgnpnlkiaaGreatDoor
