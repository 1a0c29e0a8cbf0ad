/- Package class: what it computes, in plain words; its small functions, walked. -/
import Derived.Test.YtighdkdomfpadaaGreatDoorProg
import Derived.Test.YtighdkdomfpadaaGreatDoorTrimDef
import Derived.Test.YtighdkdomfpadaaGreatDoorRefLexA
import Derived.Test.YtighdkdomfpadaaGreatDoorSLB
import Derived.KernelRfl
set_option linter.unusedSimpArgs false
set_option linter.unusedVariables false
set_option maxRecDepth 100000
set_option maxHeartbeats 2000000
namespace Go.Proofs.YtighdkdomfpadaaGreatDoor
open Go Go.Proofs.YtighdkdomfpadaaGreatDoor.SL Go.RowKit
def wordIn (l : List Tok) (i : Nat) (ws : List BL) : Bool := match l[i]? with | some t => decide (t.1 = 1) && ws.contains t.2 | none => false
def hasIn (l : List Tok) (ws : List BL) : Bool := l.any fun t => decide (t.1 = 1) && ws.contains t.2
theorem T41 (w0 : World) (t : Tok) : Tri Tryz.prog w0 41 [.agg #[.int .i64 t.1, SV t.2]] [] fun v m => v = .bool (decide (t.1 = 5)) ∧ m = [] := by
 refine tri_k Tryz.func41 rfl rfl fun F => ?_;simp only [Tryz.ntmps41, argEnv, List.nil_append];refine zH fun zq zQ => ?_;refine zC 2 rfl ?_;refine zT (ot_boxA rfl rfl) ?_;rintro _ _ ⟨g0, rfl, rfl⟩;refine zOM [(0,_,_,_)] ⟨rfl,trivial⟩ [0] 12 rfl ?_;refine zQ ?_;refine at_end ?_;refine zfin ?_;refine ⟨_, ⟨rfl, rfl⟩, ?_⟩;exact zE [] [0]
theorem T42 (w0 : World) (t : Tok) : Tri Tryz.prog w0 42 [.agg #[.int .i64 t.1, SV t.2]] [] fun v m => v = .bool (decide (t = signL)) ∧ m = [] := by
 refine tri_k Tryz.func42 rfl rfl fun F => ?_;simp only [Tryz.ntmps42, argEnv, List.nil_append]
 have e : (decide (t.1 = 6) && decide ((⟨t.2.toArray⟩ : ByteArray) = ⟨#[59]⟩)) = decide (t = signL) := by
  rw [show (⟨#[59]⟩ : ByteArray) = ⟨([59] : BL).toArray⟩ from rfl, ba_dec];exact tok_eq t signL
 refine zH fun zq zQ => ?_;refine zC 2 rfl ?_;refine zT (ot_boxA rfl rfl) ?_;rintro _ _ ⟨g0, rfl, rfl⟩;refine zOM [(0,_,_,_)] ⟨rfl,trivial⟩ [0] 6 rfl ?_;refine zV (ov_build (cs := [_, _]) rfl rfl rfl rfl) ?_;refine zV (ov_eqS rfl (by kernel_rfl) rfl rfl rfl rfl) ?_;refine zO 4 rfl ?_;refine zQ ?_;refine at_end ?_;refine zfin ?_;refine ⟨_, ⟨by rw [← e], rfl⟩, ?_⟩;exact zE [] [0]
def firstB {α : Type} (p : α → Bool) : List α → Int
  | [] => -1
  | a :: l => if p a then 0 else if firstB p l < 0 then -1 else firstB p l + 1
theorem firstB_at {α : Type} {p : α → Bool} : ∀ {l : List α} {k : Nat}, (∀ x ∈ l.take k, p x = false) → (∀ x, l[k]? = some x → p x = true) → k < l.length → firstB p l = (k : Nat)
  | [], k, _, _, h => by simp at h
  | a :: l, 0, _, h2, _ => by rw [firstB, if_pos (h2 a rfl)]; rfl
  | a :: l, k + 1, h1, h2, h3 => by
    have ih := firstB_at (p := p) (l := l) (k := k) (fun x hx => h1 x (by simp [hx])) (fun x hx => h2 x (by simpa using hx)) (by simpa using h3);rw [firstB, if_neg (by rw [h1 a (by simp)]; simp), ih, if_neg (by omega)]; rfl
theorem firstB_none {α : Type} {p : α → Bool} : ∀ {l : List α}, (∀ x ∈ l, p x = false) → firstB p l = -1
  | [], _ => rfl
  | a :: l, h => by
    rw [firstB, if_neg (by rw [h a (by simp)]; simp), firstB_none (fun x hx => h x (by simp [hx]))]; rfl
theorem firstB_cons {α : Type} (p : α → Bool) (a : α) (l : List α) : firstB p (a :: l) = if p a then 0 else if firstB p l < 0 then -1 else firstB p l + 1 := rfl
theorem firstB_ge {α : Type} {p : α → Bool} : ∀ (l : List α), -1 ≤ firstB p l
  | [] => Int.le_refl _
  | a :: l => by have := firstB_ge (p := p) l; rw [firstB_cons]; split; omega; split <;> omega
theorem firstB_any {α : Type} {p : α → Bool} : ∀ (l : List α), decide (firstB p l ≥ 0) = l.any p
  | [] => rfl
  | a :: l => by
    have ih := firstB_any (p := p) l;rw [List.any_cons, ← ih, firstB_cons];have := firstB_ge (p := p) l
    generalize firstB p l = n at this ⊢
    cases p a with
    | true => simp
    | false =>
      simp only [Bool.false_eq_true, if_false, Bool.false_or]
      apply decide_eq_decide.2
      split <;> omega
theorem T65 (w0 : World) {A : Option Addr} {c : Nat} {l : List Tok} (hr : Rd tE w0 2 A l) (hm : l.length ≤ 10000) : Tri Tryz.prog w0 65 [.slice A l.length c, .func (.func 42) #[] #[]] [] fun v m => v = .int .i64 (firstB (fun t => decide (t = signL)) l) ∧ m = [] := by
 refine tri_k Tryz.func65 rfl rfl fun F => ?_;simp only [Tryz.ntmps65, argEnv, List.nil_append];refine zH fun zq zQ => ?_;refine zC 14 rfl ?_;refine at_loopK [9, 10, 5, 11, 12, 13, 14, 15, 16, 17, 4, 18, 8] (fun k => k ≤ l.length ∧ ∀ x ∈ l.take k, decide (x = signL) = false) (fun k => [(8, .int .i64 (k : Nat))]) (fun _ m => m) (fun k => l.length - k) 0 ⟨Nat.zero_le _, by simp⟩ ⟨rfl, trivial⟩ (fun _ s => s) ?_;rintro k ⟨hk, hb⟩
 rcases Nat.lt_or_ge k l.length with hlt | hge
 ·have hi1 : decide ((k : Int) < l.length) = true := decide_eq_true (by omega);obtain ⟨x, hget⟩ : ∃ x, l[k]? = some x := ⟨_, List.getElem?_eq_getElem hlt⟩;have hS := T42 w0 x
  cases hp : decide (x = signL) with
  | true =>
   rw [hp] at hS;refine zC 6 rfl ?_;refine zu ?_;refine zC 15 rfl ?_;refine zV (ov_indexRd (fun _ s => hr.up s) rfl Tryz.underlying108 rfl rfl rfl hget) ?_;refine zV (ov_loadRdS (vs := [_, _]) (fun _ s => hr.up s) rfl rfl rfl hget rfl rfl) ?_;refine zcall [] rfl rfl rfl Tryz.call42 rfl (hS ) rfl ?_;simp only [zca, zna, splice, spliceL];refine zO 15 rfl ?_;refine zQ ?_;refine at_end ?_;refine zfin ?_;refine ⟨_, ⟨by rw [firstB_at hb (fun y hy => by rw [hget] at hy; cases hy; exact hp) hlt], rfl⟩, ?_⟩;exact zE [] []
  | false =>
   rw [hp] at hS;refine zC 6 rfl ?_;refine zu ?_;refine zC 15 rfl ?_;refine zV (ov_indexRd (fun _ s => hr.up s) rfl Tryz.underlying108 rfl rfl rfl hget) ?_;refine zV (ov_loadRdS (vs := [_, _]) (fun _ s => hr.up s) rfl rfl rfl hget rfl rfl) ?_;refine zcall [] rfl rfl rfl Tryz.call42 rfl (hS ) rfl ?_;simp only [zca, zna, splice, spliceL];refine zO 7 rfl ?_;refine zV zI ?_;refine zOR 3 rfl ?_;refine at_roundF (k + 1) ⟨hlt, fun y hy => ?_⟩ (by omega) ⟨rfl, trivial⟩ rfl ?_
   ·rw [List.take_add_one, hget] at hy
    rcases List.mem_append.1 hy with hy | hy
    ·exact hb y hy
    ·simp at hy; subst hy; exact hp
   exact zE [] []
 ·have hi1 : decide ((k : Int) < l.length) = false := decide_eq_false (by omega);rw [List.take_of_length_le hge] at hb;refine zC 6 rfl ?_;refine zg ?_;refine zC 11 rfl ?_;refine zQ ?_;refine at_end ?_;refine zfin ?_;refine ⟨_, ⟨by rw [firstB_none hb], rfl⟩, ?_⟩;exact zE [] []
theorem T65a (w0 : World) {A : Option Addr} {c : Nat} {l : List Tok} (hr : Rd tE w0 2 A l) (hm : l.length ≤ 10000) : Tri Tryz.prog w0 65 [.slice A l.length c, .func (.func 41) #[] #[]] [] fun v m => v = .int .i64 (firstB (fun t => decide (t.1 = 5)) l) ∧ m = [] := by
 refine tri_k Tryz.func65 rfl rfl fun F => ?_;simp only [Tryz.ntmps65, argEnv, List.nil_append];refine zH fun zq zQ => ?_;refine zC 14 rfl ?_;refine at_loopK [9, 10, 5, 11, 12, 13, 14, 15, 16, 17, 4, 18, 8] (fun k => k ≤ l.length ∧ ∀ x ∈ l.take k, decide (x.1 = 5) = false) (fun k => [(8, .int .i64 (k : Nat))]) (fun _ m => m) (fun k => l.length - k) 0 ⟨Nat.zero_le _, by simp⟩ ⟨rfl, trivial⟩ (fun _ s => s) ?_;rintro k ⟨hk, hb⟩
 rcases Nat.lt_or_ge k l.length with hlt | hge
 ·have hi1 : decide ((k : Int) < l.length) = true := decide_eq_true (by omega);obtain ⟨x, hget⟩ : ∃ x, l[k]? = some x := ⟨_, List.getElem?_eq_getElem hlt⟩;have hS := T41 w0 x
  cases hp : decide (x.1 = 5) with
  | true =>
   rw [hp] at hS;refine zC 6 rfl ?_;refine zu ?_;refine zC 15 rfl ?_;refine zV (ov_indexRd (fun _ s => hr.up s) rfl Tryz.underlying108 rfl rfl rfl hget) ?_;refine zV (ov_loadRdS (vs := [_, _]) (fun _ s => hr.up s) rfl rfl rfl hget rfl rfl) ?_;refine zcall [] rfl rfl rfl Tryz.call41 rfl (hS ) rfl ?_;simp only [zca, zna, splice, spliceL];refine zO 15 rfl ?_;refine zQ ?_;refine at_end ?_;refine zfin ?_;refine ⟨_, ⟨by rw [firstB_at hb (fun y hy => by rw [hget] at hy; cases hy; exact hp) hlt], rfl⟩, ?_⟩;exact zE [] []
  | false =>
   rw [hp] at hS;refine zC 6 rfl ?_;refine zu ?_;refine zC 15 rfl ?_;refine zV (ov_indexRd (fun _ s => hr.up s) rfl Tryz.underlying108 rfl rfl rfl hget) ?_;refine zV (ov_loadRdS (vs := [_, _]) (fun _ s => hr.up s) rfl rfl rfl hget rfl rfl) ?_;refine zcall [] rfl rfl rfl Tryz.call41 rfl (hS ) rfl ?_;simp only [zca, zna, splice, spliceL];refine zO 7 rfl ?_;refine zV zI ?_;refine zOR 3 rfl ?_;refine at_roundF (k + 1) ⟨hlt, fun y hy => ?_⟩ (by omega) ⟨rfl, trivial⟩ rfl ?_
   ·rw [List.take_add_one, hget] at hy
    rcases List.mem_append.1 hy with hy | hy
    ·exact hb y hy
    ·simp at hy; subst hy; exact hp
   exact zE [] []
 ·have hi1 : decide ((k : Int) < l.length) = false := decide_eq_false (by omega);rw [List.take_of_length_le hge] at hb;refine zC 6 rfl ?_;refine zg ?_;refine zC 11 rfl ?_;refine zQ ?_;refine at_end ?_;refine zfin ?_;refine ⟨_, ⟨by rw [firstB_none hb], rfl⟩, ?_⟩;exact zE [] []
theorem T66 (w0 : World) {A : Option Addr} {c : Nat} {l : List Tok} (hr : Rd tE w0 2 A l) (hm : l.length ≤ 10000) : Tri Tryz.prog w0 66 [.slice A l.length c, .func (.func 42) #[] #[]] [] fun v m => v = .bool (l.any fun t => decide (t = signL)) ∧ m = [] := by
 refine tri_k Tryz.func66 rfl rfl fun F => ?_;simp only [Tryz.ntmps66, argEnv, List.nil_append];refine zH fun zq zQ => ?_;refine zC 9 rfl ?_;refine zcall [] rfl rfl rfl Tryz.call65 rfl (T65 _ (by first | assumption | rfl | omega | decide | (simp; done) | (simp at *; omega)) (by first | assumption | rfl | omega | decide | (simp; done) | (simp at *; omega))) rfl ?_;simp only [zca, zna, splice, spliceL];refine zO 5 rfl ?_;refine zQ ?_;refine at_end ?_;refine zfin ?_;refine ⟨_, ⟨by rw [firstB_any], rfl⟩, ?_⟩;exact zE [] []
theorem T182 (w0 : World) {A : Option Addr} {c : Nat} {ws : List BL} (hr : Rd bsE w0 1 A ws) (hm : ws.length ≤ 10000) (s : BL) : Tri Tryz.prog w0 182 [.slice A ws.length c, SV s] [] fun v m => v = .int .i64 (firstB (fun w => decide (s = w)) ws) ∧ m = [] := by
 refine tri_k Tryz.func182 rfl rfl fun F => ?_;simp only [Tryz.ntmps182, argEnv, List.nil_append];refine zH fun zq zQ => ?_;refine zC 14 rfl ?_;refine at_loopK [9, 10, 5, 11, 12, 13, 14, 15, 16, 17, 4, 18, 8] (fun k => k ≤ ws.length ∧ ∀ x ∈ ws.take k, decide (s = x) = false) (fun k => [(8, .int .i64 (k : Nat))]) (fun _ m => m) (fun k => ws.length - k) 0 ⟨Nat.zero_le _, by simp⟩ ⟨rfl, trivial⟩ (fun _ s => s) ?_;rintro k ⟨hk, hb⟩
 rcases Nat.lt_or_ge k ws.length with hlt | hge
 ·have hi1 : decide ((k : Int) < ws.length) = true := decide_eq_true (by omega);obtain ⟨x, hget⟩ : ∃ x, ws[k]? = some x := ⟨_, List.getElem?_eq_getElem hlt⟩
  cases hp : decide (s = x) with
  | true =>
   refine zC 6 rfl ?_;refine zu ?_;refine zC 15 rfl ?_;refine zV (ov_indexRd (fun _ s => hr.up s) rfl Tryz.underlying22 rfl rfl rfl hget) ?_;refine zV (ov_loadRd0 (fun _ s => hr.up s) rfl rfl rfl hget rfl) ?_;refine zO 3 rfl ?_;refine zt ?_;refine zC 12 rfl ?_;refine zQ ?_;refine at_end ?_;refine zfin ?_;refine ⟨_, ⟨by rw [firstB_at hb (fun y hy => by rw [hget] at hy; cases hy; exact hp) hlt], rfl⟩, ?_⟩;exact zE [] []
  | false =>
   refine zC 6 rfl ?_;refine zu ?_;refine zC 15 rfl ?_;refine zV (ov_indexRd (fun _ s => hr.up s) rfl Tryz.underlying22 rfl rfl rfl hget) ?_;refine zV (ov_loadRd0 (fun _ s => hr.up s) rfl rfl rfl hget rfl) ?_;refine zO 3 rfl ?_;refine zf ?_;refine zC 4 rfl ?_;refine zV zI ?_;refine zOR 3 rfl ?_;refine at_roundF (k + 1) ⟨hlt, fun y hy => ?_⟩ (by omega) ⟨rfl, trivial⟩ rfl ?_
   ·rw [List.take_add_one, hget] at hy
    rcases List.mem_append.1 hy with hy | hy
    ·exact hb y hy
    ·simp at hy; subst hy; exact hp
   exact zE [] []
 ·have hi1 : decide ((k : Int) < ws.length) = false := decide_eq_false (by omega);rw [List.take_of_length_le hge] at hb;refine zC 6 rfl ?_;refine zg ?_;refine zC 11 rfl ?_;refine zQ ?_;refine at_end ?_;refine zfin ?_;refine ⟨_, ⟨by rw [firstB_none hb], rfl⟩, ?_⟩;exact zE [] []
theorem any_contains (s : BL) (ws : List BL) : (ws.any fun w => decide (s = w)) = ws.contains s := by
  rw [List.contains_eq_any_beq]
  congr 1
  funext w
  by_cases h : s = w <;> simp [h]
theorem T172 (w0 : World) {A : Option Addr} {c : Nat} {ws : List BL} (hr : Rd bsE w0 1 A ws) (hm : ws.length ≤ 10000) (s : BL) : Tri Tryz.prog w0 172 [.slice A ws.length c, SV s] [] fun v m => v = .bool (ws.contains s) ∧ m = [] := by
 refine tri_k Tryz.func172 rfl rfl fun F => ?_;simp only [Tryz.ntmps172, argEnv, List.nil_append];refine zH fun zq zQ => ?_;refine zC 9 rfl ?_;refine zcall [] rfl rfl rfl Tryz.call182 rfl (T182 _ (by first | assumption | rfl | omega | decide | (simp; done) | (simp at *; omega)) (by first | assumption | rfl | omega | decide | (simp; done) | (simp at *; omega)) _) rfl ?_;simp only [zca, zna, splice, spliceL];refine zO 5 rfl ?_;refine zQ ?_;refine at_end ?_;refine zfin ?_;refine ⟨_, ⟨by rw [← any_contains, ← firstB_any], rfl⟩, ?_⟩;exact zE [] []
theorem T139 (w0 : World) {A B : Option Addr} {c d : Nat} {l : List Tok} {ws : List BL} (hr : Rd tE w0 2 A l) (hr2 : Rd bsE w0 1 B ws) (hm : l.length ≤ 10000) (hm2 : ws.length ≤ 10000) (i : Nat) (hi : i ≤ 10000) : Tri Tryz.prog w0 139 [.slice A l.length c, .int .i64 (i : Nat), .slice B ws.length d] [] fun v m => v = .bool (wordIn l i ws) ∧ m = [] := by
 refine tri_k Tryz.func139 rfl rfl fun F => ?_;simp only [Tryz.ntmps139, argEnv, List.nil_append]
 rcases Nat.lt_or_ge i l.length with hlt | hge
 ·have hi1 : decide ((i : Int) < l.length) = true := decide_eq_true (by omega);obtain ⟨x, hget⟩ : ∃ x, l[i]? = some x := ⟨_, List.getElem?_eq_getElem hlt⟩;have e : wordIn l i ws = (decide (x.1 = 1) && ws.contains x.2) := by unfold wordIn; rw [hget]
  rw [e]
  cases hk : decide (x.1 = 1) with
  | true =>
   refine zH fun zq zQ => ?_;refine zC 12 rfl ?_;refine zru 11 ?_;refine zO 2 rfl ?_;refine at_wanted (j := 4) rfl ?_;refine zV (ov_indexRd (fun _ s => hr.up s) rfl Tryz.underlying108 rfl rfl rfl hget) ?_;refine at_wanted (j := 4) rfl ?_;refine zV (ov_fieldRd0 (k := 0) (fun _ s => hr.up s) rfl rfl hget rfl) ?_;refine at_wanted (j := 4) rfl ?_;refine zV (ov_loadRd0 (fun _ s => hr.up s) rfl rfl rfl hget rfl) ?_;refine zO 3 rfl ?_;refine zrt 19 ?_;refine zO 3 rfl ?_;refine at_wanted (j := 12) rfl ?_;refine zV (ov_indexRd (fun _ s => hr.up s) rfl Tryz.underlying108 rfl rfl rfl hget) ?_;refine at_wanted (j := 12) rfl ?_;refine zV (ov_fieldRd0 (k := 1) (fun _ s => hr.up s) rfl rfl hget rfl) ?_;refine at_wanted (j := 12) rfl ?_;refine zV (ov_loadRd (fun _ s => hr.up s) rfl rfl rfl hget rfl) ?_;refine at_wanted (j := 12) rfl ?_;refine zcall [] rfl rfl rfl Tryz.call172 rfl (T172 _ (by first | assumption | rfl | omega | decide | (simp; done) | (simp at *; omega)) (by first | assumption | rfl | omega | decide | (simp; done) | (simp at *; omega)) _) rfl ?_;simp only [zca, zna, splice, spliceL];refine zO 5 rfl ?_;refine zQ ?_;refine at_end ?_;refine zfin ?_;refine ⟨_, ⟨rfl, rfl⟩, ?_⟩;exact zE [] []
  | false =>
   refine zH fun zq zQ => ?_;refine zC 12 rfl ?_;refine zru 11 ?_;refine zO 2 rfl ?_;refine at_wanted (j := 4) rfl ?_;refine zV (ov_indexRd (fun _ s => hr.up s) rfl Tryz.underlying108 rfl rfl rfl hget) ?_;refine at_wanted (j := 4) rfl ?_;refine zV (ov_fieldRd0 (k := 0) (fun _ s => hr.up s) rfl rfl hget rfl) ?_;refine at_wanted (j := 4) rfl ?_;refine zV (ov_loadRd0 (fun _ s => hr.up s) rfl rfl rfl hget rfl) ?_;refine zO 3 rfl ?_;refine zrf 19 ?_;refine zO 12 rfl ?_;refine zQ ?_;refine at_end ?_;refine zfin ?_;refine ⟨_, ⟨rfl, rfl⟩, ?_⟩;exact zE [] []
 ·have hi1 : decide ((i : Int) < l.length) = false := decide_eq_false (by omega);have e : wordIn l i ws = false := by unfold wordIn; rw [List.getElem?_eq_none hge]
  refine zH fun zq zQ => ?_;refine zC 12 rfl ?_;refine zrg 11 ?_;refine zO 20 rfl ?_;refine zQ ?_;refine at_end ?_;refine zfin ?_;refine ⟨_, ⟨by rw [e], rfl⟩, ?_⟩;exact zE [] []
theorem T139a (w0 : World) {A B : Option Addr} {c d d' : Nat} {l : List Tok} {ws : List BL} (hr : Rd tE w0 2 A l) (hm : l.length ≤ 10000) (hm2 : ws.length ≤ 10000) (i : Nat) (hi : i ≤ 10000) : Tri Tryz.prog w0 139 [.slice A l.length c, .int .i64 (i : Nat), .slice B ws.length d] [Row bsE 9 1 B d' ws] fun v m => v = .bool (wordIn l i ws) ∧ m = [Row bsE 9 1 B d' ws] :=
  (Tri.of_all fun w s => T139 w (hr.up s) (s.rd (k := 0) rfl) hm hm2 i hi).post fun v m ⟨m', ⟨h1, h2⟩, h3⟩ => ⟨h1, by rw [h3, h2]; rfl⟩
theorem any_take {p : Tok → Bool} {l : List Tok} {k : Nat} {x : Tok} (h : l[k]? = some x) : (l.take (k + 1)).any p = ((l.take k).any p || p x) := by
  rw [List.take_add_one, h]; simp
theorem T142 (w0 : World) {A B : Option Addr} {c d : Nat} {l : List Tok} {ws : List BL} (hr : Rd tE w0 2 A l) (hr2 : Rd bsE w0 1 B ws) (hm : l.length ≤ 10000) (hm2 : ws.length ≤ 10000) : Tri Tryz.prog w0 142 [.slice A l.length c, .slice B ws.length d] [] fun v m => v = .bool (hasIn l ws) ∧ m = [] := by
 refine tri_k Tryz.func142 rfl rfl fun F => ?_;simp only [Tryz.ntmps142, argEnv, List.nil_append];refine zH fun zq zQ => ?_;refine zC 14 rfl ?_;refine at_loopK [9, 10, 5, 11, 12, 13, 14, 4, 15, 8] (fun k => k ≤ l.length ∧ hasIn (l.take k) ws = false) (fun k => [(8, .int .i64 (k : Nat))]) (fun _ m => m) (fun k => l.length - k) 0 ⟨Nat.zero_le _, rfl⟩ ⟨rfl, trivial⟩ (fun _ s => s) ?_;rintro k ⟨hk, hb⟩
 rcases Nat.lt_or_ge k l.length with hlt | hge
 ·have hi1 : decide ((k : Int) < l.length) = true := decide_eq_true (by omega);obtain ⟨x, hget⟩ : ∃ x, l[k]? = some x := ⟨_, List.getElem?_eq_getElem hlt⟩;have hW := T139 w0 (c := c) (d := d) hr hr2 hm hm2 k (by omega);have e : wordIn l k ws = (decide (x.1 = 1) && ws.contains x.2) := by unfold wordIn; rw [hget]
  have hs : hasIn (l.take (k + 1)) ws = (hasIn (l.take k) ws || (decide (x.1 = 1) && ws.contains x.2)) := any_take hget;rw [hb, Bool.false_or, ← e] at hs
  cases hw : wordIn l k ws with
  | true =>
   rw [hw] at hW
   have hall : hasIn l ws = true := by
    unfold hasIn
    try rw [List.any_eq_true]
    exact ⟨x, List.mem_of_getElem? hget, by rw [← e]; exact hw⟩
   refine zC 6 rfl ?_;refine zu ?_;refine zC 15 rfl ?_;refine zcall [] rfl rfl rfl Tryz.call139 rfl (hW ) rfl ?_;simp only [zca, zna, splice, spliceL];refine zO 14 rfl ?_;refine zQ ?_;refine at_end ?_;refine zfin ?_;refine ⟨_, ⟨by rw [hall], rfl⟩, ?_⟩;exact zE [] []
  | false =>
   rw [hw] at hW hs;refine zC 6 rfl ?_;refine zu ?_;refine zC 15 rfl ?_;refine zcall [] rfl rfl rfl Tryz.call139 rfl (hW ) rfl ?_;simp only [zca, zna, splice, spliceL];refine zO 7 rfl ?_;refine zV zI ?_;refine zOR 3 rfl ?_;refine at_roundF (k + 1) ⟨hlt, hs⟩ (by omega) ⟨rfl, trivial⟩ rfl ?_;exact zE [] []
 ·have hi1 : decide ((k : Int) < l.length) = false := decide_eq_false (by omega);rw [List.take_of_length_le hge] at hb;refine zC 6 rfl ?_;refine zg ?_;refine zC 11 rfl ?_;refine zQ ?_;refine at_end ?_;refine zfin ?_;refine ⟨_, ⟨by rw [hb], rfl⟩, ?_⟩;exact zE [] []
theorem T142a (w0 : World) {A B : Option Addr} {c d d' : Nat} {l : List Tok} {ws : List BL} (hr : Rd tE w0 2 A l) (hm : l.length ≤ 10000) (hm2 : ws.length ≤ 10000) : Tri Tryz.prog w0 142 [.slice A l.length c, .slice B ws.length d] [Row bsE 9 1 B d' ws] fun v m => v = .bool (hasIn l ws) ∧ m = [Row bsE 9 1 B d' ws] :=
  (Tri.of_all fun w s => T142 w (hr.up s) (s.rd (k := 0) rfl) hm hm2).post fun v m ⟨m', ⟨h1, h2⟩, h3⟩ => ⟨h1, by rw [h3, h2]; rfl⟩
def wANALYZE : BL := [65, 78, 65, 76, 89, 90, 69]
def wANALYSE : BL := [65, 78, 65, 76, 89, 83, 69]
def wWORK : BL := [87, 79, 82, 75]
def wTRANSACTION : BL := [84, 82, 65, 78, 83, 65, 67, 84, 73, 79, 78]
def wAUTOCOMMIT : BL := [65, 85, 84, 79, 67, 79, 77, 77, 73, 84]
def wGLOBAL : BL := [71, 76, 79, 66, 65, 76]
def wPERSIST : BL := [80, 69, 82, 83, 73, 83, 84]
def wINSERT : BL := [73, 78, 83, 69, 82, 84]
def wUPDATE : BL := [85, 80, 68, 65, 84, 69]
def wDELETE : BL := [68, 69, 76, 69, 84, 69]
def wREPLACE : BL := [82, 69, 80, 76, 65, 67, 69]
def wINTO : BL := [73, 78, 84, 79]
def wSHARE : BL := [83, 72, 65, 82, 69]
def wWITH : BL := [87, 73, 84, 72]
def wSELECT : BL := [83, 69, 76, 69, 67, 84]
def writesW : List BL := [wINSERT, wUPDATE, wDELETE, wREPLACE, wINTO, wSHARE]
def beginL (l : List Tok) : Int := if l.length = 1 ∨ (l.length = 2 ∧ wordIn l 1 [wWORK, wTRANSACTION] = true) then 3 else 7
def startL (l : List Tok) : Int := if wordIn l 1 [wTRANSACTION] then 3 else 7
def endsL (k : Int) (l : List Tok) : Int := if l.length = 1 ∨ (l.length = 2 ∧ wordIn l 1 [wWORK] = true) then k else 7
def setL (l : List Tok) : Int := if wordIn l 1 [wAUTOCOMMIT, wGLOBAL, wPERSIST] then 7 else 6
def asksL (l : List Tok) : Int := if hasIn l writesW then 2 else if wordIn l 0 [wWITH] && !hasIn l [wSELECT] then 7 else 1
theorem T107 (w0 : World) (cv : Value) {A : Option Addr} {c : Nat} {l : List Tok} (hr : Rd tE w0 2 A l) (hm : l.length ≤ 10000) : Tri Tryz.prog w0 107 [cv, .slice A l.length c] [] fun v m => v = .int .i64 (startL l) ∧ m = [] := by
 refine tri_k Tryz.func107 rfl rfl fun F => ?_;simp only [Tryz.ntmps107, argEnv, List.nil_append];refine zH fun zq zQ => ?_;refine zC 9 rfl ?_;refine zT (ot_buildSlice (cs := [_]) rfl Tryz.underlying22 rfl rfl rfl rfl rfl rfl) ?_;rintro _ _ ⟨g0, rfl, rfl⟩;refine at_rowOf bsE 0 (size := 1) (c := 1) [wTRANSACTION] rfl (fun _ _ => rfl) (by decide) (by decide) (by decide) rfl ?_;simp only [setAt];refine at_reval 6 (.slice (some ⟨g0, 0, none⟩) ([wTRANSACTION] : List BL).length 1) rfl rfl ?_;have hW := fun {B} {d} {d'} => T139a w0 (B := B) (c := c) (d := d) (d' := d') (ws := [wTRANSACTION]) hr hm (by decide) 1 (by decide)
 cases hw : wordIn l 1 [wTRANSACTION] with
 | true =>
  rw [hw] at hW;refine zcall [0] rfl rfl rfl Tryz.call139 rfl (hW ) rfl ?_;simp only [zca, zna, splice, spliceL];refine zO 10 rfl ?_;refine zQ ?_;refine at_end ?_;refine zfin ?_;refine ⟨_, ⟨by simp [startL, hw], rfl⟩, ?_⟩;exact zE [] [0]
 | false =>
  rw [hw] at hW;refine zcall [0] rfl rfl rfl Tryz.call139 rfl (hW ) rfl ?_;simp only [zca, zna, splice, spliceL];refine zO 11 rfl ?_;refine zQ ?_;refine at_end ?_;refine zfin ?_;refine ⟨_, ⟨by simp [startL, hw], rfl⟩, ?_⟩;exact zE [] [0]
open Go Go.Proofs.YtighdkdomfpadaaGreatDoor.SL Go.RowKit
theorem T109 (w0 : World) (cv : Value) {A : Option Addr} {c : Nat} {l : List Tok} (hr : Rd tE w0 2 A l) (hm : l.length ≤ 10000) : Tri Tryz.prog w0 109 [cv, .slice A l.length c] [] fun v m => v = .int .i64 (setL l) ∧ m = [] := by
 refine tri_k Tryz.func109 rfl rfl fun F => ?_;simp only [Tryz.ntmps109, argEnv, List.nil_append];refine zH fun zq zQ => ?_;refine zC 9 rfl ?_;refine zT (ot_buildSlice (cs := [_, _, _]) rfl Tryz.underlying22 rfl rfl rfl rfl rfl rfl) ?_;rintro _ _ ⟨g0, rfl, rfl⟩;refine at_rowOf bsE 0 (size := 1) (c := 3) [wAUTOCOMMIT, wGLOBAL, wPERSIST] rfl (fun _ _ => rfl) (by decide) (by decide) (by decide) rfl ?_;simp only [setAt];refine at_reval 6 (.slice (some ⟨g0, 0, none⟩) ([wAUTOCOMMIT, wGLOBAL, wPERSIST] : List BL).length 3) rfl rfl ?_;have hW := fun {B} {d} {d'} => T139a w0 (B := B) (c := c) (d := d) (d' := d') (ws := [wAUTOCOMMIT, wGLOBAL, wPERSIST]) hr hm (by decide) 1 (by decide)
 cases hw : wordIn l 1 [wAUTOCOMMIT, wGLOBAL, wPERSIST] with
 | true =>
  rw [hw] at hW;refine zcall [0] rfl rfl rfl Tryz.call139 rfl (hW ) rfl ?_;simp only [zca, zna, splice, spliceL];refine zO 10 rfl ?_;refine zQ ?_;refine at_end ?_;refine zfin ?_;refine ⟨_, ⟨by simp [setL, hw], rfl⟩, ?_⟩;exact zE [] [0]
 | false =>
  rw [hw] at hW;refine zcall [0] rfl rfl rfl Tryz.call139 rfl (hW ) rfl ?_;simp only [zca, zna, splice, spliceL];refine zO 11 rfl ?_;refine zQ ?_;refine at_end ?_;refine zfin ?_;refine ⟨_, ⟨by simp [setL, hw], rfl⟩, ?_⟩;exact zE [] [0]
theorem T106 (w0 : World) (cv : Value) {A : Option Addr} {c : Nat} {l : List Tok} (hr : Rd tE w0 2 A l) (hm : l.length ≤ 10000) : Tri Tryz.prog w0 106 [cv, .slice A l.length c] [] fun v m => v = .int .i64 (beginL l) ∧ m = [] := by
 refine tri_k Tryz.func106 rfl rfl fun F => ?_;simp only [Tryz.ntmps106, argEnv, List.nil_append]
 by_cases h1 : l.length = 1
 ·have hi1 : decide ((l.length : Int) = 1) = true := decide_eq_true (by omega);refine zH fun zq zQ => ?_;refine zC 12 rfl ?_;refine zru 8 ?_;refine zO 19 rfl ?_;refine zQ ?_;refine at_end ?_;refine zfin ?_;refine ⟨_, ⟨by simp [beginL, h1], rfl⟩, ?_⟩;exact zE [] []
 have hi1 : decide ((l.length : Int) = 1) = false := decide_eq_false (by omega)
 by_cases h2 : l.length = 2
 ·have hi2 : decide ((l.length : Int) = 2) = true := decide_eq_true (by omega);refine zH fun zq zQ => ?_;refine zC 12 rfl ?_;refine zrg 8 ?_;refine zO 4 rfl ?_;refine zru 12 ?_;refine zO 1 rfl ?_;refine at_wanted (j := 7) rfl ?_;refine zT (ot_buildSlice (cs := [_, _]) rfl Tryz.underlying22 rfl rfl rfl rfl rfl rfl) ?_;rintro _ _ ⟨g0, rfl, rfl⟩;refine at_wanted (j := 7) rfl ?_;refine at_rowOf bsE 0 (size := 1) (c := 2) [wWORK, wTRANSACTION] rfl (fun _ _ => rfl) (by decide) (by decide) (by decide) rfl ?_;simp only [setAt];refine at_reval 14 (.slice (some ⟨g0, 0, none⟩) ([wWORK, wTRANSACTION] : List BL).length 2) rfl rfl ?_;have hW := fun {B} {d} {d'} => T139a w0 (B := B) (c := c) (d := d) (d' := d') (ws := [wWORK, wTRANSACTION]) hr hm (by decide) 1 (by decide)
  cases hw : wordIn l 1 [wWORK, wTRANSACTION] with
  | true =>
   rw [hw] at hW;refine zcall [0] rfl rfl rfl Tryz.call139 rfl (hW ) rfl ?_;simp only [zca, zna, splice, spliceL];refine zO 12 rfl ?_;refine zQ ?_;refine at_end ?_;refine zfin ?_;refine ⟨_, ⟨by simp [beginL, h2, hw], rfl⟩, ?_⟩;exact zE [] [0]
  | false =>
   rw [hw] at hW;refine zcall [0] rfl rfl rfl Tryz.call139 rfl (hW ) rfl ?_;simp only [zca, zna, splice, spliceL];refine zO 13 rfl ?_;refine zQ ?_;refine at_end ?_;refine zfin ?_;refine ⟨_, ⟨by simp [beginL, h2, hw], rfl⟩, ?_⟩;exact zE [] [0]
 ·have hi2 : decide ((l.length : Int) = 2) = false := decide_eq_false (by omega);refine zH fun zq zQ => ?_;refine zC 12 rfl ?_;refine zrg 8 ?_;refine zO 4 rfl ?_;refine zrg 12 ?_;refine zO 16 rfl ?_;refine zQ ?_;refine at_end ?_;refine zfin ?_;refine ⟨_, ⟨by simp [beginL, h1, h2], rfl⟩, ?_⟩;exact zE [] []
theorem T110 (w0 : World) (k : Int) : Tri Tryz.prog w0 110 [.int .i64 k] [] fun v m => ∃ b, v = .func (.func 141) #[] #[ptrTo b] ∧ m = [cl b #[.int .i64 k] 3] := by
 refine tri_k Tryz.func110 rfl rfl fun F => ?_;simp only [Tryz.ntmps110, argEnv, List.nil_append];refine zH fun zq zQ => ?_;refine zC 2 rfl ?_;refine zT (ot_box1 rfl rfl rfl) ?_;rintro _ _ ⟨g0, rfl, rfl⟩;refine zO 10 rfl ?_;refine zQ ?_;refine at_end ?_;refine zfin ?_;refine ⟨_, ⟨g0, rfl, rfl⟩, ?_⟩;exact zE [0] []
theorem T108 (w0 : World) (k : Int) : Tri Tryz.prog w0 108 [.int .i64 k] [] fun v m => ∃ b, v = .func (.func 140) #[] #[ptrTo b] ∧ m = [cl b #[.int .i64 k] 3] := by
 refine tri_k Tryz.func108 rfl rfl fun F => ?_;simp only [Tryz.ntmps108, argEnv, List.nil_append];refine zH fun zq zQ => ?_;refine zC 2 rfl ?_;refine zT (ot_box1 rfl rfl rfl) ?_;rintro _ _ ⟨g0, rfl, rfl⟩;refine zO 10 rfl ?_;refine zQ ?_;refine at_end ?_;refine zfin ?_;refine ⟨_, ⟨g0, rfl, rfl⟩, ?_⟩;exact zE [0] []
theorem T111 (w0 : World) (cv : Value) {A : Option Addr} {c : Nat} {l : List Tok} (hr : Rd tE w0 2 A l) (hm : l.length ≤ 10000) : Tri Tryz.prog w0 111 [cv, .slice A l.length c] [] fun v m => v = .int .i64 (asksL l) ∧ m = [] := by
 refine tri_k Tryz.func111 rfl rfl fun F => ?_;simp only [Tryz.ntmps111, argEnv, List.nil_append];refine zH fun zq zQ => ?_;refine zC 10 rfl ?_;refine zT (ot_buildSlice (cs := [_, _, _, _, _, _]) rfl Tryz.underlying22 rfl rfl rfl rfl rfl rfl) ?_;rintro _ _ ⟨g0, rfl, rfl⟩;refine at_rowOf bsE 0 (size := 1) (c := 6) writesW rfl (fun _ _ => rfl) (by decide) (by decide) (by decide) rfl ?_;simp only [setAt];refine at_reval 7 (.slice (some ⟨g0, 0, none⟩) writesW.length 6) rfl rfl ?_;have hH := fun {B} {d} {d'} => T142a w0 (B := B) (c := c) (d := d) (d' := d') (ws := writesW) hr hm (by decide);have hH2 := fun {B} {d} {d'} => T142a w0 (B := B) (c := c) (d := d) (d' := d') (ws := [wSELECT]) hr hm (by decide);have hW : ∀ {B : Option Addr} {d d' : Nat}, Tri Tryz.prog w0 139 [.slice A l.length c, .int .i64 0, .slice B ([wWITH] : List BL).length d] [Row bsE 9 1 B d' [wWITH]] fun v m => v = .bool (wordIn l 0 [wWITH]) ∧ m = [Row bsE 9 1 B d' [wWITH]] := fun {B} {d} {d'} => T139a w0 (B := B) (c := c) (d := d) (d' := d') (ws := [wWITH]) hr hm (by decide) 0 (by decide)
 cases hh : hasIn l writesW with
 | true =>
  rw [hh] at hH;refine zcall [0] rfl rfl rfl Tryz.call142 rfl (hH ) rfl ?_;simp only [zca, zna, splice, spliceL];refine zO 12 rfl ?_;refine zQ ?_;refine at_end ?_;refine zfin ?_;refine ⟨_, ⟨by simp [asksL, hh], rfl⟩, ?_⟩;exact zE [] [0]
 | false =>
  rw [hh] at hH;refine zcall [0] rfl rfl rfl Tryz.call142 rfl (hH ) rfl ?_;simp only [zca, zna, splice, spliceL];refine zO 7 rfl ?_;refine zT (ot_buildSlice (cs := [_]) rfl Tryz.underlying22 rfl rfl rfl rfl rfl rfl) ?_;rintro _ _ ⟨g1, rfl, rfl⟩;refine at_rowOf bsE 0 (size := 1) (c := 1) [wWITH] rfl (fun _ _ => rfl) (by decide) (by decide) (by decide) rfl ?_;simp only [setAt];refine at_reval 11 (.slice (some ⟨g1, 0, none⟩) ([wWITH] : List BL).length 1) rfl rfl ?_
  cases hw : wordIn l 0 [wWITH] with
  | false =>
   rw [hw] at hW;refine zcall [0] rfl rfl rfl Tryz.call139 rfl (hW ) rfl ?_;simp only [zca, zna, splice, spliceL];refine zO 19 rfl ?_;refine zQ ?_;refine at_end ?_;refine zfin ?_;refine ⟨_, ⟨by simp [asksL, hh, hw], rfl⟩, ?_⟩;exact zE [] [0, 0]
  | true =>
   rw [hw] at hW;refine zcall [0] rfl rfl rfl Tryz.call139 rfl (hW ) rfl ?_;simp only [zca, zna, splice, spliceL];refine zO 2 rfl ?_;refine at_wanted (j := 3) rfl ?_;refine zT (ot_buildSlice (cs := [_]) rfl Tryz.underlying22 rfl rfl rfl rfl rfl rfl) ?_;rintro _ _ ⟨g2, rfl, rfl⟩;refine at_wanted (j := 3) rfl ?_;refine at_rowOf bsE 0 (size := 1) (c := 1) [wSELECT] rfl (fun _ _ => rfl) (by decide) (by decide) (by decide) rfl ?_;simp only [setAt];refine at_reval 15 (.slice (some ⟨g2, 0, none⟩) ([wSELECT] : List BL).length 1) rfl rfl ?_
   cases hs : hasIn l [wSELECT] with
   | true =>
    rw [hs] at hH2;refine zcall [0] rfl rfl rfl Tryz.call142 rfl (hH2 ) rfl ?_;simp only [zca, zna, splice, spliceL];refine zO 15 rfl ?_;refine zQ ?_;refine at_end ?_;refine zfin ?_;refine ⟨_, ⟨by simp [asksL, hh, hw, hs], rfl⟩, ?_⟩;exact zE [] [0, 0, 0]
   | false =>
    rw [hs] at hH2;refine zcall [0] rfl rfl rfl Tryz.call142 rfl (hH2 ) rfl ?_;simp only [zca, zna, splice, spliceL];refine zO 14 rfl ?_;refine zQ ?_;refine at_end ?_;refine zfin ?_;refine ⟨_, ⟨by simp [asksL, hh, hw, hs], rfl⟩, ?_⟩;exact zE [] [0, 0, 0]
open Go Go.Proofs.YtighdkdomfpadaaGreatDoor.SL Go.RowKit
def spaced (ws : List BL) : BL := 32 :: ws.flatMap (· ++ [32])
def inL (w l : BL) : Bool := decide (w ≠ []) && Lib.contains l (32 :: (w ++ [32]))
def wordAt (l : List Tok) (i : Nat) : BL := match l[i]? with | some t => if t.1 = 1 then t.2 else [] | none => []
def hasW (l : List Tok) (s : BL) : Bool := (List.range l.length).any fun i => inL (wordAt l i) s
def wSHOW : BL := [83, 72, 79, 87]
def wDESCRIBE : BL := [68, 69, 83, 67, 82, 73, 66, 69]
def wDESC : BL := [68, 69, 83, 67]
def wEXPLAIN : BL := [69, 88, 80, 76, 65, 73, 78]
def wCREATE : BL := [67, 82, 69, 65, 84, 69]
def wDROP : BL := [68, 82, 79, 80]
def wALTER : BL := [65, 76, 84, 69, 82]
def wTRUNCATE : BL := [84, 82, 85, 78, 67, 65, 84, 69]
def wGRANT : BL := [71, 82, 65, 78, 84]
def wREVOKE : BL := [82, 69, 86, 79, 75, 69]
def wCALL : BL := [67, 65, 76, 76]
def wLOCK : BL := [76, 79, 67, 75]
def wVALUES : BL := [86, 65, 76, 85, 69, 83]
def wTABLE : BL := [84, 65, 66, 76, 69]
def wBEGIN : BL := [66, 69, 71, 73, 78]
def wSTART : BL := [83, 84, 65, 82, 84]
def wCOMMIT : BL := [67, 79, 77, 77, 73, 84]
def wROLLBACK : BL := [82, 79, 76, 76, 66, 65, 67, 75]
def wSET : BL := [83, 69, 84]
def readsW : List BL := [wSHOW, wDESCRIBE, wDESC]
def changeW : List BL := [wINSERT, wUPDATE, wDELETE, wREPLACE, wCREATE, wDROP, wALTER, wTRUNCATE, wGRANT, wREVOKE, wCALL, wLOCK]
def askW : List BL := [wSELECT, wVALUES, wTABLE, wWITH]
def anaW : List BL := [wANALYZE, wANALYSE]
def wtW : List BL := [wWORK, wTRANSACTION]
def setW : List BL := [wAUTOCOMMIT, wGLOBAL, wPERSIST]
def tokN : Nat → List Tok → Int
  | 0, _ => 7
  | f + 1, l =>
    if (l.any fun t => decide (t = signL)) then 7
    else if readsW.contains (wordAt l 0) then 1
    else if wordAt l 0 = wEXPLAIN then (if wordIn l 1 anaW then (if tokN f (l.drop 2) = 2 ∨ tokN f (l.drop 2) = 7 then tokN f (l.drop 2) else 1) else 1)
    else if changeW.contains (wordAt l 0) then 2
    else if askW.contains (wordAt l 0) then asksL l
    else if wordAt l 0 = wBEGIN then beginL l
    else if wordAt l 0 = wSTART then startL l
    else if wordAt l 0 = wCOMMIT then endsL 4 l
    else if wordAt l 0 = wROLLBACK then endsL 5 l
    else if wordAt l 0 = wSET then setL l
    else 7
def Good (l : List Tok) : Prop := ∀ t ∈ l, t.1 = 1 → t.2 ≠ [] ∧ (32 : UInt8) ∉ t.2
theorem Good.drop {l : List Tok} (h : Good l) (k : Nat) : Good (l.drop k) := fun t ht => h t (List.mem_of_mem_drop ht)
theorem Good.at {l : List Tok} (h : Good l) (i : Nat) : (32 : UInt8) ∉ wordAt l i := by
  unfold wordAt
  cases hi : l[i]? with
  | none => simp
  | some t =>
    simp only
    by_cases hk : t.1 = 1
    · rw [if_pos hk]; exact (h t (List.mem_of_getElem? hi) hk).2
    · rw [if_neg hk]; simp
theorem pre_word : ∀ {a w : BL} {r q : BL}, (32 : UInt8) ∉ a → (32 : UInt8) ∉ w → Lib.hasPrefix (a ++ 32 :: r) (w ++ 32 :: q) = (decide (w = a) && Lib.hasPrefix r q)
  | [], [], r, q, _, _ => by simp [pre_cons]
  | [], x :: w, r, q, _, hw => by
    have : (32 : UInt8) ≠ x := fun e => hw (by simp [← e]);rw [List.nil_append, List.cons_append, pre_cons]; simp [this]
  | x :: a, [], r, q, ha, _ => by
    have : x ≠ (32 : UInt8) := fun e => ha (by simp [e]);rw [List.nil_append, List.cons_append, pre_cons]; simp [this]
  | x :: a, y :: w, r, q, ha, hw => by
    simp only [List.mem_cons, not_or] at ha hw;rw [List.cons_append, List.cons_append, pre_cons, pre_word ha.2 hw.2]
    by_cases h : x = y
    · subst h; simp
    · have h2 : ¬ (y = x ∧ w = a) := fun e => h e.1.symm;have h3 : ¬ y = x := fun e => h e.symm;simp [h, h3]
theorem contains_cons (a : UInt8) (l p : BL) : Lib.contains (a :: l) p = (Lib.hasPrefix (a :: l) p || Lib.contains l p) := by
  unfold Lib.contains
  have hge := Lib.index_ge l p;have e : Lib.index (a :: l) p = if p.isPrefixOf (a :: l) then 0 else if Lib.index l p == -1 then -1 else Lib.index l p + 1 := by conv => lhs; unfold Lib.index
  rw [e]
  unfold Lib.hasPrefix
  cases p.isPrefixOf (a :: l) with
  | true => simp
  | false =>
    by_cases h : Lib.index l p = -1
    · simp [h]
    · have h2 : Lib.index l p ≥ 0 := by omega
      have h3 : Lib.index l p + 1 ≥ 0 := by omega
      simp [h, h2, h3]
theorem contains_skip : ∀ {a r p : BL}, (32 : UInt8) ∉ a → Lib.contains (a ++ r) (32 :: p) = Lib.contains r (32 :: p)
  | [], _, _, _ => rfl
  | x :: a, r, p, h => by
    simp only [List.mem_cons, not_or] at h;rw [List.cons_append, contains_cons, contains_skip h.2, pre_cons];have h3 : ¬ x = 32 := fun e => h.1 e.symm;simp [h3]
theorem contains_spaced {w : BL} (hw : (32 : UInt8) ∉ w) : ∀ (ws : List BL), (∀ x ∈ ws, (32 : UInt8) ∉ x) → w ≠ [] → Lib.contains (spaced ws) (32 :: (w ++ [32])) = ws.contains w
  | [], _, h0 => by
    unfold spaced
    rw [List.flatMap_nil, contains_cons, pre_cons]
    cases w with
    | nil => exact absurd rfl h0
    | cons x w => simp [Lib.hasPrefix, List.isPrefixOf, Lib.contains, Lib.index]
  | a :: ws, h, h0 => by
    have ih := contains_spaced hw ws (fun x hx => h x (by simp [hx])) h0;have ha := h a (by simp);have e : spaced (a :: ws) = 32 :: (a ++ spaced ws) := by simp [spaced]
    rw [e, contains_cons, contains_skip ha, ih, pre_cons];have e2 : spaced ws = 32 :: ws.flatMap (· ++ [32]) := rfl;rw [e2, pre_word ha hw];have e3 : Lib.hasPrefix (ws.flatMap (· ++ [32])) [] = true := by simp [Lib.hasPrefix]
    rw [e3, List.contains_cons]
    by_cases hwa : w = a <;> simp [hwa]
theorem in_spaced {w : BL} (hw : (32 : UInt8) ∉ w) {ws : List BL} (h : ∀ x ∈ ws, (32 : UInt8) ∉ x ∧ x ≠ []) : inL w (spaced ws) = ws.contains w := by
  unfold inL
  by_cases h0 : w = []
  · subst h0
    have : ws.contains ([] : BL) = false := by
      rw [Bool.eq_false_iff];intro e;exact (h [] (by simpa using e)).2 rfl
    rw [this]; simp
  · rw [contains_spaced hw ws (fun x hx => (h x hx).1) h0]; simp [h0]
theorem in_wordIn {l : List Tok} (hg : Good l) (i : Nat) {ws : List BL} (h : ∀ x ∈ ws, (32 : UInt8) ∉ x ∧ x ≠ []) : inL (wordAt l i) (spaced ws) = wordIn l i ws := by
  rw [in_spaced (hg.at i) h]
  unfold wordAt wordIn
  have hn : ws.contains ([] : BL) = false := by
    rw [Bool.eq_false_iff];intro e;exact (h [] (by simpa using e)).2 rfl
  cases l[i]? with
  | none => exact hn
  | some t =>
    simp only
    by_cases hk : t.1 = 1
    · simp [hk]
    · simp only [if_neg hk, decide_eq_false hk, Bool.false_and]; exact hn
theorem eq_wordIn {l : List Tok} (i : Nat) {w : BL} (h : w ≠ []) : decide (wordAt l i = w) = wordIn l i [w] := by
  unfold wordAt wordIn
  cases l[i]? with
  | none => exact decide_eq_false fun e => h e.symm
  | some t =>
    simp only
    by_cases hk : t.1 = 1
    · simp [hk, List.contains_cons]
    · simp only [if_neg hk, decide_eq_false hk, Bool.false_and]; exact decide_eq_false fun e => h e.symm
theorem hasW_spaced {l : List Tok} (hg : Good l) {ws : List BL} (h : ∀ x ∈ ws, (32 : UInt8) ∉ x ∧ x ≠ []) : hasW l (spaced ws) = hasIn l ws := by
  unfold hasW hasIn
  rw [Bool.eq_iff_iff, List.any_eq_true, List.any_eq_true]
  constructor
  · rintro ⟨i, hi, hin⟩;rw [in_wordIn hg i h] at hin
    unfold wordIn at hin
    cases hx : l[i]? with
    | none => rw [hx] at hin; cases hin
    | some t => rw [hx] at hin; exact ⟨t, List.mem_of_getElem? hx, hin⟩
  · rintro ⟨t, ht, hp⟩;obtain ⟨i, hi⟩ := List.getElem?_of_mem ht;refine ⟨i, List.mem_range.2 (List.getElem?_eq_some_iff.1 hi).1, ?_⟩;rw [in_wordIn hg i h]
    unfold wordIn
    rw [hi]; exact hp
theorem ok_readsW : ∀ x ∈ readsW, (32 : UInt8) ∉ x ∧ x ≠ [] := by decide
theorem ok_changeW : ∀ x ∈ changeW, (32 : UInt8) ∉ x ∧ x ≠ [] := by decide
theorem ok_askW : ∀ x ∈ askW, (32 : UInt8) ∉ x ∧ x ≠ [] := by decide
theorem ok_anaW : ∀ x ∈ anaW, (32 : UInt8) ∉ x ∧ x ≠ [] := by decide
theorem ok_wtW : ∀ x ∈ wtW, (32 : UInt8) ∉ x ∧ x ≠ [] := by decide
theorem ok_setW : ∀ x ∈ setW, (32 : UInt8) ∉ x ∧ x ≠ [] := by decide
theorem ok_writesW : ∀ x ∈ writesW, (32 : UInt8) ∉ x ∧ x ≠ [] := by decide
def selW : List BL := [wSELECT]
theorem ok_selW : ∀ x ∈ selW, (32 : UInt8) ∉ x ∧ x ≠ [] := by decide
theorem sp_readsW : spaced readsW = [32, 83, 72, 79, 87, 32, 68, 69, 83, 67, 82, 73, 66, 69, 32, 68, 69, 83, 67, 32] := by decide
theorem sp_changeW : spaced changeW = [32, 73, 78, 83, 69, 82, 84, 32, 85, 80, 68, 65, 84, 69, 32, 68, 69, 76, 69, 84, 69, 32, 82, 69, 80, 76, 65, 67, 69, 32, 67, 82, 69, 65, 84, 69, 32, 68, 82, 79, 80, 32, 65, 76, 84, 69, 82, 32, 84, 82, 85, 78, 67, 65, 84, 69, 32, 71, 82, 65, 78, 84, 32, 82, 69, 86, 79, 75, 69, 32, 67, 65, 76, 76, 32, 76, 79, 67, 75, 32] := by decide
theorem sp_askW : spaced askW = [32, 83, 69, 76, 69, 67, 84, 32, 86, 65, 76, 85, 69, 83, 32, 84, 65, 66, 76, 69, 32, 87, 73, 84, 72, 32] := by decide
theorem sp_anaW : spaced anaW = [32, 65, 78, 65, 76, 89, 90, 69, 32, 65, 78, 65, 76, 89, 83, 69, 32] := by decide
theorem sp_wtW : spaced wtW = [32, 87, 79, 82, 75, 32, 84, 82, 65, 78, 83, 65, 67, 84, 73, 79, 78, 32] := by decide
theorem sp_setW : spaced setW = [32, 65, 85, 84, 79, 67, 79, 77, 77, 73, 84, 32, 71, 76, 79, 66, 65, 76, 32, 80, 69, 82, 83, 73, 83, 84, 32] := by decide
theorem sp_writesW : spaced writesW = [32, 73, 78, 83, 69, 82, 84, 32, 85, 80, 68, 65, 84, 69, 32, 68, 69, 76, 69, 84, 69, 32, 82, 69, 80, 76, 65, 67, 69, 32, 73, 78, 84, 79, 32, 83, 72, 65, 82, 69, 32] := by decide
theorem sp_selW : spaced selW = [32, 83, 69, 76, 69, 67, 84, 32] := by decide
open Go Go.Proofs.YtighdkdomfpadaaGreatDoor.SL Go.RowKit
theorem tokN_succ (f : Nat) (l : List Tok) : tokN (f + 1) l = if (l.any fun t => decide (t = signL)) then 7
    else if readsW.contains (wordAt l 0) then 1
    else if wordAt l 0 = wEXPLAIN then (if wordIn l 1 anaW then (if tokN f (l.drop 2) = 2 ∨ tokN f (l.drop 2) = 7 then tokN f (l.drop 2) else 1) else 1)
    else if changeW.contains (wordAt l 0) then 2
    else if askW.contains (wordAt l 0) then asksL l
    else if wordAt l 0 = wBEGIN then beginL l
    else if wordAt l 0 = wSTART then startL l
    else if wordAt l 0 = wCOMMIT then endsL 4 l
    else if wordAt l 0 = wROLLBACK then endsL 5 l
    else if wordAt l 0 = wSET then setL l
    else 7 := rfl
theorem Row_take {α : Type} {enc : α → List Value} {e : TypeId} {size : Nat} {A : Option Addr} {c : Nat} {xs : List α} {h : PH} (r : Row enc e size A c xs h) (k : Nat) : Row enc e size A c (xs.take k) h := by
  obtain ⟨hl, hr⟩ := r;refine ⟨fun x hx => hl x (List.mem_of_mem_take hx), ?_⟩
  rcases hr with ⟨h1, h2, h3⟩ | ⟨g, off, cur, h1, h2, h3, h4, h5, h6⟩
  · exact .inl ⟨h1, h2, by rw [h3]; simp⟩
  · refine .inr ⟨g, off, cur, h1, h2, by rw [List.length_take]; omega, h4, h5, ?_⟩
    have hs : (xs.map enc).flatten = ((xs.take k).map enc).flatten ++ ((xs.drop k).map enc).flatten := by
      rw [← List.flatten_append, ← List.map_append, List.take_append_drop]
    have hl2 : ((xs.take k).map enc).flatten.length = (xs.take k).length * size := flat_len fun x hx => hl x (List.mem_of_mem_take hx);have := congrArg (List.take ((xs.take k).length * size)) h6;rw [hs, ← hl2, List.take_left, hl2, List.take_take, Nat.min_eq_left (Nat.mul_le_mul_right _ (by rw [List.length_take]; omega))] at this;exact this
theorem at_rowTake {w0 : World} {n : Nat} {ds : List Deferred} {R : Act → World → Prop} {env : Env} {α : Type} {enc : α → List Value} {l : List HP} (j k : Nat) {e : TypeId} {size : Nat} {A : Option Addr} {c : Nat} {xs : List α} (hk : nth k l = some (Row enc e size A c xs))
    (h : At w0 n ds R env (setAt k (Row enc e size A c (xs.take j)) l)) : At w0 n ds R env l := fun a w f s => by
  refine h a w f ?_;obtain ⟨r, hp, hs⟩ := nth_pull hk;have s1 : Sat w0 w (Row enc e size A c xs :: r) := s.imp fun _ hh => star_perm hp hh;have s2 : Sat w0 w (Row enc e size A c (xs.take j) :: r) := s1.imp fun h ⟨p, q, h1, h2, h3⟩ => ⟨p, q, Row_take h1 j, h2, h3⟩;exact s2.imp fun _ hh => star_perm (hs _).symm hh
def classL (s : BL) : Int := if (lexR s).2 = 0 then tokN 201 (trimE (noHints (lexR s).1)) else 0
theorem great_no32 {c : UInt8} (h : wordB c = true) : greatB c ≠ 32 := by
  intro e;have h2 := congrArg UInt8.toNat e;have h3 : (32 : UInt8).toNat = 32 := rfl;simp only [wordB, letterB, digitB, Bool.or_eq_true, Bool.and_eq_true, decide_eq_true_eq] at h
  unfold greatB at h2
  split at h2
  · rename_i hc
    rw [UInt8.toNat_sub_of_le _ _ (by simp [UInt8.le_iff_toNat_le]; omega)] at h2;omega
  · omega
theorem one_good {l : BL} (h : (oneL l).1.1 = 1) : (oneL l).1.2 ≠ [] ∧ (32 : UInt8) ∉ (oneL l).1.2 := by
  cases l with
  | nil => simp [oneL] at h
  | cons c r =>
    unfold oneL at h ⊢
    simp only at h ⊢
    split at h
    · split at h <;> simp at h
    · rename_i h1
      rw [if_neg h1]
      split at h
      · rename_i h2
        rw [if_pos h2];have hw : wordB c = true := by simp [wordB, h2]
        refine ⟨?_, ?_⟩
        · unfold greatL
          rw [List.takeWhile_cons_of_pos hw]; simp
        · intro hm
          unfold greatL at hm
          obtain ⟨x, hx, he⟩ := List.mem_map.1 hm;exact great_no32 (List.all_eq_true.1 (List.all_takeWhile (p := wordB) (l := c :: r)) x hx) he
      · exfalso
        split at h
        · simp at h
        · split at h
          · split at h <;> simp at h
          · split at h
            · split at h <;> simp at h
            · split at h <;> simp at h
theorem lexL_good : ∀ (n : Nat) {l : BL} {ts : List Tok}, l.length ≤ n → lexL l = some ts → Good ts := by
  intro n
  induction n with
  | zero =>
    intro l ts hl h;have : l = [] := List.eq_nil_of_length_eq_zero (by omega);subst this;rw [lexL_nil] at h; cases h; intro t ht; cases ht
  | succ n ih =>
    intro l ts hl h
    cases l with
    | nil => rw [lexL_nil] at h; cases h; intro t ht; cases ht
    | cons c r =>
      rw [lexL_cons] at h;simp only [List.length_cons] at hl
      have key : ∀ (k : Nat) (us : List Tok), 1 ≤ k → lexL ((c :: r).drop k) = some us → Good us := fun k us hk hu =>
        ih (by rw [List.length_drop, List.length_cons]; omega) hu
      split at h
      · exact ih (by omega) h
      · split at h
        · split at h
          · cases h
          · rename_i h1
            cases hu : lexL ((c :: r).drop (oneL (c :: r)).2.toNat) with
            | none => rw [hu] at h; cases h
            | some us =>
              rw [hu] at h
              cases h
              have := key _ us (oneL_le (by omega)).1 hu;intro t ht hk
              rcases List.mem_cons.1 ht with rfl | ht
              · exact one_good hk
              · exact this t ht hk
        · split at h
          · cases h
          · exact key _ ts (by omega) h
theorem lexR_good (s : BL) : Good (lexR s).1 := by
  unfold lexR
  split
  · intro t ht; cases ht
  · cases h : lexL s with
    | none => intro t ht; cases ht
    | some ts => exact lexL_good _ (Nat.le_refl _) h
end Go.Proofs.YtighdkdomfpadaaGreatDoor
