/- Package class: what it computes, in plain words; its small functions, walked. -/
import Derived.Test.YtfcmajgnpnlkiaaGreatDoorProg
import Derived.Test.YtfcmajgnpnlkiaaGreatDoorTrimDef
import Derived.Test.YtfcmajgnpnlkiaaGreatDoorRefLexA
import Derived.Test.YtfcmajgnpnlkiaaGreatDoorSLB
import Derived.KernelRfl
set_option linter.unusedSimpArgs false
set_option linter.unusedVariables false
set_option maxRecDepth 100000
set_option maxHeartbeats 2000000
namespace Go.Proofs.YtfcmajgnpnlkiaaGreatDoor
open Go Go.Proofs.YtfcmajgnpnlkiaaGreatDoor.SL Go.RowKit
def wordIn (l : List Tok) (i : Nat) (ws : List BL) : Bool := match l[i]? with | some t => decide (t.1 = 1) && ws.contains t.2 | none => false
def hasIn (l : List Tok) (ws : List BL) : Bool := l.any fun t => decide (t.1 = 1) && ws.contains t.2
theorem T47 (w0 : World) (t : Tok) : Tri Tryz.prog w0 47 [.agg #[.int .i64 t.1, SV t.2]] [] fun v m => v = .bool (decide (t.1 = 5)) ∧ m = [] := by
 refine tri_k Tryz.func47 rfl rfl fun F => ?_;simp only [Tryz.ntmps47, argEnv, List.nil_append];refine zH fun zq zQ => ?_;refine zC 2 rfl ?_;refine zT (ot_boxA rfl rfl) ?_;rintro _ _ ⟨g0, rfl, rfl⟩;refine zOM [(0,_,_,_)] ⟨rfl,trivial⟩ [0] 12 rfl ?_;refine zQ ?_;refine at_end ?_;refine zfin ?_;refine ⟨_, ⟨rfl, rfl⟩, ?_⟩;exact zE [] [0]
theorem T48 (w0 : World) (t : Tok) : Tri Tryz.prog w0 48 [.agg #[.int .i64 t.1, SV t.2]] [] fun v m => v = .bool (decide (t = signL)) ∧ m = [] := by
 refine tri_k Tryz.func48 rfl rfl fun F => ?_;simp only [Tryz.ntmps48, argEnv, List.nil_append]
 have e : (decide (t.1 = 6) && decide ((⟨t.2.toArray⟩ : ByteArray) = ⟨#[59]⟩)) = decide (t = signL) := by
  rw [show (⟨#[59]⟩ : ByteArray) = ⟨([59] : BL).toArray⟩ from rfl, ba_dec];exact tok_eq t signL
 refine zH fun zq zQ => ?_;refine zC 2 rfl ?_;refine zT (ot_boxA rfl rfl) ?_;rintro _ _ ⟨g0, rfl, rfl⟩;refine zOM [(0,_,_,_)] ⟨rfl,trivial⟩ [0] 6 rfl ?_;refine zV (ov_build (cs := [_, _]) rfl rfl rfl rfl) ?_;refine zV (ov_eqS rfl (by kernel_rfl) rfl rfl rfl rfl) ?_;refine zO 4 rfl ?_;refine zQ ?_;refine at_end ?_;refine zfin ?_;refine ⟨_, ⟨by rw [← e], rfl⟩, ?_⟩;exact zE [] [0]
def firstB {α : Type} (p : α → Bool) : List α → Int
  | [] => -1
  | a :: l => if p a then 0 else if firstB p l < 0 then -1 else firstB p l + 1
theorem firstB_at {α : Type} {p : α → Bool} : ∀ {l : List α} {k : Nat}, (∀ x ∈ l.take k, p x = false) → (∀ x, l[k]? = some x → p x = true) → k < l.length → firstB p l = (k : Nat)
  | [], k, _, _, h => by simp at h
  | a :: l, 0, _, h2, _ => by rw [firstB, if_pos (h2 a rfl)]; rfl
  | a :: l, k + 1, h1, h2, h3 => by
    have ih := firstB_at (p := p) (l := l) (k := k) (fun x hx => h1 x (by simp [hx])) (fun x hx => h2 x (by simpa using hx)) (by simpa using h3);rw [firstB, if_neg (by rw [h1 a (by simp)]; simp), ih, if_neg (by omega)]; rfl
theorem firstB_none {α : Type} {p : α → Bool} : ∀ {l : List α}, (∀ x ∈ l, p x = false) → firstB p l = -1
  | [], _ => rfl
  | a :: l, h => by
    rw [firstB, if_neg (by rw [h a (by simp)]; simp), firstB_none (fun x hx => h x (by simp [hx]))]; rfl
theorem firstB_cons {α : Type} (p : α → Bool) (a : α) (l : List α) : firstB p (a :: l) = if p a then 0 else if firstB p l < 0 then -1 else firstB p l + 1 := rfl
theorem firstB_ge {α : Type} {p : α → Bool} : ∀ (l : List α), -1 ≤ firstB p l
  | [] => Int.le_refl _
  | a :: l => by have := firstB_ge (p := p) l; rw [firstB_cons]; split; omega; split <;> omega
theorem firstB_any {α : Type} {p : α → Bool} : ∀ (l : List α), decide (firstB p l ≥ 0) = l.any p
  | [] => rfl
  | a :: l => by
    have ih := firstB_any (p := p) l;rw [List.any_cons, ← ih, firstB_cons];have := firstB_ge (p := p) l
    generalize firstB p l = n at this ⊢
    cases p a with
    | true => simp
    | false =>
      simp only [Bool.false_eq_true, if_false, Bool.false_or]
      apply decide_eq_decide.2
      split <;> omega
theorem T62 (w0 : World) {A : Option Addr} {c : Nat} {l : List Tok} (hr : Rd tE w0 2 A l) (hm : l.length ≤ 10000) : Tri Tryz.prog w0 62 [.slice A l.length c, .func (.func 48) #[] #[]] [] fun v m => v = .int .i64 (firstB (fun t => decide (t = signL)) l) ∧ m = [] := by
 refine tri_k Tryz.func62 rfl rfl fun F => ?_;simp only [Tryz.ntmps62, argEnv, List.nil_append];refine zH fun zq zQ => ?_;refine zC 14 rfl ?_;refine at_loopK [9, 10, 5, 11, 12, 13, 14, 15, 16, 17, 4, 18, 8] (fun k => k ≤ l.length ∧ ∀ x ∈ l.take k, decide (x = signL) = false) (fun k => [(8, .int .i64 (k : Nat))]) (fun _ m => m) (fun k => l.length - k) 0 ⟨Nat.zero_le _, by simp⟩ ⟨rfl, trivial⟩ (fun _ s => s) ?_;rintro k ⟨hk, hb⟩
 rcases Nat.lt_or_ge k l.length with hlt | hge
 ·have hi1 : decide ((k : Int) < l.length) = true := decide_eq_true (by omega);obtain ⟨x, hget⟩ : ∃ x, l[k]? = some x := ⟨_, List.getElem?_eq_getElem hlt⟩;have hS := T48 w0 x
  cases hp : decide (x = signL) with
  | true =>
   rw [hp] at hS;refine zC 6 rfl ?_;refine zu ?_;refine zC 15 rfl ?_;refine zV (ov_indexRd (fun _ s => hr.up s) rfl Tryz.underlying114 rfl rfl rfl hget) ?_;refine zV (ov_loadRdS (vs := [_, _]) (fun _ s => hr.up s) rfl rfl rfl hget rfl rfl) ?_;refine zcall [] rfl rfl rfl Tryz.call48 rfl (hS ) rfl ?_;simp only [zca, zna, splice, spliceL];refine zO 15 rfl ?_;refine zQ ?_;refine at_end ?_;refine zfin ?_;refine ⟨_, ⟨by rw [firstB_at hb (fun y hy => by rw [hget] at hy; cases hy; exact hp) hlt], rfl⟩, ?_⟩;exact zE [] []
  | false =>
   rw [hp] at hS;refine zC 6 rfl ?_;refine zu ?_;refine zC 15 rfl ?_;refine zV (ov_indexRd (fun _ s => hr.up s) rfl Tryz.underlying114 rfl rfl rfl hget) ?_;refine zV (ov_loadRdS (vs := [_, _]) (fun _ s => hr.up s) rfl rfl rfl hget rfl rfl) ?_;refine zcall [] rfl rfl rfl Tryz.call48 rfl (hS ) rfl ?_;simp only [zca, zna, splice, spliceL];refine zO 7 rfl ?_;refine zV zI ?_;refine zOR 3 rfl ?_;refine at_roundF (k + 1) ⟨hlt, fun y hy => ?_⟩ (by omega) ⟨rfl, trivial⟩ rfl ?_
   ·rw [List.take_add_one, hget] at hy
    rcases List.mem_append.1 hy with hy | hy
    ·exact hb y hy
    ·simp at hy; subst hy; exact hp
   exact zE [] []
 ·have hi1 : decide ((k : Int) < l.length) = false := decide_eq_false (by omega);rw [List.take_of_length_le hge] at hb;refine zC 6 rfl ?_;refine zg ?_;refine zC 11 rfl ?_;refine zQ ?_;refine at_end ?_;refine zfin ?_;refine ⟨_, ⟨by rw [firstB_none hb], rfl⟩, ?_⟩;exact zE [] []
theorem T62a (w0 : World) {A : Option Addr} {c : Nat} {l : List Tok} (hr : Rd tE w0 2 A l) (hm : l.length ≤ 10000) : Tri Tryz.prog w0 62 [.slice A l.length c, .func (.func 47) #[] #[]] [] fun v m => v = .int .i64 (firstB (fun t => decide (t.1 = 5)) l) ∧ m = [] := by
 refine tri_k Tryz.func62 rfl rfl fun F => ?_;simp only [Tryz.ntmps62, argEnv, List.nil_append];refine zH fun zq zQ => ?_;refine zC 14 rfl ?_;refine at_loopK [9, 10, 5, 11, 12, 13, 14, 15, 16, 17, 4, 18, 8] (fun k => k ≤ l.length ∧ ∀ x ∈ l.take k, decide (x.1 = 5) = false) (fun k => [(8, .int .i64 (k : Nat))]) (fun _ m => m) (fun k => l.length - k) 0 ⟨Nat.zero_le _, by simp⟩ ⟨rfl, trivial⟩ (fun _ s => s) ?_;rintro k ⟨hk, hb⟩
 rcases Nat.lt_or_ge k l.length with hlt | hge
 ·have hi1 : decide ((k : Int) < l.length) = true := decide_eq_true (by omega);obtain ⟨x, hget⟩ : ∃ x, l[k]? = some x := ⟨_, List.getElem?_eq_getElem hlt⟩;have hS := T47 w0 x
  cases hp : decide (x.1 = 5) with
  | true =>
   rw [hp] at hS;refine zC 6 rfl ?_;refine zu ?_;refine zC 15 rfl ?_;refine zV (ov_indexRd (fun _ s => hr.up s) rfl Tryz.underlying114 rfl rfl rfl hget) ?_;refine zV (ov_loadRdS (vs := [_, _]) (fun _ s => hr.up s) rfl rfl rfl hget rfl rfl) ?_;refine zcall [] rfl rfl rfl Tryz.call47 rfl (hS ) rfl ?_;simp only [zca, zna, splice, spliceL];refine zO 15 rfl ?_;refine zQ ?_;refine at_end ?_;refine zfin ?_;refine ⟨_, ⟨by rw [firstB_at hb (fun y hy => by rw [hget] at hy; cases hy; exact hp) hlt], rfl⟩, ?_⟩;exact zE [] []
  | false =>
   rw [hp] at hS;refine zC 6 rfl ?_;refine zu ?_;refine zC 15 rfl ?_;refine zV (ov_indexRd (fun _ s => hr.up s) rfl Tryz.underlying114 rfl rfl rfl hget) ?_;refine zV (ov_loadRdS (vs := [_, _]) (fun _ s => hr.up s) rfl rfl rfl hget rfl rfl) ?_;refine zcall [] rfl rfl rfl Tryz.call47 rfl (hS ) rfl ?_;simp only [zca, zna, splice, spliceL];refine zO 7 rfl ?_;refine zV zI ?_;refine zOR 3 rfl ?_;refine at_roundF (k + 1) ⟨hlt, fun y hy => ?_⟩ (by omega) ⟨rfl, trivial⟩ rfl ?_
   ·rw [List.take_add_one, hget] at hy
    rcases List.mem_append.1 hy with hy | hy
    ·exact hb y hy
    ·simp at hy; subst hy; exact hp
   exact zE [] []
 ·have hi1 : decide ((k : Int) < l.length) = false := decide_eq_false (by omega);rw [List.take_of_length_le hge] at hb;refine zC 6 rfl ?_;refine zg ?_;refine zC 11 rfl ?_;refine zQ ?_;refine at_end ?_;refine zfin ?_;refine ⟨_, ⟨by rw [firstB_none hb], rfl⟩, ?_⟩;exact zE [] []
theorem T63 (w0 : World) {A : Option Addr} {c : Nat} {l : List Tok} (hr : Rd tE w0 2 A l) (hm : l.length ≤ 10000) : Tri Tryz.prog w0 63 [.slice A l.length c, .func (.func 48) #[] #[]] [] fun v m => v = .bool (l.any fun t => decide (t = signL)) ∧ m = [] := by
 refine tri_k Tryz.func63 rfl rfl fun F => ?_;simp only [Tryz.ntmps63, argEnv, List.nil_append];refine zH fun zq zQ => ?_;refine zC 9 rfl ?_;refine zcall [] rfl rfl rfl Tryz.call62 rfl (T62 _ (by first | assumption | rfl | omega | decide | (simp; done) | (simp at *; omega)) (by first | assumption | rfl | omega | decide | (simp; done) | (simp at *; omega))) rfl ?_;simp only [zca, zna, splice, spliceL];refine zO 5 rfl ?_;refine zQ ?_;refine at_end ?_;refine zfin ?_;refine ⟨_, ⟨by rw [firstB_any], rfl⟩, ?_⟩;exact zE [] []
theorem T193 (w0 : World) {A : Option Addr} {c : Nat} {ws : List BL} (hr : Rd bsE w0 1 A ws) (hm : ws.length ≤ 10000) (s : BL) : Tri Tryz.prog w0 193 [.slice A ws.length c, SV s] [] fun v m => v = .int .i64 (firstB (fun w => decide (s = w)) ws) ∧ m = [] := by
 refine tri_k Tryz.func193 rfl rfl fun F => ?_;simp only [Tryz.ntmps193, argEnv, List.nil_append];refine zH fun zq zQ => ?_;refine zC 14 rfl ?_;refine at_loopK [9, 10, 5, 11, 12, 13, 14, 15, 16, 17, 4, 18, 8] (fun k => k ≤ ws.length ∧ ∀ x ∈ ws.take k, decide (s = x) = false) (fun k => [(8, .int .i64 (k : Nat))]) (fun _ m => m) (fun k => ws.length - k) 0 ⟨Nat.zero_le _, by simp⟩ ⟨rfl, trivial⟩ (fun _ s => s) ?_;rintro k ⟨hk, hb⟩
 rcases Nat.lt_or_ge k ws.length with hlt | hge
 ·have hi1 : decide ((k : Int) < ws.length) = true := decide_eq_true (by omega);obtain ⟨x, hget⟩ : ∃ x, ws[k]? = some x := ⟨_, List.getElem?_eq_getElem hlt⟩
  cases hp : decide (s = x) with
  | true =>
   refine zC 6 rfl ?_;refine zu ?_;refine zC 15 rfl ?_;refine zV (ov_indexRd (fun _ s => hr.up s) rfl Tryz.underlying35 rfl rfl rfl hget) ?_;refine zV (ov_loadRd0 (fun _ s => hr.up s) rfl rfl rfl hget rfl) ?_;refine zO 3 rfl ?_;refine zt ?_;refine zC 12 rfl ?_;refine zQ ?_;refine at_end ?_;refine zfin ?_;refine ⟨_, ⟨by rw [firstB_at hb (fun y hy => by rw [hget] at hy; cases hy; exact hp) hlt], rfl⟩, ?_⟩;exact zE [] []
  | false =>
   refine zC 6 rfl ?_;refine zu ?_;refine zC 15 rfl ?_;refine zV (ov_indexRd (fun _ s => hr.up s) rfl Tryz.underlying35 rfl rfl rfl hget) ?_;refine zV (ov_loadRd0 (fun _ s => hr.up s) rfl rfl rfl hget rfl) ?_;refine zO 3 rfl ?_;refine zf ?_;refine zC 4 rfl ?_;refine zV zI ?_;refine zOR 3 rfl ?_;refine at_roundF (k + 1) ⟨hlt, fun y hy => ?_⟩ (by omega) ⟨rfl, trivial⟩ rfl ?_
   ·rw [List.take_add_one, hget] at hy
    rcases List.mem_append.1 hy with hy | hy
    ·exact hb y hy
    ·simp at hy; subst hy; exact hp
   exact zE [] []
 ·have hi1 : decide ((k : Int) < ws.length) = false := decide_eq_false (by omega);rw [List.take_of_length_le hge] at hb;refine zC 6 rfl ?_;refine zg ?_;refine zC 11 rfl ?_;refine zQ ?_;refine at_end ?_;refine zfin ?_;refine ⟨_, ⟨by rw [firstB_none hb], rfl⟩, ?_⟩;exact zE [] []
theorem any_contains (s : BL) (ws : List BL) : (ws.any fun w => decide (s = w)) = ws.contains s := by
  rw [List.contains_eq_any_beq]
  congr 1
  funext w
  by_cases h : s = w <;> simp [h]
theorem T169 (w0 : World) {A : Option Addr} {c : Nat} {ws : List BL} (hr : Rd bsE w0 1 A ws) (hm : ws.length ≤ 10000) (s : BL) : Tri Tryz.prog w0 169 [.slice A ws.length c, SV s] [] fun v m => v = .bool (ws.contains s) ∧ m = [] := by
 refine tri_k Tryz.func169 rfl rfl fun F => ?_;simp only [Tryz.ntmps169, argEnv, List.nil_append];refine zH fun zq zQ => ?_;refine zC 9 rfl ?_;refine zcall [] rfl rfl rfl Tryz.call193 rfl (T193 _ (by first | assumption | rfl | omega | decide | (simp; done) | (simp at *; omega)) (by first | assumption | rfl | omega | decide | (simp; done) | (simp at *; omega)) _) rfl ?_;simp only [zca, zna, splice, spliceL];refine zO 5 rfl ?_;refine zQ ?_;refine at_end ?_;refine zfin ?_;refine ⟨_, ⟨by rw [← any_contains, ← firstB_any], rfl⟩, ?_⟩;exact zE [] []
theorem T132 (w0 : World) {A B : Option Addr} {c d : Nat} {l : List Tok} {ws : List BL} (hr : Rd tE w0 2 A l) (hr2 : Rd bsE w0 1 B ws) (hm : l.length ≤ 10000) (hm2 : ws.length ≤ 10000) (i : Nat) (hi : i ≤ 10000) : Tri Tryz.prog w0 132 [.slice A l.length c, .int .i64 (i : Nat), .slice B ws.length d] [] fun v m => v = .bool (wordIn l i ws) ∧ m = [] := by
 refine tri_k Tryz.func132 rfl rfl fun F => ?_;simp only [Tryz.ntmps132, argEnv, List.nil_append]
 rcases Nat.lt_or_ge i l.length with hlt | hge
 ·have hi1 : decide ((i : Int) < l.length) = true := decide_eq_true (by omega);obtain ⟨x, hget⟩ : ∃ x, l[i]? = some x := ⟨_, List.getElem?_eq_getElem hlt⟩;have e : wordIn l i ws = (decide (x.1 = 1) && ws.contains x.2) := by unfold wordIn; rw [hget]
  rw [e]
  cases hk : decide (x.1 = 1) with
  | true =>
   refine zH fun zq zQ => ?_;refine zC 12 rfl ?_;refine zru 11 ?_;refine zO 2 rfl ?_;refine at_wanted (j := 4) rfl ?_;refine zV (ov_indexRd (fun _ s => hr.up s) rfl Tryz.underlying114 rfl rfl rfl hget) ?_;refine at_wanted (j := 4) rfl ?_;refine zV (ov_fieldRd0 (k := 0) (fun _ s => hr.up s) rfl rfl hget rfl) ?_;refine at_wanted (j := 4) rfl ?_;refine zV (ov_loadRd0 (fun _ s => hr.up s) rfl rfl rfl hget rfl) ?_;refine zO 3 rfl ?_;refine zrt 19 ?_;refine zO 3 rfl ?_;refine at_wanted (j := 12) rfl ?_;refine zV (ov_indexRd (fun _ s => hr.up s) rfl Tryz.underlying114 rfl rfl rfl hget) ?_;refine at_wanted (j := 12) rfl ?_;refine zV (ov_fieldRd0 (k := 1) (fun _ s => hr.up s) rfl rfl hget rfl) ?_;refine at_wanted (j := 12) rfl ?_;refine zV (ov_loadRd (fun _ s => hr.up s) rfl rfl rfl hget rfl) ?_;refine at_wanted (j := 12) rfl ?_;refine zcall [] rfl rfl rfl Tryz.call169 rfl (T169 _ (by first | assumption | rfl | omega | decide | (simp; done) | (simp at *; omega)) (by first | assumption | rfl | omega | decide | (simp; done) | (simp at *; omega)) _) rfl ?_;simp only [zca, zna, splice, spliceL];refine zO 5 rfl ?_;refine zQ ?_;refine at_end ?_;refine zfin ?_;refine ⟨_, ⟨rfl, rfl⟩, ?_⟩;exact zE [] []
  | false =>
   refine zH fun zq zQ => ?_;refine zC 12 rfl ?_;refine zru 11 ?_;refine zO 2 rfl ?_;refine at_wanted (j := 4) rfl ?_;refine zV (ov_indexRd (fun _ s => hr.up s) rfl Tryz.underlying114 rfl rfl rfl hget) ?_;refine at_wanted (j := 4) rfl ?_;refine zV (ov_fieldRd0 (k := 0) (fun _ s => hr.up s) rfl rfl hget rfl) ?_;refine at_wanted (j := 4) rfl ?_;refine zV (ov_loadRd0 (fun _ s => hr.up s) rfl rfl rfl hget rfl) ?_;refine zO 3 rfl ?_;refine zrf 19 ?_;refine zO 12 rfl ?_;refine zQ ?_;refine at_end ?_;refine zfin ?_;refine ⟨_, ⟨rfl, rfl⟩, ?_⟩;exact zE [] []
 ·have hi1 : decide ((i : Int) < l.length) = false := decide_eq_false (by omega);have e : wordIn l i ws = false := by unfold wordIn; rw [List.getElem?_eq_none hge]
  refine zH fun zq zQ => ?_;refine zC 12 rfl ?_;refine zrg 11 ?_;refine zO 20 rfl ?_;refine zQ ?_;refine at_end ?_;refine zfin ?_;refine ⟨_, ⟨by rw [e], rfl⟩, ?_⟩;exact zE [] []
theorem T132a (w0 : World) {A B : Option Addr} {c d d' : Nat} {l : List Tok} {ws : List BL} (hr : Rd tE w0 2 A l) (hm : l.length ≤ 10000) (hm2 : ws.length ≤ 10000) (i : Nat) (hi : i ≤ 10000) : Tri Tryz.prog w0 132 [.slice A l.length c, .int .i64 (i : Nat), .slice B ws.length d] [Row bsE 9 1 B d' ws] fun v m => v = .bool (wordIn l i ws) ∧ m = [Row bsE 9 1 B d' ws] :=
  (Tri.of_all fun w s => T132 w (hr.up s) (s.rd (k := 0) rfl) hm hm2 i hi).post fun v m ⟨m', ⟨h1, h2⟩, h3⟩ => ⟨h1, by rw [h3, h2]; rfl⟩
theorem any_take {p : Tok → Bool} {l : List Tok} {k : Nat} {x : Tok} (h : l[k]? = some x) : (l.take (k + 1)).any p = ((l.take k).any p || p x) := by
  rw [List.take_add_one, h]; simp
theorem T135 (w0 : World) {A B : Option Addr} {c d : Nat} {l : List Tok} {ws : List BL} (hr : Rd tE w0 2 A l) (hr2 : Rd bsE w0 1 B ws) (hm : l.length ≤ 10000) (hm2 : ws.length ≤ 10000) : Tri Tryz.prog w0 135 [.slice A l.length c, .slice B ws.length d] [] fun v m => v = .bool (hasIn l ws) ∧ m = [] := by
 refine tri_k Tryz.func135 rfl rfl fun F => ?_;simp only [Tryz.ntmps135, argEnv, List.nil_append];refine zH fun zq zQ => ?_;refine zC 14 rfl ?_;refine at_loopK [9, 10, 5, 11, 12, 13, 14, 4, 15, 8] (fun k => k ≤ l.length ∧ hasIn (l.take k) ws = false) (fun k => [(8, .int .i64 (k : Nat))]) (fun _ m => m) (fun k => l.length - k) 0 ⟨Nat.zero_le _, rfl⟩ ⟨rfl, trivial⟩ (fun _ s => s) ?_;rintro k ⟨hk, hb⟩
 rcases Nat.lt_or_ge k l.length with hlt | hge
 ·have hi1 : decide ((k : Int) < l.length) = true := decide_eq_true (by omega);obtain ⟨x, hget⟩ : ∃ x, l[k]? = some x := ⟨_, List.getElem?_eq_getElem hlt⟩;have hW := T132 w0 (c := c) (d := d) hr hr2 hm hm2 k (by omega);have e : wordIn l k ws = (decide (x.1 = 1) && ws.contains x.2) := by unfold wordIn; rw [hget]
  have hs : hasIn (l.take (k + 1)) ws = (hasIn (l.take k) ws || (decide (x.1 = 1) && ws.contains x.2)) := any_take hget;rw [hb, Bool.false_or, ← e] at hs
  cases hw : wordIn l k ws with
  | true =>
   rw [hw] at hW
   have hall : hasIn l ws = true := by
    unfold hasIn
    try rw [List.any_eq_true]
    exact ⟨x, List.mem_of_getElem? hget, by rw [← e]; exact hw⟩
   refine zC 6 rfl ?_;refine zu ?_;refine zC 15 rfl ?_;refine zcall [] rfl rfl rfl Tryz.call132 rfl (hW ) rfl ?_;simp only [zca, zna, splice, spliceL];refine zO 14 rfl ?_;refine zQ ?_;refine at_end ?_;refine zfin ?_;refine ⟨_, ⟨by rw [hall], rfl⟩, ?_⟩;exact zE [] []
  | false =>
   rw [hw] at hW hs;refine zC 6 rfl ?_;refine zu ?_;refine zC 15 rfl ?_;refine zcall [] rfl rfl rfl Tryz.call132 rfl (hW ) rfl ?_;simp only [zca, zna, splice, spliceL];refine zO 7 rfl ?_;refine zV zI ?_;refine zOR 3 rfl ?_;refine at_roundF (k + 1) ⟨hlt, hs⟩ (by omega) ⟨rfl, trivial⟩ rfl ?_;exact zE [] []
 ·have hi1 : decide ((k : Int) < l.length) = false := decide_eq_false (by omega);rw [List.take_of_length_le hge] at hb;refine zC 6 rfl ?_;refine zg ?_;refine zC 11 rfl ?_;refine zQ ?_;refine at_end ?_;refine zfin ?_;refine ⟨_, ⟨by rw [hb], rfl⟩, ?_⟩;exact zE [] []
theorem T135a (w0 : World) {A B : Option Addr} {c d d' : Nat} {l : List Tok} {ws : List BL} (hr : Rd tE w0 2 A l) (hm : l.length ≤ 10000) (hm2 : ws.length ≤ 10000) : Tri Tryz.prog w0 135 [.slice A l.length c, .slice B ws.length d] [Row bsE 9 1 B d' ws] fun v m => v = .bool (hasIn l ws) ∧ m = [Row bsE 9 1 B d' ws] :=
  (Tri.of_all fun w s => T135 w (hr.up s) (s.rd (k := 0) rfl) hm hm2).post fun v m ⟨m', ⟨h1, h2⟩, h3⟩ => ⟨h1, by rw [h3, h2]; rfl⟩
def wANALYZE : BL := [65, 78, 65, 76, 89, 90, 69]
def wANALYSE : BL := [65, 78, 65, 76, 89, 83, 69]
def wWORK : BL := [87, 79, 82, 75]
def wTRANSACTION : BL := [84, 82, 65, 78, 83, 65, 67, 84, 73, 79, 78]
def wAUTOCOMMIT : BL := [65, 85, 84, 79, 67, 79, 77, 77, 73, 84]
def wGLOBAL : BL := [71, 76, 79, 66, 65, 76]
def wPERSIST : BL := [80, 69, 82, 83, 73, 83, 84]
def wINSERT : BL := [73, 78, 83, 69, 82, 84]
def wUPDATE : BL := [85, 80, 68, 65, 84, 69]
def wDELETE : BL := [68, 69, 76, 69, 84, 69]
def wREPLACE : BL := [82, 69, 80, 76, 65, 67, 69]
def wINTO : BL := [73, 78, 84, 79]
def wSHARE : BL := [83, 72, 65, 82, 69]
def wWITH : BL := [87, 73, 84, 72]
def wSELECT : BL := [83, 69, 76, 69, 67, 84]
def writesW : List BL := [wINSERT, wUPDATE, wDELETE, wREPLACE, wINTO, wSHARE]
def beginL (l : List Tok) : Int := if l.length = 1 ∨ (l.length = 2 ∧ wordIn l 1 [wWORK, wTRANSACTION] = true) then 3 else 7
def startL (l : List Tok) : Int := if wordIn l 1 [wTRANSACTION] then 3 else 7
def endsL (k : Int) (l : List Tok) : Int := if l.length = 1 ∨ (l.length = 2 ∧ wordIn l 1 [wWORK] = true) then k else 7
def setL (l : List Tok) : Int := if wordIn l 1 [wAUTOCOMMIT, wGLOBAL, wPERSIST] then 7 else 6
def asksL (l : List Tok) : Int := if hasIn l writesW then 2 else if wordIn l 0 [wWITH] && !hasIn l [wSELECT] then 7 else 1
theorem T93 (w0 : World) (cv : Value) {A : Option Addr} {c : Nat} {l : List Tok} (hr : Rd tE w0 2 A l) (hm : l.length ≤ 10000) : Tri Tryz.prog w0 93 [cv, .slice A l.length c] [] fun v m => v = .int .i64 (startL l) ∧ m = [] := by
 refine tri_k Tryz.func93 rfl rfl fun F => ?_;simp only [Tryz.ntmps93, argEnv, List.nil_append];refine zH fun zq zQ => ?_;refine zC 9 rfl ?_;refine zT (ot_buildSlice (cs := [_]) rfl Tryz.underlying35 rfl rfl rfl rfl rfl rfl) ?_;rintro _ _ ⟨g0, rfl, rfl⟩;refine at_rowOf bsE 0 (size := 1) (c := 1) [wTRANSACTION] rfl (fun _ _ => rfl) (by decide) (by decide) (by decide) rfl ?_;simp only [setAt];refine at_reval 6 (.slice (some ⟨g0, 0, none⟩) ([wTRANSACTION] : List BL).length 1) rfl rfl ?_;have hW := fun {B} {d} {d'} => T132a w0 (B := B) (c := c) (d := d) (d' := d') (ws := [wTRANSACTION]) hr hm (by decide) 1 (by decide)
 cases hw : wordIn l 1 [wTRANSACTION] with
 | true =>
  rw [hw] at hW;refine zcall [0] rfl rfl rfl Tryz.call132 rfl (hW ) rfl ?_;simp only [zca, zna, splice, spliceL];refine zO 10 rfl ?_;refine zQ ?_;refine at_end ?_;refine zfin ?_;refine ⟨_, ⟨by simp [startL, hw], rfl⟩, ?_⟩;exact zE [] [0]
 | false =>
  rw [hw] at hW;refine zcall [0] rfl rfl rfl Tryz.call132 rfl (hW ) rfl ?_;simp only [zca, zna, splice, spliceL];refine zO 11 rfl ?_;refine zQ ?_;refine at_end ?_;refine zfin ?_;refine ⟨_, ⟨by simp [startL, hw], rfl⟩, ?_⟩;exact zE [] [0]
open Go Go.Proofs.YtfcmajgnpnlkiaaGreatDoor.SL Go.RowKit
theorem T95 (w0 : World) (cv : Value) {A : Option Addr} {c : Nat} {l : List Tok} (hr : Rd tE w0 2 A l) (hm : l.length ≤ 10000) : Tri Tryz.prog w0 95 [cv, .slice A l.length c] [] fun v m => v = .int .i64 (setL l) ∧ m = [] := by
 refine tri_k Tryz.func95 rfl rfl fun F => ?_;simp only [Tryz.ntmps95, argEnv, List.nil_append];refine zH fun zq zQ => ?_;refine zC 9 rfl ?_;refine zT (ot_buildSlice (cs := [_, _, _]) rfl Tryz.underlying35 rfl rfl rfl rfl rfl rfl) ?_;rintro _ _ ⟨g0, rfl, rfl⟩;refine at_rowOf bsE 0 (size := 1) (c := 3) [wAUTOCOMMIT, wGLOBAL, wPERSIST] rfl (fun _ _ => rfl) (by decide) (by decide) (by decide) rfl ?_;simp only [setAt];refine at_reval 6 (.slice (some ⟨g0, 0, none⟩) ([wAUTOCOMMIT, wGLOBAL, wPERSIST] : List BL).length 3) rfl rfl ?_;have hW := fun {B} {d} {d'} => T132a w0 (B := B) (c := c) (d := d) (d' := d') (ws := [wAUTOCOMMIT, wGLOBAL, wPERSIST]) hr hm (by decide) 1 (by decide)
 cases hw : wordIn l 1 [wAUTOCOMMIT, wGLOBAL, wPERSIST] with
 | true =>
  rw [hw] at hW;refine zcall [0] rfl rfl rfl Tryz.call132 rfl (hW ) rfl ?_;simp only [zca, zna, splice, spliceL];refine zO 10 rfl ?_;refine zQ ?_;refine at_end ?_;refine zfin ?_;refine ⟨_, ⟨by simp [setL, hw], rfl⟩, ?_⟩;exact zE [] [0]
 | false =>
  rw [hw] at hW;refine zcall [0] rfl rfl rfl Tryz.call132 rfl (hW ) rfl ?_;simp only [zca, zna, splice, spliceL];refine zO 11 rfl ?_;refine zQ ?_;refine at_end ?_;refine zfin ?_;refine ⟨_, ⟨by simp [setL, hw], rfl⟩, ?_⟩;exact zE [] [0]
theorem T92 (w0 : World) (cv : Value) {A : Option Addr} {c : Nat} {l : List Tok} (hr : Rd tE w0 2 A l) (hm : l.length ≤ 10000) : Tri Tryz.prog w0 92 [cv, .slice A l.length c] [] fun v m => v = .int .i64 (beginL l) ∧ m = [] := by
 refine tri_k Tryz.func92 rfl rfl fun F => ?_;simp only [Tryz.ntmps92, argEnv, List.nil_append]
 by_cases h1 : l.length = 1
 ·have hi1 : decide ((l.length : Int) = 1) = true := decide_eq_true (by omega);refine zH fun zq zQ => ?_;refine zC 12 rfl ?_;refine zru 8 ?_;refine zO 19 rfl ?_;refine zQ ?_;refine at_end ?_;refine zfin ?_;refine ⟨_, ⟨by simp [beginL, h1], rfl⟩, ?_⟩;exact zE [] []
 have hi1 : decide ((l.length : Int) = 1) = false := decide_eq_false (by omega)
 by_cases h2 : l.length = 2
 ·have hi2 : decide ((l.length : Int) = 2) = true := decide_eq_true (by omega);refine zH fun zq zQ => ?_;refine zC 12 rfl ?_;refine zrg 8 ?_;refine zO 4 rfl ?_;refine zru 12 ?_;refine zO 1 rfl ?_;refine at_wanted (j := 7) rfl ?_;refine zT (ot_buildSlice (cs := [_, _]) rfl Tryz.underlying35 rfl rfl rfl rfl rfl rfl) ?_;rintro _ _ ⟨g0, rfl, rfl⟩;refine at_wanted (j := 7) rfl ?_;refine at_rowOf bsE 0 (size := 1) (c := 2) [wWORK, wTRANSACTION] rfl (fun _ _ => rfl) (by decide) (by decide) (by decide) rfl ?_;simp only [setAt];refine at_reval 14 (.slice (some ⟨g0, 0, none⟩) ([wWORK, wTRANSACTION] : List BL).length 2) rfl rfl ?_;have hW := fun {B} {d} {d'} => T132a w0 (B := B) (c := c) (d := d) (d' := d') (ws := [wWORK, wTRANSACTION]) hr hm (by decide) 1 (by decide)
  cases hw : wordIn l 1 [wWORK, wTRANSACTION] with
  | true =>
   rw [hw] at hW;refine zcall [0] rfl rfl rfl Tryz.call132 rfl (hW ) rfl ?_;simp only [zca, zna, splice, spliceL];refine zO 12 rfl ?_;refine zQ ?_;refine at_end ?_;refine zfin ?_;refine ⟨_, ⟨by simp [beginL, h2, hw], rfl⟩, ?_⟩;exact zE [] [0]
  | false =>
   rw [hw] at hW;refine zcall [0] rfl rfl rfl Tryz.call132 rfl (hW ) rfl ?_;simp only [zca, zna, splice, spliceL];refine zO 13 rfl ?_;refine zQ ?_;refine at_end ?_;refine zfin ?_;refine ⟨_, ⟨by simp [beginL, h2, hw], rfl⟩, ?_⟩;exact zE [] [0]
 ·have hi2 : decide ((l.length : Int) = 2) = false := decide_eq_false (by omega);refine zH fun zq zQ => ?_;refine zC 12 rfl ?_;refine zrg 8 ?_;refine zO 4 rfl ?_;refine zrg 12 ?_;refine zO 16 rfl ?_;refine zQ ?_;refine at_end ?_;refine zfin ?_;refine ⟨_, ⟨by simp [beginL, h1, h2], rfl⟩, ?_⟩;exact zE [] []
theorem T96 (w0 : World) (k : Int) : Tri Tryz.prog w0 96 [.int .i64 k] [] fun v m => ∃ b, v = .func (.func 134) #[] #[ptrTo b] ∧ m = [cl b #[.int .i64 k] 3] := by
 refine tri_k Tryz.func96 rfl rfl fun F => ?_;simp only [Tryz.ntmps96, argEnv, List.nil_append];refine zH fun zq zQ => ?_;refine zC 2 rfl ?_;refine zT (ot_box1 rfl rfl rfl) ?_;rintro _ _ ⟨g0, rfl, rfl⟩;refine zO 10 rfl ?_;refine zQ ?_;refine at_end ?_;refine zfin ?_;refine ⟨_, ⟨g0, rfl, rfl⟩, ?_⟩;exact zE [0] []
theorem T94 (w0 : World) (k : Int) : Tri Tryz.prog w0 94 [.int .i64 k] [] fun v m => ∃ b, v = .func (.func 133) #[] #[ptrTo b] ∧ m = [cl b #[.int .i64 k] 3] := by
 refine tri_k Tryz.func94 rfl rfl fun F => ?_;simp only [Tryz.ntmps94, argEnv, List.nil_append];refine zH fun zq zQ => ?_;refine zC 2 rfl ?_;refine zT (ot_box1 rfl rfl rfl) ?_;rintro _ _ ⟨g0, rfl, rfl⟩;refine zO 10 rfl ?_;refine zQ ?_;refine at_end ?_;refine zfin ?_;refine ⟨_, ⟨g0, rfl, rfl⟩, ?_⟩;exact zE [0] []
theorem T97 (w0 : World) (cv : Value) {A : Option Addr} {c : Nat} {l : List Tok} (hr : Rd tE w0 2 A l) (hm : l.length ≤ 10000) : Tri Tryz.prog w0 97 [cv, .slice A l.length c] [] fun v m => v = .int .i64 (asksL l) ∧ m = [] := by
 refine tri_k Tryz.func97 rfl rfl fun F => ?_;simp only [Tryz.ntmps97, argEnv, List.nil_append];refine zH fun zq zQ => ?_;refine zC 10 rfl ?_;refine zT (ot_buildSlice (cs := [_, _, _, _, _, _]) rfl Tryz.underlying35 rfl rfl rfl rfl rfl rfl) ?_;rintro _ _ ⟨g0, rfl, rfl⟩;refine at_rowOf bsE 0 (size := 1) (c := 6) writesW rfl (fun _ _ => rfl) (by decide) (by decide) (by decide) rfl ?_;simp only [setAt];refine at_reval 7 (.slice (some ⟨g0, 0, none⟩) writesW.length 6) rfl rfl ?_;have hH := fun {B} {d} {d'} => T135a w0 (B := B) (c := c) (d := d) (d' := d') (ws := writesW) hr hm (by decide);have hH2 := fun {B} {d} {d'} => T135a w0 (B := B) (c := c) (d := d) (d' := d') (ws := [wSELECT]) hr hm (by decide);have hW : ∀ {B : Option Addr} {d d' : Nat}, Tri Tryz.prog w0 132 [.slice A l.length c, .int .i64 0, .slice B ([wWITH] : List BL).length d] [Row bsE 9 1 B d' [wWITH]] fun v m => v = .bool (wordIn l 0 [wWITH]) ∧ m = [Row bsE 9 1 B d' [wWITH]] := fun {B} {d} {d'} => T132a w0 (B := B) (c := c) (d := d) (d' := d') (ws := [wWITH]) hr hm (by decide) 0 (by decide)
 cases hh : hasIn l writesW with
 | true =>
  rw [hh] at hH;refine zcall [0] rfl rfl rfl Tryz.call135 rfl (hH ) rfl ?_;simp only [zca, zna, splice, spliceL];refine zO 12 rfl ?_;refine zQ ?_;refine at_end ?_;refine zfin ?_;refine ⟨_, ⟨by simp [asksL, hh], rfl⟩, ?_⟩;exact zE [] [0]
 | false =>
  rw [hh] at hH;refine zcall [0] rfl rfl rfl Tryz.call135 rfl (hH ) rfl ?_;simp only [zca, zna, splice, spliceL];refine zO 7 rfl ?_;refine zT (ot_buildSlice (cs := [_]) rfl Tryz.underlying35 rfl rfl rfl rfl rfl rfl) ?_;rintro _ _ ⟨g1, rfl, rfl⟩;refine at_rowOf bsE 0 (size := 1) (c := 1) [wWITH] rfl (fun _ _ => rfl) (by decide) (by decide) (by decide) rfl ?_;simp only [setAt];refine at_reval 11 (.slice (some ⟨g1, 0, none⟩) ([wWITH] : List BL).length 1) rfl rfl ?_
  cases hw : wordIn l 0 [wWITH] with
  | false =>
   rw [hw] at hW;refine zcall [0] rfl rfl rfl Tryz.call132 rfl (hW ) rfl ?_;simp only [zca, zna, splice, spliceL];refine zO 19 rfl ?_;refine zQ ?_;refine at_end ?_;refine zfin ?_;refine ⟨_, ⟨by simp [asksL, hh, hw], rfl⟩, ?_⟩;exact zE [] [0, 0]
  | true =>
   rw [hw] at hW;refine zcall [0] rfl rfl rfl Tryz.call132 rfl (hW ) rfl ?_;simp only [zca, zna, splice, spliceL];refine zO 2 rfl ?_;refine at_wanted (j := 3) rfl ?_;refine zT (ot_buildSlice (cs := [_]) rfl Tryz.underlying35 rfl rfl rfl rfl rfl rfl) ?_;rintro _ _ ⟨g2, rfl, rfl⟩;refine at_wanted (j := 3) rfl ?_;refine at_rowOf bsE 0 (size := 1) (c := 1) [wSELECT] rfl (fun _ _ => rfl) (by decide) (by decide) (by decide) rfl ?_;simp only [setAt];refine at_reval 15 (.slice (some ⟨g2, 0, none⟩) ([wSELECT] : List BL).length 1) rfl rfl ?_
   cases hs : hasIn l [wSELECT] with
   | true =>
    rw [hs] at hH2;refine zcall [0] rfl rfl rfl Tryz.call135 rfl (hH2 ) rfl ?_;simp only [zca, zna, splice, spliceL];refine zO 15 rfl ?_;refine zQ ?_;refine at_end ?_;refine zfin ?_;refine ⟨_, ⟨by simp [asksL, hh, hw, hs], rfl⟩, ?_⟩;exact zE [] [0, 0, 0]
   | false =>
    rw [hs] at hH2;refine zcall [0] rfl rfl rfl Tryz.call135 rfl (hH2 ) rfl ?_;simp only [zca, zna, splice, spliceL];refine zO 14 rfl ?_;refine zQ ?_;refine at_end ?_;refine zfin ?_;refine ⟨_, ⟨by simp [asksL, hh, hw, hs], rfl⟩, ?_⟩;exact zE [] [0, 0, 0]
open Go Go.Proofs.YtfcmajgnpnlkiaaGreatDoor.SL Go.RowKit
def wordAt (l : List Tok) (i : Nat) : BL := match l[i]? with | some t => if t.1 = 1 then t.2 else [] | none => []
def wSHOW : BL := [83, 72, 79, 87]
def wDESCRIBE : BL := [68, 69, 83, 67, 82, 73, 66, 69]
def wDESC : BL := [68, 69, 83, 67]
def wEXPLAIN : BL := [69, 88, 80, 76, 65, 73, 78]
def wCREATE : BL := [67, 82, 69, 65, 84, 69]
def wDROP : BL := [68, 82, 79, 80]
def wALTER : BL := [65, 76, 84, 69, 82]
def wTRUNCATE : BL := [84, 82, 85, 78, 67, 65, 84, 69]
def wGRANT : BL := [71, 82, 65, 78, 84]
def wREVOKE : BL := [82, 69, 86, 79, 75, 69]
def wCALL : BL := [67, 65, 76, 76]
def wLOCK : BL := [76, 79, 67, 75]
def wVALUES : BL := [86, 65, 76, 85, 69, 83]
def wTABLE : BL := [84, 65, 66, 76, 69]
def wBEGIN : BL := [66, 69, 71, 73, 78]
def wSTART : BL := [83, 84, 65, 82, 84]
def wCOMMIT : BL := [67, 79, 77, 77, 73, 84]
def wROLLBACK : BL := [82, 79, 76, 76, 66, 65, 67, 75]
def wSET : BL := [83, 69, 84]
def readsW : List BL := [wSHOW, wDESCRIBE, wDESC]
def changeW : List BL := [wINSERT, wUPDATE, wDELETE, wREPLACE, wCREATE, wDROP, wALTER, wTRUNCATE, wGRANT, wREVOKE, wCALL, wLOCK]
def askW : List BL := [wSELECT, wVALUES, wTABLE, wWITH]
def anaW : List BL := [wANALYZE, wANALYSE]
def tokN : Nat → List Tok → Int
  | 0, _ => 7
  | f + 1, l =>
    if (l.any fun t => decide (t = signL)) then 7
    else if readsW.contains (wordAt l 0) then 1
    else if wordAt l 0 = wEXPLAIN then (if wordIn l 1 anaW then (if tokN f (l.drop 2) = 2 ∨ tokN f (l.drop 2) = 7 then tokN f (l.drop 2) else 1) else 1)
    else if changeW.contains (wordAt l 0) then 2
    else if askW.contains (wordAt l 0) then asksL l
    else if wordAt l 0 = wBEGIN then beginL l
    else if wordAt l 0 = wSTART then startL l
    else if wordAt l 0 = wCOMMIT then endsL 4 l
    else if wordAt l 0 = wROLLBACK then endsL 5 l
    else if wordAt l 0 = wSET then setL l
    else 7
def Good (l : List Tok) : Prop := ∀ t ∈ l, t.1 = 1 → t.2 ≠ [] ∧ (32 : UInt8) ∉ t.2
theorem Good.drop {l : List Tok} (h : Good l) (k : Nat) : Good (l.drop k) := fun t ht => h t (List.mem_of_mem_drop ht)
theorem Good.at {l : List Tok} (h : Good l) (i : Nat) : (32 : UInt8) ∉ wordAt l i := by
  unfold wordAt
  cases hi : l[i]? with
  | none => simp
  | some t =>
    simp only
    by_cases hk : t.1 = 1
    · rw [if_pos hk]; exact (h t (List.mem_of_getElem? hi) hk).2
    · rw [if_neg hk]; simp
theorem contains_cons (a : UInt8) (l p : BL) : Lib.contains (a :: l) p = (Lib.hasPrefix (a :: l) p || Lib.contains l p) := by
  unfold Lib.contains
  have hge := Lib.index_ge l p;have e : Lib.index (a :: l) p = if p.isPrefixOf (a :: l) then 0 else if Lib.index l p == -1 then -1 else Lib.index l p + 1 := by conv => lhs; unfold Lib.index
  rw [e]
  unfold Lib.hasPrefix
  cases p.isPrefixOf (a :: l) with
  | true => simp
  | false =>
    by_cases h : Lib.index l p = -1
    · simp [h]
    · have h2 : Lib.index l p ≥ 0 := by omega
      have h3 : Lib.index l p + 1 ≥ 0 := by omega
      simp [h, h2, h3]
open Go Go.Proofs.YtfcmajgnpnlkiaaGreatDoor.SL Go.RowKit
theorem tokN_succ (f : Nat) (l : List Tok) : tokN (f + 1) l = if (l.any fun t => decide (t = signL)) then 7
    else if readsW.contains (wordAt l 0) then 1
    else if wordAt l 0 = wEXPLAIN then (if wordIn l 1 anaW then (if tokN f (l.drop 2) = 2 ∨ tokN f (l.drop 2) = 7 then tokN f (l.drop 2) else 1) else 1)
    else if changeW.contains (wordAt l 0) then 2
    else if askW.contains (wordAt l 0) then asksL l
    else if wordAt l 0 = wBEGIN then beginL l
    else if wordAt l 0 = wSTART then startL l
    else if wordAt l 0 = wCOMMIT then endsL 4 l
    else if wordAt l 0 = wROLLBACK then endsL 5 l
    else if wordAt l 0 = wSET then setL l
    else 7 := rfl
theorem Row_take {α : Type} {enc : α → List Value} {e : TypeId} {size : Nat} {A : Option Addr} {c : Nat} {xs : List α} {h : PH} (r : Row enc e size A c xs h) (k : Nat) : Row enc e size A c (xs.take k) h := by
  obtain ⟨hl, hr⟩ := r;refine ⟨fun x hx => hl x (List.mem_of_mem_take hx), ?_⟩
  rcases hr with ⟨h1, h2, h3⟩ | ⟨g, off, cur, h1, h2, h3, h4, h5, h6⟩
  · exact .inl ⟨h1, h2, by rw [h3]; simp⟩
  · refine .inr ⟨g, off, cur, h1, h2, by rw [List.length_take]; omega, h4, h5, ?_⟩
    have hs : (xs.map enc).flatten = ((xs.take k).map enc).flatten ++ ((xs.drop k).map enc).flatten := by
      rw [← List.flatten_append, ← List.map_append, List.take_append_drop]
    have hl2 : ((xs.take k).map enc).flatten.length = (xs.take k).length * size := flat_len fun x hx => hl x (List.mem_of_mem_take hx);have := congrArg (List.take ((xs.take k).length * size)) h6;rw [hs, ← hl2, List.take_left, hl2, List.take_take, Nat.min_eq_left (Nat.mul_le_mul_right _ (by rw [List.length_take]; omega))] at this;exact this
theorem at_rowTake {w0 : World} {n : Nat} {ds : List Deferred} {R : Act → World → Prop} {env : Env} {α : Type} {enc : α → List Value} {l : List HP} (j k : Nat) {e : TypeId} {size : Nat} {A : Option Addr} {c : Nat} {xs : List α} (hk : nth k l = some (Row enc e size A c xs))
    (h : At w0 n ds R env (setAt k (Row enc e size A c (xs.take j)) l)) : At w0 n ds R env l := fun a w f s => by
  refine h a w f ?_;obtain ⟨r, hp, hs⟩ := nth_pull hk;have s1 : Sat w0 w (Row enc e size A c xs :: r) := s.imp fun _ hh => star_perm hp hh;have s2 : Sat w0 w (Row enc e size A c (xs.take j) :: r) := s1.imp fun h ⟨p, q, h1, h2, h3⟩ => ⟨p, q, Row_take h1 j, h2, h3⟩;exact s2.imp fun _ hh => star_perm (hs _).symm hh
def classL (s : BL) : Int := if (lexR s).2 = 0 then tokN 201 (trimE (noHints (lexR s).1)) else 0
end Go.Proofs.YtfcmajgnpnlkiaaGreatDoor
