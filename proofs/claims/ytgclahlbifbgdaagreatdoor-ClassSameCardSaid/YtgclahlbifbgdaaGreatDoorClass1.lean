/- Package class: what it computes, in plain words; its small functions, walked. -/
import Derived.Test.YtgclahlbifbgdaaGreatDoorProg
import Derived.Test.YtgclahlbifbgdaaGreatDoorLexLen
import Derived.Test.YtgclahlbifbgdaaGreatDoorSLStr
import Derived.KernelRfl
set_option linter.unusedSimpArgs false
set_option linter.unusedVariables false
set_option maxRecDepth 100000
set_option maxHeartbeats 2000000
namespace Go.Proofs.YtgclahlbifbgdaaGreatDoor
open Go Go.Proofs.YtgclahlbifbgdaaGreatDoor.SL Go.RowKit
def signL : Tok := (6, [59])
/-- Is the token of a place one of some words? -/
def wordIn (l : List Tok) (i : Nat) (ws : List BL) : Bool := match l[i]? with | some t => decide (t.1 = 1) && ws.contains t.2 | none => false
def hasIn (l : List Tok) (ws : List BL) : Bool := l.any fun t => decide (t.1 = 1) && ws.contains t.2
theorem T25 (w0 : World) (t : Tok) : Tri Tryz.prog w0 25 [.agg #[.int .i64 t.1, SV t.2]] [] fun v m => v = .bool (decide (t.1 = 5)) ∧ m = [] := by
  refine tri_of Tryz.func25 rfl rfl fun F => ?_
  simp only [Tryz.ntmps25, argEnv, List.nil_append]
  refine at_seq_k (fun K0 hK0 => ?_)
  refine at_region ?_
  refine at_t (ot_boxA rfl rfl) rfl rfl rfl ?_
  rintro _ _ ⟨g0, rfl, rfl⟩
  refine at_v (ov_assign rfl rfl) rfl rfl rfl ?_
  refine at_nil ?_
  refine at_normal ?_
  refine hK0 _ _ _ ?_
  refine at_seq_k (fun K1 hK1 => ?_)
  refine at_region ?_
  refine at_v (ov_fieldAddr (k := 0) (r := 0) rfl rfl rfl rfl) rfl rfl rfl ?_
  refine at_v (ov_load rfl rfl rfl (fun _ s => s.ld (k := 0) rfl rfl)) rfl rfl rfl ?_
  refine at_v (ov_int rfl rfl rfl rfl) rfl rfl rfl ?_
  refine at_v (ov_assign rfl rfl) rfl rfl rfl ?_
  refine at_nil ?_
  refine at_normal ?_
  refine hK1 _ _ _ ?_
  refine at_ret ?_
  refine at_end ?_
  refine at_fin (rsV rfl (res_tmp rfl)) ?_
  refine ⟨_, ⟨rfl, rfl⟩, ?_⟩
  exact fun _ s => s.finEq (ks := []) (js := [0]) rfl rfl rfl
theorem T26 (w0 : World) (t : Tok) : Tri Tryz.prog w0 26 [.agg #[.int .i64 t.1, SV t.2]] [] fun v m => v = .bool (decide (t = signL)) ∧ m = [] := by
  refine tri_of Tryz.func26 rfl rfl fun F => ?_
  simp only [Tryz.ntmps26, argEnv, List.nil_append]
  have e : (decide (t.1 = 6) && decide ((⟨t.2.toArray⟩ : ByteArray) = ⟨#[59]⟩)) = decide (t = signL) := by
    rw [show (⟨#[59]⟩ : ByteArray) = ⟨([59] : BL).toArray⟩ from rfl, ba_dec]
    exact tok_eq t signL
  refine at_seq_k (fun K0 hK0 => ?_)
  refine at_region ?_
  refine at_t (ot_boxA rfl rfl) rfl rfl rfl ?_
  rintro _ _ ⟨g0, rfl, rfl⟩
  refine at_v (ov_assign rfl rfl) rfl rfl rfl ?_
  refine at_nil ?_
  refine at_normal ?_
  refine hK0 _ _ _ ?_
  refine at_seq_k (fun K1 hK1 => ?_)
  refine at_region ?_
  refine at_v (ov_loadS (cs := [_, _]) rfl rfl rfl rfl (fun _ s => s.lds (k := 0) rfl ⟨rfl, rfl, trivial⟩)) rfl rfl rfl ?_
  refine at_v (ov_build (cs := [_, _]) rfl rfl rfl rfl) rfl rfl rfl ?_
  refine at_v (ov_eqS rfl (by kernel_rfl) rfl rfl rfl rfl) rfl rfl rfl ?_
  refine at_v (ov_assign rfl rfl) rfl rfl rfl ?_
  refine at_nil ?_
  refine at_normal ?_
  refine hK1 _ _ _ ?_
  refine at_ret ?_
  refine at_end ?_
  refine at_fin (rsV rfl (res_tmp rfl)) ?_
  refine ⟨_, ⟨by rw [← e], rfl⟩, ?_⟩
  exact fun _ s => s.finEq (ks := []) (js := [0]) rfl rfl rfl
/-- The place of the first that is so; or -1. -/
def firstB {α : Type} (p : α → Bool) : List α → Int
  | [] => -1
  | a :: l => if p a then 0 else if firstB p l < 0 then -1 else firstB p l + 1
theorem firstB_at {α : Type} {p : α → Bool} : ∀ {l : List α} {k : Nat}, (∀ x ∈ l.take k, p x = false) → (∀ x, l[k]? = some x → p x = true) → k < l.length → firstB p l = (k : Nat)
  | [], k, _, _, h => by simp at h
  | a :: l, 0, _, h2, _ => by rw [firstB, if_pos (h2 a rfl)]; rfl
  | a :: l, k + 1, h1, h2, h3 => by
    have ih := firstB_at (p := p) (l := l) (k := k) (fun x hx => h1 x (by simp [hx])) (fun x hx => h2 x (by simpa using hx)) (by simpa using h3)
    rw [firstB, if_neg (by rw [h1 a (by simp)]; simp), ih, if_neg (by omega)]; rfl
theorem firstB_none {α : Type} {p : α → Bool} : ∀ {l : List α}, (∀ x ∈ l, p x = false) → firstB p l = -1
  | [], _ => rfl
  | a :: l, h => by
    rw [firstB, if_neg (by rw [h a (by simp)]; simp), firstB_none (fun x hx => h x (by simp [hx]))]; rfl
theorem firstB_cons {α : Type} (p : α → Bool) (a : α) (l : List α) : firstB p (a :: l) = if p a then 0 else if firstB p l < 0 then -1 else firstB p l + 1 := rfl
theorem firstB_ge {α : Type} {p : α → Bool} : ∀ (l : List α), -1 ≤ firstB p l
  | [] => Int.le_refl _
  | a :: l => by have := firstB_ge (p := p) l; rw [firstB_cons]; split; omega; split <;> omega
theorem firstB_any {α : Type} {p : α → Bool} : ∀ (l : List α), decide (firstB p l ≥ 0) = l.any p
  | [] => rfl
  | a :: l => by
    have ih := firstB_any (p := p) l
    rw [List.any_cons, ← ih, firstB_cons]
    have := firstB_ge (p := p) l
    generalize firstB p l = n at this ⊢
    cases p a with
    | true => simp
    | false =>
      simp only [Bool.false_eq_true, if_false, Bool.false_or]
      apply decide_eq_decide.2
      split <;> omega
theorem T45 (w0 : World) {A : Option Addr} {c : Nat} {l : List Tok} (hr : Rd tE w0 2 A l) (hm : l.length ≤ 10000) : Tri Tryz.prog w0 45 [.slice A l.length c, .func (.func 26) #[] #[]] [] fun v m => v = .int .i64 (firstB (fun t => decide (t = signL)) l) ∧ m = [] := by
  refine tri_of Tryz.func45 rfl rfl fun F => ?_
  simp only [Tryz.ntmps45, argEnv, List.nil_append]
  refine at_seq_k (fun K0 hK0 => ?_)
  refine at_region ?_
  refine at_v (ov_assign rfl rfl) rfl rfl rfl ?_
  refine at_nil ?_
  refine at_normal ?_
  refine hK0 _ _ _ ?_
  refine at_seq_k (fun K1 hK1 => ?_)
  refine at_seq_k (fun K2 hK2 => ?_)
  refine at_region ?_
  refine at_v (ov_move rfl rfl) rfl rfl rfl ?_
  refine at_v (ov_len_slice rfl Tryz.underlying36 rfl) rfl rfl rfl ?_
  refine at_v (ov_move rfl rfl) rfl rfl rfl ?_
  refine at_nil ?_
  refine at_normal ?_
  refine hK2 _ _ _ ?_
  refine at_block ?_
  refine at_loopE [9, 10, 5, 11, 12, 13, 14, 15, 16, 17, 4, 18, 8] (fun k => k ≤ l.length ∧ ∀ x ∈ l.take k, decide (x = signL) = false) (fun k => [(8, .int .i64 (k : Nat))]) (fun _ m => m) (fun k => l.length - k) 0 ⟨Nat.zero_le _, by simp⟩ ⟨rfl, trivial⟩ (fun _ s => s) ?_
  rintro k ⟨hk, hb⟩
  rcases Nat.lt_or_ge k l.length with hlt | hge
  · have hi1 : decide ((k : Int) < l.length) = true := decide_eq_true (by omega)
    obtain ⟨x, hget⟩ : ∃ x, l[k]? = some x := ⟨_, List.getElem?_eq_getElem hlt⟩
    have hS := T26 w0 x
    cases hp : decide (x = signL) with
    | true =>
      rw [hp] at hS
      refine at_seq_k (fun K3 hK3 => ?_)
      refine at_region ?_
      refine at_v (ov_int rfl rfl rfl rfl) rfl rfl rfl ?_
      refine at_nil ?_
      refine at_normal ?_
      refine hK3 _ _ _ ?_
      refine at_seq_k (fun K4 hK4 => ?_)
      refine at_cond_true (congrArg (fun b => some (Value.bool b)) (show _ = true from decide_eq_true (by omega))) ?_
      refine at_skip ?_
      refine at_normal ?_
      refine hK4 _ _ _ ?_
      refine at_seq_k (fun K5 hK5 => ?_)
      refine at_block ?_
      refine at_seq_k (fun K6 hK6 => ?_)
      refine at_region ?_
      refine at_v (ov_move rfl rfl) rfl rfl rfl ?_
      refine at_v (ov_assign rfl rfl) rfl rfl rfl ?_
      refine at_nil ?_
      refine at_normal ?_
      refine hK6 _ _ _ ?_
      refine at_seq_k (fun K7 hK7 => ?_)
      refine at_region ?_
      refine at_v (ov_move rfl rfl) rfl rfl rfl ?_
      refine at_v (ov_move rfl rfl) rfl rfl rfl ?_
      refine at_v (ov_move rfl rfl) rfl rfl rfl ?_
      refine at_v (ov_indexRd (fun _ s => hr.up s) rfl Tryz.underlying36 rfl rfl rfl hget) rfl rfl rfl ?_
      refine at_v (ov_loadRdS (vs := [_, _]) (fun _ s => hr.up s) rfl rfl rfl hget rfl rfl) rfl rfl rfl ?_
      refine at_t (ot_call (ks := []) rfl rfl rfl Tryz.call26 rfl (hS ) rfl) rfl rfl rfl ?_
      rintro v0 _ ⟨m0, hp0, rfl⟩
      obtain ⟨rfl, rfl⟩ := hp0
      simp only [List.cons_append, List.nil_append, splice, spliceL]
      refine at_nil ?_
      refine at_normal ?_
      refine hK7 _ _ _ ?_
      refine at_cond_true rfl ?_
      refine at_seq_k (fun K8 hK8 => ?_)
      refine at_region ?_
      refine at_v (ov_move rfl rfl) rfl rfl rfl ?_
      refine at_v (ov_assign rfl rfl) rfl rfl rfl ?_
      refine at_nil ?_
      refine at_normal ?_
      refine hK8 _ _ _ ?_
      refine at_ret ?_
      refine at_inb_ret ?_
      refine at_then_ret ?_
      refine at_then_ret ?_
      refine at_inb_ret ?_
      refine at_then_ret ?_
      refine at_end ?_
      refine at_fin (rsV rfl (res_tmp rfl)) ?_
      refine ⟨_, ⟨by rw [firstB_at hb (fun y hy => by rw [hget] at hy; cases hy; exact hp) hlt], rfl⟩, ?_⟩
      exact fun _ s => s.finEq (ks := []) (js := []) rfl rfl rfl
    | false =>
      rw [hp] at hS
      refine at_seq_k (fun K3 hK3 => ?_)
      refine at_region ?_
      refine at_v (ov_int rfl rfl rfl rfl) rfl rfl rfl ?_
      refine at_nil ?_
      refine at_normal ?_
      refine hK3 _ _ _ ?_
      refine at_seq_k (fun K4 hK4 => ?_)
      refine at_cond_true (congrArg (fun b => some (Value.bool b)) (show _ = true from decide_eq_true (by omega))) ?_
      refine at_skip ?_
      refine at_normal ?_
      refine hK4 _ _ _ ?_
      refine at_seq_k (fun K5 hK5 => ?_)
      refine at_block ?_
      refine at_seq_k (fun K6 hK6 => ?_)
      refine at_region ?_
      refine at_v (ov_move rfl rfl) rfl rfl rfl ?_
      refine at_v (ov_assign rfl rfl) rfl rfl rfl ?_
      refine at_nil ?_
      refine at_normal ?_
      refine hK6 _ _ _ ?_
      refine at_seq_k (fun K7 hK7 => ?_)
      refine at_region ?_
      refine at_v (ov_move rfl rfl) rfl rfl rfl ?_
      refine at_v (ov_move rfl rfl) rfl rfl rfl ?_
      refine at_v (ov_move rfl rfl) rfl rfl rfl ?_
      refine at_v (ov_indexRd (fun _ s => hr.up s) rfl Tryz.underlying36 rfl rfl rfl hget) rfl rfl rfl ?_
      refine at_v (ov_loadRdS (vs := [_, _]) (fun _ s => hr.up s) rfl rfl rfl hget rfl rfl) rfl rfl rfl ?_
      refine at_t (ot_call (ks := []) rfl rfl rfl Tryz.call26 rfl (hS ) rfl) rfl rfl rfl ?_
      rintro v0 _ ⟨m0, hp0, rfl⟩
      obtain ⟨rfl, rfl⟩ := hp0
      simp only [List.cons_append, List.nil_append, splice, spliceL]
      refine at_nil ?_
      refine at_normal ?_
      refine hK7 _ _ _ ?_
      refine at_cond_false rfl ?_
      refine at_skip ?_
      refine at_inb_normal ?_
      refine at_normal ?_
      refine hK5 _ _ _ ?_
      refine at_region ?_
      refine at_v ((ov_int rfl rfl rfl rfl).eq (congrArg (Value.int .i64) (inK_i64 (by omega) (by omega)))) rfl rfl rfl ?_
      refine at_v (ov_move rfl rfl) rfl rfl rfl ?_
      refine at_nil ?_
      refine at_normal ?_
      refine at_roundF (k + 1) ⟨hlt, fun y hy => ?_⟩ (by omega) ⟨rfl, trivial⟩ rfl ?_
      · rw [List.take_add_one, hget] at hy
        rcases List.mem_append.1 hy with hy | hy
        · exact hb y hy
        · simp at hy; subst hy; exact hp
      exact fun _ s => s.finEq (ks := []) (js := []) rfl rfl rfl
  · have hi1 : decide ((k : Int) < l.length) = false := decide_eq_false (by omega)
    rw [List.take_of_length_le hge] at hb
    refine at_seq_k (fun K3 hK3 => ?_)
    refine at_region ?_
    refine at_v (ov_int rfl rfl rfl rfl) rfl rfl rfl ?_
    refine at_nil ?_
    refine at_normal ?_
    refine hK3 _ _ _ ?_
    refine at_seq_k (fun K4 hK4 => ?_)
    refine at_cond_false (congrArg (fun b => some (Value.bool b)) (show _ = false from decide_eq_false (by omega))) ?_
    refine at_exit ?_
    refine at_then_exit ?_
    refine at_then_exit ?_
    refine at_exit_eq ?_
    refine at_normal ?_
    refine hK1 _ _ _ ?_
    refine at_seq_k (fun K5 hK5 => ?_)
    refine at_region ?_
    refine at_v (ov_assign rfl rfl) rfl rfl rfl ?_
    refine at_nil ?_
    refine at_normal ?_
    refine hK5 _ _ _ ?_
    refine at_ret ?_
    refine at_end ?_
    refine at_fin (rsV rfl (res_tmp rfl)) ?_
    refine ⟨_, ⟨by rw [firstB_none hb], rfl⟩, ?_⟩
    exact fun _ s => s.finEq (ks := []) (js := []) rfl rfl rfl
theorem T45a (w0 : World) {A : Option Addr} {c : Nat} {l : List Tok} (hr : Rd tE w0 2 A l) (hm : l.length ≤ 10000) : Tri Tryz.prog w0 45 [.slice A l.length c, .func (.func 25) #[] #[]] [] fun v m => v = .int .i64 (firstB (fun t => decide (t.1 = 5)) l) ∧ m = [] := by
  refine tri_of Tryz.func45 rfl rfl fun F => ?_
  simp only [Tryz.ntmps45, argEnv, List.nil_append]
  refine at_seq_k (fun K0 hK0 => ?_)
  refine at_region ?_
  refine at_v (ov_assign rfl rfl) rfl rfl rfl ?_
  refine at_nil ?_
  refine at_normal ?_
  refine hK0 _ _ _ ?_
  refine at_seq_k (fun K1 hK1 => ?_)
  refine at_seq_k (fun K2 hK2 => ?_)
  refine at_region ?_
  refine at_v (ov_move rfl rfl) rfl rfl rfl ?_
  refine at_v (ov_len_slice rfl Tryz.underlying36 rfl) rfl rfl rfl ?_
  refine at_v (ov_move rfl rfl) rfl rfl rfl ?_
  refine at_nil ?_
  refine at_normal ?_
  refine hK2 _ _ _ ?_
  refine at_block ?_
  refine at_loopE [9, 10, 5, 11, 12, 13, 14, 15, 16, 17, 4, 18, 8] (fun k => k ≤ l.length ∧ ∀ x ∈ l.take k, decide (x.1 = 5) = false) (fun k => [(8, .int .i64 (k : Nat))]) (fun _ m => m) (fun k => l.length - k) 0 ⟨Nat.zero_le _, by simp⟩ ⟨rfl, trivial⟩ (fun _ s => s) ?_
  rintro k ⟨hk, hb⟩
  rcases Nat.lt_or_ge k l.length with hlt | hge
  · have hi1 : decide ((k : Int) < l.length) = true := decide_eq_true (by omega)
    obtain ⟨x, hget⟩ : ∃ x, l[k]? = some x := ⟨_, List.getElem?_eq_getElem hlt⟩
    have hS := T25 w0 x
    cases hp : decide (x.1 = 5) with
    | true =>
      rw [hp] at hS
      refine at_seq_k (fun K3 hK3 => ?_)
      refine at_region ?_
      refine at_v (ov_int rfl rfl rfl rfl) rfl rfl rfl ?_
      refine at_nil ?_
      refine at_normal ?_
      refine hK3 _ _ _ ?_
      refine at_seq_k (fun K4 hK4 => ?_)
      refine at_cond_true (congrArg (fun b => some (Value.bool b)) (show _ = true from decide_eq_true (by omega))) ?_
      refine at_skip ?_
      refine at_normal ?_
      refine hK4 _ _ _ ?_
      refine at_seq_k (fun K5 hK5 => ?_)
      refine at_block ?_
      refine at_seq_k (fun K6 hK6 => ?_)
      refine at_region ?_
      refine at_v (ov_move rfl rfl) rfl rfl rfl ?_
      refine at_v (ov_assign rfl rfl) rfl rfl rfl ?_
      refine at_nil ?_
      refine at_normal ?_
      refine hK6 _ _ _ ?_
      refine at_seq_k (fun K7 hK7 => ?_)
      refine at_region ?_
      refine at_v (ov_move rfl rfl) rfl rfl rfl ?_
      refine at_v (ov_move rfl rfl) rfl rfl rfl ?_
      refine at_v (ov_move rfl rfl) rfl rfl rfl ?_
      refine at_v (ov_indexRd (fun _ s => hr.up s) rfl Tryz.underlying36 rfl rfl rfl hget) rfl rfl rfl ?_
      refine at_v (ov_loadRdS (vs := [_, _]) (fun _ s => hr.up s) rfl rfl rfl hget rfl rfl) rfl rfl rfl ?_
      refine at_t (ot_call (ks := []) rfl rfl rfl Tryz.call25 rfl (hS ) rfl) rfl rfl rfl ?_
      rintro v0 _ ⟨m0, hp0, rfl⟩
      obtain ⟨rfl, rfl⟩ := hp0
      simp only [List.cons_append, List.nil_append, splice, spliceL]
      refine at_nil ?_
      refine at_normal ?_
      refine hK7 _ _ _ ?_
      refine at_cond_true rfl ?_
      refine at_seq_k (fun K8 hK8 => ?_)
      refine at_region ?_
      refine at_v (ov_move rfl rfl) rfl rfl rfl ?_
      refine at_v (ov_assign rfl rfl) rfl rfl rfl ?_
      refine at_nil ?_
      refine at_normal ?_
      refine hK8 _ _ _ ?_
      refine at_ret ?_
      refine at_inb_ret ?_
      refine at_then_ret ?_
      refine at_then_ret ?_
      refine at_inb_ret ?_
      refine at_then_ret ?_
      refine at_end ?_
      refine at_fin (rsV rfl (res_tmp rfl)) ?_
      refine ⟨_, ⟨by rw [firstB_at hb (fun y hy => by rw [hget] at hy; cases hy; exact hp) hlt], rfl⟩, ?_⟩
      exact fun _ s => s.finEq (ks := []) (js := []) rfl rfl rfl
    | false =>
      rw [hp] at hS
      refine at_seq_k (fun K3 hK3 => ?_)
      refine at_region ?_
      refine at_v (ov_int rfl rfl rfl rfl) rfl rfl rfl ?_
      refine at_nil ?_
      refine at_normal ?_
      refine hK3 _ _ _ ?_
      refine at_seq_k (fun K4 hK4 => ?_)
      refine at_cond_true (congrArg (fun b => some (Value.bool b)) (show _ = true from decide_eq_true (by omega))) ?_
      refine at_skip ?_
      refine at_normal ?_
      refine hK4 _ _ _ ?_
      refine at_seq_k (fun K5 hK5 => ?_)
      refine at_block ?_
      refine at_seq_k (fun K6 hK6 => ?_)
      refine at_region ?_
      refine at_v (ov_move rfl rfl) rfl rfl rfl ?_
      refine at_v (ov_assign rfl rfl) rfl rfl rfl ?_
      refine at_nil ?_
      refine at_normal ?_
      refine hK6 _ _ _ ?_
      refine at_seq_k (fun K7 hK7 => ?_)
      refine at_region ?_
      refine at_v (ov_move rfl rfl) rfl rfl rfl ?_
      refine at_v (ov_move rfl rfl) rfl rfl rfl ?_
      refine at_v (ov_move rfl rfl) rfl rfl rfl ?_
      refine at_v (ov_indexRd (fun _ s => hr.up s) rfl Tryz.underlying36 rfl rfl rfl hget) rfl rfl rfl ?_
      refine at_v (ov_loadRdS (vs := [_, _]) (fun _ s => hr.up s) rfl rfl rfl hget rfl rfl) rfl rfl rfl ?_
      refine at_t (ot_call (ks := []) rfl rfl rfl Tryz.call25 rfl (hS ) rfl) rfl rfl rfl ?_
      rintro v0 _ ⟨m0, hp0, rfl⟩
      obtain ⟨rfl, rfl⟩ := hp0
      simp only [List.cons_append, List.nil_append, splice, spliceL]
      refine at_nil ?_
      refine at_normal ?_
      refine hK7 _ _ _ ?_
      refine at_cond_false rfl ?_
      refine at_skip ?_
      refine at_inb_normal ?_
      refine at_normal ?_
      refine hK5 _ _ _ ?_
      refine at_region ?_
      refine at_v ((ov_int rfl rfl rfl rfl).eq (congrArg (Value.int .i64) (inK_i64 (by omega) (by omega)))) rfl rfl rfl ?_
      refine at_v (ov_move rfl rfl) rfl rfl rfl ?_
      refine at_nil ?_
      refine at_normal ?_
      refine at_roundF (k + 1) ⟨hlt, fun y hy => ?_⟩ (by omega) ⟨rfl, trivial⟩ rfl ?_
      · rw [List.take_add_one, hget] at hy
        rcases List.mem_append.1 hy with hy | hy
        · exact hb y hy
        · simp at hy; subst hy; exact hp
      exact fun _ s => s.finEq (ks := []) (js := []) rfl rfl rfl
  · have hi1 : decide ((k : Int) < l.length) = false := decide_eq_false (by omega)
    rw [List.take_of_length_le hge] at hb
    refine at_seq_k (fun K3 hK3 => ?_)
    refine at_region ?_
    refine at_v (ov_int rfl rfl rfl rfl) rfl rfl rfl ?_
    refine at_nil ?_
    refine at_normal ?_
    refine hK3 _ _ _ ?_
    refine at_seq_k (fun K4 hK4 => ?_)
    refine at_cond_false (congrArg (fun b => some (Value.bool b)) (show _ = false from decide_eq_false (by omega))) ?_
    refine at_exit ?_
    refine at_then_exit ?_
    refine at_then_exit ?_
    refine at_exit_eq ?_
    refine at_normal ?_
    refine hK1 _ _ _ ?_
    refine at_seq_k (fun K5 hK5 => ?_)
    refine at_region ?_
    refine at_v (ov_assign rfl rfl) rfl rfl rfl ?_
    refine at_nil ?_
    refine at_normal ?_
    refine hK5 _ _ _ ?_
    refine at_ret ?_
    refine at_end ?_
    refine at_fin (rsV rfl (res_tmp rfl)) ?_
    refine ⟨_, ⟨by rw [firstB_none hb], rfl⟩, ?_⟩
    exact fun _ s => s.finEq (ks := []) (js := []) rfl rfl rfl
theorem T46 (w0 : World) {A : Option Addr} {c : Nat} {l : List Tok} (hr : Rd tE w0 2 A l) (hm : l.length ≤ 10000) : Tri Tryz.prog w0 46 [.slice A l.length c, .func (.func 26) #[] #[]] [] fun v m => v = .bool (l.any fun t => decide (t = signL)) ∧ m = [] := by
  refine tri_of Tryz.func46 rfl rfl fun F => ?_
  simp only [Tryz.ntmps46, argEnv, List.nil_append]
  refine at_seq_k (fun K0 hK0 => ?_)
  refine at_region ?_
  refine at_v (ov_assign rfl rfl) rfl rfl rfl ?_
  refine at_nil ?_
  refine at_normal ?_
  refine hK0 _ _ _ ?_
  refine at_seq_k (fun K1 hK1 => ?_)
  refine at_region ?_
  refine at_v (ov_move rfl rfl) rfl rfl rfl ?_
  refine at_v (ov_move rfl rfl) rfl rfl rfl ?_
  refine at_t (ot_call (ks := []) rfl rfl rfl Tryz.call45 rfl (T45 _ (by first | assumption | rfl | omega | decide | (simp; done) | (simp at *; omega)) (by first | assumption | rfl | omega | decide | (simp; done) | (simp at *; omega))) rfl) rfl rfl rfl ?_
  rintro v0 _ ⟨m0, hp0, rfl⟩
  obtain ⟨rfl, rfl⟩ := hp0
  simp only [List.cons_append, List.nil_append, splice, spliceL]
  refine at_v (ov_int rfl rfl rfl rfl) rfl rfl rfl ?_
  refine at_v (ov_assign rfl rfl) rfl rfl rfl ?_
  refine at_nil ?_
  refine at_normal ?_
  refine hK1 _ _ _ ?_
  refine at_ret ?_
  refine at_end ?_
  refine at_fin (rsV rfl (res_tmp rfl)) ?_
  refine ⟨_, ⟨by rw [firstB_any], rfl⟩, ?_⟩
  exact fun _ s => s.finEq (ks := []) (js := []) rfl rfl rfl
/-- The first place of a string in a row of strings. -/
theorem T30 (w0 : World) {A : Option Addr} {c : Nat} {ws : List BL} (hr : Rd bsE w0 1 A ws) (hm : ws.length ≤ 10000) (s : BL) : Tri Tryz.prog w0 30 [.slice A ws.length c, SV s] [] fun v m => v = .int .i64 (firstB (fun w => decide (s = w)) ws) ∧ m = [] := by
  refine tri_of Tryz.func30 rfl rfl fun F => ?_
  simp only [Tryz.ntmps30, argEnv, List.nil_append]
  refine at_seq_k (fun K0 hK0 => ?_)
  refine at_region ?_
  refine at_v (ov_assign rfl rfl) rfl rfl rfl ?_
  refine at_nil ?_
  refine at_normal ?_
  refine hK0 _ _ _ ?_
  refine at_seq_k (fun K1 hK1 => ?_)
  refine at_seq_k (fun K2 hK2 => ?_)
  refine at_region ?_
  refine at_v (ov_move rfl rfl) rfl rfl rfl ?_
  refine at_v (ov_len_slice rfl Tryz.underlying73 rfl) rfl rfl rfl ?_
  refine at_v (ov_move rfl rfl) rfl rfl rfl ?_
  refine at_nil ?_
  refine at_normal ?_
  refine hK2 _ _ _ ?_
  refine at_block ?_
  refine at_loopE [9, 10, 5, 11, 12, 13, 14, 15, 16, 17, 4, 18, 8] (fun k => k ≤ ws.length ∧ ∀ x ∈ ws.take k, decide (s = x) = false) (fun k => [(8, .int .i64 (k : Nat))]) (fun _ m => m) (fun k => ws.length - k) 0 ⟨Nat.zero_le _, by simp⟩ ⟨rfl, trivial⟩ (fun _ s => s) ?_
  rintro k ⟨hk, hb⟩
  rcases Nat.lt_or_ge k ws.length with hlt | hge
  · have hi1 : decide ((k : Int) < ws.length) = true := decide_eq_true (by omega)
    obtain ⟨x, hget⟩ : ∃ x, ws[k]? = some x := ⟨_, List.getElem?_eq_getElem hlt⟩
    cases hp : decide (s = x) with
    | true =>
      refine at_seq_k (fun K3 hK3 => ?_)
      refine at_region ?_
      refine at_v (ov_int rfl rfl rfl rfl) rfl rfl rfl ?_
      refine at_nil ?_
      refine at_normal ?_
      refine hK3 _ _ _ ?_
      refine at_seq_k (fun K4 hK4 => ?_)
      refine at_cond_true (congrArg (fun b => some (Value.bool b)) (show _ = true from decide_eq_true (by omega))) ?_
      refine at_skip ?_
      refine at_normal ?_
      refine hK4 _ _ _ ?_
      refine at_seq_k (fun K5 hK5 => ?_)
      refine at_block ?_
      refine at_seq_k (fun K6 hK6 => ?_)
      refine at_region ?_
      refine at_v (ov_move rfl rfl) rfl rfl rfl ?_
      refine at_v (ov_assign rfl rfl) rfl rfl rfl ?_
      refine at_nil ?_
      refine at_normal ?_
      refine hK6 _ _ _ ?_
      refine at_seq_k (fun K7 hK7 => ?_)
      refine at_region ?_
      refine at_v (ov_move rfl rfl) rfl rfl rfl ?_
      refine at_v (ov_move rfl rfl) rfl rfl rfl ?_
      refine at_v (ov_move rfl rfl) rfl rfl rfl ?_
      refine at_v (ov_indexRd (fun _ s => hr.up s) rfl Tryz.underlying73 rfl rfl rfl hget) rfl rfl rfl ?_
      refine at_v (ov_loadRd0 (fun _ s => hr.up s) rfl rfl rfl hget rfl) rfl rfl rfl ?_
      refine at_v (ov_strL rfl rfl rfl rfl) rfl rfl rfl ?_
      refine at_nil ?_
      refine at_normal ?_
      refine hK7 _ _ _ ?_
      refine at_cond_true (congrArg (fun b => some (Value.bool b)) (show _ = true from by first | assumption | (rw [Bool.not_eq_true']; exact decide_eq_false (by omega)))) ?_
      refine at_seq_k (fun K8 hK8 => ?_)
      refine at_region ?_
      refine at_v (ov_move rfl rfl) rfl rfl rfl ?_
      refine at_v (ov_assign rfl rfl) rfl rfl rfl ?_
      refine at_nil ?_
      refine at_normal ?_
      refine hK8 _ _ _ ?_
      refine at_ret ?_
      refine at_inb_ret ?_
      refine at_then_ret ?_
      refine at_then_ret ?_
      refine at_inb_ret ?_
      refine at_then_ret ?_
      refine at_end ?_
      refine at_fin (rsV rfl (res_tmp rfl)) ?_
      refine ⟨_, ⟨by rw [firstB_at hb (fun y hy => by rw [hget] at hy; cases hy; exact hp) hlt], rfl⟩, ?_⟩
      exact fun _ s => s.finEq (ks := []) (js := []) rfl rfl rfl
    | false =>
      refine at_seq_k (fun K3 hK3 => ?_)
      refine at_region ?_
      refine at_v (ov_int rfl rfl rfl rfl) rfl rfl rfl ?_
      refine at_nil ?_
      refine at_normal ?_
      refine hK3 _ _ _ ?_
      refine at_seq_k (fun K4 hK4 => ?_)
      refine at_cond_true (congrArg (fun b => some (Value.bool b)) (show _ = true from decide_eq_true (by omega))) ?_
      refine at_skip ?_
      refine at_normal ?_
      refine hK4 _ _ _ ?_
      refine at_seq_k (fun K5 hK5 => ?_)
      refine at_block ?_
      refine at_seq_k (fun K6 hK6 => ?_)
      refine at_region ?_
      refine at_v (ov_move rfl rfl) rfl rfl rfl ?_
      refine at_v (ov_assign rfl rfl) rfl rfl rfl ?_
      refine at_nil ?_
      refine at_normal ?_
      refine hK6 _ _ _ ?_
      refine at_seq_k (fun K7 hK7 => ?_)
      refine at_region ?_
      refine at_v (ov_move rfl rfl) rfl rfl rfl ?_
      refine at_v (ov_move rfl rfl) rfl rfl rfl ?_
      refine at_v (ov_move rfl rfl) rfl rfl rfl ?_
      refine at_v (ov_indexRd (fun _ s => hr.up s) rfl Tryz.underlying73 rfl rfl rfl hget) rfl rfl rfl ?_
      refine at_v (ov_loadRd0 (fun _ s => hr.up s) rfl rfl rfl hget rfl) rfl rfl rfl ?_
      refine at_v (ov_strL rfl rfl rfl rfl) rfl rfl rfl ?_
      refine at_nil ?_
      refine at_normal ?_
      refine hK7 _ _ _ ?_
      refine at_cond_false (congrArg (fun b => some (Value.bool b)) (show _ = false from by first | assumption | (rw [Bool.not_eq_false']; exact decide_eq_true (by omega)))) ?_
      refine at_skip ?_
      refine at_inb_normal ?_
      refine at_normal ?_
      refine hK5 _ _ _ ?_
      refine at_region ?_
      refine at_v ((ov_int rfl rfl rfl rfl).eq (congrArg (Value.int .i64) (inK_i64 (by omega) (by omega)))) rfl rfl rfl ?_
      refine at_v (ov_move rfl rfl) rfl rfl rfl ?_
      refine at_nil ?_
      refine at_normal ?_
      refine at_roundF (k + 1) ⟨hlt, fun y hy => ?_⟩ (by omega) ⟨rfl, trivial⟩ rfl ?_
      · rw [List.take_add_one, hget] at hy
        rcases List.mem_append.1 hy with hy | hy
        · exact hb y hy
        · simp at hy; subst hy; exact hp
      exact fun _ s => s.finEq (ks := []) (js := []) rfl rfl rfl
  · have hi1 : decide ((k : Int) < ws.length) = false := decide_eq_false (by omega)
    rw [List.take_of_length_le hge] at hb
    refine at_seq_k (fun K3 hK3 => ?_)
    refine at_region ?_
    refine at_v (ov_int rfl rfl rfl rfl) rfl rfl rfl ?_
    refine at_nil ?_
    refine at_normal ?_
    refine hK3 _ _ _ ?_
    refine at_seq_k (fun K4 hK4 => ?_)
    refine at_cond_false (congrArg (fun b => some (Value.bool b)) (show _ = false from decide_eq_false (by omega))) ?_
    refine at_exit ?_
    refine at_then_exit ?_
    refine at_then_exit ?_
    refine at_exit_eq ?_
    refine at_normal ?_
    refine hK1 _ _ _ ?_
    refine at_seq_k (fun K5 hK5 => ?_)
    refine at_region ?_
    refine at_v (ov_assign rfl rfl) rfl rfl rfl ?_
    refine at_nil ?_
    refine at_normal ?_
    refine hK5 _ _ _ ?_
    refine at_ret ?_
    refine at_end ?_
    refine at_fin (rsV rfl (res_tmp rfl)) ?_
    refine ⟨_, ⟨by rw [firstB_none hb], rfl⟩, ?_⟩
    exact fun _ s => s.finEq (ks := []) (js := []) rfl rfl rfl
theorem any_contains (s : BL) (ws : List BL) : (ws.any fun w => decide (s = w)) = ws.contains s := by
  rw [List.contains_eq_any_beq]
  congr 1
  funext w
  by_cases h : s = w <;> simp [h]
theorem T108 (w0 : World) {A : Option Addr} {c : Nat} {ws : List BL} (hr : Rd bsE w0 1 A ws) (hm : ws.length ≤ 10000) (s : BL) : Tri Tryz.prog w0 108 [.slice A ws.length c, SV s] [] fun v m => v = .bool (ws.contains s) ∧ m = [] := by
  refine tri_of Tryz.func108 rfl rfl fun F => ?_
  simp only [Tryz.ntmps108, argEnv, List.nil_append]
  refine at_seq_k (fun K0 hK0 => ?_)
  refine at_region ?_
  refine at_v (ov_assign rfl rfl) rfl rfl rfl ?_
  refine at_nil ?_
  refine at_normal ?_
  refine hK0 _ _ _ ?_
  refine at_seq_k (fun K1 hK1 => ?_)
  refine at_region ?_
  refine at_v (ov_move rfl rfl) rfl rfl rfl ?_
  refine at_v (ov_move rfl rfl) rfl rfl rfl ?_
  refine at_t (ot_call (ks := []) rfl rfl rfl Tryz.call30 rfl (T30 _ (by first | assumption | rfl | omega | decide | (simp; done) | (simp at *; omega)) (by first | assumption | rfl | omega | decide | (simp; done) | (simp at *; omega)) _) rfl) rfl rfl rfl ?_
  rintro v0 _ ⟨m0, hp0, rfl⟩
  obtain ⟨rfl, rfl⟩ := hp0
  simp only [List.cons_append, List.nil_append, splice, spliceL]
  refine at_v (ov_int rfl rfl rfl rfl) rfl rfl rfl ?_
  refine at_v (ov_assign rfl rfl) rfl rfl rfl ?_
  refine at_nil ?_
  refine at_normal ?_
  refine hK1 _ _ _ ?_
  refine at_ret ?_
  refine at_end ?_
  refine at_fin (rsV rfl (res_tmp rfl)) ?_
  refine ⟨_, ⟨by rw [← any_contains, ← firstB_any], rfl⟩, ?_⟩
  exact fun _ s => s.finEq (ks := []) (js := []) rfl rfl rfl
theorem T85 (w0 : World) {A B : Option Addr} {c d : Nat} {l : List Tok} {ws : List BL} (hr : Rd tE w0 2 A l) (hr2 : Rd bsE w0 1 B ws) (hm : l.length ≤ 10000) (hm2 : ws.length ≤ 10000) (i : Nat) (hi : i ≤ 10000) : Tri Tryz.prog w0 85 [.slice A l.length c, .int .i64 (i : Nat), .slice B ws.length d] [] fun v m => v = .bool (wordIn l i ws) ∧ m = [] := by
  refine tri_of Tryz.func85 rfl rfl fun F => ?_
  simp only [Tryz.ntmps85, argEnv, List.nil_append]
  rcases Nat.lt_or_ge i l.length with hlt | hge
  · have hi1 : decide ((i : Int) < l.length) = true := decide_eq_true (by omega)
    obtain ⟨x, hget⟩ : ∃ x, l[i]? = some x := ⟨_, List.getElem?_eq_getElem hlt⟩
    have e : wordIn l i ws = (decide (x.1 = 1) && ws.contains x.2) := by unfold wordIn; rw [hget]
    rw [e]
    cases hk : decide (x.1 = 1) with
    | true =>
      refine at_seq_k (fun K0 hK0 => ?_)
      refine at_region ?_
      refine at_v (ov_assign rfl rfl) rfl rfl rfl ?_
      refine at_nil ?_
      refine at_normal ?_
      refine hK0 _ _ _ ?_
      refine at_seq_k (fun K1 hK1 => ?_)
      refine at_region ?_
      refine at_v (ov_move rfl rfl) rfl rfl rfl ?_
      refine at_v (ov_move rfl rfl) rfl rfl rfl ?_
      refine at_v (ov_len_slice rfl Tryz.underlying36 rfl) rfl rfl rfl ?_
      refine at_v (ov_int rfl rfl rfl rfl) rfl rfl rfl ?_
      refine at_v (ov_move rfl rfl) rfl rfl rfl ?_
      refine at_reval 11 (.bool true) rfl (congrArg Value.bool (decide_eq_true (by omega))) ?_
      refine at_wanted (j := 4) rfl ?_
      refine at_v (ov_move rfl rfl) rfl rfl rfl ?_
      refine at_wanted (j := 4) rfl ?_
      refine at_v (ov_move rfl rfl) rfl rfl rfl ?_
      refine at_wanted (j := 4) rfl ?_
      refine at_v (ov_indexRd (fun _ s => hr.up s) rfl Tryz.underlying36 rfl rfl rfl hget) rfl rfl rfl ?_
      refine at_wanted (j := 4) rfl ?_
      refine at_v (ov_fieldRd0 (k := 0) (fun _ s => hr.up s) rfl rfl hget rfl) rfl rfl rfl ?_
      refine at_wanted (j := 4) rfl ?_
      refine at_v (ov_loadRd0 (fun _ s => hr.up s) rfl rfl rfl hget rfl) rfl rfl rfl ?_
      refine at_wanted (j := 4) rfl ?_
      refine at_v (ov_int rfl rfl rfl rfl) rfl rfl rfl ?_
      refine at_v (ov_pick_t rfl rfl rfl) rfl rfl rfl ?_
      refine at_v (ov_move rfl rfl) rfl rfl rfl ?_
      refine at_reval 19 (.bool true) rfl (congrArg Value.bool (by first | assumption | (rw [Bool.not_eq_true']; exact decide_eq_false (by omega)))) ?_
      refine at_wanted (j := 12) rfl ?_
      refine at_v (ov_move rfl rfl) rfl rfl rfl ?_
      refine at_wanted (j := 12) rfl ?_
      refine at_v (ov_move rfl rfl) rfl rfl rfl ?_
      refine at_wanted (j := 12) rfl ?_
      refine at_v (ov_move rfl rfl) rfl rfl rfl ?_
      refine at_wanted (j := 12) rfl ?_
      refine at_v (ov_indexRd (fun _ s => hr.up s) rfl Tryz.underlying36 rfl rfl rfl hget) rfl rfl rfl ?_
      refine at_wanted (j := 12) rfl ?_
      refine at_v (ov_fieldRd0 (k := 1) (fun _ s => hr.up s) rfl rfl hget rfl) rfl rfl rfl ?_
      refine at_wanted (j := 12) rfl ?_
      refine at_v (ov_loadRd (fun _ s => hr.up s) rfl rfl rfl hget rfl) rfl rfl rfl ?_
      refine at_wanted (j := 12) rfl ?_
      refine at_t (ot_call (ks := []) rfl rfl rfl Tryz.call108 rfl (T108 _ (by first | assumption | rfl | omega | decide | (simp; done) | (simp at *; omega)) (by first | assumption | rfl | omega | decide | (simp; done) | (simp at *; omega)) _) rfl) rfl rfl rfl ?_
      rintro v0 _ ⟨m0, hp0, rfl⟩
      obtain ⟨rfl, rfl⟩ := hp0
      simp only [List.cons_append, List.nil_append, splice, spliceL]
      refine at_v (ov_pick_t rfl rfl rfl) rfl rfl rfl ?_
      refine at_v (ov_assign rfl rfl) rfl rfl rfl ?_
      refine at_nil ?_
      refine at_normal ?_
      refine hK1 _ _ _ ?_
      refine at_ret ?_
      refine at_end ?_
      refine at_fin (rsV rfl (res_tmp rfl)) ?_
      refine ⟨_, ⟨rfl, rfl⟩, ?_⟩
      exact fun _ s => s.finEq (ks := []) (js := []) rfl rfl rfl
    | false =>
      refine at_seq_k (fun K0 hK0 => ?_)
      refine at_region ?_
      refine at_v (ov_assign rfl rfl) rfl rfl rfl ?_
      refine at_nil ?_
      refine at_normal ?_
      refine hK0 _ _ _ ?_
      refine at_seq_k (fun K1 hK1 => ?_)
      refine at_region ?_
      refine at_v (ov_move rfl rfl) rfl rfl rfl ?_
      refine at_v (ov_move rfl rfl) rfl rfl rfl ?_
      refine at_v (ov_len_slice rfl Tryz.underlying36 rfl) rfl rfl rfl ?_
      refine at_v (ov_int rfl rfl rfl rfl) rfl rfl rfl ?_
      refine at_v (ov_move rfl rfl) rfl rfl rfl ?_
      refine at_reval 11 (.bool true) rfl (congrArg Value.bool (decide_eq_true (by omega))) ?_
      refine at_wanted (j := 4) rfl ?_
      refine at_v (ov_move rfl rfl) rfl rfl rfl ?_
      refine at_wanted (j := 4) rfl ?_
      refine at_v (ov_move rfl rfl) rfl rfl rfl ?_
      refine at_wanted (j := 4) rfl ?_
      refine at_v (ov_indexRd (fun _ s => hr.up s) rfl Tryz.underlying36 rfl rfl rfl hget) rfl rfl rfl ?_
      refine at_wanted (j := 4) rfl ?_
      refine at_v (ov_fieldRd0 (k := 0) (fun _ s => hr.up s) rfl rfl hget rfl) rfl rfl rfl ?_
      refine at_wanted (j := 4) rfl ?_
      refine at_v (ov_loadRd0 (fun _ s => hr.up s) rfl rfl rfl hget rfl) rfl rfl rfl ?_
      refine at_wanted (j := 4) rfl ?_
      refine at_v (ov_int rfl rfl rfl rfl) rfl rfl rfl ?_
      refine at_v (ov_pick_t rfl rfl rfl) rfl rfl rfl ?_
      refine at_v (ov_move rfl rfl) rfl rfl rfl ?_
      refine at_reval 19 (.bool false) rfl (congrArg Value.bool (by first | assumption | (rw [Bool.not_eq_false']; exact decide_eq_true (by omega)))) ?_
      refine at_unwanted (j := 12) rfl rfl rfl rfl ?_
      refine at_unwanted (j := 12) rfl rfl rfl rfl ?_
      refine at_unwanted (j := 12) rfl rfl rfl rfl ?_
      refine at_unwanted (j := 12) rfl rfl rfl rfl ?_
      refine at_unwanted (j := 12) rfl rfl rfl rfl ?_
      refine at_unwanted (j := 12) rfl rfl rfl rfl ?_
      refine at_unwanted (j := 12) rfl rfl rfl rfl ?_
      refine at_v (ov_pick_f rfl rfl rfl) rfl rfl rfl ?_
      refine at_v (ov_assign rfl rfl) rfl rfl rfl ?_
      refine at_nil ?_
      refine at_normal ?_
      refine hK1 _ _ _ ?_
      refine at_ret ?_
      refine at_end ?_
      refine at_fin (rsV rfl (res_tmp rfl)) ?_
      refine ⟨_, ⟨rfl, rfl⟩, ?_⟩
      exact fun _ s => s.finEq (ks := []) (js := []) rfl rfl rfl
  · have hi1 : decide ((i : Int) < l.length) = false := decide_eq_false (by omega)
    have e : wordIn l i ws = false := by unfold wordIn; rw [List.getElem?_eq_none hge]
    refine at_seq_k (fun K0 hK0 => ?_)
    refine at_region ?_
    refine at_v (ov_assign rfl rfl) rfl rfl rfl ?_
    refine at_nil ?_
    refine at_normal ?_
    refine hK0 _ _ _ ?_
    refine at_seq_k (fun K1 hK1 => ?_)
    refine at_region ?_
    refine at_v (ov_move rfl rfl) rfl rfl rfl ?_
    refine at_v (ov_move rfl rfl) rfl rfl rfl ?_
    refine at_v (ov_len_slice rfl Tryz.underlying36 rfl) rfl rfl rfl ?_
    refine at_v (ov_int rfl rfl rfl rfl) rfl rfl rfl ?_
    refine at_v (ov_move rfl rfl) rfl rfl rfl ?_
    refine at_reval 11 (.bool false) rfl (congrArg Value.bool (decide_eq_false (by omega))) ?_
    refine at_unwanted (j := 4) rfl rfl rfl rfl ?_
    refine at_unwanted (j := 4) rfl rfl rfl rfl ?_
    refine at_unwanted (j := 4) rfl rfl rfl rfl ?_
    refine at_unwanted (j := 4) rfl rfl rfl rfl ?_
    refine at_unwanted (j := 4) rfl rfl rfl rfl ?_
    refine at_unwanted (j := 4) rfl rfl rfl rfl ?_
    refine at_v (ov_pick_f rfl rfl rfl) rfl rfl rfl ?_
    refine at_v (ov_move rfl rfl) rfl rfl rfl ?_
    refine at_unwanted (j := 12) rfl rfl rfl rfl ?_
    refine at_unwanted (j := 12) rfl rfl rfl rfl ?_
    refine at_unwanted (j := 12) rfl rfl rfl rfl ?_
    refine at_unwanted (j := 12) rfl rfl rfl rfl ?_
    refine at_unwanted (j := 12) rfl rfl rfl rfl ?_
    refine at_unwanted (j := 12) rfl rfl rfl rfl ?_
    refine at_unwanted (j := 12) rfl rfl rfl rfl ?_
    refine at_v (ov_pick_f rfl rfl rfl) rfl rfl rfl ?_
    refine at_v (ov_assign rfl rfl) rfl rfl rfl ?_
    refine at_nil ?_
    refine at_normal ?_
    refine hK1 _ _ _ ?_
    refine at_ret ?_
    refine at_end ?_
    refine at_fin (rsV rfl (res_tmp rfl)) ?_
    refine ⟨_, ⟨by rw [e], rfl⟩, ?_⟩
    exact fun _ s => s.finEq (ks := []) (js := []) rfl rfl rfl
theorem T85a (w0 : World) {A B : Option Addr} {c d d' : Nat} {l : List Tok} {ws : List BL} (hr : Rd tE w0 2 A l) (hm : l.length ≤ 10000) (hm2 : ws.length ≤ 10000) (i : Nat) (hi : i ≤ 10000) : Tri Tryz.prog w0 85 [.slice A l.length c, .int .i64 (i : Nat), .slice B ws.length d] [Row bsE 9 1 B d' ws] fun v m => v = .bool (wordIn l i ws) ∧ m = [Row bsE 9 1 B d' ws] :=
  (Tri.of_all fun w s => T85 w (hr.up s) (s.rd (k := 0) rfl) hm hm2 i hi).post fun v m ⟨m', ⟨h1, h2⟩, h3⟩ => ⟨h1, by rw [h3, h2]; rfl⟩
theorem any_take {p : Tok → Bool} {l : List Tok} {k : Nat} {x : Tok} (h : l[k]? = some x) : (l.take (k + 1)).any p = ((l.take k).any p || p x) := by
  rw [List.take_add_one, h]; simp
theorem T88 (w0 : World) {A B : Option Addr} {c d : Nat} {l : List Tok} {ws : List BL} (hr : Rd tE w0 2 A l) (hr2 : Rd bsE w0 1 B ws) (hm : l.length ≤ 10000) (hm2 : ws.length ≤ 10000) : Tri Tryz.prog w0 88 [.slice A l.length c, .slice B ws.length d] [] fun v m => v = .bool (hasIn l ws) ∧ m = [] := by
  refine tri_of Tryz.func88 rfl rfl fun F => ?_
  simp only [Tryz.ntmps88, argEnv, List.nil_append]
  refine at_seq_k (fun K0 hK0 => ?_)
  refine at_region ?_
  refine at_v (ov_assign rfl rfl) rfl rfl rfl ?_
  refine at_nil ?_
  refine at_normal ?_
  refine hK0 _ _ _ ?_
  refine at_seq_k (fun K1 hK1 => ?_)
  refine at_seq_k (fun K2 hK2 => ?_)
  refine at_region ?_
  refine at_v (ov_move rfl rfl) rfl rfl rfl ?_
  refine at_v (ov_len_slice rfl Tryz.underlying36 rfl) rfl rfl rfl ?_
  refine at_v (ov_move rfl rfl) rfl rfl rfl ?_
  refine at_nil ?_
  refine at_normal ?_
  refine hK2 _ _ _ ?_
  refine at_block ?_
  refine at_loopE [9, 10, 5, 11, 12, 13, 14, 4, 15, 8] (fun k => k ≤ l.length ∧ hasIn (l.take k) ws = false) (fun k => [(8, .int .i64 (k : Nat))]) (fun _ m => m) (fun k => l.length - k) 0 ⟨Nat.zero_le _, rfl⟩ ⟨rfl, trivial⟩ (fun _ s => s) ?_
  rintro k ⟨hk, hb⟩
  rcases Nat.lt_or_ge k l.length with hlt | hge
  · have hi1 : decide ((k : Int) < l.length) = true := decide_eq_true (by omega)
    obtain ⟨x, hget⟩ : ∃ x, l[k]? = some x := ⟨_, List.getElem?_eq_getElem hlt⟩
    have hW := T85 w0 (c := c) (d := d) hr hr2 hm hm2 k (by omega)
    have e : wordIn l k ws = (decide (x.1 = 1) && ws.contains x.2) := by unfold wordIn; rw [hget]
    have hs : hasIn (l.take (k + 1)) ws = (hasIn (l.take k) ws || (decide (x.1 = 1) && ws.contains x.2)) := any_take hget
    rw [hb, Bool.false_or, ← e] at hs
    cases hw : wordIn l k ws with
    | true =>
      rw [hw] at hW
      have hall : hasIn l ws = true := by
        unfold hasIn
        rw [List.any_eq_true]
        exact ⟨x, List.mem_of_getElem? hget, by rw [← e]; exact hw⟩
      refine at_seq_k (fun K3 hK3 => ?_)
      refine at_region ?_
      refine at_v (ov_int rfl rfl rfl rfl) rfl rfl rfl ?_
      refine at_nil ?_
      refine at_normal ?_
      refine hK3 _ _ _ ?_
      refine at_seq_k (fun K4 hK4 => ?_)
      refine at_cond_true (congrArg (fun b => some (Value.bool b)) (show _ = true from decide_eq_true (by omega))) ?_
      refine at_skip ?_
      refine at_normal ?_
      refine hK4 _ _ _ ?_
      refine at_seq_k (fun K5 hK5 => ?_)
      refine at_block ?_
      refine at_seq_k (fun K6 hK6 => ?_)
      refine at_region ?_
      refine at_v (ov_move rfl rfl) rfl rfl rfl ?_
      refine at_v (ov_assign rfl rfl) rfl rfl rfl ?_
      refine at_nil ?_
      refine at_normal ?_
      refine hK6 _ _ _ ?_
      refine at_seq_k (fun K7 hK7 => ?_)
      refine at_region ?_
      refine at_v (ov_move rfl rfl) rfl rfl rfl ?_
      refine at_v (ov_move rfl rfl) rfl rfl rfl ?_
      refine at_v (ov_move rfl rfl) rfl rfl rfl ?_
      refine at_t (ot_call (ks := []) rfl rfl rfl Tryz.call85 rfl (hW ) rfl) rfl rfl rfl ?_
      rintro v0 _ ⟨m0, hp0, rfl⟩
      obtain ⟨rfl, rfl⟩ := hp0
      simp only [List.cons_append, List.nil_append, splice, spliceL]
      refine at_nil ?_
      refine at_normal ?_
      refine hK7 _ _ _ ?_
      refine at_cond_true rfl ?_
      refine at_seq_k (fun K8 hK8 => ?_)
      refine at_region ?_
      refine at_v (ov_assign rfl rfl) rfl rfl rfl ?_
      refine at_nil ?_
      refine at_normal ?_
      refine hK8 _ _ _ ?_
      refine at_ret ?_
      refine at_inb_ret ?_
      refine at_then_ret ?_
      refine at_then_ret ?_
      refine at_inb_ret ?_
      refine at_then_ret ?_
      refine at_end ?_
      refine at_fin (rsV rfl (res_tmp rfl)) ?_
      refine ⟨_, ⟨by rw [hall], rfl⟩, ?_⟩
      exact fun _ s => s.finEq (ks := []) (js := []) rfl rfl rfl
    | false =>
      rw [hw] at hW hs
      refine at_seq_k (fun K3 hK3 => ?_)
      refine at_region ?_
      refine at_v (ov_int rfl rfl rfl rfl) rfl rfl rfl ?_
      refine at_nil ?_
      refine at_normal ?_
      refine hK3 _ _ _ ?_
      refine at_seq_k (fun K4 hK4 => ?_)
      refine at_cond_true (congrArg (fun b => some (Value.bool b)) (show _ = true from decide_eq_true (by omega))) ?_
      refine at_skip ?_
      refine at_normal ?_
      refine hK4 _ _ _ ?_
      refine at_seq_k (fun K5 hK5 => ?_)
      refine at_block ?_
      refine at_seq_k (fun K6 hK6 => ?_)
      refine at_region ?_
      refine at_v (ov_move rfl rfl) rfl rfl rfl ?_
      refine at_v (ov_assign rfl rfl) rfl rfl rfl ?_
      refine at_nil ?_
      refine at_normal ?_
      refine hK6 _ _ _ ?_
      refine at_seq_k (fun K7 hK7 => ?_)
      refine at_region ?_
      refine at_v (ov_move rfl rfl) rfl rfl rfl ?_
      refine at_v (ov_move rfl rfl) rfl rfl rfl ?_
      refine at_v (ov_move rfl rfl) rfl rfl rfl ?_
      refine at_t (ot_call (ks := []) rfl rfl rfl Tryz.call85 rfl (hW ) rfl) rfl rfl rfl ?_
      rintro v0 _ ⟨m0, hp0, rfl⟩
      obtain ⟨rfl, rfl⟩ := hp0
      simp only [List.cons_append, List.nil_append, splice, spliceL]
      refine at_nil ?_
      refine at_normal ?_
      refine hK7 _ _ _ ?_
      refine at_cond_false rfl ?_
      refine at_skip ?_
      refine at_inb_normal ?_
      refine at_normal ?_
      refine hK5 _ _ _ ?_
      refine at_region ?_
      refine at_v ((ov_int rfl rfl rfl rfl).eq (congrArg (Value.int .i64) (inK_i64 (by omega) (by omega)))) rfl rfl rfl ?_
      refine at_v (ov_move rfl rfl) rfl rfl rfl ?_
      refine at_nil ?_
      refine at_normal ?_
      refine at_roundF (k + 1) ⟨hlt, hs⟩ (by omega) ⟨rfl, trivial⟩ rfl ?_
      exact fun _ s => s.finEq (ks := []) (js := []) rfl rfl rfl
  · have hi1 : decide ((k : Int) < l.length) = false := decide_eq_false (by omega)
    rw [List.take_of_length_le hge] at hb
    refine at_seq_k (fun K3 hK3 => ?_)
    refine at_region ?_
    refine at_v (ov_int rfl rfl rfl rfl) rfl rfl rfl ?_
    refine at_nil ?_
    refine at_normal ?_
    refine hK3 _ _ _ ?_
    refine at_seq_k (fun K4 hK4 => ?_)
    refine at_cond_false (congrArg (fun b => some (Value.bool b)) (show _ = false from decide_eq_false (by omega))) ?_
    refine at_exit ?_
    refine at_then_exit ?_
    refine at_then_exit ?_
    refine at_exit_eq ?_
    refine at_normal ?_
    refine hK1 _ _ _ ?_
    refine at_seq_k (fun K5 hK5 => ?_)
    refine at_region ?_
    refine at_v (ov_assign rfl rfl) rfl rfl rfl ?_
    refine at_nil ?_
    refine at_normal ?_
    refine hK5 _ _ _ ?_
    refine at_ret ?_
    refine at_end ?_
    refine at_fin (rsV rfl (res_tmp rfl)) ?_
    refine ⟨_, ⟨by rw [hb], rfl⟩, ?_⟩
    exact fun _ s => s.finEq (ks := []) (js := []) rfl rfl rfl
theorem T88a (w0 : World) {A B : Option Addr} {c d d' : Nat} {l : List Tok} {ws : List BL} (hr : Rd tE w0 2 A l) (hm : l.length ≤ 10000) (hm2 : ws.length ≤ 10000) : Tri Tryz.prog w0 88 [.slice A l.length c, .slice B ws.length d] [Row bsE 9 1 B d' ws] fun v m => v = .bool (hasIn l ws) ∧ m = [Row bsE 9 1 B d' ws] :=
  (Tri.of_all fun w s => T88 w (hr.up s) (s.rd (k := 0) rfl) hm hm2).post fun v m ⟨m', ⟨h1, h2⟩, h3⟩ => ⟨h1, by rw [h3, h2]; rfl⟩
/-! ### rules -/
def wANALYZE : BL := [65, 78, 65, 76, 89, 90, 69]
def wANALYSE : BL := [65, 78, 65, 76, 89, 83, 69]
def wWORK : BL := [87, 79, 82, 75]
def wTRANSACTION : BL := [84, 82, 65, 78, 83, 65, 67, 84, 73, 79, 78]
def wAUTOCOMMIT : BL := [65, 85, 84, 79, 67, 79, 77, 77, 73, 84]
def wGLOBAL : BL := [71, 76, 79, 66, 65, 76]
def wPERSIST : BL := [80, 69, 82, 83, 73, 83, 84]
def wINSERT : BL := [73, 78, 83, 69, 82, 84]
def wUPDATE : BL := [85, 80, 68, 65, 84, 69]
def wDELETE : BL := [68, 69, 76, 69, 84, 69]
def wREPLACE : BL := [82, 69, 80, 76, 65, 67, 69]
def wINTO : BL := [73, 78, 84, 79]
def wSHARE : BL := [83, 72, 65, 82, 69]
def wWITH : BL := [87, 73, 84, 72]
def wSELECT : BL := [83, 69, 76, 69, 67, 84]
def writesW : List BL := [wINSERT, wUPDATE, wDELETE, wREPLACE, wINTO, wSHARE]
def beginL (l : List Tok) : Int := if l.length = 1 ∨ (l.length = 2 ∧ wordIn l 1 [wWORK, wTRANSACTION] = true) then 3 else 7
def startL (l : List Tok) : Int := if wordIn l 1 [wTRANSACTION] then 3 else 7
def endsL (k : Int) (l : List Tok) : Int := if l.length = 1 ∨ (l.length = 2 ∧ wordIn l 1 [wWORK] = true) then k else 7
def setL (l : List Tok) : Int := if wordIn l 1 [wAUTOCOMMIT, wGLOBAL, wPERSIST] then 7 else 6
def asksL (l : List Tok) : Int := if hasIn l writesW then 2 else if wordIn l 0 [wWITH] && !hasIn l [wSELECT] then 7 else 1
theorem T54 (w0 : World) (cv : Value) {A : Option Addr} {c : Nat} {l : List Tok} (hr : Rd tE w0 2 A l) (hm : l.length ≤ 10000) : Tri Tryz.prog w0 54 [cv, .slice A l.length c] [] fun v m => v = .int .i64 (startL l) ∧ m = [] := by
  refine tri_of Tryz.func54 rfl rfl fun F => ?_
  simp only [Tryz.ntmps54, argEnv, List.nil_append]
  refine at_seq_k (fun K0 hK0 => ?_)
  refine at_region ?_
  refine at_v (ov_assign rfl rfl) rfl rfl rfl ?_
  refine at_nil ?_
  refine at_normal ?_
  refine hK0 _ _ _ ?_
  refine at_seq_k (fun K1 hK1 => ?_)
  refine at_seq_k (fun K2 hK2 => ?_)
  refine at_region ?_
  refine at_v (ov_move rfl rfl) rfl rfl rfl ?_
  refine at_t (ot_buildSlice (cs := [_]) rfl Tryz.underlying73 rfl rfl rfl rfl rfl rfl) rfl rfl rfl ?_
  rintro _ _ ⟨g0, rfl, rfl⟩
  refine at_rowOf bsE 0 (size := 1) (c := 1) [wTRANSACTION] rfl (fun _ _ => rfl) (by decide) (by decide) (by decide) rfl ?_
  simp only [setAt]
  refine at_reval 6 (.slice (some ⟨g0, 0, none⟩) ([wTRANSACTION] : List BL).length 1) rfl rfl ?_
  have hW := fun {B} {d} {d'} => T85a w0 (B := B) (c := c) (d := d) (d' := d') (ws := [wTRANSACTION]) hr hm (by decide) 1 (by decide)
  cases hw : wordIn l 1 [wTRANSACTION] with
  | true =>
    rw [hw] at hW
    refine at_t (ot_call (ks := [0]) rfl rfl rfl Tryz.call85 rfl (hW ) rfl) rfl rfl rfl ?_
    rintro v0 _ ⟨m0, hp0, rfl⟩
    obtain ⟨rfl, rfl⟩ := hp0
    simp only [List.cons_append, List.nil_append, splice, spliceL]
    refine at_nil ?_
    refine at_normal ?_
    refine hK2 _ _ _ ?_
    refine at_cond_true rfl ?_
    refine at_seq_k (fun K3 hK3 => ?_)
    refine at_region ?_
    refine at_v (ov_assign rfl rfl) rfl rfl rfl ?_
    refine at_nil ?_
    refine at_normal ?_
    refine hK3 _ _ _ ?_
    refine at_ret ?_
    refine at_then_ret ?_
    refine at_end ?_
    refine at_fin (rsV rfl (res_tmp rfl)) ?_
    refine ⟨_, ⟨by simp [startL, hw], rfl⟩, ?_⟩
    exact fun _ s => s.finEq (ks := []) (js := [0]) rfl rfl rfl
  | false =>
    rw [hw] at hW
    refine at_t (ot_call (ks := [0]) rfl rfl rfl Tryz.call85 rfl (hW ) rfl) rfl rfl rfl ?_
    rintro v0 _ ⟨m0, hp0, rfl⟩
    obtain ⟨rfl, rfl⟩ := hp0
    simp only [List.cons_append, List.nil_append, splice, spliceL]
    refine at_nil ?_
    refine at_normal ?_
    refine hK2 _ _ _ ?_
    refine at_cond_false rfl ?_
    refine at_skip ?_
    refine at_normal ?_
    refine hK1 _ _ _ ?_
    refine at_seq_k (fun K3 hK3 => ?_)
    refine at_region ?_
    refine at_v (ov_assign rfl rfl) rfl rfl rfl ?_
    refine at_nil ?_
    refine at_normal ?_
    refine hK3 _ _ _ ?_
    refine at_ret ?_
    refine at_end ?_
    refine at_fin (rsV rfl (res_tmp rfl)) ?_
    refine ⟨_, ⟨by simp [startL, hw], rfl⟩, ?_⟩
    exact fun _ s => s.finEq (ks := []) (js := [0]) rfl rfl rfl
end Go.Proofs.YtgclahlbifbgdaaGreatDoor
