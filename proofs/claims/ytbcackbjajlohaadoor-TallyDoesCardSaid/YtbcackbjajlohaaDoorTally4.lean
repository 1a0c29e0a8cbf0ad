/- awake, large: walked. -/
import Derived.Test.YtbcackbjajlohaaDoorProg
import Derived.Test.YtbcackbjajlohaaDoorTally3
import Derived.Test.YtbcackbjajlohaaDoorSLStr
import Derived.KernelRfl
set_option linter.unusedSimpArgs false
set_option linter.unusedVariables false
set_option maxRecDepth 100000
namespace Go.Proofs.YtbcackbjajlohaaDoor
open Go Go.Proofs.YtbcackbjajlohaaDoor.SL Go.RowKit
/-- An act. -/
abbrev AM := Int × ByteArray × Int × Int
def aE (x : AM) : List Value := [.int .i64 x.1, .string x.2.1, .int .i64 x.2.2.1, .int .i64 x.2.2.2]
def bigN (s : ByteArray) : Bool := decide (300 < s.size)
def bigA (x : AM) : Bool := decide (300 < x.2.1.size)
def largeB (ns : List ByteArray) (l : List AM) : Bool := decide (100 < ns.length) || decide (100 < l.length) || ns.any bigN || l.any bigA
theorem any_take_succ {α : Type} (p : α → Bool) {l : List α} {k : Nat} {x : α} (h : l[k]? = some x) : (l.take (k + 1)).any p = ((l.take k).any p || p x) := by
  rw [List.take_add_one, h]; simp
theorem any_of_get {α : Type} (p : α → Bool) {l : List α} {k : Nat} {x : α} (h : l[k]? = some x) (hp : p x = true) : l.any p = true :=
  List.any_eq_true.2 ⟨x, List.mem_of_getElem? h, hp⟩
theorem T7 (w0 : World) {A B : Option Addr} {c d : Nat} {ns : List ByteArray} {l : List AM} (hr : Rd sE w0 1 A ns) (hr2 : Rd aE w0 4 B l) (hm : ns.length ≤ 9223372036854775807) (hm2 : l.length ≤ 9223372036854775807) :
    Tri Tryd.prog w0 7 [.slice A ns.length c, .slice B l.length d] [] fun v m => v = .bool (largeB ns l) ∧ m = [] := by
  refine tri_of Tryd.func7 rfl rfl fun F => ?_
  simp only [Tryd.ntmps7, argEnv, List.nil_append]
  by_cases h1 : ns.length > 100
  · have e : largeB ns l = true := by simp [largeB, h1]
    have hi : decide ((ns.length : Int) > 100) = true := decide_eq_true (by omega)
    refine at_seq_k (fun K0 hK0 => ?_)
    refine at_region ?_
    refine at_v (ov_assign rfl rfl) rfl rfl rfl ?_
    refine at_nil ?_
    refine at_normal ?_
    refine hK0 _ _ _ ?_
    refine at_seq_k (fun K1 hK1 => ?_)
    refine at_seq_k (fun K2 hK2 => ?_)
    refine at_region ?_
    refine at_v (ov_move rfl rfl) rfl rfl rfl ?_
    refine at_v (ov_len_slice rfl Tryd.underlying22 rfl) rfl rfl rfl ?_
    refine at_v (ov_int rfl rfl rfl rfl) rfl rfl rfl ?_
    refine at_v (ov_move rfl rfl) rfl rfl rfl ?_
    refine at_reval 12 (.bool true) rfl (congrArg Value.bool (decide_eq_true (by omega))) ?_
    refine at_unwanted (j := 3) rfl rfl rfl rfl ?_
    refine at_unwanted (j := 3) rfl rfl rfl rfl ?_
    refine at_unwanted (j := 3) rfl rfl rfl rfl ?_
    refine at_v (ov_pick_t rfl rfl rfl) rfl rfl rfl ?_
    refine at_nil ?_
    refine at_normal ?_
    refine hK2 _ _ _ ?_
    refine at_cond_true rfl ?_
    refine at_seq_k (fun K3 hK3 => ?_)
    refine at_region ?_
    refine at_v (ov_assign rfl rfl) rfl rfl rfl ?_
    refine at_nil ?_
    refine at_normal ?_
    refine hK3 _ _ _ ?_
    refine at_ret ?_
    refine at_then_ret ?_
    refine at_end ?_
    refine at_fin (rsV rfl (res_tmp rfl)) ?_
    refine ⟨_, ⟨by rw [e], rfl⟩, ?_⟩
    exact fun _ s => s.finEq (ks := []) (js := []) rfl rfl rfl
  have hi1 : decide ((ns.length : Int) > 100) = false := decide_eq_false (by omega)
  by_cases h2 : l.length > 100
  · have e : largeB ns l = true := by simp [largeB, h2]
    have hi : decide ((l.length : Int) > 100) = true := decide_eq_true (by omega)
    refine at_seq_k (fun K0 hK0 => ?_)
    refine at_region ?_
    refine at_v (ov_assign rfl rfl) rfl rfl rfl ?_
    refine at_nil ?_
    refine at_normal ?_
    refine hK0 _ _ _ ?_
    refine at_seq_k (fun K1 hK1 => ?_)
    refine at_seq_k (fun K2 hK2 => ?_)
    refine at_region ?_
    refine at_v (ov_move rfl rfl) rfl rfl rfl ?_
    refine at_v (ov_len_slice rfl Tryd.underlying22 rfl) rfl rfl rfl ?_
    refine at_v (ov_int rfl rfl rfl rfl) rfl rfl rfl ?_
    refine at_v (ov_move rfl rfl) rfl rfl rfl ?_
    refine at_reval 12 (.bool false) rfl (congrArg Value.bool (decide_eq_false (by omega))) ?_
    refine at_wanted (j := 3) rfl ?_
    refine at_v (ov_move rfl rfl) rfl rfl rfl ?_
    refine at_wanted (j := 3) rfl ?_
    refine at_v (ov_len_slice rfl Tryd.underlying23 rfl) rfl rfl rfl ?_
    refine at_wanted (j := 3) rfl ?_
    refine at_v (ov_int rfl rfl rfl rfl) rfl rfl rfl ?_
    refine at_v (ov_pick_f rfl rfl rfl) rfl rfl rfl ?_
    refine at_nil ?_
    refine at_normal ?_
    refine hK2 _ _ _ ?_
    refine at_cond_true (congrArg (fun b => some (Value.bool b)) (show _ = true from decide_eq_true (by omega))) ?_
    refine at_seq_k (fun K3 hK3 => ?_)
    refine at_region ?_
    refine at_v (ov_assign rfl rfl) rfl rfl rfl ?_
    refine at_nil ?_
    refine at_normal ?_
    refine hK3 _ _ _ ?_
    refine at_ret ?_
    refine at_then_ret ?_
    refine at_end ?_
    refine at_fin (rsV rfl (res_tmp rfl)) ?_
    refine ⟨_, ⟨by rw [e], rfl⟩, ?_⟩
    exact fun _ s => s.finEq (ks := []) (js := []) rfl rfl rfl
  have hi2 : decide ((l.length : Int) > 100) = false := decide_eq_false (by omega)
  refine at_seq_k (fun K0 hK0 => ?_)
  refine at_region ?_
  refine at_v (ov_assign rfl rfl) rfl rfl rfl ?_
  refine at_nil ?_
  refine at_normal ?_
  refine hK0 _ _ _ ?_
  refine at_seq_k (fun K1 hK1 => ?_)
  refine at_seq_k (fun K2 hK2 => ?_)
  refine at_region ?_
  refine at_v (ov_move rfl rfl) rfl rfl rfl ?_
  refine at_v (ov_len_slice rfl Tryd.underlying22 rfl) rfl rfl rfl ?_
  refine at_v (ov_int rfl rfl rfl rfl) rfl rfl rfl ?_
  refine at_v (ov_move rfl rfl) rfl rfl rfl ?_
  refine at_reval 12 (.bool false) rfl (congrArg Value.bool (decide_eq_false (by omega))) ?_
  refine at_wanted (j := 3) rfl ?_
  refine at_v (ov_move rfl rfl) rfl rfl rfl ?_
  refine at_wanted (j := 3) rfl ?_
  refine at_v (ov_len_slice rfl Tryd.underlying23 rfl) rfl rfl rfl ?_
  refine at_wanted (j := 3) rfl ?_
  refine at_v (ov_int rfl rfl rfl rfl) rfl rfl rfl ?_
  refine at_v (ov_pick_f rfl rfl rfl) rfl rfl rfl ?_
  refine at_nil ?_
  refine at_normal ?_
  refine hK2 _ _ _ ?_
  refine at_cond_false (congrArg (fun b => some (Value.bool b)) (show _ = false from decide_eq_false (by omega))) ?_
  refine at_skip ?_
  refine at_normal ?_
  refine hK1 _ _ _ ?_
  refine at_seq_k (fun K3 hK3 => ?_)
  refine at_seq_k (fun K4 hK4 => ?_)
  refine at_region ?_
  refine at_v (ov_move rfl rfl) rfl rfl rfl ?_
  refine at_v (ov_len_slice rfl Tryd.underlying22 rfl) rfl rfl rfl ?_
  refine at_v (ov_move rfl rfl) rfl rfl rfl ?_
  refine at_nil ?_
  refine at_normal ?_
  refine hK4 _ _ _ ?_
  refine at_block ?_
  refine at_loopE [20, 21, 22, 6, 23, 24, 25, 4, 26, 19] (fun k => k ≤ ns.length ∧ (ns.take k).any bigN = false) (fun k => [(19, .int .i64 (k : Nat))]) (fun _ l => l) (fun k => ns.length - k) 0 ⟨Nat.zero_le _, rfl⟩ ⟨rfl, trivial⟩ (fun _ s => s) ?_
  rintro k ⟨hk, hb⟩
  refine at_seq_k (fun K5 hK5 => ?_)
  refine at_region ?_
  refine at_v (ov_int rfl rfl rfl rfl) rfl rfl rfl ?_
  refine at_nil ?_
  refine at_normal ?_
  refine hK5 _ _ _ ?_
  refine at_seq_k (fun K6 hK6 => ?_)
  refine at_cond rfl (fun hc => ?_) (fun hc => ?_)
  · have hlt : k < ns.length := by simpa using hc
    obtain ⟨x, hget⟩ : ∃ x, ns[k]? = some x := ⟨_, List.getElem?_eq_getElem hlt⟩
    cases hx : bigN x with
    | true =>
      have e : largeB ns l = true := by simp [largeB, any_of_get bigN hget hx]
      have hi : decide ((x.size : Int) > 300) = true := by simp [bigN] at hx; exact decide_eq_true (by omega)
      refine at_skip ?_
      refine at_normal ?_
      refine hK6 _ _ _ ?_
      refine at_seq_k (fun K7 hK7 => ?_)
      refine at_block ?_
      refine at_seq_k (fun K8 hK8 => ?_)
      refine at_region ?_
      refine at_v (ov_indexRd (fun _ s => hr.up s) rfl Tryd.underlying22 rfl rfl rfl hget) rfl rfl rfl ?_
      refine at_v (ov_loadRd0 (fun _ s => hr.up s) rfl rfl rfl hget rfl) rfl rfl rfl ?_
      refine at_v (ov_assign rfl rfl) rfl rfl rfl ?_
      refine at_nil ?_
      refine at_normal ?_
      refine hK8 _ _ _ ?_
      refine at_seq_k (fun K9 hK9 => ?_)
      refine at_region ?_
      refine at_v (ov_move rfl rfl) rfl rfl rfl ?_
      refine at_v (ov_len_string rfl Tryd.underlying9 rfl) rfl rfl rfl ?_
      refine at_v (ov_int rfl rfl rfl rfl) rfl rfl rfl ?_
      refine at_nil ?_
      refine at_normal ?_
      refine hK9 _ _ _ ?_
      refine at_cond_true (congrArg (fun b => some (Value.bool b)) (show _ = true from by first | assumption | (rw [Bool.not_eq_true']; exact decide_eq_false (by omega)))) ?_
      refine at_seq_k (fun K10 hK10 => ?_)
      refine at_region ?_
      refine at_v (ov_assign rfl rfl) rfl rfl rfl ?_
      refine at_nil ?_
      refine at_normal ?_
      refine hK10 _ _ _ ?_
      refine at_ret ?_
      refine at_inb_ret ?_
      refine at_then_ret ?_
      refine at_then_ret ?_
      refine at_inb_ret ?_
      refine at_then_ret ?_
      refine at_end ?_
      refine at_fin (rsV rfl (res_tmp rfl)) ?_
      refine ⟨_, ⟨by rw [e], rfl⟩, ?_⟩
      exact fun _ s => s.finEq (ks := []) (js := []) rfl rfl rfl
    | false =>
      have hi : decide ((x.size : Int) > 300) = false := by simp [bigN] at hx; exact decide_eq_false (by omega)
      refine at_skip ?_
      refine at_normal ?_
      refine hK6 _ _ _ ?_
      refine at_seq_k (fun K7 hK7 => ?_)
      refine at_block ?_
      refine at_seq_k (fun K8 hK8 => ?_)
      refine at_region ?_
      refine at_v (ov_indexRd (fun _ s => hr.up s) rfl Tryd.underlying22 rfl rfl rfl hget) rfl rfl rfl ?_
      refine at_v (ov_loadRd0 (fun _ s => hr.up s) rfl rfl rfl hget rfl) rfl rfl rfl ?_
      refine at_v (ov_assign rfl rfl) rfl rfl rfl ?_
      refine at_nil ?_
      refine at_normal ?_
      refine hK8 _ _ _ ?_
      refine at_seq_k (fun K9 hK9 => ?_)
      refine at_region ?_
      refine at_v (ov_move rfl rfl) rfl rfl rfl ?_
      refine at_v (ov_len_string rfl Tryd.underlying9 rfl) rfl rfl rfl ?_
      refine at_v (ov_int rfl rfl rfl rfl) rfl rfl rfl ?_
      refine at_nil ?_
      refine at_normal ?_
      refine hK9 _ _ _ ?_
      refine at_cond_false (congrArg (fun b => some (Value.bool b)) (show _ = false from by first | assumption | (rw [Bool.not_eq_false']; exact decide_eq_true (by omega)))) ?_
      refine at_skip ?_
      refine at_inb_normal ?_
      refine at_normal ?_
      refine hK7 _ _ _ ?_
      refine at_region ?_
      refine at_v ((ov_int rfl rfl rfl rfl).eq (congrArg (Value.int .i64) (inK_i64 (by omega) (by omega)))) rfl rfl rfl ?_
      refine at_v (ov_move rfl rfl) rfl rfl rfl ?_
      refine at_nil ?_
      refine at_normal ?_
      refine at_roundF (k + 1) ⟨hlt, by rw [any_take_succ bigN hget, hb, hx]; rfl⟩ (by omega) ⟨rfl, trivial⟩ rfl ?_
      exact fun _ s => s.finEq (ks := []) (js := []) rfl rfl rfl
  · have hk2 : k = ns.length := by
      have : ¬ k < ns.length := by simpa using hc
      omega
    subst hk2
    rw [List.take_length] at hb
    refine at_exit ?_
    refine at_then_exit ?_
    refine at_then_exit ?_
    refine at_exit_eq ?_
    refine at_normal ?_
    refine hK3 _ _ _ ?_
    refine at_seq_k (fun K7 hK7 => ?_)
    refine at_seq_k (fun K8 hK8 => ?_)
    refine at_region ?_
    refine at_v (ov_move rfl rfl) rfl rfl rfl ?_
    refine at_v (ov_len_slice rfl Tryd.underlying23 rfl) rfl rfl rfl ?_
    refine at_v (ov_move rfl rfl) rfl rfl rfl ?_
    refine at_nil ?_
    refine at_normal ?_
    refine hK8 _ _ _ ?_
    refine at_block ?_
    clear hc hk
    refine at_loopE [30, 31, 32, 8, 33, 34, 35, 36, 4, 37, 29] (fun k => k ≤ l.length ∧ (l.take k).any bigA = false) (fun k => [(29, .int .i64 (k : Nat))]) (fun _ l => l) (fun k => l.length - k) 0 ⟨Nat.zero_le _, rfl⟩ ⟨rfl, trivial⟩ (fun _ s => s) ?_
    rintro k ⟨hk, hb2⟩
    refine at_seq_k (fun K9 hK9 => ?_)
    refine at_region ?_
    refine at_v (ov_int rfl rfl rfl rfl) rfl rfl rfl ?_
    refine at_nil ?_
    refine at_normal ?_
    refine hK9 _ _ _ ?_
    refine at_seq_k (fun K10 hK10 => ?_)
    refine at_cond rfl (fun hc => ?_) (fun hc => ?_)
    · have hlt : k < l.length := by simpa using hc
      obtain ⟨⟨x1, x2, x3, x4⟩, hget⟩ : ∃ x, l[k]? = some x := ⟨_, List.getElem?_eq_getElem hlt⟩
      cases hx : bigA (x1, x2, x3, x4) with
      | true =>
        have e : largeB ns l = true := by simp [largeB, any_of_get bigA hget hx]
        have hi : decide ((x2.size : Int) > 300) = true := by simp [bigA] at hx; exact decide_eq_true (by omega)
        refine at_skip ?_
        refine at_normal ?_
        refine hK10 _ _ _ ?_
        refine at_seq_k (fun K11 hK11 => ?_)
        refine at_block ?_
        refine at_seq_k (fun K12 hK12 => ?_)
        refine at_region ?_
        refine at_v (ov_indexRd (fun _ s => hr2.up s) rfl Tryd.underlying23 rfl rfl rfl hget) rfl rfl rfl ?_
        refine at_v (ov_loadRdS (vs := [_, _, _, _]) (fun _ s => hr2.up s) rfl rfl rfl hget rfl rfl) rfl rfl rfl ?_
        refine at_t (ot_allocA rfl Tryd.zeroValue36) rfl rfl rfl ?_
        rintro _ _ ⟨g0, rfl, rfl⟩
        refine at_t0 (ot_store (k := 0) rfl rfl rfl rfl rfl rfl rfl) rfl rfl ?_
        rintro _ _ ⟨rfl, rfl⟩
        simp only [setAt, splice, spliceL, Value.cells]
        refine at_nil ?_
        refine at_normal ?_
        refine hK12 _ _ _ ?_
        refine at_seq_k (fun K13 hK13 => ?_)
        refine at_region ?_
        refine at_v (ov_fieldAddr (k := 1) (r := 1) rfl rfl rfl rfl) rfl rfl rfl ?_
        refine at_v (ov_load rfl rfl rfl (fun _ s => s.ld (k := 0) rfl rfl)) rfl rfl rfl ?_
        refine at_v (ov_len_string rfl Tryd.underlying9 rfl) rfl rfl rfl ?_
        refine at_v (ov_int rfl rfl rfl rfl) rfl rfl rfl ?_
        refine at_nil ?_
        refine at_normal ?_
        refine hK13 _ _ _ ?_
        refine at_cond_true (congrArg (fun b => some (Value.bool b)) (show _ = true from by first | assumption | (rw [Bool.not_eq_true']; exact decide_eq_false (by omega)))) ?_
        refine at_seq_k (fun K14 hK14 => ?_)
        refine at_region ?_
        refine at_v (ov_assign rfl rfl) rfl rfl rfl ?_
        refine at_nil ?_
        refine at_normal ?_
        refine hK14 _ _ _ ?_
        refine at_ret ?_
        refine at_inb_ret ?_
        refine at_then_ret ?_
        refine at_then_ret ?_
        refine at_inb_ret ?_
        refine at_then_ret ?_
        refine at_end ?_
        refine at_fin (rsV rfl (res_tmp rfl)) ?_
        refine ⟨_, ⟨by rw [e], rfl⟩, ?_⟩
        exact fun _ s => s.finEq (ks := []) (js := [0]) rfl rfl rfl
      | false =>
        have hi : decide ((x2.size : Int) > 300) = false := by simp [bigA] at hx; exact decide_eq_false (by omega)
        refine at_skip ?_
        refine at_normal ?_
        refine hK10 _ _ _ ?_
        refine at_seq_k (fun K11 hK11 => ?_)
        refine at_block ?_
        refine at_seq_k (fun K12 hK12 => ?_)
        refine at_region ?_
        refine at_v (ov_indexRd (fun _ s => hr2.up s) rfl Tryd.underlying23 rfl rfl rfl hget) rfl rfl rfl ?_
        refine at_v (ov_loadRdS (vs := [_, _, _, _]) (fun _ s => hr2.up s) rfl rfl rfl hget rfl rfl) rfl rfl rfl ?_
        refine at_t (ot_allocA rfl Tryd.zeroValue36) rfl rfl rfl ?_
        rintro _ _ ⟨g0, rfl, rfl⟩
        refine at_t0 (ot_store (k := 0) rfl rfl rfl rfl rfl rfl rfl) rfl rfl ?_
        rintro _ _ ⟨rfl, rfl⟩
        simp only [setAt, splice, spliceL, Value.cells]
        refine at_nil ?_
        refine at_normal ?_
        refine hK12 _ _ _ ?_
        refine at_seq_k (fun K13 hK13 => ?_)
        refine at_region ?_
        refine at_v (ov_fieldAddr (k := 1) (r := 1) rfl rfl rfl rfl) rfl rfl rfl ?_
        refine at_v (ov_load rfl rfl rfl (fun _ s => s.ld (k := 0) rfl rfl)) rfl rfl rfl ?_
        refine at_v (ov_len_string rfl Tryd.underlying9 rfl) rfl rfl rfl ?_
        refine at_v (ov_int rfl rfl rfl rfl) rfl rfl rfl ?_
        refine at_nil ?_
        refine at_normal ?_
        refine hK13 _ _ _ ?_
        refine at_cond_false (congrArg (fun b => some (Value.bool b)) (show _ = false from by first | assumption | (rw [Bool.not_eq_false']; exact decide_eq_true (by omega)))) ?_
        refine at_skip ?_
        refine at_inb_normal ?_
        refine at_normal ?_
        refine hK11 _ _ _ ?_
        refine at_region ?_
        refine at_v ((ov_int rfl rfl rfl rfl).eq (congrArg (Value.int .i64) (inK_i64 (by omega) (by omega)))) rfl rfl rfl ?_
        refine at_v (ov_move rfl rfl) rfl rfl rfl ?_
        refine at_nil ?_
        refine at_normal ?_
        refine at_roundF (k + 1) ⟨hlt, by rw [any_take_succ bigA hget, hb2, hx]; rfl⟩ (by omega) ⟨rfl, trivial⟩ rfl ?_
        exact fun _ s => s.finEq (ks := []) (js := [0]) rfl rfl rfl
    · have hk2 : k = l.length := by
        have : ¬ k < l.length := by simpa using hc
        omega
      subst hk2
      rw [List.take_length] at hb2
      have e : largeB ns l = false := by
        simp only [largeB, hb, hb2, Bool.or_false, Bool.or_eq_false_iff]
        exact ⟨decide_eq_false (by omega), decide_eq_false (by omega)⟩
      refine at_exit ?_
      refine at_then_exit ?_
      refine at_then_exit ?_
      refine at_exit_eq ?_
      refine at_normal ?_
      refine hK7 _ _ _ ?_
      refine at_seq_k (fun K11 hK11 => ?_)
      refine at_region ?_
      refine at_v (ov_assign rfl rfl) rfl rfl rfl ?_
      refine at_nil ?_
      refine at_normal ?_
      refine hK11 _ _ _ ?_
      refine at_ret ?_
      refine at_end ?_
      refine at_fin (rsV rfl (res_tmp rfl)) ?_
      refine ⟨_, ⟨by rw [e], rfl⟩, ?_⟩
      exact fun _ s => s.finEq (ks := []) (js := []) rfl rfl rfl
theorem T8a (w0 : World) {A : Option Addr} {c : Nat} {xs : List ByteArray} (hm : xs.length ≤ 100) :
    Tri Tryd.prog w0 8 [.slice A xs.length c] [Row sE 9 1 A c xs] fun v m => ∃ g, v = ptrTo g ∧ m = [Tal g (uniqL xs) (List.replicate (uniqL xs).length 0), Row sE 9 1 A c xs] :=
  (Tri.of_all fun w s' => T8 w (s'.rd (k := 0) rfl) hm).post fun v m ⟨m', ⟨g, h1, h2⟩, h3⟩ => ⟨g, h1, by rw [h3, h2]; rfl⟩
theorem T10a (w0 : World) {A B : Option Addr} {c d : Nat} {xs ys : List ByteArray} (hm : xs.length ≤ 9223372036854775807) (hm2 : ys.length ≤ 9223372036854775807) :
    Tri Tryd.prog w0 10 [.slice A xs.length c, .slice B ys.length d] [Row sE 9 1 A c xs, Row sE 9 1 B d ys] fun v m => v = .bool (decide (xs = ys)) ∧ m = [Row sE 9 1 A c xs, Row sE 9 1 B d ys] :=
  (Tri.of_all fun w s => T10 w (s.rd (k := 0) rfl) (s.rd (k := 1) rfl) hm hm2).post fun v m ⟨m', ⟨h1, h2⟩, h3⟩ => ⟨h1, by rw [h3, h2]; rfl⟩
abbrev sa : ByteArray := ⟨#[97]⟩
abbrev sb : ByteArray := ⟨#[98]⟩
theorem e_uniq : uniqL [sa, sb, sa] = [sa, sb] := by kernel_rfl
theorem e_add1 : addC [sa, sb] [0, 0] sb 2 = [0, 2] := by kernel_rfl
theorem e_add2 : addC [sa, sb] [0, 2] sb 1 = [0, 3] := by kernel_rfl
theorem e_lines : linesL [sa, sb] [0, 3] = [⟨#[98, 32, 51]⟩] := by
  have : itoaB 3 = ⟨#[51]⟩ := by rw [digits_pos (by decide)]; exact digB_small (by decide)
  show [lineOf sb 3] = _
  unfold lineOf; rw [this]; rfl
theorem T6 (w0 : World) (htab : Pow10 w0) : Tri Tryd.prog w0 6 [] [] fun v m => v = .bool true ∧ m = [] := by
  refine tri_of Tryd.func6 rfl rfl fun F => ?_
  simp only [Tryd.ntmps6, argEnv, List.nil_append]
  have hok : okC [0, 3] := by intro n hn; simp at hn; omega
  have hsz : ∀ s ∈ [sa, sb], s.size ≤ 300 := by intro s hs; simp at hs; rcases hs with rfl | rfl <;> decide
  have hNew : ∀ b, Tri Tryd.prog w0 8 [sliceOf 3 b] [Row sE 9 1 (some ⟨b, 0, none⟩) 3 [sa, sb, sa]] fun v m => ∃ g, v = ptrTo g ∧ m = [Tal g [sa, sb] [0, 0], Row sE 9 1 (some ⟨b, 0, none⟩) 3 [sa, sb, sa]] := fun b =>
    T8a w0 (xs := [sa, sb, sa]) (by decide)
  have hAdd1 : ∀ g, Tri Tryd.prog w0 12 [ptrTo g, .string sb, .int .i64 2] [Tal g [sa, sb] [0, 0]] fun v m => v = .bool true ∧ m = [Tal g [sa, sb] [0, 2]] := fun g => T12 w0 sb 2
  have hAdd2 : ∀ g, Tri Tryd.prog w0 12 [ptrTo g, .string sb, .int .i64 1] [Tal g [sa, sb] [0, 2]] fun v m => v = .bool true ∧ m = [Tal g [sa, sb] [0, 3]] := fun g => T12 w0 sb 1
  have hAdd3 : ∀ g, Tri Tryd.prog w0 12 [ptrTo g, .string ⟨#[99]⟩, .int .i64 1] [Tal g [sa, sb] [0, 3]] fun v m => v = .bool false ∧ m = [Tal g [sa, sb] [0, 3]] := fun g => T12 w0 ⟨#[99]⟩ 1
  have hCnt : ∀ g, Tri Tryd.prog w0 16 [ptrTo g, .string sb] [Tal g [sa, sb] [0, 3]] fun v m => v = .tuple #[.int .i64 3, .bool true] ∧ m = [Tal g [sa, sb] [0, 3]] := fun g => T16 w0 sb
  have hNam : ∀ g, Tri Tryd.prog w0 11 [ptrTo g] [Tal g [sa, sb] [0, 3]] fun v m => ∃ B d, v = .slice B 2 d ∧ m = [Row sE 9 1 B d [sa, sb], Tal g [sa, sb] [0, 3]] := fun g => T11 w0
  have hTx1 : ∀ A c b, Tri Tryd.prog w0 10 [.slice A 2 c, sliceOf 2 b] [Row sE 9 1 A c [sa, sb], Row sE 9 1 (some ⟨b, 0, none⟩) 2 [sa, sb]] fun v m => v = .bool true ∧ m = [Row sE 9 1 A c [sa, sb], Row sE 9 1 (some ⟨b, 0, none⟩) 2 [sa, sb]] := fun A c b => by
    have := T10a w0 (A := A) (c := c) (B := some ⟨b, 0, none⟩) (d := 2) (xs := [sa, sb]) (ys := [sa, sb]) (by decide) (by decide)
    simpa using this
  have hLin : ∀ g, Tri Tryd.prog w0 18 [ptrTo g] [Tal g [sa, sb] [0, 3]] fun v m => ∃ B d, v = .slice B 1 d ∧ m = [Row sE 9 1 B d [⟨#[98, 32, 51]⟩], Tal g [sa, sb] [0, 3]] := fun g => by
    have := T18 w0 (g := g) (l := [sa, sb]) (cs := [0, 3]) hsz hok htab
    rw [e_lines] at this
    exact this
  have hTx2 : ∀ A c b, Tri Tryd.prog w0 10 [.slice A 1 c, sliceOf 1 b] [Row sE 9 1 A c [⟨#[98, 32, 51]⟩], Row sE 9 1 (some ⟨b, 0, none⟩) 1 [⟨#[98, 32, 51]⟩]] fun v m => v = .bool true ∧ m = [Row sE 9 1 A c [⟨#[98, 32, 51]⟩], Row sE 9 1 (some ⟨b, 0, none⟩) 1 [⟨#[98, 32, 51]⟩]] := fun A c b => by
    have := T10a w0 (A := A) (c := c) (B := some ⟨b, 0, none⟩) (d := 1) (xs := [⟨#[98, 32, 51]⟩]) (ys := [⟨#[98, 32, 51]⟩]) (by decide) (by decide)
    simpa using this
  have hSw1 : ∀ g, Tri Tryd.prog w0 14 [ptrTo g, .string sa, .int .i64 0, .int .i64 5] [Tal g [sa, sb] [0, 3]] fun v m => v = .bool true ∧ m = [Tal g [sa, sb] [5, 3]] := fun g => T14 w0 sa 0 5
  have hSw2 : ∀ g, Tri Tryd.prog w0 14 [ptrTo g, .string sa, .int .i64 0, .int .i64 5] [Tal g [sa, sb] [5, 3]] fun v m => v = .bool false ∧ m = [Tal g [sa, sb] [5, 3]] := fun g => T14 w0 sa 0 5
  refine at_seq_k (fun K0 hK0 => ?_)
  refine at_region ?_
  refine at_v (ov_assign rfl rfl) rfl rfl rfl ?_
  refine at_nil ?_
  refine at_normal ?_
  refine hK0 _ _ _ ?_
  refine at_seq_k (fun K1 hK1 => ?_)
  refine at_region ?_
  refine at_t (ot_buildSlice (cs := [_, _, _]) rfl Tryd.underlying22 rfl rfl rfl rfl rfl rfl) rfl rfl rfl ?_
  rintro _ _ ⟨g0, rfl, rfl⟩
  refine at_rowOf (c := 3) (size := 1) sE 0 [sa, sb, sa] rfl (by simp [sE]) (by simp) (by decide) (by simp) rfl ?_
  simp only [setAt]
  refine at_t (ot_call (ks := [0]) rfl rfl rfl Tryd.call8 rfl (hNew _) rfl) rfl rfl rfl ?_
  rintro v0 _ ⟨m0, hp0, rfl⟩
  obtain ⟨g1, hp0⟩ := hp0
  obtain ⟨rfl, rfl⟩ := hp0
  simp only [List.cons_append, List.nil_append, splice, spliceL]
  refine at_v (ov_assign rfl rfl) rfl rfl rfl ?_
  refine at_nil ?_
  refine at_normal ?_
  refine hK1 _ _ _ ?_
  refine at_seq_k (fun K2 hK2 => ?_)
  refine at_seq_k (fun K3 hK3 => ?_)
  refine at_region ?_
  refine at_v (ov_move rfl rfl) rfl rfl rfl ?_
  refine at_v (ov_ptr_nil (q := none) rfl Tryd.underlying26 rfl rfl) rfl rfl rfl ?_
  refine at_nil ?_
  refine at_normal ?_
  refine hK3 _ _ _ ?_
  refine at_cond_false rfl ?_
  refine at_skip ?_
  refine at_normal ?_
  refine hK2 _ _ _ ?_
  refine at_seq_k (fun K4 hK4 => ?_)
  refine at_region ?_
  refine at_v (ov_move rfl rfl) rfl rfl rfl ?_
  refine at_t (ot_call (ks := [0]) rfl rfl rfl Tryd.call12 rfl (hAdd1 _) rfl) rfl rfl rfl ?_
  rintro v0 _ ⟨m0, hp0, rfl⟩
  obtain ⟨rfl, rfl⟩ := hp0
  simp only [List.cons_append, List.nil_append, splice, spliceL]
  refine at_nil ?_
  refine at_normal ?_
  refine hK4 _ _ _ ?_
  refine at_seq_k (fun K5 hK5 => ?_)
  refine at_region ?_
  refine at_v (ov_move rfl rfl) rfl rfl rfl ?_
  refine at_t (ot_call (ks := [0]) rfl rfl rfl Tryd.call12 rfl (hAdd2 _) rfl) rfl rfl rfl ?_
  rintro v0 _ ⟨m0, hp0, rfl⟩
  obtain ⟨rfl, rfl⟩ := hp0
  simp only [List.cons_append, List.nil_append, splice, spliceL]
  refine at_v (ov_assign rfl rfl) rfl rfl rfl ?_
  refine at_nil ?_
  refine at_normal ?_
  refine hK5 _ _ _ ?_
  refine at_seq_k (fun K6 hK6 => ?_)
  refine at_region ?_
  refine at_v (ov_move rfl rfl) rfl rfl rfl ?_
  refine at_t (ot_call (ks := [0]) rfl rfl rfl Tryd.call16 rfl (hCnt _) rfl) rfl rfl rfl ?_
  rintro v0 _ ⟨m0, hp0, rfl⟩
  obtain ⟨rfl, rfl⟩ := hp0
  simp only [List.cons_append, List.nil_append, splice, spliceL]
  refine at_v (ov_move rfl rfl) rfl rfl rfl ?_
  refine at_v (ov_extract rfl rfl rfl) rfl rfl rfl ?_
  refine at_v (ov_extract rfl rfl rfl) rfl rfl rfl ?_
  refine at_v (ov_assign rfl rfl) rfl rfl rfl ?_
  refine at_v (ov_assign rfl rfl) rfl rfl rfl ?_
  refine at_nil ?_
  refine at_normal ?_
  refine hK6 _ _ _ ?_
  refine at_seq_k (fun K7 hK7 => ?_)
  refine at_region ?_
  refine at_v (ov_move rfl rfl) rfl rfl rfl ?_
  refine at_v (ov_move rfl rfl) rfl rfl rfl ?_
  refine at_wanted (j := 1) rfl ?_
  refine at_v (ov_move rfl rfl) rfl rfl rfl ?_
  refine at_wanted (j := 1) rfl ?_
  refine at_t (ot_call (ks := [0]) rfl rfl rfl Tryd.call12 rfl (hAdd3 _) rfl) rfl rfl rfl ?_
  rintro v0 _ ⟨m0, hp0, rfl⟩
  obtain ⟨rfl, rfl⟩ := hp0
  simp only [List.cons_append, List.nil_append, splice, spliceL]
  refine at_wanted (j := 1) rfl ?_
  refine at_v (ov_not rfl rfl) rfl rfl rfl ?_
  refine at_v (ov_pick_t rfl rfl rfl) rfl rfl rfl ?_
  refine at_v (ov_move rfl rfl) rfl rfl rfl ?_
  refine at_wanted (j := 6) rfl ?_
  refine at_v (ov_move rfl rfl) rfl rfl rfl ?_
  refine at_wanted (j := 6) rfl ?_
  refine at_v (ov_int rfl rfl rfl rfl) rfl rfl rfl ?_
  refine at_v (ov_pick_t rfl rfl rfl) rfl rfl rfl ?_
  refine at_v (ov_move rfl rfl) rfl rfl rfl ?_
  refine at_wanted (j := 10) rfl ?_
  refine at_v (ov_move rfl rfl) rfl rfl rfl ?_
  refine at_v (ov_pick_t rfl rfl rfl) rfl rfl rfl ?_
  refine at_v (ov_move rfl rfl) rfl rfl rfl ?_
  refine at_wanted (j := 13) rfl ?_
  refine at_v (ov_move rfl rfl) rfl rfl rfl ?_
  refine at_wanted (j := 13) rfl ?_
  refine at_t (ot_call (ks := [0]) rfl rfl rfl Tryd.call11 rfl (hNam _) rfl) rfl rfl rfl ?_
  rintro v0 _ ⟨m0, hp0, rfl⟩
  obtain ⟨B0, hp0⟩ := hp0
  obtain ⟨d0, hp0⟩ := hp0
  obtain ⟨rfl, rfl⟩ := hp0
  simp only [List.cons_append, List.nil_append, splice, spliceL]
  refine at_wanted (j := 13) rfl ?_
  refine at_t (ot_buildSlice (cs := [_, _]) rfl Tryd.underlying22 rfl rfl rfl rfl rfl rfl) rfl rfl rfl ?_
  rintro _ _ ⟨g2, rfl, rfl⟩
  refine at_wanted (j := 13) rfl ?_
  refine at_rowOf (c := 2) (size := 1) sE 0 [sa, sb] rfl (by simp [sE]) (by simp) (by decide) (by simp) rfl ?_
  simp only [setAt]
  refine at_t (ot_call (ks := [1, 0]) rfl rfl rfl Tryd.call10 rfl (hTx1 _ _ _) rfl) rfl rfl rfl ?_
  rintro v0 _ ⟨m0, hp0, rfl⟩
  obtain ⟨rfl, rfl⟩ := hp0
  simp only [List.cons_append, List.nil_append, splice, spliceL]
  refine at_v (ov_pick_t rfl rfl rfl) rfl rfl rfl ?_
  refine at_v (ov_move rfl rfl) rfl rfl rfl ?_
  refine at_wanted (j := 19) rfl ?_
  refine at_v (ov_move rfl rfl) rfl rfl rfl ?_
  refine at_wanted (j := 19) rfl ?_
  refine at_t (ot_call (ks := [2]) rfl rfl rfl Tryd.call18 rfl (hLin _) rfl) rfl rfl rfl ?_
  rintro v0 _ ⟨m0, hp0, rfl⟩
  obtain ⟨B1, hp0⟩ := hp0
  obtain ⟨d1, hp0⟩ := hp0
  obtain ⟨rfl, rfl⟩ := hp0
  simp only [List.cons_append, List.nil_append, splice, spliceL]
  refine at_wanted (j := 19) rfl ?_
  refine at_t (ot_buildSlice (cs := [_]) rfl Tryd.underlying22 rfl rfl rfl rfl rfl rfl) rfl rfl rfl ?_
  rintro _ _ ⟨g3, rfl, rfl⟩
  refine at_wanted (j := 19) rfl ?_
  refine at_rowOf (c := 1) (size := 1) sE 0 [⟨#[98, 32, 51]⟩] rfl (by simp [sE]) (by simp) (by decide) (by simp) rfl ?_
  simp only [setAt]
  refine at_t (ot_call (ks := [1, 0]) rfl rfl rfl Tryd.call10 rfl (hTx2 _ _ _) rfl) rfl rfl rfl ?_
  rintro v0 _ ⟨m0, hp0, rfl⟩
  obtain ⟨rfl, rfl⟩ := hp0
  simp only [List.cons_append, List.nil_append, splice, spliceL]
  refine at_v (ov_pick_t rfl rfl rfl) rfl rfl rfl ?_
  refine at_v (ov_move rfl rfl) rfl rfl rfl ?_
  refine at_wanted (j := 25) rfl ?_
  refine at_v (ov_move rfl rfl) rfl rfl rfl ?_
  refine at_wanted (j := 25) rfl ?_
  refine at_t (ot_call (ks := [2]) rfl rfl rfl Tryd.call14 rfl (hSw1 _) rfl) rfl rfl rfl ?_
  rintro v0 _ ⟨m0, hp0, rfl⟩
  obtain ⟨rfl, rfl⟩ := hp0
  simp only [List.cons_append, List.nil_append, splice, spliceL]
  refine at_v (ov_pick_t rfl rfl rfl) rfl rfl rfl ?_
  refine at_v (ov_move rfl rfl) rfl rfl rfl ?_
  refine at_wanted (j := 29) rfl ?_
  refine at_v (ov_move rfl rfl) rfl rfl rfl ?_
  refine at_wanted (j := 29) rfl ?_
  refine at_t (ot_call (ks := [0]) rfl rfl rfl Tryd.call14 rfl (hSw2 _) rfl) rfl rfl rfl ?_
  rintro v0 _ ⟨m0, hp0, rfl⟩
  obtain ⟨rfl, rfl⟩ := hp0
  simp only [List.cons_append, List.nil_append, splice, spliceL]
  refine at_wanted (j := 29) rfl ?_
  refine at_v (ov_not rfl rfl) rfl rfl rfl ?_
  refine at_v (ov_pick_t rfl rfl rfl) rfl rfl rfl ?_
  refine at_v (ov_assign rfl rfl) rfl rfl rfl ?_
  refine at_nil ?_
  refine at_normal ?_
  refine hK7 _ _ _ ?_
  refine at_ret ?_
  refine at_end ?_
  refine at_fin (rsV rfl (res_tmp rfl)) ?_
  refine ⟨_, ⟨rfl, rfl⟩, ?_⟩
  exact fun _ s => s.finEq (ks := []) (js := [0, 0, 0, 0, 0, 0]) rfl rfl rfl
