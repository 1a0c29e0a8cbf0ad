/- The functions of package tally, walked. -/
import Derived.Test.YtbcackbjajlohaaDoorProg
import Derived.Test.YtbcackbjajlohaaDoorOnce
import Derived.Test.YtbcackbjajlohaaDoorSLStr
import Derived.KernelRfl
set_option linter.unusedSimpArgs false
set_option linter.unusedVariables false
set_option maxRecDepth 100000
namespace Go.Proofs.YtbcackbjajlohaaDoor
open Go Go.Proofs.YtbcackbjajlohaaDoor.SL Go.RowKit
abbrev KS : TypeDesc := .string
abbrev TC (g : Nat) (NA : Option Addr) (n nc cb m : Nat) (dn mu : Int) (mv : Value) : HP := cl g #[.slice NA n nc, .slice (some ⟨cb, 0, none⟩) m m, .int .u32 dn, .int .i32 mu, .int .u32 0, mv] 59
/-- Names, and where they stand. -/
def nkv (l : List ByteArray) (k : Nat) : List (Value × Value) := (l.take k).mapIdx fun i s => (Value.string s, Value.int .i64 (i : Nat))
theorem nkv_succ {l : List ByteArray} {k : Nat} {s : ByteArray} (h : l[k]? = some s) : nkv l (k + 1) = nkv l k ++ [(.string s, .int .i64 (k : Nat))] := by
  have hk := (List.getElem?_eq_some_iff.1 h).1
  unfold nkv
  rw [List.take_add_one, h]
  simp [List.mapIdx_append, Nat.min_eq_left (Nat.le_of_lt hk)]
theorem nkv_no {l : List ByteArray} (hn : l.Nodup) {k : Nat} {s : ByteArray} (h : l[k]? = some s) : ∀ p ∈ nkv l k, p.1 ≠ Value.string s := by
  intro p hp e
  unfold nkv at hp
  obtain ⟨i, hi⟩ := List.getElem?_of_mem hp
  rw [List.getElem?_mapIdx] at hi
  obtain ⟨hk, hs⟩ := List.getElem?_eq_some_iff.1 h
  cases hq : (l.take k)[i]? with
  | none => rw [hq] at hi; cases hi
  | some q =>
    rw [hq] at hi
    simp only [Option.map_some, Option.some.injEq] at hi
    subst hi
    simp only [Value.string.injEq] at e
    subst e
    have hik : i < k := by have := (List.getElem?_eq_some_iff.1 hq).1; rw [List.length_take] at this; omega
    rw [List.getElem?_take, if_pos hik] at hq
    obtain ⟨hi2, hq2⟩ := List.getElem?_eq_some_iff.1 hq
    have := (List.getElem_inj hn).1 (hs.trans hq2.symm)
    omega
theorem T31 (w0 : World) {g b : Nat} {NA : Option Addr} {nc cb m : Nat} {dn mu : Int} {mv : Value} {l : List ByteArray} (hn : l.Nodup) (hl : l.length ≤ 100) :
    Tri Tryd.prog w0 31 [ptrTo b] [cl b #[ptrTo g] 26, TC g NA l.length nc cb m dn mu mv, Row sE 9 1 NA nc l] fun v m' => ∃ mb, v = .tuple #[] ∧ m' = [cl b #[ptrTo g] 26, TC g NA l.length nc cb m dn mu (.map (some mb)), Row sE 9 1 NA nc l, MapA KS mb (nkv l l.length)] := by
  refine tri_of Tryd.func31 rfl rfl fun F => ?_
  simp only [Tryd.ntmps31, argEnv, List.cons_append, List.nil_append]
  refine at_seq_k (fun K0 hK0 => ?_)
  refine at_region ?_
  refine at_v (ov_load rfl rfl rfl (fun _ s => s.ld (k := 0) rfl rfl)) rfl rfl rfl ?_
  refine at_t (ot_makeMap (TypeDesc.string) rfl) rfl rfl rfl ?_
  rintro _ _ ⟨mb0, rfl, rfl⟩
  refine at_v (ov_nilCheck rfl rfl) rfl rfl rfl ?_
  refine at_v (ov_fieldAddr (k := 5) (r := 5) rfl rfl rfl rfl) rfl rfl rfl ?_
  refine at_t0 (ot_store (k := 2) rfl rfl rfl rfl rfl rfl rfl) rfl rfl ?_
  rintro _ _ ⟨rfl, rfl⟩
  simp only [setAt, splice, spliceL, Value.cells]
  refine at_nil ?_
  refine at_normal ?_
  refine hK0 _ _ _ ?_
  refine at_seq_k (fun K1 hK1 => ?_)
  refine at_region ?_
  refine at_v (ov_load rfl rfl rfl (fun _ s => s.ld (k := 1) rfl rfl)) rfl rfl rfl ?_
  refine at_v (ov_nilCheck rfl rfl) rfl rfl rfl ?_
  refine at_v (ov_fieldAddr (k := 0) (r := 0) rfl rfl rfl rfl) rfl rfl rfl ?_
  refine at_v (ov_load rfl rfl rfl (fun _ s => s.ld (k := 2) rfl rfl)) rfl rfl rfl ?_
  refine at_v (ov_len_slice rfl Tryd.underlying22 rfl) rfl rfl rfl ?_
  refine at_v (ov_move rfl rfl) rfl rfl rfl ?_
  refine at_nil ?_
  refine at_normal ?_
  refine hK1 _ _ _ ?_
  refine at_block ?_
  refine at_loopE [13, 14, 15, 16, 1, 2, 17, 18, 19, 20, 21, 22, 23, 12] (fun k => k ≤ l.length) (fun k => [(12, .int .i64 (k : Nat))]) (fun k m => setAt 0 (MapA KS mb0 (nkv l k)) m) (fun k => l.length - k) 0 (Nat.zero_le _) ⟨rfl, trivial⟩ (fun _ s => s) ?_
  intro k hk
  simp only [setAt]
  refine at_seq_k (fun K2 hK2 => ?_)
  refine at_region ?_
  refine at_v (ov_int rfl rfl rfl rfl) rfl rfl rfl ?_
  refine at_nil ?_
  refine at_normal ?_
  refine hK2 _ _ _ ?_
  refine at_seq_k (fun K3 hK3 => ?_)
  refine at_cond rfl (fun hc => ?_) (fun hc => ?_)
  · have hlt : k < l.length := by simpa using hc
    obtain ⟨q, hq⟩ : ∃ q, l[k]? = some q := ⟨_, List.getElem?_eq_getElem hlt⟩
    have hno := nkv_no hn hq
    have hnx := nkv_succ hq
    refine at_skip ?_
    refine at_normal ?_
    refine hK3 _ _ _ ?_
    refine at_seq_k (fun K4 hK4 => ?_)
    refine at_block ?_
    refine at_seq_k (fun K5 hK5 => ?_)
    refine at_region ?_
    refine at_v (ov_move rfl rfl) rfl rfl rfl ?_
    refine at_v (ov_indexRd (fun _ s => s.rd (k := 3) rfl) rfl Tryd.underlying22 rfl rfl rfl hq) rfl rfl rfl ?_
    refine at_v (ov_loadRd0 (fun _ s => s.rd (k := 3) rfl) rfl rfl rfl hq rfl) rfl rfl rfl ?_
    refine at_v (ov_assign rfl rfl) rfl rfl rfl ?_
    refine at_v (ov_assign rfl rfl) rfl rfl rfl ?_
    refine at_nil ?_
    refine at_normal ?_
    refine hK5 _ _ _ ?_
    refine at_region ?_
    refine at_v (ov_load rfl rfl rfl (fun _ s => s.ld (k := 1) rfl rfl)) rfl rfl rfl ?_
    refine at_v (ov_nilCheck rfl rfl) rfl rfl rfl ?_
    refine at_v (ov_fieldAddr (k := 5) (r := 5) rfl rfl rfl rfl) rfl rfl rfl ?_
    refine at_v (ov_load rfl rfl rfl (fun _ s => s.ld (k := 2) rfl rfl)) rfl rfl rfl ?_
    refine at_v (ov_move rfl rfl) rfl rfl rfl ?_
    refine at_v (ov_move rfl rfl) rfl rfl rfl ?_
    refine at_t0 (ot_mapNew (k := 0) rfl Tryd.underlying57 Tryd.underlying9 rfl rfl rfl rfl (by first | rfl | trivial) (by assumption)) rfl rfl ?_
    rintro _ _ ⟨rfl, rfl⟩
    simp only [setAt]
    refine at_nil ?_
    refine at_inb_normal ?_
    refine at_normal ?_
    refine hK4 _ _ _ ?_
    refine at_region ?_
    refine at_v ((ov_int rfl rfl rfl rfl).eq (congrArg (Value.int .i64) (inK_i64 (by omega) (by omega)))) rfl rfl rfl ?_
    refine at_v (ov_move rfl rfl) rfl rfl rfl ?_
    refine at_nil ?_
    refine at_normal ?_
    rw [← hnx]
    refine at_roundF (k + 1) hlt (by omega) ⟨rfl, trivial⟩ rfl ?_
    exact fun _ s => s.finEq (ks := [0, 0, 0, 0]) (js := []) rfl rfl rfl
  · have hk2 : k = l.length := by
      have : ¬ k < l.length := by simpa using hc
      omega
    subst hk2
    refine at_exit ?_
    refine at_then_exit ?_
    refine at_then_exit ?_
    refine at_exit_eq ?_
    refine at_end ?_
    refine at_fin (rs0 rfl) ?_
    refine ⟨_, ⟨mb0, rfl, rfl⟩, ?_⟩
    exact fun _ s => s.finEq (ks := [1, 1, 1, 0]) (js := []) rfl rfl rfl
theorem T37 (w0 : World) {g b : Nat} {NA : Option Addr} {nc cb m : Nat} {mv : Value} {l : List ByteArray} (hn : l.Nodup) (hl : l.length ≤ 100) :
    Tri Tryd.prog w0 37 [.pointer (some ⟨g, 2, none⟩), .func (.func 31) #[] #[ptrTo b]] [cl b #[ptrTo g] 26, TC g NA l.length nc cb m 0 0 mv, Row sE 9 1 NA nc l] fun v m' => ∃ mb, v = .tuple #[] ∧ m' = [cl b #[ptrTo g] 26, TC g NA l.length nc cb m 1 0 (.map (some mb)), Row sE 9 1 NA nc l, MapA KS mb (nkv l l.length)] := by
  refine tri_of Tryd.func37 rfl rfl fun F => ?_
  simp only [Tryd.ntmps37, argEnv, List.cons_append, List.nil_append]
  refine at_seq_k (fun K0 hK0 => ?_)
  refine at_region ?_
  refine at_v (ov_move rfl rfl) rfl rfl rfl ?_
  refine at_v (ov_nilCheck rfl rfl) rfl rfl rfl ?_
  refine at_v (ov_fieldAddr (k := 1) (r := 3) rfl rfl rfl rfl) rfl rfl rfl ?_
  refine at_t (ot_call (ks := [1]) rfl rfl rfl Tryd.call43 rfl (T43 _ (by first | assumption | rfl | omega | decide | (simp; done) | (simp at *; omega))) rfl) rfl rfl rfl ?_
  rintro v0 _ ⟨m0, hp0, rfl⟩
  obtain ⟨rfl, rfl⟩ := hp0
  simp only [List.cons_append, List.nil_append, splice, spliceL]
  refine at_nil ?_
  refine at_normal ?_
  refine hK0 _ _ _ ?_
  refine at_seq_k (fun K1 hK1 => ?_)
  refine at_region ?_
  refine at_v (ov_move rfl rfl) rfl rfl rfl ?_
  refine at_v (ov_nilCheck rfl rfl) rfl rfl rfl ?_
  refine at_v (ov_fieldAddr (k := 1) (r := 3) rfl rfl rfl rfl) rfl rfl rfl ?_
  refine at_defer (first := []) (caps := []) rfl rfl rfl rfl rfl ?_
  refine at_nil ?_
  refine at_normal ?_
  refine hK1 _ _ _ ?_
  refine at_seq_k (fun K2 hK2 => ?_)
  refine at_region ?_
  refine at_v (ov_move rfl rfl) rfl rfl rfl ?_
  refine at_v (ov_nilCheck rfl rfl) rfl rfl rfl ?_
  refine at_v (ov_fieldAddr (k := 0) (r := 2) rfl rfl rfl rfl) rfl rfl rfl ?_
  refine at_t (ot_call (ks := [0]) rfl rfl rfl Tryd.call36 rfl (T36 _ (by first | assumption | rfl | omega | decide | (simp; done) | (simp at *; omega))) rfl) rfl rfl rfl ?_
  rintro v0 _ ⟨m0, hp0, rfl⟩
  obtain ⟨rfl, rfl⟩ := hp0
  simp only [List.cons_append, List.nil_append, splice, spliceL]
  refine at_v (ov_not rfl rfl) rfl rfl rfl ?_
  refine at_nil ?_
  refine at_normal ?_
  refine hK2 _ _ _ ?_
  refine at_cond_true rfl ?_
  refine at_seq_k (fun K3 hK3 => ?_)
  refine at_region ?_
  refine at_v (ov_move rfl rfl) rfl rfl rfl ?_
  refine at_v (ov_nilCheck rfl rfl) rfl rfl rfl ?_
  refine at_v (ov_fieldAddr (k := 0) (r := 2) rfl rfl rfl rfl) rfl rfl rfl ?_
  refine at_defer (first := []) (caps := []) rfl rfl rfl rfl rfl ?_
  refine at_nil ?_
  refine at_normal ?_
  refine hK3 _ _ _ ?_
  refine at_region ?_
  refine at_v (ov_move rfl rfl) rfl rfl rfl ?_
  refine at_t (ot_call (ks := [1, 0, 0]) rfl rfl rfl Tryd.call31 rfl (T31 _ (by first | assumption | rfl | omega | decide | (simp; done) | (simp at *; omega)) (by first | assumption | rfl | omega | decide | (simp; done) | (simp at *; omega))) rfl) rfl rfl rfl ?_
  rintro v0 _ ⟨m0, hp0, rfl⟩
  obtain ⟨mb0, hp0⟩ := hp0
  obtain ⟨rfl, rfl⟩ := hp0
  simp only [List.cons_append, List.nil_append, splice, spliceL]
  refine at_nil ?_
  refine at_end ?_
  refine at_leave (vs := [.pointer (some ⟨g, 2, none⟩), .bool true]) (ks := [1]) Tryd.call45 rfl (D45 w0 (u := .int .u32 0) rfl) rfl ?_
  rintro _ _ ⟨rfl, rfl⟩
  simp only [List.cons_append, List.nil_append, splice, spliceL]
  refine at_leave (vs := [.pointer (some ⟨g, 3, none⟩)]) (ks := [0]) Tryd.call44 rfl (D44 w0 rfl) rfl ?_
  rintro _ _ ⟨rfl, rfl⟩
  simp only [List.cons_append, List.nil_append, splice, spliceL]
  refine at_fin (rs0 rfl) ?_
  refine ⟨_, ⟨mb0, rfl, rfl⟩, ?_⟩
  exact fun _ s => s.finEq (ks := [1, 0, 0, 0]) (js := []) rfl rfl rfl
theorem T30 (w0 : World) {g b : Nat} {NA : Option Addr} {n nc cb m : Nat} {mv : Value} :
    Tri Tryd.prog w0 30 [.pointer (some ⟨g, 2, none⟩), .func (.func 31) #[] #[ptrTo b]] [TC g NA n nc cb m 1 0 mv] fun v m' => v = .tuple #[] ∧ m' = [TC g NA n nc cb m 1 0 mv] := by
  refine tri_of Tryd.func30 rfl rfl fun F => ?_
  simp only [Tryd.ntmps30, argEnv, List.cons_append, List.nil_append]
  refine at_seq_k (fun K0 hK0 => ?_)
  refine at_region ?_
  refine at_v (ov_move rfl rfl) rfl rfl rfl ?_
  refine at_v (ov_nilCheck rfl rfl) rfl rfl rfl ?_
  refine at_v (ov_fieldAddr (k := 0) (r := 2) rfl rfl rfl rfl) rfl rfl rfl ?_
  refine at_t (ot_call (ks := [0]) rfl rfl rfl Tryd.call36 rfl (T36 _ (by first | assumption | rfl | omega | decide | (simp; done) | (simp at *; omega))) rfl) rfl rfl rfl ?_
  rintro v0 _ ⟨m0, hp0, rfl⟩
  obtain ⟨rfl, rfl⟩ := hp0
  simp only [List.cons_append, List.nil_append, splice, spliceL]
  refine at_v (ov_not rfl rfl) rfl rfl rfl ?_
  refine at_nil ?_
  refine at_normal ?_
  refine hK0 _ _ _ ?_
  refine at_cond_false rfl ?_
  refine at_skip ?_
  refine at_end ?_
  refine at_fin (rs0 rfl) ?_
  refine ⟨_, ⟨rfl, rfl⟩, ?_⟩
  exact fun _ s => s.finEq (ks := [0]) (js := []) rfl rfl rfl
theorem T30a (w0 : World) {g b : Nat} {NA : Option Addr} {nc cb m : Nat} {mv : Value} {l : List ByteArray} (hn : l.Nodup) (hl : l.length ≤ 100) :
    Tri Tryd.prog w0 30 [.pointer (some ⟨g, 2, none⟩), .func (.func 31) #[] #[ptrTo b]] [cl b #[ptrTo g] 26, TC g NA l.length nc cb m 0 0 mv, Row sE 9 1 NA nc l] fun v m' => ∃ mb, v = .tuple #[] ∧ m' = [cl b #[ptrTo g] 26, TC g NA l.length nc cb m 1 0 (.map (some mb)), Row sE 9 1 NA nc l, MapA KS mb (nkv l l.length)] := by
  refine tri_of Tryd.func30 rfl rfl fun F => ?_
  simp only [Tryd.ntmps30, argEnv, List.cons_append, List.nil_append]
  refine at_seq_k (fun K0 hK0 => ?_)
  refine at_region ?_
  refine at_v (ov_move rfl rfl) rfl rfl rfl ?_
  refine at_v (ov_nilCheck rfl rfl) rfl rfl rfl ?_
  refine at_v (ov_fieldAddr (k := 0) (r := 2) rfl rfl rfl rfl) rfl rfl rfl ?_
  refine at_t (ot_call (ks := [1]) rfl rfl rfl Tryd.call36 rfl (T36 _ (by first | assumption | rfl | omega | decide | (simp; done) | (simp at *; omega))) rfl) rfl rfl rfl ?_
  rintro v0 _ ⟨m0, hp0, rfl⟩
  obtain ⟨rfl, rfl⟩ := hp0
  simp only [List.cons_append, List.nil_append, splice, spliceL]
  refine at_v (ov_not rfl rfl) rfl rfl rfl ?_
  refine at_nil ?_
  refine at_normal ?_
  refine hK0 _ _ _ ?_
  refine at_cond_true rfl ?_
  refine at_region ?_
  refine at_v (ov_move rfl rfl) rfl rfl rfl ?_
  refine at_v (ov_move rfl rfl) rfl rfl rfl ?_
  refine at_t (ot_call (ks := [1, 0, 0]) rfl rfl rfl Tryd.call37 rfl (T37 _ (by first | assumption | rfl | omega | decide | (simp; done) | (simp at *; omega)) (by first | assumption | rfl | omega | decide | (simp; done) | (simp at *; omega))) rfl) rfl rfl rfl ?_
  rintro v0 _ ⟨m0, hp0, rfl⟩
  obtain ⟨mb0, hp0⟩ := hp0
  obtain ⟨rfl, rfl⟩ := hp0
  simp only [List.cons_append, List.nil_append, splice, spliceL]
  refine at_nil ?_
  refine at_end ?_
  refine at_fin (rs0 rfl) ?_
  refine ⟨_, ⟨mb0, rfl, rfl⟩, ?_⟩
  exact fun _ s => s.finEq (ks := [0, 0, 0, 0]) (js := []) rfl rfl rfl
def posS (l : List ByteArray) (s : ByteArray) : Option Nat := l.findIdx? fun x => decide (x = s)
theorem posS_some {l : List ByteArray} {s : ByteArray} {k : Nat} (h : posS l s = some k) : l[k]? = some s := by
  obtain ⟨h1, h2, _⟩ := List.findIdx?_eq_some_iff_getElem.1 h
  rw [List.getElem?_eq_getElem h1]
  simpa using h2
theorem posS_none {l : List ByteArray} {s : ByteArray} (h : posS l s = none) : s ∉ l := fun hm => by
  have := (List.findIdx?_eq_none_iff.1 h) s hm
  simp at this
theorem nkv_get {l : List ByteArray} {s : ByteArray} {k : Nat} (h : l[k]? = some s) : (nkv l l.length)[k]? = some (.string s, .int .i64 (k : Nat)) := by
  unfold nkv
  rw [List.take_length, List.getElem?_mapIdx, h]; rfl
theorem nkv_none {l : List ByteArray} {s : ByteArray} (h : s ∉ l) : ∀ p ∈ nkv l l.length, p.1 ≠ Value.string s := by
  intro p hp e
  unfold nkv at hp
  rw [List.take_length] at hp
  obtain ⟨i, hi⟩ := List.getElem?_of_mem hp
  rw [List.getElem?_mapIdx] at hi
  cases hq : l[i]? with
  | none => rw [hq] at hi; cases hi
  | some q =>
    rw [hq] at hi
    simp only [Option.map_some, Option.some.injEq] at hi
    subst hi
    simp only [Value.string.injEq] at e
    subst e
    exact h (List.mem_of_getElem? hq)
def ofV (cb : Nat) (l : List ByteArray) (s : ByteArray) : Value := match posS l s with | some k => .pointer (some ⟨cb, k, none⟩) | none => .pointer none
theorem T23 (w0 : World) {g : Nat} {NA : Option Addr} {nc cb mb : Nat} {l : List ByteArray} (s : ByteArray) :
    Tri Tryd.prog w0 23 [ptrTo g, .string s] [TC g NA l.length nc cb l.length 1 0 (.map (some mb)), MapA KS mb (nkv l l.length)] fun v m' => v = ofV cb l s ∧ m' = [TC g NA l.length nc cb l.length 1 0 (.map (some mb)), MapA KS mb (nkv l l.length)] := by
  refine tri_of Tryd.func23 rfl rfl fun F => ?_
  simp only [Tryd.ntmps23, argEnv, List.cons_append, List.nil_append]
  unfold ofV
  cases hp : posS l s with
  | none =>
    have hno := nkv_none (posS_none hp)
    refine at_seq_k (fun K0 hK0 => ?_)
    refine at_region ?_
    refine at_t (ot_box1 rfl rfl rfl) rfl rfl rfl ?_
    rintro _ _ ⟨g0, rfl, rfl⟩
    refine at_v (ov_assign rfl rfl) rfl rfl rfl ?_
    refine at_nil ?_
    refine at_normal ?_
    refine hK0 _ _ _ ?_
    refine at_seq_k (fun K1 hK1 => ?_)
    refine at_region ?_
    refine at_v (ov_load rfl rfl rfl (fun _ s => s.ld (k := 0) rfl rfl)) rfl rfl rfl ?_
    refine at_v (ov_nilCheck rfl rfl) rfl rfl rfl ?_
    refine at_v (ov_fieldAddr (k := 2) (r := 2) rfl rfl rfl rfl) rfl rfl rfl ?_
    refine at_v (ov_makeFunc (first := []) rfl rfl rfl) rfl rfl rfl ?_
    refine at_t (ot_call (ks := [1]) rfl rfl rfl Tryd.call30 rfl (T30 _) rfl) rfl rfl rfl ?_
    rintro v0 _ ⟨m0, hp0, rfl⟩
    obtain ⟨rfl, rfl⟩ := hp0
    simp only [List.cons_append, List.nil_append, splice, spliceL]
    refine at_nil ?_
    refine at_normal ?_
    refine hK1 _ _ _ ?_
    refine at_seq_k (fun K2 hK2 => ?_)
    refine at_region ?_
    refine at_v (ov_load rfl rfl rfl (fun _ s => s.ld (k := 1) rfl rfl)) rfl rfl rfl ?_
    refine at_v (ov_nilCheck rfl rfl) rfl rfl rfl ?_
    refine at_v (ov_fieldAddr (k := 5) (r := 5) rfl rfl rfl rfl) rfl rfl rfl ?_
    refine at_v (ov_load rfl rfl rfl (fun _ s => s.ld (k := 0) rfl rfl)) rfl rfl rfl ?_
    refine at_v (ov_move rfl rfl) rfl rfl rfl ?_
    refine at_v (ov_lookupNo (k := 2) rfl Tryd.underlying57 Tryd.underlying9 Tryd.zeroValue3 rfl rfl rfl (by first | rfl | trivial) (by assumption)) rfl rfl rfl ?_
    refine at_v (ov_move rfl rfl) rfl rfl rfl ?_
    refine at_v (ov_extract rfl rfl rfl) rfl rfl rfl ?_
    refine at_v (ov_extract rfl rfl rfl) rfl rfl rfl ?_
    refine at_v (ov_assign rfl rfl) rfl rfl rfl ?_
    refine at_v (ov_assign rfl rfl) rfl rfl rfl ?_
    refine at_nil ?_
    refine at_normal ?_
    refine hK2 _ _ _ ?_
    refine at_seq_k (fun K3 hK3 => ?_)
    refine at_seq_k (fun K4 hK4 => ?_)
    refine at_region ?_
    refine at_v (ov_move rfl rfl) rfl rfl rfl ?_
    refine at_v (ov_not rfl rfl) rfl rfl rfl ?_
    refine at_nil ?_
    refine at_normal ?_
    refine hK4 _ _ _ ?_
    refine at_cond_true rfl ?_
    refine at_seq_k (fun K5 hK5 => ?_)
    refine at_region ?_
    refine at_v (ov_assign rfl rfl) rfl rfl rfl ?_
    refine at_nil ?_
    refine at_normal ?_
    refine hK5 _ _ _ ?_
    refine at_ret ?_
    refine at_then_ret ?_
    refine at_end ?_
    refine at_fin (rsV rfl (res_tmp rfl)) ?_
    refine ⟨_, ⟨rfl, rfl⟩, ?_⟩
    exact fun _ s => s.finEq (ks := [0, 1]) (js := [0]) rfl rfl rfl
  | some k =>
    have hkv := nkv_get (posS_some hp)
    have hlt : k < l.length := (List.getElem?_eq_some_iff.1 (posS_some hp)).1
    refine at_seq_k (fun K0 hK0 => ?_)
    refine at_region ?_
    refine at_t (ot_box1 rfl rfl rfl) rfl rfl rfl ?_
    rintro _ _ ⟨g0, rfl, rfl⟩
    refine at_v (ov_assign rfl rfl) rfl rfl rfl ?_
    refine at_nil ?_
    refine at_normal ?_
    refine hK0 _ _ _ ?_
    refine at_seq_k (fun K1 hK1 => ?_)
    refine at_region ?_
    refine at_v (ov_load rfl rfl rfl (fun _ s => s.ld (k := 0) rfl rfl)) rfl rfl rfl ?_
    refine at_v (ov_nilCheck rfl rfl) rfl rfl rfl ?_
    refine at_v (ov_fieldAddr (k := 2) (r := 2) rfl rfl rfl rfl) rfl rfl rfl ?_
    refine at_v (ov_makeFunc (first := []) rfl rfl rfl) rfl rfl rfl ?_
    refine at_t (ot_call (ks := [1]) rfl rfl rfl Tryd.call30 rfl (T30 _) rfl) rfl rfl rfl ?_
    rintro v0 _ ⟨m0, hp0, rfl⟩
    obtain ⟨rfl, rfl⟩ := hp0
    simp only [List.cons_append, List.nil_append, splice, spliceL]
    refine at_nil ?_
    refine at_normal ?_
    refine hK1 _ _ _ ?_
    refine at_seq_k (fun K2 hK2 => ?_)
    refine at_region ?_
    refine at_v (ov_load rfl rfl rfl (fun _ s => s.ld (k := 1) rfl rfl)) rfl rfl rfl ?_
    refine at_v (ov_nilCheck rfl rfl) rfl rfl rfl ?_
    refine at_v (ov_fieldAddr (k := 5) (r := 5) rfl rfl rfl rfl) rfl rfl rfl ?_
    refine at_v (ov_load rfl rfl rfl (fun _ s => s.ld (k := 0) rfl rfl)) rfl rfl rfl ?_
    refine at_v (ov_move rfl rfl) rfl rfl rfl ?_
    refine at_v (ov_lookupOk (k := 2) rfl Tryd.underlying57 Tryd.underlying9 rfl rfl rfl (by first | rfl | trivial) hkv) rfl rfl rfl ?_
    refine at_v (ov_move rfl rfl) rfl rfl rfl ?_
    refine at_v (ov_extract rfl rfl rfl) rfl rfl rfl ?_
    refine at_v (ov_extract rfl rfl rfl) rfl rfl rfl ?_
    refine at_v (ov_assign rfl rfl) rfl rfl rfl ?_
    refine at_v (ov_assign rfl rfl) rfl rfl rfl ?_
    refine at_nil ?_
    refine at_normal ?_
    refine hK2 _ _ _ ?_
    refine at_seq_k (fun K3 hK3 => ?_)
    refine at_seq_k (fun K4 hK4 => ?_)
    refine at_region ?_
    refine at_v (ov_move rfl rfl) rfl rfl rfl ?_
    refine at_v (ov_not rfl rfl) rfl rfl rfl ?_
    refine at_nil ?_
    refine at_normal ?_
    refine hK4 _ _ _ ?_
    refine at_cond_false rfl ?_
    refine at_skip ?_
    refine at_normal ?_
    refine hK3 _ _ _ ?_
    refine at_seq_k (fun K5 hK5 => ?_)
    refine at_region ?_
    refine at_v (ov_load rfl rfl rfl (fun _ s => s.ld (k := 1) rfl rfl)) rfl rfl rfl ?_
    refine at_v (ov_nilCheck rfl rfl) rfl rfl rfl ?_
    refine at_v (ov_fieldAddr (k := 1) (r := 1) rfl rfl rfl rfl) rfl rfl rfl ?_
    refine at_v (ov_load rfl rfl rfl (fun _ s => s.ld (k := 0) rfl rfl)) rfl rfl rfl ?_
    refine at_v (ov_move rfl rfl) rfl rfl rfl ?_
    refine at_v (ov_indexAddr rfl Tryd.underlying44 rfl rfl rfl (by omega) (by omega)) rfl rfl rfl ?_
    refine at_v (ov_assign rfl rfl) rfl rfl rfl ?_
    refine at_nil ?_
    refine at_normal ?_
    refine hK5 _ _ _ ?_
    refine at_ret ?_
    refine at_end ?_
    refine at_fin (rsV rfl (res_tmp rfl)) ?_
    refine ⟨_, ⟨?_, rfl⟩, ?_⟩
    · show Value.pointer (some ((⟨cb, 0, none⟩ : Addr).add ((k : Int).toNat * 1))) = _
      rw [add_none]
      simp
    exact fun _ s => s.finEq (ks := [0, 1]) (js := [0]) rfl rfl rfl
theorem T23a (w0 : World) {g : Nat} {NA : Option Addr} {nc cb : Nat} {l : List ByteArray} (s : ByteArray) (hn : l.Nodup) (hl : l.length ≤ 100) :
    Tri Tryd.prog w0 23 [ptrTo g, .string s] [TC g NA l.length nc cb l.length 0 0 (.map none), Row sE 9 1 NA nc l] fun v m' => ∃ mb, v = ofV cb l s ∧ m' = [TC g NA l.length nc cb l.length 1 0 (.map (some mb)), MapA KS mb (nkv l l.length), Row sE 9 1 NA nc l] := by
  refine tri_of Tryd.func23 rfl rfl fun F => ?_
  simp only [Tryd.ntmps23, argEnv, List.cons_append, List.nil_append]
  unfold ofV
  cases hp : posS l s with
  | none =>
    have hno := nkv_none (posS_none hp)
    refine at_seq_k (fun K0 hK0 => ?_)
    refine at_region ?_
    refine at_t (ot_box1 rfl rfl rfl) rfl rfl rfl ?_
    rintro _ _ ⟨g0, rfl, rfl⟩
    refine at_v (ov_assign rfl rfl) rfl rfl rfl ?_
    refine at_nil ?_
    refine at_normal ?_
    refine hK0 _ _ _ ?_
    refine at_seq_k (fun K1 hK1 => ?_)
    refine at_region ?_
    refine at_v (ov_load rfl rfl rfl (fun _ s => s.ld (k := 0) rfl rfl)) rfl rfl rfl ?_
    refine at_v (ov_nilCheck rfl rfl) rfl rfl rfl ?_
    refine at_v (ov_fieldAddr (k := 2) (r := 2) rfl rfl rfl rfl) rfl rfl rfl ?_
    refine at_v (ov_makeFunc (first := []) rfl rfl rfl) rfl rfl rfl ?_
    refine at_t (ot_call (ks := [0, 0, 0]) rfl rfl rfl Tryd.call30 rfl (T30a _ (by first | assumption | rfl | omega | decide | (simp; done) | (simp at *; omega)) (by first | assumption | rfl | omega | decide | (simp; done) | (simp at *; omega))) rfl) rfl rfl rfl ?_
    rintro v0 _ ⟨m0, hp0, rfl⟩
    obtain ⟨mb0, hp0⟩ := hp0
    obtain ⟨rfl, rfl⟩ := hp0
    simp only [List.cons_append, List.nil_append, splice, spliceL]
    refine at_nil ?_
    refine at_normal ?_
    refine hK1 _ _ _ ?_
    refine at_seq_k (fun K2 hK2 => ?_)
    refine at_region ?_
    refine at_v (ov_load rfl rfl rfl (fun _ s => s.ld (k := 0) rfl rfl)) rfl rfl rfl ?_
    refine at_v (ov_nilCheck rfl rfl) rfl rfl rfl ?_
    refine at_v (ov_fieldAddr (k := 5) (r := 5) rfl rfl rfl rfl) rfl rfl rfl ?_
    refine at_v (ov_load rfl rfl rfl (fun _ s => s.ld (k := 1) rfl rfl)) rfl rfl rfl ?_
    refine at_v (ov_move rfl rfl) rfl rfl rfl ?_
    refine at_v (ov_lookupNo (k := 3) rfl Tryd.underlying57 Tryd.underlying9 Tryd.zeroValue3 rfl rfl rfl (by first | rfl | trivial) (by assumption)) rfl rfl rfl ?_
    refine at_v (ov_move rfl rfl) rfl rfl rfl ?_
    refine at_v (ov_extract rfl rfl rfl) rfl rfl rfl ?_
    refine at_v (ov_extract rfl rfl rfl) rfl rfl rfl ?_
    refine at_v (ov_assign rfl rfl) rfl rfl rfl ?_
    refine at_v (ov_assign rfl rfl) rfl rfl rfl ?_
    refine at_nil ?_
    refine at_normal ?_
    refine hK2 _ _ _ ?_
    refine at_seq_k (fun K3 hK3 => ?_)
    refine at_seq_k (fun K4 hK4 => ?_)
    refine at_region ?_
    refine at_v (ov_move rfl rfl) rfl rfl rfl ?_
    refine at_v (ov_not rfl rfl) rfl rfl rfl ?_
    refine at_nil ?_
    refine at_normal ?_
    refine hK4 _ _ _ ?_
    refine at_cond_true rfl ?_
    refine at_seq_k (fun K5 hK5 => ?_)
    refine at_region ?_
    refine at_v (ov_assign rfl rfl) rfl rfl rfl ?_
    refine at_nil ?_
    refine at_normal ?_
    refine hK5 _ _ _ ?_
    refine at_ret ?_
    refine at_then_ret ?_
    refine at_end ?_
    refine at_fin (rsV rfl (res_tmp rfl)) ?_
    refine ⟨_, ⟨mb0, rfl, rfl⟩, ?_⟩
    exact fun _ s => s.finEq (ks := [1, 2, 1]) (js := [0]) rfl rfl rfl
  | some k =>
    have hkv := nkv_get (posS_some hp)
    have hlt : k < l.length := (List.getElem?_eq_some_iff.1 (posS_some hp)).1
    refine at_seq_k (fun K0 hK0 => ?_)
    refine at_region ?_
    refine at_t (ot_box1 rfl rfl rfl) rfl rfl rfl ?_
    rintro _ _ ⟨g0, rfl, rfl⟩
    refine at_v (ov_assign rfl rfl) rfl rfl rfl ?_
    refine at_nil ?_
    refine at_normal ?_
    refine hK0 _ _ _ ?_
    refine at_seq_k (fun K1 hK1 => ?_)
    refine at_region ?_
    refine at_v (ov_load rfl rfl rfl (fun _ s => s.ld (k := 0) rfl rfl)) rfl rfl rfl ?_
    refine at_v (ov_nilCheck rfl rfl) rfl rfl rfl ?_
    refine at_v (ov_fieldAddr (k := 2) (r := 2) rfl rfl rfl rfl) rfl rfl rfl ?_
    refine at_v (ov_makeFunc (first := []) rfl rfl rfl) rfl rfl rfl ?_
    refine at_t (ot_call (ks := [0, 0, 0]) rfl rfl rfl Tryd.call30 rfl (T30a _ (by first | assumption | rfl | omega | decide | (simp; done) | (simp at *; omega)) (by first | assumption | rfl | omega | decide | (simp; done) | (simp at *; omega))) rfl) rfl rfl rfl ?_
    rintro v0 _ ⟨m0, hp0, rfl⟩
    obtain ⟨mb0, hp0⟩ := hp0
    obtain ⟨rfl, rfl⟩ := hp0
    simp only [List.cons_append, List.nil_append, splice, spliceL]
    refine at_nil ?_
    refine at_normal ?_
    refine hK1 _ _ _ ?_
    refine at_seq_k (fun K2 hK2 => ?_)
    refine at_region ?_
    refine at_v (ov_load rfl rfl rfl (fun _ s => s.ld (k := 0) rfl rfl)) rfl rfl rfl ?_
    refine at_v (ov_nilCheck rfl rfl) rfl rfl rfl ?_
    refine at_v (ov_fieldAddr (k := 5) (r := 5) rfl rfl rfl rfl) rfl rfl rfl ?_
    refine at_v (ov_load rfl rfl rfl (fun _ s => s.ld (k := 1) rfl rfl)) rfl rfl rfl ?_
    refine at_v (ov_move rfl rfl) rfl rfl rfl ?_
    refine at_v (ov_lookupOk (k := 3) rfl Tryd.underlying57 Tryd.underlying9 rfl rfl rfl (by first | rfl | trivial) hkv) rfl rfl rfl ?_
    refine at_v (ov_move rfl rfl) rfl rfl rfl ?_
    refine at_v (ov_extract rfl rfl rfl) rfl rfl rfl ?_
    refine at_v (ov_extract rfl rfl rfl) rfl rfl rfl ?_
    refine at_v (ov_assign rfl rfl) rfl rfl rfl ?_
    refine at_v (ov_assign rfl rfl) rfl rfl rfl ?_
    refine at_nil ?_
    refine at_normal ?_
    refine hK2 _ _ _ ?_
    refine at_seq_k (fun K3 hK3 => ?_)
    refine at_seq_k (fun K4 hK4 => ?_)
    refine at_region ?_
    refine at_v (ov_move rfl rfl) rfl rfl rfl ?_
    refine at_v (ov_not rfl rfl) rfl rfl rfl ?_
    refine at_nil ?_
    refine at_normal ?_
    refine hK4 _ _ _ ?_
    refine at_cond_false rfl ?_
    refine at_skip ?_
    refine at_normal ?_
    refine hK3 _ _ _ ?_
    refine at_seq_k (fun K5 hK5 => ?_)
    refine at_region ?_
    refine at_v (ov_load rfl rfl rfl (fun _ s => s.ld (k := 0) rfl rfl)) rfl rfl rfl ?_
    refine at_v (ov_nilCheck rfl rfl) rfl rfl rfl ?_
    refine at_v (ov_fieldAddr (k := 1) (r := 1) rfl rfl rfl rfl) rfl rfl rfl ?_
    refine at_v (ov_load rfl rfl rfl (fun _ s => s.ld (k := 1) rfl rfl)) rfl rfl rfl ?_
    refine at_v (ov_move rfl rfl) rfl rfl rfl ?_
    refine at_v (ov_indexAddr rfl Tryd.underlying44 rfl rfl rfl (by omega) (by omega)) rfl rfl rfl ?_
    refine at_v (ov_assign rfl rfl) rfl rfl rfl ?_
    refine at_nil ?_
    refine at_normal ?_
    refine hK5 _ _ _ ?_
    refine at_ret ?_
    refine at_end ?_
    refine at_fin (rsV rfl (res_tmp rfl)) ?_
    refine ⟨_, ⟨mb0, ?_, rfl⟩, ?_⟩
    · show Value.pointer (some ((⟨cb, 0, none⟩ : Addr).add ((k : Int).toNat * 1))) = _
      rw [add_none]
      simp
    exact fun _ s => s.finEq (ks := [1, 2, 1]) (js := [0]) rfl rfl rfl
