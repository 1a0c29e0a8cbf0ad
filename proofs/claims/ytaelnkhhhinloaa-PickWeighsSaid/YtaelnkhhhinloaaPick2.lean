/- The statements of layer 11 (pick): contracts over rows that are held; awake; PickTells. -/
import Derived.Test.YtaelnkhhhinloaaProg
import Derived.Test.YtaelnkhhhinloaaPick
import Derived.Test.YtaelnkhhhinloaaSLRange
import Derived.KernelRfl
set_option linter.unusedSimpArgs false
set_option linter.unusedVariables false
set_option maxRecDepth 100000
namespace Go.Proofs.Ytaelnkhhhinloaa
open Go Go.Proofs.Ytaelnkhhhinloaa.SL Go.RowKit
theorem T7a (w0 : World) {A : Option Addr} {c c' : Nat} {xs : List Int} (hm : xs.length ≤ 1000) :
    Tri Try.prog w0 7 [.slice A xs.length c] [Row wE 3 1 A c' xs] fun v m => v = .bool (rightB xs) ∧ m = [Row wE 3 1 A c' xs] :=
  (Tri.of_all fun w s => T7 w (s.rd (k := 0) rfl) (by omega)).post fun v m ⟨m', ⟨h1, h2⟩, h3⟩ => ⟨h1, by rw [h3, h2]; rfl⟩
theorem T12a (w0 : World) {A : Option Addr} {c c' : Nat} {xs : List Int} (hm : xs.length ≤ 1000) (hb : xs.any badB = false) :
    Tri Try.prog w0 12 [.slice A xs.length c] [Row wE 3 1 A c' xs] fun v m => v = .int .i64 xs.sum ∧ m = [Row wE 3 1 A c' xs] :=
  (Tri.of_all fun w s => T12 w (s.rd (k := 0) rfl) hm hb).post fun v m ⟨m', ⟨h1, h2⟩, h3⟩ => ⟨h1, by rw [h3, h2]; rfl⟩
theorem T14a (w0 : World) {A : Option Addr} {c c' : Nat} {xs : List Int} {d : Int} (hm : xs.length ≤ 1000) (hb : xs.any badB = false) (hd0 : 0 ≤ d) (hd1 : d < 18446744073709551616) :
    Tri Try.prog w0 14 [.slice A xs.length c, .int .u64 d] [Row wE 3 1 A c' xs] fun v m => v = .int .i64 (pickV xs d) ∧ m = [Row wE 3 1 A c' xs] :=
  (Tri.of_all fun w s => T14 w (s.rd (k := 0) rfl) hm hb hd0 hd1).post fun v m ⟨m', ⟨h1, h2⟩, h3⟩ => ⟨h1, by rw [h3, h2]; rfl⟩
theorem T14b (w0 : World) {d : Int} (hd0 : 0 ≤ d) (hd1 : d < 18446744073709551616) : Tri Try.prog w0 14 [.slice none 0 0, .int .u64 d] [] fun v m => v = .int .i64 (-1) ∧ m = [] :=
  T14 (xs := []) w0 (Rd.nil _ _ _ _) (by decide) rfl hd0 hd1
theorem T10a (w0 : World) {A B : Option Addr} {c d c' d' : Nat} {xs : List Int} {ms : List Bool} (hm : xs.length ≤ 1000) (hm2 : ms.length ≤ 1000) :
    Tri Try.prog w0 10 [.slice A xs.length c, .slice B ms.length d] [Row wE 3 1 A c' xs, Row mE 4 1 B d' ms] fun v m => ∃ C e, v = .slice C (onlyL xs ms).length e ∧ m = [Row wE 3 1 C e (onlyL xs ms), Row wE 3 1 A c' xs, Row mE 4 1 B d' ms] :=
  (Tri.of_all fun w s => T10 w (s.rd (k := 0) rfl) (s.rd (k := 1) rfl) hm hm2).post fun v m ⟨m', ⟨C, e, h1, h2⟩, h3⟩ => ⟨C, e, h1, by rw [h3, h2]; rfl⟩
theorem T9a (w0 : World) {A B : Option Addr} {c d c' d' : Nat} {xs ys : List Int} (hm : xs.length ≤ 1000) (hm2 : ys.length ≤ 1000) :
    Tri Try.prog w0 9 [.slice A xs.length c, .slice B ys.length d] [Row wE 3 1 A c' xs, Row wE 3 1 B d' ys] fun v m => v = .bool (decide (xs = ys)) ∧ m = [Row wE 3 1 A c' xs, Row wE 3 1 B d' ys] :=
  (Tri.of_all fun w s => T9 w (s.rd (k := 0) rfl) (s.rd (k := 1) rfl) (by omega) (by omega)).post fun v m ⟨m', ⟨h1, h2⟩, h3⟩ => ⟨h1, by rw [h3, h2]; rfl⟩
theorem T9b (w0 : World) {A B : Option Addr} {c d c' : Nat} {xs ys : List Int} (hr : Rd wE w0 1 B ys) (hm : xs.length ≤ 1000) (hm2 : ys.length ≤ 1000) :
    Tri Try.prog w0 9 [.slice A xs.length c, .slice B ys.length d] [Row wE 3 1 A c' xs] fun v m => v = .bool (decide (xs = ys)) ∧ m = [Row wE 3 1 A c' xs] :=
  (Tri.of_all fun w s => T9 w (s.rd (k := 0) rfl) (hr.up s) (by omega) (by omega)).post fun v m ⟨m', ⟨h1, h2⟩, h3⟩ => ⟨h1, by rw [h3, h2]; rfl⟩
theorem T6 (w0 : World) : Tri Try.prog w0 6 [] [] fun v m => v = .bool true ∧ m = [] := by
  refine tri_of Try.func6 rfl rfl fun F => ?_
  simp only [Try.ntmps6, argEnv, List.nil_append]
  refine at_seq_k (fun K0 hK0 => ?_)
  refine at_region ?_
  refine at_v (ov_assign rfl rfl) rfl rfl rfl ?_
  refine at_nil ?_
  refine at_normal ?_
  refine hK0 _ _ _ ?_
  refine at_seq_k (fun K1 hK1 => ?_)
  refine at_region ?_
  refine at_t (ot_buildSlice (cs := [_, _, _]) rfl Try.underlying22 rfl rfl rfl rfl rfl rfl) rfl rfl rfl ?_
  rintro _ _ ⟨g0, rfl, rfl⟩
  refine at_v (ov_assign rfl rfl) rfl rfl rfl ?_
  refine at_nil ?_
  refine at_normal ?_
  refine hK1 _ _ _ ?_
  refine at_seq_k (fun K2 hK2 => ?_)
  refine at_region ?_
  refine at_v (ov_move rfl rfl) rfl rfl rfl ?_
  refine at_rowOf wE 0 (size := 1) (c := 3) [2, 0, 3] rfl (fun _ _ => rfl) (by decide) (by decide) (by decide) rfl ?_
  simp only [setAt]
  refine at_reval 3 (.slice (some ⟨g0, 0, none⟩) ([2, 0, 3] : List Int).length 3) rfl rfl ?_
  refine at_reval 1 (.slice (some ⟨g0, 0, none⟩) ([2, 0, 3] : List Int).length 3) rfl rfl ?_
  refine at_t (ot_call (ks := [0]) rfl rfl rfl Try.call7 rfl (T7a _ (by first | assumption | omega | decide | (simp; done) | (simp at *; omega))) rfl) rfl rfl rfl ?_
  rintro v0 _ ⟨m0, hp0, rfl⟩
  obtain ⟨rfl, rfl⟩ := hp0
  simp only [List.cons_append, List.nil_append]
  refine at_v (ov_move rfl rfl) rfl rfl rfl ?_
  refine at_wanted (j := 2) rfl ?_
  refine at_t (ot_buildSlice (cs := [_]) rfl Try.underlying22 rfl rfl rfl rfl rfl rfl) rfl rfl rfl ?_
  rintro _ _ ⟨g1, rfl, rfl⟩
  refine at_wanted (j := 2) rfl ?_
  refine at_rowOf wE 0 (size := 1) (c := 1) [101] rfl (fun _ _ => rfl) (by decide) (by decide) (by decide) rfl ?_
  simp only [setAt]
  refine at_reval 6 (.slice (some ⟨g1, 0, none⟩) ([101] : List Int).length 1) rfl rfl ?_
  refine at_t (ot_call (ks := [0]) rfl rfl rfl Try.call7 rfl (T7a _ (by first | assumption | omega | decide | (simp; done) | (simp at *; omega))) rfl) rfl rfl rfl ?_
  rintro v0 _ ⟨m0, hp0, rfl⟩
  obtain ⟨rfl, rfl⟩ := hp0
  simp only [List.cons_append, List.nil_append]
  refine at_wanted (j := 2) rfl ?_
  refine at_v (ov_not rfl rfl) rfl rfl rfl ?_
  refine at_v (ov_pick_t rfl rfl rfl) rfl rfl rfl ?_
  refine at_v (ov_move rfl rfl) rfl rfl rfl ?_
  refine at_wanted (j := 7) rfl ?_
  refine at_v (ov_move rfl rfl) rfl rfl rfl ?_
  refine at_wanted (j := 7) rfl ?_
  refine at_t (ot_call (ks := [1]) rfl rfl rfl Try.call12 rfl (T12a _ (by first | assumption | omega | decide | (simp; done) | (simp at *; omega)) (by first | assumption | omega | decide | (simp; done) | (simp at *; omega))) rfl) rfl rfl rfl ?_
  rintro v0 _ ⟨m0, hp0, rfl⟩
  obtain ⟨rfl, rfl⟩ := hp0
  simp only [List.cons_append, List.nil_append]
  refine at_wanted (j := 7) rfl ?_
  refine at_v (ov_int rfl rfl rfl rfl) rfl rfl rfl ?_
  refine at_v (ov_pick_t rfl rfl rfl) rfl rfl rfl ?_
  refine at_v (ov_move rfl rfl) rfl rfl rfl ?_
  refine at_wanted (j := 12) rfl ?_
  refine at_v (ov_move rfl rfl) rfl rfl rfl ?_
  refine at_wanted (j := 12) rfl ?_
  refine at_t (ot_call (ks := [0]) rfl rfl rfl Try.call14 rfl (T14a _ (by first | assumption | omega | decide | (simp; done) | (simp at *; omega)) (by first | assumption | omega | decide | (simp; done) | (simp at *; omega)) (by first | assumption | omega | decide | (simp; done) | (simp at *; omega)) (by first | assumption | omega | decide | (simp; done) | (simp at *; omega))) rfl) rfl rfl rfl ?_
  rintro v0 _ ⟨m0, hp0, rfl⟩
  obtain ⟨rfl, rfl⟩ := hp0
  simp only [List.cons_append, List.nil_append]
  refine at_wanted (j := 12) rfl ?_
  refine at_v (ov_int rfl rfl rfl rfl) rfl rfl rfl ?_
  refine at_v (ov_pick_t rfl rfl rfl) rfl rfl rfl ?_
  refine at_v (ov_move rfl rfl) rfl rfl rfl ?_
  refine at_wanted (j := 17) rfl ?_
  refine at_t (ot_call (ks := []) rfl rfl rfl Try.call14 rfl (T14b _ (by first | assumption | omega | decide | (simp; done) | (simp at *; omega)) (by first | assumption | omega | decide | (simp; done) | (simp at *; omega))) rfl) rfl rfl rfl ?_
  rintro v0 _ ⟨m0, hp0, rfl⟩
  obtain ⟨rfl, rfl⟩ := hp0
  simp only [List.cons_append, List.nil_append]
  refine at_wanted (j := 17) rfl ?_
  refine at_v (ov_int rfl rfl rfl rfl) rfl rfl rfl ?_
  refine at_v (ov_pick_t rfl rfl rfl) rfl rfl rfl ?_
  refine at_v (ov_move rfl rfl) rfl rfl rfl ?_
  refine at_wanted (j := 21) rfl ?_
  refine at_v (ov_move rfl rfl) rfl rfl rfl ?_
  refine at_wanted (j := 21) rfl ?_
  refine at_t (ot_buildSlice (cs := [_]) rfl Try.underlying24 rfl rfl rfl rfl rfl rfl) rfl rfl rfl ?_
  rintro _ _ ⟨g2, rfl, rfl⟩
  refine at_wanted (j := 21) rfl ?_
  refine at_rowOf mE 0 (size := 1) (c := 1) [true] rfl (fun _ _ => rfl) (by decide) (by decide) (by decide) rfl ?_
  simp only [setAt]
  refine at_reval 26 (.slice (some ⟨g2, 0, none⟩) ([true] : List Bool).length 1) rfl rfl ?_
  refine at_t (ot_call (ks := [1, 0]) rfl rfl rfl Try.call10 rfl (T10a _ (by first | assumption | omega | decide | (simp; done) | (simp at *; omega)) (by first | assumption | omega | decide | (simp; done) | (simp at *; omega))) rfl) rfl rfl rfl ?_
  rintro v0 _ ⟨m0, hp0, rfl⟩
  obtain ⟨C0, hp0⟩ := hp0
  obtain ⟨e0, hp0⟩ := hp0
  obtain ⟨rfl, rfl⟩ := hp0
  simp only [List.cons_append, List.nil_append]
  refine at_wanted (j := 21) rfl ?_
  refine at_t (ot_buildSlice (cs := [_, _, _]) rfl Try.underlying22 rfl rfl rfl rfl rfl rfl) rfl rfl rfl ?_
  rintro _ _ ⟨g3, rfl, rfl⟩
  refine at_wanted (j := 21) rfl ?_
  refine at_rowOf wE 0 (size := 1) (c := 3) [2, 0, 0] rfl (fun _ _ => rfl) (by decide) (by decide) (by decide) rfl ?_
  simp only [setAt]
  refine at_reval 28 (.slice (some ⟨g3, 0, none⟩) ([2, 0, 0] : List Int).length 3) rfl rfl ?_
  refine at_t (ot_call (ks := [1, 0]) rfl rfl rfl Try.call9 rfl (T9a _ (by first | assumption | omega | decide | (simp; done) | (simp at *; omega)) (by first | assumption | omega | decide | (simp; done) | (simp at *; omega))) rfl) rfl rfl rfl ?_
  rintro v0 _ ⟨m0, hp0, rfl⟩
  obtain ⟨rfl, rfl⟩ := hp0
  simp only [List.cons_append, List.nil_append]
  refine at_v (ov_pick_t rfl rfl rfl) rfl rfl rfl ?_
  refine at_v (ov_assign rfl rfl) rfl rfl rfl ?_
  refine at_nil ?_
  refine at_normal ?_
  refine hK2 _ _ _ ?_
  refine at_ret ?_
  refine at_end ?_
  refine at_fin (rsV rfl (res_tmp rfl)) ?_
  refine ⟨_, ⟨congrArg Value.bool (by decide), rfl⟩, ?_⟩
  exact fun _ s => s.finEq (ks := []) (js := [0, 0, 0, 0, 0]) rfl rfl rfl
theorem rightB_of {xs : List Int} (h : rightB xs = true) : xs.any badB = false ∧ xs.length ≤ 6 := by simpa [rightB] using h
theorem T3 (w0 : World) (A0 : Option Addr) (c0 : Nat) (l0 : List Int) (a1 : Int) (A2 : Option Addr) (c2 : Nat) (l2 : List Bool) (hr0 : Rd wE w0 1 A0 l0) (hm0 : l0.length ≤ 9223372036854775807) (hr2 : Rd mE w0 1 A2 l2) (hm2 : l2.length ≤ 9223372036854775807) (hd0 : 0 ≤ a1) (hd1 : a1 < 18446744073709551616) :
    Tri Try.prog w0 3 [.slice A0 l0.length c0, .int .u64 a1, .slice A2 l2.length c2] [] fun v m => v = .bool true ∧ m = [] := by
  refine tri_of Try.func3 rfl rfl fun F => ?_
  simp only [Try.ntmps3, argEnv, List.nil_append]
  by_cases h1 : l0.length ≤ 1000
  · by_cases h2 : l2.length ≤ 1000
    · have hlen := onlyL_len l0 l2
      cases hright : rightB l0 with
      | false =>
        refine at_seq_k (fun K0 hK0 => ?_)
        refine at_region ?_
        refine at_v (ov_assign rfl rfl) rfl rfl rfl ?_
        refine at_nil ?_
        refine at_normal ?_
        refine hK0 _ _ _ ?_
        refine at_seq_k (fun K1 hK1 => ?_)
        refine at_seq_k (fun K2 hK2 => ?_)
        refine at_region ?_
        refine at_t (ot_call (ks := []) rfl rfl rfl Try.call6 rfl (T6 _) rfl) rfl rfl rfl ?_
        rintro v0 _ ⟨m0, hp0, rfl⟩
        obtain ⟨rfl, rfl⟩ := hp0
        simp only [List.cons_append, List.nil_append]
        refine at_v (ov_not rfl rfl) rfl rfl rfl ?_
        refine at_nil ?_
        refine at_normal ?_
        refine hK2 _ _ _ ?_
        refine at_cond_false rfl ?_
        refine at_skip ?_
        refine at_normal ?_
        refine hK1 _ _ _ ?_
        refine at_seq_k (fun K3 hK3 => ?_)
        refine at_seq_k (fun K4 hK4 => ?_)
        refine at_region ?_
        refine at_v (ov_move rfl rfl) rfl rfl rfl ?_
        refine at_v (ov_len_slice rfl Try.underlying22 rfl) rfl rfl rfl ?_
        refine at_v (ov_int rfl rfl rfl rfl) rfl rfl rfl ?_
        refine at_v (ov_move rfl rfl) rfl rfl rfl ?_
        refine at_reval 12 (.bool false) rfl (congrArg Value.bool (decide_eq_false (by omega))) ?_
        refine at_wanted (j := 3) rfl ?_
        refine at_v (ov_move rfl rfl) rfl rfl rfl ?_
        refine at_wanted (j := 3) rfl ?_
        refine at_v (ov_len_slice rfl Try.underlying24 rfl) rfl rfl rfl ?_
        refine at_wanted (j := 3) rfl ?_
        refine at_v (ov_int rfl rfl rfl rfl) rfl rfl rfl ?_
        refine at_v (ov_pick_f rfl rfl rfl) rfl rfl rfl ?_
        refine at_nil ?_
        refine at_normal ?_
        refine hK4 _ _ _ ?_
        refine at_cond_false (congrArg (fun b => some (Value.bool b)) (show _ = false from decide_eq_false (by omega))) ?_
        refine at_skip ?_
        refine at_normal ?_
        refine hK3 _ _ _ ?_
        refine at_seq_k (fun K5 hK5 => ?_)
        refine at_seq_k (fun K6 hK6 => ?_)
        refine at_region ?_
        refine at_v (ov_move rfl rfl) rfl rfl rfl ?_
        refine at_t (ot_call (ks := []) rfl rfl rfl Try.call7 rfl (T7 _ (by first | assumption | omega | decide | (simp; done) | (simp at *; omega)) (by first | assumption | omega | decide | (simp; done) | (simp at *; omega))) rfl) rfl rfl rfl ?_
        rintro v0 _ ⟨m0, hp0, rfl⟩
        obtain ⟨rfl, rfl⟩ := hp0
        simp only [List.cons_append, List.nil_append]
        refine at_v (ov_move rfl rfl) rfl rfl rfl ?_
        refine at_t (ot_call (ks := []) rfl rfl rfl Try.call8 rfl (T8 _ (by first | assumption | omega | decide | (simp; done) | (simp at *; omega)) (by first | assumption | omega | decide | (simp; done) | (simp at *; omega))) rfl) rfl rfl rfl ?_
        rintro v0 _ ⟨m0, hp0, rfl⟩
        obtain ⟨rfl, rfl⟩ := hp0
        simp only [List.cons_append, List.nil_append]
        refine at_v (ov_boolne rfl Try.underlying4 rfl rfl) rfl rfl rfl ?_
        refine at_v (ov_move rfl rfl) rfl rfl rfl ?_
        refine at_reval 22 (.bool false) rfl (congrArg Value.bool (by simp; done)) ?_
        refine at_wanted (j := 5) rfl ?_
        refine at_v (ov_move rfl rfl) rfl rfl rfl ?_
        refine at_wanted (j := 5) rfl ?_
        refine at_v (ov_move rfl rfl) rfl rfl rfl ?_
        refine at_wanted (j := 5) rfl ?_
        refine at_t (ot_call (ks := []) rfl rfl rfl Try.call10 rfl (T10 _ (by first | assumption | omega | decide | (simp; done) | (simp at *; omega)) (by first | assumption | omega | decide | (simp; done) | (simp at *; omega)) (by first | assumption | omega | decide | (simp; done) | (simp at *; omega)) (by first | assumption | omega | decide | (simp; done) | (simp at *; omega))) rfl) rfl rfl rfl ?_
        rintro v0 _ ⟨m0, hp0, rfl⟩
        obtain ⟨C0, hp0⟩ := hp0
        obtain ⟨e0, hp0⟩ := hp0
        obtain ⟨rfl, rfl⟩ := hp0
        simp only [List.cons_append, List.nil_append]
        refine at_wanted (j := 5) rfl ?_
        refine at_v (ov_move rfl rfl) rfl rfl rfl ?_
        refine at_wanted (j := 5) rfl ?_
        refine at_v (ov_move rfl rfl) rfl rfl rfl ?_
        refine at_wanted (j := 5) rfl ?_
        refine at_t (ot_call (ks := []) rfl rfl rfl Try.call11 rfl (T11 _ (by first | assumption | omega | decide | (simp; done) | (simp at *; omega)) (by first | assumption | omega | decide | (simp; done) | (simp at *; omega)) (by first | assumption | omega | decide | (simp; done) | (simp at *; omega)) (by first | assumption | omega | decide | (simp; done) | (simp at *; omega))) rfl) rfl rfl rfl ?_
        rintro v0 _ ⟨m0, hp0, rfl⟩
        obtain ⟨C1, hp0⟩ := hp0
        obtain ⟨e1, hp0⟩ := hp0
        obtain ⟨rfl, rfl⟩ := hp0
        simp only [List.cons_append, List.nil_append]
        refine at_wanted (j := 5) rfl ?_
        refine at_t (ot_call (ks := [1, 0]) rfl rfl rfl Try.call9 rfl (T9a _ (by first | assumption | omega | decide | (simp; done) | (simp at *; omega)) (by first | assumption | omega | decide | (simp; done) | (simp at *; omega))) rfl) rfl rfl rfl ?_
        rintro v0 _ ⟨m0, hp0, rfl⟩
        obtain ⟨rfl, rfl⟩ := hp0
        simp only [List.cons_append, List.nil_append]
        refine at_wanted (j := 5) rfl ?_
        refine at_v (ov_not rfl rfl) rfl rfl rfl ?_
        refine at_v (ov_pick_f rfl rfl rfl) rfl rfl rfl ?_
        refine at_nil ?_
        refine at_normal ?_
        refine hK6 _ _ _ ?_
        refine at_cond_false rfl ?_
        refine at_skip ?_
        refine at_normal ?_
        refine hK5 _ _ _ ?_
        refine at_seq_k (fun K7 hK7 => ?_)
        refine at_region ?_
        refine at_v (ov_move rfl rfl) rfl rfl rfl ?_
        refine at_t (ot_call (ks := []) rfl rfl rfl Try.call8 rfl (T8 _ (by first | assumption | omega | decide | (simp; done) | (simp at *; omega)) (by first | assumption | omega | decide | (simp; done) | (simp at *; omega))) rfl) rfl rfl rfl ?_
        rintro v0 _ ⟨m0, hp0, rfl⟩
        obtain ⟨rfl, rfl⟩ := hp0
        simp only [List.cons_append, List.nil_append]
        refine at_v (ov_not rfl rfl) rfl rfl rfl ?_
        refine at_v (ov_move rfl rfl) rfl rfl rfl ?_
        refine at_reval 35 (.bool true) rfl (congrArg Value.bool (by simp [hright]; done)) ?_
        refine at_unwanted (j := 3) rfl rfl rfl rfl ?_
        refine at_unwanted (j := 3) rfl rfl rfl rfl ?_
        refine at_unwanted (j := 3) rfl rfl rfl rfl ?_
        refine at_unwanted (j := 3) rfl rfl rfl rfl ?_
        refine at_unwanted (j := 3) rfl rfl rfl rfl ?_
        refine at_unwanted (j := 3) rfl rfl rfl rfl ?_
        refine at_unwantedN (j := 9) rfl rfl rfl ?_
        refine at_unwantedN (j := 9) rfl rfl rfl ?_
        refine at_unwantedN (j := 9) rfl rfl rfl ?_
        refine at_unwantedN (j := 9) rfl rfl rfl ?_
        refine at_unwantedN (j := 9) rfl rfl rfl ?_
        refine at_unwantedN (j := 9) rfl rfl rfl ?_
        refine at_unwantedN (j := 9) rfl rfl rfl ?_
        refine at_unwanted (j := 3) rfl rfl rfl rfl ?_
        refine at_v (ov_pick_t rfl rfl rfl) rfl rfl rfl ?_
        refine at_v (ov_assign rfl rfl) rfl rfl rfl ?_
        refine at_nil ?_
        refine at_normal ?_
        refine hK7 _ _ _ ?_
        refine at_ret ?_
        refine at_end ?_
        refine at_fin (rsV rfl (res_tmp rfl)) ?_
        refine ⟨_, ⟨rfl, rfl⟩, ?_⟩
        exact fun _ s => s.finEq (ks := []) (js := [0, 0]) rfl rfl rfl
      | true =>
        have hb := (rightB_of hright).1
        refine at_seq_k (fun K0 hK0 => ?_)
        refine at_region ?_
        refine at_v (ov_assign rfl rfl) rfl rfl rfl ?_
        refine at_nil ?_
        refine at_normal ?_
        refine hK0 _ _ _ ?_
        refine at_seq_k (fun K1 hK1 => ?_)
        refine at_seq_k (fun K2 hK2 => ?_)
        refine at_region ?_
        refine at_t (ot_call (ks := []) rfl rfl rfl Try.call6 rfl (T6 _) rfl) rfl rfl rfl ?_
        rintro v0 _ ⟨m0, hp0, rfl⟩
        obtain ⟨rfl, rfl⟩ := hp0
        simp only [List.cons_append, List.nil_append]
        refine at_v (ov_not rfl rfl) rfl rfl rfl ?_
        refine at_nil ?_
        refine at_normal ?_
        refine hK2 _ _ _ ?_
        refine at_cond_false rfl ?_
        refine at_skip ?_
        refine at_normal ?_
        refine hK1 _ _ _ ?_
        refine at_seq_k (fun K3 hK3 => ?_)
        refine at_seq_k (fun K4 hK4 => ?_)
        refine at_region ?_
        refine at_v (ov_move rfl rfl) rfl rfl rfl ?_
        refine at_v (ov_len_slice rfl Try.underlying22 rfl) rfl rfl rfl ?_
        refine at_v (ov_int rfl rfl rfl rfl) rfl rfl rfl ?_
        refine at_v (ov_move rfl rfl) rfl rfl rfl ?_
        refine at_reval 12 (.bool false) rfl (congrArg Value.bool (decide_eq_false (by omega))) ?_
        refine at_wanted (j := 3) rfl ?_
        refine at_v (ov_move rfl rfl) rfl rfl rfl ?_
        refine at_wanted (j := 3) rfl ?_
        refine at_v (ov_len_slice rfl Try.underlying24 rfl) rfl rfl rfl ?_
        refine at_wanted (j := 3) rfl ?_
        refine at_v (ov_int rfl rfl rfl rfl) rfl rfl rfl ?_
        refine at_v (ov_pick_f rfl rfl rfl) rfl rfl rfl ?_
        refine at_nil ?_
        refine at_normal ?_
        refine hK4 _ _ _ ?_
        refine at_cond_false (congrArg (fun b => some (Value.bool b)) (show _ = false from decide_eq_false (by omega))) ?_
        refine at_skip ?_
        refine at_normal ?_
        refine hK3 _ _ _ ?_
        refine at_seq_k (fun K5 hK5 => ?_)
        refine at_seq_k (fun K6 hK6 => ?_)
        refine at_region ?_
        refine at_v (ov_move rfl rfl) rfl rfl rfl ?_
        refine at_t (ot_call (ks := []) rfl rfl rfl Try.call7 rfl (T7 _ (by first | assumption | omega | decide | (simp; done) | (simp at *; omega)) (by first | assumption | omega | decide | (simp; done) | (simp at *; omega))) rfl) rfl rfl rfl ?_
        rintro v0 _ ⟨m0, hp0, rfl⟩
        obtain ⟨rfl, rfl⟩ := hp0
        simp only [List.cons_append, List.nil_append]
        refine at_v (ov_move rfl rfl) rfl rfl rfl ?_
        refine at_t (ot_call (ks := []) rfl rfl rfl Try.call8 rfl (T8 _ (by first | assumption | omega | decide | (simp; done) | (simp at *; omega)) (by first | assumption | omega | decide | (simp; done) | (simp at *; omega))) rfl) rfl rfl rfl ?_
        rintro v0 _ ⟨m0, hp0, rfl⟩
        obtain ⟨rfl, rfl⟩ := hp0
        simp only [List.cons_append, List.nil_append]
        refine at_v (ov_boolne rfl Try.underlying4 rfl rfl) rfl rfl rfl ?_
        refine at_v (ov_move rfl rfl) rfl rfl rfl ?_
        refine at_reval 22 (.bool false) rfl (congrArg Value.bool (by simp; done)) ?_
        refine at_wanted (j := 5) rfl ?_
        refine at_v (ov_move rfl rfl) rfl rfl rfl ?_
        refine at_wanted (j := 5) rfl ?_
        refine at_v (ov_move rfl rfl) rfl rfl rfl ?_
        refine at_wanted (j := 5) rfl ?_
        refine at_t (ot_call (ks := []) rfl rfl rfl Try.call10 rfl (T10 _ (by first | assumption | omega | decide | (simp; done) | (simp at *; omega)) (by first | assumption | omega | decide | (simp; done) | (simp at *; omega)) (by first | assumption | omega | decide | (simp; done) | (simp at *; omega)) (by first | assumption | omega | decide | (simp; done) | (simp at *; omega))) rfl) rfl rfl rfl ?_
        rintro v0 _ ⟨m0, hp0, rfl⟩
        obtain ⟨C0, hp0⟩ := hp0
        obtain ⟨e0, hp0⟩ := hp0
        obtain ⟨rfl, rfl⟩ := hp0
        simp only [List.cons_append, List.nil_append]
        refine at_wanted (j := 5) rfl ?_
        refine at_v (ov_move rfl rfl) rfl rfl rfl ?_
        refine at_wanted (j := 5) rfl ?_
        refine at_v (ov_move rfl rfl) rfl rfl rfl ?_
        refine at_wanted (j := 5) rfl ?_
        refine at_t (ot_call (ks := []) rfl rfl rfl Try.call11 rfl (T11 _ (by first | assumption | omega | decide | (simp; done) | (simp at *; omega)) (by first | assumption | omega | decide | (simp; done) | (simp at *; omega)) (by first | assumption | omega | decide | (simp; done) | (simp at *; omega)) (by first | assumption | omega | decide | (simp; done) | (simp at *; omega))) rfl) rfl rfl rfl ?_
        rintro v0 _ ⟨m0, hp0, rfl⟩
        obtain ⟨C1, hp0⟩ := hp0
        obtain ⟨e1, hp0⟩ := hp0
        obtain ⟨rfl, rfl⟩ := hp0
        simp only [List.cons_append, List.nil_append]
        refine at_wanted (j := 5) rfl ?_
        refine at_t (ot_call (ks := [1, 0]) rfl rfl rfl Try.call9 rfl (T9a _ (by first | assumption | omega | decide | (simp; done) | (simp at *; omega)) (by first | assumption | omega | decide | (simp; done) | (simp at *; omega))) rfl) rfl rfl rfl ?_
        rintro v0 _ ⟨m0, hp0, rfl⟩
        obtain ⟨rfl, rfl⟩ := hp0
        simp only [List.cons_append, List.nil_append]
        refine at_wanted (j := 5) rfl ?_
        refine at_v (ov_not rfl rfl) rfl rfl rfl ?_
        refine at_v (ov_pick_f rfl rfl rfl) rfl rfl rfl ?_
        refine at_nil ?_
        refine at_normal ?_
        refine hK6 _ _ _ ?_
        refine at_cond_false rfl ?_
        refine at_skip ?_
        refine at_normal ?_
        refine hK5 _ _ _ ?_
        refine at_seq_k (fun K7 hK7 => ?_)
        refine at_region ?_
        refine at_v (ov_move rfl rfl) rfl rfl rfl ?_
        refine at_t (ot_call (ks := []) rfl rfl rfl Try.call8 rfl (T8 _ (by first | assumption | omega | decide | (simp; done) | (simp at *; omega)) (by first | assumption | omega | decide | (simp; done) | (simp at *; omega))) rfl) rfl rfl rfl ?_
        rintro v0 _ ⟨m0, hp0, rfl⟩
        obtain ⟨rfl, rfl⟩ := hp0
        simp only [List.cons_append, List.nil_append]
        refine at_v (ov_not rfl rfl) rfl rfl rfl ?_
        refine at_v (ov_move rfl rfl) rfl rfl rfl ?_
        refine at_reval 35 (.bool false) rfl (congrArg Value.bool (by simp [hright, hb]; done)) ?_
        refine at_wanted (j := 3) rfl ?_
        refine at_v (ov_move rfl rfl) rfl rfl rfl ?_
        refine at_wanted (j := 3) rfl ?_
        refine at_t (ot_call (ks := []) rfl rfl rfl Try.call12 rfl (T12 _ (by first | assumption | omega | decide | (simp; done) | (simp at *; omega)) (by first | assumption | omega | decide | (simp; done) | (simp at *; omega)) (by first | assumption | omega | decide | (simp; done) | (simp at *; omega))) rfl) rfl rfl rfl ?_
        rintro v0 _ ⟨m0, hp0, rfl⟩
        obtain ⟨rfl, rfl⟩ := hp0
        simp only [List.cons_append, List.nil_append]
        refine at_wanted (j := 3) rfl ?_
        refine at_v (ov_move rfl rfl) rfl rfl rfl ?_
        refine at_wanted (j := 3) rfl ?_
        refine at_t (ot_call (ks := []) rfl rfl rfl Try.call13 rfl (T13 _ (by first | assumption | omega | decide | (simp; done) | (simp at *; omega)) (by first | assumption | omega | decide | (simp; done) | (simp at *; omega)) (by first | assumption | omega | decide | (simp; done) | (simp at *; omega))) rfl) rfl rfl rfl ?_
        rintro v0 _ ⟨m0, hp0, rfl⟩
        obtain ⟨rfl, rfl⟩ := hp0
        simp only [List.cons_append, List.nil_append]
        refine at_wanted (j := 3) rfl ?_
        refine at_v (ov_int rfl rfl rfl rfl) rfl rfl rfl ?_
        refine at_wanted (j := 3) rfl ?_
        refine at_v (ov_move rfl rfl) rfl rfl rfl ?_
        refine at_reval 41 (.bool true) rfl (congrArg Value.bool (decide_eq_true (by omega))) ?_
        refine at_wanted (j := 9) rfl ?_
        refine at_v (ov_move rfl rfl) rfl rfl rfl ?_
        refine at_wanted (j := 9) rfl ?_
        refine at_v (ov_move rfl rfl) rfl rfl rfl ?_
        refine at_wanted (j := 9) rfl ?_
        refine at_t (ot_call (ks := []) rfl rfl rfl Try.call14 rfl (T14 _ (by first | assumption | omega | decide | (simp; done) | (simp at *; omega)) (by first | assumption | omega | decide | (simp; done) | (simp at *; omega)) (by first | assumption | omega | decide | (simp; done) | (simp at *; omega)) (by first | assumption | omega | decide | (simp; done) | (simp at *; omega)) (by first | assumption | omega | decide | (simp; done) | (simp at *; omega))) rfl) rfl rfl rfl ?_
        rintro v0 _ ⟨m0, hp0, rfl⟩
        obtain ⟨rfl, rfl⟩ := hp0
        simp only [List.cons_append, List.nil_append]
        refine at_wanted (j := 9) rfl ?_
        refine at_v (ov_move rfl rfl) rfl rfl rfl ?_
        refine at_wanted (j := 9) rfl ?_
        refine at_v (ov_move rfl rfl) rfl rfl rfl ?_
        refine at_wanted (j := 9) rfl ?_
        refine at_t (ot_call (ks := []) rfl rfl rfl Try.call15 rfl (T15 _ (by first | assumption | omega | decide | (simp; done) | (simp at *; omega)) (by first | assumption | omega | decide | (simp; done) | (simp at *; omega)) (by first | assumption | omega | decide | (simp; done) | (simp at *; omega)) (by first | assumption | omega | decide | (simp; done) | (simp at *; omega)) (by first | assumption | omega | decide | (simp; done) | (simp at *; omega))) rfl) rfl rfl rfl ?_
        rintro v0 _ ⟨m0, hp0, rfl⟩
        obtain ⟨rfl, rfl⟩ := hp0
        simp only [List.cons_append, List.nil_append]
        refine at_wanted (j := 9) rfl ?_
        refine at_v (ov_int rfl rfl rfl rfl) rfl rfl rfl ?_
        refine at_wanted (j := 3) rfl ?_
        refine at_v (ov_pick_t rfl rfl rfl) rfl rfl rfl ?_
        refine at_v (ov_pick_f rfl rfl rfl) rfl rfl rfl ?_
        refine at_v (ov_assign rfl rfl) rfl rfl rfl ?_
        refine at_nil ?_
        refine at_normal ?_
        refine hK7 _ _ _ ?_
        refine at_ret ?_
        refine at_end ?_
        refine at_fin (rsV rfl (res_tmp rfl)) ?_
        refine ⟨_, ⟨congrArg Value.bool (by simp), rfl⟩, ?_⟩
        exact fun _ s => s.finEq (ks := []) (js := [0, 0]) rfl rfl rfl
    · refine at_seq_k (fun K0 hK0 => ?_)
      refine at_region ?_
      refine at_v (ov_assign rfl rfl) rfl rfl rfl ?_
      refine at_nil ?_
      refine at_normal ?_
      refine hK0 _ _ _ ?_
      refine at_seq_k (fun K1 hK1 => ?_)
      refine at_seq_k (fun K2 hK2 => ?_)
      refine at_region ?_
      refine at_t (ot_call (ks := []) rfl rfl rfl Try.call6 rfl (T6 _) rfl) rfl rfl rfl ?_
      rintro v0 _ ⟨m0, hp0, rfl⟩
      obtain ⟨rfl, rfl⟩ := hp0
      simp only [List.cons_append, List.nil_append]
      refine at_v (ov_not rfl rfl) rfl rfl rfl ?_
      refine at_nil ?_
      refine at_normal ?_
      refine hK2 _ _ _ ?_
      refine at_cond_false rfl ?_
      refine at_skip ?_
      refine at_normal ?_
      refine hK1 _ _ _ ?_
      refine at_seq_k (fun K3 hK3 => ?_)
      refine at_seq_k (fun K4 hK4 => ?_)
      refine at_region ?_
      refine at_v (ov_move rfl rfl) rfl rfl rfl ?_
      refine at_v (ov_len_slice rfl Try.underlying22 rfl) rfl rfl rfl ?_
      refine at_v (ov_int rfl rfl rfl rfl) rfl rfl rfl ?_
      refine at_v (ov_move rfl rfl) rfl rfl rfl ?_
      refine at_reval 12 (.bool false) rfl (congrArg Value.bool (decide_eq_false (by omega))) ?_
      refine at_wanted (j := 3) rfl ?_
      refine at_v (ov_move rfl rfl) rfl rfl rfl ?_
      refine at_wanted (j := 3) rfl ?_
      refine at_v (ov_len_slice rfl Try.underlying24 rfl) rfl rfl rfl ?_
      refine at_wanted (j := 3) rfl ?_
      refine at_v (ov_int rfl rfl rfl rfl) rfl rfl rfl ?_
      refine at_v (ov_pick_f rfl rfl rfl) rfl rfl rfl ?_
      refine at_nil ?_
      refine at_normal ?_
      refine hK4 _ _ _ ?_
      refine at_cond_true (congrArg (fun b => some (Value.bool b)) (show _ = true from decide_eq_true (by omega))) ?_
      refine at_seq_k (fun K5 hK5 => ?_)
      refine at_region ?_
      refine at_v (ov_assign rfl rfl) rfl rfl rfl ?_
      refine at_nil ?_
      refine at_normal ?_
      refine hK5 _ _ _ ?_
      refine at_ret ?_
      refine at_then_ret ?_
      refine at_end ?_
      refine at_fin (rsV rfl (res_tmp rfl)) ?_
      refine ⟨_, ⟨rfl, rfl⟩, ?_⟩
      exact fun _ s => s.finEq (ks := []) (js := []) rfl rfl rfl
  · refine at_seq_k (fun K0 hK0 => ?_)
    refine at_region ?_
    refine at_v (ov_assign rfl rfl) rfl rfl rfl ?_
    refine at_nil ?_
    refine at_normal ?_
    refine hK0 _ _ _ ?_
    refine at_seq_k (fun K1 hK1 => ?_)
    refine at_seq_k (fun K2 hK2 => ?_)
    refine at_region ?_
    refine at_t (ot_call (ks := []) rfl rfl rfl Try.call6 rfl (T6 _) rfl) rfl rfl rfl ?_
    rintro v0 _ ⟨m0, hp0, rfl⟩
    obtain ⟨rfl, rfl⟩ := hp0
    simp only [List.cons_append, List.nil_append]
    refine at_v (ov_not rfl rfl) rfl rfl rfl ?_
    refine at_nil ?_
    refine at_normal ?_
    refine hK2 _ _ _ ?_
    refine at_cond_false rfl ?_
    refine at_skip ?_
    refine at_normal ?_
    refine hK1 _ _ _ ?_
    refine at_seq_k (fun K3 hK3 => ?_)
    refine at_seq_k (fun K4 hK4 => ?_)
    refine at_region ?_
    refine at_v (ov_move rfl rfl) rfl rfl rfl ?_
    refine at_v (ov_len_slice rfl Try.underlying22 rfl) rfl rfl rfl ?_
    refine at_v (ov_int rfl rfl rfl rfl) rfl rfl rfl ?_
    refine at_v (ov_move rfl rfl) rfl rfl rfl ?_
    refine at_reval 12 (.bool true) rfl (congrArg Value.bool (decide_eq_true (by omega))) ?_
    refine at_unwanted (j := 3) rfl rfl rfl rfl ?_
    refine at_unwanted (j := 3) rfl rfl rfl rfl ?_
    refine at_unwanted (j := 3) rfl rfl rfl rfl ?_
    refine at_v (ov_pick_t rfl rfl rfl) rfl rfl rfl ?_
    refine at_nil ?_
    refine at_normal ?_
    refine hK4 _ _ _ ?_
    refine at_cond_true rfl ?_
    refine at_seq_k (fun K5 hK5 => ?_)
    refine at_region ?_
    refine at_v (ov_assign rfl rfl) rfl rfl rfl ?_
    refine at_nil ?_
    refine at_normal ?_
    refine hK5 _ _ _ ?_
    refine at_ret ?_
    refine at_then_ret ?_
    refine at_end ?_
    refine at_fin (rsV rfl (res_tmp rfl)) ?_
    refine ⟨_, ⟨rfl, rfl⟩, ?_⟩
    exact fun _ s => s.finEq (ks := []) (js := []) rfl rfl rfl
