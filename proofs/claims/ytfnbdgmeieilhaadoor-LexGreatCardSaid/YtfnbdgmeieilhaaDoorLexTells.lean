/- The statement LexTells, walked. -/
import Derived.Test.YtfnbdgmeieilhaaDoorProg
import Derived.Test.YtfnbdgmeieilhaaDoorRefLex4
import Derived.Test.YtfnbdgmeieilhaaDoorSLStr
import Derived.KernelRfl
import Derived.KernelRfl
set_option linter.unusedSimpArgs false
set_option linter.unusedVariables false
set_option maxRecDepth 100000
namespace Go.Proofs.YtfnbdgmeieilhaaDoor
open Go Go.Proofs.YtfnbdgmeieilhaaDoor.SL Go.RowKit
theorem T15a (w0 : World) {A : Option Addr} {c c' : Nat} {l : List Tok} (hl : l.length ≤ 10000) (ht : ∀ t ∈ l, t.2.length ≤ 10000) (hM : MaxL w0) : Tri Tryd.prog w0 15 [.slice A l.length c] [Row tE 24 2 A c' l] fun v m => v = SV (writeL l) ∧ m = [Row tE 24 2 A c' l] :=
  (Tri.of_all fun w s => T15 w (s.rd (k := 0) rfl) hl ht (maxL_up hM s)).post fun v m ⟨m', ⟨h1, h2⟩, h3⟩ => ⟨h1, by rw [h3, h2]; rfl⟩
def inA : BL := [115, 101, 108, 101, 99, 116, 32, 39, 97, 39, 39, 98, 39, 45, 45, 120]
def inB : BL := [39]
def inC : BL := [47, 42, 43, 32, 112, 114, 105, 109, 97, 114, 121, 32, 42, 47, 32, 55]
def outA : List Tok := [(1, [83, 69, 76, 69, 67, 84]), (3, [97, 39, 98])]
def outC : List Tok := [(5, [112, 114, 105, 109, 97, 114, 121]), (4, [55])]
def wroteA : BL := [83, 69, 76, 69, 67, 84, 32, 39, 97, 39, 39, 98, 39]
theorem lexA : lexR inA = (outA, 0) := by decide +kernel
theorem lexB : (lexR inB) = ([], 2) := by decide +kernel
theorem lexC : lexR inC = (outC, 0) := by decide +kernel
theorem rightD : rightL (6, [45]) = true := by decide +kernel
theorem writeA : writeL outA = wroteA := by decide +kernel
theorem T6 (w0 : World) (hM : MaxL w0) : Tri Tryd.prog w0 6 [] [] fun v m => v = .bool true ∧ m = [] := by
  refine tri_of Tryd.func6 rfl rfl fun F => ?_
  simp only [Tryd.ntmps6, argEnv, List.nil_append]
  have hA := T9 w0 inA
  have hB := T9 w0 inB
  have hC := T9 w0 inC
  rw [lexA] at hA
  rw [lexB] at hB
  rw [lexC] at hC
  have hA := hA (by decide) hM
  have hB := hB (by decide) hM
  have hC := hC (by decide) hM
  have hR : Tri Tryd.prog w0 12 [.agg #[.int .i64 6, SV [45]]] [] fun v m => v = .bool true ∧ m = [] := by
    have := T12 w0 (6, [45]) (by decide) hM
    rwa [rightD] at this
  have htA : ∀ t ∈ outA, t.2.length ≤ 10000 := by decide
  have hi1 : decide (outA = outA) = true := decide_eq_true rfl
  have hi2 : decide (outC = outC) = true := decide_eq_true rfl
  refine at_seq_k (fun K0 hK0 => ?_)
  refine at_region ?_
  refine at_v (ov_assign rfl rfl) rfl rfl rfl ?_
  refine at_nil ?_
  refine at_normal ?_
  refine hK0 _ _ _ ?_
  refine at_seq_k (fun K1 hK1 => ?_)
  refine at_region ?_
  refine at_t (ot_call (ks := []) rfl rfl rfl Tryd.call9 rfl (hA ) rfl) rfl rfl rfl ?_
  rintro v0 _ ⟨m0, hp0, rfl⟩
  obtain ⟨A0, hp0⟩ := hp0
  obtain ⟨c0, hp0⟩ := hp0
  obtain ⟨rfl, rfl⟩ := hp0
  simp only [List.cons_append, List.nil_append, splice, spliceL]
  refine at_v (ov_move rfl rfl) rfl rfl rfl ?_
  refine at_v (ov_extract rfl rfl rfl) rfl rfl rfl ?_
  refine at_v (ov_extract rfl rfl rfl) rfl rfl rfl ?_
  refine at_v (ov_assign rfl rfl) rfl rfl rfl ?_
  refine at_v (ov_assign rfl rfl) rfl rfl rfl ?_
  refine at_nil ?_
  refine at_normal ?_
  refine hK1 _ _ _ ?_
  refine at_seq_k (fun K2 hK2 => ?_)
  refine at_region ?_
  refine at_t (ot_call (ks := []) rfl rfl rfl Tryd.call9 rfl (hB ) rfl) rfl rfl rfl ?_
  rintro v0 _ ⟨m0, hp0, rfl⟩
  obtain ⟨A1, hp0⟩ := hp0
  obtain ⟨c1, hp0⟩ := hp0
  obtain ⟨rfl, rfl⟩ := hp0
  simp only [List.cons_append, List.nil_append, splice, spliceL]
  refine at_v (ov_move rfl rfl) rfl rfl rfl ?_
  refine at_v (ov_extract rfl rfl rfl) rfl rfl rfl ?_
  refine at_v (ov_extract rfl rfl rfl) rfl rfl rfl ?_
  refine at_v (ov_assign rfl rfl) rfl rfl rfl ?_
  refine at_v (ov_assign rfl rfl) rfl rfl rfl ?_
  refine at_nil ?_
  refine at_normal ?_
  refine hK2 _ _ _ ?_
  refine at_seq_k (fun K3 hK3 => ?_)
  refine at_region ?_
  refine at_t (ot_call (ks := []) rfl rfl rfl Tryd.call9 rfl (hC ) rfl) rfl rfl rfl ?_
  rintro v0 _ ⟨m0, hp0, rfl⟩
  obtain ⟨A2, hp0⟩ := hp0
  obtain ⟨c2, hp0⟩ := hp0
  obtain ⟨rfl, rfl⟩ := hp0
  simp only [List.cons_append, List.nil_append, splice, spliceL]
  refine at_v (ov_move rfl rfl) rfl rfl rfl ?_
  refine at_v (ov_extract rfl rfl rfl) rfl rfl rfl ?_
  refine at_v (ov_extract rfl rfl rfl) rfl rfl rfl ?_
  refine at_v (ov_assign rfl rfl) rfl rfl rfl ?_
  refine at_v (ov_assign rfl rfl) rfl rfl rfl ?_
  refine at_nil ?_
  refine at_normal ?_
  refine hK3 _ _ _ ?_
  refine at_seq_k (fun K4 hK4 => ?_)
  refine at_region ?_
  refine at_v (ov_move rfl rfl) rfl rfl rfl ?_
  refine at_t (ot_call (ks := [2]) rfl rfl rfl Tryd.call8 rfl (T8a _ (by first | assumption | rfl | omega | decide | (simp; done) | (simp at *; omega))) rfl) rfl rfl rfl ?_
  rintro v0 _ ⟨m0, hp0, rfl⟩
  obtain ⟨B0, hp0⟩ := hp0
  obtain ⟨e0, hp0⟩ := hp0
  obtain ⟨rfl, rfl⟩ := hp0
  simp only [List.cons_append, List.nil_append, splice, spliceL]
  refine at_v (ov_build (cs := [_, _]) rfl rfl rfl rfl) rfl rfl rfl ?_
  refine at_v (ov_build (cs := [_, _]) rfl rfl rfl rfl) rfl rfl rfl ?_
  refine at_t (ot_buildSlice (cs := [_, _, _, _]) rfl Tryd.underlying27 rfl rfl rfl rfl rfl rfl) rfl rfl rfl ?_
  rintro _ _ ⟨g0, rfl, rfl⟩
  refine at_rowOf (c := 2) (size := 2) tE 0 outA rfl (fun _ _ => rfl) (by decide) (by decide) (by decide) rfl ?_
  simp only [setAt]
  refine at_reval 23 (.slice (some ⟨g0, 0, none⟩) outA.length 2) rfl rfl ?_
  refine at_t (ot_call (ks := [1, 0]) rfl rfl rfl Tryd.call11 rfl (T11a _ (by first | assumption | rfl | omega | decide | (simp; done) | (simp at *; omega)) (by first | assumption | rfl | omega | decide | (simp; done) | (simp at *; omega))) rfl) rfl rfl rfl ?_
  rintro v0 _ ⟨m0, hp0, rfl⟩
  obtain ⟨rfl, rfl⟩ := hp0
  simp only [List.cons_append, List.nil_append, splice, spliceL]
  refine at_v (ov_move rfl rfl) rfl rfl rfl ?_
  refine at_wanted (j := 6) rfl ?_
  refine at_v (ov_move rfl rfl) rfl rfl rfl ?_
  refine at_wanted (j := 6) rfl ?_
  refine at_v (ov_int rfl rfl rfl rfl) rfl rfl rfl ?_
  refine at_v (ov_pick_t rfl rfl rfl) rfl rfl rfl ?_
  refine at_v (ov_move rfl rfl) rfl rfl rfl ?_
  refine at_wanted (j := 10) rfl ?_
  refine at_v (ov_move rfl rfl) rfl rfl rfl ?_
  refine at_wanted (j := 10) rfl ?_
  refine at_v (ov_int rfl rfl rfl rfl) rfl rfl rfl ?_
  refine at_v (ov_pick_t rfl rfl rfl) rfl rfl rfl ?_
  refine at_v (ov_move rfl rfl) rfl rfl rfl ?_
  refine at_wanted (j := 14) rfl ?_
  refine at_v (ov_move rfl rfl) rfl rfl rfl ?_
  refine at_wanted (j := 14) rfl ?_
  refine at_t (ot_call (ks := [3]) rfl rfl rfl Tryd.call8 rfl (T8a _ (by first | assumption | rfl | omega | decide | (simp; done) | (simp at *; omega))) rfl) rfl rfl rfl ?_
  rintro v0 _ ⟨m0, hp0, rfl⟩
  obtain ⟨B1, hp0⟩ := hp0
  obtain ⟨e1, hp0⟩ := hp0
  obtain ⟨rfl, rfl⟩ := hp0
  simp only [List.cons_append, List.nil_append, splice, spliceL]
  refine at_wanted (j := 14) rfl ?_
  refine at_v (ov_build (cs := [_, _]) rfl rfl rfl rfl) rfl rfl rfl ?_
  refine at_wanted (j := 14) rfl ?_
  refine at_v (ov_build (cs := [_, _]) rfl rfl rfl rfl) rfl rfl rfl ?_
  refine at_wanted (j := 14) rfl ?_
  refine at_t (ot_buildSlice (cs := [_, _, _, _]) rfl Tryd.underlying27 rfl rfl rfl rfl rfl rfl) rfl rfl rfl ?_
  rintro _ _ ⟨g1, rfl, rfl⟩
  refine at_wanted (j := 14) rfl ?_
  refine at_rowOf (c := 2) (size := 2) tE 0 outC rfl (fun _ _ => rfl) (by decide) (by decide) (by decide) rfl ?_
  simp only [setAt]
  refine at_reval 38 (.slice (some ⟨g1, 0, none⟩) outC.length 2) rfl rfl ?_
  refine at_t (ot_call (ks := [1, 0]) rfl rfl rfl Tryd.call11 rfl (T11a _ (by first | assumption | rfl | omega | decide | (simp; done) | (simp at *; omega)) (by first | assumption | rfl | omega | decide | (simp; done) | (simp at *; omega))) rfl) rfl rfl rfl ?_
  rintro v0 _ ⟨m0, hp0, rfl⟩
  obtain ⟨rfl, rfl⟩ := hp0
  simp only [List.cons_append, List.nil_append, splice, spliceL]
  refine at_v (ov_pick_t rfl rfl rfl) rfl rfl rfl ?_
  refine at_v (ov_move rfl rfl) rfl rfl rfl ?_
  refine at_wanted (j := 22) rfl ?_
  refine at_v (ov_move rfl rfl) rfl rfl rfl ?_
  refine at_wanted (j := 22) rfl ?_
  refine at_v (ov_int rfl rfl rfl rfl) rfl rfl rfl ?_
  refine at_v (ov_pick_t rfl rfl rfl) rfl rfl rfl ?_
  refine at_v (ov_move rfl rfl) rfl rfl rfl ?_
  refine at_wanted (j := 26) rfl ?_
  refine at_v (ov_build (cs := [_, _]) rfl rfl rfl rfl) rfl rfl rfl ?_
  refine at_wanted (j := 26) rfl ?_
  refine at_t (ot_call (ks := []) rfl rfl rfl Tryd.call12 rfl (hR ) rfl) rfl rfl rfl ?_
  rintro v0 _ ⟨m0, hp0, rfl⟩
  obtain ⟨rfl, rfl⟩ := hp0
  simp only [List.cons_append, List.nil_append, splice, spliceL]
  refine at_v (ov_pick_t rfl rfl rfl) rfl rfl rfl ?_
  refine at_v (ov_move rfl rfl) rfl rfl rfl ?_
  refine at_wanted (j := 30) rfl ?_
  refine at_v (ov_move rfl rfl) rfl rfl rfl ?_
  refine at_wanted (j := 30) rfl ?_
  refine at_t (ot_call (ks := [5]) rfl rfl rfl Tryd.call15 rfl (T15a _ (by first | assumption | rfl | omega | decide | (simp; done) | (simp at *; omega)) (by first | assumption | rfl | omega | decide | (simp; done) | (simp at *; omega)) (by first | assumption | rfl | omega | decide | (simp; done) | (simp at *; omega))) rfl) rfl rfl rfl ?_
  rintro v0 _ ⟨m0, hp0, rfl⟩
  obtain ⟨rfl, rfl⟩ := hp0
  simp only [List.cons_append, List.nil_append, splice, spliceL]
  refine at_wanted (j := 30) rfl ?_
  refine at_v (ov_strL rfl rfl rfl rfl) rfl rfl rfl ?_
  refine at_v (ov_pick_t rfl rfl rfl) rfl rfl rfl ?_
  refine at_v (ov_assign rfl rfl) rfl rfl rfl ?_
  refine at_nil ?_
  refine at_normal ?_
  refine hK4 _ _ _ ?_
  refine at_ret ?_
  refine at_end ?_
  refine at_fin (rsV rfl (res_tmp rfl)) ?_
  refine ⟨_, ⟨?_, rfl⟩, ?_⟩
  · rw [writeA]; rfl
  exact fun _ s => s.finEq (ks := []) (js := [0, 0, 0, 0, 0, 0, 0]) rfl rfl rfl
theorem lexL_len : ∀ (n : Nat) {l : BL} {ts : List Tok}, l.length ≤ n → lexL l = some ts → ts.length ≤ l.length := by
  intro n
  induction n with
  | zero =>
    intro l ts hl h
    have : l = [] := List.eq_nil_of_length_eq_zero (by omega)
    subst this
    rw [lexL_nil] at h; cases h; simp
  | succ n ih =>
    intro l ts hl h
    cases l with
    | nil => rw [lexL_nil] at h; cases h; simp
    | cons c r =>
      rw [lexL_cons] at h
      simp only [List.length_cons] at hl ⊢
      have key : ∀ (k : Nat) (us : List Tok), 1 ≤ k → lexL ((c :: r).drop k) = some us → us.length + 1 ≤ r.length + 1 := fun k us hk hu => by
        have := ih (by rw [List.length_drop, List.length_cons]; omega) hu
        rw [List.length_drop, List.length_cons] at this; omega
      split at h
      · have := ih (by omega) h; omega
      · split at h
        · split at h
          · cases h
          · rename_i h1
            cases hu : lexL ((c :: r).drop (oneL (c :: r)).2.toNat) with
            | none => rw [hu] at h; cases h
            | some us =>
              rw [hu] at h
              cases h
              have := key _ us (oneL_le (by omega)).1 hu
              simp only [List.length_cons]; omega
        · split at h
          · cases h
          · have := key _ ts (by omega) h; omega
theorem lexR_len (s : BL) : (lexR s).1.length ≤ 200 := by
  unfold lexR
  split
  · simp
  · cases h : lexL s with
    | none => simp
    | some ts =>
      have := lexL_len _ (Nat.le_refl _) h
      simp only; omega
theorem T3 (w0 : World) (s : BL) {A : Option Addr} {c : Nat} {l : List Tok} (t : Tok) (hs : s.length ≤ 140737488351232) (hr : Rd tE w0 2 A l) (hm : l.length ≤ 5864062014634) (hb : ∀ t ∈ l, t.2.length ≤ 140737488351232) (ht : t.2.length ≤ 140737488351232) (hM : MaxL w0) :
    Tri Tryd.prog w0 3 [SV s, .slice A l.length c, .agg #[.int .i64 t.1, SV t.2]] [] fun v m => v = .bool true ∧ m = [] := by
  refine tri_of Tryd.func3 rfl rfl fun F => ?_
  simp only [Tryd.ntmps3, argEnv, List.nil_append]
  have hb2 : ∀ t ∈ l, t.2.length ≤ 1000000000000000000 := fun t h => by have := hb t h; omega
  by_cases h1 : 2000 < s.length
  · have hi1 : decide ((s.length : Int) > 2000) = true := decide_eq_true (by omega)
    refine at_seq_k (fun K0 hK0 => ?_)
    refine at_region ?_
    refine at_t (ot_boxA rfl rfl) rfl rfl rfl ?_
    rintro _ _ ⟨g0, rfl, rfl⟩
    refine at_v (ov_assign rfl rfl) rfl rfl rfl ?_
    refine at_nil ?_
    refine at_normal ?_
    refine hK0 _ _ _ ?_
    refine at_seq_k (fun K1 hK1 => ?_)
    refine at_seq_k (fun K2 hK2 => ?_)
    refine at_region ?_
    refine at_t (ot_call (ks := []) rfl rfl rfl Tryd.call6 rfl (T6 _ (by first | assumption | rfl | omega | decide | (simp; done) | (simp at *; omega))) rfl) rfl rfl rfl ?_
    rintro v0 _ ⟨m0, hp0, rfl⟩
    obtain ⟨rfl, rfl⟩ := hp0
    simp only [List.cons_append, List.nil_append, splice, spliceL]
    refine at_v (ov_not rfl rfl) rfl rfl rfl ?_
    refine at_nil ?_
    refine at_normal ?_
    refine hK2 _ _ _ ?_
    refine at_cond_false rfl ?_
    refine at_skip ?_
    refine at_normal ?_
    refine hK1 _ _ _ ?_
    refine at_seq_k (fun K3 hK3 => ?_)
    refine at_seq_k (fun K4 hK4 => ?_)
    refine at_region ?_
    refine at_v (ov_move rfl rfl) rfl rfl rfl ?_
    refine at_v (ov_len_strL rfl Tryd.underlying9 rfl) rfl rfl rfl ?_
    refine at_v (ov_int rfl rfl rfl rfl) rfl rfl rfl ?_
    refine at_v (ov_move rfl rfl) rfl rfl rfl ?_
    refine at_reval 16 (.bool true) rfl (congrArg Value.bool (decide_eq_true (by omega))) ?_
    refine at_unwanted (j := 3) rfl rfl rfl rfl ?_
    refine at_unwanted (j := 3) rfl rfl rfl rfl ?_
    refine at_unwanted (j := 3) rfl rfl rfl rfl ?_
    refine at_v (ov_pick_t rfl rfl rfl) rfl rfl rfl ?_
    refine at_v (ov_move rfl rfl) rfl rfl rfl ?_
    refine at_unwanted (j := 8) rfl rfl rfl rfl ?_
    refine at_unwanted (j := 8) rfl rfl rfl rfl ?_
    refine at_unwanted (j := 8) rfl rfl rfl rfl ?_
    refine at_unwanted (j := 8) rfl rfl rfl rfl ?_
    refine at_v (ov_pick_t rfl rfl rfl) rfl rfl rfl ?_
    refine at_nil ?_
    refine at_normal ?_
    refine hK4 _ _ _ ?_
    refine at_cond_true rfl ?_
    refine at_seq_k (fun K5 hK5 => ?_)
    refine at_region ?_
    refine at_v (ov_assign rfl rfl) rfl rfl rfl ?_
    refine at_nil ?_
    refine at_normal ?_
    refine hK5 _ _ _ ?_
    refine at_ret ?_
    refine at_then_ret ?_
    refine at_end ?_
    refine at_fin (rsV rfl (res_tmp rfl)) ?_
    refine ⟨_, ⟨rfl, rfl⟩, ?_⟩
    exact fun _ s => s.finEq (ks := []) (js := [0]) rfl rfl rfl
  have hi1 : decide ((s.length : Int) > 2000) = false := decide_eq_false (by omega)
  cases hi2 : largeT l with
  | true =>
    refine at_seq_k (fun K0 hK0 => ?_)
    refine at_region ?_
    refine at_t (ot_boxA rfl rfl) rfl rfl rfl ?_
    rintro _ _ ⟨g0, rfl, rfl⟩
    refine at_v (ov_assign rfl rfl) rfl rfl rfl ?_
    refine at_nil ?_
    refine at_normal ?_
    refine hK0 _ _ _ ?_
    refine at_seq_k (fun K1 hK1 => ?_)
    refine at_seq_k (fun K2 hK2 => ?_)
    refine at_region ?_
    refine at_t (ot_call (ks := []) rfl rfl rfl Tryd.call6 rfl (T6 _ (by first | assumption | rfl | omega | decide | (simp; done) | (simp at *; omega))) rfl) rfl rfl rfl ?_
    rintro v0 _ ⟨m0, hp0, rfl⟩
    obtain ⟨rfl, rfl⟩ := hp0
    simp only [List.cons_append, List.nil_append, splice, spliceL]
    refine at_v (ov_not rfl rfl) rfl rfl rfl ?_
    refine at_nil ?_
    refine at_normal ?_
    refine hK2 _ _ _ ?_
    refine at_cond_false rfl ?_
    refine at_skip ?_
    refine at_normal ?_
    refine hK1 _ _ _ ?_
    refine at_seq_k (fun K3 hK3 => ?_)
    refine at_seq_k (fun K4 hK4 => ?_)
    refine at_region ?_
    refine at_v (ov_move rfl rfl) rfl rfl rfl ?_
    refine at_v (ov_len_strL rfl Tryd.underlying9 rfl) rfl rfl rfl ?_
    refine at_v (ov_int rfl rfl rfl rfl) rfl rfl rfl ?_
    refine at_v (ov_move rfl rfl) rfl rfl rfl ?_
    refine at_reval 16 (.bool false) rfl (congrArg Value.bool (decide_eq_false (by omega))) ?_
    refine at_wanted (j := 3) rfl ?_
    refine at_v (ov_move rfl rfl) rfl rfl rfl ?_
    refine at_wanted (j := 3) rfl ?_
    refine at_t (ot_call (ks := []) rfl rfl rfl Tryd.call8 rfl (T8 _ (by first | assumption | rfl | omega | decide | (simp; done) | (simp at *; omega)) (by first | assumption | rfl | omega | decide | (simp; done) | (simp at *; omega))) rfl) rfl rfl rfl ?_
    rintro v0 _ ⟨m0, hp0, rfl⟩
    obtain ⟨B0, hp0⟩ := hp0
    obtain ⟨e0, hp0⟩ := hp0
    obtain ⟨rfl, rfl⟩ := hp0
    simp only [List.cons_append, List.nil_append, splice, spliceL]
    refine at_wanted (j := 3) rfl ?_
    refine at_t (ot_call (ks := [0]) rfl rfl rfl Tryd.call7 rfl (T7a _ (by first | assumption | rfl | omega | decide | (simp; done) | (simp at *; omega)) (by first | assumption | rfl | omega | decide | (simp; done) | (simp at *; omega))) rfl) rfl rfl rfl ?_
    rintro v0 _ ⟨m0, hp0, rfl⟩
    obtain ⟨rfl, rfl⟩ := hp0
    simp only [List.cons_append, List.nil_append, splice, spliceL]
    refine at_v (ov_pick_f rfl rfl rfl) rfl rfl rfl ?_
    refine at_v (ov_move rfl rfl) rfl rfl rfl ?_
    refine at_reval 21 (.bool true) rfl (congrArg Value.bool (by first | assumption | (rw [Bool.not_eq_true']; exact decide_eq_false (by omega)))) ?_
    refine at_unwanted (j := 8) rfl rfl rfl rfl ?_
    refine at_unwanted (j := 8) rfl rfl rfl rfl ?_
    refine at_unwanted (j := 8) rfl rfl rfl rfl ?_
    refine at_unwanted (j := 8) rfl rfl rfl rfl ?_
    refine at_v (ov_pick_t rfl rfl rfl) rfl rfl rfl ?_
    refine at_nil ?_
    refine at_normal ?_
    refine hK4 _ _ _ ?_
    refine at_cond_true rfl ?_
    refine at_seq_k (fun K5 hK5 => ?_)
    refine at_region ?_
    refine at_v (ov_assign rfl rfl) rfl rfl rfl ?_
    refine at_nil ?_
    refine at_normal ?_
    refine hK5 _ _ _ ?_
    refine at_ret ?_
    refine at_then_ret ?_
    refine at_end ?_
    refine at_fin (rsV rfl (res_tmp rfl)) ?_
    refine ⟨_, ⟨rfl, rfl⟩, ?_⟩
    exact fun _ s => s.finEq (ks := []) (js := [0, 0]) rfl rfl rfl
  | false =>
    by_cases h3 : 2000 < t.2.length
    · have hi3 : decide ((t.2.length : Int) > 2000) = true := decide_eq_true (by omega)
      refine at_seq_k (fun K0 hK0 => ?_)
      refine at_region ?_
      refine at_t (ot_boxA rfl rfl) rfl rfl rfl ?_
      rintro _ _ ⟨g0, rfl, rfl⟩
      refine at_v (ov_assign rfl rfl) rfl rfl rfl ?_
      refine at_nil ?_
      refine at_normal ?_
      refine hK0 _ _ _ ?_
      refine at_seq_k (fun K1 hK1 => ?_)
      refine at_seq_k (fun K2 hK2 => ?_)
      refine at_region ?_
      refine at_t (ot_call (ks := []) rfl rfl rfl Tryd.call6 rfl (T6 _ (by first | assumption | rfl | omega | decide | (simp; done) | (simp at *; omega))) rfl) rfl rfl rfl ?_
      rintro v0 _ ⟨m0, hp0, rfl⟩
      obtain ⟨rfl, rfl⟩ := hp0
      simp only [List.cons_append, List.nil_append, splice, spliceL]
      refine at_v (ov_not rfl rfl) rfl rfl rfl ?_
      refine at_nil ?_
      refine at_normal ?_
      refine hK2 _ _ _ ?_
      refine at_cond_false rfl ?_
      refine at_skip ?_
      refine at_normal ?_
      refine hK1 _ _ _ ?_
      refine at_seq_k (fun K3 hK3 => ?_)
      refine at_seq_k (fun K4 hK4 => ?_)
      refine at_region ?_
      refine at_v (ov_move rfl rfl) rfl rfl rfl ?_
      refine at_v (ov_len_strL rfl Tryd.underlying9 rfl) rfl rfl rfl ?_
      refine at_v (ov_int rfl rfl rfl rfl) rfl rfl rfl ?_
      refine at_v (ov_move rfl rfl) rfl rfl rfl ?_
      refine at_reval 16 (.bool false) rfl (congrArg Value.bool (decide_eq_false (by omega))) ?_
      refine at_wanted (j := 3) rfl ?_
      refine at_v (ov_move rfl rfl) rfl rfl rfl ?_
      refine at_wanted (j := 3) rfl ?_
      refine at_t (ot_call (ks := []) rfl rfl rfl Tryd.call8 rfl (T8 _ (by first | assumption | rfl | omega | decide | (simp; done) | (simp at *; omega)) (by first | assumption | rfl | omega | decide | (simp; done) | (simp at *; omega))) rfl) rfl rfl rfl ?_
      rintro v0 _ ⟨m0, hp0, rfl⟩
      obtain ⟨B0, hp0⟩ := hp0
      obtain ⟨e0, hp0⟩ := hp0
      obtain ⟨rfl, rfl⟩ := hp0
      simp only [List.cons_append, List.nil_append, splice, spliceL]
      refine at_wanted (j := 3) rfl ?_
      refine at_t (ot_call (ks := [0]) rfl rfl rfl Tryd.call7 rfl (T7a _ (by first | assumption | rfl | omega | decide | (simp; done) | (simp at *; omega)) (by first | assumption | rfl | omega | decide | (simp; done) | (simp at *; omega))) rfl) rfl rfl rfl ?_
      rintro v0 _ ⟨m0, hp0, rfl⟩
      obtain ⟨rfl, rfl⟩ := hp0
      simp only [List.cons_append, List.nil_append, splice, spliceL]
      refine at_v (ov_pick_f rfl rfl rfl) rfl rfl rfl ?_
      refine at_v (ov_move rfl rfl) rfl rfl rfl ?_
      refine at_reval 21 (.bool false) rfl (congrArg Value.bool (by first | assumption | (rw [Bool.not_eq_false']; exact decide_eq_true (by omega)))) ?_
      refine at_wanted (j := 8) rfl ?_
      refine at_v (ov_fieldAddr (k := 1) (r := 1) rfl rfl rfl rfl) rfl rfl rfl ?_
      refine at_wanted (j := 8) rfl ?_
      refine at_v (ov_load rfl rfl rfl (fun _ s => s.ld (k := 1) rfl rfl)) rfl rfl rfl ?_
      refine at_wanted (j := 8) rfl ?_
      refine at_v (ov_len_strL rfl Tryd.underlying9 rfl) rfl rfl rfl ?_
      refine at_wanted (j := 8) rfl ?_
      refine at_v (ov_int rfl rfl rfl rfl) rfl rfl rfl ?_
      refine at_v (ov_pick_f rfl rfl rfl) rfl rfl rfl ?_
      refine at_nil ?_
      refine at_normal ?_
      refine hK4 _ _ _ ?_
      refine at_cond_true (congrArg (fun b => some (Value.bool b)) (show _ = true from decide_eq_true (by omega))) ?_
      refine at_seq_k (fun K5 hK5 => ?_)
      refine at_region ?_
      refine at_v (ov_assign rfl rfl) rfl rfl rfl ?_
      refine at_nil ?_
      refine at_normal ?_
      refine hK5 _ _ _ ?_
      refine at_ret ?_
      refine at_then_ret ?_
      refine at_end ?_
      refine at_fin (rsV rfl (res_tmp rfl)) ?_
      refine ⟨_, ⟨rfl, rfl⟩, ?_⟩
      exact fun _ s => s.finEq (ks := []) (js := [0, 0]) rfl rfl rfl
    have hi3 : decide ((t.2.length : Int) > 2000) = false := decide_eq_false (by omega)
    have hsum : sumT l ≤ 2000 := by have := of_decide_eq_false hi2; omega
    have hl2 : l.length ≤ 10000 := by have := sumT_len l; omega
    have ht2 : ∀ t ∈ l, t.2.length ≤ 10000 := fun t h => by have := sumT_mem h; omega
    have hln := lexR_len s
    have hR1 := T12 w0 t (by omega) hM
    have hR2 := T13 w0 t (by omega)
    have hi4 : decide ((lexR s).1 = (lexR s).1) = true := decide_eq_true rfl
    cases hi5 : l.all rightL with
    | false =>
      have hi6 : (!l.all rightL) = true := by rw [hi5]; rfl
      refine at_seq_k (fun K0 hK0 => ?_)
      refine at_region ?_
      refine at_t (ot_boxA rfl rfl) rfl rfl rfl ?_
      rintro _ _ ⟨g0, rfl, rfl⟩
      refine at_v (ov_assign rfl rfl) rfl rfl rfl ?_
      refine at_nil ?_
      refine at_normal ?_
      refine hK0 _ _ _ ?_
      refine at_seq_k (fun K1 hK1 => ?_)
      refine at_seq_k (fun K2 hK2 => ?_)
      refine at_region ?_
      refine at_t (ot_call (ks := []) rfl rfl rfl Tryd.call6 rfl (T6 _ (by first | assumption | rfl | omega | decide | (simp; done) | (simp at *; omega))) rfl) rfl rfl rfl ?_
      rintro v0 _ ⟨m0, hp0, rfl⟩
      obtain ⟨rfl, rfl⟩ := hp0
      simp only [List.cons_append, List.nil_append, splice, spliceL]
      refine at_v (ov_not rfl rfl) rfl rfl rfl ?_
      refine at_nil ?_
      refine at_normal ?_
      refine hK2 _ _ _ ?_
      refine at_cond_false rfl ?_
      refine at_skip ?_
      refine at_normal ?_
      refine hK1 _ _ _ ?_
      refine at_seq_k (fun K3 hK3 => ?_)
      refine at_seq_k (fun K4 hK4 => ?_)
      refine at_region ?_
      refine at_v (ov_move rfl rfl) rfl rfl rfl ?_
      refine at_v (ov_len_strL rfl Tryd.underlying9 rfl) rfl rfl rfl ?_
      refine at_v (ov_int rfl rfl rfl rfl) rfl rfl rfl ?_
      refine at_v (ov_move rfl rfl) rfl rfl rfl ?_
      refine at_reval 16 (.bool false) rfl (congrArg Value.bool (decide_eq_false (by omega))) ?_
      refine at_wanted (j := 3) rfl ?_
      refine at_v (ov_move rfl rfl) rfl rfl rfl ?_
      refine at_wanted (j := 3) rfl ?_
      refine at_t (ot_call (ks := []) rfl rfl rfl Tryd.call8 rfl (T8 _ (by first | assumption | rfl | omega | decide | (simp; done) | (simp at *; omega)) (by first | assumption | rfl | omega | decide | (simp; done) | (simp at *; omega))) rfl) rfl rfl rfl ?_
      rintro v0 _ ⟨m0, hp0, rfl⟩
      obtain ⟨B0, hp0⟩ := hp0
      obtain ⟨e0, hp0⟩ := hp0
      obtain ⟨rfl, rfl⟩ := hp0
      simp only [List.cons_append, List.nil_append, splice, spliceL]
      refine at_wanted (j := 3) rfl ?_
      refine at_t (ot_call (ks := [0]) rfl rfl rfl Tryd.call7 rfl (T7a _ (by first | assumption | rfl | omega | decide | (simp; done) | (simp at *; omega)) (by first | assumption | rfl | omega | decide | (simp; done) | (simp at *; omega))) rfl) rfl rfl rfl ?_
      rintro v0 _ ⟨m0, hp0, rfl⟩
      obtain ⟨rfl, rfl⟩ := hp0
      simp only [List.cons_append, List.nil_append, splice, spliceL]
      refine at_v (ov_pick_f rfl rfl rfl) rfl rfl rfl ?_
      refine at_v (ov_move rfl rfl) rfl rfl rfl ?_
      refine at_reval 21 (.bool false) rfl (congrArg Value.bool (decide_eq_false (by omega))) ?_
      refine at_wanted (j := 8) rfl ?_
      refine at_v (ov_fieldAddr (k := 1) (r := 1) rfl rfl rfl rfl) rfl rfl rfl ?_
      refine at_wanted (j := 8) rfl ?_
      refine at_v (ov_load rfl rfl rfl (fun _ s => s.ld (k := 1) rfl rfl)) rfl rfl rfl ?_
      refine at_wanted (j := 8) rfl ?_
      refine at_v (ov_len_strL rfl Tryd.underlying9 rfl) rfl rfl rfl ?_
      refine at_wanted (j := 8) rfl ?_
      refine at_v (ov_int rfl rfl rfl rfl) rfl rfl rfl ?_
      refine at_v (ov_pick_f rfl rfl rfl) rfl rfl rfl ?_
      refine at_nil ?_
      refine at_normal ?_
      refine hK4 _ _ _ ?_
      refine at_cond_false (congrArg (fun b => some (Value.bool b)) (show _ = false from decide_eq_false (by omega))) ?_
      refine at_skip ?_
      refine at_normal ?_
      refine hK3 _ _ _ ?_
      refine at_seq_k (fun K5 hK5 => ?_)
      refine at_region ?_
      refine at_v (ov_move rfl rfl) rfl rfl rfl ?_
      refine at_t (ot_call (ks := []) rfl rfl rfl Tryd.call9 rfl (T9 _ _ (by first | assumption | rfl | omega | decide | (simp; done) | (simp at *; omega)) (by first | assumption | rfl | omega | decide | (simp; done) | (simp at *; omega))) rfl) rfl rfl rfl ?_
      rintro v0 _ ⟨m0, hp0, rfl⟩
      obtain ⟨A0, hp0⟩ := hp0
      obtain ⟨c0, hp0⟩ := hp0
      obtain ⟨rfl, rfl⟩ := hp0
      simp only [List.cons_append, List.nil_append, splice, spliceL]
      refine at_v (ov_move rfl rfl) rfl rfl rfl ?_
      refine at_v (ov_extract rfl rfl rfl) rfl rfl rfl ?_
      refine at_v (ov_extract rfl rfl rfl) rfl rfl rfl ?_
      refine at_v (ov_assign rfl rfl) rfl rfl rfl ?_
      refine at_v (ov_assign rfl rfl) rfl rfl rfl ?_
      refine at_nil ?_
      refine at_normal ?_
      refine hK5 _ _ _ ?_
      refine at_seq_k (fun K6 hK6 => ?_)
      refine at_region ?_
      refine at_v (ov_move rfl rfl) rfl rfl rfl ?_
      refine at_t (ot_call (ks := []) rfl rfl rfl Tryd.call10 rfl (T10 _ _ (by first | assumption | rfl | omega | decide | (simp; done) | (simp at *; omega))) rfl) rfl rfl rfl ?_
      rintro v0 _ ⟨m0, hp0, rfl⟩
      obtain ⟨A1, hp0⟩ := hp0
      obtain ⟨c1, hp0⟩ := hp0
      obtain ⟨rfl, rfl⟩ := hp0
      simp only [List.cons_append, List.nil_append, splice, spliceL]
      refine at_v (ov_move rfl rfl) rfl rfl rfl ?_
      refine at_v (ov_extract rfl rfl rfl) rfl rfl rfl ?_
      refine at_v (ov_extract rfl rfl rfl) rfl rfl rfl ?_
      refine at_v (ov_assign rfl rfl) rfl rfl rfl ?_
      refine at_v (ov_assign rfl rfl) rfl rfl rfl ?_
      refine at_nil ?_
      refine at_normal ?_
      refine hK6 _ _ _ ?_
      refine at_seq_k (fun K7 hK7 => ?_)
      refine at_draw _ [] 1000 [(2, 0), (2, 2), (0, 1), (0, 3), (2, 4), (2, 5), (2, 6), (2, 7), (2, 8), (2, 9), (1, 10), (1, 12), (0, 11), (0, 13), (2, 14), (2, 15), (2, 16), (2, 17), (0, 18), (2, 19), (2, 20), (2, 21), (2, 23), (0, 22), (0, 24), (0, 25), (2, 26), (2, 27), (2, 28), (2, 29)] (by kernel_rfl) (by kernel_rfl) (fun _ s => (s.pulls (ks := [3]) rfl).left) ?_
      refine aq_p (ov_move rfl rfl) rfl rfl rfl ?_
      refine aq_p (ov_move rfl rfl) rfl rfl rfl ?_
      refine aq_t (ot_call (ks := [1]) rfl rfl rfl Tryd.call8 rfl (T8a _ (by first | assumption | rfl | omega | decide | (simp; done) | (simp at *; omega))) rfl) rfl rfl rfl ?_
      rintro v0 _ ⟨m0, hp0, rfl⟩
      obtain ⟨B1, hp0⟩ := hp0
      obtain ⟨e1, hp0⟩ := hp0
      obtain ⟨rfl, rfl⟩ := hp0
      simp only [List.cons_append, List.nil_append, splice, spliceL]
      refine ⟨fun _ s => (s.pulls (ks := [4]) rfl).left, ?_⟩
      refine aq_t (ot_call (ks := [0, 1]) rfl rfl rfl Tryd.call11 rfl (T11a _ (by first | assumption | rfl | omega | decide | (simp; done) | (simp at *; omega)) (by first | assumption | rfl | omega | decide | (simp; done) | (simp at *; omega))) rfl) rfl rfl rfl ?_
      rintro v0 _ ⟨m0, hp0, rfl⟩
      obtain ⟨rfl, rfl⟩ := hp0
      simp only [List.cons_append, List.nil_append, splice, spliceL]
      refine ⟨fun _ s => (s.pulls (ks := [4]) rfl).left, ?_⟩
      refine aq_p (ov_move rfl rfl) rfl rfl rfl ?_
      refine aq_wanted (j := 4) rfl ?_
      refine aq_p (ov_move rfl rfl) rfl rfl rfl ?_
      refine aq_wanted (j := 4) rfl ?_
      refine aq_p (ov_move rfl rfl) rfl rfl rfl ?_
      refine aq_wanted (j := 4) rfl ?_
      refine aq_p (ov_int rfl rfl rfl rfl) rfl rfl rfl ?_
      refine aq_p (ov_pick_t rfl rfl rfl) rfl rfl rfl ?_
      refine aq_p (ov_move rfl rfl) rfl rfl rfl ?_
      refine at_reval 46 (.bool true) rfl (congrArg Value.bool (decide_eq_true (by omega))) ?_
      refine aq_wanted (j := 9) rfl ?_
      refine aq_v (ov_loadS (cs := [_, _]) rfl rfl rfl rfl (fun _ s => s.lds (k := 0) rfl ⟨rfl, rfl, trivial⟩)) rfl rfl rfl ?_
      refine aq_wanted (j := 9) rfl ?_
      refine aq_v (ov_loadS (cs := [_, _]) rfl rfl rfl rfl (fun _ s => s.lds (k := 0) rfl ⟨rfl, rfl, trivial⟩)) rfl rfl rfl ?_
      refine aq_wanted (j := 9) rfl ?_
      refine aq_t (ot_call (ks := []) rfl rfl rfl Tryd.call12 rfl (hR1 ) rfl) rfl rfl rfl ?_
      rintro v0 _ ⟨m0, hp0, rfl⟩
      obtain ⟨rfl, rfl⟩ := hp0
      simp only [List.cons_append, List.nil_append, splice, spliceL]
      refine ⟨fun _ s => (s.pulls (ks := [4]) rfl).left, ?_⟩
      refine aq_wanted (j := 9) rfl ?_
      refine aq_t (ot_call (ks := []) rfl rfl rfl Tryd.call13 rfl (hR2 ) rfl) rfl rfl rfl ?_
      rintro v0 _ ⟨m0, hp0, rfl⟩
      obtain ⟨rfl, rfl⟩ := hp0
      simp only [List.cons_append, List.nil_append, splice, spliceL]
      refine ⟨fun _ s => (s.pulls (ks := [4]) rfl).left, ?_⟩
      refine aq_wanted (j := 9) rfl ?_
      refine aq_p (ov_booleq rfl Tryd.underlying4 rfl rfl) rfl rfl rfl ?_
      refine aq_p (ov_pick_t rfl rfl rfl) rfl rfl rfl ?_
      refine aq_p (ov_move rfl rfl) rfl rfl rfl ?_
      refine at_reval 53 (.bool true) rfl (congrArg Value.bool (by simp; done)) ?_
      refine aq_wanted (j := 16) rfl ?_
      refine aq_p (ov_move rfl rfl) rfl rfl rfl ?_
      refine aq_wanted (j := 16) rfl ?_
      refine aq_t (ot_call (ks := []) rfl rfl rfl Tryd.call14 rfl (T14 _ (by first | assumption | rfl | omega | decide | (simp; done) | (simp at *; omega)) (by first | assumption | rfl | omega | decide | (simp; done) | (simp at *; omega)) (by first | assumption | rfl | omega | decide | (simp; done) | (simp at *; omega))) rfl) rfl rfl rfl ?_
      rintro v0 _ ⟨m0, hp0, rfl⟩
      obtain ⟨rfl, rfl⟩ := hp0
      simp only [List.cons_append, List.nil_append, splice, spliceL]
      refine ⟨fun _ s => (s.pulls (ks := [4]) rfl).left, ?_⟩
      refine aq_wanted (j := 16) rfl ?_
      refine aq_p (ov_not rfl rfl) rfl rfl rfl ?_
      refine aq_wanted (j := 16) rfl ?_
      refine aq_p (ov_move rfl rfl) rfl rfl rfl ?_
      refine at_reval 57 (.bool true) rfl (congrArg Value.bool (by first | assumption | (rw [Bool.not_eq_true']; exact decide_eq_false (by omega)))) ?_
      refine aq_unwanted (j := 20) rfl rfl rfl rfl rfl ?_
      refine aq_unwanted (j := 20) rfl rfl rfl rfl rfl ?_
      refine aq_unwanted (j := 20) rfl rfl rfl rfl rfl ?_
      refine aq_unwanted (j := 20) rfl rfl rfl rfl rfl ?_
      refine aq_unwanted (j := 20) rfl rfl rfl rfl rfl ?_
      refine aq_unwanted (j := 20) rfl rfl rfl rfl rfl ?_
      refine aq_wanted (j := 16) rfl ?_
      refine aq_p (ov_pick_t rfl rfl rfl) rfl rfl rfl ?_
      refine aq_p (ov_pick_t rfl rfl rfl) rfl rfl rfl ?_
      refine aq_p (ov_assign rfl rfl) rfl rfl rfl ?_
      refine aq_nil ?_
      refine at_normal ?_
      refine hK7 _ _ _ ?_
      refine at_ret ?_
      refine at_end ?_
      refine at_fin (rsV rfl (res_tmp rfl)) ?_
      refine ⟨_, ⟨by simp, rfl⟩, ?_⟩
      exact fun _ s => s.finEq (ks := []) (js := [0, 0, 0, 0, 0]) rfl rfl rfl
    | true =>
      have hi6 : (!l.all rightL) = false := by rw [hi5]; rfl
      refine at_seq_k (fun K0 hK0 => ?_)
      refine at_region ?_
      refine at_t (ot_boxA rfl rfl) rfl rfl rfl ?_
      rintro _ _ ⟨g0, rfl, rfl⟩
      refine at_v (ov_assign rfl rfl) rfl rfl rfl ?_
      refine at_nil ?_
      refine at_normal ?_
      refine hK0 _ _ _ ?_
      refine at_seq_k (fun K1 hK1 => ?_)
      refine at_seq_k (fun K2 hK2 => ?_)
      refine at_region ?_
      refine at_t (ot_call (ks := []) rfl rfl rfl Tryd.call6 rfl (T6 _ (by first | assumption | rfl | omega | decide | (simp; done) | (simp at *; omega))) rfl) rfl rfl rfl ?_
      rintro v0 _ ⟨m0, hp0, rfl⟩
      obtain ⟨rfl, rfl⟩ := hp0
      simp only [List.cons_append, List.nil_append, splice, spliceL]
      refine at_v (ov_not rfl rfl) rfl rfl rfl ?_
      refine at_nil ?_
      refine at_normal ?_
      refine hK2 _ _ _ ?_
      refine at_cond_false rfl ?_
      refine at_skip ?_
      refine at_normal ?_
      refine hK1 _ _ _ ?_
      refine at_seq_k (fun K3 hK3 => ?_)
      refine at_seq_k (fun K4 hK4 => ?_)
      refine at_region ?_
      refine at_v (ov_move rfl rfl) rfl rfl rfl ?_
      refine at_v (ov_len_strL rfl Tryd.underlying9 rfl) rfl rfl rfl ?_
      refine at_v (ov_int rfl rfl rfl rfl) rfl rfl rfl ?_
      refine at_v (ov_move rfl rfl) rfl rfl rfl ?_
      refine at_reval 16 (.bool false) rfl (congrArg Value.bool (decide_eq_false (by omega))) ?_
      refine at_wanted (j := 3) rfl ?_
      refine at_v (ov_move rfl rfl) rfl rfl rfl ?_
      refine at_wanted (j := 3) rfl ?_
      refine at_t (ot_call (ks := []) rfl rfl rfl Tryd.call8 rfl (T8 _ (by first | assumption | rfl | omega | decide | (simp; done) | (simp at *; omega)) (by first | assumption | rfl | omega | decide | (simp; done) | (simp at *; omega))) rfl) rfl rfl rfl ?_
      rintro v0 _ ⟨m0, hp0, rfl⟩
      obtain ⟨B0, hp0⟩ := hp0
      obtain ⟨e0, hp0⟩ := hp0
      obtain ⟨rfl, rfl⟩ := hp0
      simp only [List.cons_append, List.nil_append, splice, spliceL]
      refine at_wanted (j := 3) rfl ?_
      refine at_t (ot_call (ks := [0]) rfl rfl rfl Tryd.call7 rfl (T7a _ (by first | assumption | rfl | omega | decide | (simp; done) | (simp at *; omega)) (by first | assumption | rfl | omega | decide | (simp; done) | (simp at *; omega))) rfl) rfl rfl rfl ?_
      rintro v0 _ ⟨m0, hp0, rfl⟩
      obtain ⟨rfl, rfl⟩ := hp0
      simp only [List.cons_append, List.nil_append, splice, spliceL]
      refine at_v (ov_pick_f rfl rfl rfl) rfl rfl rfl ?_
      refine at_v (ov_move rfl rfl) rfl rfl rfl ?_
      refine at_reval 21 (.bool false) rfl (congrArg Value.bool (decide_eq_false (by omega))) ?_
      refine at_wanted (j := 8) rfl ?_
      refine at_v (ov_fieldAddr (k := 1) (r := 1) rfl rfl rfl rfl) rfl rfl rfl ?_
      refine at_wanted (j := 8) rfl ?_
      refine at_v (ov_load rfl rfl rfl (fun _ s => s.ld (k := 1) rfl rfl)) rfl rfl rfl ?_
      refine at_wanted (j := 8) rfl ?_
      refine at_v (ov_len_strL rfl Tryd.underlying9 rfl) rfl rfl rfl ?_
      refine at_wanted (j := 8) rfl ?_
      refine at_v (ov_int rfl rfl rfl rfl) rfl rfl rfl ?_
      refine at_v (ov_pick_f rfl rfl rfl) rfl rfl rfl ?_
      refine at_nil ?_
      refine at_normal ?_
      refine hK4 _ _ _ ?_
      refine at_cond_false (congrArg (fun b => some (Value.bool b)) (show _ = false from decide_eq_false (by omega))) ?_
      refine at_skip ?_
      refine at_normal ?_
      refine hK3 _ _ _ ?_
      refine at_seq_k (fun K5 hK5 => ?_)
      refine at_region ?_
      refine at_v (ov_move rfl rfl) rfl rfl rfl ?_
      refine at_t (ot_call (ks := []) rfl rfl rfl Tryd.call9 rfl (T9 _ _ (by first | assumption | rfl | omega | decide | (simp; done) | (simp at *; omega)) (by first | assumption | rfl | omega | decide | (simp; done) | (simp at *; omega))) rfl) rfl rfl rfl ?_
      rintro v0 _ ⟨m0, hp0, rfl⟩
      obtain ⟨A0, hp0⟩ := hp0
      obtain ⟨c0, hp0⟩ := hp0
      obtain ⟨rfl, rfl⟩ := hp0
      simp only [List.cons_append, List.nil_append, splice, spliceL]
      refine at_v (ov_move rfl rfl) rfl rfl rfl ?_
      refine at_v (ov_extract rfl rfl rfl) rfl rfl rfl ?_
      refine at_v (ov_extract rfl rfl rfl) rfl rfl rfl ?_
      refine at_v (ov_assign rfl rfl) rfl rfl rfl ?_
      refine at_v (ov_assign rfl rfl) rfl rfl rfl ?_
      refine at_nil ?_
      refine at_normal ?_
      refine hK5 _ _ _ ?_
      refine at_seq_k (fun K6 hK6 => ?_)
      refine at_region ?_
      refine at_v (ov_move rfl rfl) rfl rfl rfl ?_
      refine at_t (ot_call (ks := []) rfl rfl rfl Tryd.call10 rfl (T10 _ _ (by first | assumption | rfl | omega | decide | (simp; done) | (simp at *; omega))) rfl) rfl rfl rfl ?_
      rintro v0 _ ⟨m0, hp0, rfl⟩
      obtain ⟨A1, hp0⟩ := hp0
      obtain ⟨c1, hp0⟩ := hp0
      obtain ⟨rfl, rfl⟩ := hp0
      simp only [List.cons_append, List.nil_append, splice, spliceL]
      refine at_v (ov_move rfl rfl) rfl rfl rfl ?_
      refine at_v (ov_extract rfl rfl rfl) rfl rfl rfl ?_
      refine at_v (ov_extract rfl rfl rfl) rfl rfl rfl ?_
      refine at_v (ov_assign rfl rfl) rfl rfl rfl ?_
      refine at_v (ov_assign rfl rfl) rfl rfl rfl ?_
      refine at_nil ?_
      refine at_normal ?_
      refine hK6 _ _ _ ?_
      refine at_seq_k (fun K7 hK7 => ?_)
      refine at_draw _ [] 1000 [(2, 0), (2, 2), (0, 1), (0, 3), (2, 4), (2, 5), (2, 6), (2, 7), (2, 8), (2, 9), (1, 10), (1, 12), (0, 11), (0, 13), (2, 14), (2, 15), (2, 16), (2, 17), (0, 18), (2, 19), (2, 20), (2, 21), (2, 23), (0, 22), (0, 24), (0, 25), (2, 26), (2, 27), (2, 28), (2, 29)] (by kernel_rfl) (by kernel_rfl) (fun _ s => (s.pulls (ks := [3]) rfl).left) ?_
      refine aq_p (ov_move rfl rfl) rfl rfl rfl ?_
      refine aq_p (ov_move rfl rfl) rfl rfl rfl ?_
      refine aq_t (ot_call (ks := [1]) rfl rfl rfl Tryd.call8 rfl (T8a _ (by first | assumption | rfl | omega | decide | (simp; done) | (simp at *; omega))) rfl) rfl rfl rfl ?_
      rintro v0 _ ⟨m0, hp0, rfl⟩
      obtain ⟨B1, hp0⟩ := hp0
      obtain ⟨e1, hp0⟩ := hp0
      obtain ⟨rfl, rfl⟩ := hp0
      simp only [List.cons_append, List.nil_append, splice, spliceL]
      refine ⟨fun _ s => (s.pulls (ks := [4]) rfl).left, ?_⟩
      refine aq_t (ot_call (ks := [0, 1]) rfl rfl rfl Tryd.call11 rfl (T11a _ (by first | assumption | rfl | omega | decide | (simp; done) | (simp at *; omega)) (by first | assumption | rfl | omega | decide | (simp; done) | (simp at *; omega))) rfl) rfl rfl rfl ?_
      rintro v0 _ ⟨m0, hp0, rfl⟩
      obtain ⟨rfl, rfl⟩ := hp0
      simp only [List.cons_append, List.nil_append, splice, spliceL]
      refine ⟨fun _ s => (s.pulls (ks := [4]) rfl).left, ?_⟩
      refine aq_p (ov_move rfl rfl) rfl rfl rfl ?_
      refine aq_wanted (j := 4) rfl ?_
      refine aq_p (ov_move rfl rfl) rfl rfl rfl ?_
      refine aq_wanted (j := 4) rfl ?_
      refine aq_p (ov_move rfl rfl) rfl rfl rfl ?_
      refine aq_wanted (j := 4) rfl ?_
      refine aq_p (ov_int rfl rfl rfl rfl) rfl rfl rfl ?_
      refine aq_p (ov_pick_t rfl rfl rfl) rfl rfl rfl ?_
      refine aq_p (ov_move rfl rfl) rfl rfl rfl ?_
      refine at_reval 46 (.bool true) rfl (congrArg Value.bool (decide_eq_true (by omega))) ?_
      refine aq_wanted (j := 9) rfl ?_
      refine aq_v (ov_loadS (cs := [_, _]) rfl rfl rfl rfl (fun _ s => s.lds (k := 0) rfl ⟨rfl, rfl, trivial⟩)) rfl rfl rfl ?_
      refine aq_wanted (j := 9) rfl ?_
      refine aq_v (ov_loadS (cs := [_, _]) rfl rfl rfl rfl (fun _ s => s.lds (k := 0) rfl ⟨rfl, rfl, trivial⟩)) rfl rfl rfl ?_
      refine aq_wanted (j := 9) rfl ?_
      refine aq_t (ot_call (ks := []) rfl rfl rfl Tryd.call12 rfl (hR1 ) rfl) rfl rfl rfl ?_
      rintro v0 _ ⟨m0, hp0, rfl⟩
      obtain ⟨rfl, rfl⟩ := hp0
      simp only [List.cons_append, List.nil_append, splice, spliceL]
      refine ⟨fun _ s => (s.pulls (ks := [4]) rfl).left, ?_⟩
      refine aq_wanted (j := 9) rfl ?_
      refine aq_t (ot_call (ks := []) rfl rfl rfl Tryd.call13 rfl (hR2 ) rfl) rfl rfl rfl ?_
      rintro v0 _ ⟨m0, hp0, rfl⟩
      obtain ⟨rfl, rfl⟩ := hp0
      simp only [List.cons_append, List.nil_append, splice, spliceL]
      refine ⟨fun _ s => (s.pulls (ks := [4]) rfl).left, ?_⟩
      refine aq_wanted (j := 9) rfl ?_
      refine aq_p (ov_booleq rfl Tryd.underlying4 rfl rfl) rfl rfl rfl ?_
      refine aq_p (ov_pick_t rfl rfl rfl) rfl rfl rfl ?_
      refine aq_p (ov_move rfl rfl) rfl rfl rfl ?_
      refine at_reval 53 (.bool true) rfl (congrArg Value.bool (by simp; done)) ?_
      refine aq_wanted (j := 16) rfl ?_
      refine aq_p (ov_move rfl rfl) rfl rfl rfl ?_
      refine aq_wanted (j := 16) rfl ?_
      refine aq_t (ot_call (ks := []) rfl rfl rfl Tryd.call14 rfl (T14 _ (by first | assumption | rfl | omega | decide | (simp; done) | (simp at *; omega)) (by first | assumption | rfl | omega | decide | (simp; done) | (simp at *; omega)) (by first | assumption | rfl | omega | decide | (simp; done) | (simp at *; omega))) rfl) rfl rfl rfl ?_
      rintro v0 _ ⟨m0, hp0, rfl⟩
      obtain ⟨rfl, rfl⟩ := hp0
      simp only [List.cons_append, List.nil_append, splice, spliceL]
      refine ⟨fun _ s => (s.pulls (ks := [4]) rfl).left, ?_⟩
      refine aq_wanted (j := 16) rfl ?_
      refine aq_p (ov_not rfl rfl) rfl rfl rfl ?_
      refine aq_wanted (j := 16) rfl ?_
      refine aq_p (ov_move rfl rfl) rfl rfl rfl ?_
      refine at_reval 57 (.bool false) rfl (congrArg Value.bool (by first | assumption | (rw [Bool.not_eq_false']; exact decide_eq_true (by omega)))) ?_
      refine aq_wanted (j := 20) rfl ?_
      refine aq_p (ov_move rfl rfl) rfl rfl rfl ?_
      refine aq_wanted (j := 20) rfl ?_
      refine aq_p (ov_move rfl rfl) rfl rfl rfl ?_
      refine aq_wanted (j := 20) rfl ?_
      refine aq_t (ot_call (ks := []) rfl rfl rfl Tryd.call15 rfl (T15 _ (by first | assumption | rfl | omega | decide | (simp; done) | (simp at *; omega)) (by first | assumption | rfl | omega | decide | (simp; done) | (simp at *; omega)) (by first | assumption | rfl | omega | decide | (simp; done) | (simp at *; omega)) (by first | assumption | rfl | omega | decide | (simp; done) | (simp at *; omega))) rfl) rfl rfl rfl ?_
      rintro v0 _ ⟨m0, hp0, rfl⟩
      obtain ⟨rfl, rfl⟩ := hp0
      simp only [List.cons_append, List.nil_append, splice, spliceL]
      refine ⟨fun _ s => (s.pulls (ks := [4]) rfl).left, ?_⟩
      refine aq_wanted (j := 20) rfl ?_
      refine aq_t (ot_call (ks := []) rfl rfl rfl Tryd.call8 rfl (T8 _ (by first | assumption | rfl | omega | decide | (simp; done) | (simp at *; omega)) (by first | assumption | rfl | omega | decide | (simp; done) | (simp at *; omega))) rfl) rfl rfl rfl ?_
      rintro v0 _ ⟨m0, hp0, rfl⟩
      obtain ⟨B2, hp0⟩ := hp0
      obtain ⟨e2, hp0⟩ := hp0
      obtain ⟨rfl, rfl⟩ := hp0
      simp only [List.cons_append, List.nil_append, splice, spliceL]
      refine ⟨fun _ s => (s.pulls (ks := [5]) rfl).left, ?_⟩
      refine aq_wanted (j := 20) rfl ?_
      refine aq_t (ot_call (ks := [0]) rfl rfl rfl Tryd.call16 rfl (T16a _ (by first | assumption | rfl | omega | decide | (simp; done) | (simp at *; omega)) (by first | assumption | rfl | omega | decide | (simp; done) | (simp at *; omega))) rfl) rfl rfl rfl ?_
      rintro v0 _ ⟨m0, hp0, rfl⟩
      obtain ⟨rfl, rfl⟩ := hp0
      simp only [List.cons_append, List.nil_append, splice, spliceL]
      refine ⟨fun _ s => (s.pulls (ks := [5]) rfl).left, ?_⟩
      refine aq_wanted (j := 20) rfl ?_
      refine aq_p (ov_strL rfl rfl rfl rfl) rfl rfl rfl ?_
      refine aq_wanted (j := 16) rfl ?_
      refine aq_p (ov_pick_f rfl rfl rfl) rfl rfl rfl ?_
      refine aq_p (ov_pick_t rfl rfl rfl) rfl rfl rfl ?_
      refine aq_p (ov_assign rfl rfl) rfl rfl rfl ?_
      refine aq_nil ?_
      refine at_normal ?_
      refine hK7 _ _ _ ?_
      refine at_ret ?_
      refine at_end ?_
      refine at_fin (rsV rfl (res_tmp rfl)) ?_
      refine ⟨_, ⟨by simp, rfl⟩, ?_⟩
      exact fun _ s => s.finEq (ks := []) (js := [0, 0, 0, 0, 0, 0]) rfl rfl rfl
end Go.Proofs.YtfnbdgmeieilhaaDoor
