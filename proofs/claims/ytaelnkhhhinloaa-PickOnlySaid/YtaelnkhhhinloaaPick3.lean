/- PickWeighs: of as many draws as the sum says each place is picked as often as it weighs. -/
import Derived.Test.YtaelnkhhhinloaaProg
import Derived.Test.YtaelnkhhhinloaaPick2
import Derived.Test.YtaelnkhhhinloaaSLRange
import Derived.KernelRfl
set_option linter.unusedSimpArgs false
set_option linter.unusedVariables false
set_option maxRecDepth 100000
namespace Go.Proofs.Ytaelnkhhhinloaa
open Go Go.Proofs.Ytaelnkhhhinloaa.SL Go.RowKit
def cnt (N : Nat) (g : Nat → Bool) : Nat := (List.range N).countP g
theorem cnt_succ (N : Nat) (g : Nat → Bool) : cnt (N + 1) g = cnt N g + (if g N then 1 else 0) := by
  simp [cnt, List.range_succ, List.countP_append, List.countP_cons]
theorem cnt_succ' (N : Nat) (g : Nat → Bool) : cnt (N + 1) g = cnt N (fun i => g (i + 1)) + (if g 0 then 1 else 0) := by
  unfold cnt
  rw [List.range_succ_eq_map, List.countP_cons, List.countP_map]
  rfl
theorem cnt_le (N : Nat) (g : Nat → Bool) : cnt N g ≤ N := by
  have := List.countP_le_length (p := g) (l := List.range N)
  simpa [cnt] using this
theorem cnt_turn (N : Nat) (p : Nat → Bool) : ∀ D, cnt N (fun i => p ((D + i) % N)) = cnt N (fun i => p (i % N))
  | 0 => by simp
  | D + 1 => by
    have h1 := cnt_succ N (fun i => p ((D + i) % N))
    have h2 := cnt_succ' N (fun i => p ((D + i) % N))
    have e : (D + N) % N = (D + 0) % N := by simp
    simp only [e] at h1
    have e2 : (fun i => p ((D + (i + 1)) % N)) = fun i => p ((D + 1 + i) % N) := by
      funext i; rw [show D + (i + 1) = D + 1 + i by omega]
    simp only [e2] at h2
    have := cnt_turn N p D
    omega
theorem cnt_congr {N : Nat} {g h : Nat → Bool} (e : ∀ i, i < N → g i = h i) : cnt N g = cnt N h := by
  unfold cnt
  exact List.countP_congr fun x hx => by rw [e x (List.mem_range.1 hx)]
theorem cnt_between (a b : Nat) (hab : a ≤ b) : ∀ N, cnt N (fun r => decide (a ≤ r) && decide (r < b)) = min N b - min N a
  | 0 => by simp [cnt]
  | N + 1 => by
    rw [cnt_succ, cnt_between a b hab N]
    by_cases h1 : a ≤ N <;> by_cases h2 : N < b <;> simp [h1, h2] <;> omega
theorem pickAt_ge : ∀ (xs : List Int) (r : Int) (i : Nat), pickAt xs r i = -1 ∨ (i : Int) ≤ pickAt xs r i
  | [], r, i => .inl rfl
  | x :: xs, r, i => by
    unfold pickAt
    split
    · right; omega
    · rcases pickAt_ge xs (r - x) (i + 1) with h | h
      · exact .inl h
      · right; omega
theorem sum_nonneg : ∀ {xs : List Int}, (∀ x ∈ xs, 0 ≤ x) → 0 ≤ xs.sum
  | [], _ => by simp
  | x :: xs, h => by
    have := sum_nonneg (xs := xs) fun y hy => h y (by simp [hy])
    have := h x (by simp)
    simp; omega
theorem pickAt_iff : ∀ (xs : List Int) (r : Int) (i j : Nat), (∀ x ∈ xs, 0 ≤ x) → 0 ≤ r → j < xs.length → (pickAt xs r i = ((i + j : Nat) : Int) ↔ (xs.take j).sum ≤ r ∧ r < (xs.take (j + 1)).sum)
  | [], _, _, _, _, _, hj => by simp at hj
  | x :: xs, r, i, 0, h, hr, _ => by
    unfold pickAt
    simp only [List.take_zero, List.sum_nil, Nat.zero_add, List.take_succ_cons, List.sum_cons, Nat.add_zero, Int.add_zero]
    split
    · constructor
      · intro _; omega
      · intro _; rfl
    · rcases pickAt_ge xs (r - x) (i + 1) with e | e <;> constructor <;> intro q <;> omega
  | x :: xs, r, i, j + 1, h, hr, hj => by
    have hx := h x (by simp)
    have hs := sum_nonneg (xs := xs.take j) fun y hy => h y (by simp [List.mem_of_mem_take hy])
    have hs2 := sum_nonneg (xs := xs.take (j + 1)) fun y hy => h y (by simp [List.mem_of_mem_take hy])
    unfold pickAt
    simp only [List.take_succ_cons, List.sum_cons]
    split
    · constructor <;> intro q <;> omega
    · have ih := pickAt_iff xs (r - x) (i + 1) j (fun y hy => h y (by simp [hy])) (by omega) (by simpa using hj)
      rw [show i + (j + 1) = i + 1 + j by omega, ih]
      constructor <;> rintro ⟨q1, q2⟩ <;> constructor <;> omega
theorem pickAt_some : ∀ (xs : List Int) (r : Int) (i : Nat), 0 ≤ r → r < xs.sum → ∃ j y, xs[j]? = some y ∧ pickAt xs r i = ((i + j : Nat) : Int) ∧ 0 < y
  | [], r, i, hr, h => by simp at h; omega
  | x :: xs, r, i, hr, h => by
    unfold pickAt
    split
    · exact ⟨0, x, by simp, by simp, by omega⟩
    · obtain ⟨j, y, h1, h2, h3⟩ := pickAt_some xs (r - x) (i + 1) (by omega) (by simp at h; omega)
      exact ⟨j + 1, y, by simpa using h1, by rw [h2]; congr 1; omega, h3⟩
theorem pickV_some {xs : List Int} {d : Int} (h : 0 < xs.sum) : ∃ j y, xs[j]? = some y ∧ pickV xs d = (j : Nat) ∧ 0 < y := by
  obtain ⟨j, y, h1, h2, h3⟩ := pickAt_some xs (d % xs.sum) 0 (Int.emod_nonneg d (by omega)) (Int.emod_lt_of_pos d h)
  exact ⟨j, y, h1, by unfold pickV; rw [if_neg (by omega), h2]; simp, h3⟩
def cntL (xs : List Int) (d : Int) (k : Nat) : List Int := (List.range xs.length).map fun j => ((cnt k fun i => decide (pickV xs (d + (i : Nat)) = (j : Nat)) : Nat) : Int)
theorem cntL_len (xs : List Int) (d : Int) (k : Nat) : (cntL xs d k).length = xs.length := by simp [cntL]
theorem cntL_get {xs : List Int} {d : Int} {k j : Nat} (h : j < xs.length) : (cntL xs d k)[j]? = some ((cnt k fun i => decide (pickV xs (d + (i : Nat)) = (j : Nat)) : Nat) : Int) := by
  simp [cntL, h]
theorem cntL_zero (xs : List Int) (d : Int) : cntL xs d 0 = List.replicate xs.length 0 := by
  refine List.ext_getElem? fun q => ?_
  rcases Nat.lt_or_ge q xs.length with h | h
  · rw [cntL_get h, List.getElem?_replicate]; simp [h, cnt]
  · rw [List.getElem?_eq_none (by rw [cntL_len]; exact h), List.getElem?_eq_none (by simpa using h)]
theorem cntL_step {xs : List Int} {d : Int} {k j : Nat} (h : j < xs.length) (hv : pickV xs (d + (k : Nat)) = (j : Nat)) :
    (cntL xs d k).set j (((cnt k fun i => decide (pickV xs (d + (i : Nat)) = (j : Nat)) : Nat) : Int) + 1) = cntL xs d (k + 1) := by
  refine List.ext_getElem? fun q => ?_
  rw [List.getElem?_set, cntL_len]
  rcases Nat.lt_or_ge q xs.length with hq | hq
  · rw [cntL_get hq, cntL_get hq, cnt_succ, hv]
    by_cases e : j = q
    · subst e; simp [h]
    · have : ¬ ((j : Nat) : Int) = (q : Nat) := by omega
      simp [e, this]
  · rw [if_neg (by omega), List.getElem?_eq_none (by rw [cntL_len]; exact hq), List.getElem?_eq_none (by rw [cntL_len]; exact hq)]
theorem cntL_all {xs : List Int} {d : Int} {N : Nat} (h : ∀ x ∈ xs, 0 ≤ x) (hd : 0 ≤ d) (hN : (N : Int) = xs.sum) : cntL xs d N = xs := by
  refine List.ext_getElem? fun q => ?_
  rcases Nat.lt_or_ge q xs.length with hq | hq
  · have hget : xs[q]? = some xs[q] := List.getElem?_eq_getElem hq
    rw [cntL_get hq, hget]
    congr 1
    have hsu := sum_take_succ hget
    have p1 := sum_nonneg (xs := xs.take q) fun y hy => h y (List.mem_of_mem_take hy)
    have p2 := h xs[q] (List.getElem_mem hq)
    have p3 : (xs.take (q + 1)).sum ≤ xs.sum := by
      have e := List.take_append_drop (q + 1) xs
      have e2 : xs.sum = (xs.take (q + 1)).sum + (xs.drop (q + 1)).sum := by
        rw [← List.sum_append, e]
      have := sum_nonneg (xs := xs.drop (q + 1)) fun y hy => h y (List.mem_of_mem_drop hy)
      omega
    rcases Nat.eq_zero_or_pos N with h0 | h0
    · subst h0
      simp [cnt]; omega
    · have e1 : cnt N (fun i => decide (pickV xs (d + (i : Nat)) = (q : Nat))) = cnt N (fun i => (fun r : Nat => decide ((xs.take q).sum.toNat ≤ r) && decide (r < (xs.take (q + 1)).sum.toNat)) ((d.toNat + i) % N)) := by
        refine cnt_congr fun i hi => ?_
        have hm : (d + (i : Nat)) % xs.sum = (((d.toNat + i) % N : Nat) : Int) := by
          rw [← hN, Int.natCast_emod, Int.natCast_add, Int.toNat_of_nonneg hd]
        have hv : pickV xs (d + (i : Nat)) = pickAt xs (((d.toNat + i) % N : Nat) : Int) 0 := by
          unfold pickV; rw [if_neg (by omega), hm]
        rw [hv]
        have := pickAt_iff xs (((d.toNat + i) % N : Nat) : Int) 0 q h (by omega) hq
        rw [Nat.zero_add] at this
        rw [Bool.eq_iff_iff]
        simp only [decide_eq_true_eq, Bool.and_eq_true]
        rw [this]
        constructor
        · rintro ⟨q1, q2⟩; constructor <;> omega
        · rintro ⟨q1, q2⟩; constructor <;> omega
      rw [e1, cnt_turn N (fun r : Nat => decide ((xs.take q).sum.toNat ≤ r) && decide (r < (xs.take (q + 1)).sum.toNat)) d.toNat]
      have e3 : cnt N (fun i => (fun r : Nat => decide ((xs.take q).sum.toNat ≤ r) && decide (r < (xs.take (q + 1)).sum.toNat)) (i % N)) = cnt N (fun r => decide ((xs.take q).sum.toNat ≤ r) && decide (r < (xs.take (q + 1)).sum.toNat)) :=
        cnt_congr fun i hi => by simp only [Nat.mod_eq_of_lt hi]
      rw [e3, cnt_between _ _ (by omega)]
      omega
  · rw [List.getElem?_eq_none (by rw [cntL_len]; exact hq), List.getElem?_eq_none hq]
theorem T4 (w0 : World) (A0 : Option Addr) (c0 : Nat) (l0 : List Int) (a1 : Int) (hr0 : Rd wE w0 1 A0 l0) (hm0 : l0.length ≤ 9223372036854775807) (hd0 : 0 ≤ a1) (hd1 : a1 < 18446744073709551616) :
    Tri Try.prog w0 4 [.slice A0 l0.length c0, .int .u64 a1] [] fun v m => v = .bool true ∧ m = [] := by
  refine tri_of Try.func4 rfl rfl fun F => ?_
  simp only [Try.ntmps4, argEnv, List.nil_append]
  have hm1 : rightB l0 = true → l0.length ≤ 1000 := fun h => by have := (rightB_of h).2; omega
  cases hright : rightB l0 with
  | false =>
    refine at_seq_k (fun K0 hK0 => ?_)
    refine at_region ?_
    refine at_v (ov_assign rfl rfl) rfl rfl rfl ?_
    refine at_nil ?_
    refine at_normal ?_
    refine hK0 _ _ _ ?_
    refine at_seq_k (fun K1 hK1 => ?_)
    refine at_seq_k (fun K2 hK2 => ?_)
    refine at_region ?_
    refine at_t (ot_call (ks := []) rfl rfl rfl Try.call6 rfl (T6 _) rfl) rfl rfl rfl ?_
    rintro v0 _ ⟨m0, hp0, rfl⟩
    obtain ⟨rfl, rfl⟩ := hp0
    simp only [List.cons_append, List.nil_append]
    refine at_v (ov_not rfl rfl) rfl rfl rfl ?_
    refine at_nil ?_
    refine at_normal ?_
    refine hK2 _ _ _ ?_
    refine at_cond_false rfl ?_
    refine at_skip ?_
    refine at_normal ?_
    refine hK1 _ _ _ ?_
    refine at_seq_k (fun K3 hK3 => ?_)
    refine at_seq_k (fun K4 hK4 => ?_)
    refine at_region ?_
    refine at_v (ov_move rfl rfl) rfl rfl rfl ?_
    refine at_t (ot_call (ks := []) rfl rfl rfl Try.call8 rfl (T8 _ (by first | assumption | omega | decide | (simp; done) | (simp at *; omega)) (by first | assumption | omega | decide | (simp; done) | (simp at *; omega))) rfl) rfl rfl rfl ?_
    rintro v0 _ ⟨m0, hp0, rfl⟩
    obtain ⟨rfl, rfl⟩ := hp0
    simp only [List.cons_append, List.nil_append]
    refine at_v (ov_not rfl rfl) rfl rfl rfl ?_
    refine at_nil ?_
    refine at_normal ?_
    refine hK4 _ _ _ ?_
    refine at_cond_true (congrArg (fun b => some (Value.bool b)) (show _ = true from by simp [hright]; done)) ?_
    refine at_seq_k (fun K5 hK5 => ?_)
    refine at_region ?_
    refine at_v (ov_assign rfl rfl) rfl rfl rfl ?_
    refine at_nil ?_
    refine at_normal ?_
    refine hK5 _ _ _ ?_
    refine at_ret ?_
    refine at_then_ret ?_
    refine at_end ?_
    refine at_fin (rsV rfl (res_tmp rfl)) ?_
    refine ⟨_, ⟨rfl, rfl⟩, ?_⟩
    exact fun _ s => s.finEq (ks := []) (js := []) rfl rfl rfl
  | true =>
    obtain ⟨hb, h6⟩ := rightB_of hright
    have hm2 : l0.length ≤ 1000 := by omega
    have hsb := sum_bound hb l0.length
    rw [List.take_length] at hsb
    by_cases hbig : a1 > 18446744073709550615
    · refine at_seq_k (fun K0 hK0 => ?_)
      refine at_region ?_
      refine at_v (ov_assign rfl rfl) rfl rfl rfl ?_
      refine at_nil ?_
      refine at_normal ?_
      refine hK0 _ _ _ ?_
      refine at_seq_k (fun K1 hK1 => ?_)
      refine at_seq_k (fun K2 hK2 => ?_)
      refine at_region ?_
      refine at_t (ot_call (ks := []) rfl rfl rfl Try.call6 rfl (T6 _) rfl) rfl rfl rfl ?_
      rintro v0 _ ⟨m0, hp0, rfl⟩
      obtain ⟨rfl, rfl⟩ := hp0
      simp only [List.cons_append, List.nil_append]
      refine at_v (ov_not rfl rfl) rfl rfl rfl ?_
      refine at_nil ?_
      refine at_normal ?_
      refine hK2 _ _ _ ?_
      refine at_cond_false rfl ?_
      refine at_skip ?_
      refine at_normal ?_
      refine hK1 _ _ _ ?_
      refine at_seq_k (fun K3 hK3 => ?_)
      refine at_seq_k (fun K4 hK4 => ?_)
      refine at_region ?_
      refine at_v (ov_move rfl rfl) rfl rfl rfl ?_
      refine at_t (ot_call (ks := []) rfl rfl rfl Try.call8 rfl (T8 _ (by first | assumption | omega | decide | (simp; done) | (simp at *; omega)) (by first | assumption | omega | decide | (simp; done) | (simp at *; omega))) rfl) rfl rfl rfl ?_
      rintro v0 _ ⟨m0, hp0, rfl⟩
      obtain ⟨rfl, rfl⟩ := hp0
      simp only [List.cons_append, List.nil_append]
      refine at_v (ov_not rfl rfl) rfl rfl rfl ?_
      refine at_nil ?_
      refine at_normal ?_
      refine hK4 _ _ _ ?_
      refine at_cond_false (congrArg (fun b => some (Value.bool b)) (show _ = false from by simp [hright, hb]; done)) ?_
      refine at_skip ?_
      refine at_normal ?_
      refine hK3 _ _ _ ?_
      refine at_seq_k (fun K5 hK5 => ?_)
      refine at_region ?_
      refine at_v (ov_move rfl rfl) rfl rfl rfl ?_
      refine at_t (ot_call (ks := []) rfl rfl rfl Try.call12 rfl (T12 _ (by first | assumption | omega | decide | (simp; done) | (simp at *; omega)) (by first | assumption | omega | decide | (simp; done) | (simp at *; omega)) (by first | assumption | omega | decide | (simp; done) | (simp at *; omega))) rfl) rfl rfl rfl ?_
      rintro v0 _ ⟨m0, hp0, rfl⟩
      obtain ⟨rfl, rfl⟩ := hp0
      simp only [List.cons_append, List.nil_append]
      refine at_v (ov_assign rfl rfl) rfl rfl rfl ?_
      refine at_nil ?_
      refine at_normal ?_
      refine hK5 _ _ _ ?_
      refine at_seq_k (fun K6 hK6 => ?_)
      refine at_seq_k (fun K7 hK7 => ?_)
      refine at_region ?_
      refine at_v (ov_move rfl rfl) rfl rfl rfl ?_
      refine at_v (ov_int rfl rfl rfl rfl) rfl rfl rfl ?_
      refine at_v (ov_move rfl rfl) rfl rfl rfl ?_
      refine at_reval 18 (.bool false) rfl (congrArg Value.bool (decide_eq_false (by omega))) ?_
      refine at_wanted (j := 2) rfl ?_
      refine at_v (ov_move rfl rfl) rfl rfl rfl ?_
      refine at_wanted (j := 2) rfl ?_
      refine at_v (ov_int rfl rfl rfl rfl) rfl rfl rfl ?_
      refine at_v (ov_pick_f rfl rfl rfl) rfl rfl rfl ?_
      refine at_v (ov_move rfl rfl) rfl rfl rfl ?_
      refine at_reval 22 (.bool false) rfl (congrArg Value.bool (decide_eq_false (by omega))) ?_
      refine at_wanted (j := 6) rfl ?_
      refine at_v (ov_move rfl rfl) rfl rfl rfl ?_
      refine at_wanted (j := 6) rfl ?_
      refine at_v (ov_int rfl rfl rfl rfl) rfl rfl rfl ?_
      refine at_v (ov_pick_f rfl rfl rfl) rfl rfl rfl ?_
      refine at_nil ?_
      refine at_normal ?_
      refine hK7 _ _ _ ?_
      refine at_cond_true (congrArg (fun b => some (Value.bool b)) (show _ = true from decide_eq_true (by omega))) ?_
      refine at_seq_k (fun K8 hK8 => ?_)
      refine at_region ?_
      refine at_v (ov_move rfl rfl) rfl rfl rfl ?_
      refine at_v (ov_int rfl rfl rfl rfl) rfl rfl rfl ?_
      refine at_v (ov_assign rfl rfl) rfl rfl rfl ?_
      refine at_nil ?_
      refine at_normal ?_
      refine hK8 _ _ _ ?_
      refine at_ret ?_
      refine at_then_ret ?_
      refine at_end ?_
      refine at_fin (rsV rfl (res_tmp rfl)) ?_
      refine ⟨_, ⟨congrArg Value.bool (by simpa using hbig), rfl⟩, ?_⟩
      exact fun _ s => s.finEq (ks := []) (js := []) rfl rfl rfl
    · have hnn : ∀ x ∈ l0, 0 ≤ x := fun x hx => by
        have := List.any_eq_false.1 hb x hx
        simp [badB] at this; omega
      obtain ⟨N, hN⟩ : ∃ N : Nat, (N : Int) = l0.sum := ⟨l0.sum.toNat, Int.toNat_of_nonneg hsb.1⟩
      refine at_seq_k (fun K0 hK0 => ?_)
      refine at_region ?_
      refine at_v (ov_assign rfl rfl) rfl rfl rfl ?_
      refine at_nil ?_
      refine at_normal ?_
      refine hK0 _ _ _ ?_
      refine at_seq_k (fun K1 hK1 => ?_)
      refine at_seq_k (fun K2 hK2 => ?_)
      refine at_region ?_
      refine at_t (ot_call (ks := []) rfl rfl rfl Try.call6 rfl (T6 _) rfl) rfl rfl rfl ?_
      rintro v0 _ ⟨m0, hp0, rfl⟩
      obtain ⟨rfl, rfl⟩ := hp0
      simp only [List.cons_append, List.nil_append]
      refine at_v (ov_not rfl rfl) rfl rfl rfl ?_
      refine at_nil ?_
      refine at_normal ?_
      refine hK2 _ _ _ ?_
      refine at_cond_false rfl ?_
      refine at_skip ?_
      refine at_normal ?_
      refine hK1 _ _ _ ?_
      refine at_seq_k (fun K3 hK3 => ?_)
      refine at_seq_k (fun K4 hK4 => ?_)
      refine at_region ?_
      refine at_v (ov_move rfl rfl) rfl rfl rfl ?_
      refine at_t (ot_call (ks := []) rfl rfl rfl Try.call8 rfl (T8 _ (by first | assumption | omega | decide | (simp; done) | (simp at *; omega)) (by first | assumption | omega | decide | (simp; done) | (simp at *; omega))) rfl) rfl rfl rfl ?_
      rintro v0 _ ⟨m0, hp0, rfl⟩
      obtain ⟨rfl, rfl⟩ := hp0
      simp only [List.cons_append, List.nil_append]
      refine at_v (ov_not rfl rfl) rfl rfl rfl ?_
      refine at_nil ?_
      refine at_normal ?_
      refine hK4 _ _ _ ?_
      refine at_cond_false (congrArg (fun b => some (Value.bool b)) (show _ = false from by simp [hright, hb]; done)) ?_
      refine at_skip ?_
      refine at_normal ?_
      refine hK3 _ _ _ ?_
      refine at_seq_k (fun K5 hK5 => ?_)
      refine at_region ?_
      refine at_v (ov_move rfl rfl) rfl rfl rfl ?_
      refine at_t (ot_call (ks := []) rfl rfl rfl Try.call12 rfl (T12 _ (by first | assumption | omega | decide | (simp; done) | (simp at *; omega)) (by first | assumption | omega | decide | (simp; done) | (simp at *; omega)) (by first | assumption | omega | decide | (simp; done) | (simp at *; omega))) rfl) rfl rfl rfl ?_
      rintro v0 _ ⟨m0, hp0, rfl⟩
      obtain ⟨rfl, rfl⟩ := hp0
      simp only [List.cons_append, List.nil_append]
      refine at_v (ov_assign rfl rfl) rfl rfl rfl ?_
      refine at_nil ?_
      refine at_normal ?_
      refine hK5 _ _ _ ?_
      refine at_seq_k (fun K6 hK6 => ?_)
      refine at_seq_k (fun K7 hK7 => ?_)
      refine at_region ?_
      refine at_v (ov_move rfl rfl) rfl rfl rfl ?_
      refine at_v (ov_int rfl rfl rfl rfl) rfl rfl rfl ?_
      refine at_v (ov_move rfl rfl) rfl rfl rfl ?_
      refine at_reval 18 (.bool false) rfl (congrArg Value.bool (decide_eq_false (by omega))) ?_
      refine at_wanted (j := 2) rfl ?_
      refine at_v (ov_move rfl rfl) rfl rfl rfl ?_
      refine at_wanted (j := 2) rfl ?_
      refine at_v (ov_int rfl rfl rfl rfl) rfl rfl rfl ?_
      refine at_v (ov_pick_f rfl rfl rfl) rfl rfl rfl ?_
      refine at_v (ov_move rfl rfl) rfl rfl rfl ?_
      refine at_reval 22 (.bool false) rfl (congrArg Value.bool (decide_eq_false (by omega))) ?_
      refine at_wanted (j := 6) rfl ?_
      refine at_v (ov_move rfl rfl) rfl rfl rfl ?_
      refine at_wanted (j := 6) rfl ?_
      refine at_v (ov_int rfl rfl rfl rfl) rfl rfl rfl ?_
      refine at_v (ov_pick_f rfl rfl rfl) rfl rfl rfl ?_
      refine at_nil ?_
      refine at_normal ?_
      refine hK7 _ _ _ ?_
      refine at_cond_false (congrArg (fun b => some (Value.bool b)) (show _ = false from decide_eq_false (by omega))) ?_
      refine at_skip ?_
      refine at_normal ?_
      refine hK6 _ _ _ ?_
      refine at_seq_k (fun K8 hK8 => ?_)
      refine at_region ?_
      refine at_v (ov_move rfl rfl) rfl rfl rfl ?_
      refine at_v (ov_len_slice rfl Try.underlying22 rfl) rfl rfl rfl ?_
      refine at_t (ot_makeSlice wE 0 (m := l0.length) (size := 1) (bytes := 8) rfl Try.underlying22 (i := Try.t3) rfl rfl rfl rfl rfl rfl rfl rfl (by decide) (by omega) (by simp only [maxLen]; omega)) rfl rfl rfl ?_
      rintro _ _ ⟨b, rfl, rfl⟩
      rw [← cntL_zero l0 a1]
      generalize (some ⟨b, 0, none⟩ : Option Addr) = Ab
      refine at_v (ov_assign rfl rfl) rfl rfl rfl ?_
      refine at_nil ?_
      refine at_normal ?_
      refine hK8 _ _ _ ?_
      refine at_seq_k (fun K9 hK9 => ?_)
      refine at_seq_k (fun K10 hK10 => ?_)
      refine at_region ?_
      refine at_v (ov_move rfl rfl) rfl rfl rfl ?_
      refine at_v (ov_move rfl rfl) rfl rfl rfl ?_
      refine at_nil ?_
      refine at_normal ?_
      refine hK10 _ _ _ ?_
      refine at_block ?_
      refine at_loopE [33, 34, 7, 35, 36, 37, 38, 39, 40, 8, 41, 42, 43, 44, 45, 46, 47, 48, 4, 49, 50, 51, 52, 53, 54, 55, 32, 6] (fun k => k ≤ N) (fun k => [(32, .int .i64 (k : Nat)), (6, .slice Ab (cntL l0 a1 k).length l0.length)]) (fun k m => setAt 0 (Row wE 3 1 Ab l0.length (cntL l0 a1 k)) m) (fun k => N - k) 0 (Nat.zero_le _) ⟨rfl, look_eq rfl (by simp [cntL_len]), trivial⟩ (fun _ s => s) ?_
      intro k hk
      simp only [setAt]
      have hlk := cntL_len l0 a1 k
      refine at_seq_k (fun K11 hK11 => ?_)
      refine at_region ?_
      refine at_v (ov_int rfl rfl rfl rfl) rfl rfl rfl ?_
      refine at_nil ?_
      refine at_normal ?_
      refine hK11 _ _ _ ?_
      refine at_seq_k (fun K12 hK12 => ?_)
      refine at_cond rfl (fun hc => ?_) (fun hc => ?_)
      · have hlt : k < N := by have : (k : Int) < l0.sum := by simpa using hc
                               omega
        obtain ⟨j, y, hj, hv, hy⟩ := pickV_some (xs := l0) (d := a1 + (k : Nat)) (by omega)
        have hjl : j < l0.length := (List.getElem?_eq_some_iff.1 hj).1
        have hgj := cntL_get (d := a1) (k := k) hjl
        have hcl := cnt_le k (fun i => decide (pickV l0 (a1 + (i : Nat)) = (j : Nat)))
        have hst := cntL_step hjl hv
        have hcall : Tri Try.prog w0 14 [.slice A0 l0.length c0, .int .u64 (a1 + (k : Nat))] [] fun v m => v = .int .i64 (j : Nat) ∧ m = [] := by
          rw [← hv]; exact T14 w0 hr0 hm2 hb (by omega) (by omega)
        refine at_skip ?_
        refine at_normal ?_
        refine hK12 _ _ _ ?_
        refine at_seq_k (fun K13 hK13 => ?_)
        refine at_block ?_
        refine at_seq_k (fun K14 hK14 => ?_)
        refine at_region ?_
        refine at_v (ov_move rfl rfl) rfl rfl rfl ?_
        refine at_v (ov_assign rfl rfl) rfl rfl rfl ?_
        refine at_nil ?_
        refine at_normal ?_
        refine hK14 _ _ _ ?_
        refine at_seq_k (fun K15 hK15 => ?_)
        refine at_region ?_
        refine at_v (ov_move rfl rfl) rfl rfl rfl ?_
        refine at_v (ov_move rfl rfl) rfl rfl rfl ?_
        refine at_v (ov_move rfl rfl) rfl rfl rfl ?_
        refine at_v ((ov_conv_int rfl rfl Try.underlying23 rfl).eq (congrArg (Value.int .u64) (inK_u64 (by omega) (by omega)))) rfl rfl rfl ?_
        refine at_v ((ov_int rfl rfl rfl rfl).eq (congrArg (Value.int .u64) (inK_u64 (by omega) (by omega)))) rfl rfl rfl ?_
        refine at_t (ot_call (ks := []) rfl rfl rfl Try.call14 rfl (hcall ) rfl) rfl rfl rfl ?_
        rintro v0 _ ⟨m0, hp0, rfl⟩
        obtain ⟨rfl, rfl⟩ := hp0
        simp only [List.cons_append, List.nil_append]
        refine at_v (ov_assign rfl rfl) rfl rfl rfl ?_
        refine at_nil ?_
        refine at_normal ?_
        refine hK15 _ _ _ ?_
        refine at_seq_k (fun K16 hK16 => ?_)
        refine at_seq_k (fun K17 hK17 => ?_)
        refine at_region ?_
        refine at_v (ov_move rfl rfl) rfl rfl rfl ?_
        refine at_v (ov_int rfl rfl rfl rfl) rfl rfl rfl ?_
        refine at_v (ov_move rfl rfl) rfl rfl rfl ?_
        refine at_wanted (j := 2) rfl ?_
        refine at_v (ov_move rfl rfl) rfl rfl rfl ?_
        refine at_wanted (j := 2) rfl ?_
        refine at_v (ov_move rfl rfl) rfl rfl rfl ?_
        refine at_wanted (j := 2) rfl ?_
        refine at_v (ov_len_slice rfl Try.underlying22 rfl) rfl rfl rfl ?_
        refine at_wanted (j := 2) rfl ?_
        refine at_v (ov_int rfl rfl rfl rfl) rfl rfl rfl ?_
        refine at_v (ov_pick_f rfl rfl rfl) rfl rfl rfl ?_
        refine at_nil ?_
        refine at_normal ?_
        refine hK17 _ _ _ ?_
        refine at_cond_false (congrArg (fun b => some (Value.bool b)) (show _ = false from decide_eq_false (by omega))) ?_
        refine at_skip ?_
        refine at_normal ?_
        refine hK16 _ _ _ ?_
        refine at_region ?_
        refine at_v (ov_move rfl rfl) rfl rfl rfl ?_
        refine at_v (ov_move rfl rfl) rfl rfl rfl ?_
        refine at_v (ov_indexRd (fun _ s => s.rd (k := 0) rfl) rfl Try.underlying22 rfl rfl rfl hgj) rfl rfl rfl ?_
        refine at_v (ov_loadRd0 (fun _ s => s.rd (k := 0) rfl) rfl rfl rfl hgj rfl) rfl rfl rfl ?_
        refine at_v ((ov_int rfl rfl rfl rfl).eq (congrArg (Value.int .i64) (inK_i64 (by omega) (by omega)))) rfl rfl rfl ?_
        refine at_v (ov_indexRd (fun _ s => s.rd (k := 0) rfl) rfl Try.underlying22 rfl rfl rfl hgj) rfl rfl rfl ?_
        refine at_t0 (ot_storeRow0 (k := 0) (u' := ((cnt k fun i => decide (pickV l0 (a1 + (i : Nat)) = (j : Nat)) : Nat) : Int) + 1) rfl rfl rfl rfl hgj rfl (Nat.le_refl _) rfl rfl) rfl rfl ?_
        rintro _ _ ⟨_, rfl⟩
        simp only [setAt]
        rw [hst]
        refine at_nil ?_
        refine at_inb_normal ?_
        refine at_normal ?_
        refine hK13 _ _ _ ?_
        refine at_region ?_
        refine at_v ((ov_int rfl rfl rfl rfl).eq (congrArg (Value.int .i64) (inK_i64 (by omega) (by omega)))) rfl rfl rfl ?_
        refine at_v (ov_move rfl rfl) rfl rfl rfl ?_
        refine at_nil ?_
        refine at_normal ?_
        refine at_roundF (k + 1) hlt (by omega) ⟨rfl, look_eq rfl (by simp [cntL_len]), trivial⟩ rfl ?_
        exact fun _ s => s.finEq (ks := [0]) (js := []) rfl rfl rfl
      · have hk2 : k = N := by
          have : ¬ (k : Int) < l0.sum := by simpa using hc
          omega
        subst hk2
        refine at_exit ?_
        refine at_then_exit ?_
        refine at_then_exit ?_
        refine at_exit_eq ?_
        refine at_normal ?_
        refine hK9 _ _ _ ?_
        refine at_seq_k (fun K13 hK13 => ?_)
        refine at_region ?_
        refine at_v (ov_move rfl rfl) rfl rfl rfl ?_
        refine at_v (ov_move rfl rfl) rfl rfl rfl ?_
        refine at_t (ot_call (ks := [0]) rfl rfl rfl Try.call9 rfl (T9b _ (by first | assumption | omega | decide | (simp; done) | (simp at *; omega)) (by first | assumption | omega | decide | (simp; done) | (simp at *; omega)) (by first | assumption | omega | decide | (simp; done) | (simp at *; omega))) rfl) rfl rfl rfl ?_
        rintro v0 _ ⟨m0, hp0, rfl⟩
        obtain ⟨rfl, rfl⟩ := hp0
        simp only [List.cons_append, List.nil_append]
        refine at_v (ov_assign rfl rfl) rfl rfl rfl ?_
        refine at_nil ?_
        refine at_normal ?_
        refine hK13 _ _ _ ?_
        refine at_ret ?_
        refine at_end ?_
        refine at_fin (rsV rfl (res_tmp rfl)) ?_
        refine ⟨_, ⟨congrArg Value.bool (by simp [cntL_all hnn hd0 hN]), rfl⟩, ?_⟩
        exact fun _ s => s.finEq (ks := []) (js := [0]) rfl rfl rfl
