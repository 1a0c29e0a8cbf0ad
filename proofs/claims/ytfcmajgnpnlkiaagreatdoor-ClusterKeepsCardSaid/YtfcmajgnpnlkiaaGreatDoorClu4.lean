/- The law of clusters: awake. -/
import Derived.Test.YtfcmajgnpnlkiaaGreatDoorProg
import Derived.Test.YtfcmajgnpnlkiaaGreatDoorCluA
import Derived.Test.YtfcmajgnpnlkiaaGreatDoorSLB
import Derived.KernelRfl
set_option linter.unusedSimpArgs false
set_option linter.unusedVariables false
set_option maxRecDepth 100000
set_option maxHeartbeats 4000000
namespace Go.Proofs.YtfcmajgnpnlkiaaGreatDoor
open Go Go.Proofs.YtfcmajgnpnlkiaaGreatDoor.SL Go.RowKit
theorem setC_ok {C : CD} (h : COk C) (i : Nat) {s : ND} (hs : NOk s) : COk (setC C i s) :=
  ⟨by simp only [setC, List.length_set]; exact h.n0, by simp only [setC, List.length_set]; exact h.n6, fun x hx => by
    rcases List.mem_or_eq_of_mem_set hx with hx | rfl
    · exact h.ok x hx
    · exact hs, h.e0, h.e1, h.ct⟩
theorem atC_mem {C : CD} {n : Int} {s : ND} (h : atC C n = some s) : s ∈ C.ns := by
  obtain ⟨i, _, hi⟩ := atC_some h;exact List.mem_of_getElem? hi
theorem firstC_mem {C : CD} (h : C.pr < C.ns.length) : firstC C ∈ C.ns := by
  unfold firstC
  rw [List.getElem?_eq_getElem h];exact List.getElem_mem h
theorem runC_ok {C : CD} (h : COk C) (n k e : Int) (rd : Bool) {t : BL} (ht : t.length ≤ 300) : COk (runC C n k e rd t).1 := by
  unfold runC
  cases hs : atC C n with
  | none => exact h
  | some s => exact setC_ok h _ ((h.ok s (atC_mem hs)).run _ _ _ ht)
theorem copyC_ok {C : CD} (h : COk C) (n m : Int) : COk (copyC C n m).1 := by
  unfold copyC
  cases hs : atC C n with
  | none => exact h
  | some s =>
    simp only
    split
    · exact h
    · exact setC_ok h _ ((h.ok s (atC_mem hs)).copy (h.ok _ (firstC_mem h.n0)) _)
theorem promoteC_ok {C : CD} (h : COk C) (he : C.ep + 1 ≤ 1000000) (n : Int) : COk (promoteC C n).1 := by
  unfold promoteC
  cases hs : atC C n with
  | none => exact h
  | some s =>
    simp only
    split
    · exact h
    · obtain ⟨i, rfl, hi⟩ := atC_some hs;have hlt := (List.getElem?_eq_some_iff.1 hi).1;have hb := both_le s.lg (firstC C).lg;have hl := (h.ok s (atC_mem hs)).len;have h0 := h.e0;refine ⟨by simp only [Int.toNat_natCast, List.length_set]; exact hlt, by simp only [List.length_set]; exact h.n6, fun x hx => ?_, by simp only; omega, he, by simp only; omega⟩
      rcases List.mem_or_eq_of_mem_set hx with hx | rfl
      · exact h.ok x hx
      · exact (h.ok s (atC_mem hs)).lead (by omega) (by omega)
theorem doC_ep {C : CD} (x : A6) : C.ep ≤ (doC C x).1.ep ∧ (doC C x).1.ep ≤ C.ep + 1 ∧ (doC C x).1.ns.length = C.ns.length := by
  have hset : ∀ i s, (setC C i s).ep = C.ep ∧ (setC C i s).ns.length = C.ns.length := fun i s => ⟨rfl, by simp [setC]⟩
  unfold doC
  split
  · unfold runC
    cases atC C x.nd <;> simp [setC] <;> omega
  · split
    · unfold closeC
      cases atC C x.nd <;> simp [setC] <;> omega
    · split
      · unfold promoteC
        cases atC C x.nd with
        | none => simp; omega
        | some s => simp only; split <;> simp <;> omega
      · unfold copyC
        cases atC C x.nd with
        | none => simp; omega
        | some s => simp only; split <;> simp [setC] <;> omega
def wF : BL := [102, 111, 111]
def wB6 : BL := [98, 97, 114]
def k0 : CD := newC 2
def k1 : CD := (runC k0 0 1 1 false wF).1
def k2 : CD := (copyC k1 1 5).1
def k3 : CD := (runC k2 0 1 1 false wB6).1
def k4 : CD := (promoteC k3 1).1
theorem kr1 : runC k0 0 1 1 false wF = (k1, ⟨0, 1, 1, []⟩) := by kernel_rfl
theorem kr2 : lagC k1 1 = 1 := by kernel_rfl
theorem kr3 : copyC k1 1 5 = (k2, 1) := by kernel_rfl
theorem kr4 : runC k2 0 1 1 false wB6 = (k3, ⟨0, 1, 2, []⟩) := by kernel_rfl
theorem kr5 : promoteC k3 1 = (k4, 0) := by kernel_rfl
theorem kr6 : promoteC k4 1 = (k4, 7) := by kernel_rfl
theorem kr7 : promoteC k4 2 = (k4, 6) := by kernel_rfl
theorem kr8 : k4.ns.length = 2 ∧ k4.ep = 2 ∧ k4.pr = 1 ∧ k4.ct = 1 := ⟨by kernel_rfl, by kernel_rfl, by kernel_rfl, by kernel_rfl⟩
theorem kr9 : ldC k4 1 = true := by kernel_rfl
theorem kr10 : epC k4 0 = 1 := by kernel_rfl
theorem kr11 : (lgC k4 0).length = 2 := by kernel_rfl
theorem kr12 : runC k4 5 1 1 true [] = (k4, ⟨6, 0, 0, []⟩) := by kernel_rfl
theorem kr13 : closeC k4 0 1 = (k4, false) := by kernel_rfl
theorem T8 (w0 : World) (hM : MaxL w0) : Tri Tryz.prog w0 8 [] [] fun v m => v = .bool true ∧ m = [] := by
 refine tri_k Tryz.func8 rfl rfl fun F => ?_;simp only [Tryz.ntmps8, argEnv, List.nil_append];have o0 : COk k0 := newC_ok (by decide) (by decide);have o1 : COk k1 := runC_ok o0 0 1 1 false (t := wF) (by decide);have o2 : COk k2 := copyC_ok o1 1 5;have o3 : COk k3 := runC_ok o2 0 1 1 false (t := wB6) (by decide);have o4 : COk k4 := promoteC_ok o3 (by decide +kernel) 1;have h0 := T10s w0 (n := 2) (by decide) (by decide);rw [show newC 2 = k0 from rfl] at h0;have h1 {g : Nat} := T27 w0 (g := g) (C := k0) o0.ok 0 1 1 false wF (by decide) hM;rw [kr1] at h1;have h2 {g : Nat} := T22 w0 (g := g) (C := k1) o1.ok o1.n0 1;rw [kr2] at h2;have h3 {g : Nat} := T29 w0 (g := g) (C := k1) o1.ok o1.n0 1 5;rw [kr3] at h3;have h4 {g : Nat} := T27 w0 (g := g) (C := k2) o2.ok 0 1 1 false wB6 (by decide) hM;rw [kr4] at h4;have h5 {g : Nat} := T30 w0 (g := g) (C := k3) o3.ok o3.n0 (by have := o3.e0; omega) o3.e1 1;rw [kr5] at h5;have h6 {g : Nat} := T30 w0 (g := g) (C := k4) o4.ok o4.n0 (by have := o4.e0; omega) o4.e1 1;rw [kr6] at h6;have h7 {g : Nat} := T30 w0 (g := g) (C := k4) o4.ok o4.n0 (by have := o4.e0; omega) o4.e1 2;rw [kr7] at h7;obtain ⟨z1, z2, z3, z4⟩ := kr8;have h8 {g : Nat} := T16 w0 (g := g) (C := k4);have h9 {g : Nat} := T15 w0 (g := g) (C := k4);have h10 {g : Nat} := T18 w0 (g := g) (C := k4) 1;have h11 {g : Nat} := T17 w0 (g := g) (C := k4) 0;have h12 {g : Nat} := T21 w0 (g := g) (C := k4) o4.ok 0;have h13 {g : Nat} := T27 w0 (g := g) (C := k4) o4.ok 5 1 1 true [] (by decide) hM;have h14 {g : Nat} := T31 w0 (g := g) (C := k4) 0 1;rw [z1] at h8;rw [z2, z3, z4] at h9;rw [z2, z3, z4] at h5;rw [kr9] at h10;rw [kr10] at h11;rw [kr12] at h13;rw [kr13] at h14;simp only [if_true, show ¬ ((7 : Int) = 0) by decide, show ¬ ((6 : Int) = 0) by decide, if_false] at h5 h6 h7
 unfold prV at h5 h6 h7 h9
 have hq : decide (((lgC k4 0).length : Int) = 2) = true := by rw [kr11]; rfl
 refine zH fun zq zQ => ?_;refine zC 7 rfl ?_;refine zT (ot_call (ks := []) rfl rfl rfl Tryz.call10 rfl (h0 ) rfl) ?_;rintro v0 _ ⟨m0, hp0, rfl⟩;obtain ⟨g0, hp0⟩ := hp0;obtain ⟨rfl, rfl⟩ := hp0;simp only [zca, zna, splice, spliceL];refine zO 11 rfl ?_;refine zV (ov_ptr_nil (q := none) rfl Tryz.underlying25 rfl rfl) ?_;refine zO 12 rfl ?_;refine zT (ot_call (ks := [0]) rfl rfl rfl Tryz.call27 rfl (h1 ) rfl) ?_;rintro v0 _ ⟨m0, hp0, rfl⟩;obtain ⟨B0, hp0⟩ := hp0;obtain ⟨b0, hp0⟩ := hp0;obtain ⟨rfl, rfl⟩ := hp0;simp only [zca, zna, splice, spliceL];refine zA Tryz.zeroValue73 fun g1 => ?_;refine zS 0 ?_;simp only [setAt, splice, spliceL, Value.cells];refine zO 5 rfl ?_;refine zcall [1] rfl rfl rfl Tryz.call22 rfl (h2 ) rfl ?_;simp only [zca, zna, splice, spliceL];refine zO 6 rfl ?_;refine zcall [0] rfl rfl rfl Tryz.call29 rfl (h3 ) rfl ?_;simp only [zca, zna, splice, spliceL];refine zO 6 rfl ?_;refine zT (ot_call (ks := [0]) rfl rfl rfl Tryz.call27 rfl (h4 ) rfl) ?_;rintro v0 _ ⟨m0, hp0, rfl⟩;obtain ⟨B1, hp0⟩ := hp0;obtain ⟨b1, hp0⟩ := hp0;obtain ⟨rfl, rfl⟩ := hp0;simp only [zca, zna, splice, spliceL];refine zO 5 rfl ?_;refine zcall [0] rfl rfl rfl Tryz.call30 rfl (h5 ) rfl ?_;simp only [zca, zna, splice, spliceL];refine zO 3 rfl ?_;refine zA Tryz.zeroValue45 fun g2 => ?_;refine zS 0 ?_;simp only [setAt, splice, spliceL, Value.cells];refine zO 6 rfl ?_;refine zcall [1] rfl rfl rfl Tryz.call30 rfl (h6 ) rfl ?_;simp only [zca, zna, splice, spliceL];refine zO 3 rfl ?_;refine zA Tryz.zeroValue45 fun g3 => ?_;refine zS 0 ?_;simp only [setAt, splice, spliceL, Value.cells];refine zO 6 rfl ?_;refine zcall [1] rfl rfl rfl Tryz.call30 rfl (h7 ) rfl ?_;simp only [zca, zna, splice, spliceL];refine zO 3 rfl ?_;refine zA Tryz.zeroValue45 fun g4 => ?_;refine zS 0 ?_;simp only [setAt, splice, spliceL, Value.cells];refine zO 4 rfl ?_;refine at_draw _ [] 1000 [(2, 0), (1, 1), (2, 2), (2, 3), (2, 4), (1, 5), (2, 6), (2, 7), (2, 8), (2, 9), (2, 10), (2, 11), (2, 12), (2, 13), (2, 14), (2, 15), (2, 16), (1, 17), (2, 18), (2, 19), (2, 20), (2, 21), (2, 22), (2, 23), (2, 24), (2, 25), (2, 26), (2, 27), (2, 28), (2, 29), (2, 30), (2, 31), (2, 32), (2, 33), (2, 34), (0, 35), (2, 36), (2, 37), (2, 38), (2, 39), (1, 41), (0, 40), (2, 42), (2, 43), (2, 44), (2, 45), (0, 46), (2, 47), (2, 48), (2, 49), (0, 50), (2, 51), (2, 52), (2, 53), (2, 54), (0, 55), (1, 56), (2, 57), (2, 58), (2, 59), (2, 60), (0, 61), (2, 62), (2, 63), (2, 64), (2, 65), (2, 66), (0, 67), (2, 68), (2, 69), (2, 70)] (by kernel_rfl) (by kernel_rfl) (fun _ s => (s.pulls (ks := [0, 1, 1, 2]) rfl).left) ?_;refine qF 0 0 ?_;refine qL 3 ?_;refine qI ?_;refine qM ?_;refine qW 3 ?_;refine qF 2 2 ?_;refine qW 3 ?_;refine qL 3 ?_;refine qW 3 ?_;refine qI ?_;refine qP (ov_pick_t rfl rfl rfl) ?_;refine qM ?_;refine qW 8 ?_;refine qM ?_;refine qW 8 ?_;refine qI ?_;refine qP (ov_pick_t rfl rfl rfl) ?_;refine qM ?_;refine qW 12 ?_;refine qM ?_;refine qW 12 ?_;refine qI ?_;refine qP (ov_pick_t rfl rfl rfl) ?_;refine qM ?_;refine qW 16 ?_;refine qV (ov_loadS (cs := [_, _, _]) rfl rfl rfl rfl (fun _ s => s.lds (k := 2) rfl ⟨rfl, rfl, rfl, trivial⟩)) ?_;refine qW 16 ?_;refine qP (ov_build (cs := [_, _, _]) rfl rfl rfl rfl) ?_;refine qW 16 ?_;refine qP (ov_eqS rfl (by kernel_rfl) rfl rfl rfl rfl) ?_;refine qP (ov_pick_t rfl rfl rfl) ?_;refine qM ?_;refine qW 21 ?_;refine qM ?_;refine qW 21 ?_;refine qI ?_;refine qP (ov_pick_t rfl rfl rfl) ?_;refine qM ?_;refine qW 25 ?_;refine qM ?_;refine qW 25 ?_;refine qI ?_;refine qP (ov_pick_t rfl rfl rfl) ?_;refine qM ?_;refine qW 29 ?_;refine qM ?_;refine qW 29 ?_;refine qI ?_;refine qP (ov_pick_t rfl rfl rfl) ?_;refine qM ?_;refine qW 33 ?_;refine qM ?_;refine qW 33 ?_;refine aq_t (ot_call (ks := [1]) rfl rfl rfl Tryz.call16 rfl (h8 ) rfl) rfl rfl rfl ?_;rintro _ _ ⟨_, ⟨rfl, rfl⟩, rfl⟩;simp only [zca, zna, splice, spliceL];refine ⟨fun _ s => (s.pulls (ks := [1, 1, 1, 2]) rfl).left, ?_⟩;refine qW 33 ?_;refine qI ?_;refine qP (ov_pick_t rfl rfl rfl) ?_;refine qM ?_;refine qW 38 ?_;refine qM ?_;refine qW 38 ?_;refine qV (ov_loadS (cs := [_, _, _]) rfl rfl rfl rfl (fun _ s => s.lds (k := 2) rfl ⟨rfl, rfl, rfl, trivial⟩)) ?_;refine qW 38 ?_;refine aq_t (ot_call (ks := [0]) rfl rfl rfl Tryz.call15 rfl (h9 ) rfl) rfl rfl rfl ?_;rintro _ _ ⟨_, ⟨rfl, rfl⟩, rfl⟩;simp only [zca, zna, splice, spliceL];refine ⟨fun _ s => (s.pulls (ks := [1, 1, 1, 2]) rfl).left, ?_⟩;refine qW 38 ?_;refine qP (ov_eqS rfl (by kernel_rfl) rfl rfl rfl rfl) ?_;refine qP (ov_pick_t rfl rfl rfl) ?_;refine qM ?_;refine qW 44 ?_;refine qM ?_;refine qW 44 ?_;refine aq_t (ot_call (ks := [0]) rfl rfl rfl Tryz.call18 rfl (h10 ) rfl) rfl rfl rfl ?_;rintro _ _ ⟨_, ⟨rfl, rfl⟩, rfl⟩;simp only [zca, zna, splice, spliceL];refine ⟨fun _ s => (s.pulls (ks := [1, 1, 1, 2]) rfl).left, ?_⟩;refine qP (ov_pick_t rfl rfl rfl) ?_;refine qM ?_;refine qW 48 ?_;refine qM ?_;refine qW 48 ?_;refine aq_t (ot_call (ks := [0]) rfl rfl rfl Tryz.call17 rfl (h11 ) rfl) rfl rfl rfl ?_;rintro _ _ ⟨_, ⟨rfl, rfl⟩, rfl⟩;simp only [zca, zna, splice, spliceL];refine ⟨fun _ s => (s.pulls (ks := [1, 1, 1, 2]) rfl).left, ?_⟩;refine qW 48 ?_;refine qI ?_;refine qP (ov_pick_t rfl rfl rfl) ?_;refine qM ?_;refine qW 53 ?_;refine qM ?_;refine qW 53 ?_;refine aq_t (ot_call (ks := [0]) rfl rfl rfl Tryz.call21 rfl (h12 ) rfl) rfl rfl rfl ?_;rintro v0 _ ⟨m0, hp0, rfl⟩;obtain ⟨B2, hp0⟩ := hp0;obtain ⟨e0, hp0⟩ := hp0;obtain ⟨rfl, rfl⟩ := hp0;simp only [zca, zna, splice, spliceL];refine ⟨fun _ s => (s.pulls (ks := [2, 2, 2, 3]) rfl).left, ?_⟩;refine qW 53 ?_;refine qV (ov_len_slice rfl Tryz.underlying60 rfl) ?_;refine qW 53 ?_;refine qI ?_;refine qP (ov_pick_t rfl rfl rfl) ?_;refine qM ?_;refine qW 59 ?_;refine qM ?_;refine qW 59 ?_;refine aq_t (ot_call (ks := [0]) rfl rfl rfl Tryz.call27 rfl (h13 ) rfl) rfl rfl rfl ?_;rintro v0 _ ⟨m0, hp0, rfl⟩;obtain ⟨B3, hp0⟩ := hp0;obtain ⟨b2, hp0⟩ := hp0;obtain ⟨rfl, rfl⟩ := hp0;simp only [zca, zna, splice, spliceL];refine ⟨fun _ s => (s.pulls (ks := [3, 3, 3, 4]) rfl).left, ?_⟩;refine qW 59 ?_;refine qP (ov_any rfl rfl (fun _ => rfl)) ?_;refine qW 59 ?_;refine qI ?_;refine qP (ov_pick_t rfl rfl rfl) ?_;refine qM ?_;refine qW 65 ?_;refine qM ?_;refine qW 65 ?_;refine aq_t (ot_call (ks := [0]) rfl rfl rfl Tryz.call31 rfl (h14 ) rfl) rfl rfl rfl ?_;rintro _ _ ⟨_, ⟨rfl, rfl⟩, rfl⟩;simp only [zca, zna, splice, spliceL];refine ⟨fun _ s => (s.pulls (ks := [3, 3, 3, 4]) rfl).left, ?_⟩;refine qW 65 ?_;refine qP (ov_not rfl rfl) ?_;refine qP (ov_pick_t rfl rfl rfl) ?_;refine qP (ov_assign rfl rfl) ?_;refine aq_nil ?_;refine zX 2 rfl ?_;refine zQ ?_;refine at_end ?_;refine zfin ?_;refine ⟨_, ⟨rfl, rfl⟩, ?_⟩;exact zE [] [0, 0, 0, 0, 0, 0, 0, 0, 0]
end Go.Proofs.YtfcmajgnpnlkiaaGreatDoor
