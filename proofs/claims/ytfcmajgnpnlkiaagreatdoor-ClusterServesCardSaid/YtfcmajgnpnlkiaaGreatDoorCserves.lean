/- The statement ClusterServes, walked. -/
import Derived.Test.YtfcmajgnpnlkiaaGreatDoorProg
import Derived.Test.YtfcmajgnpnlkiaaGreatDoorCleads
import Derived.Test.YtfcmajgnpnlkiaaGreatDoorHstLaw
import Derived.Test.YtfcmajgnpnlkiaaGreatDoorSLB
import Derived.KernelRfl
set_option linter.unusedSimpArgs false
set_option linter.unusedVariables false
set_option maxRecDepth 100000
set_option maxHeartbeats 4000000
namespace Go.Proofs.YtfcmajgnpnlkiaaGreatDoor
open Go Go.Proofs.YtfcmajgnpnlkiaaGreatDoor.SL Go.RowKit
theorem reads_len20 (p : PM) (l : List PR) : (readsL p l).length ≤ 20 := by
  unfold readsL
  split
  · split
    · split <;> simp
    · simp
  · split
    · rw [List.length_take]; omega
    · simp
def noT (k : Int) (s : ND) : Prop := ∀ p ∈ s.op, p.1 ≠ k
theorem noT_erase {k : Int} {s : ND} (h : noT k s) (j : Nat) : ∀ p ∈ s.op.eraseIdx j, p.1 ≠ k := fun p hp => h p (List.mem_of_mem_eraseIdx hp)
theorem noT_lay {k : Int} {s : ND} (h : noT k s) (ts : List BL) : noT k (layN s ts).1 := by unfold layN; split <;> exact h
theorem noT_do {k c : Int} {s : ND} (h : noT k s) (hc : c ≠ k) (is : Int) (t : BL) : noT k (doN s c is t).1 := by
  unfold doN
  split
  · split
    · exact h
    · intro p hp
      rcases List.mem_append.1 hp with hp | hp
      · exact h p hp
      · simp at hp; rw [hp]; exact hc
  · split
    · split
      · exact noT_lay (s := ⟨s.ep, s.ld, s.lg, s.op.eraseIdx _⟩) (noT_erase h _) _
      · exact h
    · split
      · split
        · exact noT_erase h _
        · exact h
      · split
        · split
          · split
            · exact h
            · intro p hp
              rcases List.mem_or_eq_of_mem_set hp with hp | rfl
              · exact h p hp
              · exact hc
          · exact noT_lay h _
        · exact h
theorem noT_run {k c e : Int} {s : ND} (h : noT k s) (hc : c ≠ k) (rd : Bool) (t : BL) : noT k (runN s c e rd t).1 := by
  unfold runN
  split
  · exact h
  · split
    · exact h
    · exact noT_do h hc _ _
def noC (k : Int) (C : CD) : Prop := ∀ s ∈ C.ns, noT k s
theorem noC_set {k : Int} {C : CD} (h : noC k C) (i : Nat) {s : ND} (hs : noT k s) : noC k (setC C i s) := fun t ht => by
  rcases List.mem_or_eq_of_mem_set ht with ht | rfl
  · exact h t ht
  · exact hs
theorem noC_do {k : Int} {C : CD} (h : noC k C) (x : A6) (hc : x.cn ≠ k) : noC k (doC C x).1 := by
  unfold doC
  split
  · unfold runC
    cases hs : atC C x.nd with
    | none => exact h
    | some s => exact noC_set h _ (noT_run (h s (atC_mem hs)) hc _ _)
  · split
    · unfold closeC
      cases hs : atC C x.nd with
      | none => exact h
      | some s =>
        refine noC_set h _ ?_
        unfold closeN
        split
        · exact noT_erase (h s (atC_mem hs)) _
        · exact h s (atC_mem hs)
    · split
      · unfold promoteC
        cases hs : atC C x.nd with
        | none => exact h
        | some s =>
          simp only
          split
          · exact h
          · intro t ht
            rcases List.mem_or_eq_of_mem_set ht with ht | rfl
            · exact h t ht
            · unfold leadN
              split
              · exact h s (atC_mem hs)
              · intro p hp; cases hp
      · unfold copyC
        cases hs : atC C x.nd with
        | none => exact h
        | some s =>
          simp only
          split
          · exact h
          · refine noC_set h _ ?_
            unfold copyN
            split
            · exact h s (atC_mem hs)
            · split
              · intro p hp; cases hp
              · exact h s (atC_mem hs)
theorem noC_new (n : Nat) : noC 99 (newC n) := fun s hs => by
  simp only [newC, List.mem_cons, List.mem_replicate] at hs
  rcases hs with rfl | ⟨_, rfl⟩ <;> (intro p hp; cases hp)
def readL (t : BL) (lg : List Ent) : List BL := readsL (planL t) (tabF [] (lg.map (·.2)))
theorem read_at {C : CD} {t : BL} {k : Int} (ht : classL t = 1) (h : noC k C) {i : Nat} {s : ND} (hs : C.ns[i]? = some s) : runC C (i : Nat) k (epC C (i : Nat)) true t = (C, ⟨0, s.ep, s.lg.length, readL t s.lg⟩) := by
  have hsa : atC C (i : Nat) = some s := by rw [atC_nat]; exact hs
  have hn := h s (List.mem_of_getElem? hs)
  have hf : findO s.op k = none := by
    unfold findO
    rw [List.findIdx?_eq_none_iff];intro p hp
    simpa using hn p hp
  have hw : waitsN s k = [] := by unfold waitsN; rw [hf]
  have hr : runN s k s.ep true t = (s, ⟨0, s.ep, s.lg.length, readL t s.lg⟩) := by
    unfold runN mayN
    rw [ht, hw];simp [readL, tabN];rfl
  have he : epC C (i : Nat) = s.ep := by unfold epC; rw [hsa]
  have hset : setC C i s = C := by
    obtain ⟨h1, h2⟩ := List.getElem?_eq_some_iff.1 hs
    unfold setC
    rw [← h2, List.set_getElem_self h1]
  unfold runC
  rw [hsa, he];simp only [Int.toNat_natCast, hr, hset]
structure SX where
  ep : Int
  pl : Nat
  tx : List BL
  A : Option Addr
  c : Nat
def sxE (x : SX) : List Value := [.int .u64 x.ep, .int .u64 x.pl, .slice x.A x.tx.length x.c]
abbrev sxR (x : SX) : HP := Row bsE 9 1 x.A x.c x.tx
def SOk (t : BL) (C : CD) (H : Int → List Ent) (x : SX) : Prop := x.ep ≤ C.ep ∧ x.pl ≤ (H x.ep).length ∧ x.tx = readL t ((H x.ep).take x.pl)
theorem SOk.up {t : BL} {C D : CD} {H H' : Int → List Ent} {x : SX} (h : SOk t C H x) (g : Grow C D H H') : SOk t D H' x := by
  obtain ⟨h1, h2, h3⟩ := h;have hp := g.up x.ep h1;refine ⟨?_, Nat.le_trans h2 hp.length_le, ?_⟩
  · rcases g.step with h | ⟨h, _⟩ <;> omega
  · obtain ⟨r, hr⟩ := hp;rw [h3, ← hr, List.take_append_of_le_length h2]
theorem SOk.of {t : BL} {C : CD} {H : Int → List Ent} (I : CInv C) (T : Hst C H) {s : ND} (hs : s ∈ C.ns) (A : Option Addr) (c : Nat) : SOk t C H ⟨s.ep, s.lg.length, readL t s.lg, A, c⟩ := by
  have hp := T.pre s hs;exact ⟨I.top s hs, hp.length_le, by rw [← List.prefix_iff_eq_take.1 hp]⟩
theorem SOk.eq {t : BL} {C : CD} {H : Int → List Ent} {x y : SX} (hx : SOk t C H x) (hy : SOk t C H y) (h1 : x.ep = y.ep) (h2 : x.pl = y.pl) : x.tx = y.tx := by
  rw [hx.2.2, hy.2.2, h1, h2]
theorem T6 (w0 : World) {A : Option Addr} {c : Nat} {l : List A6} (nn : Int) (tx : BL) (hr : Rd a6E w0 7 A l) (hl : l.length ≤ 4000000000000) (htl : tx.length ≤ 140737488351232) (hM : MaxL w0) :
 Tri Tryz.prog w0 6 [.int .i64 nn, .slice A l.length c, SV tx] [] fun v m => v = .bool true ∧ m = [] := by
 refine tri_k Tryz.func6 rfl rfl fun F => ?_;simp only [Tryz.ntmps6, argEnv, List.cons_append, List.nil_append]
 by_cases hno : nn < 1 ∨ 6 < nn
 ·have hN := T10no w0 hno;refine zH fun zq zQ => ?_;refine zC 8 rfl ?_;refine zcall [] rfl rfl rfl Tryz.call8 rfl (T8 _ (by first | assumption | rfl | omega | decide | (simp; done) | (simp at *; omega))) rfl ?_;simp only [zca, zna, splice, spliceL];refine zO 9 rfl ?_;refine zcall [] rfl rfl rfl Tryz.call10 rfl (hN ) rfl ?_;simp only [zca, zna, splice, spliceL];refine zO 11 rfl ?_;refine zV (ov_ptr_nil (q := none) rfl Tryz.underlying25 rfl rfl) ?_;refine zO 25 rfl ?_;refine zQ ?_;refine at_end ?_;refine zfin ?_;refine ⟨_, ⟨rfl, rfl⟩, ?_⟩;exact zE [] []
 obtain ⟨n, rfl⟩ : ∃ n : Nat, nn = n := ⟨nn.toNat, by omega⟩;have hn1 : 1 ≤ n := by omega
 have hn2 : n ≤ 6 := by omega
 have hN := T10s w0 hn1 hn2;have hLg := T9 w0 (c := c) hr hl
 cases hlg : large6 l with
 | true =>
  rw [hlg] at hLg;refine zH fun zq zQ => ?_;refine zC 8 rfl ?_;refine zcall [] rfl rfl rfl Tryz.call8 rfl (T8 _ (by first | assumption | rfl | omega | decide | (simp; done) | (simp at *; omega))) rfl ?_;simp only [zca, zna, splice, spliceL];refine zO 9 rfl ?_;refine zT (ot_call (ks := []) rfl rfl rfl Tryz.call10 rfl (hN ) rfl) ?_;rintro v0 _ ⟨m0, hp0, rfl⟩;obtain ⟨g0, hp0⟩ := hp0;obtain ⟨rfl, rfl⟩ := hp0;simp only [zca, zna, splice, spliceL];refine zO 11 rfl ?_;refine zV (ov_ptr_nil (q := none) rfl Tryz.underlying25 rfl rfl) ?_;refine zO 2 rfl ?_;refine at_wanted (j := 2) rfl ?_;refine zcall [] rfl rfl rfl Tryz.call9 rfl (hLg ) rfl ?_;simp only [zca, zna, splice, spliceL];refine zO 22 rfl ?_;refine zQ ?_;refine at_end ?_;refine zfin ?_;refine ⟨_, ⟨rfl, rfl⟩, ?_⟩;exact zE [] [0]
 | false =>
 rw [hlg] at hLg;obtain ⟨hl60, htx⟩ := large6_no hlg
 by_cases ht3 : 300 < tx.length
 ·have x1 : decide ((tx.length : Int) > 300) = true := decide_eq_true (by omega);refine zH fun zq zQ => ?_;refine zC 8 rfl ?_;refine zcall [] rfl rfl rfl Tryz.call8 rfl (T8 _ (by first | assumption | rfl | omega | decide | (simp; done) | (simp at *; omega))) rfl ?_;simp only [zca, zna, splice, spliceL];refine zO 9 rfl ?_;refine zT (ot_call (ks := []) rfl rfl rfl Tryz.call10 rfl (hN ) rfl) ?_;rintro v0 _ ⟨m0, hp0, rfl⟩;obtain ⟨g0, hp0⟩ := hp0;obtain ⟨rfl, rfl⟩ := hp0;simp only [zca, zna, splice, spliceL];refine zO 11 rfl ?_;refine zV (ov_ptr_nil (q := none) rfl Tryz.underlying25 rfl rfl) ?_;refine zO 2 rfl ?_;refine at_wanted (j := 2) rfl ?_;refine zcall [] rfl rfl rfl Tryz.call9 rfl (hLg ) rfl ?_;simp only [zca, zna, splice, spliceL];refine zO 7 rfl ?_;refine zru 34 ?_;refine zO 15 rfl ?_;refine zQ ?_;refine at_end ?_;refine zfin ?_;refine ⟨_, ⟨rfl, rfl⟩, ?_⟩;exact zE [] [0]
 have x1 : decide ((tx.length : Int) > 300) = false := decide_eq_false (by omega);have hC {g : Nat} := T26 w0 (g := g) tx (by omega) hM;obtain ⟨is, his⟩ : ∃ is, is = classL tx := ⟨_, rfl⟩;rw [← his] at hC
 by_cases hr1 : is = 1
 rotate_left
 ·have x2 : (!decide (is = 1)) = true := by simp [hr1]
  refine zH fun zq zQ => ?_;refine zC 8 rfl ?_;refine zcall [] rfl rfl rfl Tryz.call8 rfl (T8 _ (by first | assumption | rfl | omega | decide | (simp; done) | (simp at *; omega))) rfl ?_;simp only [zca, zna, splice, spliceL];refine zO 9 rfl ?_;refine zT (ot_call (ks := []) rfl rfl rfl Tryz.call10 rfl (hN ) rfl) ?_;rintro v0 _ ⟨m0, hp0, rfl⟩;obtain ⟨g0, hp0⟩ := hp0;obtain ⟨rfl, rfl⟩ := hp0;simp only [zca, zna, splice, spliceL];refine zO 11 rfl ?_;refine zV (ov_ptr_nil (q := none) rfl Tryz.underlying25 rfl rfl) ?_;refine zO 2 rfl ?_;refine at_wanted (j := 2) rfl ?_;refine zcall [] rfl rfl rfl Tryz.call9 rfl (hLg ) rfl ?_;simp only [zca, zna, splice, spliceL];refine zO 7 rfl ?_;refine zrg 34 ?_;refine at_wanted (j := 11) rfl ?_;refine zT (ot_call (ks := []) rfl rfl rfl Tryz.call25 rfl (T25 _) rfl) ?_;rintro v0 _ ⟨m0, hp0, rfl⟩;obtain ⟨g1, hp0⟩ := hp0;obtain ⟨rfl, rfl⟩ := hp0;simp only [zca, zna, splice, spliceL];refine zO 1 rfl ?_;refine at_wanted (j := 11) rfl ?_;refine at_fold (A := Cl g1) [0] rfl (fun h s => cl_made h s) ?_;refine zcall [0] rfl rfl rfl Tryz.call26 rfl (hC ) rfl ?_;simp only [zca, zna, splice, spliceL];refine zO 4 rfl ?_;refine zt ?_;refine zC 7 rfl ?_;refine zQ ?_;refine at_end ?_;refine zfin ?_;refine ⟨_, ⟨rfl, rfl⟩, ?_⟩;exact zE [] [0, 0]
 have x2 : (!decide (is = 1)) = false := by simp [hr1]
 have hcl : classL tx = 1 := by rw [← his]; exact hr1
 refine zH fun zq zQ => ?_;refine zC 8 rfl ?_;refine zcall [] rfl rfl rfl Tryz.call8 rfl (T8 _ (by first | assumption | rfl | omega | decide | (simp; done) | (simp at *; omega))) rfl ?_;simp only [zca, zna, splice, spliceL];refine zO 9 rfl ?_;refine zT (ot_call (ks := []) rfl rfl rfl Tryz.call10 rfl (hN ) rfl) ?_;rintro v0 _ ⟨m0, hp0, rfl⟩;obtain ⟨g0, hp0⟩ := hp0;obtain ⟨rfl, rfl⟩ := hp0;simp only [zca, zna, splice, spliceL];refine zO 11 rfl ?_;refine zV (ov_ptr_nil (q := none) rfl Tryz.underlying25 rfl rfl) ?_;refine zO 2 rfl ?_;refine at_wanted (j := 2) rfl ?_;refine zcall [] rfl rfl rfl Tryz.call9 rfl (hLg ) rfl ?_;simp only [zca, zna, splice, spliceL];refine zO 7 rfl ?_;refine zrg 34 ?_;refine at_wanted (j := 11) rfl ?_;refine zT (ot_call (ks := []) rfl rfl rfl Tryz.call25 rfl (T25 _) rfl) ?_;rintro v0 _ ⟨m0, hp0, rfl⟩;obtain ⟨g1, hp0⟩ := hp0;obtain ⟨rfl, rfl⟩ := hp0;simp only [zca, zna, splice, spliceL];refine zO 1 rfl ?_;refine at_wanted (j := 11) rfl ?_;refine at_fold (A := Cl g1) [0] rfl (fun h s => cl_made h s) ?_;refine zcall [0] rfl rfl rfl Tryz.call26 rfl (hC ) rfl ?_;simp only [zca, zna, splice, spliceL];refine zO 4 rfl ?_;refine zf ?_;refine zC 16 rfl ?_;refine at_eachNil sxR ?_;refine at_rowNil sxE 76 3 ?_;refine at_loopK [43, 44, 45, 11, 46, 47, 48, 49, 50, 51, 52, 12, 53, 54, 55, 56, 57, 58, 59, 13, 60, 61, 62, 6, 63, 64, 65, 66, 67, 68, 69, 70, 71, 72, 73, 74, 75, 76, 77, 78, 79, 80, 81, 82, 83, 84, 85, 86, 87, 88, 89, 15, 90, 91, 92, 93, 94, 95, 96, 97, 98, 99, 100, 101, 102, 103, 104, 105, 106, 107, 108, 109, 110, 111, 112, 113, 114, 115, 116, 117, 118, 119, 120, 9, 121, 122, 42] (fun i : Nat × CD × (Int → List Ent) × List SX × Option Addr × Nat => i.1 ≤ l.length ∧ CInv i.2.1 ∧ Hst i.2.1 i.2.2.1 ∧ noC 99 i.2.1 ∧ i.2.1.ns.length = n ∧ i.2.1.ep ≤ 1 + i.1 ∧ (∀ x ∈ i.2.2.2.1, SOk tx i.2.1 i.2.2.1 x ∧ x.tx.length ≤ 20) ∧ i.2.2.2.1.length ≤ 6 * i.1) (fun i => [(42, .int .i64 (i.1 : Nat)), (9, .slice i.2.2.2.2.1 i.2.2.2.1.length i.2.2.2.2.2)]) (fun i q => setAt 0 (Row sxE 76 3 i.2.2.2.2.1 i.2.2.2.2.2 i.2.2.2.1) (setAt 1 (Each sxR i.2.2.2.1) (setAt 3 (CluA g0 i.2.1) q))) (fun i => l.length - i.1) (0, newC n, (fun _ => []), [], none, 0) ⟨Nat.zero_le _, CInv.new hn1 hn2, Hst.new n, noC_new n, by simp [newC]; omega, by simp [newC], by simp, by simp⟩ ⟨rfl, rfl, trivial⟩ (fun _ s => s) ?_;rintro ⟨k, C, H, L, B, b⟩ ⟨hk, I, T, hnc, hCn, hCe, hL, hLl⟩;simp only [setAt] at hk I T hnc hCn hCe hL hLl ⊢
 rcases Nat.lt_or_ge k l.length with hlt | hge
 rotate_left
 ·have hi1 : decide ((k : Int) < l.length) = false := decide_eq_false (by omega);refine zC 6 rfl ?_;refine zg ?_;refine zC 11 rfl ?_;refine zQ ?_;refine at_end ?_;refine zfin ?_;refine ⟨_, ⟨rfl, rfl⟩, ?_⟩;exact zE [] [0, 0, 0, 0]
 have hi1 : decide ((k : Int) < l.length) = true := decide_eq_true (by omega);obtain ⟨x, hget⟩ : ∃ x, l[k]? = some x := ⟨_, List.getElem?_eq_getElem hlt⟩;have hxt := htx x (List.mem_of_getElem? hget);have hD := T12 w0 (g := g0) I.ok x hxt hM
 unfold t6V at hD
 obtain ⟨D, hDd⟩ : ∃ D, D = (doC C x).1 := ⟨_, rfl⟩;have J := I.do_ (by omega) x hxt;obtain ⟨H', T', G⟩ := T.do_ I x;obtain ⟨e1, e2, e3⟩ := doC_ep (C := C) x;have hnd := fun h => noC_do hnc x h;obtain ⟨td, htd⟩ : ∃ t, t = (doC C x).2 := ⟨_, rfl⟩;rw [← hDd] at hD J T' G e1 e2 e3 hnd;rw [← htd] at hD;refine zC 6 rfl ?_;refine zu ?_;refine zC 6 rfl ?_;refine zV (ov_indexRd (fun _ s => hr.up s) rfl Tryz.underlying22 rfl rfl rfl hget) ?_;refine zV (ov_loadRdS (vs := [_, _, _, _, _, _, _]) (fun _ s => hr.up s) rfl rfl rfl hget rfl rfl) ?_;refine zA Tryz.zeroValue34 fun g2 => ?_;refine zS 0 ?_;simp only [setAt, splice, spliceL, Value.cells];refine zOM [(0,_,_,_)] ⟨rfl,trivial⟩ [0] 6 rfl ?_;refine zT (ot_call (ks := [4]) rfl rfl rfl Tryz.call12 rfl (hD ) rfl) ?_;rintro v0 _ ⟨m0, hp0, rfl⟩;obtain ⟨B0, hp0⟩ := hp0;obtain ⟨b0, hp0⟩ := hp0;obtain ⟨rfl, rfl⟩ := hp0;simp only [zca, zna, splice, spliceL];refine zO 9 rfl ?_;have hi2 : decide (((0 : Nat) : Int) < n) = true := decide_eq_true (by omega)
 by_cases h99 : x.cn = 99
 ·have y1 : decide (x.cn = 99) = true := decide_eq_true h99;refine at_loopK [51, 52, 12, 53, 54, 55, 56, 57, 58, 59, 13, 60, 61, 62, 6, 63, 64, 65, 66, 67, 68, 69, 70, 71, 72, 73, 74, 75, 76, 77, 78, 79, 80, 81, 82, 83, 84, 85, 86, 87, 88, 89, 15, 90, 91, 92, 93, 94, 95, 96, 97, 98, 99, 100, 101, 102, 103, 104, 105, 106, 107, 108, 109, 110, 111, 112, 113, 114, 115, 116, 117, 118, 119, 120, 9, 121, 50] (fun i : Nat => i = 0) (fun i => [(50, .int .i64 (i : Nat))]) (fun i q => q) (fun i => 0) 0 rfl ⟨rfl, trivial⟩ (fun _ s => s) ?_;rintro _ rfl;have hR := T27 w0 (g := g0) (C := D) J.ok.ok (0 : Nat) 99 (epC D (0 : Nat)) true tx (by omega) hM;refine zC 6 rfl ?_;refine zu ?_;refine zC 16 rfl ?_;refine zcall [0] rfl rfl rfl Tryz.call17 rfl (T17 _ _) rfl ?_;simp only [zca, zna, splice, spliceL];refine zO 1 rfl ?_;refine zT (ot_call (ks := [0]) rfl rfl rfl Tryz.call27 rfl (hR ) rfl) ?_;rintro v0 _ ⟨m0, hp0, rfl⟩;obtain ⟨B1, hp0⟩ := hp0;obtain ⟨b1, hp0⟩ := hp0;obtain ⟨rfl, rfl⟩ := hp0;simp only [zca, zna, splice, spliceL];refine zA Tryz.zeroValue73 fun g3 => ?_;refine zS 0 ?_;simp only [setAt, splice, spliceL, Value.cells];refine zOM [(4,_,_,_)] ⟨rfl,trivial⟩ [0] 10 rfl ?_;refine zu ?_;refine zC 16 rfl ?_;refine zQ ?_;refine at_end ?_;refine zfin ?_;refine ⟨_, ⟨rfl, rfl⟩, ?_⟩;exact zE [] [0, 0, 0, 0, 0, 0, 0, 0]
 have y1 : decide (x.cn = 99) = false := decide_eq_false h99;replace hnd := hnd h99;refine at_loopK [51, 52, 12, 53, 54, 55, 56, 57, 58, 59, 13, 60, 61, 62, 6, 63, 64, 65, 66, 67, 68, 69, 70, 71, 72, 73, 74, 75, 76, 77, 78, 79, 80, 81, 82, 83, 84, 85, 86, 87, 88, 89, 15, 90, 91, 92, 93, 94, 95, 96, 97, 98, 99, 100, 101, 102, 103, 104, 105, 106, 107, 108, 109, 110, 111, 112, 113, 114, 115, 116, 117, 118, 119, 120, 9, 121, 50] (fun i : Nat × List SX × Option Addr × Nat => i.1 ≤ n ∧ (∀ x ∈ i.2.1, SOk tx D H' x ∧ x.tx.length ≤ 20) ∧ i.2.1.length ≤ 6 * k + i.1) (fun i => [(50, .int .i64 (i.1 : Nat)), (9, .slice i.2.2.1 i.2.1.length i.2.2.2)]) (fun i q => setAt 3 (Row sxE 76 3 i.2.2.1 i.2.2.2 i.2.1) (setAt 4 (Each sxR i.2.1) q)) (fun i => n - i.1) (0, L, B, b) ⟨Nat.zero_le _, fun x hx => ⟨(hL x hx).1.up G, (hL x hx).2⟩, by simp only; omega⟩ ⟨rfl, rfl, trivial⟩ (fun _ s => s) ?_;rintro ⟨i, L2, B2, b2⟩ ⟨hi, hL2, hL2l⟩;simp only [setAt] at hi hL2 hL2l ⊢
 rcases Nat.lt_or_ge i n with hlt2 | hge2
 rotate_left
 ·have hi3 : decide ((i : Int) < n) = false := decide_eq_false (by omega);refine zC 6 rfl ?_;refine zg ?_;refine zC 7 rfl ?_;refine zV zI ?_;refine zOR 3 rfl ?_;refine at_roundF (k + 1, D, H', L2, B2, b2) ⟨hlt, J, T', hnd, by simp only; omega, by simp only; omega, hL2, by simp only; omega⟩ (by simp only; omega) ⟨rfl, rfl, trivial⟩ rfl ?_;simp only [setAt];exact zE [3, 3, 3, 0] [0, 0]
 have hi3 : decide ((i : Int) < n) = true := decide_eq_true (by omega);obtain ⟨s, hs⟩ : ∃ s, D.ns[i]? = some s := ⟨_, List.getElem?_eq_getElem (by omega)⟩;have hsm := List.mem_of_getElem? hs;have hsa : atC D (i : Nat) = some s := by rw [atC_nat]; exact hs
 have hslen := (J.ok.ok s hsm).len;have hse0 := (J.ok.ok s hsm).e0;have hR := T27 w0 (g := g0) (C := D) J.ok.ok (i : Nat) 99 (epC D (i : Nat)) true tx (by omega) hM;obtain ⟨rt, hrt⟩ : ∃ rt, rt = readL tx s.lg := ⟨_, rfl⟩;obtain ⟨re, hre⟩ : ∃ re, re = s.ep := ⟨_, rfl⟩;obtain ⟨rp, hrp⟩ : ∃ rp, rp = s.lg.length := ⟨_, rfl⟩;have hrd : runC D (i : Nat) 99 (epC D (i : Nat)) true tx = (D, ⟨0, re, rp, rt⟩) := by rw [read_at hcl hnd hs, hre, hrp, hrt]
 rw [hrd] at hR;have hEp := T17 w0 (g := g0) (C := D) (i : Nat);rw [show epC D (i : Nat) = s.ep by unfold epC; rw [hsa]] at hEp hR;have hLo := T21 w0 (g := g0) (C := D) J.ok.ok (i : Nat);rw [show lgC D (i : Nat) = s.lg by unfold lgC; rw [hsa]] at hLo;have hrl : rt.length ≤ 20 := by rw [hrt]; unfold readL; exact reads_len20 _ _
 have hwl : IntKind.u64.wrap ((s.lg.length : Nat) : Int) = ((s.lg.length : Nat) : Int) := inK_u64 (by omega) (by omega);have z1 : (!decide (re = s.ep)) = false := by simp [hre]
 have z2 : (!decide (((rp : Nat) : Int) = ((s.lg.length : Nat) : Int))) = false := by simp [hrp]
 refine zC 6 rfl ?_;refine zu ?_;refine zC 16 rfl ?_;refine zcall [0] rfl rfl rfl Tryz.call17 rfl (hEp ) rfl ?_;simp only [zca, zna, splice, spliceL];refine zO 1 rfl ?_;refine zT (ot_call (ks := [0]) rfl rfl rfl Tryz.call27 rfl (hR ) rfl) ?_;rintro v0 _ ⟨m0, hp0, rfl⟩;obtain ⟨B1, hp0⟩ := hp0;obtain ⟨b1, hp0⟩ := hp0;obtain ⟨rfl, rfl⟩ := hp0;simp only [zca, zna, splice, spliceL];refine zA Tryz.zeroValue73 fun g3 => ?_;refine zS 0 ?_;simp only [setAt, splice, spliceL, Value.cells];refine zOM [(4,_,_,_)] ⟨rfl,trivial⟩ [0] 10 rfl ?_;refine zg ?_;refine zC 4 rfl ?_;refine at_draw _ [] 1000 [(2, 0), (1, 1), (2, 2), (2, 3), (2, 4), (1, 5), (2, 6), (2, 7), (0, 8), (2, 9), (2, 10), (2, 11), (2, 12), (1, 13), (2, 14), (2, 15), (0, 16), (1, 17), (2, 18), (2, 19), (2, 20)] (by kernel_rfl) (by kernel_rfl) (fun _ s => (s.pulls (ks := [0, 3]) rfl).left) ?_;refine qF 0 0 ?_;refine qL 0 ?_;refine qI ?_;refine qM ?_;refine qW 3 ?_;refine qF 1 1 ?_;refine qW 3 ?_;refine qL 0 ?_;refine qW 3 ?_;refine qM ?_;refine qW 3 ?_;refine qM ?_;refine qW 3 ?_;refine aq_t (ot_call (ks := [1]) rfl rfl rfl Tryz.call17 rfl (hEp ) rfl) rfl rfl rfl ?_;rintro _ _ ⟨_, ⟨rfl, rfl⟩, rfl⟩;simp only [zca, zna, splice, spliceL];refine ⟨fun _ s => (s.pulls (ks := [1, 3]) rfl).left, ?_⟩;refine qW 3 ?_;refine qI ?_;refine qP (ov_pick_f rfl rfl rfl) ?_;refine qM ?_;refine zrf 74 ?_;refine qW 11 ?_;refine qF 2 2 ?_;refine qW 11 ?_;refine qL 0 ?_;refine qW 11 ?_;refine qM ?_;refine qW 11 ?_;refine qM ?_;refine qW 11 ?_;refine aq_t (ot_call (ks := [0]) rfl rfl rfl Tryz.call21 rfl (hLo ) rfl) rfl rfl rfl ?_;rintro v0 _ ⟨m0, hp0, rfl⟩;obtain ⟨B3, hp0⟩ := hp0;obtain ⟨e0, hp0⟩ := hp0;obtain ⟨rfl, rfl⟩ := hp0;simp only [zca, zna, splice, spliceL];refine ⟨fun _ s => (s.pulls (ks := [2, 4]) rfl).left, ?_⟩;refine qW 11 ?_;refine qV (ov_len_slice rfl Tryz.underlying60 rfl) ?_;refine qW 11 ?_;refine qP ((ov_conv_int rfl rfl Tryz.underlying32 rfl).eq (congrArg (Value.int .u64) (inK_u64 (by omega) (by omega)))) ?_;refine qW 11 ?_;refine qI ?_;refine qP (ov_pick_f rfl rfl rfl) ?_;refine aq_nil ?_;refine zX 1 rfl ?_;refine zf ?_;refine zC 11 rfl ?_;have hnew : SOk tx D H' ⟨re, rp, rt, B1, b1⟩ := by rw [hre, hrp, hrt]; exact SOk.of J T' hsm B1 b1
 refine at_loopK [87, 88, 89, 15, 90, 91, 92, 93, 94, 95, 96, 97, 98, 99, 100, 101, 102, 103, 104, 105, 106, 107, 108, 109, 6, 110, 86] (fun j : Nat => j ≤ L2.length) (fun j => [(86, .int .i64 (j : Nat))]) (fun j q => q) (fun j => L2.length - j) 0 (Nat.zero_le _) ⟨rfl, trivial⟩ (fun _ s => s) ?_;intro j hj
 rcases Nat.lt_or_ge j L2.length with hlt3 | hge3
 ·have hi4 : decide ((j : Int) < L2.length) = true := decide_eq_true (by omega);obtain ⟨y, hgy⟩ : ∃ y, L2[j]? = some y := ⟨_, List.getElem?_eq_getElem hlt3⟩;obtain ⟨hy1, hy2⟩ := hL2 y (List.mem_of_getElem? hgy)
  by_cases hye : y.ep = re
  ·have v1 : decide (y.ep = re) = true := decide_eq_true hye
   by_cases hyp : y.pl = rp
   ·have v2 : decide (((y.pl : Nat) : Int) = ((rp : Nat) : Int)) = true := decide_eq_true (by omega);have heq := SOk.eq hy1 hnew hye hyp;simp only at heq;have hT := T28 w0 (A := y.A) (B := B1) (c := y.c) (d := b1) (c' := y.c) (d' := b1) (xs := y.tx) (ys := rt) (by omega) (by omega);have v3 : decide (y.tx = rt) = true := decide_eq_true heq;refine at_each 7 j hgy rfl ?_;refine zC 6 rfl ?_;refine zu ?_;refine zC 6 rfl ?_;refine zV (ov_indexRd (fun _ s => s.rd (k := 8) rfl) rfl Tryz.underlying72 rfl rfl rfl hgy) ?_;refine zV (ov_loadRdS (vs := [_, _, _]) (fun _ s => s.rd (k := 8) rfl) rfl rfl rfl hgy rfl rfl) ?_;refine zA Tryz.zeroValue76 fun g4 => ?_;refine zS 0 ?_;simp only [setAt, splice, spliceL, Value.cells];refine zOM [(0,_,_,_),(5,_,_,_)] ⟨rfl,rfl,trivial⟩ [0,1] 10 rfl ?_;refine zru 95 ?_;refine zOM [(0,_,_,_),(5,_,_,_)] ⟨rfl,rfl,trivial⟩ [0,1] 7 rfl ?_;refine zru 102 ?_;refine zOM [(0,_,_,_),(5,_,_,_)] ⟨rfl,rfl,trivial⟩ [0,1] 4 rfl ?_;refine at_wanted (j := 12) rfl ?_;refine zcall [1, 5] rfl rfl rfl Tryz.call28 rfl (hT ) rfl ?_;simp only [zca, zna, splice, spliceL];refine zO 4 rfl ?_;refine zf ?_;refine zC 4 rfl ?_;refine zV zI ?_;refine zOR 3 rfl ?_;refine at_fold (A := Each sxR L2) [0, 2] rfl (fun h s => each_same hgy h s) ?_;refine at_roundF (j + 1) hlt3 (by omega) ⟨rfl, trivial⟩ rfl ?_;exact zE [3, 3, 3, 1, 2, 2, 2, 0, 1] [0]
   ·have v2 : decide (((y.pl : Nat) : Int) = ((rp : Nat) : Int)) = false := decide_eq_false (by omega);refine zC 6 rfl ?_;refine zu ?_;refine zC 6 rfl ?_;refine zV (ov_indexRd (fun _ s => s.rd (k := 6) rfl) rfl Tryz.underlying72 rfl rfl rfl hgy) ?_;refine zV (ov_loadRdS (vs := [_, _, _]) (fun _ s => s.rd (k := 6) rfl) rfl rfl rfl hgy rfl rfl) ?_;refine zA Tryz.zeroValue76 fun g4 => ?_;refine zS 0 ?_;simp only [setAt, splice, spliceL, Value.cells];refine zOM [(0,_,_,_),(3,_,_,_)] ⟨rfl,rfl,trivial⟩ [0,1] 10 rfl ?_;refine zru 95 ?_;refine zOM [(0,_,_,_),(3,_,_,_)] ⟨rfl,rfl,trivial⟩ [0,1] 7 rfl ?_;refine zrg 102 ?_;refine zO 14 rfl ?_;refine zV zI ?_;refine zOR 3 rfl ?_;refine at_roundF (j + 1) hlt3 (by omega) ⟨rfl, trivial⟩ rfl ?_;exact zE [1, 1, 1, 1, 1, 1, 1, 1, 1] [0]
  ·have v1 : decide (y.ep = re) = false := decide_eq_false hye;refine zC 6 rfl ?_;refine zu ?_;refine zC 6 rfl ?_;refine zV (ov_indexRd (fun _ s => s.rd (k := 6) rfl) rfl Tryz.underlying72 rfl rfl rfl hgy) ?_;refine zV (ov_loadRdS (vs := [_, _, _]) (fun _ s => s.rd (k := 6) rfl) rfl rfl rfl hgy rfl rfl) ?_;refine zA Tryz.zeroValue76 fun g4 => ?_;refine zS 0 ?_;simp only [setAt, splice, spliceL, Value.cells];refine zOM [(0,_,_,_),(3,_,_,_)] ⟨rfl,rfl,trivial⟩ [0,1] 10 rfl ?_;refine zrg 95 ?_;refine zO 21 rfl ?_;refine zV zI ?_;refine zOR 3 rfl ?_;refine at_roundF (j + 1) hlt3 (by omega) ⟨rfl, trivial⟩ rfl ?_;exact zE [1, 1, 1, 1, 1, 1, 1, 1, 1] [0]
 have hi4 : decide ((j : Int) < L2.length) = false := decide_eq_false (by omega);refine zC 6 rfl ?_;refine zg ?_;refine zCM [(2,_,_,_)] ⟨rfl,trivial⟩ [0,0,0] 13 rfl ?_;refine zV (ov_build (cs := [_, _, _]) rfl rfl rfl rfl) ?_;refine zT (ot_buildSlice (cs := [_, _, _]) rfl Tryz.underlying72 rfl rfl rfl rfl rfl rfl) ?_;rintro _ _ ⟨g4, rfl, rfl⟩;refine zT (ot_append (k := 7) (size := 3) (bytes := 40) (ys := [(⟨re, rp, rt, B1, b1⟩ : SX)]) (fun _ s => s.rdPt (k := 0) rfl rfl (by simp [sxE])) rfl Tryz.underlying72 (ti := Tryz.t76) rfl rfl rfl rfl rfl (by decide) rfl rfl rfl (by simp [sxE, Value.oneCell']) (by simp; omega) (by decide)) ?_;rintro _ _ ⟨A0, c0, rfl, rfl⟩;simp only [setAt];refine zO 5 rfl ?_;refine zV zI ?_;refine zOR 3 rfl ?_;refine at_fold (A := Each sxR (L2 ++ [⟨re, rp, rt, B1, b1⟩])) [4, 7] rfl (fun h s => each_snoc h s) ?_;refine at_roundF (i + 1, L2 ++ [⟨re, rp, rt, B1, b1⟩], A0, c0) ⟨hlt2, fun z hz => ?_, by simp; omega⟩ (by simp only; omega) ⟨rfl, rfl, trivial⟩ rfl ?_
 ·rcases List.mem_append.1 hz with hz | hz
  ·exact hL2 z hz
  ·simp at hz; subst hz; exact ⟨hnew, hrl⟩
 simp only [setAt];exact zE [2, 4, 4, 4, 0, 3] [0, 0, 0]
end Go.Proofs.YtfcmajgnpnlkiaaGreatDoor
