/- The statement NodeFences, walked. -/
import Derived.Test.YtighdkdomfpadaaGreatDoorProg
import Derived.Test.YtighdkdomfpadaaGreatDoorNode8
import Derived.Test.YtighdkdomfpadaaGreatDoorSLB
import Derived.KernelRfl
set_option linter.unusedSimpArgs false
set_option linter.unusedVariables false
set_option maxRecDepth 100000
set_option maxHeartbeats 4000000
namespace Go.Proofs.YtighdkdomfpadaaGreatDoor
open Go Go.Proofs.YtighdkdomfpadaaGreatDoor.SL Go.RowKit
theorem lay_law (s : ND) (ts : List BL) : ∃ ext, (layN s ts).1.lg = s.lg ++ ext ∧ (layN s ts).1.ep = s.ep ∧ (layN s ts).1.ld = s.ld ∧ (∀ e ∈ ext, e.1 = s.ep) ∧ (ext ≠ [] → (layN s ts).2 = 0) := by
  unfold layN
  split
  · exact ⟨[], by simp, rfl, rfl, by simp, by simp⟩
  · exact ⟨_, rfl, rfl, rfl, by simp, fun _ => rfl⟩
theorem do_law (s : ND) (k is : Int) (t : BL) : ∃ ext, (doN s k is t).1.lg = s.lg ++ ext ∧ (doN s k is t).1.ep = s.ep ∧ (doN s k is t).1.ld = s.ld ∧ (∀ e ∈ ext, e.1 = s.ep) ∧ (ext ≠ [] → (doN s k is t).2 = 0) := by
  have triv : ∀ (s' : ND) (e : Int), s'.lg = s.lg → s'.ep = s.ep → s'.ld = s.ld → ∃ ext, s'.lg = s.lg ++ ext ∧ s'.ep = s.ep ∧ s'.ld = s.ld ∧ (∀ e ∈ ext, e.1 = s.ep) ∧ (ext ≠ [] → e = 0) := fun s' e h1 h2 h3 => ⟨[], by rw [h1, List.append_nil], h2, h3, by simp, by simp⟩
  unfold doN
  split
  · split <;> exact triv _ _ rfl rfl rfl
  · split
    · split
      · obtain ⟨ext, h1, h2, h3, h4, h5⟩ := lay_law ⟨s.ep, s.ld, s.lg, s.op.eraseIdx _⟩ (trx s.op _)
        exact ⟨ext, h1, h2, h3, h4, h5⟩
      · exact triv _ _ rfl rfl rfl
    · split
      · split <;> exact triv _ _ rfl rfl rfl
      · split
        · split
          · split <;> exact triv _ _ rfl rfl rfl
          · exact lay_law s [t]
        · exact triv _ _ rfl rfl rfl
/-- What a run lays, and when. -/
structure RunLaw (s : ND) (e : Int) (rd : Bool) (t : BL) (s' : ND) (r : RP) (ext : List Ent) : Prop where
  lg : s'.lg = s.lg ++ ext
  ep : s'.ep = s.ep
  ld : s'.ld = s.ld
  rep : r.ep = s.ep
  rpl : r.pl = s'.lg.length
  all : ∀ x ∈ ext, x.1 = s.ep
  laid : ext ≠ [] → r.er = 0 ∧ e = s.ep ∧ s.ld = true ∧ rd = false ∧ classL t ≠ 1 ∧ classL t ≠ 0
  stale : e ≠ s.ep → r.er = 8
  state : s.ld = false → rd = false → r.er ≠ 0
  reads : r.tx ≠ [] → classL t = 1
theorem run_law (s : ND) (k e : Int) (rd : Bool) (t : BL) : ∃ ext, RunLaw s e rd t (runN s k e rd t).1 (runN s k e rd t).2 ext := by
  have hm : ∀ is, (e ≠ s.ep → mayN s e rd is = 8) ∧ (mayN s e rd is = 0 → e = s.ep ∧ is ≠ 0 ∧ (rd = true → is = 1) ∧ (rd = false → s.ld = true)) := by
    intro is
    unfold mayN
    constructor
    · intro h; rw [if_pos h]
    · split
      · intro h; cases h
      · split
        · intro h; cases h
        · split
          · intro h; cases h
          · rename_i h1 h2 h3
            intro _
            refine ⟨by omega, fun h => h2 (.inl h), fun h => ?_, fun h => ?_⟩
            · by_cases h4 : is = 1
              · exact h4
              · exact absurd (.inr ⟨h, h4⟩) h2
            · cases hl : s.ld with
              | true => rfl
              | false => exact absurd ⟨h, hl⟩ h3
  obtain ⟨m1, m2⟩ := hm (classL t)
  unfold runN
  split
  · rename_i hne
    refine ⟨[], by simp, rfl, rfl, rfl, rfl, by simp, by simp, m1, fun h1 h2 => hne, by simp⟩
  · rename_i hz
    have hz' : mayN s e rd (classL t) = 0 := by
      by_cases h : mayN s e rd (classL t) = 0
      · exact h
      · exact absurd h hz
    obtain ⟨a1, a2, a3, a4⟩ := m2 hz'
    split
    · rename_i h1
      exact ⟨[], by simp, rfl, rfl, rfl, rfl, by simp, by simp, fun h => absurd a1 h, fun h2 h3 => (by rw [a4 h3] at h2; cases h2), fun _ => h1⟩
    · rename_i h1
      obtain ⟨ext, b1, b2, b3, b4, b5⟩ := do_law s k (classL t) t
      have hrd : rd = false := by cases rd with | false => rfl | true => exact absurd (a3 rfl) h1
      exact ⟨ext, b1, b2, b3, b2, rfl, b4, fun h => ⟨b5 h, a1, a4 hrd, hrd, h1, a2⟩, fun h => absurd a1 h, fun h2 _ => (by rw [a4 hrd] at h2; cases h2), by simp⟩
theorem do_ep {ss : List ND} {x : AC} {s : ND} (hs : ss[ofI x.nd]? = some s) : ∃ s', (doL ss x).1[ofI x.nd]? = some s' ∧ s.ep ≤ s'.ep ∧ (x.do_ = 0 → s' = (runN s x.cn x.ep x.rd x.tx).1 ∧ (doL ss x).2.r = (runN s x.cn x.ep x.rd x.tx).2) := by
  have hlt := (List.getElem?_eq_some_iff.1 hs).1
  have set_at : ∀ s' : ND, (ss.set (ofI x.nd) s')[ofI x.nd]? = some s' := fun s' => by simp [hlt]
  unfold doL
  rw [hs]
  simp only
  split
  · obtain ⟨ext, h⟩ := run_law s x.cn x.ep x.rd x.tx
    exact ⟨_, set_at _, by rw [h.ep]; exact Int.le_refl _, fun _ => ⟨rfl, rfl⟩⟩
  · rename_i h0
    split
    · refine ⟨_, set_at _, ?_, fun h => absurd h h0⟩
      unfold closeN; split <;> exact Int.le_refl _
    · split
      · refine ⟨_, set_at _, ?_, fun h => absurd h h0⟩
        unfold leadN; split
        · exact Int.le_refl _
        · show s.ep ≤ x.ep; omega
      · cases hf : ss[ofI x.fr]? with
        | none => exact ⟨s, hs, Int.le_refl _, fun h => absurd h h0⟩
        | some f =>
          refine ⟨_, set_at _, ?_, fun h => absurd h h0⟩
          unfold copyN; split
          · exact Int.le_refl _
          · split
            · show s.ep ≤ f.ep; omega
            · exact Int.le_refl _
theorem do_ok {ss : List ND} {x : AC} (hok : ∀ s ∈ ss, NOk s) (h0 : 0 ≤ x.ep) (h1 : x.ep < 18446744073709551616) (ht : x.tx.length ≤ 300) : (doL ss x).1.length = ss.length ∧ ∀ s ∈ (doL ss x).1, NOk s := by
  have key : ∀ (i : Nat) (s' : ND), NOk s' → (ss.set i s').length = ss.length ∧ ∀ s ∈ ss.set i s', NOk s := fun i s' h => ⟨by simp, fun s hs => by
    rcases List.mem_or_eq_of_mem_set hs with hs | rfl
    · exact hok s hs
    · exact h⟩
  unfold doL
  cases hs : ss[ofI x.nd]? with
  | none => exact ⟨rfl, hok⟩
  | some s =>
    have hns := hok s (List.mem_of_getElem? hs)
    simp only
    split
    · exact key _ _ (hns.run _ _ _ ht)
    · split
      · exact key _ _ (hns.close _)
      · split
        · exact key _ _ (hns.lead h0 h1)
        · cases hf : ss[ofI x.fr]? with
          | none => exact ⟨rfl, hok⟩
          | some f => exact key _ _ (hns.copy (hok f (List.mem_of_getElem? hf)) _)
theorem large_no {l : List AC} (h : largeL l = false) : l.length ≤ 60 ∧ ∀ x ∈ l, x.tx.length ≤ 300 := by
  unfold largeL at h
  rw [Bool.or_eq_false_iff] at h
  obtain ⟨h1, h2⟩ := h
  refine ⟨by simpa using h1, fun x hx => ?_⟩
  have := List.any_eq_false.1 h2 x hx
  simpa using this
theorem T5 (w0 : World) {A : Option Addr} {c : Nat} {l : List AC} (hr : Rd acE w0 8 A l) (hl : l.length ≤ 4000000000000) (hep : ∀ x ∈ l, 0 ≤ x.ep ∧ x.ep < 18446744073709551616) (hM : MaxL w0) :
 Tri Tryz.prog w0 5 [.slice A l.length c] [] fun v m => v = .bool true ∧ m = [] := by
 refine tri_k Tryz.func5 rfl rfl fun F => ?_
 simp only [Tryz.ntmps5, argEnv, List.cons_append, List.nil_append]
 have hLg := T20 w0 (c := c) hr hl
 cases hlg : largeL l with
 | true =>
  rw [hlg] at hLg
  refine zH fun zq zQ => ?_
  refine zC 8 rfl ?_
  refine zcall [] rfl rfl rfl Tryz.call8 rfl (T8 _ (by first | assumption | rfl | omega | decide | (simp; done) | (simp at *; omega))) rfl ?_
  simp only [zca, zna, splice, spliceL]
  refine zO 10 rfl ?_
  refine zcall [] rfl rfl rfl Tryz.call20 rfl (hLg ) rfl ?_
  simp only [zca, zna, splice, spliceL]
  refine zO 10 rfl ?_
  refine zQ ?_
  refine at_end ?_
  refine at_fin (rsV rfl (res_tmp rfl)) ?_
  refine ⟨_, ⟨rfl, rfl⟩, ?_⟩
  exact zE [] []
 | false =>
 rw [hlg] at hLg
 obtain ⟨hl60, htx⟩ := large_no hlg
 refine zH fun zq zQ => ?_
 refine zC 8 rfl ?_
 refine zcall [] rfl rfl rfl Tryz.call8 rfl (T8 _ (by first | assumption | rfl | omega | decide | (simp; done) | (simp at *; omega))) rfl ?_
 simp only [zca, zna, splice, spliceL]
 refine zO 10 rfl ?_
 refine zcall [] rfl rfl rfl Tryz.call20 rfl (hLg ) rfl ?_
 simp only [zca, zna, splice, spliceL]
 refine zO 7 rfl ?_
 refine zT (ot_call (ks := []) rfl rfl rfl Tryz.call21 rfl (T21 _) rfl) ?_
 rintro v0 _ ⟨m0, hp0, rfl⟩
 obtain ⟨A0, hp0⟩ := hp0
 obtain ⟨c0, hp0⟩ := hp0
 obtain ⟨g00, hp0⟩ := hp0
 obtain ⟨g10, hp0⟩ := hp0
 obtain ⟨g20, hp0⟩ := hp0
 obtain ⟨rfl, rfl⟩ := hp0
 simp only [zca, zna, splice, spliceL]
 refine zO 5 rfl ?_
 refine zT (ot_call (ks := []) rfl rfl rfl Tryz.call11 rfl (T11 _) rfl) ?_
 rintro v0 _ ⟨m0, hp0, rfl⟩
 obtain ⟨g0, hp0⟩ := hp0
 obtain ⟨rfl, rfl⟩ := hp0
 simp only [zca, zna, splice, spliceL]
 refine zO 12 rfl ?_
 refine at_fold (A := Cl g0) [0] rfl (fun h s => cl_made h s) ?_
 obtain ⟨gs, hgs⟩ : ∃ gs, gs = [g00, g10, g20] := ⟨_, rfl⟩
 have hg3 : gs.length = 3 := by rw [hgs]; rfl
 try rw [← hgs]
 have h3 : [n0, n0, n0].length = 3 ∧ ∀ s ∈ [n0, n0, n0], NOk s := ⟨rfl, fun s hs => by simp at hs; rw [hs]; exact NOk.new⟩
 refine at_loopK [25, 26, 27, 6, 28, 29, 30, 31, 32, 33, 7, 34, 35, 36, 37, 38, 39, 8, 9, 10, 40, 41, 42, 11, 43, 44, 12, 45, 46, 47, 48, 2, 49, 50, 51, 52, 53, 54, 55, 13, 56, 57, 58, 59, 60, 61, 62, 63, 64, 65, 66, 67, 68, 69, 70, 71, 72, 73, 74, 75, 76, 77, 78, 79, 80, 81, 82, 83, 84, 85, 86, 87, 88, 89, 90, 91, 92, 93, 94, 95, 96, 97, 98, 99, 100, 101, 102, 103, 104, 105, 106, 107, 108, 109, 110, 111, 112, 113, 114, 115, 116, 117, 118, 119, 120, 121, 122, 123, 124, 125, 126, 127, 128, 129, 130, 131, 132, 133, 134, 135, 136, 137, 138, 139, 140, 141, 15, 142, 143, 144, 145, 146, 147, 148, 149, 150, 151, 152, 153, 154, 155, 156, 157, 158, 159, 160, 161, 162, 163, 164, 165, 166, 167, 168, 169, 170, 171, 172, 173, 174, 175, 176, 177, 178, 179, 180, 181, 182, 183, 24] (fun i : Nat × List ND => i.1 ≤ l.length ∧ i.2.length = 3 ∧ ∀ s ∈ i.2, NOk s) (fun i => [(24, .int .i64 (i.1 : Nat))]) (fun i q => setAt 2 (Many NodeA gs i.2) q) (fun i => l.length - i.1) (0, [n0, n0, n0]) ⟨Nat.zero_le _, h3⟩ ⟨rfl, trivial⟩ (fun _ s => s) ?_
 rintro ⟨k, ss⟩ ⟨hk, hs3, hok⟩
 simp only [setAt] at hk hs3 hok ⊢
 rcases Nat.lt_or_ge k l.length with hlt | hge
 rotate_left
 ·have hi1 : decide ((k : Int) < l.length) = false := decide_eq_false (by omega)
  refine zC 6 rfl ?_
  refine zcF rfl (decide_eq_false (by omega)) ?_
  refine zC 11 rfl ?_
  refine zQ ?_
  refine at_end ?_
  refine at_fin (rsV rfl (res_tmp rfl)) ?_
  refine ⟨_, ⟨rfl, rfl⟩, ?_⟩
  exact zE [] [0, 0, 0]
 have hi1 : decide ((k : Int) < l.length) = true := decide_eq_true (by omega)
 obtain ⟨x, hget⟩ : ∃ x, l[k]? = some x := ⟨_, List.getElem?_eq_getElem hlt⟩
 have hxm := List.mem_of_getElem? hget
 have hxt := htx x hxm
 have hxe := hep x hxm
 have hi := (ofI_lt x.nd).1
 obtain ⟨s, hsi⟩ : ∃ s, ss[ofI x.nd]? = some s := ⟨_, List.getElem?_eq_getElem (by omega)⟩
 obtain ⟨s', hsi', hep', hrun⟩ := do_ep hsi
 obtain ⟨hd3, hdok⟩ := do_ok hok hxe.1 hxe.2 hxt
 rw [hs3] at hd3
 obtain ⟨i, hid⟩ : ∃ i, i = ofI x.nd := ⟨_, rfl⟩
 rw [← hid] at hi hsi hsi'
 have hO := T15 w0 x.nd
 rw [← hid] at hO
 obtain ⟨g, hgi⟩ : ∃ g, gs[i]? = some g := ⟨_, List.getElem?_eq_getElem (by omega)⟩
 have hns := hok s (List.mem_of_getElem? hsi)
 have hns' := hdok s' (List.mem_of_getElem? hsi')
 have hlen := hns.len
 have hlen' := hns'.len
 have hL := T19 w0 (g := g) (s := s) (by omega)
 have hL' := T19 w0 (g := g) (s := s') (by omega)
 have hD {c c' : Nat} {A : Option Addr} := T23 w0 (A := A) (c := c) (c' := c') x hg3 hs3 hok hxt hM
 unfold tdV at hD
 refine at_many 2 i hgi hsi rfl ?_
 refine zC 6 rfl ?_
 refine zcT rfl (decide_eq_true (by omega)) ?_
 refine zC 6 rfl ?_
 refine zV (ov_indexRd (fun _ s => hr.up s) rfl Tryz.underlying46 rfl rfl rfl hget) ?_
 refine zV (ov_loadRdS (vs := [_, _, _, _, _, _, _, _]) (fun _ s => hr.up s) rfl rfl rfl hget rfl rfl) ?_
 refine zA Tryz.zeroValue54 fun g1 => ?_
 refine zS 0 ?_
 simp only [setAt, splice, spliceL, Value.cells]
 refine zOM [(0,_,_,_)] ⟨rfl,trivial⟩ [0] 7 rfl ?_
 refine zcall [] rfl rfl rfl Tryz.call15 rfl (hO ) rfl ?_
 simp only [zca, zna, splice, spliceL]
 refine zV (ov_indexRd (fun _ s => s.rd (k := 4) rfl) rfl Tryz.underlying48 rfl rfl rfl hgi) ?_
 refine zV (ov_loadRd0 (fun _ s => s.rd (k := 4) rfl) rfl rfl rfl hgi rfl) ?_
 refine zO 6 rfl ?_
 refine zT (ot_call (ks := [1]) rfl rfl rfl Tryz.call19 rfl (hL ) rfl) ?_
 rintro v0 _ ⟨m0, hp0, rfl⟩
 obtain ⟨B0, hp0⟩ := hp0
 obtain ⟨e0, hp0⟩ := hp0
 obtain ⟨rfl, rfl⟩ := hp0
 simp only [zca, zna, splice, spliceL]
 refine zO 1 rfl ?_
 refine zcall [0] rfl rfl rfl Tryz.call27 rfl (T27 _) rfl ?_
 simp only [zca, zna, splice, spliceL]
 refine zO 1 rfl ?_
 refine zcall [0] rfl rfl rfl Tryz.call28 rfl (T28 _) rfl ?_
 simp only [zca, zna, splice, spliceL]
 refine zOM [(2,_,_,_)] ⟨rfl,trivial⟩ [0] 9 rfl ?_
 refine at_fold (A := Many NodeA gs ss) [0, 2] rfl (fun h s => many_same hgi hsi h s) ?_
 refine zT (ot_call (ks := [4, 0]) rfl rfl rfl Tryz.call23 rfl (hD ) rfl) ?_
 rintro v0 _ ⟨m0, hp0, rfl⟩
 obtain ⟨B1, hp0⟩ := hp0
 obtain ⟨b0, hp0⟩ := hp0
 obtain ⟨rfl, rfl⟩ := hp0
 simp only [zca, zna, splice, spliceL]
 refine zA Tryz.zeroValue57 fun g2 => ?_
 refine zS 0 ?_
 simp only [setAt, splice, spliceL, Value.cells]
 refine zO 5 rfl ?_
 refine at_many 2 i hgi hsi' rfl ?_
 have hq1 : decide (s'.ep < s.ep) = false := decide_eq_false (by omega)
 by_cases h0 : x.do_ = 0
 rotate_left
 ·have hq2 : (!decide (x.do_ = 0)) = true := by simp [h0]
  refine zT (ot_call (ks := [0]) rfl rfl rfl Tryz.call19 rfl (hL' ) rfl) ?_
  rintro v0 _ ⟨m0, hp0, rfl⟩
  obtain ⟨B2, hp0⟩ := hp0
  obtain ⟨e1, hp0⟩ := hp0
  obtain ⟨rfl, rfl⟩ := hp0
  simp only [zca, zna, splice, spliceL]
  refine zO 7 rfl ?_
  refine zcall [0] rfl rfl rfl Tryz.call27 rfl (T27 _) rfl ?_
  simp only [zca, zna, splice, spliceL]
  refine zO 4 rfl ?_
  refine zcF rfl (decide_eq_false (by omega)) ?_
  refine zCM [(7,_,_,_)] ⟨rfl,trivial⟩ [0] 10 rfl ?_
  refine zcT rfl (by first | assumption | (rw [Bool.not_eq_true']; exact decide_eq_false (by omega))) ?_
  refine zC 5 rfl ?_
  refine zV zI ?_
  refine zOR 3 rfl ?_
  refine at_fold (A := Many NodeA gs (doL ss x).1) [0, 1] rfl (fun h s => many_same hgi hsi' h s) ?_
  refine at_roundF (k + 1, (doL ss x).1) ⟨hlt, hd3, hdok⟩ (by simp only; omega) ⟨rfl, trivial⟩ rfl ?_
  simp only [setAt]
  exact zE [7, 3, 0] [0, 0, 0, 0, 0]
 have hq2 : (!decide (x.do_ = 0)) = false := by simp [h0]
 obtain ⟨ext, R⟩ : ∃ ext, RunLaw s x.ep x.rd x.tx s' (doL ss x).2.r ext := by
  obtain ⟨e1, e2⟩ := hrun h0
  try rw [e1]
  try rw [e2]
  exact run_law s x.cn x.ep x.rd x.tx
 have hC := T13 w0 (g := g0) x.tx (by omega) hM
 obtain ⟨is, his⟩ : ∃ is, is = classL x.tx := ⟨_, rfl⟩
 rw [← his] at hC
 have hll : s'.lg.length = s.lg.length + ext.length := by rw [R.lg, List.length_append]
 have hq3 : (!decide (s'.ep = s.ep)) = false := by simp [R.ep]
 have hq4 : (s'.ld == s.ld) = true := by simp [R.ld]
 have hq5 : decide ((s'.lg.length : Int) < s.lg.length) = false := decide_eq_false (by omega)
 have hq6 : (!decide ((doL ss x).2.r.ep = s.ep)) = false := by simp [R.rep]
 have hq7 : (!decide (((doL ss x).2.r.pl : Int) = (s'.lg.length : Int))) = false := by simp [R.rpl]
 have htk : s'.lg.take s.lg.length = s.lg := by rw [R.lg, List.take_left]
 have hE {A : Option Addr} {c c' : Nat} := entriesTk w0 (A := A) (c := c) (c' := c') (n := s.lg.length) (l := s'.lg) (by omega) htk
 have hS {A B : Option Addr} {c d c' d' : Nat} := same15 w0 (A := A) (B := B) (c := c) (d := d) (c' := c') (d' := d') (xs := s.lg) (ys := s.lg) (by omega) (by omega)
 have hq8 : decide (s.lg = s.lg) = true := decide_eq_true rfl
 refine zT (ot_call (ks := [0]) rfl rfl rfl Tryz.call19 rfl (hL' ) rfl) ?_
 rintro v0 _ ⟨m0, hp0, rfl⟩
 obtain ⟨B2, hp0⟩ := hp0
 obtain ⟨e1, hp0⟩ := hp0
 obtain ⟨rfl, rfl⟩ := hp0
 simp only [zca, zna, splice, spliceL]
 refine zO 7 rfl ?_
 refine zcall [0] rfl rfl rfl Tryz.call27 rfl (T27 _) rfl ?_
 simp only [zca, zna, splice, spliceL]
 refine zO 4 rfl ?_
 refine zcF rfl (decide_eq_false (by omega)) ?_
 refine zCM [(7,_,_,_)] ⟨rfl,trivial⟩ [0] 10 rfl ?_
 refine zcF rfl (by first | assumption | (rw [Bool.not_eq_false']; exact decide_eq_true (by omega))) ?_
 refine zCM [(7,_,_,_)] ⟨rfl,trivial⟩ [0] 7 rfl ?_
 refine zcall [8] rfl rfl rfl Tryz.call13 rfl (hC ) rfl ?_
 simp only [zca, zna, splice, spliceL]
 refine zO 7 rfl ?_
 refine zcall [1] rfl rfl rfl Tryz.call27 rfl (T27 _) rfl ?_
 simp only [zca, zna, splice, spliceL]
 refine zO 3 rfl ?_
 refine zrF 60 rfl (by first | assumption | (rw [Bool.not_eq_false']; exact decide_eq_true (by omega))) ?_
 refine zO 1 rfl ?_
 refine at_wanted (j := 4) rfl ?_
 refine zcall [0] rfl rfl rfl Tryz.call28 rfl (T28 _) rfl ?_
 simp only [zca, zna, splice, spliceL]
 refine zO 1 rfl ?_
 refine at_wanted (j := 4) rfl ?_
 refine zV (ov_boolne rfl Tryz.underlying4 rfl rfl) ?_
 refine zO 2 rfl ?_
 refine zrF 66 rfl (by simp [hlg, hi1, hid, hq1, hq2, his, hq3, hq4, hq5, hq6, hq7, hq8]; done) ?_
 refine zO 7 rfl ?_
 refine zrF 73 rfl (decide_eq_false (by omega)) ?_
 refine zO 3 rfl ?_
 refine at_wanted (j := 17) rfl ?_
 refine at_rowLen 2 rfl (fun hle2 _ => ?_)
 refine zV (ov_sliceTo rfl Tryz.underlying43 rfl rfl rfl (by first | assumption | omega) (by assumption)) ?_
 refine at_wanted (j := 17) rfl ?_
 refine zT (ot_call (ks := [2]) rfl rfl rfl Tryz.call18 rfl (hE ) rfl) ?_
 rintro v0 _ ⟨m0, hp0, rfl⟩
 obtain ⟨B3, hp0⟩ := hp0
 obtain ⟨e2, hp0⟩ := hp0
 obtain ⟨rfl, rfl⟩ := hp0
 simp only [zca, zna, splice, spliceL]
 refine zO 1 rfl ?_
 refine at_wanted (j := 17) rfl ?_
 refine zT (ot_call (ks := [8]) rfl rfl rfl Tryz.call18 rfl (T18 _ (by first | assumption | rfl | omega | decide | (simp; done) | (simp at *; omega))) rfl) ?_
 rintro v0 _ ⟨m0, hp0, rfl⟩
 obtain ⟨B4, hp0⟩ := hp0
 obtain ⟨e3, hp0⟩ := hp0
 obtain ⟨rfl, rfl⟩ := hp0
 simp only [zca, zna, splice, spliceL]
 refine at_wanted (j := 17) rfl ?_
 refine zcall [2, 0] rfl rfl rfl Tryz.call17 rfl (hS ) rfl ?_
 simp only [zca, zna, splice, spliceL]
 refine zOM [(7,_,_,_)] ⟨rfl,trivial⟩ [0] 10 rfl ?_
 refine zrF 91 rfl (by first | assumption | (rw [Bool.not_eq_false']; exact decide_eq_true (by omega))) ?_
 refine zOM [(7,_,_,_)] ⟨rfl,trivial⟩ [0] 5 rfl ?_
 refine at_wanted (j := 35) rfl ?_
 refine zV ((ov_conv_int rfl rfl Tryz.underlying27 rfl).eq (congrArg (Value.int .u64) (inK_u64 (by omega) (by omega)))) ?_
 refine zO 4 rfl ?_
 refine zcF rfl (by first | assumption | (rw [Bool.not_eq_false']; exact decide_eq_true (by omega))) ?_
 refine zC 11 rfl ?_
 have hdr : s'.lg.drop s.lg.length = ext := by rw [R.lg, List.drop_left]
 by_cases hx : ext = []
 ·have hq9 : decide ((s'.lg.length : Int) > s.lg.length) = false := by rw [hx] at hll; exact decide_eq_false (by simp at hll; omega)
  refine zrF 105 rfl (by first | assumption | (rw [Bool.not_eq_false']; exact decide_eq_true (by omega))) ?_
  refine zO 38 rfl ?_
  refine zV (ov_sliceFrom rfl Tryz.underlying43 rfl rfl rfl (by first | assumption | omega) (by assumption)) ?_
  refine zO 5 rfl ?_
  refine at_reval 137 (.int .i64 ext.length) rfl (by rw [hdr]) ?_
  refine at_reval 136 (.slice (dropA B2 e1 s.lg.length 2) ext.length (e1 - s.lg.length)) rfl (by rw [hdr]; rfl) ?_
  refine at_loopK [139, 140, 141, 15, 142, 143, 144, 145, 2, 146, 138] (fun i : Nat => i ≤ ext.length) (fun i => [(138, .int .i64 (i : Nat))]) (fun i q => q) (fun i => ext.length - i) 0 (Nat.zero_le _) ⟨rfl, trivial⟩ (fun _ s => s) ?_
  intro q hq
  rcases Nat.lt_or_ge q ext.length with hql | hqg
  ·have hl1 : decide ((q : Int) < ext.length) = true := decide_eq_true (by omega)
   obtain ⟨y, hgety⟩ : ∃ y, ext[q]? = some y := ⟨_, List.getElem?_eq_getElem hql⟩
   have hy := R.all y (List.mem_of_getElem? hgety)
   have hl2 : (!decide (y.1 = s.ep)) = false := by simp [hy]
   have hrx : ∀ w (l : List HP) (k : Nat), Sat w0 w l → nth k l = some (Row enE 73 2 B2 e1 s'.lg) → Rd enE w 2 (dropA B2 e1 s.lg.length 2) ext := fun w l k st hk => by rw [← hdr]; exact rd_dropA st hk s.lg.length
   refine zC 6 rfl ?_
   refine zcT rfl (decide_eq_true (by omega)) ?_
   refine zC 6 rfl ?_
   refine zV (ov_indexRd (fun w st => hrx w _ 3 st rfl) rfl Tryz.underlying43 rfl rfl rfl hgety) ?_
   refine zV (ov_loadRdS (vs := [_, _]) (fun w st => hrx w _ 3 st rfl) rfl rfl rfl hgety rfl rfl) ?_
   refine zA Tryz.zeroValue73 fun g3 => ?_
   refine zS 0 ?_
   simp only [setAt, splice, spliceL, Value.cells]
   refine zOM [(0,_,_,_)] ⟨rfl,trivial⟩ [0] 10 rfl ?_
   refine zcF rfl (by first | assumption | (rw [Bool.not_eq_false']; exact decide_eq_true (by omega))) ?_
   refine zC 4 rfl ?_
   refine zV zI ?_
   refine zOR 3 rfl ?_
   refine at_roundF (q + 1) hql (by omega) ⟨rfl, trivial⟩ rfl ?_
   exact zE [1, 1, 1, 1, 1, 1, 1, 1, 1, 1, 1] [0]
  have hl1 : decide ((q : Int) < ext.length) = false := decide_eq_false (by omega)
  by_cases he : x.ep = s.ep
  ·have u1 : (!decide (x.ep = s.ep)) = false := by simp [he]
   rcases Bool.eq_false_or_eq_true s.ld with hld | hld
   ·have v1 : s.ld = true := hld
    by_cases ht : (doL ss x).2.r.tx = []
    ·have w1 : decide (((doL ss x).2.r.tx.length : Int) > 0) = false := by rw [ht]; rfl
     refine zC 6 rfl ?_
     refine zcF rfl (decide_eq_false (by omega)) ?_
     refine zCM [(10,_,_,_)] ⟨rfl,trivial⟩ [0] 12 rfl ?_
     refine zrF 151 rfl (by first | assumption | (rw [Bool.not_eq_false']; exact decide_eq_true (by omega))) ?_
     refine zO 9 rfl ?_
     refine zrF 160 rfl (by simp [hlg, hi1, hid, hq1, hq2, his, hq3, hq4, hq5, hq6, hq7, hq8, hq9, hl1, u1, hld, v1, w1]; done) ?_
     refine zOM [(7,_,_,_)] ⟨rfl,trivial⟩ [0] 18 rfl ?_
     refine zrF 178 rfl (by first | assumption | (rw [Bool.not_eq_false']; exact decide_eq_true (by omega))) ?_
     refine zO 11 rfl ?_
     refine zV zI ?_
     refine zOR 3 rfl ?_
     refine at_fold (A := Many NodeA gs (doL ss x).1) [4, 5] rfl (fun h s => many_same hgi hsi' h s) ?_
     refine at_roundF (k + 1, (doL ss x).1) ⟨hlt, hd3, hdok⟩ (by simp only; omega) ⟨rfl, trivial⟩ rfl ?_
     simp only [setAt]
     exact zE [5, 6, 0] [0, 0, 0, 0, 0, 0, 0]
    ·have hp : 0 < (doL ss x).2.r.tx.length := List.length_pos_iff.2 ht
     have w1 : decide (((doL ss x).2.r.tx.length : Int) > 0) = true := decide_eq_true (by omega)
     have w2 : (!decide (is = 1)) = false := by rw [his]; simp [R.reads ht]
     refine zC 6 rfl ?_
     refine zcF rfl (decide_eq_false (by omega)) ?_
     refine zCM [(10,_,_,_)] ⟨rfl,trivial⟩ [0] 12 rfl ?_
     refine zrF 151 rfl (by first | assumption | (rw [Bool.not_eq_false']; exact decide_eq_true (by omega))) ?_
     refine zO 9 rfl ?_
     refine zrF 160 rfl (by simp [hlg, hi1, hid, hq1, hq2, his, hq3, hq4, hq5, hq6, hq7, hq8, hq9, hl1, u1, hld, v1, w1, w2]; done) ?_
     refine zOM [(7,_,_,_)] ⟨rfl,trivial⟩ [0] 18 rfl ?_
     refine zrT 178 rfl (decide_eq_true (by omega)) ?_
     refine zO 6 rfl ?_
     refine zcF rfl (by first | assumption | (rw [Bool.not_eq_false']; exact decide_eq_true (by omega))) ?_
     refine zC 4 rfl ?_
     refine zV zI ?_
     refine zOR 3 rfl ?_
     refine at_fold (A := Many NodeA gs (doL ss x).1) [4, 5] rfl (fun h s => many_same hgi hsi' h s) ?_
     refine at_roundF (k + 1, (doL ss x).1) ⟨hlt, hd3, hdok⟩ (by simp only; omega) ⟨rfl, trivial⟩ rfl ?_
     simp only [setAt]
     exact zE [5, 6, 0] [0, 0, 0, 0, 0, 0, 0]
   ·rcases Bool.eq_false_or_eq_true x.rd with hrd | hrd
    ·have v1 : s.ld = false := hld
     have v2 : x.rd = true := hrd
     by_cases ht : (doL ss x).2.r.tx = []
     ·have w1 : decide (((doL ss x).2.r.tx.length : Int) > 0) = false := by rw [ht]; rfl
      refine zC 6 rfl ?_
      refine zcF rfl (decide_eq_false (by omega)) ?_
      refine zCM [(10,_,_,_)] ⟨rfl,trivial⟩ [0] 12 rfl ?_
      refine zrF 151 rfl (by first | assumption | (rw [Bool.not_eq_false']; exact decide_eq_true (by omega))) ?_
      refine zO 9 rfl ?_
      refine zrT 160 rfl (by simp [hlg, hi1, hid, hq1, hq2, his, hq3, hq4, hq5, hq6, hq7, hq8, hq9, hl1, u1, hld, hrd, v1, v2, w1]; done) ?_
      refine zOM [(10,_,_,_)] ⟨rfl,trivial⟩ [0] 5 rfl ?_
      refine zrF 165 rfl (by simp [hlg, hi1, hid, hq1, hq2, his, hq3, hq4, hq5, hq6, hq7, hq8, hq9, hl1, u1, hld, hrd, v1, v2, w1]; done) ?_
      refine zOM [(7,_,_,_)] ⟨rfl,trivial⟩ [0] 13 rfl ?_
      refine zrF 178 rfl (by first | assumption | (rw [Bool.not_eq_false']; exact decide_eq_true (by omega))) ?_
      refine zO 11 rfl ?_
      refine zV zI ?_
      refine zOR 3 rfl ?_
      refine at_fold (A := Many NodeA gs (doL ss x).1) [4, 5] rfl (fun h s => many_same hgi hsi' h s) ?_
      refine at_roundF (k + 1, (doL ss x).1) ⟨hlt, hd3, hdok⟩ (by simp only; omega) ⟨rfl, trivial⟩ rfl ?_
      simp only [setAt]
      exact zE [5, 6, 0] [0, 0, 0, 0, 0, 0, 0]
     ·have hp : 0 < (doL ss x).2.r.tx.length := List.length_pos_iff.2 ht
      have w1 : decide (((doL ss x).2.r.tx.length : Int) > 0) = true := decide_eq_true (by omega)
      have w2 : (!decide (is = 1)) = false := by rw [his]; simp [R.reads ht]
      refine zC 6 rfl ?_
      refine zcF rfl (decide_eq_false (by omega)) ?_
      refine zCM [(10,_,_,_)] ⟨rfl,trivial⟩ [0] 12 rfl ?_
      refine zrF 151 rfl (by first | assumption | (rw [Bool.not_eq_false']; exact decide_eq_true (by omega))) ?_
      refine zO 9 rfl ?_
      refine zrT 160 rfl (by simp [hlg, hi1, hid, hq1, hq2, his, hq3, hq4, hq5, hq6, hq7, hq8, hq9, hl1, u1, hld, hrd, v1, v2, w1, w2]; done) ?_
      refine zOM [(10,_,_,_)] ⟨rfl,trivial⟩ [0] 5 rfl ?_
      refine zrF 165 rfl (by simp [hlg, hi1, hid, hq1, hq2, his, hq3, hq4, hq5, hq6, hq7, hq8, hq9, hl1, u1, hld, hrd, v1, v2, w1, w2]; done) ?_
      refine zOM [(7,_,_,_)] ⟨rfl,trivial⟩ [0] 13 rfl ?_
      refine zrT 178 rfl (decide_eq_true (by omega)) ?_
      refine zO 6 rfl ?_
      refine zcF rfl (by first | assumption | (rw [Bool.not_eq_false']; exact decide_eq_true (by omega))) ?_
      refine zC 4 rfl ?_
      refine zV zI ?_
      refine zOR 3 rfl ?_
      refine at_fold (A := Many NodeA gs (doL ss x).1) [4, 5] rfl (fun h s => many_same hgi hsi' h s) ?_
      refine at_roundF (k + 1, (doL ss x).1) ⟨hlt, hd3, hdok⟩ (by simp only; omega) ⟨rfl, trivial⟩ rfl ?_
      simp only [setAt]
      exact zE [5, 6, 0] [0, 0, 0, 0, 0, 0, 0]
    ·have v1 : s.ld = false := hld
     have v2 : x.rd = false := hrd
     have v3 : decide ((doL ss x).2.r.er = 0) = false := by simp [R.state hld hrd]
     by_cases ht : (doL ss x).2.r.tx = []
     ·have w1 : decide (((doL ss x).2.r.tx.length : Int) > 0) = false := by rw [ht]; rfl
      refine zC 6 rfl ?_
      refine zcF rfl (decide_eq_false (by omega)) ?_
      refine zCM [(10,_,_,_)] ⟨rfl,trivial⟩ [0] 12 rfl ?_
      refine zrF 151 rfl (by first | assumption | (rw [Bool.not_eq_false']; exact decide_eq_true (by omega))) ?_
      refine zO 9 rfl ?_
      refine zrT 160 rfl (by simp [hlg, hi1, hid, hq1, hq2, his, hq3, hq4, hq5, hq6, hq7, hq8, hq9, hl1, u1, hld, hrd, v1, v2, v3, w1]; done) ?_
      refine zOM [(10,_,_,_)] ⟨rfl,trivial⟩ [0] 5 rfl ?_
      refine zrT 165 rfl (by simp [hlg, hi1, hid, hq1, hq2, his, hq3, hq4, hq5, hq6, hq7, hq8, hq9, hl1, u1, hld, hrd, v1, v2, v3, w1]; done) ?_
      refine zOM [(7,_,_,_)] ⟨rfl,trivial⟩ [0] 7 rfl ?_
      refine zrF 172 rfl (by first | assumption | (rw [Bool.not_eq_false']; exact decide_eq_true (by omega))) ?_
      refine zOM [(7,_,_,_)] ⟨rfl,trivial⟩ [0] 6 rfl ?_
      refine zrF 178 rfl (by first | assumption | (rw [Bool.not_eq_false']; exact decide_eq_true (by omega))) ?_
      refine zO 11 rfl ?_
      refine zV zI ?_
      refine zOR 3 rfl ?_
      refine at_fold (A := Many NodeA gs (doL ss x).1) [4, 5] rfl (fun h s => many_same hgi hsi' h s) ?_
      refine at_roundF (k + 1, (doL ss x).1) ⟨hlt, hd3, hdok⟩ (by simp only; omega) ⟨rfl, trivial⟩ rfl ?_
      simp only [setAt]
      exact zE [5, 6, 0] [0, 0, 0, 0, 0, 0, 0]
     ·have hp : 0 < (doL ss x).2.r.tx.length := List.length_pos_iff.2 ht
      have w1 : decide (((doL ss x).2.r.tx.length : Int) > 0) = true := decide_eq_true (by omega)
      have w2 : (!decide (is = 1)) = false := by rw [his]; simp [R.reads ht]
      refine zC 6 rfl ?_
      refine zcF rfl (decide_eq_false (by omega)) ?_
      refine zCM [(10,_,_,_)] ⟨rfl,trivial⟩ [0] 12 rfl ?_
      refine zrF 151 rfl (by first | assumption | (rw [Bool.not_eq_false']; exact decide_eq_true (by omega))) ?_
      refine zO 9 rfl ?_
      refine zrT 160 rfl (by simp [hlg, hi1, hid, hq1, hq2, his, hq3, hq4, hq5, hq6, hq7, hq8, hq9, hl1, u1, hld, hrd, v1, v2, v3, w1, w2]; done) ?_
      refine zOM [(10,_,_,_)] ⟨rfl,trivial⟩ [0] 5 rfl ?_
      refine zrT 165 rfl (by simp [hlg, hi1, hid, hq1, hq2, his, hq3, hq4, hq5, hq6, hq7, hq8, hq9, hl1, u1, hld, hrd, v1, v2, v3, w1, w2]; done) ?_
      refine zOM [(7,_,_,_)] ⟨rfl,trivial⟩ [0] 7 rfl ?_
      refine zrF 172 rfl (by first | assumption | (rw [Bool.not_eq_false']; exact decide_eq_true (by omega))) ?_
      refine zOM [(7,_,_,_)] ⟨rfl,trivial⟩ [0] 6 rfl ?_
      refine zrT 178 rfl (decide_eq_true (by omega)) ?_
      refine zO 6 rfl ?_
      refine zcF rfl (by first | assumption | (rw [Bool.not_eq_false']; exact decide_eq_true (by omega))) ?_
      refine zC 4 rfl ?_
      refine zV zI ?_
      refine zOR 3 rfl ?_
      refine at_fold (A := Many NodeA gs (doL ss x).1) [4, 5] rfl (fun h s => many_same hgi hsi' h s) ?_
      refine at_roundF (k + 1, (doL ss x).1) ⟨hlt, hd3, hdok⟩ (by simp only; omega) ⟨rfl, trivial⟩ rfl ?_
      simp only [setAt]
      exact zE [5, 6, 0] [0, 0, 0, 0, 0, 0, 0]
  ·have u1 : (!decide (x.ep = s.ep)) = true := by simp [he]
   have u2 : (!decide ((doL ss x).2.r.er = 8)) = false := by simp [R.stale he]
   rcases Bool.eq_false_or_eq_true s.ld with hld | hld
   ·have v1 : s.ld = true := hld
    by_cases ht : (doL ss x).2.r.tx = []
    ·have w1 : decide (((doL ss x).2.r.tx.length : Int) > 0) = false := by rw [ht]; rfl
     refine zC 6 rfl ?_
     refine zcF rfl (decide_eq_false (by omega)) ?_
     refine zCM [(10,_,_,_)] ⟨rfl,trivial⟩ [0] 12 rfl ?_
     refine zrT 151 rfl (by first | assumption | (rw [Bool.not_eq_true']; exact decide_eq_false (by omega))) ?_
     refine zOM [(7,_,_,_)] ⟨rfl,trivial⟩ [0] 6 rfl ?_
     refine zrF 157 rfl (by first | assumption | (rw [Bool.not_eq_false']; exact decide_eq_true (by omega))) ?_
     refine zO 3 rfl ?_
     refine zrF 160 rfl (by simp [hlg, hi1, hid, hq1, hq2, his, hq3, hq4, hq5, hq6, hq7, hq8, hq9, hl1, u1, u2, hld, v1, w1]; done) ?_
     refine zOM [(7,_,_,_)] ⟨rfl,trivial⟩ [0] 18 rfl ?_
     refine zrF 178 rfl (by first | assumption | (rw [Bool.not_eq_false']; exact decide_eq_true (by omega))) ?_
     refine zO 11 rfl ?_
     refine zV zI ?_
     refine zOR 3 rfl ?_
     refine at_fold (A := Many NodeA gs (doL ss x).1) [4, 5] rfl (fun h s => many_same hgi hsi' h s) ?_
     refine at_roundF (k + 1, (doL ss x).1) ⟨hlt, hd3, hdok⟩ (by simp only; omega) ⟨rfl, trivial⟩ rfl ?_
     simp only [setAt]
     exact zE [5, 6, 0] [0, 0, 0, 0, 0, 0, 0]
    ·have hp : 0 < (doL ss x).2.r.tx.length := List.length_pos_iff.2 ht
     have w1 : decide (((doL ss x).2.r.tx.length : Int) > 0) = true := decide_eq_true (by omega)
     have w2 : (!decide (is = 1)) = false := by rw [his]; simp [R.reads ht]
     refine zC 6 rfl ?_
     refine zcF rfl (decide_eq_false (by omega)) ?_
     refine zCM [(10,_,_,_)] ⟨rfl,trivial⟩ [0] 12 rfl ?_
     refine zrT 151 rfl (by first | assumption | (rw [Bool.not_eq_true']; exact decide_eq_false (by omega))) ?_
     refine zOM [(7,_,_,_)] ⟨rfl,trivial⟩ [0] 6 rfl ?_
     refine zrF 157 rfl (by first | assumption | (rw [Bool.not_eq_false']; exact decide_eq_true (by omega))) ?_
     refine zO 3 rfl ?_
     refine zrF 160 rfl (by simp [hlg, hi1, hid, hq1, hq2, his, hq3, hq4, hq5, hq6, hq7, hq8, hq9, hl1, u1, u2, hld, v1, w1, w2]; done) ?_
     refine zOM [(7,_,_,_)] ⟨rfl,trivial⟩ [0] 18 rfl ?_
     refine zrT 178 rfl (decide_eq_true (by omega)) ?_
     refine zO 6 rfl ?_
     refine zcF rfl (by first | assumption | (rw [Bool.not_eq_false']; exact decide_eq_true (by omega))) ?_
     refine zC 4 rfl ?_
     refine zV zI ?_
     refine zOR 3 rfl ?_
     refine at_fold (A := Many NodeA gs (doL ss x).1) [4, 5] rfl (fun h s => many_same hgi hsi' h s) ?_
     refine at_roundF (k + 1, (doL ss x).1) ⟨hlt, hd3, hdok⟩ (by simp only; omega) ⟨rfl, trivial⟩ rfl ?_
     simp only [setAt]
     exact zE [5, 6, 0] [0, 0, 0, 0, 0, 0, 0]
   ·rcases Bool.eq_false_or_eq_true x.rd with hrd | hrd
    ·have v1 : s.ld = false := hld
     have v2 : x.rd = true := hrd
     by_cases ht : (doL ss x).2.r.tx = []
     ·have w1 : decide (((doL ss x).2.r.tx.length : Int) > 0) = false := by rw [ht]; rfl
      refine zC 6 rfl ?_
      refine zcF rfl (decide_eq_false (by omega)) ?_
      refine zCM [(10,_,_,_)] ⟨rfl,trivial⟩ [0] 12 rfl ?_
      refine zrT 151 rfl (by first | assumption | (rw [Bool.not_eq_true']; exact decide_eq_false (by omega))) ?_
      refine zOM [(7,_,_,_)] ⟨rfl,trivial⟩ [0] 6 rfl ?_
      refine zrF 157 rfl (by first | assumption | (rw [Bool.not_eq_false']; exact decide_eq_true (by omega))) ?_
      refine zO 3 rfl ?_
      refine zrT 160 rfl (by simp [hlg, hi1, hid, hq1, hq2, his, hq3, hq4, hq5, hq6, hq7, hq8, hq9, hl1, u1, u2, hld, hrd, v1, v2, w1]; done) ?_
      refine zOM [(10,_,_,_)] ⟨rfl,trivial⟩ [0] 5 rfl ?_
      refine zrF 165 rfl (by simp [hlg, hi1, hid, hq1, hq2, his, hq3, hq4, hq5, hq6, hq7, hq8, hq9, hl1, u1, u2, hld, hrd, v1, v2, w1]; done) ?_
      refine zOM [(7,_,_,_)] ⟨rfl,trivial⟩ [0] 13 rfl ?_
      refine zrF 178 rfl (by first | assumption | (rw [Bool.not_eq_false']; exact decide_eq_true (by omega))) ?_
      refine zO 11 rfl ?_
      refine zV zI ?_
      refine zOR 3 rfl ?_
      refine at_fold (A := Many NodeA gs (doL ss x).1) [4, 5] rfl (fun h s => many_same hgi hsi' h s) ?_
      refine at_roundF (k + 1, (doL ss x).1) ⟨hlt, hd3, hdok⟩ (by simp only; omega) ⟨rfl, trivial⟩ rfl ?_
      simp only [setAt]
      exact zE [5, 6, 0] [0, 0, 0, 0, 0, 0, 0]
     ·have hp : 0 < (doL ss x).2.r.tx.length := List.length_pos_iff.2 ht
      have w1 : decide (((doL ss x).2.r.tx.length : Int) > 0) = true := decide_eq_true (by omega)
      have w2 : (!decide (is = 1)) = false := by rw [his]; simp [R.reads ht]
      refine zC 6 rfl ?_
      refine zcF rfl (decide_eq_false (by omega)) ?_
      refine zCM [(10,_,_,_)] ⟨rfl,trivial⟩ [0] 12 rfl ?_
      refine zrT 151 rfl (by first | assumption | (rw [Bool.not_eq_true']; exact decide_eq_false (by omega))) ?_
      refine zOM [(7,_,_,_)] ⟨rfl,trivial⟩ [0] 6 rfl ?_
      refine zrF 157 rfl (by first | assumption | (rw [Bool.not_eq_false']; exact decide_eq_true (by omega))) ?_
      refine zO 3 rfl ?_
      refine zrT 160 rfl (by simp [hlg, hi1, hid, hq1, hq2, his, hq3, hq4, hq5, hq6, hq7, hq8, hq9, hl1, u1, u2, hld, hrd, v1, v2, w1, w2]; done) ?_
      refine zOM [(10,_,_,_)] ⟨rfl,trivial⟩ [0] 5 rfl ?_
      refine zrF 165 rfl (by simp [hlg, hi1, hid, hq1, hq2, his, hq3, hq4, hq5, hq6, hq7, hq8, hq9, hl1, u1, u2, hld, hrd, v1, v2, w1, w2]; done) ?_
      refine zOM [(7,_,_,_)] ⟨rfl,trivial⟩ [0] 13 rfl ?_
      refine zrT 178 rfl (decide_eq_true (by omega)) ?_
      refine zO 6 rfl ?_
      refine zcF rfl (by first | assumption | (rw [Bool.not_eq_false']; exact decide_eq_true (by omega))) ?_
      refine zC 4 rfl ?_
      refine zV zI ?_
      refine zOR 3 rfl ?_
      refine at_fold (A := Many NodeA gs (doL ss x).1) [4, 5] rfl (fun h s => many_same hgi hsi' h s) ?_
      refine at_roundF (k + 1, (doL ss x).1) ⟨hlt, hd3, hdok⟩ (by simp only; omega) ⟨rfl, trivial⟩ rfl ?_
      simp only [setAt]
      exact zE [5, 6, 0] [0, 0, 0, 0, 0, 0, 0]
    ·have v1 : s.ld = false := hld
     have v2 : x.rd = false := hrd
     have v3 : decide ((doL ss x).2.r.er = 0) = false := by simp [R.state hld hrd]
     by_cases ht : (doL ss x).2.r.tx = []
     ·have w1 : decide (((doL ss x).2.r.tx.length : Int) > 0) = false := by rw [ht]; rfl
      refine zC 6 rfl ?_
      refine zcF rfl (decide_eq_false (by omega)) ?_
      refine zCM [(10,_,_,_)] ⟨rfl,trivial⟩ [0] 12 rfl ?_
      refine zrT 151 rfl (by first | assumption | (rw [Bool.not_eq_true']; exact decide_eq_false (by omega))) ?_
      refine zOM [(7,_,_,_)] ⟨rfl,trivial⟩ [0] 6 rfl ?_
      refine zrF 157 rfl (by first | assumption | (rw [Bool.not_eq_false']; exact decide_eq_true (by omega))) ?_
      refine zO 3 rfl ?_
      refine zrT 160 rfl (by simp [hlg, hi1, hid, hq1, hq2, his, hq3, hq4, hq5, hq6, hq7, hq8, hq9, hl1, u1, u2, hld, hrd, v1, v2, v3, w1]; done) ?_
      refine zOM [(10,_,_,_)] ⟨rfl,trivial⟩ [0] 5 rfl ?_
      refine zrT 165 rfl (by simp [hlg, hi1, hid, hq1, hq2, his, hq3, hq4, hq5, hq6, hq7, hq8, hq9, hl1, u1, u2, hld, hrd, v1, v2, v3, w1]; done) ?_
      refine zOM [(7,_,_,_)] ⟨rfl,trivial⟩ [0] 7 rfl ?_
      refine zrF 172 rfl (by first | assumption | (rw [Bool.not_eq_false']; exact decide_eq_true (by omega))) ?_
      refine zOM [(7,_,_,_)] ⟨rfl,trivial⟩ [0] 6 rfl ?_
      refine zrF 178 rfl (by first | assumption | (rw [Bool.not_eq_false']; exact decide_eq_true (by omega))) ?_
      refine zO 11 rfl ?_
      refine zV zI ?_
      refine zOR 3 rfl ?_
      refine at_fold (A := Many NodeA gs (doL ss x).1) [4, 5] rfl (fun h s => many_same hgi hsi' h s) ?_
      refine at_roundF (k + 1, (doL ss x).1) ⟨hlt, hd3, hdok⟩ (by simp only; omega) ⟨rfl, trivial⟩ rfl ?_
      simp only [setAt]
      exact zE [5, 6, 0] [0, 0, 0, 0, 0, 0, 0]
     ·have hp : 0 < (doL ss x).2.r.tx.length := List.length_pos_iff.2 ht
      have w1 : decide (((doL ss x).2.r.tx.length : Int) > 0) = true := decide_eq_true (by omega)
      have w2 : (!decide (is = 1)) = false := by rw [his]; simp [R.reads ht]
      refine zC 6 rfl ?_
      refine zcF rfl (decide_eq_false (by omega)) ?_
      refine zCM [(10,_,_,_)] ⟨rfl,trivial⟩ [0] 12 rfl ?_
      refine zrT 151 rfl (by first | assumption | (rw [Bool.not_eq_true']; exact decide_eq_false (by omega))) ?_
      refine zOM [(7,_,_,_)] ⟨rfl,trivial⟩ [0] 6 rfl ?_
      refine zrF 157 rfl (by first | assumption | (rw [Bool.not_eq_false']; exact decide_eq_true (by omega))) ?_
      refine zO 3 rfl ?_
      refine zrT 160 rfl (by simp [hlg, hi1, hid, hq1, hq2, his, hq3, hq4, hq5, hq6, hq7, hq8, hq9, hl1, u1, u2, hld, hrd, v1, v2, v3, w1, w2]; done) ?_
      refine zOM [(10,_,_,_)] ⟨rfl,trivial⟩ [0] 5 rfl ?_
      refine zrT 165 rfl (by simp [hlg, hi1, hid, hq1, hq2, his, hq3, hq4, hq5, hq6, hq7, hq8, hq9, hl1, u1, u2, hld, hrd, v1, v2, v3, w1, w2]; done) ?_
      refine zOM [(7,_,_,_)] ⟨rfl,trivial⟩ [0] 7 rfl ?_
      refine zrF 172 rfl (by first | assumption | (rw [Bool.not_eq_false']; exact decide_eq_true (by omega))) ?_
      refine zOM [(7,_,_,_)] ⟨rfl,trivial⟩ [0] 6 rfl ?_
      refine zrT 178 rfl (decide_eq_true (by omega)) ?_
      refine zO 6 rfl ?_
      refine zcF rfl (by first | assumption | (rw [Bool.not_eq_false']; exact decide_eq_true (by omega))) ?_
      refine zC 4 rfl ?_
      refine zV zI ?_
      refine zOR 3 rfl ?_
      refine at_fold (A := Many NodeA gs (doL ss x).1) [4, 5] rfl (fun h s => many_same hgi hsi' h s) ?_
      refine at_roundF (k + 1, (doL ss x).1) ⟨hlt, hd3, hdok⟩ (by simp only; omega) ⟨rfl, trivial⟩ rfl ?_
      simp only [setAt]
      exact zE [5, 6, 0] [0, 0, 0, 0, 0, 0, 0]
 ·obtain ⟨c1, c2, c3, c4, c5, c6⟩ := R.laid hx
  have hpos : 0 < ext.length := List.length_pos_iff.2 hx
  have hq9 : decide ((s'.lg.length : Int) > s.lg.length) = true := decide_eq_true (by omega)
  have z1 : (!decide ((doL ss x).2.r.er = 0)) = false := by simp [c1]
  have z2 : (!decide (x.ep = s.ep)) = false := by simp [c2]
  have z3 : s.ld = true := c3
  have z4 : x.rd = false := c4
  have z5 : decide (is = 1) = false := by rw [his]; simp [c5]
  have z6 : decide (is = 0) = false := by rw [his]; simp [c6]
  have ht : (doL ss x).2.r.tx = [] := by
   by_cases h : (doL ss x).2.r.tx = []
   ·exact h
   ·exact absurd (R.reads h) c5
  have w1 : decide (((doL ss x).2.r.tx.length : Int) > 0) = false := by rw [ht]; rfl
  refine zrT 105 rfl (decide_eq_true (by omega)) ?_
  refine zOM [(7,_,_,_)] ⟨rfl,trivial⟩ [0] 5 rfl ?_
  refine zrF 110 rfl (by first | assumption | (rw [Bool.not_eq_false']; exact decide_eq_true (by omega))) ?_
  refine zOM [(10,_,_,_)] ⟨rfl,trivial⟩ [0] 6 rfl ?_
  refine zrF 116 rfl (by first | assumption | (rw [Bool.not_eq_false']; exact decide_eq_true (by omega))) ?_
  refine zO 4 rfl ?_
  refine zrF 120 rfl (by simp [hlg, hi1, hid, hq1, hq2, his, hq3, hq4, hq5, hq6, hq7, hq8, c3, c4, hq9, z1, z2, z3, z4, z5, z6, w1]; done) ?_
  refine zOM [(10,_,_,_)] ⟨rfl,trivial⟩ [0] 4 rfl ?_
  refine zrF 124 rfl (by first | assumption | (rw [Bool.not_eq_false']; exact decide_eq_true (by omega))) ?_
  refine zO 4 rfl ?_
  refine zrF 128 rfl (decide_eq_false (by omega)) ?_
  refine zO 6 rfl ?_
  refine zcF rfl (decide_eq_false (by omega)) ?_
  refine zC 8 rfl ?_
  refine zV (ov_sliceFrom rfl Tryz.underlying43 rfl rfl rfl (by first | assumption | omega) (by assumption)) ?_
  refine zO 5 rfl ?_
  refine at_reval 137 (.int .i64 ext.length) rfl (by rw [hdr]) ?_
  refine at_reval 136 (.slice (dropA B2 e1 s.lg.length 2) ext.length (e1 - s.lg.length)) rfl (by rw [hdr]; rfl) ?_
  refine at_loopK [139, 140, 141, 15, 142, 143, 144, 145, 2, 146, 138] (fun i : Nat => i ≤ ext.length) (fun i => [(138, .int .i64 (i : Nat))]) (fun i q => q) (fun i => ext.length - i) 0 (Nat.zero_le _) ⟨rfl, trivial⟩ (fun _ s => s) ?_
  intro q hq
  rcases Nat.lt_or_ge q ext.length with hql | hqg
  ·have hl1 : decide ((q : Int) < ext.length) = true := decide_eq_true (by omega)
   obtain ⟨y, hgety⟩ : ∃ y, ext[q]? = some y := ⟨_, List.getElem?_eq_getElem hql⟩
   have hy := R.all y (List.mem_of_getElem? hgety)
   have hl2 : (!decide (y.1 = s.ep)) = false := by simp [hy]
   have hrx : ∀ w (l : List HP) (k : Nat), Sat w0 w l → nth k l = some (Row enE 73 2 B2 e1 s'.lg) → Rd enE w 2 (dropA B2 e1 s.lg.length 2) ext := fun w l k st hk => by rw [← hdr]; exact rd_dropA st hk s.lg.length
   refine zC 6 rfl ?_
   refine zcT rfl (decide_eq_true (by omega)) ?_
   refine zC 6 rfl ?_
   refine zV (ov_indexRd (fun w st => hrx w _ 3 st rfl) rfl Tryz.underlying43 rfl rfl rfl hgety) ?_
   refine zV (ov_loadRdS (vs := [_, _]) (fun w st => hrx w _ 3 st rfl) rfl rfl rfl hgety rfl rfl) ?_
   refine zA Tryz.zeroValue73 fun g3 => ?_
   refine zS 0 ?_
   simp only [setAt, splice, spliceL, Value.cells]
   refine zOM [(0,_,_,_)] ⟨rfl,trivial⟩ [0] 10 rfl ?_
   refine zcF rfl (by first | assumption | (rw [Bool.not_eq_false']; exact decide_eq_true (by omega))) ?_
   refine zC 4 rfl ?_
   refine zV zI ?_
   refine zOR 3 rfl ?_
   refine at_roundF (q + 1) hql (by omega) ⟨rfl, trivial⟩ rfl ?_
   exact zE [1, 1, 1, 1, 1, 1, 1, 1, 1, 1, 1] [0]
  have hl1 : decide ((q : Int) < ext.length) = false := decide_eq_false (by omega)
  refine zC 6 rfl ?_
  refine zcF rfl (decide_eq_false (by omega)) ?_
  refine zCM [(10,_,_,_)] ⟨rfl,trivial⟩ [0] 12 rfl ?_
  refine zrF 151 rfl (by first | assumption | (rw [Bool.not_eq_false']; exact decide_eq_true (by omega))) ?_
  refine zO 9 rfl ?_
  refine zrF 160 rfl (by simp [hlg, hi1, hid, hq1, hq2, his, hq3, hq4, hq5, hq6, hq7, hq8, c3, c4, hq9, z1, z2, z3, z4, z5, z6, w1, hl1]; done) ?_
  refine zOM [(7,_,_,_)] ⟨rfl,trivial⟩ [0] 18 rfl ?_
  refine zrF 178 rfl (by first | assumption | (rw [Bool.not_eq_false']; exact decide_eq_true (by omega))) ?_
  refine zO 11 rfl ?_
  refine zV zI ?_
  refine zOR 3 rfl ?_
  refine at_fold (A := Many NodeA gs (doL ss x).1) [4, 5] rfl (fun h s => many_same hgi hsi' h s) ?_
  refine at_roundF (k + 1, (doL ss x).1) ⟨hlt, hd3, hdok⟩ (by simp only; omega) ⟨rfl, trivial⟩ rfl ?_
  simp only [setAt]
  exact zE [5, 6, 0] [0, 0, 0, 0, 0, 0, 0]
end Go.Proofs.YtighdkdomfpadaaGreatDoor
