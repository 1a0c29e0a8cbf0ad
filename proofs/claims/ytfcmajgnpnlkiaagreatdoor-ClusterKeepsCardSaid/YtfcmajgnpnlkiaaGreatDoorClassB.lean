/- Package class: boxes that functions hold; always and ends, read from them; the map of rules. -/
import Derived.Test.YtfcmajgnpnlkiaaGreatDoorProg
import Derived.Test.YtfcmajgnpnlkiaaGreatDoorClassA
import Derived.Test.YtfcmajgnpnlkiaaGreatDoorOnce
import Derived.Test.YtfcmajgnpnlkiaaGreatDoorSLB
import Derived.KernelRfl
set_option linter.unusedSimpArgs false
set_option linter.unusedVariables false
set_option maxRecDepth 100000
set_option maxHeartbeats 4000000
namespace Go.Proofs.YtfcmajgnpnlkiaaGreatDoor
open Go Go.Proofs.YtfcmajgnpnlkiaaGreatDoor.SL Go.RowKit
def Boxes (k : Int) (bs : List Nat) : HP := star (bs.map fun b => cl b #[.int .i64 k] 3)
theorem Boxes_cons {k : Int} {b : Nat} {bs : List Nat} (h : PH) (s : star [cl b #[.int .i64 k] 3, Boxes k bs] h) : Boxes k (b :: bs) h := by
  obtain ⟨h1, h2, hA, ⟨h3, h4, hB, _, _, l3, _⟩, hd, l1, l2⟩ := s;refine ⟨h1, h3, hA, hB, fun x => ?_, l1, l3.trans l2⟩
  rcases hd x with e | e
  · exact .inl e
  · refine .inr ?_
    cases h3x : h3 x with
    | none => rfl
    | some o => have := l3 x o h3x; rw [e] at this; cases this
theorem star_mem : ∀ {l : List HP} {A : HP} {h : PH}, A ∈ l → star l h → ∃ h1, A h1 ∧ Le h1 h
  | B :: l, A, h, hm, ⟨h1, h2, hB, hl, _, l1, l2⟩ => by
    rcases List.mem_cons.1 hm with rfl | hm
    · exact ⟨h1, hB, l1⟩
    · obtain ⟨h3, hA, l3⟩ := star_mem hm hl;exact ⟨h3, hA, l3.trans l2⟩
section
variable {P : Program} {w0 : World} {n : Nat} {ds : List Deferred} {env : Env} {l : List HP} {o : Oper}
theorem Sat.box {w : World} (s : Sat w0 w l) {j b : Nat} {k : Int} {bs : List Nat} (hk : nth j l = some (Boxes k bs)) (hb : b ∈ bs) : w.cell? ⟨b, 0, none⟩ = some (.int .i64 k) := by
  obtain ⟨h, hB, hw⟩ := SL.Sat.atom s hk;obtain ⟨h1, hA, hl⟩ := star_mem (List.mem_map.2 ⟨b, hb, rfl⟩) hB;have := (hw b _ (hl b _ hA)).2;simp [World.cell?, this]
theorem at_boxesNil {R : Act → World → Prop} (k : Int) (h : At w0 n ds R env (Boxes k [] :: l)) : At w0 n ds R env l :=
  fun a w f s => h a w f (s.imp fun h t => ⟨fun _ => none, h, trivial, t, fun _ => .inl rfl, (fun _ _ e => by cases e), Le.refl _⟩)
end
theorem T134a (w0 : World) (cv lv : Value) {b : Nat} {bs : List Nat} {k : Int} (hb : b ∈ bs) : Tri Tryz.prog w0 134 [cv, lv, ptrTo b] [Boxes k bs] fun v m => v = .int .i64 k ∧ m = [Boxes k bs] := by
 refine tri_k Tryz.func134 rfl rfl fun F => ?_;simp only [Tryz.ntmps134, argEnv, List.cons_append, List.nil_append];refine zH fun zq zQ => ?_;refine zC 7 rfl ?_;refine zV (ov_load rfl rfl (by rw [Tryz.underlying3]; rfl) (fun w s => Sat.box s (j := 0) rfl hb)) ?_;refine zO 4 rfl ?_;refine zQ ?_;refine at_end ?_;refine zfin ?_;refine ⟨_, ⟨rfl, rfl⟩, ?_⟩;exact zE [0] []
open Go Go.Proofs.YtfcmajgnpnlkiaaGreatDoor.SL Go.RowKit
abbrev CC (g : Nat) (dn mu sm : Int) (mv : Value) : HP := cl g #[.int .u32 dn, .int .i32 mu, .int .u32 sm, mv] 113
theorem T25 (w0 : World) : Tri Tryz.prog w0 25 [] [] fun v m => ∃ g, v = ptrTo g ∧ m = [CC g 0 0 0 (.map none)] := by
 refine tri_k Tryz.func25 rfl rfl fun F => ?_;simp only [Tryz.ntmps25, argEnv, List.nil_append];refine zH fun zq zQ => ?_;refine zC 7 rfl ?_;refine zV (ov_build (cs := [_, _, _, _]) rfl rfl rfl rfl) ?_;refine zT (ot_boxA rfl rfl) ?_;rintro _ _ ⟨g0, rfl, rfl⟩;refine zO 4 rfl ?_;refine zQ ?_;refine at_end ?_;refine zfin ?_;refine ⟨_, ⟨g0, rfl, rfl⟩, ?_⟩;exact zE [0] []
abbrev KS : TypeDesc := .string
open Go Go.Proofs.YtfcmajgnpnlkiaaGreatDoor.SL Go.RowKit
open Go Go.Proofs.YtfcmajgnpnlkiaaGreatDoor.SL Go.RowKit
theorem T62b (w0 : World) {A : Option Addr} {c c' : Nat} {l : List Tok} (hm : l.length ≤ 10000) : Tri Tryz.prog w0 62 [.slice A l.length c, .func (.func 47) #[] #[]] [Row tE 119 2 A c' l] fun v m => v = .int .i64 (firstB (fun t => decide (t.1 = 5)) l) ∧ m = [Row tE 119 2 A c' l] :=
  (Tri.of_all fun w st => T62a w (st.rd (k := 0) rfl) hm).post fun v m ⟨m', ⟨h1, h2⟩, h3⟩ => ⟨h1, by rw [h3, h2]; rfl⟩
theorem first_of {p : Tok → Bool} : ∀ {l : List Tok}, (¬ ∀ x ∈ l, p x = false) → ∃ i x, l[i]? = some x ∧ p x = true ∧ ∀ y ∈ l.take i, p y = false
  | [], h => absurd (fun x hx => by cases hx) h
  | a :: l, h => by
    cases ha : p a with
    | true => exact ⟨0, a, rfl, ha, fun y hy => by simp at hy⟩
    | false =>
      obtain ⟨i, y, h1, h2, h3⟩ := first_of (p := p) (l := l) (fun h2 => h fun x hx => by
        rcases List.mem_cons.1 hx with rfl | hx
        · exact ha
        · exact h2 x hx)
      refine ⟨i + 1, y, by simpa using h1, h2, fun z hz => ?_⟩;rw [List.take_succ_cons] at hz
      rcases List.mem_cons.1 hz with rfl | hz
      · exact ha
      · exact h3 z hz
theorem T46 (w0 : World) {A : Option Addr} {c : Nat} {l : List Tok} (hm : l.length ≤ 10000) : Tri Tryz.prog w0 46 [.slice A l.length c, .func (.func 47) #[] #[]] [Row tE 119 2 A c l] fun v m => v = .slice A (noHints l).length c ∧ m = [Row tE 119 2 A c (noHints l)] := by
 refine tri_k Tryz.func46 rfl rfl fun F => ?_;simp only [Tryz.ntmps46, argEnv, List.cons_append, List.nil_append];refine at_rowLen 0 rfl (fun hle hcm => ?_)
 by_cases hany : ∀ x ∈ l, decide (x.1 = 5) = false
 ·have hf := firstB_none hany;have hI := T62b w0 (A := A) (c := c) (c' := c) hm;rw [hf] at hI
  have e : noHints l = l := by
   unfold noHints
   rw [List.filter_eq_self];intro x hx;rw [hany x hx]; rfl
  rw [e];refine zH fun zq zQ => ?_;refine zC 9 rfl ?_;refine zcall [0] rfl rfl rfl Tryz.call62 rfl (hI ) rfl ?_;simp only [zca, zna, splice, spliceL];refine zO 19 rfl ?_;refine zQ ?_;refine at_end ?_;refine zfin ?_;refine ⟨_, ⟨rfl, rfl⟩, ?_⟩;exact zE [0] []
 ·obtain ⟨i0, x0, hx0, hi0, hbef⟩ := first_of (p := fun t : Tok => decide (t.1 = 5)) hany;have hil : i0 < l.length := (List.getElem?_eq_some_iff.1 hx0).1;have hf := firstB_at (p := fun t : Tok => decide (t.1 = 5)) hbef (fun x hx => by rw [hx0] at hx; cases hx; exact hi0) hil;have hI := T62b w0 (A := A) (c := c) (c' := c) hm;rw [hf] at hI;have hi1 : decide ((i0 : Int) = -1) = false := decide_eq_false (by omega)
  have hn0 : noHints (l.take i0) = l.take i0 := by
   unfold noHints
   rw [List.filter_eq_self];intro x hx;rw [hbef x hx]; rfl
  have h5 : x0.1 = 5 := of_decide_eq_true hi0;have hn1 := noHints_succ hx0;rw [if_pos h5, List.append_nil, hn0] at hn1;refine zH fun zq zQ => ?_;refine zC 9 rfl ?_;refine zcall [0] rfl rfl rfl Tryz.call62 rfl (hI ) rfl ?_;simp only [zca, zna, splice, spliceL];refine zO 17 rfl ?_;refine zV zI ?_;refine zO 4 rfl ?_;refine at_loopK [16, 17, 18, 19, 22, 23, 24, 25, 7, 26, 27, 28, 29, 30, 31, 32, 33, 34, 35, 5, 20, 21, 6, 0] (fun i : Nat × Nat × List Tok => i.1 < i.2.1 ∧ i.2.1 ≤ l.length ∧ i.2.2.length = l.length ∧ i.2.2.take i.1 = noHints (l.take i.2.1) ∧ i.2.2.drop i.2.1 = l.drop i.2.1) (fun i => [(5, .int .i64 (i.1 : Nat)), (6, .int .i64 (i.2.1 : Nat)), (0, .slice A i.2.2.length c)]) (fun i q => setAt 0 (Row tE 119 2 A c i.2.2) q) (fun i => l.length - i.2.1) (i0, i0 + 1, l) ⟨Nat.lt_succ_self _, hil, rfl, hn1.symm, rfl⟩ ⟨rfl, rfl, rfl, trivial⟩ (fun _ s => s) ?_;rintro ⟨i, j, r⟩ ⟨hij, hj, hrl, htk, hdr⟩;simp only [setAt] at hij hj hrl htk hdr ⊢
  rcases Nat.lt_or_ge j l.length with hlt | hge
  ·have hi2 : decide ((j : Int) < r.length) = true := decide_eq_true (by omega);obtain ⟨x, hget⟩ : ∃ x, l[j]? = some x := ⟨_, List.getElem?_eq_getElem hlt⟩
   have hgr : r[j]? = some x := by
    have := congrArg (·[0]?) hdr
    simpa [hget] using this
   obtain ⟨y, hgi⟩ : ∃ y, r[i]? = some y := ⟨_, List.getElem?_eq_getElem (by omega)⟩;have hms := noHints_succ hget;have hC := T47 w0 x;have hdr1 : r.drop (j + 1) = l.drop (j + 1) := by rw [← List.drop_drop, hdr, List.drop_drop]
   by_cases hx5 : x.1 = 5
   ·have hi3 : (!decide (x.1 = 5)) = false := by simp [hx5]
    rw [if_pos hx5, List.append_nil] at hms;refine zC 9 rfl ?_;refine zu ?_;refine zC 8 rfl ?_;refine zV (ov_indexRd (fun _ s => s.rd (k := 0) rfl) rfl Tryz.underlying114 rfl rfl rfl hgr) ?_;refine zV (ov_loadRdS (vs := [_, _]) (fun _ s => s.rd (k := 0) rfl) rfl rfl rfl hgr rfl rfl) ?_;refine zA Tryz.zeroValue119 fun g0 => ?_;refine zS 0 ?_;simp only [setAt, splice, spliceL, Value.cells];refine zOM [(0,_,_,_)] ⟨rfl,trivial⟩ [0] 6 rfl ?_;refine zcall [] rfl rfl rfl Tryz.call47 rfl (hC ) rfl ?_;simp only [zca, zna, splice, spliceL];refine zO 3 rfl ?_;refine zf ?_;refine zC 5 rfl ?_;refine zV zI ?_;refine zOR 3 rfl ?_;refine at_roundF (i, j + 1, r) ⟨by simp only; omega, by simp only; omega, hrl, by simp only; rw [htk, hms], hdr1⟩ (by simp only; omega) ⟨rfl, rfl, rfl, trivial⟩ rfl ?_;simp only [setAt];exact zE [1] [0]
   ·have hi3 : (!decide (x.1 = 5)) = true := by simp [hx5]
    rw [if_neg hx5] at hms;refine zC 9 rfl ?_;refine zu ?_;refine zC 8 rfl ?_;refine zV (ov_indexRd (fun _ s => s.rd (k := 0) rfl) rfl Tryz.underlying114 rfl rfl rfl hgr) ?_;refine zV (ov_loadRdS (vs := [_, _]) (fun _ s => s.rd (k := 0) rfl) rfl rfl rfl hgr rfl rfl) ?_;refine zA Tryz.zeroValue119 fun g0 => ?_;refine zS 0 ?_;simp only [setAt, splice, spliceL, Value.cells];refine zOM [(0,_,_,_)] ⟨rfl,trivial⟩ [0] 6 rfl ?_;refine zcall [] rfl rfl rfl Tryz.call47 rfl (hC ) rfl ?_;simp only [zca, zna, splice, spliceL];refine zO 3 rfl ?_;refine zt ?_;refine zCM [(0,_,_,_)] ⟨rfl,trivial⟩ [0] 5 rfl ?_;refine zV (ov_indexRd (fun _ s => s.rd (k := 1) rfl) rfl Tryz.underlying114 rfl rfl rfl hgi) ?_;refine zT0 (ot_storeRow0 (k := 1) rfl rfl rfl rfl hgi rfl (Nat.le_refl _) rfl rfl) ?_;rintro _ _ ⟨_, rfl⟩;simp only [setAt];refine zO 4 rfl ?_;refine zV zI ?_;refine zO 6 rfl ?_;refine zV zI ?_;refine zOR 3 rfl ?_;refine at_roundF (i + 1, j + 1, r.set i x) ⟨by simp only; omega, by simp only; omega, by simp only [List.length_set]; exact hrl, ?_, ?_⟩ (by simp only; omega) ⟨rfl, rfl, look_eq rfl (by simp only [List.length_set]), trivial⟩ rfl ?_
    ·simp only
     try rw [hms]
     try rw [← htk]
     try rw [List.take_add_one]
     try rw [List.take_set_of_le (Nat.le_refl _)]
     rw [List.getElem?_set_self (by omega)]; rfl
    ·simp only;rw [List.drop_set_of_lt (by omega)]; exact hdr1
    simp only [setAt];exact zE [1] [0]
  ·have hi2 : decide ((j : Int) < r.length) = false := decide_eq_false (by omega);have hle2 : r.length ≤ c := by omega
   have hir : i ≤ r.length := by omega
   rw [List.take_of_length_le hge] at htk;refine zC 9 rfl ?_;refine zg ?_;refine zC 9 rfl ?_;refine zV (ov_sliceFrom rfl Tryz.underlying114 rfl rfl rfl (by first | assumption | omega) (by assumption)) ?_;refine zT0 (ot_clearRow (k := 0) (i := i) (size := 2) rfl Tryz.underlying114 Tryz.zeroValue119 rfl rfl rfl rfl hir) ?_;rintro _ _ ⟨rfl, rfl⟩;simp only [setAt];refine zO 6 rfl ?_;refine zV (ov_sliceTo rfl Tryz.underlying114 rfl rfl rfl (by first | assumption | omega) (by assumption)) ?_;refine zO 4 rfl ?_;refine zQ ?_;refine at_end ?_;refine zfin ?_;refine ⟨[Row tE 119 2 A c (r.take i)], ⟨by rw [htk], by rw [htk]⟩, ?_⟩;exact zE [0] []
open Go Go.Proofs.YtfcmajgnpnlkiaaGreatDoor.SL Go.RowKit
def fnV (n : Nat) : Value := .func (.func n) #[] #[]
def capV (n b : Nat) : Value := .func (.func n) #[] #[ptrTo b]
def rulesL (b4 b5 : Nat) (bs1 bs2 : List Nat) : List (Value × Value) :=
  [(SV wEXPLAIN, fnV 91), (SV wBEGIN, fnV 92), (SV wSTART, fnV 93), (SV wCOMMIT, capV 133 b4), (SV wROLLBACK, capV 133 b5), (SV wSET, fnV 95)]
  ++ (List.zip readsW bs1).map (fun p => (SV p.1, capV 134 p.2)) ++ (List.zip changeW bs2).map (fun p => (SV p.1, capV 134 p.2)) ++ askW.map fun w => (SV w, fnV 97)
theorem SV_inj {a b : BL} (h : SV a = SV b) : a = b := by
  injection h with h
  have := congrArg (fun x : ByteArray => x.data.toList) h
  simpa using this
theorem zip_mem {w : BL} : ∀ {ws : List BL} {bs : List Nat}, ws.length ≤ bs.length → w ∈ ws → ∃ b ∈ bs, (w, b) ∈ List.zip ws bs
  | a :: ws, b :: bs, hl, hm => by
    rcases List.mem_cons.1 hm with rfl | hm
    · exact ⟨b, by simp, by simp⟩
    · obtain ⟨b', h1, h2⟩ := zip_mem (ws := ws) (bs := bs) (by simpa using hl) hm;exact ⟨b', by simp [h1], by simp [h2]⟩
  | a :: ws, [], hl, _ => by simp at hl
theorem rules_read {b4 b5 : Nat} {bs1 bs2 : List Nat} (hl : bs1.length = 3) {w : BL} (h : readsW.contains w = true) : ∃ b ∈ bs1, (SV w, capV 134 b) ∈ rulesL b4 b5 bs1 bs2 := by
  obtain ⟨b, h1, h2⟩ := zip_mem (ws := readsW) (bs := bs1) (by rw [hl]; decide) (by simpa using h);refine ⟨b, h1, ?_⟩
  unfold rulesL
  simp only [List.mem_append];exact .inl (.inl (.inr (List.mem_map.2 ⟨(w, b), h2, rfl⟩)))
theorem rules_change {b4 b5 : Nat} {bs1 bs2 : List Nat} (hl : bs2.length = 12) {w : BL} (h : changeW.contains w = true) : ∃ b ∈ bs2, (SV w, capV 134 b) ∈ rulesL b4 b5 bs1 bs2 := by
  obtain ⟨b, h1, h2⟩ := zip_mem (ws := changeW) (bs := bs2) (by rw [hl]; decide) (by simpa using h);refine ⟨b, h1, ?_⟩
  unfold rulesL
  simp only [List.mem_append];exact .inl (.inr (List.mem_map.2 ⟨(w, b), h2, rfl⟩))
theorem rules_ask {b4 b5 : Nat} {bs1 bs2 : List Nat} {w : BL} (h : askW.contains w = true) : (SV w, fnV 97) ∈ rulesL b4 b5 bs1 bs2 := by
  unfold rulesL
  simp only [List.mem_append];exact .inr (List.mem_map.2 ⟨w, by simpa using h, rfl⟩)
theorem rules_none {b4 b5 : Nat} {bs1 bs2 : List Nat} {w : BL} (h1 : readsW.contains w = false) (h2 : w ≠ wEXPLAIN) (h3 : changeW.contains w = false) (h4 : askW.contains w = false) (h5 : w ≠ wBEGIN) (h6 : w ≠ wSTART) (h7 : w ≠ wCOMMIT) (h8 : w ≠ wROLLBACK) (h9 : w ≠ wSET) :
    ∀ p ∈ rulesL b4 b5 bs1 bs2, p.1 ≠ SV w := by
  intro p hp e
  unfold rulesL at hp
  simp only [List.mem_append] at hp
  rcases hp with ((hp | hp) | hp) | hp
  · simp only [List.mem_cons, List.not_mem_nil, or_false] at hp
    rcases hp with rfl | rfl | rfl | rfl | rfl | rfl
    · exact h2 (SV_inj e).symm
    · exact h5 (SV_inj e).symm
    · exact h6 (SV_inj e).symm
    · exact h7 (SV_inj e).symm
    · exact h8 (SV_inj e).symm
    · exact h9 (SV_inj e).symm
  · obtain ⟨q, hq, rfl⟩ := List.mem_map.1 hp;have := SV_inj e;have hm : q.1 ∈ readsW := (List.of_mem_zip (a := q.1) (b := q.2) hq).1;rw [this] at hm;rw [List.contains_iff_mem.2 hm] at h1; cases h1
  · obtain ⟨q, hq, rfl⟩ := List.mem_map.1 hp;have := SV_inj e;have hm : q.1 ∈ changeW := (List.of_mem_zip (a := q.1) (b := q.2) hq).1;rw [this] at hm;rw [List.contains_iff_mem.2 hm] at h3; cases h3
  · obtain ⟨q, hq, rfl⟩ := List.mem_map.1 hp;have := SV_inj e;rw [this] at hq;rw [List.contains_iff_mem.2 hq] at h4; cases h4
open Go Go.Proofs.YtfcmajgnpnlkiaaGreatDoor.SL Go.RowKit
theorem T89 (w0 : World) {g b : Nat} {sm : Int} {mv : Value} : Tri Tryz.prog w0 89 [.pointer (some ⟨g, 0, none⟩), .func (.func 90) #[] #[ptrTo b]] [CC g 1 0 sm mv] fun v m => v = .tuple #[] ∧ m = [CC g 1 0 sm mv] := by
 refine tri_k Tryz.func89 rfl rfl fun F => ?_;simp only [Tryz.ntmps89, argEnv, List.cons_append, List.nil_append];refine zH fun zq zQ => ?_;refine zC 5 rfl ?_;refine zcall [0] rfl rfl rfl Tryz.call130 rfl (T130 _ (by first | assumption | rfl | omega | decide | (simp; done) | (simp at *; omega))) rfl ?_;simp only [zca, zna, splice, spliceL];refine zO 5 rfl ?_;refine zQ ?_;refine at_end ?_;refine at_fin (rs0 rfl) ?_;refine ⟨_, ⟨rfl, rfl⟩, ?_⟩;exact zE [0] []
open Go Go.Proofs.YtfcmajgnpnlkiaaGreatDoor.SL Go.RowKit
theorem T95a (w0 : World) (cv : Value) {A : Option Addr} {c c' : Nat} {l : List Tok} (hm : l.length ≤ 10000) : Tri Tryz.prog w0 95 [cv, .slice A l.length c] [Row tE 119 2 A c' l] fun v m => v = .int .i64 (setL l) ∧ m = [Row tE 119 2 A c' l] :=
  (Tri.of_all fun w s => T95 w cv (s.rd (k := 0) rfl) hm).post fun v m ⟨m', ⟨h1, h2⟩, h3⟩ => ⟨h1, by rw [h3, h2]; rfl⟩
theorem T92a (w0 : World) (cv : Value) {A : Option Addr} {c c' : Nat} {l : List Tok} (hm : l.length ≤ 10000) : Tri Tryz.prog w0 92 [cv, .slice A l.length c] [Row tE 119 2 A c' l] fun v m => v = .int .i64 (beginL l) ∧ m = [Row tE 119 2 A c' l] :=
  (Tri.of_all fun w s => T92 w cv (s.rd (k := 0) rfl) hm).post fun v m ⟨m', ⟨h1, h2⟩, h3⟩ => ⟨h1, by rw [h3, h2]; rfl⟩
theorem T93a (w0 : World) (cv : Value) {A : Option Addr} {c c' : Nat} {l : List Tok} (hm : l.length ≤ 10000) : Tri Tryz.prog w0 93 [cv, .slice A l.length c] [Row tE 119 2 A c' l] fun v m => v = .int .i64 (startL l) ∧ m = [Row tE 119 2 A c' l] :=
  (Tri.of_all fun w s => T93 w cv (s.rd (k := 0) rfl) hm).post fun v m ⟨m', ⟨h1, h2⟩, h3⟩ => ⟨h1, by rw [h3, h2]; rfl⟩
theorem T97a (w0 : World) (cv : Value) {A : Option Addr} {c c' : Nat} {l : List Tok} (hm : l.length ≤ 10000) : Tri Tryz.prog w0 97 [cv, .slice A l.length c] [Row tE 119 2 A c' l] fun v m => v = .int .i64 (asksL l) ∧ m = [Row tE 119 2 A c' l] :=
  (Tri.of_all fun w s => T97 w cv (s.rd (k := 0) rfl) hm).post fun v m ⟨m', ⟨h1, h2⟩, h3⟩ => ⟨h1, by rw [h3, h2]; rfl⟩
theorem T63a (w0 : World) {A : Option Addr} {c c' : Nat} {l : List Tok} (hm : l.length ≤ 10000) : Tri Tryz.prog w0 63 [.slice A l.length c, .func (.func 48) #[] #[]] [Row tE 119 2 A c' l] fun v m => v = .bool (l.any fun t => decide (t = signL)) ∧ m = [Row tE 119 2 A c' l] :=
  (Tri.of_all fun w s => T63 w (s.rd (k := 0) rfl) hm).post fun v m ⟨m', ⟨h1, h2⟩, h3⟩ => ⟨h1, by rw [h3, h2]; rfl⟩
theorem T132b (w0 : World) {A B : Option Addr} {c c' d d' : Nat} {l : List Tok} {ws : List BL} (hm : l.length ≤ 10000) (hm2 : ws.length ≤ 10000) (i : Nat) (hi : i ≤ 10000) : Tri Tryz.prog w0 132 [.slice A l.length c, .int .i64 (i : Nat), .slice B ws.length d] [Row tE 119 2 A c' l, Row bsE 9 1 B d' ws] fun v m => v = .bool (wordIn l i ws) ∧ m = [Row tE 119 2 A c' l, Row bsE 9 1 B d' ws] :=
  (Tri.of_all fun w s => T132 w (s.rd (k := 0) rfl) (s.rd (k := 1) rfl) hm hm2 i hi).post fun v m ⟨m', ⟨h1, h2⟩, h3⟩ => ⟨h1, by rw [h3, h2]; rfl⟩
def Cls (g : Nat) (sm : Int) : HP := fun h => ∃ mb b4 b5, ∃ bs1 bs2 : List Nat, ∃ kvs, (bs1.length = 3 ∧ bs2.length = 12 ∧ kvs.Perm (rulesL b4 b5 bs1 bs2)) ∧
  star [CC g 1 0 sm (.map (some mb)), MapA KS mb kvs, cl b4 #[.int .i64 4] 3, cl b5 #[.int .i64 5] 3, Boxes 1 bs1, Boxes 2 bs2] h
theorem at_cls {w0 : World} {n : Nat} {ds : List Deferred} {R : Act → World → Prop} {env : Env} {l : List HP} {g : Nat} {sm : Int}
    (k : ∀ (mb b4 b5 : Nat) (bs1 bs2 : List Nat) (kvs : List (Value × Value)), bs1.length = 3 → bs2.length = 12 → kvs.Perm (rulesL b4 b5 bs1 bs2) →
      At w0 n ds R env (CC g 1 0 sm (.map (some mb)) :: MapA KS mb kvs :: cl b4 #[.int .i64 4] 3 :: cl b5 #[.int .i64 5] 3 :: Boxes 1 bs1 :: Boxes 2 bs2 :: l)) : At w0 n ds R env (Cls g sm :: l) := fun a w f s => by
  obtain ⟨bel, h, ⟨p, q, ⟨mb, b4, b5, bs1, bs2, kvs, ⟨h1, h2, h3⟩, hs⟩, hq, hd, l1, l2⟩, kk⟩ := s;have s2 : Sat w0 w (star [CC g 1 0 sm (.map (some mb)), MapA KS mb kvs, cl b4 #[.int .i64 4] 3, cl b5 #[.int .i64 5] 3, Boxes 1 bs1, Boxes 2 bs2] :: l) := ⟨bel, h, ⟨p, q, hs, hq, hd, l1, l2⟩, kk⟩;exact k mb b4 b5 bs1 bs2 kvs h1 h2 h3 a w f s2.open_
end Go.Proofs.YtfcmajgnpnlkiaaGreatDoor
