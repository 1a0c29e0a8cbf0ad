/- Package lex, walked. -/
import Derived.Test.YtfcmajgnpnlkiaaGreatDoorProg
import Derived.Test.YtfcmajgnpnlkiaaGreatDoorLexLaw
import Derived.Test.YtfcmajgnpnlkiaaGreatDoorSLB
import Derived.KernelRfl
set_option linter.unusedSimpArgs false
set_option linter.unusedVariables false
set_option maxRecDepth 100000
namespace Go.Proofs.YtfcmajgnpnlkiaaGreatDoor
open Go Go.Proofs.YtfcmajgnpnlkiaaGreatDoor.SL Go.RowKit
theorem T86 (w0 : World) (c : UInt8) : Tri Tryz.prog w0 86 [.int .u8 (c.toNat : Int)] [] fun v m => v = .bool (digitB c) ∧ m = [] := by
 refine tri_k Tryz.func86 rfl rfl fun F => ?_;simp only [Tryz.ntmps86, argEnv, List.nil_append]
 by_cases h1 : 48 ≤ c.toNat
 ·have hi1 : decide ((c.toNat : Int) ≥ 48) = true := decide_eq_true (by omega);refine zH fun zq zQ => ?_;refine zC 10 rfl ?_;refine zru 5 ?_;refine zO 7 rfl ?_;refine zQ ?_;refine at_end ?_;refine zfin ?_;refine ⟨_, ⟨congrArg Value.bool (by simp [digitB, h1]; omega), rfl⟩, ?_⟩;exact zE [] []
 ·have hi1 : decide ((c.toNat : Int) ≥ 48) = false := decide_eq_false (by omega);refine zH fun zq zQ => ?_;refine zC 10 rfl ?_;refine zrg 5 ?_;refine zO 7 rfl ?_;refine zQ ?_;refine at_end ?_;refine zfin ?_;refine ⟨_, ⟨congrArg Value.bool (by simp [digitB, h1]), rfl⟩, ?_⟩;exact zE [] []
theorem T83 (w0 : World) (c : UInt8) : Tri Tryz.prog w0 83 [.int .u8 (c.toNat : Int)] [] fun v m => v = .bool (letterB c) ∧ m = [] := by
 refine tri_k Tryz.func83 rfl rfl fun F => ?_;simp only [Tryz.ntmps83, argEnv, List.nil_append]
 by_cases h1 : 65 ≤ c.toNat ∧ c.toNat ≤ 90
 ·have hi1 : decide ((c.toNat : Int) ≥ 65) = true := decide_eq_true (by omega);have hi2 : decide ((c.toNat : Int) ≤ 90) = true := decide_eq_true (by omega);refine zH fun zq zQ => ?_;refine zC 10 rfl ?_;refine zru 5 ?_;refine zO 4 rfl ?_;refine zru 9 ?_;refine zO 15 rfl ?_;refine zQ ?_;refine at_end ?_;refine zfin ?_;refine ⟨_, ⟨congrArg Value.bool (by simp [letterB, h1]), rfl⟩, ?_⟩;exact zE [] []
 by_cases h2 : 97 ≤ c.toNat ∧ c.toNat ≤ 122
 ·have hi1 : decide ((c.toNat : Int) ≥ 65) = true := decide_eq_true (by omega);have hi2 : decide ((c.toNat : Int) ≤ 90) = false := decide_eq_false (by omega);have hi3 : decide ((c.toNat : Int) ≥ 97) = true := decide_eq_true (by omega);have hi4 : decide ((c.toNat : Int) ≤ 122) = true := decide_eq_true (by omega);refine zH fun zq zQ => ?_;refine zC 10 rfl ?_;refine zru 5 ?_;refine zO 4 rfl ?_;refine zrg 9 ?_;refine zO 3 rfl ?_;refine zru 12 ?_;refine zO 5 rfl ?_;refine zru 17 ?_;refine zO 7 rfl ?_;refine zQ ?_;refine at_end ?_;refine zfin ?_;refine ⟨_, ⟨congrArg Value.bool (by simp [letterB, h2]), rfl⟩, ?_⟩;exact zE [] []
 have e : letterB c = decide ((c.toNat : Int) = 95) := by
  simp only [letterB];have g1 : (decide (65 ≤ c.toNat) && decide (c.toNat ≤ 90)) = false := by simp; omega
  have g2 : (decide (97 ≤ c.toNat) && decide (c.toNat ≤ 122)) = false := by simp; omega
  rw [g1, g2];simp only [Bool.false_or]
  congr 1
  exact propext ⟨fun h => by omega, fun h => by omega⟩
 rw [e]
 by_cases h3 : 97 ≤ c.toNat
 ·have hi1 : decide ((c.toNat : Int) ≥ 65) = true := decide_eq_true (by omega);have hi2 : decide ((c.toNat : Int) ≤ 90) = false := decide_eq_false (by omega);have hi3 : decide ((c.toNat : Int) ≥ 97) = true := decide_eq_true (by omega);have hi4 : decide ((c.toNat : Int) ≤ 122) = false := decide_eq_false (by omega);refine zH fun zq zQ => ?_;refine zC 10 rfl ?_;refine zru 5 ?_;refine zO 4 rfl ?_;refine zrg 9 ?_;refine zO 3 rfl ?_;refine zru 12 ?_;refine zO 5 rfl ?_;refine zrg 17 ?_;refine zO 7 rfl ?_;refine zQ ?_;refine at_end ?_;refine zfin ?_;refine ⟨_, ⟨rfl, rfl⟩, ?_⟩;exact zE [] []
 have hi3 : decide ((c.toNat : Int) ≥ 97) = false := decide_eq_false (by omega)
 by_cases h4 : 65 ≤ c.toNat
 ·have hi1 : decide ((c.toNat : Int) ≥ 65) = true := decide_eq_true (by omega);have hi2 : decide ((c.toNat : Int) ≤ 90) = false := decide_eq_false (by omega);refine zH fun zq zQ => ?_;refine zC 10 rfl ?_;refine zru 5 ?_;refine zO 4 rfl ?_;refine zrg 9 ?_;refine zO 3 rfl ?_;refine zrg 12 ?_;refine zO 12 rfl ?_;refine zQ ?_;refine at_end ?_;refine zfin ?_;refine ⟨_, ⟨rfl, rfl⟩, ?_⟩;exact zE [] []
 ·have hi1 : decide ((c.toNat : Int) ≥ 65) = false := decide_eq_false (by omega);refine zH fun zq zQ => ?_;refine zC 10 rfl ?_;refine zrg 5 ?_;refine zO 7 rfl ?_;refine zrg 12 ?_;refine zO 12 rfl ?_;refine zQ ?_;refine at_end ?_;refine zfin ?_;refine ⟨_, ⟨rfl, rfl⟩, ?_⟩;exact zE [] []
theorem T85 (w0 : World) (c : UInt8) : Tri Tryz.prog w0 85 [.int .u8 (c.toNat : Int)] [] fun v m => v = .bool (wordB c) ∧ m = [] := by
 refine tri_k Tryz.func85 rfl rfl fun F => ?_;simp only [Tryz.ntmps85, argEnv, List.nil_append]
 cases hl : letterB c with
 | true =>
  refine zH fun zq zQ => ?_;refine zC 8 rfl ?_;refine zcall [] rfl rfl rfl Tryz.call83 rfl (T83 _ _) rfl ?_;simp only [zca, zna, splice, spliceL];refine zO 1 rfl ?_;refine zrt 5 ?_;refine zO 7 rfl ?_;refine zQ ?_;refine at_end ?_;refine zfin ?_;refine ⟨_, ⟨by simp [wordB, hl], rfl⟩, ?_⟩;exact zE [] []
 | false =>
  refine zH fun zq zQ => ?_;refine zC 8 rfl ?_;refine zcall [] rfl rfl rfl Tryz.call83 rfl (T83 _ _) rfl ?_;simp only [zca, zna, splice, spliceL];refine zO 1 rfl ?_;refine zrf 5 ?_;refine zO 1 rfl ?_;refine at_wanted (j := 2) rfl ?_;refine zcall [] rfl rfl rfl Tryz.call86 rfl (T86 _ _) rfl ?_;simp only [zca, zna, splice, spliceL];refine zO 5 rfl ?_;refine zQ ?_;refine at_end ?_;refine zfin ?_;refine ⟨_, ⟨by simp [wordB, hl], rfl⟩, ?_⟩;exact zE [] []
theorem takeWhile_all {p : UInt8 → Bool} {l : BL} {k : Nat} (h : ∀ b ∈ l.take k, p b = true) (hk : k ≤ l.length) (hn : ∀ b, l[k]? = some b → p b = false) : l.takeWhile p = l.take k := by
  induction l generalizing k with
  | nil => simp
  | cons a l ih =>
    cases k with
    | zero =>
      have := hn a rfl;simp [this]
    | succ k =>
      have ha : p a = true := h a (by simp);rw [List.takeWhile_cons_of_pos ha, List.take_succ_cons];rw [ih (k := k) (fun b hb => h b (by simp [hb])) (by simpa using hk) (fun b hb => hn b (by simpa using hb))]
theorem take_all_succ {p : UInt8 → Bool} {l : BL} {k : Nat} {b : UInt8} (h : ∀ b ∈ l.take k, p b = true) (hb : l[k]? = some b) (hp : p b = true) : ∀ x ∈ l.take (k + 1), p x = true := by
  intro x hx;rw [List.take_add_one, hb] at hx;simp at hx
  rcases hx with hx | rfl
  · exact h x hx
  · exact hp
theorem run_walk (w0 : World) (g : Nat) (p : UInt8 → Bool) (l : BL) (hl : l.length ≤ 100000) (hcall : ∀ (args : Array Value) (w : World), (callFunc g args).run Tryz.prog w = .ok (.enter g args) w) (hp : ∀ c : UInt8, Tri Tryz.prog w0 g [.int .u8 (c.toNat : Int)] [] fun v m => v = .bool (p c) ∧ m = []) :
 Tri Tryz.prog w0 84 [SV l, .func (.func g) #[] #[]] [] fun v m => v = .int .i64 ((l.takeWhile p).length : Nat) ∧ m = [] := by
 refine tri_k Tryz.func84 rfl rfl fun F => ?_;simp only [Tryz.ntmps84, argEnv, List.nil_append];refine zH fun zq zQ => ?_;refine zC 12 rfl ?_;refine at_loopK [6, 7, 8, 9, 10, 11, 12, 13, 14, 15, 16, 17, 18, 5] (fun k => k ≤ l.length ∧ ∀ b ∈ l.take k, p b = true) (fun k => [(5, .int .i64 (k : Nat))]) (fun _ m => m) (fun k => l.length - k) 0 ⟨Nat.zero_le _, by simp⟩ ⟨rfl, trivial⟩ (fun _ s => s) ?_;rintro k ⟨hk, hb⟩
 rcases Nat.lt_or_ge k l.length with hlt | hge
 ·have hi1 : decide ((k : Int) < l.length) = true := decide_eq_true (by omega);obtain ⟨c, hc⟩ : ∃ c, l[k]? = some c := ⟨_, List.getElem?_eq_getElem hlt⟩;have hpc := hp c;refine zC 8 rfl ?_;refine zru 10 ?_;refine zO 3 rfl ?_;refine at_wanted (j := 4) rfl ?_;refine zV (ov_indexL rfl Tryz.underlying9 rfl rfl hc (by first | rfl | omega)) ?_;refine at_wanted (j := 4) rfl ?_;refine zT (ot_call (ks := []) rfl rfl rfl hcall rfl hpc rfl) ?_;rintro _ _ ⟨m, ⟨rfl, rfl⟩, rfl⟩
  cases hx : p c with
  | true =>
   refine zO 9 rfl ?_;refine zV zI ?_;refine zOR 4 rfl ?_;refine at_roundF (k + 1) ⟨hlt, take_all_succ hb hc hx⟩ (by omega) ⟨rfl, trivial⟩ rfl ?_;exact zE [] []
  | false =>
   have e : l.takeWhile p = l.take k := takeWhile_all hb hk (fun b h => by rw [hc] at h; cases h; exact hx);refine zO 16 rfl ?_;refine zQ ?_;refine at_end ?_;refine zfin ?_;refine ⟨_, ⟨by rw [e, List.length_take, Nat.min_eq_left hk], rfl⟩, ?_⟩;exact zE [] []
 ·have hi1 : decide ((k : Int) < l.length) = false := decide_eq_false (by omega);have e : l.takeWhile p = l.take k := takeWhile_all hb hk (fun b h => by have := (List.getElem?_eq_some_iff.1 h).1; omega);have hkl : k = l.length := by omega
  refine zC 8 rfl ?_;refine zrg 10 ?_;refine zO 21 rfl ?_;refine zQ ?_;refine at_end ?_;refine zfin ?_;refine ⟨_, ⟨by rw [e, List.length_take, Nat.min_eq_left hk], rfl⟩, ?_⟩;exact zE [] []
theorem T84 (w0 : World) (l : BL) (hl : l.length ≤ 100000) : Tri Tryz.prog w0 84 [SV l, .func (.func 85) #[] #[]] [] fun v m => v = .int .i64 ((l.takeWhile wordB).length : Nat) ∧ m = [] :=
  run_walk w0 85 wordB l hl Tryz.call85 (T85 w0)
theorem T84a (w0 : World) (l : BL) (hl : l.length ≤ 100000) : Tri Tryz.prog w0 84 [SV l, .func (.func 86) #[] #[]] [] fun v m => v = .int .i64 ((l.takeWhile digitB).length : Nat) ∧ m = [] :=
  run_walk w0 86 digitB l hl Tryz.call86 (T86 w0)
theorem great_int (c : UInt8) (h : c.toNat < 128) : ((greatB c).toNat : Int) = if 97 ≤ c.toNat ∧ c.toNat ≤ 122 then (c.toNat : Int) - 32 else c.toNat := by
  unfold greatB
  split
  · rename_i h1
    rw [UInt8.toNat_sub_of_le _ _ (by rw [UInt8.le_iff_toNat_le]; simp; omega)]
    simp; omega
  · rfl
theorem great_asc (c : UInt8) (h : c.toNat < 128) : (greatB c).toNat < 128 := by
  have := great_int c h
  split at this <;> omega
theorem T164 (w0 : World) {A : Option Addr} {c : Nat} {bs : BL} (x : UInt8) (hx : x.toNat < 128) (hb : bs.length ≤ 100000) : Tri Tryz.prog w0 164 [.slice A bs.length c, .int .i32 (x.toNat : Int)] [BufA 5 A c bs] fun v m => ∃ A' c', v = .slice A' (bs ++ [x]).length c' ∧ m = [BufA 5 A' c' (bs ++ [x])] := by
 refine tri_k Tryz.func164 rfl rfl fun F => ?_;simp only [Tryz.ntmps164, argEnv, List.cons_append, List.nil_append];have e8 : IntKind.u8.wrap (x.toNat : Int) = x.toNat := by simp [IntKind.wrap, IntKind.bits, IntKind.signed]; omega
 have e32 : IntKind.u32.wrap (x.toNat : Int) = x.toNat := by simp [IntKind.wrap, IntKind.bits, IntKind.signed]; omega
 have hi : decide (IntKind.u32.wrap (x.toNat : Int) ≤ 127) = true := by rw [e32]; exact decide_eq_true (by omega)
 refine zH fun zq zQ => ?_;refine zC 9 rfl ?_;refine zV (ov_conv_int rfl rfl Tryz.underlying102 rfl) ?_;refine zO 3 rfl ?_;refine zu ?_;refine zC 4 rfl ?_;refine zV (ov_conv_int rfl rfl Tryz.underlying5 rfl) ?_;refine zT (ot_buildSlice (cs := [_]) rfl Tryz.underlying213 rfl rfl rfl rfl rfl rfl) ?_;rintro _ _ ⟨g0, rfl, rfl⟩;simp only [e8];refine zT (ot_bufBytes (ys := [_]) (fun _ s => s.rdPt (k := 0) rfl (by simp only [List.map_cons, List.map_nil, List.flatten_cons, List.flatten_nil, List.append_nil]; rfl) (by simp [bE])) rfl Tryz.underlying213 (i := Tryz.t5) rfl rfl rfl rfl (k := 1) rfl rfl rfl (by simp) (by first | omega | (simp only [List.length_append, List.length_cons, List.length_nil, List.length_map]; omega))) ?_;rintro _ _ ⟨A0, c0, rfl, rfl⟩;simp only [setAt];refine zO 5 rfl ?_;refine zQ ?_;refine at_end ?_;refine zfin ?_;refine ⟨_, ⟨_, _, rfl, rfl⟩, ?_⟩;exact zE [1] [0]
theorem T127 (w0 : World) {b : Nat} {bs : BL} (x : UInt8) (hx : x.toNat < 128) (hb : bs.length ≤ 100000) : Tri Tryz.prog w0 127 [ptrTo b, .int .i32 (x.toNat : Int)] [Bld b bs] fun r m => ∃ r', r = r' ∧ m = [Bld b (bs ++ [x])] := by
 refine tri_k Tryz.func127 rfl rfl fun F => ?_;simp only [Tryz.ntmps127, argEnv, List.cons_append, List.nil_append];refine at_bld fun A c u => ?_;refine zH fun zq zQ => ?_;refine zC 9 rfl ?_;refine zcall [0] rfl rfl rfl Tryz.call163 rfl (T163b _) rfl ?_;simp only [zca, zna, splice, spliceL];refine zOM [(0,_,_,_)] ⟨rfl,trivial⟩ [0,0] 20 rfl ?_;refine zT (ot_call (ks := [1]) rfl rfl rfl Tryz.call164 rfl (T164 _ _ (by first | assumption | rfl | omega | decide | (simp; done) | (simp at *; omega)) (by first | assumption | rfl | omega | decide | (simp; done) | (simp at *; omega))) rfl) ?_;rintro v0 _ ⟨m0, hp0, rfl⟩;obtain ⟨A'0, hp0⟩ := hp0;obtain ⟨c'0, hp0⟩ := hp0;obtain ⟨rfl, rfl⟩ := hp0;simp only [zca, zna, splice, spliceL];refine zO 2 rfl ?_;refine zS 1 ?_;simp only [setAt, splice, spliceL, Value.cells];refine zOM [(1,_,_,_)] ⟨rfl,trivial⟩ [0] 16 rfl ?_;refine zQ ?_;refine at_end ?_;refine at_fold (A := Bld b (bs ++ [x])) [1, 0] rfl (fun h s => ⟨A'0, c'0, true, s⟩) ?_;refine at_fin (rsL (vs := [_, _]) rfl ⟨res_tmp rfl, res_tmp rfl, trivial⟩ rfl) ?_;refine ⟨_, ⟨_, rfl, rfl⟩, ?_⟩;exact zE [0] []
theorem T87 (w0 : World) (l : BL) (hl : l.length ≤ 10000) (ha : ∀ c ∈ l, c.toNat < 128) : Tri Tryz.prog w0 87 [SV l] [] fun v m => v = SV (greatL l) ∧ m = [] := by
 refine tri_k Tryz.func87 rfl rfl fun F => ?_;simp only [Tryz.ntmps87, argEnv, List.nil_append];refine zH fun zq zQ => ?_;refine zC 7 rfl ?_;refine zA Tryz.zeroValue215 fun g0 => ?_;refine zO 6 rfl ?_;refine zT (ot_rangeStr rfl Tryz.underlying9 rfl) ?_;rintro _ _ ⟨it0, rfl, rfl⟩;refine zO 3 rfl ?_;refine at_bufNil 5 ?_;refine at_fold (A := Bld g0 []) [2, 0] rfl (fun h s => ⟨none, 0, false, s⟩) ?_;refine at_loopK [8, 9, 10, 5, 11, 12, 13, 14, 15, 16, 17, 18, 19, 20] (fun k => k ≤ l.length) (fun _ => []) (fun k m => setAt 0 (Bld g0 (greatL (l.take k))) (setAt 1 (StrIt it0 l k) m)) (fun k => l.length - k) 0 (Nat.zero_le _) trivial (fun _ s => s) ?_;intro k hk;simp only [setAt]
 rcases Nat.lt_or_ge k l.length with hlt | hge
 ·obtain ⟨c, hc⟩ : ∃ c, l[k]? = some c := ⟨_, List.getElem?_eq_getElem hlt⟩;have hac := ha c (List.mem_of_getElem? hc);have hgl : greatL (l.take (k + 1)) = greatL (l.take k) ++ [greatB c] := by rw [List.take_add_one, hc]; simp [greatL]
  have hgi := great_int c hac;have hga := great_asc c hac;have hgn : (greatL (l.take k)).length ≤ 100000 := by simp [greatL]; omega
  have hW := T127 w0 (b := g0) (greatB c) hga hgn
  by_cases h1 : 97 ≤ c.toNat ∧ c.toNat ≤ 122
  ·rw [if_pos h1] at hgi;have hi1 : decide ((c.toNat : Int) ≥ 97) = true := decide_eq_true (by omega);have hi2 : decide ((c.toNat : Int) ≤ 122) = true := decide_eq_true (by omega);rw [hgi] at hW;have ew : IntKind.i32.wrap ((c.toNat : Int) + -32) = (c.toNat : Int) - 32 := by simp [IntKind.wrap, IntKind.bits, IntKind.signed]; omega
   refine zC 2 rfl ?_;refine zT (ot_nextStr (k := 1) rfl rfl rfl hc (by first | assumption | omega)) ?_;rintro _ _ ⟨rfl, rfl⟩;simp only [setAt];refine zO 20 rfl ?_;refine zru 13 ?_;refine zO 5 rfl ?_;refine zu ?_;refine zC 8 rfl ?_;simp only [ew];refine zT (ot_call (ks := [0]) rfl rfl rfl Tryz.call127 rfl (hW ) rfl) ?_;rintro v0 _ ⟨m0, hp0, rfl⟩;obtain ⟨r'0, hp0⟩ := hp0;obtain ⟨rfl, rfl⟩ := hp0;simp only [zca, zna, splice, spliceL];refine zOR 3 rfl ?_;refine at_roundF (k + 1) hlt (by omega) trivial rfl ?_;simp only [setAt, hgl];exact zE [0, 0] []
  ·rw [if_neg h1] at hgi;rw [hgi] at hW
   by_cases h2 : 97 ≤ c.toNat
   ·have hi1 : decide ((c.toNat : Int) ≥ 97) = true := decide_eq_true (by omega);have hi2 : decide ((c.toNat : Int) ≤ 122) = false := decide_eq_false (by omega);refine zC 2 rfl ?_;refine zT (ot_nextStr (k := 1) rfl rfl rfl hc (by first | assumption | omega)) ?_;rintro _ _ ⟨rfl, rfl⟩;simp only [setAt];refine zO 20 rfl ?_;refine zru 13 ?_;refine zO 5 rfl ?_;refine zg ?_;refine zC 4 rfl ?_;refine zT (ot_call (ks := [0]) rfl rfl rfl Tryz.call127 rfl (hW ) rfl) ?_;rintro v0 _ ⟨m0, hp0, rfl⟩;obtain ⟨r'0, hp0⟩ := hp0;obtain ⟨rfl, rfl⟩ := hp0;simp only [zca, zna, splice, spliceL];refine zOR 3 rfl ?_;refine at_roundF (k + 1) hlt (by omega) trivial rfl ?_;simp only [setAt, hgl];exact zE [0, 0] []
   ·have hi1 : decide ((c.toNat : Int) ≥ 97) = false := decide_eq_false (by omega);refine zC 2 rfl ?_;refine zT (ot_nextStr (k := 1) rfl rfl rfl hc (by first | assumption | omega)) ?_;rintro _ _ ⟨rfl, rfl⟩;simp only [setAt];refine zO 20 rfl ?_;refine zrg 13 ?_;refine zO 10 rfl ?_;refine zT (ot_call (ks := [0]) rfl rfl rfl Tryz.call127 rfl (hW ) rfl) ?_;rintro v0 _ ⟨m0, hp0, rfl⟩;obtain ⟨r'0, hp0⟩ := hp0;obtain ⟨rfl, rfl⟩ := hp0;simp only [zca, zna, splice, spliceL];refine zOR 3 rfl ?_;refine at_roundF (k + 1) hlt (by omega) trivial rfl ?_;simp only [setAt, hgl];exact zE [0, 0] []
 ·have hkl : k = l.length := by omega
  subst hkl
  try rw [List.take_length]
  refine zC 2 rfl ?_;refine zV (ov_nextEnd (k := 1) rfl rfl rfl) ?_;refine zO 12 rfl ?_;refine zT (ot_call (ks := [0]) rfl rfl rfl Tryz.call128 rfl (T128 _) rfl) ?_;rintro v0 _ ⟨m0, hp0, rfl⟩;obtain ⟨V0, hp0⟩ := hp0;obtain ⟨A0, hp0⟩ := hp0;obtain ⟨c0, hp0⟩ := hp0;obtain ⟨rfl, rfl⟩ := hp0;simp only [zca, zna, splice, spliceL];refine zO 4 rfl ?_;refine zQ ?_;refine at_end ?_;refine zfin ?_;refine ⟨_, ⟨rfl, rfl⟩, ?_⟩;exact zE [] [0, 0]
theorem quotL_hit {q : UInt8} {l : BL} {i : Nat} {c : UInt8} (h : l[i]? = some c) (hc : c ≠ q) : quotL q (l.drop i) = (quotL q (l.drop (i + 1))).map fun x => (c :: x.1, x.2 + 1) := by
  obtain ⟨h1, h2⟩ := List.getElem?_eq_some_iff.1 h;rw [List.drop_eq_getElem_cons h1, h2]
  conv => lhs; unfold quotL
  rw [if_neg hc]
theorem quotL_two {q : UInt8} {l : BL} {i : Nat} (h : l[i]? = some q) (h' : l[i + 1]? = some q) : quotL q (l.drop i) = (quotL q (l.drop (i + 2))).map fun x => (q :: x.1, x.2 + 2) := by
  obtain ⟨h1, h2⟩ := List.getElem?_eq_some_iff.1 h;obtain ⟨h3, h4⟩ := List.getElem?_eq_some_iff.1 h';rw [List.drop_eq_getElem_cons h1, h2, List.drop_eq_getElem_cons h3, h4]
  conv => lhs; unfold quotL
  simp
theorem quotL_end {q : UInt8} {l : BL} {i : Nat} (h : l[i]? = some q) (h' : ∀ d, l[i + 1]? = some d → d ≠ q) : quotL q (l.drop i) = some ([], 1) := by
  obtain ⟨h1, h2⟩ := List.getElem?_eq_some_iff.1 h;rw [List.drop_eq_getElem_cons h1, h2]
  unfold quotL
  rw [if_pos rfl]
  cases hd : l.drop (i + 1) with
  | nil => rfl
  | cons d r =>
    have : l[i + 1]? = some d := by
      have := congrArg (·[0]?) hd
      simpa [List.getElem?_drop] using this
    simp only;rw [if_neg (h' d this)]
def quotR (q : UInt8) (r : BL) : BL × Int := match quotL q r with | some (t, n) => (t, ((n + 1 : Nat) : Int)) | none => ([], -1)
def quotI (q : UInt8) (l : BL) (i : Nat) (acc : BL) : Option (BL × Nat) := (quotL q (l.drop i)).map fun x => (acc ++ x.1, x.2 + i)
theorem quotI_hit {q : UInt8} {l : BL} {i : Nat} {acc : BL} {c : UInt8} (h : l[i]? = some c) (hc : c ≠ q) : quotI q l i acc = quotI q l (i + 1) (acc ++ [c]) := by
  unfold quotI
  rw [quotL_hit h hc, Option.map_map]
  congr 1; funext x
  simp; omega
theorem quotI_two {q : UInt8} {l : BL} {i : Nat} {acc : BL} (h : l[i]? = some q) (h' : l[i + 1]? = some q) : quotI q l i acc = quotI q l (i + 2) (acc ++ [q]) := by
  unfold quotI
  rw [quotL_two h h', Option.map_map]
  congr 1; funext x
  simp; omega
theorem T88 (w0 : World) (q : UInt8) (r : BL) (hl : r.length ≤ 10000) : Tri Tryz.prog w0 88 [SV (q :: r)] [] fun v m => v = .tuple #[SV (quotR q r).1, .int .i64 (quotR q r).2] ∧ m = [] := by
 refine tri_k Tryz.func88 rfl rfl fun F => ?_;simp only [Tryz.ntmps88, argEnv, List.nil_append];obtain ⟨l, el⟩ : ∃ l, l = q :: r := ⟨_, rfl⟩;have h0 : l[0]? = some q := by rw [el]; rfl
 have hll : l.length = r.length + 1 := by rw [el]; simp
 have hq0 : quotR q r = match quotI q l 1 [] with | some x => (x.1, ((x.2 : Nat) : Int)) | none => ([], -1) := by
  unfold quotI quotR
  rw [el];simp only [List.drop_succ_cons, List.drop_zero]
  cases quotL q r <;> simp
 rw [← el];clear el;refine zH fun zq zQ => ?_;refine zC 8 rfl ?_;refine zA Tryz.zeroValue215 fun g0 => ?_;refine zO 5 rfl ?_;refine zV (ov_indexL rfl Tryz.underlying9 rfl rfl h0 (by first | rfl | omega)) ?_;refine zO 10 rfl ?_;refine at_bufNil 5 ?_;refine at_fold (A := Bld g0 []) [1, 0] rfl (fun h s => ⟨none, 0, false, s⟩) ?_;refine at_loopK [9, 10, 11, 12, 15, 16, 17, 18, 19, 20, 21, 22, 23, 24, 25, 26, 27, 28, 29, 30, 31, 32, 33, 34, 35, 36, 37, 38, 39, 2, 3, 40, 41, 42, 43, 6, 13, 14] (fun i : Nat × BL => 1 ≤ i.1 ∧ i.1 ≤ l.length ∧ i.2.length ≤ i.1 ∧ quotI q l 1 [] = quotI q l i.1 i.2) (fun i => [(6, .int .i64 (i.1 : Nat))]) (fun i m => setAt 0 (Bld g0 i.2) m) (fun i => l.length - i.1) (1, []) ⟨Nat.le_refl _, by simp only; omega, by simp, rfl⟩ ⟨rfl, trivial⟩ (fun _ s => s) ?_;rintro ⟨k, acc⟩ ⟨hk1, hk, hka, hqi⟩;simp only [setAt] at hk1 hk hka hqi ⊢
 rcases Nat.lt_or_ge k l.length with hlt | hge
 ·have hi1 : decide ((k : Int) < l.length) = true := decide_eq_true (by omega);obtain ⟨c, hc⟩ : ∃ c, l[k]? = some c := ⟨_, List.getElem?_eq_getElem hlt⟩
  by_cases hcq : c = q
  ·subst hcq;have hi2 : (!decide ((c.toNat : Int) = (c.toNat : Int))) = false := by simp
   rcases Nat.lt_or_ge (k + 1) l.length with hlt2 | hge2
   ·have hi3 : decide (((k : Int) + 1) = l.length) = false := decide_eq_false (by omega);obtain ⟨d, hd⟩ : ∃ d, l[k + 1]? = some d := ⟨_, List.getElem?_eq_getElem hlt2⟩
    by_cases hdq : d = c
    ·subst hdq;have hstep := quotI_two (acc := acc) hc hd;refine zC 9 rfl ?_;refine zu ?_;refine zC 9 rfl ?_;refine zV (ov_indexL rfl Tryz.underlying9 rfl rfl hc (by first | rfl | omega)) ?_;refine zO 4 rfl ?_;refine zf ?_;refine zC 6 rfl ?_;refine zV zI ?_;refine zO 4 rfl ?_;refine zrg 29 ?_;refine zO 2 rfl ?_;refine at_wanted (j := 5) rfl ?_;refine zV zI ?_;refine at_wanted (j := 5) rfl ?_;refine zV (ov_indexL rfl Tryz.underlying9 rfl rfl hd (by first | rfl | omega)) ?_;refine zO 5 rfl ?_;refine zf ?_;refine zC 5 rfl ?_;refine zT (ot_call (ks := [0]) rfl rfl rfl Tryz.call129 rfl (T129 _ _ (by first | assumption | rfl | omega | decide | (simp; done) | (simp at *; omega))) rfl) ?_;rintro v0 _ ⟨m0, hp0, rfl⟩;obtain ⟨r'0, hp0⟩ := hp0;obtain ⟨rfl, rfl⟩ := hp0;simp only [zca, zna, splice, spliceL];refine zO 4 rfl ?_;refine zV zI ?_;refine zO 6 rfl ?_;refine zV zI ?_;refine zOR 3 rfl ?_;refine at_roundF (k + 2, acc ++ [d]) ⟨by simp only; omega, by simp only; omega, by simp only [List.length_append, List.length_cons, List.length_nil]; omega, by rw [hqi]; exact hstep⟩ (by simp only; omega) ⟨look_eq rfl (congrArg (Value.int .i64) (by simp only; omega)), trivial⟩ rfl ?_;exact zE [0] []
    ·have hne : ¬ ((d.toNat : Int) = (c.toNat : Int)) := fun e => hdq (UInt8.toNat_inj.1 (by omega));have hi4 : (!decide ((d.toNat : Int) = (c.toNat : Int))) = true := by simp [hne]
     have hend : quotI c l k acc = some (acc, 1 + k) := by
      unfold quotI
      try rw [quotL_end hc (fun e he => by rw [hd] at he; cases he; exact hdq)]
      simp
     refine zC 9 rfl ?_;refine zu ?_;refine zC 9 rfl ?_;refine zV (ov_indexL rfl Tryz.underlying9 rfl rfl hc (by first | rfl | omega)) ?_;refine zO 4 rfl ?_;refine zf ?_;refine zC 6 rfl ?_;refine zV zI ?_;refine zO 4 rfl ?_;refine zrg 29 ?_;refine zO 2 rfl ?_;refine at_wanted (j := 5) rfl ?_;refine zV zI ?_;refine at_wanted (j := 5) rfl ?_;refine zV (ov_indexL rfl Tryz.underlying9 rfl rfl hd (by first | rfl | omega)) ?_;refine zO 5 rfl ?_;refine zt ?_;refine zC 2 rfl ?_;refine zT (ot_call (ks := [0]) rfl rfl rfl Tryz.call128 rfl (T128 _) rfl) ?_;rintro v0 _ ⟨m0, hp0, rfl⟩;obtain ⟨V0, hp0⟩ := hp0;obtain ⟨A0, hp0⟩ := hp0;obtain ⟨c0, hp0⟩ := hp0;obtain ⟨rfl, rfl⟩ := hp0;simp only [zca, zna, splice, spliceL];refine zO 1 rfl ?_;refine zV zI ?_;refine zO 11 rfl ?_;refine zQ ?_;refine at_end ?_;refine at_fin (rsL (vs := [_, _]) rfl ⟨res_tmp rfl, res_tmp rfl, trivial⟩ rfl) ?_;refine ⟨_, ⟨?_, rfl⟩, ?_⟩
     ·try rw [hq0]
      try rw [hqi]
      try rw [hend]
      simp only
      congr 3
      simp; omega
     exact zE [] [0]
   ·have hi3 : decide (((k : Int) + 1) = l.length) = true := decide_eq_true (by omega)
    have hend : quotI c l k acc = some (acc, 1 + k) := by
     unfold quotI
     try rw [quotL_end hc (fun e he => by have := (List.getElem?_eq_some_iff.1 he).1; omega)]
     simp
    refine zC 9 rfl ?_;refine zu ?_;refine zC 9 rfl ?_;refine zV (ov_indexL rfl Tryz.underlying9 rfl rfl hc (by first | rfl | omega)) ?_;refine zO 4 rfl ?_;refine zf ?_;refine zC 6 rfl ?_;refine zV zI ?_;refine zO 4 rfl ?_;refine zru 29 ?_;refine zO 12 rfl ?_;refine zT (ot_call (ks := [0]) rfl rfl rfl Tryz.call128 rfl (T128 _) rfl) ?_;rintro v0 _ ⟨m0, hp0, rfl⟩;obtain ⟨V0, hp0⟩ := hp0;obtain ⟨A0, hp0⟩ := hp0;obtain ⟨c0, hp0⟩ := hp0;obtain ⟨rfl, rfl⟩ := hp0;simp only [zca, zna, splice, spliceL];refine zO 1 rfl ?_;refine zV zI ?_;refine zO 11 rfl ?_;refine zQ ?_;refine at_end ?_;refine at_fin (rsL (vs := [_, _]) rfl ⟨res_tmp rfl, res_tmp rfl, trivial⟩ rfl) ?_;refine ⟨_, ⟨?_, rfl⟩, ?_⟩
    ·try rw [hq0]
     try rw [hqi]
     try rw [hend]
     simp only
     congr 3
     simp; omega
    exact zE [] [0]
  ·have hne : ¬ ((c.toNat : Int) = (q.toNat : Int)) := fun e => hcq (UInt8.toNat_inj.1 (by omega));have hi2 : (!decide ((c.toNat : Int) = (q.toNat : Int))) = true := by simp [hne]
   have hstep := quotI_hit (acc := acc) hc hcq;refine zC 9 rfl ?_;refine zu ?_;refine zC 9 rfl ?_;refine zV (ov_indexL rfl Tryz.underlying9 rfl rfl hc (by first | rfl | omega)) ?_;refine zO 4 rfl ?_;refine zt ?_;refine zC 4 rfl ?_;refine zV (ov_indexL rfl Tryz.underlying9 rfl rfl hc (by first | rfl | omega)) ?_;refine zT (ot_call (ks := [0]) rfl rfl rfl Tryz.call129 rfl (T129 _ _ (by first | assumption | rfl | omega | decide | (simp; done) | (simp at *; omega))) rfl) ?_;rintro v0 _ ⟨m0, hp0, rfl⟩;obtain ⟨r'0, hp0⟩ := hp0;obtain ⟨rfl, rfl⟩ := hp0;simp only [zca, zna, splice, spliceL];refine zO 8 rfl ?_;refine zV zI ?_;refine zOR 3 rfl ?_;refine at_roundF (k + 1, acc ++ [c]) ⟨by simp only; omega, by simp only; omega, by simp only [List.length_append, List.length_cons, List.length_nil]; omega, by rw [hqi]; exact hstep⟩ (by simp only; omega) ⟨look_eq rfl (congrArg (Value.int .i64) (by simp only; omega)), trivial⟩ rfl ?_;exact zE [0] []
 ·have hi1 : decide ((k : Int) < l.length) = false := decide_eq_false (by omega)
  have hend : quotI q l k acc = none := by
   unfold quotI
   try rw [List.drop_eq_nil_of_le hge]
   rfl
  refine zC 9 rfl ?_;refine zg ?_;refine zC 12 rfl ?_;refine zQ ?_;refine at_end ?_;refine at_fin (rsL (vs := [_, _]) rfl ⟨res_tmp rfl, res_tmp rfl, trivial⟩ rfl) ?_;refine ⟨_, ⟨?_, rfl⟩, ?_⟩
  ·try rw [hq0]
   try rw [hqi]
   try rw [hend]
  exact zE [] [0]
theorem T60 (w0 : World) (l : BL) (hl : l.length ≤ 10000) (hM : MaxL w0) : Tri Tryz.prog w0 60 [SV l] [] fun v m => v = .int .i64 (remarkL l) ∧ m = [] := by
 refine tri_k Tryz.func60 rfl rfl fun F => ?_;simp only [Tryz.ntmps60, argEnv, List.nil_append]
 unfold remarkL hintsL opensL closesL
 cases h1 : Lib.hasPrefix l [47, 42, 43] with
 | true =>
  refine zH fun zq zQ => ?_;refine zC 10 rfl ?_;refine zcall [] rfl rfl rfl Tryz.call79 rfl (T79 _ _ _) rfl ?_;simp only [zca, zna, splice, spliceL];refine zO 3 rfl ?_;refine zt ?_;refine zC 8 rfl ?_;refine zQ ?_;refine at_end ?_;refine zfin ?_;refine ⟨_, ⟨rfl, rfl⟩, ?_⟩;exact zE [] []
 | false =>
 cases h2 : Lib.hasPrefix l [47, 42] with
 | true =>
  have hle : 2 ≤ l.length := by simpa using (List.isPrefixOf_iff_prefix.1 h2).length_le
  have hdl : (l.drop 2).length ≤ 10000 := by rw [List.length_drop]; omega
  have hge := Lib.index_ge (l.drop 2) [42, 47]
  by_cases h3 : Lib.index (l.drop 2) [42, 47] < 0
  ·have hi3 : decide (Lib.index (l.drop 2) [42, 47] < 0) = true := decide_eq_true h3;refine zH fun zq zQ => ?_;refine zC 10 rfl ?_;refine zcall [] rfl rfl rfl Tryz.call79 rfl (T79 _ _ _) rfl ?_;simp only [zca, zna, splice, spliceL];refine zO 3 rfl ?_;refine zf ?_;refine zC 3 rfl ?_;refine zcall [] rfl rfl rfl Tryz.call79 rfl (T79 _ _ _) rfl ?_;simp only [zca, zna, splice, spliceL];refine zO 3 rfl ?_;refine zt ?_;refine zC 3 rfl ?_;refine zV (ov_sliceFromL (k := 2) rfl Tryz.underlying9 rfl rfl rfl (by first | assumption | omega | (simp only [zla, zlc, zln]; omega) | (simp; done) | (simp; omega))) ?_;refine zcall [] rfl rfl rfl Tryz.call80 rfl (T80 _ _ _ (by first | assumption | rfl | omega | decide | (simp; done) | (simp at *; omega)) (by first | assumption | rfl | omega | decide | (simp; done) | (simp at *; omega))) rfl ?_;simp only [zca, zna, splice, spliceL];refine zO 10 rfl ?_;refine zu ?_;refine zC 10 rfl ?_;refine zQ ?_;refine at_end ?_;refine zfin ?_;refine ⟨_, ⟨?_, rfl⟩, ?_⟩
   ·simp only [h3, if_true]
    congr 1
    simp; omega
   exact zE [] []
  ·have hi3 : decide (Lib.index (l.drop 2) [42, 47] < 0) = false := decide_eq_false h3;have hix := index_le (l.drop 2) [42, 47] (by omega);refine zH fun zq zQ => ?_;refine zC 10 rfl ?_;refine zcall [] rfl rfl rfl Tryz.call79 rfl (T79 _ _ _) rfl ?_;simp only [zca, zna, splice, spliceL];refine zO 3 rfl ?_;refine zf ?_;refine zC 3 rfl ?_;refine zcall [] rfl rfl rfl Tryz.call79 rfl (T79 _ _ _) rfl ?_;simp only [zca, zna, splice, spliceL];refine zO 3 rfl ?_;refine zt ?_;refine zC 3 rfl ?_;refine zV (ov_sliceFromL (k := 2) rfl Tryz.underlying9 rfl rfl rfl (by first | assumption | omega | (simp only [zla, zlc, zln]; omega) | (simp; done) | (simp; omega))) ?_;refine zcall [] rfl rfl rfl Tryz.call80 rfl (T80 _ _ _ (by first | assumption | rfl | omega | decide | (simp; done) | (simp at *; omega)) (by first | assumption | rfl | omega | decide | (simp; done) | (simp at *; omega))) rfl ?_;simp only [zca, zna, splice, spliceL];refine zO 10 rfl ?_;refine zg ?_;refine zC 5 rfl ?_;refine zV zI ?_;refine zV zI ?_;refine zO 6 rfl ?_;refine zQ ?_;refine at_end ?_;refine zfin ?_;refine ⟨_, ⟨?_, rfl⟩, ?_⟩
   ·simp [h3]; omega
   exact zE [] []
 | false =>
 have hIB : Tri Tryz.prog w0 59 [SV l, .int .u8 10] [] fun v m => v = .int .i64 (Lib.indexByte l 10) ∧ m = [] := T59 w0 l 10
 cases h3 : Lib.hasPrefix l [45, 45] with
 | true =>
  have hge := Lib.indexByte_ge l 10
  by_cases h4 : Lib.indexByte l 10 < 0
  ·have hi4 : decide (Lib.indexByte l 10 ≥ 0) = false := decide_eq_false (by omega);refine zH fun zq zQ => ?_;refine zC 10 rfl ?_;refine zcall [] rfl rfl rfl Tryz.call79 rfl (T79 _ _ _) rfl ?_;simp only [zca, zna, splice, spliceL];refine zO 3 rfl ?_;refine zf ?_;refine zC 3 rfl ?_;refine zcall [] rfl rfl rfl Tryz.call79 rfl (T79 _ _ _) rfl ?_;simp only [zca, zna, splice, spliceL];refine zO 3 rfl ?_;refine zf ?_;refine zC 3 rfl ?_;refine zcall [] rfl rfl rfl Tryz.call79 rfl (T79 _ _ _) rfl ?_;simp only [zca, zna, splice, spliceL];refine zO 1 rfl ?_;refine zrt 23 ?_;refine zO 11 rfl ?_;refine zcall [] rfl rfl rfl Tryz.call59 rfl (hIB ) rfl ?_;simp only [zca, zna, splice, spliceL];refine zO 9 rfl ?_;refine zg ?_;refine zC 12 rfl ?_;refine zQ ?_;refine at_end ?_;refine zfin ?_;refine ⟨_, ⟨by simp [h4], rfl⟩, ?_⟩;exact zE [] []
  ·have hi4 : decide (Lib.indexByte l 10 ≥ 0) = true := decide_eq_true (by omega);refine zH fun zq zQ => ?_;refine zC 10 rfl ?_;refine zcall [] rfl rfl rfl Tryz.call79 rfl (T79 _ _ _) rfl ?_;simp only [zca, zna, splice, spliceL];refine zO 3 rfl ?_;refine zf ?_;refine zC 3 rfl ?_;refine zcall [] rfl rfl rfl Tryz.call79 rfl (T79 _ _ _) rfl ?_;simp only [zca, zna, splice, spliceL];refine zO 3 rfl ?_;refine zf ?_;refine zC 3 rfl ?_;refine zcall [] rfl rfl rfl Tryz.call79 rfl (T79 _ _ _) rfl ?_;simp only [zca, zna, splice, spliceL];refine zO 1 rfl ?_;refine zrt 23 ?_;refine zO 11 rfl ?_;refine zcall [] rfl rfl rfl Tryz.call59 rfl (hIB ) rfl ?_;simp only [zca, zna, splice, spliceL];refine zO 9 rfl ?_;refine zu ?_;refine zC 10 rfl ?_;refine zQ ?_;refine at_end ?_;refine zfin ?_;refine ⟨_, ⟨by simp [h4], rfl⟩, ?_⟩;exact zE [] []
 | false =>
 cases h5 : Lib.hasPrefix l [35] with
 | true =>
  have hge := Lib.indexByte_ge l 10
  by_cases h4 : Lib.indexByte l 10 < 0
  ·have hi4 : decide (Lib.indexByte l 10 ≥ 0) = false := decide_eq_false (by omega);refine zH fun zq zQ => ?_;refine zC 10 rfl ?_;refine zcall [] rfl rfl rfl Tryz.call79 rfl (T79 _ _ _) rfl ?_;simp only [zca, zna, splice, spliceL];refine zO 3 rfl ?_;refine zf ?_;refine zC 3 rfl ?_;refine zcall [] rfl rfl rfl Tryz.call79 rfl (T79 _ _ _) rfl ?_;simp only [zca, zna, splice, spliceL];refine zO 3 rfl ?_;refine zf ?_;refine zC 3 rfl ?_;refine zcall [] rfl rfl rfl Tryz.call79 rfl (T79 _ _ _) rfl ?_;simp only [zca, zna, splice, spliceL];refine zO 1 rfl ?_;refine zrf 23 ?_;refine zO 1 rfl ?_;refine at_wanted (j := 2) rfl ?_;refine zcall [] rfl rfl rfl Tryz.call79 rfl (T79 _ _ _) rfl ?_;simp only [zca, zna, splice, spliceL];refine zO 4 rfl ?_;refine zt ?_;refine zC 4 rfl ?_;refine zcall [] rfl rfl rfl Tryz.call59 rfl (hIB ) rfl ?_;simp only [zca, zna, splice, spliceL];refine zO 9 rfl ?_;refine zg ?_;refine zC 12 rfl ?_;refine zQ ?_;refine at_end ?_;refine zfin ?_;refine ⟨_, ⟨by simp [h4], rfl⟩, ?_⟩;exact zE [] []
  ·have hi4 : decide (Lib.indexByte l 10 ≥ 0) = true := decide_eq_true (by omega);refine zH fun zq zQ => ?_;refine zC 10 rfl ?_;refine zcall [] rfl rfl rfl Tryz.call79 rfl (T79 _ _ _) rfl ?_;simp only [zca, zna, splice, spliceL];refine zO 3 rfl ?_;refine zf ?_;refine zC 3 rfl ?_;refine zcall [] rfl rfl rfl Tryz.call79 rfl (T79 _ _ _) rfl ?_;simp only [zca, zna, splice, spliceL];refine zO 3 rfl ?_;refine zf ?_;refine zC 3 rfl ?_;refine zcall [] rfl rfl rfl Tryz.call79 rfl (T79 _ _ _) rfl ?_;simp only [zca, zna, splice, spliceL];refine zO 1 rfl ?_;refine zrf 23 ?_;refine zO 1 rfl ?_;refine at_wanted (j := 2) rfl ?_;refine zcall [] rfl rfl rfl Tryz.call79 rfl (T79 _ _ _) rfl ?_;simp only [zca, zna, splice, spliceL];refine zO 4 rfl ?_;refine zt ?_;refine zC 4 rfl ?_;refine zcall [] rfl rfl rfl Tryz.call59 rfl (hIB ) rfl ?_;simp only [zca, zna, splice, spliceL];refine zO 9 rfl ?_;refine zu ?_;refine zC 10 rfl ?_;refine zQ ?_;refine at_end ?_;refine zfin ?_;refine ⟨_, ⟨by simp [h4], rfl⟩, ?_⟩;exact zE [] []
 | false =>
  refine zH fun zq zQ => ?_;refine zC 10 rfl ?_;refine zcall [] rfl rfl rfl Tryz.call79 rfl (T79 _ _ _) rfl ?_;simp only [zca, zna, splice, spliceL];refine zO 3 rfl ?_;refine zf ?_;refine zC 3 rfl ?_;refine zcall [] rfl rfl rfl Tryz.call79 rfl (T79 _ _ _) rfl ?_;simp only [zca, zna, splice, spliceL];refine zO 3 rfl ?_;refine zf ?_;refine zC 3 rfl ?_;refine zcall [] rfl rfl rfl Tryz.call79 rfl (T79 _ _ _) rfl ?_;simp only [zca, zna, splice, spliceL];refine zO 1 rfl ?_;refine zrf 23 ?_;refine zO 1 rfl ?_;refine at_wanted (j := 2) rfl ?_;refine zcall [] rfl rfl rfl Tryz.call79 rfl (T79 _ _ _) rfl ?_;simp only [zca, zna, splice, spliceL];refine zO 4 rfl ?_;refine zf ?_;refine zC 9 rfl ?_;refine zQ ?_;refine at_end ?_;refine zfin ?_;refine ⟨_, ⟨by simp, rfl⟩, ?_⟩;exact zE [] []
section
variable {l : BL} {c : UInt8} {r : BL} (el : l = c :: r)
include el
theorem oneL_hint (h1 : Lib.hasPrefix l [47, 42, 43] = true) : oneL l = if Lib.index (l.drop 3) [42, 47] < 0 then ((0, []), -1) else ((5, Lib.trimS ((l.drop 3).take (Lib.index (l.drop 3) [42, 47]).toNat) [32, 9, 10, 13]), 5 + Lib.index (l.drop 3) [42, 47]) := by
  subst el; unfold oneL; simp only; rw [if_pos (show Lib.hasPrefix (c :: r) hintsL = true from h1)]; rfl
theorem oneL_word (h1 : Lib.hasPrefix l [47, 42, 43] = false) (h2 : letterB c = true) : oneL l = ((1, greatL (l.takeWhile wordB)), (((l.takeWhile wordB).length : Nat) : Int)) := by
  subst el; unfold oneL; simp only; rw [if_neg (by rw [show Lib.hasPrefix (c :: r) hintsL = false from h1]; simp), if_pos h2]
theorem oneL_num (h1 : Lib.hasPrefix l [47, 42, 43] = false) (h2 : letterB c = false) (h3 : digitB c = true) : oneL l = ((4, l.takeWhile digitB), (((l.takeWhile digitB).length : Nat) : Int)) := by
  subst el; unfold oneL; simp only; rw [if_neg (by rw [show Lib.hasPrefix (c :: r) hintsL = false from h1]; simp), if_neg (by rw [h2]; simp), if_pos h3]
theorem oneL_str (h1 : Lib.hasPrefix l [47, 42, 43] = false) (h2 : letterB c = false) (h3 : digitB c = false) (h4 : c.toNat = 39) : oneL l = ((3, (quotR c r).1), (quotR c r).2) := by
  subst el; unfold oneL; simp only; rw [if_neg (by rw [show Lib.hasPrefix (c :: r) hintsL = false from h1]; simp), if_neg (by rw [h2]; simp), if_neg (by rw [h3]; simp), if_pos h4]
  unfold quotR; cases quotL c r <;> rfl
theorem oneL_name (h1 : Lib.hasPrefix l [47, 42, 43] = false) (h2 : letterB c = false) (h3 : digitB c = false) (h4 : ¬ c.toNat = 39) (h5 : c.toNat = 34 ∨ c.toNat = 96) : oneL l = ((2, (quotR c r).1), (quotR c r).2) := by
  subst el; unfold oneL; simp only; rw [if_neg (by rw [show Lib.hasPrefix (c :: r) hintsL = false from h1]; simp), if_neg (by rw [h2]; simp), if_neg (by rw [h3]; simp), if_neg h4, if_pos h5]
  unfold quotR; cases quotL c r <;> rfl
theorem oneL_sign (h1 : Lib.hasPrefix l [47, 42, 43] = false) (h2 : letterB c = false) (h3 : digitB c = false) (h4 : ¬ c.toNat = 39) (h5 : ¬ (c.toNat = 34 ∨ c.toNat = 96)) (h6 : 33 ≤ c.toNat ∧ c.toNat ≤ 126) : oneL l = ((6, [c]), 1) := by
  subst el; unfold oneL; simp only; rw [if_neg (by rw [show Lib.hasPrefix (c :: r) hintsL = false from h1]; simp), if_neg (by rw [h2]; simp), if_neg (by rw [h3]; simp), if_neg h4, if_neg h5, if_pos h6]
theorem oneL_none (h1 : Lib.hasPrefix l [47, 42, 43] = false) (h2 : letterB c = false) (h3 : digitB c = false) (h4 : ¬ c.toNat = 39) (h5 : ¬ (c.toNat = 34 ∨ c.toNat = 96)) (h6 : ¬ (33 ≤ c.toNat ∧ c.toNat ≤ 126)) : oneL l = ((0, []), -1) := by
  subst el; unfold oneL; simp only; rw [if_neg (by rw [show Lib.hasPrefix (c :: r) hintsL = false from h1]; simp), if_neg (by rw [h2]; simp), if_neg (by rw [h3]; simp), if_neg h4, if_neg h5, if_neg h6]
end
theorem letter_asc {c : UInt8} (h : letterB c = true) : c.toNat < 128 := by
  simp only [letterB, Bool.or_eq_true, Bool.and_eq_true, decide_eq_true_eq] at h; omega
theorem digit_asc {c : UInt8} (h : digitB c = true) : c.toNat < 128 := by
  simp only [digitB, Bool.and_eq_true, decide_eq_true_eq] at h; omega
theorem word_asc {c : UInt8} (h : wordB c = true) : c.toNat < 128 := by
  simp only [wordB, Bool.or_eq_true] at h
  rcases h with h | h
  · exact letter_asc h
  · exact digit_asc h
theorem take_takeWhile (p : UInt8 → Bool) (l : BL) : l.take (l.takeWhile p).length = l.takeWhile p := by
  have := List.takeWhile_prefix (p := p) (l := l);exact (List.prefix_iff_eq_take.1 this).symm
theorem asc_takeWhile (l : BL) : ∀ c ∈ l.takeWhile wordB, c.toNat < 128 := fun c hc => by
  have : wordB c = true := by
    have := List.all_takeWhile (p := wordB) (l := l);exact List.all_eq_true.1 this c hc
  exact word_asc this
theorem T61 (w0 : World) (c : UInt8) (r : BL) (hl : r.length ≤ 9999) (hM : MaxL w0) : Tri Tryz.prog w0 61 [SV (c :: r)] [] fun v m => v = .tuple #[.agg (tE (oneL (c :: r)).1).toArray, .int .i64 (oneL (c :: r)).2] ∧ m = [] := by
 refine tri_k Tryz.func61 rfl rfl fun F => ?_;simp only [Tryz.ntmps61, argEnv, List.nil_append];obtain ⟨l, el⟩ : ∃ l, l = c :: r := ⟨_, rfl⟩;have h0 : l[0]? = some c := by rw [el]; rfl
 have hll : l.length ≤ 10000 := by rw [el, List.length_cons]; omega
 have hl1 : 1 ≤ l.length := by rw [el, List.length_cons]; omega
 have hqt := T88 w0 c r (by omega);rw [← el] at hqt ⊢
 cases h1 : Lib.hasPrefix l [47, 42, 43] with
 | true =>
  have hle : 3 ≤ l.length := by simpa using (List.isPrefixOf_iff_prefix.1 h1).length_le
  have hdl : (l.drop 3).length ≤ 10000 := by rw [List.length_drop]; omega
  have hge := Lib.index_ge (l.drop 3) [42, 47]
  by_cases h3 : Lib.index (l.drop 3) [42, 47] < 0
  ·have hcut : Lib.cut (l.drop 3) [42, 47] = (l.drop 3, [], false) := by unfold Lib.cut; rw [if_neg (by omega)]
   have hC := T81 w0 (l.drop 3) [42, 47] hM (by omega);rw [hcut] at hC;refine zH fun zq zQ => ?_;refine zC 2 rfl ?_;refine zA Tryz.zeroValue119 fun g0 => ?_;refine zO 6 rfl ?_;refine zV (ov_indexL rfl Tryz.underlying9 rfl rfl h0 (by first | rfl | omega)) ?_;refine zO 8 rfl ?_;refine zcall [] rfl rfl rfl Tryz.call79 rfl (T79 _ _ _) rfl ?_;simp only [zca, zna, splice, spliceL];refine zO 3 rfl ?_;refine zt ?_;refine zC 3 rfl ?_;refine zV (ov_sliceFromL (k := 3) rfl Tryz.underlying9 rfl rfl rfl (by first | assumption | omega | (simp only [zla, zlc, zln]; omega) | (simp; done) | (simp; omega))) ?_;refine zcall [] rfl rfl rfl Tryz.call81 rfl (hC ) rfl ?_;simp only [zca, zna, splice, spliceL];refine zO 19 rfl ?_;refine zV (ov_build (cs := [_, _]) rfl rfl rfl rfl) ?_;refine zS 0 ?_;simp only [setAt, splice, spliceL, Value.cells];refine zO 7 rfl ?_;refine zQ ?_;refine at_end ?_;refine at_fin (rsL (vs := [_, _]) rfl ⟨res_cellS (k := 0) (vs := [_, _]) rfl rfl rfl rfl ⟨rfl, rfl, trivial⟩, res_tmp rfl, trivial⟩ rfl) ?_;refine ⟨_, ⟨by rw [oneL_hint el h1, if_pos h3]; rfl, rfl⟩, ?_⟩;exact zE [] [0]
  ·have hix := index_le (l.drop 3) [42, 47] (by omega)
   have hlt : ((l.drop 3).take (Lib.index (l.drop 3) [42, 47]).toNat).length = (Lib.index (l.drop 3) [42, 47]).toNat := by
    rw [List.length_take];exact Nat.min_eq_left (by simp only [List.length_cons, List.length_nil] at hix; omega)
   have hcut : Lib.cut (l.drop 3) [42, 47] = ((l.drop 3).take (Lib.index (l.drop 3) [42, 47]).toNat, (l.drop 3).drop ((Lib.index (l.drop 3) [42, 47]).toNat + 2), true) := by unfold Lib.cut; rw [if_pos (by omega)]; rfl
   have hC := T81 w0 (l.drop 3) [42, 47] hM (by omega);rw [hcut] at hC;have hbl : ([42, 47] : BL).length = 2 := rfl;refine zH fun zq zQ => ?_;refine zC 2 rfl ?_;refine zA Tryz.zeroValue119 fun g0 => ?_;refine zO 6 rfl ?_;refine zV (ov_indexL rfl Tryz.underlying9 rfl rfl h0 (by first | rfl | omega)) ?_;refine zO 8 rfl ?_;refine zcall [] rfl rfl rfl Tryz.call79 rfl (T79 _ _ _) rfl ?_;simp only [zca, zna, splice, spliceL];refine zO 3 rfl ?_;refine zt ?_;refine zC 3 rfl ?_;refine zV (ov_sliceFromL (k := 3) rfl Tryz.underlying9 rfl rfl rfl (by first | assumption | omega | (simp only [zla, zlc, zln]; omega) | (simp; done) | (simp; omega))) ?_;refine zcall [] rfl rfl rfl Tryz.call81 rfl (hC ) rfl ?_;simp only [zca, zna, splice, spliceL];refine zO 22 rfl ?_;refine zcall [] rfl rfl rfl Tryz.call82 rfl (T82 _ _ _ (by first | assumption | rfl | omega | decide | (simp; done) | (simp at *; omega)) (by first | assumption | rfl | omega | decide | (simp; done) | (simp at *; omega)) (by first | assumption | rfl | omega | decide | (simp; done) | (simp at *; omega))) rfl ?_;simp only [zca, zna, splice, spliceL];refine zV (ov_build (cs := [_, _]) rfl rfl rfl rfl) ?_;refine zO 2 rfl ?_;refine zV zI ?_;refine zV zI ?_;refine zS 0 ?_;simp only [setAt, splice, spliceL, Value.cells];refine zO 6 rfl ?_;refine zQ ?_;refine at_end ?_;refine at_fin (rsL (vs := [_, _]) rfl ⟨res_cellS (k := 0) (vs := [_, _]) rfl rfl rfl rfl ⟨rfl, rfl, trivial⟩, res_tmp rfl, trivial⟩ rfl) ?_;refine ⟨_, ⟨?_, rfl⟩, ?_⟩
   ·have e : (3 + (((l.drop 3).take (Lib.index (l.drop 3) [42, 47]).toNat).length : Int) + 2) = 5 + Lib.index (l.drop 3) [42, 47] := by rw [hlt]; omega
    rw [oneL_hint el h1, if_neg h3, ← e]; rfl
   exact zE [] [0]
 | false =>
 cases h2 : letterB c with
 | true =>
  have htw := takeWhile_le wordB l;have htk := take_takeWhile wordB l;have hG := T87 w0 (l.takeWhile wordB) (by omega) (asc_takeWhile l);rw [← htk] at hG;refine zH fun zq zQ => ?_;refine zC 2 rfl ?_;refine zA Tryz.zeroValue119 fun g0 => ?_;refine zO 6 rfl ?_;refine zV (ov_indexL rfl Tryz.underlying9 rfl rfl h0 (by first | rfl | omega)) ?_;refine zO 8 rfl ?_;refine zcall [] rfl rfl rfl Tryz.call79 rfl (T79 _ _ _) rfl ?_;simp only [zca, zna, splice, spliceL];refine zO 3 rfl ?_;refine zf ?_;refine zC 3 rfl ?_;refine zcall [] rfl rfl rfl Tryz.call83 rfl (T83 _ _) rfl ?_;simp only [zca, zna, splice, spliceL];refine zO 3 rfl ?_;refine zt ?_;refine zC 3 rfl ?_;refine zcall [] rfl rfl rfl Tryz.call84 rfl (T84 _ _ (by first | assumption | rfl | omega | decide | (simp; done) | (simp at *; omega))) rfl ?_;simp only [zca, zna, splice, spliceL];refine zO 7 rfl ?_;refine zV (ov_sliceToL rfl Tryz.underlying9 rfl rfl rfl (by first | assumption | omega | (simp only [zla, zlc, zln]; omega) | (simp; done) | (simp; omega))) ?_;refine zcall [] rfl rfl rfl Tryz.call87 rfl (hG ) rfl ?_;simp only [zca, zna, splice, spliceL];refine zV (ov_build (cs := [_, _]) rfl rfl rfl rfl) ?_;refine zO 1 rfl ?_;refine zS 0 ?_;simp only [setAt, splice, spliceL, Value.cells];refine zO 6 rfl ?_;refine zQ ?_;refine at_end ?_;refine at_fin (rsL (vs := [_, _]) rfl ⟨res_cellS (k := 0) (vs := [_, _]) rfl rfl rfl rfl ⟨rfl, rfl, trivial⟩, res_tmp rfl, trivial⟩ rfl) ?_;refine ⟨_, ⟨?_, rfl⟩, ?_⟩
  ·rw [oneL_word el h1 h2, htk]; rfl
  exact zE [] [0]
 | false =>
 cases h3 : digitB c with
 | true =>
  have htw := takeWhile_le digitB l;have htk := take_takeWhile digitB l;refine zH fun zq zQ => ?_;refine zC 2 rfl ?_;refine zA Tryz.zeroValue119 fun g0 => ?_;refine zO 6 rfl ?_;refine zV (ov_indexL rfl Tryz.underlying9 rfl rfl h0 (by first | rfl | omega)) ?_;refine zO 8 rfl ?_;refine zcall [] rfl rfl rfl Tryz.call79 rfl (T79 _ _ _) rfl ?_;simp only [zca, zna, splice, spliceL];refine zO 3 rfl ?_;refine zf ?_;refine zC 3 rfl ?_;refine zcall [] rfl rfl rfl Tryz.call83 rfl (T83 _ _) rfl ?_;simp only [zca, zna, splice, spliceL];refine zO 3 rfl ?_;refine zf ?_;refine zC 3 rfl ?_;refine zcall [] rfl rfl rfl Tryz.call86 rfl (T86 _ _) rfl ?_;simp only [zca, zna, splice, spliceL];refine zO 3 rfl ?_;refine zt ?_;refine zC 3 rfl ?_;refine zcall [] rfl rfl rfl Tryz.call84 rfl (T84a _ _ (by first | assumption | rfl | omega | decide | (simp; done) | (simp at *; omega))) rfl ?_;simp only [zca, zna, splice, spliceL];refine zO 7 rfl ?_;refine zV (ov_sliceToL rfl Tryz.underlying9 rfl rfl rfl (by first | assumption | omega | (simp only [zla, zlc, zln]; omega) | (simp; done) | (simp; omega))) ?_;refine zV (ov_build (cs := [_, _]) rfl rfl rfl rfl) ?_;refine zO 1 rfl ?_;refine zS 0 ?_;simp only [setAt, splice, spliceL, Value.cells];refine zO 6 rfl ?_;refine zQ ?_;refine at_end ?_;refine at_fin (rsL (vs := [_, _]) rfl ⟨res_cellS (k := 0) (vs := [_, _]) rfl rfl rfl rfl ⟨rfl, rfl, trivial⟩, res_tmp rfl, trivial⟩ rfl) ?_;refine ⟨_, ⟨?_, rfl⟩, ?_⟩
  ·rw [oneL_num el h1 h2 h3, htk]; rfl
  exact zE [] [0]
 | false =>
 by_cases h4 : c.toNat = 39
 ·have hi4 : decide ((c.toNat : Int) = 39) = true := decide_eq_true (by omega);refine zH fun zq zQ => ?_;refine zC 2 rfl ?_;refine zA Tryz.zeroValue119 fun g0 => ?_;refine zO 6 rfl ?_;refine zV (ov_indexL rfl Tryz.underlying9 rfl rfl h0 (by first | rfl | omega)) ?_;refine zO 8 rfl ?_;refine zcall [] rfl rfl rfl Tryz.call79 rfl (T79 _ _ _) rfl ?_;simp only [zca, zna, splice, spliceL];refine zO 3 rfl ?_;refine zf ?_;refine zC 3 rfl ?_;refine zcall [] rfl rfl rfl Tryz.call83 rfl (T83 _ _) rfl ?_;simp only [zca, zna, splice, spliceL];refine zO 3 rfl ?_;refine zf ?_;refine zC 3 rfl ?_;refine zcall [] rfl rfl rfl Tryz.call86 rfl (T86 _ _) rfl ?_;simp only [zca, zna, splice, spliceL];refine zO 3 rfl ?_;refine zf ?_;refine zC 7 rfl ?_;refine zu ?_;refine zC 3 rfl ?_;refine zcall [] rfl rfl rfl Tryz.call88 rfl (hqt ) rfl ?_;simp only [zca, zna, splice, spliceL];refine zO 10 rfl ?_;refine zV (ov_build (cs := [_, _]) rfl rfl rfl rfl) ?_;refine zO 1 rfl ?_;refine zS 0 ?_;simp only [setAt, splice, spliceL, Value.cells];refine zO 6 rfl ?_;refine zQ ?_;refine at_end ?_;refine at_fin (rsL (vs := [_, _]) rfl ⟨res_cellS (k := 0) (vs := [_, _]) rfl rfl rfl rfl ⟨rfl, rfl, trivial⟩, res_tmp rfl, trivial⟩ rfl) ?_;refine ⟨_, ⟨?_, rfl⟩, ?_⟩
  ·rw [oneL_str el h1 h2 h3 h4]; rfl
  exact zE [] [0]
 have hi4 : decide ((c.toNat : Int) = 39) = false := decide_eq_false (by omega)
 by_cases h5 : c.toNat = 34
 ·have hi5 : decide ((c.toNat : Int) = 34) = true := decide_eq_true (by omega);refine zH fun zq zQ => ?_;refine zC 2 rfl ?_;refine zA Tryz.zeroValue119 fun g0 => ?_;refine zO 6 rfl ?_;refine zV (ov_indexL rfl Tryz.underlying9 rfl rfl h0 (by first | rfl | omega)) ?_;refine zO 8 rfl ?_;refine zcall [] rfl rfl rfl Tryz.call79 rfl (T79 _ _ _) rfl ?_;simp only [zca, zna, splice, spliceL];refine zO 3 rfl ?_;refine zf ?_;refine zC 3 rfl ?_;refine zcall [] rfl rfl rfl Tryz.call83 rfl (T83 _ _) rfl ?_;simp only [zca, zna, splice, spliceL];refine zO 3 rfl ?_;refine zf ?_;refine zC 3 rfl ?_;refine zcall [] rfl rfl rfl Tryz.call86 rfl (T86 _ _) rfl ?_;simp only [zca, zna, splice, spliceL];refine zO 3 rfl ?_;refine zf ?_;refine zC 7 rfl ?_;refine zg ?_;refine zC 5 rfl ?_;refine zru 71 ?_;refine zO 10 rfl ?_;refine zcall [] rfl rfl rfl Tryz.call88 rfl (hqt ) rfl ?_;simp only [zca, zna, splice, spliceL];refine zO 10 rfl ?_;refine zV (ov_build (cs := [_, _]) rfl rfl rfl rfl) ?_;refine zO 1 rfl ?_;refine zS 0 ?_;simp only [setAt, splice, spliceL, Value.cells];refine zO 6 rfl ?_;refine zQ ?_;refine at_end ?_;refine at_fin (rsL (vs := [_, _]) rfl ⟨res_cellS (k := 0) (vs := [_, _]) rfl rfl rfl rfl ⟨rfl, rfl, trivial⟩, res_tmp rfl, trivial⟩ rfl) ?_;refine ⟨_, ⟨?_, rfl⟩, ?_⟩
  ·rw [oneL_name el h1 h2 h3 h4 (.inl h5)]; rfl
  exact zE [] [0]
 have hi5 : decide ((c.toNat : Int) = 34) = false := decide_eq_false (by omega)
 by_cases h6 : c.toNat = 96
 ·have hi6 : decide ((c.toNat : Int) = 96) = true := decide_eq_true (by omega);refine zH fun zq zQ => ?_;refine zC 2 rfl ?_;refine zA Tryz.zeroValue119 fun g0 => ?_;refine zO 6 rfl ?_;refine zV (ov_indexL rfl Tryz.underlying9 rfl rfl h0 (by first | rfl | omega)) ?_;refine zO 8 rfl ?_;refine zcall [] rfl rfl rfl Tryz.call79 rfl (T79 _ _ _) rfl ?_;simp only [zca, zna, splice, spliceL];refine zO 3 rfl ?_;refine zf ?_;refine zC 3 rfl ?_;refine zcall [] rfl rfl rfl Tryz.call83 rfl (T83 _ _) rfl ?_;simp only [zca, zna, splice, spliceL];refine zO 3 rfl ?_;refine zf ?_;refine zC 3 rfl ?_;refine zcall [] rfl rfl rfl Tryz.call86 rfl (T86 _ _) rfl ?_;simp only [zca, zna, splice, spliceL];refine zO 3 rfl ?_;refine zf ?_;refine zC 7 rfl ?_;refine zg ?_;refine zC 5 rfl ?_;refine zrg 71 ?_;refine zO 6 rfl ?_;refine zu ?_;refine zC 3 rfl ?_;refine zcall [] rfl rfl rfl Tryz.call88 rfl (hqt ) rfl ?_;simp only [zca, zna, splice, spliceL];refine zO 10 rfl ?_;refine zV (ov_build (cs := [_, _]) rfl rfl rfl rfl) ?_;refine zO 1 rfl ?_;refine zS 0 ?_;simp only [setAt, splice, spliceL, Value.cells];refine zO 6 rfl ?_;refine zQ ?_;refine at_end ?_;refine at_fin (rsL (vs := [_, _]) rfl ⟨res_cellS (k := 0) (vs := [_, _]) rfl rfl rfl rfl ⟨rfl, rfl, trivial⟩, res_tmp rfl, trivial⟩ rfl) ?_;refine ⟨_, ⟨?_, rfl⟩, ?_⟩
  ·rw [oneL_name el h1 h2 h3 h4 (.inr h6)]; rfl
  exact zE [] [0]
 have hi6 : decide ((c.toNat : Int) = 96) = false := decide_eq_false (by omega);have h56 : ¬ (c.toNat = 34 ∨ c.toNat = 96) := by omega
 by_cases h7 : 33 ≤ c.toNat
 ·have hi7 : decide ((c.toNat : Int) ≥ 33) = true := decide_eq_true (by omega)
  by_cases h8 : c.toNat ≤ 126
  ·have hi8 : decide ((c.toNat : Int) ≤ 126) = true := decide_eq_true (by omega);refine zH fun zq zQ => ?_;refine zC 2 rfl ?_;refine zA Tryz.zeroValue119 fun g0 => ?_;refine zO 6 rfl ?_;refine zV (ov_indexL rfl Tryz.underlying9 rfl rfl h0 (by first | rfl | omega)) ?_;refine zO 8 rfl ?_;refine zcall [] rfl rfl rfl Tryz.call79 rfl (T79 _ _ _) rfl ?_;simp only [zca, zna, splice, spliceL];refine zO 3 rfl ?_;refine zf ?_;refine zC 3 rfl ?_;refine zcall [] rfl rfl rfl Tryz.call83 rfl (T83 _ _) rfl ?_;simp only [zca, zna, splice, spliceL];refine zO 3 rfl ?_;refine zf ?_;refine zC 3 rfl ?_;refine zcall [] rfl rfl rfl Tryz.call86 rfl (T86 _ _) rfl ?_;simp only [zca, zna, splice, spliceL];refine zO 3 rfl ?_;refine zf ?_;refine zC 7 rfl ?_;refine zg ?_;refine zC 5 rfl ?_;refine zrg 71 ?_;refine zO 6 rfl ?_;refine zg ?_;refine zC 5 rfl ?_;refine zru 86 ?_;refine zO 6 rfl ?_;refine zu ?_;refine zC 3 rfl ?_;refine zV (ov_sliceToL (k := 1) rfl Tryz.underlying9 rfl rfl rfl (by first | assumption | omega | (simp only [zla, zlc, zln]; omega) | (simp; done) | (simp; omega))) ?_;refine zV (ov_build (cs := [_, _]) rfl rfl rfl rfl) ?_;refine zS 0 ?_;simp only [setAt, splice, spliceL, Value.cells];refine zO 6 rfl ?_;refine zQ ?_;refine at_end ?_;refine at_fin (rsL (vs := [_, _]) rfl ⟨res_cellS (k := 0) (vs := [_, _]) rfl rfl rfl rfl ⟨rfl, rfl, trivial⟩, res_tmp rfl, trivial⟩ rfl) ?_;refine ⟨_, ⟨?_, rfl⟩, ?_⟩
   ·rw [oneL_sign el h1 h2 h3 h4 h56 ⟨h7, h8⟩, el]; rfl
   exact zE [] [0]
  ·have hi8 : decide ((c.toNat : Int) ≤ 126) = false := decide_eq_false (by omega);refine zH fun zq zQ => ?_;refine zC 2 rfl ?_;refine zA Tryz.zeroValue119 fun g0 => ?_;refine zO 6 rfl ?_;refine zV (ov_indexL rfl Tryz.underlying9 rfl rfl h0 (by first | rfl | omega)) ?_;refine zO 8 rfl ?_;refine zcall [] rfl rfl rfl Tryz.call79 rfl (T79 _ _ _) rfl ?_;simp only [zca, zna, splice, spliceL];refine zO 3 rfl ?_;refine zf ?_;refine zC 3 rfl ?_;refine zcall [] rfl rfl rfl Tryz.call83 rfl (T83 _ _) rfl ?_;simp only [zca, zna, splice, spliceL];refine zO 3 rfl ?_;refine zf ?_;refine zC 3 rfl ?_;refine zcall [] rfl rfl rfl Tryz.call86 rfl (T86 _ _) rfl ?_;simp only [zca, zna, splice, spliceL];refine zO 3 rfl ?_;refine zf ?_;refine zC 7 rfl ?_;refine zg ?_;refine zC 5 rfl ?_;refine zrg 71 ?_;refine zO 6 rfl ?_;refine zg ?_;refine zC 5 rfl ?_;refine zru 86 ?_;refine zO 6 rfl ?_;refine zg ?_;refine zC 5 rfl ?_;refine zV (ov_build (cs := [_, _]) rfl rfl rfl rfl) ?_;refine zS 0 ?_;simp only [setAt, splice, spliceL, Value.cells];refine zO 4 rfl ?_;refine zQ ?_;refine at_end ?_;refine at_fin (rsL (vs := [_, _]) rfl ⟨res_cellS (k := 0) (vs := [_, _]) rfl rfl rfl rfl ⟨rfl, rfl, trivial⟩, res_tmp rfl, trivial⟩ rfl) ?_;refine ⟨_, ⟨?_, rfl⟩, ?_⟩
   ·rw [oneL_none el h1 h2 h3 h4 h56 (by omega)]; rfl
   exact zE [] [0]
 ·have hi7 : decide ((c.toNat : Int) ≥ 33) = false := decide_eq_false (by omega);refine zH fun zq zQ => ?_;refine zC 2 rfl ?_;refine zA Tryz.zeroValue119 fun g0 => ?_;refine zO 6 rfl ?_;refine zV (ov_indexL rfl Tryz.underlying9 rfl rfl h0 (by first | rfl | omega)) ?_;refine zO 8 rfl ?_;refine zcall [] rfl rfl rfl Tryz.call79 rfl (T79 _ _ _) rfl ?_;simp only [zca, zna, splice, spliceL];refine zO 3 rfl ?_;refine zf ?_;refine zC 3 rfl ?_;refine zcall [] rfl rfl rfl Tryz.call83 rfl (T83 _ _) rfl ?_;simp only [zca, zna, splice, spliceL];refine zO 3 rfl ?_;refine zf ?_;refine zC 3 rfl ?_;refine zcall [] rfl rfl rfl Tryz.call86 rfl (T86 _ _) rfl ?_;simp only [zca, zna, splice, spliceL];refine zO 3 rfl ?_;refine zf ?_;refine zC 7 rfl ?_;refine zg ?_;refine zC 5 rfl ?_;refine zrg 71 ?_;refine zO 6 rfl ?_;refine zg ?_;refine zC 5 rfl ?_;refine zrg 86 ?_;refine zO 12 rfl ?_;refine zV (ov_build (cs := [_, _]) rfl rfl rfl rfl) ?_;refine zS 0 ?_;simp only [setAt, splice, spliceL, Value.cells];refine zO 4 rfl ?_;refine zQ ?_;refine at_end ?_;refine at_fin (rsL (vs := [_, _]) rfl ⟨res_cellS (k := 0) (vs := [_, _]) rfl rfl rfl rfl ⟨rfl, rfl, trivial⟩, res_tmp rfl, trivial⟩ rfl) ?_;refine ⟨_, ⟨?_, rfl⟩, ?_⟩
  ·rw [oneL_none el h1 h2 h3 h4 h56 (by omega)]; rfl
  exact zE [] [0]
theorem blank_iff (c : UInt8) : decide (Lib.indexByte [32, 9, 10, 13] c ≥ 0) = blankB c := by
  have key : ∀ a : UInt8, (a == c) = decide (c.toNat = a.toNat) := fun a => by
    by_cases h : a = c
    · subst h; simp
    · have : ¬ c.toNat = a.toNat := fun e => h (UInt8.toNat_inj.1 e.symm);simp [h, this]
  simp only [Lib.indexByte, key, blankB]
  by_cases h1 : c.toNat = 32
  · simp [h1]
  by_cases h2 : c.toNat = 9
  · simp [h2]
  by_cases h3 : c.toNat = 10
  · simp [h3]
  by_cases h4 : c.toNat = 13
  · simp [h4]
  simp [h1, h2, h3, h4]
theorem T45 (w0 : World) (l : BL) (hl : l.length ≤ 9223372036854775807) (hM : MaxL w0) : Tri Tryz.prog w0 45 [SV l] [] fun v m => ∃ A c, v = .tuple #[.slice A (lexR l).1.length c, .int .i64 (lexR l).2] ∧ m = [Row tE 119 2 A c (lexR l).1] := by
 refine tri_k Tryz.func45 rfl rfl fun F => ?_;simp only [Tryz.ntmps45, argEnv, List.nil_append]
 by_cases hlong : 200 < l.length
 ·have hi : decide ((l.length : Int) > 200) = true := decide_eq_true (by omega);have e : lexR l = ([], 4) := by unfold lexR; rw [if_pos hlong]
  refine at_rowNil tE 119 2 ?_;refine zH fun zq zQ => ?_;refine zC 6 rfl ?_;refine at_scopeK ?_;refine zC 8 rfl ?_;refine zu ?_;refine zC 8 rfl ?_;refine at_ng_ret ?_;refine zQ ?_;refine at_end ?_;refine at_fin (rsL (vs := [_, _]) rfl ⟨res_tmp rfl, res_tmp rfl, trivial⟩ rfl) ?_;refine ⟨_, ⟨none, 0, ?_, rfl⟩, ?_⟩
  ·rw [e]; rfl
  try rw [e]
  exact zE [0] []
 ·have hi : decide ((l.length : Int) > 200) = false := decide_eq_false (by omega)
  have e : lexR l = match lexL l with | some ts => (ts, 0) | none => ([], 2) := by unfold lexR; rw [if_neg hlong]; cases lexL l <;> rfl
  refine at_rowNil tE 119 2 ?_;refine zH fun zq zQ => ?_;refine zC 6 rfl ?_;refine at_scopeK ?_;refine zC 8 rfl ?_;refine zg ?_;refine zC 8 rfl ?_;refine at_label ?_;refine zX 3 rfl ?_
  refine at_loopK [10, 11, 12, 13, 14, 15, 16, 17, 0, 18, 19, 5, 20, 21, 6, 23, 24, 22, 25, 26, 27, 28, 29, 30, 4, 31, 32, 2, 3, 33, 34, 35, 0] (fun i : BL × List Tok × Option Addr × Nat => i.1.length + i.2.1.length ≤ 200 ∧ lexL l = (lexL i.1).map (i.2.1 ++ ·)) (fun i => [(0, SV i.1), (4, .slice i.2.2.1 i.2.1.length i.2.2.2)]) (fun i m => setAt 0 (Row tE 119 2 i.2.2.1 i.2.2.2 i.2.1) m) (fun i => i.1.length) (l, [], none, 0) ⟨by simp; omega, by cases lexL l <;> simp⟩ ⟨rfl, rfl, trivial⟩ (fun _ s => s) ?_
  rintro ⟨r, ts, A, c⟩ ⟨hlen, hinv⟩;simp only [setAt] at hlen hinv ⊢
  cases r with
  | nil =>
   have hi2 : (!decide (([] : BL) = [])) = false := by simp
   rw [lexL_nil] at hinv;simp only [Option.map_some, List.append_nil] at hinv;rw [hinv] at e;refine zC 21 rfl ?_;refine at_ng_ret ?_;refine zQ ?_;refine at_end ?_;refine at_fin (rsL (vs := [_, _]) rfl ⟨res_tmp rfl, res_tmp rfl, trivial⟩ rfl) ?_;refine ⟨_, ⟨A, c, by rw [e], rfl⟩, ?_⟩
   try rw [e]
   exact zE [0] []
  | cons b r =>
   have hi2 : (!decide (b :: r = ([] : BL))) = true := by simp
   have h0 : (b :: r)[0]? = some b := rfl;have hbl := blank_iff b;have hstep := lexL_cons b r;simp only [List.length_cons] at hlen;have hlr : r.length ≤ 9999 := by omega
   have hlr2 : (b :: r).length ≤ 10000 := by rw [List.length_cons]; omega
   cases hb : blankB b with
   | true =>
    rw [hb] at hbl;rw [if_pos hb] at hstep;refine zC 15 rfl ?_;refine zV (ov_indexL rfl Tryz.underlying9 rfl rfl h0 (by first | rfl | omega)) ?_;refine zcall [] rfl rfl rfl Tryz.call59 rfl (T59 _ _ _) rfl ?_;simp only [zca, zna, splice, spliceL];refine zO 3 rfl ?_;refine zt ?_;refine zC 3 rfl ?_;refine zV (ov_sliceFromL (k := 1) rfl Tryz.underlying9 rfl rfl rfl (by first | assumption | omega | (simp only [zla, zlc, zln]; omega) | (simp; done) | (simp; omega))) ?_;refine zOR 7 rfl ?_;refine at_roundF (r, ts, A, c) ⟨by simp only; omega, by rw [hinv, hstep]⟩ (by simp) ⟨rfl, rfl, trivial⟩ rfl ?_;exact zE [0] []
   | false =>
    rw [hb] at hbl;rw [if_neg (by rw [hb]; simp)] at hstep;have hrl := remarkL_le b r;simp only [List.length_cons] at hrl
    by_cases hr0 : remarkL (b :: r) = 0
    ·have hi3 : decide (remarkL (b :: r) = 0) = true := decide_eq_true hr0;rw [if_pos hr0] at hstep;have hol := oneL_le (c := b) (r := r);simp only [List.length_cons] at hol
     by_cases ho : (oneL (b :: r)).2 < 0
     ·have hi4 : decide ((oneL (b :: r)).2 < 0) = true := decide_eq_true ho;rw [if_pos ho] at hstep;rw [hinv, hstep] at e;simp only [Option.map_none] at e;refine zC 15 rfl ?_;refine zV (ov_indexL rfl Tryz.underlying9 rfl rfl h0 (by first | rfl | omega)) ?_;refine zcall [] rfl rfl rfl Tryz.call59 rfl (T59 _ _ _) rfl ?_;simp only [zca, zna, splice, spliceL];refine zO 3 rfl ?_;refine zf ?_;refine zC 5 rfl ?_;refine zcall [] rfl rfl rfl Tryz.call60 rfl (T60 _ _ (by first | assumption | rfl | omega | decide | (simp; done) | (simp at *; omega)) (by first | assumption | rfl | omega | decide | (simp; done) | (simp at *; omega))) rfl ?_;simp only [zca, zna, splice, spliceL];refine zO 10 rfl ?_;refine zu ?_;refine zC 2 rfl ?_;refine zA Tryz.zeroValue119 fun g0 => ?_;refine zO 5 rfl ?_;refine zcall [] rfl rfl rfl Tryz.call61 rfl (T61 _ _ _ (by first | assumption | rfl | omega | decide | (simp; done) | (simp at *; omega)) (by first | assumption | rfl | omega | decide | (simp; done) | (simp at *; omega))) rfl ?_;simp only [zca, zna, splice, spliceL];refine zO 3 rfl ?_;refine zS 0 ?_;simp only [setAt, splice, spliceL, Value.cells];refine zOM [(0,_,_,_)] ⟨rfl,trivial⟩ [0] 6 rfl ?_;refine zT (ot_buildSlice (cs := [_, _]) rfl Tryz.underlying114 rfl rfl rfl rfl rfl rfl) ?_;rintro _ _ ⟨g1, rfl, rfl⟩;refine zT (ot_append (k := 2) (size := 2) (bytes := 24) (ys := [(oneL (b :: r)).1]) (fun _ s => s.rdPt (k := 0) rfl rfl (by simp [tE])) rfl Tryz.underlying114 (ti := Tryz.t119) rfl rfl rfl rfl rfl (by decide) rfl rfl rfl (by simp [tE, Value.oneCell']) (by simp; omega) (by decide)) ?_;rintro _ _ ⟨A0, c0, rfl, rfl⟩;simp only [setAt];refine zO 10 rfl ?_;refine zu ?_;refine zC 12 rfl ?_;refine at_ng_ret ?_;refine zQ ?_;refine at_end ?_;refine at_rowNil tE 119 2 ?_;refine at_fin (rsL (vs := [_, _]) rfl ⟨res_tmp rfl, res_tmp rfl, trivial⟩ rfl) ?_;refine ⟨_, ⟨none, 0, by rw [e]; rfl, rfl⟩, ?_⟩
      try rw [e]
      exact zE [0] [0, 0, 0]
     ·have hi4 : decide ((oneL (b :: r)).2 < 0) = false := decide_eq_false ho;rw [if_neg ho] at hstep;have hol2 := hol (by omega);refine zC 15 rfl ?_;refine zV (ov_indexL rfl Tryz.underlying9 rfl rfl h0 (by first | rfl | omega)) ?_;refine zcall [] rfl rfl rfl Tryz.call59 rfl (T59 _ _ _) rfl ?_;simp only [zca, zna, splice, spliceL];refine zO 3 rfl ?_;refine zf ?_;refine zC 5 rfl ?_;refine zcall [] rfl rfl rfl Tryz.call60 rfl (T60 _ _ (by first | assumption | rfl | omega | decide | (simp; done) | (simp at *; omega)) (by first | assumption | rfl | omega | decide | (simp; done) | (simp at *; omega))) rfl ?_;simp only [zca, zna, splice, spliceL];refine zO 10 rfl ?_;refine zu ?_;refine zC 2 rfl ?_;refine zA Tryz.zeroValue119 fun g0 => ?_;refine zO 5 rfl ?_;refine zcall [] rfl rfl rfl Tryz.call61 rfl (T61 _ _ _ (by first | assumption | rfl | omega | decide | (simp; done) | (simp at *; omega)) (by first | assumption | rfl | omega | decide | (simp; done) | (simp at *; omega))) rfl ?_;simp only [zca, zna, splice, spliceL];refine zO 3 rfl ?_;refine zS 0 ?_;simp only [setAt, splice, spliceL, Value.cells];refine zOM [(0,_,_,_)] ⟨rfl,trivial⟩ [0] 6 rfl ?_;refine zT (ot_buildSlice (cs := [_, _]) rfl Tryz.underlying114 rfl rfl rfl rfl rfl rfl) ?_;rintro _ _ ⟨g1, rfl, rfl⟩;refine zT (ot_append (k := 2) (size := 2) (bytes := 24) (ys := [(oneL (b :: r)).1]) (fun _ s => s.rdPt (k := 0) rfl rfl (by simp [tE])) rfl Tryz.underlying114 (ti := Tryz.t119) rfl rfl rfl rfl rfl (by decide) rfl rfl rfl (by simp [tE, Value.oneCell']) (by simp; omega) (by decide)) ?_;rintro _ _ ⟨A0, c0, rfl, rfl⟩;simp only [setAt];refine zO 10 rfl ?_;refine zg ?_;refine zC 5 rfl ?_;refine zV (ov_sliceFromL rfl Tryz.underlying9 rfl rfl (Int.toNat_of_nonneg (by omega)).symm (by first | assumption | omega | (simp only [zla, zlc, zln]; omega) | (simp; done) | (simp; omega))) ?_;refine zOR 4 rfl ?_;refine at_roundF ((b :: r).drop (oneL (b :: r)).2.toNat, ts ++ [(oneL (b :: r)).1], A0, c0) ⟨by simp only [List.length_drop, List.length_cons, List.length_append, List.length_nil]; omega, ?_⟩ (by simp only [List.length_drop, List.length_cons]; omega) ⟨rfl, rfl, trivial⟩ rfl ?_
      ·try rw [hinv]
       try rw [hstep]
       try rw [Option.map_map]
       congr 1
       funext x
       simp
      exact zE [2] [0, 0]
    ·have hi3 : decide (remarkL (b :: r) = 0) = false := decide_eq_false hr0;rw [if_neg hr0] at hstep
     by_cases ho : remarkL (b :: r) < 0
     ·have hi4 : decide (remarkL (b :: r) < 0) = true := decide_eq_true ho;rw [if_pos ho] at hstep;rw [hinv, hstep] at e;simp only [Option.map_none] at e;refine zC 15 rfl ?_;refine zV (ov_indexL rfl Tryz.underlying9 rfl rfl h0 (by first | rfl | omega)) ?_;refine zcall [] rfl rfl rfl Tryz.call59 rfl (T59 _ _ _) rfl ?_;simp only [zca, zna, splice, spliceL];refine zO 3 rfl ?_;refine zf ?_;refine zC 5 rfl ?_;refine zcall [] rfl rfl rfl Tryz.call60 rfl (T60 _ _ (by first | assumption | rfl | omega | decide | (simp; done) | (simp at *; omega)) (by first | assumption | rfl | omega | decide | (simp; done) | (simp at *; omega))) rfl ?_;simp only [zca, zna, splice, spliceL];refine zO 10 rfl ?_;refine zg ?_;refine zC 9 rfl ?_;refine zu ?_;refine zC 12 rfl ?_;refine at_ng_ret ?_;refine zQ ?_;refine at_end ?_;refine at_rowNil tE 119 2 ?_;refine at_fin (rsL (vs := [_, _]) rfl ⟨res_tmp rfl, res_tmp rfl, trivial⟩ rfl) ?_;refine ⟨_, ⟨none, 0, by rw [e]; rfl, rfl⟩, ?_⟩
      try rw [e]
      exact zE [0] [0]
     ·have hi4 : decide (remarkL (b :: r) < 0) = false := decide_eq_false ho;rw [if_neg ho] at hstep;refine zC 15 rfl ?_;refine zV (ov_indexL rfl Tryz.underlying9 rfl rfl h0 (by first | rfl | omega)) ?_;refine zcall [] rfl rfl rfl Tryz.call59 rfl (T59 _ _ _) rfl ?_;simp only [zca, zna, splice, spliceL];refine zO 3 rfl ?_;refine zf ?_;refine zC 5 rfl ?_;refine zcall [] rfl rfl rfl Tryz.call60 rfl (T60 _ _ (by first | assumption | rfl | omega | decide | (simp; done) | (simp at *; omega)) (by first | assumption | rfl | omega | decide | (simp; done) | (simp at *; omega))) rfl ?_;simp only [zca, zna, splice, spliceL];refine zO 10 rfl ?_;refine zg ?_;refine zC 9 rfl ?_;refine zg ?_;refine zC 5 rfl ?_;refine zV (ov_sliceFromL rfl Tryz.underlying9 rfl rfl (Int.toNat_of_nonneg (by omega)).symm (by first | assumption | omega | (simp only [zla, zlc, zln]; omega) | (simp; done) | (simp; omega))) ?_;refine zOR 4 rfl ?_;refine at_roundF ((b :: r).drop (remarkL (b :: r)).toNat, ts, A, c) ⟨by simp only [List.length_drop, List.length_cons]; omega, by rw [hinv, hstep]⟩ (by simp only [List.length_drop, List.length_cons]; omega) ⟨rfl, rfl, trivial⟩ rfl ?_;exact zE [0] []
end Go.Proofs.YtfcmajgnpnlkiaaGreatDoor
