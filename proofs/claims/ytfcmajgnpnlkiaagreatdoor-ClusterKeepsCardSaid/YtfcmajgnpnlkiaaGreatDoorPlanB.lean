/- Package plan, walked: the forms; Of. -/
import Derived.Test.YtfcmajgnpnlkiaaGreatDoorProg
import Derived.Test.YtfcmajgnpnlkiaaGreatDoorOfLaw
import Derived.Test.YtfcmajgnpnlkiaaGreatDoorLex
import Derived.Test.YtfcmajgnpnlkiaaGreatDoorSLB
import Derived.KernelRfl
set_option linter.unusedSimpArgs false
set_option linter.unusedVariables false
set_option maxRecDepth 100000
set_option maxHeartbeats 4000000
namespace Go.Proofs.YtfcmajgnpnlkiaaGreatDoor
open Go Go.Proofs.YtfcmajgnpnlkiaaGreatDoor.SL Go.RowKit
theorem T143 (w0 : World) {A : Option Addr} {c c' : Nat} {s : List BL} (hl : 1 ≤ s.length) : Tri Tryz.prog w0 143 [.slice A s.length c] [Row bsE 9 1 A c' s] fun v m => v = .agg #[.int .i64 1, SV (s.getD 0 []), SV []] ∧ m = [Row bsE 9 1 A c' s] := by
 refine tri_k Tryz.func143 rfl rfl fun F => ?_;simp only [Tryz.ntmps143, argEnv, List.cons_append, List.nil_append];obtain ⟨x, hx⟩ : ∃ x, s[0]? = some x := ⟨_, List.getElem?_eq_getElem (by omega)⟩;have hg : s.getD 0 [] = x := by simp [List.getD, hx]
 rw [hg];refine zH fun zq zQ => ?_;refine zC 2 rfl ?_;refine zA Tryz.zeroValue148 fun g0 => ?_;refine zO 5 rfl ?_;refine zV (ov_indexRd (fun _ s => s.rd (k := 1) rfl) rfl Tryz.underlying35 rfl rfl rfl hx) ?_;refine zV (ov_loadRd0 (fun _ s => s.rd (k := 1) rfl) rfl rfl rfl hx rfl) ?_;refine zV (ov_build (cs := [_, _, _]) rfl rfl rfl rfl) ?_;refine zS 0 ?_;simp only [setAt, splice, spliceL, Value.cells];refine zO 3 rfl ?_;refine zQ ?_;refine at_end ?_;refine at_fin (rsV rfl (res_cellS (k := 0) (vs := [_, _, _]) rfl rfl rfl rfl ⟨rfl, rfl, rfl, trivial⟩)) ?_;refine ⟨_, ⟨rfl, rfl⟩, ?_⟩;exact zE [1] [0]
theorem T144 (w0 : World) (v : Value) : Tri Tryz.prog w0 144 [v] [] fun v m => v = .agg #[.int .i64 2, SV [], SV []] ∧ m = [] := by
 refine tri_k Tryz.func144 rfl rfl fun F => ?_;simp only [Tryz.ntmps144, argEnv, List.cons_append, List.nil_append];refine zH fun zq zQ => ?_;refine zC 2 rfl ?_;refine zA Tryz.zeroValue148 fun g0 => ?_;refine zO 4 rfl ?_;refine zV (ov_build (cs := [_, _, _]) rfl rfl rfl rfl) ?_;refine zS 0 ?_;simp only [setAt, splice, spliceL, Value.cells];refine zO 3 rfl ?_;refine zQ ?_;refine at_end ?_;refine at_fin (rsV rfl (res_cellS (k := 0) (vs := [_, _, _]) rfl rfl rfl rfl ⟨rfl, rfl, rfl, trivial⟩)) ?_;refine ⟨_, ⟨rfl, rfl⟩, ?_⟩;exact zE [] [0]
theorem T145 (w0 : World) {A : Option Addr} {c c' : Nat} {s : List BL} (hl : 2 ≤ s.length) : Tri Tryz.prog w0 145 [.slice A s.length c] [Row bsE 9 1 A c' s] fun v m => v = .agg #[.int .i64 3, SV (s.getD 0 []), SV (s.getD 1 [])] ∧ m = [Row bsE 9 1 A c' s] := by
 refine tri_k Tryz.func145 rfl rfl fun F => ?_;simp only [Tryz.ntmps145, argEnv, List.cons_append, List.nil_append];obtain ⟨x, hx⟩ : ∃ x, s[0]? = some x := ⟨_, List.getElem?_eq_getElem (by omega)⟩;obtain ⟨y, hy⟩ : ∃ y, s[1]? = some y := ⟨_, List.getElem?_eq_getElem (by omega)⟩;have hg : s.getD 0 [] = x := by simp [List.getD, hx]
 have hg1 : s.getD 1 [] = y := by simp [List.getD, hy]
 rw [hg, hg1];refine zH fun zq zQ => ?_;refine zC 2 rfl ?_;refine zA Tryz.zeroValue148 fun g0 => ?_;refine zO 3 rfl ?_;refine at_draw _ [] 1000 [(2, 0), (1, 1), (1, 2), (2, 3), (1, 4), (1, 5), (2, 6), (0, 7)] (by kernel_rfl) (by kernel_rfl) (fun _ s => (s.pulls (ks := [1]) rfl).left) ?_;refine qM ?_;refine qV (ov_indexRd (fun _ s => s.rd (k := 0) rfl) rfl Tryz.underlying35 rfl rfl rfl hx) ?_;refine qV (ov_loadRd0 (fun _ s => s.rd (k := 0) rfl) rfl rfl rfl hx rfl) ?_;refine qM ?_;refine qV (ov_indexRd (fun _ s => s.rd (k := 0) rfl) rfl Tryz.underlying35 rfl rfl rfl hy) ?_;refine qV (ov_loadRd0 (fun _ s => s.rd (k := 0) rfl) rfl rfl rfl hy rfl) ?_;refine qP (ov_build (cs := [_, _, _]) rfl rfl rfl rfl) ?_;refine aq_t0 (ot_store (k := 0) rfl rfl rfl rfl rfl rfl rfl) rfl rfl ?_;rintro _ _ ⟨rfl, rfl⟩;simp only [setAt, splice, spliceL, Value.cells];refine ⟨fun _ s => (s.pulls (ks := [1]) rfl).left, ?_⟩;refine aq_nil ?_;refine zX 2 rfl ?_;refine zQ ?_;refine at_end ?_;refine at_fin (rsV rfl (res_cellS (k := 0) (vs := [_, _, _]) rfl rfl rfl rfl ⟨rfl, rfl, rfl, trivial⟩)) ?_;refine ⟨_, ⟨rfl, rfl⟩, ?_⟩;exact zE [1] [0]
theorem T146 (w0 : World) {A : Option Addr} {c c' : Nat} {s : List BL} (hl : 2 ≤ s.length) : Tri Tryz.prog w0 146 [.slice A s.length c] [Row bsE 9 1 A c' s] fun v m => v = .agg #[.int .i64 4, SV (s.getD 1 []), SV (s.getD 0 [])] ∧ m = [Row bsE 9 1 A c' s] := by
 refine tri_k Tryz.func146 rfl rfl fun F => ?_;simp only [Tryz.ntmps146, argEnv, List.cons_append, List.nil_append];obtain ⟨x, hx⟩ : ∃ x, s[0]? = some x := ⟨_, List.getElem?_eq_getElem (by omega)⟩;obtain ⟨y, hy⟩ : ∃ y, s[1]? = some y := ⟨_, List.getElem?_eq_getElem (by omega)⟩;have hg : s.getD 0 [] = x := by simp [List.getD, hx]
 have hg1 : s.getD 1 [] = y := by simp [List.getD, hy]
 rw [hg, hg1];refine zH fun zq zQ => ?_;refine zC 2 rfl ?_;refine zA Tryz.zeroValue148 fun g0 => ?_;refine zO 3 rfl ?_;refine at_draw _ [] 1000 [(2, 0), (1, 1), (1, 2), (2, 3), (1, 4), (1, 5), (2, 6), (0, 7)] (by kernel_rfl) (by kernel_rfl) (fun _ s => (s.pulls (ks := [1]) rfl).left) ?_;refine qM ?_;refine qV (ov_indexRd (fun _ s => s.rd (k := 0) rfl) rfl Tryz.underlying35 rfl rfl rfl hy) ?_;refine qV (ov_loadRd0 (fun _ s => s.rd (k := 0) rfl) rfl rfl rfl hy rfl) ?_;refine qM ?_;refine qV (ov_indexRd (fun _ s => s.rd (k := 0) rfl) rfl Tryz.underlying35 rfl rfl rfl hx) ?_;refine qV (ov_loadRd0 (fun _ s => s.rd (k := 0) rfl) rfl rfl rfl hx rfl) ?_;refine qP (ov_build (cs := [_, _, _]) rfl rfl rfl rfl) ?_;refine aq_t0 (ot_store (k := 0) rfl rfl rfl rfl rfl rfl rfl) rfl rfl ?_;rintro _ _ ⟨rfl, rfl⟩;simp only [setAt, splice, spliceL, Value.cells];refine ⟨fun _ s => (s.pulls (ks := [1]) rfl).left, ?_⟩;refine aq_nil ?_;refine zX 2 rfl ?_;refine zQ ?_;refine at_end ?_;refine at_fin (rsV rfl (res_cellS (k := 0) (vs := [_, _, _]) rfl rfl rfl rfl ⟨rfl, rfl, rfl, trivial⟩)) ?_;refine ⟨_, ⟨rfl, rfl⟩, ?_⟩;exact zE [1] [0]
theorem T147 (w0 : World) {A : Option Addr} {c c' : Nat} {s : List BL} (hl : 1 ≤ s.length) : Tri Tryz.prog w0 147 [.slice A s.length c] [Row bsE 9 1 A c' s] fun v m => v = .agg #[.int .i64 5, SV (s.getD 0 []), SV []] ∧ m = [Row bsE 9 1 A c' s] := by
 refine tri_k Tryz.func147 rfl rfl fun F => ?_;simp only [Tryz.ntmps147, argEnv, List.cons_append, List.nil_append];obtain ⟨x, hx⟩ : ∃ x, s[0]? = some x := ⟨_, List.getElem?_eq_getElem (by omega)⟩;have hg : s.getD 0 [] = x := by simp [List.getD, hx]
 rw [hg];refine zH fun zq zQ => ?_;refine zC 2 rfl ?_;refine zA Tryz.zeroValue148 fun g0 => ?_;refine zO 5 rfl ?_;refine zV (ov_indexRd (fun _ s => s.rd (k := 1) rfl) rfl Tryz.underlying35 rfl rfl rfl hx) ?_;refine zV (ov_loadRd0 (fun _ s => s.rd (k := 1) rfl) rfl rfl rfl hx rfl) ?_;refine zV (ov_build (cs := [_, _, _]) rfl rfl rfl rfl) ?_;refine zS 0 ?_;simp only [setAt, splice, spliceL, Value.cells];refine zO 3 rfl ?_;refine zQ ?_;refine at_end ?_;refine at_fin (rsV rfl (res_cellS (k := 0) (vs := [_, _, _]) rfl rfl rfl rfl ⟨rfl, rfl, rfl, trivial⟩)) ?_;refine ⟨_, ⟨rfl, rfl⟩, ?_⟩;exact zE [1] [0]
def fE (f : BL × Nat) : List Value := [SV f.1, .func (.func f.2) #[] #[]]
def formsL : List (BL × Nat) := [(form1, 143), (form2, 144), (form3, 145), (form4, 146), (form5, 147)]
theorem T106 (w0 : World) : Tri Tryz.prog w0 106 [] [] fun v m => ∃ A, v = .slice A formsL.length 5 ∧ m = [Row fE 188 2 A 5 formsL] := by
 refine tri_k Tryz.func106 rfl rfl fun F => ?_;simp only [Tryz.ntmps106, argEnv, List.nil_append];refine zH fun zq zQ => ?_;refine zC 7 rfl ?_;refine zV (ov_build (cs := [_, _]) rfl rfl rfl rfl) ?_;refine zV (ov_build (cs := [_, _]) rfl rfl rfl rfl) ?_;refine zV (ov_build (cs := [_, _]) rfl rfl rfl rfl) ?_;refine zV (ov_build (cs := [_, _]) rfl rfl rfl rfl) ?_;refine zV (ov_build (cs := [_, _]) rfl rfl rfl rfl) ?_;refine zT (ot_buildSlice (cs := [_, _, _, _, _, _, _, _, _, _]) rfl Tryz.underlying184 rfl rfl rfl rfl rfl rfl) ?_;rintro _ _ ⟨g0, rfl, rfl⟩;refine zO 4 rfl ?_;refine zQ ?_;refine at_end ?_;refine at_rowOf fE 0 (size := 2) (c := 5) formsL rfl (fun _ _ => rfl) (by decide) (by decide) (by decide) rfl ?_;simp only [setAt];refine at_end ?_;refine zfin ?_;refine ⟨_, ⟨_, rfl, rfl⟩, ?_⟩;exact zE [0] []
open Go Go.Proofs.YtfcmajgnpnlkiaaGreatDoor.SL Go.RowKit
theorem words_succ {l : List Tok} {k : Nat} {x : Tok} (h : l[k]? = some x) : wordsL (l.take (k + 1)) = wordsL (l.take k) ++ (if x.1 = 5 then [] else [word1 x]) := by
  unfold wordsL noHints
  rw [List.take_add_one, h, List.filter_append, List.map_append]
  by_cases e : x.1 = 5 <;> simp [e]
theorem strs_succ {l : List Tok} {k : Nat} {x : Tok} (h : l[k]? = some x) : strsL (l.take (k + 1)) = strsL (l.take k) ++ (if x.1 = 3 then [x.2] else []) := by
  unfold strsL
  rw [List.take_add_one, h, List.filter_append, List.map_append]
  by_cases e : x.1 = 3 <;> simp [e]
theorem words_len (l : List Tok) : (wordsL l).length ≤ l.length := by unfold wordsL; rw [List.length_map]; exact noHints_le l
theorem strs_len (l : List Tok) : (strsL l).length ≤ l.length := by unfold strsL; rw [List.length_map]; exact List.length_filter_le _ _
theorem trimW_snoc (l : List BL) (x : BL) : trimW (l ++ [x]) = if x = [59] then trimW l else l ++ [x] := by
  unfold trimW
  rw [List.reverse_append, List.reverse_singleton, List.singleton_append]
  by_cases h : x = [59]
  · rw [if_pos h, List.dropWhile_cons_of_pos (by simp [h])]
  · rw [if_neg h, List.dropWhile_cons_of_neg (by simp [h])]; simp
theorem trimW_sub {l : List BL} {t : BL} (h : t ∈ trimW l) : t ∈ l := by
  unfold trimW at h
  have := (List.dropWhile_sublist (p := fun t : BL => decide (t = [59])) (l := l.reverse)).subset (List.mem_reverse.1 h)
  simpa using this
theorem join_le2 {m : Nat} : ∀ (xs : List BL), (∀ x ∈ xs, x.length ≤ m) → (Lib.join xs [32]).length ≤ xs.length * (m + 1)
  | [], _ => by simp [Lib.join, List.intercalate]
  | [a], h => by
    have := h a (by simp);simp [Lib.join, List.intercalate]; omega
  | a :: b :: xs, h => by
    have ih := join_le2 (b :: xs) (fun x hx => h x (by simp [hx]));have := h a (by simp);have e : Lib.join (a :: b :: xs) [32] = a ++ ([32] ++ Lib.join (b :: xs) [32]) := by simp [Lib.join, List.intercalate]
    rw [e, List.length_append, List.length_append];simp only [List.length_cons, List.length_nil] at ih ⊢;rw [Nat.add_mul (xs.length + 1) 1, Nat.one_mul];omega
theorem word1_len {t : Tok} (h : TokOk t) (hl : t.2.length ≤ 200) : (word1 t).length ≤ 200 := by
  unfold word1
  rcases h with ⟨h, _, _⟩ | h | h | h | h | ⟨h, c, e, _, _⟩
  · rw [if_pos h]; exact hl
  · simp [h]
  · simp [h]
  · simp [h]
  · simp [h]
  · rw [if_neg (by omega), if_neg (by omega), if_pos h, e, repl_one]
    split <;> simp
theorem at_lookSub {w0 : World} {n : Nat} {ds : List Deferred} {R : Act → World → Prop} {env : Env} {l : List HP} {E : Env} (h : ∀ t v, SL.look E t = some v → SL.look env t = some v) (k : At w0 n ds R E l) : At w0 n ds R env l :=
  fun a w f s => k a w ⟨f.size, f.defers, fun t v h2 => f.has t v (h t v h2)⟩ s
def Keep (W : List Nat) (env e : Env) : Prop := ∀ t v, memB t W = false → SL.look env t = some v → SL.look e t = some v
theorem Keep.refl (W : List Nat) (env : Env) : Keep W env env := fun _ _ _ h => h
theorem Keep.put {W : List Nat} {env e : Env} (h : Keep W env e) {d : Nat} (v : Value) (hd : memB d W = true) : Keep W env ((d, v) :: e) := fun t u ht hu => by
  have hne : Nat.beq d t = false := by
    cases hb : Nat.beq d t with
    | false => rfl
    | true => rw [← memB_congr hb W, hd] at ht; cases ht
  show (match Nat.beq d t with | true => some v | false => SL.look e t) = some u
  rw [hne];exact h t u ht hu
theorem look_wo2 {W : List Nat} : ∀ {env : Env} {t : Nat} {v : Value}, SL.look (wo W env) t = some v → memB t W = false
  | [], t, v, h => by cases h
  | (u, x) :: r, t, v, h => by
    unfold wo at h
    cases hm : memB u W with
    | true => rw [hm] at h; exact look_wo2 h
    | false =>
      rw [hm] at h
      change (match Nat.beq u t with | true => some x | false => SL.look (wo W r) t) = some v at h
      cases hb : Nat.beq u t with
      | true => rw [← memB_congr hb W]; exact hm
      | false => rw [hb] at h; exact look_wo2 h
theorem at_drawInvE {ro : Option Nat} {P : Program} {w0 : World} {n : Nat} {ds : List Deferred} {env : Env} {l : List HP} {Q : Exit → Act → World → Prop} {id : Nat} {m : List Oper} (J : Env → Array Bool → Env → List HP → Prop) (hm : P.follows .mixedOrders = true) (h0 : J env (Array.replicate m.length false) env l)
    (step : ∀ (listed : Array Bool) (e : Env) (q : List HP), listed.size = m.length → J env listed e q → ∀ i ∈ Region.ready .any m.toArray listed,
      At w0 n ds (fun a w => opGoes P m.toArray i (fun a' w' => ∃ e' q', J env (listed.setIfInBounds i true) e' q' ∧ Fr n ds e' a' ∧ Sat w0 w' q') a w) e q)
    (fin : ∀ (listed : Array Bool) (e : Env) (q : List HP), listed.size = m.length → J env listed e q → Region.ready .any m.toArray listed = [] → At w0 n ds (Q .normal) e q) :
    At w0 n ds (gwp ro P (Code.region id m.toArray true) Q) env l := at_drawInv (J env) hm h0 step fin
theorem sj_look {W : List Nat} {env e : Env} {v5 v6 : Value} (kp : Keep W env e) (h5 : SL.look e 5 = some v5) (h6 : SL.look e 6 = some v6) : ∀ t v, SL.look ((5, v5) :: (6, v6) :: wo W env) t = some v → SL.look e t = some v := fun t v hv => by
  change (match Nat.beq 5 t with | true => some v5 | false => (match Nat.beq 6 t with | true => some v6 | false => SL.look (wo W env) t)) = some v at hv
  cases hb : Nat.beq 5 t with
  | true => rw [hb] at hv; rw [← Nat.eq_of_beq_eq_true hb]; exact h5.trans hv
  | false =>
    rw [hb] at hv
    cases hb6 : Nat.beq 6 t with
    | true => simp only [hb6] at hv; rw [← Nat.eq_of_beq_eq_true hb6]; exact h6.trans hv
    | false => simp only [hb6] at hv; exact kp t v (look_wo2 hv) (look_wo hv)
structure SJ (F : List HP) (env : Env) (tk : HP) (A1 A2 : Option Addr) (e1 e2 : Nat) (W S : List BL) (tx : BL) (gt : Nat) (u : Nat → Bool) (e : Env) (q : List HP) (A3 A4 : Option Addr) (c3 c4 gq gs : Nat) : Prop where
  kp : Keep [5, 6, 37, 38, 39, 40, 41, 42, 43, 44] env e
  s8 : SL.look e 8 = some (ptrTo gt)
  s5 : u 8 = false → SL.look e 5 = some (.slice A1 W.length e1)
  s6 : u 9 = false → SL.look e 6 = some (.slice A2 S.length e2)
  t5 : u 8 = true → SL.look e 5 = some (.slice A3 (W ++ [[63]]).length c3)
  t6 : u 9 = true → SL.look e 6 = some (.slice A4 (S ++ [tx]).length c4)
  s37 : u 0 = true → SL.look e 37 = some (.slice A1 W.length e1)
  s38 : u 1 = true → SL.look e 38 = some (sliceOf 1 gq)
  s39 : u 2 = true → SL.look e 39 = some (.slice A3 (W ++ [[63]]).length c3)
  s40 : u 3 = true → SL.look e 40 = some (.slice A2 S.length e2)
  s41 : u 4 = true → SL.look e 41 = some (.pointer (some ⟨gt, 1, none⟩))
  s42 : u 5 = true → SL.look e 42 = some (SV tx)
  s43 : u 6 = true → SL.look e 43 = some (sliceOf 1 gs)
  s44 : u 7 = true → SL.look e 44 = some (.slice A4 (S ++ [tx]).length c4)
  d8 : u 8 = true → u 0 = true ∧ u 2 = true
  d9 : u 9 = true → u 3 = true ∧ u 7 = true
  d2 : u 2 = true → u 1 = true
  d7 : u 7 = true → u 6 = true
  at_ : ∃ r, q = tk :: (match u 2 with | true => Row bsE 9 1 A3 c3 (W ++ [[63]]) | false => Row bsE 9 1 A1 e1 W) :: (match u 7 with | true => Row bsE 9 1 A4 c4 (S ++ [tx]) | false => Row bsE 9 1 A2 e2 S) :: (match u 1 with | true => cl gq #[SV [63]] 9 | false => fun _ => True) :: (match u 6 with | true => cl gs #[SV tx] 9 | false => fun _ => True) :: (r ++ F)
theorem T68 (w0 : World) (s : BL) (hs : s.length ≤ 9223372036854775807) (hM : MaxL w0) : Tri Tryz.prog w0 68 [SV s] [] fun v m => v = planV (planL s) ∧ m = [] := by
 refine tri_k Tryz.func68 rfl rfl fun F => ?_;simp only [Tryz.ntmps68, argEnv, List.nil_append];have hL := T45 w0 s hs hM;have hlen := lexR_len s;have hok := lexR_ok s;have hsh := lexR_short s;have hpl : planL s = if (lexR s).2 = 0 then ofL (lexR s).1 else (0, [], []) := rfl;obtain ⟨⟨l, er⟩, hle⟩ : ∃ p, p = lexR s := ⟨_, rfl⟩;rw [← hle] at hL hlen hok hsh hpl;simp only at hL hlen hok hsh hpl;rw [hpl]
 by_cases he : er = 0
 rotate_left
 ·have hie : (!decide (er = 0)) = true := by simp [he]
  rw [if_neg he];refine zH fun zq zQ => ?_;refine zC 2 rfl ?_;refine zA Tryz.zeroValue148 fun g0 => ?_;refine zO 5 rfl ?_;refine zT (ot_call (ks := []) rfl rfl rfl Tryz.call45 rfl (hL ) rfl) ?_;rintro v0 _ ⟨m0, hp0, rfl⟩;obtain ⟨A0, hp0⟩ := hp0;obtain ⟨c0, hp0⟩ := hp0;obtain ⟨rfl, rfl⟩ := hp0;simp only [zca, zna, splice, spliceL];refine zO 14 rfl ?_;refine zt ?_;refine zC 2 rfl ?_;refine zV (ov_build (cs := [_, _, _]) rfl rfl rfl rfl) ?_;refine zS 1 ?_;simp only [setAt, splice, spliceL, Value.cells];refine zO 4 rfl ?_;refine zQ ?_;refine at_end ?_;refine at_fin (rsV rfl (res_cellS (k := 1) (vs := [_, _, _]) rfl rfl rfl rfl ⟨rfl, rfl, rfl, trivial⟩)) ?_;refine ⟨_, ⟨rfl, rfl⟩, ?_⟩;exact zE [] [0, 0]
 have hie : (!decide (er = 0)) = false := by simp [he]
 rw [if_pos he];refine zH fun zq zQ => ?_;refine zC 2 rfl ?_;refine zA Tryz.zeroValue148 fun g0 => ?_;refine zO 5 rfl ?_;refine zT (ot_call (ks := []) rfl rfl rfl Tryz.call45 rfl (hL ) rfl) ?_;rintro v0 _ ⟨m0, hp0, rfl⟩;obtain ⟨A0, hp0⟩ := hp0;obtain ⟨c0, hp0⟩ := hp0;obtain ⟨rfl, rfl⟩ := hp0;simp only [zca, zna, splice, spliceL];refine zO 14 rfl ?_;refine zf ?_;refine zC 17 rfl ?_;refine at_rowNil bsE 9 1 ?_;refine at_rowNil bsE 9 1 ?_;refine at_loopK [23, 24, 25, 8, 26, 27, 29, 28, 30, 31, 32, 33, 34, 5, 36, 35, 37, 38, 39, 40, 41, 42, 43, 44, 6, 46, 45, 47, 48, 49, 50, 51, 52, 54, 53, 55, 56, 57, 58, 59, 22] (fun i : Nat × (Option Addr × Nat) × (Option Addr × Nat) => i.1 ≤ l.length) (fun i => [(22, .int .i64 (i.1 : Nat)), (5, .slice i.2.1.1 (wordsL (l.take i.1)).length i.2.1.2), (6, .slice i.2.2.1 (strsL (l.take i.1)).length i.2.2.2)]) (fun i m => setAt 0 (Row bsE 9 1 i.2.1.1 i.2.1.2 (wordsL (l.take i.1))) (setAt 1 (Row bsE 9 1 i.2.2.1 i.2.2.2 (strsL (l.take i.1))) m)) (fun i => l.length - i.1) (0, (none, 0), (none, 0)) (Nat.zero_le _) ⟨rfl, rfl, rfl, trivial⟩ (fun _ s => s) ?_;rintro ⟨k, ⟨A1, e1⟩, ⟨A2, e2⟩⟩ hk;simp only [setAt] at hk ⊢
 rcases Nat.lt_or_ge k l.length with hlt | hge
 ·have hi1 : decide ((k : Int) < l.length) = true := decide_eq_true (by omega);obtain ⟨x, hget⟩ : ∃ x, l[k]? = some x := ⟨_, List.getElem?_eq_getElem hlt⟩;have hxm := List.mem_of_getElem? hget;have hw := words_succ hget;have hst := strs_succ hget;have hwl := words_len (l.take k);have hsl := strs_len (l.take k);rw [List.length_take] at hwl hsl;have hxl := hsh x hxm;obtain ⟨W, hW⟩ : ∃ W, W = wordsL (l.take k) := ⟨_, rfl⟩;obtain ⟨S, hS⟩ : ∃ S, S = strsL (l.take k) := ⟨_, rfl⟩;rw [← hW] at hw hwl ⊢;rw [← hS] at hst hsl ⊢
  rcases hok x hxm with ⟨h1, _, _⟩ | h1 | h1 | h1 | h1 | ⟨h1, ch, hch, _, _⟩
  ·have hi2 : decide (x.1 = 1) = true := by simp [h1]
   have hx : word1 x = x.2 := by unfold word1; rw [if_pos h1]
   rw [if_neg (by omega), hx] at hw;rw [if_neg (by omega), List.append_nil] at hst;refine zC 6 rfl ?_;refine zu ?_;refine zC 6 rfl ?_;refine zV (ov_indexRd (fun _ s => s.rd (k := 2) rfl) rfl Tryz.underlying114 rfl rfl rfl hget) ?_;refine zV (ov_loadRdS (vs := [_, _]) (fun _ s => s.rd (k := 2) rfl) rfl rfl rfl hget rfl rfl) ?_;refine zA Tryz.zeroValue119 fun g1 => ?_;refine zS 0 ?_;simp only [setAt, splice, spliceL, Value.cells];refine zOM [(0,_,_,_)] ⟨rfl,trivial⟩ [0] 15 rfl ?_;refine zu ?_;refine zCM [(0,_,_,_)] ⟨rfl,trivial⟩ [0] 4 rfl ?_;refine zT (ot_buildSlice (cs := [_]) rfl Tryz.underlying35 rfl rfl rfl rfl rfl rfl) ?_;rintro _ _ ⟨g2, rfl, rfl⟩;refine zT (ot_append (k := 2) (size := 1) (bytes := 16) (ys := [x.2]) (fun _ s => s.rdPt (k := 0) rfl rfl (by simp [bsE])) rfl Tryz.underlying35 (ti := Tryz.t9) rfl rfl rfl rfl rfl (by decide) rfl rfl rfl (by simp [bsE, Value.oneCell']) (by simp; omega) (by decide)) ?_;rintro _ _ ⟨A3, c1, rfl, rfl⟩;simp only [setAt];refine zO 6 rfl ?_;refine zV zI ?_;refine zOR 3 rfl ?_;refine at_roundF (k + 1, (A3, c1), (A2, e2)) hlt (by simp only; omega) ⟨rfl, look_eq rfl (by simp only [hw]), look_eq rfl (by simp only [hst]), trivial⟩ rfl ?_;simp only [setAt, hw, hst];exact zE [2, 2, 2, 2] [0, 0]
  ·have hx : word1 x = [63, 63] := by unfold word1; rw [if_neg (by omega), if_neg (by omega), if_neg (by omega)]
   have hk1 : decide (x.1 = 1) = false := by simp [h1]
   have hk3 : decide (x.1 = 3) = false := by simp [h1]
   have hk6 : decide (x.1 = 6) = false := by simp [h1]
   have hk2 : decide (x.1 = 2) = true := by simp [h1]
   have hk4 : decide (x.1 = 4) = false := by simp [h1]
   rw [if_neg (by omega), hx] at hw;rw [if_neg (by omega), List.append_nil] at hst;refine zC 6 rfl ?_;refine zu ?_;refine zC 6 rfl ?_;refine zV (ov_indexRd (fun _ s => s.rd (k := 2) rfl) rfl Tryz.underlying114 rfl rfl rfl hget) ?_;refine zV (ov_loadRdS (vs := [_, _]) (fun _ s => s.rd (k := 2) rfl) rfl rfl rfl hget rfl rfl) ?_;refine zA Tryz.zeroValue119 fun g1 => ?_;refine zS 0 ?_;simp only [setAt, splice, spliceL, Value.cells];refine zOM [(0,_,_,_)] ⟨rfl,trivial⟩ [0] 15 rfl ?_;refine zg ?_;refine zC 6 rfl ?_;refine zg ?_;refine zC 6 rfl ?_;refine zg ?_;refine zC 7 rfl ?_;refine zu ?_;refine zC 2 rfl ?_;refine zu ?_;refine zC 2 rfl ?_;refine zT (ot_buildSlice (cs := [_]) rfl Tryz.underlying35 rfl rfl rfl rfl rfl rfl) ?_;rintro _ _ ⟨g2, rfl, rfl⟩;refine zT (ot_append (k := 2) (size := 1) (bytes := 16) (ys := [[63, 63]]) (fun _ s => s.rdPt (k := 0) rfl rfl (by simp [bsE])) rfl Tryz.underlying35 (ti := Tryz.t9) rfl rfl rfl rfl rfl (by decide) rfl rfl rfl (by simp [bsE, Value.oneCell']) (by simp; omega) (by decide)) ?_;rintro _ _ ⟨A3, c1, rfl, rfl⟩;simp only [setAt];refine zO 6 rfl ?_;refine zV zI ?_;refine zOR 3 rfl ?_;refine at_roundF (k + 1, (A3, c1), (A2, e2)) hlt (by simp only; omega) ⟨rfl, look_eq rfl (by simp only [hw]), look_eq rfl (by simp only [hst]), trivial⟩ rfl ?_;simp only [setAt, hw, hst];exact zE [2, 2, 2, 2] [0, 0]
  ·have hx : word1 x = [63] := by unfold word1; rw [if_neg (by omega), if_pos h1]
   have hk1 : decide (x.1 = 1) = false := by simp [h1]
   rw [if_neg (by omega), hx] at hw;rw [if_pos h1] at hst;have hstash : Nonempty (PLift (x.1 = 3)) := ⟨⟨h1⟩⟩;clear h1;refine zC 6 rfl ?_;refine zu ?_;refine zC 6 rfl ?_;refine zV (ov_indexRd (fun _ s => s.rd (k := 2) rfl) rfl Tryz.underlying114 rfl rfl rfl hget) ?_;refine zV (ov_loadRdS (vs := [_, _]) (fun _ s => s.rd (k := 2) rfl) rfl rfl rfl hget rfl rfl) ?_;refine zA Tryz.zeroValue119 fun g1 => ?_;refine zS 0 ?_;simp only [setAt, splice, spliceL, Value.cells];refine zOM [(0,_,_,_)] ⟨rfl,trivial⟩ [0] 15 rfl ?_;refine zf ?_;refine zC 6 rfl ?_;obtain ⟨⟨h1⟩⟩ := hstash;refine at_reval 35 (.bool true) rfl (by simp [h1]) ?_;refine zC 1 rfl ?_;refine at_empty (at_empty ?_);refine at_pulls [2, 2, 2, 0, 0] rfl ?_;simp only [zca, zna];refine at_drawInvE (fun env listed e q => ∃ A3 A4 c3 c4 gq gs, SJ (Row tE 119 2 A0 c0 l :: cl g0 #[.int .i64 0, SV [], SV []] 148 :: F) env (cl g1 #[.int .i64 x.1, SV x.2] 119) A1 A2 e1 e2 W S x.2 g1 (up listed) e q A3 A4 c3 c4 gq gs) (by kernel_rfl) ⟨none, none, 0, 0, 0, 0, ?_⟩ ?_ ?_
   ·have hu : ∀ j, up (Array.replicate 10 false) j = false := fun j => by unfold up; simp [Array.getD]
    have h (j) (p : Prop) : up (Array.replicate 10 false) j = true → p := fun e => by rw [hu] at e; cases e
    exact { kp := Keep.refl _ _, s8 := rfl, s5 := fun _ => rfl, s6 := fun _ => rfl, t5 := h _ _, t6 := h _ _, s37 := h _ _, s38 := h _ _, s39 := h _ _, s40 := h _ _, s41 := h _ _, s42 := h _ _, s43 := h _ _, s44 := h _ _, d8 := h _ _, d9 := h _ _, d2 := h _ _, d7 := h _ _, at_ := ⟨[], by simp only [List.length_cons, List.length_nil, hu]; rfl⟩ }
   ·intro listed e q hsz ⟨A3, A4, c3, c4, gq, gs, J⟩ i hi;have hlt : i < 10 := ready_lt hi;obtain ⟨r, rfl⟩ := J.at_;have hcase : i = 0 ∨ i = 1 ∨ i = 2 ∨ i = 3 ∨ i = 4 ∨ i = 5 ∨ i = 6 ∨ i = 7 ∨ i = 8 ∨ i = 9 := by omega
    rcases hcase with rfl | rfl | rfl | rfl | rfl | rfl | rfl | rfl | rfl | rfl
    ·have hz : up listed 0 = false := ready_self hi (by rw [hsz]; decide);have h8 : up listed 8 = false := by cases hu : up listed 8 with | false => rfl | true => rw [(J.d8 hu).1] at hz; cases hz
     refine goes_v rfl (ov_move rfl (J.s5 h8)) rfl rfl rfl ?_;refine at_inv ⟨A3, A4, c3, c4, gq, gs, ?_⟩
     try rw [up_set (by rw [hsz]; decide)]
     exact { J with kp := J.kp.put _ rfl, s37 := fun _ => rfl, d8 := fun h => ⟨rfl, (J.d8 h).2⟩, at_ := ⟨r, rfl⟩ }
    ·have hz : up listed 1 = false := ready_self hi (by rw [hsz]; decide);refine goes_t rfl (ot_buildSlice (cs := [_]) rfl Tryz.underlying35 rfl rfl rfl rfl rfl rfl) rfl rfl rfl ?_;rintro _ _ ⟨gn, rfl, rfl⟩;refine at_pulls [1, 1, 1, 0, 1] rfl ?_;simp only [zca, zna];have h2 : up listed 2 = false := by cases hu : up listed 2 with | false => rfl | true => rw [J.d2 hu] at hz; cases hz
     refine at_inv ⟨A3, A4, c3, c4, gn, gs, ?_⟩
     try rw [up_set (by rw [hsz]; decide)]
     exact { J with kp := J.kp.put _ rfl, s38 := fun _ => rfl, d2 := fun _ => rfl, at_ := ⟨_ :: r, by simp only [show (Nat.beq 1 2 || up listed 2) = up listed 2 from rfl, show (Nat.beq 1 7 || up listed 7) = up listed 7 from rfl, show (Nat.beq 1 6 || up listed 6) = up listed 6 from rfl, show (Nat.beq 1 1 || up listed 1) = true from rfl]; rfl⟩ }
    ·have hz : up listed 2 = false := ready_self hi (by rw [hsz]; decide);have h1u : up listed 1 = true := ready_dep hi rfl rfl;have h0u : up listed 0 = true := ready_dep hi rfl rfl;simp only [h1u, hz];refine goes_t rfl (ot_append (k := 1) (size := 1) (bytes := 16) (ys := [[63]]) (fun _ s => s.rdPt (k := 3) rfl rfl (by simp [bsE])) rfl Tryz.underlying35 (ti := Tryz.t9) rfl rfl rfl rfl rfl (by decide) rfl (J.s37 h0u) (J.s38 h1u) (by simp [bsE, Value.oneCell']) (by simp; omega) (by decide)) rfl rfl rfl ?_;rintro _ _ ⟨An, cn, rfl, rfl⟩;refine at_inv ⟨An, A4, cn, c4, gq, gs, ?_⟩
     try rw [up_set (by rw [hsz]; decide)]
     exact { J with kp := J.kp.put _ rfl, s39 := fun _ => rfl, t5 := fun h => (by rw [(J.d8 h).2] at hz; cases hz), d8 := fun h => ⟨(J.d8 h).1, rfl⟩, d2 := fun _ => h1u, at_ := ⟨r, by simp only [setAt, h1u, show (Nat.beq 2 1 || up listed 1) = up listed 1 from rfl, show (Nat.beq 2 7 || up listed 7) = up listed 7 from rfl, show (Nat.beq 2 6 || up listed 6) = up listed 6 from rfl, show (Nat.beq 2 2 || up listed 2) = true from rfl]; rfl⟩ }
    ·have hz : up listed 3 = false := ready_self hi (by rw [hsz]; decide);have h9 : up listed 9 = false := by cases hu : up listed 9 with | false => rfl | true => rw [(J.d9 hu).1] at hz; cases hz
     refine goes_v rfl (ov_move rfl (J.s6 h9)) rfl rfl rfl ?_;refine at_inv ⟨A3, A4, c3, c4, gq, gs, ?_⟩
     try rw [up_set (by rw [hsz]; decide)]
     exact { J with kp := J.kp.put _ rfl, s40 := fun _ => rfl, d9 := fun h => ⟨rfl, (J.d9 h).2⟩, at_ := ⟨r, rfl⟩ }
    ·refine goes_v rfl (ov_fieldAddr (k := 1) (r := 1) rfl J.s8 rfl rfl) rfl rfl rfl ?_;refine at_inv ⟨A3, A4, c3, c4, gq, gs, ?_⟩
     try rw [up_set (by rw [hsz]; decide)]
     exact { J with kp := J.kp.put _ rfl, s41 := fun _ => rfl, at_ := ⟨r, rfl⟩ }
    ·have h4u : up listed 4 = true := ready_dep hi rfl rfl;refine goes_v rfl (ov_load rfl (J.s41 h4u) (by rw [Tryz.underlying9]; rfl) (fun _ s => s.ld (k := 0) rfl rfl)) rfl rfl rfl ?_;refine at_inv ⟨A3, A4, c3, c4, gq, gs, ?_⟩
     try rw [up_set (by rw [hsz]; decide)]
     exact { J with kp := J.kp.put _ rfl, s42 := fun _ => rfl, at_ := ⟨r, rfl⟩ }
    ·have hz : up listed 6 = false := ready_self hi (by rw [hsz]; decide);have h5u : up listed 5 = true := ready_dep hi rfl rfl;refine at_reval 42 (SV x.2) (J.s42 h5u) rfl ?_;refine goes_t rfl (ot_buildSlice (cs := [_]) rfl Tryz.underlying35 rfl rfl rfl rfl rfl rfl) rfl rfl rfl ?_;rintro _ _ ⟨gn, rfl, rfl⟩;refine at_pulls [1, 1, 1, 1, 0] rfl ?_;simp only [zca, zna];refine at_inv ⟨A3, A4, c3, c4, gq, gn, ?_⟩
     try rw [up_set (by rw [hsz]; decide)]
     exact { J with kp := (J.kp.put _ rfl).put _ rfl, s42 := fun _ => rfl, s43 := fun _ => rfl, d7 := fun _ => rfl, at_ := ⟨_ :: r, by simp only [show (Nat.beq 6 2 || up listed 2) = up listed 2 from rfl, show (Nat.beq 6 7 || up listed 7) = up listed 7 from rfl, show (Nat.beq 6 1 || up listed 1) = up listed 1 from rfl, show (Nat.beq 6 6 || up listed 6) = true from rfl]; rfl⟩ }
    ·have hz : up listed 7 = false := ready_self hi (by rw [hsz]; decide);have h6u : up listed 6 = true := ready_dep hi rfl rfl;have h3u : up listed 3 = true := ready_dep hi rfl rfl;simp only [h6u, hz];refine goes_t rfl (ot_append (k := 2) (size := 1) (bytes := 16) (ys := [x.2]) (fun _ s => s.rdPt (k := 4) rfl rfl (by simp [bsE])) rfl Tryz.underlying35 (ti := Tryz.t9) rfl rfl rfl rfl rfl (by decide) rfl (J.s40 h3u) (J.s43 h6u) (by simp [bsE, Value.oneCell']) (by simp; omega) (by decide)) rfl rfl rfl ?_;rintro _ _ ⟨An, cn, rfl, rfl⟩;refine at_inv ⟨A3, An, c3, cn, gq, gs, ?_⟩
     try rw [up_set (by rw [hsz]; decide)]
     exact { J with kp := J.kp.put _ rfl, s44 := fun _ => rfl, t6 := fun h => (by rw [(J.d9 h).2] at hz; cases hz), d9 := fun h => ⟨(J.d9 h).1, rfl⟩, d7 := fun _ => h6u, at_ := ⟨r, by simp only [setAt, h6u, show (Nat.beq 7 1 || up listed 1) = up listed 1 from rfl, show (Nat.beq 7 2 || up listed 2) = up listed 2 from rfl, show (Nat.beq 7 6 || up listed 6) = up listed 6 from rfl, show (Nat.beq 7 7 || up listed 7) = true from rfl]; rfl⟩ }
    ·have h2u : up listed 2 = true := ready_dep hi rfl rfl;have h0u : up listed 0 = true := ready_dep hi rfl rfl;refine goes_v rfl (ov_assign rfl (J.s39 h2u)) rfl rfl rfl ?_;refine at_inv ⟨A3, A4, c3, c4, gq, gs, ?_⟩
     try rw [up_set (by rw [hsz]; decide)]
     exact { J with kp := J.kp.put _ rfl, s5 := fun h => (by cases h), t5 := fun _ => rfl, d8 := fun _ => ⟨h0u, h2u⟩, at_ := ⟨r, rfl⟩ }
    ·have h7u : up listed 7 = true := ready_dep hi rfl rfl;have h3u : up listed 3 = true := ready_dep hi rfl rfl;refine goes_v rfl (ov_assign rfl (J.s44 h7u)) rfl rfl rfl ?_;refine at_inv ⟨A3, A4, c3, c4, gq, gs, ?_⟩
     try rw [up_set (by rw [hsz]; decide)]
     exact { J with kp := J.kp.put _ rfl, s6 := fun h => (by cases h), t6 := fun _ => rfl, d9 := fun _ => ⟨h3u, h7u⟩, at_ := ⟨r, rfl⟩ }
   ·intro listed e q hsz ⟨A3, A4, c3, c4, gq, gs, J⟩ hr;have h0 : up listed 0 = true := ready_all hr rfl hsz rfl;have hu1 : up listed 1 = true := ready_all hr rfl hsz rfl;have h3 : up listed 3 = true := ready_all hr rfl hsz rfl;have h4 : up listed 4 = true := ready_all hr rfl hsz rfl;have h2 : up listed 2 = true := ready_all hr rfl hsz (by show (up listed 0 && (up listed 1 && true)) = true; simp [h0, hu1]);have h5 : up listed 5 = true := ready_all hr rfl hsz (by show (up listed 4 && true) = true; simp [h4]);have h6 : up listed 6 = true := ready_all hr rfl hsz (by show (up listed 5 && true) = true; simp [h5]);have h7 : up listed 7 = true := ready_all hr rfl hsz (by show (up listed 3 && (up listed 6 && (up listed 2 && true))) = true; simp [h2, h3, h6]);have h8 : up listed 8 = true := ready_all hr rfl hsz (by show (up listed 2 && (up listed 7 && (up listed 0 && (up listed 1 && (up listed 2 && (up listed 3 && (up listed 4 && (up listed 5 && (up listed 6 && (up listed 7 && true)))))))))) = true; simp [h0, hu1, h2, h3, h4, h5, h6, h7]);have h9 : up listed 9 = true := ready_all hr rfl hsz (by show (up listed 7 && (up listed 8 && (up listed 0 && (up listed 1 && (up listed 2 && (up listed 3 && (up listed 4 && (up listed 5 && (up listed 6 && (up listed 7 && (up listed 8 && true))))))))))) = true; simp [h0, hu1, h2, h3, h4, h5, h6, h7, h8]);obtain ⟨r, rfl⟩ := J.at_;simp only [hu1, h2, h6, h7];refine at_lookSub (sj_look J.kp (J.t5 h8) (J.t6 h9)) ?_;refine at_dropMid (xs := [_, _, _, _, _]) ?_;simp only [zca, zna];refine zX 4 rfl ?_;refine zV zI ?_;refine zOR 3 rfl ?_;refine at_roundF (k + 1, (A3, c3), (A4, c4)) hlt (by simp only; omega) ⟨rfl, look_eq rfl (by simp only [hw]), look_eq rfl (by simp only [hst]), trivial⟩ rfl ?_;simp only [setAt, hw, hst];exact zE [1, 1, 3, 3] [0, 0, 0]
  ·have hx : word1 x = [63, 63] := by unfold word1; rw [if_neg (by omega), if_neg (by omega), if_neg (by omega)]
   have hk1 : decide (x.1 = 1) = false := by simp [h1]
   have hk3 : decide (x.1 = 3) = false := by simp [h1]
   have hk6 : decide (x.1 = 6) = false := by simp [h1]
   have hk2 : decide (x.1 = 2) = false := by simp [h1]
   have hk4 : decide (x.1 = 4) = true := by simp [h1]
   rw [if_neg (by omega), hx] at hw;rw [if_neg (by omega), List.append_nil] at hst;refine zC 6 rfl ?_;refine zu ?_;refine zC 6 rfl ?_;refine zV (ov_indexRd (fun _ s => s.rd (k := 2) rfl) rfl Tryz.underlying114 rfl rfl rfl hget) ?_;refine zV (ov_loadRdS (vs := [_, _]) (fun _ s => s.rd (k := 2) rfl) rfl rfl rfl hget rfl rfl) ?_;refine zA Tryz.zeroValue119 fun g1 => ?_;refine zS 0 ?_;simp only [setAt, splice, spliceL, Value.cells];refine zOM [(0,_,_,_)] ⟨rfl,trivial⟩ [0] 15 rfl ?_;refine zg ?_;refine zC 6 rfl ?_;refine zg ?_;refine zC 6 rfl ?_;refine zg ?_;refine zC 7 rfl ?_;refine zg ?_;refine zC 5 rfl ?_;refine zu ?_;refine zC 2 rfl ?_;refine zT (ot_buildSlice (cs := [_]) rfl Tryz.underlying35 rfl rfl rfl rfl rfl rfl) ?_;rintro _ _ ⟨g2, rfl, rfl⟩;refine zT (ot_append (k := 2) (size := 1) (bytes := 16) (ys := [[63, 63]]) (fun _ s => s.rdPt (k := 0) rfl rfl (by simp [bsE])) rfl Tryz.underlying35 (ti := Tryz.t9) rfl rfl rfl rfl rfl (by decide) rfl rfl rfl (by simp [bsE, Value.oneCell']) (by simp; omega) (by decide)) ?_;rintro _ _ ⟨A3, c1, rfl, rfl⟩;simp only [setAt];refine zO 6 rfl ?_;refine zV zI ?_;refine zOR 3 rfl ?_;refine at_roundF (k + 1, (A3, c1), (A2, e2)) hlt (by simp only; omega) ⟨rfl, look_eq rfl (by simp only [hw]), look_eq rfl (by simp only [hst]), trivial⟩ rfl ?_;simp only [setAt, hw, hst];exact zE [2, 2, 2, 2] [0, 0]
  ·have hk1 : decide (x.1 = 1) = false := by simp [h1]
   have hk3 : decide (x.1 = 3) = false := by simp [h1]
   have hk6 : decide (x.1 = 6) = false := by simp [h1]
   have hk2 : decide (x.1 = 2) = false := by simp [h1]
   have hk4 : decide (x.1 = 4) = false := by simp [h1]
   rw [if_pos h1, List.append_nil] at hw;rw [if_neg (by omega), List.append_nil] at hst;refine zC 6 rfl ?_;refine zu ?_;refine zC 6 rfl ?_;refine zV (ov_indexRd (fun _ s => s.rd (k := 2) rfl) rfl Tryz.underlying114 rfl rfl rfl hget) ?_;refine zV (ov_loadRdS (vs := [_, _]) (fun _ s => s.rd (k := 2) rfl) rfl rfl rfl hget rfl rfl) ?_;refine zA Tryz.zeroValue119 fun g1 => ?_;refine zS 0 ?_;simp only [setAt, splice, spliceL, Value.cells];refine zOM [(0,_,_,_)] ⟨rfl,trivial⟩ [0] 15 rfl ?_;refine zg ?_;refine zC 6 rfl ?_;refine zg ?_;refine zC 6 rfl ?_;refine zg ?_;refine zC 7 rfl ?_;refine zg ?_;refine zC 5 rfl ?_;refine zg ?_;refine zC 5 rfl ?_;refine zV zI ?_;refine zOR 3 rfl ?_;refine at_roundF (k + 1, (A1, e1), (A2, e2)) hlt (by simp only; omega) ⟨rfl, look_eq rfl (by simp only [hw]), look_eq rfl (by simp only [hst]), trivial⟩ rfl ?_;simp only [setAt, hw, hst];exact zE [1, 1, 1, 1] [0]
  ·have hx : word1 x = Lib.replaceAll x.2 [63] [63, 63] := by unfold word1; rw [if_neg (by omega), if_neg (by omega), if_pos h1]
   have hk1 : decide (x.1 = 1) = false := by simp [h1]
   have hk3 : decide (x.1 = 3) = false := by simp [h1]
   have hk6 : decide (x.1 = 6) = true := by simp [h1]
   have hk2 : decide (x.1 = 2) = false := by simp [h1]
   have hk4 : decide (x.1 = 4) = false := by simp [h1]
   rw [if_neg (by omega), hx] at hw;rw [if_neg (by omega), List.append_nil] at hst
   have hcnt : Lib.countB ⟨x.2.toArray⟩ ⟨([63] : BL).toArray⟩ ≤ 10 := by
    try rw [hch]
    have := byte_all' (p := fun c => decide (Lib.countB ⟨([c] : BL).toArray⟩ ⟨([63] : BL).toArray⟩ ≤ 10)) (by decide +kernel) ch
    simpa using this
   have hRA := T104 w0 x.2 [63] [63, 63] hM (by omega) (by decide) (by show _ + _ * 2 ≤ _; omega)
   generalize Lib.replaceAll x.2 [63] [63, 63] = rw1 at hRA hw
   refine zC 6 rfl ?_;refine zu ?_;refine zC 6 rfl ?_;refine zV (ov_indexRd (fun _ s => s.rd (k := 2) rfl) rfl Tryz.underlying114 rfl rfl rfl hget) ?_;refine zV (ov_loadRdS (vs := [_, _]) (fun _ s => s.rd (k := 2) rfl) rfl rfl rfl hget rfl rfl) ?_;refine zA Tryz.zeroValue119 fun g1 => ?_;refine zS 0 ?_;simp only [setAt, splice, spliceL, Value.cells];refine zOM [(0,_,_,_)] ⟨rfl,trivial⟩ [0] 15 rfl ?_;refine zg ?_;refine zC 6 rfl ?_;refine zg ?_;refine zC 6 rfl ?_;refine zu ?_;refine zCM [(0,_,_,_)] ⟨rfl,trivial⟩ [0] 4 rfl ?_;refine zcall [] rfl rfl rfl Tryz.call104 rfl (hRA ) rfl ?_;simp only [zca, zna, splice, spliceL];refine zT (ot_buildSlice (cs := [_]) rfl Tryz.underlying35 rfl rfl rfl rfl rfl rfl) ?_;rintro _ _ ⟨g2, rfl, rfl⟩;refine zT (ot_append (k := 2) (size := 1) (bytes := 16) (ys := [rw1]) (fun _ s => s.rdPt (k := 0) rfl rfl (by simp [bsE])) rfl Tryz.underlying35 (ti := Tryz.t9) rfl rfl rfl rfl rfl (by decide) rfl rfl rfl (by simp [bsE, Value.oneCell']) (by simp; omega) (by decide)) ?_;rintro _ _ ⟨A3, c1, rfl, rfl⟩;simp only [setAt];refine zO 6 rfl ?_;refine zV zI ?_;refine zOR 3 rfl ?_;refine at_roundF (k + 1, (A3, c1), (A2, e2)) hlt (by simp only; omega) ⟨rfl, look_eq rfl (by simp only [hw]), look_eq rfl (by simp only [hst]), trivial⟩ rfl ?_;simp only [setAt, hw, hst];exact zE [2, 2, 2, 2] [0, 0]
 ·have hi1 : decide ((k : Int) < l.length) = false := decide_eq_false (by omega)
  try rw [List.take_of_length_le hge]
  have hwb : ∀ w ∈ wordsL l, w.length ≤ 200 := fun w hw => by
   obtain ⟨t, ht, rfl⟩ := List.mem_map.1 hw;have := (List.mem_filter.1 ht).1;exact word1_len (hok t this) (hsh t this)
  have hwl := words_len l;have htx : textL l = Lib.join (trimW (wordsL l)) [32] := rfl;obtain ⟨W0, hW0⟩ : ∃ W, W = wordsL l := ⟨_, rfl⟩;rw [← hW0] at hwb hwl htx ⊢;obtain ⟨S, hS⟩ : ∃ S, S = strsL l := ⟨_, rfl⟩
  try rw [← hS]
  refine zC 6 rfl ?_;refine zg ?_;refine zC 7 rfl ?_;refine at_loopK [60, 61, 62, 63, 64, 65, 66, 67, 68, 69, 70, 71, 72, 73, 74, 75, 76, 5] (fun i : List BL => i.length ≤ 200 ∧ trimW W0 = trimW i) (fun i => [(5, .slice A1 i.length e1)]) (fun i q => setAt 0 (Row bsE 9 1 A1 e1 i) q) (fun i => i.length) W0 ⟨by omega, rfl⟩ ⟨rfl, trivial⟩ (fun _ s => s) ?_;rintro i ⟨hil, hie⟩;simp only [setAt] at hil hie ⊢
  have hrest : trimW W0 = i → (Lib.join i [32]).length ≤ 140737488355328 := fun e => by
   have := join_le2 (m := 200) i (fun w hw => hwb w (trimW_sub (by rw [e]; exact hw)));have : i.length * 201 ≤ 200 * 201 := Nat.mul_le_mul_right _ hil;omega
  rcases List.eq_nil_or_concat i with h0 | ⟨i', x, rfl⟩
  ·have hi3 : decide ((i.length : Int) > 0) = false := by rw [h0]; decide
   have hend : trimW W0 = i := by rw [hie, h0]; rfl
   have hjl := hrest hend;have htx2 : textL l = Lib.join i [32] := by rw [htx, hend]
   refine zC 7 rfl ?_;refine zrf 63 ?_;refine zO 19 rfl ?_;refine zcall [0] rfl rfl rfl Tryz.call105 rfl (T105 _ _ _ (by first | assumption | rfl | omega | decide | (simp; done) | (simp at *; omega)) (by first | assumption | rfl | omega | decide | (simp; done) | (simp at *; omega))) rfl ?_;simp only [zca, zna, splice, spliceL];refine zO 6 rfl ?_;refine zT (ot_call (ks := []) rfl rfl rfl Tryz.call106 rfl (T106 _) rfl) ?_;rintro v0 _ ⟨m0, hp0, rfl⟩;obtain ⟨A3, hp0⟩ := hp0;obtain ⟨rfl, rfl⟩ := hp0;simp only [zca, zna, splice, spliceL];refine zO 5 rfl ?_
   generalize Lib.join i [32] = tx at htx2 ⊢
   refine at_loopK [82, 83, 84, 11, 85, 86, 87, 88, 89, 90, 91, 92, 93, 81] (fun q : Nat => q ≤ 5 ∧ ∀ (j : Nat) (f : BL × Nat), j < q → formsL[j]? = some f → f.1 ≠ tx) (fun q => [(81, .int .i64 (q : Nat))]) (fun q m => m) (fun q => 5 - q) 0 ⟨Nat.zero_le _, fun j f h => absurd h (by omega)⟩ ⟨rfl, trivial⟩ (fun _ s => s) ?_;rintro q ⟨hq, hno⟩
   have step (f : BL × Nat) (hf : formsL[q]? = some f) (hne : f.1 ≠ tx) : ∀ (j : Nat) (g : BL × Nat), j < q + 1 → formsL[j]? = some g → g.1 ≠ tx := fun j g hj hg => by
    by_cases e : j = q
    ·subst e; rw [hf] at hg; cases hg; exact hne
    ·exact hno j g (by omega) hg
   rcases Nat.lt_or_ge q 5 with hqlt | hqge
   ·have hq5 : decide ((q : Int) < (formsL.length : Nat)) = true := decide_eq_true (by show (q : Int) < 5; omega);have hqc : q = 0 ∨ q = 1 ∨ q = 2 ∨ q = 3 ∨ q = 4 := by omega
    rcases hqc with rfl | rfl | rfl | rfl | rfl
    ·have hgf : formsL[0]? = some (form1, 143) := rfl
     by_cases he1 : form1 = tx
     ·have hie1 : decide (form1 = tx) = true := decide_eq_true he1;have htf : textL l = form1 := by rw [htx2, he1]
      have hol : ofL l = (1, (strsL l).getD 0 [], []) := by
       unfold ofL
       try rw [htf]
       try rw [if_pos rfl]
      have hsl0 : S.length = 1 := by rw [hS, text_strs hok form1_join toks1_ok toks1_words htf]; decide
      try rw [hol]
      try rw [← hS]
      refine zC 13 rfl ?_;refine zV (ov_indexRd (fun _ s => s.rd (k := 0) rfl) rfl Tryz.underlying184 rfl rfl rfl hgf) ?_;refine zV (ov_loadRdS (vs := [_, _]) (fun _ s => s.rd (k := 0) rfl) rfl rfl rfl hgf rfl rfl) ?_;refine zA Tryz.zeroValue188 fun g1 => ?_;refine zS 0 ?_;simp only [setAt, splice, spliceL, Value.cells];refine zOM [(0,_,_,_)] ⟨rfl,trivial⟩ [0] 10 rfl ?_;refine zu ?_;refine zCM [(0,_,_,_)] ⟨rfl,trivial⟩ [0] 5 rfl ?_;refine zcall [3] rfl rfl rfl Tryz.call143 rfl (T143 _ (by first | assumption | rfl | omega | decide | (simp; done) | (simp at *; omega))) rfl ?_;simp only [zca, zna, splice, spliceL];refine zS 5 ?_;simp only [setAt, splice, spliceL, Value.cells];refine zO 8 rfl ?_;refine zQ ?_;refine at_end ?_;refine at_fin (rsV rfl (res_cellS (k := 5) (vs := [_, _, _]) rfl rfl rfl rfl ⟨rfl, rfl, rfl, trivial⟩)) ?_
      refine ⟨_, ⟨by try rw [hol]
                     try rw [← hS]
                     try rfl, rfl⟩, ?_⟩
      exact zE [] [0, 0, 0, 0, 0, 0]
     ·have hie1 : decide (form1 = tx) = false := decide_eq_false he1;refine zC 13 rfl ?_;refine zV (ov_indexRd (fun _ s => s.rd (k := 0) rfl) rfl Tryz.underlying184 rfl rfl rfl hgf) ?_;refine zV (ov_loadRdS (vs := [_, _]) (fun _ s => s.rd (k := 0) rfl) rfl rfl rfl hgf rfl rfl) ?_;refine zA Tryz.zeroValue188 fun g1 => ?_;refine zS 0 ?_;simp only [setAt, splice, spliceL, Value.cells];refine zOM [(0,_,_,_)] ⟨rfl,trivial⟩ [0] 10 rfl ?_;refine zg ?_;refine zC 4 rfl ?_;refine zV zI ?_;refine zOR 3 rfl ?_;refine at_roundF 1 ⟨by omega, step _ hgf he1⟩ (by omega) ⟨rfl, trivial⟩ rfl ?_;exact zE [1, 1, 1, 1, 1] [0]
    ·have hgf : formsL[1]? = some (form2, 144) := rfl
     by_cases he1 : form2 = tx
     ·have hie1 : decide (form2 = tx) = true := decide_eq_true he1;have htf : textL l = form2 := by rw [htx2, he1]
      have hol : ofL l = (2, [], []) := by
       unfold ofL
       try rw [htf]
       try rw [if_neg (by decide)]
       try rw [if_pos rfl]
      have hsl0 : S.length = 0 := by rw [hS, text_strs hok form2_join toks2_ok toks2_words htf]; decide
      try rw [hol]
      try rw [← hS]
      refine zC 13 rfl ?_;refine zV (ov_indexRd (fun _ s => s.rd (k := 0) rfl) rfl Tryz.underlying184 rfl rfl rfl hgf) ?_;refine zV (ov_loadRdS (vs := [_, _]) (fun _ s => s.rd (k := 0) rfl) rfl rfl rfl hgf rfl rfl) ?_;refine zA Tryz.zeroValue188 fun g1 => ?_;refine zS 0 ?_;simp only [setAt, splice, spliceL, Value.cells];refine zOM [(0,_,_,_)] ⟨rfl,trivial⟩ [0] 10 rfl ?_;refine zu ?_;refine zCM [(0,_,_,_)] ⟨rfl,trivial⟩ [0] 5 rfl ?_;refine zcall [] rfl rfl rfl Tryz.call144 rfl (T144 _ _) rfl ?_;simp only [zca, zna, splice, spliceL];refine zS 5 ?_;simp only [setAt, splice, spliceL, Value.cells];refine zO 8 rfl ?_;refine zQ ?_;refine at_end ?_;refine at_fin (rsV rfl (res_cellS (k := 5) (vs := [_, _, _]) rfl rfl rfl rfl ⟨rfl, rfl, rfl, trivial⟩)) ?_
      refine ⟨_, ⟨by try rw [hol]
                     try rw [← hS]
                     try rfl, rfl⟩, ?_⟩
      exact zE [] [0, 0, 0, 0, 0, 0]
     ·have hie1 : decide (form2 = tx) = false := decide_eq_false he1;refine zC 13 rfl ?_;refine zV (ov_indexRd (fun _ s => s.rd (k := 0) rfl) rfl Tryz.underlying184 rfl rfl rfl hgf) ?_;refine zV (ov_loadRdS (vs := [_, _]) (fun _ s => s.rd (k := 0) rfl) rfl rfl rfl hgf rfl rfl) ?_;refine zA Tryz.zeroValue188 fun g1 => ?_;refine zS 0 ?_;simp only [setAt, splice, spliceL, Value.cells];refine zOM [(0,_,_,_)] ⟨rfl,trivial⟩ [0] 10 rfl ?_;refine zg ?_;refine zC 4 rfl ?_;refine zV zI ?_;refine zOR 3 rfl ?_;refine at_roundF 2 ⟨by omega, step _ hgf he1⟩ (by omega) ⟨rfl, trivial⟩ rfl ?_;exact zE [1, 1, 1, 1, 1] [0]
    ·have hgf : formsL[2]? = some (form3, 145) := rfl
     by_cases he1 : form3 = tx
     ·have hie1 : decide (form3 = tx) = true := decide_eq_true he1;have htf : textL l = form3 := by rw [htx2, he1]
      have hol : ofL l = (3, (strsL l).getD 0 [], (strsL l).getD 1 []) := by
       unfold ofL
       try rw [htf]
       try rw [if_neg (by decide)]
       try rw [if_neg (by decide)]
       try rw [if_pos rfl]
      have hsl0 : S.length = 2 := by rw [hS, text_strs hok form3_join toks3_ok toks3_words htf]; decide
      try rw [hol]
      try rw [← hS]
      refine zC 13 rfl ?_;refine zV (ov_indexRd (fun _ s => s.rd (k := 0) rfl) rfl Tryz.underlying184 rfl rfl rfl hgf) ?_;refine zV (ov_loadRdS (vs := [_, _]) (fun _ s => s.rd (k := 0) rfl) rfl rfl rfl hgf rfl rfl) ?_;refine zA Tryz.zeroValue188 fun g1 => ?_;refine zS 0 ?_;simp only [setAt, splice, spliceL, Value.cells];refine zOM [(0,_,_,_)] ⟨rfl,trivial⟩ [0] 10 rfl ?_;refine zu ?_;refine zCM [(0,_,_,_)] ⟨rfl,trivial⟩ [0] 5 rfl ?_;refine zcall [3] rfl rfl rfl Tryz.call145 rfl (T145 _ (by first | assumption | rfl | omega | decide | (simp; done) | (simp at *; omega))) rfl ?_;simp only [zca, zna, splice, spliceL];refine zS 5 ?_;simp only [setAt, splice, spliceL, Value.cells];refine zO 8 rfl ?_;refine zQ ?_;refine at_end ?_;refine at_fin (rsV rfl (res_cellS (k := 5) (vs := [_, _, _]) rfl rfl rfl rfl ⟨rfl, rfl, rfl, trivial⟩)) ?_
      refine ⟨_, ⟨by try rw [hol]
                     try rw [← hS]
                     try rfl, rfl⟩, ?_⟩
      exact zE [] [0, 0, 0, 0, 0, 0]
     ·have hie1 : decide (form3 = tx) = false := decide_eq_false he1;refine zC 13 rfl ?_;refine zV (ov_indexRd (fun _ s => s.rd (k := 0) rfl) rfl Tryz.underlying184 rfl rfl rfl hgf) ?_;refine zV (ov_loadRdS (vs := [_, _]) (fun _ s => s.rd (k := 0) rfl) rfl rfl rfl hgf rfl rfl) ?_;refine zA Tryz.zeroValue188 fun g1 => ?_;refine zS 0 ?_;simp only [setAt, splice, spliceL, Value.cells];refine zOM [(0,_,_,_)] ⟨rfl,trivial⟩ [0] 10 rfl ?_;refine zg ?_;refine zC 4 rfl ?_;refine zV zI ?_;refine zOR 3 rfl ?_;refine at_roundF 3 ⟨by omega, step _ hgf he1⟩ (by omega) ⟨rfl, trivial⟩ rfl ?_;exact zE [1, 1, 1, 1, 1] [0]
    ·have hgf : formsL[3]? = some (form4, 146) := rfl
     by_cases he1 : form4 = tx
     ·have hie1 : decide (form4 = tx) = true := decide_eq_true he1;have htf : textL l = form4 := by rw [htx2, he1]
      have hol : ofL l = (4, (strsL l).getD 1 [], (strsL l).getD 0 []) := by
       unfold ofL
       try rw [htf]
       try rw [if_neg (by decide)]
       try rw [if_neg (by decide)]
       try rw [if_neg (by decide)]
       try rw [if_pos rfl]
      have hsl0 : S.length = 2 := by rw [hS, text_strs hok form4_join toks4_ok toks4_words htf]; decide
      try rw [hol]
      try rw [← hS]
      refine zC 13 rfl ?_;refine zV (ov_indexRd (fun _ s => s.rd (k := 0) rfl) rfl Tryz.underlying184 rfl rfl rfl hgf) ?_;refine zV (ov_loadRdS (vs := [_, _]) (fun _ s => s.rd (k := 0) rfl) rfl rfl rfl hgf rfl rfl) ?_;refine zA Tryz.zeroValue188 fun g1 => ?_;refine zS 0 ?_;simp only [setAt, splice, spliceL, Value.cells];refine zOM [(0,_,_,_)] ⟨rfl,trivial⟩ [0] 10 rfl ?_;refine zu ?_;refine zCM [(0,_,_,_)] ⟨rfl,trivial⟩ [0] 5 rfl ?_;refine zcall [3] rfl rfl rfl Tryz.call146 rfl (T146 _ (by first | assumption | rfl | omega | decide | (simp; done) | (simp at *; omega))) rfl ?_;simp only [zca, zna, splice, spliceL];refine zS 5 ?_;simp only [setAt, splice, spliceL, Value.cells];refine zO 8 rfl ?_;refine zQ ?_;refine at_end ?_;refine at_fin (rsV rfl (res_cellS (k := 5) (vs := [_, _, _]) rfl rfl rfl rfl ⟨rfl, rfl, rfl, trivial⟩)) ?_
      refine ⟨_, ⟨by try rw [hol]
                     try rw [← hS]
                     try rfl, rfl⟩, ?_⟩
      exact zE [] [0, 0, 0, 0, 0, 0]
     ·have hie1 : decide (form4 = tx) = false := decide_eq_false he1;refine zC 13 rfl ?_;refine zV (ov_indexRd (fun _ s => s.rd (k := 0) rfl) rfl Tryz.underlying184 rfl rfl rfl hgf) ?_;refine zV (ov_loadRdS (vs := [_, _]) (fun _ s => s.rd (k := 0) rfl) rfl rfl rfl hgf rfl rfl) ?_;refine zA Tryz.zeroValue188 fun g1 => ?_;refine zS 0 ?_;simp only [setAt, splice, spliceL, Value.cells];refine zOM [(0,_,_,_)] ⟨rfl,trivial⟩ [0] 10 rfl ?_;refine zg ?_;refine zC 4 rfl ?_;refine zV zI ?_;refine zOR 3 rfl ?_;refine at_roundF 4 ⟨by omega, step _ hgf he1⟩ (by omega) ⟨rfl, trivial⟩ rfl ?_;exact zE [1, 1, 1, 1, 1] [0]
    ·have hgf : formsL[4]? = some (form5, 147) := rfl
     by_cases he1 : form5 = tx
     ·have hie1 : decide (form5 = tx) = true := decide_eq_true he1;have htf : textL l = form5 := by rw [htx2, he1]
      have hol : ofL l = (5, (strsL l).getD 0 [], []) := by
       unfold ofL
       try rw [htf]
       try rw [if_neg (by decide)]
       try rw [if_neg (by decide)]
       try rw [if_neg (by decide)]
       try rw [if_neg (by decide)]
       try rw [if_pos rfl]
      have hsl0 : S.length = 1 := by rw [hS, text_strs hok form5_join toks5_ok toks5_words htf]; decide
      try rw [hol]
      try rw [← hS]
      refine zC 13 rfl ?_;refine zV (ov_indexRd (fun _ s => s.rd (k := 0) rfl) rfl Tryz.underlying184 rfl rfl rfl hgf) ?_;refine zV (ov_loadRdS (vs := [_, _]) (fun _ s => s.rd (k := 0) rfl) rfl rfl rfl hgf rfl rfl) ?_;refine zA Tryz.zeroValue188 fun g1 => ?_;refine zS 0 ?_;simp only [setAt, splice, spliceL, Value.cells];refine zOM [(0,_,_,_)] ⟨rfl,trivial⟩ [0] 10 rfl ?_;refine zu ?_;refine zCM [(0,_,_,_)] ⟨rfl,trivial⟩ [0] 5 rfl ?_;refine zcall [3] rfl rfl rfl Tryz.call147 rfl (T147 _ (by first | assumption | rfl | omega | decide | (simp; done) | (simp at *; omega))) rfl ?_;simp only [zca, zna, splice, spliceL];refine zS 5 ?_;simp only [setAt, splice, spliceL, Value.cells];refine zO 8 rfl ?_;refine zQ ?_;refine at_end ?_;refine at_fin (rsV rfl (res_cellS (k := 5) (vs := [_, _, _]) rfl rfl rfl rfl ⟨rfl, rfl, rfl, trivial⟩)) ?_
      refine ⟨_, ⟨by try rw [hol]
                     try rw [← hS]
                     try rfl, rfl⟩, ?_⟩
      exact zE [] [0, 0, 0, 0, 0, 0]
     ·have hie1 : decide (form5 = tx) = false := decide_eq_false he1;refine zC 13 rfl ?_;refine zV (ov_indexRd (fun _ s => s.rd (k := 0) rfl) rfl Tryz.underlying184 rfl rfl rfl hgf) ?_;refine zV (ov_loadRdS (vs := [_, _]) (fun _ s => s.rd (k := 0) rfl) rfl rfl rfl hgf rfl rfl) ?_;refine zA Tryz.zeroValue188 fun g1 => ?_;refine zS 0 ?_;simp only [setAt, splice, spliceL, Value.cells];refine zOM [(0,_,_,_)] ⟨rfl,trivial⟩ [0] 10 rfl ?_;refine zg ?_;refine zC 4 rfl ?_;refine zV zI ?_;refine zOR 3 rfl ?_;refine at_roundF 5 ⟨by omega, step _ hgf he1⟩ (by omega) ⟨rfl, trivial⟩ rfl ?_;exact zE [1, 1, 1, 1, 1] [0]
   ·have hq5 : decide ((q : Int) < (formsL.length : Nat)) = false := decide_eq_false (by show ¬ (q : Int) < 5; omega)
    have hol : ofL l = (0, [], []) := by
     unfold ofL
     try rw [htx2]
     try rw [if_neg (fun e => hno 0 (form1, 143) (by omega) rfl e.symm)]
     try rw [if_neg (fun e => hno 1 (form2, 144) (by omega) rfl e.symm)]
     try rw [if_neg (fun e => hno 2 (form3, 145) (by omega) rfl e.symm)]
     try rw [if_neg (fun e => hno 3 (form4, 146) (by omega) rfl e.symm)]
     try rw [if_neg (fun e => hno 4 (form5, 147) (by omega) rfl e.symm)]
    refine zC 6 rfl ?_;refine zf ?_;refine zC 7 rfl ?_;refine zV (ov_build (cs := [_, _, _]) rfl rfl rfl rfl) ?_;refine zS 4 ?_;simp only [setAt, splice, spliceL, Value.cells];refine zO 3 rfl ?_;refine zQ ?_;refine at_end ?_;refine at_fin (rsV rfl (res_cellS (k := 4) (vs := [_, _, _]) rfl rfl rfl rfl ⟨rfl, rfl, rfl, trivial⟩)) ?_;refine ⟨_, ⟨by rw [hol]; rfl, rfl⟩, ?_⟩;exact zE [] [0, 0, 0, 0, 0]
  ·rw [List.concat_eq_append] at *;have hi3 : decide (((i' ++ [x]).length : Int) > 0) = true := decide_eq_true (by rw [List.length_append, List.length_cons, List.length_nil]; omega);refine at_rowLen 0 rfl (fun hle _ => ?_);have hget : (i' ++ [x])[i'.length]? = some x := by simp
   have hln : ((i' ++ [x]).length : Int) - 1 = ((i'.length : Nat) : Int) := by simp
   rw [trimW_snoc] at hie;refine zC 7 rfl ?_;refine zru 63 ?_;refine zO 3 rfl ?_;refine at_wanted (j := 3) rfl ?_;refine zV zI ?_;refine at_wanted (j := 3) rfl ?_;refine at_reval 67 (.int .i64 (i'.length : Nat)) rfl (congrArg (Value.int .i64) hln) ?_
   cases hx : decide (x = [59]) with
   | true =>
    rw [if_pos (of_decide_eq_true hx)] at hie;refine zV (ov_indexRd (fun _ s => s.rd (k := 0) rfl) rfl Tryz.underlying35 rfl rfl rfl hget) ?_;refine at_wanted (j := 3) rfl ?_;refine zV (ov_loadRd0 (fun _ s => s.rd (k := 0) rfl) rfl rfl rfl hget rfl) ?_;refine zO 4 rfl ?_;refine zt ?_;refine zC 7 rfl ?_;refine zV zI ?_;refine at_reval 75 (.int .i64 (i'.length : Nat)) rfl (congrArg (Value.int .i64) hln) ?_;have hkk : i'.length ≤ (i' ++ [x]).length := by simp
    refine zV (ov_sliceTo rfl Tryz.underlying35 rfl rfl rfl (by first | assumption | omega) (by assumption)) ?_;refine zOR 4 rfl ?_;refine at_rowTk i'.length 0 rfl ?_;have htk : (i' ++ [x]).take i'.length = i' := List.take_left
    try rw [htk]
    simp only [setAt];refine at_roundF i' ⟨by simp at hil; omega, hie⟩ (by simp) ⟨rfl, trivial⟩ rfl ?_;exact zE [0, 0, 0, 0] []
   | false =>
    rw [if_neg (of_decide_eq_false hx)] at hie;have hjl := hrest hie;have htx2 : textL l = Lib.join (i' ++ [x]) [32] := by rw [htx, hie]
    refine zV (ov_indexRd (fun _ s => s.rd (k := 0) rfl) rfl Tryz.underlying35 rfl rfl rfl hget) ?_;refine at_wanted (j := 3) rfl ?_;refine zV (ov_loadRd0 (fun _ s => s.rd (k := 0) rfl) rfl rfl rfl hget rfl) ?_;refine zO 4 rfl ?_;refine zf ?_;refine zC 8 rfl ?_;refine zcall [0] rfl rfl rfl Tryz.call105 rfl (T105 _ _ _ (by first | assumption | rfl | omega | decide | (simp; done) | (simp at *; omega)) (by first | assumption | rfl | omega | decide | (simp; done) | (simp at *; omega))) rfl ?_;simp only [zca, zna, splice, spliceL];refine zO 6 rfl ?_;refine zT (ot_call (ks := []) rfl rfl rfl Tryz.call106 rfl (T106 _) rfl) ?_;rintro v0 _ ⟨m0, hp0, rfl⟩;obtain ⟨A3, hp0⟩ := hp0;obtain ⟨rfl, rfl⟩ := hp0;simp only [zca, zna, splice, spliceL];refine zO 5 rfl ?_
    generalize Lib.join (i' ++ [x]) [32] = tx at htx2 ⊢
    refine at_loopK [82, 83, 84, 11, 85, 86, 87, 88, 89, 90, 91, 92, 93, 81] (fun q : Nat => q ≤ 5 ∧ ∀ (j : Nat) (f : BL × Nat), j < q → formsL[j]? = some f → f.1 ≠ tx) (fun q => [(81, .int .i64 (q : Nat))]) (fun q m => m) (fun q => 5 - q) 0 ⟨Nat.zero_le _, fun j f h => absurd h (by omega)⟩ ⟨rfl, trivial⟩ (fun _ s => s) ?_;rintro q ⟨hq, hno⟩
    have step (f : BL × Nat) (hf : formsL[q]? = some f) (hne : f.1 ≠ tx) : ∀ (j : Nat) (g : BL × Nat), j < q + 1 → formsL[j]? = some g → g.1 ≠ tx := fun j g hj hg => by
     by_cases e : j = q
     ·subst e; rw [hf] at hg; cases hg; exact hne
     ·exact hno j g (by omega) hg
    rcases Nat.lt_or_ge q 5 with hqlt | hqge
    ·have hq5 : decide ((q : Int) < (formsL.length : Nat)) = true := decide_eq_true (by show (q : Int) < 5; omega);have hqc : q = 0 ∨ q = 1 ∨ q = 2 ∨ q = 3 ∨ q = 4 := by omega
     rcases hqc with rfl | rfl | rfl | rfl | rfl
     ·have hgf : formsL[0]? = some (form1, 143) := rfl
      by_cases he1 : form1 = tx
      ·have hie1 : decide (form1 = tx) = true := decide_eq_true he1;have htf : textL l = form1 := by rw [htx2, he1]
       have hol : ofL l = (1, (strsL l).getD 0 [], []) := by
        unfold ofL
        try rw [htf]
        try rw [if_pos rfl]
       have hsl0 : S.length = 1 := by rw [hS, text_strs hok form1_join toks1_ok toks1_words htf]; decide
       try rw [hol]
       try rw [← hS]
       refine zC 13 rfl ?_;refine zV (ov_indexRd (fun _ s => s.rd (k := 0) rfl) rfl Tryz.underlying184 rfl rfl rfl hgf) ?_;refine zV (ov_loadRdS (vs := [_, _]) (fun _ s => s.rd (k := 0) rfl) rfl rfl rfl hgf rfl rfl) ?_;refine zA Tryz.zeroValue188 fun g1 => ?_;refine zS 0 ?_;simp only [setAt, splice, spliceL, Value.cells];refine zOM [(0,_,_,_)] ⟨rfl,trivial⟩ [0] 10 rfl ?_;refine zu ?_;refine zCM [(0,_,_,_)] ⟨rfl,trivial⟩ [0] 5 rfl ?_;refine zcall [3] rfl rfl rfl Tryz.call143 rfl (T143 _ (by first | assumption | rfl | omega | decide | (simp; done) | (simp at *; omega))) rfl ?_;simp only [zca, zna, splice, spliceL];refine zS 5 ?_;simp only [setAt, splice, spliceL, Value.cells];refine zO 8 rfl ?_;refine zQ ?_;refine at_end ?_;refine at_fin (rsV rfl (res_cellS (k := 5) (vs := [_, _, _]) rfl rfl rfl rfl ⟨rfl, rfl, rfl, trivial⟩)) ?_
       refine ⟨_, ⟨by try rw [hol]
                      try rw [← hS]
                      try rfl, rfl⟩, ?_⟩
       exact zE [] [0, 0, 0, 0, 0, 0]
      ·have hie1 : decide (form1 = tx) = false := decide_eq_false he1;refine zC 13 rfl ?_;refine zV (ov_indexRd (fun _ s => s.rd (k := 0) rfl) rfl Tryz.underlying184 rfl rfl rfl hgf) ?_;refine zV (ov_loadRdS (vs := [_, _]) (fun _ s => s.rd (k := 0) rfl) rfl rfl rfl hgf rfl rfl) ?_;refine zA Tryz.zeroValue188 fun g1 => ?_;refine zS 0 ?_;simp only [setAt, splice, spliceL, Value.cells];refine zOM [(0,_,_,_)] ⟨rfl,trivial⟩ [0] 10 rfl ?_;refine zg ?_;refine zC 4 rfl ?_;refine zV zI ?_;refine zOR 3 rfl ?_;refine at_roundF 1 ⟨by omega, step _ hgf he1⟩ (by omega) ⟨rfl, trivial⟩ rfl ?_;exact zE [1, 1, 1, 1, 1] [0]
     ·have hgf : formsL[1]? = some (form2, 144) := rfl
      by_cases he1 : form2 = tx
      ·have hie1 : decide (form2 = tx) = true := decide_eq_true he1;have htf : textL l = form2 := by rw [htx2, he1]
       have hol : ofL l = (2, [], []) := by
        unfold ofL
        try rw [htf]
        try rw [if_neg (by decide)]
        try rw [if_pos rfl]
       have hsl0 : S.length = 0 := by rw [hS, text_strs hok form2_join toks2_ok toks2_words htf]; decide
       try rw [hol]
       try rw [← hS]
       refine zC 13 rfl ?_;refine zV (ov_indexRd (fun _ s => s.rd (k := 0) rfl) rfl Tryz.underlying184 rfl rfl rfl hgf) ?_;refine zV (ov_loadRdS (vs := [_, _]) (fun _ s => s.rd (k := 0) rfl) rfl rfl rfl hgf rfl rfl) ?_;refine zA Tryz.zeroValue188 fun g1 => ?_;refine zS 0 ?_;simp only [setAt, splice, spliceL, Value.cells];refine zOM [(0,_,_,_)] ⟨rfl,trivial⟩ [0] 10 rfl ?_;refine zu ?_;refine zCM [(0,_,_,_)] ⟨rfl,trivial⟩ [0] 5 rfl ?_;refine zcall [] rfl rfl rfl Tryz.call144 rfl (T144 _ _) rfl ?_;simp only [zca, zna, splice, spliceL];refine zS 5 ?_;simp only [setAt, splice, spliceL, Value.cells];refine zO 8 rfl ?_;refine zQ ?_;refine at_end ?_;refine at_fin (rsV rfl (res_cellS (k := 5) (vs := [_, _, _]) rfl rfl rfl rfl ⟨rfl, rfl, rfl, trivial⟩)) ?_
       refine ⟨_, ⟨by try rw [hol]
                      try rw [← hS]
                      try rfl, rfl⟩, ?_⟩
       exact zE [] [0, 0, 0, 0, 0, 0]
      ·have hie1 : decide (form2 = tx) = false := decide_eq_false he1;refine zC 13 rfl ?_;refine zV (ov_indexRd (fun _ s => s.rd (k := 0) rfl) rfl Tryz.underlying184 rfl rfl rfl hgf) ?_;refine zV (ov_loadRdS (vs := [_, _]) (fun _ s => s.rd (k := 0) rfl) rfl rfl rfl hgf rfl rfl) ?_;refine zA Tryz.zeroValue188 fun g1 => ?_;refine zS 0 ?_;simp only [setAt, splice, spliceL, Value.cells];refine zOM [(0,_,_,_)] ⟨rfl,trivial⟩ [0] 10 rfl ?_;refine zg ?_;refine zC 4 rfl ?_;refine zV zI ?_;refine zOR 3 rfl ?_;refine at_roundF 2 ⟨by omega, step _ hgf he1⟩ (by omega) ⟨rfl, trivial⟩ rfl ?_;exact zE [1, 1, 1, 1, 1] [0]
     ·have hgf : formsL[2]? = some (form3, 145) := rfl
      by_cases he1 : form3 = tx
      ·have hie1 : decide (form3 = tx) = true := decide_eq_true he1;have htf : textL l = form3 := by rw [htx2, he1]
       have hol : ofL l = (3, (strsL l).getD 0 [], (strsL l).getD 1 []) := by
        unfold ofL
        try rw [htf]
        try rw [if_neg (by decide)]
        try rw [if_neg (by decide)]
        try rw [if_pos rfl]
       have hsl0 : S.length = 2 := by rw [hS, text_strs hok form3_join toks3_ok toks3_words htf]; decide
       try rw [hol]
       try rw [← hS]
       refine zC 13 rfl ?_;refine zV (ov_indexRd (fun _ s => s.rd (k := 0) rfl) rfl Tryz.underlying184 rfl rfl rfl hgf) ?_;refine zV (ov_loadRdS (vs := [_, _]) (fun _ s => s.rd (k := 0) rfl) rfl rfl rfl hgf rfl rfl) ?_;refine zA Tryz.zeroValue188 fun g1 => ?_;refine zS 0 ?_;simp only [setAt, splice, spliceL, Value.cells];refine zOM [(0,_,_,_)] ⟨rfl,trivial⟩ [0] 10 rfl ?_;refine zu ?_;refine zCM [(0,_,_,_)] ⟨rfl,trivial⟩ [0] 5 rfl ?_;refine zcall [3] rfl rfl rfl Tryz.call145 rfl (T145 _ (by first | assumption | rfl | omega | decide | (simp; done) | (simp at *; omega))) rfl ?_;simp only [zca, zna, splice, spliceL];refine zS 5 ?_;simp only [setAt, splice, spliceL, Value.cells];refine zO 8 rfl ?_;refine zQ ?_;refine at_end ?_;refine at_fin (rsV rfl (res_cellS (k := 5) (vs := [_, _, _]) rfl rfl rfl rfl ⟨rfl, rfl, rfl, trivial⟩)) ?_
       refine ⟨_, ⟨by try rw [hol]
                      try rw [← hS]
                      try rfl, rfl⟩, ?_⟩
       exact zE [] [0, 0, 0, 0, 0, 0]
      ·have hie1 : decide (form3 = tx) = false := decide_eq_false he1;refine zC 13 rfl ?_;refine zV (ov_indexRd (fun _ s => s.rd (k := 0) rfl) rfl Tryz.underlying184 rfl rfl rfl hgf) ?_;refine zV (ov_loadRdS (vs := [_, _]) (fun _ s => s.rd (k := 0) rfl) rfl rfl rfl hgf rfl rfl) ?_;refine zA Tryz.zeroValue188 fun g1 => ?_;refine zS 0 ?_;simp only [setAt, splice, spliceL, Value.cells];refine zOM [(0,_,_,_)] ⟨rfl,trivial⟩ [0] 10 rfl ?_;refine zg ?_;refine zC 4 rfl ?_;refine zV zI ?_;refine zOR 3 rfl ?_;refine at_roundF 3 ⟨by omega, step _ hgf he1⟩ (by omega) ⟨rfl, trivial⟩ rfl ?_;exact zE [1, 1, 1, 1, 1] [0]
     ·have hgf : formsL[3]? = some (form4, 146) := rfl
      by_cases he1 : form4 = tx
      ·have hie1 : decide (form4 = tx) = true := decide_eq_true he1;have htf : textL l = form4 := by rw [htx2, he1]
       have hol : ofL l = (4, (strsL l).getD 1 [], (strsL l).getD 0 []) := by
        unfold ofL
        try rw [htf]
        try rw [if_neg (by decide)]
        try rw [if_neg (by decide)]
        try rw [if_neg (by decide)]
        try rw [if_pos rfl]
       have hsl0 : S.length = 2 := by rw [hS, text_strs hok form4_join toks4_ok toks4_words htf]; decide
       try rw [hol]
       try rw [← hS]
       refine zC 13 rfl ?_;refine zV (ov_indexRd (fun _ s => s.rd (k := 0) rfl) rfl Tryz.underlying184 rfl rfl rfl hgf) ?_;refine zV (ov_loadRdS (vs := [_, _]) (fun _ s => s.rd (k := 0) rfl) rfl rfl rfl hgf rfl rfl) ?_;refine zA Tryz.zeroValue188 fun g1 => ?_;refine zS 0 ?_;simp only [setAt, splice, spliceL, Value.cells];refine zOM [(0,_,_,_)] ⟨rfl,trivial⟩ [0] 10 rfl ?_;refine zu ?_;refine zCM [(0,_,_,_)] ⟨rfl,trivial⟩ [0] 5 rfl ?_;refine zcall [3] rfl rfl rfl Tryz.call146 rfl (T146 _ (by first | assumption | rfl | omega | decide | (simp; done) | (simp at *; omega))) rfl ?_;simp only [zca, zna, splice, spliceL];refine zS 5 ?_;simp only [setAt, splice, spliceL, Value.cells];refine zO 8 rfl ?_;refine zQ ?_;refine at_end ?_;refine at_fin (rsV rfl (res_cellS (k := 5) (vs := [_, _, _]) rfl rfl rfl rfl ⟨rfl, rfl, rfl, trivial⟩)) ?_
       refine ⟨_, ⟨by try rw [hol]
                      try rw [← hS]
                      try rfl, rfl⟩, ?_⟩
       exact zE [] [0, 0, 0, 0, 0, 0]
      ·have hie1 : decide (form4 = tx) = false := decide_eq_false he1;refine zC 13 rfl ?_;refine zV (ov_indexRd (fun _ s => s.rd (k := 0) rfl) rfl Tryz.underlying184 rfl rfl rfl hgf) ?_;refine zV (ov_loadRdS (vs := [_, _]) (fun _ s => s.rd (k := 0) rfl) rfl rfl rfl hgf rfl rfl) ?_;refine zA Tryz.zeroValue188 fun g1 => ?_;refine zS 0 ?_;simp only [setAt, splice, spliceL, Value.cells];refine zOM [(0,_,_,_)] ⟨rfl,trivial⟩ [0] 10 rfl ?_;refine zg ?_;refine zC 4 rfl ?_;refine zV zI ?_;refine zOR 3 rfl ?_;refine at_roundF 4 ⟨by omega, step _ hgf he1⟩ (by omega) ⟨rfl, trivial⟩ rfl ?_;exact zE [1, 1, 1, 1, 1] [0]
     ·have hgf : formsL[4]? = some (form5, 147) := rfl
      by_cases he1 : form5 = tx
      ·have hie1 : decide (form5 = tx) = true := decide_eq_true he1;have htf : textL l = form5 := by rw [htx2, he1]
       have hol : ofL l = (5, (strsL l).getD 0 [], []) := by
        unfold ofL
        try rw [htf]
        try rw [if_neg (by decide)]
        try rw [if_neg (by decide)]
        try rw [if_neg (by decide)]
        try rw [if_neg (by decide)]
        try rw [if_pos rfl]
       have hsl0 : S.length = 1 := by rw [hS, text_strs hok form5_join toks5_ok toks5_words htf]; decide
       try rw [hol]
       try rw [← hS]
       refine zC 13 rfl ?_;refine zV (ov_indexRd (fun _ s => s.rd (k := 0) rfl) rfl Tryz.underlying184 rfl rfl rfl hgf) ?_;refine zV (ov_loadRdS (vs := [_, _]) (fun _ s => s.rd (k := 0) rfl) rfl rfl rfl hgf rfl rfl) ?_;refine zA Tryz.zeroValue188 fun g1 => ?_;refine zS 0 ?_;simp only [setAt, splice, spliceL, Value.cells];refine zOM [(0,_,_,_)] ⟨rfl,trivial⟩ [0] 10 rfl ?_;refine zu ?_;refine zCM [(0,_,_,_)] ⟨rfl,trivial⟩ [0] 5 rfl ?_;refine zcall [3] rfl rfl rfl Tryz.call147 rfl (T147 _ (by first | assumption | rfl | omega | decide | (simp; done) | (simp at *; omega))) rfl ?_;simp only [zca, zna, splice, spliceL];refine zS 5 ?_;simp only [setAt, splice, spliceL, Value.cells];refine zO 8 rfl ?_;refine zQ ?_;refine at_end ?_;refine at_fin (rsV rfl (res_cellS (k := 5) (vs := [_, _, _]) rfl rfl rfl rfl ⟨rfl, rfl, rfl, trivial⟩)) ?_
       refine ⟨_, ⟨by try rw [hol]
                      try rw [← hS]
                      try rfl, rfl⟩, ?_⟩
       exact zE [] [0, 0, 0, 0, 0, 0]
      ·have hie1 : decide (form5 = tx) = false := decide_eq_false he1;refine zC 13 rfl ?_;refine zV (ov_indexRd (fun _ s => s.rd (k := 0) rfl) rfl Tryz.underlying184 rfl rfl rfl hgf) ?_;refine zV (ov_loadRdS (vs := [_, _]) (fun _ s => s.rd (k := 0) rfl) rfl rfl rfl hgf rfl rfl) ?_;refine zA Tryz.zeroValue188 fun g1 => ?_;refine zS 0 ?_;simp only [setAt, splice, spliceL, Value.cells];refine zOM [(0,_,_,_)] ⟨rfl,trivial⟩ [0] 10 rfl ?_;refine zg ?_;refine zC 4 rfl ?_;refine zV zI ?_;refine zOR 3 rfl ?_;refine at_roundF 5 ⟨by omega, step _ hgf he1⟩ (by omega) ⟨rfl, trivial⟩ rfl ?_;exact zE [1, 1, 1, 1, 1] [0]
    ·have hq5 : decide ((q : Int) < (formsL.length : Nat)) = false := decide_eq_false (by show ¬ (q : Int) < 5; omega)
     have hol : ofL l = (0, [], []) := by
      unfold ofL
      try rw [htx2]
      try rw [if_neg (fun e => hno 0 (form1, 143) (by omega) rfl e.symm)]
      try rw [if_neg (fun e => hno 1 (form2, 144) (by omega) rfl e.symm)]
      try rw [if_neg (fun e => hno 2 (form3, 145) (by omega) rfl e.symm)]
      try rw [if_neg (fun e => hno 3 (form4, 146) (by omega) rfl e.symm)]
      try rw [if_neg (fun e => hno 4 (form5, 147) (by omega) rfl e.symm)]
     refine zC 6 rfl ?_;refine zf ?_;refine zC 7 rfl ?_;refine zV (ov_build (cs := [_, _, _]) rfl rfl rfl rfl) ?_;refine zS 4 ?_;simp only [setAt, splice, spliceL, Value.cells];refine zO 3 rfl ?_;refine zQ ?_;refine at_end ?_;refine at_fin (rsV rfl (res_cellS (k := 4) (vs := [_, _, _]) rfl rfl rfl rfl ⟨rfl, rfl, rfl, trivial⟩)) ?_;refine ⟨_, ⟨by rw [hol]; rfl, rfl⟩, ?_⟩;exact zE [] [0, 0, 0, 0, 0]
end Go.Proofs.YtfcmajgnpnlkiaaGreatDoor
