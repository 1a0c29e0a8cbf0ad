/- The statements TallyOrder and TallyMany, walked. -/
import Derived.Test.YtbcackbjajlohaaDoorProg
import Derived.Test.YtbcackbjajlohaaDoorTally5
import Derived.Test.YtbcackbjajlohaaDoorSLStr
import Derived.KernelRfl
set_option linter.unusedSimpArgs false
set_option linter.unusedVariables false
set_option maxRecDepth 100000
namespace Go.Proofs.YtbcackbjajlohaaDoor
open Go Go.Proofs.YtbcackbjajlohaaDoor.SL Go.RowKit
def addA (L : List ByteArray) (cs : List Int) (x : AM) : List Int := addC L cs x.2.1 x.2.2.1
theorem wrap_add2 (n d e : Int) : IntKind.i64.wrap (IntKind.i64.wrap (n + d) + e) = IntKind.i64.wrap (n + d + e) := by
  simp [IntKind.wrap, IntKind.bits, IntKind.signed]; omega
theorem addA_get (L : List ByteArray) (cs : List Int) (x : AM) (k : Nat) : (addA L cs x)[k]? = if posS L x.2.1 = some k then cs[k]?.map (fun n => IntKind.i64.wrap (n + x.2.2.1)) else cs[k]? := by
  unfold addA addC cntOf putC
  cases hp : posS L x.2.1 with
  | none => simp
  | some j =>
    simp only [Option.some.injEq]
    cases hc : cs[j]? with
    | none =>
      simp only []
      split
      · rename_i e; subst e; rw [hc]; rfl
      · rfl
    | some n =>
      simp only []
      rw [List.getElem?_set]
      split
      · rename_i e; subst e
        rw [if_pos (List.getElem?_eq_some_iff.1 hc).1, hc]; rfl
      · rfl
theorem addA_comm (L : List ByteArray) (cs : List Int) (x y : AM) : addA L (addA L cs x) y = addA L (addA L cs y) x := by
  refine List.ext_getElem? fun k => ?_
  rw [addA_get, addA_get, addA_get, addA_get]
  by_cases hx : posS L x.2.1 = some k <;> by_cases hy : posS L y.2.1 = some k <;> simp only [hx, hy, if_true, if_false, reduceCtorEq] <;> try rfl
  cases cs[k]? with
  | none => rfl
  | some n =>
    simp only [Option.map_some]
    rw [wrap_add2, wrap_add2]
    congr 2; omega
theorem fold_rev (L : List ByteArray) (cs : List Int) (l : List AM) : l.reverse.foldl (addA L) cs = l.foldl (addA L) cs :=
  (List.reverse_perm l).foldl_eq' (fun x _ y _ z => addA_comm L z x y) cs
theorem fold_take {L : List ByteArray} {cs : List Int} {l : List AM} {k : Nat} {x : AM} (h : l[k]? = some x) : (l.take (k + 1)).foldl (addA L) cs = addA L ((l.take k).foldl (addA L) cs) x := by
  rw [List.take_add_one, h]; simp [List.foldl_append]
theorem fold_ok {L : List ByteArray} : ∀ (l : List AM) {cs : List Int}, okC cs → okC (l.foldl (addA L) cs)
  | [], _, h => h
  | x :: l, _, h => fold_ok l (okC_add h _ _)
theorem T4 (w0 : World) {A B : Option Addr} {c d : Nat} {ns : List ByteArray} {l : List AM} (hr : Rd sE w0 1 A ns) (hr2 : Rd aE w0 4 B l) (hm : ns.length ≤ 9223372036854775807) (hm2 : l.length ≤ 9223372036854775807) (hl : okA l) (htab : Pow10 w0) :
    Tri Tryd.prog w0 4 [.slice A ns.length c, .slice B l.length d] [] fun v m => v = .bool true ∧ m = [] := by
  refine tri_of Tryd.func4 rfl rfl fun F => ?_
  simp only [Tryd.ntmps4, argEnv, List.nil_append]
  cases hlg : largeB ns l with
  | true =>
    refine at_seq_k (fun K0 hK0 => ?_)
    refine at_region ?_
    refine at_v (ov_assign rfl rfl) rfl rfl rfl ?_
    refine at_nil ?_
    refine at_normal ?_
    refine hK0 _ _ _ ?_
    refine at_seq_k (fun K1 hK1 => ?_)
    refine at_seq_k (fun K2 hK2 => ?_)
    refine at_region ?_
    refine at_t (ot_call (ks := []) rfl rfl rfl Tryd.call6 rfl (T6 _ (by first | assumption | rfl | omega | decide | (simp; done) | (simp at *; omega))) rfl) rfl rfl rfl ?_
    rintro v0 _ ⟨m0, hp0, rfl⟩
    obtain ⟨rfl, rfl⟩ := hp0
    simp only [List.cons_append, List.nil_append, splice, spliceL]
    refine at_v (ov_not rfl rfl) rfl rfl rfl ?_
    refine at_nil ?_
    refine at_normal ?_
    refine hK2 _ _ _ ?_
    refine at_cond_false rfl ?_
    refine at_skip ?_
    refine at_normal ?_
    refine hK1 _ _ _ ?_
    refine at_seq_k (fun K3 hK3 => ?_)
    refine at_seq_k (fun K4 hK4 => ?_)
    refine at_region ?_
    refine at_v (ov_move rfl rfl) rfl rfl rfl ?_
    refine at_v (ov_move rfl rfl) rfl rfl rfl ?_
    refine at_t (ot_call (ks := []) rfl rfl rfl Tryd.call7 rfl (T7 _ (by first | assumption | rfl | omega | decide | (simp; done) | (simp at *; omega)) (by first | assumption | rfl | omega | decide | (simp; done) | (simp at *; omega)) (by first | assumption | rfl | omega | decide | (simp; done) | (simp at *; omega)) (by first | assumption | rfl | omega | decide | (simp; done) | (simp at *; omega))) rfl) rfl rfl rfl ?_
    rintro v0 _ ⟨m0, hp0, rfl⟩
    obtain ⟨rfl, rfl⟩ := hp0
    simp only [List.cons_append, List.nil_append, splice, spliceL]
    refine at_nil ?_
    refine at_normal ?_
    refine hK4 _ _ _ ?_
    refine at_cond_true (congrArg (fun b => some (Value.bool b)) (show _ = true from by first | assumption | (rw [Bool.not_eq_true']; exact decide_eq_false (by omega)))) ?_
    refine at_seq_k (fun K5 hK5 => ?_)
    refine at_region ?_
    refine at_v (ov_assign rfl rfl) rfl rfl rfl ?_
    refine at_nil ?_
    refine at_normal ?_
    refine hK5 _ _ _ ?_
    refine at_ret ?_
    refine at_then_ret ?_
    refine at_end ?_
    refine at_fin (rsV rfl (res_tmp rfl)) ?_
    refine ⟨_, ⟨rfl, rfl⟩, ?_⟩
    exact fun _ s => s.finEq (ks := []) (js := []) rfl rfl rfl
  | false =>
    obtain ⟨h1, h2, h3, h4⟩ := large_false hlg
    have hul := uniq_len ns
    have hus : ∀ s ∈ uniqL ns, s.size ≤ 300 := fun s hs => h3 s (uniq_mem hs)
    have hu0 := okC_rep (uniqL ns).length
    refine at_seq_k (fun K0 hK0 => ?_)
    refine at_region ?_
    refine at_v (ov_assign rfl rfl) rfl rfl rfl ?_
    refine at_nil ?_
    refine at_normal ?_
    refine hK0 _ _ _ ?_
    refine at_seq_k (fun K1 hK1 => ?_)
    refine at_seq_k (fun K2 hK2 => ?_)
    refine at_region ?_
    refine at_t (ot_call (ks := []) rfl rfl rfl Tryd.call6 rfl (T6 _ (by first | assumption | rfl | omega | decide | (simp; done) | (simp at *; omega))) rfl) rfl rfl rfl ?_
    rintro v0 _ ⟨m0, hp0, rfl⟩
    obtain ⟨rfl, rfl⟩ := hp0
    simp only [List.cons_append, List.nil_append, splice, spliceL]
    refine at_v (ov_not rfl rfl) rfl rfl rfl ?_
    refine at_nil ?_
    refine at_normal ?_
    refine hK2 _ _ _ ?_
    refine at_cond_false rfl ?_
    refine at_skip ?_
    refine at_normal ?_
    refine hK1 _ _ _ ?_
    refine at_seq_k (fun K3 hK3 => ?_)
    refine at_seq_k (fun K4 hK4 => ?_)
    refine at_region ?_
    refine at_v (ov_move rfl rfl) rfl rfl rfl ?_
    refine at_v (ov_move rfl rfl) rfl rfl rfl ?_
    refine at_t (ot_call (ks := []) rfl rfl rfl Tryd.call7 rfl (T7 _ (by first | assumption | rfl | omega | decide | (simp; done) | (simp at *; omega)) (by first | assumption | rfl | omega | decide | (simp; done) | (simp at *; omega)) (by first | assumption | rfl | omega | decide | (simp; done) | (simp at *; omega)) (by first | assumption | rfl | omega | decide | (simp; done) | (simp at *; omega))) rfl) rfl rfl rfl ?_
    rintro v0 _ ⟨m0, hp0, rfl⟩
    obtain ⟨rfl, rfl⟩ := hp0
    simp only [List.cons_append, List.nil_append, splice, spliceL]
    refine at_nil ?_
    refine at_normal ?_
    refine hK4 _ _ _ ?_
    refine at_cond_false (congrArg (fun b => some (Value.bool b)) (show _ = false from by first | assumption | (rw [Bool.not_eq_false']; exact decide_eq_true (by omega)))) ?_
    refine at_skip ?_
    refine at_normal ?_
    refine hK3 _ _ _ ?_
    refine at_seq_k (fun K5 hK5 => ?_)
    refine at_region ?_
    refine at_v (ov_move rfl rfl) rfl rfl rfl ?_
    refine at_t (ot_call (ks := []) rfl rfl rfl Tryd.call8 rfl (T8 _ (by first | assumption | rfl | omega | decide | (simp; done) | (simp at *; omega)) (by first | assumption | rfl | omega | decide | (simp; done) | (simp at *; omega))) rfl) rfl rfl rfl ?_
    rintro v0 _ ⟨m0, hp0, rfl⟩
    obtain ⟨g0, hp0⟩ := hp0
    obtain ⟨rfl, rfl⟩ := hp0
    simp only [List.cons_append, List.nil_append, splice, spliceL]
    refine at_v (ov_move rfl rfl) rfl rfl rfl ?_
    refine at_t (ot_call (ks := []) rfl rfl rfl Tryd.call8 rfl (T8 _ (by first | assumption | rfl | omega | decide | (simp; done) | (simp at *; omega)) (by first | assumption | rfl | omega | decide | (simp; done) | (simp at *; omega))) rfl) rfl rfl rfl ?_
    rintro v0 _ ⟨m0, hp0, rfl⟩
    obtain ⟨g1, hp0⟩ := hp0
    obtain ⟨rfl, rfl⟩ := hp0
    simp only [List.cons_append, List.nil_append, splice, spliceL]
    refine at_v (ov_assign rfl rfl) rfl rfl rfl ?_
    refine at_v (ov_assign rfl rfl) rfl rfl rfl ?_
    refine at_nil ?_
    refine at_normal ?_
    refine hK5 _ _ _ ?_
    refine at_seq_k (fun K6 hK6 => ?_)
    refine at_seq_k (fun K7 hK7 => ?_)
    refine at_region ?_
    refine at_v (ov_move rfl rfl) rfl rfl rfl ?_
    refine at_v (ov_len_slice rfl Tryd.underlying23 rfl) rfl rfl rfl ?_
    refine at_v (ov_move rfl rfl) rfl rfl rfl ?_
    refine at_nil ?_
    refine at_normal ?_
    refine hK7 _ _ _ ?_
    refine at_block ?_
    generalize hcz : List.replicate (uniqL ns).length (0 : Int) = cz at hu0 ⊢
    generalize uniqL ns = L at hul hus ⊢
    clear hcz
    have hL : L.length ≤ 100 := by omega
    refine at_loopE [22, 23, 24, 25, 8, 7, 26, 27, 28, 29, 30, 31, 32, 33, 9, 34, 35, 36, 37, 38, 39, 40, 41, 42, 43, 44, 45, 46, 21] (fun k => k ≤ l.length) (fun k => [(21, .int .i64 (k : Nat))]) (fun k m => setAt 0 (Tal g1 L ((l.reverse.take k).foldl (addA L) cz)) (setAt 1 (Tal g0 L ((l.take k).foldl (addA L) cz)) m)) (fun k => l.length - k) 0 (Nat.zero_le _) ⟨rfl, trivial⟩ (fun _ s => s) ?_
    rintro k hk
    simp only [setAt] at hk ⊢
    refine at_seq_k (fun K8 hK8 => ?_)
    refine at_region ?_
    refine at_v (ov_int rfl rfl rfl rfl) rfl rfl rfl ?_
    refine at_nil ?_
    refine at_normal ?_
    refine hK8 _ _ _ ?_
    refine at_seq_k (fun K9 hK9 => ?_)
    refine at_cond rfl (fun hc => ?_) (fun hc => ?_)
    · have hlt : k < l.length := by simpa using hc
      obtain ⟨⟨x1, x2, x3, x4⟩, hget⟩ : ∃ x, l[k]? = some x := ⟨_, List.getElem?_eq_getElem hlt⟩
      obtain ⟨⟨y1, y2, y3, y4⟩, hgey⟩ : ∃ x, l[l.length - 1 - k]? = some x := ⟨_, List.getElem?_eq_getElem (by omega)⟩
      have hrev : l.reverse[k]? = some (y1, y2, y3, y4) := by rw [List.getElem?_reverse hlt]; exact hgey
      have hf1 : (l.take (k + 1)).foldl (addA L) cz = addC L ((l.take k).foldl (addA L) cz) x2 x3 := fold_take hget
      have hf2 : (l.reverse.take (k + 1)).foldl (addA L) cz = addC L ((l.reverse.take k).foldl (addA L) cz) y2 y3 := fold_take hrev
      refine at_skip ?_
      refine at_normal ?_
      refine hK9 _ _ _ ?_
      refine at_seq_k (fun K10 hK10 => ?_)
      refine at_block ?_
      refine at_seq_k (fun K11 hK11 => ?_)
      refine at_region ?_
      refine at_v (ov_move rfl rfl) rfl rfl rfl ?_
      refine at_v (ov_indexRd (fun _ s => hr2.up s) rfl Tryd.underlying23 rfl rfl rfl hget) rfl rfl rfl ?_
      refine at_v (ov_loadRdS (vs := [_, _, _, _]) (fun _ s => hr2.up s) rfl rfl rfl hget rfl rfl) rfl rfl rfl ?_
      refine at_t (ot_allocA rfl Tryd.zeroValue36) rfl rfl rfl ?_
      rintro _ _ ⟨g2, rfl, rfl⟩
      refine at_v (ov_assign rfl rfl) rfl rfl rfl ?_
      refine at_t0 (ot_store (k := 0) rfl rfl rfl rfl rfl rfl rfl) rfl rfl ?_
      rintro _ _ ⟨rfl, rfl⟩
      simp only [setAt, splice, spliceL, Value.cells]
      refine at_nil ?_
      refine at_normal ?_
      refine hK11 _ _ _ ?_
      refine at_seq_k (fun K12 hK12 => ?_)
      refine at_region ?_
      refine at_v (ov_move rfl rfl) rfl rfl rfl ?_
      refine at_v (ov_move rfl rfl) rfl rfl rfl ?_
      refine at_v (ov_len_slice rfl Tryd.underlying23 rfl) rfl rfl rfl ?_
      refine at_v ((ov_int rfl rfl rfl rfl).eq (congrArg (Value.int .i64) (inK_i64 (by omega) (by omega)))) rfl rfl rfl ?_
      refine at_v (ov_move rfl rfl) rfl rfl rfl ?_
      refine at_v ((ov_int rfl rfl rfl rfl).eq (congrArg (Value.int .i64) (inK_i64 (by omega) (by omega)))) rfl rfl rfl ?_
      refine at_reval 31 (.int .i64 ((l.length - 1 - k : Nat) : Int)) rfl (congrArg (Value.int .i64) (by omega)) ?_
      refine at_v (ov_indexRd (fun _ s => hr2.up s) rfl Tryd.underlying23 rfl rfl rfl hgey) rfl rfl rfl ?_
      refine at_v (ov_loadRdS (vs := [_, _, _, _]) (fun _ s => hr2.up s) rfl rfl rfl hgey rfl rfl) rfl rfl rfl ?_
      refine at_t (ot_allocA rfl Tryd.zeroValue36) rfl rfl rfl ?_
      rintro _ _ ⟨g3, rfl, rfl⟩
      refine at_t0 (ot_store (k := 0) rfl rfl rfl rfl rfl rfl rfl) rfl rfl ?_
      rintro _ _ ⟨rfl, rfl⟩
      simp only [setAt, splice, spliceL, Value.cells]
      refine at_nil ?_
      refine at_normal ?_
      refine hK12 _ _ _ ?_
      refine at_seq_k (fun K13 hK13 => ?_)
      refine at_region ?_
      refine at_v (ov_move rfl rfl) rfl rfl rfl ?_
      refine at_v (ov_fieldAddr (k := 1) (r := 1) rfl rfl rfl rfl) rfl rfl rfl ?_
      refine at_v (ov_load rfl rfl rfl (fun _ s => s.ld (k := 1) rfl rfl)) rfl rfl rfl ?_
      refine at_v (ov_fieldAddr (k := 2) (r := 2) rfl rfl rfl rfl) rfl rfl rfl ?_
      refine at_v (ov_load rfl rfl rfl (fun _ s => s.ld (k := 1) rfl rfl)) rfl rfl rfl ?_
      refine at_t (ot_call (ks := [3]) rfl rfl rfl Tryd.call12 rfl (T12 _ _ _) rfl) rfl rfl rfl ?_
      rintro v0 _ ⟨m0, hp0, rfl⟩
      obtain ⟨rfl, rfl⟩ := hp0
      simp only [List.cons_append, List.nil_append, splice, spliceL]
      refine at_nil ?_
      refine at_normal ?_
      refine hK13 _ _ _ ?_
      refine at_region ?_
      refine at_v (ov_move rfl rfl) rfl rfl rfl ?_
      refine at_v (ov_fieldAddr (k := 1) (r := 1) rfl rfl rfl rfl) rfl rfl rfl ?_
      refine at_v (ov_load rfl rfl rfl (fun _ s => s.ld (k := 1) rfl rfl)) rfl rfl rfl ?_
      refine at_v (ov_fieldAddr (k := 2) (r := 2) rfl rfl rfl rfl) rfl rfl rfl ?_
      refine at_v (ov_load rfl rfl rfl (fun _ s => s.ld (k := 1) rfl rfl)) rfl rfl rfl ?_
      refine at_t (ot_call (ks := [3]) rfl rfl rfl Tryd.call12 rfl (T12 _ _ _) rfl) rfl rfl rfl ?_
      rintro v0 _ ⟨m0, hp0, rfl⟩
      obtain ⟨rfl, rfl⟩ := hp0
      simp only [List.cons_append, List.nil_append, splice, spliceL]
      refine at_nil ?_
      refine at_inb_normal ?_
      refine at_normal ?_
      refine hK10 _ _ _ ?_
      refine at_region ?_
      refine at_v ((ov_int rfl rfl rfl rfl).eq (congrArg (Value.int .i64) (inK_i64 (by omega) (by omega)))) rfl rfl rfl ?_
      refine at_v (ov_move rfl rfl) rfl rfl rfl ?_
      refine at_nil ?_
      refine at_normal ?_
      refine at_roundF (k + 1) hlt (by omega) ⟨rfl, trivial⟩ rfl ?_
      simp only [setAt, hf1, hf2]
      exact fun _ s => s.finEq (ks := [0, 0]) (js := [0, 0]) rfl rfl rfl
    · have hk2 : k = l.length := by
        have : ¬ k < l.length := by simpa using hc
        omega
      subst hk2
      have e1 : (l.reverse.take l.length).foldl (addA L) cz = l.foldl (addA L) cz := by
        rw [List.take_of_length_le (by simp)]; exact fold_rev L cz l
      have e2 : (l.take l.length).foldl (addA L) cz = l.foldl (addA L) cz := by rw [List.take_length]
      rw [e1, e2]
      have hok := fold_ok (L := L) l hu0
      generalize l.foldl (addA L) cz = cs at hok ⊢
      have hll := lines_len L cs
      have hi3 : decide (linesL L cs = linesL L cs) = true := by simp
      refine at_exit ?_
      refine at_then_exit ?_
      refine at_then_exit ?_
      refine at_exit_eq ?_
      refine at_normal ?_
      refine hK6 _ _ _ ?_
      refine at_seq_k (fun K10 hK10 => ?_)
      refine at_region ?_
      refine at_v (ov_move rfl rfl) rfl rfl rfl ?_
      refine at_t (ot_call (ks := [1]) rfl rfl rfl Tryd.call18 rfl (T18 _ (by first | assumption | rfl | omega | decide | (simp; done) | (simp at *; omega)) (by first | assumption | rfl | omega | decide | (simp; done) | (simp at *; omega)) (by first | assumption | rfl | omega | decide | (simp; done) | (simp at *; omega))) rfl) rfl rfl rfl ?_
      rintro v0 _ ⟨m0, hp0, rfl⟩
      obtain ⟨B0, hp0⟩ := hp0
      obtain ⟨d0, hp0⟩ := hp0
      obtain ⟨rfl, rfl⟩ := hp0
      simp only [List.cons_append, List.nil_append, splice, spliceL]
      refine at_v (ov_move rfl rfl) rfl rfl rfl ?_
      refine at_t (ot_call (ks := [2]) rfl rfl rfl Tryd.call18 rfl (T18 _ (by first | assumption | rfl | omega | decide | (simp; done) | (simp at *; omega)) (by first | assumption | rfl | omega | decide | (simp; done) | (simp at *; omega)) (by first | assumption | rfl | omega | decide | (simp; done) | (simp at *; omega))) rfl) rfl rfl rfl ?_
      rintro v0 _ ⟨m0, hp0, rfl⟩
      obtain ⟨B1, hp0⟩ := hp0
      obtain ⟨d1, hp0⟩ := hp0
      obtain ⟨rfl, rfl⟩ := hp0
      simp only [List.cons_append, List.nil_append, splice, spliceL]
      refine at_t (ot_call (ks := [2, 0]) rfl rfl rfl Tryd.call10 rfl (T10a _ (by first | assumption | rfl | omega | decide | (simp; done) | (simp at *; omega)) (by first | assumption | rfl | omega | decide | (simp; done) | (simp at *; omega))) rfl) rfl rfl rfl ?_
      rintro v0 _ ⟨m0, hp0, rfl⟩
      obtain ⟨rfl, rfl⟩ := hp0
      simp only [List.cons_append, List.nil_append, splice, spliceL]
      refine at_v (ov_assign rfl rfl) rfl rfl rfl ?_
      refine at_nil ?_
      refine at_normal ?_
      refine hK10 _ _ _ ?_
      refine at_ret ?_
      refine at_end ?_
      refine at_fin (rsV rfl (res_tmp rfl)) ?_
      refine ⟨_, ⟨by simp, rfl⟩, ?_⟩
      exact fun _ s => s.finEq (ks := []) (js := [0, 0, 0, 0]) rfl rfl rfl
/-! ### TallyMany -/
abbrev sSum : ByteArray := ⟨#[115, 117, 109]⟩
abbrev sOne : ByteArray := ⟨#[111, 110, 101]⟩
def bE1 (b : Bool) : List Value := [.bool b]
def i64ok (n : Int) : Prop := -9223372036854775808 ≤ n ∧ n ≤ 9223372036854775807
theorem T5 (w0 : World) {A B C D : Option Addr} {c d e f : Nat} {l m : List AM} {tu : List Bool} {to : List Int} (hr0 : Rd aE w0 4 A l) (hr1 : Rd aE w0 4 B m) (hr2 : Rd bE1 w0 1 C tu) (hr3 : Rd cE w0 1 D to) (hm0 : l.length ≤ 9223372036854775807) (hm1 : m.length ≤ 9223372036854775807) (hm2 : tu.length ≤ 9223372036854775807) (hm3 : to.length ≤ 9223372036854775807) (htab : Pow10 w0) :
    Tri Tryd.prog w0 5 [.slice A l.length c, .slice B m.length d, .slice C tu.length e, .slice D to.length f] [] fun v m => v = .bool true ∧ m = [] := by
  refine tri_of Tryd.func5 rfl rfl fun F => ?_
  simp only [Tryd.ntmps5, argEnv, List.nil_append]
  have hL1 : Tri Tryd.prog w0 7 [.slice none 0 0, .slice A l.length c] [] fun v m => v = .bool (largeB [] l) ∧ m = [] := T7 w0 (A := none) (c := 0) (ns := []) (Rd.nil sE w0 1 none) hr0 (by decide) hm0
  have hL2 : Tri Tryd.prog w0 7 [.slice none 0 0, .slice B m.length d] [] fun v m' => v = .bool (largeB [] m) ∧ m' = [] := T7 w0 (A := none) (c := 0) (ns := []) (Rd.nil sE w0 1 none) hr1 (by decide) hm1
  have hNew : ∀ b, Tri Tryd.prog w0 8 [sliceOf 2 b] [Row sE 9 1 (some ⟨b, 0, none⟩) 2 [sSum, sOne]] fun v m => ∃ g, v = ptrTo g ∧ m = [Tal g [sSum, sOne] [0, 0], Row sE 9 1 (some ⟨b, 0, none⟩) 2 [sSum, sOne]] := fun b =>
    T8a w0 (xs := [sSum, sOne]) (by decide)
  have hAdd : ∀ g (x y n : Int), Tri Tryd.prog w0 12 [ptrTo g, .string sSum, .int .i64 n] [Tal g [sSum, sOne] [x, y]] fun v m => v = .bool true ∧ m = [Tal g [sSum, sOne] [IntKind.i64.wrap (x + n), y]] := fun g x y n => T12 w0 sSum n
  have hCn1 : ∀ g (x y : Int), Tri Tryd.prog w0 16 [ptrTo g, .string sSum] [Tal g [sSum, sOne] [x, y]] fun v m => v = .tuple #[.int .i64 x, .bool true] ∧ m = [Tal g [sSum, sOne] [x, y]] := fun g x y => T16 w0 sSum
  have hCn2 : ∀ g (x y : Int), Tri Tryd.prog w0 16 [ptrTo g, .string sOne] [Tal g [sSum, sOne] [x, y]] fun v m => v = .tuple #[.int .i64 y, .bool true] ∧ m = [Tal g [sSum, sOne] [x, y]] := fun g x y => T16 w0 sOne
  have hSwp : ∀ g (x y n : Int), Tri Tryd.prog w0 14 [ptrTo g, .string sOne, .int .i64 0, .int .i64 n] [Tal g [sSum, sOne] [x, y]] fun v m => v = .bool (decide (y = 0)) ∧ m = [Tal g [sSum, sOne] [x, if y = 0 then n else y]] := fun g x y n =>
    (T14 w0 sOne 0 n).post fun v m ⟨h1, h2⟩ => ⟨h1, by
      rw [h2]
      have : swapC [sSum, sOne] [x, y] sOne 0 n = [x, if y = 0 then n else y] := by
        have hb : swapB [sSum, sOne] [x, y] sOne 0 = decide (y = 0) := rfl
        have hp : putC [sSum, sOne] [x, y] sOne n = [x, n] := rfl
        unfold swapC
        rw [hb, hp]
        by_cases h : y = 0 <;> simp [h]
      rw [this]⟩
  cases hl1 : largeB [] l with
  | true =>
    refine at_seq_k (fun K0 hK0 => ?_)
    refine at_region ?_
    refine at_v (ov_assign rfl rfl) rfl rfl rfl ?_
    refine at_nil ?_
    refine at_normal ?_
    refine hK0 _ _ _ ?_
    refine at_seq_k (fun K1 hK1 => ?_)
    refine at_seq_k (fun K2 hK2 => ?_)
    refine at_region ?_
    refine at_t (ot_call (ks := []) rfl rfl rfl Tryd.call6 rfl (T6 _ (by first | assumption | rfl | omega | decide | (simp; done) | (simp at *; omega))) rfl) rfl rfl rfl ?_
    rintro v0 _ ⟨m0, hp0, rfl⟩
    obtain ⟨rfl, rfl⟩ := hp0
    simp only [List.cons_append, List.nil_append, splice, spliceL]
    refine at_v (ov_not rfl rfl) rfl rfl rfl ?_
    refine at_nil ?_
    refine at_normal ?_
    refine hK2 _ _ _ ?_
    refine at_cond_false rfl ?_
    refine at_skip ?_
    refine at_normal ?_
    refine hK1 _ _ _ ?_
    refine at_seq_k (fun K3 hK3 => ?_)
    refine at_seq_k (fun K4 hK4 => ?_)
    refine at_region ?_
    refine at_v (ov_move rfl rfl) rfl rfl rfl ?_
    refine at_t (ot_call (ks := []) rfl rfl rfl Tryd.call7 rfl (hL1 ) rfl) rfl rfl rfl ?_
    rintro v0 _ ⟨m0, hp0, rfl⟩
    obtain ⟨rfl, rfl⟩ := hp0
    simp only [List.cons_append, List.nil_append, splice, spliceL]
    refine at_v (ov_move rfl rfl) rfl rfl rfl ?_
    refine at_reval 25 (.bool true) rfl (congrArg Value.bool (by first | assumption | (rw [Bool.not_eq_true']; exact decide_eq_false (by omega)))) ?_
    refine at_unwanted (j := 2) rfl rfl rfl rfl ?_
    refine at_unwanted (j := 2) rfl rfl rfl rfl ?_
    refine at_v (ov_pick_t rfl rfl rfl) rfl rfl rfl ?_
    refine at_v (ov_move rfl rfl) rfl rfl rfl ?_
    refine at_unwanted (j := 6) rfl rfl rfl rfl ?_
    refine at_unwanted (j := 6) rfl rfl rfl rfl ?_
    refine at_unwanted (j := 6) rfl rfl rfl rfl ?_
    refine at_v (ov_pick_t rfl rfl rfl) rfl rfl rfl ?_
    refine at_v (ov_move rfl rfl) rfl rfl rfl ?_
    refine at_unwanted (j := 11) rfl rfl rfl rfl ?_
    refine at_unwanted (j := 11) rfl rfl rfl rfl ?_
    refine at_unwanted (j := 11) rfl rfl rfl rfl ?_
    refine at_v (ov_pick_t rfl rfl rfl) rfl rfl rfl ?_
    refine at_nil ?_
    refine at_normal ?_
    refine hK4 _ _ _ ?_
    refine at_cond_true rfl ?_
    refine at_seq_k (fun K5 hK5 => ?_)
    refine at_region ?_
    refine at_v (ov_assign rfl rfl) rfl rfl rfl ?_
    refine at_nil ?_
    refine at_normal ?_
    refine hK5 _ _ _ ?_
    refine at_ret ?_
    refine at_then_ret ?_
    refine at_end ?_
    refine at_fin (rsV rfl (res_tmp rfl)) ?_
    refine ⟨_, ⟨rfl, rfl⟩, ?_⟩
    exact fun _ s => s.finEq (ks := []) (js := []) rfl rfl rfl
  | false =>
  cases hl2 : largeB [] m with
  | true =>
    refine at_seq_k (fun K0 hK0 => ?_)
    refine at_region ?_
    refine at_v (ov_assign rfl rfl) rfl rfl rfl ?_
    refine at_nil ?_
    refine at_normal ?_
    refine hK0 _ _ _ ?_
    refine at_seq_k (fun K1 hK1 => ?_)
    refine at_seq_k (fun K2 hK2 => ?_)
    refine at_region ?_
    refine at_t (ot_call (ks := []) rfl rfl rfl Tryd.call6 rfl (T6 _ (by first | assumption | rfl | omega | decide | (simp; done) | (simp at *; omega))) rfl) rfl rfl rfl ?_
    rintro v0 _ ⟨m0, hp0, rfl⟩
    obtain ⟨rfl, rfl⟩ := hp0
    simp only [List.cons_append, List.nil_append, splice, spliceL]
    refine at_v (ov_not rfl rfl) rfl rfl rfl ?_
    refine at_nil ?_
    refine at_normal ?_
    refine hK2 _ _ _ ?_
    refine at_cond_false rfl ?_
    refine at_skip ?_
    refine at_normal ?_
    refine hK1 _ _ _ ?_
    refine at_seq_k (fun K3 hK3 => ?_)
    refine at_seq_k (fun K4 hK4 => ?_)
    refine at_region ?_
    refine at_v (ov_move rfl rfl) rfl rfl rfl ?_
    refine at_t (ot_call (ks := []) rfl rfl rfl Tryd.call7 rfl (hL1 ) rfl) rfl rfl rfl ?_
    rintro v0 _ ⟨m0, hp0, rfl⟩
    obtain ⟨rfl, rfl⟩ := hp0
    simp only [List.cons_append, List.nil_append, splice, spliceL]
    refine at_v (ov_move rfl rfl) rfl rfl rfl ?_
    refine at_reval 25 (.bool false) rfl (congrArg Value.bool (by first | assumption | (rw [Bool.not_eq_false']; exact decide_eq_true (by omega)))) ?_
    refine at_wanted (j := 2) rfl ?_
    refine at_v (ov_move rfl rfl) rfl rfl rfl ?_
    refine at_wanted (j := 2) rfl ?_
    refine at_t (ot_call (ks := []) rfl rfl rfl Tryd.call7 rfl (hL2 ) rfl) rfl rfl rfl ?_
    rintro v0 _ ⟨m0, hp0, rfl⟩
    obtain ⟨rfl, rfl⟩ := hp0
    simp only [List.cons_append, List.nil_append, splice, spliceL]
    refine at_v (ov_pick_f rfl rfl rfl) rfl rfl rfl ?_
    refine at_v (ov_move rfl rfl) rfl rfl rfl ?_
    refine at_reval 29 (.bool true) rfl (congrArg Value.bool (by first | assumption | (rw [Bool.not_eq_true']; exact decide_eq_false (by omega)))) ?_
    refine at_unwanted (j := 6) rfl rfl rfl rfl ?_
    refine at_unwanted (j := 6) rfl rfl rfl rfl ?_
    refine at_unwanted (j := 6) rfl rfl rfl rfl ?_
    refine at_v (ov_pick_t rfl rfl rfl) rfl rfl rfl ?_
    refine at_v (ov_move rfl rfl) rfl rfl rfl ?_
    refine at_unwanted (j := 11) rfl rfl rfl rfl ?_
    refine at_unwanted (j := 11) rfl rfl rfl rfl ?_
    refine at_unwanted (j := 11) rfl rfl rfl rfl ?_
    refine at_v (ov_pick_t rfl rfl rfl) rfl rfl rfl ?_
    refine at_nil ?_
    refine at_normal ?_
    refine hK4 _ _ _ ?_
    refine at_cond_true rfl ?_
    refine at_seq_k (fun K5 hK5 => ?_)
    refine at_region ?_
    refine at_v (ov_assign rfl rfl) rfl rfl rfl ?_
    refine at_nil ?_
    refine at_normal ?_
    refine hK5 _ _ _ ?_
    refine at_ret ?_
    refine at_then_ret ?_
    refine at_end ?_
    refine at_fin (rsV rfl (res_tmp rfl)) ?_
    refine ⟨_, ⟨rfl, rfl⟩, ?_⟩
    exact fun _ s => s.finEq (ks := []) (js := []) rfl rfl rfl
  | false =>
  by_cases hb1 : tu.length > 200
  · have hi : decide ((tu.length : Int) > 200) = true := decide_eq_true (by omega)
    refine at_seq_k (fun K0 hK0 => ?_)
    refine at_region ?_
    refine at_v (ov_assign rfl rfl) rfl rfl rfl ?_
    refine at_nil ?_
    refine at_normal ?_
    refine hK0 _ _ _ ?_
    refine at_seq_k (fun K1 hK1 => ?_)
    refine at_seq_k (fun K2 hK2 => ?_)
    refine at_region ?_
    refine at_t (ot_call (ks := []) rfl rfl rfl Tryd.call6 rfl (T6 _ (by first | assumption | rfl | omega | decide | (simp; done) | (simp at *; omega))) rfl) rfl rfl rfl ?_
    rintro v0 _ ⟨m0, hp0, rfl⟩
    obtain ⟨rfl, rfl⟩ := hp0
    simp only [List.cons_append, List.nil_append, splice, spliceL]
    refine at_v (ov_not rfl rfl) rfl rfl rfl ?_
    refine at_nil ?_
    refine at_normal ?_
    refine hK2 _ _ _ ?_
    refine at_cond_false rfl ?_
    refine at_skip ?_
    refine at_normal ?_
    refine hK1 _ _ _ ?_
    refine at_seq_k (fun K3 hK3 => ?_)
    refine at_seq_k (fun K4 hK4 => ?_)
    refine at_region ?_
    refine at_v (ov_move rfl rfl) rfl rfl rfl ?_
    refine at_t (ot_call (ks := []) rfl rfl rfl Tryd.call7 rfl (hL1 ) rfl) rfl rfl rfl ?_
    rintro v0 _ ⟨m0, hp0, rfl⟩
    obtain ⟨rfl, rfl⟩ := hp0
    simp only [List.cons_append, List.nil_append, splice, spliceL]
    refine at_v (ov_move rfl rfl) rfl rfl rfl ?_
    refine at_reval 25 (.bool false) rfl (congrArg Value.bool (by first | assumption | (rw [Bool.not_eq_false']; exact decide_eq_true (by omega)))) ?_
    refine at_wanted (j := 2) rfl ?_
    refine at_v (ov_move rfl rfl) rfl rfl rfl ?_
    refine at_wanted (j := 2) rfl ?_
    refine at_t (ot_call (ks := []) rfl rfl rfl Tryd.call7 rfl (hL2 ) rfl) rfl rfl rfl ?_
    rintro v0 _ ⟨m0, hp0, rfl⟩
    obtain ⟨rfl, rfl⟩ := hp0
    simp only [List.cons_append, List.nil_append, splice, spliceL]
    refine at_v (ov_pick_f rfl rfl rfl) rfl rfl rfl ?_
    refine at_v (ov_move rfl rfl) rfl rfl rfl ?_
    refine at_reval 29 (.bool false) rfl (congrArg Value.bool (by first | assumption | (rw [Bool.not_eq_false']; exact decide_eq_true (by omega)))) ?_
    refine at_wanted (j := 6) rfl ?_
    refine at_v (ov_move rfl rfl) rfl rfl rfl ?_
    refine at_wanted (j := 6) rfl ?_
    refine at_v (ov_len_slice rfl Tryd.underlying41 rfl) rfl rfl rfl ?_
    refine at_wanted (j := 6) rfl ?_
    refine at_v (ov_int rfl rfl rfl rfl) rfl rfl rfl ?_
    refine at_v (ov_pick_f rfl rfl rfl) rfl rfl rfl ?_
    refine at_v (ov_move rfl rfl) rfl rfl rfl ?_
    refine at_reval 34 (.bool true) rfl (congrArg Value.bool (decide_eq_true (by omega))) ?_
    refine at_unwanted (j := 11) rfl rfl rfl rfl ?_
    refine at_unwanted (j := 11) rfl rfl rfl rfl ?_
    refine at_unwanted (j := 11) rfl rfl rfl rfl ?_
    refine at_v (ov_pick_t rfl rfl rfl) rfl rfl rfl ?_
    refine at_nil ?_
    refine at_normal ?_
    refine hK4 _ _ _ ?_
    refine at_cond_true rfl ?_
    refine at_seq_k (fun K5 hK5 => ?_)
    refine at_region ?_
    refine at_v (ov_assign rfl rfl) rfl rfl rfl ?_
    refine at_nil ?_
    refine at_normal ?_
    refine hK5 _ _ _ ?_
    refine at_ret ?_
    refine at_then_ret ?_
    refine at_end ?_
    refine at_fin (rsV rfl (res_tmp rfl)) ?_
    refine ⟨_, ⟨rfl, rfl⟩, ?_⟩
    exact fun _ s => s.finEq (ks := []) (js := []) rfl rfl rfl
  have hi1 : decide ((tu.length : Int) > 200) = false := decide_eq_false (by omega)
  by_cases hb2 : to.length > 100
  · have hi : decide ((to.length : Int) > 100) = true := decide_eq_true (by omega)
    refine at_seq_k (fun K0 hK0 => ?_)
    refine at_region ?_
    refine at_v (ov_assign rfl rfl) rfl rfl rfl ?_
    refine at_nil ?_
    refine at_normal ?_
    refine hK0 _ _ _ ?_
    refine at_seq_k (fun K1 hK1 => ?_)
    refine at_seq_k (fun K2 hK2 => ?_)
    refine at_region ?_
    refine at_t (ot_call (ks := []) rfl rfl rfl Tryd.call6 rfl (T6 _ (by first | assumption | rfl | omega | decide | (simp; done) | (simp at *; omega))) rfl) rfl rfl rfl ?_
    rintro v0 _ ⟨m0, hp0, rfl⟩
    obtain ⟨rfl, rfl⟩ := hp0
    simp only [List.cons_append, List.nil_append, splice, spliceL]
    refine at_v (ov_not rfl rfl) rfl rfl rfl ?_
    refine at_nil ?_
    refine at_normal ?_
    refine hK2 _ _ _ ?_
    refine at_cond_false rfl ?_
    refine at_skip ?_
    refine at_normal ?_
    refine hK1 _ _ _ ?_
    refine at_seq_k (fun K3 hK3 => ?_)
    refine at_seq_k (fun K4 hK4 => ?_)
    refine at_region ?_
    refine at_v (ov_move rfl rfl) rfl rfl rfl ?_
    refine at_t (ot_call (ks := []) rfl rfl rfl Tryd.call7 rfl (hL1 ) rfl) rfl rfl rfl ?_
    rintro v0 _ ⟨m0, hp0, rfl⟩
    obtain ⟨rfl, rfl⟩ := hp0
    simp only [List.cons_append, List.nil_append, splice, spliceL]
    refine at_v (ov_move rfl rfl) rfl rfl rfl ?_
    refine at_reval 25 (.bool false) rfl (congrArg Value.bool (by first | assumption | (rw [Bool.not_eq_false']; exact decide_eq_true (by omega)))) ?_
    refine at_wanted (j := 2) rfl ?_
    refine at_v (ov_move rfl rfl) rfl rfl rfl ?_
    refine at_wanted (j := 2) rfl ?_
    refine at_t (ot_call (ks := []) rfl rfl rfl Tryd.call7 rfl (hL2 ) rfl) rfl rfl rfl ?_
    rintro v0 _ ⟨m0, hp0, rfl⟩
    obtain ⟨rfl, rfl⟩ := hp0
    simp only [List.cons_append, List.nil_append, splice, spliceL]
    refine at_v (ov_pick_f rfl rfl rfl) rfl rfl rfl ?_
    refine at_v (ov_move rfl rfl) rfl rfl rfl ?_
    refine at_reval 29 (.bool false) rfl (congrArg Value.bool (by first | assumption | (rw [Bool.not_eq_false']; exact decide_eq_true (by omega)))) ?_
    refine at_wanted (j := 6) rfl ?_
    refine at_v (ov_move rfl rfl) rfl rfl rfl ?_
    refine at_wanted (j := 6) rfl ?_
    refine at_v (ov_len_slice rfl Tryd.underlying41 rfl) rfl rfl rfl ?_
    refine at_wanted (j := 6) rfl ?_
    refine at_v (ov_int rfl rfl rfl rfl) rfl rfl rfl ?_
    refine at_v (ov_pick_f rfl rfl rfl) rfl rfl rfl ?_
    refine at_v (ov_move rfl rfl) rfl rfl rfl ?_
    refine at_reval 34 (.bool false) rfl (congrArg Value.bool (decide_eq_false (by omega))) ?_
    refine at_wanted (j := 11) rfl ?_
    refine at_v (ov_move rfl rfl) rfl rfl rfl ?_
    refine at_wanted (j := 11) rfl ?_
    refine at_v (ov_len_slice rfl Tryd.underlying32 rfl) rfl rfl rfl ?_
    refine at_wanted (j := 11) rfl ?_
    refine at_v (ov_int rfl rfl rfl rfl) rfl rfl rfl ?_
    refine at_v (ov_pick_f rfl rfl rfl) rfl rfl rfl ?_
    refine at_nil ?_
    refine at_normal ?_
    refine hK4 _ _ _ ?_
    refine at_cond_true (congrArg (fun b => some (Value.bool b)) (show _ = true from decide_eq_true (by omega))) ?_
    refine at_seq_k (fun K5 hK5 => ?_)
    refine at_region ?_
    refine at_v (ov_assign rfl rfl) rfl rfl rfl ?_
    refine at_nil ?_
    refine at_normal ?_
    refine hK5 _ _ _ ?_
    refine at_ret ?_
    refine at_then_ret ?_
    refine at_end ?_
    refine at_fin (rsV rfl (res_tmp rfl)) ?_
    refine ⟨_, ⟨rfl, rfl⟩, ?_⟩
    exact fun _ s => s.finEq (ks := []) (js := []) rfl rfl rfl
  have hi2 : decide ((to.length : Int) > 100) = false := decide_eq_false (by omega)
  obtain ⟨_, h2, _, _⟩ := large_false hl1
  obtain ⟨_, h3, _, _⟩ := large_false hl2
  refine at_seq_k (fun K0 hK0 => ?_)
  refine at_region ?_
  refine at_v (ov_assign rfl rfl) rfl rfl rfl ?_
  refine at_nil ?_
  refine at_normal ?_
  refine hK0 _ _ _ ?_
  refine at_seq_k (fun K1 hK1 => ?_)
  refine at_seq_k (fun K2 hK2 => ?_)
  refine at_region ?_
  refine at_t (ot_call (ks := []) rfl rfl rfl Tryd.call6 rfl (T6 _ (by first | assumption | rfl | omega | decide | (simp; done) | (simp at *; omega))) rfl) rfl rfl rfl ?_
  rintro v0 _ ⟨m0, hp0, rfl⟩
  obtain ⟨rfl, rfl⟩ := hp0
  simp only [List.cons_append, List.nil_append, splice, spliceL]
  refine at_v (ov_not rfl rfl) rfl rfl rfl ?_
  refine at_nil ?_
  refine at_normal ?_
  refine hK2 _ _ _ ?_
  refine at_cond_false rfl ?_
  refine at_skip ?_
  refine at_normal ?_
  refine hK1 _ _ _ ?_
  refine at_seq_k (fun K3 hK3 => ?_)
  refine at_seq_k (fun K4 hK4 => ?_)
  refine at_region ?_
  refine at_v (ov_move rfl rfl) rfl rfl rfl ?_
  refine at_t (ot_call (ks := []) rfl rfl rfl Tryd.call7 rfl (hL1 ) rfl) rfl rfl rfl ?_
  rintro v0 _ ⟨m0, hp0, rfl⟩
  obtain ⟨rfl, rfl⟩ := hp0
  simp only [List.cons_append, List.nil_append, splice, spliceL]
  refine at_v (ov_move rfl rfl) rfl rfl rfl ?_
  refine at_reval 25 (.bool false) rfl (congrArg Value.bool (by first | assumption | (rw [Bool.not_eq_false']; exact decide_eq_true (by omega)))) ?_
  refine at_wanted (j := 2) rfl ?_
  refine at_v (ov_move rfl rfl) rfl rfl rfl ?_
  refine at_wanted (j := 2) rfl ?_
  refine at_t (ot_call (ks := []) rfl rfl rfl Tryd.call7 rfl (hL2 ) rfl) rfl rfl rfl ?_
  rintro v0 _ ⟨m0, hp0, rfl⟩
  obtain ⟨rfl, rfl⟩ := hp0
  simp only [List.cons_append, List.nil_append, splice, spliceL]
  refine at_v (ov_pick_f rfl rfl rfl) rfl rfl rfl ?_
  refine at_v (ov_move rfl rfl) rfl rfl rfl ?_
  refine at_reval 29 (.bool false) rfl (congrArg Value.bool (by first | assumption | (rw [Bool.not_eq_false']; exact decide_eq_true (by omega)))) ?_
  refine at_wanted (j := 6) rfl ?_
  refine at_v (ov_move rfl rfl) rfl rfl rfl ?_
  refine at_wanted (j := 6) rfl ?_
  refine at_v (ov_len_slice rfl Tryd.underlying41 rfl) rfl rfl rfl ?_
  refine at_wanted (j := 6) rfl ?_
  refine at_v (ov_int rfl rfl rfl rfl) rfl rfl rfl ?_
  refine at_v (ov_pick_f rfl rfl rfl) rfl rfl rfl ?_
  refine at_v (ov_move rfl rfl) rfl rfl rfl ?_
  refine at_reval 34 (.bool false) rfl (congrArg Value.bool (decide_eq_false (by omega))) ?_
  refine at_wanted (j := 11) rfl ?_
  refine at_v (ov_move rfl rfl) rfl rfl rfl ?_
  refine at_wanted (j := 11) rfl ?_
  refine at_v (ov_len_slice rfl Tryd.underlying32 rfl) rfl rfl rfl ?_
  refine at_wanted (j := 11) rfl ?_
  refine at_v (ov_int rfl rfl rfl rfl) rfl rfl rfl ?_
  refine at_v (ov_pick_f rfl rfl rfl) rfl rfl rfl ?_
  refine at_nil ?_
  refine at_normal ?_
  refine hK4 _ _ _ ?_
  refine at_cond_false (congrArg (fun b => some (Value.bool b)) (show _ = false from decide_eq_false (by omega))) ?_
  refine at_skip ?_
  refine at_normal ?_
  refine hK3 _ _ _ ?_
  refine at_seq_k (fun K5 hK5 => ?_)
  refine at_region ?_
  refine at_t (ot_buildSlice (cs := [_, _]) rfl Tryd.underlying22 rfl rfl rfl rfl rfl rfl) rfl rfl rfl ?_
  rintro _ _ ⟨g0, rfl, rfl⟩
  refine at_rowOf (c := 2) (size := 1) sE 0 [sSum, sOne] rfl (by simp [sE]) (by simp) (by decide) (by simp) rfl ?_
  simp only [setAt]
  refine at_t (ot_call (ks := [0]) rfl rfl rfl Tryd.call8 rfl (hNew _) rfl) rfl rfl rfl ?_
  rintro v0 _ ⟨m0, hp0, rfl⟩
  obtain ⟨g1, hp0⟩ := hp0
  obtain ⟨rfl, rfl⟩ := hp0
  simp only [List.cons_append, List.nil_append, splice, spliceL]
  refine at_v (ov_assign rfl rfl) rfl rfl rfl ?_
  refine at_nil ?_
  refine at_normal ?_
  refine hK5 _ _ _ ?_
  refine at_seq_k (fun K6 hK6 => ?_)
  refine at_region ?_
  refine at_v (ov_assign rfl rfl) rfl rfl rfl ?_
  refine at_nil ?_
  refine at_normal ?_
  refine hK6 _ _ _ ?_
  refine at_seq_k (fun K7 hK7 => ?_)
  refine at_region ?_
  refine at_v (ov_assign rfl rfl) rfl rfl rfl ?_
  refine at_v (ov_assign rfl rfl) rfl rfl rfl ?_
  refine at_nil ?_
  refine at_normal ?_
  refine hK7 _ _ _ ?_
  refine at_seq_k (fun K8 hK8 => ?_)
  refine at_seq_k (fun K9 hK9 => ?_)
  refine at_region ?_
  refine at_v (ov_assign rfl rfl) rfl rfl rfl ?_
  refine at_nil ?_
  refine at_normal ?_
  refine hK9 _ _ _ ?_
  refine at_block ?_
  refine at_loopE [41, 42, 43, 44, 45, 46, 47, 48, 49, 50, 53, 54, 55, 56, 57, 58, 59, 60, 61, 62, 63, 64, 65, 66, 67, 68, 69, 70, 71, 72, 73, 74, 75, 76, 77, 78, 79, 80, 81, 82, 83, 84, 85, 86, 87, 88, 10, 89, 90, 11, 91, 92, 93, 94, 95, 96, 97, 98, 99, 100, 101, 102, 103, 104, 105, 106, 12, 51, 52, 13] (fun i : Nat × Nat × Int => i.1 ≤ l.length ∧ i.2.1 ≤ m.length) (fun i => [(11, .int .i64 (i.1 : Nat)), (12, .int .i64 (i.2.1 : Nat)), (13, .int .i64 ((i.1 + i.2.1 : Nat) : Int)), (10, .int .i64 i.2.2)]) (fun i m => setAt 0 (Tal g1 [sSum, sOne] [i.2.2, 0]) m) (fun i => l.length - i.1 + (m.length - i.2.1)) (0, 0, 0) ⟨Nat.zero_le _, Nat.zero_le _⟩ ⟨rfl, rfl, rfl, rfl, trivial⟩ (fun _ s => s) ?_
  rintro ⟨i, k, want⟩ ⟨hi3, hk3⟩
  simp only [setAt] at hi3 hk3 ⊢
  rcases Nat.lt_or_ge k m.length with hkl | hkl
  · have hi4 : decide ((k : Int) < m.length) = true := decide_eq_true (by omega)
    have hi5 : decide ((k : Int) = m.length) = false := decide_eq_false (by omega)
    rcases Nat.lt_or_ge i l.length with hil | hil
    · have hi6 : decide ((i : Int) < l.length) = true := decide_eq_true (by omega)
      rcases Nat.lt_or_ge (i + k) tu.length with htl | htl
      · have hi7 : decide (((i + k : Nat) : Int) < tu.length) = true := decide_eq_true (by omega)
        obtain ⟨b, hgetb⟩ : ∃ x, tu[i + k]? = some x := ⟨_, List.getElem?_eq_getElem htl⟩
        cases b with
        | true =>
          obtain ⟨⟨x1, x2, x3, x4⟩, hget⟩ : ∃ x, l[i]? = some x := ⟨_, List.getElem?_eq_getElem hil⟩
          refine at_seq_k (fun K10 hK10 => ?_)
          refine at_seq_k (fun K11 hK11 => ?_)
          refine at_region ?_
          refine at_v (ov_move rfl rfl) rfl rfl rfl ?_
          refine at_v (ov_move rfl rfl) rfl rfl rfl ?_
          refine at_v (ov_len_slice rfl Tryd.underlying23 rfl) rfl rfl rfl ?_
          refine at_v (ov_int rfl rfl rfl rfl) rfl rfl rfl ?_
          refine at_v (ov_move rfl rfl) rfl rfl rfl ?_
          refine at_reval 45 (.bool true) rfl (congrArg Value.bool (decide_eq_true (by omega))) ?_
          refine at_unwanted (j := 4) rfl rfl rfl rfl ?_
          refine at_unwanted (j := 4) rfl rfl rfl rfl ?_
          refine at_unwanted (j := 4) rfl rfl rfl rfl ?_
          refine at_unwanted (j := 4) rfl rfl rfl rfl ?_
          refine at_v (ov_pick_t rfl rfl rfl) rfl rfl rfl ?_
          refine at_nil ?_
          refine at_normal ?_
          refine hK11 _ _ _ ?_
          refine at_cond_true rfl ?_
          refine at_skip ?_
          refine at_normal ?_
          refine hK10 _ _ _ ?_
          refine at_seq_k (fun K12 hK12 => ?_)
          refine at_block ?_
          refine at_seq_k (fun K13 hK13 => ?_)
          refine at_region ?_
          refine at_v (ov_move rfl rfl) rfl rfl rfl ?_
          refine at_v (ov_move rfl rfl) rfl rfl rfl ?_
          refine at_v (ov_len_slice rfl Tryd.underlying23 rfl) rfl rfl rfl ?_
          refine at_v (ov_int rfl rfl rfl rfl) rfl rfl rfl ?_
          refine at_v (ov_move rfl rfl) rfl rfl rfl ?_
          refine at_reval 57 (.bool false) rfl (congrArg Value.bool (decide_eq_false (by omega))) ?_
          refine at_wanted (j := 4) rfl ?_
          refine at_v (ov_move rfl rfl) rfl rfl rfl ?_
          refine at_wanted (j := 4) rfl ?_
          refine at_v (ov_move rfl rfl) rfl rfl rfl ?_
          refine at_wanted (j := 4) rfl ?_
          refine at_v (ov_len_slice rfl Tryd.underlying23 rfl) rfl rfl rfl ?_
          refine at_wanted (j := 4) rfl ?_
          refine at_v (ov_int rfl rfl rfl rfl) rfl rfl rfl ?_
          refine at_wanted (j := 4) rfl ?_
          refine at_v (ov_move rfl rfl) rfl rfl rfl ?_
          refine at_reval 62 (.bool true) rfl (congrArg Value.bool (decide_eq_true (by omega))) ?_
          refine at_wanted (j := 9) rfl ?_
          refine at_v (ov_move rfl rfl) rfl rfl rfl ?_
          refine at_wanted (j := 9) rfl ?_
          refine at_v (ov_move rfl rfl) rfl rfl rfl ?_
          refine at_wanted (j := 9) rfl ?_
          refine at_v (ov_len_slice rfl Tryd.underlying41 rfl) rfl rfl rfl ?_
          refine at_wanted (j := 9) rfl ?_
          refine at_v (ov_int rfl rfl rfl rfl) rfl rfl rfl ?_
          refine at_wanted (j := 4) rfl ?_
          refine at_v (ov_pick_t rfl rfl rfl) rfl rfl rfl ?_
          refine at_wanted (j := 4) rfl ?_
          refine at_v (ov_move rfl rfl) rfl rfl rfl ?_
          refine at_reval 68 (.bool true) rfl (congrArg Value.bool (decide_eq_true (by omega))) ?_
          refine at_wanted (j := 15) rfl ?_
          refine at_v (ov_move rfl rfl) rfl rfl rfl ?_
          refine at_wanted (j := 15) rfl ?_
          refine at_v (ov_move rfl rfl) rfl rfl rfl ?_
          refine at_wanted (j := 15) rfl ?_
          refine at_v (ov_indexRd (fun _ s => hr2.up s) rfl Tryd.underlying41 rfl rfl rfl hgetb) rfl rfl rfl ?_
          refine at_wanted (j := 15) rfl ?_
          refine at_v (ov_loadRd0 (fun _ s => hr2.up s) rfl rfl rfl hgetb rfl) rfl rfl rfl ?_
          refine at_wanted (j := 4) rfl ?_
          refine at_v (ov_pick_t rfl rfl rfl) rfl rfl rfl ?_
          refine at_v (ov_pick_f rfl rfl rfl) rfl rfl rfl ?_
          refine at_nil ?_
          refine at_normal ?_
          refine hK13 _ _ _ ?_
          refine at_cond_true rfl ?_
          refine at_seq_k (fun K14 hK14 => ?_)
          refine at_region ?_
          refine at_v (ov_move rfl rfl) rfl rfl rfl ?_
          refine at_v (ov_move rfl rfl) rfl rfl rfl ?_
          refine at_v (ov_move rfl rfl) rfl rfl rfl ?_
          refine at_v (ov_indexRd (fun _ s => hr0.up s) rfl Tryd.underlying23 rfl rfl rfl hget) rfl rfl rfl ?_
          refine at_v (ov_fieldRd0 (k := 2) (fun _ s => hr0.up s) rfl rfl hget rfl) rfl rfl rfl ?_
          refine at_v (ov_loadRd (fun _ s => hr0.up s) rfl rfl rfl hget rfl) rfl rfl rfl ?_
          refine at_t (ot_call (ks := [0]) rfl rfl rfl Tryd.call12 rfl (hAdd _ _ _ _) rfl) rfl rfl rfl ?_
          rintro v0 _ ⟨m0, hp0, rfl⟩
          obtain ⟨rfl, rfl⟩ := hp0
          simp only [List.cons_append, List.nil_append, splice, spliceL]
          refine at_nil ?_
          refine at_normal ?_
          refine hK14 _ _ _ ?_
          refine at_seq_k (fun K15 hK15 => ?_)
          refine at_region ?_
          refine at_v (ov_move rfl rfl) rfl rfl rfl ?_
          refine at_v (ov_move rfl rfl) rfl rfl rfl ?_
          refine at_v (ov_move rfl rfl) rfl rfl rfl ?_
          refine at_v (ov_indexRd (fun _ s => hr0.up s) rfl Tryd.underlying23 rfl rfl rfl hget) rfl rfl rfl ?_
          refine at_v (ov_fieldRd0 (k := 2) (fun _ s => hr0.up s) rfl rfl hget rfl) rfl rfl rfl ?_
          refine at_v (ov_loadRd (fun _ s => hr0.up s) rfl rfl rfl hget rfl) rfl rfl rfl ?_
          refine at_v (ov_int rfl rfl rfl rfl) rfl rfl rfl ?_
          refine at_v (ov_assign rfl rfl) rfl rfl rfl ?_
          refine at_nil ?_
          refine at_normal ?_
          refine hK15 _ _ _ ?_
          refine at_region ?_
          refine at_v (ov_move rfl rfl) rfl rfl rfl ?_
          refine at_v ((ov_int rfl rfl rfl rfl).eq (congrArg (Value.int .i64) (inK_i64 (by omega) (by omega)))) rfl rfl rfl ?_
          refine at_v (ov_assign rfl rfl) rfl rfl rfl ?_
          refine at_nil ?_
          refine at_inb_normal ?_
          refine at_normal ?_
          refine hK12 _ _ _ ?_
          refine at_region ?_
          refine at_v (ov_move rfl rfl) rfl rfl rfl ?_
          refine at_v ((ov_int rfl rfl rfl rfl).eq (congrArg (Value.int .i64) (inK_i64 (by omega) (by omega)))) rfl rfl rfl ?_
          refine at_v (ov_assign rfl rfl) rfl rfl rfl ?_
          refine at_nil ?_
          refine at_normal ?_
          refine at_roundF (i + 1, k, IntKind.i64.wrap (want + x3)) ⟨hil, hk3⟩ (by simp only; omega) ⟨rfl, rfl, look_eq rfl (congrArg (Value.int .i64) (by simp only; omega)), rfl, trivial⟩ rfl ?_
          exact fun _ s => s.finEq (ks := [0, 0]) (js := []) rfl rfl rfl
        | false =>
          obtain ⟨⟨x1, x2, x3, x4⟩, hget⟩ : ∃ x, m[k]? = some x := ⟨_, List.getElem?_eq_getElem hkl⟩
          refine at_seq_k (fun K10 hK10 => ?_)
          refine at_seq_k (fun K11 hK11 => ?_)
          refine at_region ?_
          refine at_v (ov_move rfl rfl) rfl rfl rfl ?_
          refine at_v (ov_move rfl rfl) rfl rfl rfl ?_
          refine at_v (ov_len_slice rfl Tryd.underlying23 rfl) rfl rfl rfl ?_
          refine at_v (ov_int rfl rfl rfl rfl) rfl rfl rfl ?_
          refine at_v (ov_move rfl rfl) rfl rfl rfl ?_
          refine at_reval 45 (.bool true) rfl (congrArg Value.bool (decide_eq_true (by omega))) ?_
          refine at_unwanted (j := 4) rfl rfl rfl rfl ?_
          refine at_unwanted (j := 4) rfl rfl rfl rfl ?_
          refine at_unwanted (j := 4) rfl rfl rfl rfl ?_
          refine at_unwanted (j := 4) rfl rfl rfl rfl ?_
          refine at_v (ov_pick_t rfl rfl rfl) rfl rfl rfl ?_
          refine at_nil ?_
          refine at_normal ?_
          refine hK11 _ _ _ ?_
          refine at_cond_true rfl ?_
          refine at_skip ?_
          refine at_normal ?_
          refine hK10 _ _ _ ?_
          refine at_seq_k (fun K12 hK12 => ?_)
          refine at_block ?_
          refine at_seq_k (fun K13 hK13 => ?_)
          refine at_region ?_
          refine at_v (ov_move rfl rfl) rfl rfl rfl ?_
          refine at_v (ov_move rfl rfl) rfl rfl rfl ?_
          refine at_v (ov_len_slice rfl Tryd.underlying23 rfl) rfl rfl rfl ?_
          refine at_v (ov_int rfl rfl rfl rfl) rfl rfl rfl ?_
          refine at_v (ov_move rfl rfl) rfl rfl rfl ?_
          refine at_reval 57 (.bool false) rfl (congrArg Value.bool (decide_eq_false (by omega))) ?_
          refine at_wanted (j := 4) rfl ?_
          refine at_v (ov_move rfl rfl) rfl rfl rfl ?_
          refine at_wanted (j := 4) rfl ?_
          refine at_v (ov_move rfl rfl) rfl rfl rfl ?_
          refine at_wanted (j := 4) rfl ?_
          refine at_v (ov_len_slice rfl Tryd.underlying23 rfl) rfl rfl rfl ?_
          refine at_wanted (j := 4) rfl ?_
          refine at_v (ov_int rfl rfl rfl rfl) rfl rfl rfl ?_
          refine at_wanted (j := 4) rfl ?_
          refine at_v (ov_move rfl rfl) rfl rfl rfl ?_
          refine at_reval 62 (.bool true) rfl (congrArg Value.bool (decide_eq_true (by omega))) ?_
          refine at_wanted (j := 9) rfl ?_
          refine at_v (ov_move rfl rfl) rfl rfl rfl ?_
          refine at_wanted (j := 9) rfl ?_
          refine at_v (ov_move rfl rfl) rfl rfl rfl ?_
          refine at_wanted (j := 9) rfl ?_
          refine at_v (ov_len_slice rfl Tryd.underlying41 rfl) rfl rfl rfl ?_
          refine at_wanted (j := 9) rfl ?_
          refine at_v (ov_int rfl rfl rfl rfl) rfl rfl rfl ?_
          refine at_wanted (j := 4) rfl ?_
          refine at_v (ov_pick_t rfl rfl rfl) rfl rfl rfl ?_
          refine at_wanted (j := 4) rfl ?_
          refine at_v (ov_move rfl rfl) rfl rfl rfl ?_
          refine at_reval 68 (.bool true) rfl (congrArg Value.bool (decide_eq_true (by omega))) ?_
          refine at_wanted (j := 15) rfl ?_
          refine at_v (ov_move rfl rfl) rfl rfl rfl ?_
          refine at_wanted (j := 15) rfl ?_
          refine at_v (ov_move rfl rfl) rfl rfl rfl ?_
          refine at_wanted (j := 15) rfl ?_
          refine at_v (ov_indexRd (fun _ s => hr2.up s) rfl Tryd.underlying41 rfl rfl rfl hgetb) rfl rfl rfl ?_
          refine at_wanted (j := 15) rfl ?_
          refine at_v (ov_loadRd0 (fun _ s => hr2.up s) rfl rfl rfl hgetb rfl) rfl rfl rfl ?_
          refine at_wanted (j := 4) rfl ?_
          refine at_v (ov_pick_t rfl rfl rfl) rfl rfl rfl ?_
          refine at_v (ov_pick_f rfl rfl rfl) rfl rfl rfl ?_
          refine at_nil ?_
          refine at_normal ?_
          refine hK13 _ _ _ ?_
          refine at_cond_false rfl ?_
          refine at_seq_k (fun K14 hK14 => ?_)
          refine at_region ?_
          refine at_v (ov_move rfl rfl) rfl rfl rfl ?_
          refine at_v (ov_move rfl rfl) rfl rfl rfl ?_
          refine at_v (ov_move rfl rfl) rfl rfl rfl ?_
          refine at_v (ov_indexRd (fun _ s => hr1.up s) rfl Tryd.underlying23 rfl rfl rfl hget) rfl rfl rfl ?_
          refine at_v (ov_fieldRd0 (k := 2) (fun _ s => hr1.up s) rfl rfl hget rfl) rfl rfl rfl ?_
          refine at_v (ov_loadRd (fun _ s => hr1.up s) rfl rfl rfl hget rfl) rfl rfl rfl ?_
          refine at_t (ot_call (ks := [0]) rfl rfl rfl Tryd.call12 rfl (hAdd _ _ _ _) rfl) rfl rfl rfl ?_
          rintro v0 _ ⟨m0, hp0, rfl⟩
          obtain ⟨rfl, rfl⟩ := hp0
          simp only [List.cons_append, List.nil_append, splice, spliceL]
          refine at_nil ?_
          refine at_normal ?_
          refine hK14 _ _ _ ?_
          refine at_seq_k (fun K15 hK15 => ?_)
          refine at_region ?_
          refine at_v (ov_move rfl rfl) rfl rfl rfl ?_
          refine at_v (ov_move rfl rfl) rfl rfl rfl ?_
          refine at_v (ov_move rfl rfl) rfl rfl rfl ?_
          refine at_v (ov_indexRd (fun _ s => hr1.up s) rfl Tryd.underlying23 rfl rfl rfl hget) rfl rfl rfl ?_
          refine at_v (ov_fieldRd0 (k := 2) (fun _ s => hr1.up s) rfl rfl hget rfl) rfl rfl rfl ?_
          refine at_v (ov_loadRd (fun _ s => hr1.up s) rfl rfl rfl hget rfl) rfl rfl rfl ?_
          refine at_v (ov_int rfl rfl rfl rfl) rfl rfl rfl ?_
          refine at_v (ov_assign rfl rfl) rfl rfl rfl ?_
          refine at_nil ?_
          refine at_normal ?_
          refine hK15 _ _ _ ?_
          refine at_region ?_
          refine at_v (ov_move rfl rfl) rfl rfl rfl ?_
          refine at_v ((ov_int rfl rfl rfl rfl).eq (congrArg (Value.int .i64) (inK_i64 (by omega) (by omega)))) rfl rfl rfl ?_
          refine at_v (ov_assign rfl rfl) rfl rfl rfl ?_
          refine at_nil ?_
          refine at_inb_normal ?_
          refine at_normal ?_
          refine hK12 _ _ _ ?_
          refine at_region ?_
          refine at_v (ov_move rfl rfl) rfl rfl rfl ?_
          refine at_v ((ov_int rfl rfl rfl rfl).eq (congrArg (Value.int .i64) (inK_i64 (by omega) (by omega)))) rfl rfl rfl ?_
          refine at_v (ov_assign rfl rfl) rfl rfl rfl ?_
          refine at_nil ?_
          refine at_normal ?_
          refine at_roundF (i, k + 1, IntKind.i64.wrap (want + x3)) ⟨hi3, hkl⟩ (by simp only; omega) ⟨rfl, rfl, look_eq rfl (congrArg (Value.int .i64) (by simp only; omega)), rfl, trivial⟩ rfl ?_
          exact fun _ s => s.finEq (ks := [0, 0]) (js := []) rfl rfl rfl
      · have hi7 : decide (((i + k : Nat) : Int) < tu.length) = false := decide_eq_false (by omega)
        obtain ⟨⟨x1, x2, x3, x4⟩, hget⟩ : ∃ x, m[k]? = some x := ⟨_, List.getElem?_eq_getElem hkl⟩
        refine at_seq_k (fun K10 hK10 => ?_)
        refine at_seq_k (fun K11 hK11 => ?_)
        refine at_region ?_
        refine at_v (ov_move rfl rfl) rfl rfl rfl ?_
        refine at_v (ov_move rfl rfl) rfl rfl rfl ?_
        refine at_v (ov_len_slice rfl Tryd.underlying23 rfl) rfl rfl rfl ?_
        refine at_v (ov_int rfl rfl rfl rfl) rfl rfl rfl ?_
        refine at_v (ov_move rfl rfl) rfl rfl rfl ?_
        refine at_reval 45 (.bool true) rfl (congrArg Value.bool (decide_eq_true (by omega))) ?_
        refine at_unwanted (j := 4) rfl rfl rfl rfl ?_
        refine at_unwanted (j := 4) rfl rfl rfl rfl ?_
        refine at_unwanted (j := 4) rfl rfl rfl rfl ?_
        refine at_unwanted (j := 4) rfl rfl rfl rfl ?_
        refine at_v (ov_pick_t rfl rfl rfl) rfl rfl rfl ?_
        refine at_nil ?_
        refine at_normal ?_
        refine hK11 _ _ _ ?_
        refine at_cond_true rfl ?_
        refine at_skip ?_
        refine at_normal ?_
        refine hK10 _ _ _ ?_
        refine at_seq_k (fun K12 hK12 => ?_)
        refine at_block ?_
        refine at_seq_k (fun K13 hK13 => ?_)
        refine at_region ?_
        refine at_v (ov_move rfl rfl) rfl rfl rfl ?_
        refine at_v (ov_move rfl rfl) rfl rfl rfl ?_
        refine at_v (ov_len_slice rfl Tryd.underlying23 rfl) rfl rfl rfl ?_
        refine at_v (ov_int rfl rfl rfl rfl) rfl rfl rfl ?_
        refine at_v (ov_move rfl rfl) rfl rfl rfl ?_
        refine at_reval 57 (.bool false) rfl (congrArg Value.bool (decide_eq_false (by omega))) ?_
        refine at_wanted (j := 4) rfl ?_
        refine at_v (ov_move rfl rfl) rfl rfl rfl ?_
        refine at_wanted (j := 4) rfl ?_
        refine at_v (ov_move rfl rfl) rfl rfl rfl ?_
        refine at_wanted (j := 4) rfl ?_
        refine at_v (ov_len_slice rfl Tryd.underlying23 rfl) rfl rfl rfl ?_
        refine at_wanted (j := 4) rfl ?_
        refine at_v (ov_int rfl rfl rfl rfl) rfl rfl rfl ?_
        refine at_wanted (j := 4) rfl ?_
        refine at_v (ov_move rfl rfl) rfl rfl rfl ?_
        refine at_reval 62 (.bool true) rfl (congrArg Value.bool (decide_eq_true (by omega))) ?_
        refine at_wanted (j := 9) rfl ?_
        refine at_v (ov_move rfl rfl) rfl rfl rfl ?_
        refine at_wanted (j := 9) rfl ?_
        refine at_v (ov_move rfl rfl) rfl rfl rfl ?_
        refine at_wanted (j := 9) rfl ?_
        refine at_v (ov_len_slice rfl Tryd.underlying41 rfl) rfl rfl rfl ?_
        refine at_wanted (j := 9) rfl ?_
        refine at_v (ov_int rfl rfl rfl rfl) rfl rfl rfl ?_
        refine at_wanted (j := 4) rfl ?_
        refine at_v (ov_pick_t rfl rfl rfl) rfl rfl rfl ?_
        refine at_wanted (j := 4) rfl ?_
        refine at_v (ov_move rfl rfl) rfl rfl rfl ?_
        refine at_reval 68 (.bool false) rfl (congrArg Value.bool (decide_eq_false (by omega))) ?_
        refine at_unwanted (j := 15) rfl rfl rfl rfl ?_
        refine at_unwanted (j := 15) rfl rfl rfl rfl ?_
        refine at_unwanted (j := 15) rfl rfl rfl rfl ?_
        refine at_unwanted (j := 15) rfl rfl rfl rfl ?_
        refine at_wanted (j := 4) rfl ?_
        refine at_v (ov_pick_f rfl rfl rfl) rfl rfl rfl ?_
        refine at_v (ov_pick_f rfl rfl rfl) rfl rfl rfl ?_
        refine at_nil ?_
        refine at_normal ?_
        refine hK13 _ _ _ ?_
        refine at_cond_false rfl ?_
        refine at_seq_k (fun K14 hK14 => ?_)
        refine at_region ?_
        refine at_v (ov_move rfl rfl) rfl rfl rfl ?_
        refine at_v (ov_move rfl rfl) rfl rfl rfl ?_
        refine at_v (ov_move rfl rfl) rfl rfl rfl ?_
        refine at_v (ov_indexRd (fun _ s => hr1.up s) rfl Tryd.underlying23 rfl rfl rfl hget) rfl rfl rfl ?_
        refine at_v (ov_fieldRd0 (k := 2) (fun _ s => hr1.up s) rfl rfl hget rfl) rfl rfl rfl ?_
        refine at_v (ov_loadRd (fun _ s => hr1.up s) rfl rfl rfl hget rfl) rfl rfl rfl ?_
        refine at_t (ot_call (ks := [0]) rfl rfl rfl Tryd.call12 rfl (hAdd _ _ _ _) rfl) rfl rfl rfl ?_
        rintro v0 _ ⟨m0, hp0, rfl⟩
        obtain ⟨rfl, rfl⟩ := hp0
        simp only [List.cons_append, List.nil_append, splice, spliceL]
        refine at_nil ?_
        refine at_normal ?_
        refine hK14 _ _ _ ?_
        refine at_seq_k (fun K15 hK15 => ?_)
        refine at_region ?_
        refine at_v (ov_move rfl rfl) rfl rfl rfl ?_
        refine at_v (ov_move rfl rfl) rfl rfl rfl ?_
        refine at_v (ov_move rfl rfl) rfl rfl rfl ?_
        refine at_v (ov_indexRd (fun _ s => hr1.up s) rfl Tryd.underlying23 rfl rfl rfl hget) rfl rfl rfl ?_
        refine at_v (ov_fieldRd0 (k := 2) (fun _ s => hr1.up s) rfl rfl hget rfl) rfl rfl rfl ?_
        refine at_v (ov_loadRd (fun _ s => hr1.up s) rfl rfl rfl hget rfl) rfl rfl rfl ?_
        refine at_v (ov_int rfl rfl rfl rfl) rfl rfl rfl ?_
        refine at_v (ov_assign rfl rfl) rfl rfl rfl ?_
        refine at_nil ?_
        refine at_normal ?_
        refine hK15 _ _ _ ?_
        refine at_region ?_
        refine at_v (ov_move rfl rfl) rfl rfl rfl ?_
        refine at_v ((ov_int rfl rfl rfl rfl).eq (congrArg (Value.int .i64) (inK_i64 (by omega) (by omega)))) rfl rfl rfl ?_
        refine at_v (ov_assign rfl rfl) rfl rfl rfl ?_
        refine at_nil ?_
        refine at_inb_normal ?_
        refine at_normal ?_
        refine hK12 _ _ _ ?_
        refine at_region ?_
        refine at_v (ov_move rfl rfl) rfl rfl rfl ?_
        refine at_v ((ov_int rfl rfl rfl rfl).eq (congrArg (Value.int .i64) (inK_i64 (by omega) (by omega)))) rfl rfl rfl ?_
        refine at_v (ov_assign rfl rfl) rfl rfl rfl ?_
        refine at_nil ?_
        refine at_normal ?_
        refine at_roundF (i, k + 1, IntKind.i64.wrap (want + x3)) ⟨hi3, hkl⟩ (by simp only; omega) ⟨rfl, rfl, look_eq rfl (congrArg (Value.int .i64) (by simp only; omega)), rfl, trivial⟩ rfl ?_
        exact fun _ s => s.finEq (ks := [0, 0]) (js := []) rfl rfl rfl
    · have hi6 : decide ((i : Int) < l.length) = false := decide_eq_false (by omega)
      obtain ⟨⟨x1, x2, x3, x4⟩, hget⟩ : ∃ x, m[k]? = some x := ⟨_, List.getElem?_eq_getElem hkl⟩
      refine at_seq_k (fun K10 hK10 => ?_)
      refine at_seq_k (fun K11 hK11 => ?_)
      refine at_region ?_
      refine at_v (ov_move rfl rfl) rfl rfl rfl ?_
      refine at_v (ov_move rfl rfl) rfl rfl rfl ?_
      refine at_v (ov_len_slice rfl Tryd.underlying23 rfl) rfl rfl rfl ?_
      refine at_v (ov_int rfl rfl rfl rfl) rfl rfl rfl ?_
      refine at_v (ov_move rfl rfl) rfl rfl rfl ?_
      refine at_reval 45 (.bool false) rfl (congrArg Value.bool (decide_eq_false (by omega))) ?_
      refine at_wanted (j := 4) rfl ?_
      refine at_v (ov_move rfl rfl) rfl rfl rfl ?_
      refine at_wanted (j := 4) rfl ?_
      refine at_v (ov_move rfl rfl) rfl rfl rfl ?_
      refine at_wanted (j := 4) rfl ?_
      refine at_v (ov_len_slice rfl Tryd.underlying23 rfl) rfl rfl rfl ?_
      refine at_wanted (j := 4) rfl ?_
      refine at_v (ov_int rfl rfl rfl rfl) rfl rfl rfl ?_
      refine at_v (ov_pick_f rfl rfl rfl) rfl rfl rfl ?_
      refine at_nil ?_
      refine at_normal ?_
      refine hK11 _ _ _ ?_
      refine at_cond_true (congrArg (fun b => some (Value.bool b)) (show _ = true from decide_eq_true (by omega))) ?_
      refine at_skip ?_
      refine at_normal ?_
      refine hK10 _ _ _ ?_
      refine at_seq_k (fun K12 hK12 => ?_)
      refine at_block ?_
      refine at_seq_k (fun K13 hK13 => ?_)
      refine at_region ?_
      refine at_v (ov_move rfl rfl) rfl rfl rfl ?_
      refine at_v (ov_move rfl rfl) rfl rfl rfl ?_
      refine at_v (ov_len_slice rfl Tryd.underlying23 rfl) rfl rfl rfl ?_
      refine at_v (ov_int rfl rfl rfl rfl) rfl rfl rfl ?_
      refine at_v (ov_move rfl rfl) rfl rfl rfl ?_
      refine at_reval 57 (.bool false) rfl (congrArg Value.bool (decide_eq_false (by omega))) ?_
      refine at_wanted (j := 4) rfl ?_
      refine at_v (ov_move rfl rfl) rfl rfl rfl ?_
      refine at_wanted (j := 4) rfl ?_
      refine at_v (ov_move rfl rfl) rfl rfl rfl ?_
      refine at_wanted (j := 4) rfl ?_
      refine at_v (ov_len_slice rfl Tryd.underlying23 rfl) rfl rfl rfl ?_
      refine at_wanted (j := 4) rfl ?_
      refine at_v (ov_int rfl rfl rfl rfl) rfl rfl rfl ?_
      refine at_wanted (j := 4) rfl ?_
      refine at_v (ov_move rfl rfl) rfl rfl rfl ?_
      refine at_reval 62 (.bool false) rfl (congrArg Value.bool (decide_eq_false (by omega))) ?_
      refine at_unwanted (j := 9) rfl rfl rfl rfl ?_
      refine at_unwanted (j := 9) rfl rfl rfl rfl ?_
      refine at_unwanted (j := 9) rfl rfl rfl rfl ?_
      refine at_unwanted (j := 9) rfl rfl rfl rfl ?_
      refine at_wanted (j := 4) rfl ?_
      refine at_v (ov_pick_f rfl rfl rfl) rfl rfl rfl ?_
      refine at_wanted (j := 4) rfl ?_
      refine at_v (ov_move rfl rfl) rfl rfl rfl ?_
      refine at_unwanted (j := 15) rfl rfl rfl rfl ?_
      refine at_unwanted (j := 15) rfl rfl rfl rfl ?_
      refine at_unwanted (j := 15) rfl rfl rfl rfl ?_
      refine at_unwanted (j := 15) rfl rfl rfl rfl ?_
      refine at_wanted (j := 4) rfl ?_
      refine at_v (ov_pick_f rfl rfl rfl) rfl rfl rfl ?_
      refine at_v (ov_pick_f rfl rfl rfl) rfl rfl rfl ?_
      refine at_nil ?_
      refine at_normal ?_
      refine hK13 _ _ _ ?_
      refine at_cond_false rfl ?_
      refine at_seq_k (fun K14 hK14 => ?_)
      refine at_region ?_
      refine at_v (ov_move rfl rfl) rfl rfl rfl ?_
      refine at_v (ov_move rfl rfl) rfl rfl rfl ?_
      refine at_v (ov_move rfl rfl) rfl rfl rfl ?_
      refine at_v (ov_indexRd (fun _ s => hr1.up s) rfl Tryd.underlying23 rfl rfl rfl hget) rfl rfl rfl ?_
      refine at_v (ov_fieldRd0 (k := 2) (fun _ s => hr1.up s) rfl rfl hget rfl) rfl rfl rfl ?_
      refine at_v (ov_loadRd (fun _ s => hr1.up s) rfl rfl rfl hget rfl) rfl rfl rfl ?_
      refine at_t (ot_call (ks := [0]) rfl rfl rfl Tryd.call12 rfl (hAdd _ _ _ _) rfl) rfl rfl rfl ?_
      rintro v0 _ ⟨m0, hp0, rfl⟩
      obtain ⟨rfl, rfl⟩ := hp0
      simp only [List.cons_append, List.nil_append, splice, spliceL]
      refine at_nil ?_
      refine at_normal ?_
      refine hK14 _ _ _ ?_
      refine at_seq_k (fun K15 hK15 => ?_)
      refine at_region ?_
      refine at_v (ov_move rfl rfl) rfl rfl rfl ?_
      refine at_v (ov_move rfl rfl) rfl rfl rfl ?_
      refine at_v (ov_move rfl rfl) rfl rfl rfl ?_
      refine at_v (ov_indexRd (fun _ s => hr1.up s) rfl Tryd.underlying23 rfl rfl rfl hget) rfl rfl rfl ?_
      refine at_v (ov_fieldRd0 (k := 2) (fun _ s => hr1.up s) rfl rfl hget rfl) rfl rfl rfl ?_
      refine at_v (ov_loadRd (fun _ s => hr1.up s) rfl rfl rfl hget rfl) rfl rfl rfl ?_
      refine at_v (ov_int rfl rfl rfl rfl) rfl rfl rfl ?_
      refine at_v (ov_assign rfl rfl) rfl rfl rfl ?_
      refine at_nil ?_
      refine at_normal ?_
      refine hK15 _ _ _ ?_
      refine at_region ?_
      refine at_v (ov_move rfl rfl) rfl rfl rfl ?_
      refine at_v ((ov_int rfl rfl rfl rfl).eq (congrArg (Value.int .i64) (inK_i64 (by omega) (by omega)))) rfl rfl rfl ?_
      refine at_v (ov_assign rfl rfl) rfl rfl rfl ?_
      refine at_nil ?_
      refine at_inb_normal ?_
      refine at_normal ?_
      refine hK12 _ _ _ ?_
      refine at_region ?_
      refine at_v (ov_move rfl rfl) rfl rfl rfl ?_
      refine at_v ((ov_int rfl rfl rfl rfl).eq (congrArg (Value.int .i64) (inK_i64 (by omega) (by omega)))) rfl rfl rfl ?_
      refine at_v (ov_assign rfl rfl) rfl rfl rfl ?_
      refine at_nil ?_
      refine at_normal ?_
      refine at_roundF (i, k + 1, IntKind.i64.wrap (want + x3)) ⟨hi3, hkl⟩ (by simp only; omega) ⟨rfl, rfl, look_eq rfl (congrArg (Value.int .i64) (by simp only; omega)), rfl, trivial⟩ rfl ?_
      exact fun _ s => s.finEq (ks := [0, 0]) (js := []) rfl rfl rfl
  · have hi4 : decide ((k : Int) < m.length) = false := decide_eq_false (by omega)
    have hi5 : decide ((k : Int) = m.length) = true := decide_eq_true (by omega)
    rcases Nat.lt_or_ge i l.length with hil | hil
    · have hi6 : decide ((i : Int) < l.length) = true := decide_eq_true (by omega)
      obtain ⟨⟨x1, x2, x3, x4⟩, hget⟩ : ∃ x, l[i]? = some x := ⟨_, List.getElem?_eq_getElem hil⟩
      refine at_seq_k (fun K10 hK10 => ?_)
      refine at_seq_k (fun K11 hK11 => ?_)
      refine at_region ?_
      refine at_v (ov_move rfl rfl) rfl rfl rfl ?_
      refine at_v (ov_move rfl rfl) rfl rfl rfl ?_
      refine at_v (ov_len_slice rfl Tryd.underlying23 rfl) rfl rfl rfl ?_
      refine at_v (ov_int rfl rfl rfl rfl) rfl rfl rfl ?_
      refine at_v (ov_move rfl rfl) rfl rfl rfl ?_
      refine at_reval 45 (.bool true) rfl (congrArg Value.bool (decide_eq_true (by omega))) ?_
      refine at_unwanted (j := 4) rfl rfl rfl rfl ?_
      refine at_unwanted (j := 4) rfl rfl rfl rfl ?_
      refine at_unwanted (j := 4) rfl rfl rfl rfl ?_
      refine at_unwanted (j := 4) rfl rfl rfl rfl ?_
      refine at_v (ov_pick_t rfl rfl rfl) rfl rfl rfl ?_
      refine at_nil ?_
      refine at_normal ?_
      refine hK11 _ _ _ ?_
      refine at_cond_true rfl ?_
      refine at_skip ?_
      refine at_normal ?_
      refine hK10 _ _ _ ?_
      refine at_seq_k (fun K12 hK12 => ?_)
      refine at_block ?_
      refine at_seq_k (fun K13 hK13 => ?_)
      refine at_region ?_
      refine at_v (ov_move rfl rfl) rfl rfl rfl ?_
      refine at_v (ov_move rfl rfl) rfl rfl rfl ?_
      refine at_v (ov_len_slice rfl Tryd.underlying23 rfl) rfl rfl rfl ?_
      refine at_v (ov_int rfl rfl rfl rfl) rfl rfl rfl ?_
      refine at_v (ov_move rfl rfl) rfl rfl rfl ?_
      refine at_reval 57 (.bool true) rfl (congrArg Value.bool (decide_eq_true (by omega))) ?_
      refine at_unwanted (j := 4) rfl rfl rfl rfl ?_
      refine at_unwanted (j := 4) rfl rfl rfl rfl ?_
      refine at_unwanted (j := 4) rfl rfl rfl rfl ?_
      refine at_unwanted (j := 4) rfl rfl rfl rfl ?_
      refine at_unwanted (j := 4) rfl rfl rfl rfl ?_
      refine at_unwantedN (j := 9) rfl rfl rfl ?_
      refine at_unwantedN (j := 9) rfl rfl rfl ?_
      refine at_unwantedN (j := 9) rfl rfl rfl ?_
      refine at_unwantedN (j := 9) rfl rfl rfl ?_
      refine at_unwanted (j := 4) rfl rfl rfl rfl ?_
      refine at_unwanted (j := 4) rfl rfl rfl rfl ?_
      refine at_unwantedN (j := 15) rfl rfl rfl ?_
      refine at_unwantedN (j := 15) rfl rfl rfl ?_
      refine at_unwantedN (j := 15) rfl rfl rfl ?_
      refine at_unwantedN (j := 15) rfl rfl rfl ?_
      refine at_unwanted (j := 4) rfl rfl rfl rfl ?_
      refine at_v (ov_pick_t rfl rfl rfl) rfl rfl rfl ?_
      refine at_nil ?_
      refine at_normal ?_
      refine hK13 _ _ _ ?_
      refine at_cond_true rfl ?_
      refine at_seq_k (fun K14 hK14 => ?_)
      refine at_region ?_
      refine at_v (ov_move rfl rfl) rfl rfl rfl ?_
      refine at_v (ov_move rfl rfl) rfl rfl rfl ?_
      refine at_v (ov_move rfl rfl) rfl rfl rfl ?_
      refine at_v (ov_indexRd (fun _ s => hr0.up s) rfl Tryd.underlying23 rfl rfl rfl hget) rfl rfl rfl ?_
      refine at_v (ov_fieldRd0 (k := 2) (fun _ s => hr0.up s) rfl rfl hget rfl) rfl rfl rfl ?_
      refine at_v (ov_loadRd (fun _ s => hr0.up s) rfl rfl rfl hget rfl) rfl rfl rfl ?_
      refine at_t (ot_call (ks := [0]) rfl rfl rfl Tryd.call12 rfl (hAdd _ _ _ _) rfl) rfl rfl rfl ?_
      rintro v0 _ ⟨m0, hp0, rfl⟩
      obtain ⟨rfl, rfl⟩ := hp0
      simp only [List.cons_append, List.nil_append, splice, spliceL]
      refine at_nil ?_
      refine at_normal ?_
      refine hK14 _ _ _ ?_
      refine at_seq_k (fun K15 hK15 => ?_)
      refine at_region ?_
      refine at_v (ov_move rfl rfl) rfl rfl rfl ?_
      refine at_v (ov_move rfl rfl) rfl rfl rfl ?_
      refine at_v (ov_move rfl rfl) rfl rfl rfl ?_
      refine at_v (ov_indexRd (fun _ s => hr0.up s) rfl Tryd.underlying23 rfl rfl rfl hget) rfl rfl rfl ?_
      refine at_v (ov_fieldRd0 (k := 2) (fun _ s => hr0.up s) rfl rfl hget rfl) rfl rfl rfl ?_
      refine at_v (ov_loadRd (fun _ s => hr0.up s) rfl rfl rfl hget rfl) rfl rfl rfl ?_
      refine at_v (ov_int rfl rfl rfl rfl) rfl rfl rfl ?_
      refine at_v (ov_assign rfl rfl) rfl rfl rfl ?_
      refine at_nil ?_
      refine at_normal ?_
      refine hK15 _ _ _ ?_
      refine at_region ?_
      refine at_v (ov_move rfl rfl) rfl rfl rfl ?_
      refine at_v ((ov_int rfl rfl rfl rfl).eq (congrArg (Value.int .i64) (inK_i64 (by omega) (by omega)))) rfl rfl rfl ?_
      refine at_v (ov_assign rfl rfl) rfl rfl rfl ?_
      refine at_nil ?_
      refine at_inb_normal ?_
      refine at_normal ?_
      refine hK12 _ _ _ ?_
      refine at_region ?_
      refine at_v (ov_move rfl rfl) rfl rfl rfl ?_
      refine at_v ((ov_int rfl rfl rfl rfl).eq (congrArg (Value.int .i64) (inK_i64 (by omega) (by omega)))) rfl rfl rfl ?_
      refine at_v (ov_assign rfl rfl) rfl rfl rfl ?_
      refine at_nil ?_
      refine at_normal ?_
      refine at_roundF (i + 1, k, IntKind.i64.wrap (want + x3)) ⟨hil, hk3⟩ (by simp only; omega) ⟨rfl, rfl, look_eq rfl (congrArg (Value.int .i64) (by simp only; omega)), rfl, trivial⟩ rfl ?_
      exact fun _ s => s.finEq (ks := [0, 0]) (js := []) rfl rfl rfl
    · have hi6 : decide ((i : Int) < l.length) = false := decide_eq_false (by omega)
      refine at_seq_k (fun K10 hK10 => ?_)
      refine at_seq_k (fun K11 hK11 => ?_)
      refine at_region ?_
      refine at_v (ov_move rfl rfl) rfl rfl rfl ?_
      refine at_v (ov_move rfl rfl) rfl rfl rfl ?_
      refine at_v (ov_len_slice rfl Tryd.underlying23 rfl) rfl rfl rfl ?_
      refine at_v (ov_int rfl rfl rfl rfl) rfl rfl rfl ?_
      refine at_v (ov_move rfl rfl) rfl rfl rfl ?_
      refine at_reval 45 (.bool false) rfl (congrArg Value.bool (decide_eq_false (by omega))) ?_
      refine at_wanted (j := 4) rfl ?_
      refine at_v (ov_move rfl rfl) rfl rfl rfl ?_
      refine at_wanted (j := 4) rfl ?_
      refine at_v (ov_move rfl rfl) rfl rfl rfl ?_
      refine at_wanted (j := 4) rfl ?_
      refine at_v (ov_len_slice rfl Tryd.underlying23 rfl) rfl rfl rfl ?_
      refine at_wanted (j := 4) rfl ?_
      refine at_v (ov_int rfl rfl rfl rfl) rfl rfl rfl ?_
      refine at_v (ov_pick_f rfl rfl rfl) rfl rfl rfl ?_
      refine at_nil ?_
      refine at_normal ?_
      refine hK11 _ _ _ ?_
      refine at_cond_false (congrArg (fun b => some (Value.bool b)) (show _ = false from decide_eq_false (by omega))) ?_
      refine at_exit ?_
      refine at_then_exit ?_
      refine at_then_exit ?_
      refine at_exit_eq ?_
      refine at_normal ?_
      refine hK8 _ _ _ ?_
      refine at_seq_k (fun K12 hK12 => ?_)
      refine at_region ?_
      refine at_v (ov_move rfl rfl) rfl rfl rfl ?_
      refine at_t (ot_call (ks := [0]) rfl rfl rfl Tryd.call16 rfl (hCn1 _ _ _) rfl) rfl rfl rfl ?_
      rintro v0 _ ⟨m0, hp0, rfl⟩
      obtain ⟨rfl, rfl⟩ := hp0
      simp only [List.cons_append, List.nil_append, splice, spliceL]
      refine at_v (ov_move rfl rfl) rfl rfl rfl ?_
      refine at_v (ov_extract rfl rfl rfl) rfl rfl rfl ?_
      refine at_v (ov_extract rfl rfl rfl) rfl rfl rfl ?_
      refine at_v (ov_assign rfl rfl) rfl rfl rfl ?_
      refine at_v (ov_assign rfl rfl) rfl rfl rfl ?_
      refine at_nil ?_
      refine at_normal ?_
      refine hK12 _ _ _ ?_
      refine at_seq_k (fun K13 hK13 => ?_)
      refine at_region ?_
      refine at_v (ov_assign rfl rfl) rfl rfl rfl ?_
      refine at_nil ?_
      refine at_normal ?_
      refine hK13 _ _ _ ?_
      refine at_seq_k (fun K14 hK14 => ?_)
      refine at_seq_k (fun K15 hK15 => ?_)
      refine at_region ?_
      refine at_v (ov_move rfl rfl) rfl rfl rfl ?_
      refine at_v (ov_len_slice rfl Tryd.underlying32 rfl) rfl rfl rfl ?_
      refine at_v (ov_move rfl rfl) rfl rfl rfl ?_
      refine at_nil ?_
      refine at_normal ?_
      refine hK15 _ _ _ ?_
      refine at_block ?_
      clear hi3 hk3 hkl hi4 hi5 hil hi6
      refine at_loopE [115, 116, 117, 18, 118, 119, 120, 121, 122, 123, 8, 124, 125, 126, 16, 127, 114] (fun i : Nat × Int => i.1 ≤ to.length) (fun i => [(114, .int .i64 (i.1 : Nat)), (16, .int .i64 i.2)]) (fun i m => setAt 0 (Tal g1 [sSum, sOne] [want, i.2]) m) (fun i => to.length - i.1) (0, 0) (Nat.zero_le _) ⟨rfl, rfl, trivial⟩ (fun _ s => s) ?_
      rintro ⟨j, fi⟩ hj3
      simp only [setAt] at hj3 ⊢
      refine at_seq_k (fun K16 hK16 => ?_)
      refine at_region ?_
      refine at_v (ov_int rfl rfl rfl rfl) rfl rfl rfl ?_
      refine at_nil ?_
      refine at_normal ?_
      refine hK16 _ _ _ ?_
      refine at_seq_k (fun K17 hK17 => ?_)
      refine at_cond rfl (fun hc => ?_) (fun hc => ?_)
      · have hlt : j < to.length := by simpa using hc
        obtain ⟨x, hget⟩ : ∃ x, to[j]? = some x := ⟨_, List.getElem?_eq_getElem hlt⟩
        have hi8 : (decide (fi = 0) == decide (fi = 0)) = true := by simp
        by_cases hf : fi = 0
        · have hi9 : decide (fi = 0) = true := decide_eq_true hf
          refine at_skip ?_
          refine at_normal ?_
          refine hK17 _ _ _ ?_
          refine at_seq_k (fun K18 hK18 => ?_)
          refine at_block ?_
          refine at_seq_k (fun K19 hK19 => ?_)
          refine at_region ?_
          refine at_v (ov_indexRd (fun _ s => hr3.up s) rfl Tryd.underlying32 rfl rfl rfl hget) rfl rfl rfl ?_
          refine at_v (ov_loadRd0 (fun _ s => hr3.up s) rfl rfl rfl hget rfl) rfl rfl rfl ?_
          refine at_v (ov_assign rfl rfl) rfl rfl rfl ?_
          refine at_nil ?_
          refine at_normal ?_
          refine hK19 _ _ _ ?_
          refine at_seq_k (fun K20 hK20 => ?_)
          refine at_seq_k (fun K21 hK21 => ?_)
          refine at_region ?_
          refine at_v (ov_move rfl rfl) rfl rfl rfl ?_
          refine at_v (ov_move rfl rfl) rfl rfl rfl ?_
          refine at_t (ot_call (ks := [0]) rfl rfl rfl Tryd.call14 rfl (hSwp _ _ _ _) rfl) rfl rfl rfl ?_
          rintro v0 _ ⟨m0, hp0, rfl⟩
          obtain ⟨rfl, rfl⟩ := hp0
          simp only [List.cons_append, List.nil_append, splice, spliceL]
          refine at_v (ov_move rfl rfl) rfl rfl rfl ?_
          refine at_v (ov_int rfl rfl rfl rfl) rfl rfl rfl ?_
          refine at_v (ov_boolne rfl Tryd.underlying4 rfl rfl) rfl rfl rfl ?_
          refine at_nil ?_
          refine at_normal ?_
          refine hK21 _ _ _ ?_
          refine at_cond_false (congrArg (fun b => some (Value.bool b)) (show _ = false from by simp; done)) ?_
          refine at_skip ?_
          refine at_normal ?_
          refine hK20 _ _ _ ?_
          refine at_seq_k (fun K22 hK22 => ?_)
          refine at_region ?_
          refine at_v (ov_move rfl rfl) rfl rfl rfl ?_
          refine at_v (ov_int rfl rfl rfl rfl) rfl rfl rfl ?_
          refine at_nil ?_
          refine at_normal ?_
          refine hK22 _ _ _ ?_
          refine at_cond_true (congrArg (fun b => some (Value.bool b)) (show _ = true from decide_eq_true (by omega))) ?_
          refine at_region ?_
          refine at_v (ov_move rfl rfl) rfl rfl rfl ?_
          refine at_v (ov_assign rfl rfl) rfl rfl rfl ?_
          refine at_nil ?_
          refine at_inb_normal ?_
          refine at_normal ?_
          refine hK18 _ _ _ ?_
          refine at_region ?_
          refine at_v ((ov_int rfl rfl rfl rfl).eq (congrArg (Value.int .i64) (inK_i64 (by omega) (by omega)))) rfl rfl rfl ?_
          refine at_v (ov_move rfl rfl) rfl rfl rfl ?_
          refine at_nil ?_
          refine at_normal ?_
          refine at_roundF (j + 1, x) hlt (by simp only; omega) ⟨rfl, rfl, trivial⟩ rfl ?_
          simp only [setAt, hf, if_true]
          exact fun _ s => s.finEq (ks := [0, 0]) (js := []) rfl rfl rfl
        · have hi9 : decide (fi = 0) = false := decide_eq_false hf
          refine at_skip ?_
          refine at_normal ?_
          refine hK17 _ _ _ ?_
          refine at_seq_k (fun K18 hK18 => ?_)
          refine at_block ?_
          refine at_seq_k (fun K19 hK19 => ?_)
          refine at_region ?_
          refine at_v (ov_indexRd (fun _ s => hr3.up s) rfl Tryd.underlying32 rfl rfl rfl hget) rfl rfl rfl ?_
          refine at_v (ov_loadRd0 (fun _ s => hr3.up s) rfl rfl rfl hget rfl) rfl rfl rfl ?_
          refine at_v (ov_assign rfl rfl) rfl rfl rfl ?_
          refine at_nil ?_
          refine at_normal ?_
          refine hK19 _ _ _ ?_
          refine at_seq_k (fun K20 hK20 => ?_)
          refine at_seq_k (fun K21 hK21 => ?_)
          refine at_region ?_
          refine at_v (ov_move rfl rfl) rfl rfl rfl ?_
          refine at_v (ov_move rfl rfl) rfl rfl rfl ?_
          refine at_t (ot_call (ks := [0]) rfl rfl rfl Tryd.call14 rfl (hSwp _ _ _ _) rfl) rfl rfl rfl ?_
          rintro v0 _ ⟨m0, hp0, rfl⟩
          obtain ⟨rfl, rfl⟩ := hp0
          simp only [List.cons_append, List.nil_append, splice, spliceL]
          refine at_v (ov_move rfl rfl) rfl rfl rfl ?_
          refine at_v (ov_int rfl rfl rfl rfl) rfl rfl rfl ?_
          refine at_v (ov_boolne rfl Tryd.underlying4 rfl rfl) rfl rfl rfl ?_
          refine at_nil ?_
          refine at_normal ?_
          refine hK21 _ _ _ ?_
          refine at_cond_false (congrArg (fun b => some (Value.bool b)) (show _ = false from by simp; done)) ?_
          refine at_skip ?_
          refine at_normal ?_
          refine hK20 _ _ _ ?_
          refine at_seq_k (fun K22 hK22 => ?_)
          refine at_region ?_
          refine at_v (ov_move rfl rfl) rfl rfl rfl ?_
          refine at_v (ov_int rfl rfl rfl rfl) rfl rfl rfl ?_
          refine at_nil ?_
          refine at_normal ?_
          refine hK22 _ _ _ ?_
          refine at_cond_false (congrArg (fun b => some (Value.bool b)) (show _ = false from decide_eq_false (by omega))) ?_
          refine at_skip ?_
          refine at_inb_normal ?_
          refine at_normal ?_
          refine hK18 _ _ _ ?_
          refine at_region ?_
          refine at_v ((ov_int rfl rfl rfl rfl).eq (congrArg (Value.int .i64) (inK_i64 (by omega) (by omega)))) rfl rfl rfl ?_
          refine at_v (ov_move rfl rfl) rfl rfl rfl ?_
          refine at_nil ?_
          refine at_normal ?_
          refine at_roundF (j + 1, fi) hlt (by simp only; omega) ⟨rfl, rfl, trivial⟩ rfl ?_
          simp only [setAt, hf, if_false]
          exact fun _ s => s.finEq (ks := [0, 0]) (js := []) rfl rfl rfl
      · refine at_exit ?_
        refine at_then_exit ?_
        refine at_then_exit ?_
        refine at_exit_eq ?_
        refine at_normal ?_
        refine hK14 _ _ _ ?_
        refine at_seq_k (fun K18 hK18 => ?_)
        refine at_region ?_
        refine at_v (ov_move rfl rfl) rfl rfl rfl ?_
        refine at_t (ot_call (ks := [0]) rfl rfl rfl Tryd.call16 rfl (hCn2 _ _ _) rfl) rfl rfl rfl ?_
        rintro v0 _ ⟨m0, hp0, rfl⟩
        obtain ⟨rfl, rfl⟩ := hp0
        simp only [List.cons_append, List.nil_append, splice, spliceL]
        refine at_v (ov_move rfl rfl) rfl rfl rfl ?_
        refine at_v (ov_extract rfl rfl rfl) rfl rfl rfl ?_
        refine at_v (ov_extract rfl rfl rfl) rfl rfl rfl ?_
        refine at_v (ov_assign rfl rfl) rfl rfl rfl ?_
        refine at_v (ov_assign rfl rfl) rfl rfl rfl ?_
        refine at_nil ?_
        refine at_normal ?_
        refine hK18 _ _ _ ?_
        refine at_seq_k (fun K19 hK19 => ?_)
        refine at_region ?_
        refine at_v (ov_move rfl rfl) rfl rfl rfl ?_
        refine at_v (ov_move rfl rfl) rfl rfl rfl ?_
        refine at_v (ov_int rfl rfl rfl rfl) rfl rfl rfl ?_
        refine at_v (ov_move rfl rfl) rfl rfl rfl ?_
        refine at_reval 136 (.bool true) rfl (congrArg Value.bool (decide_eq_true (by omega))) ?_
        refine at_wanted (j := 3) rfl ?_
        refine at_v (ov_move rfl rfl) rfl rfl rfl ?_
        refine at_v (ov_pick_t rfl rfl rfl) rfl rfl rfl ?_
        refine at_v (ov_move rfl rfl) rfl rfl rfl ?_
        refine at_wanted (j := 6) rfl ?_
        refine at_v (ov_move rfl rfl) rfl rfl rfl ?_
        refine at_wanted (j := 6) rfl ?_
        refine at_v (ov_move rfl rfl) rfl rfl rfl ?_
        refine at_wanted (j := 6) rfl ?_
        refine at_v (ov_int rfl rfl rfl rfl) rfl rfl rfl ?_
        refine at_v (ov_pick_t rfl rfl rfl) rfl rfl rfl ?_
        refine at_v (ov_assign rfl rfl) rfl rfl rfl ?_
        refine at_nil ?_
        refine at_normal ?_
        refine hK19 _ _ _ ?_
        refine at_ret ?_
        refine at_end ?_
        refine at_fin (rsV rfl (res_tmp rfl)) ?_
        refine ⟨_, ⟨?_, rfl⟩, ?_⟩
        · simp
        exact fun _ s => s.finEq (ks := []) (js := [0, 0]) rfl rfl rfl
