/- Ranging over a string that need not be ASCII; IndexRune, IndexAny, ContainsAny: that they answer, at every string. -/
import Derived.Test.YtfnbdgmeieilhaaDoorProg
import Derived.Test.YtfnbdgmeieilhaaDoorShelf3
import Derived.Test.YtfnbdgmeieilhaaDoorStrs2
import Derived.Test.YtfnbdgmeieilhaaDoorSLStr
import Derived.KernelRfl
import Derived.Laws.Runes
import Derived.KernelRfl
import Derived.Lib.TrimUEq
import Derived.Lib.MapLaws
set_option linter.unusedSimpArgs false
set_option linter.unusedVariables false
set_option maxRecDepth 100000
namespace Go.Proofs.YtfnbdgmeieilhaaDoor
open Go Go.Proofs.YtfnbdgmeieilhaaDoor.SL Go.RowKit
section
variable {P : Program} {w0 : World} {n : Nat} {ds : List Deferred} {env : Env} {l : List HP} {o : Oper}
theorem decode_le (s : ByteArray) (pos : Nat) (h : pos < s.size) : pos + (Utf8.decode s pos).2 ≤ s.size := by
  have hl : (s.data.toList.drop pos).length = s.size - pos := by rw [List.length_drop]; rfl
  have := Lib.decodeL_le (s.data.toList.drop pos) (by intro e; rw [e, List.length_nil] at hl; omega)
  rw [Lib.decodeL_drop, hl] at this
  omega
theorem ot_nextAny {x : Operand} {a : BL} {r k pos : Nat} (ho : o.op = .next x true) (hx : ev env x = some (ptrTo r)) (hk : nth k l = some (StrIt r a pos)) (hp : pos < a.length) :
    OpT P w0 n ds env l o fun v l' => ∃ pos' z : Nat, pos < pos' ∧ pos' ≤ a.length ∧ z ≤ 1114111 ∧ v = .tuple #[.bool true, .int .i64 (pos : Nat), .int .i32 (z : Nat)] ∧ l' = setAt k (StrIt r a pos') l := fun fr w f s => by
  unfold Oper.goesV execOp
  rw [ho]
  have hr := (s.blk hk).1
  have hlt : pos < (⟨a.toArray⟩ : ByteArray).size := hp
  have h1 := decode_le _ _ hlt
  have h2 := Lib.width_pos ⟨a.toArray⟩ pos
  have h3 := Lib.rune_le ⟨a.toArray⟩ pos
  have hrun : (Instr.next (ptrTo r) true o.type).run P w = .ok (.tuple #[.bool true, .int .i64 (pos : Nat), .int .i32 ((Utf8.decode ⟨a.toArray⟩ pos).1 : Nat)]) (w.putObj r (.stringIter ⟨a.toArray⟩ (pos + (Utf8.decode ⟨a.toArray⟩ pos).2))) := by
    simp only [Instr.next, getObj, setObj, Sem.run_bind, Sem.run, hr, Result.andThen, hlt, if_true]
    simp [goInt, Sem.run, hr, World.putObj]
  simp [f.eval hx, hrun]
  exact ⟨_, ⟨_, by omega, h1, _, h3, rfl, rfl⟩, s.putO _ hk⟩
theorem ov_runeStr {src dst : TypeId} {x : Operand} {k : IntKind} {z : Int} (ho : o.op = .convert src dst x) (hs : (P.underlying src).isSome = true) (hd : P.underlying dst = some .string) (hx : ev env x = some (.int k z)) : OpV P w0 n ds env l o (.string (Utf8.encode z)) := fun fr w f s => by
  unfold execOp
  rw [ho]
  have h := run_convert_int_string (P := P) w src dst k z hs hd
  simp [f.eval hx, h]
end
def quotesL : BL := [34, 39, 96, 42]
theorem quotes_asc : ∀ c ∈ quotesL, c.toNat < 128 := by decide
theorem T94 (w0 : World) (z : Nat) : Tri Tryd.prog w0 94 [.int .i32 (z : Nat)] [] fun v m => v = .bool (Lib.validRune (z : Int)) ∧ m = [] := fun F w st => by
  refine (Any.utf8_ValidRune (ρ := Tryd.lays153_ren) { Tryd.lays153 with } (z : Int) w).mono ?_
  rintro e w' ⟨rfl, rfl⟩
  exact ⟨_, [], rfl, ⟨rfl, rfl⟩, st⟩
theorem bytes_last (ee : ByteArray) (h3 : 2 ≤ ee.size) (h4 : ee.size ≤ 4) (h5 : ∀ h : ee.size - 1 < ee.size, 128 ≤ (ee[ee.size - 1]'h).toNat) : ∃ e : BL, ee = ⟨e.toArray⟩ ∧ 2 ≤ e.length ∧ e.length ≤ 4 ∧ ∃ b, e[e.length - 1]? = some b ∧ 128 ≤ b.toNat := by
  have hsz : ee.data.toList.length = ee.size := Array.length_toList
  refine ⟨ee.data.toList, by simp, by omega, by omega, ee[ee.size - 1]'(by omega), ?_, h5 (by omega)⟩
  rw [hsz, List.getElem?_eq_getElem (by omega)]
  rfl
theorem indexByte_none {c : UInt8} : ∀ {s : BL}, c ∉ s → Lib.indexByte s c = -1
  | [], _ => rfl
  | a :: s, h => by
    simp only [List.mem_cons, not_or] at h
    unfold Lib.indexByte
    rw [if_neg (by simpa using fun e => h.1 e.symm), indexByte_none h.2]
    simp
theorem T80 (w0 : World) (z : Nat) (hz : z ≤ 1114111) : Tri Tryd.prog w0 80 [SV quotesL, .int .i32 (z : Nat)] [] fun v m => ∃ n, v = .int .i64 n ∧ m = [] := by
  refine tri_of Tryd.func80 rfl rfl fun F => ?_
  simp only [Tryd.ntmps80, argEnv, List.nil_append]
  have hlq : quotesL.length = 4 := rfl
  by_cases h1 : z < 128
  · have hi1 : decide ((z : Int) < 128) = true := decide_eq_true (by omega)
    obtain ⟨c, hc⟩ : ∃ c : UInt8, c.toNat = z := ⟨UInt8.ofNat z, by simp; omega⟩
    have hB := T29 w0 quotesL c
    rw [hc] at hB
    have hw : IntKind.u8.wrap (z : Int) = (z : Int) := by simp [IntKind.wrap, IntKind.bits, IntKind.signed]; omega
    rw [← hw] at hB
    refine at_seq_k (fun K0 hK0 => ?_)
    refine at_region ?_
    refine at_v (ov_assign rfl rfl) rfl rfl rfl ?_
    refine at_nil ?_
    refine at_normal ?_
    refine hK0 _ _ _ ?_
    refine at_block ?_
    refine at_seq_k (fun K1 hK1 => ?_)
    refine at_region ?_
    refine at_v (ov_move rfl rfl) rfl rfl rfl ?_
    refine at_v (ov_int rfl rfl rfl rfl) rfl rfl rfl ?_
    refine at_v (ov_move rfl rfl) rfl rfl rfl ?_
    refine at_wanted (j := 2) rfl ?_
    refine at_v (ov_move rfl rfl) rfl rfl rfl ?_
    refine at_wanted (j := 2) rfl ?_
    refine at_v (ov_int rfl rfl rfl rfl) rfl rfl rfl ?_
    refine at_v (ov_pick_t rfl rfl rfl) rfl rfl rfl ?_
    refine at_v (ov_assign rfl rfl) rfl rfl rfl ?_
    refine at_nil ?_
    refine at_normal ?_
    refine hK1 _ _ _ ?_
    refine at_cond_true (congrArg (fun b => some (Value.bool b)) (show _ = true from decide_eq_true (by omega))) ?_
    refine at_seq_k (fun K2 hK2 => ?_)
    refine at_region ?_
    refine at_v (ov_move rfl rfl) rfl rfl rfl ?_
    refine at_v (ov_move rfl rfl) rfl rfl rfl ?_
    refine at_v (ov_conv_int rfl rfl Tryd.underlying5 rfl) rfl rfl rfl ?_
    refine at_t (ot_call (ks := []) rfl rfl rfl Tryd.call29 rfl (hB ) rfl) rfl rfl rfl ?_
    rintro v0 _ ⟨m0, hp0, rfl⟩
    obtain ⟨rfl, rfl⟩ := hp0
    simp only [List.cons_append, List.nil_append, splice, spliceL]
    refine at_v (ov_assign rfl rfl) rfl rfl rfl ?_
    refine at_nil ?_
    refine at_normal ?_
    refine hK2 _ _ _ ?_
    refine at_ret ?_
    refine at_inb_ret ?_
    refine at_end ?_
    refine at_fin (rsV rfl (res_tmp rfl)) ?_
    refine ⟨_, ⟨_, rfl, rfl⟩, ?_⟩
    exact fun _ s => s.finEq (ks := []) (js := []) rfl rfl rfl
  have hi1 : decide ((z : Int) < 128) = false := decide_eq_false (by omega)
  by_cases h2 : z = 65533
  · have hi2 : decide ((z : Int) = 65533) = true := decide_eq_true (by omega)
    refine at_seq_k (fun K0 hK0 => ?_)
    refine at_region ?_
    refine at_v (ov_assign rfl rfl) rfl rfl rfl ?_
    refine at_nil ?_
    refine at_normal ?_
    refine hK0 _ _ _ ?_
    refine at_block ?_
    refine at_seq_k (fun K1 hK1 => ?_)
    refine at_region ?_
    refine at_v (ov_move rfl rfl) rfl rfl rfl ?_
    refine at_v (ov_int rfl rfl rfl rfl) rfl rfl rfl ?_
    refine at_v (ov_move rfl rfl) rfl rfl rfl ?_
    refine at_wanted (j := 2) rfl ?_
    refine at_v (ov_move rfl rfl) rfl rfl rfl ?_
    refine at_wanted (j := 2) rfl ?_
    refine at_v (ov_int rfl rfl rfl rfl) rfl rfl rfl ?_
    refine at_v (ov_pick_t rfl rfl rfl) rfl rfl rfl ?_
    refine at_v (ov_assign rfl rfl) rfl rfl rfl ?_
    refine at_nil ?_
    refine at_normal ?_
    refine hK1 _ _ _ ?_
    refine at_cond_false (congrArg (fun b => some (Value.bool b)) (show _ = false from decide_eq_false (by omega))) ?_
    refine at_seq_k (fun K2 hK2 => ?_)
    refine at_region ?_
    refine at_v (ov_move rfl rfl) rfl rfl rfl ?_
    refine at_v (ov_int rfl rfl rfl rfl) rfl rfl rfl ?_
    refine at_v (ov_assign rfl rfl) rfl rfl rfl ?_
    refine at_nil ?_
    refine at_normal ?_
    refine hK2 _ _ _ ?_
    refine at_cond_true (congrArg (fun b => some (Value.bool b)) (show _ = true from decide_eq_true (by omega))) ?_
    refine at_seq_k (fun K3 hK3 => ?_)
    refine at_seq_k (fun K4 hK4 => ?_)
    refine at_region ?_
    refine at_v (ov_move rfl rfl) rfl rfl rfl ?_
    refine at_t (ot_rangeStr rfl Tryd.underlying9 rfl) rfl rfl rfl ?_
    rintro _ _ ⟨it0, rfl, rfl⟩
    refine at_nil ?_
    refine at_normal ?_
    refine hK4 _ _ _ ?_
    refine at_block ?_
    refine at_loopE [176, 177, 178, 179, 5, 6, 180, 181, 182, 4] (fun k => k ≤ quotesL.length) (fun _ => []) (fun k m => setAt 0 (StrIt it0 quotesL k) m) (fun k => quotesL.length - k) 0 (Nat.zero_le _) trivial (fun _ s => s) ?_
    intro k hk
    simp only [setAt]
    rcases Nat.lt_or_ge k quotesL.length with hlt | hge
    · obtain ⟨c, hc⟩ : ∃ c, quotesL[k]? = some c := ⟨_, List.getElem?_eq_getElem hlt⟩
      have hac : c.toNat < 128 := quotes_asc c (List.mem_of_getElem? hc)
      have hi3 : decide ((c.toNat : Int) = 65533) = false := decide_eq_false (by omega)
      refine at_seq_k (fun K5 hK5 => ?_)
      refine at_region ?_
      refine at_t (ot_nextStr (k := 0) rfl rfl rfl hc (by first | assumption | omega)) rfl rfl rfl ?_
      rintro _ _ ⟨rfl, rfl⟩
      simp only [setAt]
      refine at_v (ov_extract rfl rfl rfl) rfl rfl rfl ?_
      refine at_nil ?_
      refine at_normal ?_
      refine hK5 _ _ _ ?_
      refine at_seq_k (fun K6 hK6 => ?_)
      refine at_cond_true rfl ?_
      refine at_skip ?_
      refine at_normal ?_
      refine hK6 _ _ _ ?_
      refine at_block ?_
      refine at_seq_k (fun K7 hK7 => ?_)
      refine at_region ?_
      refine at_v (ov_extract rfl rfl rfl) rfl rfl rfl ?_
      refine at_v (ov_extract rfl rfl rfl) rfl rfl rfl ?_
      refine at_v (ov_assign rfl rfl) rfl rfl rfl ?_
      refine at_v (ov_assign rfl rfl) rfl rfl rfl ?_
      refine at_nil ?_
      refine at_normal ?_
      refine hK7 _ _ _ ?_
      refine at_seq_k (fun K8 hK8 => ?_)
      refine at_region ?_
      refine at_v (ov_move rfl rfl) rfl rfl rfl ?_
      refine at_v (ov_int rfl rfl rfl rfl) rfl rfl rfl ?_
      refine at_nil ?_
      refine at_normal ?_
      refine hK8 _ _ _ ?_
      refine at_cond_false (congrArg (fun b => some (Value.bool b)) (show _ = false from decide_eq_false (by omega))) ?_
      refine at_skip ?_
      refine at_inb_normal ?_
      refine at_normal ?_
      refine at_roundF (k + 1) hlt (by omega) trivial rfl ?_
      simp only [setAt]
      exact fun _ s => s.finEq (ks := [0]) (js := []) rfl rfl rfl
    · have hkl : k = quotesL.length := by omega
      subst hkl
      refine at_seq_k (fun K5 hK5 => ?_)
      refine at_region ?_
      refine at_v (ov_nextEnd (k := 0) rfl rfl rfl) rfl rfl rfl ?_
      refine at_v (ov_extract rfl rfl rfl) rfl rfl rfl ?_
      refine at_nil ?_
      refine at_normal ?_
      refine hK5 _ _ _ ?_
      refine at_seq_k (fun K6 hK6 => ?_)
      refine at_cond_false rfl ?_
      refine at_exit ?_
      refine at_then_exit ?_
      refine at_then_exit ?_
      refine at_exit_eq ?_
      refine at_normal ?_
      refine hK3 _ _ _ ?_
      refine at_seq_k (fun K7 hK7 => ?_)
      refine at_region ?_
      refine at_v (ov_assign rfl rfl) rfl rfl rfl ?_
      refine at_nil ?_
      refine at_normal ?_
      refine hK7 _ _ _ ?_
      refine at_ret ?_
      refine at_inb_ret ?_
      refine at_end ?_
      refine at_fin (rsV rfl (res_tmp rfl)) ?_
      refine ⟨_, ⟨_, rfl, rfl⟩, ?_⟩
      exact fun _ s => s.finEq (ks := []) (js := [0]) rfl rfl rfl
  have hi2 : decide ((z : Int) = 65533) = false := decide_eq_false (by omega)
  have hV := T94 w0 z
  have hE : Lib.validRune (z : Int) = true → ∃ e : BL, Utf8.encode (z : Int) = ⟨e.toArray⟩ ∧ 2 ≤ e.length ∧ e.length ≤ 4 ∧ ∃ b, e[e.length - 1]? = some b ∧ 128 ≤ b.toNat := fun hv => by
    have hv2 : (0 ≤ (z : Int) ∧ (z : Int) < 55296) ∨ (57343 < (z : Int) ∧ (z : Int) ≤ 1114111) := by
      unfold Lib.validRune at hv
      exact of_decide_eq_true hv
    have hval : Utf8.valid (z : Int) = true := by
      clear hV hi1 hi2
      unfold Utf8.valid
      simp only [Bool.or_eq_true, Bool.and_eq_true, decide_eq_true_eq]
      omega
    obtain ⟨h3, h4, h5⟩ := encode_facts (z : Int) hval (by omega)
    exact bytes_last _ h3 h4 h5
  generalize Lib.validRune (z : Int) = vb at hV hE
  cases vb with
  | false =>
    refine at_seq_k (fun K0 hK0 => ?_)
    refine at_region ?_
    refine at_v (ov_assign rfl rfl) rfl rfl rfl ?_
    refine at_nil ?_
    refine at_normal ?_
    refine hK0 _ _ _ ?_
    refine at_block ?_
    refine at_seq_k (fun K1 hK1 => ?_)
    refine at_region ?_
    refine at_v (ov_move rfl rfl) rfl rfl rfl ?_
    refine at_v (ov_int rfl rfl rfl rfl) rfl rfl rfl ?_
    refine at_v (ov_move rfl rfl) rfl rfl rfl ?_
    refine at_wanted (j := 2) rfl ?_
    refine at_v (ov_move rfl rfl) rfl rfl rfl ?_
    refine at_wanted (j := 2) rfl ?_
    refine at_v (ov_int rfl rfl rfl rfl) rfl rfl rfl ?_
    refine at_v (ov_pick_t rfl rfl rfl) rfl rfl rfl ?_
    refine at_v (ov_assign rfl rfl) rfl rfl rfl ?_
    refine at_nil ?_
    refine at_normal ?_
    refine hK1 _ _ _ ?_
    refine at_cond_false (congrArg (fun b => some (Value.bool b)) (show _ = false from decide_eq_false (by omega))) ?_
    refine at_seq_k (fun K2 hK2 => ?_)
    refine at_region ?_
    refine at_v (ov_move rfl rfl) rfl rfl rfl ?_
    refine at_v (ov_int rfl rfl rfl rfl) rfl rfl rfl ?_
    refine at_v (ov_assign rfl rfl) rfl rfl rfl ?_
    refine at_nil ?_
    refine at_normal ?_
    refine hK2 _ _ _ ?_
    refine at_cond_false (congrArg (fun b => some (Value.bool b)) (show _ = false from decide_eq_false (by omega))) ?_
    refine at_seq_k (fun K3 hK3 => ?_)
    refine at_region ?_
    refine at_v (ov_move rfl rfl) rfl rfl rfl ?_
    refine at_t (ot_call (ks := []) rfl rfl rfl Tryd.call94 rfl (hV ) rfl) rfl rfl rfl ?_
    rintro v0 _ ⟨m0, hp0, rfl⟩
    obtain ⟨rfl, rfl⟩ := hp0
    simp only [List.cons_append, List.nil_append, splice, spliceL]
    refine at_v (ov_not rfl rfl) rfl rfl rfl ?_
    refine at_v (ov_assign rfl rfl) rfl rfl rfl ?_
    refine at_nil ?_
    refine at_normal ?_
    refine hK3 _ _ _ ?_
    refine at_cond_true rfl ?_
    refine at_seq_k (fun K4 hK4 => ?_)
    refine at_region ?_
    refine at_v (ov_assign rfl rfl) rfl rfl rfl ?_
    refine at_nil ?_
    refine at_normal ?_
    refine hK4 _ _ _ ?_
    refine at_ret ?_
    refine at_inb_ret ?_
    refine at_end ?_
    refine at_fin (rsV rfl (res_tmp rfl)) ?_
    refine ⟨_, ⟨_, rfl, rfl⟩, ?_⟩
    exact fun _ s => s.finEq (ks := []) (js := []) rfl rfl rfl
  | true =>
    obtain ⟨e, he, he2, he4, b, hb, hb8⟩ := hE rfl
    clear hE
    refine at_seq_k (fun K0 hK0 => ?_)
    refine at_region ?_
    refine at_v (ov_assign rfl rfl) rfl rfl rfl ?_
    refine at_nil ?_
    refine at_normal ?_
    refine hK0 _ _ _ ?_
    refine at_block ?_
    refine at_seq_k (fun K1 hK1 => ?_)
    refine at_region ?_
    refine at_v (ov_move rfl rfl) rfl rfl rfl ?_
    refine at_v (ov_int rfl rfl rfl rfl) rfl rfl rfl ?_
    refine at_v (ov_move rfl rfl) rfl rfl rfl ?_
    refine at_wanted (j := 2) rfl ?_
    refine at_v (ov_move rfl rfl) rfl rfl rfl ?_
    refine at_wanted (j := 2) rfl ?_
    refine at_v (ov_int rfl rfl rfl rfl) rfl rfl rfl ?_
    refine at_v (ov_pick_t rfl rfl rfl) rfl rfl rfl ?_
    refine at_v (ov_assign rfl rfl) rfl rfl rfl ?_
    refine at_nil ?_
    refine at_normal ?_
    refine hK1 _ _ _ ?_
    refine at_cond_false (congrArg (fun b => some (Value.bool b)) (show _ = false from decide_eq_false (by omega))) ?_
    refine at_seq_k (fun K2 hK2 => ?_)
    refine at_region ?_
    refine at_v (ov_move rfl rfl) rfl rfl rfl ?_
    refine at_v (ov_int rfl rfl rfl rfl) rfl rfl rfl ?_
    refine at_v (ov_assign rfl rfl) rfl rfl rfl ?_
    refine at_nil ?_
    refine at_normal ?_
    refine hK2 _ _ _ ?_
    refine at_cond_false (congrArg (fun b => some (Value.bool b)) (show _ = false from decide_eq_false (by omega))) ?_
    refine at_seq_k (fun K3 hK3 => ?_)
    refine at_region ?_
    refine at_v (ov_move rfl rfl) rfl rfl rfl ?_
    refine at_t (ot_call (ks := []) rfl rfl rfl Tryd.call94 rfl (hV ) rfl) rfl rfl rfl ?_
    rintro v0 _ ⟨m0, hp0, rfl⟩
    obtain ⟨rfl, rfl⟩ := hp0
    simp only [List.cons_append, List.nil_append, splice, spliceL]
    refine at_v (ov_not rfl rfl) rfl rfl rfl ?_
    refine at_v (ov_assign rfl rfl) rfl rfl rfl ?_
    refine at_nil ?_
    refine at_normal ?_
    refine hK3 _ _ _ ?_
    refine at_cond_false rfl ?_
    refine at_scope ?_
    refine at_seq_k (fun K4 hK4 => ?_)
    refine at_region ?_
    refine at_v (ov_move rfl rfl) rfl rfl rfl ?_
    refine at_v (ov_runeStr rfl (by rw [Tryd.underlying21]; rfl) Tryd.underlying9 rfl) rfl rfl rfl ?_
    rw [he]
    clear he
    refine at_v (ov_assign rfl rfl) rfl rfl rfl ?_
    refine at_nil ?_
    refine at_normal ?_
    refine hK4 _ _ _ ?_
    refine at_seq_k (fun K5 hK5 => ?_)
    refine at_region ?_
    refine at_v (ov_move rfl rfl) rfl rfl rfl ?_
    refine at_v (ov_len_strL rfl Tryd.underlying9 rfl) rfl rfl rfl ?_
    refine at_v ((ov_int rfl rfl rfl rfl).eq (congrArg (Value.int .i64) (inK_i64 (by omega) (by omega)))) rfl rfl rfl ?_
    refine at_v (ov_assign rfl rfl) rfl rfl rfl ?_
    refine at_nil ?_
    refine at_normal ?_
    refine hK5 _ _ _ ?_
    refine at_seq_k (fun K6 hK6 => ?_)
    refine at_region ?_
    refine at_v (ov_move rfl rfl) rfl rfl rfl ?_
    refine at_v (ov_assign rfl rfl) rfl rfl rfl ?_
    refine at_nil ?_
    refine at_normal ?_
    refine hK6 _ _ _ ?_
    refine at_seq_k (fun K7 hK7 => ?_)
    refine at_region ?_
    refine at_v (ov_assign rfl rfl) rfl rfl rfl ?_
    refine at_nil ?_
    refine at_normal ?_
    refine hK7 _ _ _ ?_
    refine at_seq_k (fun K8 hK8 => ?_)
    refine at_block ?_
    have hql : (e.length - 1 : Nat) < quotesL.length := by omega
    obtain ⟨c, hc⟩ : ∃ c, quotesL[e.length - 1]? = some c := ⟨_, List.getElem?_eq_getElem hql⟩
    have hca := quotes_asc c (List.mem_of_getElem? hc)
    have hi5 : decide ((e.length : Int) - 1 < quotesL.length) = true := decide_eq_true (by omega)
    have hi6 : (!decide ((c.toNat : Int) = (b.toNat : Int))) = true := by simp; omega
    have hB := T29 w0 (quotesL.drop ((e.length - 1) + 1)) b
    refine at_loopE [23, 24, 25, 26, 27, 28, 29, 30, 31, 32, 33, 34, 35, 36, 37, 38, 39, 40, 41, 11, 42, 43, 4, 44, 45, 46, 47, 9, 12, 48, 49, 50, 51, 54, 55, 56, 57, 58, 59, 60, 61, 62, 63, 64, 52, 53, 65, 66, 67, 68, 69, 10, 70, 71, 72, 73, 74, 75, 76, 77, 78, 79, 80, 81, 82, 83, 84, 85, 86, 87, 88, 89, 90, 91, 92, 93, 94, 95, 96, 97, 98] (fun _ : Unit => True) (fun _ => [(9, .int .i64 ((e.length : Int) - 1))]) (fun _ m => m) (fun _ => 0) () trivial ⟨rfl, trivial⟩ (fun _ s => s) ?_
    intro _ _
    have hi7 : decide (Lib.indexByte (List.drop ((e.length : Int) - 1 + 1).toNat quotesL) b < 0) = true := by
      rw [indexByte_none (fun hm => by have := quotes_asc b (List.mem_of_mem_drop hm); omega)]
      rfl
    refine at_seq_k (fun K9 hK9 => ?_)
    refine at_seq_k (fun K10 hK10 => ?_)
    refine at_region ?_
    refine at_v (ov_move rfl rfl) rfl rfl rfl ?_
    refine at_v (ov_move rfl rfl) rfl rfl rfl ?_
    refine at_v (ov_len_strL rfl Tryd.underlying9 rfl) rfl rfl rfl ?_
    refine at_v (ov_int rfl rfl rfl rfl) rfl rfl rfl ?_
    refine at_nil ?_
    refine at_normal ?_
    refine hK10 _ _ _ ?_
    refine at_cond_true (congrArg (fun b => some (Value.bool b)) (show _ = true from decide_eq_true (by omega))) ?_
    refine at_skip ?_
    refine at_normal ?_
    refine hK9 _ _ _ ?_
    refine at_block ?_
    refine at_scope ?_
    refine at_seq_k (fun K11 hK11 => ?_)
    refine at_seq_k (fun K12 hK12 => ?_)
    refine at_draw _ [] 1000 [(2, 0), (2, 1), (1, 2), (2, 3), (2, 4), (1, 5), (2, 6)] (by kernel_rfl) (by kernel_rfl) (fun _ s => (s.pulls (ks := []) rfl).left) ?_
    refine aq_p (ov_move rfl rfl) rfl rfl rfl ?_
    refine aq_p (ov_move rfl rfl) rfl rfl rfl ?_
    refine aq_v (ov_indexL rfl Tryd.underlying9 rfl rfl hc (by first | rfl | omega)) rfl rfl rfl ?_
    refine aq_p (ov_move rfl rfl) rfl rfl rfl ?_
    refine aq_p (ov_move rfl rfl) rfl rfl rfl ?_
    refine aq_v (ov_indexL rfl Tryd.underlying9 rfl rfl hb (by first | rfl | omega)) rfl rfl rfl ?_
    refine aq_p (ov_int rfl rfl rfl rfl) rfl rfl rfl ?_
    refine aq_nil ?_
    refine at_normal ?_
    refine hK12 _ _ _ ?_
    refine at_cond_true (congrArg (fun b => some (Value.bool b)) (show _ = true from by first | assumption | (rw [Bool.not_eq_true']; exact decide_eq_false (by omega)))) ?_
    refine at_seq_k (fun K13 hK13 => ?_)
    refine at_draw _ [] 1000 [(2, 0), (2, 1), (2, 2), (1, 3), (2, 4), (2, 5), (1, 6), (0, 7), (2, 8)] (by kernel_rfl) (by kernel_rfl) (fun _ s => (s.pulls (ks := []) rfl).left) ?_
    refine aq_p (ov_move rfl rfl) rfl rfl rfl ?_
    refine aq_p (ov_move rfl rfl) rfl rfl rfl ?_
    refine aq_p ((ov_int rfl rfl rfl rfl).eq (congrArg (Value.int .i64) (inK_i64 (by omega) (by omega)))) rfl rfl rfl ?_
    refine aq_v (ov_sliceFromL rfl Tryd.underlying9 rfl rfl (Int.toNat_of_nonneg (by omega)).symm (by first | assumption | omega | (simp only [List.length_append, List.length_cons, List.length_nil]; omega) | (simp; done) | (simp; omega))) rfl rfl rfl ?_
    refine aq_p (ov_move rfl rfl) rfl rfl rfl ?_
    refine aq_p (ov_move rfl rfl) rfl rfl rfl ?_
    refine aq_v (ov_indexL rfl Tryd.underlying9 rfl rfl hb (by first | rfl | omega)) rfl rfl rfl ?_
    refine aq_t (ot_call (ks := []) rfl rfl rfl Tryd.call29 rfl (T29 _ _ _) rfl) rfl rfl rfl ?_
    rintro v0 _ ⟨m0, hp0, rfl⟩
    obtain ⟨rfl, rfl⟩ := hp0
    simp only [List.cons_append, List.nil_append, splice, spliceL]
    refine ⟨fun _ s => (s.pulls (ks := []) rfl).left, ?_⟩
    refine aq_p (ov_assign rfl rfl) rfl rfl rfl ?_
    refine aq_nil ?_
    refine at_normal ?_
    refine hK13 _ _ _ ?_
    refine at_seq_k (fun K14 hK14 => ?_)
    refine at_seq_k (fun K15 hK15 => ?_)
    refine at_region ?_
    refine at_v (ov_move rfl rfl) rfl rfl rfl ?_
    refine at_v (ov_int rfl rfl rfl rfl) rfl rfl rfl ?_
    refine at_nil ?_
    refine at_normal ?_
    refine hK15 _ _ _ ?_
    refine at_cond_true (congrArg (fun b => some (Value.bool b)) (show _ = true from by first | assumption | (rw [Bool.not_eq_true']; exact decide_eq_false (by omega)))) ?_
    refine at_seq_k (fun K16 hK16 => ?_)
    refine at_region ?_
    refine at_v (ov_assign rfl rfl) rfl rfl rfl ?_
    refine at_nil ?_
    refine at_normal ?_
    refine hK16 _ _ _ ?_
    refine at_ret ?_
    refine at_then_ret ?_
    refine at_then_ret ?_
    refine at_ng_ret ?_
    refine at_inb_ret ?_
    refine at_then_ret ?_
    refine at_inb_ret ?_
    refine at_then_ret ?_
    refine at_ng_ret ?_
    refine at_inb_ret ?_
    refine at_end ?_
    refine at_fin (rsV rfl (res_tmp rfl)) ?_
    refine ⟨_, ⟨_, rfl, rfl⟩, ?_⟩
    exact fun _ s => s.finEq (ks := []) (js := []) rfl rfl rfl
theorem T50 (w0 : World) (s : BL) (hs : s.length < 4294967281) : Tri Tryd.prog w0 50 [SV s, SV quotesL] [] fun v m => ∃ n, v = .int .i64 n ∧ m = [] := by
  by_cases h8 : 8 < s.length
  · intro F w st
    refine (Tryd.strings_IndexAny_long (zero_of_info (n := 256) (by kernel_rfl)).1 ⟨s.toArray⟩ ⟨quotesL.toArray⟩ w (by decide) h8 hs (by decide) (fun j b hb => quotes_asc b (by simpa using List.mem_of_getElem? hb))).mono ?_
    rintro e w' ⟨rfl, rfl⟩
    exact ⟨_, [], rfl, ⟨_, rfl, rfl⟩, st.grown (((Below.refl _ _).alloc (Nat.le_refl _) _).alloc (by simp) _)⟩
  refine tri_of Tryd.func50 rfl rfl fun F => ?_
  simp only [Tryd.ntmps50, argEnv, List.nil_append]
  have hi1 : decide ((s.length : Int) > 8) = false := decide_eq_false (by omega)
  have hi2 : decide (quotesL = ([] : BL)) = false := by decide
  have hi3 : decide ((quotesL.length : Int) = 1) = false := by decide
  have hS : Tri Tryd.prog w0 81 [.int .i64 (s.length : Nat)] [] fun v m => v = .bool false ∧ m = [] := by
    refine tri_of Tryd.func81 rfl rfl fun F => ?_
    simp only [Tryd.ntmps81, argEnv, List.nil_append]
    refine at_seq_k (fun K0 hK0 => ?_)
    refine at_region ?_
    refine at_v (ov_assign rfl rfl) rfl rfl rfl ?_
    refine at_nil ?_
    refine at_normal ?_
    refine hK0 _ _ _ ?_
    refine at_seq_k (fun K1 hK1 => ?_)
    refine at_region ?_
    refine at_v (ov_move rfl rfl) rfl rfl rfl ?_
    refine at_v (ov_int rfl rfl rfl rfl) rfl rfl rfl ?_
    refine at_v (ov_assign rfl rfl) rfl rfl rfl ?_
    refine at_nil ?_
    refine at_normal ?_
    refine hK1 _ _ _ ?_
    refine at_ret ?_
    refine at_end ?_
    refine at_fin (rsV rfl (res_tmp rfl)) ?_
    refine ⟨_, ⟨by rw [hi1], rfl⟩, ?_⟩
    exact fun _ s => s.finEq (ks := []) (js := []) rfl rfl rfl
  refine at_seq_k (fun K0 hK0 => ?_)
  refine at_region ?_
  refine at_v (ov_assign rfl rfl) rfl rfl rfl ?_
  refine at_nil ?_
  refine at_normal ?_
  refine hK0 _ _ _ ?_
  refine at_seq_k (fun K1 hK1 => ?_)
  refine at_seq_k (fun K2 hK2 => ?_)
  refine at_region ?_
  refine at_v (ov_move rfl rfl) rfl rfl rfl ?_
  refine at_v (ov_strL rfl rfl rfl rfl) rfl rfl rfl ?_
  refine at_nil ?_
  refine at_normal ?_
  refine hK2 _ _ _ ?_
  refine at_cond_false rfl ?_
  refine at_skip ?_
  refine at_normal ?_
  refine hK1 _ _ _ ?_
  refine at_seq_k (fun K3 hK3 => ?_)
  refine at_seq_k (fun K4 hK4 => ?_)
  refine at_region ?_
  refine at_v (ov_move rfl rfl) rfl rfl rfl ?_
  refine at_v (ov_len_strL rfl Tryd.underlying9 rfl) rfl rfl rfl ?_
  refine at_v (ov_int rfl rfl rfl rfl) rfl rfl rfl ?_
  refine at_nil ?_
  refine at_normal ?_
  refine hK4 _ _ _ ?_
  refine at_cond_false rfl ?_
  refine at_skip ?_
  refine at_normal ?_
  refine hK3 _ _ _ ?_
  refine at_seq_k (fun K5 hK5 => ?_)
  refine at_seq_k (fun K6 hK6 => ?_)
  refine at_region ?_
  refine at_v (ov_move rfl rfl) rfl rfl rfl ?_
  refine at_v (ov_len_strL rfl Tryd.underlying9 rfl) rfl rfl rfl ?_
  refine at_t (ot_call (ks := []) rfl rfl rfl Tryd.call81 rfl (hS ) rfl) rfl rfl rfl ?_
  rintro v0 _ ⟨m0, hp0, rfl⟩
  obtain ⟨rfl, rfl⟩ := hp0
  simp only [List.cons_append, List.nil_append, splice, spliceL]
  refine at_nil ?_
  refine at_normal ?_
  refine hK6 _ _ _ ?_
  refine at_cond_false rfl ?_
  refine at_skip ?_
  refine at_normal ?_
  refine hK5 _ _ _ ?_
  refine at_seq_k (fun K7 hK7 => ?_)
  refine at_seq_k (fun K8 hK8 => ?_)
  refine at_region ?_
  refine at_v (ov_move rfl rfl) rfl rfl rfl ?_
  refine at_t (ot_rangeStr rfl Tryd.underlying9 rfl) rfl rfl rfl ?_
  rintro _ _ ⟨it0, rfl, rfl⟩
  refine at_nil ?_
  refine at_normal ?_
  refine hK8 _ _ _ ?_
  refine at_block ?_
  refine at_loopE [46, 47, 48, 49, 9, 10, 50, 51, 52, 53, 54, 4] (fun k => k ≤ s.length) (fun _ => []) (fun k m => setAt 0 (StrIt it0 s k) m) (fun k => s.length - k) 0 (Nat.zero_le _) trivial (fun _ s => s) ?_
  intro k hk
  simp only [setAt]
  rcases Nat.lt_or_ge k s.length with hlt | hge
  · refine at_seq_k (fun K9 hK9 => ?_)
    refine at_region ?_
    refine at_t (ot_nextAny (k := 0) rfl rfl rfl hlt) rfl rfl rfl ?_
    rintro _ _ ⟨k', z, hk1, hk2, hz, rfl, rfl⟩
    simp only [setAt]
    have hIR := T80 w0 z hz
    refine at_v (ov_extract rfl rfl rfl) rfl rfl rfl ?_
    refine at_nil ?_
    refine at_normal ?_
    refine hK9 _ _ _ ?_
    refine at_seq_k (fun K10 hK10 => ?_)
    refine at_cond_true rfl ?_
    refine at_skip ?_
    refine at_normal ?_
    refine hK10 _ _ _ ?_
    refine at_block ?_
    refine at_seq_k (fun K11 hK11 => ?_)
    refine at_region ?_
    refine at_v (ov_extract rfl rfl rfl) rfl rfl rfl ?_
    refine at_v (ov_extract rfl rfl rfl) rfl rfl rfl ?_
    refine at_v (ov_assign rfl rfl) rfl rfl rfl ?_
    refine at_v (ov_assign rfl rfl) rfl rfl rfl ?_
    refine at_nil ?_
    refine at_normal ?_
    refine hK11 _ _ _ ?_
    refine at_seq_k (fun K12 hK12 => ?_)
    refine at_region ?_
    refine at_v (ov_move rfl rfl) rfl rfl rfl ?_
    refine at_v (ov_move rfl rfl) rfl rfl rfl ?_
    refine at_t (ot_call (ks := []) rfl rfl rfl Tryd.call80 rfl (hIR ) rfl) rfl rfl rfl ?_
    rintro v0 _ ⟨m0, hp0, rfl⟩
    obtain ⟨n0, hp0⟩ := hp0
    obtain ⟨rfl, rfl⟩ := hp0
    simp only [List.cons_append, List.nil_append, splice, spliceL]
    refine at_v (ov_int rfl rfl rfl rfl) rfl rfl rfl ?_
    refine at_nil ?_
    refine at_normal ?_
    refine hK12 _ _ _ ?_
    refine at_cond rfl (fun hc => ?_) (fun hc => ?_)
    · refine at_seq_k (fun K13 hK13 => ?_)
      refine at_region ?_
      refine at_v (ov_move rfl rfl) rfl rfl rfl ?_
      refine at_v (ov_assign rfl rfl) rfl rfl rfl ?_
      refine at_nil ?_
      refine at_normal ?_
      refine hK13 _ _ _ ?_
      refine at_ret ?_
      refine at_inb_ret ?_
      refine at_then_ret ?_
      refine at_inb_ret ?_
      refine at_then_ret ?_
      refine at_end ?_
      refine at_fin (rsV rfl (res_tmp rfl)) ?_
      refine ⟨_, ⟨_, rfl, rfl⟩, ?_⟩
      exact fun _ s => s.finEq (ks := []) (js := [0]) rfl rfl rfl
    · refine at_skip ?_
      refine at_inb_normal ?_
      refine at_normal ?_
      refine at_roundF k' hk2 (by omega) trivial rfl ?_
      simp only [setAt]
      exact fun _ s => s.finEq (ks := [0]) (js := []) rfl rfl rfl
  · have hkl : k = s.length := by omega
    subst hkl
    refine at_seq_k (fun K9 hK9 => ?_)
    refine at_region ?_
    refine at_v (ov_nextEnd (k := 0) rfl rfl rfl) rfl rfl rfl ?_
    refine at_v (ov_extract rfl rfl rfl) rfl rfl rfl ?_
    refine at_nil ?_
    refine at_normal ?_
    refine hK9 _ _ _ ?_
    refine at_seq_k (fun K10 hK10 => ?_)
    refine at_cond_false rfl ?_
    refine at_exit ?_
    refine at_then_exit ?_
    refine at_then_exit ?_
    refine at_exit_eq ?_
    refine at_normal ?_
    refine hK7 _ _ _ ?_
    refine at_seq_k (fun K11 hK11 => ?_)
    refine at_region ?_
    refine at_v (ov_assign rfl rfl) rfl rfl rfl ?_
    refine at_nil ?_
    refine at_normal ?_
    refine hK11 _ _ _ ?_
    refine at_ret ?_
    refine at_end ?_
    refine at_fin (rsV rfl (res_tmp rfl)) ?_
    refine ⟨_, ⟨_, rfl, rfl⟩, ?_⟩
    exact fun _ s => s.finEq (ks := []) (js := [0]) rfl rfl rfl
/-- ContainsAny answers, at every string; and rightly where the string is ASCII. -/
theorem T25 (w0 : World) (s : BL) (hs : s.length < 4294967281) : Tri Tryd.prog w0 25 [SV s, SV quotesL] [] fun v m => ∃ b, v = .bool b ∧ ((∀ c ∈ s, c.toNat < 128) → b = Lib.containsAny s quotesL) ∧ m = [] := by
  by_cases ha : ∀ c ∈ s, c.toNat < 128
  · intro F w st
    refine (Tryd.strings_ContainsAny_laid ⟨s.toArray⟩ ⟨quotesL.toArray⟩ w hs (by decide) (fun j b hb => ha b (by simpa using List.mem_of_getElem? hb)) (fun j b hb => quotes_asc b (by simpa using List.mem_of_getElem? hb))).mono ?_
    rintro e w' ⟨rfl, hb⟩
    exact ⟨_, [], rfl, ⟨_, rfl, fun _ => rfl, rfl⟩, st.grown hb⟩
  refine tri_of Tryd.func25 rfl rfl fun F => ?_
  simp only [Tryd.ntmps25, argEnv, List.nil_append]
  refine at_seq_k (fun K0 hK0 => ?_)
  refine at_region ?_
  refine at_v (ov_assign rfl rfl) rfl rfl rfl ?_
  refine at_nil ?_
  refine at_normal ?_
  refine hK0 _ _ _ ?_
  refine at_seq_k (fun K1 hK1 => ?_)
  refine at_region ?_
  refine at_v (ov_move rfl rfl) rfl rfl rfl ?_
  refine at_v (ov_move rfl rfl) rfl rfl rfl ?_
  refine at_t (ot_call (ks := []) rfl rfl rfl Tryd.call50 rfl (T50 _ _ (by first | assumption | rfl | omega | decide | (simp; done) | (simp at *; omega))) rfl) rfl rfl rfl ?_
  rintro v0 _ ⟨m0, hp0, rfl⟩
  obtain ⟨n0, hp0⟩ := hp0
  obtain ⟨rfl, rfl⟩ := hp0
  simp only [List.cons_append, List.nil_append, splice, spliceL]
  refine at_v (ov_int rfl rfl rfl rfl) rfl rfl rfl ?_
  refine at_v (ov_assign rfl rfl) rfl rfl rfl ?_
  refine at_nil ?_
  refine at_normal ?_
  refine hK1 _ _ _ ?_
  refine at_ret ?_
  refine at_end ?_
  refine at_fin (rsV rfl (res_tmp rfl)) ?_
  refine ⟨_, ⟨_, rfl, fun h => absurd h ha, rfl⟩, ?_⟩
  exact fun _ s => s.finEq (ks := []) (js := []) rfl rfl rfl
end Go.Proofs.YtfnbdgmeieilhaaDoor
