/- Package strings: Map; the builder, for longer texts. -/
import Derived.Test.YtfnbdgmeieilhaaDoorProg
import Derived.Lib.RuneBytes
import Derived.Test.YtfnbdgmeieilhaaDoorShelf2
import Derived.Test.YtfnbdgmeieilhaaDoorLexBack
import Derived.Test.YtfnbdgmeieilhaaDoorSLStr
import Derived.KernelRfl
set_option linter.unusedSimpArgs false
set_option linter.unusedVariables false
set_option maxRecDepth 100000
namespace Go.Proofs.YtfnbdgmeieilhaaDoor
open Go Go.Proofs.YtfnbdgmeieilhaaDoor.SL Go.RowKit
abbrev U8T (w : World) : Prop := Lib.Utf8Tabs 1 2 w
theorem u8_up {w0 w : World} {l : List HP} (h : U8T w0) (s : Sat w0 w l) : U8T w := ⟨fun c hc => s.oldCell (h.1 c hc), fun i hi => ⟨s.oldCell (h.2 i hi).1, s.oldCell (h.2 i hi).2⟩⟩
def spaceF (x : Int) : Int := if x = 10 then 32 else x
theorem T21 (w0 : World) (x : Int) : Tri Tryd.prog w0 21 [.int .i32 x] [] fun v m => v = .int .i32 (spaceF x) ∧ m = [] := by
  refine tri_of Tryd.func21 rfl rfl fun F => ?_
  simp only [Tryd.ntmps21, argEnv, List.nil_append]
  by_cases h : x = 10
  · have hi : decide (x = 10) = true := decide_eq_true h
    refine at_seq_k (fun K0 hK0 => ?_)
    refine at_region ?_
    refine at_v (ov_assign rfl rfl) rfl rfl rfl ?_
    refine at_nil ?_
    refine at_normal ?_
    refine hK0 _ _ _ ?_
    refine at_seq_k (fun K1 hK1 => ?_)
    refine at_seq_k (fun K2 hK2 => ?_)
    refine at_region ?_
    refine at_v (ov_move rfl rfl) rfl rfl rfl ?_
    refine at_v (ov_int rfl rfl rfl rfl) rfl rfl rfl ?_
    refine at_nil ?_
    refine at_normal ?_
    refine hK2 _ _ _ ?_
    refine at_cond_true (congrArg (fun b => some (Value.bool b)) (show _ = true from decide_eq_true (by omega))) ?_
    refine at_seq_k (fun K3 hK3 => ?_)
    refine at_region ?_
    refine at_v (ov_assign rfl rfl) rfl rfl rfl ?_
    refine at_nil ?_
    refine at_normal ?_
    refine hK3 _ _ _ ?_
    refine at_ret ?_
    refine at_then_ret ?_
    refine at_end ?_
    refine at_fin (rsV rfl (res_tmp rfl)) ?_
    refine ⟨_, ⟨by simp [spaceF, h], rfl⟩, ?_⟩
    exact fun _ s => s.finEq (ks := []) (js := []) rfl rfl rfl
  · have hi : decide (x = 10) = false := decide_eq_false h
    refine at_seq_k (fun K0 hK0 => ?_)
    refine at_region ?_
    refine at_v (ov_assign rfl rfl) rfl rfl rfl ?_
    refine at_nil ?_
    refine at_normal ?_
    refine hK0 _ _ _ ?_
    refine at_seq_k (fun K1 hK1 => ?_)
    refine at_seq_k (fun K2 hK2 => ?_)
    refine at_region ?_
    refine at_v (ov_move rfl rfl) rfl rfl rfl ?_
    refine at_v (ov_int rfl rfl rfl rfl) rfl rfl rfl ?_
    refine at_nil ?_
    refine at_normal ?_
    refine hK2 _ _ _ ?_
    refine at_cond_false (congrArg (fun b => some (Value.bool b)) (show _ = false from decide_eq_false (by omega))) ?_
    refine at_skip ?_
    refine at_normal ?_
    refine hK1 _ _ _ ?_
    refine at_seq_k (fun K3 hK3 => ?_)
    refine at_region ?_
    refine at_v (ov_move rfl rfl) rfl rfl rfl ?_
    refine at_v (ov_assign rfl rfl) rfl rfl rfl ?_
    refine at_nil ?_
    refine at_normal ?_
    refine hK3 _ _ _ ?_
    refine at_ret ?_
    refine at_end ?_
    refine at_fin (rsV rfl (res_tmp rfl)) ?_
    refine ⟨_, ⟨by simp [spaceF, h], rfl⟩, ?_⟩
    exact fun _ s => s.finEq (ks := []) (js := []) rfl rfl rfl
theorem T20 (w0 : World) (s : BL) (hs : s.length ≤ 10000) (hT : U8T w0) : Tri Tryd.prog w0 20 [.func (.func 21) #[] #[], SV s] [] fun v m => v = SV (Lib.mapD spaceF s) ∧ m = [] := fun F w st => by
  refine (Tryd.strings_Map_grows 21 #[] (Tryd.call21) spaceF ⟨s.toArray⟩ w (by show s.length < _; omega) (fun W x _ _ => ?_) (fun x hx => by unfold spaceF; split <;> omega) (u8_up hT st)).mono ?_
  · refine (T21 W (x : Int) [] W (Sat.start W)).mono ?_
    rintro e w' ⟨v, m, rfl, ⟨rfl, rfl⟩, s⟩
    exact ⟨rfl, s.below⟩
  · rintro e w' ⟨rfl, hb⟩
    exact ⟨_, [], rfl, ⟨rfl, rfl⟩, st.grown hb⟩
theorem T22a (w0 : World) {b : Nat} {bs : BL} (x : BL) (hb : bs.length + x.length ≤ 1000000) : Tri Tryd.prog w0 22 [ptrTo b, SV x] [Bld b bs] fun r m => ∃ r', r = r' ∧ m = [Bld b (bs ++ x)] := by
  refine tri_of Tryd.func22 rfl rfl fun F => ?_
  simp only [Tryd.ntmps22, argEnv, List.cons_append, List.nil_append]
  refine at_bld fun A c u => ?_
  refine at_seq_k (fun K0 hK0 => ?_)
  refine at_region ?_
  refine at_v (ov_assign rfl rfl) rfl rfl rfl ?_
  refine at_v (ov_assign rfl rfl) rfl rfl rfl ?_
  refine at_nil ?_
  refine at_normal ?_
  refine hK0 _ _ _ ?_
  refine at_seq_k (fun K1 hK1 => ?_)
  refine at_region ?_
  refine at_v (ov_move rfl rfl) rfl rfl rfl ?_
  refine at_t (ot_call (ks := [0]) rfl rfl rfl Tryd.call49 rfl (T49b _) rfl) rfl rfl rfl ?_
  rintro v0 _ ⟨m0, hp0, rfl⟩
  obtain ⟨rfl, rfl⟩ := hp0
  simp only [List.cons_append, List.nil_append, splice, spliceL]
  refine at_nil ?_
  refine at_normal ?_
  refine hK1 _ _ _ ?_
  refine at_seq_k (fun K2 hK2 => ?_)
  refine at_region ?_
  refine at_v (ov_move rfl rfl) rfl rfl rfl ?_
  refine at_v (ov_move rfl rfl) rfl rfl rfl ?_
  refine at_v (ov_nilCheck rfl rfl) rfl rfl rfl ?_
  refine at_v (ov_fieldAddr (k := 1) (r := 1) rfl rfl rfl rfl) rfl rfl rfl ?_
  refine at_v (ov_load rfl rfl rfl (fun _ s => s.ld (k := 0) rfl rfl)) rfl rfl rfl ?_
  refine at_v (ov_move rfl rfl) rfl rfl rfl ?_
  refine at_t (ot_bufStr (k := 1) rfl Tryd.underlying47 Tryd.underlying9 (i := Tryd.t5) rfl rfl rfl rfl rfl rfl rfl (by first | omega | (simp only [List.length_append, List.length_cons, List.length_nil, List.length_map]; omega))) rfl rfl rfl ?_
  rintro _ _ ⟨A0, c0, rfl, rfl⟩
  simp only [setAt]
  refine at_v (ov_nilCheck rfl rfl) rfl rfl rfl ?_
  refine at_v (ov_fieldAddr (k := 1) (r := 1) rfl rfl rfl rfl) rfl rfl rfl ?_
  refine at_t0 (ot_store (k := 0) rfl rfl rfl rfl rfl rfl rfl) rfl rfl ?_
  rintro _ _ ⟨rfl, rfl⟩
  simp only [setAt, splice, spliceL, Value.cells]
  refine at_nil ?_
  refine at_normal ?_
  refine hK2 _ _ _ ?_
  refine at_seq_k (fun K3 hK3 => ?_)
  refine at_region ?_
  refine at_v (ov_move rfl rfl) rfl rfl rfl ?_
  refine at_v (ov_len_strL rfl Tryd.underlying9 rfl) rfl rfl rfl ?_
  refine at_v (ov_assign rfl rfl) rfl rfl rfl ?_
  refine at_v (ov_assign rfl rfl) rfl rfl rfl ?_
  refine at_nil ?_
  refine at_normal ?_
  refine hK3 _ _ _ ?_
  refine at_ret ?_
  refine at_end ?_
  refine at_fold (A := Bld b (bs ++ x)) [0, 0] rfl (fun h s => ⟨A0, c0, true, s⟩) ?_
  refine at_fin (rsL (vs := [_, _]) rfl ⟨res_tmp rfl, res_tmp rfl, trivial⟩ rfl) ?_
  refine ⟨_, ⟨_, rfl, rfl⟩, ?_⟩
  exact fun _ s => s.finEq (ks := [0]) (js := []) rfl rfl rfl
/-- What Map leaves: no newline; at most so many bytes. -/
theorem enc_no {x : Int} (h : x ≠ 10) : (10 : UInt8) ∉ Lib.encodeRune x := by
  intro hm
  unfold Lib.encodeRune at hm
  obtain ⟨y, hy, he⟩ := List.mem_map.1 hm
  have hb := Lib.encodeRuneZ_byte x y hy
  have h2 : y ≠ 10 := by
    unfold Lib.encodeRuneZ at hy
    split at hy
    · simp at hy; omega
    · split at hy
      · simp at hy; omega
      · split at hy
        · simp at hy; omega
        · split at hy <;> (simp at hy; omega)
  have h3 := congrArg UInt8.toNat he
  simp only [Nat.toUInt8, UInt8.toNat_ofNat'] at h3
  have h4 : (10 : UInt8).toNat = 10 := rfl
  omega
theorem mapD_no : ∀ (n : Nat) {s : BL}, s.length ≤ n → (10 : UInt8) ∉ Lib.mapD spaceF s := by
  intro n
  induction n with
  | zero =>
    intro s h
    have : s = [] := List.eq_nil_of_length_eq_zero (by omega)
    subst this
    rw [Lib.mapD_nil]; simp
  | succ n ih =>
    intro s h
    by_cases hne : s = []
    · subst hne; rw [Lib.mapD_nil]; simp
    · have hw := Lib.decodeL_width s
      have hl : 0 < s.length := List.length_pos_iff.2 hne
      rw [Lib.mapD_step spaceF s hne, List.mem_append, not_or]
      refine ⟨?_, ih (by rw [List.length_drop]; omega)⟩
      split
      · exact enc_no (by unfold spaceF; split <;> omega)
      · simp
theorem mapD_len : ∀ (n : Nat) {s : BL}, s.length ≤ n → (Lib.mapD spaceF s).length ≤ 4 * s.length := by
  intro n
  induction n with
  | zero =>
    intro s h
    have : s = [] := List.eq_nil_of_length_eq_zero (by omega)
    subst this
    rw [Lib.mapD_nil]; simp
  | succ n ih =>
    intro s h
    by_cases hne : s = []
    · subst hne; rw [Lib.mapD_nil]; simp
    · have hw := Lib.decodeL_width s
      have hl : 0 < s.length := List.length_pos_iff.2 hne
      have hle := Lib.decodeL_le s hne
      have hr := ih (s := s.drop (Lib.decodeL s).2) (by rw [List.length_drop]; omega)
      rw [List.length_drop] at hr
      rw [Lib.mapD_step spaceF s hne, List.length_append]
      have he : (if 0 ≤ spaceF (Lib.decodeL s).1 then Lib.encodeRune (spaceF (Lib.decodeL s).1) else []).length ≤ 4 := by
        split
        · unfold Lib.encodeRune
          rw [List.length_map]
          exact (Lib.encodeRuneZ_length _).2
        · simp
      omega
end Go.Proofs.YtfnbdgmeieilhaaDoor
