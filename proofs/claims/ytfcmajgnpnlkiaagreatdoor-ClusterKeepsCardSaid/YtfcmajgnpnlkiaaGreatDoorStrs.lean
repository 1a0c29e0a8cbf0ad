/- Package strings, as contracts over atoms; strings.Builder walked. -/
import Derived.Test.YtfcmajgnpnlkiaaGreatDoorProg
import Derived.Test.YtfcmajgnpnlkiaaGreatDoorShelf
import Derived.Test.YtfcmajgnpnlkiaaGreatDoorSLB
import Derived.KernelRfl
set_option linter.unusedSimpArgs false
set_option linter.unusedVariables false
set_option maxRecDepth 100000
namespace Go.Proofs.YtfcmajgnpnlkiaaGreatDoor
open Go Go.Proofs.YtfcmajgnpnlkiaaGreatDoor.SL Go.RowKit
abbrev MaxL (w : World) : Prop := ∃ m, w.cell? ⟨0, 0, none⟩ = some (.int .i64 m)
theorem maxL_up {w0 w : World} {l : List HP} (h : MaxL w0) (s : Sat w0 w l) : ∃ m, w.cell? ⟨0, 0, none⟩ = some (.int .i64 m) := let ⟨m, e⟩ := h; ⟨m, s.oldCell e⟩
theorem T79 (w0 : World) (s p : BL) : Tri Tryz.prog w0 79 [SV s, SV p] [] fun v m => v = .bool (Lib.hasPrefix s p) ∧ m = [] := fun F w st => by
  refine (Tryz.strings_HasPrefix ⟨s.toArray⟩ ⟨p.toArray⟩ w).mono ?_;rintro e w' ⟨rfl, rfl⟩;exact ⟨_, [], rfl, ⟨rfl, rfl⟩, st⟩
theorem T80 (w0 : World) (s p : BL) (hM : MaxL w0) (hs : s.length < 4294967281) : Tri Tryz.prog w0 80 [SV s, SV p] [] fun v m => v = .int .i64 (Lib.index s p) ∧ m = [] := fun F w st => by
  obtain ⟨mx, hmx⟩ := maxL_up hM st;refine (Tryz.strings_Index ⟨s.toArray⟩ ⟨p.toArray⟩ mx w hs hmx).mono ?_;rintro e w' ⟨rfl, rfl⟩;exact ⟨_, [], rfl, ⟨rfl, rfl⟩, st⟩
theorem T59 (w0 : World) (s : BL) (c : UInt8) : Tri Tryz.prog w0 59 [SV s, .int .u8 (c.toNat : Int)] [] fun v m => v = .int .i64 (Lib.indexByte s c) ∧ m = [] := fun F w st => by
  refine (Tryz.strings_IndexByte ⟨s.toArray⟩ (c.toNat : Int) w).mono ?_;rintro e w' ⟨rfl, rfl⟩;exact ⟨_, [], rfl, ⟨by simp, rfl⟩, st⟩
theorem drewN_sat {w0 w : World} {l : List HP} (s : Sat w0 w l) (k : Nat) : Sat w0 (w.drewN k) l :=
  s.grown ⟨rfl, rfl, rfl, by simp [World.drewN], fun i hi => by simp [World.drewN]⟩
theorem T81 (w0 : World) (s p : BL) (hM : MaxL w0) (hs : s.length < 4294967281) : Tri Tryz.prog w0 81 [SV s, SV p] [] fun v m => v = .tuple #[SV (Lib.cut s p).1, SV (Lib.cut s p).2.1, .bool (Lib.cut s p).2.2] ∧ m = [] := fun F w st => by
  obtain ⟨mx, hmx⟩ := maxL_up hM st;refine (Tryz.strings_Cut ⟨s.toArray⟩ ⟨p.toArray⟩ mx w hs hmx).mono ?_;rintro e w' ⟨rfl, n, rfl⟩;exact ⟨_, [], rfl, ⟨rfl, rfl⟩, drewN_sat st n⟩
theorem T82 (w0 : World) (s p : BL) (hs : s.length ≤ 9223372036854775807) (hp : p.length < 4294967281) (ha : ∀ b ∈ p, b.toNat < 128) : Tri Tryz.prog w0 82 [SV s, SV p] [] fun v m => v = SV (Lib.trimS s p) ∧ m = [] := fun F w st => by
  refine (Any.strings_Trim_laid Tryz.lays160 (by kernel_rfl) ⟨s.toArray⟩ ⟨p.toArray⟩ w hs hp (fun j b hb => ha b (by simpa using List.mem_of_getElem? hb))).mono ?_;rintro e w' ⟨rfl, hb⟩;exact ⟨_, [], rfl, ⟨rfl, rfl⟩, st.grown hb⟩
theorem T104 (w0 : World) (s old new : BL) (hM : MaxL w0) (hs : s.length < 4294967281) (h1 : 1 ≤ old.length) (hlen : s.length + Lib.countB ⟨s.toArray⟩ ⟨old.toArray⟩ * new.length ≤ 140737488355328) : Tri Tryz.prog w0 104 [SV s, SV old, SV new] [] fun v m => v = SV (Lib.replaceAll s old new) ∧ m = [] := fun F w st => by
  obtain ⟨mx, hmx⟩ := maxL_up hM st;refine (Tryz.strings_ReplaceAll ⟨s.toArray⟩ ⟨old.toArray⟩ ⟨new.toArray⟩ mx w hs hmx h1 hlen).mono ?_;rintro e w' ⟨rfl, hb⟩;exact ⟨_, [], rfl, ⟨rfl, rfl⟩, st.grown hb⟩
def bsE (s : BL) : List Value := [SV s]
theorem map_data (xs : List BL) : (xs.map fun s => (⟨s.toArray⟩ : ByteArray)).map (·.data.toList) = xs := by
  induction xs with
  | nil => rfl
  | cons a xs ih => simp only [List.map_cons]; rw [ih]
theorem T105 (w0 : World) {A : Option Addr} {c : Nat} (xs : List BL) (sep : BL) (hx : xs.length ≤ 100000) (hlen : (Lib.join xs sep).length ≤ 140737488355328) : Tri Tryz.prog w0 105 [.slice A xs.length c, SV sep] [Row bsE 9 1 A c xs] fun v m => v = SV (Lib.join xs sep) ∧ m = [Row bsE 9 1 A c xs] := fun F w st => by
  by_cases h0 : xs = []
  · subst h0;refine (Tryz.strings_Join_none A c ⟨sep.toArray⟩ w).mono ?_;rintro e w' ⟨rfl, rfl⟩;exact ⟨_, _, rfl, ⟨rfl, rfl⟩, st⟩
  · have hle := (st.rowLen (k := 0) rfl).1;have hrd := st.rd (k := 0) rfl;obtain ⟨ad, rfl, hc⟩ := hrd.at_ h0;obtain ⟨_, _, hrow⟩ := (show Sat w0 w (Row bsE 9 1 (some ad) c xs :: F) from st).openRow
    rcases hrow with ⟨h, _⟩ | ⟨g, off, cur, e, sg, _⟩
    · cases h
    · simp only [Option.some.injEq] at e;subst e;have hg := (sg.blk (k := 0) rfl).1
      have := Tryz.strings_Join g off c (xs.map fun s => ⟨s.toArray⟩) ⟨sep.toArray⟩ w (fun j x hx => by
        rw [List.getElem?_map] at hx;obtain ⟨y, hy, rfl⟩ := Option.map_eq_some_iff.1 hx;have := hrd.cells hy (j := 0) (u := SV y) rfl;rw [add_none] at this
        simpa using this) (Array.getElem?_eq_some_iff.1 hg).1 (by simp; omega) (by simpa using hle) (by rw [map_data]; exact hlen)
      rw [List.length_map] at this;refine this.mono ?_;rintro e w' ⟨rfl, hb⟩;refine ⟨_, _, rfl, ⟨?_, rfl⟩, st.grown hb⟩;rw [map_data]
def Bld (b : Nat) (bs : BL) : HP := fun h => ∃ A, ∃ c, ∃ u : Bool, star [cl b #[.pointer (if u then some ⟨b, 0, none⟩ else none), .slice A bs.length c] 215, BufA 5 A c bs] h
theorem at_bld {w0 : World} {n : Nat} {ds : List Deferred} {R : Act → World → Prop} {env : Env} {l : List HP} {b : Nat} {bs : BL} (k : ∀ A c (u : Bool), At w0 n ds R env (cl b #[.pointer (if u then some ⟨b, 0, none⟩ else none), .slice A bs.length c] 215 :: BufA 5 A c bs :: l)) : At w0 n ds R env (Bld b bs :: l) :=
  at_ex fun A => at_ex fun c => at_ex fun u => at_open (k A c u)
theorem T163 (w0 : World) {b : Nat} {v : Value} : Tri Tryz.prog w0 163 [ptrTo b] [cl b #[.pointer none, v] 215] fun r m => r = .tuple #[] ∧ m = [cl b #[ptrTo b, v] 215] := by
 refine tri_k Tryz.func163 rfl rfl fun F => ?_;simp only [Tryz.ntmps163, argEnv, List.cons_append, List.nil_append];refine zH fun zq zQ => ?_;refine zCM [(0,_,_,_)] ⟨rfl,trivial⟩ [0] 6 rfl ?_;refine zV (ov_ptr_nil (q := none) rfl Tryz.underlying212 rfl rfl) ?_;refine zO 6 rfl ?_;refine zV (ov_unsafe (k := 0) rfl Tryz.underlying212 Tryz.underlying258 rfl rfl rfl rfl) ?_;refine zT (ot_extern (e := Extern.AbiNoEscape.same) rfl rfl rfl (run_callFunc_extern Tryz.func187 (by kernel_rfl) (by kernel_rfl) (by kernel_rfl) (by kernel_rfl)) (fun w s => ⟨w, rfl, s⟩)) ?_;rintro _ _ ⟨rfl, rfl⟩;refine zV (ov_fromUnsafe (k := 0) (cells := 2) rfl Tryz.underlying258 Tryz.underlying212 rfl rfl rfl rfl (by kernel_rfl)) ?_;refine zO 2 rfl ?_;refine zS 0 ?_;simp only [setAt, splice, spliceL, Value.cells];refine zO 1 rfl ?_;refine zQ ?_;refine at_end ?_;refine at_fin (rs0 rfl) ?_;refine ⟨_, ⟨rfl, rfl⟩, ?_⟩;exact zE [0] []
theorem T163a (w0 : World) {b : Nat} {v : Value} : Tri Tryz.prog w0 163 [ptrTo b] [cl b #[ptrTo b, v] 215] fun r m => r = .tuple #[] ∧ m = [cl b #[ptrTo b, v] 215] := by
 refine tri_k Tryz.func163 rfl rfl fun F => ?_;simp only [Tryz.ntmps163, argEnv, List.cons_append, List.nil_append];refine zH fun zq zQ => ?_;refine zCM [(0,_,_,_)] ⟨rfl,trivial⟩ [0] 6 rfl ?_;refine zV (ov_ptr_nil (q := none) rfl Tryz.underlying212 rfl rfl) ?_;refine zOM [(0,_,_,_)] ⟨rfl,trivial⟩ [0] 10 rfl ?_;refine zV (ov_ptr_nsame rfl Tryz.underlying212 rfl rfl rfl) ?_;refine zO 4 rfl ?_;refine zQ ?_;refine at_end ?_;refine at_fin (rs0 rfl) ?_;refine ⟨_, ⟨rfl, rfl⟩, ?_⟩;exact zE [0] []
theorem T163b (w0 : World) {b : Nat} {v : Value} {u : Bool} : Tri Tryz.prog w0 163 [ptrTo b] [cl b #[.pointer (if u then some ⟨b, 0, none⟩ else none), v] 215] fun r m => r = .tuple #[] ∧ m = [cl b #[ptrTo b, v] 215] := by
  cases u with
  | true => exact T163a w0
  | false => exact T163 w0
theorem T129 (w0 : World) {b : Nat} {bs : BL} (x : UInt8) (hb : bs.length ≤ 100000) : Tri Tryz.prog w0 129 [ptrTo b, .int .u8 (x.toNat : Int)] [Bld b bs] fun r m => ∃ r', r = r' ∧ m = [Bld b (bs ++ [x])] := by
 refine tri_k Tryz.func129 rfl rfl fun F => ?_;simp only [Tryz.ntmps129, argEnv, List.cons_append, List.nil_append];refine at_bld fun A c u => ?_;refine zH fun zq zQ => ?_;refine zC 8 rfl ?_;refine zcall [0] rfl rfl rfl Tryz.call163 rfl (T163b _) rfl ?_;simp only [zca, zna, splice, spliceL];refine zOM [(0,_,_,_)] ⟨rfl,trivial⟩ [0] 10 rfl ?_;refine zT (ot_buildSlice (cs := [_]) rfl Tryz.underlying213 rfl rfl rfl rfl rfl rfl) ?_;rintro _ _ ⟨g0, rfl, rfl⟩;refine zT (ot_bufBytes (ys := [_]) (fun _ s => s.rdPt (k := 0) rfl (by simp only [List.map_cons, List.map_nil, List.flatten_cons, List.flatten_nil, List.append_nil]; rfl) (by simp [bE])) rfl Tryz.underlying213 (i := Tryz.t5) rfl rfl rfl rfl (k := 2) rfl rfl rfl (by simp) (by first | omega | (simp only [List.length_append, List.length_cons, List.length_nil, List.length_map]; omega))) ?_;rintro _ _ ⟨A0, c0, rfl, rfl⟩;simp only [setAt];refine zO 2 rfl ?_;refine zS 1 ?_;simp only [setAt, splice, spliceL, Value.cells];refine zO 8 rfl ?_;refine zQ ?_;refine at_end ?_;refine at_fold (A := Bld b (bs ++ [x])) [1, 1] rfl (fun h s => ⟨A0, c0, true, s⟩) ?_;refine zfin ?_;refine ⟨_, ⟨_, rfl, rfl⟩, ?_⟩;exact zE [0] [0]
theorem T128 (w0 : World) {b : Nat} {bs : BL} : Tri Tryz.prog w0 128 [ptrTo b] [Bld b bs] fun r m => ∃ V A c, r = SV bs ∧ m = [cl b #[V, .slice A bs.length c] 215] := by
 refine tri_k Tryz.func128 rfl rfl fun F => ?_;simp only [Tryz.ntmps128, argEnv, List.cons_append, List.nil_append];refine at_bld fun A c u => ?_;refine at_pulls [1] rfl ?_;simp only [zca, zna];refine at_buf (fun h1 h2 h3 => ?_) (fun g cur h1 h2 h3 h4 h5 h6 => ?_)
 ·subst h1; subst h2; subst h3;refine zH fun zq zQ => ?_;refine zC 6 rfl ?_;refine at_draw _ [] 1000 [(2, 0), (2, 1), (2, 2), (1, 3), (2, 5), (2, 6), (2, 7), (1, 8), (1, 9), (0, 4), (0, 10), (2, 11)] (by kernel_rfl) (by kernel_rfl) (fun _ s => (s.pulls (ks := [0]) rfl).left) ?_;refine qM ?_;refine qN ?_;refine qF 1 1 ?_;refine qL 0 ?_;refine qM ?_;refine qN ?_;refine qF 1 1 ?_;refine qL 0 ?_;refine qV (ov_len_slice rfl Tryz.underlying213 rfl) ?_;refine aq_v0 (ov_sliceData rfl rfl (by first | exact .inl rfl | exact .inr (by omega))) rfl rfl rfl ?_;refine ⟨fun _ s => (s.pulls (ks := [0]) rfl).left, ?_⟩;refine aq_v0 (ov_unsafeStr0 rfl rfl rfl) rfl rfl rfl ?_;refine ⟨fun _ s => (s.pulls (ks := [0]) rfl).left, ?_⟩;refine qP (ov_assign rfl rfl) ?_;refine aq_nil ?_;refine zX 2 rfl ?_;refine zQ ?_;refine at_end ?_;refine zfin ?_;refine ⟨_, ⟨.pointer (if u then some ⟨b, 0, none⟩ else none), none, 0, rfl, rfl⟩, ?_⟩;exact zE [0] []
 ·subst h1;refine zH fun zq zQ => ?_;refine zC 6 rfl ?_;refine at_draw _ [] 1000 [(2, 0), (2, 1), (2, 2), (1, 3), (2, 5), (2, 6), (2, 7), (1, 8), (1, 9), (0, 4), (0, 10), (2, 11)] (by kernel_rfl) (by kernel_rfl) (fun _ s => (s.pulls (ks := [1]) rfl).left) ?_;refine qM ?_;refine qN ?_;refine qF 1 1 ?_;refine qL 0 ?_;refine qM ?_;refine qN ?_;refine qF 1 1 ?_;refine qL 0 ?_;refine qV (ov_len_slice rfl Tryz.underlying213 rfl) ?_;refine aq_v0 (ov_sliceData rfl rfl (by first | exact .inl rfl | exact .inr (by omega))) rfl rfl rfl ?_;refine ⟨fun _ s => (s.pulls (ks := [1]) rfl).left, ?_⟩;refine aq_t (ot_unsafeString (k := 0) rfl Tryz.underlying244 (by kernel_rfl) rfl rfl rfl (by omega) (by first | omega | (simp only [maxLen] at *; omega)) (by assumption)) rfl rfl rfl ?_;rintro _ _ ⟨rfl, rfl⟩;simp only [setAt];refine ⟨fun _ s => (s.pulls (ks := [1]) rfl).left, ?_⟩;refine qP (ov_assign rfl rfl) ?_;refine aq_nil ?_;refine zX 2 rfl ?_;refine zQ ?_;refine at_end ?_;refine zfin ?_;refine ⟨_, ⟨.pointer (if u then some ⟨b, 0, none⟩ else none), some ⟨g, 0, none⟩, c, rfl, rfl⟩, ?_⟩;exact zE [1] [0]
end Go.Proofs.YtfcmajgnpnlkiaaGreatDoor
