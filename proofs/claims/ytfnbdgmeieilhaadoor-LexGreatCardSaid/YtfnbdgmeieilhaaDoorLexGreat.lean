/- The statement LexGreat, walked. -/
import Derived.Test.YtfnbdgmeieilhaaDoorProg
import Derived.Test.YtfnbdgmeieilhaaDoorAnyRune
import Derived.Test.YtfnbdgmeieilhaaDoorSLStr
import Derived.KernelRfl
import Derived.KernelRfl
set_option linter.unusedSimpArgs false
set_option linter.unusedVariables false
set_option maxRecDepth 100000
set_option maxHeartbeats 2000000
namespace Go.Proofs.YtfnbdgmeieilhaaDoor
open Go Go.Proofs.YtfnbdgmeieilhaaDoor.SL Go.RowKit
/-! ### the plain law -/
/-- A change of case. -/
structure Cas (f : UInt8 → UInt8) : Prop where
  g : ∀ c, greatB (f c) = greatB c
  l : ∀ c, letterB (f c) = letterB c
  n : ∀ c, letterB c = false → f c = c
theorem all_bytes {p : UInt8 → Bool} (h : ((List.range 256).all fun i => p (UInt8.ofNat i)) = true) (c : UInt8) : p c = true := by
  have := List.all_eq_true.1 h c.toNat (List.mem_range.2 (UInt8.toNat_lt c))
  simpa using this
theorem cas_of {f : UInt8 → UInt8} (h : ((List.range 256).all fun i => (fun c => (greatB (f c) == greatB c) && (letterB (f c) == letterB c) && (letterB c || f c == c)) (UInt8.ofNat i)) = true) : Cas f := by
  have k := fun c => all_bytes (p := fun c => (greatB (f c) == greatB c) && (letterB (f c) == letterB c) && (letterB c || f c == c)) h c
  simp only [Bool.and_eq_true, beq_iff_eq, Bool.or_eq_true] at k
  exact ⟨fun c => (k c).1.1, fun c => (k c).1.2, fun c hc => (k c).2.resolve_left (by rw [hc]; simp)⟩
theorem cas_upper : Cas Lib.upperB := cas_of (by decide +kernel)
theorem cas_lower : Cas Lib.lowerB := cas_of (by decide +kernel)
theorem Cas.eq_iff {f : UInt8 → UInt8} (h : Cas f) {x : UInt8} (hx : letterB x = false) (c : UInt8) : f c = x ↔ c = x := by
  cases hc : letterB c with
  | false => rw [h.n c hc]
  | true =>
    constructor
    · intro e; have := h.l c; rw [e, hx, hc] at this; cases this
    · intro e; rw [e, hx] at hc; cases hc
theorem dig_not {c : UInt8} (h : letterB c = true) : digitB c = false ∧ blankB c = false := by
  simp only [letterB, Bool.or_eq_true, Bool.and_eq_true, decide_eq_true_eq] at h
  constructor
  · simp only [digitB]; simp; omega
  · simp only [blankB]; simp; omega
theorem Cas.digit {f : UInt8 → UInt8} (h : Cas f) (c : UInt8) : digitB (f c) = digitB c := by
  cases hc : letterB c with
  | false => rw [h.n c hc]
  | true => rw [(dig_not hc).1, (dig_not (by rw [h.l]; exact hc)).1]
theorem Cas.blank {f : UInt8 → UInt8} (h : Cas f) (c : UInt8) : blankB (f c) = blankB c := by
  cases hc : letterB c with
  | false => rw [h.n c hc]
  | true => rw [(dig_not hc).2, (dig_not (by rw [h.l]; exact hc)).2]
theorem Cas.word {f : UInt8 → UInt8} (h : Cas f) (c : UInt8) : wordB (f c) = wordB c := by
  unfold wordB; rw [h.l, h.digit]
theorem Cas.byte {f : UInt8 → UInt8} (h : Cas f) {x : UInt8} (hx : letterB x = false) : ∀ s : BL, Lib.indexByte (s.map f) x = Lib.indexByte s x
  | [] => rfl
  | a :: s => by
    rw [List.map_cons]
    unfold Lib.indexByte
    rw [h.byte hx s]
    have := h.eq_iff hx a
    have hb : (f a == x) = (a == x) := by rw [Bool.eq_iff_iff]; simp only [beq_iff_eq]; exact this
    rw [hb]
theorem Cas.pre {f : UInt8 → UInt8} (h : Cas f) : ∀ {p : BL}, (∀ x ∈ p, letterB x = false) → ∀ s : BL, Lib.hasPrefix (s.map f) p = Lib.hasPrefix s p
  | [], _, s => by simp [Lib.hasPrefix]
  | x :: p, hp, [] => rfl
  | x :: p, hp, a :: s => by
    rw [List.map_cons, pre_cons, pre_cons, h.pre (fun y hy => hp y (by simp [hy])) s]
    congr 1
    exact decide_eq_decide.2 (h.eq_iff (hp x (by simp)) a)
theorem Cas.rem {f : UInt8 → UInt8} (h : Cas f) {s : BL} (hs : (42 : UInt8) ∉ s) : remarkL (s.map f) = remarkL s := by
  have h1 : Lib.hasPrefix s opensL = false := by
    match s, hs with
    | [], _ => rfl
    | [a], _ => unfold opensL; simp [pre_cons, Lib.hasPrefix, List.isPrefixOf]
    | a :: b :: s, hs =>
      unfold opensL
      rw [pre_cons, pre_cons]
      have : b ≠ 42 := fun e => hs (by simp [e])
      simp [this]
  unfold remarkL
  rw [h.pre (p := hintsL) (by decide), h.pre (p := opensL) (by decide), h.pre (p := [45, 45]) (by decide), h.pre (p := [35]) (by decide), h.byte (by decide), h1]
  simp
theorem Cas.great {f : UInt8 → UInt8} (h : Cas f) (s : BL) : greatL (s.map f) = greatL s := by
  unfold greatL
  rw [List.map_map]
  exact List.map_congr_left fun c _ => h.g c
theorem takeWhile_mapf {f : UInt8 → UInt8} {p : UInt8 → Bool} (hp : ∀ c, p (f c) = p c) : ∀ s : BL, (s.map f).takeWhile p = (s.takeWhile p).map f
  | [] => rfl
  | a :: s => by
    rw [List.map_cons, List.takeWhile_cons, List.takeWhile_cons, hp, takeWhile_mapf hp s]
    split <;> simp
theorem hint_no {s : BL} (hs : (42 : UInt8) ∉ s) : Lib.hasPrefix s hintsL = false := by
  match s, hs with
  | [], _ => rfl
  | [a], _ => unfold hintsL; simp [pre_cons, Lib.hasPrefix, List.isPrefixOf]
  | a :: b :: s, hs =>
    unfold hintsL
    rw [pre_cons, pre_cons]
    have : b ≠ 42 := fun e => hs (by simp [e])
    simp [this]
theorem Cas.one {f : UInt8 → UInt8} (h : Cas f) {c : UInt8} {r : BL} (hs : (42 : UInt8) ∉ c :: r) (h1 : c.toNat ≠ 39) (h2 : c.toNat ≠ 34) (h3 : c.toNat ≠ 96) : oneL ((c :: r).map f) = oneL (c :: r) := by
  have hp : Lib.hasPrefix ((c :: r).map f) hintsL = false := by rw [h.pre (by decide)]; exact hint_no hs
  have e : (c :: r).map f = f c :: r.map f := rfl
  have ew : (f c :: r.map f).takeWhile wordB = ((c :: r).takeWhile wordB).map f := takeWhile_mapf (f := f) h.word (c :: r)
  have ed : (f c :: r.map f).takeWhile digitB = (c :: r).takeWhile digitB := by
    have := takeWhile_mapf (f := f) h.digit (c :: r)
    rw [e] at this
    rw [this]
    have hall := List.all_takeWhile (p := digitB) (l := c :: r)
    conv => rhs; rw [← List.map_id ((c :: r).takeWhile digitB)]
    refine List.map_congr_left fun x hx => ?_
    have hd := List.all_eq_true.1 hall x hx
    refine h.n x ?_
    cases hl : letterB x with
    | false => rfl
    | true => rw [(dig_not hl).1] at hd; cases hd
  rw [e] at hp ⊢
  unfold oneL
  simp only
  rw [hp, hint_no hs, h.l, h.digit, ew, ed, h.great, List.length_map]
  simp only [Bool.false_eq_true, if_false]
  cases hl : letterB c with
  | true => rfl
  | false =>
    rw [h.n c hl]
    simp only [Bool.false_eq_true, if_false]
    cases hd : digitB c with
    | true => rfl
    | false =>
      simp only [Bool.false_eq_true, if_false]
      have h4 : ¬ (c.toNat = 34 ∨ c.toNat = 96) := by omega
      rw [if_neg h1, if_neg h1, if_neg h4, if_neg h4]
theorem Cas.lex {f : UInt8 → UInt8} (h : Cas f) : ∀ (n : Nat) {s : BL}, s.length ≤ n → (∀ c ∈ s, c ≠ 42 ∧ c ≠ 34 ∧ c ≠ 39 ∧ c ≠ 96) → lexL (s.map f) = lexL s := by
  intro n
  induction n with
  | zero =>
    intro s hl _
    have : s = [] := List.eq_nil_of_length_eq_zero (by omega)
    subst this
    rfl
  | succ n ih =>
    intro s hl hs
    cases s with
    | nil => rfl
    | cons c r =>
      have h42 : (42 : UInt8) ∉ c :: r := fun hm => (hs 42 hm).1 rfl
      have hc := hs c (by simp)
      have h1 : c.toNat ≠ 39 := fun e => hc.2.2.1 (UInt8.toNat_inj.1 e)
      have h2 : c.toNat ≠ 34 := fun e => hc.2.1 (UInt8.toNat_inj.1 e)
      have h3 : c.toNat ≠ 96 := fun e => hc.2.2.2 (UInt8.toNat_inj.1 e)
      have ho := h.one h42 h1 h2 h3
      have hr := h.rem h42
      have key : ∀ k : Nat, 1 ≤ k → lexL (((c :: r).map f).drop k) = lexL ((c :: r).drop k) := fun k hk => by
        rw [← List.map_drop]
        exact ih (by rw [List.length_drop]; simp only [List.length_cons] at hl ⊢; omega) (fun x hx => hs x (List.mem_of_mem_drop hx))
      have k1 := key 1 (Nat.le_refl _)
      rw [List.map_cons] at ho hr key k1 ⊢
      rw [lexL_cons, lexL_cons, h.blank, hr, ho]
      have k1' : lexL (r.map f) = lexL r := k1
      rw [k1']
      split
      · rfl
      · split
        · split
          · rfl
          · rw [key _ (oneL_le (by omega)).1]
        · split
          · rfl
          · rw [key _ (by omega)]
theorem Cas.lexR {f : UInt8 → UInt8} (h : Cas f) {s : BL} (hs : ∀ c ∈ s, c ≠ 42 ∧ c ≠ 34 ∧ c ≠ 39 ∧ c ≠ 96) : Go.Proofs.YtfnbdgmeieilhaaDoor.lexR (s.map f) = Go.Proofs.YtfnbdgmeieilhaaDoor.lexR s := by
  unfold Go.Proofs.YtfnbdgmeieilhaaDoor.lexR
  rw [h.lex _ (Nat.le_refl _) hs, List.length_map]
theorem no_any {s : BL} (h : Lib.containsAny s quotesL = false) : ∀ c ∈ s, c ≠ 42 ∧ c ≠ 34 ∧ c ≠ 39 ∧ c ≠ 96 := by
  have key : ∀ {s : BL}, Lib.indexAny s quotesL < 0 → ∀ c ∈ s, quotesL.contains c = false := by
    intro s
    induction s with
    | nil => intro _ c hc; cases hc
    | cons a s ih =>
      intro h c hc
      unfold Lib.indexAny at h
      have hge := Lib.indexAny_ge quotesL s
      by_cases ha : quotesL.contains a = true
      · rw [if_pos ha] at h; omega
      · rw [if_neg ha] at h
        rcases List.mem_cons.1 hc with rfl | hc
        · simpa using ha
        · refine ih ?_ c hc
          by_cases hm : Lib.indexAny s quotesL = -1
          · omega
          · rw [if_neg (by simpa using hm)] at h; omega
  have h0 : Lib.indexAny s quotesL < 0 := by
    unfold Lib.containsAny at h
    have := of_decide_eq_false h
    omega
  intro c hc
  have := key h0 c hc
  refine ⟨?_, ?_, ?_, ?_⟩ <;> (intro e; subst e; revert this; decide)
def asciiL (s : BL) : BL := s.filter fun c => decide (c.toNat < 128)
theorem asciiL_asc (s : BL) : ∀ c ∈ asciiL s, c.toNat < 128 := fun c hc => by simpa using (List.mem_filter.1 hc).2
theorem asciiL_le (s : BL) : (asciiL s).length ≤ s.length := List.length_filter_le _ _
theorem T27 (w0 : World) (s : BL) (hs : s.length ≤ 10000) : Tri Tryd.prog w0 27 [SV s] [] fun v m => v = SV (asciiL s) ∧ m = [] := by
  refine tri_of Tryd.func27 rfl rfl fun F => ?_
  simp only [Tryd.ntmps27, argEnv, List.nil_append]
  refine at_seq_k (fun K0 hK0 => ?_)
  refine at_region ?_
  refine at_v (ov_assign rfl rfl) rfl rfl rfl ?_
  refine at_nil ?_
  refine at_normal ?_
  refine hK0 _ _ _ ?_
  refine at_seq_k (fun K1 hK1 => ?_)
  refine at_region ?_
  refine at_t (ot_buildSlice (cs := []) rfl Tryd.underlying47 rfl rfl rfl rfl rfl rfl) rfl rfl rfl ?_
  rintro _ _ ⟨g0, rfl, rfl⟩
  refine at_v (ov_assign rfl rfl) rfl rfl rfl ?_
  refine at_nil ?_
  refine at_normal ?_
  refine hK1 _ _ _ ?_
  refine at_seq_k (fun K2 hK2 => ?_)
  refine at_seq_k (fun K3 hK3 => ?_)
  refine at_region ?_
  refine at_v (ov_move rfl rfl) rfl rfl rfl ?_
  refine at_v (ov_len_strL rfl Tryd.underlying9 rfl) rfl rfl rfl ?_
  refine at_v (ov_move rfl rfl) rfl rfl rfl ?_
  refine at_nil ?_
  refine at_normal ?_
  refine hK3 _ _ _ ?_
  refine at_block ?_
  refine at_rowOf (c := 0) (size := 1) bE 0 [] rfl (by simp) (by simp) (by decide) (by simp) rfl ?_
  simp only [setAt]
  
  refine at_loopE [9, 10, 4, 11, 12, 13, 14, 15, 16, 17, 18, 19, 20, 3, 21, 8] (fun i : Nat × Option Addr × Nat => i.1 ≤ s.length) (fun i => [(8, .int .i64 (i.1 : Nat)), (3, .slice i.2.1 (asciiL (s.take i.1)).length i.2.2)]) (fun i m => setAt 0 (Row bE 5 1 i.2.1 i.2.2 (asciiL (s.take i.1))) m) (fun i => s.length - i.1) (0, some ⟨g0, 0, none⟩, 0) (Nat.zero_le _) ⟨rfl, rfl, trivial⟩ (fun _ s => s) ?_
  rintro ⟨k, A, c⟩ hk
  simp only [setAt] at hk ⊢
  have hle := asciiL_le (s.take k)
  have htk : (s.take k).length ≤ k := by simp; omega
  rcases Nat.lt_or_ge k s.length with hlt | hge
  · have hi1 : decide ((k : Int) < s.length) = true := decide_eq_true (by omega)
    obtain ⟨x, hget⟩ : ∃ x, s[k]? = some x := ⟨_, List.getElem?_eq_getElem hlt⟩
    have hms : s.take (k + 1) = s.take k ++ [x] := by rw [List.take_add_one, hget]; rfl
    by_cases hx : x.toNat < 128
    · have hi2 : decide ((x.toNat : Int) < 128) = true := decide_eq_true (by omega)
      have ha : asciiL (s.take (k + 1)) = asciiL (s.take k) ++ [x] := by
        unfold asciiL; rw [hms, List.filter_append]; simp [hx]
      refine at_seq_k (fun K4 hK4 => ?_)
      refine at_region ?_
      refine at_v (ov_int rfl rfl rfl rfl) rfl rfl rfl ?_
      refine at_nil ?_
      refine at_normal ?_
      refine hK4 _ _ _ ?_
      refine at_seq_k (fun K5 hK5 => ?_)
      refine at_cond_true (congrArg (fun b => some (Value.bool b)) (show _ = true from decide_eq_true (by omega))) ?_
      refine at_skip ?_
      refine at_normal ?_
      refine hK5 _ _ _ ?_
      refine at_seq_k (fun K6 hK6 => ?_)
      refine at_block ?_
      refine at_seq_k (fun K7 hK7 => ?_)
      refine at_region ?_
      refine at_v (ov_move rfl rfl) rfl rfl rfl ?_
      refine at_v (ov_assign rfl rfl) rfl rfl rfl ?_
      refine at_nil ?_
      refine at_normal ?_
      refine hK7 _ _ _ ?_
      refine at_seq_k (fun K8 hK8 => ?_)
      refine at_region ?_
      refine at_v (ov_move rfl rfl) rfl rfl rfl ?_
      refine at_v (ov_move rfl rfl) rfl rfl rfl ?_
      refine at_v (ov_indexL rfl Tryd.underlying9 rfl rfl hget (by first | rfl | omega)) rfl rfl rfl ?_
      refine at_v (ov_int rfl rfl rfl rfl) rfl rfl rfl ?_
      refine at_nil ?_
      refine at_normal ?_
      refine hK8 _ _ _ ?_
      refine at_cond_true (congrArg (fun b => some (Value.bool b)) (show _ = true from decide_eq_true (by omega))) ?_
      refine at_region ?_
      refine at_v (ov_move rfl rfl) rfl rfl rfl ?_
      refine at_v (ov_move rfl rfl) rfl rfl rfl ?_
      refine at_v (ov_move rfl rfl) rfl rfl rfl ?_
      refine at_v (ov_indexL rfl Tryd.underlying9 rfl rfl hget (by first | rfl | omega)) rfl rfl rfl ?_
      refine at_t (ot_buildSlice (cs := [_]) rfl Tryd.underlying47 rfl rfl rfl rfl rfl rfl) rfl rfl rfl ?_
      rintro _ _ ⟨g1, rfl, rfl⟩
      refine at_t (ot_append (k := 1) (size := 1) (bytes := 1) (ys := [x]) (fun _ s => s.rdPt (k := 0) rfl rfl (by simp [bE])) rfl Tryd.underlying47 (ti := Tryd.t5) rfl rfl rfl rfl rfl (by decide) rfl rfl rfl (by simp [bE, Value.oneCell']) (by simp; omega) (by decide)) rfl rfl rfl ?_
      rintro _ _ ⟨A0, c0, rfl, rfl⟩
      simp only [setAt]
      refine at_v (ov_assign rfl rfl) rfl rfl rfl ?_
      refine at_nil ?_
      refine at_inb_normal ?_
      refine at_normal ?_
      refine hK6 _ _ _ ?_
      refine at_region ?_
      refine at_v ((ov_int rfl rfl rfl rfl).eq (congrArg (Value.int .i64) (inK_i64 (by omega) (by omega)))) rfl rfl rfl ?_
      refine at_v (ov_move rfl rfl) rfl rfl rfl ?_
      refine at_nil ?_
      refine at_normal ?_
      refine at_roundF (k + 1, A0, c0) hlt (by simp only; omega) ⟨rfl, look_eq rfl (by simp only [ha]), trivial⟩ rfl ?_
      simp only [setAt, ha]
      exact fun _ s => s.finEq (ks := [1]) (js := [0]) rfl rfl rfl
    · have hi2 : decide ((x.toNat : Int) < 128) = false := decide_eq_false (by omega)
      have ha : asciiL (s.take (k + 1)) = asciiL (s.take k) := by
        unfold asciiL; rw [hms, List.filter_append]; simp [hx]
      refine at_seq_k (fun K4 hK4 => ?_)
      refine at_region ?_
      refine at_v (ov_int rfl rfl rfl rfl) rfl rfl rfl ?_
      refine at_nil ?_
      refine at_normal ?_
      refine hK4 _ _ _ ?_
      refine at_seq_k (fun K5 hK5 => ?_)
      refine at_cond_true (congrArg (fun b => some (Value.bool b)) (show _ = true from decide_eq_true (by omega))) ?_
      refine at_skip ?_
      refine at_normal ?_
      refine hK5 _ _ _ ?_
      refine at_seq_k (fun K6 hK6 => ?_)
      refine at_block ?_
      refine at_seq_k (fun K7 hK7 => ?_)
      refine at_region ?_
      refine at_v (ov_move rfl rfl) rfl rfl rfl ?_
      refine at_v (ov_assign rfl rfl) rfl rfl rfl ?_
      refine at_nil ?_
      refine at_normal ?_
      refine hK7 _ _ _ ?_
      refine at_seq_k (fun K8 hK8 => ?_)
      refine at_region ?_
      refine at_v (ov_move rfl rfl) rfl rfl rfl ?_
      refine at_v (ov_move rfl rfl) rfl rfl rfl ?_
      refine at_v (ov_indexL rfl Tryd.underlying9 rfl rfl hget (by first | rfl | omega)) rfl rfl rfl ?_
      refine at_v (ov_int rfl rfl rfl rfl) rfl rfl rfl ?_
      refine at_nil ?_
      refine at_normal ?_
      refine hK8 _ _ _ ?_
      refine at_cond_false (congrArg (fun b => some (Value.bool b)) (show _ = false from decide_eq_false (by omega))) ?_
      refine at_skip ?_
      refine at_inb_normal ?_
      refine at_normal ?_
      refine hK6 _ _ _ ?_
      refine at_region ?_
      refine at_v ((ov_int rfl rfl rfl rfl).eq (congrArg (Value.int .i64) (inK_i64 (by omega) (by omega)))) rfl rfl rfl ?_
      refine at_v (ov_move rfl rfl) rfl rfl rfl ?_
      refine at_nil ?_
      refine at_normal ?_
      refine at_roundF (k + 1, A, c) hlt (by simp only; omega) ⟨rfl, look_eq rfl (by simp only [ha]), trivial⟩ rfl ?_
      simp only [setAt, ha]
      exact fun _ s => s.finEq (ks := [0]) (js := []) rfl rfl rfl
  · have hi1 : decide ((k : Int) < s.length) = false := decide_eq_false (by omega)
    rw [List.take_of_length_le hge]
    refine at_seq_k (fun K4 hK4 => ?_)
    refine at_region ?_
    refine at_v (ov_int rfl rfl rfl rfl) rfl rfl rfl ?_
    refine at_nil ?_
    refine at_normal ?_
    refine hK4 _ _ _ ?_
    refine at_seq_k (fun K5 hK5 => ?_)
    refine at_cond_false (congrArg (fun b => some (Value.bool b)) (show _ = false from decide_eq_false (by omega))) ?_
    refine at_exit ?_
    refine at_then_exit ?_
    refine at_then_exit ?_
    refine at_exit_eq ?_
    refine at_normal ?_
    refine hK2 _ _ _ ?_
    refine at_seq_k (fun K6 hK6 => ?_)
    refine at_region ?_
    refine at_v (ov_move rfl rfl) rfl rfl rfl ?_
    refine at_v (ov_bytesStr2 (fun _ s => s.rd (k := 0) rfl) rfl Tryd.underlying47 Tryd.underlying5 Tryd.underlying9 rfl) rfl rfl rfl ?_
    refine at_v (ov_assign rfl rfl) rfl rfl rfl ?_
    refine at_nil ?_
    refine at_normal ?_
    refine hK6 _ _ _ ?_
    refine at_ret ?_
    refine at_end ?_
    refine at_fin (rsV rfl (res_tmp rfl)) ?_
    refine ⟨_, ⟨rfl, rfl⟩, ?_⟩
    exact fun _ s => s.finEq (ks := []) (js := [0]) rfl rfl rfl
theorem T5 (w0 : World) (s : BL) (hs : s.length ≤ 140737488351232) (hM : MaxL w0) :
    Tri Tryd.prog w0 5 [SV s] [] fun v m => v = .bool true ∧ m = [] := by
  refine tri_of Tryd.func5 rfl rfl fun F => ?_
  simp only [Tryd.ntmps5, argEnv, List.nil_append]
  by_cases h1 : 2000 < s.length
  · have hi1 : decide ((s.length : Int) > 2000) = true := decide_eq_true (by omega)
    refine at_seq_k (fun K0 hK0 => ?_)
    refine at_region ?_
    refine at_v (ov_assign rfl rfl) rfl rfl rfl ?_
    refine at_nil ?_
    refine at_normal ?_
    refine hK0 _ _ _ ?_
    refine at_seq_k (fun K1 hK1 => ?_)
    refine at_seq_k (fun K2 hK2 => ?_)
    refine at_region ?_
    refine at_t (ot_call (ks := []) rfl rfl rfl Tryd.call6 rfl (T6 _ (by first | assumption | rfl | omega | decide | (simp; done) | (simp at *; omega))) rfl) rfl rfl rfl ?_
    rintro v0 _ ⟨m0, hp0, rfl⟩
    obtain ⟨rfl, rfl⟩ := hp0
    simp only [List.cons_append, List.nil_append, splice, spliceL]
    refine at_v (ov_not rfl rfl) rfl rfl rfl ?_
    refine at_nil ?_
    refine at_normal ?_
    refine hK2 _ _ _ ?_
    refine at_cond_false rfl ?_
    refine at_skip ?_
    refine at_normal ?_
    refine hK1 _ _ _ ?_
    refine at_seq_k (fun K3 hK3 => ?_)
    refine at_seq_k (fun K4 hK4 => ?_)
    refine at_region ?_
    refine at_v (ov_move rfl rfl) rfl rfl rfl ?_
    refine at_v (ov_len_strL rfl Tryd.underlying9 rfl) rfl rfl rfl ?_
    refine at_v (ov_int rfl rfl rfl rfl) rfl rfl rfl ?_
    refine at_v (ov_move rfl rfl) rfl rfl rfl ?_
    refine at_reval 14 (.bool true) rfl (congrArg Value.bool (decide_eq_true (by omega))) ?_
    refine at_unwanted (j := 3) rfl rfl rfl rfl ?_
    refine at_unwanted (j := 3) rfl rfl rfl rfl ?_
    refine at_v (ov_pick_t rfl rfl rfl) rfl rfl rfl ?_
    refine at_nil ?_
    refine at_normal ?_
    refine hK4 _ _ _ ?_
    refine at_cond_true rfl ?_
    refine at_seq_k (fun K5 hK5 => ?_)
    refine at_region ?_
    refine at_v (ov_assign rfl rfl) rfl rfl rfl ?_
    refine at_nil ?_
    refine at_normal ?_
    refine hK5 _ _ _ ?_
    refine at_ret ?_
    refine at_then_ret ?_
    refine at_end ?_
    refine at_fin (rsV rfl (res_tmp rfl)) ?_
    refine ⟨_, ⟨rfl, rfl⟩, ?_⟩
    exact fun _ s => s.finEq (ks := []) (js := []) rfl rfl rfl
  have hi1 : decide ((s.length : Int) > 2000) = false := decide_eq_false (by omega)
  have hC : Tri Tryd.prog w0 25 [SV s, SV quotesL] [] fun v m => ∃ b, ((∀ c ∈ s, c.toNat < 128) → b = Lib.containsAny s quotesL) ∧ v = .bool b ∧ m = [] := (T25 w0 s (by omega)).post fun v m ⟨b, h1, h2, h3⟩ => ⟨b, h2, h1, h3⟩
  have hA := T27 w0 s (by omega)
  have hal := asciiL_le s
  have haa := asciiL_asc s
  have hU := T26 w0 (asciiL s) (by omega) haa
  have hW := T28 w0 (asciiL s) (by omega) haa
  have hul : (Lib.toUpperA (asciiL s)).length = (asciiL s).length := by unfold Lib.toUpperA; simp
  have hll : (Lib.toLowerA (asciiL s)).length = (asciiL s).length := by unfold Lib.toLowerA; simp
  have hn := lexR_len s
  refine at_seq_k (fun K0 hK0 => ?_)
  refine at_region ?_
  refine at_v (ov_assign rfl rfl) rfl rfl rfl ?_
  refine at_nil ?_
  refine at_normal ?_
  refine hK0 _ _ _ ?_
  refine at_seq_k (fun K1 hK1 => ?_)
  refine at_seq_k (fun K2 hK2 => ?_)
  refine at_region ?_
  refine at_t (ot_call (ks := []) rfl rfl rfl Tryd.call6 rfl (T6 _ (by first | assumption | rfl | omega | decide | (simp; done) | (simp at *; omega))) rfl) rfl rfl rfl ?_
  rintro v0 _ ⟨m0, hp0, rfl⟩
  obtain ⟨rfl, rfl⟩ := hp0
  simp only [List.cons_append, List.nil_append, splice, spliceL]
  refine at_v (ov_not rfl rfl) rfl rfl rfl ?_
  refine at_nil ?_
  refine at_normal ?_
  refine hK2 _ _ _ ?_
  refine at_cond_false rfl ?_
  refine at_skip ?_
  refine at_normal ?_
  refine hK1 _ _ _ ?_
  refine at_seq_k (fun K3 hK3 => ?_)
  refine at_seq_k (fun K4 hK4 => ?_)
  refine at_region ?_
  refine at_v (ov_move rfl rfl) rfl rfl rfl ?_
  refine at_v (ov_len_strL rfl Tryd.underlying9 rfl) rfl rfl rfl ?_
  refine at_v (ov_int rfl rfl rfl rfl) rfl rfl rfl ?_
  refine at_v (ov_move rfl rfl) rfl rfl rfl ?_
  refine at_reval 14 (.bool false) rfl (congrArg Value.bool (decide_eq_false (by omega))) ?_
  refine at_wanted (j := 3) rfl ?_
  refine at_v (ov_move rfl rfl) rfl rfl rfl ?_
  refine at_wanted (j := 3) rfl ?_
  refine at_t (ot_call (ks := []) rfl rfl rfl Tryd.call25 rfl (hC ) rfl) rfl rfl rfl ?_
  rintro v0 _ ⟨m0, hp0, rfl⟩
  obtain ⟨b0, hp0⟩ := hp0
  obtain ⟨hq0, hp0⟩ := hp0
  obtain ⟨rfl, rfl⟩ := hp0
  simp only [List.cons_append, List.nil_append, splice, spliceL]
  refine at_v (ov_pick_f rfl rfl rfl) rfl rfl rfl ?_
  refine at_nil ?_
  refine at_normal ?_
  refine hK4 _ _ _ ?_
  cases b0 with
  | true =>
    refine at_cond_true rfl ?_
    refine at_seq_k (fun K5 hK5 => ?_)
    refine at_region ?_
    refine at_v (ov_assign rfl rfl) rfl rfl rfl ?_
    refine at_nil ?_
    refine at_normal ?_
    refine hK5 _ _ _ ?_
    refine at_ret ?_
    refine at_then_ret ?_
    refine at_end ?_
    refine at_fin (rsV rfl (res_tmp rfl)) ?_
    refine ⟨_, ⟨rfl, rfl⟩, ?_⟩
    exact fun _ s => s.finEq (ks := []) (js := []) rfl rfl rfl
  | false =>
  have hL := T9 w0 s (by omega) hM
  have hLU := T9 w0 (Lib.toUpperA (asciiL s)) (by omega) hM
  have hLL := T9 w0 (Lib.toLowerA (asciiL s)) (by omega) hM
  by_cases he : asciiL s = s
  · have hi2 : (!decide (s = s)) = false := by simp
    have hno := no_any (hq0 (fun c hc => by rw [← he] at hc; exact haa c hc)).symm
    have eU : lexR (Lib.toUpperA s) = lexR s := cas_upper.lexR hno
    have eL : lexR (Lib.toLowerA s) = lexR s := cas_lower.lexR hno
    rw [he] at hA hU hW hLU hLL
    rw [eU] at hLU
    rw [eL] at hLL
    have hi3 : decide ((lexR s).1 = (lexR s).1) = true := decide_eq_true rfl
    refine at_cond_false rfl ?_
    refine at_skip ?_
    refine at_normal ?_
    refine hK3 _ _ _ ?_
    refine at_seq_k (fun K5 hK5 => ?_)
    refine at_region ?_
    refine at_v (ov_move rfl rfl) rfl rfl rfl ?_
    refine at_t (ot_call (ks := []) rfl rfl rfl Tryd.call9 rfl (hL ) rfl) rfl rfl rfl ?_
    rintro v0 _ ⟨m0, hp0, rfl⟩
    obtain ⟨A0, hp0⟩ := hp0
    obtain ⟨c0, hp0⟩ := hp0
    obtain ⟨rfl, rfl⟩ := hp0
    simp only [List.cons_append, List.nil_append, splice, spliceL]
    refine at_v (ov_move rfl rfl) rfl rfl rfl ?_
    refine at_v (ov_extract rfl rfl rfl) rfl rfl rfl ?_
    refine at_v (ov_extract rfl rfl rfl) rfl rfl rfl ?_
    refine at_v (ov_assign rfl rfl) rfl rfl rfl ?_
    refine at_v (ov_assign rfl rfl) rfl rfl rfl ?_
    refine at_nil ?_
    refine at_normal ?_
    refine hK5 _ _ _ ?_
    refine at_seq_k (fun K6 hK6 => ?_)
    refine at_region ?_
    refine at_v (ov_move rfl rfl) rfl rfl rfl ?_
    refine at_t (ot_call (ks := []) rfl rfl rfl Tryd.call27 rfl (hA ) rfl) rfl rfl rfl ?_
    rintro v0 _ ⟨m0, hp0, rfl⟩
    obtain ⟨rfl, rfl⟩ := hp0
    simp only [List.cons_append, List.nil_append, splice, spliceL]
    refine at_t (ot_call (ks := []) rfl rfl rfl Tryd.call26 rfl (hU ) rfl) rfl rfl rfl ?_
    rintro v0 _ ⟨m0, hp0, rfl⟩
    obtain ⟨rfl, rfl⟩ := hp0
    simp only [List.cons_append, List.nil_append, splice, spliceL]
    refine at_t (ot_call (ks := []) rfl rfl rfl Tryd.call9 rfl (hLU ) rfl) rfl rfl rfl ?_
    rintro v0 _ ⟨m0, hp0, rfl⟩
    obtain ⟨A1, hp0⟩ := hp0
    obtain ⟨c1, hp0⟩ := hp0
    obtain ⟨rfl, rfl⟩ := hp0
    simp only [List.cons_append, List.nil_append, splice, spliceL]
    refine at_v (ov_move rfl rfl) rfl rfl rfl ?_
    refine at_v (ov_extract rfl rfl rfl) rfl rfl rfl ?_
    refine at_v (ov_extract rfl rfl rfl) rfl rfl rfl ?_
    refine at_v (ov_assign rfl rfl) rfl rfl rfl ?_
    refine at_v (ov_assign rfl rfl) rfl rfl rfl ?_
    refine at_nil ?_
    refine at_normal ?_
    refine hK6 _ _ _ ?_
    refine at_seq_k (fun K7 hK7 => ?_)
    refine at_region ?_
    refine at_v (ov_move rfl rfl) rfl rfl rfl ?_
    refine at_t (ot_call (ks := []) rfl rfl rfl Tryd.call27 rfl (hA ) rfl) rfl rfl rfl ?_
    rintro v0 _ ⟨m0, hp0, rfl⟩
    obtain ⟨rfl, rfl⟩ := hp0
    simp only [List.cons_append, List.nil_append, splice, spliceL]
    refine at_t (ot_call (ks := []) rfl rfl rfl Tryd.call28 rfl (hW ) rfl) rfl rfl rfl ?_
    rintro v0 _ ⟨m0, hp0, rfl⟩
    obtain ⟨rfl, rfl⟩ := hp0
    simp only [List.cons_append, List.nil_append, splice, spliceL]
    refine at_t (ot_call (ks := []) rfl rfl rfl Tryd.call9 rfl (hLL ) rfl) rfl rfl rfl ?_
    rintro v0 _ ⟨m0, hp0, rfl⟩
    obtain ⟨A2, hp0⟩ := hp0
    obtain ⟨c2, hp0⟩ := hp0
    obtain ⟨rfl, rfl⟩ := hp0
    simp only [List.cons_append, List.nil_append, splice, spliceL]
    refine at_v (ov_move rfl rfl) rfl rfl rfl ?_
    refine at_v (ov_extract rfl rfl rfl) rfl rfl rfl ?_
    refine at_v (ov_extract rfl rfl rfl) rfl rfl rfl ?_
    refine at_v (ov_assign rfl rfl) rfl rfl rfl ?_
    refine at_v (ov_assign rfl rfl) rfl rfl rfl ?_
    refine at_nil ?_
    refine at_normal ?_
    refine hK7 _ _ _ ?_
    refine at_seq_k (fun K8 hK8 => ?_)
    refine at_seq_k (fun K9 hK9 => ?_)
    refine at_region ?_
    refine at_v (ov_move rfl rfl) rfl rfl rfl ?_
    refine at_t (ot_call (ks := []) rfl rfl rfl Tryd.call27 rfl (hA ) rfl) rfl rfl rfl ?_
    rintro v0 _ ⟨m0, hp0, rfl⟩
    obtain ⟨rfl, rfl⟩ := hp0
    simp only [List.cons_append, List.nil_append, splice, spliceL]
    refine at_v (ov_move rfl rfl) rfl rfl rfl ?_
    refine at_v (ov_strL rfl rfl rfl rfl) rfl rfl rfl ?_
    refine at_nil ?_
    refine at_normal ?_
    refine hK9 _ _ _ ?_
    refine at_cond_false (congrArg (fun b => some (Value.bool b)) (show _ = false from by first | assumption | (rw [Bool.not_eq_false']; exact decide_eq_true (by omega)))) ?_
    refine at_skip ?_
    refine at_normal ?_
    refine hK8 _ _ _ ?_
    refine at_seq_k (fun K10 hK10 => ?_)
    refine at_region ?_
    refine at_v (ov_move rfl rfl) rfl rfl rfl ?_
    refine at_v (ov_move rfl rfl) rfl rfl rfl ?_
    refine at_v (ov_int rfl rfl rfl rfl) rfl rfl rfl ?_
    refine at_v (ov_move rfl rfl) rfl rfl rfl ?_
    refine at_reval 44 (.bool true) rfl (congrArg Value.bool (decide_eq_true (by omega))) ?_
    refine at_wanted (j := 3) rfl ?_
    refine at_v (ov_move rfl rfl) rfl rfl rfl ?_
    refine at_wanted (j := 3) rfl ?_
    refine at_v (ov_move rfl rfl) rfl rfl rfl ?_
    refine at_wanted (j := 3) rfl ?_
    refine at_v (ov_int rfl rfl rfl rfl) rfl rfl rfl ?_
    refine at_v (ov_pick_t rfl rfl rfl) rfl rfl rfl ?_
    refine at_v (ov_move rfl rfl) rfl rfl rfl ?_
    refine at_reval 49 (.bool true) rfl (congrArg Value.bool (decide_eq_true (by omega))) ?_
    refine at_wanted (j := 8) rfl ?_
    refine at_v (ov_move rfl rfl) rfl rfl rfl ?_
    refine at_wanted (j := 8) rfl ?_
    refine at_t (ot_call (ks := [2]) rfl rfl rfl Tryd.call8 rfl (T8a _ (by first | assumption | rfl | omega | decide | (simp; done) | (simp at *; omega))) rfl) rfl rfl rfl ?_
    rintro v0 _ ⟨m0, hp0, rfl⟩
    obtain ⟨B0, hp0⟩ := hp0
    obtain ⟨e0, hp0⟩ := hp0
    obtain ⟨rfl, rfl⟩ := hp0
    simp only [List.cons_append, List.nil_append, splice, spliceL]
    refine at_wanted (j := 8) rfl ?_
    refine at_v (ov_move rfl rfl) rfl rfl rfl ?_
    refine at_wanted (j := 8) rfl ?_
    refine at_t (ot_call (ks := [3]) rfl rfl rfl Tryd.call8 rfl (T8a _ (by first | assumption | rfl | omega | decide | (simp; done) | (simp at *; omega))) rfl) rfl rfl rfl ?_
    rintro v0 _ ⟨m0, hp0, rfl⟩
    obtain ⟨B1, hp0⟩ := hp0
    obtain ⟨e1, hp0⟩ := hp0
    obtain ⟨rfl, rfl⟩ := hp0
    simp only [List.cons_append, List.nil_append, splice, spliceL]
    refine at_wanted (j := 8) rfl ?_
    refine at_t (ot_call (ks := [2, 0]) rfl rfl rfl Tryd.call11 rfl (T11a _ (by first | assumption | rfl | omega | decide | (simp; done) | (simp at *; omega)) (by first | assumption | rfl | omega | decide | (simp; done) | (simp at *; omega))) rfl) rfl rfl rfl ?_
    rintro v0 _ ⟨m0, hp0, rfl⟩
    obtain ⟨rfl, rfl⟩ := hp0
    simp only [List.cons_append, List.nil_append, splice, spliceL]
    refine at_v (ov_pick_t rfl rfl rfl) rfl rfl rfl ?_
    refine at_v (ov_move rfl rfl) rfl rfl rfl ?_
    refine at_wanted (j := 15) rfl ?_
    refine at_v (ov_move rfl rfl) rfl rfl rfl ?_
    refine at_wanted (j := 15) rfl ?_
    refine at_t (ot_call (ks := [3]) rfl rfl rfl Tryd.call8 rfl (T8a _ (by first | assumption | rfl | omega | decide | (simp; done) | (simp at *; omega))) rfl) rfl rfl rfl ?_
    rintro v0 _ ⟨m0, hp0, rfl⟩
    obtain ⟨B2, hp0⟩ := hp0
    obtain ⟨e2, hp0⟩ := hp0
    obtain ⟨rfl, rfl⟩ := hp0
    simp only [List.cons_append, List.nil_append, splice, spliceL]
    refine at_wanted (j := 15) rfl ?_
    refine at_v (ov_move rfl rfl) rfl rfl rfl ?_
    refine at_wanted (j := 15) rfl ?_
    refine at_t (ot_call (ks := [5]) rfl rfl rfl Tryd.call8 rfl (T8a _ (by first | assumption | rfl | omega | decide | (simp; done) | (simp at *; omega))) rfl) rfl rfl rfl ?_
    rintro v0 _ ⟨m0, hp0, rfl⟩
    obtain ⟨B3, hp0⟩ := hp0
    obtain ⟨e3, hp0⟩ := hp0
    obtain ⟨rfl, rfl⟩ := hp0
    simp only [List.cons_append, List.nil_append, splice, spliceL]
    refine at_wanted (j := 15) rfl ?_
    refine at_t (ot_call (ks := [2, 0]) rfl rfl rfl Tryd.call11 rfl (T11a _ (by first | assumption | rfl | omega | decide | (simp; done) | (simp at *; omega)) (by first | assumption | rfl | omega | decide | (simp; done) | (simp at *; omega))) rfl) rfl rfl rfl ?_
    rintro v0 _ ⟨m0, hp0, rfl⟩
    obtain ⟨rfl, rfl⟩ := hp0
    simp only [List.cons_append, List.nil_append, splice, spliceL]
    refine at_v (ov_pick_t rfl rfl rfl) rfl rfl rfl ?_
    refine at_v (ov_assign rfl rfl) rfl rfl rfl ?_
    refine at_nil ?_
    refine at_normal ?_
    refine hK10 _ _ _ ?_
    refine at_ret ?_
    refine at_end ?_
    refine at_fin (rsV rfl (res_tmp rfl)) ?_
    refine ⟨_, ⟨by simp, rfl⟩, ?_⟩
    exact fun _ s => s.finEq (ks := []) (js := [0, 0, 0, 0, 0, 0, 0]) rfl rfl rfl
  · have hi2 : (!decide (asciiL s = s)) = true := by simp [he]
    refine at_cond_false rfl ?_
    refine at_skip ?_
    refine at_normal ?_
    refine hK3 _ _ _ ?_
    refine at_seq_k (fun K5 hK5 => ?_)
    refine at_region ?_
    refine at_v (ov_move rfl rfl) rfl rfl rfl ?_
    refine at_t (ot_call (ks := []) rfl rfl rfl Tryd.call9 rfl (hL ) rfl) rfl rfl rfl ?_
    rintro v0 _ ⟨m0, hp0, rfl⟩
    obtain ⟨A0, hp0⟩ := hp0
    obtain ⟨c0, hp0⟩ := hp0
    obtain ⟨rfl, rfl⟩ := hp0
    simp only [List.cons_append, List.nil_append, splice, spliceL]
    refine at_v (ov_move rfl rfl) rfl rfl rfl ?_
    refine at_v (ov_extract rfl rfl rfl) rfl rfl rfl ?_
    refine at_v (ov_extract rfl rfl rfl) rfl rfl rfl ?_
    refine at_v (ov_assign rfl rfl) rfl rfl rfl ?_
    refine at_v (ov_assign rfl rfl) rfl rfl rfl ?_
    refine at_nil ?_
    refine at_normal ?_
    refine hK5 _ _ _ ?_
    refine at_seq_k (fun K6 hK6 => ?_)
    refine at_region ?_
    refine at_v (ov_move rfl rfl) rfl rfl rfl ?_
    refine at_t (ot_call (ks := []) rfl rfl rfl Tryd.call27 rfl (hA ) rfl) rfl rfl rfl ?_
    rintro v0 _ ⟨m0, hp0, rfl⟩
    obtain ⟨rfl, rfl⟩ := hp0
    simp only [List.cons_append, List.nil_append, splice, spliceL]
    refine at_t (ot_call (ks := []) rfl rfl rfl Tryd.call26 rfl (hU ) rfl) rfl rfl rfl ?_
    rintro v0 _ ⟨m0, hp0, rfl⟩
    obtain ⟨rfl, rfl⟩ := hp0
    simp only [List.cons_append, List.nil_append, splice, spliceL]
    refine at_t (ot_call (ks := []) rfl rfl rfl Tryd.call9 rfl (hLU ) rfl) rfl rfl rfl ?_
    rintro v0 _ ⟨m0, hp0, rfl⟩
    obtain ⟨A1, hp0⟩ := hp0
    obtain ⟨c1, hp0⟩ := hp0
    obtain ⟨rfl, rfl⟩ := hp0
    simp only [List.cons_append, List.nil_append, splice, spliceL]
    refine at_v (ov_move rfl rfl) rfl rfl rfl ?_
    refine at_v (ov_extract rfl rfl rfl) rfl rfl rfl ?_
    refine at_v (ov_extract rfl rfl rfl) rfl rfl rfl ?_
    refine at_v (ov_assign rfl rfl) rfl rfl rfl ?_
    refine at_v (ov_assign rfl rfl) rfl rfl rfl ?_
    refine at_nil ?_
    refine at_normal ?_
    refine hK6 _ _ _ ?_
    refine at_seq_k (fun K7 hK7 => ?_)
    refine at_region ?_
    refine at_v (ov_move rfl rfl) rfl rfl rfl ?_
    refine at_t (ot_call (ks := []) rfl rfl rfl Tryd.call27 rfl (hA ) rfl) rfl rfl rfl ?_
    rintro v0 _ ⟨m0, hp0, rfl⟩
    obtain ⟨rfl, rfl⟩ := hp0
    simp only [List.cons_append, List.nil_append, splice, spliceL]
    refine at_t (ot_call (ks := []) rfl rfl rfl Tryd.call28 rfl (hW ) rfl) rfl rfl rfl ?_
    rintro v0 _ ⟨m0, hp0, rfl⟩
    obtain ⟨rfl, rfl⟩ := hp0
    simp only [List.cons_append, List.nil_append, splice, spliceL]
    refine at_t (ot_call (ks := []) rfl rfl rfl Tryd.call9 rfl (hLL ) rfl) rfl rfl rfl ?_
    rintro v0 _ ⟨m0, hp0, rfl⟩
    obtain ⟨A2, hp0⟩ := hp0
    obtain ⟨c2, hp0⟩ := hp0
    obtain ⟨rfl, rfl⟩ := hp0
    simp only [List.cons_append, List.nil_append, splice, spliceL]
    refine at_v (ov_move rfl rfl) rfl rfl rfl ?_
    refine at_v (ov_extract rfl rfl rfl) rfl rfl rfl ?_
    refine at_v (ov_extract rfl rfl rfl) rfl rfl rfl ?_
    refine at_v (ov_assign rfl rfl) rfl rfl rfl ?_
    refine at_v (ov_assign rfl rfl) rfl rfl rfl ?_
    refine at_nil ?_
    refine at_normal ?_
    refine hK7 _ _ _ ?_
    refine at_seq_k (fun K8 hK8 => ?_)
    refine at_seq_k (fun K9 hK9 => ?_)
    refine at_region ?_
    refine at_v (ov_move rfl rfl) rfl rfl rfl ?_
    refine at_t (ot_call (ks := []) rfl rfl rfl Tryd.call27 rfl (hA ) rfl) rfl rfl rfl ?_
    rintro v0 _ ⟨m0, hp0, rfl⟩
    obtain ⟨rfl, rfl⟩ := hp0
    simp only [List.cons_append, List.nil_append, splice, spliceL]
    refine at_v (ov_move rfl rfl) rfl rfl rfl ?_
    refine at_v (ov_strL rfl rfl rfl rfl) rfl rfl rfl ?_
    refine at_nil ?_
    refine at_normal ?_
    refine hK9 _ _ _ ?_
    refine at_cond_true (congrArg (fun b => some (Value.bool b)) (show _ = true from by first | assumption | (rw [Bool.not_eq_true']; exact decide_eq_false (by omega)))) ?_
    refine at_seq_k (fun K10 hK10 => ?_)
    refine at_region ?_
    refine at_v (ov_assign rfl rfl) rfl rfl rfl ?_
    refine at_nil ?_
    refine at_normal ?_
    refine hK10 _ _ _ ?_
    refine at_ret ?_
    refine at_then_ret ?_
    refine at_end ?_
    refine at_fin (rsV rfl (res_tmp rfl)) ?_
    refine ⟨_, ⟨rfl, rfl⟩, ?_⟩
    exact fun _ s => s.finEq (ks := []) (js := [0, 0, 0]) rfl rfl rfl
end Go.Proofs.YtfnbdgmeieilhaaDoor
