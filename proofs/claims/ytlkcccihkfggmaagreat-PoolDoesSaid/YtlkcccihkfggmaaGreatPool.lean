/- The functions of package pool, walked. -/
import Derived.Test.YtlkcccihkfggmaaGreatProg
import Derived.Test.YtlkcccihkfggmaaGreatSorted
import Derived.Test.YtlkcccihkfggmaaGreatSLBr
import Derived.KernelRfl
set_option linter.unusedSimpArgs false
set_option linter.unusedVariables false
set_option maxRecDepth 100000
namespace Go.Proofs.YtlkcccihkfggmaaGreat
open Go Go.Proofs.YtlkcccihkfggmaaGreat.SL Go.RowKit
/-- What a pool holds: an id, a connection, since when. -/
abbrev XM := Int × CM × Int
def HeldA (g : Nat) (c : CM) (s : Int) : HP := fun h => ∃ cb, star [cl g #[ptrTo cb, .int .u64 s] 83, ConnC cb c] h
def heldL : List Nat → List XM → List HP
  | g :: gs, x :: xs => HeldA g x.2.1 x.2.2 :: heldL gs xs
  | _, _ => []
def HL (gs : List Nat) (cs : List XM) : HP := fun h => gs.length = cs.length ∧ star (heldL gs cs) h
def kvsOf (gs : List Nat) (cs : List XM) : List (Value × Value) := List.zipWith (fun g x => (Value.int .i64 x.1, ptrTo g)) gs cs
abbrev PC (g wb mb : Nat) (most idle last : Int) : HP := cl g #[.int .i64 most, .int .u64 idle, ptrTo wb, .map (some mb), .int .i64 last] 67
/-- A pool: how many there may be, the time of idle ones, room to wait, the last id, who waits, connections. -/
def PoolA (g : Nat) (most idle wm last : Int) (L : List Int) (cs : List XM) : HP := fun h => ∃ wb, ∃ mb, ∃ gs, gs.length = cs.length ∧
  star [cl g #[.int .i64 most, .int .u64 idle, ptrTo wb, .map (some mb), .int .i64 last] 67, WaitA wb wm L, MapA KI mb (kvsOf gs cs), HL gs cs] h
theorem heldL_perm : ∀ {gs : List Nat} {cs : List XM} {k : Nat} {g : Nat} {x : XM}, gs[k]? = some g → cs[k]? = some x → gs.length = cs.length → (heldL gs cs).Perm (HeldA g x.2.1 x.2.2 :: heldL (gs.eraseIdx k) (cs.eraseIdx k))
  | [], _, k, g, x, h, _, _ => by simp at h
  | g0 :: gs, [], k, g, x, _, h, _ => by simp at h
  | g0 :: gs, x0 :: cs, 0, g, x, h1, h2, _ => by
    simp at h1 h2; subst h1; subst h2
    exact List.Perm.refl _
  | g0 :: gs, x0 :: cs, k + 1, g, x, h1, h2, h3 => by
    have ih := heldL_perm (gs := gs) (cs := cs) (k := k) (by simpa using h1) (by simpa using h2) (by simpa using h3)
    simp only [heldL, List.eraseIdx_cons_succ]
    exact (ih.cons _).trans (List.Perm.swap _ _ _)
theorem heldL_set : ∀ {gs : List Nat} {cs : List XM} {k : Nat} {y : XM}, (heldL (gs.eraseIdx k) (cs.eraseIdx k)) = heldL (gs.eraseIdx k) ((cs.set k y).eraseIdx k) := by
  intro gs cs k y
  congr 1
  refine List.ext_getElem? fun q => ?_
  rw [List.getElem?_eraseIdx, List.getElem?_eraseIdx, List.getElem?_set, List.getElem?_set]
  split
  · rw [if_neg (by omega)]
  · rw [if_neg (by omega)]
section
variable {w0 : World} {n : Nat} {ds : List Deferred} {R : Act → World → Prop} {env : Env} {l : List HP}
theorem at_take {gs : List Nat} {cs : List XM} {k : Nat} {x : XM} (hx : cs[k]? = some x) (h : ∀ g, gs[k]? = some g → gs.length = cs.length → At w0 n ds R env (HeldA g x.2.1 x.2.2 :: HL (gs.eraseIdx k) (cs.eraseIdx k) :: l)) : At w0 n ds R env (HL gs cs :: l) := by
  refine at_and fun hl => at_open ?_
  have hk : k < gs.length := by rw [hl]; exact (List.getElem?_eq_some_iff.1 hx).1
  have hg : gs[k]? = some gs[k] := List.getElem?_eq_getElem hk
  intro a w f s
  refine h gs[k] hg hl a w f ?_
  have s1 : Sat w0 w (HeldA gs[k] x.2.1 x.2.2 :: (heldL (gs.eraseIdx k) (cs.eraseIdx k) ++ l)) := s.perm ((heldL_perm hg hx hl).append_right l)
  have s2 : Sat w0 w ((heldL (gs.eraseIdx k) (cs.eraseIdx k)) ++ (HeldA gs[k] x.2.1 x.2.2 :: l)) := s1.perm List.perm_middle.symm
  have s3 := Sat.shut s2
  refine (s3.imp fun h ⟨p, q, hp, r⟩ => ⟨p, q, ?_, r⟩ : Sat w0 w (HL (gs.eraseIdx k) (cs.eraseIdx k) :: HeldA gs[k] x.2.1 x.2.2 :: l)).perm (List.Perm.swap _ _ _)
  refine ⟨?_, hp⟩
  rw [List.length_eraseIdx, List.length_eraseIdx, hl]
end
theorem hl_give {gs : List Nat} {cs : List XM} {k g : Nat} (y : XM) (hg : gs[k]? = some g) (hl : gs.length = cs.length) {h : PH} (s : star [HeldA g y.2.1 y.2.2, HL (gs.eraseIdx k) (cs.eraseIdx k)] h) : HL gs (cs.set k y) h := by
  refine ⟨by simpa using hl, ?_⟩
  have hk : k < cs.length := by rw [← hl]; exact (List.getElem?_eq_some_iff.1 hg).1
  obtain ⟨a, b, ha, ⟨p, q, ⟨_, hp⟩, _, _, l1, _⟩, d, la, lb⟩ := s
  have s2 : star (HeldA g y.2.1 y.2.2 :: heldL (gs.eraseIdx k) (cs.eraseIdx k)) h := ⟨a, p, ha, hp, d.le l1, la, l1.trans lb⟩
  rw [heldL_set (y := y)] at s2
  exact star_perm (heldL_perm hg (x := y) (by simp [hk]) (by simpa using hl)).symm s2
theorem kvs_keys {gs : List Nat} {cs : List XM} (h : gs.length = cs.length) : (kvsOf gs cs).map (·.1) = (cs.map (·.1)).map (fun x => Value.int .i64 x) := by
  refine List.ext_getElem? fun q => ?_
  simp only [kvsOf, List.getElem?_map, List.getElem?_zipWith]
  rcases Nat.lt_or_ge q gs.length with hq | hq
  · simp [List.getElem?_eq_getElem hq, List.getElem?_eq_getElem (show q < cs.length by omega)]
  · simp [List.getElem?_eq_none hq, List.getElem?_eq_none (show cs.length ≤ q by omega)]
theorem kvs_get {gs : List Nat} {cs : List XM} {k g : Nat} {x : XM} (hg : gs[k]? = some g) (hx : cs[k]? = some x) : (kvsOf gs cs)[k]? = some (.int .i64 x.1, ptrTo g) := by
  simp [kvsOf, List.getElem?_zipWith, hg, hx]
theorem kvs_len {gs : List Nat} {cs : List XM} (h : gs.length = cs.length) : (kvsOf gs cs).length = cs.length := by simp [kvsOf, h]
theorem kvs_no {gs : List Nat} {cs : List XM} {id : Int} (h : ∀ x ∈ cs, x.1 ≠ id) : ∀ p ∈ kvsOf gs cs, p.1 ≠ Value.int .i64 id := by
  intro p hp
  unfold kvsOf at hp
  obtain ⟨q, hq⟩ := List.getElem?_of_mem hp
  rw [List.getElem?_zipWith] at hq
  cases h1 : gs[q]? with
  | none => simp [h1] at hq
  | some g => cases h2 : cs[q]? with
    | none => simp [h1, h2] at hq
    | some x =>
      simp [h1, h2] at hq
      subst hq
      have := h x (List.mem_of_getElem? h2)
      simpa using this
theorem kvs_set {gs : List Nat} {cs : List XM} {k : Nat} {x y : XM} (hx : cs[k]? = some x) (hy : y.1 = x.1) : kvsOf gs (cs.set k y) = kvsOf gs cs := by
  refine List.ext_getElem? fun q => ?_
  unfold kvsOf
  rw [List.getElem?_zipWith, List.getElem?_zipWith]
  by_cases hq : k = q
  · subst hq
    have hk : k < cs.length := (List.getElem?_eq_some_iff.1 hx).1
    rw [List.getElem?_set, if_pos rfl, if_pos hk, hx]
    cases gs[k]? <;> simp [hy]
  · rw [List.getElem?_set, if_neg hq]
theorem pool_shut {g wb mb gk k : Nat} {most idle wm last : Int} {L : List Int} {gs : List Nat} {cs : List XM} {x : XM} (y : XM) (hl : gs.length = cs.length) (hg : gs[k]? = some gk) (hx : cs[k]? = some x) (hy : y.1 = x.1) {h : PH}
    (s : star [cl g #[.int .i64 most, .int .u64 idle, ptrTo wb, .map (some mb), .int .i64 last] 67, WaitA wb wm L, MapA KI mb (kvsOf gs cs), HeldA gk y.2.1 y.2.2, HL (gs.eraseIdx k) (cs.eraseIdx k)] h) : PoolA g most idle wm last L (cs.set k y) h := by
  refine ⟨wb, mb, gs, by simpa using hl, ?_⟩
  rw [kvs_set hx hy]
  have s1 : star ([HeldA gk y.2.1 y.2.2, HL (gs.eraseIdx k) (cs.eraseIdx k)] ++ [cl g #[.int .i64 most, .int .u64 idle, ptrTo wb, .map (some mb), .int .i64 last] 67, WaitA wb wm L, MapA KI mb (kvsOf gs cs)]) h :=
    star_perm (List.perm_append_comm (l₁ := [_, _, _]) (l₂ := [_, _])) s
  have s2 : star ([HL gs (cs.set k y)] ++ [cl g #[.int .i64 most, .int .u64 idle, ptrTo wb, .map (some mb), .int .i64 last] 67, WaitA wb wm L, MapA KI mb (kvsOf gs cs)]) h :=
    star_imp_left (l := [HeldA gk y.2.1 y.2.2, HL (gs.eraseIdx k) (cs.eraseIdx k)]) (m := [HL gs (cs.set k y)]) (fun h s => ⟨h, fun _ => none, hl_give y hg hl s, trivial, fun _ => .inr rfl, Le.refl _, fun _ _ e => by cases e⟩) s1
  exact star_perm (List.perm_append_comm (l₁ := [_]) (l₂ := [_, _, _])) s2
theorem set_same {cs : List XM} {k : Nat} {x : XM} (h : cs[k]? = some x) : cs.set k x = cs := by
  refine List.ext_getElem? fun q => ?_
  rw [List.getElem?_set]
  split
  · subst_vars; split
    · rw [h]
    · exact (List.getElem?_eq_none (by omega)).symm
  · rfl
theorem kvs_erase {gs : List Nat} {cs : List XM} {k : Nat} : (kvsOf gs cs).eraseIdx k = kvsOf (gs.eraseIdx k) (cs.eraseIdx k) := by
  refine List.ext_getElem? fun q => ?_
  unfold kvsOf
  simp only [List.getElem?_eraseIdx, List.getElem?_zipWith]
  split <;> rfl
theorem at_pool {w0 : World} {n : Nat} {ds : List Deferred} {R : Act → World → Prop} {env : Env} {l : List HP} {g : Nat} {most idle wm last : Int} {L : List Int} {cs : List XM}
    (k : ∀ wb mb gs, gs.length = cs.length → At w0 n ds R env (cl g #[.int .i64 most, .int .u64 idle, ptrTo wb, .map (some mb), .int .i64 last] 67 :: WaitA wb wm L :: MapA KI mb (kvsOf gs cs) :: HL gs cs :: l)) : At w0 n ds R env (PoolA g most idle wm last L cs :: l) :=
  at_ex fun wb => at_ex fun mb => at_ex fun gs => at_and fun h => at_open (k wb mb gs h)
/-- Where an id stands. -/
def posOf (cs : List XM) (id : Int) : Option Nat := cs.findIdx? fun x => x.1 == id
theorem posOf_some {cs : List XM} {id : Int} {k : Nat} (h : posOf cs id = some k) : ∃ c s, cs[k]? = some (id, c, s) := by
  unfold posOf at h
  obtain ⟨h1, h2, _⟩ := List.findIdx?_eq_some_iff_getElem.1 h
  refine ⟨cs[k].2.1, cs[k].2.2, ?_⟩
  rw [List.getElem?_eq_getElem h1]
  have : cs[k].1 = id := by simpa using h2
  rw [← this]
theorem posOf_none {cs : List XM} {id : Int} (h : posOf cs id = none) : ∀ x ∈ cs, x.1 ≠ id := by
  unfold posOf at h
  rw [List.findIdx?_eq_none_iff] at h
  intro x hx
  simpa using h x hx
def sweepK (cs : List XM) (k : Nat) : List XM := match cs[k]? with | some x => if x.2.1.state = 4 then cs.eraseIdx k else cs | none => cs
def sweepL (cs : List XM) (id : Int) : List XM := match posOf cs id with | some k => sweepK cs k | none => cs
theorem T55 (w0 : World) {g : Nat} {most idle wm last : Int} {L : List Int} {cs : List XM} (id : Int) :
    Tri Tryz.prog w0 55 [ptrTo g, .int .i64 id] [PoolA g most idle wm last L cs] fun v m => v = .tuple #[] ∧ m = [PoolA g most idle wm last L (sweepL cs id)] := by
  refine tri_of Tryz.func55 rfl rfl fun F => ?_
  simp only [Tryz.ntmps55, argEnv, List.cons_append, List.nil_append]
  refine at_pool fun wb mb gs hl => ?_
  unfold sweepL
  cases hp : posOf cs id with
  | none =>
    have hno := kvs_no (gs := gs) (posOf_none hp)
    refine at_seq_k (fun K0 hK0 => ?_)
    refine at_region ?_
    refine at_v (ov_move rfl rfl) rfl rfl rfl ?_
    refine at_v (ov_nilCheck rfl rfl) rfl rfl rfl ?_
    refine at_v (ov_fieldAddr (k := 3) (r := 3) rfl rfl rfl rfl) rfl rfl rfl ?_
    refine at_v (ov_load rfl rfl rfl (fun _ s => s.ld (k := 0) rfl rfl)) rfl rfl rfl ?_
    refine at_v (ov_move rfl rfl) rfl rfl rfl ?_
    refine at_v (ov_lookupNo (k := 2) rfl Tryz.underlying65 Tryz.underlying3 Tryz.zeroValue79 rfl rfl rfl (by first | rfl | trivial) (by assumption)) rfl rfl rfl ?_
    refine at_v (ov_move rfl rfl) rfl rfl rfl ?_
    refine at_v (ov_extract rfl rfl rfl) rfl rfl rfl ?_
    refine at_v (ov_extract rfl rfl rfl) rfl rfl rfl ?_
    refine at_v (ov_assign rfl rfl) rfl rfl rfl ?_
    refine at_v (ov_assign rfl rfl) rfl rfl rfl ?_
    refine at_nil ?_
    refine at_normal ?_
    refine hK0 _ _ _ ?_
    refine at_seq_k (fun K1 hK1 => ?_)
    refine at_region ?_
    refine at_v (ov_move rfl rfl) rfl rfl rfl ?_
    refine at_v (ov_move rfl rfl) rfl rfl rfl ?_
    refine at_unwanted (j := 1) rfl rfl rfl rfl ?_
    refine at_unwanted (j := 1) rfl rfl rfl rfl ?_
    refine at_unwanted (j := 1) rfl rfl rfl rfl ?_
    refine at_unwanted (j := 1) rfl rfl rfl rfl ?_
    refine at_unwanted (j := 1) rfl rfl rfl rfl ?_
    refine at_unwanted (j := 1) rfl rfl rfl rfl ?_
    refine at_v (ov_pick_f rfl rfl rfl) rfl rfl rfl ?_
    refine at_nil ?_
    refine at_normal ?_
    refine hK1 _ _ _ ?_
    refine at_cond_false rfl ?_
    refine at_skip ?_
    refine at_end ?_
    refine at_fold (A := PoolA g most idle wm last L cs) [0, 0, 0, 0] rfl (fun h s => ⟨wb, mb, gs, hl, s⟩) ?_
    refine at_fin (rs0 rfl) ?_
    refine ⟨_, ⟨rfl, rfl⟩, ?_⟩
    exact fun _ s => s.finEq (ks := [0]) (js := []) rfl rfl rfl
  | some k =>
    obtain ⟨c, si, hx⟩ := posOf_some hp
    refine at_pulls [3] rfl ?_
    refine at_take hx fun gk hg _ => ?_
    simp only [List.cons_append, List.nil_append]
    refine at_ex fun cb => at_open ?_
    simp only [List.cons_append, List.nil_append]
    have hkv := kvs_get hg hx
    simp only at hkv
    by_cases hi4 : c.state = 4
    · rw [show sweepK cs k = cs.eraseIdx k by unfold sweepK; rw [hx]; exact if_pos hi4]
      refine at_seq_k (fun K0 hK0 => ?_)
      refine at_region ?_
      refine at_v (ov_move rfl rfl) rfl rfl rfl ?_
      refine at_v (ov_nilCheck rfl rfl) rfl rfl rfl ?_
      refine at_v (ov_fieldAddr (k := 3) (r := 3) rfl rfl rfl rfl) rfl rfl rfl ?_
      refine at_v (ov_load rfl rfl rfl (fun _ s => s.ld (k := 3) rfl rfl)) rfl rfl rfl ?_
      refine at_v (ov_move rfl rfl) rfl rfl rfl ?_
      refine at_v (ov_lookupOk (k := 5) rfl Tryz.underlying65 Tryz.underlying3 rfl rfl rfl (by first | rfl | trivial) hkv) rfl rfl rfl ?_
      refine at_v (ov_move rfl rfl) rfl rfl rfl ?_
      refine at_v (ov_extract rfl rfl rfl) rfl rfl rfl ?_
      refine at_v (ov_extract rfl rfl rfl) rfl rfl rfl ?_
      refine at_v (ov_assign rfl rfl) rfl rfl rfl ?_
      refine at_v (ov_assign rfl rfl) rfl rfl rfl ?_
      refine at_nil ?_
      refine at_normal ?_
      refine hK0 _ _ _ ?_
      refine at_seq_k (fun K1 hK1 => ?_)
      refine at_region ?_
      refine at_v (ov_move rfl rfl) rfl rfl rfl ?_
      refine at_v (ov_move rfl rfl) rfl rfl rfl ?_
      refine at_wanted (j := 1) rfl ?_
      refine at_v (ov_move rfl rfl) rfl rfl rfl ?_
      refine at_wanted (j := 1) rfl ?_
      refine at_v (ov_nilCheck rfl rfl) rfl rfl rfl ?_
      refine at_wanted (j := 1) rfl ?_
      refine at_v (ov_fieldAddr (k := 0) (r := 0) rfl rfl rfl rfl) rfl rfl rfl ?_
      refine at_wanted (j := 1) rfl ?_
      refine at_v (ov_load rfl rfl rfl (fun _ s => s.ld (k := 0) rfl rfl)) rfl rfl rfl ?_
      refine at_wanted (j := 1) rfl ?_
      refine at_t (ot_call (ks := [1]) rfl rfl rfl Tryz.call38 rfl (T38 _ _ _) rfl) rfl rfl rfl ?_
      rintro v0 _ ⟨m0, hp0, rfl⟩
      obtain ⟨rfl, rfl⟩ := hp0
      simp only [List.cons_append, List.nil_append, splice, spliceL]
      refine at_wanted (j := 1) rfl ?_
      refine at_v (ov_int rfl rfl rfl rfl) rfl rfl rfl ?_
      refine at_v (ov_pick_t rfl rfl rfl) rfl rfl rfl ?_
      refine at_nil ?_
      refine at_normal ?_
      refine hK1 _ _ _ ?_
      refine at_cond_true (congrArg (fun b => some (Value.bool b)) (show _ = true from decide_eq_true (by omega))) ?_
      refine at_region ?_
      refine at_v (ov_move rfl rfl) rfl rfl rfl ?_
      refine at_v (ov_nilCheck rfl rfl) rfl rfl rfl ?_
      refine at_v (ov_fieldAddr (k := 3) (r := 3) rfl rfl rfl rfl) rfl rfl rfl ?_
      refine at_v (ov_load rfl rfl rfl (fun _ s => s.ld (k := 3) rfl rfl)) rfl rfl rfl ?_
      refine at_v (ov_move rfl rfl) rfl rfl rfl ?_
      refine at_t0 (ot_delete (ts := #[]) (k := 5) rfl Tryz.underlying65 Tryz.underlying3 rfl rfl rfl (by first | rfl | trivial) hkv) rfl rfl ?_
      rintro _ _ ⟨rfl, rfl⟩
      simp only [setAt]
      refine at_nil ?_
      refine at_end ?_
      rw [kvs_erase]
      refine at_fold (A := PoolA g most idle wm last L (cs.eraseIdx k)) [3, 3, 3, 2] rfl (fun h s => ⟨wb, mb, gs.eraseIdx k, by rw [List.length_eraseIdx, List.length_eraseIdx, hl], s⟩) ?_
      refine at_fin (rs0 rfl) ?_
      refine ⟨_, ⟨rfl, rfl⟩, ?_⟩
      exact fun _ s => s.finEq (ks := [0]) (js := [0, 0]) rfl rfl rfl
    · rw [show sweepK cs k = cs by unfold sweepK; rw [hx]; exact if_neg hi4]
      refine at_seq_k (fun K0 hK0 => ?_)
      refine at_region ?_
      refine at_v (ov_move rfl rfl) rfl rfl rfl ?_
      refine at_v (ov_nilCheck rfl rfl) rfl rfl rfl ?_
      refine at_v (ov_fieldAddr (k := 3) (r := 3) rfl rfl rfl rfl) rfl rfl rfl ?_
      refine at_v (ov_load rfl rfl rfl (fun _ s => s.ld (k := 3) rfl rfl)) rfl rfl rfl ?_
      refine at_v (ov_move rfl rfl) rfl rfl rfl ?_
      refine at_v (ov_lookupOk (k := 5) rfl Tryz.underlying65 Tryz.underlying3 rfl rfl rfl (by first | rfl | trivial) hkv) rfl rfl rfl ?_
      refine at_v (ov_move rfl rfl) rfl rfl rfl ?_
      refine at_v (ov_extract rfl rfl rfl) rfl rfl rfl ?_
      refine at_v (ov_extract rfl rfl rfl) rfl rfl rfl ?_
      refine at_v (ov_assign rfl rfl) rfl rfl rfl ?_
      refine at_v (ov_assign rfl rfl) rfl rfl rfl ?_
      refine at_nil ?_
      refine at_normal ?_
      refine hK0 _ _ _ ?_
      refine at_seq_k (fun K1 hK1 => ?_)
      refine at_region ?_
      refine at_v (ov_move rfl rfl) rfl rfl rfl ?_
      refine at_v (ov_move rfl rfl) rfl rfl rfl ?_
      refine at_wanted (j := 1) rfl ?_
      refine at_v (ov_move rfl rfl) rfl rfl rfl ?_
      refine at_wanted (j := 1) rfl ?_
      refine at_v (ov_nilCheck rfl rfl) rfl rfl rfl ?_
      refine at_wanted (j := 1) rfl ?_
      refine at_v (ov_fieldAddr (k := 0) (r := 0) rfl rfl rfl rfl) rfl rfl rfl ?_
      refine at_wanted (j := 1) rfl ?_
      refine at_v (ov_load rfl rfl rfl (fun _ s => s.ld (k := 0) rfl rfl)) rfl rfl rfl ?_
      refine at_wanted (j := 1) rfl ?_
      refine at_t (ot_call (ks := [1]) rfl rfl rfl Tryz.call38 rfl (T38 _ _ _) rfl) rfl rfl rfl ?_
      rintro v0 _ ⟨m0, hp0, rfl⟩
      obtain ⟨rfl, rfl⟩ := hp0
      simp only [List.cons_append, List.nil_append, splice, spliceL]
      refine at_wanted (j := 1) rfl ?_
      refine at_v (ov_int rfl rfl rfl rfl) rfl rfl rfl ?_
      refine at_v (ov_pick_t rfl rfl rfl) rfl rfl rfl ?_
      refine at_nil ?_
      refine at_normal ?_
      refine hK1 _ _ _ ?_
      refine at_cond_false (congrArg (fun b => some (Value.bool b)) (show _ = false from decide_eq_false (by omega))) ?_
      refine at_skip ?_
      refine at_end ?_
      refine at_fold (A := HeldA gk c si) [1, 0] rfl (fun h s => ⟨cb, s⟩) ?_
      refine at_fold (A := PoolA g most idle wm last L (cs.set k (id, c, si))) [2, 2, 2, 0, 0] rfl (fun h s => pool_shut (wb := wb) (mb := mb) (id, c, si) hl hg hx rfl s) ?_
      rw [set_same hx]
      refine at_fin (rs0 rfl) ?_
      refine ⟨_, ⟨rfl, rfl⟩, ?_⟩
      exact fun _ s => s.finEq (ks := [0]) (js := []) rfl rfl rfl
/-! ### each -/
theorem T37 (w0 : World) {g : Nat} : Tri Tryz.prog w0 37 [ptrTo g] [] fun v m => ∃ b, v = .func (.func 69) #[] #[ptrTo b] ∧ m = [cl b #[ptrTo g] 25] := by
  refine tri_of Tryz.func37 rfl rfl fun F => ?_
  simp only [Tryz.ntmps37, argEnv, List.nil_append]
  refine at_seq_k (fun K0 hK0 => ?_)
  refine at_region ?_
  refine at_t (ot_box1 rfl rfl rfl) rfl rfl rfl ?_
  rintro _ _ ⟨g0, rfl, rfl⟩
  refine at_v (ov_assign rfl rfl) rfl rfl rfl ?_
  refine at_nil ?_
  refine at_normal ?_
  refine hK0 _ _ _ ?_
  refine at_seq_k (fun K1 hK1 => ?_)
  refine at_region ?_
  refine at_v (ov_makeFunc (first := []) rfl rfl rfl) rfl rfl rfl ?_
  refine at_v (ov_assign rfl rfl) rfl rfl rfl ?_
  refine at_nil ?_
  refine at_normal ?_
  refine hK1 _ _ _ ?_
  refine at_ret ?_
  refine at_end ?_
  refine at_fin (rsV rfl (res_tmp rfl)) ?_
  refine ⟨_, ⟨_, rfl, rfl⟩, ?_⟩
  exact fun _ s => s.finEq (ks := [0]) (js := []) rfl rfl rfl
/-- Those that aren't closed. -/
def alive (cs : List XM) : List XM := cs.filter fun x => !decide (x.2.1.state = 4)
/-- What the pool holds when k were gone through, each turned by u. -/
def midL (cs : List XM) (u : XM → CM × Int) (k : Nat) : List XM := alive ((cs.take k).map fun x => (x.1, u x)) ++ cs.drop k
theorem midL_zero (cs : List XM) (u : XM → CM × Int) : midL cs u 0 = cs := by simp [midL, alive]
theorem midL_all (cs : List XM) (u : XM → CM × Int) : midL cs u cs.length = alive (cs.map fun x => (x.1, u x)) := by simp [midL]
def midK (cs : List XM) (u : XM → CM × Int) (k : Nat) : Nat := (alive ((cs.take k).map fun x => (x.1, u x))).length
theorem midL_get {cs : List XM} {u : XM → CM × Int} {k : Nat} {x : XM} (h : cs[k]? = some x) : (midL cs u k)[midK cs u k]? = some x := by
  unfold midL midK
  rw [List.getElem?_append_right (Nat.le_refl _), Nat.sub_self, List.getElem?_drop]
  simpa using h
theorem alive_app (a b : List XM) : alive (a ++ b) = alive a ++ alive b := by simp [alive]
/-- A round: the k-th is turned, and swept if it is closed. -/
theorem midL_step {cs : List XM} {u : XM → CM × Int} {k : Nat} {x : XM} (h : cs[k]? = some x) : sweepK ((midL cs u k).set (midK cs u k) (x.1, u x)) (midK cs u k) = midL cs u (k + 1) := by
  have hlt : k < cs.length := (List.getElem?_eq_some_iff.1 h).1
  have hx : cs[k] = x := (List.getElem?_eq_some_iff.1 h).2
  have e1 : (midL cs u k).set (midK cs u k) (x.1, u x) = alive ((cs.take k).map fun x => (x.1, u x)) ++ (x.1, u x) :: cs.drop (k + 1) := by
    unfold midL midK
    rw [List.set_append_right _ _ (Nat.le_refl _), Nat.sub_self, List.drop_eq_getElem_cons hlt, List.set_cons_zero]
  have e2 : midL cs u (k + 1) = alive ((cs.take k).map fun x => (x.1, u x)) ++ (alive [(x.1, u x)] ++ cs.drop (k + 1)) := by
    unfold midL
    rw [List.take_add_one, h]
    simp only [Option.toList_some, List.map_append, List.map_cons, List.map_nil, alive_app, List.append_assoc]
  rw [e1, e2]
  unfold sweepK midK
  rw [List.getElem?_append_right (Nat.le_refl _), Nat.sub_self]
  simp only [List.getElem?_cons_zero]
  by_cases h4 : (u x).1.state = 4
  · rw [if_pos h4, List.eraseIdx_append_of_length_le (Nat.le_refl _), Nat.sub_self]
    simp [alive, h4]
  · rw [if_neg h4]
    simp [alive, h4]
theorem pos_of {cs : List XM} {k : Nat} {x : XM} (hs : (cs.map (·.1)).Pairwise (· < ·)) (h : cs[k]? = some x) : posOf cs x.1 = some k := by
  obtain ⟨h1, h2⟩ := List.getElem?_eq_some_iff.1 h
  unfold posOf
  rw [List.findIdx?_eq_some_iff_getElem]
  refine ⟨h1, by simp [h2], fun j hj => ?_⟩
  have := List.pairwise_iff_getElem.1 hs j k (by simp; omega) (by simpa using h1) hj
  simp only [List.getElem_map, h2] at this
  simp; omega
theorem midL_sub {cs : List XM} {u : XM → CM × Int} {k : Nat} : ((midL cs u k).map (·.1)).Sublist (cs.map (·.1)) := by
  unfold midL
  rw [List.map_append]
  have e : cs.map (·.1) = (cs.take k).map (·.1) ++ (cs.drop k).map (·.1) := by rw [← List.map_append, List.take_append_drop]
  rw [e]
  refine List.Sublist.append ?_ (List.Sublist.refl _)
  have h1 : (alive ((cs.take k).map fun x => (x.1, u x))).Sublist ((cs.take k).map fun x => (x.1, u x)) := List.filter_sublist
  have := h1.map (·.1)
  rw [List.map_map] at this
  exact this
theorem midL_sorted {cs : List XM} {u : XM → CM × Int} {k : Nat} (hs : (cs.map (·.1)).Pairwise (· < ·)) : ((midL cs u k).map (·.1)).Pairwise (· < ·) := hs.sublist midL_sub
theorem set_ids {cs : List XM} {k : Nat} {x y : XM} (h : cs[k]? = some x) (e : y.1 = x.1) : (cs.set k y).map (·.1) = cs.map (·.1) := by
  refine List.ext_getElem? fun q => ?_
  rw [List.getElem?_map, List.getElem?_map, List.getElem?_set]
  split
  · subst_vars; split
    · rw [h]; simp [e]
    · rw [List.getElem?_eq_none (by omega)]
  · rfl
theorem midL_sweep {cs : List XM} {u : XM → CM × Int} {k : Nat} {x : XM} (hs : (cs.map (·.1)).Pairwise (· < ·)) (h : cs[k]? = some x) : sweepL ((midL cs u k).set (midK cs u k) (x.1, u x)) x.1 = midL cs u (k + 1) := by
  have hg := midL_get (u := u) h
  have hlt : midK cs u k < (midL cs u k).length := (List.getElem?_eq_some_iff.1 hg).1
  have hp : posOf ((midL cs u k).set (midK cs u k) (x.1, u x)) x.1 = some (midK cs u k) :=
    pos_of (x := (x.1, u x)) (by rw [set_ids (y := (x.1, u x)) hg rfl]; exact midL_sorted hs) (by simp [hlt])
  unfold sweepL
  rw [hp]
  exact midL_step h
def stopL (cs : List XM) (u st : XM → CM × Int) (k : Nat) : List XM := match cs[k]? with | some x => (midL cs u k).set (midK cs u k) (x.1, st x) | none => cs
def EPost (C J D : HP) (g : Nat) (u s : CM × Int) (v : Value) (m : List HP) : Prop := ∃ b : Bool, v = .bool b ∧ m = (match b with | true => [C, HeldA g u.1 u.2, J] | false => [C, HeldA g s.1 s.2, D])
theorem T69 (w0 : World) {g b l0 : Nat} {most idle wm last : Int} {L : List Int} {cs : List XM} (u st : XM → CM × Int) (J D : Nat → HP) (hs : (cs.map (·.1)).Pairwise (· < ·)) (h6 : cs.length ≤ 6)
    (hy : ∀ k x gh wb mb, cs[k]? = some x → YTri Tryz.prog w0 l0 [.int .i64 x.1, ptrTo gh] [PC g wb mb most idle last, HeldA gh x.2.1 x.2.2, J k] (EPost (PC g wb mb most idle last) (J (k + 1)) (D k) gh (u x) (st x))) :
    Tri Tryz.prog w0 69 [.func (.yield l0) #[] #[], ptrTo b] [J 0, cl b #[ptrTo g] 25, PoolA g most idle wm last L cs] fun v m => ∃ (k : Nat) (s : Bool), (s = true → k = cs.length) ∧ (s = false → k < cs.length) ∧ v = .tuple #[] ∧
      m = [(match s with | true => J k | false => D k), cl b #[ptrTo g] 25, PoolA g most idle wm last L (match s with | true => midL cs u k | false => stopL cs u st k)] := by
  refine tri_of Tryz.func69 rfl rfl fun F => ?_
  simp only [Tryz.ntmps69, argEnv, List.cons_append, List.nil_append]
  refine at_pulls [2] rfl ?_
  refine at_pool fun wb mb gs hl => ?_
  have hkv := kvs_keys hl
  have hl6 : (cs.map (·.1)).length ≤ 6 := by simpa using h6
  refine at_seq_k (fun K0 hK0 => ?_)
  refine at_region ?_
  refine at_v (ov_load rfl rfl rfl (fun _ s => s.ld (k := 5) rfl rfl)) rfl rfl rfl ?_
  refine at_v (ov_nilCheck rfl rfl) rfl rfl rfl ?_
  refine at_v (ov_fieldAddr (k := 3) (r := 3) rfl rfl rfl rfl) rfl rfl rfl ?_
  refine at_v (ov_load rfl rfl rfl (fun _ s => s.ld (k := 0) rfl rfl)) rfl rfl rfl ?_
  refine at_t (ot_call (ks := []) rfl rfl rfl Tryz.call71 rfl (T71 _) rfl) rfl rfl rfl ?_
  rintro v0 _ ⟨m0, hp0, rfl⟩
  obtain ⟨b0, hp0⟩ := hp0
  obtain ⟨rfl, rfl⟩ := hp0
  simp only [List.cons_append, List.nil_append, splice, spliceL]
  refine at_t (ot_call (ks := [0, 2]) rfl rfl rfl Tryz.call70 rfl (T70 _ (by first | assumption | rfl | omega | decide | (simp; done) | (simp at *; omega)) (by first | assumption | rfl | omega | decide | (simp; done) | (simp at *; omega)) (by first | assumption | rfl | omega | decide | (simp; done) | (simp at *; omega))) rfl) rfl rfl rfl ?_
  rintro v0 _ ⟨m0, hp0, rfl⟩
  obtain ⟨A0, hp0⟩ := hp0
  obtain ⟨c0, hp0⟩ := hp0
  obtain ⟨rfl, rfl⟩ := hp0
  simp only [List.cons_append, List.nil_append, splice, spliceL]
  refine at_v (ov_len_slice rfl Tryz.underlying45 rfl) rfl rfl rfl ?_
  refine at_v (ov_move rfl rfl) rfl rfl rfl ?_
  refine at_nil ?_
  refine at_normal ?_
  refine hK0 _ _ _ ?_
  refine at_block ?_
  refine at_fold (A := PoolA g most idle wm last L cs) [2, 2, 1, 1] rfl (fun h s => ⟨wb, mb, gs, hl, s⟩) ?_
  clear hkv hl
  refine at_loopE [13, 14, 15, 4, 16, 17, 18, 19, 20, 21, 22, 23, 24, 25, 26, 27, 28, 29, 12] (fun k => k ≤ cs.length) (fun k => [(12, .int .i64 (k : Nat))]) (fun k m => setAt 0 (PoolA g most idle wm last L (midL cs u k)) (setAt 2 (J k) m)) (fun k => cs.length - k) 0 (Nat.zero_le _) ⟨rfl, trivial⟩ (fun _ s => by simp only [setAt, midL_zero]; exact s) ?_
  intro k hk
  simp only [setAt]
  refine at_seq_k (fun K1 hK1 => ?_)
  refine at_region ?_
  refine at_v (ov_int rfl rfl rfl rfl) rfl rfl rfl ?_
  refine at_nil ?_
  refine at_normal ?_
  refine hK1 _ _ _ ?_
  refine at_seq_k (fun K2 hK2 => ?_)
  refine at_cond rfl (fun hc => ?_) (fun hc => ?_)
  · have hlt : k < cs.length := by simpa using hc
    obtain ⟨x, hx⟩ : ∃ x, cs[k]? = some x := ⟨_, List.getElem?_eq_getElem hlt⟩
    have hgi : (cs.map (·.1))[k]? = some x.1 := by simp [hx]
    have hmk := midL_get (u := u) hx
    refine at_pool fun wb mb gs hl => ?_
    refine at_pulls [3] rfl ?_
    refine at_take hmk fun gk hg _ => ?_
    have hkvg := kvs_get hg hmk
    have hyk := hy k x gk wb mb hx
    refine at_skip ?_
    refine at_normal ?_
    refine hK2 _ _ _ ?_
    refine at_seq_k (fun K3 hK3 => ?_)
    refine at_block ?_
    refine at_seq_k (fun K4 hK4 => ?_)
    refine at_region ?_
    refine at_v (ov_indexRd (fun _ s => s.rd (k := 5) rfl) rfl Tryz.underlying45 rfl rfl rfl hgi) rfl rfl rfl ?_
    refine at_v (ov_loadRd0 (fun _ s => s.rd (k := 5) rfl) rfl rfl rfl hgi rfl) rfl rfl rfl ?_
    refine at_v (ov_assign rfl rfl) rfl rfl rfl ?_
    refine at_nil ?_
    refine at_normal ?_
    refine hK4 _ _ _ ?_
    refine at_seq_k (fun K5 hK5 => ?_)
    refine at_seq_k (fun K6 hK6 => ?_)
    refine at_region ?_
    refine at_v (ov_move rfl rfl) rfl rfl rfl ?_
    refine at_v (ov_move rfl rfl) rfl rfl rfl ?_
    refine at_v (ov_load rfl rfl rfl (fun _ s => s.ld (k := 7) rfl rfl)) rfl rfl rfl ?_
    refine at_v (ov_nilCheck rfl rfl) rfl rfl rfl ?_
    refine at_v (ov_fieldAddr (k := 3) (r := 3) rfl rfl rfl rfl) rfl rfl rfl ?_
    refine at_v (ov_load rfl rfl rfl (fun _ s => s.ld (k := 2) rfl rfl)) rfl rfl rfl ?_
    refine at_v (ov_move rfl rfl) rfl rfl rfl ?_
    refine at_v (ov_lookup1 (k := 4) rfl Tryz.underlying65 Tryz.underlying3 rfl rfl rfl (by first | rfl | trivial) hkvg) rfl rfl rfl ?_
    refine at_t (ot_yield (ks := [2, 0, 4]) rfl rfl rfl (hyk ) rfl) rfl rfl rfl ?_
    rintro v0 _ ⟨m0, hp0, rfl⟩
    obtain ⟨b1, hp0⟩ := hp0
    obtain ⟨rfl, rfl⟩ := hp0
    simp only [List.cons_append, List.nil_append, splice, spliceL]
    refine at_v (ov_not rfl rfl) rfl rfl rfl ?_
    refine at_nil ?_
    refine at_normal ?_
    refine hK6 _ _ _ ?_
    cases b1 with
    | true =>
      dsimp only [List.append, List.cons_append, List.nil_append]
      refine at_fold (A := PoolA g most idle wm last L ((midL cs u k).set (midK cs u k) (x.1, u x))) [0, 3, 3, 0, 1] rfl (fun h s => pool_shut (wb := wb) (mb := mb) (x.1, u x) hl hg hmk rfl s) ?_
      refine at_cond_false rfl ?_
      refine at_skip ?_
      refine at_normal ?_
      refine hK5 _ _ _ ?_
      refine at_region ?_
      refine at_v (ov_load rfl rfl rfl (fun _ s => s.ld (k := 3) rfl rfl)) rfl rfl rfl ?_
      refine at_v (ov_move rfl rfl) rfl rfl rfl ?_
      refine at_t (ot_call (ks := [0]) rfl rfl rfl Tryz.call55 rfl (T55 _ _) rfl) rfl rfl rfl ?_
      rintro v0 _ ⟨m0, hp0, rfl⟩
      obtain ⟨rfl, rfl⟩ := hp0
      simp only [List.cons_append, List.nil_append, splice, spliceL]
      refine at_nil ?_
      refine at_inb_normal ?_
      refine at_normal ?_
      refine hK3 _ _ _ ?_
      refine at_region ?_
      refine at_v ((ov_int rfl rfl rfl rfl).eq (congrArg (Value.int .i64) (inK_i64 (by omega) (by omega)))) rfl rfl rfl ?_
      refine at_v (ov_move rfl rfl) rfl rfl rfl ?_
      refine at_nil ?_
      refine at_normal ?_
      rw [midL_sweep hs hx]
      refine at_roundF (k + 1) hlt (by omega) ⟨rfl, trivial⟩ rfl ?_
      exact fun _ s => s.finEq (ks := [0, 1, 0, 0]) (js := []) rfl rfl rfl
    | false =>
      dsimp only [List.append, List.cons_append, List.nil_append]
      refine at_fold (A := PoolA g most idle wm last L ((midL cs u k).set (midK cs u k) (x.1, st x))) [0, 3, 3, 0, 1] rfl (fun h s => pool_shut (wb := wb) (mb := mb) (x.1, st x) hl hg hmk rfl s) ?_
      refine at_cond_true rfl ?_
      refine at_ret ?_
      refine at_then_ret ?_
      refine at_inb_ret ?_
      refine at_then_ret ?_
      refine at_then_ret ?_
      refine at_inb_ret ?_
      refine at_end ?_
      refine at_fin (rs0 rfl) ?_
      refine ⟨_, ⟨k, false, fun h => (by cases h), fun _ => hlt, rfl, rfl⟩, ?_⟩
      simp only [stopL, hx]
      exact fun _ s => s.finEq (ks := [1, 2, 0]) (js := [0]) rfl rfl rfl
  · have hk2 : k = cs.length := by
      have : ¬ k < cs.length := by simpa using hc
      omega
    subst hk2
    refine at_exit ?_
    refine at_then_exit ?_
    refine at_then_exit ?_
    refine at_exit_eq ?_
    refine at_end ?_
    refine at_fin (rs0 rfl) ?_
    refine ⟨_, ⟨cs.length, true, fun _ => rfl, fun h => (by cases h), rfl, rfl⟩, ?_⟩
    exact fun _ s => s.finEq (ks := [2, 2, 0]) (js := [0]) rfl rfl rfl
def EQ (l0 : Nat) (rc : Loop) (C : HP) (gh : Nat) (u s : CM × Int) (T : HP) (E : Code → HP) (v : Value) (m : List HP) : Prop :=
  (v = .bool true ∧ m = [pt l0 (.loop { rc with state := .ready, pending := none }), C, HeldA gh u.1 u.2, T]) ∨ ∃ c, v = .bool false ∧ m = [pt l0 (.loop { rc with state := .done, pending := some c }), C, HeldA gh s.1 s.2, E c]
/-- 'for id, c := range p.each()'. -/
theorem at_each {w0 : World} {n : Nat} {ds : List Deferred} {env : Env} {l : List HP} {Q : Exit → Act → World → Prop} {gop : Operand} {p1 p2 : Tmp} {assign body : Code} {r : List HP} {g b : Nat} {most idle wm last : Int} {L : List Int} {cs : List XM} (ks : List Nat)
    (u st : XM → CM × Int) (B : Nat → HP) (E : Nat → Code → HP) (hs : (cs.map (·.1)).Pairwise (· < ·)) (h6 : cs.length ≤ 6) (hg : ev env gop = some (.func (.func 69) #[] #[ptrTo b]))
    (hks : pulls ks l = some ([B 0, cl b #[ptrTo g] 25, PoolA g most idle wm last L cs], r)) (hn : ([p1, p2].all fun t => Nat.blt t n) = true)
    (round : ∀ l0 rc k x gh wb mb, cs[k]? = some x → rc.state = .ready → ∀ F, At w0 n [] (gwp (some l0) Tryz.prog assign (Exit.then (RMid Tryz.prog l0 (gwp (some l0) Tryz.prog body (RPost Tryz.prog w0 l0 (EQ l0 rc (PC g wb mb most idle last) gh (u x) (st x) (B (k + 1)) (E k)) F))) fun _ _ _ => False)) (binds [p1, p2] [.int .i64 x.1, ptrTo gh] env) (pt l0 (.loop rc) :: PC g wb mb most idle last :: HeldA gh x.2.1 x.2.2 :: B k :: F))
    (kn : ∀ d, At w0 n (SL.mark d :: ds) (Q .normal) env (pt d (.deferred (some [])) :: B cs.length :: cl b #[ptrTo g] 25 :: PoolA g most idle wm last L (midL cs u cs.length) :: r))
    (kc : ∀ d k c, k < cs.length → At w0 n (SL.mark d :: ds) (gwp none Tryz.prog c Q) env (pt d (.deferred (some [])) :: E k c :: cl b #[ptrTo g] 25 :: PoolA g most idle wm last L (stopL cs u st k) :: r)) :
    At w0 n ds (gwp none Tryz.prog (.rangeFunc gop #[p1, p2] assign body) Q) env l := by
  refine at_rangeFunc (caps := [ptrTo b]) ks (fun s m => match s with | none => m = [B cs.length, cl b #[ptrTo g] 25, PoolA g most idle wm last L (midL cs u cs.length)] | some c => ∃ k, k < cs.length ∧ m = [E k c, cl b #[ptrTo g] 25, PoolA g most idle wm last L (stopL cs u st k)]) hg Tryz.call69 hks ?_ ?_ ?_
  · intro fn d l0 tmps ht
    obtain ⟨rc, hrc⟩ : ∃ rc, recO fn d tmps #[p1, p2] assign body .ready none = rc := ⟨_, rfl⟩
    rw [hrc]
    have hT : ∀ k x gh wb mb, cs[k]? = some x → YTri Tryz.prog w0 l0 [.int .i64 x.1, ptrTo gh] [PC g wb mb most idle last, HeldA gh x.2.1 x.2.2, star [pt l0 (.loop rc), B k]] (EPost (PC g wb mb most idle last) (star [pt l0 (.loop rc), B (k + 1)]) (fun h => ∃ c, star [pt l0 (.loop { rc with state := .done, pending := some c }), E k c] h) gh (u x) (st x)) := by
      intro k x gh wb mb hx
      have hy : YTri Tryz.prog w0 l0 [.int .i64 x.1, ptrTo gh] [pt l0 (.loop rc), PC g wb mb most idle last, HeldA gh x.2.1 x.2.2, B k] (EQ l0 rc (PC g wb mb most idle last) gh (u x) (st x) (B (k + 1)) (E k)) := by
        refine ytri_of (n := n) (env := env) (k := 0) [p1, p2] (by rw [← hrc]) rfl (by rw [← hrc]; exact ht) rfl hn ?_
        intro F
        have := round l0 rc k x gh wb mb hx (by rw [← hrc]) F
        rw [← hrc] at this ⊢
        exact this
      have rot : ∀ {A B C D : HP} {F : List HP} {w : World}, Sat w0 w (A :: B :: C :: D :: F) → Sat w0 w (C :: D :: A :: B :: F) := fun s => s.perm (List.perm_append_comm (l₁ := [_, _]) (l₂ := [_, _]) |>.append_right _)
      have rot2 : ∀ {A B C : HP} {F : List HP} {w : World}, Sat w0 w (A :: B :: C :: F) → Sat w0 w (B :: C :: A :: F) := fun s => s.perm (List.perm_append_comm (l₁ := [_]) (l₂ := [_, _]) |>.append_right _)
      have rot3 : ∀ {A B C : HP} {F : List HP} {w : World}, Sat w0 w (A :: B :: C :: F) → Sat w0 w (C :: A :: B :: F) := fun s => s.perm (List.perm_append_comm (l₁ := [_, _]) (l₂ := [_]) |>.append_right _)
      have in4 : ∀ {A B C D : HP} {F : List HP} {w : World}, Sat w0 w (A :: B :: C :: D :: F) → Sat w0 w (A :: D :: B :: C :: F) := fun s => s.perm (List.Perm.cons _ (List.perm_append_comm (l₁ := [_, _]) (l₂ := [_]) |>.append_right _))
      have out4 : ∀ {A B C D : HP} {F : List HP} {w : World}, Sat w0 w (A :: D :: B :: C :: F) → Sat w0 w (A :: B :: C :: D :: F) := fun s => s.perm (List.Perm.cons _ (List.perm_append_comm (l₁ := [_]) (l₂ := [_, _]) |>.append_right _))
      refine hy.conv (fun F w s => ?_) ?_
      · exact out4 (rot3 s).open_
      · rintro F w v m (⟨rfl, rfl⟩ | ⟨c, rfl, rfl⟩) s
        · refine ⟨_, ⟨true, rfl, rfl⟩, ?_⟩
          have e : ({ rc with state := .ready, pending := none } : Loop) = rc := by rw [← hrc]
          rw [e] at s
          exact rot2 (Sat.shut (m := [pt l0 (.loop rc), B (k + 1)]) (in4 s))
        · refine ⟨_, ⟨false, rfl, rfl⟩, ?_⟩
          have s2 := Sat.shut (m := [pt l0 (.loop { rc with state := .done, pending := some c }), E k c]) (in4 s)
          have s3 : Sat w0 w ((fun h => ∃ c, star [pt l0 (.loop { rc with state := .done, pending := some c }), E k c] h) :: PC g wb mb most idle last :: HeldA gh (st x).1 (st x).2 :: F) := s2.imp fun h k => by obtain ⟨a, b, hx, r⟩ := k; exact ⟨a, b, ⟨c, hx⟩, r⟩
          exact rot2 s3
    refine (T69 w0 (g := g) (most := most) (idle := idle) (wm := wm) (last := last) (L := L) u st _ _ hs h6 hT).conv (fun F w s => ?_) ?_
    · exact Sat.shut (m := [pt l0 (.loop rc), B 0]) s
    · rintro F w v m ⟨k, b', h1, h2, rfl, rfl⟩ s
      cases b' with
      | true =>
        have := h1 rfl
        subst this
        exact ⟨_, ⟨none, _, rfl, by simp only [stOf]; rw [hrc]⟩, s.open_⟩
      | false =>
        obtain ⟨c, s1⟩ := s.ex
        exact ⟨_, ⟨some c, _, ⟨k, h2 rfl, rfl⟩, rfl⟩, by rw [← hrc] at s1; exact s1.open_⟩
  · rintro d m' hm
    have hm : m' = [B cs.length, cl b #[ptrTo g] 25, PoolA g most idle wm last L (midL cs u cs.length)] := hm
    subst hm; exact kn d
  · rintro d c m' ⟨k, hk, rfl⟩
    exact kc d k c hk
/-- The loops' rounds open what is held. -/
theorem at_held {w0 : World} {n : Nat} {ds : List Deferred} {R : Act → World → Prop} {env : Env} {l : List HP} {g : Nat} {c : CM} {s : Int} (k : ∀ cb, At w0 n ds R env (cl g #[ptrTo cb, .int .u64 s] 83 :: ConnC cb c :: l)) : At w0 n ds R env (HeldA g c s :: l) :=
  at_ex fun cb => at_open (k cb)
def drainU (e : Int) (x : XM) : CM × Int := if x.2.1.e ≠ e then (x.2.1.drain, x.2.2) else x.2
theorem T25 (w0 : World) {g : Nat} {most idle wm last : Int} {L : List Int} {cs : List XM} (e : Int) (hs : (cs.map (·.1)).Pairwise (· < ·)) (h6 : cs.length ≤ 6) :
    Tri Tryz.prog w0 25 [ptrTo g, .int .u64 e] [PoolA g most idle wm last L cs] fun v m => v = .tuple #[] ∧ m = [PoolA g most idle wm last L (midL cs (drainU e) cs.length)] := by
  refine tri_of Tryz.func25 rfl rfl fun F => ?_
  simp only [Tryz.ntmps25, argEnv, List.cons_append, List.nil_append]
  refine at_seq_k (fun K0 hK0 => ?_)
  refine at_region ?_
  refine at_t (ot_box1 rfl rfl rfl) rfl rfl rfl ?_
  rintro _ _ ⟨g0, rfl, rfl⟩
  refine at_nil ?_
  refine at_normal ?_
  refine hK0 _ _ _ ?_
  refine at_seq_k (fun K1 hK1 => ?_)
  refine at_region ?_
  refine at_v (ov_move rfl rfl) rfl rfl rfl ?_
  refine at_t (ot_call (ks := []) rfl rfl rfl Tryz.call37 rfl (T37 _) rfl) rfl rfl rfl ?_
  rintro v0 _ ⟨m0, hp0, rfl⟩
  obtain ⟨b0, hp0⟩ := hp0
  obtain ⟨rfl, rfl⟩ := hp0
  simp only [List.cons_append, List.nil_append, splice, spliceL]
  refine at_nil ?_
  refine at_normal ?_
  refine hK1 _ _ _ ?_
  refine at_block ?_
  refine at_each [1, 0, 0] (drainU e) (drainU e) (fun _ => cl g0 #[.int .u64 e] 22) (fun _ _ h => False ∧ star [] h) hs h6 rfl rfl rfl ?_ ?_ ?_
  · intro l0 rc k x gh wb mb hx hst F
    refine at_pulls [2] rfl ?_
    refine at_held fun cb => ?_
    by_cases hi1 : x.2.1.e = e
    · rw [show drainU e x = x.2 from if_neg (by simp [hi1])]
      refine at_region ?_
      refine at_v (ov_assign rfl rfl) rfl rfl rfl ?_
      refine at_nil ?_
      refine at_normal ?_
      refine at_mid (k := 2) rfl (by assumption) ?_
      simp only [setAt]
      refine at_block ?_
      refine at_seq_k (fun K2 hK2 => ?_)
      refine at_draw _ [] 1000 [(2, 0), (2, 1), (2, 2), (1, 3), (1, 5), (0, 4), (2, 6)] (by kernel_rfl) (by kernel_rfl) (fun _ s => (s.pulls (ks := [0, 0, 0, 0, 0]) rfl).left) ?_
      refine aq_p (ov_move rfl rfl) rfl rfl rfl ?_
      refine aq_p (ov_nilCheck rfl rfl) rfl rfl rfl ?_
      refine aq_p (ov_fieldAddr (k := 0) (r := 0) rfl rfl rfl rfl) rfl rfl rfl ?_
      refine aq_v (ov_load rfl rfl rfl (fun _ s => s.ld (k := 0) rfl rfl)) rfl rfl rfl ?_
      refine aq_v (ov_load rfl rfl rfl (fun _ s => s.ld (k := 4) rfl rfl)) rfl rfl rfl ?_
      refine aq_t (ot_call (ks := [1]) rfl rfl rfl Tryz.call40 rfl (T40 _ _ _) rfl) rfl rfl rfl ?_
      rintro v0 _ ⟨m0, hp0, rfl⟩
      obtain ⟨rfl, rfl⟩ := hp0
      simp only [List.cons_append, List.nil_append, splice, spliceL]
      refine ⟨fun _ s => (s.pulls (ks := [1, 0, 0, 0, 0]) rfl).left, ?_⟩
      refine aq_p (ov_int rfl rfl rfl rfl) rfl rfl rfl ?_
      refine aq_nil ?_
      refine at_normal ?_
      refine hK2 _ _ _ ?_
      refine at_cond_false (congrArg (fun b => some (Value.bool b)) (show _ = false from by first | assumption | (rw [Bool.not_eq_false']; exact decide_eq_true (by omega)))) ?_
      refine at_skip ?_
      refine at_inb_normal ?_
      refine at_fold (A := HeldA gh x.2.1 x.2.2) [1, 0] rfl (fun h s => ⟨cb, s⟩) ?_
      refine at_rnormal (k := 1) rfl ?_
      simp only [setAt]
      refine ⟨_, .inl ⟨rfl, rfl⟩, ?_⟩
      exact fun _ s => s.finEq (ks := [1, 1, 0, 0]) (js := []) rfl rfl rfl
    · rw [show drainU e x = (x.2.1.drain, x.2.2) from if_pos hi1]
      refine at_region ?_
      refine at_v (ov_assign rfl rfl) rfl rfl rfl ?_
      refine at_nil ?_
      refine at_normal ?_
      refine at_mid (k := 2) rfl (by assumption) ?_
      simp only [setAt]
      refine at_block ?_
      refine at_seq_k (fun K2 hK2 => ?_)
      refine at_draw _ [] 1000 [(2, 0), (2, 1), (2, 2), (1, 3), (1, 5), (0, 4), (2, 6)] (by kernel_rfl) (by kernel_rfl) (fun _ s => (s.pulls (ks := [0, 0, 0, 0, 0]) rfl).left) ?_
      refine aq_p (ov_move rfl rfl) rfl rfl rfl ?_
      refine aq_p (ov_nilCheck rfl rfl) rfl rfl rfl ?_
      refine aq_p (ov_fieldAddr (k := 0) (r := 0) rfl rfl rfl rfl) rfl rfl rfl ?_
      refine aq_v (ov_load rfl rfl rfl (fun _ s => s.ld (k := 0) rfl rfl)) rfl rfl rfl ?_
      refine aq_v (ov_load rfl rfl rfl (fun _ s => s.ld (k := 4) rfl rfl)) rfl rfl rfl ?_
      refine aq_t (ot_call (ks := [1]) rfl rfl rfl Tryz.call40 rfl (T40 _ _ _) rfl) rfl rfl rfl ?_
      rintro v0 _ ⟨m0, hp0, rfl⟩
      obtain ⟨rfl, rfl⟩ := hp0
      simp only [List.cons_append, List.nil_append, splice, spliceL]
      refine ⟨fun _ s => (s.pulls (ks := [1, 0, 0, 0, 0]) rfl).left, ?_⟩
      refine aq_p (ov_int rfl rfl rfl rfl) rfl rfl rfl ?_
      refine aq_nil ?_
      refine at_normal ?_
      refine hK2 _ _ _ ?_
      refine at_cond_true (congrArg (fun b => some (Value.bool b)) (show _ = true from by first | assumption | (rw [Bool.not_eq_true']; exact decide_eq_false (by omega)))) ?_
      refine at_region ?_
      refine at_v (ov_move rfl rfl) rfl rfl rfl ?_
      refine at_v (ov_nilCheck rfl rfl) rfl rfl rfl ?_
      refine at_v (ov_fieldAddr (k := 0) (r := 0) rfl rfl rfl rfl) rfl rfl rfl ?_
      refine at_v (ov_load rfl rfl rfl (fun _ s => s.ld (k := 1) rfl rfl)) rfl rfl rfl ?_
      refine at_t (ot_call (ks := [0]) rfl rfl rfl Tryz.call56 rfl (T56 _ _ _) rfl) rfl rfl rfl ?_
      rintro v0 _ ⟨m0, hp0, rfl⟩
      obtain ⟨rfl, rfl⟩ := hp0
      simp only [List.cons_append, List.nil_append, splice, spliceL]
      refine at_nil ?_
      refine at_inb_normal ?_
      refine at_fold (A := HeldA gh x.2.1.drain x.2.2) [1, 0] rfl (fun h s => ⟨cb, s⟩) ?_
      refine at_rnormal (k := 1) rfl ?_
      simp only [setAt]
      refine ⟨_, .inl ⟨rfl, rfl⟩, ?_⟩
      exact fun _ s => s.finEq (ks := [1, 1, 0, 0]) (js := []) rfl rfl rfl
  · intro d
    refine at_inb_normal ?_
    refine at_end ?_
    refine at_mark (k := 0) rfl ?_
    simp only [setAt]
    refine at_fin (rs0 rfl) ?_
    refine ⟨_, ⟨rfl, rfl⟩, ?_⟩
    exact fun _ s => s.finEq (ks := [3]) (js := [0, 0, 0]) rfl rfl rfl
  · intro d k c hk
    refine at_pulls [1] rfl ?_
    exact at_and fun h => h.elim
def reapB (idle now : Int) (x : XM) : Bool := decide (x.2.1.state = 1 ∧ x.2.2 ≤ now ∧ now - x.2.2 ≥ idle)
def reapU (idle now : Int) (x : XM) : CM × Int := if reapB idle now x = true then (x.2.1.drain, x.2.2) else x.2
def reapN (idle now : Int) (cs : List XM) : Nat := cs.countP (reapB idle now)
theorem reapN_step {idle now : Int} {cs : List XM} {k : Nat} {x : XM} (h : cs[k]? = some x) : reapN idle now (cs.take (k + 1)) = reapN idle now (cs.take k) + if reapB idle now x = true then 1 else 0 := by
  unfold reapN
  rw [List.take_add_one, h]
  simp [List.countP_append, List.countP_cons]
theorem T26 (w0 : World) {g : Nat} {most idle wm last : Int} {L : List Int} {cs : List XM} (now : Int) (hs : (cs.map (·.1)).Pairwise (· < ·)) (h6 : cs.length ≤ 6) (hnow : 0 ≤ now ∧ now < 18446744073709551616) (hsi : ∀ x ∈ cs, 0 ≤ x.2.2 ∧ x.2.2 < 18446744073709551616) :
    Tri Tryz.prog w0 26 [ptrTo g, .int .u64 now] [PoolA g most idle wm last L cs] fun v m => v = .int .i64 (reapN idle now cs : Nat) ∧ m = [PoolA g most idle wm last L (midL cs (reapU idle now) cs.length)] := by
  refine tri_of Tryz.func26 rfl rfl fun F => ?_
  simp only [Tryz.ntmps26, argEnv, List.cons_append, List.nil_append]
  refine at_seq_k (fun K0 hK0 => ?_)
  refine at_region ?_
  refine at_t (ot_box1 rfl rfl rfl) rfl rfl rfl ?_
  rintro _ _ ⟨g0, rfl, rfl⟩
  refine at_t (ot_box1 rfl rfl rfl) rfl rfl rfl ?_
  rintro _ _ ⟨g1, rfl, rfl⟩
  refine at_v (ov_assign rfl rfl) rfl rfl rfl ?_
  refine at_nil ?_
  refine at_normal ?_
  refine hK0 _ _ _ ?_
  refine at_seq_k (fun K1 hK1 => ?_)
  refine at_region ?_
  refine at_t (ot_alloc1 rfl Tryz.zeroValue3 rfl) rfl rfl rfl ?_
  rintro _ _ ⟨g2, rfl, rfl⟩
  refine at_t0 (ot_store (k := 0) rfl rfl rfl rfl rfl rfl rfl) rfl rfl ?_
  rintro _ _ ⟨rfl, rfl⟩
  simp only [setAt, splice, spliceL, Value.cells]
  refine at_nil ?_
  refine at_normal ?_
  refine hK1 _ _ _ ?_
  refine at_seq_k (fun K2 hK2 => ?_)
  refine at_seq_k (fun K3 hK3 => ?_)
  refine at_region ?_
  refine at_v (ov_load rfl rfl rfl (fun _ s => s.ld (k := 2) rfl rfl)) rfl rfl rfl ?_
  refine at_t (ot_call (ks := []) rfl rfl rfl Tryz.call37 rfl (T37 _) rfl) rfl rfl rfl ?_
  rintro v0 _ ⟨m0, hp0, rfl⟩
  obtain ⟨b0, hp0⟩ := hp0
  obtain ⟨rfl, rfl⟩ := hp0
  simp only [List.cons_append, List.nil_append, splice, spliceL]
  refine at_nil ?_
  refine at_normal ?_
  refine hK3 _ _ _ ?_
  refine at_block ?_
  refine at_fold (A := star [cl g2 #[.int .i64 (reapN idle now (cs.take 0) : Nat)] 3, cl g1 #[.int .u64 now] 22, cl g0 #[ptrTo g] 25]) [1, 1, 1] rfl (fun h s => s) ?_
  refine at_each [0, 0, 0] (reapU idle now) (reapU idle now) (fun k => star [cl g2 #[.int .i64 (reapN idle now (cs.take k) : Nat)] 3, cl g1 #[.int .u64 now] 22, cl g0 #[ptrTo g] 25]) (fun _ _ h => False ∧ star [] h) hs h6 rfl rfl rfl ?_ ?_ ?_
  · intro l0 rc k x gh wb mb hx hst F
    refine at_pulls [2, 2] rfl ?_
    refine at_held fun cb => ?_
    refine at_pulls [2] rfl ?_
    refine at_open ?_
    simp only [List.cons_append, List.nil_append]
    have hsx := hsi x (List.mem_of_getElem? hx)
    have hlt : k < cs.length := (List.getElem?_eq_some_iff.1 hx).1
    have hn6 : reapN idle now (cs.take k) ≤ 6 := by
      have := List.countP_le_length (p := reapB idle now) (l := cs.take k)
      simp only [reapN]; simp at this; omega
    have hstep := reapN_step (idle := idle) (now := now) hx
    cases hb : reapB idle now x with
    | true =>
      rw [show reapU idle now x = (x.2.1.drain, x.2.2) from if_pos hb]
      rw [hb] at hstep
      simp only [if_true] at hstep
      have hb2 : x.2.1.state = 1 ∧ x.2.2 ≤ now ∧ now - x.2.2 ≥ idle := by simpa [reapB] using hb
      obtain ⟨hi1, hb3, hb4⟩ := hb2
      refine at_region ?_
      refine at_v (ov_assign rfl rfl) rfl rfl rfl ?_
      refine at_nil ?_
      refine at_normal ?_
      refine at_mid (k := 5) rfl (by assumption) ?_
      simp only [setAt]
      refine at_block ?_
      refine at_seq_k (fun K4 hK4 => ?_)
      refine at_draw _ [] 1000 [(2, 0), (2, 1), (2, 2), (1, 3), (0, 4), (2, 5), (2, 6), (2, 7), (2, 8), (2, 9), (1, 10), (1, 11), (2, 12), (2, 13), (2, 14), (1, 15), (2, 16), (2, 17), (2, 18), (1, 19), (2, 20), (1, 21), (2, 22), (2, 23), (1, 24), (2, 25), (2, 26)] (by kernel_rfl) (by kernel_rfl) (fun _ s => (s.pulls (ks := [0, 0, 0, 0, 0, 0, 0]) rfl).left) ?_
      refine aq_p (ov_move rfl rfl) rfl rfl rfl ?_
      refine aq_p (ov_nilCheck rfl rfl) rfl rfl rfl ?_
      refine aq_p (ov_fieldAddr (k := 0) (r := 0) rfl rfl rfl rfl) rfl rfl rfl ?_
      refine aq_v (ov_load rfl rfl rfl (fun _ s => s.ld (k := 3) rfl rfl)) rfl rfl rfl ?_
      refine aq_t (ot_call (ks := [4]) rfl rfl rfl Tryz.call38 rfl (T38 _ _ _) rfl) rfl rfl rfl ?_
      rintro v0 _ ⟨m0, hp0, rfl⟩
      obtain ⟨rfl, rfl⟩ := hp0
      simp only [List.cons_append, List.nil_append, splice, spliceL]
      refine ⟨fun _ s => (s.pulls (ks := [1, 1, 1, 1, 0, 0, 0]) rfl).left, ?_⟩
      refine aq_p (ov_int rfl rfl rfl rfl) rfl rfl rfl ?_
      refine aq_p (ov_move rfl rfl) rfl rfl rfl ?_
      refine at_reval 18 (.bool true) rfl (congrArg Value.bool (decide_eq_true (by omega))) ?_
      refine aq_wanted (j := 6) rfl ?_
      refine aq_p (ov_move rfl rfl) rfl rfl rfl ?_
      refine aq_wanted (j := 6) rfl ?_
      refine aq_p (ov_nilCheck rfl rfl) rfl rfl rfl ?_
      refine aq_wanted (j := 6) rfl ?_
      refine aq_p (ov_fieldAddr (k := 1) (r := 1) rfl rfl rfl rfl) rfl rfl rfl ?_
      refine aq_wanted (j := 6) rfl ?_
      refine aq_v (ov_load rfl rfl rfl (fun _ s => s.ld (k := 3) rfl rfl)) rfl rfl rfl ?_
      refine aq_wanted (j := 6) rfl ?_
      refine aq_v (ov_load rfl rfl rfl (fun _ s => s.ld (k := 1) rfl rfl)) rfl rfl rfl ?_
      refine aq_wanted (j := 6) rfl ?_
      refine aq_p (ov_int rfl rfl rfl rfl) rfl rfl rfl ?_
      refine aq_p (ov_pick_t rfl rfl rfl) rfl rfl rfl ?_
      refine aq_p (ov_move rfl rfl) rfl rfl rfl ?_
      refine at_reval 26 (.bool true) rfl (congrArg Value.bool (decide_eq_true (by omega))) ?_
      refine aq_wanted (j := 14) rfl ?_
      refine aq_v (ov_load rfl rfl rfl (fun _ s => s.ld (k := 1) rfl rfl)) rfl rfl rfl ?_
      refine aq_wanted (j := 14) rfl ?_
      refine aq_p (ov_move rfl rfl) rfl rfl rfl ?_
      refine aq_wanted (j := 14) rfl ?_
      refine aq_p (ov_nilCheck rfl rfl) rfl rfl rfl ?_
      refine aq_wanted (j := 14) rfl ?_
      refine aq_p (ov_fieldAddr (k := 1) (r := 1) rfl rfl rfl rfl) rfl rfl rfl ?_
      refine aq_wanted (j := 14) rfl ?_
      refine aq_v (ov_load rfl rfl rfl (fun _ s => s.ld (k := 3) rfl rfl)) rfl rfl rfl ?_
      refine aq_wanted (j := 14) rfl ?_
      refine aq_p ((ov_int rfl rfl rfl rfl).eq (congrArg (Value.int .u64) (inK_u64 (by omega) (by omega)))) rfl rfl rfl ?_
      refine aq_wanted (j := 14) rfl ?_
      refine aq_v (ov_load rfl rfl rfl (fun _ s => s.ld (k := 2) rfl rfl)) rfl rfl rfl ?_
      refine aq_wanted (j := 14) rfl ?_
      refine aq_p (ov_nilCheck rfl rfl) rfl rfl rfl ?_
      refine aq_wanted (j := 14) rfl ?_
      refine aq_p (ov_fieldAddr (k := 1) (r := 1) rfl rfl rfl rfl) rfl rfl rfl ?_
      refine aq_wanted (j := 14) rfl ?_
      refine aq_v (ov_load rfl rfl rfl (fun _ s => s.ld (k := 6) rfl rfl)) rfl rfl rfl ?_
      refine aq_wanted (j := 14) rfl ?_
      refine aq_p (ov_int rfl rfl rfl rfl) rfl rfl rfl ?_
      refine aq_p (ov_pick_t rfl rfl rfl) rfl rfl rfl ?_
      refine aq_nil ?_
      refine at_normal ?_
      refine hK4 _ _ _ ?_
      refine at_cond_true (congrArg (fun b => some (Value.bool b)) (show _ = true from decide_eq_true (by omega))) ?_
      refine at_seq_k (fun K5 hK5 => ?_)
      refine at_region ?_
      refine at_v (ov_move rfl rfl) rfl rfl rfl ?_
      refine at_v (ov_nilCheck rfl rfl) rfl rfl rfl ?_
      refine at_v (ov_fieldAddr (k := 0) (r := 0) rfl rfl rfl rfl) rfl rfl rfl ?_
      refine at_v (ov_load rfl rfl rfl (fun _ s => s.ld (k := 4) rfl rfl)) rfl rfl rfl ?_
      refine at_t (ot_call (ks := [0]) rfl rfl rfl Tryz.call56 rfl (T56 _ _ _) rfl) rfl rfl rfl ?_
      rintro v0 _ ⟨m0, hp0, rfl⟩
      obtain ⟨rfl, rfl⟩ := hp0
      simp only [List.cons_append, List.nil_append, splice, spliceL]
      refine at_nil ?_
      refine at_normal ?_
      refine hK5 _ _ _ ?_
      refine at_region ?_
      refine at_v (ov_load rfl rfl rfl (fun _ s => s.ld (k := 1) rfl rfl)) rfl rfl rfl ?_
      refine at_v ((ov_int rfl rfl rfl rfl).eq (congrArg (Value.int .i64) (inK_i64 (by omega) (by omega)))) rfl rfl rfl ?_
      refine at_t0 (ot_store (k := 1) rfl rfl rfl rfl rfl rfl rfl) rfl rfl ?_
      rintro _ _ ⟨rfl, rfl⟩
      simp only [setAt, splice, spliceL, Value.cells]
      refine at_nil ?_
      refine at_inb_normal ?_
      rw [show ((reapN idle now (cs.take k) : Nat) : Int) + 1 = (reapN idle now (cs.take (k + 1)) : Nat) by omega]
      refine at_fold (A := HeldA gh x.2.1.drain x.2.2) [4, 0] rfl (fun h s => ⟨cb, s⟩) ?_
      refine at_fold (A := star [cl g2 #[.int .i64 (reapN idle now (cs.take (k + 1)) : Nat)] 3, cl g1 #[.int .u64 now] 22, cl g0 #[ptrTo g] 25]) [1, 1, 1] rfl (fun h s => s) ?_
      refine at_rnormal (k := 2) rfl ?_
      simp only [setAt]
      refine ⟨_, .inl ⟨rfl, rfl⟩, ?_⟩
      exact fun _ s => s.finEq (ks := [2, 2, 1, 0]) (js := []) rfl rfl rfl
    | false =>
      rw [show reapU idle now x = x.2 from if_neg (by simp [hb])]
      rw [hb] at hstep
      simp only [Bool.false_eq_true, if_false, Nat.add_zero] at hstep
      rw [← hstep]
      have hb2 : ¬ (x.2.1.state = 1 ∧ x.2.2 ≤ now ∧ now - x.2.2 ≥ idle) := by simpa [reapB] using hb
      by_cases hi1 : x.2.1.state = 1
      · by_cases hb3 : x.2.2 ≤ now
        · have hb4 : ¬ now - x.2.2 ≥ idle := fun h => hb2 ⟨hi1, hb3, h⟩
          refine at_region ?_
          refine at_v (ov_assign rfl rfl) rfl rfl rfl ?_
          refine at_nil ?_
          refine at_normal ?_
          refine at_mid (k := 5) rfl (by assumption) ?_
          simp only [setAt]
          refine at_block ?_
          refine at_seq_k (fun K4 hK4 => ?_)
          refine at_draw _ [] 1000 [(2, 0), (2, 1), (2, 2), (1, 3), (0, 4), (2, 5), (2, 6), (2, 7), (2, 8), (2, 9), (1, 10), (1, 11), (2, 12), (2, 13), (2, 14), (1, 15), (2, 16), (2, 17), (2, 18), (1, 19), (2, 20), (1, 21), (2, 22), (2, 23), (1, 24), (2, 25), (2, 26)] (by kernel_rfl) (by kernel_rfl) (fun _ s => (s.pulls (ks := [0, 0, 0, 0, 0, 0, 0]) rfl).left) ?_
          refine aq_p (ov_move rfl rfl) rfl rfl rfl ?_
          refine aq_p (ov_nilCheck rfl rfl) rfl rfl rfl ?_
          refine aq_p (ov_fieldAddr (k := 0) (r := 0) rfl rfl rfl rfl) rfl rfl rfl ?_
          refine aq_v (ov_load rfl rfl rfl (fun _ s => s.ld (k := 3) rfl rfl)) rfl rfl rfl ?_
          refine aq_t (ot_call (ks := [4]) rfl rfl rfl Tryz.call38 rfl (T38 _ _ _) rfl) rfl rfl rfl ?_
          rintro v0 _ ⟨m0, hp0, rfl⟩
          obtain ⟨rfl, rfl⟩ := hp0
          simp only [List.cons_append, List.nil_append, splice, spliceL]
          refine ⟨fun _ s => (s.pulls (ks := [1, 1, 1, 1, 0, 0, 0]) rfl).left, ?_⟩
          refine aq_p (ov_int rfl rfl rfl rfl) rfl rfl rfl ?_
          refine aq_p (ov_move rfl rfl) rfl rfl rfl ?_
          refine at_reval 18 (.bool true) rfl (congrArg Value.bool (decide_eq_true (by omega))) ?_
          refine aq_wanted (j := 6) rfl ?_
          refine aq_p (ov_move rfl rfl) rfl rfl rfl ?_
          refine aq_wanted (j := 6) rfl ?_
          refine aq_p (ov_nilCheck rfl rfl) rfl rfl rfl ?_
          refine aq_wanted (j := 6) rfl ?_
          refine aq_p (ov_fieldAddr (k := 1) (r := 1) rfl rfl rfl rfl) rfl rfl rfl ?_
          refine aq_wanted (j := 6) rfl ?_
          refine aq_v (ov_load rfl rfl rfl (fun _ s => s.ld (k := 3) rfl rfl)) rfl rfl rfl ?_
          refine aq_wanted (j := 6) rfl ?_
          refine aq_v (ov_load rfl rfl rfl (fun _ s => s.ld (k := 1) rfl rfl)) rfl rfl rfl ?_
          refine aq_wanted (j := 6) rfl ?_
          refine aq_p (ov_int rfl rfl rfl rfl) rfl rfl rfl ?_
          refine aq_p (ov_pick_t rfl rfl rfl) rfl rfl rfl ?_
          refine aq_p (ov_move rfl rfl) rfl rfl rfl ?_
          refine at_reval 26 (.bool true) rfl (congrArg Value.bool (decide_eq_true (by omega))) ?_
          refine aq_wanted (j := 14) rfl ?_
          refine aq_v (ov_load rfl rfl rfl (fun _ s => s.ld (k := 1) rfl rfl)) rfl rfl rfl ?_
          refine aq_wanted (j := 14) rfl ?_
          refine aq_p (ov_move rfl rfl) rfl rfl rfl ?_
          refine aq_wanted (j := 14) rfl ?_
          refine aq_p (ov_nilCheck rfl rfl) rfl rfl rfl ?_
          refine aq_wanted (j := 14) rfl ?_
          refine aq_p (ov_fieldAddr (k := 1) (r := 1) rfl rfl rfl rfl) rfl rfl rfl ?_
          refine aq_wanted (j := 14) rfl ?_
          refine aq_v (ov_load rfl rfl rfl (fun _ s => s.ld (k := 3) rfl rfl)) rfl rfl rfl ?_
          refine aq_wanted (j := 14) rfl ?_
          refine aq_p ((ov_int rfl rfl rfl rfl).eq (congrArg (Value.int .u64) (inK_u64 (by omega) (by omega)))) rfl rfl rfl ?_
          refine aq_wanted (j := 14) rfl ?_
          refine aq_v (ov_load rfl rfl rfl (fun _ s => s.ld (k := 2) rfl rfl)) rfl rfl rfl ?_
          refine aq_wanted (j := 14) rfl ?_
          refine aq_p (ov_nilCheck rfl rfl) rfl rfl rfl ?_
          refine aq_wanted (j := 14) rfl ?_
          refine aq_p (ov_fieldAddr (k := 1) (r := 1) rfl rfl rfl rfl) rfl rfl rfl ?_
          refine aq_wanted (j := 14) rfl ?_
          refine aq_v (ov_load rfl rfl rfl (fun _ s => s.ld (k := 6) rfl rfl)) rfl rfl rfl ?_
          refine aq_wanted (j := 14) rfl ?_
          refine aq_p (ov_int rfl rfl rfl rfl) rfl rfl rfl ?_
          refine aq_p (ov_pick_t rfl rfl rfl) rfl rfl rfl ?_
          refine aq_nil ?_
          refine at_normal ?_
          refine hK4 _ _ _ ?_
          refine at_cond_false (congrArg (fun b => some (Value.bool b)) (show _ = false from decide_eq_false (by omega))) ?_
          refine at_skip ?_
          refine at_inb_normal ?_
          refine at_fold (A := HeldA gh x.2.1 x.2.2) [4, 0] rfl (fun h s => ⟨cb, s⟩) ?_
          refine at_fold (A := star [cl g2 #[.int .i64 (reapN idle now (cs.take (k + 1)) : Nat)] 3, cl g1 #[.int .u64 now] 22, cl g0 #[ptrTo g] 25]) [1, 1, 1] rfl (fun h s => s) ?_
          refine at_rnormal (k := 2) rfl ?_
          simp only [setAt]
          refine ⟨_, .inl ⟨rfl, rfl⟩, ?_⟩
          exact fun _ s => s.finEq (ks := [2, 2, 1, 0]) (js := []) rfl rfl rfl
        · refine at_region ?_
          refine at_v (ov_assign rfl rfl) rfl rfl rfl ?_
          refine at_nil ?_
          refine at_normal ?_
          refine at_mid (k := 5) rfl (by assumption) ?_
          simp only [setAt]
          refine at_block ?_
          refine at_seq_k (fun K4 hK4 => ?_)
          refine at_draw _ [] 1000 [(2, 0), (2, 1), (2, 2), (1, 3), (0, 4), (2, 5), (2, 6), (2, 7), (2, 8), (2, 9), (1, 10), (1, 11), (2, 12), (2, 13), (2, 14), (1, 15), (2, 16), (2, 17), (2, 18), (1, 19), (2, 20), (1, 21), (2, 22), (2, 23), (1, 24), (2, 25), (2, 26)] (by kernel_rfl) (by kernel_rfl) (fun _ s => (s.pulls (ks := [0, 0, 0, 0, 0, 0, 0]) rfl).left) ?_
          refine aq_p (ov_move rfl rfl) rfl rfl rfl ?_
          refine aq_p (ov_nilCheck rfl rfl) rfl rfl rfl ?_
          refine aq_p (ov_fieldAddr (k := 0) (r := 0) rfl rfl rfl rfl) rfl rfl rfl ?_
          refine aq_v (ov_load rfl rfl rfl (fun _ s => s.ld (k := 3) rfl rfl)) rfl rfl rfl ?_
          refine aq_t (ot_call (ks := [4]) rfl rfl rfl Tryz.call38 rfl (T38 _ _ _) rfl) rfl rfl rfl ?_
          rintro v0 _ ⟨m0, hp0, rfl⟩
          obtain ⟨rfl, rfl⟩ := hp0
          simp only [List.cons_append, List.nil_append, splice, spliceL]
          refine ⟨fun _ s => (s.pulls (ks := [1, 1, 1, 1, 0, 0, 0]) rfl).left, ?_⟩
          refine aq_p (ov_int rfl rfl rfl rfl) rfl rfl rfl ?_
          refine aq_p (ov_move rfl rfl) rfl rfl rfl ?_
          refine at_reval 18 (.bool true) rfl (congrArg Value.bool (decide_eq_true (by omega))) ?_
          refine aq_wanted (j := 6) rfl ?_
          refine aq_p (ov_move rfl rfl) rfl rfl rfl ?_
          refine aq_wanted (j := 6) rfl ?_
          refine aq_p (ov_nilCheck rfl rfl) rfl rfl rfl ?_
          refine aq_wanted (j := 6) rfl ?_
          refine aq_p (ov_fieldAddr (k := 1) (r := 1) rfl rfl rfl rfl) rfl rfl rfl ?_
          refine aq_wanted (j := 6) rfl ?_
          refine aq_v (ov_load rfl rfl rfl (fun _ s => s.ld (k := 3) rfl rfl)) rfl rfl rfl ?_
          refine aq_wanted (j := 6) rfl ?_
          refine aq_v (ov_load rfl rfl rfl (fun _ s => s.ld (k := 1) rfl rfl)) rfl rfl rfl ?_
          refine aq_wanted (j := 6) rfl ?_
          refine aq_p (ov_int rfl rfl rfl rfl) rfl rfl rfl ?_
          refine aq_p (ov_pick_t rfl rfl rfl) rfl rfl rfl ?_
          refine aq_p (ov_move rfl rfl) rfl rfl rfl ?_
          refine at_reval 26 (.bool false) rfl (congrArg Value.bool (decide_eq_false (by omega))) ?_
          refine aq_unwanted (j := 14) rfl rfl rfl rfl rfl ?_
          refine aq_unwanted (j := 14) rfl rfl rfl rfl rfl ?_
          refine aq_unwanted (j := 14) rfl rfl rfl rfl rfl ?_
          refine aq_unwanted (j := 14) rfl rfl rfl rfl rfl ?_
          refine aq_unwanted (j := 14) rfl rfl rfl rfl rfl ?_
          refine aq_unwanted (j := 14) rfl rfl rfl rfl rfl ?_
          refine aq_unwanted (j := 14) rfl rfl rfl rfl rfl ?_
          refine aq_unwanted (j := 14) rfl rfl rfl rfl rfl ?_
          refine aq_unwanted (j := 14) rfl rfl rfl rfl rfl ?_
          refine aq_unwanted (j := 14) rfl rfl rfl rfl rfl ?_
          refine aq_unwanted (j := 14) rfl rfl rfl rfl rfl ?_
          refine aq_p (ov_pick_f rfl rfl rfl) rfl rfl rfl ?_
          refine aq_nil ?_
          refine at_normal ?_
          refine hK4 _ _ _ ?_
          refine at_cond_false rfl ?_
          refine at_skip ?_
          refine at_inb_normal ?_
          refine at_fold (A := HeldA gh x.2.1 x.2.2) [4, 0] rfl (fun h s => ⟨cb, s⟩) ?_
          refine at_fold (A := star [cl g2 #[.int .i64 (reapN idle now (cs.take (k + 1)) : Nat)] 3, cl g1 #[.int .u64 now] 22, cl g0 #[ptrTo g] 25]) [1, 1, 1] rfl (fun h s => s) ?_
          refine at_rnormal (k := 2) rfl ?_
          simp only [setAt]
          refine ⟨_, .inl ⟨rfl, rfl⟩, ?_⟩
          exact fun _ s => s.finEq (ks := [2, 2, 1, 0]) (js := []) rfl rfl rfl
      · refine at_region ?_
        refine at_v (ov_assign rfl rfl) rfl rfl rfl ?_
        refine at_nil ?_
        refine at_normal ?_
        refine at_mid (k := 5) rfl (by assumption) ?_
        simp only [setAt]
        refine at_block ?_
        refine at_seq_k (fun K4 hK4 => ?_)
        refine at_draw _ [] 1000 [(2, 0), (2, 1), (2, 2), (1, 3), (0, 4), (2, 5), (2, 6), (2, 7), (2, 8), (2, 9), (1, 10), (1, 11), (2, 12), (2, 13), (2, 14), (1, 15), (2, 16), (2, 17), (2, 18), (1, 19), (2, 20), (1, 21), (2, 22), (2, 23), (1, 24), (2, 25), (2, 26)] (by kernel_rfl) (by kernel_rfl) (fun _ s => (s.pulls (ks := [0, 0, 0, 0, 0, 0, 0]) rfl).left) ?_
        refine aq_p (ov_move rfl rfl) rfl rfl rfl ?_
        refine aq_p (ov_nilCheck rfl rfl) rfl rfl rfl ?_
        refine aq_p (ov_fieldAddr (k := 0) (r := 0) rfl rfl rfl rfl) rfl rfl rfl ?_
        refine aq_v (ov_load rfl rfl rfl (fun _ s => s.ld (k := 3) rfl rfl)) rfl rfl rfl ?_
        refine aq_t (ot_call (ks := [4]) rfl rfl rfl Tryz.call38 rfl (T38 _ _ _) rfl) rfl rfl rfl ?_
        rintro v0 _ ⟨m0, hp0, rfl⟩
        obtain ⟨rfl, rfl⟩ := hp0
        simp only [List.cons_append, List.nil_append, splice, spliceL]
        refine ⟨fun _ s => (s.pulls (ks := [1, 1, 1, 1, 0, 0, 0]) rfl).left, ?_⟩
        refine aq_p (ov_int rfl rfl rfl rfl) rfl rfl rfl ?_
        refine aq_p (ov_move rfl rfl) rfl rfl rfl ?_
        refine at_reval 18 (.bool false) rfl (congrArg Value.bool (decide_eq_false (by omega))) ?_
        refine aq_unwanted (j := 6) rfl rfl rfl rfl rfl ?_
        refine aq_unwanted (j := 6) rfl rfl rfl rfl rfl ?_
        refine aq_unwanted (j := 6) rfl rfl rfl rfl rfl ?_
        refine aq_unwanted (j := 6) rfl rfl rfl rfl rfl ?_
        refine aq_unwanted (j := 6) rfl rfl rfl rfl rfl ?_
        refine aq_unwanted (j := 6) rfl rfl rfl rfl rfl ?_
        refine aq_p (ov_pick_f rfl rfl rfl) rfl rfl rfl ?_
        refine aq_p (ov_move rfl rfl) rfl rfl rfl ?_
        refine aq_unwanted (j := 14) rfl rfl rfl rfl rfl ?_
        refine aq_unwanted (j := 14) rfl rfl rfl rfl rfl ?_
        refine aq_unwanted (j := 14) rfl rfl rfl rfl rfl ?_
        refine aq_unwanted (j := 14) rfl rfl rfl rfl rfl ?_
        refine aq_unwanted (j := 14) rfl rfl rfl rfl rfl ?_
        refine aq_unwanted (j := 14) rfl rfl rfl rfl rfl ?_
        refine aq_unwanted (j := 14) rfl rfl rfl rfl rfl ?_
        refine aq_unwanted (j := 14) rfl rfl rfl rfl rfl ?_
        refine aq_unwanted (j := 14) rfl rfl rfl rfl rfl ?_
        refine aq_unwanted (j := 14) rfl rfl rfl rfl rfl ?_
        refine aq_unwanted (j := 14) rfl rfl rfl rfl rfl ?_
        refine aq_p (ov_pick_f rfl rfl rfl) rfl rfl rfl ?_
        refine aq_nil ?_
        refine at_normal ?_
        refine hK4 _ _ _ ?_
        refine at_cond_false rfl ?_
        refine at_skip ?_
        refine at_inb_normal ?_
        refine at_fold (A := HeldA gh x.2.1 x.2.2) [4, 0] rfl (fun h s => ⟨cb, s⟩) ?_
        refine at_fold (A := star [cl g2 #[.int .i64 (reapN idle now (cs.take (k + 1)) : Nat)] 3, cl g1 #[.int .u64 now] 22, cl g0 #[ptrTo g] 25]) [1, 1, 1] rfl (fun h s => s) ?_
        refine at_rnormal (k := 2) rfl ?_
        simp only [setAt]
        refine ⟨_, .inl ⟨rfl, rfl⟩, ?_⟩
        exact fun _ s => s.finEq (ks := [2, 2, 1, 0]) (js := []) rfl rfl rfl
  · intro d
    refine at_pulls [1] rfl ?_
    refine at_open ?_
    simp only [List.take_length, List.cons_append, List.nil_append]
    refine at_inb_normal ?_
    refine at_normal ?_
    refine hK2 _ _ _ ?_
    refine at_seq_k (fun K4 hK4 => ?_)
    refine at_region ?_
    refine at_v (ov_load rfl rfl rfl (fun _ s => s.ld (k := 0) rfl rfl)) rfl rfl rfl ?_
    refine at_v (ov_assign rfl rfl) rfl rfl rfl ?_
    refine at_nil ?_
    refine at_normal ?_
    refine hK4 _ _ _ ?_
    refine at_ret ?_
    refine at_end ?_
    refine at_mark (k := 3) rfl ?_
    simp only [setAt]
    refine at_fin (rsV rfl (res_tmp rfl)) ?_
    refine ⟨_, ⟨rfl, rfl⟩, ?_⟩
    exact fun _ s => s.finEq (ks := [5]) (js := [0, 0, 0, 0, 0]) rfl rfl rfl
  · intro d k c hk
    refine at_pulls [1] rfl ?_
    exact at_and fun h => h.elim
