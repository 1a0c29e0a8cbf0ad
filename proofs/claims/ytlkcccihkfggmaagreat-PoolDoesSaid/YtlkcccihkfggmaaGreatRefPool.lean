/- The reference's pool, walked. -/
import Derived.Test.YtlkcccihkfggmaaGreatProg
import Derived.Test.YtlkcccihkfggmaaGreatRefWait
import Derived.Test.YtlkcccihkfggmaaGreatSLBr
import Derived.KernelRfl
set_option linter.unusedSimpArgs false
set_option linter.unusedVariables false
set_option maxRecDepth 100000
set_option maxHeartbeats 4000000
namespace Go.Proofs.YtlkcccihkfggmaaGreat
open Go Go.Proofs.YtlkcccihkfggmaaGreat.SL Go.RowKit
abbrev PX := Nat × XM
def heE (q : PX) : List Value := [.int .i64 q.2.1, ptrTo q.1, .int .u64 q.2.2.2]
def RL (ps : List PX) : HP := fun h => star (ps.map fun q => ConnR q.1 q.2.2.1) h
abbrev PRc (g wb : Nat) (most idle last : Int) (A : Option Addr) (n c : Nat) : HP := cl g #[.int .i64 most, .int .u64 idle, ptrTo wb, .slice A n c, .int .i64 last] 52
def RefA (g : Nat) (most idle wm last : Int) (L : List Int) (cs : List XM) : HP := fun h => ∃ wb, ∃ A, ∃ c, ∃ ps, ps.map (fun q : PX => q.2) = cs ∧
  star [cl g #[.int .i64 most, .int .u64 idle, ptrTo wb, .slice A ps.length c, .int .i64 last] 52, RowR wb wm L, Row heE 87 3 A c ps, RL ps] h
theorem at_ref {w0 : World} {n : Nat} {ds : List Deferred} {R : Act → World → Prop} {env : Env} {l : List HP} {g : Nat} {most idle wm last : Int} {L : List Int} {cs : List XM}
    (k : ∀ wb A c ps, ps.map (fun q : PX => q.2) = cs → At w0 n ds R env (cl g #[.int .i64 most, .int .u64 idle, ptrTo wb, .slice A ps.length c, .int .i64 last] 52 :: RowR wb wm L :: Row heE 87 3 A c ps :: RL ps :: l)) : At w0 n ds R env (RefA g most idle wm last L cs :: l) :=
  at_ex fun wb => at_ex fun A => at_ex fun c => at_ex fun ps => at_and fun h => at_open (k wb A c ps h)
theorem row_congr {α β : Type} {enc : α → List Value} {enc' : β → List Value} {e size : Nat} {A : Option Addr} {c : Nat} {xs : List α} {ys : List β} (h : xs.map enc = ys.map enc') : Row enc e size A c xs = Row enc' e size A c ys := by
  have hl : xs.length = ys.length := by simpa using congrArg List.length h
  have h1 : (∀ x ∈ xs, (enc x).length = size) ↔ (∀ y ∈ ys, (enc' y).length = size) := by
    have a : (∀ x ∈ xs, (enc x).length = size) ↔ ∀ v ∈ xs.map enc, v.length = size := by simp
    have b : (∀ y ∈ ys, (enc' y).length = size) ↔ ∀ v ∈ ys.map enc', v.length = size := by simp
    rw [a, b, h]
  have h2 : xs = [] ↔ ys = [] := by rw [← List.length_eq_zero_iff, ← List.length_eq_zero_iff, hl]
  funext hh
  unfold Row
  rw [h1, h2, hl, h]
section
variable {w0 : World} {n : Nat} {ds : List Deferred} {R : Act → World → Prop} {env : Env} {l : List HP}
theorem map_erase_perm {F : PX → HP} {ps : List PX} {k : Nat} {q : PX} (h : ps[k]? = some q) : (ps.map F).Perm (F q :: (ps.eraseIdx k).map F) := by
  induction ps generalizing k with
  | nil => simp at h
  | cons a r ih =>
    cases k with
    | zero => simp at h; subst h; exact List.Perm.refl _
    | succ k =>
      simp only [List.eraseIdx_cons_succ, List.map_cons]
      exact ((ih (by simpa using h)).cons _).trans (List.Perm.swap _ _ _)
theorem at_takeR {ps : List PX} {k : Nat} {q : PX} (hq : ps[k]? = some q) (h : At w0 n ds R env (ConnR q.1 q.2.2.1 :: RL (ps.eraseIdx k) :: l)) : At w0 n ds R env (RL ps :: l) := by
  refine at_open ?_
  intro a w f s
  refine h a w f ?_
  have s1 : Sat w0 w (ConnR q.1 q.2.2.1 :: ((ps.eraseIdx k).map fun q => ConnR q.1 q.2.2.1) ++ l) := s.perm ((map_erase_perm (F := fun q => ConnR q.1 q.2.2.1) hq).append_right l)
  have s2 : Sat w0 w (((ps.eraseIdx k).map fun q => ConnR q.1 q.2.2.1) ++ (ConnR q.1 q.2.2.1 :: l)) := s1.perm List.perm_middle.symm
  exact (Sat.shut s2 : Sat w0 w (RL (ps.eraseIdx k) :: ConnR q.1 q.2.2.1 :: l)).perm (List.Perm.swap _ _ _)
theorem sat_filter {w : World} {F : PX → HP} {p : PX → Bool} : ∀ {ps : List PX} {l : List HP}, Sat w0 w (ps.map F ++ l) → Sat w0 w ((ps.filter p).map F ++ l)
  | [], l, s => s
  | q :: r, l, s => by
    cases hp : p q with
    | true =>
      rw [List.filter_cons_of_pos (by simp [hp])]
      have s1 : Sat w0 w (r.map F ++ (F q :: l)) := s.perm List.perm_middle.symm
      have s2 := sat_filter (p := p) (ps := r) (l := F q :: l) s1
      exact s2.perm List.perm_middle
    | false =>
      rw [List.filter_cons_of_neg (by simp [hp])]
      exact sat_filter (p := p) (ps := r) (show Sat w0 w ([F q] ++ (r.map F ++ l)) from s).right
theorem at_filter {ps : List PX} (p : PX → Bool) (h : At w0 n ds R env (RL (ps.filter p) :: l)) : At w0 n ds R env (RL ps :: l) := by
  refine at_open ?_
  intro a w f s
  exact h a w f (Sat.shut (sat_filter (p := p) s))
end
theorem rl_give {ps : List PX} {k : Nat} {q : PX} (y : PX) (hq : ps[k]? = some q) (hg : y.1 = q.1) {h : PH} (s : star [ConnR q.1 y.2.2.1, RL (ps.eraseIdx k)] h) : RL (ps.set k y) h := by
  have hk := (List.getElem?_eq_some_iff.1 hq).1
  obtain ⟨a, b, ha, ⟨p, q', hp, _, _, l1, _⟩, d, la, lb⟩ := s
  have e : (ps.set k y).eraseIdx k = ps.eraseIdx k := by
    refine List.ext_getElem? fun j => ?_
    rw [List.getElem?_eraseIdx, List.getElem?_eraseIdx, List.getElem?_set, List.getElem?_set]
    split
    · rw [if_neg (by omega)]
    · rw [if_neg (by omega)]
  have s2 : star ((fun q : PX => ConnR q.1 q.2.2.1) y :: ((ps.set k y).eraseIdx k).map fun q => ConnR q.1 q.2.2.1) h := by
    rw [e]
    refine ⟨a, p, ?_, hp, d.le l1, la, l1.trans lb⟩
    simp only [hg]; exact ha
  exact star_perm (map_erase_perm (F := fun q => ConnR q.1 q.2.2.1) (by simp [hk])).symm s2
theorem setq_same {ps : List PX} {k : Nat} {q : PX} (h : ps[k]? = some q) : ps.set k q = ps := by
  refine List.ext_getElem? fun j => ?_
  rw [List.getElem?_set]
  split
  · subst_vars; split
    · rw [h]
    · exact (List.getElem?_eq_none (by omega)).symm
  · rfl
theorem rl_back {ps : List PX} {k : Nat} {q : PX} (hq : ps[k]? = some q) {h : PH} (s : star [ConnR q.1 q.2.2.1, RL (ps.eraseIdx k)] h) : RL ps h := by
  have := rl_give q hq rfl s
  rwa [setq_same hq] at this
def openP (q : PX) : Bool := !decide (q.2.2.1.state = 4)
theorem openP_map (ps : List PX) : (ps.filter openP).map (fun q : PX => q.2) = alive (ps.map fun q => q.2) := by
  unfold alive
  rw [List.filter_map]
  rfl
theorem T64 (w0 : World) {g : Nat} {most idle wm last : Int} {L : List Int} {cs : List XM} (h6 : cs.length ≤ 7) :
    Tri Tryz.prog w0 64 [ptrTo g] [RefA g most idle wm last L cs] fun v m => v = .tuple #[] ∧ m = [RefA g most idle wm last L (alive cs)] := by
  refine tri_of Tryz.func64 rfl rfl fun F => ?_
  simp only [Tryz.ntmps64, argEnv, List.cons_append, List.nil_append]
  refine at_ref fun wb A c ps hps => ?_
  have hlen : ps.length ≤ 7 := by rw [← hps, List.length_map] at h6; exact h6
  refine at_seq_k (fun K0 hK0 => ?_)
  refine at_region ?_
  refine at_t (ot_buildSlice (cs := []) rfl Tryz.underlying50 rfl rfl rfl rfl rfl rfl) rfl rfl rfl ?_
  rintro _ _ ⟨g0, rfl, rfl⟩
  refine at_v (ov_assign rfl rfl) rfl rfl rfl ?_
  refine at_nil ?_
  refine at_normal ?_
  refine hK0 _ _ _ ?_
  refine at_seq_k (fun K1 hK1 => ?_)
  refine at_seq_k (fun K2 hK2 => ?_)
  refine at_region ?_
  refine at_v (ov_assign rfl rfl) rfl rfl rfl ?_
  refine at_nil ?_
  refine at_normal ?_
  refine hK2 _ _ _ ?_
  refine at_block ?_
  refine at_rowOf heE 0 (size := 3) (c := 0) [] rfl (by simp) (Nat.le_refl _) (by decide) (by simp) (by simp) ?_
  simp only [setAt]
  refine at_loopE [5, 6, 7, 8, 9, 10, 11, 14, 15, 16, 17, 18, 19, 20, 21, 22, 23, 24, 25, 26, 27, 28, 29, 30, 31, 32, 33, 34, 35, 2, 12, 13, 3] (ι := Nat × Option Addr × Nat) (fun i => i.1 ≤ ps.length) (fun i => [(3, .int .i64 (i.1 : Nat)), (2, .slice i.2.1 ((ps.take i.1).filter openP).length i.2.2)]) (fun i l => setAt 0 (Row heE 87 3 i.2.1 i.2.2 ((ps.take i.1).filter openP)) l) (fun i => ps.length - i.1) (0, some ⟨g0, 0, none⟩, 0) (Nat.zero_le _) ⟨rfl, rfl, trivial⟩ (fun _ s => s) ?_
  rintro ⟨k, B, e⟩ hk
  simp only at hk
  simp only [setAt]
  refine at_seq_k (fun K3 hK3 => ?_)
  refine at_seq_k (fun K4 hK4 => ?_)
  refine at_region ?_
  refine at_v (ov_move rfl rfl) rfl rfl rfl ?_
  refine at_v (ov_move rfl rfl) rfl rfl rfl ?_
  refine at_v (ov_nilCheck rfl rfl) rfl rfl rfl ?_
  refine at_v (ov_fieldAddr (k := 3) (r := 3) rfl rfl rfl rfl) rfl rfl rfl ?_
  refine at_v (ov_load rfl rfl rfl (fun _ s => s.ld (k := 1) rfl rfl)) rfl rfl rfl ?_
  refine at_v (ov_len_slice rfl Tryz.underlying50 rfl) rfl rfl rfl ?_
  refine at_v (ov_int rfl rfl rfl rfl) rfl rfl rfl ?_
  refine at_nil ?_
  refine at_normal ?_
  refine hK4 _ _ _ ?_
  refine at_cond rfl (fun hc => ?_) (fun hc => ?_)
  · have hlt : k < ps.length := by simpa using hc
    obtain ⟨q, hq⟩ : ∃ q, ps[k]? = some q := ⟨_, List.getElem?_eq_getElem hlt⟩
    have htk : ps.take (k + 1) = ps.take k ++ [q] := by rw [List.take_add_one, hq]; rfl
    have hl0 : ((ps.take k).filter openP).length ≤ 7 := Nat.le_trans (List.length_filter_le _ _) (by rw [List.length_take]; omega)
    refine at_pulls [4] rfl ?_
    refine at_takeR hq ?_
    simp only [List.cons_append, List.nil_append]
    by_cases hi4 : q.2.2.1.state = 4
    · have hkept : (ps.take (k + 1)).filter openP = (ps.take k).filter openP := by rw [htk, List.filter_append]; simp [openP, hi4]
      refine at_skip ?_
      refine at_normal ?_
      refine hK3 _ _ _ ?_
      refine at_seq_k (fun K5 hK5 => ?_)
      refine at_block ?_
      refine at_seq_k (fun K6 hK6 => ?_)
      refine at_region ?_
      refine at_v (ov_move rfl rfl) rfl rfl rfl ?_
      refine at_v (ov_nilCheck rfl rfl) rfl rfl rfl ?_
      refine at_v (ov_fieldAddr (k := 3) (r := 3) rfl rfl rfl rfl) rfl rfl rfl ?_
      refine at_v (ov_load rfl rfl rfl (fun _ s => s.ld (k := 3) rfl rfl)) rfl rfl rfl ?_
      refine at_v (ov_move rfl rfl) rfl rfl rfl ?_
      refine at_v (ov_indexRd (fun _ s => s.rd (k := 5) rfl) rfl Tryz.underlying50 rfl rfl rfl hq) rfl rfl rfl ?_
      refine at_v (ov_fieldRd0 (k := 1) (fun _ s => s.rd (k := 5) rfl) rfl rfl hq rfl) rfl rfl rfl ?_
      refine at_v (ov_loadRd (fun _ s => s.rd (k := 5) rfl) rfl rfl rfl hq rfl) rfl rfl rfl ?_
      refine at_v (ov_nilCheck rfl rfl) rfl rfl rfl ?_
      refine at_v (ov_fieldAddr (k := 1) (r := 1) rfl rfl rfl rfl) rfl rfl rfl ?_
      refine at_v (ov_load rfl rfl rfl (fun _ s => s.ld (k := 0) rfl rfl)) rfl rfl rfl ?_
      refine at_v (ov_int rfl rfl rfl rfl) rfl rfl rfl ?_
      refine at_nil ?_
      refine at_normal ?_
      refine hK6 _ _ _ ?_
      refine at_cond_false (congrArg (fun b => some (Value.bool b)) (show _ = false from by first | assumption | (rw [Bool.not_eq_false']; exact decide_eq_true (by omega)))) ?_
      refine at_skip ?_
      refine at_inb_normal ?_
      refine at_normal ?_
      refine hK5 _ _ _ ?_
      refine at_region ?_
      refine at_v (ov_move rfl rfl) rfl rfl rfl ?_
      refine at_v ((ov_int rfl rfl rfl rfl).eq (congrArg (Value.int .i64) (inK_i64 (by omega) (by omega)))) rfl rfl rfl ?_
      refine at_v (ov_assign rfl rfl) rfl rfl rfl ?_
      refine at_nil ?_
      refine at_normal ?_
      refine at_fold (A := RL ps) [0, 0] rfl (fun h s => rl_back hq s) ?_
      refine at_roundF (k + 1, B, e) hlt (by simp only; omega) ⟨rfl, look_eq rfl (by simp only; rw [hkept]), trivial⟩ rfl ?_
      simp only
      rw [hkept]
      exact fun _ s => s.finEq (ks := [1, 1, 1, 1, 0]) (js := []) rfl rfl rfl
    · have hkept : (ps.take (k + 1)).filter openP = (ps.take k).filter openP ++ [q] := by rw [htk, List.filter_append]; simp [openP, hi4]
      refine at_skip ?_
      refine at_normal ?_
      refine hK3 _ _ _ ?_
      refine at_seq_k (fun K5 hK5 => ?_)
      refine at_block ?_
      refine at_seq_k (fun K6 hK6 => ?_)
      refine at_region ?_
      refine at_v (ov_move rfl rfl) rfl rfl rfl ?_
      refine at_v (ov_nilCheck rfl rfl) rfl rfl rfl ?_
      refine at_v (ov_fieldAddr (k := 3) (r := 3) rfl rfl rfl rfl) rfl rfl rfl ?_
      refine at_v (ov_load rfl rfl rfl (fun _ s => s.ld (k := 3) rfl rfl)) rfl rfl rfl ?_
      refine at_v (ov_move rfl rfl) rfl rfl rfl ?_
      refine at_v (ov_indexRd (fun _ s => s.rd (k := 5) rfl) rfl Tryz.underlying50 rfl rfl rfl hq) rfl rfl rfl ?_
      refine at_v (ov_fieldRd0 (k := 1) (fun _ s => s.rd (k := 5) rfl) rfl rfl hq rfl) rfl rfl rfl ?_
      refine at_v (ov_loadRd (fun _ s => s.rd (k := 5) rfl) rfl rfl rfl hq rfl) rfl rfl rfl ?_
      refine at_v (ov_nilCheck rfl rfl) rfl rfl rfl ?_
      refine at_v (ov_fieldAddr (k := 1) (r := 1) rfl rfl rfl rfl) rfl rfl rfl ?_
      refine at_v (ov_load rfl rfl rfl (fun _ s => s.ld (k := 0) rfl rfl)) rfl rfl rfl ?_
      refine at_v (ov_int rfl rfl rfl rfl) rfl rfl rfl ?_
      refine at_nil ?_
      refine at_normal ?_
      refine hK6 _ _ _ ?_
      refine at_cond_true (congrArg (fun b => some (Value.bool b)) (show _ = true from by first | assumption | (rw [Bool.not_eq_true']; exact decide_eq_false (by omega)))) ?_
      refine at_region ?_
      refine at_v (ov_move rfl rfl) rfl rfl rfl ?_
      refine at_v (ov_move rfl rfl) rfl rfl rfl ?_
      refine at_v (ov_nilCheck rfl rfl) rfl rfl rfl ?_
      refine at_v (ov_fieldAddr (k := 3) (r := 3) rfl rfl rfl rfl) rfl rfl rfl ?_
      refine at_v (ov_load rfl rfl rfl (fun _ s => s.ld (k := 3) rfl rfl)) rfl rfl rfl ?_
      refine at_v (ov_move rfl rfl) rfl rfl rfl ?_
      refine at_v (ov_indexRd (fun _ s => s.rd (k := 5) rfl) rfl Tryz.underlying50 rfl rfl rfl hq) rfl rfl rfl ?_
      refine at_v (ov_loadRdS (vs := [_, _, _]) (fun _ s => s.rd (k := 5) rfl) rfl rfl rfl hq rfl rfl) rfl rfl rfl ?_
      refine at_t (ot_buildSlice (cs := [_, _, _]) rfl Tryz.underlying50 rfl rfl rfl rfl rfl rfl) rfl rfl rfl ?_
      rintro _ _ ⟨g1, rfl, rfl⟩
      refine at_t (ot_append (k := 3) (size := 3) (bytes := 24) (ys := [q]) (fun _ s => s.rdPt (k := 0) rfl rfl (by simp [heE])) rfl Tryz.underlying50 (ti := Tryz.t87) rfl rfl rfl rfl rfl (by decide) rfl rfl rfl (by simp [heE, Value.oneCell']) (by simp; omega) (by decide)) rfl rfl rfl ?_
      rintro _ _ ⟨A0, c0, rfl, rfl⟩
      simp only [setAt]
      rw [← hkept]
      refine at_v (ov_assign rfl rfl) rfl rfl rfl ?_
      refine at_nil ?_
      refine at_inb_normal ?_
      refine at_normal ?_
      refine hK5 _ _ _ ?_
      refine at_region ?_
      refine at_v (ov_move rfl rfl) rfl rfl rfl ?_
      refine at_v ((ov_int rfl rfl rfl rfl).eq (congrArg (Value.int .i64) (inK_i64 (by omega) (by omega)))) rfl rfl rfl ?_
      refine at_v (ov_assign rfl rfl) rfl rfl rfl ?_
      refine at_nil ?_
      refine at_normal ?_
      refine at_fold (A := RL ps) [1, 1] rfl (fun h s => rl_back hq s) ?_
      refine at_roundF (k + 1, _, _) hlt (by simp only; omega) ⟨rfl, rfl, trivial⟩ rfl ?_
      exact fun _ s => s.finEq (ks := [2, 2, 2, 2, 0]) (js := [0]) rfl rfl rfl
  · have hk2 : k = ps.length := by
      have : ¬ k < ps.length := by simpa using hc
      omega
    subst hk2
    simp only [List.take_length]
    refine at_exit ?_
    refine at_then_exit ?_
    refine at_then_exit ?_
    refine at_exit_eq ?_
    refine at_normal ?_
    refine hK1 _ _ _ ?_
    refine at_region ?_
    refine at_v (ov_move rfl rfl) rfl rfl rfl ?_
    refine at_v (ov_move rfl rfl) rfl rfl rfl ?_
    refine at_v (ov_nilCheck rfl rfl) rfl rfl rfl ?_
    refine at_v (ov_fieldAddr (k := 3) (r := 3) rfl rfl rfl rfl) rfl rfl rfl ?_
    refine at_t0 (ot_store (k := 1) rfl rfl rfl rfl rfl rfl rfl) rfl rfl ?_
    rintro _ _ ⟨rfl, rfl⟩
    simp only [setAt, splice, spliceL, Value.cells]
    refine at_nil ?_
    refine at_end ?_
    refine at_pulls [4] rfl ?_
    refine at_filter openP ?_
    simp only [List.cons_append, List.nil_append]
    refine at_fold (A := RefA g most idle wm last L (alive cs)) [2, 2, 1, 0] rfl (fun h s => ⟨wb, B, e, ps.filter openP, by rw [openP_map, hps], s⟩) ?_
    refine at_fin (rs0 rfl) ?_
    refine ⟨_, ⟨rfl, rfl⟩, ?_⟩
    exact fun _ s => s.finEq (ks := [0]) (js := [0]) rfl rfl rfl
def findN (cs : List XM) (id : Int) : Int := match posOf cs id with | some k => (k : Int) | none => -1
theorem findN_step {cs : List XM} {id : Int} {k : Nat} (hno : ∀ x ∈ cs.take k, x.1 ≠ id) {x : XM} (hx : cs[k]? = some x) (e : x.1 = id) : findN cs id = k := by
  have : posOf cs id = some k := find_of (p := fun x : XM => x.1 == id) (by rw [List.any_eq_false]; intro y hy; simp [hno y hy]) hx (by simp [e])
  unfold findN; rw [this]
theorem findN_no {cs : List XM} {id : Int} (hno : ∀ x ∈ cs, x.1 ≠ id) : findN cs id = -1 := by
  have : posOf cs id = none := find_no (p := fun x : XM => x.1 == id) (by rw [List.any_eq_false]; intro y hy; simp [hno y hy])
  unfold findN; rw [this]
theorem T61 (w0 : World) {g : Nat} {most idle wm last : Int} {L : List Int} {cs : List XM} (id : Int) (h6 : cs.length ≤ 7) :
    Tri Tryz.prog w0 61 [ptrTo g, .int .i64 id] [RefA g most idle wm last L cs] fun v m => v = .int .i64 (findN cs id) ∧ m = [RefA g most idle wm last L cs] := by
  refine tri_of Tryz.func61 rfl rfl fun F => ?_
  simp only [Tryz.ntmps61, argEnv, List.cons_append, List.nil_append]
  refine at_ref fun wb A c ps hps => ?_
  have hlen : ps.length ≤ 7 := by rw [← hps, List.length_map] at h6; exact h6
  refine at_seq_k (fun K0 hK0 => ?_)
  refine at_region ?_
  refine at_v (ov_assign rfl rfl) rfl rfl rfl ?_
  refine at_nil ?_
  refine at_normal ?_
  refine hK0 _ _ _ ?_
  refine at_seq_k (fun K1 hK1 => ?_)
  refine at_seq_k (fun K2 hK2 => ?_)
  refine at_region ?_
  refine at_v (ov_assign rfl rfl) rfl rfl rfl ?_
  refine at_nil ?_
  refine at_normal ?_
  refine hK2 _ _ _ ?_
  refine at_block ?_
  refine at_loopE [6, 7, 8, 9, 10, 11, 12, 15, 16, 17, 18, 19, 20, 21, 22, 23, 24, 25, 4, 13, 14, 5] (fun k => k ≤ ps.length ∧ ∀ x ∈ cs.take k, x.1 ≠ id) (fun k => [(5, .int .i64 (k : Nat))]) (fun i l => l) (fun k => ps.length - k) 0 ⟨Nat.zero_le _, by simp⟩ ⟨rfl, trivial⟩ (fun _ s => s) ?_
  rintro k ⟨hk, hno⟩
  refine at_seq_k (fun K3 hK3 => ?_)
  refine at_seq_k (fun K4 hK4 => ?_)
  refine at_region ?_
  refine at_v (ov_move rfl rfl) rfl rfl rfl ?_
  refine at_v (ov_move rfl rfl) rfl rfl rfl ?_
  refine at_v (ov_nilCheck rfl rfl) rfl rfl rfl ?_
  refine at_v (ov_fieldAddr (k := 3) (r := 3) rfl rfl rfl rfl) rfl rfl rfl ?_
  refine at_v (ov_load rfl rfl rfl (fun _ s => s.ld (k := 0) rfl rfl)) rfl rfl rfl ?_
  refine at_v (ov_len_slice rfl Tryz.underlying50 rfl) rfl rfl rfl ?_
  refine at_v (ov_int rfl rfl rfl rfl) rfl rfl rfl ?_
  refine at_nil ?_
  refine at_normal ?_
  refine hK4 _ _ _ ?_
  refine at_cond rfl (fun hc => ?_) (fun hc => ?_)
  · have hlt : k < ps.length := by simpa using hc
    obtain ⟨q, hq⟩ : ∃ q, ps[k]? = some q := ⟨_, List.getElem?_eq_getElem hlt⟩
    have hx : cs[k]? = some q.2 := by rw [← hps, List.getElem?_map, hq]; rfl
    by_cases hi4 : q.2.1 = id
    · refine at_skip ?_
      refine at_normal ?_
      refine hK3 _ _ _ ?_
      refine at_seq_k (fun K5 hK5 => ?_)
      refine at_block ?_
      refine at_seq_k (fun K6 hK6 => ?_)
      refine at_region ?_
      refine at_v (ov_move rfl rfl) rfl rfl rfl ?_
      refine at_v (ov_nilCheck rfl rfl) rfl rfl rfl ?_
      refine at_v (ov_fieldAddr (k := 3) (r := 3) rfl rfl rfl rfl) rfl rfl rfl ?_
      refine at_v (ov_load rfl rfl rfl (fun _ s => s.ld (k := 0) rfl rfl)) rfl rfl rfl ?_
      refine at_v (ov_move rfl rfl) rfl rfl rfl ?_
      refine at_v (ov_indexRd (fun _ s => s.rd (k := 2) rfl) rfl Tryz.underlying50 rfl rfl rfl hq) rfl rfl rfl ?_
      refine at_v (ov_fieldRd0 (k := 0) (fun _ s => s.rd (k := 2) rfl) rfl rfl hq rfl) rfl rfl rfl ?_
      refine at_v (ov_loadRd0 (fun _ s => s.rd (k := 2) rfl) rfl rfl rfl hq rfl) rfl rfl rfl ?_
      refine at_v (ov_move rfl rfl) rfl rfl rfl ?_
      refine at_v (ov_int rfl rfl rfl rfl) rfl rfl rfl ?_
      refine at_nil ?_
      refine at_normal ?_
      refine hK6 _ _ _ ?_
      refine at_cond_true (congrArg (fun b => some (Value.bool b)) (show _ = true from decide_eq_true (by omega))) ?_
      refine at_seq_k (fun K7 hK7 => ?_)
      refine at_region ?_
      refine at_v (ov_move rfl rfl) rfl rfl rfl ?_
      refine at_v (ov_assign rfl rfl) rfl rfl rfl ?_
      refine at_nil ?_
      refine at_normal ?_
      refine hK7 _ _ _ ?_
      refine at_ret ?_
      refine at_inb_ret ?_
      refine at_then_ret ?_
      refine at_then_ret ?_
      refine at_inb_ret ?_
      refine at_then_ret ?_
      refine at_end ?_
      refine at_fold (A := RefA g most idle wm last L cs) [0, 0, 0, 0] rfl (fun h s => ⟨wb, A, c, ps, hps, s⟩) ?_
      refine at_fin (rsV rfl (res_tmp rfl)) ?_
      rw [findN_step hno hx hi4]
      refine ⟨_, ⟨rfl, rfl⟩, ?_⟩
      exact fun _ s => s.finEq (ks := [0]) (js := []) rfl rfl rfl
    · refine at_skip ?_
      refine at_normal ?_
      refine hK3 _ _ _ ?_
      refine at_seq_k (fun K5 hK5 => ?_)
      refine at_block ?_
      refine at_seq_k (fun K6 hK6 => ?_)
      refine at_region ?_
      refine at_v (ov_move rfl rfl) rfl rfl rfl ?_
      refine at_v (ov_nilCheck rfl rfl) rfl rfl rfl ?_
      refine at_v (ov_fieldAddr (k := 3) (r := 3) rfl rfl rfl rfl) rfl rfl rfl ?_
      refine at_v (ov_load rfl rfl rfl (fun _ s => s.ld (k := 0) rfl rfl)) rfl rfl rfl ?_
      refine at_v (ov_move rfl rfl) rfl rfl rfl ?_
      refine at_v (ov_indexRd (fun _ s => s.rd (k := 2) rfl) rfl Tryz.underlying50 rfl rfl rfl hq) rfl rfl rfl ?_
      refine at_v (ov_fieldRd0 (k := 0) (fun _ s => s.rd (k := 2) rfl) rfl rfl hq rfl) rfl rfl rfl ?_
      refine at_v (ov_loadRd0 (fun _ s => s.rd (k := 2) rfl) rfl rfl rfl hq rfl) rfl rfl rfl ?_
      refine at_v (ov_move rfl rfl) rfl rfl rfl ?_
      refine at_v (ov_int rfl rfl rfl rfl) rfl rfl rfl ?_
      refine at_nil ?_
      refine at_normal ?_
      refine hK6 _ _ _ ?_
      refine at_cond_false (congrArg (fun b => some (Value.bool b)) (show _ = false from decide_eq_false (by omega))) ?_
      refine at_skip ?_
      refine at_inb_normal ?_
      refine at_normal ?_
      refine hK5 _ _ _ ?_
      refine at_region ?_
      refine at_v (ov_move rfl rfl) rfl rfl rfl ?_
      refine at_v ((ov_int rfl rfl rfl rfl).eq (congrArg (Value.int .i64) (inK_i64 (by omega) (by omega)))) rfl rfl rfl ?_
      refine at_v (ov_assign rfl rfl) rfl rfl rfl ?_
      refine at_nil ?_
      refine at_normal ?_
      refine at_roundF (k + 1) ⟨hlt, fun x hx2 => ?_⟩ (by omega) ⟨rfl, trivial⟩ rfl ?_
      · rw [List.take_add_one, hx] at hx2
        rcases List.mem_append.1 hx2 with h | h
        · exact hno x h
        · simp at h; rw [h]; exact hi4
      · exact fun _ s => s.finEq (ks := [0, 0, 0, 0]) (js := []) rfl rfl rfl
  · have hk2 : k = ps.length := by
      have : ¬ k < ps.length := by simpa using hc
      omega
    subst hk2
    have hcl : cs.length = ps.length := by rw [← hps, List.length_map]
    rw [← hcl, List.take_length] at hno
    refine at_exit ?_
    refine at_then_exit ?_
    refine at_then_exit ?_
    refine at_exit_eq ?_
    refine at_normal ?_
    refine hK1 _ _ _ ?_
    refine at_seq_k (fun K5 hK5 => ?_)
    refine at_region ?_
    refine at_v (ov_assign rfl rfl) rfl rfl rfl ?_
    refine at_nil ?_
    refine at_normal ?_
    refine hK5 _ _ _ ?_
    refine at_ret ?_
    refine at_end ?_
    refine at_fold (A := RefA g most idle wm last L cs) [0, 0, 0, 0] rfl (fun h s => ⟨wb, A, c, ps, hps, s⟩) ?_
    refine at_fin (rsV rfl (res_tmp rfl)) ?_
    rw [findN_no hno]
    refine ⟨_, ⟨rfl, rfl⟩, ?_⟩
    exact fun _ s => s.finEq (ks := [0]) (js := []) rfl rfl rfl
/-- One that stands at a place is turned in place: the row tells what it told. -/
theorem ref_set {g wb k : Nat} {most idle wm last : Int} {L : List Int} {A : Option Addr} {c : Nat} {ps : List PX} {q : PX} (y : PX) (hq : ps[k]? = some q) (h1 : y.1 = q.1) (h2 : y.2.1 = q.2.1) (h3 : y.2.2.2 = q.2.2.2) : Row heE 87 3 A c ps = Row heE 87 3 A c (ps.set k y) :=
  row_congr (by
    refine List.ext_getElem? fun j => ?_
    rw [List.getElem?_map, List.getElem?_map, List.getElem?_set]
    split
    · subst_vars
      split
      · rw [hq]; simp [heE, h1, h2, h3]
      · rw [List.getElem?_eq_none (by omega)]
    · rfl)
def turnP (f : XM → CM × Int) (q : PX) : PX := (q.1, (q.2.1, f q.2))
def psK (f : XM → CM × Int) (ps : List PX) (k : Nat) : List PX := (ps.take k).map (turnP f) ++ ps.drop k
theorem psK_zero (f : XM → CM × Int) (ps : List PX) : psK f ps 0 = ps := by simp [psK]
theorem psK_all (f : XM → CM × Int) (ps : List PX) : (psK f ps ps.length).map (fun q : PX => q.2) = (ps.map fun q : PX => q.2).map fun x => (x.1, f x) := by
  simp [psK, List.map_map, Function.comp_def, turnP]
theorem psK_len (f : XM → CM × Int) (ps : List PX) (k : Nat) : (psK f ps k).length = ps.length := by
  simp [psK]; omega
theorem psK_get {f : XM → CM × Int} {ps : List PX} {k : Nat} {q : PX} (h : ps[k]? = some q) : (psK f ps k)[k]? = some q := by
  have hk := (List.getElem?_eq_some_iff.1 h).1
  unfold psK
  rw [List.getElem?_append_right (by simp; omega)]
  simp only [List.length_map, List.length_take, Nat.min_eq_left (Nat.le_of_lt hk), Nat.sub_self]
  rw [List.getElem?_drop]
  simpa using h
theorem psK_next {f : XM → CM × Int} {ps : List PX} {k : Nat} {q : PX} (h : ps[k]? = some q) : (psK f ps k).set k (turnP f q) = psK f ps (k + 1) := by
  obtain ⟨hk, hq⟩ := List.getElem?_eq_some_iff.1 h
  have e1 : (ps.drop k).set 0 (turnP f q) = turnP f q :: ps.drop (k + 1) := by rw [List.drop_eq_getElem_cons hk]; rfl
  unfold psK
  rw [List.set_append_right _ _ (by simp; omega), List.take_add_one, h]
  simp [Nat.min_eq_left (Nat.le_of_lt hk), e1]
theorem psK_same {f : XM → CM × Int} {ps : List PX} {k : Nat} {q : PX} (h : ps[k]? = some q) (hf : f q.2 = q.2.2) : psK f ps (k + 1) = psK f ps k := by
  rw [← psK_next h, show turnP f q = q by unfold turnP; rw [hf], setq_same (psK_get h)]
theorem psK_cwf {f : XM → CM × Int} {cs : List XM} {ps : List PX} (hps : ps.map (fun q : PX => q.2) = cs) {k : Nat} {q : PX} (hq : ps[k]? = some q) : q.2 ∈ cs := by
  rw [← hps]; exact List.mem_map.2 ⟨q, List.mem_of_getElem? hq, rfl⟩
theorem row_psK {f : XM → CM × Int} {A : Option Addr} {c : Nat} {ps : List PX} (hf : ∀ x, (f x).2 = x.2.2) : ∀ k, Row heE 87 3 A c (psK f ps k) = Row heE 87 3 A c ps := by
  intro k
  refine row_congr ?_
  unfold psK
  rw [List.map_append, List.map_map]
  conv => rhs; rw [← List.take_append_drop k ps, List.map_append]
  congr 1
  refine List.map_congr_left fun q _ => ?_
  simp [heE, turnP, hf]
theorem T35 (w0 : World) {g n : Nat} {p : PM} (e : Int) (hw : Wf n p) :
    Tri Tryz.prog w0 35 [ptrTo g, .int .u64 e] [RefA g p.most p.idle p.wm p.last p.L p.cs] fun v m => v = .tuple #[] ∧ m = [RefA g p.most p.idle p.wm p.last p.L (upd p.cs (drainU e))] := by
  obtain ⟨most, idle, wm, last, L, cs⟩ := p
  refine tri_of Tryz.func35 rfl rfl fun F => ?_
  simp only [Tryz.ntmps35, argEnv, List.cons_append, List.nil_append]
  refine at_ref fun wb A c ps hps => ?_
  have h6 := hw.h6
  simp only at h6
  have hlen : ps.length ≤ 6 := by rw [← hps, List.length_map] at h6; exact h6
  refine at_seq_k (fun K0 hK0 => ?_)
  refine at_seq_k (fun K1 hK1 => ?_)
  refine at_region ?_
  refine at_v (ov_assign rfl rfl) rfl rfl rfl ?_
  refine at_nil ?_
  refine at_normal ?_
  refine hK1 _ _ _ ?_
  refine at_block ?_
  refine at_loopE [5, 6, 7, 8, 9, 10, 11, 14, 15, 16, 17, 18, 19, 20, 21, 22, 23, 24, 25, 26, 27, 28, 29, 30, 31, 32, 33, 34, 35, 12, 13, 4] (fun k => k ≤ ps.length) (fun k => [(4, .int .i64 (k : Nat))]) (fun k l => setAt 3 (RL (psK (drainU e) ps k)) l) (fun k => ps.length - k) 0 (Nat.zero_le _) ⟨rfl, trivial⟩ (fun _ s => by rw [psK_zero]; exact s) ?_
  intro k hk
  simp only [setAt]
  refine at_seq_k (fun K2 hK2 => ?_)
  refine at_seq_k (fun K3 hK3 => ?_)
  refine at_region ?_
  refine at_v (ov_move rfl rfl) rfl rfl rfl ?_
  refine at_v (ov_move rfl rfl) rfl rfl rfl ?_
  refine at_v (ov_nilCheck rfl rfl) rfl rfl rfl ?_
  refine at_v (ov_fieldAddr (k := 3) (r := 3) rfl rfl rfl rfl) rfl rfl rfl ?_
  refine at_v (ov_load rfl rfl rfl (fun _ s => s.ld (k := 0) rfl rfl)) rfl rfl rfl ?_
  refine at_v (ov_len_slice rfl Tryz.underlying50 rfl) rfl rfl rfl ?_
  refine at_v (ov_int rfl rfl rfl rfl) rfl rfl rfl ?_
  refine at_nil ?_
  refine at_normal ?_
  refine hK3 _ _ _ ?_
  refine at_cond rfl (fun hc => ?_) (fun hc => ?_)
  · have hlt : k < ps.length := by simpa using hc
    obtain ⟨q, hq⟩ : ∃ q, ps[k]? = some q := ⟨_, List.getElem?_eq_getElem hlt⟩
    have hcw := hw.con q.2 (psK_cwf (f := drainU e) hps hq)
    refine at_pulls [3] rfl ?_
    refine at_takeR (psK_get hq) ?_
    simp only [List.cons_append, List.nil_append]
    by_cases hi4 : q.2.2.1.e = e
    · have hsame : drainU e q.2 = q.2.2 := if_neg (by simp [hi4])
      refine at_skip ?_
      refine at_normal ?_
      refine hK2 _ _ _ ?_
      refine at_seq_k (fun K4 hK4 => ?_)
      refine at_block ?_
      refine at_seq_k (fun K5 hK5 => ?_)
      refine at_region ?_
      refine at_v (ov_move rfl rfl) rfl rfl rfl ?_
      refine at_v (ov_nilCheck rfl rfl) rfl rfl rfl ?_
      refine at_v (ov_fieldAddr (k := 3) (r := 3) rfl rfl rfl rfl) rfl rfl rfl ?_
      refine at_v (ov_load rfl rfl rfl (fun _ s => s.ld (k := 2) rfl rfl)) rfl rfl rfl ?_
      refine at_v (ov_move rfl rfl) rfl rfl rfl ?_
      refine at_v (ov_indexRd (fun _ s => s.rd (k := 4) rfl) rfl Tryz.underlying50 rfl rfl rfl hq) rfl rfl rfl ?_
      refine at_v (ov_fieldRd0 (k := 1) (fun _ s => s.rd (k := 4) rfl) rfl rfl hq rfl) rfl rfl rfl ?_
      refine at_v (ov_loadRd (fun _ s => s.rd (k := 4) rfl) rfl rfl rfl hq rfl) rfl rfl rfl ?_
      refine at_v (ov_nilCheck rfl rfl) rfl rfl rfl ?_
      refine at_v (ov_fieldAddr (k := 0) (r := 0) rfl rfl rfl rfl) rfl rfl rfl ?_
      refine at_v (ov_load rfl rfl rfl (fun _ s => s.ld (k := 0) rfl rfl)) rfl rfl rfl ?_
      refine at_v (ov_move rfl rfl) rfl rfl rfl ?_
      refine at_v (ov_int rfl rfl rfl rfl) rfl rfl rfl ?_
      refine at_nil ?_
      refine at_normal ?_
      refine hK5 _ _ _ ?_
      refine at_cond_false (congrArg (fun b => some (Value.bool b)) (show _ = false from by first | assumption | (rw [Bool.not_eq_false']; exact decide_eq_true (by omega)))) ?_
      refine at_skip ?_
      refine at_inb_normal ?_
      refine at_normal ?_
      refine hK4 _ _ _ ?_
      refine at_region ?_
      refine at_v (ov_move rfl rfl) rfl rfl rfl ?_
      refine at_v ((ov_int rfl rfl rfl rfl).eq (congrArg (Value.int .i64) (inK_i64 (by omega) (by omega)))) rfl rfl rfl ?_
      refine at_v (ov_assign rfl rfl) rfl rfl rfl ?_
      refine at_nil ?_
      refine at_normal ?_
      refine at_fold (A := RL (psK (drainU e) ps k)) [0, 0] rfl (fun h s => rl_back (psK_get hq) s) ?_
      refine at_roundF (k + 1) hlt (by omega) ⟨rfl, trivial⟩ rfl ?_
      rw [psK_same hq hsame]
      exact fun _ s => s.finEq (ks := [1, 1, 1, 0]) (js := []) rfl rfl rfl
    · have hd : turnP (drainU e) q = (q.1, (q.2.1, q.2.2.1.drain, q.2.2.2)) := by unfold turnP; rw [show drainU e q.2 = (q.2.2.1.drain, q.2.2.2) from if_pos hi4]
      refine at_skip ?_
      refine at_normal ?_
      refine hK2 _ _ _ ?_
      refine at_seq_k (fun K4 hK4 => ?_)
      refine at_block ?_
      refine at_seq_k (fun K5 hK5 => ?_)
      refine at_region ?_
      refine at_v (ov_move rfl rfl) rfl rfl rfl ?_
      refine at_v (ov_nilCheck rfl rfl) rfl rfl rfl ?_
      refine at_v (ov_fieldAddr (k := 3) (r := 3) rfl rfl rfl rfl) rfl rfl rfl ?_
      refine at_v (ov_load rfl rfl rfl (fun _ s => s.ld (k := 2) rfl rfl)) rfl rfl rfl ?_
      refine at_v (ov_move rfl rfl) rfl rfl rfl ?_
      refine at_v (ov_indexRd (fun _ s => s.rd (k := 4) rfl) rfl Tryz.underlying50 rfl rfl rfl hq) rfl rfl rfl ?_
      refine at_v (ov_fieldRd0 (k := 1) (fun _ s => s.rd (k := 4) rfl) rfl rfl hq rfl) rfl rfl rfl ?_
      refine at_v (ov_loadRd (fun _ s => s.rd (k := 4) rfl) rfl rfl rfl hq rfl) rfl rfl rfl ?_
      refine at_v (ov_nilCheck rfl rfl) rfl rfl rfl ?_
      refine at_v (ov_fieldAddr (k := 0) (r := 0) rfl rfl rfl rfl) rfl rfl rfl ?_
      refine at_v (ov_load rfl rfl rfl (fun _ s => s.ld (k := 0) rfl rfl)) rfl rfl rfl ?_
      refine at_v (ov_move rfl rfl) rfl rfl rfl ?_
      refine at_v (ov_int rfl rfl rfl rfl) rfl rfl rfl ?_
      refine at_nil ?_
      refine at_normal ?_
      refine hK5 _ _ _ ?_
      refine at_cond_true (congrArg (fun b => some (Value.bool b)) (show _ = true from by first | assumption | (rw [Bool.not_eq_true']; exact decide_eq_false (by omega)))) ?_
      refine at_region ?_
      refine at_v (ov_move rfl rfl) rfl rfl rfl ?_
      refine at_v (ov_nilCheck rfl rfl) rfl rfl rfl ?_
      refine at_v (ov_fieldAddr (k := 3) (r := 3) rfl rfl rfl rfl) rfl rfl rfl ?_
      refine at_v (ov_load rfl rfl rfl (fun _ s => s.ld (k := 2) rfl rfl)) rfl rfl rfl ?_
      refine at_v (ov_move rfl rfl) rfl rfl rfl ?_
      refine at_v (ov_indexRd (fun _ s => s.rd (k := 4) rfl) rfl Tryz.underlying50 rfl rfl rfl hq) rfl rfl rfl ?_
      refine at_v (ov_fieldRd0 (k := 1) (fun _ s => s.rd (k := 4) rfl) rfl rfl hq rfl) rfl rfl rfl ?_
      refine at_v (ov_loadRd (fun _ s => s.rd (k := 4) rfl) rfl rfl rfl hq rfl) rfl rfl rfl ?_
      refine at_t (ot_call (ks := [0]) rfl rfl rfl Tryz.call68 rfl (T68 _ _ _ (by first | assumption | rfl | omega | decide | (simp; done) | (simp at *; omega))) rfl) rfl rfl rfl ?_
      rintro v0 _ ⟨m0, hp0, rfl⟩
      obtain ⟨rfl, rfl⟩ := hp0
      simp only [List.cons_append, List.nil_append, splice, spliceL]
      refine at_nil ?_
      refine at_inb_normal ?_
      refine at_normal ?_
      refine hK4 _ _ _ ?_
      refine at_region ?_
      refine at_v (ov_move rfl rfl) rfl rfl rfl ?_
      refine at_v ((ov_int rfl rfl rfl rfl).eq (congrArg (Value.int .i64) (inK_i64 (by omega) (by omega)))) rfl rfl rfl ?_
      refine at_v (ov_assign rfl rfl) rfl rfl rfl ?_
      refine at_nil ?_
      refine at_normal ?_
      refine at_fold (A := RL ((psK (drainU e) ps k).set k (q.1, (q.2.1, q.2.2.1.drain, q.2.2.2)))) [0, 0] rfl (fun h s => rl_give (q.1, (q.2.1, q.2.2.1.drain, q.2.2.2)) (psK_get hq) rfl s) ?_
      refine at_roundF (k + 1) hlt (by omega) ⟨rfl, trivial⟩ rfl ?_
      rw [← psK_next hq, hd]
      exact fun _ s => s.finEq (ks := [1, 1, 1, 0]) (js := []) rfl rfl rfl
  · have hk2 : k = ps.length := by
      have : ¬ k < ps.length := by simpa using hc
      omega
    subst hk2
    rw [← row_psK (f := drainU e) (A := A) (c := c) (ps := ps) (fun x => by unfold drainU; split <;> rfl) ps.length]
    refine at_exit ?_
    refine at_then_exit ?_
    refine at_then_exit ?_
    refine at_exit_eq ?_
    refine at_normal ?_
    refine hK0 _ _ _ ?_
    refine at_region ?_
    refine at_v (ov_move rfl rfl) rfl rfl rfl ?_
    refine at_fold (A := RefA g most idle wm last L (cs.map fun x => (x.1, drainU e x))) [0, 0, 0, 0] rfl (fun h s => ⟨wb, A, c, psK (drainU e) ps ps.length, by rw [psK_all, hps], by rw [psK_len]; exact s⟩) ?_
    have hl2 : (cs.map fun x : XM => (x.1, drainU e x)).length ≤ 7 := by rw [List.length_map]; omega
    refine at_t (ot_call (ks := [0]) rfl rfl rfl Tryz.call64 rfl (T64 _ (by first | assumption | rfl | omega | decide | (simp; done) | (simp at *; omega))) rfl) rfl rfl rfl ?_
    rintro v0 _ ⟨m0, hp0, rfl⟩
    obtain ⟨rfl, rfl⟩ := hp0
    simp only [List.cons_append, List.nil_append, splice, spliceL]
    refine at_nil ?_
    refine at_end ?_
    refine at_fin (rs0 rfl) ?_
    refine ⟨_, ⟨rfl, rfl⟩, ?_⟩
    unfold upd
    exact fun _ s => s.finEq (ks := [0]) (js := []) rfl rfl rfl
theorem T36 (w0 : World) {g n : Nat} {p : PM} (now : Int) (hw : Wf n p) (hnow : U64 now) :
    Tri Tryz.prog w0 36 [ptrTo g, .int .u64 now] [RefA g p.most p.idle p.wm p.last p.L p.cs] fun v m => v = .int .i64 (reapN p.idle now p.cs : Nat) ∧ m = [RefA g p.most p.idle p.wm p.last p.L (upd p.cs (reapU p.idle now))] := by
  obtain ⟨most, idle, wm, last, L, cs⟩ := p
  refine tri_of Tryz.func36 rfl rfl fun F => ?_
  simp only [Tryz.ntmps36, argEnv, List.cons_append, List.nil_append]
  refine at_ref fun wb A c ps hps => ?_
  have h6 := hw.h6
  simp only at h6
  have hlen : ps.length ≤ 6 := by rw [← hps, List.length_map] at h6; exact h6
  refine at_seq_k (fun K0 hK0 => ?_)
  refine at_region ?_
  refine at_v (ov_assign rfl rfl) rfl rfl rfl ?_
  refine at_nil ?_
  refine at_normal ?_
  refine hK0 _ _ _ ?_
  refine at_seq_k (fun K1 hK1 => ?_)
  refine at_region ?_
  refine at_v (ov_assign rfl rfl) rfl rfl rfl ?_
  refine at_nil ?_
  refine at_normal ?_
  refine hK1 _ _ _ ?_
  refine at_seq_k (fun K2 hK2 => ?_)
  refine at_seq_k (fun K3 hK3 => ?_)
  refine at_region ?_
  refine at_v (ov_assign rfl rfl) rfl rfl rfl ?_
  refine at_nil ?_
  refine at_normal ?_
  refine hK3 _ _ _ ?_
  refine at_block ?_
  refine at_loopE [8, 9, 10, 11, 12, 13, 14, 17, 18, 19, 20, 21, 22, 23, 7, 24, 25, 26, 27, 28, 29, 30, 31, 32, 33, 34, 35, 36, 37, 38, 39, 40, 41, 42, 43, 44, 45, 46, 47, 48, 49, 50, 51, 5, 15, 16, 6] (fun k => k ≤ ps.length) (fun k => [(6, .int .i64 (k : Nat)), (5, .int .i64 (reapN idle now (cs.take k) : Nat))]) (fun k l => setAt 3 (RL (psK (reapU idle now) ps k)) l) (fun k => ps.length - k) 0 (Nat.zero_le _) ⟨rfl, rfl, trivial⟩ (fun _ s => by rw [psK_zero]; exact s) ?_
  intro k hk
  simp only [setAt]
  refine at_seq_k (fun K4 hK4 => ?_)
  refine at_seq_k (fun K5 hK5 => ?_)
  refine at_region ?_
  refine at_v (ov_move rfl rfl) rfl rfl rfl ?_
  refine at_v (ov_move rfl rfl) rfl rfl rfl ?_
  refine at_v (ov_nilCheck rfl rfl) rfl rfl rfl ?_
  refine at_v (ov_fieldAddr (k := 3) (r := 3) rfl rfl rfl rfl) rfl rfl rfl ?_
  refine at_v (ov_load rfl rfl rfl (fun _ s => s.ld (k := 0) rfl rfl)) rfl rfl rfl ?_
  refine at_v (ov_len_slice rfl Tryz.underlying50 rfl) rfl rfl rfl ?_
  refine at_v (ov_int rfl rfl rfl rfl) rfl rfl rfl ?_
  refine at_nil ?_
  refine at_normal ?_
  refine hK5 _ _ _ ?_
  refine at_cond rfl (fun hc => ?_) (fun hc => ?_)
  · have hlt : k < ps.length := by simpa using hc
    obtain ⟨q, hq⟩ : ∃ q, ps[k]? = some q := ⟨_, List.getElem?_eq_getElem hlt⟩
    have hx : cs[k]? = some q.2 := by rw [← hps, List.getElem?_map, hq]; rfl
    have hcw := hw.con q.2 (psK_cwf (f := reapU idle now) hps hq)
    have hsi := hw.since q.2 (psK_cwf (f := reapU idle now) hps hq)
    have hstep := reapN_step (idle := idle) (now := now) hx
    have hn6 : reapN idle now (cs.take k) ≤ 6 := by
      have := List.countP_le_length (p := reapB idle now) (l := cs.take k)
      simp only [reapN]; simp at this; omega
    refine at_pulls [3] rfl ?_
    refine at_takeR (psK_get hq) ?_
    simp only [List.cons_append, List.nil_append]
    cases hb : reapB idle now q.2 with
    | true =>
      have hb2 : q.2.2.1.state = 1 ∧ q.2.2.2 ≤ now ∧ now - q.2.2.2 ≥ idle := by simpa [reapB] using hb
      obtain ⟨hi2, hi3, hi4⟩ := hb2
      rw [if_pos hb] at hstep
      have hd : turnP (reapU idle now) q = (q.1, (q.2.1, q.2.2.1.drain, q.2.2.2)) := by unfold turnP; rw [show reapU idle now q.2 = (q.2.2.1.drain, q.2.2.2) from if_pos hb]
      refine at_skip ?_
      refine at_normal ?_
      refine hK4 _ _ _ ?_
      refine at_seq_k (fun K6 hK6 => ?_)
      refine at_block ?_
      refine at_seq_k (fun K7 hK7 => ?_)
      refine at_region ?_
      refine at_v (ov_move rfl rfl) rfl rfl rfl ?_
      refine at_v (ov_nilCheck rfl rfl) rfl rfl rfl ?_
      refine at_v (ov_fieldAddr (k := 3) (r := 3) rfl rfl rfl rfl) rfl rfl rfl ?_
      refine at_v (ov_load rfl rfl rfl (fun _ s => s.ld (k := 2) rfl rfl)) rfl rfl rfl ?_
      refine at_v (ov_move rfl rfl) rfl rfl rfl ?_
      refine at_v (ov_indexRd (fun _ s => s.rd (k := 4) rfl) rfl Tryz.underlying50 rfl rfl rfl hq) rfl rfl rfl ?_
      refine at_v (ov_loadRdS (vs := [_, _, _]) (fun _ s => s.rd (k := 4) rfl) rfl rfl rfl hq rfl rfl) rfl rfl rfl ?_
      refine at_t (ot_allocA rfl Tryz.zeroValue87) rfl rfl rfl ?_
      rintro _ _ ⟨g0, rfl, rfl⟩
      refine at_t0 (ot_store (k := 0) rfl rfl rfl rfl rfl rfl rfl) rfl rfl ?_
      rintro _ _ ⟨rfl, rfl⟩
      simp only [setAt, splice, spliceL, Value.cells]
      refine at_nil ?_
      refine at_normal ?_
      refine hK7 _ _ _ ?_
      refine at_seq_k (fun K8 hK8 => ?_)
      refine at_draw _ [] 1000 [(2, 0), (1, 1), (2, 2), (2, 3), (1, 4), (2, 5), (2, 6), (2, 7), (1, 8), (2, 9), (2, 10), (2, 11), (2, 12), (2, 13), (2, 14), (1, 15), (2, 16), (2, 17), (2, 18), (2, 19), (1, 20), (2, 21), (2, 22)] (by kernel_rfl) (by kernel_rfl) (fun _ s => (s.pulls (ks := [0, 0, 1]) rfl).left) ?_
      refine aq_p (ov_fieldAddr (k := 1) (r := 1) rfl rfl rfl rfl) rfl rfl rfl ?_
      refine aq_v (ov_load rfl rfl rfl (fun _ s => s.ld (k := 0) rfl rfl)) rfl rfl rfl ?_
      refine aq_p (ov_nilCheck rfl rfl) rfl rfl rfl ?_
      refine aq_p (ov_fieldAddr (k := 1) (r := 1) rfl rfl rfl rfl) rfl rfl rfl ?_
      refine aq_v (ov_load rfl rfl rfl (fun _ s => s.ld (k := 1) rfl rfl)) rfl rfl rfl ?_
      refine aq_p (ov_int rfl rfl rfl rfl) rfl rfl rfl ?_
      refine aq_p (ov_move rfl rfl) rfl rfl rfl ?_
      refine at_reval 30 (.bool true) rfl (congrArg Value.bool (decide_eq_true (by omega))) ?_
      refine aq_wanted (j := 6) rfl ?_
      refine aq_p (ov_fieldAddr (k := 2) (r := 2) rfl rfl rfl rfl) rfl rfl rfl ?_
      refine aq_wanted (j := 6) rfl ?_
      refine aq_v (ov_load rfl rfl rfl (fun _ s => s.ld (k := 0) rfl rfl)) rfl rfl rfl ?_
      refine aq_wanted (j := 6) rfl ?_
      refine aq_p (ov_move rfl rfl) rfl rfl rfl ?_
      refine aq_wanted (j := 6) rfl ?_
      refine aq_p (ov_int rfl rfl rfl rfl) rfl rfl rfl ?_
      refine aq_p (ov_pick_t rfl rfl rfl) rfl rfl rfl ?_
      refine aq_p (ov_move rfl rfl) rfl rfl rfl ?_
      refine at_reval 36 (.bool true) rfl (congrArg Value.bool (decide_eq_true (by omega))) ?_
      refine aq_wanted (j := 12) rfl ?_
      refine aq_p (ov_move rfl rfl) rfl rfl rfl ?_
      refine aq_wanted (j := 12) rfl ?_
      refine aq_p (ov_fieldAddr (k := 2) (r := 2) rfl rfl rfl rfl) rfl rfl rfl ?_
      refine aq_wanted (j := 12) rfl ?_
      refine aq_v (ov_load rfl rfl rfl (fun _ s => s.ld (k := 0) rfl rfl)) rfl rfl rfl ?_
      refine aq_wanted (j := 12) rfl ?_
      refine aq_p ((ov_int rfl rfl rfl rfl).eq (congrArg (Value.int .u64) (inK_u64 (by omega) (by omega)))) rfl rfl rfl ?_
      refine aq_wanted (j := 12) rfl ?_
      refine aq_p (ov_move rfl rfl) rfl rfl rfl ?_
      refine aq_wanted (j := 12) rfl ?_
      refine aq_p (ov_nilCheck rfl rfl) rfl rfl rfl ?_
      refine aq_wanted (j := 12) rfl ?_
      refine aq_p (ov_fieldAddr (k := 1) (r := 1) rfl rfl rfl rfl) rfl rfl rfl ?_
      refine aq_wanted (j := 12) rfl ?_
      refine aq_v (ov_load rfl rfl rfl (fun _ s => s.ld (k := 2) rfl rfl)) rfl rfl rfl ?_
      refine aq_wanted (j := 12) rfl ?_
      refine aq_p (ov_int rfl rfl rfl rfl) rfl rfl rfl ?_
      refine aq_p (ov_pick_t rfl rfl rfl) rfl rfl rfl ?_
      refine aq_nil ?_
      refine at_normal ?_
      refine hK8 _ _ _ ?_
      refine at_cond_true (congrArg (fun b => some (Value.bool b)) (show _ = true from decide_eq_true (by omega))) ?_
      refine at_seq_k (fun K9 hK9 => ?_)
      refine at_region ?_
      refine at_v (ov_fieldAddr (k := 1) (r := 1) rfl rfl rfl rfl) rfl rfl rfl ?_
      refine at_v (ov_load rfl rfl rfl (fun _ s => s.ld (k := 0) rfl rfl)) rfl rfl rfl ?_
      refine at_t (ot_call (ks := [1]) rfl rfl rfl Tryz.call68 rfl (T68 _ _ _ (by first | assumption | rfl | omega | decide | (simp; done) | (simp at *; omega))) rfl) rfl rfl rfl ?_
      rintro v0 _ ⟨m0, hp0, rfl⟩
      obtain ⟨rfl, rfl⟩ := hp0
      simp only [List.cons_append, List.nil_append, splice, spliceL]
      refine at_nil ?_
      refine at_normal ?_
      refine hK9 _ _ _ ?_
      refine at_region ?_
      refine at_v (ov_move rfl rfl) rfl rfl rfl ?_
      refine at_v ((ov_int rfl rfl rfl rfl).eq (congrArg (Value.int .i64) (inK_i64 (by omega) (by omega)))) rfl rfl rfl ?_
      refine at_v (ov_assign rfl rfl) rfl rfl rfl ?_
      refine at_nil ?_
      refine at_inb_normal ?_
      refine at_normal ?_
      refine hK6 _ _ _ ?_
      refine at_region ?_
      refine at_v (ov_move rfl rfl) rfl rfl rfl ?_
      refine at_v ((ov_int rfl rfl rfl rfl).eq (congrArg (Value.int .i64) (inK_i64 (by omega) (by omega)))) rfl rfl rfl ?_
      refine at_v (ov_assign rfl rfl) rfl rfl rfl ?_
      refine at_nil ?_
      refine at_normal ?_
      refine at_fold (A := RL ((psK (reapU idle now) ps k).set k (q.1, (q.2.1, q.2.2.1.drain, q.2.2.2)))) [0, 1] rfl (fun h s => rl_give (q.1, (q.2.1, q.2.2.1.drain, q.2.2.2)) (psK_get hq) rfl s) ?_
      refine at_roundF (k + 1) hlt (by omega) ⟨rfl, look_eq rfl (congrArg (Value.int .i64) (by omega)), trivial⟩ rfl ?_
      rw [← psK_next hq, hd]
      exact fun _ s => s.finEq (ks := [2, 2, 2, 0]) (js := [0]) rfl rfl rfl
    | false =>
      have hb2 : ¬ (q.2.2.1.state = 1 ∧ q.2.2.2 ≤ now ∧ now - q.2.2.2 ≥ idle) := by simpa [reapB] using hb
      rw [if_neg (by simp [hb])] at hstep
      have hsame : reapU idle now q.2 = q.2.2 := if_neg (by simp [hb])
      by_cases hi2 : q.2.2.1.state = 1
      · by_cases hi3 : q.2.2.2 ≤ now
        · have hi4 : ¬ now - q.2.2.2 ≥ idle := fun h => hb2 ⟨hi2, hi3, h⟩
          refine at_skip ?_
          refine at_normal ?_
          refine hK4 _ _ _ ?_
          refine at_seq_k (fun K6 hK6 => ?_)
          refine at_block ?_
          refine at_seq_k (fun K7 hK7 => ?_)
          refine at_region ?_
          refine at_v (ov_move rfl rfl) rfl rfl rfl ?_
          refine at_v (ov_nilCheck rfl rfl) rfl rfl rfl ?_
          refine at_v (ov_fieldAddr (k := 3) (r := 3) rfl rfl rfl rfl) rfl rfl rfl ?_
          refine at_v (ov_load rfl rfl rfl (fun _ s => s.ld (k := 2) rfl rfl)) rfl rfl rfl ?_
          refine at_v (ov_move rfl rfl) rfl rfl rfl ?_
          refine at_v (ov_indexRd (fun _ s => s.rd (k := 4) rfl) rfl Tryz.underlying50 rfl rfl rfl hq) rfl rfl rfl ?_
          refine at_v (ov_loadRdS (vs := [_, _, _]) (fun _ s => s.rd (k := 4) rfl) rfl rfl rfl hq rfl rfl) rfl rfl rfl ?_
          refine at_t (ot_allocA rfl Tryz.zeroValue87) rfl rfl rfl ?_
          rintro _ _ ⟨g0, rfl, rfl⟩
          refine at_t0 (ot_store (k := 0) rfl rfl rfl rfl rfl rfl rfl) rfl rfl ?_
          rintro _ _ ⟨rfl, rfl⟩
          simp only [setAt, splice, spliceL, Value.cells]
          refine at_nil ?_
          refine at_normal ?_
          refine hK7 _ _ _ ?_
          refine at_seq_k (fun K8 hK8 => ?_)
          refine at_draw _ [] 1000 [(2, 0), (1, 1), (2, 2), (2, 3), (1, 4), (2, 5), (2, 6), (2, 7), (1, 8), (2, 9), (2, 10), (2, 11), (2, 12), (2, 13), (2, 14), (1, 15), (2, 16), (2, 17), (2, 18), (2, 19), (1, 20), (2, 21), (2, 22)] (by kernel_rfl) (by kernel_rfl) (fun _ s => (s.pulls (ks := [0, 0, 1]) rfl).left) ?_
          refine aq_p (ov_fieldAddr (k := 1) (r := 1) rfl rfl rfl rfl) rfl rfl rfl ?_
          refine aq_v (ov_load rfl rfl rfl (fun _ s => s.ld (k := 0) rfl rfl)) rfl rfl rfl ?_
          refine aq_p (ov_nilCheck rfl rfl) rfl rfl rfl ?_
          refine aq_p (ov_fieldAddr (k := 1) (r := 1) rfl rfl rfl rfl) rfl rfl rfl ?_
          refine aq_v (ov_load rfl rfl rfl (fun _ s => s.ld (k := 1) rfl rfl)) rfl rfl rfl ?_
          refine aq_p (ov_int rfl rfl rfl rfl) rfl rfl rfl ?_
          refine aq_p (ov_move rfl rfl) rfl rfl rfl ?_
          refine at_reval 30 (.bool true) rfl (congrArg Value.bool (decide_eq_true (by omega))) ?_
          refine aq_wanted (j := 6) rfl ?_
          refine aq_p (ov_fieldAddr (k := 2) (r := 2) rfl rfl rfl rfl) rfl rfl rfl ?_
          refine aq_wanted (j := 6) rfl ?_
          refine aq_v (ov_load rfl rfl rfl (fun _ s => s.ld (k := 0) rfl rfl)) rfl rfl rfl ?_
          refine aq_wanted (j := 6) rfl ?_
          refine aq_p (ov_move rfl rfl) rfl rfl rfl ?_
          refine aq_wanted (j := 6) rfl ?_
          refine aq_p (ov_int rfl rfl rfl rfl) rfl rfl rfl ?_
          refine aq_p (ov_pick_t rfl rfl rfl) rfl rfl rfl ?_
          refine aq_p (ov_move rfl rfl) rfl rfl rfl ?_
          refine at_reval 36 (.bool true) rfl (congrArg Value.bool (decide_eq_true (by omega))) ?_
          refine aq_wanted (j := 12) rfl ?_
          refine aq_p (ov_move rfl rfl) rfl rfl rfl ?_
          refine aq_wanted (j := 12) rfl ?_
          refine aq_p (ov_fieldAddr (k := 2) (r := 2) rfl rfl rfl rfl) rfl rfl rfl ?_
          refine aq_wanted (j := 12) rfl ?_
          refine aq_v (ov_load rfl rfl rfl (fun _ s => s.ld (k := 0) rfl rfl)) rfl rfl rfl ?_
          refine aq_wanted (j := 12) rfl ?_
          refine aq_p ((ov_int rfl rfl rfl rfl).eq (congrArg (Value.int .u64) (inK_u64 (by omega) (by omega)))) rfl rfl rfl ?_
          refine aq_wanted (j := 12) rfl ?_
          refine aq_p (ov_move rfl rfl) rfl rfl rfl ?_
          refine aq_wanted (j := 12) rfl ?_
          refine aq_p (ov_nilCheck rfl rfl) rfl rfl rfl ?_
          refine aq_wanted (j := 12) rfl ?_
          refine aq_p (ov_fieldAddr (k := 1) (r := 1) rfl rfl rfl rfl) rfl rfl rfl ?_
          refine aq_wanted (j := 12) rfl ?_
          refine aq_v (ov_load rfl rfl rfl (fun _ s => s.ld (k := 2) rfl rfl)) rfl rfl rfl ?_
          refine aq_wanted (j := 12) rfl ?_
          refine aq_p (ov_int rfl rfl rfl rfl) rfl rfl rfl ?_
          refine aq_p (ov_pick_t rfl rfl rfl) rfl rfl rfl ?_
          refine aq_nil ?_
          refine at_normal ?_
          refine hK8 _ _ _ ?_
          refine at_cond_false (congrArg (fun b => some (Value.bool b)) (show _ = false from decide_eq_false (by omega))) ?_
          refine at_skip ?_
          refine at_inb_normal ?_
          refine at_normal ?_
          refine hK6 _ _ _ ?_
          refine at_region ?_
          refine at_v (ov_move rfl rfl) rfl rfl rfl ?_
          refine at_v ((ov_int rfl rfl rfl rfl).eq (congrArg (Value.int .i64) (inK_i64 (by omega) (by omega)))) rfl rfl rfl ?_
          refine at_v (ov_assign rfl rfl) rfl rfl rfl ?_
          refine at_nil ?_
          refine at_normal ?_
          refine at_fold (A := RL (psK (reapU idle now) ps k)) [1, 1] rfl (fun h s => rl_back (psK_get hq) s) ?_
          refine at_roundF (k + 1) hlt (by omega) ⟨rfl, look_eq rfl (congrArg (Value.int .i64) (by omega)), trivial⟩ rfl ?_
          rw [psK_same hq hsame]
          exact fun _ s => s.finEq (ks := [2, 2, 2, 0]) (js := [0]) rfl rfl rfl
        · refine at_skip ?_
          refine at_normal ?_
          refine hK4 _ _ _ ?_
          refine at_seq_k (fun K6 hK6 => ?_)
          refine at_block ?_
          refine at_seq_k (fun K7 hK7 => ?_)
          refine at_region ?_
          refine at_v (ov_move rfl rfl) rfl rfl rfl ?_
          refine at_v (ov_nilCheck rfl rfl) rfl rfl rfl ?_
          refine at_v (ov_fieldAddr (k := 3) (r := 3) rfl rfl rfl rfl) rfl rfl rfl ?_
          refine at_v (ov_load rfl rfl rfl (fun _ s => s.ld (k := 2) rfl rfl)) rfl rfl rfl ?_
          refine at_v (ov_move rfl rfl) rfl rfl rfl ?_
          refine at_v (ov_indexRd (fun _ s => s.rd (k := 4) rfl) rfl Tryz.underlying50 rfl rfl rfl hq) rfl rfl rfl ?_
          refine at_v (ov_loadRdS (vs := [_, _, _]) (fun _ s => s.rd (k := 4) rfl) rfl rfl rfl hq rfl rfl) rfl rfl rfl ?_
          refine at_t (ot_allocA rfl Tryz.zeroValue87) rfl rfl rfl ?_
          rintro _ _ ⟨g0, rfl, rfl⟩
          refine at_t0 (ot_store (k := 0) rfl rfl rfl rfl rfl rfl rfl) rfl rfl ?_
          rintro _ _ ⟨rfl, rfl⟩
          simp only [setAt, splice, spliceL, Value.cells]
          refine at_nil ?_
          refine at_normal ?_
          refine hK7 _ _ _ ?_
          refine at_seq_k (fun K8 hK8 => ?_)
          refine at_draw _ [] 1000 [(2, 0), (1, 1), (2, 2), (2, 3), (1, 4), (2, 5), (2, 6), (2, 7), (1, 8), (2, 9), (2, 10), (2, 11), (2, 12), (2, 13), (2, 14), (1, 15), (2, 16), (2, 17), (2, 18), (2, 19), (1, 20), (2, 21), (2, 22)] (by kernel_rfl) (by kernel_rfl) (fun _ s => (s.pulls (ks := [0, 0, 1]) rfl).left) ?_
          refine aq_p (ov_fieldAddr (k := 1) (r := 1) rfl rfl rfl rfl) rfl rfl rfl ?_
          refine aq_v (ov_load rfl rfl rfl (fun _ s => s.ld (k := 0) rfl rfl)) rfl rfl rfl ?_
          refine aq_p (ov_nilCheck rfl rfl) rfl rfl rfl ?_
          refine aq_p (ov_fieldAddr (k := 1) (r := 1) rfl rfl rfl rfl) rfl rfl rfl ?_
          refine aq_v (ov_load rfl rfl rfl (fun _ s => s.ld (k := 1) rfl rfl)) rfl rfl rfl ?_
          refine aq_p (ov_int rfl rfl rfl rfl) rfl rfl rfl ?_
          refine aq_p (ov_move rfl rfl) rfl rfl rfl ?_
          refine at_reval 30 (.bool true) rfl (congrArg Value.bool (decide_eq_true (by omega))) ?_
          refine aq_wanted (j := 6) rfl ?_
          refine aq_p (ov_fieldAddr (k := 2) (r := 2) rfl rfl rfl rfl) rfl rfl rfl ?_
          refine aq_wanted (j := 6) rfl ?_
          refine aq_v (ov_load rfl rfl rfl (fun _ s => s.ld (k := 0) rfl rfl)) rfl rfl rfl ?_
          refine aq_wanted (j := 6) rfl ?_
          refine aq_p (ov_move rfl rfl) rfl rfl rfl ?_
          refine aq_wanted (j := 6) rfl ?_
          refine aq_p (ov_int rfl rfl rfl rfl) rfl rfl rfl ?_
          refine aq_p (ov_pick_t rfl rfl rfl) rfl rfl rfl ?_
          refine aq_p (ov_move rfl rfl) rfl rfl rfl ?_
          refine at_reval 36 (.bool false) rfl (congrArg Value.bool (decide_eq_false (by omega))) ?_
          refine aq_unwanted (j := 12) rfl rfl rfl rfl rfl ?_
          refine aq_unwanted (j := 12) rfl rfl rfl rfl rfl ?_
          refine aq_unwanted (j := 12) rfl rfl rfl rfl rfl ?_
          refine aq_unwanted (j := 12) rfl rfl rfl rfl rfl ?_
          refine aq_unwanted (j := 12) rfl rfl rfl rfl rfl ?_
          refine aq_unwanted (j := 12) rfl rfl rfl rfl rfl ?_
          refine aq_unwanted (j := 12) rfl rfl rfl rfl rfl ?_
          refine aq_unwanted (j := 12) rfl rfl rfl rfl rfl ?_
          refine aq_unwanted (j := 12) rfl rfl rfl rfl rfl ?_
          refine aq_p (ov_pick_f rfl rfl rfl) rfl rfl rfl ?_
          refine aq_nil ?_
          refine at_normal ?_
          refine hK8 _ _ _ ?_
          refine at_cond_false rfl ?_
          refine at_skip ?_
          refine at_inb_normal ?_
          refine at_normal ?_
          refine hK6 _ _ _ ?_
          refine at_region ?_
          refine at_v (ov_move rfl rfl) rfl rfl rfl ?_
          refine at_v ((ov_int rfl rfl rfl rfl).eq (congrArg (Value.int .i64) (inK_i64 (by omega) (by omega)))) rfl rfl rfl ?_
          refine at_v (ov_assign rfl rfl) rfl rfl rfl ?_
          refine at_nil ?_
          refine at_normal ?_
          refine at_fold (A := RL (psK (reapU idle now) ps k)) [1, 1] rfl (fun h s => rl_back (psK_get hq) s) ?_
          refine at_roundF (k + 1) hlt (by omega) ⟨rfl, look_eq rfl (congrArg (Value.int .i64) (by omega)), trivial⟩ rfl ?_
          rw [psK_same hq hsame]
          exact fun _ s => s.finEq (ks := [2, 2, 2, 0]) (js := [0]) rfl rfl rfl
      · refine at_skip ?_
        refine at_normal ?_
        refine hK4 _ _ _ ?_
        refine at_seq_k (fun K6 hK6 => ?_)
        refine at_block ?_
        refine at_seq_k (fun K7 hK7 => ?_)
        refine at_region ?_
        refine at_v (ov_move rfl rfl) rfl rfl rfl ?_
        refine at_v (ov_nilCheck rfl rfl) rfl rfl rfl ?_
        refine at_v (ov_fieldAddr (k := 3) (r := 3) rfl rfl rfl rfl) rfl rfl rfl ?_
        refine at_v (ov_load rfl rfl rfl (fun _ s => s.ld (k := 2) rfl rfl)) rfl rfl rfl ?_
        refine at_v (ov_move rfl rfl) rfl rfl rfl ?_
        refine at_v (ov_indexRd (fun _ s => s.rd (k := 4) rfl) rfl Tryz.underlying50 rfl rfl rfl hq) rfl rfl rfl ?_
        refine at_v (ov_loadRdS (vs := [_, _, _]) (fun _ s => s.rd (k := 4) rfl) rfl rfl rfl hq rfl rfl) rfl rfl rfl ?_
        refine at_t (ot_allocA rfl Tryz.zeroValue87) rfl rfl rfl ?_
        rintro _ _ ⟨g0, rfl, rfl⟩
        refine at_t0 (ot_store (k := 0) rfl rfl rfl rfl rfl rfl rfl) rfl rfl ?_
        rintro _ _ ⟨rfl, rfl⟩
        simp only [setAt, splice, spliceL, Value.cells]
        refine at_nil ?_
        refine at_normal ?_
        refine hK7 _ _ _ ?_
        refine at_seq_k (fun K8 hK8 => ?_)
        refine at_draw _ [] 1000 [(2, 0), (1, 1), (2, 2), (2, 3), (1, 4), (2, 5), (2, 6), (2, 7), (1, 8), (2, 9), (2, 10), (2, 11), (2, 12), (2, 13), (2, 14), (1, 15), (2, 16), (2, 17), (2, 18), (2, 19), (1, 20), (2, 21), (2, 22)] (by kernel_rfl) (by kernel_rfl) (fun _ s => (s.pulls (ks := [0, 0, 1]) rfl).left) ?_
        refine aq_p (ov_fieldAddr (k := 1) (r := 1) rfl rfl rfl rfl) rfl rfl rfl ?_
        refine aq_v (ov_load rfl rfl rfl (fun _ s => s.ld (k := 0) rfl rfl)) rfl rfl rfl ?_
        refine aq_p (ov_nilCheck rfl rfl) rfl rfl rfl ?_
        refine aq_p (ov_fieldAddr (k := 1) (r := 1) rfl rfl rfl rfl) rfl rfl rfl ?_
        refine aq_v (ov_load rfl rfl rfl (fun _ s => s.ld (k := 1) rfl rfl)) rfl rfl rfl ?_
        refine aq_p (ov_int rfl rfl rfl rfl) rfl rfl rfl ?_
        refine aq_p (ov_move rfl rfl) rfl rfl rfl ?_
        refine at_reval 30 (.bool false) rfl (congrArg Value.bool (decide_eq_false (by omega))) ?_
        refine aq_unwanted (j := 6) rfl rfl rfl rfl rfl ?_
        refine aq_unwanted (j := 6) rfl rfl rfl rfl rfl ?_
        refine aq_unwanted (j := 6) rfl rfl rfl rfl rfl ?_
        refine aq_unwanted (j := 6) rfl rfl rfl rfl rfl ?_
        refine aq_p (ov_pick_f rfl rfl rfl) rfl rfl rfl ?_
        refine aq_p (ov_move rfl rfl) rfl rfl rfl ?_
        refine aq_unwanted (j := 12) rfl rfl rfl rfl rfl ?_
        refine aq_unwanted (j := 12) rfl rfl rfl rfl rfl ?_
        refine aq_unwanted (j := 12) rfl rfl rfl rfl rfl ?_
        refine aq_unwanted (j := 12) rfl rfl rfl rfl rfl ?_
        refine aq_unwanted (j := 12) rfl rfl rfl rfl rfl ?_
        refine aq_unwanted (j := 12) rfl rfl rfl rfl rfl ?_
        refine aq_unwanted (j := 12) rfl rfl rfl rfl rfl ?_
        refine aq_unwanted (j := 12) rfl rfl rfl rfl rfl ?_
        refine aq_unwanted (j := 12) rfl rfl rfl rfl rfl ?_
        refine aq_p (ov_pick_f rfl rfl rfl) rfl rfl rfl ?_
        refine aq_nil ?_
        refine at_normal ?_
        refine hK8 _ _ _ ?_
        refine at_cond_false rfl ?_
        refine at_skip ?_
        refine at_inb_normal ?_
        refine at_normal ?_
        refine hK6 _ _ _ ?_
        refine at_region ?_
        refine at_v (ov_move rfl rfl) rfl rfl rfl ?_
        refine at_v ((ov_int rfl rfl rfl rfl).eq (congrArg (Value.int .i64) (inK_i64 (by omega) (by omega)))) rfl rfl rfl ?_
        refine at_v (ov_assign rfl rfl) rfl rfl rfl ?_
        refine at_nil ?_
        refine at_normal ?_
        refine at_fold (A := RL (psK (reapU idle now) ps k)) [1, 1] rfl (fun h s => rl_back (psK_get hq) s) ?_
        refine at_roundF (k + 1) hlt (by omega) ⟨rfl, look_eq rfl (congrArg (Value.int .i64) (by omega)), trivial⟩ rfl ?_
        rw [psK_same hq hsame]
        exact fun _ s => s.finEq (ks := [2, 2, 2, 0]) (js := [0]) rfl rfl rfl
  · have hk2 : k = ps.length := by
      have : ¬ k < ps.length := by simpa using hc
      omega
    subst hk2
    have hcl : cs.length = ps.length := by rw [← hps, List.length_map]
    rw [← row_psK (f := reapU idle now) (A := A) (c := c) (ps := ps) (fun x => by unfold reapU; split <;> rfl) ps.length]
    rw [show cs.take ps.length = cs by rw [← hcl, List.take_length]]
    refine at_exit ?_
    refine at_then_exit ?_
    refine at_then_exit ?_
    refine at_exit_eq ?_
    refine at_normal ?_
    refine hK2 _ _ _ ?_
    refine at_seq_k (fun K6 hK6 => ?_)
    refine at_region ?_
    refine at_v (ov_move rfl rfl) rfl rfl rfl ?_
    refine at_fold (A := RefA g most idle wm last L (cs.map fun x => (x.1, reapU idle now x))) [0, 0, 0, 0] rfl (fun h s => ⟨wb, A, c, psK (reapU idle now) ps ps.length, by rw [psK_all, hps], by rw [psK_len]; exact s⟩) ?_
    have hl2 : (cs.map fun x : XM => (x.1, reapU idle now x)).length ≤ 7 := by rw [List.length_map]; omega
    refine at_t (ot_call (ks := [0]) rfl rfl rfl Tryz.call64 rfl (T64 _ (by first | assumption | rfl | omega | decide | (simp; done) | (simp at *; omega))) rfl) rfl rfl rfl ?_
    rintro v0 _ ⟨m0, hp0, rfl⟩
    obtain ⟨rfl, rfl⟩ := hp0
    simp only [List.cons_append, List.nil_append, splice, spliceL]
    refine at_nil ?_
    refine at_normal ?_
    refine hK6 _ _ _ ?_
    refine at_seq_k (fun K7 hK7 => ?_)
    refine at_region ?_
    refine at_v (ov_move rfl rfl) rfl rfl rfl ?_
    refine at_v (ov_assign rfl rfl) rfl rfl rfl ?_
    refine at_nil ?_
    refine at_normal ?_
    refine hK7 _ _ _ ?_
    refine at_ret ?_
    refine at_end ?_
    refine at_fin (rsV rfl (res_tmp rfl)) ?_
    refine ⟨_, ⟨rfl, rfl⟩, ?_⟩
    unfold upd
    exact fun _ s => s.finEq (ks := [0]) (js := []) rfl rfl rfl
