/- The reference's pool, walked, to the end. -/
import Derived.Test.YtlkcccihkfggmaaGreatProg
import Derived.Test.YtlkcccihkfggmaaGreatRefPool2
import Derived.Test.YtlkcccihkfggmaaGreatSLBr
import Derived.KernelRfl
set_option linter.unusedSimpArgs false
set_option linter.unusedVariables false
set_option maxRecDepth 100000
set_option maxHeartbeats 4000000
namespace Go.Proofs.YtlkcccihkfggmaaGreat
open Go Go.Proofs.YtlkcccihkfggmaaGreat.SL Go.RowKit
abbrev RO (g : Nat) (p : PM) : HP := RefA g p.most p.idle p.wm p.last p.L p.cs
theorem T12 (w0 : World) {g n : Nat} {p : PM} (hw : Wf n p) :
    Tri Tryz.prog w0 12 [ptrTo g] [RefA g p.most p.idle p.wm p.last p.L p.cs] fun v m => ∃ A c, v = .slice A p.cs.length c ∧ m = [Row infoE 75 6 A c p.cs, RefA g p.most p.idle p.wm p.last p.L p.cs] := by
  have h6 := hw.h6
  obtain ⟨most, idle, wm, last, L, cs⟩ := p
  refine tri_of Tryz.func12 rfl rfl fun F => ?_
  simp only [Tryz.ntmps12, argEnv, List.cons_append, List.nil_append] at h6 ⊢
  refine at_ref fun wb A c ps hps => ?_
  have hlen : ps.length ≤ 6 := by rw [← hps, List.length_map] at h6; exact h6
  have hcl : cs.length = ps.length := by rw [← hps, List.length_map]
  refine at_seq_k (fun K0 hK0 => ?_)
  refine at_region ?_
  refine at_v (ov_assign rfl rfl) rfl rfl rfl ?_
  refine at_nil ?_
  refine at_normal ?_
  refine hK0 _ _ _ ?_
  refine at_seq_k (fun K1 hK1 => ?_)
  refine at_region ?_
  refine at_t (ot_buildSlice (cs := []) rfl Tryz.underlying39 rfl rfl rfl rfl rfl rfl) rfl rfl rfl ?_
  rintro _ _ ⟨g0, rfl, rfl⟩
  refine at_v (ov_assign rfl rfl) rfl rfl rfl ?_
  refine at_nil ?_
  refine at_normal ?_
  refine hK1 _ _ _ ?_
  refine at_seq_k (fun K2 hK2 => ?_)
  refine at_seq_k (fun K3 hK3 => ?_)
  refine at_region ?_
  refine at_v (ov_assign rfl rfl) rfl rfl rfl ?_
  refine at_nil ?_
  refine at_normal ?_
  refine hK3 _ _ _ ?_
  refine at_block ?_
  refine at_rowOf infoE 0 (size := 6) (c := 0) [] rfl (by simp) (Nat.le_refl _) (by decide) (by simp) (by simp) ?_
  simp only [setAt]
  refine at_loopE [7, 8, 9, 10, 11, 12, 13, 16, 17, 18, 19, 20, 21, 22, 5, 23, 24, 25, 26, 27, 28, 29, 30, 31, 32, 33, 34, 35, 36, 37, 38, 39, 40, 41, 42, 43, 44, 45, 46, 47, 48, 49, 50, 3, 14, 15, 4] (ι := Nat × Option Addr × Nat) (fun i => i.1 ≤ ps.length) (fun i => [(4, .int .i64 (i.1 : Nat)), (3, .slice i.2.1 (cs.take i.1).length i.2.2)]) (fun i l => setAt 0 (Row infoE 75 6 i.2.1 i.2.2 (cs.take i.1)) l) (fun i => ps.length - i.1) (0, some ⟨g0, 0, none⟩, 0) (Nat.zero_le _) ⟨rfl, rfl, trivial⟩ (fun _ s => s) ?_
  rintro ⟨k, B, e⟩ hk
  simp only at hk
  simp only [setAt]
  refine at_seq_k (fun K4 hK4 => ?_)
  refine at_seq_k (fun K5 hK5 => ?_)
  refine at_region ?_
  refine at_v (ov_move rfl rfl) rfl rfl rfl ?_
  refine at_v (ov_move rfl rfl) rfl rfl rfl ?_
  refine at_v (ov_nilCheck rfl rfl) rfl rfl rfl ?_
  refine at_v (ov_fieldAddr (k := 3) (r := 3) rfl rfl rfl rfl) rfl rfl rfl ?_
  refine at_v (ov_load rfl rfl rfl (fun _ s => s.ld (k := 1) rfl rfl)) rfl rfl rfl ?_
  refine at_v (ov_len_slice rfl Tryz.underlying50 rfl) rfl rfl rfl ?_
  refine at_v (ov_int rfl rfl rfl rfl) rfl rfl rfl ?_
  refine at_nil ?_
  refine at_normal ?_
  refine hK5 _ _ _ ?_
  refine at_cond rfl (fun hc => ?_) (fun hc => ?_)
  · have hlt : k < ps.length := by simpa using hc
    obtain ⟨q, hq⟩ : ∃ q, ps[k]? = some q := ⟨_, List.getElem?_eq_getElem hlt⟩
    have hx : cs[k]? = some q.2 := by rw [← hps, List.getElem?_map, hq]; rfl
    have htk : cs.take (k + 1) = cs.take k ++ [q.2] := by rw [List.take_add_one, hx]; rfl
    have hl0 : (cs.take k).length ≤ 6 := by rw [List.length_take]; omega
    refine at_pulls [4] rfl ?_
    refine at_takeR hq ?_
    simp only [List.cons_append, List.nil_append]
    refine at_skip ?_
    refine at_normal ?_
    refine hK4 _ _ _ ?_
    refine at_seq_k (fun K6 hK6 => ?_)
    refine at_block ?_
    refine at_seq_k (fun K7 hK7 => ?_)
    refine at_region ?_
    refine at_v (ov_move rfl rfl) rfl rfl rfl ?_
    refine at_v (ov_nilCheck rfl rfl) rfl rfl rfl ?_
    refine at_v (ov_fieldAddr (k := 3) (r := 3) rfl rfl rfl rfl) rfl rfl rfl ?_
    refine at_v (ov_load rfl rfl rfl (fun _ s => s.ld (k := 3) rfl rfl)) rfl rfl rfl ?_
    refine at_v (ov_move rfl rfl) rfl rfl rfl ?_
    refine at_v (ov_indexRd (fun _ s => s.rd (k := 5) rfl) rfl Tryz.underlying50 rfl rfl rfl hq) rfl rfl rfl ?_
    refine at_v (ov_loadRdS (vs := [_, _, _]) (fun _ s => s.rd (k := 5) rfl) rfl rfl rfl hq rfl rfl) rfl rfl rfl ?_
    refine at_t (ot_allocA rfl Tryz.zeroValue87) rfl rfl rfl ?_
    rintro _ _ ⟨g1, rfl, rfl⟩
    refine at_t0 (ot_store (k := 0) rfl rfl rfl rfl rfl rfl rfl) rfl rfl ?_
    rintro _ _ ⟨rfl, rfl⟩
    simp only [setAt, splice, spliceL, Value.cells]
    refine at_nil ?_
    refine at_normal ?_
    refine hK7 _ _ _ ?_
    refine at_draw _ [] 1000 [(2, 0), (2, 1), (1, 2), (2, 3), (1, 4), (2, 5), (2, 6), (1, 7), (2, 8), (1, 9), (2, 10), (2, 11), (1, 12), (2, 13), (1, 14), (2, 15), (2, 16), (1, 17), (2, 18), (1, 19), (2, 20), (2, 21), (1, 22), (2, 23), (1, 24), (2, 25), (0, 26), (0, 27), (2, 28)] (by kernel_rfl) (by kernel_rfl) (fun _ s => (s.pulls (ks := [0, 0, 2]) rfl).left) ?_
    refine aq_p (ov_move rfl rfl) rfl rfl rfl ?_
    refine aq_p (ov_fieldAddr (k := 0) (r := 0) rfl rfl rfl rfl) rfl rfl rfl ?_
    refine aq_v (ov_load rfl rfl rfl (fun _ s => s.ld (k := 0) rfl rfl)) rfl rfl rfl ?_
    refine aq_p (ov_fieldAddr (k := 1) (r := 1) rfl rfl rfl rfl) rfl rfl rfl ?_
    refine aq_v (ov_load rfl rfl rfl (fun _ s => s.ld (k := 0) rfl rfl)) rfl rfl rfl ?_
    refine aq_p (ov_nilCheck rfl rfl) rfl rfl rfl ?_
    refine aq_p (ov_fieldAddr (k := 1) (r := 1) rfl rfl rfl rfl) rfl rfl rfl ?_
    refine aq_v (ov_load rfl rfl rfl (fun _ s => s.ld (k := 1) rfl rfl)) rfl rfl rfl ?_
    refine aq_p (ov_fieldAddr (k := 1) (r := 1) rfl rfl rfl rfl) rfl rfl rfl ?_
    refine aq_v (ov_load rfl rfl rfl (fun _ s => s.ld (k := 0) rfl rfl)) rfl rfl rfl ?_
    refine aq_p (ov_nilCheck rfl rfl) rfl rfl rfl ?_
    refine aq_p (ov_fieldAddr (k := 2) (r := 2) rfl rfl rfl rfl) rfl rfl rfl ?_
    refine aq_v (ov_load rfl rfl rfl (fun _ s => s.ld (k := 1) rfl rfl)) rfl rfl rfl ?_
    refine aq_p (ov_fieldAddr (k := 1) (r := 1) rfl rfl rfl rfl) rfl rfl rfl ?_
    refine aq_v (ov_load rfl rfl rfl (fun _ s => s.ld (k := 0) rfl rfl)) rfl rfl rfl ?_
    refine aq_p (ov_nilCheck rfl rfl) rfl rfl rfl ?_
    refine aq_p (ov_fieldAddr (k := 0) (r := 0) rfl rfl rfl rfl) rfl rfl rfl ?_
    refine aq_v (ov_load rfl rfl rfl (fun _ s => s.ld (k := 1) rfl rfl)) rfl rfl rfl ?_
    refine aq_p (ov_fieldAddr (k := 1) (r := 1) rfl rfl rfl rfl) rfl rfl rfl ?_
    refine aq_v (ov_load rfl rfl rfl (fun _ s => s.ld (k := 0) rfl rfl)) rfl rfl rfl ?_
    refine aq_p (ov_nilCheck rfl rfl) rfl rfl rfl ?_
    refine aq_p (ov_fieldAddr (k := 3) (r := 3) rfl rfl rfl rfl) rfl rfl rfl ?_
    refine aq_v (ov_load rfl rfl rfl (fun _ s => s.ld (k := 1) rfl rfl)) rfl rfl rfl ?_
    refine aq_p (ov_fieldAddr (k := 2) (r := 2) rfl rfl rfl rfl) rfl rfl rfl ?_
    refine aq_v (ov_load rfl rfl rfl (fun _ s => s.ld (k := 0) rfl rfl)) rfl rfl rfl ?_
    refine aq_p (ov_build (cs := [_, _, _, _, _, _]) rfl rfl rfl rfl) rfl rfl rfl ?_
    refine aq_t (ot_buildSlice (cs := [_, _, _, _, _, _]) rfl Tryz.underlying39 rfl rfl rfl rfl rfl rfl) rfl rfl rfl ?_
    rintro _ _ ⟨g2, rfl, rfl⟩
    refine ⟨fun _ s => (s.pulls (ks := [1, 1, 3]) rfl).left, ?_⟩
    refine aq_t (ot_append (k := 4) (size := 6) (bytes := 48) (ys := [q.2]) (fun _ s => s.rdPt (k := 0) rfl rfl (by simp [infoE])) rfl Tryz.underlying39 (ti := Tryz.t75) rfl rfl rfl rfl rfl (by decide) rfl rfl rfl (by simp [infoE, Value.oneCell']) (by simp; omega) (by decide)) rfl rfl rfl ?_
    rintro _ _ ⟨A0, c0, rfl, rfl⟩
    simp only [setAt]
    refine ⟨fun _ s => (s.pulls (ks := [1, 1, 3]) rfl).left, ?_⟩
    rw [← htk]
    refine aq_p (ov_assign rfl rfl) rfl rfl rfl ?_
    refine aq_nil ?_
    refine at_inb_normal ?_
    refine at_normal ?_
    refine hK6 _ _ _ ?_
    refine at_region ?_
    refine at_v (ov_move rfl rfl) rfl rfl rfl ?_
    refine at_v ((ov_int rfl rfl rfl rfl).eq (congrArg (Value.int .i64) (inK_i64 (by omega) (by omega)))) rfl rfl rfl ?_
    refine at_v (ov_assign rfl rfl) rfl rfl rfl ?_
    refine at_nil ?_
    refine at_normal ?_
    refine at_fold (A := RL ps) [2, 2] rfl (fun h s => rl_back hq s) ?_
    refine at_roundF (k + 1, _, _) hlt (by simp only; omega) ⟨rfl, rfl, trivial⟩ rfl ?_
    exact fun _ s => s.finEq (ks := [3, 3, 3, 3, 0]) (js := [0, 0]) rfl rfl rfl
  · have hk2 : k = ps.length := by
      have : ¬ k < ps.length := by simpa using hc
      omega
    subst hk2
    rw [show cs.take ps.length = cs by rw [← hcl, List.take_length]]
    refine at_exit ?_
    refine at_then_exit ?_
    refine at_then_exit ?_
    refine at_exit_eq ?_
    refine at_normal ?_
    refine hK2 _ _ _ ?_
    refine at_seq_k (fun K6 hK6 => ?_)
    refine at_region ?_
    refine at_v (ov_move rfl rfl) rfl rfl rfl ?_
    refine at_v (ov_assign rfl rfl) rfl rfl rfl ?_
    refine at_nil ?_
    refine at_normal ?_
    refine hK6 _ _ _ ?_
    refine at_ret ?_
    refine at_end ?_
    refine at_fold (A := RefA g most idle wm last L cs) [1, 1, 1, 1] rfl (fun h s => ⟨wb, A, c, ps, hps, s⟩) ?_
    refine at_fin (rsV rfl (res_tmp rfl)) ?_
    refine ⟨_, ⟨_, _, rfl, rfl⟩, ?_⟩
    exact fun _ s => s.finEq (ks := [1, 0]) (js := []) rfl rfl rfl
theorem at_refK {w0 : World} {n : Nat} {ds : List Deferred} {R : Act → World → Prop} {env : Env} {l : List HP} {g k : Nat} {most idle wm last : Int} {L : List Int} {cs : List XM} {x : XM} (hx : cs[k]? = some x)
    (kn : ∀ wb A c ps gk, ps.map (fun q : PX => q.2) = cs → ps[k]? = some (gk, x) → At w0 n ds R env (cl g #[.int .i64 most, .int .u64 idle, ptrTo wb, .slice A ps.length c, .int .i64 last] 52 :: RowR wb wm L :: Row heE 87 3 A c ps :: ConnR gk x.2.1 :: RL (ps.eraseIdx k) :: l)) : At w0 n ds R env (RefA g most idle wm last L cs :: l) := by
  refine at_ref fun wb A c ps hps => ?_
  have hx2 := hx
  rw [← hps, List.getElem?_map] at hx2
  cases hq : ps[k]? with
  | none => rw [hq] at hx2; simp at hx2
  | some q =>
    rw [hq] at hx2
    simp only [Option.map_some, Option.some.injEq] at hx2
    obtain ⟨gk, x'⟩ := q
    simp only at hx2
    subst hx2
    refine at_pulls [3] rfl ?_
    refine at_takeR hq ?_
    refine at_pulls [2, 2, 2] rfl ?_
    exact kn wb A c ps gk hps hq
theorem ref_shut {g wb k gk : Nat} {most idle wm last : Int} {L : List Int} {A : Option Addr} {c : Nat} {cs : List XM} {ps : List PX} {x : XM} (y : XM) (hps : ps.map (fun q : PX => q.2) = cs) (hq : ps[k]? = some (gk, x)) (h1 : y.1 = x.1) (h2 : y.2.2 = x.2.2) {h : PH}
    (s : star [cl g #[.int .i64 most, .int .u64 idle, ptrTo wb, .slice A ps.length c, .int .i64 last] 52, RowR wb wm L, Row heE 87 3 A c ps, ConnR gk y.2.1, RL (ps.eraseIdx k)] h) : RefA g most idle wm last L (cs.set k y) h := by
  refine ⟨wb, A, c, ps.set k (gk, y), by rw [List.map_set, hps], ?_⟩
  rw [List.length_set, ← ref_set (g := 0) (wb := 0) (most := 0) (idle := 0) (wm := 0) (last := 0) (L := []) (A := A) (c := c) (gk, y) hq rfl h1 h2]
  have s1 : star ([ConnR gk y.2.1, RL (ps.eraseIdx k)] ++ [cl g #[.int .i64 most, .int .u64 idle, ptrTo wb, .slice A ps.length c, .int .i64 last] 52, RowR wb wm L, Row heE 87 3 A c ps]) h :=
    star_perm (List.perm_append_comm (l₁ := [_, _, _]) (l₂ := [_, _])) s
  have s2 : star ([RL (ps.set k (gk, y))] ++ [cl g #[.int .i64 most, .int .u64 idle, ptrTo wb, .slice A ps.length c, .int .i64 last] 52, RowR wb wm L, Row heE 87 3 A c ps]) h :=
    star_imp_left (l := [ConnR gk y.2.1, RL (ps.eraseIdx k)]) (m := [RL (ps.set k (gk, y))]) (fun h s => ⟨h, fun _ => none, rl_give (gk, y) hq rfl s, trivial, fun _ => .inr rfl, Le.refl _, fun _ _ e => by cases e⟩) s1
  exact star_perm (List.perm_append_comm (l₁ := [_]) (l₂ := [_, _, _])) s2
theorem rput_full (w0 : World) {g : Nat} {most : Int} {L : List Int} (id : Int) (hL : L.length ≤ 12) (hat : atL L id 0 = -1) (hf : (L.length : Int) = most) : Tri Tryz.prog w0 59 [ptrTo g, .int .i64 id] [RowR g most L] fun v m => v = .int .i64 5 ∧ m = [RowR g most L] :=
  (T59 w0 id hL (by omega)).post fun v m h => by rw [if_neg (by simp [hat]), if_pos hf, if_neg (fun k => k.2 hf)] at h; exact h
theorem rput_ok (w0 : World) {g : Nat} {most : Int} {L : List Int} (id : Int) (hL : L.length ≤ 12) (hm : (L.length : Int) ≤ most) (hat : atL L id 0 = -1) (hf : (L.length : Int) ≠ most) : Tri Tryz.prog w0 59 [ptrTo g, .int .i64 id] [RowR g most L] fun v m => v = .int .i64 0 ∧ m = [RowR g most (L ++ [id])] :=
  (T59 w0 id hL hm).post fun v m h => by rw [if_neg (by simp [hat]), if_neg hf, if_pos ⟨hat, hf⟩] at h; exact h
theorem upd_none {cs : List XM} (ho : Open4 cs) {id : Int} (hno : ∀ x ∈ cs, x.1 ≠ id) {f : XM → CM × Int} (hf : ∀ x, x.1 ≠ id → f x = x.2) : upd cs f = cs := by
  unfold upd
  rw [show cs.map (fun x => (x.1, f x)) = cs.map (fun x => x) from List.map_congr_left fun x hx => by rw [hf x (hno x hx)]]
  rw [List.map_id']
  exact alive_same ho
theorem onI_no {id : Int} {u : CM → CM} : ∀ x : XM, x.1 ≠ id → onI id u x = x.2 := fun x h => if_neg h
theorem ref_shut2 {g wb k gk : Nat} {most idle wm last : Int} {L : List Int} {A : Option Addr} {c : Nat} {cs : List XM} {ps : List PX} {x : XM} (y : XM) (z : PX) (hps : ps.map (fun q : PX => q.2) = cs) (hq : ps[k]? = some (gk, x)) (hz : heE z = heE (gk, y)) {h : PH}
    (s : star [cl g #[.int .i64 most, .int .u64 idle, ptrTo wb, .slice A ps.length c, .int .i64 last] 52, RowR wb wm L, Row heE 87 3 A c (ps.set k z), ConnR gk y.2.1, RL (ps.eraseIdx k)] h) : RefA g most idle wm last L (cs.set k y) h := by
  refine ⟨wb, A, c, ps.set k (gk, y), by rw [List.map_set, hps], ?_⟩
  rw [row_congr (enc := heE) (enc' := heE) (xs := ps.set k z) (ys := ps.set k (gk, y)) (by rw [List.map_set, List.map_set, hz])] at s
  rw [List.length_set]
  have s1 : star ([ConnR gk y.2.1, RL (ps.eraseIdx k)] ++ [cl g #[.int .i64 most, .int .u64 idle, ptrTo wb, .slice A ps.length c, .int .i64 last] 52, RowR wb wm L, Row heE 87 3 A c (ps.set k (gk, y))]) h :=
    star_perm (List.perm_append_comm (l₁ := [_, _, _]) (l₂ := [_, _])) s
  have s2 : star ([RL (ps.set k (gk, y))] ++ [cl g #[.int .i64 most, .int .u64 idle, ptrTo wb, .slice A ps.length c, .int .i64 last] 52, RowR wb wm L, Row heE 87 3 A c (ps.set k (gk, y))]) h :=
    star_imp_left (l := [ConnR gk y.2.1, RL (ps.eraseIdx k)]) (m := [RL (ps.set k (gk, y))]) (fun h s => ⟨h, fun _ => none, rl_give (gk, y) hq rfl s, trivial, fun _ => .inr rfl, Le.refl _, fun _ _ e => by cases e⟩) s1
  exact star_perm (List.perm_append_comm (l₁ := [_]) (l₂ := [_, _, _])) s2
theorem alive_rel {cs : List XM} (hs : (cs.map (·.1)).Pairwise (· < ·)) {id now : Int} {k : Nat} {c : CM} {si : Int} (hx : cs[k]? = some (id, c, si)) (hr : c.releases = true) : alive (cs.set k (id, c.release, now)) = upd cs (relU id now) := by
  unfold upd
  congr 1
  refine (set_map hs hx (c.release, now)).trans ?_
  refine List.map_congr_left fun y hy => ?_
  unfold relU
  by_cases e : y.1 = id
  · obtain ⟨j, hj⟩ := List.getElem?_of_mem hy
    have := uniq hs hx hj e
    subst this
    rw [hx] at hj
    cases hj
    simp [hr]
  · simp [e]
theorem relU_no {id now : Int} : ∀ x : XM, x.1 ≠ id → relU id now x = x.2 := fun x h => if_neg h
theorem upd_same {cs : List XM} (ho : Open4 cs) {f : XM → CM × Int} (hf : ∀ x ∈ cs, f x = x.2) : upd cs f = cs := by
  unfold upd
  rw [show cs.map (fun x => (x.1, f x)) = cs.map (fun x => x) from List.map_congr_left fun x hx => by rw [hf x hx]]
  rw [List.map_id']
  exact alive_same ho
theorem release_no {c : CM} (h : c.releases = false) : c.release = c := by
  unfold CM.release
  simp only [CM.releases, decide_eq_false_iff_not] at h
  rw [if_neg h]
theorem alive_set {cs : List XM} (hs : (cs.map (·.1)).Pairwise (· < ·)) {id : Int} {k : Nat} {c : CM} {si : Int} (hp : posOf cs id = some k) (hx : cs[k]? = some (id, c, si)) (u : CM → CM) : alive (cs.set k (id, u c, si)) = upd cs (onI id u) := by
  unfold upd
  rw [← setL_map hs]
  unfold setL
  simp only [hp, hx]
theorem T30 (w0 : World) {g nn : Nat} {p : PM} (id n : Int) (hw : Wf nn p) :
    Tri Tryz.prog w0 30 [ptrTo g, .int .i64 id, .int .u64 n] [RO g p] fun v m => v = .int .i64 (sendE p.cs id n) ∧ m = [RO g { p with cs := setL p.cs id (fun c => c.send n) }] := by
  have h6 := hw.h6
  have h67 : p.cs.length ≤ 7 := by omega
  have hs := hw.sorted
  have hop := hw.open_
  have hcon := hw.con
  obtain ⟨most, idle, wm, last, L, cs⟩ := p
  refine tri_of Tryz.func30 rfl rfl fun F => ?_
  simp only [Tryz.ntmps30, argEnv, List.cons_append, List.nil_append] at h6 h67 hs hop hcon ⊢
  cases hp : posOf cs id with
  | none =>
    have hfi : Tri Tryz.prog w0 61 [ptrTo g, .int .i64 id] [RefA g most idle wm last L cs] fun v m => v = .int .i64 (-1) ∧ m = [RefA g most idle wm last L cs] := by
      have := T61 w0 (g := g) (most := most) (idle := idle) (wm := wm) (last := last) (L := L) (cs := cs) id h67
      rwa [show findN cs id = -1 by unfold findN; rw [hp]] at this
    have hno := posOf_none hp
    rw [show sendE cs id n = 6 by unfold sendE; simp only [hp], show setL cs id (fun c => c.send n) = cs by unfold setL; simp only [hp]]
    refine at_seq_k (fun K0 hK0 => ?_)
    refine at_region ?_
    refine at_v (ov_assign rfl rfl) rfl rfl rfl ?_
    refine at_nil ?_
    refine at_normal ?_
    refine hK0 _ _ _ ?_
    refine at_seq_k (fun K1 hK1 => ?_)
    refine at_region ?_
    refine at_v (ov_move rfl rfl) rfl rfl rfl ?_
    refine at_v (ov_move rfl rfl) rfl rfl rfl ?_
    refine at_t (ot_call (ks := [0]) rfl rfl rfl Tryz.call61 rfl (hfi ) rfl) rfl rfl rfl ?_
    rintro v0 _ ⟨m0, hp0, rfl⟩
    obtain ⟨rfl, rfl⟩ := hp0
    simp only [List.cons_append, List.nil_append, splice, spliceL]
    refine at_v (ov_assign rfl rfl) rfl rfl rfl ?_
    refine at_nil ?_
    refine at_normal ?_
    refine hK1 _ _ _ ?_
    refine at_seq_k (fun K2 hK2 => ?_)
    refine at_seq_k (fun K3 hK3 => ?_)
    refine at_region ?_
    refine at_v (ov_move rfl rfl) rfl rfl rfl ?_
    refine at_v (ov_int rfl rfl rfl rfl) rfl rfl rfl ?_
    refine at_nil ?_
    refine at_normal ?_
    refine hK3 _ _ _ ?_
    refine at_cond_true rfl ?_
    refine at_seq_k (fun K4 hK4 => ?_)
    refine at_region ?_
    refine at_v (ov_assign rfl rfl) rfl rfl rfl ?_
    refine at_nil ?_
    refine at_normal ?_
    refine hK4 _ _ _ ?_
    refine at_ret ?_
    refine at_then_ret ?_
    refine at_end ?_
    refine at_fin (rsV rfl (res_tmp rfl)) ?_
    refine ⟨_, ⟨rfl, rfl⟩, ?_⟩
    exact fun _ s => s.finEq (ks := [0]) (js := []) rfl rfl rfl
  | some k =>
    obtain ⟨c, si, hx⟩ := posOf_some hp
    have hfi : Tri Tryz.prog w0 61 [ptrTo g, .int .i64 id] [RefA g most idle wm last L cs] fun v m => v = .int .i64 (k : Nat) ∧ m = [RefA g most idle wm last L cs] := by
      have := T61 w0 (g := g) (most := most) (idle := idle) (wm := wm) (last := last) (L := L) (cs := cs) id h67
      rwa [show findN cs id = k by unfold findN; rw [hp]] at this
    have hcw := hcon _ (List.mem_of_getElem? hx)
    simp only at hcw
    rw [show sendE cs id n = c.sendE n by unfold sendE; simp only [hp, hx], show setL cs id (fun c => c.send n) = cs.set k (id, c.send n, si) by unfold setL; simp only [hp, hx]]
    refine at_seq_k (fun K0 hK0 => ?_)
    refine at_region ?_
    refine at_v (ov_assign rfl rfl) rfl rfl rfl ?_
    refine at_nil ?_
    refine at_normal ?_
    refine hK0 _ _ _ ?_
    refine at_seq_k (fun K1 hK1 => ?_)
    refine at_region ?_
    refine at_v (ov_move rfl rfl) rfl rfl rfl ?_
    refine at_v (ov_move rfl rfl) rfl rfl rfl ?_
    refine at_t (ot_call (ks := [0]) rfl rfl rfl Tryz.call61 rfl (hfi ) rfl) rfl rfl rfl ?_
    rintro v0 _ ⟨m0, hp0, rfl⟩
    obtain ⟨rfl, rfl⟩ := hp0
    simp only [List.cons_append, List.nil_append, splice, spliceL]
    refine at_v (ov_assign rfl rfl) rfl rfl rfl ?_
    refine at_nil ?_
    refine at_normal ?_
    refine hK1 _ _ _ ?_
    refine at_seq_k (fun K2 hK2 => ?_)
    refine at_seq_k (fun K3 hK3 => ?_)
    refine at_region ?_
    refine at_v (ov_move rfl rfl) rfl rfl rfl ?_
    refine at_v (ov_int rfl rfl rfl rfl) rfl rfl rfl ?_
    refine at_nil ?_
    refine at_normal ?_
    refine hK3 _ _ _ ?_
    refine at_cond_false rfl ?_
    refine at_skip ?_
    refine at_normal ?_
    refine hK2 _ _ _ ?_
    refine at_seq_k (fun K4 hK4 => ?_)
    refine at_region ?_
    refine at_v (ov_move rfl rfl) rfl rfl rfl ?_
    refine at_v (ov_nilCheck rfl rfl) rfl rfl rfl ?_
    refine at_v (ov_fieldAddr (k := 3) (r := 3) rfl rfl rfl rfl) rfl rfl rfl ?_
    refine at_refK hx fun wb A c2 ps gk hps hq => ?_
    simp only [List.cons_append, List.nil_append]
    refine at_v (ov_load rfl rfl rfl (fun _ s => s.ld (k := 0) rfl rfl)) rfl rfl rfl ?_
    refine at_v (ov_move rfl rfl) rfl rfl rfl ?_
    refine at_v (ov_indexRd (fun _ s => s.rd (k := 2) rfl) rfl Tryz.underlying50 rfl rfl rfl hq) rfl rfl rfl ?_
    refine at_v (ov_fieldRd0 (k := 1) (fun _ s => s.rd (k := 2) rfl) rfl rfl hq rfl) rfl rfl rfl ?_
    refine at_v (ov_loadRd (fun _ s => s.rd (k := 2) rfl) rfl rfl rfl hq rfl) rfl rfl rfl ?_
    refine at_v (ov_move rfl rfl) rfl rfl rfl ?_
    refine at_t (ot_call (ks := [3]) rfl rfl rfl Tryz.call62 rfl (T62 _ _ _ _) rfl) rfl rfl rfl ?_
    rintro v0 _ ⟨m0, hp0, rfl⟩
    obtain ⟨rfl, rfl⟩ := hp0
    simp only [List.cons_append, List.nil_append, splice, spliceL]
    refine at_v (ov_assign rfl rfl) rfl rfl rfl ?_
    refine at_nil ?_
    refine at_normal ?_
    refine hK4 _ _ _ ?_
    refine at_ret ?_
    refine at_end ?_
    refine at_fold (A := RefA g most idle wm last L (cs.set k (id, c.send n, si))) [1, 1, 1, 0, 0] rfl (fun h s => ref_shut (wb := wb) (A := A) (c := c2) (id, c.send n, si) hps hq rfl rfl s) ?_
    refine at_fin (rsV rfl (res_tmp rfl)) ?_
    refine ⟨_, ⟨rfl, rfl⟩, ?_⟩
    exact fun _ s => s.finEq (ks := [0]) (js := []) rfl rfl rfl
theorem T31 (w0 : World) {g nn : Nat} {p : PM} (id n : Int) (hw : Wf nn p) :
    Tri Tryz.prog w0 31 [ptrTo g, .int .i64 id, .int .u64 n] [RO g p] fun v m => v = .bool (withB p.cs id (fun c => c.replies n)) ∧ m = [RO g { p with cs := upd p.cs (onI id (fun c => c.reply n)) }] := by
  have h6 := hw.h6
  have h67 : p.cs.length ≤ 7 := by omega
  have hs := hw.sorted
  have hop := hw.open_
  have hcon := hw.con
  obtain ⟨most, idle, wm, last, L, cs⟩ := p
  refine tri_of Tryz.func31 rfl rfl fun F => ?_
  simp only [Tryz.ntmps31, argEnv, List.cons_append, List.nil_append] at h6 h67 hs hop hcon ⊢
  cases hp : posOf cs id with
  | none =>
    have hfi : Tri Tryz.prog w0 61 [ptrTo g, .int .i64 id] [RefA g most idle wm last L cs] fun v m => v = .int .i64 (-1) ∧ m = [RefA g most idle wm last L cs] := by
      have := T61 w0 (g := g) (most := most) (idle := idle) (wm := wm) (last := last) (L := L) (cs := cs) id h67
      rwa [show findN cs id = -1 by unfold findN; rw [hp]] at this
    have hno := posOf_none hp
    rw [withB_none hp, upd_none hop hno onI_no]
    refine at_seq_k (fun K0 hK0 => ?_)
    refine at_region ?_
    refine at_v (ov_assign rfl rfl) rfl rfl rfl ?_
    refine at_nil ?_
    refine at_normal ?_
    refine hK0 _ _ _ ?_
    refine at_seq_k (fun K1 hK1 => ?_)
    refine at_region ?_
    refine at_v (ov_move rfl rfl) rfl rfl rfl ?_
    refine at_v (ov_move rfl rfl) rfl rfl rfl ?_
    refine at_t (ot_call (ks := [0]) rfl rfl rfl Tryz.call61 rfl (hfi ) rfl) rfl rfl rfl ?_
    rintro v0 _ ⟨m0, hp0, rfl⟩
    obtain ⟨rfl, rfl⟩ := hp0
    simp only [List.cons_append, List.nil_append, splice, spliceL]
    refine at_v (ov_assign rfl rfl) rfl rfl rfl ?_
    refine at_nil ?_
    refine at_normal ?_
    refine hK1 _ _ _ ?_
    refine at_seq_k (fun K2 hK2 => ?_)
    refine at_seq_k (fun K3 hK3 => ?_)
    refine at_region ?_
    refine at_v (ov_move rfl rfl) rfl rfl rfl ?_
    refine at_v (ov_int rfl rfl rfl rfl) rfl rfl rfl ?_
    refine at_nil ?_
    refine at_normal ?_
    refine hK3 _ _ _ ?_
    refine at_cond_true rfl ?_
    refine at_seq_k (fun K4 hK4 => ?_)
    refine at_region ?_
    refine at_v (ov_assign rfl rfl) rfl rfl rfl ?_
    refine at_nil ?_
    refine at_normal ?_
    refine hK4 _ _ _ ?_
    refine at_ret ?_
    refine at_then_ret ?_
    refine at_end ?_
    refine at_fin (rsV rfl (res_tmp rfl)) ?_
    refine ⟨_, ⟨rfl, rfl⟩, ?_⟩
    exact fun _ s => s.finEq (ks := [0]) (js := []) rfl rfl rfl
  | some k =>
    obtain ⟨c, si, hx⟩ := posOf_some hp
    have hfi : Tri Tryz.prog w0 61 [ptrTo g, .int .i64 id] [RefA g most idle wm last L cs] fun v m => v = .int .i64 (k : Nat) ∧ m = [RefA g most idle wm last L cs] := by
      have := T61 w0 (g := g) (most := most) (idle := idle) (wm := wm) (last := last) (L := L) (cs := cs) id h67
      rwa [show findN cs id = k by unfold findN; rw [hp]] at this
    have hcw := hcon _ (List.mem_of_getElem? hx)
    simp only at hcw
    rw [withB_some hp hx]
    refine at_seq_k (fun K0 hK0 => ?_)
    refine at_region ?_
    refine at_v (ov_assign rfl rfl) rfl rfl rfl ?_
    refine at_nil ?_
    refine at_normal ?_
    refine hK0 _ _ _ ?_
    refine at_seq_k (fun K1 hK1 => ?_)
    refine at_region ?_
    refine at_v (ov_move rfl rfl) rfl rfl rfl ?_
    refine at_v (ov_move rfl rfl) rfl rfl rfl ?_
    refine at_t (ot_call (ks := [0]) rfl rfl rfl Tryz.call61 rfl (hfi ) rfl) rfl rfl rfl ?_
    rintro v0 _ ⟨m0, hp0, rfl⟩
    obtain ⟨rfl, rfl⟩ := hp0
    simp only [List.cons_append, List.nil_append, splice, spliceL]
    refine at_v (ov_assign rfl rfl) rfl rfl rfl ?_
    refine at_nil ?_
    refine at_normal ?_
    refine hK1 _ _ _ ?_
    refine at_seq_k (fun K2 hK2 => ?_)
    refine at_seq_k (fun K3 hK3 => ?_)
    refine at_region ?_
    refine at_v (ov_move rfl rfl) rfl rfl rfl ?_
    refine at_v (ov_int rfl rfl rfl rfl) rfl rfl rfl ?_
    refine at_nil ?_
    refine at_normal ?_
    refine hK3 _ _ _ ?_
    refine at_cond_false rfl ?_
    refine at_skip ?_
    refine at_normal ?_
    refine hK2 _ _ _ ?_
    refine at_seq_k (fun K4 hK4 => ?_)
    refine at_region ?_
    refine at_v (ov_move rfl rfl) rfl rfl rfl ?_
    refine at_v (ov_nilCheck rfl rfl) rfl rfl rfl ?_
    refine at_v (ov_fieldAddr (k := 3) (r := 3) rfl rfl rfl rfl) rfl rfl rfl ?_
    refine at_refK hx fun wb A c2 ps gk hps hq => ?_
    simp only [List.cons_append, List.nil_append]
    refine at_v (ov_load rfl rfl rfl (fun _ s => s.ld (k := 0) rfl rfl)) rfl rfl rfl ?_
    refine at_v (ov_move rfl rfl) rfl rfl rfl ?_
    refine at_v (ov_indexRd (fun _ s => s.rd (k := 2) rfl) rfl Tryz.underlying50 rfl rfl rfl hq) rfl rfl rfl ?_
    refine at_v (ov_fieldRd0 (k := 1) (fun _ s => s.rd (k := 2) rfl) rfl rfl hq rfl) rfl rfl rfl ?_
    refine at_v (ov_loadRd (fun _ s => s.rd (k := 2) rfl) rfl rfl rfl hq rfl) rfl rfl rfl ?_
    refine at_v (ov_move rfl rfl) rfl rfl rfl ?_
    refine at_t (ot_call (ks := [3]) rfl rfl rfl Tryz.call63 rfl (T63 _ _ _ _) rfl) rfl rfl rfl ?_
    rintro v0 _ ⟨m0, hp0, rfl⟩
    obtain ⟨rfl, rfl⟩ := hp0
    simp only [List.cons_append, List.nil_append, splice, spliceL]
    refine at_v (ov_assign rfl rfl) rfl rfl rfl ?_
    refine at_nil ?_
    refine at_normal ?_
    refine hK4 _ _ _ ?_
    refine at_seq_k (fun K5 hK5 => ?_)
    refine at_region ?_
    refine at_v (ov_move rfl rfl) rfl rfl rfl ?_
    refine at_fold (A := RefA g most idle wm last L (cs.set k (id, c.reply n, si))) [1, 1, 1, 0, 0] rfl (fun h s => ref_shut (wb := wb) (A := A) (c := c2) (id, c.reply n, si) hps hq rfl rfl s) ?_
    have hl2 : (cs.set k (id, c.reply n, si)).length ≤ 7 := by rw [List.length_set]; omega
    refine at_t (ot_call (ks := [0]) rfl rfl rfl Tryz.call64 rfl (T64 _ (by first | assumption | rfl | omega | decide | (simp; done) | (simp at *; omega))) rfl) rfl rfl rfl ?_
    rintro v0 _ ⟨m0, hp0, rfl⟩
    obtain ⟨rfl, rfl⟩ := hp0
    simp only [List.cons_append, List.nil_append, splice, spliceL]
    refine at_nil ?_
    refine at_normal ?_
    refine hK5 _ _ _ ?_
    refine at_seq_k (fun K6 hK6 => ?_)
    refine at_region ?_
    refine at_v (ov_move rfl rfl) rfl rfl rfl ?_
    refine at_v (ov_assign rfl rfl) rfl rfl rfl ?_
    refine at_nil ?_
    refine at_normal ?_
    refine hK6 _ _ _ ?_
    refine at_ret ?_
    refine at_end ?_
    rw [alive_set hs hp hx (fun c => c.reply n)]
    refine at_fin (rsV rfl (res_tmp rfl)) ?_
    refine ⟨_, ⟨rfl, rfl⟩, ?_⟩
    exact fun _ s => s.finEq (ks := [0]) (js := []) rfl rfl rfl
theorem T32 (w0 : World) {g nn : Nat} {p : PM} (id : Int) (hw : Wf nn p) :
    Tri Tryz.prog w0 32 [ptrTo g, .int .i64 id] [RO g p] fun v m => v = .bool (withB p.cs id CM.soils) ∧ m = [RO g { p with cs := setL p.cs id CM.soil }] := by
  have h6 := hw.h6
  have h67 : p.cs.length ≤ 7 := by omega
  have hs := hw.sorted
  have hop := hw.open_
  have hcon := hw.con
  obtain ⟨most, idle, wm, last, L, cs⟩ := p
  refine tri_of Tryz.func32 rfl rfl fun F => ?_
  simp only [Tryz.ntmps32, argEnv, List.cons_append, List.nil_append] at h6 h67 hs hop hcon ⊢
  cases hp : posOf cs id with
  | none =>
    have hfi : Tri Tryz.prog w0 61 [ptrTo g, .int .i64 id] [RefA g most idle wm last L cs] fun v m => v = .int .i64 (-1) ∧ m = [RefA g most idle wm last L cs] := by
      have := T61 w0 (g := g) (most := most) (idle := idle) (wm := wm) (last := last) (L := L) (cs := cs) id h67
      rwa [show findN cs id = -1 by unfold findN; rw [hp]] at this
    have hno := posOf_none hp
    rw [withB_none hp, show setL cs id CM.soil = cs by unfold setL; simp only [hp]]
    refine at_seq_k (fun K0 hK0 => ?_)
    refine at_region ?_
    refine at_v (ov_assign rfl rfl) rfl rfl rfl ?_
    refine at_nil ?_
    refine at_normal ?_
    refine hK0 _ _ _ ?_
    refine at_seq_k (fun K1 hK1 => ?_)
    refine at_region ?_
    refine at_v (ov_move rfl rfl) rfl rfl rfl ?_
    refine at_v (ov_move rfl rfl) rfl rfl rfl ?_
    refine at_t (ot_call (ks := [0]) rfl rfl rfl Tryz.call61 rfl (hfi ) rfl) rfl rfl rfl ?_
    rintro v0 _ ⟨m0, hp0, rfl⟩
    obtain ⟨rfl, rfl⟩ := hp0
    simp only [List.cons_append, List.nil_append, splice, spliceL]
    refine at_v (ov_assign rfl rfl) rfl rfl rfl ?_
    refine at_nil ?_
    refine at_normal ?_
    refine hK1 _ _ _ ?_
    refine at_seq_k (fun K2 hK2 => ?_)
    refine at_region ?_
    refine at_v (ov_move rfl rfl) rfl rfl rfl ?_
    refine at_v (ov_int rfl rfl rfl rfl) rfl rfl rfl ?_
    refine at_v (ov_move rfl rfl) rfl rfl rfl ?_
    refine at_unwanted (j := 2) rfl rfl rfl rfl ?_
    refine at_unwanted (j := 2) rfl rfl rfl rfl ?_
    refine at_unwanted (j := 2) rfl rfl rfl rfl ?_
    refine at_unwanted (j := 2) rfl rfl rfl rfl ?_
    refine at_unwanted (j := 2) rfl rfl rfl rfl ?_
    refine at_unwanted (j := 2) rfl rfl rfl rfl ?_
    refine at_unwanted (j := 2) rfl rfl rfl rfl ?_
    refine at_unwanted (j := 2) rfl rfl rfl rfl ?_
    refine at_unwanted (j := 2) rfl rfl rfl rfl ?_
    refine at_v (ov_pick_f rfl rfl rfl) rfl rfl rfl ?_
    refine at_v (ov_assign rfl rfl) rfl rfl rfl ?_
    refine at_nil ?_
    refine at_normal ?_
    refine hK2 _ _ _ ?_
    refine at_ret ?_
    refine at_end ?_
    refine at_fin (rsV rfl (res_tmp rfl)) ?_
    refine ⟨_, ⟨rfl, rfl⟩, ?_⟩
    exact fun _ s => s.finEq (ks := [0]) (js := []) rfl rfl rfl
  | some k =>
    obtain ⟨c, si, hx⟩ := posOf_some hp
    have hfi : Tri Tryz.prog w0 61 [ptrTo g, .int .i64 id] [RefA g most idle wm last L cs] fun v m => v = .int .i64 (k : Nat) ∧ m = [RefA g most idle wm last L cs] := by
      have := T61 w0 (g := g) (most := most) (idle := idle) (wm := wm) (last := last) (L := L) (cs := cs) id h67
      rwa [show findN cs id = k by unfold findN; rw [hp]] at this
    have hcw := hcon _ (List.mem_of_getElem? hx)
    simp only at hcw
    rw [withB_some hp hx, show setL cs id CM.soil = cs.set k (id, c.soil, si) by unfold setL; simp only [hp, hx]]
    refine at_seq_k (fun K0 hK0 => ?_)
    refine at_region ?_
    refine at_v (ov_assign rfl rfl) rfl rfl rfl ?_
    refine at_nil ?_
    refine at_normal ?_
    refine hK0 _ _ _ ?_
    refine at_seq_k (fun K1 hK1 => ?_)
    refine at_region ?_
    refine at_v (ov_move rfl rfl) rfl rfl rfl ?_
    refine at_v (ov_move rfl rfl) rfl rfl rfl ?_
    refine at_t (ot_call (ks := [0]) rfl rfl rfl Tryz.call61 rfl (hfi ) rfl) rfl rfl rfl ?_
    rintro v0 _ ⟨m0, hp0, rfl⟩
    obtain ⟨rfl, rfl⟩ := hp0
    simp only [List.cons_append, List.nil_append, splice, spliceL]
    refine at_v (ov_assign rfl rfl) rfl rfl rfl ?_
    refine at_nil ?_
    refine at_normal ?_
    refine hK1 _ _ _ ?_
    refine at_seq_k (fun K2 hK2 => ?_)
    refine at_region ?_
    refine at_v (ov_move rfl rfl) rfl rfl rfl ?_
    refine at_v (ov_int rfl rfl rfl rfl) rfl rfl rfl ?_
    refine at_v (ov_move rfl rfl) rfl rfl rfl ?_
    refine at_wanted (j := 2) rfl ?_
    refine at_v (ov_move rfl rfl) rfl rfl rfl ?_
    refine at_wanted (j := 2) rfl ?_
    refine at_v (ov_nilCheck rfl rfl) rfl rfl rfl ?_
    refine at_wanted (j := 2) rfl ?_
    refine at_v (ov_fieldAddr (k := 3) (r := 3) rfl rfl rfl rfl) rfl rfl rfl ?_
    refine at_wanted (j := 2) rfl ?_
    refine at_refK hx fun wb A c2 ps gk hps hq => ?_
    simp only [List.cons_append, List.nil_append]
    refine at_v (ov_load rfl rfl rfl (fun _ s => s.ld (k := 0) rfl rfl)) rfl rfl rfl ?_
    refine at_wanted (j := 2) rfl ?_
    refine at_v (ov_move rfl rfl) rfl rfl rfl ?_
    refine at_wanted (j := 2) rfl ?_
    refine at_v (ov_indexRd (fun _ s => s.rd (k := 2) rfl) rfl Tryz.underlying50 rfl rfl rfl hq) rfl rfl rfl ?_
    refine at_wanted (j := 2) rfl ?_
    refine at_v (ov_fieldRd0 (k := 1) (fun _ s => s.rd (k := 2) rfl) rfl rfl hq rfl) rfl rfl rfl ?_
    refine at_wanted (j := 2) rfl ?_
    refine at_v (ov_loadRd (fun _ s => s.rd (k := 2) rfl) rfl rfl rfl hq rfl) rfl rfl rfl ?_
    refine at_wanted (j := 2) rfl ?_
    refine at_t (ot_call (ks := [3]) rfl rfl rfl Tryz.call65 rfl (T65 _ _ _) rfl) rfl rfl rfl ?_
    rintro v0 _ ⟨m0, hp0, rfl⟩
    obtain ⟨rfl, rfl⟩ := hp0
    simp only [List.cons_append, List.nil_append, splice, spliceL]
    refine at_v (ov_pick_t rfl rfl rfl) rfl rfl rfl ?_
    refine at_v (ov_assign rfl rfl) rfl rfl rfl ?_
    refine at_nil ?_
    refine at_normal ?_
    refine hK2 _ _ _ ?_
    refine at_ret ?_
    refine at_end ?_
    refine at_fold (A := RefA g most idle wm last L (cs.set k (id, c.soil, si))) [1, 1, 1, 0, 0] rfl (fun h s => ref_shut (wb := wb) (A := A) (c := c2) (id, c.soil, si) hps hq rfl rfl s) ?_
    refine at_fin (rsV rfl (res_tmp rfl)) ?_
    refine ⟨_, ⟨rfl, rfl⟩, ?_⟩
    exact fun _ s => s.finEq (ks := [0]) (js := []) rfl rfl rfl
theorem T34 (w0 : World) {g nn : Nat} {p : PM} (id : Int) (hw : Wf nn p) :
    Tri Tryz.prog w0 34 [ptrTo g, .int .i64 id] [RO g p] fun v m => v = .tuple #[.int .u64 (breakM p.cs id).1, .int .i64 (breakM p.cs id).2.1, .bool (breakM p.cs id).2.2] ∧ m = [RO g { p with cs := upd p.cs (onI id CM.close) }] := by
  have h6 := hw.h6
  have h67 : p.cs.length ≤ 7 := by omega
  have hs := hw.sorted
  have hop := hw.open_
  have hcon := hw.con
  obtain ⟨most, idle, wm, last, L, cs⟩ := p
  refine tri_of Tryz.func34 rfl rfl fun F => ?_
  simp only [Tryz.ntmps34, argEnv, List.cons_append, List.nil_append] at h6 h67 hs hop hcon ⊢
  cases hp : posOf cs id with
  | none =>
    have hfi : Tri Tryz.prog w0 61 [ptrTo g, .int .i64 id] [RefA g most idle wm last L cs] fun v m => v = .int .i64 (-1) ∧ m = [RefA g most idle wm last L cs] := by
      have := T61 w0 (g := g) (most := most) (idle := idle) (wm := wm) (last := last) (L := L) (cs := cs) id h67
      rwa [show findN cs id = -1 by unfold findN; rw [hp]] at this
    have hno := posOf_none hp
    rw [show breakM cs id = (0, 0, false) by unfold breakM; simp only [hp], upd_none hop hno onI_no]
    refine at_seq_k (fun K0 hK0 => ?_)
    refine at_region ?_
    refine at_v (ov_assign rfl rfl) rfl rfl rfl ?_
    refine at_v (ov_assign rfl rfl) rfl rfl rfl ?_
    refine at_v (ov_assign rfl rfl) rfl rfl rfl ?_
    refine at_nil ?_
    refine at_normal ?_
    refine hK0 _ _ _ ?_
    refine at_seq_k (fun K1 hK1 => ?_)
    refine at_region ?_
    refine at_v (ov_move rfl rfl) rfl rfl rfl ?_
    refine at_v (ov_move rfl rfl) rfl rfl rfl ?_
    refine at_t (ot_call (ks := [0]) rfl rfl rfl Tryz.call61 rfl (hfi ) rfl) rfl rfl rfl ?_
    rintro v0 _ ⟨m0, hp0, rfl⟩
    obtain ⟨rfl, rfl⟩ := hp0
    simp only [List.cons_append, List.nil_append, splice, spliceL]
    refine at_v (ov_assign rfl rfl) rfl rfl rfl ?_
    refine at_nil ?_
    refine at_normal ?_
    refine hK1 _ _ _ ?_
    refine at_seq_k (fun K2 hK2 => ?_)
    refine at_seq_k (fun K3 hK3 => ?_)
    refine at_region ?_
    refine at_v (ov_move rfl rfl) rfl rfl rfl ?_
    refine at_v (ov_int rfl rfl rfl rfl) rfl rfl rfl ?_
    refine at_nil ?_
    refine at_normal ?_
    refine hK3 _ _ _ ?_
    refine at_cond_true rfl ?_
    refine at_seq_k (fun K4 hK4 => ?_)
    refine at_region ?_
    refine at_v (ov_assign rfl rfl) rfl rfl rfl ?_
    refine at_v (ov_assign rfl rfl) rfl rfl rfl ?_
    refine at_v (ov_assign rfl rfl) rfl rfl rfl ?_
    refine at_nil ?_
    refine at_normal ?_
    refine hK4 _ _ _ ?_
    refine at_ret ?_
    refine at_then_ret ?_
    refine at_end ?_
    refine at_fin (rsL (vs := [_, _, _]) rfl ⟨res_tmp rfl, res_tmp rfl, res_tmp rfl, trivial⟩ rfl) ?_
    refine ⟨_, ⟨rfl, rfl⟩, ?_⟩
    exact fun _ s => s.finEq (ks := [0]) (js := []) rfl rfl rfl
  | some k =>
    obtain ⟨c, si, hx⟩ := posOf_some hp
    have hfi : Tri Tryz.prog w0 61 [ptrTo g, .int .i64 id] [RefA g most idle wm last L cs] fun v m => v = .int .i64 (k : Nat) ∧ m = [RefA g most idle wm last L cs] := by
      have := T61 w0 (g := g) (most := most) (idle := idle) (wm := wm) (last := last) (L := L) (cs := cs) id h67
      rwa [show findN cs id = k by unfold findN; rw [hp]] at this
    have hcw := hcon _ (List.mem_of_getElem? hx)
    simp only at hcw
    rw [show breakM cs id = (c.f, max c.o 0, true) by unfold breakM; simp only [hp, hx]]
    refine at_seq_k (fun K0 hK0 => ?_)
    refine at_region ?_
    refine at_v (ov_assign rfl rfl) rfl rfl rfl ?_
    refine at_v (ov_assign rfl rfl) rfl rfl rfl ?_
    refine at_v (ov_assign rfl rfl) rfl rfl rfl ?_
    refine at_nil ?_
    refine at_normal ?_
    refine hK0 _ _ _ ?_
    refine at_seq_k (fun K1 hK1 => ?_)
    refine at_region ?_
    refine at_v (ov_move rfl rfl) rfl rfl rfl ?_
    refine at_v (ov_move rfl rfl) rfl rfl rfl ?_
    refine at_t (ot_call (ks := [0]) rfl rfl rfl Tryz.call61 rfl (hfi ) rfl) rfl rfl rfl ?_
    rintro v0 _ ⟨m0, hp0, rfl⟩
    obtain ⟨rfl, rfl⟩ := hp0
    simp only [List.cons_append, List.nil_append, splice, spliceL]
    refine at_v (ov_assign rfl rfl) rfl rfl rfl ?_
    refine at_nil ?_
    refine at_normal ?_
    refine hK1 _ _ _ ?_
    refine at_seq_k (fun K2 hK2 => ?_)
    refine at_seq_k (fun K3 hK3 => ?_)
    refine at_region ?_
    refine at_v (ov_move rfl rfl) rfl rfl rfl ?_
    refine at_v (ov_int rfl rfl rfl rfl) rfl rfl rfl ?_
    refine at_nil ?_
    refine at_normal ?_
    refine hK3 _ _ _ ?_
    refine at_cond_false rfl ?_
    refine at_skip ?_
    refine at_normal ?_
    refine hK2 _ _ _ ?_
    refine at_seq_k (fun K4 hK4 => ?_)
    refine at_region ?_
    refine at_v (ov_move rfl rfl) rfl rfl rfl ?_
    refine at_v (ov_nilCheck rfl rfl) rfl rfl rfl ?_
    refine at_v (ov_fieldAddr (k := 3) (r := 3) rfl rfl rfl rfl) rfl rfl rfl ?_
    refine at_refK hx fun wb A c2 ps gk hps hq => ?_
    simp only [List.cons_append, List.nil_append]
    refine at_v (ov_load rfl rfl rfl (fun _ s => s.ld (k := 0) rfl rfl)) rfl rfl rfl ?_
    refine at_v (ov_move rfl rfl) rfl rfl rfl ?_
    refine at_v (ov_indexRd (fun _ s => s.rd (k := 2) rfl) rfl Tryz.underlying50 rfl rfl rfl hq) rfl rfl rfl ?_
    refine at_v (ov_fieldRd0 (k := 1) (fun _ s => s.rd (k := 2) rfl) rfl rfl hq rfl) rfl rfl rfl ?_
    refine at_v (ov_loadRd (fun _ s => s.rd (k := 2) rfl) rfl rfl rfl hq rfl) rfl rfl rfl ?_
    refine at_v (ov_nilCheck rfl rfl) rfl rfl rfl ?_
    refine at_v (ov_fieldAddr (k := 2) (r := 2) rfl rfl rfl rfl) rfl rfl rfl ?_
    refine at_v (ov_load rfl rfl rfl (fun _ s => s.ld (k := 3) rfl rfl)) rfl rfl rfl ?_
    refine at_v (ov_assign rfl rfl) rfl rfl rfl ?_
    refine at_nil ?_
    refine at_normal ?_
    refine hK4 _ _ _ ?_
    refine at_seq_k (fun K5 hK5 => ?_)
    refine at_region ?_
    refine at_v (ov_move rfl rfl) rfl rfl rfl ?_
    refine at_v (ov_nilCheck rfl rfl) rfl rfl rfl ?_
    refine at_v (ov_fieldAddr (k := 3) (r := 3) rfl rfl rfl rfl) rfl rfl rfl ?_
    refine at_v (ov_load rfl rfl rfl (fun _ s => s.ld (k := 0) rfl rfl)) rfl rfl rfl ?_
    refine at_v (ov_move rfl rfl) rfl rfl rfl ?_
    refine at_v (ov_indexRd (fun _ s => s.rd (k := 2) rfl) rfl Tryz.underlying50 rfl rfl rfl hq) rfl rfl rfl ?_
    refine at_v (ov_fieldRd0 (k := 1) (fun _ s => s.rd (k := 2) rfl) rfl rfl hq rfl) rfl rfl rfl ?_
    refine at_v (ov_loadRd (fun _ s => s.rd (k := 2) rfl) rfl rfl rfl hq rfl) rfl rfl rfl ?_
    refine at_t (ot_call (ks := [3]) rfl rfl rfl Tryz.call67 rfl (T67 _ _ _) rfl) rfl rfl rfl ?_
    rintro v0 _ ⟨m0, hp0, rfl⟩
    obtain ⟨rfl, rfl⟩ := hp0
    simp only [List.cons_append, List.nil_append, splice, spliceL]
    refine at_v (ov_assign rfl rfl) rfl rfl rfl ?_
    refine at_nil ?_
    refine at_normal ?_
    refine hK5 _ _ _ ?_
    refine at_seq_k (fun K6 hK6 => ?_)
    refine at_region ?_
    refine at_v (ov_move rfl rfl) rfl rfl rfl ?_
    refine at_fold (A := RefA g most idle wm last L (cs.set k (id, c.close, si))) [1, 1, 1, 0, 0] rfl (fun h s => ref_shut (wb := wb) (A := A) (c := c2) (id, c.close, si) hps hq rfl rfl s) ?_
    have hl2 : (cs.set k (id, c.close, si)).length ≤ 7 := by rw [List.length_set]; omega
    refine at_t (ot_call (ks := [0]) rfl rfl rfl Tryz.call64 rfl (T64 _ (by first | assumption | rfl | omega | decide | (simp; done) | (simp at *; omega))) rfl) rfl rfl rfl ?_
    rintro v0 _ ⟨m0, hp0, rfl⟩
    obtain ⟨rfl, rfl⟩ := hp0
    simp only [List.cons_append, List.nil_append, splice, spliceL]
    refine at_nil ?_
    refine at_normal ?_
    refine hK6 _ _ _ ?_
    refine at_seq_k (fun K7 hK7 => ?_)
    refine at_region ?_
    refine at_v (ov_move rfl rfl) rfl rfl rfl ?_
    refine at_v (ov_move rfl rfl) rfl rfl rfl ?_
    refine at_v (ov_assign rfl rfl) rfl rfl rfl ?_
    refine at_v (ov_assign rfl rfl) rfl rfl rfl ?_
    refine at_v (ov_assign rfl rfl) rfl rfl rfl ?_
    refine at_nil ?_
    refine at_normal ?_
    refine hK7 _ _ _ ?_
    refine at_ret ?_
    refine at_end ?_
    rw [alive_set hs hp hx CM.close]
    refine at_fin (rsL (vs := [_, _, _]) rfl ⟨res_tmp rfl, res_tmp rfl, res_tmp rfl, trivial⟩ rfl) ?_
    refine ⟨_, ⟨rfl, rfl⟩, ?_⟩
    exact fun _ s => s.finEq (ks := [0]) (js := []) rfl rfl rfl
theorem T33 (w0 : World) {g nn : Nat} {p : PM} (id now : Int) (hw : Wf nn p) :
    Tri Tryz.prog w0 33 [ptrTo g, .int .i64 id, .int .u64 now] [RO g p] fun v m => v = .bool (withB p.cs id CM.releases) ∧ m = [RO g { p with cs := upd p.cs (relU id now) }] := by
  have h6 := hw.h6
  have h67 : p.cs.length ≤ 7 := by omega
  have hs := hw.sorted
  have hop := hw.open_
  have hcon := hw.con
  obtain ⟨most, idle, wm, last, L, cs⟩ := p
  refine tri_of Tryz.func33 rfl rfl fun F => ?_
  simp only [Tryz.ntmps33, argEnv, List.cons_append, List.nil_append] at h6 h67 hs hop hcon ⊢
  cases hp : posOf cs id with
  | none =>
    have hfi : Tri Tryz.prog w0 61 [ptrTo g, .int .i64 id] [RefA g most idle wm last L cs] fun v m => v = .int .i64 (-1) ∧ m = [RefA g most idle wm last L cs] := by
      have := T61 w0 (g := g) (most := most) (idle := idle) (wm := wm) (last := last) (L := L) (cs := cs) id h67
      rwa [show findN cs id = -1 by unfold findN; rw [hp]] at this
    have hno := posOf_none hp
    rw [withB_none hp, upd_none hop hno (relU_no (now := now))]
    refine at_seq_k (fun K0 hK0 => ?_)
    refine at_region ?_
    refine at_v (ov_assign rfl rfl) rfl rfl rfl ?_
    refine at_nil ?_
    refine at_normal ?_
    refine hK0 _ _ _ ?_
    refine at_seq_k (fun K1 hK1 => ?_)
    refine at_region ?_
    refine at_v (ov_move rfl rfl) rfl rfl rfl ?_
    refine at_v (ov_move rfl rfl) rfl rfl rfl ?_
    refine at_t (ot_call (ks := [0]) rfl rfl rfl Tryz.call61 rfl (hfi ) rfl) rfl rfl rfl ?_
    rintro v0 _ ⟨m0, hp0, rfl⟩
    obtain ⟨rfl, rfl⟩ := hp0
    simp only [List.cons_append, List.nil_append, splice, spliceL]
    refine at_v (ov_assign rfl rfl) rfl rfl rfl ?_
    refine at_nil ?_
    refine at_normal ?_
    refine hK1 _ _ _ ?_
    refine at_seq_k (fun K2 hK2 => ?_)
    refine at_seq_k (fun K3 hK3 => ?_)
    refine at_region ?_
    refine at_v (ov_move rfl rfl) rfl rfl rfl ?_
    refine at_v (ov_int rfl rfl rfl rfl) rfl rfl rfl ?_
    refine at_v (ov_move rfl rfl) rfl rfl rfl ?_
    refine at_unwanted (j := 2) rfl rfl rfl rfl ?_
    refine at_unwanted (j := 2) rfl rfl rfl rfl ?_
    refine at_unwanted (j := 2) rfl rfl rfl rfl ?_
    refine at_unwanted (j := 2) rfl rfl rfl rfl ?_
    refine at_unwanted (j := 2) rfl rfl rfl rfl ?_
    refine at_unwanted (j := 2) rfl rfl rfl rfl ?_
    refine at_unwanted (j := 2) rfl rfl rfl rfl ?_
    refine at_unwanted (j := 2) rfl rfl rfl rfl ?_
    refine at_unwanted (j := 2) rfl rfl rfl rfl ?_
    refine at_unwanted (j := 2) rfl rfl rfl rfl ?_
    refine at_v (ov_pick_t rfl rfl rfl) rfl rfl rfl ?_
    refine at_nil ?_
    refine at_normal ?_
    refine hK3 _ _ _ ?_
    refine at_cond_true rfl ?_
    refine at_seq_k (fun K4 hK4 => ?_)
    refine at_region ?_
    refine at_v (ov_assign rfl rfl) rfl rfl rfl ?_
    refine at_nil ?_
    refine at_normal ?_
    refine hK4 _ _ _ ?_
    refine at_ret ?_
    refine at_then_ret ?_
    refine at_end ?_
    refine at_fin (rsV rfl (res_tmp rfl)) ?_
    refine ⟨_, ⟨rfl, rfl⟩, ?_⟩
    exact fun _ s => s.finEq (ks := [0]) (js := []) rfl rfl rfl
  | some k =>
    obtain ⟨c, si, hx⟩ := posOf_some hp
    have hfi : Tri Tryz.prog w0 61 [ptrTo g, .int .i64 id] [RefA g most idle wm last L cs] fun v m => v = .int .i64 (k : Nat) ∧ m = [RefA g most idle wm last L cs] := by
      have := T61 w0 (g := g) (most := most) (idle := idle) (wm := wm) (last := last) (L := L) (cs := cs) id h67
      rwa [show findN cs id = k by unfold findN; rw [hp]] at this
    have hcw := hcon _ (List.mem_of_getElem? hx)
    simp only at hcw
    rw [withB_some hp hx]
    refine at_seq_k (fun K0 hK0 => ?_)
    refine at_region ?_
    refine at_v (ov_assign rfl rfl) rfl rfl rfl ?_
    refine at_nil ?_
    refine at_normal ?_
    refine hK0 _ _ _ ?_
    refine at_seq_k (fun K1 hK1 => ?_)
    refine at_region ?_
    refine at_v (ov_move rfl rfl) rfl rfl rfl ?_
    refine at_v (ov_move rfl rfl) rfl rfl rfl ?_
    refine at_t (ot_call (ks := [0]) rfl rfl rfl Tryz.call61 rfl (hfi ) rfl) rfl rfl rfl ?_
    rintro v0 _ ⟨m0, hp0, rfl⟩
    obtain ⟨rfl, rfl⟩ := hp0
    simp only [List.cons_append, List.nil_append, splice, spliceL]
    refine at_v (ov_assign rfl rfl) rfl rfl rfl ?_
    refine at_nil ?_
    refine at_normal ?_
    refine hK1 _ _ _ ?_
    refine at_seq_k (fun K2 hK2 => ?_)
    refine at_seq_k (fun K3 hK3 => ?_)
    refine at_region ?_
    refine at_v (ov_move rfl rfl) rfl rfl rfl ?_
    refine at_v (ov_int rfl rfl rfl rfl) rfl rfl rfl ?_
    refine at_v (ov_move rfl rfl) rfl rfl rfl ?_
    refine at_wanted (j := 2) rfl ?_
    refine at_v (ov_move rfl rfl) rfl rfl rfl ?_
    refine at_wanted (j := 2) rfl ?_
    refine at_v (ov_nilCheck rfl rfl) rfl rfl rfl ?_
    refine at_wanted (j := 2) rfl ?_
    refine at_v (ov_fieldAddr (k := 3) (r := 3) rfl rfl rfl rfl) rfl rfl rfl ?_
    refine at_wanted (j := 2) rfl ?_
    refine at_refK hx fun wb A c2 ps gk hps hq => ?_
    simp only [List.cons_append, List.nil_append]
    cases hi4 : c.releases with
    | false =>
      have hrc := release_no hi4
      have hsame : upd cs (relU id now) = cs := upd_same hop fun x hx2 => by
        unfold relU
        by_cases e : x.1 = id
        · rw [if_pos e]
          obtain ⟨j, hj⟩ := List.getElem?_of_mem hx2
          have := uniq hs hx hj e
          subst this
          rw [hx] at hj
          simp only [Option.some.injEq] at hj
          rw [← hj]
          simp only [hrc, hi4, Bool.false_eq_true, if_false]
        · rw [if_neg e]
      refine at_v (ov_load rfl rfl rfl (fun _ s => s.ld (k := 0) rfl rfl)) rfl rfl rfl ?_
      refine at_wanted (j := 2) rfl ?_
      refine at_v (ov_move rfl rfl) rfl rfl rfl ?_
      refine at_wanted (j := 2) rfl ?_
      refine at_v (ov_indexRd (fun _ s => s.rd (k := 2) rfl) rfl Tryz.underlying50 rfl rfl rfl hq) rfl rfl rfl ?_
      refine at_wanted (j := 2) rfl ?_
      refine at_v (ov_fieldRd0 (k := 1) (fun _ s => s.rd (k := 2) rfl) rfl rfl hq rfl) rfl rfl rfl ?_
      refine at_wanted (j := 2) rfl ?_
      refine at_v (ov_loadRd (fun _ s => s.rd (k := 2) rfl) rfl rfl rfl hq rfl) rfl rfl rfl ?_
      refine at_wanted (j := 2) rfl ?_
      refine at_t (ot_call (ks := [3]) rfl rfl rfl Tryz.call66 rfl (T66 _ _ _) rfl) rfl rfl rfl ?_
      rintro v0 _ ⟨m0, hp0, rfl⟩
      obtain ⟨rfl, rfl⟩ := hp0
      simp only [List.cons_append, List.nil_append, splice, spliceL]
      refine at_wanted (j := 2) rfl ?_
      refine at_v (ov_not rfl rfl) rfl rfl rfl ?_
      refine at_v (ov_pick_f rfl rfl rfl) rfl rfl rfl ?_
      refine at_nil ?_
      refine at_normal ?_
      refine hK3 _ _ _ ?_
      refine at_cond_true (congrArg (fun b => some (Value.bool b)) (show _ = true from by simp [hi4]; done)) ?_
      refine at_seq_k (fun K4 hK4 => ?_)
      refine at_region ?_
      refine at_v (ov_assign rfl rfl) rfl rfl rfl ?_
      refine at_nil ?_
      refine at_normal ?_
      refine hK4 _ _ _ ?_
      refine at_ret ?_
      refine at_then_ret ?_
      refine at_end ?_
      rw [hrc]
      refine at_fold (A := RefA g most idle wm last L (cs.set k (id, c, si))) [1, 1, 1, 0, 0] rfl (fun h s => ref_shut (wb := wb) (A := A) (c := c2) (id, c, si) hps hq rfl rfl s) ?_
      refine at_fin (rsV rfl (res_tmp rfl)) ?_
      rw [hsame, hi4]
      refine ⟨_, ⟨rfl, rfl⟩, ?_⟩
      rw [set_same hx]
      exact fun _ s => s.finEq (ks := [0]) (js := []) rfl rfl rfl
    | true =>
      refine at_v (ov_load rfl rfl rfl (fun _ s => s.ld (k := 0) rfl rfl)) rfl rfl rfl ?_
      refine at_wanted (j := 2) rfl ?_
      refine at_v (ov_move rfl rfl) rfl rfl rfl ?_
      refine at_wanted (j := 2) rfl ?_
      refine at_v (ov_indexRd (fun _ s => s.rd (k := 2) rfl) rfl Tryz.underlying50 rfl rfl rfl hq) rfl rfl rfl ?_
      refine at_wanted (j := 2) rfl ?_
      refine at_v (ov_fieldRd0 (k := 1) (fun _ s => s.rd (k := 2) rfl) rfl rfl hq rfl) rfl rfl rfl ?_
      refine at_wanted (j := 2) rfl ?_
      refine at_v (ov_loadRd (fun _ s => s.rd (k := 2) rfl) rfl rfl rfl hq rfl) rfl rfl rfl ?_
      refine at_wanted (j := 2) rfl ?_
      refine at_t (ot_call (ks := [3]) rfl rfl rfl Tryz.call66 rfl (T66 _ _ _) rfl) rfl rfl rfl ?_
      rintro v0 _ ⟨m0, hp0, rfl⟩
      obtain ⟨rfl, rfl⟩ := hp0
      simp only [List.cons_append, List.nil_append, splice, spliceL]
      refine at_wanted (j := 2) rfl ?_
      refine at_v (ov_not rfl rfl) rfl rfl rfl ?_
      refine at_v (ov_pick_f rfl rfl rfl) rfl rfl rfl ?_
      refine at_nil ?_
      refine at_normal ?_
      refine hK3 _ _ _ ?_
      refine at_cond_false (congrArg (fun b => some (Value.bool b)) (show _ = false from by simp [hi4]; done)) ?_
      refine at_skip ?_
      refine at_normal ?_
      refine hK2 _ _ _ ?_
      refine at_seq_k (fun K4 hK4 => ?_)
      refine at_region ?_
      refine at_v (ov_move rfl rfl) rfl rfl rfl ?_
      refine at_v (ov_nilCheck rfl rfl) rfl rfl rfl ?_
      refine at_v (ov_fieldAddr (k := 3) (r := 3) rfl rfl rfl rfl) rfl rfl rfl ?_
      refine at_v (ov_load rfl rfl rfl (fun _ s => s.ld (k := 1) rfl rfl)) rfl rfl rfl ?_
      refine at_v (ov_move rfl rfl) rfl rfl rfl ?_
      refine at_v (ov_move rfl rfl) rfl rfl rfl ?_
      refine at_v (ov_indexRd (fun _ s => s.rd (k := 3) rfl) rfl Tryz.underlying50 rfl rfl rfl hq) rfl rfl rfl ?_
      refine at_v (ov_fieldRd0 (k := 2) (fun _ s => s.rd (k := 3) rfl) rfl rfl hq rfl) rfl rfl rfl ?_
      refine at_t0 (ot_storeRow (k := 3) (i := k) (u := (gk, (id, c, si))) (u' := (gk, (id, c, now))) rfl rfl rfl rfl hq rfl (Nat.le_refl _) rfl rfl) rfl rfl ?_
      rintro _ _ ⟨_, rfl⟩
      simp only [setAt]
      refine at_nil ?_
      refine at_normal ?_
      refine hK4 _ _ _ ?_
      refine at_seq_k (fun K5 hK5 => ?_)
      refine at_region ?_
      refine at_v (ov_move rfl rfl) rfl rfl rfl ?_
      refine at_fold (A := RefA g most idle wm last L (cs.set k (id, c.release, now))) [1, 1, 1, 0, 0] rfl (fun h s => ref_shut2 (wb := wb) (A := A) (c := c2) (id, c.release, now) (gk, (id, c, now)) hps hq rfl s) ?_
      have hl2 : (cs.set k (id, c.release, now)).length ≤ 7 := by rw [List.length_set]; omega
      refine at_t (ot_call (ks := [0]) rfl rfl rfl Tryz.call64 rfl (T64 _ (by first | assumption | rfl | omega | decide | (simp; done) | (simp at *; omega))) rfl) rfl rfl rfl ?_
      rintro v0 _ ⟨m0, hp0, rfl⟩
      obtain ⟨rfl, rfl⟩ := hp0
      simp only [List.cons_append, List.nil_append, splice, spliceL]
      refine at_nil ?_
      refine at_normal ?_
      refine hK5 _ _ _ ?_
      refine at_seq_k (fun K6 hK6 => ?_)
      refine at_region ?_
      refine at_v (ov_assign rfl rfl) rfl rfl rfl ?_
      refine at_nil ?_
      refine at_normal ?_
      refine hK6 _ _ _ ?_
      refine at_ret ?_
      refine at_end ?_
      rw [alive_rel hs hx hi4]
      refine at_fin (rsV rfl (res_tmp rfl)) ?_
      rw [hi4]
      refine ⟨_, ⟨rfl, rfl⟩, ?_⟩
      exact fun _ s => s.finEq (ks := [0]) (js := []) rfl rfl rfl
theorem T27 (w0 : World) {g n : Nat} {p : PM} (se e now : Int) (hw : Wf n p) :
    Tri Tryz.prog w0 27 [ptrTo g, .int .i64 se, .int .u64 e, .int .u64 now] [RO g p] fun v m => v = .tuple #[.int .i64 (acqM p.most p.wm p.last p.L p.cs se e now).1, .int .i64 (acqM p.most p.wm p.last p.L p.cs se e now).2.1] ∧ m = [RefA g p.most p.idle p.wm (acqM p.most p.wm p.last p.L p.cs se e now).2.2.1 (acqM p.most p.wm p.last p.L p.cs se e now).2.2.2.1 (acqM p.most p.wm p.last p.L p.cs se e now).2.2.2.2] := by
  have h6 := hw.h6
  have hLm := hw.lenL
  have hwm := hw.wm_
  have hcon := hw.con
  have hL12 : p.L.length ≤ 12 := by omega
  obtain ⟨most, idle, wm, last, L, cs⟩ := p
  refine tri_of Tryz.func27 rfl rfl fun F => ?_
  simp only [Tryz.ntmps27, argEnv, List.cons_append, List.nil_append] at h6 hLm hwm hcon hL12 ⊢
  obtain ⟨am, ham⟩ : ∃ am, acqM most wm last L cs se e now = am := ⟨_, rfl⟩
  rw [ham]
  by_cases hi1 : se < 1
  · have ham2 : am = (0, 1, last, L, cs) := by rw [← ham]; unfold acqM; rw [if_pos hi1]
    refine at_seq_k (fun K0 hK0 => ?_)
    refine at_region ?_
    refine at_v (ov_assign rfl rfl) rfl rfl rfl ?_
    refine at_v (ov_assign rfl rfl) rfl rfl rfl ?_
    refine at_nil ?_
    refine at_normal ?_
    refine hK0 _ _ _ ?_
    refine at_seq_k (fun K1 hK1 => ?_)
    refine at_seq_k (fun K2 hK2 => ?_)
    refine at_region ?_
    refine at_v (ov_move rfl rfl) rfl rfl rfl ?_
    refine at_v (ov_int rfl rfl rfl rfl) rfl rfl rfl ?_
    refine at_nil ?_
    refine at_normal ?_
    refine hK2 _ _ _ ?_
    refine at_cond_true (congrArg (fun b => some (Value.bool b)) (show _ = true from decide_eq_true (by omega))) ?_
    refine at_seq_k (fun K3 hK3 => ?_)
    refine at_region ?_
    refine at_v (ov_assign rfl rfl) rfl rfl rfl ?_
    refine at_v (ov_assign rfl rfl) rfl rfl rfl ?_
    refine at_nil ?_
    refine at_normal ?_
    refine hK3 _ _ _ ?_
    refine at_ret ?_
    refine at_then_ret ?_
    refine at_end ?_
    refine at_fin (rsL (vs := [_, _]) rfl ⟨res_tmp rfl, res_tmp rfl, trivial⟩ rfl) ?_
    rw [ham2]
    refine ⟨_, ⟨rfl, rfl⟩, ?_⟩
    exact fun _ s => s.finEq (ks := [0]) (js := []) rfl rfl rfl
  · refine at_ref fun wb A c ps hps => ?_
    simp only at hps
    have hlen : ps.length ≤ 6 := by rw [← hps, List.length_map] at h6; exact h6
    have hcl : cs.length = ps.length := by rw [← hps, List.length_map]
    refine at_seq_k (fun K0 hK0 => ?_)
    refine at_region ?_
    refine at_v (ov_assign rfl rfl) rfl rfl rfl ?_
    refine at_v (ov_assign rfl rfl) rfl rfl rfl ?_
    refine at_nil ?_
    refine at_normal ?_
    refine hK0 _ _ _ ?_
    refine at_seq_k (fun K1 hK1 => ?_)
    refine at_seq_k (fun K2 hK2 => ?_)
    refine at_region ?_
    refine at_v (ov_move rfl rfl) rfl rfl rfl ?_
    refine at_v (ov_int rfl rfl rfl rfl) rfl rfl rfl ?_
    refine at_nil ?_
    refine at_normal ?_
    refine hK2 _ _ _ ?_
    refine at_cond_false (congrArg (fun b => some (Value.bool b)) (show _ = false from decide_eq_false (by omega))) ?_
    refine at_skip ?_
    refine at_normal ?_
    refine hK1 _ _ _ ?_
    refine at_seq_k (fun K3 hK3 => ?_)
    refine at_seq_k (fun K4 hK4 => ?_)
    refine at_region ?_
    refine at_v (ov_assign rfl rfl) rfl rfl rfl ?_
    refine at_nil ?_
    refine at_normal ?_
    refine hK4 _ _ _ ?_
    refine at_block ?_
    refine at_loopE [16, 17, 18, 19, 20, 21, 22, 25, 26, 27, 28, 29, 30, 31, 32, 33, 34, 35, 36, 37, 8, 9, 23, 24, 10] (fun k => k ≤ ps.length ∧ (cs.take k).any (fun x => decide (max x.2.1.o 0 = se)) = false) (fun k => [(10, .int .i64 (k : Nat))]) (fun k l => l) (fun k => ps.length - k) 0 ⟨Nat.zero_le _, rfl⟩ ⟨rfl, trivial⟩ (fun _ s => s) ?_
    rintro k ⟨hk, hno⟩
    refine at_seq_k (fun K5 hK5 => ?_)
    refine at_seq_k (fun K6 hK6 => ?_)
    refine at_region ?_
    refine at_v (ov_move rfl rfl) rfl rfl rfl ?_
    refine at_v (ov_move rfl rfl) rfl rfl rfl ?_
    refine at_v (ov_nilCheck rfl rfl) rfl rfl rfl ?_
    refine at_v (ov_fieldAddr (k := 3) (r := 3) rfl rfl rfl rfl) rfl rfl rfl ?_
    refine at_v (ov_load rfl rfl rfl (fun _ s => s.ld (k := 0) rfl rfl)) rfl rfl rfl ?_
    refine at_v (ov_len_slice rfl Tryz.underlying50 rfl) rfl rfl rfl ?_
    refine at_v (ov_int rfl rfl rfl rfl) rfl rfl rfl ?_
    refine at_nil ?_
    refine at_normal ?_
    refine hK6 _ _ _ ?_
    refine at_cond rfl (fun hc => ?_) (fun hc => ?_)
    · have hlt : k < ps.length := by simpa using hc
      obtain ⟨q, hq⟩ : ∃ q, ps[k]? = some q := ⟨_, List.getElem?_eq_getElem hlt⟩
      have hx : cs[k]? = some q.2 := by rw [← hps, List.getElem?_map, hq]; rfl
      refine at_pulls [3] rfl ?_
      refine at_takeR hq ?_
      simp only [List.cons_append, List.nil_append]
      by_cases hi2 : max q.2.2.1.o 0 = se
      · have hhas : hasB L cs se = true := by
          unfold hasB
          rw [show cs.any (fun x => decide (max x.2.1.o 0 = se)) = true from List.any_eq_true.2 ⟨q.2, List.mem_of_getElem? hx, by simp [hi2]⟩]
          rfl
        have ham2 : am = (0, 7, last, L, cs) := by rw [← ham]; unfold acqM; rw [if_neg hi1, if_pos hhas]
        refine at_skip ?_
        refine at_normal ?_
        refine hK5 _ _ _ ?_
        refine at_seq_k (fun K7 hK7 => ?_)
        refine at_block ?_
        refine at_seq_k (fun K8 hK8 => ?_)
        refine at_region ?_
        refine at_v (ov_move rfl rfl) rfl rfl rfl ?_
        refine at_v (ov_nilCheck rfl rfl) rfl rfl rfl ?_
        refine at_v (ov_fieldAddr (k := 3) (r := 3) rfl rfl rfl rfl) rfl rfl rfl ?_
        refine at_v (ov_load rfl rfl rfl (fun _ s => s.ld (k := 2) rfl rfl)) rfl rfl rfl ?_
        refine at_v (ov_move rfl rfl) rfl rfl rfl ?_
        refine at_v (ov_indexRd (fun _ s => s.rd (k := 4) rfl) rfl Tryz.underlying50 rfl rfl rfl hq) rfl rfl rfl ?_
        refine at_v (ov_fieldRd0 (k := 1) (fun _ s => s.rd (k := 4) rfl) rfl rfl hq rfl) rfl rfl rfl ?_
        refine at_v (ov_loadRd (fun _ s => s.rd (k := 4) rfl) rfl rfl rfl hq rfl) rfl rfl rfl ?_
        refine at_v (ov_nilCheck rfl rfl) rfl rfl rfl ?_
        refine at_v (ov_fieldAddr (k := 2) (r := 2) rfl rfl rfl rfl) rfl rfl rfl ?_
        refine at_v (ov_load rfl rfl rfl (fun _ s => s.ld (k := 0) rfl rfl)) rfl rfl rfl ?_
        refine at_v (ov_move rfl rfl) rfl rfl rfl ?_
        refine at_v (ov_int rfl rfl rfl rfl) rfl rfl rfl ?_
        refine at_nil ?_
        refine at_normal ?_
        refine hK8 _ _ _ ?_
        refine at_cond_true (congrArg (fun b => some (Value.bool b)) (show _ = true from decide_eq_true (by omega))) ?_
        refine at_seq_k (fun K9 hK9 => ?_)
        refine at_region ?_
        refine at_v (ov_assign rfl rfl) rfl rfl rfl ?_
        refine at_v (ov_assign rfl rfl) rfl rfl rfl ?_
        refine at_nil ?_
        refine at_normal ?_
        refine hK9 _ _ _ ?_
        refine at_ret ?_
        refine at_inb_ret ?_
        refine at_then_ret ?_
        refine at_then_ret ?_
        refine at_inb_ret ?_
        refine at_then_ret ?_
        refine at_end ?_
        refine at_fold (A := RL ps) [0, 0] rfl (fun h s => rl_back hq s) ?_
        refine at_fold (A := RefA g most idle wm last L cs) [1, 1, 1, 0] rfl (fun h s => ⟨wb, A, c, ps, hps, s⟩) ?_
        refine at_fin (rsL (vs := [_, _]) rfl ⟨res_tmp rfl, res_tmp rfl, trivial⟩ rfl) ?_
        rw [ham2]
        refine ⟨_, ⟨rfl, rfl⟩, ?_⟩
        exact fun _ s => s.finEq (ks := [0]) (js := []) rfl rfl rfl
      · refine at_skip ?_
        refine at_normal ?_
        refine hK5 _ _ _ ?_
        refine at_seq_k (fun K7 hK7 => ?_)
        refine at_block ?_
        refine at_seq_k (fun K8 hK8 => ?_)
        refine at_region ?_
        refine at_v (ov_move rfl rfl) rfl rfl rfl ?_
        refine at_v (ov_nilCheck rfl rfl) rfl rfl rfl ?_
        refine at_v (ov_fieldAddr (k := 3) (r := 3) rfl rfl rfl rfl) rfl rfl rfl ?_
        refine at_v (ov_load rfl rfl rfl (fun _ s => s.ld (k := 2) rfl rfl)) rfl rfl rfl ?_
        refine at_v (ov_move rfl rfl) rfl rfl rfl ?_
        refine at_v (ov_indexRd (fun _ s => s.rd (k := 4) rfl) rfl Tryz.underlying50 rfl rfl rfl hq) rfl rfl rfl ?_
        refine at_v (ov_fieldRd0 (k := 1) (fun _ s => s.rd (k := 4) rfl) rfl rfl hq rfl) rfl rfl rfl ?_
        refine at_v (ov_loadRd (fun _ s => s.rd (k := 4) rfl) rfl rfl rfl hq rfl) rfl rfl rfl ?_
        refine at_v (ov_nilCheck rfl rfl) rfl rfl rfl ?_
        refine at_v (ov_fieldAddr (k := 2) (r := 2) rfl rfl rfl rfl) rfl rfl rfl ?_
        refine at_v (ov_load rfl rfl rfl (fun _ s => s.ld (k := 0) rfl rfl)) rfl rfl rfl ?_
        refine at_v (ov_move rfl rfl) rfl rfl rfl ?_
        refine at_v (ov_int rfl rfl rfl rfl) rfl rfl rfl ?_
        refine at_nil ?_
        refine at_normal ?_
        refine hK8 _ _ _ ?_
        refine at_cond_false (congrArg (fun b => some (Value.bool b)) (show _ = false from decide_eq_false (by omega))) ?_
        refine at_skip ?_
        refine at_inb_normal ?_
        refine at_normal ?_
        refine hK7 _ _ _ ?_
        refine at_region ?_
        refine at_v (ov_move rfl rfl) rfl rfl rfl ?_
        refine at_v ((ov_int rfl rfl rfl rfl).eq (congrArg (Value.int .i64) (inK_i64 (by omega) (by omega)))) rfl rfl rfl ?_
        refine at_v (ov_assign rfl rfl) rfl rfl rfl ?_
        refine at_nil ?_
        refine at_normal ?_
        refine at_fold (A := RL ps) [0, 0] rfl (fun h s => rl_back hq s) ?_
        refine at_roundF (k + 1) ⟨hlt, by rw [any_take _ hx, hno]; simp [hi2]⟩ (by omega) ⟨rfl, trivial⟩ rfl ?_
        exact fun _ s => s.finEq (ks := [1, 1, 1, 0]) (js := []) rfl rfl rfl
    · have hk2 : k = ps.length := by
        have : ¬ k < ps.length := by simpa using hc
        omega
      subst hk2
      rw [← hcl, List.take_length] at hno
      rcases atL_spec L se 0 (Int.le_refl _) with ⟨hat, hnm⟩ | ⟨j, hj, _⟩
      · have hhas : hasB L cs se = false := by unfold hasB; rw [hno, hat]; rfl
        have hAt : Tri Tryz.prog w0 57 [ptrTo wb, .int .i64 se] [RowR wb wm L] fun v m => v = .int .i64 (-1) ∧ m = [RowR wb wm L] := by
          have := T57 w0 (g := wb) (most := wm) (L := L) se hL12
          rwa [hat] at this
        refine at_exit ?_
        refine at_then_exit ?_
        refine at_then_exit ?_
        refine at_exit_eq ?_
        refine at_normal ?_
        refine hK3 _ _ _ ?_
        refine at_seq_k (fun K7 hK7 => ?_)
        refine at_seq_k (fun K8 hK8 => ?_)
        refine at_region ?_
        refine at_v (ov_move rfl rfl) rfl rfl rfl ?_
        refine at_v (ov_nilCheck rfl rfl) rfl rfl rfl ?_
        refine at_v (ov_fieldAddr (k := 2) (r := 2) rfl rfl rfl rfl) rfl rfl rfl ?_
        refine at_v (ov_load rfl rfl rfl (fun _ s => s.ld (k := 0) rfl rfl)) rfl rfl rfl ?_
        refine at_v (ov_move rfl rfl) rfl rfl rfl ?_
        refine at_t (ot_call (ks := [1]) rfl rfl rfl Tryz.call57 rfl (hAt ) rfl) rfl rfl rfl ?_
        rintro v0 _ ⟨m0, hp0, rfl⟩
        obtain ⟨rfl, rfl⟩ := hp0
        simp only [List.cons_append, List.nil_append, splice, spliceL]
        refine at_v (ov_int rfl rfl rfl rfl) rfl rfl rfl ?_
        refine at_nil ?_
        refine at_normal ?_
        refine hK8 _ _ _ ?_
        refine at_cond_false rfl ?_
        refine at_skip ?_
        refine at_normal ?_
        refine hK7 _ _ _ ?_
        refine at_seq_k (fun K9 hK9 => ?_)
        refine at_seq_k (fun K10 hK10 => ?_)
        refine at_region ?_
        refine at_v (ov_move rfl rfl) rfl rfl rfl ?_
        refine at_v (ov_nilCheck rfl rfl) rfl rfl rfl ?_
        refine at_v (ov_fieldAddr (k := 2) (r := 2) rfl rfl rfl rfl) rfl rfl rfl ?_
        refine at_v (ov_load rfl rfl rfl (fun _ s => s.ld (k := 1) rfl rfl)) rfl rfl rfl ?_
        refine at_v (ov_nilCheck rfl rfl) rfl rfl rfl ?_
        refine at_v (ov_fieldAddr (k := 0) (r := 0) rfl rfl rfl rfl) rfl rfl rfl ?_
        refine at_pulls [0] rfl ?_
        refine at_ex fun LA => at_ex fun lc => at_open ?_
        simp only [List.cons_append, List.nil_append]
        cases L with
        | nil =>
          obtain ⟨gi, gb, gl, gcs, hg⟩ : ∃ gi gb gl gcs, giveM most last cs se e now = (gi, gb, gl, gcs) := ⟨_, _, _, _, rfl⟩
          refine at_v (ov_load rfl rfl rfl (fun _ s => s.ld (k := 0) rfl rfl)) rfl rfl rfl ?_
          refine at_v (ov_len_slice rfl Tryz.underlying45 rfl) rfl rfl rfl ?_
          refine at_v (ov_int rfl rfl rfl rfl) rfl rfl rfl ?_
          refine at_nil ?_
          refine at_normal ?_
          refine hK10 _ _ _ ?_
          refine at_cond_true rfl ?_
          refine at_seq_k (fun K11 hK11 => ?_)
          refine at_region ?_
          refine at_v (ov_move rfl rfl) rfl rfl rfl ?_
          refine at_v (ov_move rfl rfl) rfl rfl rfl ?_
          refine at_v (ov_move rfl rfl) rfl rfl rfl ?_
          refine at_v (ov_move rfl rfl) rfl rfl rfl ?_
          refine at_fold (A := RowR wb wm []) [0, 0] rfl (fun h s => ⟨LA, lc, s⟩) ?_
          refine at_fold (A := RefA g most idle wm last [] cs) [1, 0, 0, 0] rfl (fun h s => ⟨wb, A, c, ps, hps, s⟩) ?_
          have hgv := T58 w0 (g := g) se e now hw (by omega)
          simp only at hgv
          cases gb with
          | true =>
            have hi3 : (giveM most last cs se e now).2.1 = true := by rw [hg]
            have ham2 : am = (gi, 0, gl, [], gcs) := by rw [← ham]; unfold acqM; rw [if_neg hi1, if_neg (by simp [hhas])]; simp only [hg, if_true]
            refine at_t (ot_call (ks := [0]) rfl rfl rfl Tryz.call58 rfl (hgv ) rfl) rfl rfl rfl ?_
            rintro v0 _ ⟨m0, hp0, rfl⟩
            obtain ⟨rfl, rfl⟩ := hp0
            simp only [List.cons_append, List.nil_append, splice, spliceL]
            refine at_v (ov_move rfl rfl) rfl rfl rfl ?_
            refine at_v (ov_extract rfl rfl rfl) rfl rfl rfl ?_
            refine at_v (ov_extract rfl rfl rfl) rfl rfl rfl ?_
            refine at_v (ov_assign rfl rfl) rfl rfl rfl ?_
            refine at_v (ov_assign rfl rfl) rfl rfl rfl ?_
            refine at_nil ?_
            refine at_normal ?_
            refine hK11 _ _ _ ?_
            refine at_seq_k (fun K12 hK12 => ?_)
            refine at_region ?_
            refine at_v (ov_move rfl rfl) rfl rfl rfl ?_
            refine at_nil ?_
            refine at_normal ?_
            refine hK12 _ _ _ ?_
            refine at_cond_true (congrArg (fun b => some (Value.bool b)) (show _ = true from by first | assumption | (rw [Bool.not_eq_true']; exact decide_eq_false (by omega)))) ?_
            refine at_seq_k (fun K13 hK13 => ?_)
            refine at_region ?_
            refine at_v (ov_move rfl rfl) rfl rfl rfl ?_
            refine at_v (ov_assign rfl rfl) rfl rfl rfl ?_
            refine at_v (ov_assign rfl rfl) rfl rfl rfl ?_
            refine at_nil ?_
            refine at_normal ?_
            refine hK13 _ _ _ ?_
            refine at_ret ?_
            refine at_then_ret ?_
            refine at_end ?_
            refine at_fin (rsL (vs := [_, _]) rfl ⟨res_tmp rfl, res_tmp rfl, trivial⟩ rfl) ?_
            rw [ham2, hg]
            refine ⟨_, ⟨rfl, rfl⟩, ?_⟩
            exact fun _ s => s.finEq (ks := [0]) (js := []) rfl rfl rfl
          | false =>
            have hi3 : (giveM most last cs se e now).2.1 = false := by rw [hg]
            refine at_t (ot_call (ks := [0]) rfl rfl rfl Tryz.call58 rfl (hgv ) rfl) rfl rfl rfl ?_
            rintro v0 _ ⟨m0, hp0, rfl⟩
            obtain ⟨rfl, rfl⟩ := hp0
            simp only [List.cons_append, List.nil_append, splice, spliceL]
            refine at_v (ov_move rfl rfl) rfl rfl rfl ?_
            refine at_v (ov_extract rfl rfl rfl) rfl rfl rfl ?_
            refine at_v (ov_extract rfl rfl rfl) rfl rfl rfl ?_
            refine at_v (ov_assign rfl rfl) rfl rfl rfl ?_
            refine at_v (ov_assign rfl rfl) rfl rfl rfl ?_
            refine at_nil ?_
            refine at_normal ?_
            refine hK11 _ _ _ ?_
            refine at_seq_k (fun K12 hK12 => ?_)
            refine at_region ?_
            refine at_v (ov_move rfl rfl) rfl rfl rfl ?_
            refine at_nil ?_
            refine at_normal ?_
            refine hK12 _ _ _ ?_
            refine at_cond_false (congrArg (fun b => some (Value.bool b)) (show _ = false from by first | assumption | (rw [Bool.not_eq_false']; exact decide_eq_true (by omega)))) ?_
            refine at_skip ?_
            refine at_normal ?_
            refine hK9 _ _ _ ?_
            refine at_seq_k (fun K13 hK13 => ?_)
            refine at_region ?_
            refine at_v (ov_move rfl rfl) rfl rfl rfl ?_
            refine at_v (ov_nilCheck rfl rfl) rfl rfl rfl ?_
            refine at_v (ov_fieldAddr (k := 2) (r := 2) rfl rfl rfl rfl) rfl rfl rfl ?_
            refine at_ref fun wb A c ps hps => ?_
            by_cases hi4 : ((([] : List Int).length : Nat) : Int) = wm
            · have hput := rput_full w0 (g := wb) se hL12 hat hi4
              have hpm : putM wm [] se = (5, []) := if_pos hi4
              have ham2 : am = (0, 5, gl, [], gcs) := by rw [← ham]; unfold acqM; rw [if_neg hi1, if_neg (by simp [hhas])]; simp only [hg, hpm, Bool.false_eq_true, if_false]
              refine at_v (ov_load rfl rfl rfl (fun _ s => s.ld (k := 0) rfl rfl)) rfl rfl rfl ?_
              refine at_v (ov_move rfl rfl) rfl rfl rfl ?_
              refine at_t (ot_call (ks := [1]) rfl rfl rfl Tryz.call59 rfl (hput ) rfl) rfl rfl rfl ?_
              rintro v0 _ ⟨m0, hp0, rfl⟩
              obtain ⟨rfl, rfl⟩ := hp0
              simp only [List.cons_append, List.nil_append, splice, spliceL]
              refine at_v (ov_assign rfl rfl) rfl rfl rfl ?_
              refine at_nil ?_
              refine at_normal ?_
              refine hK13 _ _ _ ?_
              refine at_seq_k (fun K14 hK14 => ?_)
              refine at_seq_k (fun K15 hK15 => ?_)
              refine at_region ?_
              refine at_v (ov_move rfl rfl) rfl rfl rfl ?_
              refine at_v (ov_int rfl rfl rfl rfl) rfl rfl rfl ?_
              refine at_nil ?_
              refine at_normal ?_
              refine hK15 _ _ _ ?_
              refine at_cond_true rfl ?_
              refine at_seq_k (fun K16 hK16 => ?_)
              refine at_region ?_
              refine at_v (ov_move rfl rfl) rfl rfl rfl ?_
              refine at_v (ov_assign rfl rfl) rfl rfl rfl ?_
              refine at_v (ov_assign rfl rfl) rfl rfl rfl ?_
              refine at_nil ?_
              refine at_normal ?_
              refine hK16 _ _ _ ?_
              refine at_ret ?_
              refine at_then_ret ?_
              refine at_end ?_
              refine at_fold (A := RefA g most idle wm (giveM most last cs se e now).2.2.1 [] (giveM most last cs se e now).2.2.2) [1, 0, 0, 0] rfl (fun h s => ⟨wb, A, c, ps, hps, s⟩) ?_
              refine at_fin (rsL (vs := [_, _]) rfl ⟨res_tmp rfl, res_tmp rfl, trivial⟩ rfl) ?_
              rw [ham2, hg]
              refine ⟨_, ⟨rfl, rfl⟩, ?_⟩
              exact fun _ s => s.finEq (ks := [0]) (js := []) rfl rfl rfl
            · have hput := rput_ok w0 (g := wb) se hL12 hLm hat hi4
              have hpm : putM wm [] se = (13, [] ++ [se]) := if_neg hi4
              have ham2 : am = (0, 13, gl, [] ++ [se], gcs) := by rw [← ham]; unfold acqM; rw [if_neg hi1, if_neg (by simp [hhas])]; simp only [hg, hpm, Bool.false_eq_true, if_false]
              refine at_v (ov_load rfl rfl rfl (fun _ s => s.ld (k := 0) rfl rfl)) rfl rfl rfl ?_
              refine at_v (ov_move rfl rfl) rfl rfl rfl ?_
              refine at_t (ot_call (ks := [1]) rfl rfl rfl Tryz.call59 rfl (hput ) rfl) rfl rfl rfl ?_
              rintro v0 _ ⟨m0, hp0, rfl⟩
              obtain ⟨rfl, rfl⟩ := hp0
              simp only [List.cons_append, List.nil_append, splice, spliceL]
              refine at_v (ov_assign rfl rfl) rfl rfl rfl ?_
              refine at_nil ?_
              refine at_normal ?_
              refine hK13 _ _ _ ?_
              refine at_seq_k (fun K14 hK14 => ?_)
              refine at_seq_k (fun K15 hK15 => ?_)
              refine at_region ?_
              refine at_v (ov_move rfl rfl) rfl rfl rfl ?_
              refine at_v (ov_int rfl rfl rfl rfl) rfl rfl rfl ?_
              refine at_nil ?_
              refine at_normal ?_
              refine hK15 _ _ _ ?_
              refine at_cond_false rfl ?_
              refine at_skip ?_
              refine at_normal ?_
              refine hK14 _ _ _ ?_
              refine at_seq_k (fun K16 hK16 => ?_)
              refine at_region ?_
              refine at_v (ov_assign rfl rfl) rfl rfl rfl ?_
              refine at_v (ov_assign rfl rfl) rfl rfl rfl ?_
              refine at_nil ?_
              refine at_normal ?_
              refine hK16 _ _ _ ?_
              refine at_ret ?_
              refine at_end ?_
              refine at_fold (A := RefA g most idle wm (giveM most last cs se e now).2.2.1 ([] ++ [se]) (giveM most last cs se e now).2.2.2) [1, 0, 0, 0] rfl (fun h s => ⟨wb, A, c, ps, hps, s⟩) ?_
              refine at_fin (rsL (vs := [_, _]) rfl ⟨res_tmp rfl, res_tmp rfl, trivial⟩ rfl) ?_
              rw [ham2, hg]
              refine ⟨_, ⟨rfl, rfl⟩, ?_⟩
              exact fun _ s => s.finEq (ks := [0]) (js := []) rfl rfl rfl
        | cons x r =>
          have hi3 : ¬ (((x :: r).length : Nat) : Int) = 0 := by simp; omega
          by_cases hi4 : (((x :: r).length : Nat) : Int) = wm
          · have hput := rput_full w0 (g := wb) se hL12 hat hi4
            have hpm : putM wm (x :: r) se = (5, x :: r) := if_pos hi4
            have ham2 : am = (0, 5, last, x :: r, cs) := by rw [← ham]; unfold acqM; rw [if_neg hi1, if_neg (by simp [hhas])]; simp only [hpm]
            refine at_v (ov_load rfl rfl rfl (fun _ s => s.ld (k := 0) rfl rfl)) rfl rfl rfl ?_
            refine at_v (ov_len_slice rfl Tryz.underlying45 rfl) rfl rfl rfl ?_
            refine at_v (ov_int rfl rfl rfl rfl) rfl rfl rfl ?_
            refine at_nil ?_
            refine at_normal ?_
            refine hK10 _ _ _ ?_
            refine at_cond_false rfl ?_
            refine at_skip ?_
            refine at_normal ?_
            refine hK9 _ _ _ ?_
            refine at_seq_k (fun K11 hK11 => ?_)
            refine at_region ?_
            refine at_v (ov_move rfl rfl) rfl rfl rfl ?_
            refine at_v (ov_nilCheck rfl rfl) rfl rfl rfl ?_
            refine at_v (ov_fieldAddr (k := 2) (r := 2) rfl rfl rfl rfl) rfl rfl rfl ?_
            refine at_v (ov_load rfl rfl rfl (fun _ s => s.ld (k := 2) rfl rfl)) rfl rfl rfl ?_
            refine at_v (ov_move rfl rfl) rfl rfl rfl ?_
            refine at_fold (A := RowR wb wm (x :: r)) [0, 0] rfl (fun h s => ⟨LA, lc, s⟩) ?_
            refine at_t (ot_call (ks := [0]) rfl rfl rfl Tryz.call59 rfl (hput ) rfl) rfl rfl rfl ?_
            rintro v0 _ ⟨m0, hp0, rfl⟩
            obtain ⟨rfl, rfl⟩ := hp0
            simp only [List.cons_append, List.nil_append, splice, spliceL]
            refine at_v (ov_assign rfl rfl) rfl rfl rfl ?_
            refine at_nil ?_
            refine at_normal ?_
            refine hK11 _ _ _ ?_
            refine at_seq_k (fun K12 hK12 => ?_)
            refine at_seq_k (fun K13 hK13 => ?_)
            refine at_region ?_
            refine at_v (ov_move rfl rfl) rfl rfl rfl ?_
            refine at_v (ov_int rfl rfl rfl rfl) rfl rfl rfl ?_
            refine at_nil ?_
            refine at_normal ?_
            refine hK13 _ _ _ ?_
            refine at_cond_true rfl ?_
            refine at_seq_k (fun K14 hK14 => ?_)
            refine at_region ?_
            refine at_v (ov_move rfl rfl) rfl rfl rfl ?_
            refine at_v (ov_assign rfl rfl) rfl rfl rfl ?_
            refine at_v (ov_assign rfl rfl) rfl rfl rfl ?_
            refine at_nil ?_
            refine at_normal ?_
            refine hK14 _ _ _ ?_
            refine at_ret ?_
            refine at_then_ret ?_
            refine at_end ?_
            refine at_fold (A := RefA g most idle wm last (x :: r) cs) [1, 0, 0, 0] rfl (fun h s => ⟨wb, A, c, ps, hps, s⟩) ?_
            refine at_fin (rsL (vs := [_, _]) rfl ⟨res_tmp rfl, res_tmp rfl, trivial⟩ rfl) ?_
            rw [ham2]
            refine ⟨_, ⟨rfl, rfl⟩, ?_⟩
            exact fun _ s => s.finEq (ks := [0]) (js := []) rfl rfl rfl
          · have hput := rput_ok w0 (g := wb) se hL12 hLm hat hi4
            have hpm : putM wm (x :: r) se = (13, x :: r ++ [se]) := if_neg hi4
            have ham2 : am = (0, 13, last, x :: r ++ [se], cs) := by rw [← ham]; unfold acqM; rw [if_neg hi1, if_neg (by simp [hhas])]; simp only [hpm]
            refine at_v (ov_load rfl rfl rfl (fun _ s => s.ld (k := 0) rfl rfl)) rfl rfl rfl ?_
            refine at_v (ov_len_slice rfl Tryz.underlying45 rfl) rfl rfl rfl ?_
            refine at_v (ov_int rfl rfl rfl rfl) rfl rfl rfl ?_
            refine at_nil ?_
            refine at_normal ?_
            refine hK10 _ _ _ ?_
            refine at_cond_false rfl ?_
            refine at_skip ?_
            refine at_normal ?_
            refine hK9 _ _ _ ?_
            refine at_seq_k (fun K11 hK11 => ?_)
            refine at_region ?_
            refine at_v (ov_move rfl rfl) rfl rfl rfl ?_
            refine at_v (ov_nilCheck rfl rfl) rfl rfl rfl ?_
            refine at_v (ov_fieldAddr (k := 2) (r := 2) rfl rfl rfl rfl) rfl rfl rfl ?_
            refine at_v (ov_load rfl rfl rfl (fun _ s => s.ld (k := 2) rfl rfl)) rfl rfl rfl ?_
            refine at_v (ov_move rfl rfl) rfl rfl rfl ?_
            refine at_fold (A := RowR wb wm (x :: r)) [0, 0] rfl (fun h s => ⟨LA, lc, s⟩) ?_
            refine at_t (ot_call (ks := [0]) rfl rfl rfl Tryz.call59 rfl (hput ) rfl) rfl rfl rfl ?_
            rintro v0 _ ⟨m0, hp0, rfl⟩
            obtain ⟨rfl, rfl⟩ := hp0
            simp only [List.cons_append, List.nil_append, splice, spliceL]
            refine at_v (ov_assign rfl rfl) rfl rfl rfl ?_
            refine at_nil ?_
            refine at_normal ?_
            refine hK11 _ _ _ ?_
            refine at_seq_k (fun K12 hK12 => ?_)
            refine at_seq_k (fun K13 hK13 => ?_)
            refine at_region ?_
            refine at_v (ov_move rfl rfl) rfl rfl rfl ?_
            refine at_v (ov_int rfl rfl rfl rfl) rfl rfl rfl ?_
            refine at_nil ?_
            refine at_normal ?_
            refine hK13 _ _ _ ?_
            refine at_cond_false rfl ?_
            refine at_skip ?_
            refine at_normal ?_
            refine hK12 _ _ _ ?_
            refine at_seq_k (fun K14 hK14 => ?_)
            refine at_region ?_
            refine at_v (ov_assign rfl rfl) rfl rfl rfl ?_
            refine at_v (ov_assign rfl rfl) rfl rfl rfl ?_
            refine at_nil ?_
            refine at_normal ?_
            refine hK14 _ _ _ ?_
            refine at_ret ?_
            refine at_end ?_
            refine at_fold (A := RefA g most idle wm last (x :: r ++ [se]) cs) [1, 0, 0, 0] rfl (fun h s => ⟨wb, A, c, ps, hps, s⟩) ?_
            refine at_fin (rsL (vs := [_, _]) rfl ⟨res_tmp rfl, res_tmp rfl, trivial⟩ rfl) ?_
            rw [ham2]
            refine ⟨_, ⟨rfl, rfl⟩, ?_⟩
            exact fun _ s => s.finEq (ks := [0]) (js := []) rfl rfl rfl
      · have hhas : hasB L cs se = true := by unfold hasB; rw [show decide (atL L se 0 ≥ 0) = true by simp; omega]; simp
        have ham2 : am = (0, 7, last, L, cs) := by rw [← ham]; unfold acqM; rw [if_neg hi1, if_pos hhas]
        have hi2 : atL L se 0 ≥ 0 := by omega
        refine at_exit ?_
        refine at_then_exit ?_
        refine at_then_exit ?_
        refine at_exit_eq ?_
        refine at_normal ?_
        refine hK3 _ _ _ ?_
        refine at_seq_k (fun K7 hK7 => ?_)
        refine at_seq_k (fun K8 hK8 => ?_)
        refine at_region ?_
        refine at_v (ov_move rfl rfl) rfl rfl rfl ?_
        refine at_v (ov_nilCheck rfl rfl) rfl rfl rfl ?_
        refine at_v (ov_fieldAddr (k := 2) (r := 2) rfl rfl rfl rfl) rfl rfl rfl ?_
        refine at_v (ov_load rfl rfl rfl (fun _ s => s.ld (k := 0) rfl rfl)) rfl rfl rfl ?_
        refine at_v (ov_move rfl rfl) rfl rfl rfl ?_
        refine at_t (ot_call (ks := [1]) rfl rfl rfl Tryz.call57 rfl (T57 _ _ (by first | assumption | rfl | omega | decide | (simp; done) | (simp at *; omega))) rfl) rfl rfl rfl ?_
        rintro v0 _ ⟨m0, hp0, rfl⟩
        obtain ⟨rfl, rfl⟩ := hp0
        simp only [List.cons_append, List.nil_append, splice, spliceL]
        refine at_v (ov_int rfl rfl rfl rfl) rfl rfl rfl ?_
        refine at_nil ?_
        refine at_normal ?_
        refine hK8 _ _ _ ?_
        refine at_cond_true (congrArg (fun b => some (Value.bool b)) (show _ = true from decide_eq_true (by omega))) ?_
        refine at_seq_k (fun K9 hK9 => ?_)
        refine at_region ?_
        refine at_v (ov_assign rfl rfl) rfl rfl rfl ?_
        refine at_v (ov_assign rfl rfl) rfl rfl rfl ?_
        refine at_nil ?_
        refine at_normal ?_
        refine hK9 _ _ _ ?_
        refine at_ret ?_
        refine at_then_ret ?_
        refine at_end ?_
        refine at_fold (A := RefA g most idle wm last L cs) [1, 0, 0, 0] rfl (fun h s => ⟨wb, A, c, ps, hps, s⟩) ?_
        refine at_fin (rsL (vs := [_, _]) rfl ⟨res_tmp rfl, res_tmp rfl, trivial⟩ rfl) ?_
        rw [ham2]
        refine ⟨_, ⟨rfl, rfl⟩, ?_⟩
        exact fun _ s => s.finEq (ks := [0]) (js := []) rfl rfl rfl
theorem T28 (w0 : World) {g n : Nat} {p : PM} (e now : Int) (hw : Wf n p) :
    Tri Tryz.prog w0 28 [ptrTo g, .int .u64 e, .int .u64 now] [RO g p] fun v m => v = .tuple #[.int .i64 (serveM p.most p.last p.L p.cs e now).1, .int .i64 (serveM p.most p.last p.L p.cs e now).2.1, .bool (serveM p.most p.last p.L p.cs e now).2.2.1] ∧ m = [RefA g p.most p.idle p.wm (serveM p.most p.last p.L p.cs e now).2.2.2.1 (serveM p.most p.last p.L p.cs e now).2.2.2.2.1 (serveM p.most p.last p.L p.cs e now).2.2.2.2.2] := by
  have hLm := hw.lenL
  have hwm := hw.wm_
  have hL12 : p.L.length ≤ 12 := by omega
  have hpos := hw.pos
  obtain ⟨most, idle, wm, last, L, cs⟩ := p
  refine tri_of Tryz.func28 rfl rfl fun F => ?_
  simp only [Tryz.ntmps28, argEnv, List.cons_append, List.nil_append] at hLm hwm hL12 hpos ⊢
  refine at_ref fun wb A c ps hps => ?_
  simp only at hps
  refine at_pulls [1] rfl ?_
  refine at_ex fun LA => at_ex fun lc => at_open ?_
  simp only [List.cons_append, List.nil_append]
  cases L with
  | nil =>
    refine at_seq_k (fun K0 hK0 => ?_)
    refine at_region ?_
    refine at_v (ov_assign rfl rfl) rfl rfl rfl ?_
    refine at_v (ov_assign rfl rfl) rfl rfl rfl ?_
    refine at_v (ov_assign rfl rfl) rfl rfl rfl ?_
    refine at_nil ?_
    refine at_normal ?_
    refine hK0 _ _ _ ?_
    refine at_seq_k (fun K1 hK1 => ?_)
    refine at_seq_k (fun K2 hK2 => ?_)
    refine at_region ?_
    refine at_v (ov_move rfl rfl) rfl rfl rfl ?_
    refine at_v (ov_nilCheck rfl rfl) rfl rfl rfl ?_
    refine at_v (ov_fieldAddr (k := 2) (r := 2) rfl rfl rfl rfl) rfl rfl rfl ?_
    refine at_v (ov_load rfl rfl rfl (fun _ s => s.ld (k := 2) rfl rfl)) rfl rfl rfl ?_
    refine at_v (ov_nilCheck rfl rfl) rfl rfl rfl ?_
    refine at_v (ov_fieldAddr (k := 0) (r := 0) rfl rfl rfl rfl) rfl rfl rfl ?_
    refine at_v (ov_load rfl rfl rfl (fun _ s => s.ld (k := 0) rfl rfl)) rfl rfl rfl ?_
    refine at_v (ov_len_slice rfl Tryz.underlying45 rfl) rfl rfl rfl ?_
    refine at_v (ov_int rfl rfl rfl rfl) rfl rfl rfl ?_
    refine at_nil ?_
    refine at_normal ?_
    refine hK2 _ _ _ ?_
    refine at_cond_true rfl ?_
    refine at_seq_k (fun K3 hK3 => ?_)
    refine at_region ?_
    refine at_v (ov_assign rfl rfl) rfl rfl rfl ?_
    refine at_v (ov_assign rfl rfl) rfl rfl rfl ?_
    refine at_v (ov_assign rfl rfl) rfl rfl rfl ?_
    refine at_nil ?_
    refine at_normal ?_
    refine hK3 _ _ _ ?_
    refine at_ret ?_
    refine at_then_ret ?_
    refine at_end ?_
    refine at_fold (A := RowR wb wm []) [0, 0] rfl (fun h s => ⟨LA, lc, s⟩) ?_
    refine at_fold (A := RefA g most idle wm last [] cs) [1, 0, 0, 0] rfl (fun h s => ⟨wb, A, c, ps, hps, s⟩) ?_
    refine at_fin (rsL (vs := [_, _, _]) rfl ⟨res_tmp rfl, res_tmp rfl, res_tmp rfl, trivial⟩ rfl) ?_
    rw [show serveM most last [] cs e now = (0, 0, false, last, [], cs) from rfl]
    refine ⟨_, ⟨rfl, rfl⟩, ?_⟩
    exact fun _ s => s.finEq (ks := [0]) (js := []) rfl rfl rfl
  | cons x r =>
    have hx1 := (hpos x (by simp)).1
    have hcat : (x :: r)[0]? = some x := rfl
    have hi3 : ¬ (((x :: r).length : Nat) : Int) = 0 := by simp; omega
    obtain ⟨gi, gb, gl, gcs, hg⟩ : ∃ gi gb gl gcs, giveM most last cs x e now = (gi, gb, gl, gcs) := ⟨_, _, _, _, rfl⟩
    have hgv := T58 w0 (g := g) x e now hw hx1
    simp only at hgv
    refine at_seq_k (fun K0 hK0 => ?_)
    refine at_region ?_
    refine at_v (ov_assign rfl rfl) rfl rfl rfl ?_
    refine at_v (ov_assign rfl rfl) rfl rfl rfl ?_
    refine at_v (ov_assign rfl rfl) rfl rfl rfl ?_
    refine at_nil ?_
    refine at_normal ?_
    refine hK0 _ _ _ ?_
    refine at_seq_k (fun K1 hK1 => ?_)
    refine at_seq_k (fun K2 hK2 => ?_)
    refine at_region ?_
    refine at_v (ov_move rfl rfl) rfl rfl rfl ?_
    refine at_v (ov_nilCheck rfl rfl) rfl rfl rfl ?_
    refine at_v (ov_fieldAddr (k := 2) (r := 2) rfl rfl rfl rfl) rfl rfl rfl ?_
    refine at_v (ov_load rfl rfl rfl (fun _ s => s.ld (k := 2) rfl rfl)) rfl rfl rfl ?_
    refine at_v (ov_nilCheck rfl rfl) rfl rfl rfl ?_
    refine at_v (ov_fieldAddr (k := 0) (r := 0) rfl rfl rfl rfl) rfl rfl rfl ?_
    refine at_v (ov_load rfl rfl rfl (fun _ s => s.ld (k := 0) rfl rfl)) rfl rfl rfl ?_
    refine at_v (ov_len_slice rfl Tryz.underlying45 rfl) rfl rfl rfl ?_
    refine at_v (ov_int rfl rfl rfl rfl) rfl rfl rfl ?_
    refine at_nil ?_
    refine at_normal ?_
    refine hK2 _ _ _ ?_
    refine at_cond_false rfl ?_
    refine at_skip ?_
    refine at_normal ?_
    refine hK1 _ _ _ ?_
    refine at_seq_k (fun K3 hK3 => ?_)
    refine at_region ?_
    refine at_v (ov_move rfl rfl) rfl rfl rfl ?_
    refine at_v (ov_nilCheck rfl rfl) rfl rfl rfl ?_
    refine at_v (ov_fieldAddr (k := 2) (r := 2) rfl rfl rfl rfl) rfl rfl rfl ?_
    refine at_v (ov_load rfl rfl rfl (fun _ s => s.ld (k := 2) rfl rfl)) rfl rfl rfl ?_
    refine at_v (ov_nilCheck rfl rfl) rfl rfl rfl ?_
    refine at_v (ov_fieldAddr (k := 0) (r := 0) rfl rfl rfl rfl) rfl rfl rfl ?_
    refine at_v (ov_load rfl rfl rfl (fun _ s => s.ld (k := 0) rfl rfl)) rfl rfl rfl ?_
    refine at_v (ov_indexRd (fun _ s => s.rd (k := 1) rfl) rfl Tryz.underlying45 rfl rfl rfl hcat) rfl rfl rfl ?_
    refine at_v (ov_loadRd0 (fun _ s => s.rd (k := 1) rfl) rfl rfl rfl hcat rfl) rfl rfl rfl ?_
    refine at_v (ov_assign rfl rfl) rfl rfl rfl ?_
    refine at_nil ?_
    refine at_normal ?_
    refine hK3 _ _ _ ?_
    refine at_seq_k (fun K4 hK4 => ?_)
    refine at_region ?_
    refine at_v (ov_move rfl rfl) rfl rfl rfl ?_
    refine at_v (ov_move rfl rfl) rfl rfl rfl ?_
    refine at_v (ov_move rfl rfl) rfl rfl rfl ?_
    refine at_v (ov_move rfl rfl) rfl rfl rfl ?_
    refine at_fold (A := RowR wb wm (x :: r)) [0, 0] rfl (fun h s => ⟨LA, lc, s⟩) ?_
    refine at_fold (A := RefA g most idle wm last (x :: r) cs) [1, 0, 0, 0] rfl (fun h s => ⟨wb, A, c, ps, hps, s⟩) ?_
    cases gb with
    | true =>
      have hi4 : (giveM most last cs x e now).2.1 = true := by rw [hg]
      have hsm : serveM most last (x :: r) cs e now = (x, gi, true, gl, r, gcs) := by unfold serveM; simp only [hg, if_true]
      refine at_t (ot_call (ks := [0]) rfl rfl rfl Tryz.call58 rfl (hgv ) rfl) rfl rfl rfl ?_
      rintro v0 _ ⟨m0, hp0, rfl⟩
      obtain ⟨rfl, rfl⟩ := hp0
      simp only [List.cons_append, List.nil_append, splice, spliceL]
      refine at_v (ov_move rfl rfl) rfl rfl rfl ?_
      refine at_v (ov_extract rfl rfl rfl) rfl rfl rfl ?_
      refine at_v (ov_extract rfl rfl rfl) rfl rfl rfl ?_
      refine at_v (ov_assign rfl rfl) rfl rfl rfl ?_
      refine at_v (ov_assign rfl rfl) rfl rfl rfl ?_
      refine at_nil ?_
      refine at_normal ?_
      refine hK4 _ _ _ ?_
      refine at_seq_k (fun K5 hK5 => ?_)
      refine at_seq_k (fun K6 hK6 => ?_)
      refine at_region ?_
      refine at_v (ov_move rfl rfl) rfl rfl rfl ?_
      refine at_v (ov_not rfl rfl) rfl rfl rfl ?_
      refine at_nil ?_
      refine at_normal ?_
      refine hK6 _ _ _ ?_
      refine at_cond_false (congrArg (fun b => some (Value.bool b)) (show _ = false from by simp [hi3, hi4]; done)) ?_
      refine at_skip ?_
      refine at_normal ?_
      refine hK5 _ _ _ ?_
      refine at_seq_k (fun K7 hK7 => ?_)
      refine at_region ?_
      refine at_v (ov_move rfl rfl) rfl rfl rfl ?_
      refine at_v (ov_nilCheck rfl rfl) rfl rfl rfl ?_
      refine at_v (ov_fieldAddr (k := 2) (r := 2) rfl rfl rfl rfl) rfl rfl rfl ?_
      refine at_ref fun wb A c ps hps => ?_
      refine at_v (ov_load rfl rfl rfl (fun _ s => s.ld (k := 0) rfl rfl)) rfl rfl rfl ?_
      refine at_t (ot_call (ks := [1]) rfl rfl rfl Tryz.call60 rfl (T60 _ (by first | assumption | rfl | omega | decide | (simp; done) | (simp at *; omega))) rfl) rfl rfl rfl ?_
      rintro v0 _ ⟨m0, hp0, rfl⟩
      obtain ⟨rfl, rfl⟩ := hp0
      simp only [List.cons_append, List.nil_append, splice, spliceL]
      refine at_nil ?_
      refine at_normal ?_
      refine hK7 _ _ _ ?_
      refine at_seq_k (fun K8 hK8 => ?_)
      refine at_region ?_
      refine at_v (ov_move rfl rfl) rfl rfl rfl ?_
      refine at_v (ov_move rfl rfl) rfl rfl rfl ?_
      refine at_v (ov_assign rfl rfl) rfl rfl rfl ?_
      refine at_v (ov_assign rfl rfl) rfl rfl rfl ?_
      refine at_v (ov_assign rfl rfl) rfl rfl rfl ?_
      refine at_nil ?_
      refine at_normal ?_
      refine hK8 _ _ _ ?_
      refine at_ret ?_
      refine at_end ?_
      refine at_fold (A := RefA g most idle wm (giveM most last cs x e now).2.2.1 r (giveM most last cs x e now).2.2.2) [1, 0, 0, 0] rfl (fun h s => ⟨wb, A, c, ps, hps, s⟩) ?_
      refine at_fin (rsL (vs := [_, _, _]) rfl ⟨res_tmp rfl, res_tmp rfl, res_tmp rfl, trivial⟩ rfl) ?_
      rw [hsm, hg]
      refine ⟨_, ⟨rfl, rfl⟩, ?_⟩
      exact fun _ s => s.finEq (ks := [0]) (js := []) rfl rfl rfl
    | false =>
      have hi4 : (giveM most last cs x e now).2.1 = false := by rw [hg]
      have hsm : serveM most last (x :: r) cs e now = (0, 0, false, gl, x :: r, gcs) := by unfold serveM; simp only [hg, Bool.false_eq_true, if_false]
      refine at_t (ot_call (ks := [0]) rfl rfl rfl Tryz.call58 rfl (hgv ) rfl) rfl rfl rfl ?_
      rintro v0 _ ⟨m0, hp0, rfl⟩
      obtain ⟨rfl, rfl⟩ := hp0
      simp only [List.cons_append, List.nil_append, splice, spliceL]
      refine at_v (ov_move rfl rfl) rfl rfl rfl ?_
      refine at_v (ov_extract rfl rfl rfl) rfl rfl rfl ?_
      refine at_v (ov_extract rfl rfl rfl) rfl rfl rfl ?_
      refine at_v (ov_assign rfl rfl) rfl rfl rfl ?_
      refine at_v (ov_assign rfl rfl) rfl rfl rfl ?_
      refine at_nil ?_
      refine at_normal ?_
      refine hK4 _ _ _ ?_
      refine at_seq_k (fun K5 hK5 => ?_)
      refine at_seq_k (fun K6 hK6 => ?_)
      refine at_region ?_
      refine at_v (ov_move rfl rfl) rfl rfl rfl ?_
      refine at_v (ov_not rfl rfl) rfl rfl rfl ?_
      refine at_nil ?_
      refine at_normal ?_
      refine hK6 _ _ _ ?_
      refine at_cond_true (congrArg (fun b => some (Value.bool b)) (show _ = true from by simp [hi3, hi4]; done)) ?_
      refine at_seq_k (fun K7 hK7 => ?_)
      refine at_region ?_
      refine at_v (ov_assign rfl rfl) rfl rfl rfl ?_
      refine at_v (ov_assign rfl rfl) rfl rfl rfl ?_
      refine at_v (ov_assign rfl rfl) rfl rfl rfl ?_
      refine at_nil ?_
      refine at_normal ?_
      refine hK7 _ _ _ ?_
      refine at_ret ?_
      refine at_then_ret ?_
      refine at_end ?_
      refine at_fin (rsL (vs := [_, _, _]) rfl ⟨res_tmp rfl, res_tmp rfl, res_tmp rfl, trivial⟩ rfl) ?_
      rw [hsm, hg]
      refine ⟨_, ⟨rfl, rfl⟩, ?_⟩
      exact fun _ s => s.finEq (ks := [0]) (js := []) rfl rfl rfl
theorem rl_nil {h : PH} : RL [] h := trivial
theorem ref_nil {g wb : Nat} {most idle wm last : Int} {L : List Int} {h : PH} (s : star [cl g #[.int .i64 most, .int .u64 idle, ptrTo wb, .slice none 0 0, .int .i64 last] 52, RowR wb wm L, Row heE 87 3 none 0 []] h) : RefA g most idle wm last L [] h := by
  refine ⟨wb, none, 0, [], rfl, ?_⟩
  have s2 : star ([RL []] ++ [cl g #[.int .i64 most, .int .u64 idle, ptrTo wb, .slice none 0 0, .int .i64 last] 52, RowR wb wm L, Row heE 87 3 none 0 []]) h :=
    star_imp_left (l := []) (m := [RL []]) (fun h s => ⟨h, fun _ => none, s, trivial, fun _ => .inr rfl, Le.refl _, fun _ _ e => by cases e⟩) s
  exact star_perm (List.perm_append_comm (l₁ := [_]) (l₂ := [_, _, _])) s2
theorem T6 (w0 : World) (most wm idle : Int) : Tri Tryz.prog w0 6 [.int .i64 most, .int .i64 wm, .int .u64 idle] [] fun v m => ∃ b : Bool, b = decide (0 ≤ wm ∧ wm ≤ 12 ∧ 1 ≤ most ∧ most ≤ 6 ∧ idle ≠ 0) ∧ (b = false → v = .tuple #[.pointer none, .int .i64 1] ∧ m = []) ∧ (b = true → ∃ g, v = .tuple #[ptrTo g, .int .i64 0] ∧ m = [RefA g most idle wm 0 [] []]) := by
  refine tri_of Tryz.func6 rfl rfl fun F => ?_
  simp only [Tryz.ntmps6, argEnv, List.cons_append, List.nil_append]
  refine at_seq_k (fun K0 hK0 => ?_)
  refine at_region ?_
  refine at_v (ov_assign rfl rfl) rfl rfl rfl ?_
  refine at_v (ov_assign rfl rfl) rfl rfl rfl ?_
  refine at_nil ?_
  refine at_normal ?_
  refine hK0 _ _ _ ?_
  refine at_seq_k (fun K1 hK1 => ?_)
  refine at_region ?_
  refine at_v (ov_move rfl rfl) rfl rfl rfl ?_
  refine at_t (ot_call (ks := []) rfl rfl rfl Tryz.call21 rfl (T21 _ _) rfl) rfl rfl rfl ?_
  rintro v0 _ ⟨m0, hp0, rfl⟩
  obtain ⟨b0, hp0⟩ := hp0
  obtain ⟨hq0, hp0⟩ := hp0
  obtain ⟨hq1, hp0⟩ := hp0
  cases b0 with
  | false =>
    obtain ⟨rfl, rfl⟩ := hq1 rfl
    have hno : ¬ (0 ≤ wm ∧ wm ≤ 12) := by simpa using hq0
    clear hq0 hq1 hp0
    simp only [List.nil_append]
    refine at_v (ov_move rfl rfl) rfl rfl rfl ?_
    refine at_v (ov_extract rfl rfl rfl) rfl rfl rfl ?_
    refine at_v (ov_extract rfl rfl rfl) rfl rfl rfl ?_
    refine at_v (ov_assign rfl rfl) rfl rfl rfl ?_
    refine at_v (ov_assign rfl rfl) rfl rfl rfl ?_
    refine at_nil ?_
    refine at_normal ?_
    refine hK1 _ _ _ ?_
    refine at_seq_k (fun K2 hK2 => ?_)
    refine at_seq_k (fun K3 hK3 => ?_)
    refine at_region ?_
    refine at_v (ov_move rfl rfl) rfl rfl rfl ?_
    refine at_v (ov_int rfl rfl rfl rfl) rfl rfl rfl ?_
    refine at_v (ov_move rfl rfl) rfl rfl rfl ?_
    refine at_unwanted (j := 2) rfl rfl rfl rfl ?_
    refine at_unwanted (j := 2) rfl rfl rfl rfl ?_
    refine at_v (ov_pick_t rfl rfl rfl) rfl rfl rfl ?_
    refine at_v (ov_move rfl rfl) rfl rfl rfl ?_
    refine at_unwanted (j := 6) rfl rfl rfl rfl ?_
    refine at_unwanted (j := 6) rfl rfl rfl rfl ?_
    refine at_v (ov_pick_t rfl rfl rfl) rfl rfl rfl ?_
    refine at_v (ov_move rfl rfl) rfl rfl rfl ?_
    refine at_unwanted (j := 10) rfl rfl rfl rfl ?_
    refine at_unwanted (j := 10) rfl rfl rfl rfl ?_
    refine at_v (ov_pick_t rfl rfl rfl) rfl rfl rfl ?_
    refine at_nil ?_
    refine at_normal ?_
    refine hK3 _ _ _ ?_
    refine at_cond_true rfl ?_
    refine at_seq_k (fun K4 hK4 => ?_)
    refine at_region ?_
    refine at_v (ov_assign rfl rfl) rfl rfl rfl ?_
    refine at_v (ov_assign rfl rfl) rfl rfl rfl ?_
    refine at_nil ?_
    refine at_normal ?_
    refine hK4 _ _ _ ?_
    refine at_ret ?_
    refine at_then_ret ?_
    refine at_end ?_
    refine at_fin (rsL (vs := [_, _]) rfl ⟨res_tmp rfl, res_tmp rfl, trivial⟩ rfl) ?_
    refine ⟨_, ⟨false, by simp; omega, fun _ => ⟨rfl, rfl⟩, fun h => by cases h⟩, ?_⟩
    exact fun _ s => s.finEq (ks := []) (js := []) rfl rfl rfl
  | true =>
    obtain ⟨wg, rfl, rfl⟩ := hp0 rfl
    have hyes : 0 ≤ wm ∧ wm ≤ 12 := by simpa using hq0
    clear hq0 hq1 hp0
    simp only [List.cons_append, List.nil_append]
    by_cases hi1 : most < 1
    · refine at_v (ov_move rfl rfl) rfl rfl rfl ?_
      refine at_v (ov_extract rfl rfl rfl) rfl rfl rfl ?_
      refine at_v (ov_extract rfl rfl rfl) rfl rfl rfl ?_
      refine at_v (ov_assign rfl rfl) rfl rfl rfl ?_
      refine at_v (ov_assign rfl rfl) rfl rfl rfl ?_
      refine at_nil ?_
      refine at_normal ?_
      refine hK1 _ _ _ ?_
      refine at_seq_k (fun K2 hK2 => ?_)
      refine at_seq_k (fun K3 hK3 => ?_)
      refine at_region ?_
      refine at_v (ov_move rfl rfl) rfl rfl rfl ?_
      refine at_v (ov_int rfl rfl rfl rfl) rfl rfl rfl ?_
      refine at_v (ov_move rfl rfl) rfl rfl rfl ?_
      refine at_wanted (j := 2) rfl ?_
      refine at_v (ov_move rfl rfl) rfl rfl rfl ?_
      refine at_wanted (j := 2) rfl ?_
      refine at_v (ov_int rfl rfl rfl rfl) rfl rfl rfl ?_
      refine at_v (ov_pick_f rfl rfl rfl) rfl rfl rfl ?_
      refine at_v (ov_move rfl rfl) rfl rfl rfl ?_
      refine at_reval 21 (.bool true) rfl (congrArg Value.bool (decide_eq_true (by omega))) ?_
      refine at_unwanted (j := 6) rfl rfl rfl rfl ?_
      refine at_unwanted (j := 6) rfl rfl rfl rfl ?_
      refine at_v (ov_pick_t rfl rfl rfl) rfl rfl rfl ?_
      refine at_v (ov_move rfl rfl) rfl rfl rfl ?_
      refine at_unwanted (j := 10) rfl rfl rfl rfl ?_
      refine at_unwanted (j := 10) rfl rfl rfl rfl ?_
      refine at_v (ov_pick_t rfl rfl rfl) rfl rfl rfl ?_
      refine at_nil ?_
      refine at_normal ?_
      refine hK3 _ _ _ ?_
      refine at_cond_true rfl ?_
      refine at_seq_k (fun K4 hK4 => ?_)
      refine at_region ?_
      refine at_v (ov_assign rfl rfl) rfl rfl rfl ?_
      refine at_v (ov_assign rfl rfl) rfl rfl rfl ?_
      refine at_nil ?_
      refine at_normal ?_
      refine hK4 _ _ _ ?_
      refine at_ret ?_
      refine at_then_ret ?_
      refine at_end ?_
      refine at_fin (rsL (vs := [_, _]) rfl ⟨res_tmp rfl, res_tmp rfl, trivial⟩ rfl) ?_
      refine ⟨_, ⟨false, by simp; omega, fun _ => ⟨rfl, rfl⟩, fun h => by cases h⟩, ?_⟩
      exact fun _ s => s.finEq (ks := []) (js := [0]) rfl rfl rfl
    · by_cases hi2 : most > 6
      · refine at_v (ov_move rfl rfl) rfl rfl rfl ?_
        refine at_v (ov_extract rfl rfl rfl) rfl rfl rfl ?_
        refine at_v (ov_extract rfl rfl rfl) rfl rfl rfl ?_
        refine at_v (ov_assign rfl rfl) rfl rfl rfl ?_
        refine at_v (ov_assign rfl rfl) rfl rfl rfl ?_
        refine at_nil ?_
        refine at_normal ?_
        refine hK1 _ _ _ ?_
        refine at_seq_k (fun K2 hK2 => ?_)
        refine at_seq_k (fun K3 hK3 => ?_)
        refine at_region ?_
        refine at_v (ov_move rfl rfl) rfl rfl rfl ?_
        refine at_v (ov_int rfl rfl rfl rfl) rfl rfl rfl ?_
        refine at_v (ov_move rfl rfl) rfl rfl rfl ?_
        refine at_wanted (j := 2) rfl ?_
        refine at_v (ov_move rfl rfl) rfl rfl rfl ?_
        refine at_wanted (j := 2) rfl ?_
        refine at_v (ov_int rfl rfl rfl rfl) rfl rfl rfl ?_
        refine at_v (ov_pick_f rfl rfl rfl) rfl rfl rfl ?_
        refine at_v (ov_move rfl rfl) rfl rfl rfl ?_
        refine at_reval 21 (.bool false) rfl (congrArg Value.bool (decide_eq_false (by omega))) ?_
        refine at_wanted (j := 6) rfl ?_
        refine at_v (ov_move rfl rfl) rfl rfl rfl ?_
        refine at_wanted (j := 6) rfl ?_
        refine at_v (ov_int rfl rfl rfl rfl) rfl rfl rfl ?_
        refine at_v (ov_pick_f rfl rfl rfl) rfl rfl rfl ?_
        refine at_v (ov_move rfl rfl) rfl rfl rfl ?_
        refine at_reval 25 (.bool true) rfl (congrArg Value.bool (decide_eq_true (by omega))) ?_
        refine at_unwanted (j := 10) rfl rfl rfl rfl ?_
        refine at_unwanted (j := 10) rfl rfl rfl rfl ?_
        refine at_v (ov_pick_t rfl rfl rfl) rfl rfl rfl ?_
        refine at_nil ?_
        refine at_normal ?_
        refine hK3 _ _ _ ?_
        refine at_cond_true rfl ?_
        refine at_seq_k (fun K4 hK4 => ?_)
        refine at_region ?_
        refine at_v (ov_assign rfl rfl) rfl rfl rfl ?_
        refine at_v (ov_assign rfl rfl) rfl rfl rfl ?_
        refine at_nil ?_
        refine at_normal ?_
        refine hK4 _ _ _ ?_
        refine at_ret ?_
        refine at_then_ret ?_
        refine at_end ?_
        refine at_fin (rsL (vs := [_, _]) rfl ⟨res_tmp rfl, res_tmp rfl, trivial⟩ rfl) ?_
        refine ⟨_, ⟨false, by simp; omega, fun _ => ⟨rfl, rfl⟩, fun h => by cases h⟩, ?_⟩
        exact fun _ s => s.finEq (ks := []) (js := [0]) rfl rfl rfl
      · by_cases hi3 : idle = 0
        · refine at_v (ov_move rfl rfl) rfl rfl rfl ?_
          refine at_v (ov_extract rfl rfl rfl) rfl rfl rfl ?_
          refine at_v (ov_extract rfl rfl rfl) rfl rfl rfl ?_
          refine at_v (ov_assign rfl rfl) rfl rfl rfl ?_
          refine at_v (ov_assign rfl rfl) rfl rfl rfl ?_
          refine at_nil ?_
          refine at_normal ?_
          refine hK1 _ _ _ ?_
          refine at_seq_k (fun K2 hK2 => ?_)
          refine at_seq_k (fun K3 hK3 => ?_)
          refine at_region ?_
          refine at_v (ov_move rfl rfl) rfl rfl rfl ?_
          refine at_v (ov_int rfl rfl rfl rfl) rfl rfl rfl ?_
          refine at_v (ov_move rfl rfl) rfl rfl rfl ?_
          refine at_wanted (j := 2) rfl ?_
          refine at_v (ov_move rfl rfl) rfl rfl rfl ?_
          refine at_wanted (j := 2) rfl ?_
          refine at_v (ov_int rfl rfl rfl rfl) rfl rfl rfl ?_
          refine at_v (ov_pick_f rfl rfl rfl) rfl rfl rfl ?_
          refine at_v (ov_move rfl rfl) rfl rfl rfl ?_
          refine at_reval 21 (.bool false) rfl (congrArg Value.bool (decide_eq_false (by omega))) ?_
          refine at_wanted (j := 6) rfl ?_
          refine at_v (ov_move rfl rfl) rfl rfl rfl ?_
          refine at_wanted (j := 6) rfl ?_
          refine at_v (ov_int rfl rfl rfl rfl) rfl rfl rfl ?_
          refine at_v (ov_pick_f rfl rfl rfl) rfl rfl rfl ?_
          refine at_v (ov_move rfl rfl) rfl rfl rfl ?_
          refine at_reval 25 (.bool false) rfl (congrArg Value.bool (decide_eq_false (by omega))) ?_
          refine at_wanted (j := 10) rfl ?_
          refine at_v (ov_move rfl rfl) rfl rfl rfl ?_
          refine at_wanted (j := 10) rfl ?_
          refine at_v (ov_int rfl rfl rfl rfl) rfl rfl rfl ?_
          refine at_v (ov_pick_f rfl rfl rfl) rfl rfl rfl ?_
          refine at_nil ?_
          refine at_normal ?_
          refine hK3 _ _ _ ?_
          refine at_cond_true (congrArg (fun b => some (Value.bool b)) (show _ = true from decide_eq_true (by omega))) ?_
          refine at_seq_k (fun K4 hK4 => ?_)
          refine at_region ?_
          refine at_v (ov_assign rfl rfl) rfl rfl rfl ?_
          refine at_v (ov_assign rfl rfl) rfl rfl rfl ?_
          refine at_nil ?_
          refine at_normal ?_
          refine hK4 _ _ _ ?_
          refine at_ret ?_
          refine at_then_ret ?_
          refine at_end ?_
          refine at_fin (rsL (vs := [_, _]) rfl ⟨res_tmp rfl, res_tmp rfl, trivial⟩ rfl) ?_
          refine ⟨_, ⟨false, by simp; omega, fun _ => ⟨rfl, rfl⟩, fun h => by cases h⟩, ?_⟩
          exact fun _ s => s.finEq (ks := []) (js := [0]) rfl rfl rfl
        · refine at_rowNil heE 87 3 ?_
          refine at_v (ov_move rfl rfl) rfl rfl rfl ?_
          refine at_v (ov_extract rfl rfl rfl) rfl rfl rfl ?_
          refine at_v (ov_extract rfl rfl rfl) rfl rfl rfl ?_
          refine at_v (ov_assign rfl rfl) rfl rfl rfl ?_
          refine at_v (ov_assign rfl rfl) rfl rfl rfl ?_
          refine at_nil ?_
          refine at_normal ?_
          refine hK1 _ _ _ ?_
          refine at_seq_k (fun K2 hK2 => ?_)
          refine at_seq_k (fun K3 hK3 => ?_)
          refine at_region ?_
          refine at_v (ov_move rfl rfl) rfl rfl rfl ?_
          refine at_v (ov_int rfl rfl rfl rfl) rfl rfl rfl ?_
          refine at_v (ov_move rfl rfl) rfl rfl rfl ?_
          refine at_wanted (j := 2) rfl ?_
          refine at_v (ov_move rfl rfl) rfl rfl rfl ?_
          refine at_wanted (j := 2) rfl ?_
          refine at_v (ov_int rfl rfl rfl rfl) rfl rfl rfl ?_
          refine at_v (ov_pick_f rfl rfl rfl) rfl rfl rfl ?_
          refine at_v (ov_move rfl rfl) rfl rfl rfl ?_
          refine at_reval 21 (.bool false) rfl (congrArg Value.bool (decide_eq_false (by omega))) ?_
          refine at_wanted (j := 6) rfl ?_
          refine at_v (ov_move rfl rfl) rfl rfl rfl ?_
          refine at_wanted (j := 6) rfl ?_
          refine at_v (ov_int rfl rfl rfl rfl) rfl rfl rfl ?_
          refine at_v (ov_pick_f rfl rfl rfl) rfl rfl rfl ?_
          refine at_v (ov_move rfl rfl) rfl rfl rfl ?_
          refine at_reval 25 (.bool false) rfl (congrArg Value.bool (decide_eq_false (by omega))) ?_
          refine at_wanted (j := 10) rfl ?_
          refine at_v (ov_move rfl rfl) rfl rfl rfl ?_
          refine at_wanted (j := 10) rfl ?_
          refine at_v (ov_int rfl rfl rfl rfl) rfl rfl rfl ?_
          refine at_v (ov_pick_f rfl rfl rfl) rfl rfl rfl ?_
          refine at_nil ?_
          refine at_normal ?_
          refine hK3 _ _ _ ?_
          refine at_cond_false (congrArg (fun b => some (Value.bool b)) (show _ = false from decide_eq_false (by omega))) ?_
          refine at_skip ?_
          refine at_normal ?_
          refine hK2 _ _ _ ?_
          refine at_seq_k (fun K4 hK4 => ?_)
          refine at_region ?_
          refine at_v (ov_move rfl rfl) rfl rfl rfl ?_
          refine at_v (ov_move rfl rfl) rfl rfl rfl ?_
          refine at_v (ov_move rfl rfl) rfl rfl rfl ?_
          refine at_v (ov_build (cs := [_, _, _, _, _]) rfl rfl rfl rfl) rfl rfl rfl ?_
          refine at_t (ot_boxA rfl rfl) rfl rfl rfl ?_
          rintro _ _ ⟨g0, rfl, rfl⟩
          refine at_v (ov_assign rfl rfl) rfl rfl rfl ?_
          refine at_v (ov_assign rfl rfl) rfl rfl rfl ?_
          refine at_nil ?_
          refine at_normal ?_
          refine hK4 _ _ _ ?_
          refine at_ret ?_
          refine at_end ?_
          refine at_fold (A := RefA g0 most idle wm 0 [] []) [0, 1, 0] rfl (fun h s => ref_nil (wb := wg) s) ?_
          refine at_fin (rsL (vs := [_, _]) rfl ⟨res_tmp rfl, res_tmp rfl, trivial⟩ rfl) ?_
          refine ⟨_, ⟨true, by simp; omega, fun h => (by cases h), fun _ => ⟨g0, rfl, rfl⟩⟩, ?_⟩
          exact fun _ s => s.finEq (ks := [0]) (js := []) rfl rfl rfl
theorem T8 (w0 : World) {g : Nat} {p : PM} {n : Nat} (x : PA) (hx : x.ok) (hw : Wf n p) : Tri Tryz.prog w0 8 [ptrTo g, paV x] [RO g p] fun v m => v = toV (doT p x) ∧ m = [RO g (doP p x)] := by
  refine tri_of Tryz.func8 rfl rfl fun F => ?_
  simp only [Tryz.ntmps8, argEnv, List.cons_append, List.nil_append]
  have hs := hw.sorted
  have ho := hw.open_
  have hnow := hx.2.1
  have hL12 : p.L.length ≤ 12 := by have := hw.lenL; have := hw.wm_; omega
  have h5 : ∀ id, withL p.cs id CM.soil = setL p.cs id CM.soil := fun id => by
    rw [withL_upd hs ho, setL_upd hs ho _ _ fun y hy => cwf_state (cwf_soil (hw.con y hy)).1]
  obtain ⟨d, se, id, e, now, nn⟩ := x
  obtain ⟨most, idle, wm, last, L, cs⟩ := p
  simp only at hs ho hnow hL12 h5 ⊢
  by_cases hi0 : d = 0
  · simp only [doT, doP, if_pos hi0]
    refine at_seq_k (fun K0 hK0 => ?_)
    refine at_region ?_
    refine at_t (ot_boxA rfl rfl) rfl rfl rfl ?_
    rintro _ _ ⟨g0, rfl, rfl⟩
    refine at_t (ot_allocA rfl Tryz.zeroValue35) rfl rfl rfl ?_
    rintro _ _ ⟨g1, rfl, rfl⟩
    refine at_nil ?_
    refine at_normal ?_
    refine hK0 _ _ _ ?_
    refine at_seq_k (fun K1 hK1 => ?_)
    refine at_region ?_
    refine at_t (ot_allocA rfl Tryz.zeroValue35) rfl rfl rfl ?_
    rintro _ _ ⟨g2, rfl, rfl⟩
    refine at_nil ?_
    refine at_normal ?_
    refine hK1 _ _ _ ?_
    refine at_seq_k (fun K2 hK2 => ?_)
    refine at_seq_k (fun K3 hK3 => ?_)
    refine at_region ?_
    refine at_v (ov_fieldAddr (k := 0) (r := 0) rfl rfl rfl rfl) rfl rfl rfl ?_
    refine at_v (ov_load rfl rfl rfl (fun _ s => s.ld (k := 2) rfl rfl)) rfl rfl rfl ?_
    refine at_nil ?_
    refine at_normal ?_
    refine hK3 _ _ _ ?_
    refine at_block ?_
    refine at_seq_k (fun K4 hK4 => ?_)
    refine at_region ?_
    refine at_v (ov_int rfl rfl rfl rfl) rfl rfl rfl ?_
    refine at_v (ov_assign rfl rfl) rfl rfl rfl ?_
    refine at_nil ?_
    refine at_normal ?_
    refine hK4 _ _ _ ?_
    refine at_cond_true (congrArg (fun b => some (Value.bool b)) (show _ = true from decide_eq_true (by omega))) ?_
    refine at_region ?_
    refine at_v (ov_move rfl rfl) rfl rfl rfl ?_
    refine at_v (ov_fieldAddr (k := 1) (r := 1) rfl rfl rfl rfl) rfl rfl rfl ?_
    refine at_v (ov_load rfl rfl rfl (fun _ s => s.ld (k := 2) rfl rfl)) rfl rfl rfl ?_
    refine at_v (ov_fieldAddr (k := 3) (r := 3) rfl rfl rfl rfl) rfl rfl rfl ?_
    refine at_v (ov_load rfl rfl rfl (fun _ s => s.ld (k := 2) rfl rfl)) rfl rfl rfl ?_
    refine at_v (ov_fieldAddr (k := 4) (r := 4) rfl rfl rfl rfl) rfl rfl rfl ?_
    refine at_v (ov_load rfl rfl rfl (fun _ s => s.ld (k := 2) rfl rfl)) rfl rfl rfl ?_
    refine at_t (ot_call (ks := [3]) rfl rfl rfl Tryz.call27 rfl (T27 _ _ _ _ (by first | assumption | rfl | omega | decide | (simp; done) | (simp at *; omega))) rfl) rfl rfl rfl ?_
    rintro v0 _ ⟨m0, hp0, rfl⟩
    obtain ⟨rfl, rfl⟩ := hp0
    simp only [List.cons_append, List.nil_append, splice, spliceL]
    refine at_v (ov_move rfl rfl) rfl rfl rfl ?_
    refine at_v (ov_extract rfl rfl rfl) rfl rfl rfl ?_
    refine at_v (ov_extract rfl rfl rfl) rfl rfl rfl ?_
    refine at_v (ov_fieldAddr (k := 0) (r := 0) rfl rfl rfl rfl) rfl rfl rfl ?_
    refine at_t0 (ot_store (k := 1) rfl rfl rfl rfl rfl rfl rfl) rfl rfl ?_
    rintro _ _ ⟨rfl, rfl⟩
    simp only [setAt, splice, spliceL, Value.cells]
    refine at_v (ov_fieldAddr (k := 4) (r := 4) rfl rfl rfl rfl) rfl rfl rfl ?_
    refine at_t0 (ot_store (k := 1) rfl rfl rfl rfl rfl rfl rfl) rfl rfl ?_
    rintro _ _ ⟨rfl, rfl⟩
    simp only [setAt, splice, spliceL, Value.cells]
    refine at_nil ?_
    refine at_inb_normal ?_
    refine at_normal ?_
    refine hK2 _ _ _ ?_
    refine at_seq_k (fun K5 hK5 => ?_)
    refine at_region ?_
    refine at_v (ov_loadS (cs := [_, _, _, _, _]) rfl rfl rfl rfl (fun _ s => s.lds (k := 1) rfl ⟨rfl, rfl, rfl, rfl, rfl, trivial⟩)) rfl rfl rfl ?_
    refine at_t0 (ot_store (k := 2) rfl rfl rfl rfl rfl rfl rfl) rfl rfl ?_
    rintro _ _ ⟨rfl, rfl⟩
    simp only [setAt, splice, spliceL, Value.cells]
    refine at_nil ?_
    refine at_normal ?_
    refine hK5 _ _ _ ?_
    refine at_ret ?_
    refine at_end ?_
    refine at_fin (rsV rfl (res_cellS (k := 2) (vs := [_, _, _, _, _]) rfl rfl rfl rfl ⟨rfl, rfl, rfl, rfl, rfl, trivial⟩)) ?_
    refine ⟨_, ⟨rfl, rfl⟩, ?_⟩
    exact fun _ s => s.finEq (ks := [0]) (js := [0, 0, 0]) rfl rfl rfl
  by_cases hi1 : d = 1
  · simp only [doT, doP, if_neg hi0, if_pos hi1]
    refine at_seq_k (fun K0 hK0 => ?_)
    refine at_region ?_
    refine at_t (ot_boxA rfl rfl) rfl rfl rfl ?_
    rintro _ _ ⟨g0, rfl, rfl⟩
    refine at_t (ot_allocA rfl Tryz.zeroValue35) rfl rfl rfl ?_
    rintro _ _ ⟨g1, rfl, rfl⟩
    refine at_nil ?_
    refine at_normal ?_
    refine hK0 _ _ _ ?_
    refine at_seq_k (fun K1 hK1 => ?_)
    refine at_region ?_
    refine at_t (ot_allocA rfl Tryz.zeroValue35) rfl rfl rfl ?_
    rintro _ _ ⟨g2, rfl, rfl⟩
    refine at_nil ?_
    refine at_normal ?_
    refine hK1 _ _ _ ?_
    refine at_seq_k (fun K2 hK2 => ?_)
    refine at_seq_k (fun K3 hK3 => ?_)
    refine at_region ?_
    refine at_v (ov_fieldAddr (k := 0) (r := 0) rfl rfl rfl rfl) rfl rfl rfl ?_
    refine at_v (ov_load rfl rfl rfl (fun _ s => s.ld (k := 2) rfl rfl)) rfl rfl rfl ?_
    refine at_nil ?_
    refine at_normal ?_
    refine hK3 _ _ _ ?_
    refine at_block ?_
    refine at_seq_k (fun K4 hK4 => ?_)
    refine at_region ?_
    refine at_v (ov_int rfl rfl rfl rfl) rfl rfl rfl ?_
    refine at_v (ov_assign rfl rfl) rfl rfl rfl ?_
    refine at_nil ?_
    refine at_normal ?_
    refine hK4 _ _ _ ?_
    refine at_cond_false (congrArg (fun b => some (Value.bool b)) (show _ = false from decide_eq_false (by omega))) ?_
    refine at_seq_k (fun K5 hK5 => ?_)
    refine at_region ?_
    refine at_v (ov_int rfl rfl rfl rfl) rfl rfl rfl ?_
    refine at_v (ov_assign rfl rfl) rfl rfl rfl ?_
    refine at_nil ?_
    refine at_normal ?_
    refine hK5 _ _ _ ?_
    refine at_cond_true (congrArg (fun b => some (Value.bool b)) (show _ = true from decide_eq_true (by omega))) ?_
    refine at_region ?_
    refine at_v (ov_move rfl rfl) rfl rfl rfl ?_
    refine at_v (ov_fieldAddr (k := 3) (r := 3) rfl rfl rfl rfl) rfl rfl rfl ?_
    refine at_v (ov_load rfl rfl rfl (fun _ s => s.ld (k := 2) rfl rfl)) rfl rfl rfl ?_
    refine at_v (ov_fieldAddr (k := 4) (r := 4) rfl rfl rfl rfl) rfl rfl rfl ?_
    refine at_v (ov_load rfl rfl rfl (fun _ s => s.ld (k := 2) rfl rfl)) rfl rfl rfl ?_
    refine at_t (ot_call (ks := [3]) rfl rfl rfl Tryz.call28 rfl (T28 _ _ _ (by first | assumption | rfl | omega | decide | (simp; done) | (simp at *; omega))) rfl) rfl rfl rfl ?_
    rintro v0 _ ⟨m0, hp0, rfl⟩
    obtain ⟨rfl, rfl⟩ := hp0
    simp only [List.cons_append, List.nil_append, splice, spliceL]
    refine at_v (ov_move rfl rfl) rfl rfl rfl ?_
    refine at_v (ov_extract rfl rfl rfl) rfl rfl rfl ?_
    refine at_v (ov_extract rfl rfl rfl) rfl rfl rfl ?_
    refine at_v (ov_extract rfl rfl rfl) rfl rfl rfl ?_
    refine at_v (ov_fieldAddr (k := 0) (r := 0) rfl rfl rfl rfl) rfl rfl rfl ?_
    refine at_t0 (ot_store (k := 1) rfl rfl rfl rfl rfl rfl rfl) rfl rfl ?_
    rintro _ _ ⟨rfl, rfl⟩
    simp only [setAt, splice, spliceL, Value.cells]
    refine at_v (ov_fieldAddr (k := 1) (r := 1) rfl rfl rfl rfl) rfl rfl rfl ?_
    refine at_t0 (ot_store (k := 1) rfl rfl rfl rfl rfl rfl rfl) rfl rfl ?_
    rintro _ _ ⟨rfl, rfl⟩
    simp only [setAt, splice, spliceL, Value.cells]
    refine at_v (ov_fieldAddr (k := 3) (r := 3) rfl rfl rfl rfl) rfl rfl rfl ?_
    refine at_t0 (ot_store (k := 1) rfl rfl rfl rfl rfl rfl rfl) rfl rfl ?_
    rintro _ _ ⟨rfl, rfl⟩
    simp only [setAt, splice, spliceL, Value.cells]
    refine at_nil ?_
    refine at_inb_normal ?_
    refine at_normal ?_
    refine hK2 _ _ _ ?_
    refine at_seq_k (fun K6 hK6 => ?_)
    refine at_region ?_
    refine at_v (ov_loadS (cs := [_, _, _, _, _]) rfl rfl rfl rfl (fun _ s => s.lds (k := 1) rfl ⟨rfl, rfl, rfl, rfl, rfl, trivial⟩)) rfl rfl rfl ?_
    refine at_t0 (ot_store (k := 2) rfl rfl rfl rfl rfl rfl rfl) rfl rfl ?_
    rintro _ _ ⟨rfl, rfl⟩
    simp only [setAt, splice, spliceL, Value.cells]
    refine at_nil ?_
    refine at_normal ?_
    refine hK6 _ _ _ ?_
    refine at_ret ?_
    refine at_end ?_
    refine at_fin (rsV rfl (res_cellS (k := 2) (vs := [_, _, _, _, _]) rfl rfl rfl rfl ⟨rfl, rfl, rfl, rfl, rfl, trivial⟩)) ?_
    refine ⟨_, ⟨rfl, rfl⟩, ?_⟩
    exact fun _ s => s.finEq (ks := [0]) (js := [0, 0, 0]) rfl rfl rfl
  by_cases hi2 : d = 2
  · simp only [doT, doP, if_neg hi0, if_neg hi1, if_pos hi2]
    refine at_ref fun wb A c ps hps => ?_
    refine at_seq_k (fun K0 hK0 => ?_)
    refine at_region ?_
    refine at_t (ot_boxA rfl rfl) rfl rfl rfl ?_
    rintro _ _ ⟨g0, rfl, rfl⟩
    refine at_t (ot_allocA rfl Tryz.zeroValue35) rfl rfl rfl ?_
    rintro _ _ ⟨g1, rfl, rfl⟩
    refine at_nil ?_
    refine at_normal ?_
    refine hK0 _ _ _ ?_
    refine at_seq_k (fun K1 hK1 => ?_)
    refine at_region ?_
    refine at_t (ot_allocA rfl Tryz.zeroValue35) rfl rfl rfl ?_
    rintro _ _ ⟨g2, rfl, rfl⟩
    refine at_nil ?_
    refine at_normal ?_
    refine hK1 _ _ _ ?_
    refine at_seq_k (fun K2 hK2 => ?_)
    refine at_seq_k (fun K3 hK3 => ?_)
    refine at_region ?_
    refine at_v (ov_fieldAddr (k := 0) (r := 0) rfl rfl rfl rfl) rfl rfl rfl ?_
    refine at_v (ov_load rfl rfl rfl (fun _ s => s.ld (k := 2) rfl rfl)) rfl rfl rfl ?_
    refine at_nil ?_
    refine at_normal ?_
    refine hK3 _ _ _ ?_
    refine at_block ?_
    refine at_seq_k (fun K4 hK4 => ?_)
    refine at_region ?_
    refine at_v (ov_int rfl rfl rfl rfl) rfl rfl rfl ?_
    refine at_v (ov_assign rfl rfl) rfl rfl rfl ?_
    refine at_nil ?_
    refine at_normal ?_
    refine hK4 _ _ _ ?_
    refine at_cond_false (congrArg (fun b => some (Value.bool b)) (show _ = false from decide_eq_false (by omega))) ?_
    refine at_seq_k (fun K5 hK5 => ?_)
    refine at_region ?_
    refine at_v (ov_int rfl rfl rfl rfl) rfl rfl rfl ?_
    refine at_v (ov_assign rfl rfl) rfl rfl rfl ?_
    refine at_nil ?_
    refine at_normal ?_
    refine hK5 _ _ _ ?_
    refine at_cond_false (congrArg (fun b => some (Value.bool b)) (show _ = false from decide_eq_false (by omega))) ?_
    refine at_seq_k (fun K6 hK6 => ?_)
    refine at_region ?_
    refine at_v (ov_int rfl rfl rfl rfl) rfl rfl rfl ?_
    refine at_v (ov_assign rfl rfl) rfl rfl rfl ?_
    refine at_nil ?_
    refine at_normal ?_
    refine hK6 _ _ _ ?_
    refine at_cond_true (congrArg (fun b => some (Value.bool b)) (show _ = true from decide_eq_true (by omega))) ?_
    refine at_draw _ [] 1000 [(2, 0), (2, 1), (2, 2), (1, 3), (2, 4), (1, 5), (0, 6), (2, 7), (0, 8)] (by kernel_rfl) (by kernel_rfl) (fun _ s => (s.pulls (ks := [1, 1, 1]) rfl).left) ?_
    refine aq_p (ov_move rfl rfl) rfl rfl rfl ?_
    refine aq_p (ov_nilCheck rfl rfl) rfl rfl rfl ?_
    refine aq_p (ov_fieldAddr (k := 2) (r := 2) rfl rfl rfl rfl) rfl rfl rfl ?_
    refine aq_v (ov_load rfl rfl rfl (fun _ s => s.ld (k := 2) rfl rfl)) rfl rfl rfl ?_
    refine aq_p (ov_fieldAddr (k := 1) (r := 1) rfl rfl rfl rfl) rfl rfl rfl ?_
    refine aq_v (ov_load rfl rfl rfl (fun _ s => s.ld (k := 1) rfl rfl)) rfl rfl rfl ?_
    refine aq_t (ot_call (ks := [4]) rfl rfl rfl Tryz.call29 rfl (T29 _ _ (by first | assumption | rfl | omega | decide | (simp; done) | (simp at *; omega))) rfl) rfl rfl rfl ?_
    rintro v0 _ ⟨m0, hp0, rfl⟩
    obtain ⟨rfl, rfl⟩ := hp0
    simp only [List.cons_append, List.nil_append, splice, spliceL]
    refine ⟨fun _ s => (s.pulls (ks := [2, 2, 2]) rfl).left, ?_⟩
    refine aq_p (ov_fieldAddr (k := 3) (r := 3) rfl rfl rfl rfl) rfl rfl rfl ?_
    refine aq_t0 (ot_store (k := 1) rfl rfl rfl rfl rfl rfl rfl) rfl rfl ?_
    rintro _ _ ⟨rfl, rfl⟩
    simp only [setAt, splice, spliceL, Value.cells]
    refine ⟨fun _ s => (s.pulls (ks := [2, 2, 2]) rfl).left, ?_⟩
    refine aq_nil ?_
    refine at_inb_normal ?_
    refine at_normal ?_
    refine hK2 _ _ _ ?_
    refine at_seq_k (fun K7 hK7 => ?_)
    refine at_region ?_
    refine at_v (ov_loadS (cs := [_, _, _, _, _]) rfl rfl rfl rfl (fun _ s => s.lds (k := 1) rfl ⟨rfl, rfl, rfl, rfl, rfl, trivial⟩)) rfl rfl rfl ?_
    refine at_t0 (ot_store (k := 2) rfl rfl rfl rfl rfl rfl rfl) rfl rfl ?_
    rintro _ _ ⟨rfl, rfl⟩
    simp only [setAt, splice, spliceL, Value.cells]
    refine at_nil ?_
    refine at_normal ?_
    refine hK7 _ _ _ ?_
    refine at_ret ?_
    refine at_end ?_
    refine at_fold (A := RefA g most idle wm last (dropW L se) cs) [4, 0, 3, 3] rfl (fun h s => ⟨wb, A, c, ps, hps, s⟩) ?_
    refine at_end ?_
    refine at_fin (rsV rfl (res_cellS (k := 2) (vs := [_, _, _, _, _]) rfl rfl rfl rfl ⟨rfl, rfl, rfl, rfl, rfl, trivial⟩)) ?_
    refine ⟨_, ⟨rfl, rfl⟩, ?_⟩
    exact fun _ s => s.finEq (ks := [0]) (js := [0, 0, 0]) rfl rfl rfl
  by_cases hi3 : d = 3
  · simp only [doT, doP, if_neg hi0, if_neg hi1, if_neg hi2, if_pos hi3]
    refine at_seq_k (fun K0 hK0 => ?_)
    refine at_region ?_
    refine at_t (ot_boxA rfl rfl) rfl rfl rfl ?_
    rintro _ _ ⟨g0, rfl, rfl⟩
    refine at_t (ot_allocA rfl Tryz.zeroValue35) rfl rfl rfl ?_
    rintro _ _ ⟨g1, rfl, rfl⟩
    refine at_nil ?_
    refine at_normal ?_
    refine hK0 _ _ _ ?_
    refine at_seq_k (fun K1 hK1 => ?_)
    refine at_region ?_
    refine at_t (ot_allocA rfl Tryz.zeroValue35) rfl rfl rfl ?_
    rintro _ _ ⟨g2, rfl, rfl⟩
    refine at_nil ?_
    refine at_normal ?_
    refine hK1 _ _ _ ?_
    refine at_seq_k (fun K2 hK2 => ?_)
    refine at_seq_k (fun K3 hK3 => ?_)
    refine at_region ?_
    refine at_v (ov_fieldAddr (k := 0) (r := 0) rfl rfl rfl rfl) rfl rfl rfl ?_
    refine at_v (ov_load rfl rfl rfl (fun _ s => s.ld (k := 2) rfl rfl)) rfl rfl rfl ?_
    refine at_nil ?_
    refine at_normal ?_
    refine hK3 _ _ _ ?_
    refine at_block ?_
    refine at_seq_k (fun K4 hK4 => ?_)
    refine at_region ?_
    refine at_v (ov_int rfl rfl rfl rfl) rfl rfl rfl ?_
    refine at_v (ov_assign rfl rfl) rfl rfl rfl ?_
    refine at_nil ?_
    refine at_normal ?_
    refine hK4 _ _ _ ?_
    refine at_cond_false (congrArg (fun b => some (Value.bool b)) (show _ = false from decide_eq_false (by omega))) ?_
    refine at_seq_k (fun K5 hK5 => ?_)
    refine at_region ?_
    refine at_v (ov_int rfl rfl rfl rfl) rfl rfl rfl ?_
    refine at_v (ov_assign rfl rfl) rfl rfl rfl ?_
    refine at_nil ?_
    refine at_normal ?_
    refine hK5 _ _ _ ?_
    refine at_cond_false (congrArg (fun b => some (Value.bool b)) (show _ = false from decide_eq_false (by omega))) ?_
    refine at_seq_k (fun K6 hK6 => ?_)
    refine at_region ?_
    refine at_v (ov_int rfl rfl rfl rfl) rfl rfl rfl ?_
    refine at_v (ov_assign rfl rfl) rfl rfl rfl ?_
    refine at_nil ?_
    refine at_normal ?_
    refine hK6 _ _ _ ?_
    refine at_cond_false (congrArg (fun b => some (Value.bool b)) (show _ = false from decide_eq_false (by omega))) ?_
    refine at_seq_k (fun K7 hK7 => ?_)
    refine at_region ?_
    refine at_v (ov_int rfl rfl rfl rfl) rfl rfl rfl ?_
    refine at_v (ov_assign rfl rfl) rfl rfl rfl ?_
    refine at_nil ?_
    refine at_normal ?_
    refine hK7 _ _ _ ?_
    refine at_cond_true (congrArg (fun b => some (Value.bool b)) (show _ = true from decide_eq_true (by omega))) ?_
    refine at_region ?_
    refine at_v (ov_move rfl rfl) rfl rfl rfl ?_
    refine at_v (ov_fieldAddr (k := 2) (r := 2) rfl rfl rfl rfl) rfl rfl rfl ?_
    refine at_v (ov_load rfl rfl rfl (fun _ s => s.ld (k := 2) rfl rfl)) rfl rfl rfl ?_
    refine at_v (ov_fieldAddr (k := 5) (r := 5) rfl rfl rfl rfl) rfl rfl rfl ?_
    refine at_v (ov_load rfl rfl rfl (fun _ s => s.ld (k := 2) rfl rfl)) rfl rfl rfl ?_
    refine at_t (ot_call (ks := [3]) rfl rfl rfl Tryz.call30 rfl (T30 _ _ _ (by first | assumption | rfl | omega | decide | (simp; done) | (simp at *; omega))) rfl) rfl rfl rfl ?_
    rintro v0 _ ⟨m0, hp0, rfl⟩
    obtain ⟨rfl, rfl⟩ := hp0
    simp only [List.cons_append, List.nil_append, splice, spliceL]
    refine at_v (ov_fieldAddr (k := 4) (r := 4) rfl rfl rfl rfl) rfl rfl rfl ?_
    refine at_t0 (ot_store (k := 1) rfl rfl rfl rfl rfl rfl rfl) rfl rfl ?_
    rintro _ _ ⟨rfl, rfl⟩
    simp only [setAt, splice, spliceL, Value.cells]
    refine at_nil ?_
    refine at_inb_normal ?_
    refine at_normal ?_
    refine hK2 _ _ _ ?_
    refine at_seq_k (fun K8 hK8 => ?_)
    refine at_region ?_
    refine at_v (ov_loadS (cs := [_, _, _, _, _]) rfl rfl rfl rfl (fun _ s => s.lds (k := 1) rfl ⟨rfl, rfl, rfl, rfl, rfl, trivial⟩)) rfl rfl rfl ?_
    refine at_t0 (ot_store (k := 2) rfl rfl rfl rfl rfl rfl rfl) rfl rfl ?_
    rintro _ _ ⟨rfl, rfl⟩
    simp only [setAt, splice, spliceL, Value.cells]
    refine at_nil ?_
    refine at_normal ?_
    refine hK8 _ _ _ ?_
    refine at_ret ?_
    refine at_end ?_
    refine at_fin (rsV rfl (res_cellS (k := 2) (vs := [_, _, _, _, _]) rfl rfl rfl rfl ⟨rfl, rfl, rfl, rfl, rfl, trivial⟩)) ?_
    refine ⟨_, ⟨rfl, rfl⟩, ?_⟩
    exact fun _ s => s.finEq (ks := [0]) (js := [0, 0, 0]) rfl rfl rfl
  by_cases hi4 : d = 4
  · simp only [doT, doP, if_neg hi0, if_neg hi1, if_neg hi2, if_neg hi3, if_pos hi4, withL_upd hs ho]
    refine at_seq_k (fun K0 hK0 => ?_)
    refine at_region ?_
    refine at_t (ot_boxA rfl rfl) rfl rfl rfl ?_
    rintro _ _ ⟨g0, rfl, rfl⟩
    refine at_t (ot_allocA rfl Tryz.zeroValue35) rfl rfl rfl ?_
    rintro _ _ ⟨g1, rfl, rfl⟩
    refine at_nil ?_
    refine at_normal ?_
    refine hK0 _ _ _ ?_
    refine at_seq_k (fun K1 hK1 => ?_)
    refine at_region ?_
    refine at_t (ot_allocA rfl Tryz.zeroValue35) rfl rfl rfl ?_
    rintro _ _ ⟨g2, rfl, rfl⟩
    refine at_nil ?_
    refine at_normal ?_
    refine hK1 _ _ _ ?_
    refine at_seq_k (fun K2 hK2 => ?_)
    refine at_seq_k (fun K3 hK3 => ?_)
    refine at_region ?_
    refine at_v (ov_fieldAddr (k := 0) (r := 0) rfl rfl rfl rfl) rfl rfl rfl ?_
    refine at_v (ov_load rfl rfl rfl (fun _ s => s.ld (k := 2) rfl rfl)) rfl rfl rfl ?_
    refine at_nil ?_
    refine at_normal ?_
    refine hK3 _ _ _ ?_
    refine at_block ?_
    refine at_seq_k (fun K4 hK4 => ?_)
    refine at_region ?_
    refine at_v (ov_int rfl rfl rfl rfl) rfl rfl rfl ?_
    refine at_v (ov_assign rfl rfl) rfl rfl rfl ?_
    refine at_nil ?_
    refine at_normal ?_
    refine hK4 _ _ _ ?_
    refine at_cond_false (congrArg (fun b => some (Value.bool b)) (show _ = false from decide_eq_false (by omega))) ?_
    refine at_seq_k (fun K5 hK5 => ?_)
    refine at_region ?_
    refine at_v (ov_int rfl rfl rfl rfl) rfl rfl rfl ?_
    refine at_v (ov_assign rfl rfl) rfl rfl rfl ?_
    refine at_nil ?_
    refine at_normal ?_
    refine hK5 _ _ _ ?_
    refine at_cond_false (congrArg (fun b => some (Value.bool b)) (show _ = false from decide_eq_false (by omega))) ?_
    refine at_seq_k (fun K6 hK6 => ?_)
    refine at_region ?_
    refine at_v (ov_int rfl rfl rfl rfl) rfl rfl rfl ?_
    refine at_v (ov_assign rfl rfl) rfl rfl rfl ?_
    refine at_nil ?_
    refine at_normal ?_
    refine hK6 _ _ _ ?_
    refine at_cond_false (congrArg (fun b => some (Value.bool b)) (show _ = false from decide_eq_false (by omega))) ?_
    refine at_seq_k (fun K7 hK7 => ?_)
    refine at_region ?_
    refine at_v (ov_int rfl rfl rfl rfl) rfl rfl rfl ?_
    refine at_v (ov_assign rfl rfl) rfl rfl rfl ?_
    refine at_nil ?_
    refine at_normal ?_
    refine hK7 _ _ _ ?_
    refine at_cond_false (congrArg (fun b => some (Value.bool b)) (show _ = false from decide_eq_false (by omega))) ?_
    refine at_seq_k (fun K8 hK8 => ?_)
    refine at_region ?_
    refine at_v (ov_int rfl rfl rfl rfl) rfl rfl rfl ?_
    refine at_v (ov_assign rfl rfl) rfl rfl rfl ?_
    refine at_nil ?_
    refine at_normal ?_
    refine hK8 _ _ _ ?_
    refine at_cond_true (congrArg (fun b => some (Value.bool b)) (show _ = true from decide_eq_true (by omega))) ?_
    refine at_region ?_
    refine at_v (ov_move rfl rfl) rfl rfl rfl ?_
    refine at_v (ov_fieldAddr (k := 2) (r := 2) rfl rfl rfl rfl) rfl rfl rfl ?_
    refine at_v (ov_load rfl rfl rfl (fun _ s => s.ld (k := 2) rfl rfl)) rfl rfl rfl ?_
    refine at_v (ov_fieldAddr (k := 5) (r := 5) rfl rfl rfl rfl) rfl rfl rfl ?_
    refine at_v (ov_load rfl rfl rfl (fun _ s => s.ld (k := 2) rfl rfl)) rfl rfl rfl ?_
    refine at_t (ot_call (ks := [3]) rfl rfl rfl Tryz.call31 rfl (T31 _ _ _ (by first | assumption | rfl | omega | decide | (simp; done) | (simp at *; omega))) rfl) rfl rfl rfl ?_
    rintro v0 _ ⟨m0, hp0, rfl⟩
    obtain ⟨rfl, rfl⟩ := hp0
    simp only [List.cons_append, List.nil_append, splice, spliceL]
    refine at_v (ov_fieldAddr (k := 3) (r := 3) rfl rfl rfl rfl) rfl rfl rfl ?_
    refine at_t0 (ot_store (k := 1) rfl rfl rfl rfl rfl rfl rfl) rfl rfl ?_
    rintro _ _ ⟨rfl, rfl⟩
    simp only [setAt, splice, spliceL, Value.cells]
    refine at_nil ?_
    refine at_inb_normal ?_
    refine at_normal ?_
    refine hK2 _ _ _ ?_
    refine at_seq_k (fun K9 hK9 => ?_)
    refine at_region ?_
    refine at_v (ov_loadS (cs := [_, _, _, _, _]) rfl rfl rfl rfl (fun _ s => s.lds (k := 1) rfl ⟨rfl, rfl, rfl, rfl, rfl, trivial⟩)) rfl rfl rfl ?_
    refine at_t0 (ot_store (k := 2) rfl rfl rfl rfl rfl rfl rfl) rfl rfl ?_
    rintro _ _ ⟨rfl, rfl⟩
    simp only [setAt, splice, spliceL, Value.cells]
    refine at_nil ?_
    refine at_normal ?_
    refine hK9 _ _ _ ?_
    refine at_ret ?_
    refine at_end ?_
    refine at_fin (rsV rfl (res_cellS (k := 2) (vs := [_, _, _, _, _]) rfl rfl rfl rfl ⟨rfl, rfl, rfl, rfl, rfl, trivial⟩)) ?_
    refine ⟨_, ⟨rfl, rfl⟩, ?_⟩
    exact fun _ s => s.finEq (ks := [0]) (js := [0, 0, 0]) rfl rfl rfl
  by_cases hi5 : d = 5
  · simp only [doT, doP, if_neg hi0, if_neg hi1, if_neg hi2, if_neg hi3, if_neg hi4, if_pos hi5, h5]
    refine at_seq_k (fun K0 hK0 => ?_)
    refine at_region ?_
    refine at_t (ot_boxA rfl rfl) rfl rfl rfl ?_
    rintro _ _ ⟨g0, rfl, rfl⟩
    refine at_t (ot_allocA rfl Tryz.zeroValue35) rfl rfl rfl ?_
    rintro _ _ ⟨g1, rfl, rfl⟩
    refine at_nil ?_
    refine at_normal ?_
    refine hK0 _ _ _ ?_
    refine at_seq_k (fun K1 hK1 => ?_)
    refine at_region ?_
    refine at_t (ot_allocA rfl Tryz.zeroValue35) rfl rfl rfl ?_
    rintro _ _ ⟨g2, rfl, rfl⟩
    refine at_nil ?_
    refine at_normal ?_
    refine hK1 _ _ _ ?_
    refine at_seq_k (fun K2 hK2 => ?_)
    refine at_seq_k (fun K3 hK3 => ?_)
    refine at_region ?_
    refine at_v (ov_fieldAddr (k := 0) (r := 0) rfl rfl rfl rfl) rfl rfl rfl ?_
    refine at_v (ov_load rfl rfl rfl (fun _ s => s.ld (k := 2) rfl rfl)) rfl rfl rfl ?_
    refine at_nil ?_
    refine at_normal ?_
    refine hK3 _ _ _ ?_
    refine at_block ?_
    refine at_seq_k (fun K4 hK4 => ?_)
    refine at_region ?_
    refine at_v (ov_int rfl rfl rfl rfl) rfl rfl rfl ?_
    refine at_v (ov_assign rfl rfl) rfl rfl rfl ?_
    refine at_nil ?_
    refine at_normal ?_
    refine hK4 _ _ _ ?_
    refine at_cond_false (congrArg (fun b => some (Value.bool b)) (show _ = false from decide_eq_false (by omega))) ?_
    refine at_seq_k (fun K5 hK5 => ?_)
    refine at_region ?_
    refine at_v (ov_int rfl rfl rfl rfl) rfl rfl rfl ?_
    refine at_v (ov_assign rfl rfl) rfl rfl rfl ?_
    refine at_nil ?_
    refine at_normal ?_
    refine hK5 _ _ _ ?_
    refine at_cond_false (congrArg (fun b => some (Value.bool b)) (show _ = false from decide_eq_false (by omega))) ?_
    refine at_seq_k (fun K6 hK6 => ?_)
    refine at_region ?_
    refine at_v (ov_int rfl rfl rfl rfl) rfl rfl rfl ?_
    refine at_v (ov_assign rfl rfl) rfl rfl rfl ?_
    refine at_nil ?_
    refine at_normal ?_
    refine hK6 _ _ _ ?_
    refine at_cond_false (congrArg (fun b => some (Value.bool b)) (show _ = false from decide_eq_false (by omega))) ?_
    refine at_seq_k (fun K7 hK7 => ?_)
    refine at_region ?_
    refine at_v (ov_int rfl rfl rfl rfl) rfl rfl rfl ?_
    refine at_v (ov_assign rfl rfl) rfl rfl rfl ?_
    refine at_nil ?_
    refine at_normal ?_
    refine hK7 _ _ _ ?_
    refine at_cond_false (congrArg (fun b => some (Value.bool b)) (show _ = false from decide_eq_false (by omega))) ?_
    refine at_seq_k (fun K8 hK8 => ?_)
    refine at_region ?_
    refine at_v (ov_int rfl rfl rfl rfl) rfl rfl rfl ?_
    refine at_v (ov_assign rfl rfl) rfl rfl rfl ?_
    refine at_nil ?_
    refine at_normal ?_
    refine hK8 _ _ _ ?_
    refine at_cond_false (congrArg (fun b => some (Value.bool b)) (show _ = false from decide_eq_false (by omega))) ?_
    refine at_seq_k (fun K9 hK9 => ?_)
    refine at_region ?_
    refine at_v (ov_int rfl rfl rfl rfl) rfl rfl rfl ?_
    refine at_v (ov_assign rfl rfl) rfl rfl rfl ?_
    refine at_nil ?_
    refine at_normal ?_
    refine hK9 _ _ _ ?_
    refine at_cond_true (congrArg (fun b => some (Value.bool b)) (show _ = true from decide_eq_true (by omega))) ?_
    refine at_region ?_
    refine at_v (ov_move rfl rfl) rfl rfl rfl ?_
    refine at_v (ov_fieldAddr (k := 2) (r := 2) rfl rfl rfl rfl) rfl rfl rfl ?_
    refine at_v (ov_load rfl rfl rfl (fun _ s => s.ld (k := 2) rfl rfl)) rfl rfl rfl ?_
    refine at_t (ot_call (ks := [3]) rfl rfl rfl Tryz.call32 rfl (T32 _ _ (by first | assumption | rfl | omega | decide | (simp; done) | (simp at *; omega))) rfl) rfl rfl rfl ?_
    rintro v0 _ ⟨m0, hp0, rfl⟩
    obtain ⟨rfl, rfl⟩ := hp0
    simp only [List.cons_append, List.nil_append, splice, spliceL]
    refine at_v (ov_fieldAddr (k := 3) (r := 3) rfl rfl rfl rfl) rfl rfl rfl ?_
    refine at_t0 (ot_store (k := 1) rfl rfl rfl rfl rfl rfl rfl) rfl rfl ?_
    rintro _ _ ⟨rfl, rfl⟩
    simp only [setAt, splice, spliceL, Value.cells]
    refine at_nil ?_
    refine at_inb_normal ?_
    refine at_normal ?_
    refine hK2 _ _ _ ?_
    refine at_seq_k (fun K10 hK10 => ?_)
    refine at_region ?_
    refine at_v (ov_loadS (cs := [_, _, _, _, _]) rfl rfl rfl rfl (fun _ s => s.lds (k := 1) rfl ⟨rfl, rfl, rfl, rfl, rfl, trivial⟩)) rfl rfl rfl ?_
    refine at_t0 (ot_store (k := 2) rfl rfl rfl rfl rfl rfl rfl) rfl rfl ?_
    rintro _ _ ⟨rfl, rfl⟩
    simp only [setAt, splice, spliceL, Value.cells]
    refine at_nil ?_
    refine at_normal ?_
    refine hK10 _ _ _ ?_
    refine at_ret ?_
    refine at_end ?_
    refine at_fin (rsV rfl (res_cellS (k := 2) (vs := [_, _, _, _, _]) rfl rfl rfl rfl ⟨rfl, rfl, rfl, rfl, rfl, trivial⟩)) ?_
    refine ⟨_, ⟨rfl, rfl⟩, ?_⟩
    exact fun _ s => s.finEq (ks := [0]) (js := [0, 0, 0]) rfl rfl rfl
  by_cases hi6 : d = 6
  · simp only [doT, doP, if_neg hi0, if_neg hi1, if_neg hi2, if_neg hi3, if_neg hi4, if_neg hi5, if_pos hi6, releaseL_upd hs ho]
    refine at_seq_k (fun K0 hK0 => ?_)
    refine at_region ?_
    refine at_t (ot_boxA rfl rfl) rfl rfl rfl ?_
    rintro _ _ ⟨g0, rfl, rfl⟩
    refine at_t (ot_allocA rfl Tryz.zeroValue35) rfl rfl rfl ?_
    rintro _ _ ⟨g1, rfl, rfl⟩
    refine at_nil ?_
    refine at_normal ?_
    refine hK0 _ _ _ ?_
    refine at_seq_k (fun K1 hK1 => ?_)
    refine at_region ?_
    refine at_t (ot_allocA rfl Tryz.zeroValue35) rfl rfl rfl ?_
    rintro _ _ ⟨g2, rfl, rfl⟩
    refine at_nil ?_
    refine at_normal ?_
    refine hK1 _ _ _ ?_
    refine at_seq_k (fun K2 hK2 => ?_)
    refine at_seq_k (fun K3 hK3 => ?_)
    refine at_region ?_
    refine at_v (ov_fieldAddr (k := 0) (r := 0) rfl rfl rfl rfl) rfl rfl rfl ?_
    refine at_v (ov_load rfl rfl rfl (fun _ s => s.ld (k := 2) rfl rfl)) rfl rfl rfl ?_
    refine at_nil ?_
    refine at_normal ?_
    refine hK3 _ _ _ ?_
    refine at_block ?_
    refine at_seq_k (fun K4 hK4 => ?_)
    refine at_region ?_
    refine at_v (ov_int rfl rfl rfl rfl) rfl rfl rfl ?_
    refine at_v (ov_assign rfl rfl) rfl rfl rfl ?_
    refine at_nil ?_
    refine at_normal ?_
    refine hK4 _ _ _ ?_
    refine at_cond_false (congrArg (fun b => some (Value.bool b)) (show _ = false from decide_eq_false (by omega))) ?_
    refine at_seq_k (fun K5 hK5 => ?_)
    refine at_region ?_
    refine at_v (ov_int rfl rfl rfl rfl) rfl rfl rfl ?_
    refine at_v (ov_assign rfl rfl) rfl rfl rfl ?_
    refine at_nil ?_
    refine at_normal ?_
    refine hK5 _ _ _ ?_
    refine at_cond_false (congrArg (fun b => some (Value.bool b)) (show _ = false from decide_eq_false (by omega))) ?_
    refine at_seq_k (fun K6 hK6 => ?_)
    refine at_region ?_
    refine at_v (ov_int rfl rfl rfl rfl) rfl rfl rfl ?_
    refine at_v (ov_assign rfl rfl) rfl rfl rfl ?_
    refine at_nil ?_
    refine at_normal ?_
    refine hK6 _ _ _ ?_
    refine at_cond_false (congrArg (fun b => some (Value.bool b)) (show _ = false from decide_eq_false (by omega))) ?_
    refine at_seq_k (fun K7 hK7 => ?_)
    refine at_region ?_
    refine at_v (ov_int rfl rfl rfl rfl) rfl rfl rfl ?_
    refine at_v (ov_assign rfl rfl) rfl rfl rfl ?_
    refine at_nil ?_
    refine at_normal ?_
    refine hK7 _ _ _ ?_
    refine at_cond_false (congrArg (fun b => some (Value.bool b)) (show _ = false from decide_eq_false (by omega))) ?_
    refine at_seq_k (fun K8 hK8 => ?_)
    refine at_region ?_
    refine at_v (ov_int rfl rfl rfl rfl) rfl rfl rfl ?_
    refine at_v (ov_assign rfl rfl) rfl rfl rfl ?_
    refine at_nil ?_
    refine at_normal ?_
    refine hK8 _ _ _ ?_
    refine at_cond_false (congrArg (fun b => some (Value.bool b)) (show _ = false from decide_eq_false (by omega))) ?_
    refine at_seq_k (fun K9 hK9 => ?_)
    refine at_region ?_
    refine at_v (ov_int rfl rfl rfl rfl) rfl rfl rfl ?_
    refine at_v (ov_assign rfl rfl) rfl rfl rfl ?_
    refine at_nil ?_
    refine at_normal ?_
    refine hK9 _ _ _ ?_
    refine at_cond_false (congrArg (fun b => some (Value.bool b)) (show _ = false from decide_eq_false (by omega))) ?_
    refine at_seq_k (fun K10 hK10 => ?_)
    refine at_region ?_
    refine at_v (ov_int rfl rfl rfl rfl) rfl rfl rfl ?_
    refine at_v (ov_assign rfl rfl) rfl rfl rfl ?_
    refine at_nil ?_
    refine at_normal ?_
    refine hK10 _ _ _ ?_
    refine at_cond_true (congrArg (fun b => some (Value.bool b)) (show _ = true from decide_eq_true (by omega))) ?_
    refine at_region ?_
    refine at_v (ov_move rfl rfl) rfl rfl rfl ?_
    refine at_v (ov_fieldAddr (k := 2) (r := 2) rfl rfl rfl rfl) rfl rfl rfl ?_
    refine at_v (ov_load rfl rfl rfl (fun _ s => s.ld (k := 2) rfl rfl)) rfl rfl rfl ?_
    refine at_v (ov_fieldAddr (k := 4) (r := 4) rfl rfl rfl rfl) rfl rfl rfl ?_
    refine at_v (ov_load rfl rfl rfl (fun _ s => s.ld (k := 2) rfl rfl)) rfl rfl rfl ?_
    refine at_t (ot_call (ks := [3]) rfl rfl rfl Tryz.call33 rfl (T33 _ _ _ (by first | assumption | rfl | omega | decide | (simp; done) | (simp at *; omega))) rfl) rfl rfl rfl ?_
    rintro v0 _ ⟨m0, hp0, rfl⟩
    obtain ⟨rfl, rfl⟩ := hp0
    simp only [List.cons_append, List.nil_append, splice, spliceL]
    refine at_v (ov_fieldAddr (k := 3) (r := 3) rfl rfl rfl rfl) rfl rfl rfl ?_
    refine at_t0 (ot_store (k := 1) rfl rfl rfl rfl rfl rfl rfl) rfl rfl ?_
    rintro _ _ ⟨rfl, rfl⟩
    simp only [setAt, splice, spliceL, Value.cells]
    refine at_nil ?_
    refine at_inb_normal ?_
    refine at_normal ?_
    refine hK2 _ _ _ ?_
    refine at_seq_k (fun K11 hK11 => ?_)
    refine at_region ?_
    refine at_v (ov_loadS (cs := [_, _, _, _, _]) rfl rfl rfl rfl (fun _ s => s.lds (k := 1) rfl ⟨rfl, rfl, rfl, rfl, rfl, trivial⟩)) rfl rfl rfl ?_
    refine at_t0 (ot_store (k := 2) rfl rfl rfl rfl rfl rfl rfl) rfl rfl ?_
    rintro _ _ ⟨rfl, rfl⟩
    simp only [setAt, splice, spliceL, Value.cells]
    refine at_nil ?_
    refine at_normal ?_
    refine hK11 _ _ _ ?_
    refine at_ret ?_
    refine at_end ?_
    refine at_fin (rsV rfl (res_cellS (k := 2) (vs := [_, _, _, _, _]) rfl rfl rfl rfl ⟨rfl, rfl, rfl, rfl, rfl, trivial⟩)) ?_
    refine ⟨_, ⟨rfl, rfl⟩, ?_⟩
    exact fun _ s => s.finEq (ks := [0]) (js := [0, 0, 0]) rfl rfl rfl
  by_cases hi7 : d = 7
  · simp only [doT, doP, if_neg hi0, if_neg hi1, if_neg hi2, if_neg hi3, if_neg hi4, if_neg hi5, if_neg hi6, if_pos hi7, withL_upd hs ho]
    refine at_seq_k (fun K0 hK0 => ?_)
    refine at_region ?_
    refine at_t (ot_boxA rfl rfl) rfl rfl rfl ?_
    rintro _ _ ⟨g0, rfl, rfl⟩
    refine at_t (ot_allocA rfl Tryz.zeroValue35) rfl rfl rfl ?_
    rintro _ _ ⟨g1, rfl, rfl⟩
    refine at_nil ?_
    refine at_normal ?_
    refine hK0 _ _ _ ?_
    refine at_seq_k (fun K1 hK1 => ?_)
    refine at_region ?_
    refine at_t (ot_allocA rfl Tryz.zeroValue35) rfl rfl rfl ?_
    rintro _ _ ⟨g2, rfl, rfl⟩
    refine at_nil ?_
    refine at_normal ?_
    refine hK1 _ _ _ ?_
    refine at_seq_k (fun K2 hK2 => ?_)
    refine at_seq_k (fun K3 hK3 => ?_)
    refine at_region ?_
    refine at_v (ov_fieldAddr (k := 0) (r := 0) rfl rfl rfl rfl) rfl rfl rfl ?_
    refine at_v (ov_load rfl rfl rfl (fun _ s => s.ld (k := 2) rfl rfl)) rfl rfl rfl ?_
    refine at_nil ?_
    refine at_normal ?_
    refine hK3 _ _ _ ?_
    refine at_block ?_
    refine at_seq_k (fun K4 hK4 => ?_)
    refine at_region ?_
    refine at_v (ov_int rfl rfl rfl rfl) rfl rfl rfl ?_
    refine at_v (ov_assign rfl rfl) rfl rfl rfl ?_
    refine at_nil ?_
    refine at_normal ?_
    refine hK4 _ _ _ ?_
    refine at_cond_false (congrArg (fun b => some (Value.bool b)) (show _ = false from decide_eq_false (by omega))) ?_
    refine at_seq_k (fun K5 hK5 => ?_)
    refine at_region ?_
    refine at_v (ov_int rfl rfl rfl rfl) rfl rfl rfl ?_
    refine at_v (ov_assign rfl rfl) rfl rfl rfl ?_
    refine at_nil ?_
    refine at_normal ?_
    refine hK5 _ _ _ ?_
    refine at_cond_false (congrArg (fun b => some (Value.bool b)) (show _ = false from decide_eq_false (by omega))) ?_
    refine at_seq_k (fun K6 hK6 => ?_)
    refine at_region ?_
    refine at_v (ov_int rfl rfl rfl rfl) rfl rfl rfl ?_
    refine at_v (ov_assign rfl rfl) rfl rfl rfl ?_
    refine at_nil ?_
    refine at_normal ?_
    refine hK6 _ _ _ ?_
    refine at_cond_false (congrArg (fun b => some (Value.bool b)) (show _ = false from decide_eq_false (by omega))) ?_
    refine at_seq_k (fun K7 hK7 => ?_)
    refine at_region ?_
    refine at_v (ov_int rfl rfl rfl rfl) rfl rfl rfl ?_
    refine at_v (ov_assign rfl rfl) rfl rfl rfl ?_
    refine at_nil ?_
    refine at_normal ?_
    refine hK7 _ _ _ ?_
    refine at_cond_false (congrArg (fun b => some (Value.bool b)) (show _ = false from decide_eq_false (by omega))) ?_
    refine at_seq_k (fun K8 hK8 => ?_)
    refine at_region ?_
    refine at_v (ov_int rfl rfl rfl rfl) rfl rfl rfl ?_
    refine at_v (ov_assign rfl rfl) rfl rfl rfl ?_
    refine at_nil ?_
    refine at_normal ?_
    refine hK8 _ _ _ ?_
    refine at_cond_false (congrArg (fun b => some (Value.bool b)) (show _ = false from decide_eq_false (by omega))) ?_
    refine at_seq_k (fun K9 hK9 => ?_)
    refine at_region ?_
    refine at_v (ov_int rfl rfl rfl rfl) rfl rfl rfl ?_
    refine at_v (ov_assign rfl rfl) rfl rfl rfl ?_
    refine at_nil ?_
    refine at_normal ?_
    refine hK9 _ _ _ ?_
    refine at_cond_false (congrArg (fun b => some (Value.bool b)) (show _ = false from decide_eq_false (by omega))) ?_
    refine at_seq_k (fun K10 hK10 => ?_)
    refine at_region ?_
    refine at_v (ov_int rfl rfl rfl rfl) rfl rfl rfl ?_
    refine at_v (ov_assign rfl rfl) rfl rfl rfl ?_
    refine at_nil ?_
    refine at_normal ?_
    refine hK10 _ _ _ ?_
    refine at_cond_false (congrArg (fun b => some (Value.bool b)) (show _ = false from decide_eq_false (by omega))) ?_
    refine at_seq_k (fun K11 hK11 => ?_)
    refine at_region ?_
    refine at_v (ov_int rfl rfl rfl rfl) rfl rfl rfl ?_
    refine at_v (ov_assign rfl rfl) rfl rfl rfl ?_
    refine at_nil ?_
    refine at_normal ?_
    refine hK11 _ _ _ ?_
    refine at_cond_true (congrArg (fun b => some (Value.bool b)) (show _ = true from decide_eq_true (by omega))) ?_
    refine at_region ?_
    refine at_v (ov_move rfl rfl) rfl rfl rfl ?_
    refine at_v (ov_fieldAddr (k := 2) (r := 2) rfl rfl rfl rfl) rfl rfl rfl ?_
    refine at_v (ov_load rfl rfl rfl (fun _ s => s.ld (k := 2) rfl rfl)) rfl rfl rfl ?_
    refine at_t (ot_call (ks := [3]) rfl rfl rfl Tryz.call34 rfl (T34 _ _ (by first | assumption | rfl | omega | decide | (simp; done) | (simp at *; omega))) rfl) rfl rfl rfl ?_
    rintro v0 _ ⟨m0, hp0, rfl⟩
    obtain ⟨rfl, rfl⟩ := hp0
    simp only [List.cons_append, List.nil_append, splice, spliceL]
    refine at_v (ov_move rfl rfl) rfl rfl rfl ?_
    refine at_v (ov_extract rfl rfl rfl) rfl rfl rfl ?_
    refine at_v (ov_extract rfl rfl rfl) rfl rfl rfl ?_
    refine at_v (ov_extract rfl rfl rfl) rfl rfl rfl ?_
    refine at_v (ov_fieldAddr (k := 2) (r := 2) rfl rfl rfl rfl) rfl rfl rfl ?_
    refine at_t0 (ot_store (k := 1) rfl rfl rfl rfl rfl rfl rfl) rfl rfl ?_
    rintro _ _ ⟨rfl, rfl⟩
    simp only [setAt, splice, spliceL, Value.cells]
    refine at_v (ov_fieldAddr (k := 0) (r := 0) rfl rfl rfl rfl) rfl rfl rfl ?_
    refine at_t0 (ot_store (k := 1) rfl rfl rfl rfl rfl rfl rfl) rfl rfl ?_
    rintro _ _ ⟨rfl, rfl⟩
    simp only [setAt, splice, spliceL, Value.cells]
    refine at_v (ov_fieldAddr (k := 3) (r := 3) rfl rfl rfl rfl) rfl rfl rfl ?_
    refine at_t0 (ot_store (k := 1) rfl rfl rfl rfl rfl rfl rfl) rfl rfl ?_
    rintro _ _ ⟨rfl, rfl⟩
    simp only [setAt, splice, spliceL, Value.cells]
    refine at_nil ?_
    refine at_inb_normal ?_
    refine at_normal ?_
    refine hK2 _ _ _ ?_
    refine at_seq_k (fun K12 hK12 => ?_)
    refine at_region ?_
    refine at_v (ov_loadS (cs := [_, _, _, _, _]) rfl rfl rfl rfl (fun _ s => s.lds (k := 1) rfl ⟨rfl, rfl, rfl, rfl, rfl, trivial⟩)) rfl rfl rfl ?_
    refine at_t0 (ot_store (k := 2) rfl rfl rfl rfl rfl rfl rfl) rfl rfl ?_
    rintro _ _ ⟨rfl, rfl⟩
    simp only [setAt, splice, spliceL, Value.cells]
    refine at_nil ?_
    refine at_normal ?_
    refine hK12 _ _ _ ?_
    refine at_ret ?_
    refine at_end ?_
    refine at_fin (rsV rfl (res_cellS (k := 2) (vs := [_, _, _, _, _]) rfl rfl rfl rfl ⟨rfl, rfl, rfl, rfl, rfl, trivial⟩)) ?_
    refine ⟨_, ⟨rfl, rfl⟩, ?_⟩
    exact fun _ s => s.finEq (ks := [0]) (js := [0, 0, 0]) rfl rfl rfl
  by_cases hi8 : d = 8
  · simp only [doT, doP, if_neg hi0, if_neg hi1, if_neg hi2, if_neg hi3, if_neg hi4, if_neg hi5, if_neg hi6, if_neg hi7, if_pos hi8, midL_upd]
    refine at_seq_k (fun K0 hK0 => ?_)
    refine at_region ?_
    refine at_t (ot_boxA rfl rfl) rfl rfl rfl ?_
    rintro _ _ ⟨g0, rfl, rfl⟩
    refine at_t (ot_allocA rfl Tryz.zeroValue35) rfl rfl rfl ?_
    rintro _ _ ⟨g1, rfl, rfl⟩
    refine at_nil ?_
    refine at_normal ?_
    refine hK0 _ _ _ ?_
    refine at_seq_k (fun K1 hK1 => ?_)
    refine at_region ?_
    refine at_t (ot_allocA rfl Tryz.zeroValue35) rfl rfl rfl ?_
    rintro _ _ ⟨g2, rfl, rfl⟩
    refine at_nil ?_
    refine at_normal ?_
    refine hK1 _ _ _ ?_
    refine at_seq_k (fun K2 hK2 => ?_)
    refine at_seq_k (fun K3 hK3 => ?_)
    refine at_region ?_
    refine at_v (ov_fieldAddr (k := 0) (r := 0) rfl rfl rfl rfl) rfl rfl rfl ?_
    refine at_v (ov_load rfl rfl rfl (fun _ s => s.ld (k := 2) rfl rfl)) rfl rfl rfl ?_
    refine at_nil ?_
    refine at_normal ?_
    refine hK3 _ _ _ ?_
    refine at_block ?_
    refine at_seq_k (fun K4 hK4 => ?_)
    refine at_region ?_
    refine at_v (ov_int rfl rfl rfl rfl) rfl rfl rfl ?_
    refine at_v (ov_assign rfl rfl) rfl rfl rfl ?_
    refine at_nil ?_
    refine at_normal ?_
    refine hK4 _ _ _ ?_
    refine at_cond_false (congrArg (fun b => some (Value.bool b)) (show _ = false from decide_eq_false (by omega))) ?_
    refine at_seq_k (fun K5 hK5 => ?_)
    refine at_region ?_
    refine at_v (ov_int rfl rfl rfl rfl) rfl rfl rfl ?_
    refine at_v (ov_assign rfl rfl) rfl rfl rfl ?_
    refine at_nil ?_
    refine at_normal ?_
    refine hK5 _ _ _ ?_
    refine at_cond_false (congrArg (fun b => some (Value.bool b)) (show _ = false from decide_eq_false (by omega))) ?_
    refine at_seq_k (fun K6 hK6 => ?_)
    refine at_region ?_
    refine at_v (ov_int rfl rfl rfl rfl) rfl rfl rfl ?_
    refine at_v (ov_assign rfl rfl) rfl rfl rfl ?_
    refine at_nil ?_
    refine at_normal ?_
    refine hK6 _ _ _ ?_
    refine at_cond_false (congrArg (fun b => some (Value.bool b)) (show _ = false from decide_eq_false (by omega))) ?_
    refine at_seq_k (fun K7 hK7 => ?_)
    refine at_region ?_
    refine at_v (ov_int rfl rfl rfl rfl) rfl rfl rfl ?_
    refine at_v (ov_assign rfl rfl) rfl rfl rfl ?_
    refine at_nil ?_
    refine at_normal ?_
    refine hK7 _ _ _ ?_
    refine at_cond_false (congrArg (fun b => some (Value.bool b)) (show _ = false from decide_eq_false (by omega))) ?_
    refine at_seq_k (fun K8 hK8 => ?_)
    refine at_region ?_
    refine at_v (ov_int rfl rfl rfl rfl) rfl rfl rfl ?_
    refine at_v (ov_assign rfl rfl) rfl rfl rfl ?_
    refine at_nil ?_
    refine at_normal ?_
    refine hK8 _ _ _ ?_
    refine at_cond_false (congrArg (fun b => some (Value.bool b)) (show _ = false from decide_eq_false (by omega))) ?_
    refine at_seq_k (fun K9 hK9 => ?_)
    refine at_region ?_
    refine at_v (ov_int rfl rfl rfl rfl) rfl rfl rfl ?_
    refine at_v (ov_assign rfl rfl) rfl rfl rfl ?_
    refine at_nil ?_
    refine at_normal ?_
    refine hK9 _ _ _ ?_
    refine at_cond_false (congrArg (fun b => some (Value.bool b)) (show _ = false from decide_eq_false (by omega))) ?_
    refine at_seq_k (fun K10 hK10 => ?_)
    refine at_region ?_
    refine at_v (ov_int rfl rfl rfl rfl) rfl rfl rfl ?_
    refine at_v (ov_assign rfl rfl) rfl rfl rfl ?_
    refine at_nil ?_
    refine at_normal ?_
    refine hK10 _ _ _ ?_
    refine at_cond_false (congrArg (fun b => some (Value.bool b)) (show _ = false from decide_eq_false (by omega))) ?_
    refine at_seq_k (fun K11 hK11 => ?_)
    refine at_region ?_
    refine at_v (ov_int rfl rfl rfl rfl) rfl rfl rfl ?_
    refine at_v (ov_assign rfl rfl) rfl rfl rfl ?_
    refine at_nil ?_
    refine at_normal ?_
    refine hK11 _ _ _ ?_
    refine at_cond_false (congrArg (fun b => some (Value.bool b)) (show _ = false from decide_eq_false (by omega))) ?_
    refine at_seq_k (fun K12 hK12 => ?_)
    refine at_region ?_
    refine at_v (ov_int rfl rfl rfl rfl) rfl rfl rfl ?_
    refine at_v (ov_assign rfl rfl) rfl rfl rfl ?_
    refine at_nil ?_
    refine at_normal ?_
    refine hK12 _ _ _ ?_
    refine at_cond_true (congrArg (fun b => some (Value.bool b)) (show _ = true from decide_eq_true (by omega))) ?_
    refine at_region ?_
    refine at_v (ov_move rfl rfl) rfl rfl rfl ?_
    refine at_v (ov_fieldAddr (k := 3) (r := 3) rfl rfl rfl rfl) rfl rfl rfl ?_
    refine at_v (ov_load rfl rfl rfl (fun _ s => s.ld (k := 2) rfl rfl)) rfl rfl rfl ?_
    refine at_t (ot_call (ks := [3]) rfl rfl rfl Tryz.call35 rfl (T35 _ _ (by first | assumption | rfl | omega | decide | (simp; done) | (simp at *; omega))) rfl) rfl rfl rfl ?_
    rintro v0 _ ⟨m0, hp0, rfl⟩
    obtain ⟨rfl, rfl⟩ := hp0
    simp only [List.cons_append, List.nil_append, splice, spliceL]
    refine at_nil ?_
    refine at_inb_normal ?_
    refine at_normal ?_
    refine hK2 _ _ _ ?_
    refine at_seq_k (fun K13 hK13 => ?_)
    refine at_region ?_
    refine at_v (ov_loadS (cs := [_, _, _, _, _]) rfl rfl rfl rfl (fun _ s => s.lds (k := 1) rfl ⟨rfl, rfl, rfl, rfl, rfl, trivial⟩)) rfl rfl rfl ?_
    refine at_t0 (ot_store (k := 2) rfl rfl rfl rfl rfl rfl rfl) rfl rfl ?_
    rintro _ _ ⟨rfl, rfl⟩
    simp only [setAt, splice, spliceL, Value.cells]
    refine at_nil ?_
    refine at_normal ?_
    refine hK13 _ _ _ ?_
    refine at_ret ?_
    refine at_end ?_
    refine at_fin (rsV rfl (res_cellS (k := 2) (vs := [_, _, _, _, _]) rfl rfl rfl rfl ⟨rfl, rfl, rfl, rfl, rfl, trivial⟩)) ?_
    refine ⟨_, ⟨rfl, rfl⟩, ?_⟩
    exact fun _ s => s.finEq (ks := [0]) (js := [0, 0, 0]) rfl rfl rfl
  by_cases hi9 : d = 9
  · simp only [doT, doP, if_neg hi0, if_neg hi1, if_neg hi2, if_neg hi3, if_neg hi4, if_neg hi5, if_neg hi6, if_neg hi7, if_neg hi8, if_pos hi9, midL_upd]
    refine at_seq_k (fun K0 hK0 => ?_)
    refine at_region ?_
    refine at_t (ot_boxA rfl rfl) rfl rfl rfl ?_
    rintro _ _ ⟨g0, rfl, rfl⟩
    refine at_t (ot_allocA rfl Tryz.zeroValue35) rfl rfl rfl ?_
    rintro _ _ ⟨g1, rfl, rfl⟩
    refine at_nil ?_
    refine at_normal ?_
    refine hK0 _ _ _ ?_
    refine at_seq_k (fun K1 hK1 => ?_)
    refine at_region ?_
    refine at_t (ot_allocA rfl Tryz.zeroValue35) rfl rfl rfl ?_
    rintro _ _ ⟨g2, rfl, rfl⟩
    refine at_nil ?_
    refine at_normal ?_
    refine hK1 _ _ _ ?_
    refine at_seq_k (fun K2 hK2 => ?_)
    refine at_seq_k (fun K3 hK3 => ?_)
    refine at_region ?_
    refine at_v (ov_fieldAddr (k := 0) (r := 0) rfl rfl rfl rfl) rfl rfl rfl ?_
    refine at_v (ov_load rfl rfl rfl (fun _ s => s.ld (k := 2) rfl rfl)) rfl rfl rfl ?_
    refine at_nil ?_
    refine at_normal ?_
    refine hK3 _ _ _ ?_
    refine at_block ?_
    refine at_seq_k (fun K4 hK4 => ?_)
    refine at_region ?_
    refine at_v (ov_int rfl rfl rfl rfl) rfl rfl rfl ?_
    refine at_v (ov_assign rfl rfl) rfl rfl rfl ?_
    refine at_nil ?_
    refine at_normal ?_
    refine hK4 _ _ _ ?_
    refine at_cond_false (congrArg (fun b => some (Value.bool b)) (show _ = false from decide_eq_false (by omega))) ?_
    refine at_seq_k (fun K5 hK5 => ?_)
    refine at_region ?_
    refine at_v (ov_int rfl rfl rfl rfl) rfl rfl rfl ?_
    refine at_v (ov_assign rfl rfl) rfl rfl rfl ?_
    refine at_nil ?_
    refine at_normal ?_
    refine hK5 _ _ _ ?_
    refine at_cond_false (congrArg (fun b => some (Value.bool b)) (show _ = false from decide_eq_false (by omega))) ?_
    refine at_seq_k (fun K6 hK6 => ?_)
    refine at_region ?_
    refine at_v (ov_int rfl rfl rfl rfl) rfl rfl rfl ?_
    refine at_v (ov_assign rfl rfl) rfl rfl rfl ?_
    refine at_nil ?_
    refine at_normal ?_
    refine hK6 _ _ _ ?_
    refine at_cond_false (congrArg (fun b => some (Value.bool b)) (show _ = false from decide_eq_false (by omega))) ?_
    refine at_seq_k (fun K7 hK7 => ?_)
    refine at_region ?_
    refine at_v (ov_int rfl rfl rfl rfl) rfl rfl rfl ?_
    refine at_v (ov_assign rfl rfl) rfl rfl rfl ?_
    refine at_nil ?_
    refine at_normal ?_
    refine hK7 _ _ _ ?_
    refine at_cond_false (congrArg (fun b => some (Value.bool b)) (show _ = false from decide_eq_false (by omega))) ?_
    refine at_seq_k (fun K8 hK8 => ?_)
    refine at_region ?_
    refine at_v (ov_int rfl rfl rfl rfl) rfl rfl rfl ?_
    refine at_v (ov_assign rfl rfl) rfl rfl rfl ?_
    refine at_nil ?_
    refine at_normal ?_
    refine hK8 _ _ _ ?_
    refine at_cond_false (congrArg (fun b => some (Value.bool b)) (show _ = false from decide_eq_false (by omega))) ?_
    refine at_seq_k (fun K9 hK9 => ?_)
    refine at_region ?_
    refine at_v (ov_int rfl rfl rfl rfl) rfl rfl rfl ?_
    refine at_v (ov_assign rfl rfl) rfl rfl rfl ?_
    refine at_nil ?_
    refine at_normal ?_
    refine hK9 _ _ _ ?_
    refine at_cond_false (congrArg (fun b => some (Value.bool b)) (show _ = false from decide_eq_false (by omega))) ?_
    refine at_seq_k (fun K10 hK10 => ?_)
    refine at_region ?_
    refine at_v (ov_int rfl rfl rfl rfl) rfl rfl rfl ?_
    refine at_v (ov_assign rfl rfl) rfl rfl rfl ?_
    refine at_nil ?_
    refine at_normal ?_
    refine hK10 _ _ _ ?_
    refine at_cond_false (congrArg (fun b => some (Value.bool b)) (show _ = false from decide_eq_false (by omega))) ?_
    refine at_seq_k (fun K11 hK11 => ?_)
    refine at_region ?_
    refine at_v (ov_int rfl rfl rfl rfl) rfl rfl rfl ?_
    refine at_v (ov_assign rfl rfl) rfl rfl rfl ?_
    refine at_nil ?_
    refine at_normal ?_
    refine hK11 _ _ _ ?_
    refine at_cond_false (congrArg (fun b => some (Value.bool b)) (show _ = false from decide_eq_false (by omega))) ?_
    refine at_seq_k (fun K12 hK12 => ?_)
    refine at_region ?_
    refine at_v (ov_int rfl rfl rfl rfl) rfl rfl rfl ?_
    refine at_v (ov_assign rfl rfl) rfl rfl rfl ?_
    refine at_nil ?_
    refine at_normal ?_
    refine hK12 _ _ _ ?_
    refine at_cond_false (congrArg (fun b => some (Value.bool b)) (show _ = false from decide_eq_false (by omega))) ?_
    refine at_seq_k (fun K13 hK13 => ?_)
    refine at_region ?_
    refine at_v (ov_int rfl rfl rfl rfl) rfl rfl rfl ?_
    refine at_v (ov_assign rfl rfl) rfl rfl rfl ?_
    refine at_nil ?_
    refine at_normal ?_
    refine hK13 _ _ _ ?_
    refine at_cond_true (congrArg (fun b => some (Value.bool b)) (show _ = true from decide_eq_true (by omega))) ?_
    refine at_region ?_
    refine at_v (ov_move rfl rfl) rfl rfl rfl ?_
    refine at_v (ov_fieldAddr (k := 4) (r := 4) rfl rfl rfl rfl) rfl rfl rfl ?_
    refine at_v (ov_load rfl rfl rfl (fun _ s => s.ld (k := 2) rfl rfl)) rfl rfl rfl ?_
    refine at_t (ot_call (ks := [3]) rfl rfl rfl Tryz.call36 rfl (T36 _ _ (by first | assumption | rfl | omega | decide | (simp; done) | (simp at *; omega)) (by first | assumption | rfl | omega | decide | (simp; done) | (simp at *; omega))) rfl) rfl rfl rfl ?_
    rintro v0 _ ⟨m0, hp0, rfl⟩
    obtain ⟨rfl, rfl⟩ := hp0
    simp only [List.cons_append, List.nil_append, splice, spliceL]
    refine at_v (ov_fieldAddr (k := 0) (r := 0) rfl rfl rfl rfl) rfl rfl rfl ?_
    refine at_t0 (ot_store (k := 1) rfl rfl rfl rfl rfl rfl rfl) rfl rfl ?_
    rintro _ _ ⟨rfl, rfl⟩
    simp only [setAt, splice, spliceL, Value.cells]
    refine at_nil ?_
    refine at_inb_normal ?_
    refine at_normal ?_
    refine hK2 _ _ _ ?_
    refine at_seq_k (fun K14 hK14 => ?_)
    refine at_region ?_
    refine at_v (ov_loadS (cs := [_, _, _, _, _]) rfl rfl rfl rfl (fun _ s => s.lds (k := 1) rfl ⟨rfl, rfl, rfl, rfl, rfl, trivial⟩)) rfl rfl rfl ?_
    refine at_t0 (ot_store (k := 2) rfl rfl rfl rfl rfl rfl rfl) rfl rfl ?_
    rintro _ _ ⟨rfl, rfl⟩
    simp only [setAt, splice, spliceL, Value.cells]
    refine at_nil ?_
    refine at_normal ?_
    refine hK14 _ _ _ ?_
    refine at_ret ?_
    refine at_end ?_
    refine at_fin (rsV rfl (res_cellS (k := 2) (vs := [_, _, _, _, _]) rfl rfl rfl rfl ⟨rfl, rfl, rfl, rfl, rfl, trivial⟩)) ?_
    refine ⟨_, ⟨rfl, rfl⟩, ?_⟩
    exact fun _ s => s.finEq (ks := [0]) (js := [0, 0, 0]) rfl rfl rfl
  simp only [doT, doP, if_neg hi0, if_neg hi1, if_neg hi2, if_neg hi3, if_neg hi4, if_neg hi5, if_neg hi6, if_neg hi7, if_neg hi8, if_neg hi9]
  refine at_seq_k (fun K0 hK0 => ?_)
  refine at_region ?_
  refine at_t (ot_boxA rfl rfl) rfl rfl rfl ?_
  rintro _ _ ⟨g0, rfl, rfl⟩
  refine at_t (ot_allocA rfl Tryz.zeroValue35) rfl rfl rfl ?_
  rintro _ _ ⟨g1, rfl, rfl⟩
  refine at_nil ?_
  refine at_normal ?_
  refine hK0 _ _ _ ?_
  refine at_seq_k (fun K1 hK1 => ?_)
  refine at_region ?_
  refine at_t (ot_allocA rfl Tryz.zeroValue35) rfl rfl rfl ?_
  rintro _ _ ⟨g2, rfl, rfl⟩
  refine at_nil ?_
  refine at_normal ?_
  refine hK1 _ _ _ ?_
  refine at_seq_k (fun K2 hK2 => ?_)
  refine at_seq_k (fun K3 hK3 => ?_)
  refine at_region ?_
  refine at_v (ov_fieldAddr (k := 0) (r := 0) rfl rfl rfl rfl) rfl rfl rfl ?_
  refine at_v (ov_load rfl rfl rfl (fun _ s => s.ld (k := 2) rfl rfl)) rfl rfl rfl ?_
  refine at_nil ?_
  refine at_normal ?_
  refine hK3 _ _ _ ?_
  refine at_block ?_
  refine at_seq_k (fun K4 hK4 => ?_)
  refine at_region ?_
  refine at_v (ov_int rfl rfl rfl rfl) rfl rfl rfl ?_
  refine at_v (ov_assign rfl rfl) rfl rfl rfl ?_
  refine at_nil ?_
  refine at_normal ?_
  refine hK4 _ _ _ ?_
  refine at_cond_false (congrArg (fun b => some (Value.bool b)) (show _ = false from decide_eq_false (by omega))) ?_
  refine at_seq_k (fun K5 hK5 => ?_)
  refine at_region ?_
  refine at_v (ov_int rfl rfl rfl rfl) rfl rfl rfl ?_
  refine at_v (ov_assign rfl rfl) rfl rfl rfl ?_
  refine at_nil ?_
  refine at_normal ?_
  refine hK5 _ _ _ ?_
  refine at_cond_false (congrArg (fun b => some (Value.bool b)) (show _ = false from decide_eq_false (by omega))) ?_
  refine at_seq_k (fun K6 hK6 => ?_)
  refine at_region ?_
  refine at_v (ov_int rfl rfl rfl rfl) rfl rfl rfl ?_
  refine at_v (ov_assign rfl rfl) rfl rfl rfl ?_
  refine at_nil ?_
  refine at_normal ?_
  refine hK6 _ _ _ ?_
  refine at_cond_false (congrArg (fun b => some (Value.bool b)) (show _ = false from decide_eq_false (by omega))) ?_
  refine at_seq_k (fun K7 hK7 => ?_)
  refine at_region ?_
  refine at_v (ov_int rfl rfl rfl rfl) rfl rfl rfl ?_
  refine at_v (ov_assign rfl rfl) rfl rfl rfl ?_
  refine at_nil ?_
  refine at_normal ?_
  refine hK7 _ _ _ ?_
  refine at_cond_false (congrArg (fun b => some (Value.bool b)) (show _ = false from decide_eq_false (by omega))) ?_
  refine at_seq_k (fun K8 hK8 => ?_)
  refine at_region ?_
  refine at_v (ov_int rfl rfl rfl rfl) rfl rfl rfl ?_
  refine at_v (ov_assign rfl rfl) rfl rfl rfl ?_
  refine at_nil ?_
  refine at_normal ?_
  refine hK8 _ _ _ ?_
  refine at_cond_false (congrArg (fun b => some (Value.bool b)) (show _ = false from decide_eq_false (by omega))) ?_
  refine at_seq_k (fun K9 hK9 => ?_)
  refine at_region ?_
  refine at_v (ov_int rfl rfl rfl rfl) rfl rfl rfl ?_
  refine at_v (ov_assign rfl rfl) rfl rfl rfl ?_
  refine at_nil ?_
  refine at_normal ?_
  refine hK9 _ _ _ ?_
  refine at_cond_false (congrArg (fun b => some (Value.bool b)) (show _ = false from decide_eq_false (by omega))) ?_
  refine at_seq_k (fun K10 hK10 => ?_)
  refine at_region ?_
  refine at_v (ov_int rfl rfl rfl rfl) rfl rfl rfl ?_
  refine at_v (ov_assign rfl rfl) rfl rfl rfl ?_
  refine at_nil ?_
  refine at_normal ?_
  refine hK10 _ _ _ ?_
  refine at_cond_false (congrArg (fun b => some (Value.bool b)) (show _ = false from decide_eq_false (by omega))) ?_
  refine at_seq_k (fun K11 hK11 => ?_)
  refine at_region ?_
  refine at_v (ov_int rfl rfl rfl rfl) rfl rfl rfl ?_
  refine at_v (ov_assign rfl rfl) rfl rfl rfl ?_
  refine at_nil ?_
  refine at_normal ?_
  refine hK11 _ _ _ ?_
  refine at_cond_false (congrArg (fun b => some (Value.bool b)) (show _ = false from decide_eq_false (by omega))) ?_
  refine at_seq_k (fun K12 hK12 => ?_)
  refine at_region ?_
  refine at_v (ov_int rfl rfl rfl rfl) rfl rfl rfl ?_
  refine at_v (ov_assign rfl rfl) rfl rfl rfl ?_
  refine at_nil ?_
  refine at_normal ?_
  refine hK12 _ _ _ ?_
  refine at_cond_false (congrArg (fun b => some (Value.bool b)) (show _ = false from decide_eq_false (by omega))) ?_
  refine at_seq_k (fun K13 hK13 => ?_)
  refine at_region ?_
  refine at_v (ov_int rfl rfl rfl rfl) rfl rfl rfl ?_
  refine at_v (ov_assign rfl rfl) rfl rfl rfl ?_
  refine at_nil ?_
  refine at_normal ?_
  refine hK13 _ _ _ ?_
  refine at_cond_false (congrArg (fun b => some (Value.bool b)) (show _ = false from decide_eq_false (by omega))) ?_
  refine at_skip ?_
  refine at_inb_normal ?_
  refine at_normal ?_
  refine hK2 _ _ _ ?_
  refine at_seq_k (fun K14 hK14 => ?_)
  refine at_region ?_
  refine at_v (ov_loadS (cs := [_, _, _, _, _]) rfl rfl rfl rfl (fun _ s => s.lds (k := 0) rfl ⟨rfl, rfl, rfl, rfl, rfl, trivial⟩)) rfl rfl rfl ?_
  refine at_t0 (ot_store (k := 1) rfl rfl rfl rfl rfl rfl rfl) rfl rfl ?_
  rintro _ _ ⟨rfl, rfl⟩
  simp only [setAt, splice, spliceL, Value.cells]
  refine at_nil ?_
  refine at_normal ?_
  refine hK14 _ _ _ ?_
  refine at_ret ?_
  refine at_end ?_
  refine at_fin (rsV rfl (res_cellS (k := 1) (vs := [_, _, _, _, _]) rfl rfl rfl rfl ⟨rfl, rfl, rfl, rfl, rfl, trivial⟩)) ?_
  refine ⟨_, ⟨rfl, rfl⟩, ?_⟩
  exact fun _ s => s.finEq (ks := [3]) (js := [0, 0, 0]) rfl rfl rfl
