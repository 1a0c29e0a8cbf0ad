/- The functions of package pool, walked, further. -/
import Derived.Test.YtlkcccihkfggmaaGreatProg
import Derived.Test.YtlkcccihkfggmaaGreatPool
import Derived.Test.YtlkcccihkfggmaaGreatSLBr
import Derived.KernelRfl
set_option linter.unusedSimpArgs false
set_option linter.unusedVariables false
set_option maxRecDepth 100000
namespace Go.Proofs.YtlkcccihkfggmaaGreat
open Go Go.Proofs.YtlkcccihkfggmaaGreat.SL Go.RowKit
def Open4 (cs : List XM) : Prop := ∀ x ∈ cs, x.2.1.state ≠ 4
theorem alive_same {cs : List XM} (h : Open4 cs) : alive cs = cs := by
  unfold alive
  rw [List.filter_eq_self]
  intro x hx
  simp [h x hx]
theorem alive_open (cs : List XM) : Open4 (alive cs) := fun x hx => by
  have := (List.mem_filter.1 hx).2
  simpa using this
theorem midL_same {cs : List XM} (h : Open4 cs) (k : Nat) : midL cs (fun x => x.2) k = cs := by
  unfold midL
  have e : (cs.take k).map (fun x : XM => (x.1, x.2)) = cs.take k := by simp
  rw [e, alive_same fun x hx => h x (List.mem_of_mem_take hx), List.take_append_drop]
theorem midK_same {cs : List XM} (h : Open4 cs) {k : Nat} (hk : k ≤ cs.length) : midK cs (fun x => x.2) k = k := by
  unfold midK
  have e : (cs.take k).map (fun x : XM => (x.1, x.2)) = cs.take k := by simp
  rw [e, alive_same fun x hx => h x (List.mem_of_mem_take hx)]
  simp [hk]
theorem stopL_same {cs : List XM} (h : Open4 cs) {st : XM → CM × Int} {k : Nat} {x : XM} (hx : cs[k]? = some x) : stopL cs (fun x => x.2) st k = cs.set k (x.1, st x) := by
  unfold stopL
  rw [hx, midL_same h, midK_same h (Nat.le_of_lt (List.getElem?_eq_some_iff.1 hx).1)]
abbrev infoE (x : XM) : List Value := [.int .i64 x.1, .int .i64 x.2.1.state, .int .i64 (max x.2.1.o 0), .int .u64 x.2.1.e, .int .u64 x.2.1.f, .int .u64 x.2.2]
def IRow (g : Nat) (cs : List XM) : HP := fun h => ∃ A, ∃ c, star [cl g #[.slice A cs.length c] 41, Row infoE 61 6 A c cs] h
theorem T11 (w0 : World) {g : Nat} {most idle wm last : Int} {L : List Int} {cs : List XM} (hs : (cs.map (·.1)).Pairwise (· < ·)) (h6 : cs.length ≤ 6) (ho : Open4 cs) :
    Tri Tryz.prog w0 11 [ptrTo g] [PoolA g most idle wm last L cs] fun v m => ∃ A c, v = .slice A cs.length c ∧ m = [Row infoE 61 6 A c cs, PoolA g most idle wm last L cs] := by
  refine tri_of Tryz.func11 rfl rfl fun F => ?_
  simp only [Tryz.ntmps11, argEnv, List.cons_append, List.nil_append]
  refine at_seq_k (fun K0 hK0 => ?_)
  refine at_region ?_
  refine at_v (ov_assign rfl rfl) rfl rfl rfl ?_
  refine at_nil ?_
  refine at_normal ?_
  refine hK0 _ _ _ ?_
  refine at_seq_k (fun K1 hK1 => ?_)
  refine at_region ?_
  refine at_t (ot_alloc1 rfl Tryz.zeroValue41 rfl) rfl rfl rfl ?_
  rintro _ _ ⟨g0, rfl, rfl⟩
  refine at_nil ?_
  refine at_normal ?_
  refine hK1 _ _ _ ?_
  refine at_seq_k (fun K2 hK2 => ?_)
  refine at_seq_k (fun K3 hK3 => ?_)
  refine at_region ?_
  refine at_v (ov_move rfl rfl) rfl rfl rfl ?_
  refine at_t (ot_call (ks := []) rfl rfl rfl Tryz.call37 rfl (T37 _) rfl) rfl rfl rfl ?_
  rintro v0 _ ⟨m0, hp0, rfl⟩
  obtain ⟨b0, hp0⟩ := hp0
  obtain ⟨rfl, rfl⟩ := hp0
  simp only [List.cons_append, List.nil_append, splice, spliceL]
  refine at_nil ?_
  refine at_normal ?_
  refine hK3 _ _ _ ?_
  refine at_block ?_
  refine at_rowNil infoE 61 6 ?_
  refine at_fold (A := IRow g0 (cs.take 0)) [2, 0] rfl (fun h s => ⟨none, 0, s⟩) ?_
  refine at_each [0, 0, 0] (fun x => x.2) (fun x => x.2) (fun k => IRow g0 (cs.take k)) (fun _ _ h => False ∧ star [] h) hs h6 rfl rfl rfl ?_ ?_ ?_
  · intro l0 rc k x gh wb mb hx hst F
    have hlt : k < cs.length := (List.getElem?_eq_some_iff.1 hx).1
    have htk : cs.take (k + 1) = cs.take k ++ [x] := by rw [List.take_add_one, hx]; rfl
    have hl6 : (cs.take k).length ≤ 6 := by rw [List.length_take]; omega
    refine at_pulls [2, 2] rfl ?_
    refine at_held fun cb => ?_
    refine at_pulls [2] rfl ?_
    refine at_ex fun A => at_ex fun c => at_open ?_
    simp only [List.cons_append, List.nil_append]
    refine at_seq_k (fun K4 hK4 => ?_)
    refine at_region ?_
    refine at_v (ov_assign rfl rfl) rfl rfl rfl ?_
    refine at_nil ?_
    refine at_normal ?_
    refine hK4 _ _ _ ?_
    refine at_region ?_
    refine at_v (ov_assign rfl rfl) rfl rfl rfl ?_
    refine at_nil ?_
    refine at_normal ?_
    refine at_mid (k := 4) rfl (by assumption) ?_
    simp only [setAt]
    refine at_block ?_
    refine at_draw _ [] 29 [(1, 0), (2, 1), (2, 2), (2, 3), (2, 4), (1, 5), (2, 7), (2, 8), (2, 9), (1, 10), (2, 12), (2, 13), (2, 14), (1, 15), (2, 17), (2, 18), (2, 19), (1, 20), (2, 22), (2, 23), (2, 24), (1, 25), (0, 6), (0, 11), (0, 16), (0, 21), (2, 26), (0, 27), (0, 28), (3, 29)] (by kernel_rfl) (by kernel_rfl) (fun _ s => (s.pulls (ks := [0, 1, 1, 1, 1]) rfl).left) ?_
    refine aq_v (ov_load rfl rfl rfl (fun _ s => s.ld (k := 0) rfl rfl)) rfl rfl rfl ?_
    refine aq_p (ov_move rfl rfl) rfl rfl rfl ?_
    refine aq_p (ov_move rfl rfl) rfl rfl rfl ?_
    refine aq_p (ov_nilCheck rfl rfl) rfl rfl rfl ?_
    refine aq_p (ov_fieldAddr (k := 0) (r := 0) rfl rfl rfl rfl) rfl rfl rfl ?_
    refine aq_v (ov_load rfl rfl rfl (fun _ s => s.ld (k := 1) rfl rfl)) rfl rfl rfl ?_
    refine aq_p (ov_move rfl rfl) rfl rfl rfl ?_
    refine aq_p (ov_nilCheck rfl rfl) rfl rfl rfl ?_
    refine aq_p (ov_fieldAddr (k := 0) (r := 0) rfl rfl rfl rfl) rfl rfl rfl ?_
    refine aq_v (ov_load rfl rfl rfl (fun _ s => s.ld (k := 1) rfl rfl)) rfl rfl rfl ?_
    refine aq_p (ov_move rfl rfl) rfl rfl rfl ?_
    refine aq_p (ov_nilCheck rfl rfl) rfl rfl rfl ?_
    refine aq_p (ov_fieldAddr (k := 0) (r := 0) rfl rfl rfl rfl) rfl rfl rfl ?_
    refine aq_v (ov_load rfl rfl rfl (fun _ s => s.ld (k := 1) rfl rfl)) rfl rfl rfl ?_
    refine aq_p (ov_move rfl rfl) rfl rfl rfl ?_
    refine aq_p (ov_nilCheck rfl rfl) rfl rfl rfl ?_
    refine aq_p (ov_fieldAddr (k := 0) (r := 0) rfl rfl rfl rfl) rfl rfl rfl ?_
    refine aq_v (ov_load rfl rfl rfl (fun _ s => s.ld (k := 1) rfl rfl)) rfl rfl rfl ?_
    refine aq_p (ov_move rfl rfl) rfl rfl rfl ?_
    refine aq_p (ov_nilCheck rfl rfl) rfl rfl rfl ?_
    refine aq_p (ov_fieldAddr (k := 1) (r := 1) rfl rfl rfl rfl) rfl rfl rfl ?_
    refine aq_v (ov_load rfl rfl rfl (fun _ s => s.ld (k := 1) rfl rfl)) rfl rfl rfl ?_
    refine aq_t (ot_call (ks := [3]) rfl rfl rfl Tryz.call38 rfl (T38 _ _ _) rfl) rfl rfl rfl ?_
    rintro v0 _ ⟨m0, hp0, rfl⟩
    obtain ⟨rfl, rfl⟩ := hp0
    simp only [List.cons_append, List.nil_append, splice, spliceL]
    refine ⟨fun _ s => (s.pulls (ks := [1, 2, 0, 1, 1]) rfl).left, ?_⟩
    refine aq_t (ot_call (ks := [0]) rfl rfl rfl Tryz.call39 rfl (T39 _ _ _) rfl) rfl rfl rfl ?_
    rintro v0 _ ⟨m0, hp0, rfl⟩
    obtain ⟨rfl, rfl⟩ := hp0
    simp only [List.cons_append, List.nil_append, splice, spliceL]
    refine ⟨fun _ s => (s.pulls (ks := [1, 2, 0, 1, 1]) rfl).left, ?_⟩
    refine aq_t (ot_call (ks := [0]) rfl rfl rfl Tryz.call40 rfl (T40 _ _ _) rfl) rfl rfl rfl ?_
    rintro v0 _ ⟨m0, hp0, rfl⟩
    obtain ⟨rfl, rfl⟩ := hp0
    simp only [List.cons_append, List.nil_append, splice, spliceL]
    refine ⟨fun _ s => (s.pulls (ks := [1, 2, 0, 1, 1]) rfl).left, ?_⟩
    refine aq_t (ot_call (ks := [0]) rfl rfl rfl Tryz.call41 rfl (T41 _ _ _) rfl) rfl rfl rfl ?_
    rintro v0 _ ⟨m0, hp0, rfl⟩
    obtain ⟨rfl, rfl⟩ := hp0
    simp only [List.cons_append, List.nil_append, splice, spliceL]
    refine ⟨fun _ s => (s.pulls (ks := [1, 2, 0, 1, 1]) rfl).left, ?_⟩
    refine aq_p (ov_build (cs := [_, _, _, _, _, _]) rfl rfl rfl rfl) rfl rfl rfl ?_
    refine aq_t (ot_buildSlice (cs := [_, _, _, _, _, _]) rfl Tryz.underlying41 rfl rfl rfl rfl rfl rfl) rfl rfl rfl ?_
    rintro _ _ ⟨g1, rfl, rfl⟩
    refine ⟨fun _ s => (s.pulls (ks := [2, 3, 1, 2, 2]) rfl).left, ?_⟩
    refine aq_t (ot_append (k := 3) (size := 6) (bytes := 48) (ys := [x]) (fun _ s => s.rdPt (k := 0) rfl rfl (by simp [infoE])) rfl Tryz.underlying41 (ti := Tryz.t61) rfl rfl rfl rfl rfl (by decide) rfl rfl rfl (by simp [infoE, Value.oneCell']) (by simp; omega) (by decide)) rfl rfl rfl ?_
    rintro _ _ ⟨A0, c0, rfl, rfl⟩
    simp only [setAt]
    refine ⟨fun _ s => (s.pulls (ks := [2, 3, 1, 2, 2]) rfl).left, ?_⟩
    rw [← htk]
    refine aq_b0 (ot_store (k := 2) rfl rfl rfl rfl rfl rfl rfl) rfl rfl ?_
    rintro _ _ ⟨rfl, rfl⟩
    simp only [setAt, splice, spliceL, Value.cells]
    refine ⟨fun _ s => (s.pulls (ks := []) rfl).left, ?_⟩
    refine aq_nil ?_
    refine at_inb_normal ?_
    refine at_fold (A := HeldA gh x.2.1 x.2.2) [4, 1] rfl (fun h s => ⟨cb, s⟩) ?_
    refine at_fold (A := IRow g0 (cs.take (k + 1))) [2, 2] rfl (fun h s => ⟨A0, c0, s⟩) ?_
    refine at_rnormal (k := 3) rfl ?_
    simp only [setAt]
    refine ⟨_, .inl ⟨rfl, rfl⟩, ?_⟩
    exact fun _ s => s.finEq (ks := [3, 3, 1, 0]) (js := [0]) rfl rfl rfl
  · intro d
    rw [midL_same ho]
    refine at_pulls [1] rfl ?_
    refine at_ex fun A => at_ex fun c => at_open ?_
    simp only [List.take_length, List.cons_append, List.nil_append]
    refine at_inb_normal ?_
    refine at_normal ?_
    refine hK2 _ _ _ ?_
    refine at_seq_k (fun K4 hK4 => ?_)
    refine at_region ?_
    refine at_v (ov_load rfl rfl rfl (fun _ s => s.ld (k := 0) rfl rfl)) rfl rfl rfl ?_
    refine at_v (ov_assign rfl rfl) rfl rfl rfl ?_
    refine at_nil ?_
    refine at_normal ?_
    refine hK4 _ _ _ ?_
    refine at_ret ?_
    refine at_end ?_
    refine at_mark (k := 2) rfl ?_
    simp only [setAt]
    refine at_fin (rsV rfl (res_tmp rfl)) ?_
    refine ⟨_, ⟨A, c, rfl, rfl⟩, ?_⟩
    exact fun _ s => s.finEq (ks := [1, 3]) (js := [0, 0, 0]) rfl rfl rfl
  · intro d k c hk
    refine at_pulls [1] rfl ?_
    exact at_and fun h => h.elim
theorem set_id {cs : List XM} {k : Nat} {x : XM} (h : cs[k]? = some x) : cs.set k (x.1, x.2) = cs := set_same h
def hasB (L : List Int) (cs : List XM) (s : Int) : Bool := cs.any (fun x => decide (max x.2.1.o 0 = s)) || decide (atL L s 0 ≥ 0)
theorem any_take {cs : List XM} {k : Nat} {x : XM} (p : XM → Bool) (h : cs[k]? = some x) : (cs.take (k + 1)).any p = ((cs.take k).any p || p x) := by
  rw [List.take_add_one, h]; simp
def BHas (g1 g0 : Nat) (s : Int) (cs : List XM) (k : Nat) : HP := fun h => ((cs.take k).any (fun x => decide (max x.2.1.o 0 = s)) = false) ∧ star [cl g1 #[.bool false] 4, cl g0 #[.int .i64 s] 3] h
def EHas (g1 g0 : Nat) (s : Int) (cs : List XM) (c : Code) : HP := fun h => (isRet c = true ∧ cs.any (fun x => decide (max x.2.1.o 0 = s)) = true) ∧ star [cl g1 #[.bool true] 4, cl g0 #[.int .i64 s] 3] h
theorem T43 (w0 : World) {g : Nat} {most idle wm last : Int} {L : List Int} {cs : List XM} (s : Int) (hs : (cs.map (·.1)).Pairwise (· < ·)) (h6 : cs.length ≤ 6) (ho : Open4 cs) :
    Tri Tryz.prog w0 43 [ptrTo g, .int .i64 s] [PoolA g most idle wm last L cs] fun v m => v = .bool (hasB L cs s) ∧ m = [PoolA g most idle wm last L cs] := by
  refine tri_of Tryz.func43 rfl rfl fun F => ?_
  simp only [Tryz.ntmps43, argEnv, List.cons_append, List.nil_append]
  refine at_seq_k (fun K0 hK0 => ?_)
  refine at_region ?_
  refine at_t (ot_box1 rfl rfl rfl) rfl rfl rfl ?_
  rintro _ _ ⟨g0, rfl, rfl⟩
  refine at_t (ot_alloc1 rfl Tryz.zeroValue4 rfl) rfl rfl rfl ?_
  rintro _ _ ⟨g1, rfl, rfl⟩
  refine at_nil ?_
  refine at_normal ?_
  refine hK0 _ _ _ ?_
  refine at_seq_k (fun K1 hK1 => ?_)
  refine at_seq_k (fun K2 hK2 => ?_)
  refine at_region ?_
  refine at_v (ov_move rfl rfl) rfl rfl rfl ?_
  refine at_t (ot_call (ks := []) rfl rfl rfl Tryz.call37 rfl (T37 _) rfl) rfl rfl rfl ?_
  rintro v0 _ ⟨m0, hp0, rfl⟩
  obtain ⟨b0, hp0⟩ := hp0
  obtain ⟨rfl, rfl⟩ := hp0
  simp only [List.cons_append, List.nil_append, splice, spliceL]
  refine at_nil ?_
  refine at_normal ?_
  refine hK2 _ _ _ ?_
  refine at_block ?_
  refine at_fold (A := BHas g1 g0 s cs 0) [1, 1] rfl (fun h s => ⟨rfl, s⟩) ?_
  refine at_each [0, 0, 0] (fun x => x.2) (fun x => x.2) (BHas g1 g0 s cs) (fun _ c => EHas g1 g0 s cs c) hs h6 rfl rfl rfl ?_ ?_ ?_
  · intro l0 rc k x gh wb mb hx hst F
    refine at_pulls [2, 2] rfl ?_
    refine at_held fun cb => ?_
    refine at_pulls [2] rfl ?_
    refine at_and fun hno => at_open ?_
    simp only [List.cons_append, List.nil_append]
    refine at_region ?_
    refine at_v (ov_assign rfl rfl) rfl rfl rfl ?_
    refine at_nil ?_
    refine at_normal ?_
    refine at_mid (k := 4) rfl (by assumption) ?_
    simp only [setAt]
    refine at_block ?_
    refine at_seq_k (fun K3 hK3 => ?_)
    refine at_draw _ [] 1000 [(2, 0), (2, 1), (2, 2), (1, 3), (1, 5), (0, 4), (2, 6)] (by kernel_rfl) (by kernel_rfl) (fun _ s => (s.pulls (ks := [0, 0, 0, 0, 0, 0]) rfl).left) ?_
    refine aq_p (ov_move rfl rfl) rfl rfl rfl ?_
    refine aq_p (ov_nilCheck rfl rfl) rfl rfl rfl ?_
    refine aq_p (ov_fieldAddr (k := 0) (r := 0) rfl rfl rfl rfl) rfl rfl rfl ?_
    refine aq_v (ov_load rfl rfl rfl (fun _ s => s.ld (k := 2) rfl rfl)) rfl rfl rfl ?_
    refine aq_v (ov_load rfl rfl rfl (fun _ s => s.ld (k := 1) rfl rfl)) rfl rfl rfl ?_
    refine aq_t (ot_call (ks := [3]) rfl rfl rfl Tryz.call39 rfl (T39 _ _ _) rfl) rfl rfl rfl ?_
    rintro v0 _ ⟨m0, hp0, rfl⟩
    obtain ⟨rfl, rfl⟩ := hp0
    simp only [List.cons_append, List.nil_append, splice, spliceL]
    refine ⟨fun _ s => (s.pulls (ks := [1, 1, 1, 0, 0, 0]) rfl).left, ?_⟩
    refine aq_p (ov_int rfl rfl rfl rfl) rfl rfl rfl ?_
    refine aq_nil ?_
    refine at_normal ?_
    refine hK3 _ _ _ ?_
    refine at_cond rfl (fun hc => ?_) (fun hc => ?_)
    · refine at_seq_k (fun K4 hK4 => ?_)
      refine at_region ?_
      refine at_t0 (ot_store (k := 1) rfl rfl rfl rfl rfl rfl rfl) rfl rfl ?_
      rintro _ _ ⟨rfl, rfl⟩
      simp only [setAt, splice, spliceL, Value.cells]
      refine at_nil ?_
      refine at_normal ?_
      refine hK4 _ _ _ ?_
      refine at_ret ?_
      refine at_inb_ret ?_
      have hyes : cs.any (fun x => decide (max x.2.1.o 0 = s)) = true := List.any_eq_true.2 ⟨x, List.mem_of_getElem? hx, hc⟩
      refine at_fold (A := HeldA gh x.2.1 x.2.2) [3, 0] rfl (fun h s => ⟨cb, s⟩) ?_
      refine at_fold (A := EHas g1 g0 s cs .ret) [1, 1] rfl (fun h s => ⟨⟨rfl, hyes⟩, s⟩) ?_
      refine at_rret (k := 2) rfl ?_
      simp only [setAt]
      refine ⟨_, .inr ⟨.ret, rfl, rfl⟩, ?_⟩
      exact fun _ s => s.finEq (ks := [2, 2, 1, 0]) (js := []) rfl rfl rfl
    · refine at_skip ?_
      refine at_inb_normal ?_
      refine at_fold (A := HeldA gh x.2.1 x.2.2) [3, 0] rfl (fun h s => ⟨cb, s⟩) ?_
      have hno2 : (cs.take (k + 1)).any (fun x => decide (max x.2.1.o 0 = s)) = false := by rw [any_take _ hx, hno, hc]; rfl
      refine at_fold (A := BHas g1 g0 s cs (k + 1)) [1, 1] rfl (fun h s => ⟨hno2, s⟩) ?_
      refine at_rnormal (k := 2) rfl ?_
      simp only [setAt]
      refine ⟨_, .inl ⟨rfl, rfl⟩, ?_⟩
      exact fun _ s => s.finEq (ks := [2, 2, 1, 0]) (js := []) rfl rfl rfl
  · intro d
    rw [midL_same ho]
    refine at_pulls [1] rfl ?_
    refine at_and fun hno => at_open ?_
    rw [List.take_length] at hno
    refine at_pulls [4] rfl ?_
    refine at_pool fun wb mb gs hl => ?_
    refine at_inb_normal ?_
    refine at_normal ?_
    refine hK1 _ _ _ ?_
    refine at_seq_k (fun K3 hK3 => ?_)
    refine at_draw _ [] 1000 [(2, 0), (2, 1), (2, 2), (1, 3), (1, 4), (0, 5), (2, 6), (0, 7)] (by kernel_rfl) (by kernel_rfl) (fun _ s => (s.pulls (ks := [0, 4, 4, 4]) rfl).left) ?_
    refine aq_p (ov_move rfl rfl) rfl rfl rfl ?_
    refine aq_p (ov_nilCheck rfl rfl) rfl rfl rfl ?_
    refine aq_p (ov_fieldAddr (k := 2) (r := 2) rfl rfl rfl rfl) rfl rfl rfl ?_
    refine aq_v (ov_load rfl rfl rfl (fun _ s => s.ld (k := 0) rfl rfl)) rfl rfl rfl ?_
    refine aq_v (ov_load rfl rfl rfl (fun _ s => s.ld (k := 1) rfl rfl)) rfl rfl rfl ?_
    refine aq_t (ot_call (ks := [1]) rfl rfl rfl Tryz.call74 rfl (T74 _ _) rfl) rfl rfl rfl ?_
    rintro v0 _ ⟨m0, hp0, rfl⟩
    obtain ⟨rfl, rfl⟩ := hp0
    simp only [List.cons_append, List.nil_append, splice, spliceL]
    refine ⟨fun _ s => (s.pulls (ks := [1, 4, 4, 4]) rfl).left, ?_⟩
    refine aq_p (ov_int rfl rfl rfl rfl) rfl rfl rfl ?_
    refine aq_t0 (ot_store (k := 4) rfl rfl rfl rfl rfl rfl rfl) rfl rfl ?_
    rintro _ _ ⟨rfl, rfl⟩
    simp only [setAt, splice, spliceL, Value.cells]
    refine ⟨fun _ s => (s.pulls (ks := [1, 4, 4, 4]) rfl).left, ?_⟩
    refine aq_nil ?_
    refine at_normal ?_
    refine hK3 _ _ _ ?_
    refine at_ret ?_
    refine at_end ?_
    refine at_mark (k := 6) rfl ?_
    simp only [setAt]
    refine at_fold (A := PoolA g most idle wm last L cs) [1, 0, 0, 0] rfl (fun h s => ⟨wb, mb, gs, hl, s⟩) ?_
    refine at_fin (rsV rfl (res_cell1 (k := 1) rfl rfl rfl rfl)) ?_
    refine ⟨_, ⟨by simp [hasB, hno], rfl⟩, ?_⟩
    exact fun _ s => s.finEq (ks := [0]) (js := [0, 0, 0, 0]) rfl rfl rfl
  · intro d k c hk
    obtain ⟨x, hx⟩ : ∃ x, cs[k]? = some x := ⟨_, List.getElem?_eq_getElem hk⟩
    rw [stopL_same ho hx, set_id hx]
    refine at_pulls [1] rfl ?_
    refine at_and fun hp => at_open ?_
    obtain ⟨hcc, hyes⟩ := hp
    have hcc := isRet_eq hcc
    subst hcc
    simp only [List.cons_append, List.nil_append]
    refine at_ret ?_
    refine at_inb_ret ?_
    refine at_then_ret ?_
    refine at_end ?_
    refine at_mark (k := 2) rfl ?_
    simp only [setAt]
    refine at_fin (rsV rfl (res_cell1 (k := 0) rfl rfl rfl rfl)) ?_
    refine ⟨_, ⟨by simp [hasB, hyes], rfl⟩, ?_⟩
    exact fun _ s => s.finEq (ks := [4]) (js := [0, 0, 0, 0]) rfl rfl rfl
def giveU (e : Int) (x : XM) : CM × Int := if x.2.1.state = 1 ∧ x.2.1.e ≠ e then (x.2.1.drain, x.2.2) else x.2
def lendU (s : Int) (x : XM) : CM × Int := (x.2.1.lend s, x.2.2)
/-- A pool's connections, the last id, the id that is given, whether there is one. -/
def giveM (most last : Int) (cs : List XM) (s e now : Int) : Int × Bool × Int × List XM :=
  let cs1 := midL cs (giveU e) cs.length
  match cs1.findIdx? (fun x => x.2.1.lends s) with
  | some k => ((cs1[k]?.map (·.1)).getD 0, true, last, match cs1[k]? with | some x => cs1.set k (x.1, lendU s x) | none => cs1)
  | none => if (cs1.length : Int) ≥ most then (0, false, last, cs1) else (last + 1, true, last + 1, cs1 ++ [(last + 1, (⟨e, 0, 0, 0, false, false⟩ : CM).lend s, now)])
def BGive (g1 g0 g2 g3 : Nat) (s e : Int) (cs : List XM) (k : Nat) : HP := fun h => ((cs.take k).any (fun x => x.2.1.lends s) = false) ∧ star [cl g0 #[.int .i64 s] 3, cl g1 #[.int .u64 e] 22, cl g2 #[.int .i64 0] 3, cl g3 #[.bool false] 4] h
def EGive (g1 g0 g2 g3 : Nat) (s e : Int) (cs : List XM) (k : Nat) (c : Code) : HP := fun h => (isRet c = true ∧ cs.findIdx? (fun x => x.2.1.lends s) = some k) ∧ star [cl g0 #[.int .i64 s] 3, cl g1 #[.int .u64 e] 22, cl g2 #[.int .i64 ((cs[k]?.map (·.1)).getD 0)] 3, cl g3 #[.bool true] 4] h
theorem midL_idsS {cs : List XM} {u : XM → CM × Int} {k : Nat} (hs : (cs.map (·.1)).Pairwise (· < ·)) : ((midL cs u k).map (·.1)).Pairwise (· < ·) := midL_sorted hs
theorem midL_le {cs : List XM} {u : XM → CM × Int} {k : Nat} : (midL cs u k).length ≤ cs.length := by
  have := (midL_sub (cs := cs) (u := u) (k := k)).length_le
  simpa using this
theorem midL_open {cs : List XM} {u : XM → CM × Int} : Open4 (midL cs u cs.length) := by rw [midL_all]; exact alive_open _
abbrev GV (g1 g0 g2 g3 : Nat) (s e : Int) : HP := star [cl g0 #[.int .i64 s] 3, cl g1 #[.int .u64 e] 22, cl g2 #[.int .i64 0] 3, cl g3 #[.bool false] 4]
theorem lend_no {c : CM} {s : Int} (h : c.lends s = false) : c.lend s = c := if_neg (by simpa [CM.lends] using h)
theorem find_of {cs : List XM} {p : XM → Bool} {k : Nat} {x : XM} (hno : (cs.take k).any p = false) (hx : cs[k]? = some x) (hp : p x = true) : cs.findIdx? p = some k := by
  obtain ⟨h1, h2⟩ := List.getElem?_eq_some_iff.1 hx
  rw [List.findIdx?_eq_some_iff_getElem]
  refine ⟨h1, by rw [h2]; exact hp, fun j hj => ?_⟩
  have := List.any_eq_false.1 hno cs[j] (by
    have : (cs.take k)[j]? = some cs[j] := by rw [List.getElem?_take, if_pos hj]; exact List.getElem?_eq_getElem (by omega)
    exact List.mem_of_getElem? this)
  simpa using this
theorem find_no {cs : List XM} {p : XM → Bool} (hno : cs.any p = false) : cs.findIdx? p = none := by
  rw [List.findIdx?_eq_none_iff]
  intro x hx
  have := List.any_eq_false.1 hno x hx
  simpa using this
theorem heldL_app : ∀ {gs : List Nat} {cs : List XM} {g : Nat} {x : XM}, gs.length = cs.length → heldL (gs ++ [g]) (cs ++ [x]) = heldL gs cs ++ [HeldA g x.2.1 x.2.2]
  | [], [], g, x, _ => rfl
  | g0 :: gs, x0 :: cs, g, x, h => by
    simp only [List.cons_append, heldL]
    rw [heldL_app (by simpa using h)]
  | [], _ :: _, _, _, h => by simp at h
  | _ :: _, [], _, _, h => by simp at h
theorem pool_new {g wb mb gh : Nat} {most idle wm last : Int} {L : List Int} {gs : List Nat} {cs : List XM} (x : XM) (hl : gs.length = cs.length) {h : PH}
    (s : star [cl g #[.int .i64 most, .int .u64 idle, ptrTo wb, .map (some mb), .int .i64 last] 67, WaitA wb wm L, MapA KI mb (kvsOf gs cs ++ [(.int .i64 x.1, ptrTo gh)]), HL gs cs, HeldA gh x.2.1 x.2.2] h) : PoolA g most idle wm last L (cs ++ [x]) h := by
  refine ⟨wb, mb, gs ++ [gh], by simp [hl], ?_⟩
  have ek : kvsOf (gs ++ [gh]) (cs ++ [x]) = kvsOf gs cs ++ [(.int .i64 x.1, ptrTo gh)] := by
    unfold kvsOf
    rw [List.zipWith_append hl]; rfl
  rw [ek]
  have s1 : star ([HL gs cs, HeldA gh x.2.1 x.2.2] ++ [cl g #[.int .i64 most, .int .u64 idle, ptrTo wb, .map (some mb), .int .i64 last] 67, WaitA wb wm L, MapA KI mb (kvsOf gs cs ++ [(.int .i64 x.1, ptrTo gh)])]) h :=
    star_perm (List.perm_append_comm (l₁ := [_, _, _]) (l₂ := [_, _])) s
  have s2 : star ([HL (gs ++ [gh]) (cs ++ [x])] ++ [cl g #[.int .i64 most, .int .u64 idle, ptrTo wb, .map (some mb), .int .i64 last] 67, WaitA wb wm L, MapA KI mb (kvsOf gs cs ++ [(.int .i64 x.1, ptrTo gh)])]) h :=
    star_imp_left (l := [HL gs cs, HeldA gh x.2.1 x.2.2]) (m := [HL (gs ++ [gh]) (cs ++ [x])]) (fun h s => by
      obtain ⟨a, b, ⟨_, ha⟩, hb, d, la, lb⟩ := s
      refine ⟨h, fun _ => none, ⟨by simp [hl], ?_⟩, trivial, fun _ => .inr rfl, Le.refl _, fun _ _ e => by cases e⟩
      rw [heldL_app hl]
      exact star_append.2 ⟨a, b, ha, hb, d, la, lb⟩) s1
  exact star_perm (List.perm_append_comm (l₁ := [_]) (l₂ := [_, _, _])) s2
theorem midL_ids {cs : List XM} {u : XM → CM × Int} {k : Nat} {last : Int} (h : ∀ x ∈ cs, x.1 ≤ last) : ∀ x ∈ midL cs u k, x.1 ≤ last := by
  intro x hx
  have h1 : x.1 ∈ (midL cs u k).map (·.1) := List.mem_map.2 ⟨x, hx, rfl⟩
  have h2 := (midL_sub (cs := cs) (u := u) (k := k)).subset h1
  obtain ⟨y, hy, e⟩ := List.mem_map.1 h2
  rw [← e]; exact h y hy
theorem T44 (w0 : World) {g : Nat} {most idle wm last : Int} {L : List Int} {cs : List XM} (s e now : Int) (hs : (cs.map (·.1)).Pairwise (· < ·)) (h6 : cs.length ≤ 6) (hlast : 0 ≤ last ∧ last ≤ 1000) (hids : ∀ x ∈ cs, x.1 ≤ last) :
    Tri Tryz.prog w0 44 [ptrTo g, .int .i64 s, .int .u64 e, .int .u64 now] [PoolA g most idle wm last L cs] fun v m => v = .tuple #[.int .i64 (giveM most last cs s e now).1, .bool (giveM most last cs s e now).2.1] ∧ m = [PoolA g most idle wm (giveM most last cs s e now).2.2.1 L (giveM most last cs s e now).2.2.2] := by
  refine tri_of Tryz.func44 rfl rfl fun F => ?_
  simp only [Tryz.ntmps44, argEnv, List.cons_append, List.nil_append]
  refine at_seq_k (fun K0 hK0 => ?_)
  refine at_region ?_
  refine at_t (ot_box1 rfl rfl rfl) rfl rfl rfl ?_
  rintro _ _ ⟨g0, rfl, rfl⟩
  refine at_t (ot_box1 rfl rfl rfl) rfl rfl rfl ?_
  rintro _ _ ⟨g1, rfl, rfl⟩
  refine at_t (ot_alloc1 rfl Tryz.zeroValue3 rfl) rfl rfl rfl ?_
  rintro _ _ ⟨g2, rfl, rfl⟩
  refine at_t (ot_alloc1 rfl Tryz.zeroValue4 rfl) rfl rfl rfl ?_
  rintro _ _ ⟨g3, rfl, rfl⟩
  refine at_nil ?_
  refine at_normal ?_
  refine hK0 _ _ _ ?_
  refine at_seq_k (fun K1 hK1 => ?_)
  refine at_seq_k (fun K2 hK2 => ?_)
  refine at_region ?_
  refine at_v (ov_move rfl rfl) rfl rfl rfl ?_
  refine at_t (ot_call (ks := []) rfl rfl rfl Tryz.call37 rfl (T37 _) rfl) rfl rfl rfl ?_
  rintro v0 _ ⟨m0, hp0, rfl⟩
  obtain ⟨b0, hp0⟩ := hp0
  obtain ⟨rfl, rfl⟩ := hp0
  simp only [List.cons_append, List.nil_append, splice, spliceL]
  refine at_nil ?_
  refine at_normal ?_
  refine hK2 _ _ _ ?_
  refine at_block ?_
  refine at_fold (A := GV g1 g0 g2 g3 s e) [4, 3, 2, 1] rfl (fun h s => s) ?_
  refine at_each [0, 0, 0] (giveU e) (giveU e) (fun _ => GV g1 g0 g2 g3 s e) (fun _ _ h => False ∧ star [] h) hs h6 rfl rfl rfl ?_ ?_ ?_
  · intro l0 rc k x gh wb mb hx hst F
    refine at_pulls [2, 2] rfl ?_
    refine at_held fun cb => ?_
    refine at_pulls [2] rfl ?_
    refine at_open ?_
    simp only [List.cons_append, List.nil_append]
    by_cases hi1 : x.2.1.state = 1
    · by_cases hi2 : x.2.1.e = e
      · rw [show giveU e x = x.2 from if_neg (by simp [hi2])]
        refine at_region ?_
        refine at_v (ov_assign rfl rfl) rfl rfl rfl ?_
        refine at_nil ?_
        refine at_normal ?_
        refine at_mid (k := 6) rfl (by assumption) ?_
        simp only [setAt]
        refine at_block ?_
        refine at_seq_k (fun K3 hK3 => ?_)
        refine at_draw _ [] 1000 [(2, 0), (2, 1), (2, 2), (1, 3), (0, 4), (2, 5), (2, 6), (2, 7), (2, 8), (2, 9), (1, 10), (1, 12), (0, 11), (2, 13), (2, 14)] (by kernel_rfl) (by kernel_rfl) (fun _ s => (s.pulls (ks := [0, 0, 0, 0, 0, 0, 0, 0]) rfl).left) ?_
        refine aq_p (ov_move rfl rfl) rfl rfl rfl ?_
        refine aq_p (ov_nilCheck rfl rfl) rfl rfl rfl ?_
        refine aq_p (ov_fieldAddr (k := 0) (r := 0) rfl rfl rfl rfl) rfl rfl rfl ?_
        refine aq_v (ov_load rfl rfl rfl (fun _ s => s.ld (k := 4) rfl rfl)) rfl rfl rfl ?_
        refine aq_t (ot_call (ks := [5]) rfl rfl rfl Tryz.call38 rfl (T38 _ _ _) rfl) rfl rfl rfl ?_
        rintro v0 _ ⟨m0, hp0, rfl⟩
        obtain ⟨rfl, rfl⟩ := hp0
        simp only [List.cons_append, List.nil_append, splice, spliceL]
        refine ⟨fun _ s => (s.pulls (ks := [1, 1, 1, 1, 1, 0, 0, 0]) rfl).left, ?_⟩
        refine aq_p (ov_int rfl rfl rfl rfl) rfl rfl rfl ?_
        refine aq_p (ov_move rfl rfl) rfl rfl rfl ?_
        refine at_reval 25 (.bool true) rfl (congrArg Value.bool (decide_eq_true (by omega))) ?_
        refine aq_wanted (j := 6) rfl ?_
        refine aq_p (ov_move rfl rfl) rfl rfl rfl ?_
        refine aq_wanted (j := 6) rfl ?_
        refine aq_p (ov_nilCheck rfl rfl) rfl rfl rfl ?_
        refine aq_wanted (j := 6) rfl ?_
        refine aq_p (ov_fieldAddr (k := 0) (r := 0) rfl rfl rfl rfl) rfl rfl rfl ?_
        refine aq_wanted (j := 6) rfl ?_
        refine aq_v (ov_load rfl rfl rfl (fun _ s => s.ld (k := 4) rfl rfl)) rfl rfl rfl ?_
        refine aq_wanted (j := 6) rfl ?_
        refine aq_v (ov_load rfl rfl rfl (fun _ s => s.ld (k := 1) rfl rfl)) rfl rfl rfl ?_
        refine aq_wanted (j := 6) rfl ?_
        refine aq_t (ot_call (ks := [0]) rfl rfl rfl Tryz.call40 rfl (T40 _ _ _) rfl) rfl rfl rfl ?_
        rintro v0 _ ⟨m0, hp0, rfl⟩
        obtain ⟨rfl, rfl⟩ := hp0
        simp only [List.cons_append, List.nil_append, splice, spliceL]
        refine ⟨fun _ s => (s.pulls (ks := [1, 1, 1, 1, 1, 0, 0, 0]) rfl).left, ?_⟩
        refine aq_wanted (j := 6) rfl ?_
        refine aq_p (ov_int rfl rfl rfl rfl) rfl rfl rfl ?_
        refine aq_p (ov_pick_t rfl rfl rfl) rfl rfl rfl ?_
        refine aq_nil ?_
        refine at_normal ?_
        refine hK3 _ _ _ ?_
        refine at_cond_false (congrArg (fun b => some (Value.bool b)) (show _ = false from by first | assumption | (rw [Bool.not_eq_false']; exact decide_eq_true (by omega)))) ?_
        refine at_skip ?_
        refine at_inb_normal ?_
        refine at_fold (A := HeldA gh x.2.1 x.2.2) [5, 0] rfl (fun h s => ⟨cb, s⟩) ?_
        refine at_fold (A := GV g1 g0 g2 g3 s e) [1, 1, 1, 1] rfl (fun h s => s) ?_
        refine at_rnormal (k := 2) rfl ?_
        simp only [setAt]
        refine ⟨_, .inl ⟨rfl, rfl⟩, ?_⟩
        exact fun _ s => s.finEq (ks := [2, 2, 1, 0]) (js := []) rfl rfl rfl
      · rw [show giveU e x = (x.2.1.drain, x.2.2) from if_pos ⟨hi1, hi2⟩]
        refine at_region ?_
        refine at_v (ov_assign rfl rfl) rfl rfl rfl ?_
        refine at_nil ?_
        refine at_normal ?_
        refine at_mid (k := 6) rfl (by assumption) ?_
        simp only [setAt]
        refine at_block ?_
        refine at_seq_k (fun K3 hK3 => ?_)
        refine at_draw _ [] 1000 [(2, 0), (2, 1), (2, 2), (1, 3), (0, 4), (2, 5), (2, 6), (2, 7), (2, 8), (2, 9), (1, 10), (1, 12), (0, 11), (2, 13), (2, 14)] (by kernel_rfl) (by kernel_rfl) (fun _ s => (s.pulls (ks := [0, 0, 0, 0, 0, 0, 0, 0]) rfl).left) ?_
        refine aq_p (ov_move rfl rfl) rfl rfl rfl ?_
        refine aq_p (ov_nilCheck rfl rfl) rfl rfl rfl ?_
        refine aq_p (ov_fieldAddr (k := 0) (r := 0) rfl rfl rfl rfl) rfl rfl rfl ?_
        refine aq_v (ov_load rfl rfl rfl (fun _ s => s.ld (k := 4) rfl rfl)) rfl rfl rfl ?_
        refine aq_t (ot_call (ks := [5]) rfl rfl rfl Tryz.call38 rfl (T38 _ _ _) rfl) rfl rfl rfl ?_
        rintro v0 _ ⟨m0, hp0, rfl⟩
        obtain ⟨rfl, rfl⟩ := hp0
        simp only [List.cons_append, List.nil_append, splice, spliceL]
        refine ⟨fun _ s => (s.pulls (ks := [1, 1, 1, 1, 1, 0, 0, 0]) rfl).left, ?_⟩
        refine aq_p (ov_int rfl rfl rfl rfl) rfl rfl rfl ?_
        refine aq_p (ov_move rfl rfl) rfl rfl rfl ?_
        refine at_reval 25 (.bool true) rfl (congrArg Value.bool (decide_eq_true (by omega))) ?_
        refine aq_wanted (j := 6) rfl ?_
        refine aq_p (ov_move rfl rfl) rfl rfl rfl ?_
        refine aq_wanted (j := 6) rfl ?_
        refine aq_p (ov_nilCheck rfl rfl) rfl rfl rfl ?_
        refine aq_wanted (j := 6) rfl ?_
        refine aq_p (ov_fieldAddr (k := 0) (r := 0) rfl rfl rfl rfl) rfl rfl rfl ?_
        refine aq_wanted (j := 6) rfl ?_
        refine aq_v (ov_load rfl rfl rfl (fun _ s => s.ld (k := 4) rfl rfl)) rfl rfl rfl ?_
        refine aq_wanted (j := 6) rfl ?_
        refine aq_v (ov_load rfl rfl rfl (fun _ s => s.ld (k := 1) rfl rfl)) rfl rfl rfl ?_
        refine aq_wanted (j := 6) rfl ?_
        refine aq_t (ot_call (ks := [0]) rfl rfl rfl Tryz.call40 rfl (T40 _ _ _) rfl) rfl rfl rfl ?_
        rintro v0 _ ⟨m0, hp0, rfl⟩
        obtain ⟨rfl, rfl⟩ := hp0
        simp only [List.cons_append, List.nil_append, splice, spliceL]
        refine ⟨fun _ s => (s.pulls (ks := [1, 1, 1, 1, 1, 0, 0, 0]) rfl).left, ?_⟩
        refine aq_wanted (j := 6) rfl ?_
        refine aq_p (ov_int rfl rfl rfl rfl) rfl rfl rfl ?_
        refine aq_p (ov_pick_t rfl rfl rfl) rfl rfl rfl ?_
        refine aq_nil ?_
        refine at_normal ?_
        refine hK3 _ _ _ ?_
        refine at_cond_true (congrArg (fun b => some (Value.bool b)) (show _ = true from by first | assumption | (rw [Bool.not_eq_true']; exact decide_eq_false (by omega)))) ?_
        refine at_region ?_
        refine at_v (ov_move rfl rfl) rfl rfl rfl ?_
        refine at_v (ov_nilCheck rfl rfl) rfl rfl rfl ?_
        refine at_v (ov_fieldAddr (k := 0) (r := 0) rfl rfl rfl rfl) rfl rfl rfl ?_
        refine at_v (ov_load rfl rfl rfl (fun _ s => s.ld (k := 5) rfl rfl)) rfl rfl rfl ?_
        refine at_t (ot_call (ks := [0]) rfl rfl rfl Tryz.call56 rfl (T56 _ _ _) rfl) rfl rfl rfl ?_
        rintro v0 _ ⟨m0, hp0, rfl⟩
        obtain ⟨rfl, rfl⟩ := hp0
        simp only [List.cons_append, List.nil_append, splice, spliceL]
        refine at_nil ?_
        refine at_inb_normal ?_
        refine at_fold (A := HeldA gh x.2.1.drain x.2.2) [5, 0] rfl (fun h s => ⟨cb, s⟩) ?_
        refine at_fold (A := GV g1 g0 g2 g3 s e) [1, 1, 1, 1] rfl (fun h s => s) ?_
        refine at_rnormal (k := 2) rfl ?_
        simp only [setAt]
        refine ⟨_, .inl ⟨rfl, rfl⟩, ?_⟩
        exact fun _ s => s.finEq (ks := [2, 2, 1, 0]) (js := []) rfl rfl rfl
    · rw [show giveU e x = x.2 from if_neg (by simp [hi1])]
      refine at_region ?_
      refine at_v (ov_assign rfl rfl) rfl rfl rfl ?_
      refine at_nil ?_
      refine at_normal ?_
      refine at_mid (k := 6) rfl (by assumption) ?_
      simp only [setAt]
      refine at_block ?_
      refine at_seq_k (fun K3 hK3 => ?_)
      refine at_draw _ [] 1000 [(2, 0), (2, 1), (2, 2), (1, 3), (0, 4), (2, 5), (2, 6), (2, 7), (2, 8), (2, 9), (1, 10), (1, 12), (0, 11), (2, 13), (2, 14)] (by kernel_rfl) (by kernel_rfl) (fun _ s => (s.pulls (ks := [0, 0, 0, 0, 0, 0, 0, 0]) rfl).left) ?_
      refine aq_p (ov_move rfl rfl) rfl rfl rfl ?_
      refine aq_p (ov_nilCheck rfl rfl) rfl rfl rfl ?_
      refine aq_p (ov_fieldAddr (k := 0) (r := 0) rfl rfl rfl rfl) rfl rfl rfl ?_
      refine aq_v (ov_load rfl rfl rfl (fun _ s => s.ld (k := 4) rfl rfl)) rfl rfl rfl ?_
      refine aq_t (ot_call (ks := [5]) rfl rfl rfl Tryz.call38 rfl (T38 _ _ _) rfl) rfl rfl rfl ?_
      rintro v0 _ ⟨m0, hp0, rfl⟩
      obtain ⟨rfl, rfl⟩ := hp0
      simp only [List.cons_append, List.nil_append, splice, spliceL]
      refine ⟨fun _ s => (s.pulls (ks := [1, 1, 1, 1, 1, 0, 0, 0]) rfl).left, ?_⟩
      refine aq_p (ov_int rfl rfl rfl rfl) rfl rfl rfl ?_
      refine aq_p (ov_move rfl rfl) rfl rfl rfl ?_
      refine at_reval 25 (.bool false) rfl (congrArg Value.bool (decide_eq_false (by omega))) ?_
      refine aq_unwanted (j := 6) rfl rfl rfl rfl rfl ?_
      refine aq_unwanted (j := 6) rfl rfl rfl rfl rfl ?_
      refine aq_unwanted (j := 6) rfl rfl rfl rfl rfl ?_
      refine aq_unwanted (j := 6) rfl rfl rfl rfl rfl ?_
      refine aq_unwanted (j := 6) rfl rfl rfl rfl rfl ?_
      refine aq_unwanted (j := 6) rfl rfl rfl rfl rfl ?_
      refine aq_unwanted (j := 6) rfl rfl rfl rfl rfl ?_
      refine aq_p (ov_pick_f rfl rfl rfl) rfl rfl rfl ?_
      refine aq_nil ?_
      refine at_normal ?_
      refine hK3 _ _ _ ?_
      refine at_cond_false rfl ?_
      refine at_skip ?_
      refine at_inb_normal ?_
      refine at_fold (A := HeldA gh x.2.1 x.2.2) [5, 0] rfl (fun h s => ⟨cb, s⟩) ?_
      refine at_fold (A := GV g1 g0 g2 g3 s e) [1, 1, 1, 1] rfl (fun h s => s) ?_
      refine at_rnormal (k := 2) rfl ?_
      simp only [setAt]
      refine ⟨_, .inl ⟨rfl, rfl⟩, ?_⟩
      exact fun _ s => s.finEq (ks := [2, 2, 1, 0]) (js := []) rfl rfl rfl
  · intro d
    obtain ⟨cs1, hcs1⟩ : ∃ cs1, midL cs (giveU e) cs.length = cs1 := ⟨_, rfl⟩
    have hs1 : (cs1.map (·.1)).Pairwise (· < ·) := hcs1 ▸ midL_sorted hs
    have h61 : cs1.length ≤ 6 := by have := midL_le (cs := cs) (u := giveU e) (k := cs.length); rw [hcs1] at this; omega
    have ho1 : Open4 cs1 := hcs1 ▸ midL_open
    have hids1 : ∀ x ∈ cs1, x.1 ≤ last := hcs1 ▸ midL_ids hids
    rw [hcs1]
    refine at_inb_normal ?_
    refine at_normal ?_
    refine hK1 _ _ _ ?_
    refine at_seq_k (fun K3 hK3 => ?_)
    refine at_seq_k (fun K4 hK4 => ?_)
    refine at_region ?_
    refine at_v (ov_move rfl rfl) rfl rfl rfl ?_
    refine at_t (ot_call (ks := []) rfl rfl rfl Tryz.call37 rfl (T37 _) rfl) rfl rfl rfl ?_
    rintro v0 _ ⟨m0, hp0, rfl⟩
    obtain ⟨b1, hp0⟩ := hp0
    obtain ⟨rfl, rfl⟩ := hp0
    simp only [List.cons_append, List.nil_append, splice, spliceL]
    refine at_nil ?_
    refine at_normal ?_
    refine hK4 _ _ _ ?_
    refine at_block ?_
    refine at_pulls [2] rfl ?_
    refine at_open ?_
    simp only [List.cons_append, List.nil_append]
    refine at_fold (A := BGive g1 g0 g2 g3 s e cs1 0) [0, 0, 0, 0] rfl (fun h s => ⟨rfl, s⟩) ?_

    refine at_each [0, 0, 2] (fun x => x.2) (lendU s) (BGive g1 g0 g2 g3 s e cs1) (fun k c => EGive g1 g0 g2 g3 s e cs1 k c) hs1 h61 rfl rfl rfl ?_ ?_ ?_
    · intro l0 rc k x gh wb mb hx hst F
      refine at_pulls [2, 2] rfl ?_
      refine at_held fun cb => ?_
      refine at_pulls [2] rfl ?_
      refine at_and fun hno => at_open ?_
      simp only [List.cons_append, List.nil_append]
      cases hb : x.2.1.lends s with
      | false =>
        have hln := lend_no hb
        refine at_seq_k (fun K5 hK5 => ?_)
        refine at_region ?_
        refine at_v (ov_assign rfl rfl) rfl rfl rfl ?_
        refine at_nil ?_
        refine at_normal ?_
        refine hK5 _ _ _ ?_
        refine at_region ?_
        refine at_v (ov_assign rfl rfl) rfl rfl rfl ?_
        refine at_nil ?_
        refine at_normal ?_
        refine at_mid (k := 6) rfl (by assumption) ?_
        simp only [setAt]
        refine at_block ?_
        refine at_seq_k (fun K6 hK6 => ?_)
        refine at_draw _ [] 1000 [(2, 0), (2, 1), (2, 2), (1, 3), (1, 4), (0, 5)] (by kernel_rfl) (by kernel_rfl) (fun _ s => (s.pulls (ks := [0, 0, 0, 0, 0, 1, 1]) rfl).left) ?_
        refine aq_p (ov_move rfl rfl) rfl rfl rfl ?_
        refine aq_p (ov_nilCheck rfl rfl) rfl rfl rfl ?_
        refine aq_p (ov_fieldAddr (k := 0) (r := 0) rfl rfl rfl rfl) rfl rfl rfl ?_
        refine aq_v (ov_load rfl rfl rfl (fun _ s => s.ld (k := 4) rfl rfl)) rfl rfl rfl ?_
        refine aq_v (ov_load rfl rfl rfl (fun _ s => s.ld (k := 0) rfl rfl)) rfl rfl rfl ?_
        refine aq_t (ot_call (ks := [5]) rfl rfl rfl Tryz.call75 rfl (T75 _ _ _ _) rfl) rfl rfl rfl ?_
        rintro v0 _ ⟨m0, hp0, rfl⟩
        obtain ⟨rfl, rfl⟩ := hp0
        simp only [List.cons_append, List.nil_append, splice, spliceL]
        refine ⟨fun _ s => (s.pulls (ks := [1, 1, 1, 1, 1, 1, 1]) rfl).left, ?_⟩
        refine aq_nil ?_
        refine at_normal ?_
        refine hK6 _ _ _ ?_
        refine at_cond_false (congrArg (fun b => some (Value.bool b)) (show _ = false from by first | assumption | (rw [Bool.not_eq_false']; exact decide_eq_true (by omega)))) ?_
        refine at_skip ?_
        refine at_inb_normal ?_
        rw [hln]
        refine at_fold (A := HeldA gh x.2.1 x.2.2) [5, 0] rfl (fun h s => ⟨cb, s⟩) ?_
        have hno2 : (cs1.take (k + 1)).any (fun x => x.2.1.lends s) = false := by rw [any_take _ hx, hno, hb]; rfl
        refine at_fold (A := BGive g1 g0 g2 g3 s e cs1 (k + 1)) [1, 1, 1, 1] rfl (fun h s => ⟨hno2, s⟩) ?_
        refine at_rnormal (k := 2) rfl ?_
        simp only [setAt]
        refine ⟨_, .inl ⟨rfl, rfl⟩, ?_⟩
        exact fun _ s => s.finEq (ks := [2, 2, 1, 0]) (js := []) rfl rfl rfl
      | true =>
        have hk := find_of (p := fun x : XM => x.2.1.lends s) hno hx hb
        refine at_seq_k (fun K5 hK5 => ?_)
        refine at_region ?_
        refine at_v (ov_assign rfl rfl) rfl rfl rfl ?_
        refine at_nil ?_
        refine at_normal ?_
        refine hK5 _ _ _ ?_
        refine at_region ?_
        refine at_v (ov_assign rfl rfl) rfl rfl rfl ?_
        refine at_nil ?_
        refine at_normal ?_
        refine at_mid (k := 6) rfl (by assumption) ?_
        simp only [setAt]
        refine at_block ?_
        refine at_seq_k (fun K6 hK6 => ?_)
        refine at_draw _ [] 1000 [(2, 0), (2, 1), (2, 2), (1, 3), (1, 4), (0, 5)] (by kernel_rfl) (by kernel_rfl) (fun _ s => (s.pulls (ks := [0, 0, 0, 0, 0, 1, 1]) rfl).left) ?_
        refine aq_p (ov_move rfl rfl) rfl rfl rfl ?_
        refine aq_p (ov_nilCheck rfl rfl) rfl rfl rfl ?_
        refine aq_p (ov_fieldAddr (k := 0) (r := 0) rfl rfl rfl rfl) rfl rfl rfl ?_
        refine aq_v (ov_load rfl rfl rfl (fun _ s => s.ld (k := 4) rfl rfl)) rfl rfl rfl ?_
        refine aq_v (ov_load rfl rfl rfl (fun _ s => s.ld (k := 0) rfl rfl)) rfl rfl rfl ?_
        refine aq_t (ot_call (ks := [5]) rfl rfl rfl Tryz.call75 rfl (T75 _ _ _ _) rfl) rfl rfl rfl ?_
        rintro v0 _ ⟨m0, hp0, rfl⟩
        obtain ⟨rfl, rfl⟩ := hp0
        simp only [List.cons_append, List.nil_append, splice, spliceL]
        refine ⟨fun _ s => (s.pulls (ks := [1, 1, 1, 1, 1, 1, 1]) rfl).left, ?_⟩
        refine aq_nil ?_
        refine at_normal ?_
        refine hK6 _ _ _ ?_
        refine at_cond_true (congrArg (fun b => some (Value.bool b)) (show _ = true from by first | assumption | (rw [Bool.not_eq_true']; exact decide_eq_false (by omega)))) ?_
        refine at_seq_k (fun K7 hK7 => ?_)
        refine at_region ?_
        refine at_v (ov_move rfl rfl) rfl rfl rfl ?_
        refine at_t0 (ot_store (k := 3) rfl rfl rfl rfl rfl rfl rfl) rfl rfl ?_
        rintro _ _ ⟨rfl, rfl⟩
        simp only [setAt, splice, spliceL, Value.cells]
        refine at_t0 (ot_store (k := 4) rfl rfl rfl rfl rfl rfl rfl) rfl rfl ?_
        rintro _ _ ⟨rfl, rfl⟩
        simp only [setAt, splice, spliceL, Value.cells]
        refine at_nil ?_
        refine at_normal ?_
        refine hK7 _ _ _ ?_
        refine at_ret ?_
        refine at_inb_ret ?_
        refine at_fold (A := HeldA gh (lendU s x).1 (lendU s x).2) [5, 0] rfl (fun h s => ⟨cb, s⟩) ?_
        refine at_fold (A := EGive g1 g0 g2 g3 s e cs1 k .ret) [1, 1, 1, 1] rfl (fun h s => ⟨⟨rfl, hk⟩, by rw [hx]; exact s⟩) ?_
        refine at_rret (k := 2) rfl ?_
        simp only [setAt]
        refine ⟨_, .inr ⟨.ret, rfl, rfl⟩, ?_⟩
        exact fun _ s => s.finEq (ks := [2, 2, 1, 0]) (js := []) rfl rfl rfl
    · intro d2
      rw [midL_same ho1]
      refine at_pulls [1] rfl ?_
      refine at_and fun hno => at_open ?_
      rw [List.take_length] at hno
      have hnf := find_no (p := fun x : XM => x.2.1.lends s) hno
      simp only [List.cons_append, List.nil_append]
      refine at_pulls [6] rfl ?_
      refine at_pool fun wb mb gs hl => ?_
      have hkl := kvs_len hl
      by_cases hi1 : (cs1.length : Int) ≥ most
      · have hgm : giveM most last cs s e now = (0, false, last, cs1) := by unfold giveM; rw [hcs1]; simp only [hnf, if_pos hi1]
        refine at_inb_normal ?_
        refine at_normal ?_
        refine hK3 _ _ _ ?_
        refine at_seq_k (fun K5 hK5 => ?_)
        refine at_seq_k (fun K6 hK6 => ?_)
        refine at_draw _ [] 1000 [(2, 0), (2, 1), (2, 2), (1, 3), (1, 4), (2, 5), (2, 6), (2, 7), (1, 8), (2, 9)] (by kernel_rfl) (by kernel_rfl) (fun _ s => (s.pulls (ks := [0, 0, 0, 0, 0, 0, 0, 0, 0, 0, 0, 0]) rfl).left) ?_
        refine aq_p (ov_move rfl rfl) rfl rfl rfl ?_
        refine aq_p (ov_nilCheck rfl rfl) rfl rfl rfl ?_
        refine aq_p (ov_fieldAddr (k := 3) (r := 3) rfl rfl rfl rfl) rfl rfl rfl ?_
        refine aq_v (ov_load rfl rfl rfl (fun _ s => s.ld (k := 0) rfl rfl)) rfl rfl rfl ?_
        refine aq_v (ov_lenMap (ts := #[]) (k := 2) rfl Tryz.underlying65 rfl rfl) rfl rfl rfl ?_
        refine aq_p (ov_move rfl rfl) rfl rfl rfl ?_
        refine aq_p (ov_nilCheck rfl rfl) rfl rfl rfl ?_
        refine aq_p (ov_fieldAddr (k := 0) (r := 0) rfl rfl rfl rfl) rfl rfl rfl ?_
        refine aq_v (ov_load rfl rfl rfl (fun _ s => s.ld (k := 0) rfl rfl)) rfl rfl rfl ?_
        refine aq_p (ov_int rfl rfl rfl rfl) rfl rfl rfl ?_
        refine aq_nil ?_
        refine at_normal ?_
        refine hK6 _ _ _ ?_
        refine at_cond_true (congrArg (fun b => some (Value.bool b)) (show _ = true from decide_eq_true (by omega))) ?_
        refine at_seq_k (fun K7 hK7 => ?_)
        refine at_region ?_
        refine at_t0 (ot_store (k := 6) rfl rfl rfl rfl rfl rfl rfl) rfl rfl ?_
        rintro _ _ ⟨rfl, rfl⟩
        simp only [setAt, splice, spliceL, Value.cells]
        refine at_t0 (ot_store (k := 7) rfl rfl rfl rfl rfl rfl rfl) rfl rfl ?_
        rintro _ _ ⟨rfl, rfl⟩
        simp only [setAt, splice, spliceL, Value.cells]
        refine at_nil ?_
        refine at_normal ?_
        refine hK7 _ _ _ ?_
        refine at_ret ?_
        refine at_then_ret ?_
        refine at_end ?_
        refine at_mark (k := 8) rfl ?_
        simp only [setAt]
        refine at_mark (k := 10) rfl ?_
        simp only [setAt]
        refine at_fold (A := PoolA g most idle wm last L cs1) [0, 0, 0, 0] rfl (fun h s => ⟨wb, mb, gs, hl, s⟩) ?_
        refine at_fin (rsL (vs := [_, _]) rfl ⟨res_cell1 (k := 3) rfl rfl rfl rfl, res_cell1 (k := 4) rfl rfl rfl rfl, trivial⟩ rfl) ?_
        rw [hgm]
        refine ⟨_, ⟨rfl, rfl⟩, ?_⟩
        exact fun _ s => s.finEq (ks := [0]) (js := [0, 0, 0, 0, 0, 0, 0, 0]) rfl rfl rfl
      · have hgm : giveM most last cs s e now = (last + 1, true, last + 1, cs1 ++ [(last + 1, (⟨e, 0, 0, 0, false, false⟩ : CM).lend s, now)]) := by unfold giveM; rw [hcs1]; simp only [hnf, if_neg hi1]
        have hno : ∀ p ∈ kvsOf gs cs1, p.1 ≠ Value.int .i64 (last + 1) := kvs_no fun x hx => by have := hids1 x hx; omega
        refine at_inb_normal ?_
        refine at_normal ?_
        refine hK3 _ _ _ ?_
        refine at_seq_k (fun K5 hK5 => ?_)
        refine at_seq_k (fun K6 hK6 => ?_)
        refine at_draw _ [] 1000 [(2, 0), (2, 1), (2, 2), (1, 3), (1, 4), (2, 5), (2, 6), (2, 7), (1, 8), (2, 9)] (by kernel_rfl) (by kernel_rfl) (fun _ s => (s.pulls (ks := [0, 0, 0, 0, 0, 0, 0, 0, 0, 0, 0, 0]) rfl).left) ?_
        refine aq_p (ov_move rfl rfl) rfl rfl rfl ?_
        refine aq_p (ov_nilCheck rfl rfl) rfl rfl rfl ?_
        refine aq_p (ov_fieldAddr (k := 3) (r := 3) rfl rfl rfl rfl) rfl rfl rfl ?_
        refine aq_v (ov_load rfl rfl rfl (fun _ s => s.ld (k := 0) rfl rfl)) rfl rfl rfl ?_
        refine aq_v (ov_lenMap (ts := #[]) (k := 2) rfl Tryz.underlying65 rfl rfl) rfl rfl rfl ?_
        refine aq_p (ov_move rfl rfl) rfl rfl rfl ?_
        refine aq_p (ov_nilCheck rfl rfl) rfl rfl rfl ?_
        refine aq_p (ov_fieldAddr (k := 0) (r := 0) rfl rfl rfl rfl) rfl rfl rfl ?_
        refine aq_v (ov_load rfl rfl rfl (fun _ s => s.ld (k := 0) rfl rfl)) rfl rfl rfl ?_
        refine aq_p (ov_int rfl rfl rfl rfl) rfl rfl rfl ?_
        refine aq_nil ?_
        refine at_normal ?_
        refine hK6 _ _ _ ?_
        refine at_cond_false (congrArg (fun b => some (Value.bool b)) (show _ = false from decide_eq_false (by omega))) ?_
        refine at_skip ?_
        refine at_normal ?_
        refine hK5 _ _ _ ?_
        refine at_seq_k (fun K7 hK7 => ?_)
        refine at_region ?_
        refine at_v (ov_move rfl rfl) rfl rfl rfl ?_
        refine at_v (ov_nilCheck rfl rfl) rfl rfl rfl ?_
        refine at_v (ov_fieldAddr (k := 4) (r := 4) rfl rfl rfl rfl) rfl rfl rfl ?_
        refine at_v (ov_load rfl rfl rfl (fun _ s => s.ld (k := 0) rfl rfl)) rfl rfl rfl ?_
        refine at_v ((ov_int rfl rfl rfl rfl).eq (congrArg (Value.int .i64) (inK_i64 (by omega) (by omega)))) rfl rfl rfl ?_
        refine at_v (ov_nilCheck rfl rfl) rfl rfl rfl ?_
        refine at_v (ov_fieldAddr (k := 4) (r := 4) rfl rfl rfl rfl) rfl rfl rfl ?_
        refine at_t0 (ot_store (k := 0) rfl rfl rfl rfl rfl rfl rfl) rfl rfl ?_
        rintro _ _ ⟨rfl, rfl⟩
        simp only [setAt, splice, spliceL, Value.cells]
        refine at_nil ?_
        refine at_normal ?_
        refine hK7 _ _ _ ?_
        refine at_seq_k (fun K8 hK8 => ?_)
        refine at_region ?_
        refine at_v (ov_load rfl rfl rfl (fun _ s => s.ld (k := 5) rfl rfl)) rfl rfl rfl ?_
        refine at_t (ot_call (ks := []) rfl rfl rfl Tryz.call76 rfl (T76 _ _) rfl) rfl rfl rfl ?_
        rintro v0 _ ⟨m0, hp0, rfl⟩
        obtain ⟨g4, hp0⟩ := hp0
        obtain ⟨rfl, rfl⟩ := hp0
        simp only [List.cons_append, List.nil_append, splice, spliceL]
        refine at_v (ov_move rfl rfl) rfl rfl rfl ?_
        refine at_v (ov_build (cs := [_, _]) rfl rfl rfl rfl) rfl rfl rfl ?_
        refine at_t (ot_boxA rfl rfl) rfl rfl rfl ?_
        rintro _ _ ⟨g5, rfl, rfl⟩
        refine at_v (ov_assign rfl rfl) rfl rfl rfl ?_
        refine at_nil ?_
        refine at_normal ?_
        refine hK8 _ _ _ ?_
        refine at_seq_k (fun K9 hK9 => ?_)
        refine at_draw _ [] 1000 [(2, 0), (2, 1), (2, 2), (1, 3), (1, 4), (0, 5)] (by kernel_rfl) (by kernel_rfl) (fun _ s => (s.pulls (ks := [0, 1, 4, 4, 4, 4, 4, 4, 4, 4]) rfl).left) ?_
        refine aq_p (ov_move rfl rfl) rfl rfl rfl ?_
        refine aq_p (ov_nilCheck rfl rfl) rfl rfl rfl ?_
        refine aq_p (ov_fieldAddr (k := 0) (r := 0) rfl rfl rfl rfl) rfl rfl rfl ?_
        refine aq_v (ov_load rfl rfl rfl (fun _ s => s.ld (k := 0) rfl rfl)) rfl rfl rfl ?_
        refine aq_v (ov_load rfl rfl rfl (fun _ s => s.ld (k := 2) rfl rfl)) rfl rfl rfl ?_
        refine aq_t (ot_call (ks := [1]) rfl rfl rfl Tryz.call75 rfl (T75 _ _ _ _) rfl) rfl rfl rfl ?_
        rintro v0 _ ⟨m0, hp0, rfl⟩
        obtain ⟨rfl, rfl⟩ := hp0
        simp only [List.cons_append, List.nil_append, splice, spliceL]
        refine ⟨fun _ s => (s.pulls (ks := [1, 1, 4, 4, 4, 4, 4, 4, 4, 4]) rfl).left, ?_⟩
        refine aq_nil ?_
        refine at_normal ?_
        refine hK9 _ _ _ ?_
        refine at_seq_k (fun K10 hK10 => ?_)
        refine at_draw _ [] 1000 [(2, 0), (2, 1), (2, 2), (1, 3), (2, 4), (2, 5), (2, 6), (1, 7), (2, 8), (0, 9)] (by kernel_rfl) (by kernel_rfl) (fun _ s => (s.pulls (ks := [0, 0, 0, 3, 3, 3, 3, 3, 3, 3, 3]) rfl).left) ?_
        refine aq_p (ov_move rfl rfl) rfl rfl rfl ?_
        refine aq_p (ov_nilCheck rfl rfl) rfl rfl rfl ?_
        refine aq_p (ov_fieldAddr (k := 3) (r := 3) rfl rfl rfl rfl) rfl rfl rfl ?_
        refine aq_v (ov_load rfl rfl rfl (fun _ s => s.ld (k := 2) rfl rfl)) rfl rfl rfl ?_
        refine aq_p (ov_move rfl rfl) rfl rfl rfl ?_
        refine aq_p (ov_nilCheck rfl rfl) rfl rfl rfl ?_
        refine aq_p (ov_fieldAddr (k := 4) (r := 4) rfl rfl rfl rfl) rfl rfl rfl ?_
        refine aq_v (ov_load rfl rfl rfl (fun _ s => s.ld (k := 2) rfl rfl)) rfl rfl rfl ?_
        refine aq_p (ov_move rfl rfl) rfl rfl rfl ?_
        refine aq_t0 (ot_mapNew (k := 4) rfl Tryz.underlying65 Tryz.underlying3 rfl rfl rfl rfl (by first | rfl | trivial) (by assumption)) rfl rfl ?_
        rintro _ _ ⟨rfl, rfl⟩
        simp only [setAt]
        refine ⟨fun _ s => (s.pulls (ks := [0, 0, 0, 3, 3, 3, 3, 3, 3, 3, 3]) rfl).left, ?_⟩
        refine aq_nil ?_
        refine at_normal ?_
        refine hK10 _ _ _ ?_
        refine at_seq_k (fun K11 hK11 => ?_)
        refine at_region ?_
        refine at_v (ov_move rfl rfl) rfl rfl rfl ?_
        refine at_v (ov_nilCheck rfl rfl) rfl rfl rfl ?_
        refine at_v (ov_fieldAddr (k := 4) (r := 4) rfl rfl rfl rfl) rfl rfl rfl ?_
        refine at_v (ov_load rfl rfl rfl (fun _ s => s.ld (k := 2) rfl rfl)) rfl rfl rfl ?_
        refine at_t0 (ot_store (k := 8) rfl rfl rfl rfl rfl rfl rfl) rfl rfl ?_
        rintro _ _ ⟨rfl, rfl⟩
        simp only [setAt, splice, spliceL, Value.cells]
        refine at_t0 (ot_store (k := 9) rfl rfl rfl rfl rfl rfl rfl) rfl rfl ?_
        rintro _ _ ⟨rfl, rfl⟩
        simp only [setAt, splice, spliceL, Value.cells]
        refine at_nil ?_
        refine at_normal ?_
        refine hK11 _ _ _ ?_
        refine at_ret ?_
        refine at_end ?_
        refine at_mark (k := 10) rfl ?_
        simp only [setAt]
        refine at_mark (k := 12) rfl ?_
        simp only [setAt]
        refine at_fold (A := HeldA g5 ((⟨e, 0, 0, 0, false, false⟩ : CM).lend s) now) [1, 0] rfl (fun h s => ⟨g4, s⟩) ?_
        obtain ⟨x0, hx0⟩ : ∃ x0 : XM, x0 = (last + 1, (⟨e, 0, 0, 0, false, false⟩ : CM).lend s, now) := ⟨_, rfl⟩
        refine at_fold (A := PoolA g most idle wm (last + 1) L (cs1 ++ [x0])) [1, 1, 1, 1, 0] rfl (fun h s => by subst hx0; exact pool_new (wb := wb) (mb := mb) (gh := g5) _ hl s) ?_
        rw [hx0]
        refine at_fin (rsL (vs := [_, _]) rfl ⟨res_cell1 (k := 3) rfl rfl rfl rfl, res_cell1 (k := 4) rfl rfl rfl rfl, trivial⟩ rfl) ?_
        rw [hgm]
        refine ⟨_, ⟨rfl, rfl⟩, ?_⟩
        exact fun _ s => s.finEq (ks := [0]) (js := [0, 0, 0, 0, 0, 0, 0, 0]) rfl rfl rfl
    · intro d2 k c hk
      obtain ⟨x, hx⟩ : ∃ x, cs1[k]? = some x := ⟨_, List.getElem?_eq_getElem hk⟩
      rw [stopL_same ho1 hx]
      refine at_pulls [1] rfl ?_
      refine at_and fun hp => at_open ?_
      obtain ⟨hcc, hyes⟩ := hp
      have hcc := isRet_eq hcc
      subst hcc
      have hgm : giveM most last cs s e now = (x.1, true, last, cs1.set k (x.1, lendU s x)) := by unfold giveM; rw [hcs1]; simp only [hyes, hx]; rfl
      rw [hx]
      simp only [List.cons_append, List.nil_append]
      refine at_ret ?_
      refine at_inb_ret ?_
      refine at_then_ret ?_
      refine at_end ?_
      refine at_mark (k := 4) rfl ?_
      simp only [setAt]
      refine at_mark (k := 7) rfl ?_
      simp only [setAt]
      refine at_fin (rsL (vs := [_, _]) rfl ⟨res_cell1 (k := 2) rfl rfl rfl rfl, res_cell1 (k := 3) rfl rfl rfl rfl, trivial⟩ rfl) ?_
      rw [hgm]
      refine ⟨_, ⟨rfl, rfl⟩, ?_⟩
      exact fun _ s => s.finEq (ks := [6]) (js := [0, 0, 0, 0, 0, 0, 0, 0]) rfl rfl rfl
  · intro d k c hk
    refine at_pulls [1] rfl ?_
    exact at_and fun h => h.elim
