/- The statements of layer 17 (session), walked. -/
import Derived.Test.YtmhoimnochigjaaProg
import Derived.Test.YtmhoimnochigjaaSession
import Derived.Test.YtmhoimnochigjaaSLRow
import Derived.KernelRfl
set_option linter.unusedSimpArgs false
set_option linter.unusedVariables false
set_option maxRecDepth 100000
set_option maxHeartbeats 4000000
namespace Go.Proofs.Ytmhoimnochigjaa
open Go Go.Proofs.Ytmhoimnochigjaa.SL Go.RowKit
/-- An act. -/
structure AM where
  d : Int
  n : Int
  c : Int
  q : Rq
  te : Int
  tp : Int
  ep : Int
  cut : Int
def AM.ok (x : AM) : Prop := 0 ≤ x.te ∧ 0 ≤ x.tp ∧ 0 ≤ x.ep ∧ 0 ≤ x.cut
def actE (x : AM) : List Value := [.int .i64 x.d, .int .i64 x.n, .int .i64 x.c, .int .u64 x.q.seq, .string x.q.text, .int .i64 x.q.cls, .int .u64 x.te, .int .u64 x.tp, .int .u64 x.ep, .int .u64 x.cut]
abbrev actV (x : AM) : Value := .agg #[.int .i64 x.d, .int .i64 x.n, .int .i64 x.c, .int .u64 x.q.seq, .string x.q.text, .int .i64 x.q.cls, .int .u64 x.te, .int .u64 x.tp, .int .u64 x.ep, .int .u64 x.cut]
def doV (v : VM) (x : AM) : VM := if x.d = 6 then v.learn x.ep x.n x.cut else v
def doS (s : SM) (v : VM) (x : AM) : SM :=
  if x.d = 0 then s.push x.q else if x.d = 1 then s.pop else if x.d = 2 then s.begin x.n x.c else if x.d = 3 then s.end_ else if x.d = 4 then s.abort else if x.d = 5 then s.wrote (x.te, x.tp)
  else if x.d = 6 then s.learn (v.learn x.ep x.n x.cut) else if x.d = 7 then s.ack else if x.d = 8 then s.verdict x.q else s
def doB (s : SM) (v : VM) (x : AM) : Bool :=
  if x.d = 0 then false else if x.d = 1 then s.some_ else if x.d = 2 then !s.op.isSome else if x.d = 3 then s.op.isSome else if x.d = 4 then s.op.isSome else if x.d = 5 then !s.lost
  else if x.d = 6 then !bringB (v.learn x.ep x.n x.cut) s.te s.tp else if x.d = 7 then s.lost else false
def doE (s : SM) (x : AM) : Int := if x.d = 0 then s.pushE else if x.d = 8 then s.verdictE x.q else 0
theorem learn_len (v : VM) (a b c : Int) : (v.learn a b c).cuts.length ≤ v.cuts.length + 1 := by
  unfold VM.learn; split <;> simp
theorem T10 (w0 : World) (g gv : Nat) (s : SM) (v0 : VM) (x : AM) (hlen : v0.cuts.length ≤ 999999) : Tri Try.prog w0 10 [ptrTo g, ptrTo gv, actV x] [SessA g s, ViewA gv v0] fun v m =>
   v = .agg #[.bool (doB s v0 x), .int .i64 (doE s x)] ∧ m = [SessA g (doS s v0 x), ViewA gv (doV v0 x)] := by
  refine tri_of Try.func10 rfl rfl fun F => ?_
  simp only [Try.ntmps10, argEnv, List.cons_append, List.nil_append]
  have hl2 : (v0.learn x.ep x.n x.cut).cuts.length ≤ 1000000 := by have := learn_len v0 x.ep x.n x.cut; omega
  have hl3 : v0.cuts.length ≤ 1000000 := by omega
  refine at_seq_k (fun K0 hK0 => ?_)
  refine at_region ?_
  refine at_t (ot_boxA rfl rfl) rfl rfl rfl ?_
  rintro _ _ ⟨g0, rfl, rfl⟩
  refine at_t (ot_allocA rfl Try.zeroValue39) rfl rfl rfl ?_
  rintro _ _ ⟨g1, rfl, rfl⟩
  refine at_nil ?_
  refine at_normal ?_
  refine hK0 _ _ ?_
  refine at_seq_k (fun K1 hK1 => ?_)
  refine at_region ?_
  refine at_t (ot_allocA rfl Try.zeroValue39) rfl rfl rfl ?_
  rintro _ _ ⟨g2, rfl, rfl⟩
  refine at_nil ?_
  refine at_normal ?_
  refine hK1 _ _ ?_
  refine at_seq_k (fun K2 hK2 => ?_)
  refine at_seq_k (fun K3 hK3 => ?_)
  refine at_region ?_
  refine at_v (ov_fieldAddr (k := 0) (r := 0) rfl rfl rfl rfl) rfl rfl rfl ?_
  refine at_v (ov_load rfl rfl rfl (fun _ s => s.ld (k := 2) rfl rfl)) rfl rfl rfl ?_
  refine at_nil ?_
  refine at_normal ?_
  refine hK3 _ _ ?_
  refine at_block ?_
  refine at_seq_k (fun K4 hK4 => ?_)
  refine at_region ?_
  refine at_v (ov_int rfl rfl rfl rfl) rfl rfl rfl ?_
  refine at_v (ov_assign rfl rfl) rfl rfl rfl ?_
  refine at_nil ?_
  refine at_normal ?_
  refine hK4 _ _ ?_
  refine at_cond rfl (fun h0 => ?_) (fun h0 => ?_)
  ·
    simp only [decide_eq_true_eq, decide_eq_false_iff_not, Bool.not_eq_true', Bool.not_eq_false', Int.not_lt, Int.not_le, Bool.and_eq_true, Bool.or_eq_true, Bool.and_eq_false_iff, Bool.or_eq_false_iff, gt_iff_lt, ge_iff_le] at h0
    refine at_draw _ [] 1000 [(2, 0), (2, 1), (2, 2), (2, 3), (1, 4), (0, 5), (2, 6), (0, 7)] (by kernel_rfl) (by kernel_rfl) (fun _ s => (s.pulls (ks := [1, 1]) rfl).left) ?_
    refine aq_p (ov_move rfl rfl) rfl rfl rfl ?_
    refine aq_p (ov_nilCheck rfl rfl) rfl rfl rfl ?_
    refine aq_p (ov_fieldAddr (k := 0) (r := 0) rfl rfl rfl rfl) rfl rfl rfl ?_
    refine aq_p (ov_fieldAddr (k := 3) (r := 3) rfl rfl rfl rfl) rfl rfl rfl ?_
    refine aq_v (ov_loadS (cs := [_, _, _]) rfl rfl rfl rfl (fun _ s => s.lds (k := 1) rfl ⟨rfl, rfl, rfl, trivial⟩)) rfl rfl rfl ?_
    refine aq_t (ot_call (ks := [3]) rfl rfl rfl Try.call20 rfl (T20 _ _ _ _ _ _) rfl) rfl rfl rfl ?_
    rintro v1 _ ⟨m0, hp0, rfl⟩
    obtain ⟨rfl, rfl⟩ := hp0
    simp only [List.cons_append, List.nil_append]
    refine ⟨fun _ s => (s.pulls (ks := [2, 2]) rfl).left, ?_⟩
    refine aq_p (ov_fieldAddr (k := 1) (r := 1) rfl rfl rfl rfl) rfl rfl rfl ?_
    refine aq_t0 (ot_store (k := 1) rfl rfl rfl rfl rfl rfl rfl) rfl rfl ?_
    rintro _ _ ⟨rfl, rfl⟩
    simp only [setAt, splice, spliceL, Value.cells]
    refine ⟨fun _ s => (s.pulls (ks := [2, 2]) rfl).left, ?_⟩
    refine aq_nil ?_
    refine at_inb_normal ?_
    refine at_normal ?_
    refine hK2 _ _ ?_
    refine at_seq_k (fun K5 hK5 => ?_)
    refine at_region ?_
    refine at_v (ov_loadS (cs := [_, _]) rfl rfl rfl rfl (fun _ s => s.lds (k := 1) rfl ⟨rfl, rfl, trivial⟩)) rfl rfl rfl ?_
    refine at_t0 (ot_store (k := 2) rfl rfl rfl rfl rfl rfl rfl) rfl rfl ?_
    rintro _ _ ⟨rfl, rfl⟩
    simp only [setAt, splice, spliceL, Value.cells]
    refine at_nil ?_
    refine at_normal ?_
    refine hK5 _ _ ?_
    refine at_ret ?_
    refine at_end ?_
    refine at_fin (rsV rfl (res_cellS (k := 2) (vs := [_, _]) rfl rfl rfl rfl ⟨rfl, rfl, trivial⟩)) ?_
    refine ⟨[SessA g (doS s v0 x), ViewA gv (doV v0 x)], ⟨by simp [doB, doE, *], rfl⟩, ?_⟩
    simp only [show doV v0 x = _ from by simp [doV, *]; rfl, show doS s v0 x = _ from by simp [doS, *]; rfl]
    exact fun _ s => s.finEq (ks := [0, 3]) (js := [0, 0, 0]) rfl rfl rfl
  ·
    simp only [decide_eq_true_eq, decide_eq_false_iff_not, Bool.not_eq_true', Bool.not_eq_false', Int.not_lt, Int.not_le, Bool.and_eq_true, Bool.or_eq_true, Bool.and_eq_false_iff, Bool.or_eq_false_iff, gt_iff_lt, ge_iff_le] at h0
    refine at_seq_k (fun K5 hK5 => ?_)
    refine at_region ?_
    refine at_v (ov_int rfl rfl rfl rfl) rfl rfl rfl ?_
    refine at_v (ov_assign rfl rfl) rfl rfl rfl ?_
    refine at_nil ?_
    refine at_normal ?_
    refine hK5 _ _ ?_
    refine at_cond rfl (fun h1 => ?_) (fun h1 => ?_)
    ·
      simp only [decide_eq_true_eq, decide_eq_false_iff_not, Bool.not_eq_true', Bool.not_eq_false', Int.not_lt, Int.not_le, Bool.and_eq_true, Bool.or_eq_true, Bool.and_eq_false_iff, Bool.or_eq_false_iff, gt_iff_lt, ge_iff_le] at h1
      refine at_region ?_
      refine at_v (ov_move rfl rfl) rfl rfl rfl ?_
      refine at_v (ov_nilCheck rfl rfl) rfl rfl rfl ?_
      refine at_v (ov_fieldAddr (k := 0) (r := 0) rfl rfl rfl rfl) rfl rfl rfl ?_
      refine at_t (ot_call (ks := [3]) rfl rfl rfl Try.call25 rfl (T25 _ _ _) rfl) rfl rfl rfl ?_
      rintro v1 _ ⟨m0, hp0, rfl⟩
      obtain ⟨rfl, rfl⟩ := hp0
      simp only [List.cons_append, List.nil_append]
      refine at_v (ov_fieldAddr (k := 0) (r := 0) rfl rfl rfl rfl) rfl rfl rfl ?_
      refine at_t0 (ot_store (k := 1) rfl rfl rfl rfl rfl rfl rfl) rfl rfl ?_
      rintro _ _ ⟨rfl, rfl⟩
      simp only [setAt, splice, spliceL, Value.cells]
      refine at_nil ?_
      refine at_inb_normal ?_
      refine at_normal ?_
      refine hK2 _ _ ?_
      refine at_seq_k (fun K6 hK6 => ?_)
      refine at_region ?_
      refine at_v (ov_loadS (cs := [_, _]) rfl rfl rfl rfl (fun _ s => s.lds (k := 1) rfl ⟨rfl, rfl, trivial⟩)) rfl rfl rfl ?_
      refine at_t0 (ot_store (k := 2) rfl rfl rfl rfl rfl rfl rfl) rfl rfl ?_
      rintro _ _ ⟨rfl, rfl⟩
      simp only [setAt, splice, spliceL, Value.cells]
      refine at_nil ?_
      refine at_normal ?_
      refine hK6 _ _ ?_
      refine at_ret ?_
      refine at_end ?_
      refine at_fin (rsV rfl (res_cellS (k := 2) (vs := [_, _]) rfl rfl rfl rfl ⟨rfl, rfl, trivial⟩)) ?_
      refine ⟨[SessA g (doS s v0 x), ViewA gv (doV v0 x)], ⟨by simp [doB, doE, *], rfl⟩, ?_⟩
      simp only [show doV v0 x = _ from by simp [doV, *]; rfl, show doS s v0 x = _ from by simp [doS, *]; rfl]
      exact fun _ s => s.finEq (ks := [0, 3]) (js := [0, 0, 0]) rfl rfl rfl
    ·
      simp only [decide_eq_true_eq, decide_eq_false_iff_not, Bool.not_eq_true', Bool.not_eq_false', Int.not_lt, Int.not_le, Bool.and_eq_true, Bool.or_eq_true, Bool.and_eq_false_iff, Bool.or_eq_false_iff, gt_iff_lt, ge_iff_le] at h1
      refine at_seq_k (fun K6 hK6 => ?_)
      refine at_region ?_
      refine at_v (ov_int rfl rfl rfl rfl) rfl rfl rfl ?_
      refine at_v (ov_assign rfl rfl) rfl rfl rfl ?_
      refine at_nil ?_
      refine at_normal ?_
      refine hK6 _ _ ?_
      refine at_cond rfl (fun h2 => ?_) (fun h2 => ?_)
      ·
        simp only [decide_eq_true_eq, decide_eq_false_iff_not, Bool.not_eq_true', Bool.not_eq_false', Int.not_lt, Int.not_le, Bool.and_eq_true, Bool.or_eq_true, Bool.and_eq_false_iff, Bool.or_eq_false_iff, gt_iff_lt, ge_iff_le] at h2
        refine at_region ?_
        refine at_v (ov_move rfl rfl) rfl rfl rfl ?_
        refine at_v (ov_fieldAddr (k := 1) (r := 1) rfl rfl rfl rfl) rfl rfl rfl ?_
        refine at_v (ov_load rfl rfl rfl (fun _ s => s.ld (k := 2) rfl rfl)) rfl rfl rfl ?_
        refine at_v (ov_fieldAddr (k := 2) (r := 2) rfl rfl rfl rfl) rfl rfl rfl ?_
        refine at_v (ov_load rfl rfl rfl (fun _ s => s.ld (k := 2) rfl rfl)) rfl rfl rfl ?_
        refine at_t (ot_call (ks := [3]) rfl rfl rfl Try.call17 rfl (T17 _ _ _ _ _) rfl) rfl rfl rfl ?_
        rintro v1 _ ⟨m0, hp0, rfl⟩
        obtain ⟨rfl, rfl⟩ := hp0
        simp only [List.cons_append, List.nil_append]
        refine at_v (ov_fieldAddr (k := 0) (r := 0) rfl rfl rfl rfl) rfl rfl rfl ?_
        refine at_t0 (ot_store (k := 1) rfl rfl rfl rfl rfl rfl rfl) rfl rfl ?_
        rintro _ _ ⟨rfl, rfl⟩
        simp only [setAt, splice, spliceL, Value.cells]
        refine at_nil ?_
        refine at_inb_normal ?_
        refine at_normal ?_
        refine hK2 _ _ ?_
        refine at_seq_k (fun K7 hK7 => ?_)
        refine at_region ?_
        refine at_v (ov_loadS (cs := [_, _]) rfl rfl rfl rfl (fun _ s => s.lds (k := 1) rfl ⟨rfl, rfl, trivial⟩)) rfl rfl rfl ?_
        refine at_t0 (ot_store (k := 2) rfl rfl rfl rfl rfl rfl rfl) rfl rfl ?_
        rintro _ _ ⟨rfl, rfl⟩
        simp only [setAt, splice, spliceL, Value.cells]
        refine at_nil ?_
        refine at_normal ?_
        refine hK7 _ _ ?_
        refine at_ret ?_
        refine at_end ?_
        refine at_fin (rsV rfl (res_cellS (k := 2) (vs := [_, _]) rfl rfl rfl rfl ⟨rfl, rfl, trivial⟩)) ?_
        refine ⟨[SessA g (doS s v0 x), ViewA gv (doV v0 x)], ⟨by simp [doB, doE, *], rfl⟩, ?_⟩
        simp only [show doV v0 x = _ from by simp [doV, *]; rfl, show doS s v0 x = _ from by simp [doS, *]; rfl]
        exact fun _ s => s.finEq (ks := [0, 3]) (js := [0, 0, 0]) rfl rfl rfl
      ·
        simp only [decide_eq_true_eq, decide_eq_false_iff_not, Bool.not_eq_true', Bool.not_eq_false', Int.not_lt, Int.not_le, Bool.and_eq_true, Bool.or_eq_true, Bool.and_eq_false_iff, Bool.or_eq_false_iff, gt_iff_lt, ge_iff_le] at h2
        refine at_seq_k (fun K7 hK7 => ?_)
        refine at_region ?_
        refine at_v (ov_int rfl rfl rfl rfl) rfl rfl rfl ?_
        refine at_v (ov_assign rfl rfl) rfl rfl rfl ?_
        refine at_nil ?_
        refine at_normal ?_
        refine hK7 _ _ ?_
        refine at_cond rfl (fun h3 => ?_) (fun h3 => ?_)
        ·
          simp only [decide_eq_true_eq, decide_eq_false_iff_not, Bool.not_eq_true', Bool.not_eq_false', Int.not_lt, Int.not_le, Bool.and_eq_true, Bool.or_eq_true, Bool.and_eq_false_iff, Bool.or_eq_false_iff, gt_iff_lt, ge_iff_le] at h3
          refine at_region ?_
          refine at_v (ov_move rfl rfl) rfl rfl rfl ?_
          refine at_t (ot_call (ks := [3]) rfl rfl rfl Try.call26 rfl (T26 _ _ _) rfl) rfl rfl rfl ?_
          rintro v1 _ ⟨m0, hp0, rfl⟩
          obtain ⟨rfl, rfl⟩ := hp0
          simp only [List.cons_append, List.nil_append]
          refine at_v (ov_fieldAddr (k := 0) (r := 0) rfl rfl rfl rfl) rfl rfl rfl ?_
          refine at_t0 (ot_store (k := 1) rfl rfl rfl rfl rfl rfl rfl) rfl rfl ?_
          rintro _ _ ⟨rfl, rfl⟩
          simp only [setAt, splice, spliceL, Value.cells]
          refine at_nil ?_
          refine at_inb_normal ?_
          refine at_normal ?_
          refine hK2 _ _ ?_
          refine at_seq_k (fun K8 hK8 => ?_)
          refine at_region ?_
          refine at_v (ov_loadS (cs := [_, _]) rfl rfl rfl rfl (fun _ s => s.lds (k := 1) rfl ⟨rfl, rfl, trivial⟩)) rfl rfl rfl ?_
          refine at_t0 (ot_store (k := 2) rfl rfl rfl rfl rfl rfl rfl) rfl rfl ?_
          rintro _ _ ⟨rfl, rfl⟩
          simp only [setAt, splice, spliceL, Value.cells]
          refine at_nil ?_
          refine at_normal ?_
          refine hK8 _ _ ?_
          refine at_ret ?_
          refine at_end ?_
          refine at_fin (rsV rfl (res_cellS (k := 2) (vs := [_, _]) rfl rfl rfl rfl ⟨rfl, rfl, trivial⟩)) ?_
          refine ⟨[SessA g (doS s v0 x), ViewA gv (doV v0 x)], ⟨by simp [doB, doE, *], rfl⟩, ?_⟩
          simp only [show doV v0 x = _ from by simp [doV, *]; rfl, show doS s v0 x = _ from by simp [doS, *]; rfl]
          exact fun _ s => s.finEq (ks := [0, 3]) (js := [0, 0, 0]) rfl rfl rfl
        ·
          simp only [decide_eq_true_eq, decide_eq_false_iff_not, Bool.not_eq_true', Bool.not_eq_false', Int.not_lt, Int.not_le, Bool.and_eq_true, Bool.or_eq_true, Bool.and_eq_false_iff, Bool.or_eq_false_iff, gt_iff_lt, ge_iff_le] at h3
          refine at_seq_k (fun K8 hK8 => ?_)
          refine at_region ?_
          refine at_v (ov_int rfl rfl rfl rfl) rfl rfl rfl ?_
          refine at_v (ov_assign rfl rfl) rfl rfl rfl ?_
          refine at_nil ?_
          refine at_normal ?_
          refine hK8 _ _ ?_
          refine at_cond rfl (fun h4 => ?_) (fun h4 => ?_)
          ·
            simp only [decide_eq_true_eq, decide_eq_false_iff_not, Bool.not_eq_true', Bool.not_eq_false', Int.not_lt, Int.not_le, Bool.and_eq_true, Bool.or_eq_true, Bool.and_eq_false_iff, Bool.or_eq_false_iff, gt_iff_lt, ge_iff_le] at h4
            refine at_region ?_
            refine at_v (ov_move rfl rfl) rfl rfl rfl ?_
            refine at_t (ot_call (ks := [3]) rfl rfl rfl Try.call19 rfl (T19 _ _ _) rfl) rfl rfl rfl ?_
            rintro v1 _ ⟨m0, hp0, rfl⟩
            obtain ⟨rfl, rfl⟩ := hp0
            simp only [List.cons_append, List.nil_append]
            refine at_v (ov_fieldAddr (k := 0) (r := 0) rfl rfl rfl rfl) rfl rfl rfl ?_
            refine at_t0 (ot_store (k := 1) rfl rfl rfl rfl rfl rfl rfl) rfl rfl ?_
            rintro _ _ ⟨rfl, rfl⟩
            simp only [setAt, splice, spliceL, Value.cells]
            refine at_nil ?_
            refine at_inb_normal ?_
            refine at_normal ?_
            refine hK2 _ _ ?_
            refine at_seq_k (fun K9 hK9 => ?_)
            refine at_region ?_
            refine at_v (ov_loadS (cs := [_, _]) rfl rfl rfl rfl (fun _ s => s.lds (k := 1) rfl ⟨rfl, rfl, trivial⟩)) rfl rfl rfl ?_
            refine at_t0 (ot_store (k := 2) rfl rfl rfl rfl rfl rfl rfl) rfl rfl ?_
            rintro _ _ ⟨rfl, rfl⟩
            simp only [setAt, splice, spliceL, Value.cells]
            refine at_nil ?_
            refine at_normal ?_
            refine hK9 _ _ ?_
            refine at_ret ?_
            refine at_end ?_
            refine at_fin (rsV rfl (res_cellS (k := 2) (vs := [_, _]) rfl rfl rfl rfl ⟨rfl, rfl, trivial⟩)) ?_
            refine ⟨[SessA g (doS s v0 x), ViewA gv (doV v0 x)], ⟨by simp [doB, doE, *], rfl⟩, ?_⟩
            simp only [show doV v0 x = _ from by simp [doV, *]; rfl, show doS s v0 x = _ from by simp [doS, *]; rfl]
            exact fun _ s => s.finEq (ks := [0, 3]) (js := [0, 0, 0]) rfl rfl rfl
          ·
            simp only [decide_eq_true_eq, decide_eq_false_iff_not, Bool.not_eq_true', Bool.not_eq_false', Int.not_lt, Int.not_le, Bool.and_eq_true, Bool.or_eq_true, Bool.and_eq_false_iff, Bool.or_eq_false_iff, gt_iff_lt, ge_iff_le] at h4
            refine at_seq_k (fun K9 hK9 => ?_)
            refine at_region ?_
            refine at_v (ov_int rfl rfl rfl rfl) rfl rfl rfl ?_
            refine at_v (ov_assign rfl rfl) rfl rfl rfl ?_
            refine at_nil ?_
            refine at_normal ?_
            refine hK9 _ _ ?_
            refine at_cond rfl (fun h5 => ?_) (fun h5 => ?_)
            ·
              simp only [decide_eq_true_eq, decide_eq_false_iff_not, Bool.not_eq_true', Bool.not_eq_false', Int.not_lt, Int.not_le, Bool.and_eq_true, Bool.or_eq_true, Bool.and_eq_false_iff, Bool.or_eq_false_iff, gt_iff_lt, ge_iff_le] at h5
              refine at_region ?_
              refine at_v (ov_move rfl rfl) rfl rfl rfl ?_
              refine at_v (ov_fieldAddr (k := 6) (r := 6) rfl rfl rfl rfl) rfl rfl rfl ?_
              refine at_v (ov_loadS (cs := [_, _]) rfl rfl rfl rfl (fun _ s => s.lds (k := 2) rfl ⟨rfl, rfl, trivial⟩)) rfl rfl rfl ?_
              refine at_t (ot_call (ks := [3]) rfl rfl rfl Try.call21 rfl (T21 _ _ _ _ _) rfl) rfl rfl rfl ?_
              rintro v1 _ ⟨m0, hp0, rfl⟩
              obtain ⟨rfl, rfl⟩ := hp0
              simp only [List.cons_append, List.nil_append]
              refine at_v (ov_fieldAddr (k := 0) (r := 0) rfl rfl rfl rfl) rfl rfl rfl ?_
              refine at_t0 (ot_store (k := 1) rfl rfl rfl rfl rfl rfl rfl) rfl rfl ?_
              rintro _ _ ⟨rfl, rfl⟩
              simp only [setAt, splice, spliceL, Value.cells]
              refine at_nil ?_
              refine at_inb_normal ?_
              refine at_normal ?_
              refine hK2 _ _ ?_
              refine at_seq_k (fun K10 hK10 => ?_)
              refine at_region ?_
              refine at_v (ov_loadS (cs := [_, _]) rfl rfl rfl rfl (fun _ s => s.lds (k := 1) rfl ⟨rfl, rfl, trivial⟩)) rfl rfl rfl ?_
              refine at_t0 (ot_store (k := 2) rfl rfl rfl rfl rfl rfl rfl) rfl rfl ?_
              rintro _ _ ⟨rfl, rfl⟩
              simp only [setAt, splice, spliceL, Value.cells]
              refine at_nil ?_
              refine at_normal ?_
              refine hK10 _ _ ?_
              refine at_ret ?_
              refine at_end ?_
              refine at_fin (rsV rfl (res_cellS (k := 2) (vs := [_, _]) rfl rfl rfl rfl ⟨rfl, rfl, trivial⟩)) ?_
              refine ⟨[SessA g (doS s v0 x), ViewA gv (doV v0 x)], ⟨by simp [doB, doE, *], rfl⟩, ?_⟩
              simp only [show doV v0 x = _ from by simp [doV, *]; rfl, show doS s v0 x = _ from by simp [doS, *]; rfl]
              exact fun _ s => s.finEq (ks := [0, 3]) (js := [0, 0, 0]) rfl rfl rfl
            ·
              simp only [decide_eq_true_eq, decide_eq_false_iff_not, Bool.not_eq_true', Bool.not_eq_false', Int.not_lt, Int.not_le, Bool.and_eq_true, Bool.or_eq_true, Bool.and_eq_false_iff, Bool.or_eq_false_iff, gt_iff_lt, ge_iff_le] at h5
              refine at_seq_k (fun K10 hK10 => ?_)
              refine at_region ?_
              refine at_v (ov_int rfl rfl rfl rfl) rfl rfl rfl ?_
              refine at_v (ov_assign rfl rfl) rfl rfl rfl ?_
              refine at_nil ?_
              refine at_normal ?_
              refine hK10 _ _ ?_
              refine at_cond rfl (fun h6 => ?_) (fun h6 => ?_)
              ·
                simp only [decide_eq_true_eq, decide_eq_false_iff_not, Bool.not_eq_true', Bool.not_eq_false', Int.not_lt, Int.not_le, Bool.and_eq_true, Bool.or_eq_true, Bool.and_eq_false_iff, Bool.or_eq_false_iff, gt_iff_lt, ge_iff_le] at h6
                refine at_seq_k (fun K11 hK11 => ?_)
                refine at_region ?_
                refine at_v (ov_move rfl rfl) rfl rfl rfl ?_
                refine at_v (ov_fieldAddr (k := 8) (r := 8) rfl rfl rfl rfl) rfl rfl rfl ?_
                refine at_v (ov_load rfl rfl rfl (fun _ s => s.ld (k := 2) rfl rfl)) rfl rfl rfl ?_
                refine at_v (ov_fieldAddr (k := 1) (r := 1) rfl rfl rfl rfl) rfl rfl rfl ?_
                refine at_v (ov_load rfl rfl rfl (fun _ s => s.ld (k := 2) rfl rfl)) rfl rfl rfl ?_
                refine at_v (ov_fieldAddr (k := 9) (r := 9) rfl rfl rfl rfl) rfl rfl rfl ?_
                refine at_v (ov_load rfl rfl rfl (fun _ s => s.ld (k := 2) rfl rfl)) rfl rfl rfl ?_
                refine at_t (ot_call (ks := [4]) rfl rfl rfl Try.call22 rfl (T22 _ _ _ _ _ _ (by first | assumption | omega | decide | (simp; done) | (simp at *; omega))) rfl) rfl rfl rfl ?_
                rintro v1 _ ⟨m0, hp0, rfl⟩
                obtain ⟨rfl, rfl⟩ := hp0
                simp only [List.cons_append, List.nil_append]
                refine at_nil ?_
                refine at_normal ?_
                refine hK11 _ _ ?_
                refine at_region ?_
                refine at_v (ov_move rfl rfl) rfl rfl rfl ?_
                refine at_v (ov_move rfl rfl) rfl rfl rfl ?_
                refine at_t (ot_call (ks := [4, 0]) rfl rfl rfl Try.call23 rfl (T23 _ _ _ _ _ (by first | assumption | omega | decide | (simp; done) | (simp at *; omega))) rfl) rfl rfl rfl ?_
                rintro v1 _ ⟨m0, hp0, rfl⟩
                obtain ⟨rfl, rfl⟩ := hp0
                simp only [List.cons_append, List.nil_append]
                refine at_v (ov_fieldAddr (k := 0) (r := 0) rfl rfl rfl rfl) rfl rfl rfl ?_
                refine at_t0 (ot_store (k := 2) rfl rfl rfl rfl rfl rfl rfl) rfl rfl ?_
                rintro _ _ ⟨rfl, rfl⟩
                simp only [setAt, splice, spliceL, Value.cells]
                refine at_nil ?_
                refine at_inb_normal ?_
                refine at_normal ?_
                refine hK2 _ _ ?_
                refine at_seq_k (fun K12 hK12 => ?_)
                refine at_region ?_
                refine at_v (ov_loadS (cs := [_, _]) rfl rfl rfl rfl (fun _ s => s.lds (k := 2) rfl ⟨rfl, rfl, trivial⟩)) rfl rfl rfl ?_
                refine at_t0 (ot_store (k := 3) rfl rfl rfl rfl rfl rfl rfl) rfl rfl ?_
                rintro _ _ ⟨rfl, rfl⟩
                simp only [setAt, splice, spliceL, Value.cells]
                refine at_nil ?_
                refine at_normal ?_
                refine hK12 _ _ ?_
                refine at_ret ?_
                refine at_end ?_
                refine at_fin (rsV rfl (res_cellS (k := 3) (vs := [_, _]) rfl rfl rfl rfl ⟨rfl, rfl, trivial⟩)) ?_
                refine ⟨[SessA g (doS s v0 x), ViewA gv (doV v0 x)], ⟨by simp [doB, doE, *], rfl⟩, ?_⟩
                simp only [show doV v0 x = _ from by simp [doV, *]; rfl, show doS s v0 x = _ from by simp [doS, *]; rfl]
                exact fun _ s => s.finEq (ks := [0, 0]) (js := [0, 0, 0]) rfl rfl rfl
              ·
                simp only [decide_eq_true_eq, decide_eq_false_iff_not, Bool.not_eq_true', Bool.not_eq_false', Int.not_lt, Int.not_le, Bool.and_eq_true, Bool.or_eq_true, Bool.and_eq_false_iff, Bool.or_eq_false_iff, gt_iff_lt, ge_iff_le] at h6
                refine at_seq_k (fun K11 hK11 => ?_)
                refine at_region ?_
                refine at_v (ov_int rfl rfl rfl rfl) rfl rfl rfl ?_
                refine at_v (ov_assign rfl rfl) rfl rfl rfl ?_
                refine at_nil ?_
                refine at_normal ?_
                refine hK11 _ _ ?_
                refine at_cond rfl (fun h7 => ?_) (fun h7 => ?_)
                ·
                  simp only [decide_eq_true_eq, decide_eq_false_iff_not, Bool.not_eq_true', Bool.not_eq_false', Int.not_lt, Int.not_le, Bool.and_eq_true, Bool.or_eq_true, Bool.and_eq_false_iff, Bool.or_eq_false_iff, gt_iff_lt, ge_iff_le] at h7
                  refine at_region ?_
                  refine at_v (ov_move rfl rfl) rfl rfl rfl ?_
                  refine at_t (ot_call (ks := [3]) rfl rfl rfl Try.call24 rfl (T24 _ _ _) rfl) rfl rfl rfl ?_
                  rintro v1 _ ⟨m0, hp0, rfl⟩
                  obtain ⟨rfl, rfl⟩ := hp0
                  simp only [List.cons_append, List.nil_append]
                  refine at_v (ov_fieldAddr (k := 0) (r := 0) rfl rfl rfl rfl) rfl rfl rfl ?_
                  refine at_t0 (ot_store (k := 1) rfl rfl rfl rfl rfl rfl rfl) rfl rfl ?_
                  rintro _ _ ⟨rfl, rfl⟩
                  simp only [setAt, splice, spliceL, Value.cells]
                  refine at_nil ?_
                  refine at_inb_normal ?_
                  refine at_normal ?_
                  refine hK2 _ _ ?_
                  refine at_seq_k (fun K12 hK12 => ?_)
                  refine at_region ?_
                  refine at_v (ov_loadS (cs := [_, _]) rfl rfl rfl rfl (fun _ s => s.lds (k := 1) rfl ⟨rfl, rfl, trivial⟩)) rfl rfl rfl ?_
                  refine at_t0 (ot_store (k := 2) rfl rfl rfl rfl rfl rfl rfl) rfl rfl ?_
                  rintro _ _ ⟨rfl, rfl⟩
                  simp only [setAt, splice, spliceL, Value.cells]
                  refine at_nil ?_
                  refine at_normal ?_
                  refine hK12 _ _ ?_
                  refine at_ret ?_
                  refine at_end ?_
                  refine at_fin (rsV rfl (res_cellS (k := 2) (vs := [_, _]) rfl rfl rfl rfl ⟨rfl, rfl, trivial⟩)) ?_
                  refine ⟨[SessA g (doS s v0 x), ViewA gv (doV v0 x)], ⟨by simp [doB, doE, *], rfl⟩, ?_⟩
                  simp only [show doV v0 x = _ from by simp [doV, *]; rfl, show doS s v0 x = _ from by simp [doS, *]; rfl]
                  exact fun _ s => s.finEq (ks := [0, 3]) (js := [0, 0, 0]) rfl rfl rfl
                ·
                  simp only [decide_eq_true_eq, decide_eq_false_iff_not, Bool.not_eq_true', Bool.not_eq_false', Int.not_lt, Int.not_le, Bool.and_eq_true, Bool.or_eq_true, Bool.and_eq_false_iff, Bool.or_eq_false_iff, gt_iff_lt, ge_iff_le] at h7
                  refine at_seq_k (fun K12 hK12 => ?_)
                  refine at_region ?_
                  refine at_v (ov_int rfl rfl rfl rfl) rfl rfl rfl ?_
                  refine at_v (ov_assign rfl rfl) rfl rfl rfl ?_
                  refine at_nil ?_
                  refine at_normal ?_
                  refine hK12 _ _ ?_
                  refine at_cond rfl (fun h8 => ?_) (fun h8 => ?_)
                  ·
                    simp only [decide_eq_true_eq, decide_eq_false_iff_not, Bool.not_eq_true', Bool.not_eq_false', Int.not_lt, Int.not_le, Bool.and_eq_true, Bool.or_eq_true, Bool.and_eq_false_iff, Bool.or_eq_false_iff, gt_iff_lt, ge_iff_le] at h8
                    refine at_region ?_
                    refine at_v (ov_move rfl rfl) rfl rfl rfl ?_
                    refine at_v (ov_fieldAddr (k := 3) (r := 3) rfl rfl rfl rfl) rfl rfl rfl ?_
                    refine at_v (ov_loadS (cs := [_, _, _]) rfl rfl rfl rfl (fun _ s => s.lds (k := 2) rfl ⟨rfl, rfl, rfl, trivial⟩)) rfl rfl rfl ?_
                    refine at_t (ot_call (ks := [3]) rfl rfl rfl Try.call18 rfl (T18 _ _ _ _ _ _) rfl) rfl rfl rfl ?_
                    rintro v1 _ ⟨m0, hp0, rfl⟩
                    obtain ⟨rfl, rfl⟩ := hp0
                    simp only [List.cons_append, List.nil_append]
                    refine at_v (ov_fieldAddr (k := 1) (r := 1) rfl rfl rfl rfl) rfl rfl rfl ?_
                    refine at_t0 (ot_store (k := 1) rfl rfl rfl rfl rfl rfl rfl) rfl rfl ?_
                    rintro _ _ ⟨rfl, rfl⟩
                    simp only [setAt, splice, spliceL, Value.cells]
                    refine at_nil ?_
                    refine at_inb_normal ?_
                    refine at_normal ?_
                    refine hK2 _ _ ?_
                    refine at_seq_k (fun K13 hK13 => ?_)
                    refine at_region ?_
                    refine at_v (ov_loadS (cs := [_, _]) rfl rfl rfl rfl (fun _ s => s.lds (k := 1) rfl ⟨rfl, rfl, trivial⟩)) rfl rfl rfl ?_
                    refine at_t0 (ot_store (k := 2) rfl rfl rfl rfl rfl rfl rfl) rfl rfl ?_
                    rintro _ _ ⟨rfl, rfl⟩
                    simp only [setAt, splice, spliceL, Value.cells]
                    refine at_nil ?_
                    refine at_normal ?_
                    refine hK13 _ _ ?_
                    refine at_ret ?_
                    refine at_end ?_
                    refine at_fin (rsV rfl (res_cellS (k := 2) (vs := [_, _]) rfl rfl rfl rfl ⟨rfl, rfl, trivial⟩)) ?_
                    refine ⟨[SessA g (doS s v0 x), ViewA gv (doV v0 x)], ⟨by simp [doB, doE, *], rfl⟩, ?_⟩
                    simp only [show doV v0 x = _ from by simp [doV, *]; rfl, show doS s v0 x = _ from by simp [doS, *]; rfl]
                    exact fun _ s => s.finEq (ks := [0, 3]) (js := [0, 0, 0]) rfl rfl rfl
                  ·
                    simp only [decide_eq_true_eq, decide_eq_false_iff_not, Bool.not_eq_true', Bool.not_eq_false', Int.not_lt, Int.not_le, Bool.and_eq_true, Bool.or_eq_true, Bool.and_eq_false_iff, Bool.or_eq_false_iff, gt_iff_lt, ge_iff_le] at h8
                    refine at_skip ?_
                    refine at_inb_normal ?_
                    refine at_normal ?_
                    refine hK2 _ _ ?_
                    refine at_seq_k (fun K13 hK13 => ?_)
                    refine at_region ?_
                    refine at_v (ov_loadS (cs := [_, _]) rfl rfl rfl rfl (fun _ s => s.lds (k := 0) rfl ⟨rfl, rfl, trivial⟩)) rfl rfl rfl ?_
                    refine at_t0 (ot_store (k := 1) rfl rfl rfl rfl rfl rfl rfl) rfl rfl ?_
                    rintro _ _ ⟨rfl, rfl⟩
                    simp only [setAt, splice, spliceL, Value.cells]
                    refine at_nil ?_
                    refine at_normal ?_
                    refine hK13 _ _ ?_
                    refine at_ret ?_
                    refine at_end ?_
                    refine at_fin (rsV rfl (res_cellS (k := 1) (vs := [_, _]) rfl rfl rfl rfl ⟨rfl, rfl, trivial⟩)) ?_
                    refine ⟨[SessA g (doS s v0 x), ViewA gv (doV v0 x)], ⟨by simp [doB, doE, *], rfl⟩, ?_⟩
                    simp only [show doV v0 x = _ from by simp [doV, *]; rfl, show doS s v0 x = _ from by simp [doS, *]; rfl]
                    exact fun _ s => s.finEq (ks := [3, 3]) (js := [0, 0, 0]) rfl rfl rfl
theorem T6 (w0 : World) : Tri Try.prog w0 6 [] [] fun v m => v = .bool true ∧ m = [] := by
  refine tri_of Try.func6 rfl rfl fun F => ?_
  simp only [Try.ntmps6, argEnv, List.nil_append]
  refine at_seq_k (fun K0 hK0 => ?_)
  refine at_region ?_
  refine at_v (ov_assign rfl rfl) rfl rfl rfl ?_
  refine at_nil ?_
  refine at_normal ?_
  refine hK0 _ _ ?_
  refine at_seq_k (fun K1 hK1 => ?_)
  refine at_region ?_
  refine at_t (ot_call (ks := []) rfl rfl rfl Try.call8 rfl (T8 _) rfl) rfl rfl rfl ?_
  rintro v0 _ ⟨m0, hp0, rfl⟩
  obtain ⟨g0, hp0⟩ := hp0
  obtain ⟨rfl, rfl⟩ := hp0
  simp only [List.cons_append, List.nil_append]
  refine at_v (ov_assign rfl rfl) rfl rfl rfl ?_
  refine at_nil ?_
  refine at_normal ?_
  refine hK1 _ _ ?_
  refine at_seq_k (fun K2 hK2 => ?_)
  refine at_seq_k (fun K3 hK3 => ?_)
  refine at_region ?_
  refine at_v (ov_move rfl rfl) rfl rfl rfl ?_
  refine at_v (ov_ptr_nil (q := none) rfl Try.underlying25 rfl rfl) rfl rfl rfl ?_
  refine at_nil ?_
  refine at_normal ?_
  refine hK3 _ _ ?_
  refine at_cond_false rfl ?_
  refine at_skip ?_
  refine at_normal ?_
  refine hK2 _ _ ?_
  refine at_seq_k (fun K4 hK4 => ?_)
  refine at_region ?_
  refine at_v (ov_build (cs := [_, _, _]) rfl rfl rfl rfl) rfl rfl rfl ?_
  refine at_t (ot_allocA rfl Try.zeroValue32) rfl rfl rfl ?_
  rintro _ _ ⟨g1, rfl, rfl⟩
  refine at_t0 (ot_store (k := 0) rfl rfl rfl rfl rfl rfl rfl) rfl rfl ?_
  rintro _ _ ⟨rfl, rfl⟩
  simp only [setAt, splice, spliceL, Value.cells]
  refine at_nil ?_
  refine at_normal ?_
  refine hK4 _ _ ?_
  refine at_seq_k (fun K5 hK5 => ?_)
  refine at_region ?_
  refine at_v (ov_move rfl rfl) rfl rfl rfl ?_
  refine at_t (ot_call (ks := [1]) rfl rfl rfl Try.call17 rfl (T17 _ _ _ _ _) rfl) rfl rfl rfl ?_
  rintro v0 _ ⟨m0, hp0, rfl⟩
  obtain ⟨rfl, rfl⟩ := hp0
  simp only [List.cons_append, List.nil_append]
  refine at_v (ov_move rfl rfl) rfl rfl rfl ?_
  refine at_t (ot_call (ks := [0]) rfl rfl rfl Try.call17 rfl (T17 _ _ _ _ _) rfl) rfl rfl rfl ?_
  rintro v0 _ ⟨m0, hp0, rfl⟩
  obtain ⟨rfl, rfl⟩ := hp0
  simp only [List.cons_append, List.nil_append]
  refine at_v (ov_assign rfl rfl) rfl rfl rfl ?_
  refine at_v (ov_assign rfl rfl) rfl rfl rfl ?_
  refine at_nil ?_
  refine at_normal ?_
  refine hK5 _ _ ?_
  refine at_seq_k (fun K6 hK6 => ?_)
  refine at_region ?_
  refine at_v (ov_move rfl rfl) rfl rfl rfl ?_
  refine at_t (ot_call (ks := [0]) rfl rfl rfl Try.call13 rfl (T13 _ _ _) rfl) rfl rfl rfl ?_
  rintro v0 _ ⟨m0, hp0, rfl⟩
  obtain ⟨rfl, rfl⟩ := hp0
  simp only [List.cons_append, List.nil_append]
  refine at_v (ov_move rfl rfl) rfl rfl rfl ?_
  refine at_v (ov_extract rfl rfl rfl) rfl rfl rfl ?_
  refine at_v (ov_extract rfl rfl rfl) rfl rfl rfl ?_
  refine at_v (ov_extract rfl rfl rfl) rfl rfl rfl ?_
  refine at_v (ov_assign rfl rfl) rfl rfl rfl ?_
  refine at_v (ov_assign rfl rfl) rfl rfl rfl ?_
  refine at_v (ov_assign rfl rfl) rfl rfl rfl ?_
  refine at_nil ?_
  refine at_normal ?_
  refine hK6 _ _ ?_
  refine at_seq_k (fun K7 hK7 => ?_)
  refine at_region ?_
  refine at_v (ov_move rfl rfl) rfl rfl rfl ?_
  refine at_v (ov_loadS (cs := [_, _, _]) rfl rfl rfl rfl (fun _ s => s.lds (k := 1) rfl ⟨rfl, rfl, rfl, trivial⟩)) rfl rfl rfl ?_
  refine at_t (ot_call (ks := [0]) rfl rfl rfl Try.call18 rfl (T18 _ _ _ _ _ _) rfl) rfl rfl rfl ?_
  rintro v0 _ ⟨m0, hp0, rfl⟩
  obtain ⟨rfl, rfl⟩ := hp0
  simp only [List.cons_append, List.nil_append]
  refine at_v (ov_assign rfl rfl) rfl rfl rfl ?_
  refine at_nil ?_
  refine at_normal ?_
  refine hK7 _ _ ?_
  refine at_seq_k (fun K8 hK8 => ?_)
  refine at_region ?_
  refine at_v (ov_move rfl rfl) rfl rfl rfl ?_
  refine at_t (ot_call (ks := [0]) rfl rfl rfl Try.call19 rfl (T19 _ _ _) rfl) rfl rfl rfl ?_
  rintro v0 _ ⟨m0, hp0, rfl⟩
  obtain ⟨rfl, rfl⟩ := hp0
  simp only [List.cons_append, List.nil_append]
  refine at_nil ?_
  refine at_normal ?_
  refine hK8 _ _ ?_
  refine at_seq_k (fun K9 hK9 => ?_)
  refine at_draw _ [] 1000 [(2, 0), (1, 1), (2, 3), (1, 4), (0, 2), (0, 5), (2, 6), (2, 7)] (by kernel_rfl) (by kernel_rfl) (fun _ s => (s.pulls (ks := [1]) rfl).left) ?_
  refine aq_p (ov_move rfl rfl) rfl rfl rfl ?_
  refine aq_v (ov_loadS (cs := [_, _, _]) rfl rfl rfl rfl (fun _ s => s.lds (k := 0) rfl ⟨rfl, rfl, rfl, trivial⟩)) rfl rfl rfl ?_
  refine aq_p (ov_move rfl rfl) rfl rfl rfl ?_
  refine aq_v (ov_loadS (cs := [_, _, _]) rfl rfl rfl rfl (fun _ s => s.lds (k := 0) rfl ⟨rfl, rfl, rfl, trivial⟩)) rfl rfl rfl ?_
  refine aq_t (ot_call (ks := [0]) rfl rfl rfl Try.call18 rfl (T18 _ _ _ _ _ _) rfl) rfl rfl rfl ?_
  rintro v0 _ ⟨m0, hp0, rfl⟩
  obtain ⟨rfl, rfl⟩ := hp0
  simp only [List.cons_append, List.nil_append]
  refine ⟨fun _ s => (s.pulls (ks := [1]) rfl).left, ?_⟩
  refine aq_t (ot_call (ks := [0]) rfl rfl rfl Try.call18 rfl (T18 _ _ _ _ _ _) rfl) rfl rfl rfl ?_
  rintro v0 _ ⟨m0, hp0, rfl⟩
  obtain ⟨rfl, rfl⟩ := hp0
  simp only [List.cons_append, List.nil_append]
  refine ⟨fun _ s => (s.pulls (ks := [1]) rfl).left, ?_⟩
  refine aq_p (ov_assign rfl rfl) rfl rfl rfl ?_
  refine aq_p (ov_assign rfl rfl) rfl rfl rfl ?_
  refine aq_nil ?_
  refine at_normal ?_
  refine hK9 _ _ ?_
  refine at_seq_k (fun K10 hK10 => ?_)
  refine at_draw _ [] 1000 [(2, 0), (2, 1), (2, 2), (1, 3), (0, 4)] (by kernel_rfl) (by kernel_rfl) (fun _ s => (s.pulls (ks := [1]) rfl).left) ?_
  refine aq_p (ov_move rfl rfl) rfl rfl rfl ?_
  refine aq_p (ov_nilCheck rfl rfl) rfl rfl rfl ?_
  refine aq_p (ov_fieldAddr (k := 0) (r := 0) rfl rfl rfl rfl) rfl rfl rfl ?_
  refine aq_v (ov_loadS (cs := [_, _, _]) rfl rfl rfl rfl (fun _ s => s.lds (k := 0) rfl ⟨rfl, rfl, rfl, trivial⟩)) rfl rfl rfl ?_
  refine aq_t (ot_call (ks := [0]) rfl rfl rfl Try.call20 rfl (T20 _ _ _ _ _ _) rfl) rfl rfl rfl ?_
  rintro v0 _ ⟨m0, hp0, rfl⟩
  obtain ⟨rfl, rfl⟩ := hp0
  simp only [List.cons_append, List.nil_append]
  refine ⟨fun _ s => (s.pulls (ks := [1]) rfl).left, ?_⟩
  refine aq_nil ?_
  refine at_normal ?_
  refine hK10 _ _ ?_
  refine at_seq_k (fun K11 hK11 => ?_)
  refine at_region ?_
  refine at_v (ov_move rfl rfl) rfl rfl rfl ?_
  refine at_v (ov_nilCheck rfl rfl) rfl rfl rfl ?_
  refine at_v (ov_fieldAddr (k := 0) (r := 0) rfl rfl rfl rfl) rfl rfl rfl ?_
  refine at_t (ot_call (ks := [0]) rfl rfl rfl Try.call11 rfl (T11 _ _ _) rfl) rfl rfl rfl ?_
  rintro v0 _ ⟨m0, hp0, rfl⟩
  obtain ⟨rfl, rfl⟩ := hp0
  simp only [List.cons_append, List.nil_append]
  refine at_v (ov_move rfl rfl) rfl rfl rfl ?_
  refine at_v (ov_extract rfl rfl rfl) rfl rfl rfl ?_
  refine at_v (ov_extract rfl rfl rfl) rfl rfl rfl ?_
  refine at_t (ot_allocA rfl Try.zeroValue32) rfl rfl rfl ?_
  rintro _ _ ⟨g2, rfl, rfl⟩
  refine at_t0 (ot_store (k := 0) rfl rfl rfl rfl rfl rfl rfl) rfl rfl ?_
  rintro _ _ ⟨rfl, rfl⟩
  simp only [setAt, splice, spliceL, Value.cells]
  refine at_v (ov_assign rfl rfl) rfl rfl rfl ?_
  refine at_nil ?_
  refine at_normal ?_
  refine hK11 _ _ ?_
  refine at_seq_k (fun K12 hK12 => ?_)
  refine at_region ?_
  refine at_v (ov_move rfl rfl) rfl rfl rfl ?_
  refine at_v (ov_build (cs := [_, _]) rfl rfl rfl rfl) rfl rfl rfl ?_
  refine at_t (ot_call (ks := [1]) rfl rfl rfl Try.call21 rfl (T21 _ _ _ _ _) rfl) rfl rfl rfl ?_
  rintro v0 _ ⟨m0, hp0, rfl⟩
  obtain ⟨rfl, rfl⟩ := hp0
  simp only [List.cons_append, List.nil_append]
  refine at_nil ?_
  refine at_normal ?_
  refine hK12 _ _ ?_
  refine at_seq_k (fun K13 hK13 => ?_)
  refine at_region ?_
  refine at_t (ot_call (ks := []) rfl rfl rfl Try.call9 rfl (T9 _ _) rfl) rfl rfl rfl ?_
  rintro v0 _ ⟨m0, hp0, rfl⟩
  obtain ⟨g3, hp0⟩ := hp0
  obtain ⟨rfl, rfl⟩ := hp0
  simp only [List.cons_append, List.nil_append]
  refine at_v (ov_assign rfl rfl) rfl rfl rfl ?_
  refine at_nil ?_
  refine at_normal ?_
  refine hK13 _ _ ?_
  refine at_seq_k (fun K14 hK14 => ?_)
  refine at_region ?_
  refine at_v (ov_move rfl rfl) rfl rfl rfl ?_
  refine at_t (ot_call (ks := [0]) rfl rfl rfl Try.call22 rfl (T22 _ _ _ _ _ _ (by first | assumption | omega | decide | (simp; done) | (simp at *; omega))) rfl) rfl rfl rfl ?_
  rintro v0 _ ⟨m0, hp0, rfl⟩
  obtain ⟨rfl, rfl⟩ := hp0
  simp only [List.cons_append, List.nil_append]
  refine at_nil ?_
  refine at_normal ?_
  refine hK14 _ _ ?_
  refine at_seq_k (fun K15 hK15 => ?_)
  refine at_region ?_
  refine at_v (ov_move rfl rfl) rfl rfl rfl ?_
  refine at_v (ov_move rfl rfl) rfl rfl rfl ?_
  refine at_t (ot_call (ks := [1, 0]) rfl rfl rfl Try.call23 rfl (T23 _ _ _ _ _ (by first | assumption | omega | decide | (simp; done) | (simp at *; omega))) rfl) rfl rfl rfl ?_
  rintro v0 _ ⟨m0, hp0, rfl⟩
  obtain ⟨rfl, rfl⟩ := hp0
  simp only [List.cons_append, List.nil_append]
  refine at_v (ov_assign rfl rfl) rfl rfl rfl ?_
  refine at_nil ?_
  refine at_normal ?_
  refine hK15 _ _ ?_
  refine at_seq_k (fun K16 hK16 => ?_)
  refine at_region ?_
  refine at_v (ov_move rfl rfl) rfl rfl rfl ?_
  refine at_v (ov_move rfl rfl) rfl rfl rfl ?_
  refine at_wanted (j := 1) rfl ?_
  refine at_v (ov_move rfl rfl) rfl rfl rfl ?_
  refine at_wanted (j := 1) rfl ?_
  refine at_v (ov_not rfl rfl) rfl rfl rfl ?_
  refine at_v (ov_pick_t rfl rfl rfl) rfl rfl rfl ?_
  refine at_v (ov_move rfl rfl) rfl rfl rfl ?_
  refine at_wanted (j := 5) rfl ?_
  refine at_v (ov_move rfl rfl) rfl rfl rfl ?_
  refine at_wanted (j := 5) rfl ?_
  refine at_v (ov_int rfl rfl rfl rfl) rfl rfl rfl ?_
  refine at_v (ov_pick_t rfl rfl rfl) rfl rfl rfl ?_
  refine at_v (ov_move rfl rfl) rfl rfl rfl ?_
  refine at_wanted (j := 9) rfl ?_
  refine at_v (ov_move rfl rfl) rfl rfl rfl ?_
  refine at_wanted (j := 9) rfl ?_
  refine at_v (ov_int rfl rfl rfl rfl) rfl rfl rfl ?_
  refine at_v (ov_pick_t rfl rfl rfl) rfl rfl rfl ?_
  refine at_v (ov_move rfl rfl) rfl rfl rfl ?_
  refine at_wanted (j := 13) rfl ?_
  refine at_v (ov_move rfl rfl) rfl rfl rfl ?_
  refine at_v (ov_pick_t rfl rfl rfl) rfl rfl rfl ?_
  refine at_v (ov_move rfl rfl) rfl rfl rfl ?_
  refine at_wanted (j := 16) rfl ?_
  refine at_v (ov_move rfl rfl) rfl rfl rfl ?_
  refine at_wanted (j := 16) rfl ?_
  refine at_v (ov_int rfl rfl rfl rfl) rfl rfl rfl ?_
  refine at_v (ov_pick_t rfl rfl rfl) rfl rfl rfl ?_
  refine at_v (ov_move rfl rfl) rfl rfl rfl ?_
  refine at_wanted (j := 20) rfl ?_
  refine at_v (ov_move rfl rfl) rfl rfl rfl ?_
  refine at_wanted (j := 20) rfl ?_
  refine at_v (ov_int rfl rfl rfl rfl) rfl rfl rfl ?_
  refine at_v (ov_pick_t rfl rfl rfl) rfl rfl rfl ?_
  refine at_v (ov_move rfl rfl) rfl rfl rfl ?_
  refine at_wanted (j := 24) rfl ?_
  refine at_v (ov_move rfl rfl) rfl rfl rfl ?_
  refine at_wanted (j := 24) rfl ?_
  refine at_v (ov_int rfl rfl rfl rfl) rfl rfl rfl ?_
  refine at_v (ov_pick_t rfl rfl rfl) rfl rfl rfl ?_
  refine at_v (ov_move rfl rfl) rfl rfl rfl ?_
  refine at_wanted (j := 28) rfl ?_
  refine at_v (ov_loadS (cs := [_, _, _]) rfl rfl rfl rfl (fun _ s => s.lds (k := 2) rfl ⟨rfl, rfl, rfl, trivial⟩)) rfl rfl rfl ?_
  refine at_wanted (j := 28) rfl ?_
  refine at_v (ov_loadS (cs := [_, _, _]) rfl rfl rfl rfl (fun _ s => s.lds (k := 3) rfl ⟨rfl, rfl, rfl, trivial⟩)) rfl rfl rfl ?_
  refine at_wanted (j := 28) rfl ?_
  refine at_v (ov_eqS rfl (by kernel_rfl) rfl rfl rfl rfl) rfl rfl rfl ?_
  refine at_v (ov_pick_t rfl rfl rfl) rfl rfl rfl ?_
  refine at_v (ov_move rfl rfl) rfl rfl rfl ?_
  refine at_wanted (j := 33) rfl ?_
  refine at_v (ov_move rfl rfl) rfl rfl rfl ?_
  refine at_v (ov_pick_t rfl rfl rfl) rfl rfl rfl ?_
  refine at_v (ov_move rfl rfl) rfl rfl rfl ?_
  refine at_wanted (j := 36) rfl ?_
  refine at_v (ov_move rfl rfl) rfl rfl rfl ?_
  refine at_wanted (j := 36) rfl ?_
  refine at_v (ov_nilCheck rfl rfl) rfl rfl rfl ?_
  refine at_wanted (j := 36) rfl ?_
  refine at_v (ov_fieldAddr (k := 0) (r := 0) rfl rfl rfl rfl) rfl rfl rfl ?_
  refine at_wanted (j := 36) rfl ?_
  refine at_t (ot_call (ks := [0]) rfl rfl rfl Try.call12 rfl (T12 _ _ _) rfl) rfl rfl rfl ?_
  rintro v0 _ ⟨m0, hp0, rfl⟩
  obtain ⟨rfl, rfl⟩ := hp0
  simp only [List.cons_append, List.nil_append]
  refine at_wanted (j := 36) rfl ?_
  refine at_v (ov_int rfl rfl rfl rfl) rfl rfl rfl ?_
  refine at_v (ov_pick_t rfl rfl rfl) rfl rfl rfl ?_
  refine at_v (ov_move rfl rfl) rfl rfl rfl ?_
  refine at_wanted (j := 43) rfl ?_
  refine at_v (ov_move rfl rfl) rfl rfl rfl ?_
  refine at_v (ov_pick_t rfl rfl rfl) rfl rfl rfl ?_
  refine at_v (ov_move rfl rfl) rfl rfl rfl ?_
  refine at_wanted (j := 46) rfl ?_
  refine at_v (ov_move rfl rfl) rfl rfl rfl ?_
  refine at_wanted (j := 46) rfl ?_
  refine at_t (ot_call (ks := [0]) rfl rfl rfl Try.call15 rfl (T15 _ _ _) rfl) rfl rfl rfl ?_
  rintro v0 _ ⟨m0, hp0, rfl⟩
  obtain ⟨rfl, rfl⟩ := hp0
  simp only [List.cons_append, List.nil_append]
  refine at_wanted (j := 46) rfl ?_
  refine at_v (ov_build (cs := [_, _]) rfl rfl rfl rfl) rfl rfl rfl ?_
  refine at_wanted (j := 46) rfl ?_
  refine at_v (ov_eqS rfl (by kernel_rfl) rfl rfl rfl rfl) rfl rfl rfl ?_
  refine at_v (ov_pick_t rfl rfl rfl) rfl rfl rfl ?_
  refine at_v (ov_move rfl rfl) rfl rfl rfl ?_
  refine at_wanted (j := 52) rfl ?_
  refine at_v (ov_move rfl rfl) rfl rfl rfl ?_
  refine at_wanted (j := 52) rfl ?_
  refine at_v (ov_build (cs := [_, _, _]) rfl rfl rfl rfl) rfl rfl rfl ?_
  refine at_wanted (j := 52) rfl ?_
  refine at_t (ot_call (ks := [0]) rfl rfl rfl Try.call18 rfl (T18 _ _ _ _ _ _) rfl) rfl rfl rfl ?_
  rintro v0 _ ⟨m0, hp0, rfl⟩
  obtain ⟨rfl, rfl⟩ := hp0
  simp only [List.cons_append, List.nil_append]
  refine at_wanted (j := 52) rfl ?_
  refine at_v (ov_int rfl rfl rfl rfl) rfl rfl rfl ?_
  refine at_v (ov_pick_t rfl rfl rfl) rfl rfl rfl ?_
  refine at_v (ov_move rfl rfl) rfl rfl rfl ?_
  refine at_wanted (j := 58) rfl ?_
  refine at_v (ov_move rfl rfl) rfl rfl rfl ?_
  refine at_wanted (j := 58) rfl ?_
  refine at_t (ot_call (ks := [0]) rfl rfl rfl Try.call24 rfl (T24 _ _ _) rfl) rfl rfl rfl ?_
  rintro v0 _ ⟨m0, hp0, rfl⟩
  obtain ⟨rfl, rfl⟩ := hp0
  simp only [List.cons_append, List.nil_append]
  refine at_v (ov_pick_t rfl rfl rfl) rfl rfl rfl ?_
  refine at_v (ov_move rfl rfl) rfl rfl rfl ?_
  refine at_wanted (j := 62) rfl ?_
  refine at_v (ov_move rfl rfl) rfl rfl rfl ?_
  refine at_wanted (j := 62) rfl ?_
  refine at_t (ot_call (ks := [0]) rfl rfl rfl Try.call24 rfl (T24 _ _ _) rfl) rfl rfl rfl ?_
  rintro v0 _ ⟨m0, hp0, rfl⟩
  obtain ⟨rfl, rfl⟩ := hp0
  simp only [List.cons_append, List.nil_append]
  refine at_wanted (j := 62) rfl ?_
  refine at_v (ov_not rfl rfl) rfl rfl rfl ?_
  refine at_v (ov_pick_t rfl rfl rfl) rfl rfl rfl ?_
  refine at_v (ov_assign rfl rfl) rfl rfl rfl ?_
  refine at_nil ?_
  refine at_normal ?_
  refine hK16 _ _ ?_
  refine at_ret ?_
  refine at_end ?_
  refine at_fin (rsV rfl (res_tmp rfl)) ?_
  refine ⟨_, ⟨congrArg Value.bool (by decide), rfl⟩, ?_⟩
  exact fun _ s => s.finEq (ks := []) (js := [0, 0, 0, 0]) rfl rfl rfl
theorem T7 (w0 : World) (A : Option Addr) (c : Nat) (l : List AM) (hr : Rd actE w0 10 A l) (hm : l.length ≤ 9223372036854775807) : Tri Try.prog w0 7 [.slice A l.length c] [] fun v m => ∃ b : Bool, (b = false → l.length ≤ 100) ∧ v = .bool b ∧ m = [] := by
  refine tri_of Try.func7 rfl rfl fun F => ?_
  simp only [Try.ntmps7, argEnv, List.cons_append, List.nil_append]
  refine at_seq_k (fun K0 hK0 => ?_)
  refine at_region ?_
  refine at_v (ov_assign rfl rfl) rfl rfl rfl ?_
  refine at_nil ?_
  refine at_normal ?_
  refine hK0 _ _ ?_
  refine at_seq_k (fun K1 hK1 => ?_)
  refine at_seq_k (fun K2 hK2 => ?_)
  refine at_region ?_
  refine at_v (ov_move rfl rfl) rfl rfl rfl ?_
  refine at_v (ov_len_slice rfl Try.underlying22 rfl) rfl rfl rfl ?_
  refine at_v (ov_int rfl rfl rfl rfl) rfl rfl rfl ?_
  refine at_nil ?_
  refine at_normal ?_
  refine hK2 _ _ ?_
  refine at_cond rfl (fun h => ?_) (fun h => ?_)
  · refine at_seq_k (fun K3 hK3 => ?_)
    refine at_region ?_
    refine at_v (ov_assign rfl rfl) rfl rfl rfl ?_
    refine at_nil ?_
    refine at_normal ?_
    refine hK3 _ _ ?_
    refine at_ret ?_
    refine at_then_ret ?_
    refine at_end ?_
    refine at_fin (rsV rfl (res_tmp rfl)) ?_
    refine ⟨_, ⟨true, fun e => (by cases e), rfl, rfl⟩, ?_⟩
    exact fun _ s => s.finEq (ks := []) (js := []) rfl rfl rfl
  · have hl : l.length ≤ 100 := by
      have : ¬ ((l.length : Int) > 100) := by simpa using h
      omega
    refine at_skip ?_
    refine at_normal ?_
    refine hK1 _ _ ?_
    refine at_seq_k (fun K3 hK3 => ?_)
    refine at_seq_k (fun K4 hK4 => ?_)
    refine at_region ?_
    refine at_v (ov_move rfl rfl) rfl rfl rfl ?_
    refine at_v (ov_len_slice rfl Try.underlying22 rfl) rfl rfl rfl ?_
    refine at_v (ov_move rfl rfl) rfl rfl rfl ?_
    refine at_nil ?_
    refine at_normal ?_
    refine hK4 _ _ ?_
    refine at_block ?_
    refine at_loopE [11, 12, 13, 4, 14, 15, 16, 17, 18, 2, 19, 10] (fun k => k ≤ l.length) (fun k => [(10, .int .i64 (k : Nat))]) (fun _ l => l) (fun k => l.length - k) 0 (Nat.zero_le _) ⟨rfl, trivial⟩ (fun _ s => s) ?_
    intro k hk
    refine at_seq_k (fun K5 hK5 => ?_)
    refine at_region ?_
    refine at_v (ov_int rfl rfl rfl rfl) rfl rfl rfl ?_
    refine at_nil ?_
    refine at_normal ?_
    refine hK5 _ _ ?_
    refine at_seq_k (fun K6 hK6 => ?_)
    refine at_cond rfl (fun hc => ?_) (fun hc => ?_)
    · have hlt : k < l.length := by simpa using hc
      have hget : l[k]? = some l[k] := List.getElem?_eq_getElem hlt
      refine at_skip ?_
      refine at_normal ?_
      refine hK6 _ _ ?_
      refine at_seq_k (fun K7 hK7 => ?_)
      refine at_block ?_
      refine at_seq_k (fun K8 hK8 => ?_)
      refine at_region ?_
      refine at_v (ov_indexRd (fun _ s => hr.up s) rfl Try.underlying22 rfl rfl rfl hget) rfl rfl rfl ?_
      refine at_v (ov_loadRdS (vs := [_, _, _, _, _, _, _, _, _, _]) (fun _ s => hr.up s) rfl rfl rfl hget rfl rfl) rfl rfl rfl ?_
      refine at_t (ot_allocA rfl Try.zeroValue36) rfl rfl rfl ?_
      rintro _ _ ⟨g0, rfl, rfl⟩
      refine at_t0 (ot_store (k := 0) rfl rfl rfl rfl rfl rfl rfl) rfl rfl ?_
      rintro _ _ ⟨rfl, rfl⟩
      simp only [setAt, splice, spliceL, Value.cells]
      refine at_nil ?_
      refine at_normal ?_
      refine hK8 _ _ ?_
      refine at_seq_k (fun K9 hK9 => ?_)
      refine at_region ?_
      refine at_v (ov_fieldAddr (k := 3) (r := 3) rfl rfl rfl rfl) rfl rfl rfl ?_
      refine at_v (ov_fieldAddr (k := 1) (r := 4) rfl rfl rfl rfl) rfl rfl rfl ?_
      refine at_v (ov_load rfl rfl rfl (fun _ s => s.ld (k := 0) rfl rfl)) rfl rfl rfl ?_
      refine at_v (ov_len_string rfl Try.underlying9 rfl) rfl rfl rfl ?_
      refine at_v (ov_int rfl rfl rfl rfl) rfl rfl rfl ?_
      refine at_nil ?_
      refine at_normal ?_
      refine hK9 _ _ ?_
      refine at_cond rfl (fun hd => ?_) (fun hd => ?_)
      · refine at_seq_k (fun K10 hK10 => ?_)
        refine at_region ?_
        refine at_v (ov_assign rfl rfl) rfl rfl rfl ?_
        refine at_nil ?_
        refine at_normal ?_
        refine hK10 _ _ ?_
        refine at_ret ?_
        refine at_inb_ret ?_
        refine at_then_ret ?_
        refine at_then_ret ?_
        refine at_inb_ret ?_
        refine at_then_ret ?_
        refine at_end ?_
        refine at_fin (rsV rfl (res_tmp rfl)) ?_
        refine ⟨_, ⟨true, fun e => (by cases e), rfl, rfl⟩, ?_⟩
        exact fun _ s => s.finEq (ks := []) (js := [0]) rfl rfl rfl
      · refine at_skip ?_
        refine at_inb_normal ?_
        refine at_normal ?_
        refine hK7 _ _ ?_
        refine at_region ?_
        refine at_v ((ov_int rfl rfl rfl rfl).eq (congrArg (Value.int .i64) (inK_i64 (by omega) (by omega)))) rfl rfl rfl ?_
        refine at_v (ov_move rfl rfl) rfl rfl rfl ?_
        refine at_nil ?_
        refine at_normal ?_
        refine at_roundF (k + 1) hlt (by omega) ⟨rfl, trivial⟩ rfl ?_
        exact fun _ s => s.finEq (ks := []) (js := [0]) rfl rfl rfl
    · refine at_exit ?_
      refine at_then_exit ?_
      refine at_then_exit ?_
      refine at_exit_eq ?_
      refine at_normal ?_
      refine hK3 _ _ ?_
      refine at_seq_k (fun K7 hK7 => ?_)
      refine at_region ?_
      refine at_v (ov_assign rfl rfl) rfl rfl rfl ?_
      refine at_nil ?_
      refine at_normal ?_
      refine hK7 _ _ ?_
      refine at_ret ?_
      refine at_end ?_
      refine at_fin (rsV rfl (res_tmp rfl)) ?_
      refine ⟨_, ⟨false, fun _ => hl, rfl, rfl⟩, ?_⟩
      exact fun _ s => s.finEq (ks := []) (js := []) rfl rfl rfl
def runS (l : List AM) : SM × VM := l.foldl (fun p x => (doS p.1 p.2 x, doV p.2 x)) (SM.new, ⟨1, 0, []⟩)
theorem runS_succ (l : List AM) (k : Nat) (h : k < l.length) : runS (l.take (k + 1)) = (doS (runS (l.take k)).1 (runS (l.take k)).2 l[k], doV (runS (l.take k)).2 l[k]) := by
  unfold runS
  rw [List.take_succ_eq_append_getElem h, List.foldl_append]; rfl
theorem runS_len (l : List AM) (k : Nat) (h : k ≤ l.length) : (runS (l.take k)).2.cuts.length ≤ k := by
  induction k with
  | zero => simp [runS]
  | succ k ih =>
    rw [runS_succ l k h]
    have := ih (by omega)
    simp only [doV]
    split
    · have := learn_len (runS (l.take k)).2 l[k].ep l[k].n l[k].cut
      omega
    · omega
end Go.Proofs.Ytmhoimnochigjaa
