/- The functions of layer 14 (view), walked: what each hands back, and what becomes of a view. -/
import Derived.Test.YtmhoimnochigjaaProg
import Derived.Test.YtmhoimnochigjaaSLRow
import Derived.KernelRfl
set_option linter.unusedSimpArgs false
set_option linter.unusedVariables false
set_option maxRecDepth 100000
namespace Go.Proofs.Ytmhoimnochigjaa
open Go Go.Proofs.Ytmhoimnochigjaa.SL Go.RowKit
/-- A view: its epoch, who leads, the promotions' epochs and cuts. -/
structure VM where
  e : Int
  p : Int
  cuts : List (Int × Int)
def VM.learn (v : VM) (ep pr cut : Int) : VM := if ep ≤ v.e then v else ⟨ep, pr, v.cuts ++ [(ep, cut)]⟩
def VM.learns (v : VM) (ep : Int) : Bool := decide (v.e < ep)
def left1 (te l : Int) (c : Int × Int) : Int := if te < c.1 then min l c.2 else l
def leftN (te tp : Int) (cuts : List (Int × Int)) : Int := cuts.foldl (left1 te) tp
theorem leftN_succ (te tp : Int) (cuts : List (Int × Int)) (k : Nat) (h : k < cuts.length) : leftN te tp (cuts.take (k + 1)) = left1 te (leftN te tp (cuts.take k)) cuts[k] := by
  unfold leftN
  rw [List.take_succ_eq_append_getElem h, List.foldl_append]; rfl
def bringT (v : VM) (te tp : Int) : Int × Int := if te ≥ v.e then (te, tp) else (v.e, leftN te tp v.cuts)
def bringB (v : VM) (te tp : Int) : Bool := if te ≥ v.e then true else decide (leftN te tp v.cuts = tp)
def coversB (v : VM) (te tp le lp : Int) : Bool := bringB v te tp && (decide ((bringT v te tp).1 = le) && decide ((bringT v te tp).2 = min (bringT v te tp).2 lp))
def laterT (e1 p1 e2 p2 : Int) : Int × Int := if e1 > e2 ∨ e1 = e2 ∧ p1 > p2 then (e1, p1) else (e2, p2)
def tokE (c : Int × Int) : List Value := [.int .u64 c.1, .int .u64 c.2]
abbrev tokV (t : Int × Int) : Value := .agg #[.int .u64 t.1, .int .u64 t.2]
def ViewA (g : Nat) (v : VM) : HP := fun h => ∃ A, ∃ c, star [cl g #[.int .u64 v.e, .int .i64 v.p, .slice A v.cuts.length c] 60, Row tokE 34 2 A c v.cuts] h
theorem T9 (w0 : World) (p : Int) : Tri Try.prog w0 9 [.int .i64 p] [] fun v m => ∃ g, v = ptrTo g ∧ m = [ViewA g ⟨1, p, []⟩] := by
  refine tri_of Try.func9 rfl rfl fun F => ?_
  simp only [Try.ntmps9, argEnv, List.nil_append]
  refine at_seq_k (fun K0 hK0 => ?_)
  refine at_region ?_
  refine at_v (ov_assign rfl rfl) rfl rfl rfl ?_
  refine at_nil ?_
  refine at_normal ?_
  refine hK0 _ _ ?_
  refine at_seq_k (fun K1 hK1 => ?_)
  refine at_region ?_
  refine at_v (ov_move rfl rfl) rfl rfl rfl ?_
  refine at_v (ov_build (cs := [_, _, _]) rfl rfl rfl rfl) rfl rfl rfl ?_
  refine at_t (ot_boxA rfl rfl) rfl rfl rfl ?_
  rintro _ _ ⟨g0, rfl, rfl⟩
  refine at_v (ov_assign rfl rfl) rfl rfl rfl ?_
  refine at_nil ?_
  refine at_normal ?_
  refine hK1 _ _ ?_
  refine at_ret ?_
  refine at_end ?_
  refine at_rowNil tokE 34 2 ?_
  refine at_fold (A := ViewA g0 ⟨1, p, []⟩) [1, 0] rfl (fun h s => ⟨none, 0, s⟩) ?_
  refine at_fin (rsV rfl (res_tmp rfl)) ?_
  refine ⟨_, ⟨g0, rfl, rfl⟩, ?_⟩
  exact fun _ s => s.finEq (ks := [0]) (js := []) rfl rfl rfl
theorem T16 (w0 : World) (g : Nat) (v0 : VM) : Tri Try.prog w0 16 [ptrTo g] [ViewA g v0] fun v m => v = .int .u64 v0.e ∧ m = [ViewA g v0] := by
  refine tri_of Try.func16 rfl rfl fun F => ?_
  simp only [Try.ntmps16, argEnv, List.cons_append, List.nil_append]
  refine at_ex fun A => at_ex fun c => at_open ?_
  simp only [List.cons_append, List.nil_append]
  refine at_seq_k (fun K0 hK0 => ?_)
  refine at_region ?_
  refine at_v (ov_assign rfl rfl) rfl rfl rfl ?_
  refine at_nil ?_
  refine at_normal ?_
  refine hK0 _ _ ?_
  refine at_seq_k (fun K1 hK1 => ?_)
  refine at_region ?_
  refine at_v (ov_move rfl rfl) rfl rfl rfl ?_
  refine at_v (ov_nilCheck rfl rfl) rfl rfl rfl ?_
  refine at_v (ov_fieldAddr (k := 0) (r := 0) rfl rfl rfl rfl) rfl rfl rfl ?_
  refine at_v (ov_load rfl rfl rfl (fun _ s => s.ld (k := 0) rfl rfl)) rfl rfl rfl ?_
  refine at_v (ov_assign rfl rfl) rfl rfl rfl ?_
  refine at_nil ?_
  refine at_normal ?_
  refine hK1 _ _ ?_
  refine at_ret ?_
  refine at_end ?_
  refine at_fold (A := ViewA g v0) [0, 0] rfl (fun h s => ⟨A, c, s⟩) ?_
  refine at_fin (rsV rfl (res_tmp rfl)) ?_
  refine ⟨_, ⟨rfl, rfl⟩, ?_⟩
  exact fun _ s => s.finEq (ks := [0]) (js := []) rfl rfl rfl
theorem T22 (w0 : World) (g : Nat) (v0 : VM) (ep pr cut : Int) (hlen : v0.cuts.length ≤ 1000000) : Tri Try.prog w0 22 [ptrTo g, .int .u64 ep, .int .i64 pr, .int .u64 cut] [ViewA g v0] fun v m =>
   v = .bool (v0.learns ep) ∧ m = [ViewA g (v0.learn ep pr cut)] := by
  refine tri_of Try.func22 rfl rfl fun F => ?_
  simp only [Try.ntmps22, argEnv, List.cons_append, List.nil_append]
  refine at_ex fun A => at_ex fun c => at_open ?_
  simp only [List.cons_append, List.nil_append]
  refine at_seq_k (fun K0 hK0 => ?_)
  refine at_region ?_
  refine at_v (ov_assign rfl rfl) rfl rfl rfl ?_
  refine at_nil ?_
  refine at_normal ?_
  refine hK0 _ _ ?_
  refine at_seq_k (fun K1 hK1 => ?_)
  refine at_seq_k (fun K2 hK2 => ?_)
  refine at_region ?_
  refine at_v (ov_move rfl rfl) rfl rfl rfl ?_
  refine at_v (ov_move rfl rfl) rfl rfl rfl ?_
  refine at_v (ov_nilCheck rfl rfl) rfl rfl rfl ?_
  refine at_v (ov_fieldAddr (k := 0) (r := 0) rfl rfl rfl rfl) rfl rfl rfl ?_
  refine at_v (ov_load rfl rfl rfl (fun _ s => s.ld (k := 0) rfl rfl)) rfl rfl rfl ?_
  refine at_v (ov_int rfl rfl rfl rfl) rfl rfl rfl ?_
  refine at_nil ?_
  refine at_normal ?_
  refine hK2 _ _ ?_
  refine at_cond rfl (fun h => ?_) (fun h => ?_)
  · have h2 : ep ≤ v0.e := by simpa using h
    refine at_seq_k (fun K3 hK3 => ?_)
    refine at_region ?_
    refine at_v (ov_assign rfl rfl) rfl rfl rfl ?_
    refine at_nil ?_
    refine at_normal ?_
    refine hK3 _ _ ?_
    refine at_ret ?_
    refine at_then_ret ?_
    refine at_end ?_
    refine at_fold (A := ViewA g v0) [0, 0] rfl (fun h s => ⟨A, c, s⟩) ?_
    rw [show v0.learn ep pr cut = v0 from if_pos h2, show v0.learns ep = false from decide_eq_false (by omega)]
    refine at_fin (rsV rfl (res_tmp rfl)) ?_
    refine ⟨_, ⟨rfl, rfl⟩, ?_⟩
    exact fun _ s => s.finEq (ks := [0]) (js := []) rfl rfl rfl
  · have h2 : ¬ ep ≤ v0.e := by simpa using h
    refine at_skip ?_
    refine at_normal ?_
    refine hK1 _ _ ?_
    refine at_seq_k (fun K3 hK3 => ?_)
    refine at_region ?_
    refine at_v (ov_move rfl rfl) rfl rfl rfl ?_
    refine at_v (ov_move rfl rfl) rfl rfl rfl ?_
    refine at_v (ov_move rfl rfl) rfl rfl rfl ?_
    refine at_v (ov_move rfl rfl) rfl rfl rfl ?_
    refine at_v (ov_nilCheck rfl rfl) rfl rfl rfl ?_
    refine at_v (ov_fieldAddr (k := 0) (r := 0) rfl rfl rfl rfl) rfl rfl rfl ?_
    refine at_t0 (ot_store (k := 0) rfl rfl rfl rfl rfl rfl rfl) rfl rfl ?_
    rintro _ _ ⟨rfl, rfl⟩
    simp only [setAt, splice, spliceL, Value.cells]
    refine at_v (ov_nilCheck rfl rfl) rfl rfl rfl ?_
    refine at_v (ov_fieldAddr (k := 1) (r := 1) rfl rfl rfl rfl) rfl rfl rfl ?_
    refine at_t0 (ot_store (k := 0) rfl rfl rfl rfl rfl rfl rfl) rfl rfl ?_
    rintro _ _ ⟨rfl, rfl⟩
    simp only [setAt, splice, spliceL, Value.cells]
    refine at_nil ?_
    refine at_normal ?_
    refine hK3 _ _ ?_
    refine at_seq_k (fun K4 hK4 => ?_)
    refine at_region ?_
    refine at_v (ov_move rfl rfl) rfl rfl rfl ?_
    refine at_v (ov_move rfl rfl) rfl rfl rfl ?_
    refine at_v (ov_nilCheck rfl rfl) rfl rfl rfl ?_
    refine at_v (ov_fieldAddr (k := 2) (r := 2) rfl rfl rfl rfl) rfl rfl rfl ?_
    refine at_v (ov_load rfl rfl rfl (fun _ s => s.ld (k := 0) rfl rfl)) rfl rfl rfl ?_
    refine at_v (ov_move rfl rfl) rfl rfl rfl ?_
    refine at_v (ov_move rfl rfl) rfl rfl rfl ?_
    refine at_v (ov_build (cs := [_, _]) rfl rfl rfl rfl) rfl rfl rfl ?_
    refine at_t (ot_buildSlice (cs := [_, _]) rfl Try.underlying58 rfl rfl rfl rfl rfl rfl) rfl rfl rfl ?_
    rintro _ _ ⟨g0, rfl, rfl⟩
    refine at_t (ot_append (k := 2) (size := 2) (bytes := 16) (ys := [(ep, cut)]) (fun _ s => s.rdPt (k := 0) rfl rfl (by simp [tokE])) rfl Try.underlying58 (ti := Try.t34) rfl rfl rfl rfl rfl (by decide) rfl rfl rfl (by simp [tokE, Value.oneCell']) (by simp; omega) (by decide)) rfl rfl rfl ?_
    rintro _ _ ⟨A', c', rfl, rfl⟩
    refine at_v (ov_nilCheck rfl rfl) rfl rfl rfl ?_
    refine at_v (ov_fieldAddr (k := 2) (r := 2) rfl rfl rfl rfl) rfl rfl rfl ?_
    refine at_t0 (ot_store (k := 1) rfl rfl rfl rfl rfl rfl rfl) rfl rfl ?_
    rintro _ _ ⟨rfl, rfl⟩
    simp only [setAt, splice, spliceL, Value.cells]
    refine at_nil ?_
    refine at_normal ?_
    refine hK4 _ _ ?_
    refine at_seq_k (fun K5 hK5 => ?_)
    refine at_region ?_
    refine at_v (ov_assign rfl rfl) rfl rfl rfl ?_
    refine at_nil ?_
    refine at_normal ?_
    refine hK5 _ _ ?_
    refine at_ret ?_
    refine at_end ?_
    refine at_fold (A := ViewA g ⟨ep, pr, v0.cuts ++ [(ep, cut)]⟩) [1, 1] rfl (fun h s => ⟨A', c', s⟩) ?_
    rw [show v0.learn ep pr cut = ⟨ep, pr, v0.cuts ++ [(ep, cut)]⟩ from if_neg h2, show v0.learns ep = true from decide_eq_true (by omega)]
    refine at_fin (rsV rfl (res_tmp rfl)) ?_
    refine ⟨_, ⟨rfl, rfl⟩, ?_⟩
    exact fun _ s => s.finEq (ks := [0]) (js := [0]) rfl rfl rfl
theorem T29 (w0 : World) (g1 g2 : Nat) (te tp left : Int) (c : Int × Int) : Tri Try.prog w0 29 [.agg #[.int .u64 c.1, .int .u64 c.2], ptrTo g1, ptrTo g2] [cl g1 #[.int .u64 te, .int .u64 tp] 34, cl g2 #[.int .u64 left] 30] fun v m =>
   v = .tuple #[] ∧ m = [cl g1 #[.int .u64 te, .int .u64 tp] 34, cl g2 #[.int .u64 (left1 te left c)] 30] := by
  refine tri_of Try.func29 rfl rfl fun F => ?_
  simp only [Try.ntmps29, argEnv, List.cons_append, List.nil_append]
  refine at_seq_k (fun K0 hK0 => ?_)
  refine at_region ?_
  refine at_t (ot_boxA rfl rfl) rfl rfl rfl ?_
  rintro _ _ ⟨g0, rfl, rfl⟩
  refine at_nil ?_
  refine at_normal ?_
  refine hK0 _ _ ?_
  refine at_seq_k (fun K1 hK1 => ?_)
  refine at_region ?_
  refine at_v (ov_fieldAddr (k := 0) (r := 0) rfl rfl rfl rfl) rfl rfl rfl ?_
  refine at_v (ov_load rfl rfl rfl (fun _ s => s.ld (k := 0) rfl rfl)) rfl rfl rfl ?_
  refine at_v (ov_fieldAddr (k := 0) (r := 0) rfl rfl rfl rfl) rfl rfl rfl ?_
  refine at_v (ov_load rfl rfl rfl (fun _ s => s.ld (k := 1) rfl rfl)) rfl rfl rfl ?_
  refine at_v (ov_int rfl rfl rfl rfl) rfl rfl rfl ?_
  refine at_nil ?_
  refine at_normal ?_
  refine hK1 _ _ ?_
  refine at_cond rfl (fun h => ?_) (fun h => ?_)
  · refine at_region ?_
    refine at_v (ov_load rfl rfl rfl (fun _ s => s.ld (k := 2) rfl rfl)) rfl rfl rfl ?_
    refine at_v (ov_fieldAddr (k := 1) (r := 1) rfl rfl rfl rfl) rfl rfl rfl ?_
    refine at_v (ov_load rfl rfl rfl (fun _ s => s.ld (k := 0) rfl rfl)) rfl rfl rfl ?_
    refine at_v (ov_min rfl rfl rfl) rfl rfl rfl ?_
    refine at_t0 (ot_store (k := 2) rfl rfl rfl rfl rfl rfl rfl) rfl rfl ?_
    rintro _ _ ⟨rfl, rfl⟩
    simp only [setAt, splice, spliceL, Value.cells]
    refine at_nil ?_
    refine at_end ?_
    refine at_fin (rs0 rfl) ?_
    rw [show left1 te left c = min left c.2 from if_pos (by simpa using h)]
    refine ⟨_, ⟨rfl, rfl⟩, ?_⟩
    exact fun _ s => s.finEq (ks := [1, 1]) (js := [0]) rfl rfl rfl
  · refine at_skip ?_
    refine at_end ?_
    refine at_fin (rs0 rfl) ?_
    rw [show left1 te left c = left from if_neg (by simpa using h)]
    refine ⟨_, ⟨rfl, rfl⟩, ?_⟩
    exact fun _ s => s.finEq (ks := [1, 1]) (js := [0]) rfl rfl rfl
theorem T28 (w0 : World) (g : Nat) (v0 : VM) (te tp : Int) (hlen : v0.cuts.length ≤ 1000000) : Tri Try.prog w0 28 [ptrTo g, .agg #[.int .u64 te, .int .u64 tp]] [ViewA g v0] fun v m =>
   v = .tuple #[tokV (bringT v0 te tp), .bool (bringB v0 te tp)] ∧ m = [ViewA g v0] := by
  refine tri_of Try.func28 rfl rfl fun F => ?_
  simp only [Try.ntmps28, argEnv, List.cons_append, List.nil_append]
  refine at_ex fun A => at_ex fun c => at_open ?_
  simp only [List.cons_append, List.nil_append]
  refine at_seq_k (fun K0 hK0 => ?_)
  refine at_region ?_
  refine at_t (ot_boxA rfl rfl) rfl rfl rfl ?_
  rintro _ _ ⟨g0, rfl, rfl⟩
  refine at_t (ot_allocA rfl Try.zeroValue34) rfl rfl rfl ?_
  rintro _ _ ⟨g1, rfl, rfl⟩
  refine at_v (ov_assign rfl rfl) rfl rfl rfl ?_
  refine at_nil ?_
  refine at_normal ?_
  refine hK0 _ _ ?_
  refine at_seq_k (fun K1 hK1 => ?_)
  refine at_seq_k (fun K2 hK2 => ?_)
  refine at_draw _ [] 1000 [(2, 0), (1, 1), (2, 2), (2, 3), (2, 4), (1, 5), (1, 6)] (by kernel_rfl) (by kernel_rfl) (fun _ s => (s.pulls (ks := [0, 0, 0]) rfl).left) ?_
  refine aq_p (ov_fieldAddr (k := 0) (r := 0) rfl rfl rfl rfl) rfl rfl rfl ?_
  refine aq_v (ov_load rfl rfl rfl (fun _ s => s.ld (k := 1) rfl rfl)) rfl rfl rfl ?_
  refine aq_p (ov_move rfl rfl) rfl rfl rfl ?_
  refine aq_p (ov_nilCheck rfl rfl) rfl rfl rfl ?_
  refine aq_p (ov_fieldAddr (k := 0) (r := 0) rfl rfl rfl rfl) rfl rfl rfl ?_
  refine aq_v (ov_load rfl rfl rfl (fun _ s => s.ld (k := 2) rfl rfl)) rfl rfl rfl ?_
  refine aq_v (ov_int rfl rfl rfl rfl) rfl rfl rfl ?_
  refine aq_nil ?_
  refine at_normal ?_
  refine hK2 _ _ ?_
  refine at_cond rfl (fun h => ?_) (fun h => ?_)
  · have h2 : te ≥ v0.e := by simpa using h
    refine at_seq_k (fun K3 hK3 => ?_)
    refine at_region ?_
    refine at_v (ov_loadS (cs := [_, _]) rfl rfl rfl rfl (fun _ s => s.lds (k := 1) rfl ⟨rfl, rfl, trivial⟩)) rfl rfl rfl ?_
    refine at_t0 (ot_store (k := 0) rfl rfl rfl rfl rfl rfl rfl) rfl rfl ?_
    rintro _ _ ⟨rfl, rfl⟩
    simp only [setAt, splice, spliceL, Value.cells]
    refine at_v (ov_assign rfl rfl) rfl rfl rfl ?_
    refine at_nil ?_
    refine at_normal ?_
    refine hK3 _ _ ?_
    refine at_ret ?_
    refine at_then_ret ?_
    refine at_end ?_
    refine at_fold (A := ViewA g v0) [2, 2] rfl (fun h s => ⟨A, c, s⟩) ?_
    rw [show bringT v0 te tp = (te, tp) from if_pos h2, show bringB v0 te tp = true from if_pos h2]
    refine at_fin (rsL (vs := [_, _]) rfl ⟨res_cellS (k := 1) (vs := [_, _]) rfl rfl rfl rfl ⟨rfl, rfl, trivial⟩, res_tmp rfl, trivial⟩ rfl) ?_
    refine ⟨_, ⟨rfl, rfl⟩, ?_⟩
    exact fun _ s => s.finEq (ks := [0]) (js := [0, 0]) rfl rfl rfl
  · have h2 : ¬ te ≥ v0.e := by simpa using h
    refine at_skip ?_
    refine at_normal ?_
    refine hK1 _ _ ?_
    refine at_seq_k (fun K3 hK3 => ?_)
    refine at_region ?_
    refine at_v (ov_fieldAddr (k := 1) (r := 1) rfl rfl rfl rfl) rfl rfl rfl ?_
    refine at_v (ov_load rfl rfl rfl (fun _ s => s.ld (k := 1) rfl rfl)) rfl rfl rfl ?_
    refine at_t (ot_alloc1 rfl Try.zeroValue30 rfl) rfl rfl rfl ?_
    rintro _ _ ⟨g2, rfl, rfl⟩
    refine at_t0 (ot_store (k := 0) rfl rfl rfl rfl rfl rfl rfl) rfl rfl ?_
    rintro _ _ ⟨rfl, rfl⟩
    simp only [setAt, splice, spliceL, Value.cells]
    refine at_nil ?_
    refine at_normal ?_
    refine hK3 _ _ ?_
    refine at_seq_k (fun K4 hK4 => ?_)
    refine at_region ?_
    refine at_v (ov_makeFunc (first := []) rfl rfl rfl) rfl rfl rfl ?_
    refine at_v (ov_assign rfl rfl) rfl rfl rfl ?_
    refine at_nil ?_
    refine at_normal ?_
    refine hK4 _ _ ?_
    refine at_seq_k (fun K5 hK5 => ?_)
    refine at_seq_k (fun K6 hK6 => ?_)
    refine at_region ?_
    refine at_v (ov_move rfl rfl) rfl rfl rfl ?_
    refine at_v (ov_nilCheck rfl rfl) rfl rfl rfl ?_
    refine at_v (ov_fieldAddr (k := 2) (r := 2) rfl rfl rfl rfl) rfl rfl rfl ?_
    refine at_v (ov_load rfl rfl rfl (fun _ s => s.ld (k := 3) rfl rfl)) rfl rfl rfl ?_
    refine at_v (ov_len_slice rfl Try.underlying58 rfl) rfl rfl rfl ?_
    refine at_v (ov_move rfl rfl) rfl rfl rfl ?_
    refine at_nil ?_
    refine at_normal ?_
    refine hK6 _ _ ?_
    refine at_block ?_
    refine at_loopE [27, 28, 29, 9, 30, 31, 32, 33, 26] (fun k => k ≤ v0.cuts.length) (fun k => [(26, .int .i64 (k : Nat))]) (fun k => setAt 0 (cl g2 #[.int .u64 (leftN te tp (v0.cuts.take k))] 30)) (fun k => v0.cuts.length - k) 0 (Nat.zero_le _) ⟨rfl, trivial⟩ (fun _ s => s) ?_
    intro k hk
    simp only [setAt]
    refine at_seq_k (fun K7 hK7 => ?_)
    refine at_region ?_
    refine at_v (ov_int rfl rfl rfl rfl) rfl rfl rfl ?_
    refine at_nil ?_
    refine at_normal ?_
    refine hK7 _ _ ?_
    refine at_seq_k (fun K8 hK8 => ?_)
    refine at_cond rfl (fun hc => ?_) (fun hc => ?_)
    · have hlt : k < v0.cuts.length := by simpa using hc
      have hget : v0.cuts[k]? = some v0.cuts[k] := List.getElem?_eq_getElem hlt
      refine at_skip ?_
      refine at_normal ?_
      refine hK8 _ _ ?_
      refine at_seq_k (fun K9 hK9 => ?_)
      refine at_block ?_
      refine at_seq_k (fun K10 hK10 => ?_)
      refine at_region ?_
      refine at_v (ov_indexRd (fun _ s => s.rd (k := 4) rfl) rfl Try.underlying58 rfl rfl rfl hget) rfl rfl rfl ?_
      refine at_v (ov_loadRdS (vs := [_, _]) (fun _ s => s.rd (k := 4) rfl) rfl rfl rfl hget rfl rfl) rfl rfl rfl ?_
      refine at_t (ot_allocA rfl Try.zeroValue34) rfl rfl rfl ?_
      rintro _ _ ⟨g3, rfl, rfl⟩
      refine at_t0 (ot_store (k := 0) rfl rfl rfl rfl rfl rfl rfl) rfl rfl ?_
      rintro _ _ ⟨rfl, rfl⟩
      simp only [setAt, splice, spliceL, Value.cells]
      refine at_nil ?_
      refine at_normal ?_
      refine hK10 _ _ ?_
      refine at_region ?_
      refine at_v (ov_move rfl rfl) rfl rfl rfl ?_
      refine at_v (ov_loadS (cs := [_, _]) rfl rfl rfl rfl (fun _ s => s.lds (k := 0) rfl ⟨rfl, rfl, trivial⟩)) rfl rfl rfl ?_
      refine at_t (ot_call (ks := [3, 1]) rfl rfl rfl Try.call29 rfl (T29 _ _ _ _ _ _ _) rfl) rfl rfl rfl ?_
      rintro v1 _ ⟨m0, hp0, rfl⟩
      obtain ⟨rfl, rfl⟩ := hp0
      simp only [List.cons_append, List.nil_append]
      refine at_nil ?_
      refine at_inb_normal ?_
      refine at_normal ?_
      refine hK9 _ _ ?_
      refine at_region ?_
      refine at_v ((ov_int rfl rfl rfl rfl).eq (congrArg (Value.int .i64) (inK_i64 (by omega) (by omega)))) rfl rfl rfl ?_
      refine at_v (ov_move rfl rfl) rfl rfl rfl ?_
      refine at_nil ?_
      refine at_normal ?_
      rw [← leftN_succ te tp v0.cuts k hlt]
      refine at_roundF (k + 1) hlt (by omega) ⟨rfl, trivial⟩ rfl ?_
      exact fun _ s => s.finEq (ks := [1, 2, 0, 1, 1]) (js := [0]) rfl rfl rfl
    · have hk2 : k = v0.cuts.length := by
        have : ¬ k < v0.cuts.length := by simpa using hc
        omega
      subst hk2
      simp only [List.take_length]
      refine at_exit ?_
      refine at_then_exit ?_
      refine at_then_exit ?_
      refine at_exit_eq ?_
      refine at_normal ?_
      refine hK5 _ _ ?_
      refine at_seq_k (fun K9 hK9 => ?_)
      refine at_draw _ [] 1000 [(2, 0), (2, 1), (2, 2), (1, 3), (1, 4), (2, 5), (1, 6), (2, 7), (1, 8), (1, 9), (0, 10), (2, 11)] (by kernel_rfl) (by kernel_rfl) (fun _ s => (s.pulls (ks := [0, 1, 1]) rfl).left) ?_
      refine aq_p (ov_move rfl rfl) rfl rfl rfl ?_
      refine aq_p (ov_nilCheck rfl rfl) rfl rfl rfl ?_
      refine aq_p (ov_fieldAddr (k := 0) (r := 0) rfl rfl rfl rfl) rfl rfl rfl ?_
      refine aq_v (ov_load rfl rfl rfl (fun _ s => s.ld (k := 2) rfl rfl)) rfl rfl rfl ?_
      refine aq_v (ov_load rfl rfl rfl (fun _ s => s.ld (k := 0) rfl rfl)) rfl rfl rfl ?_
      refine aq_p (ov_build (cs := [_, _]) rfl rfl rfl rfl) rfl rfl rfl ?_
      refine aq_v (ov_load rfl rfl rfl (fun _ s => s.ld (k := 0) rfl rfl)) rfl rfl rfl ?_
      refine aq_p (ov_fieldAddr (k := 1) (r := 1) rfl rfl rfl rfl) rfl rfl rfl ?_
      refine aq_v (ov_load rfl rfl rfl (fun _ s => s.ld (k := 1) rfl rfl)) rfl rfl rfl ?_
      refine aq_v (ov_int rfl rfl rfl rfl) rfl rfl rfl ?_
      refine aq_t0 (ot_store (k := 1) rfl rfl rfl rfl rfl rfl rfl) rfl rfl ?_
      rintro _ _ ⟨rfl, rfl⟩
      simp only [setAt, splice, spliceL, Value.cells]
      refine ⟨fun _ s => (s.pulls (ks := [0, 1, 1]) rfl).left, ?_⟩
      refine aq_p (ov_assign rfl rfl) rfl rfl rfl ?_
      refine aq_nil ?_
      refine at_normal ?_
      refine hK9 _ _ ?_
      refine at_ret ?_
      refine at_end ?_
      refine at_fold (A := ViewA g v0) [3, 3] rfl (fun h s => ⟨A, c, s⟩) ?_
      rw [show bringT v0 te tp = (v0.e, leftN te tp v0.cuts) from if_neg h2, show bringB v0 te tp = decide (leftN te tp v0.cuts = tp) from if_neg h2]
      refine at_fin (rsL (vs := [_, _]) rfl ⟨res_cellS (k := 2) (vs := [_, _]) rfl rfl rfl rfl ⟨rfl, rfl, trivial⟩, res_tmp rfl, trivial⟩ rfl) ?_
      refine ⟨_, ⟨rfl, rfl⟩, ?_⟩
      exact fun _ s => s.finEq (ks := [0]) (js := [0, 0, 0]) rfl rfl rfl
theorem T27 (w0 : World) (e1 p1 e2 p2 : Int) : Tri Try.prog w0 27 [.agg #[.int .u64 e1, .int .u64 p1], .agg #[.int .u64 e2, .int .u64 p2]] [] fun v m =>
   v = tokV (laterT e1 p1 e2 p2) ∧ m = [] := by
  refine tri_of Try.func27 rfl rfl fun F => ?_
  simp only [Try.ntmps27, argEnv, List.nil_append]
  refine at_seq_k (fun K0 hK0 => ?_)
  refine at_region ?_
  refine at_t (ot_boxA rfl rfl) rfl rfl rfl ?_
  rintro _ _ ⟨g0, rfl, rfl⟩
  refine at_t (ot_boxA rfl rfl) rfl rfl rfl ?_
  rintro _ _ ⟨g1, rfl, rfl⟩
  refine at_t (ot_allocA rfl Try.zeroValue34) rfl rfl rfl ?_
  rintro _ _ ⟨g2, rfl, rfl⟩
  refine at_nil ?_
  refine at_normal ?_
  refine hK0 _ _ ?_
  refine at_seq_k (fun K1 hK1 => ?_)
  refine at_seq_k (fun K2 hK2 => ?_)
  refine at_region ?_
  refine at_v (ov_fieldAddr (k := 0) (r := 0) rfl rfl rfl rfl) rfl rfl rfl ?_
  refine at_v (ov_load rfl rfl rfl (fun _ s => s.ld (k := 2) rfl rfl)) rfl rfl rfl ?_
  refine at_v (ov_fieldAddr (k := 0) (r := 0) rfl rfl rfl rfl) rfl rfl rfl ?_
  refine at_v (ov_load rfl rfl rfl (fun _ s => s.ld (k := 1) rfl rfl)) rfl rfl rfl ?_
  refine at_v (ov_int rfl rfl rfl rfl) rfl rfl rfl ?_
  refine at_v (ov_move rfl rfl) rfl rfl rfl ?_
  refine at_bool (t := 10) rfl (fun h0 => ?_) (fun h0 => ?_)
  ·
    simp only [decide_eq_true_eq, decide_eq_false_iff_not, Bool.not_eq_true', Bool.not_eq_false', Int.not_lt, Int.not_le, Bool.and_eq_true, Bool.or_eq_true, Bool.and_eq_false_iff, Bool.or_eq_false_iff, gt_iff_lt, ge_iff_le] at h0
    refine at_unwanted (j := 5) rfl rfl rfl rfl ?_
    refine at_unwanted (j := 5) rfl rfl rfl rfl ?_
    refine at_unwanted (j := 5) rfl rfl rfl rfl ?_
    refine at_unwanted (j := 5) rfl rfl rfl rfl ?_
    refine at_unwanted (j := 5) rfl rfl rfl rfl ?_
    refine at_unwanted (j := 5) rfl rfl rfl rfl ?_
    refine at_unwantedN (j := 11) rfl rfl rfl ?_
    refine at_unwantedN (j := 11) rfl rfl rfl ?_
    refine at_unwantedN (j := 11) rfl rfl rfl ?_
    refine at_unwantedN (j := 11) rfl rfl rfl ?_
    refine at_unwantedN (j := 11) rfl rfl rfl ?_
    refine at_unwanted (j := 5) rfl rfl rfl rfl ?_
    refine at_v (ov_pick_t rfl rfl rfl) rfl rfl rfl ?_
    refine at_nil ?_
    refine at_normal ?_
    refine hK2 _ _ ?_
    refine at_cond_true rfl ?_
    refine at_seq_k (fun K3 hK3 => ?_)
    refine at_region ?_
    refine at_v (ov_loadS (cs := [_, _]) rfl rfl rfl rfl (fun _ s => s.lds (k := 2) rfl ⟨rfl, rfl, trivial⟩)) rfl rfl rfl ?_
    refine at_t0 (ot_store (k := 0) rfl rfl rfl rfl rfl rfl rfl) rfl rfl ?_
    rintro _ _ ⟨rfl, rfl⟩
    simp only [setAt, splice, spliceL, Value.cells]
    refine at_nil ?_
    refine at_normal ?_
    refine hK3 _ _ ?_
    refine at_ret ?_
    refine at_then_ret ?_
    refine at_end ?_
    refine at_fin (rsV rfl (res_cellS (k := 0) (vs := [_, _]) rfl rfl rfl rfl ⟨rfl, rfl, trivial⟩)) ?_
    refine ⟨_, ⟨by unfold laterT; (repeat' split) <;> first | rfl | (exfalso; omega), rfl⟩, ?_⟩
    exact fun _ s => s.finEq (ks := []) (js := [0, 0, 0]) rfl rfl rfl
  ·
    simp only [decide_eq_true_eq, decide_eq_false_iff_not, Bool.not_eq_true', Bool.not_eq_false', Int.not_lt, Int.not_le, Bool.and_eq_true, Bool.or_eq_true, Bool.and_eq_false_iff, Bool.or_eq_false_iff, gt_iff_lt, ge_iff_le] at h0
    refine at_wanted (j := 5) rfl ?_
    refine at_v (ov_fieldAddr (k := 0) (r := 0) rfl rfl rfl rfl) rfl rfl rfl ?_
    refine at_wanted (j := 5) rfl ?_
    refine at_v (ov_load rfl rfl rfl (fun _ s => s.ld (k := 2) rfl rfl)) rfl rfl rfl ?_
    refine at_wanted (j := 5) rfl ?_
    refine at_v (ov_fieldAddr (k := 0) (r := 0) rfl rfl rfl rfl) rfl rfl rfl ?_
    refine at_wanted (j := 5) rfl ?_
    refine at_v (ov_load rfl rfl rfl (fun _ s => s.ld (k := 1) rfl rfl)) rfl rfl rfl ?_
    refine at_wanted (j := 5) rfl ?_
    refine at_v (ov_int rfl rfl rfl rfl) rfl rfl rfl ?_
    refine at_wanted (j := 5) rfl ?_
    refine at_v (ov_move rfl rfl) rfl rfl rfl ?_
    refine at_bool (t := 16) rfl (fun h1 => ?_) (fun h1 => ?_)
    ·
      simp only [decide_eq_true_eq, decide_eq_false_iff_not, Bool.not_eq_true', Bool.not_eq_false', Int.not_lt, Int.not_le, Bool.and_eq_true, Bool.or_eq_true, Bool.and_eq_false_iff, Bool.or_eq_false_iff, gt_iff_lt, ge_iff_le] at h1
      refine at_wanted (j := 11) rfl ?_
      refine at_v (ov_fieldAddr (k := 1) (r := 1) rfl rfl rfl rfl) rfl rfl rfl ?_
      refine at_wanted (j := 11) rfl ?_
      refine at_v (ov_load rfl rfl rfl (fun _ s => s.ld (k := 2) rfl rfl)) rfl rfl rfl ?_
      refine at_wanted (j := 11) rfl ?_
      refine at_v (ov_fieldAddr (k := 1) (r := 1) rfl rfl rfl rfl) rfl rfl rfl ?_
      refine at_wanted (j := 11) rfl ?_
      refine at_v (ov_load rfl rfl rfl (fun _ s => s.ld (k := 1) rfl rfl)) rfl rfl rfl ?_
      refine at_wanted (j := 11) rfl ?_
      refine at_v (ov_int rfl rfl rfl rfl) rfl rfl rfl ?_
      refine at_wanted (j := 5) rfl ?_
      refine at_v (ov_pick_t rfl rfl rfl) rfl rfl rfl ?_
      refine at_v (ov_pick_f rfl rfl rfl) rfl rfl rfl ?_
      refine at_nil ?_
      refine at_normal ?_
      refine hK2 _ _ ?_
      refine at_cond rfl (fun h2 => ?_) (fun h2 => ?_)
      ·
        simp only [decide_eq_true_eq, decide_eq_false_iff_not, Bool.not_eq_true', Bool.not_eq_false', Int.not_lt, Int.not_le, Bool.and_eq_true, Bool.or_eq_true, Bool.and_eq_false_iff, Bool.or_eq_false_iff, gt_iff_lt, ge_iff_le] at h2
        refine at_seq_k (fun K3 hK3 => ?_)
        refine at_region ?_
        refine at_v (ov_loadS (cs := [_, _]) rfl rfl rfl rfl (fun _ s => s.lds (k := 2) rfl ⟨rfl, rfl, trivial⟩)) rfl rfl rfl ?_
        refine at_t0 (ot_store (k := 0) rfl rfl rfl rfl rfl rfl rfl) rfl rfl ?_
        rintro _ _ ⟨rfl, rfl⟩
        simp only [setAt, splice, spliceL, Value.cells]
        refine at_nil ?_
        refine at_normal ?_
        refine hK3 _ _ ?_
        refine at_ret ?_
        refine at_then_ret ?_
        refine at_end ?_
        refine at_fin (rsV rfl (res_cellS (k := 0) (vs := [_, _]) rfl rfl rfl rfl ⟨rfl, rfl, trivial⟩)) ?_
        refine ⟨_, ⟨by unfold laterT; (repeat' split) <;> first | rfl | (exfalso; omega), rfl⟩, ?_⟩
        exact fun _ s => s.finEq (ks := []) (js := [0, 0, 0]) rfl rfl rfl
      ·
        simp only [decide_eq_true_eq, decide_eq_false_iff_not, Bool.not_eq_true', Bool.not_eq_false', Int.not_lt, Int.not_le, Bool.and_eq_true, Bool.or_eq_true, Bool.and_eq_false_iff, Bool.or_eq_false_iff, gt_iff_lt, ge_iff_le] at h2
        refine at_skip ?_
        refine at_normal ?_
        refine hK1 _ _ ?_
        refine at_seq_k (fun K3 hK3 => ?_)
        refine at_region ?_
        refine at_v (ov_loadS (cs := [_, _]) rfl rfl rfl rfl (fun _ s => s.lds (k := 1) rfl ⟨rfl, rfl, trivial⟩)) rfl rfl rfl ?_
        refine at_t0 (ot_store (k := 0) rfl rfl rfl rfl rfl rfl rfl) rfl rfl ?_
        rintro _ _ ⟨rfl, rfl⟩
        simp only [setAt, splice, spliceL, Value.cells]
        refine at_nil ?_
        refine at_normal ?_
        refine hK3 _ _ ?_
        refine at_ret ?_
        refine at_end ?_
        refine at_fin (rsV rfl (res_cellS (k := 0) (vs := [_, _]) rfl rfl rfl rfl ⟨rfl, rfl, trivial⟩)) ?_
        refine ⟨_, ⟨by unfold laterT; (repeat' split) <;> first | rfl | (exfalso; omega), rfl⟩, ?_⟩
        exact fun _ s => s.finEq (ks := []) (js := [0, 0, 0]) rfl rfl rfl
    ·
      simp only [decide_eq_true_eq, decide_eq_false_iff_not, Bool.not_eq_true', Bool.not_eq_false', Int.not_lt, Int.not_le, Bool.and_eq_true, Bool.or_eq_true, Bool.and_eq_false_iff, Bool.or_eq_false_iff, gt_iff_lt, ge_iff_le] at h1
      refine at_unwanted (j := 11) rfl rfl rfl rfl ?_
      refine at_unwanted (j := 11) rfl rfl rfl rfl ?_
      refine at_unwanted (j := 11) rfl rfl rfl rfl ?_
      refine at_unwanted (j := 11) rfl rfl rfl rfl ?_
      refine at_unwanted (j := 11) rfl rfl rfl rfl ?_
      refine at_wanted (j := 5) rfl ?_
      refine at_v (ov_pick_f rfl rfl rfl) rfl rfl rfl ?_
      refine at_v (ov_pick_f rfl rfl rfl) rfl rfl rfl ?_
      refine at_nil ?_
      refine at_normal ?_
      refine hK2 _ _ ?_
      refine at_cond_false rfl ?_
      refine at_skip ?_
      refine at_normal ?_
      refine hK1 _ _ ?_
      refine at_seq_k (fun K3 hK3 => ?_)
      refine at_region ?_
      refine at_v (ov_loadS (cs := [_, _]) rfl rfl rfl rfl (fun _ s => s.lds (k := 1) rfl ⟨rfl, rfl, trivial⟩)) rfl rfl rfl ?_
      refine at_t0 (ot_store (k := 0) rfl rfl rfl rfl rfl rfl rfl) rfl rfl ?_
      rintro _ _ ⟨rfl, rfl⟩
      simp only [setAt, splice, spliceL, Value.cells]
      refine at_nil ?_
      refine at_normal ?_
      refine hK3 _ _ ?_
      refine at_ret ?_
      refine at_end ?_
      refine at_fin (rsV rfl (res_cellS (k := 0) (vs := [_, _]) rfl rfl rfl rfl ⟨rfl, rfl, trivial⟩)) ?_
      refine ⟨_, ⟨by unfold laterT; (repeat' split) <;> first | rfl | (exfalso; omega), rfl⟩, ?_⟩
      exact fun _ s => s.finEq (ks := []) (js := [0, 0, 0]) rfl rfl rfl
end Go.Proofs.Ytmhoimnochigjaa
