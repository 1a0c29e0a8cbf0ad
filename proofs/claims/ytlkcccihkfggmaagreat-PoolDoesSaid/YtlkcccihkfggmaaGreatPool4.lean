/- The pool as a plain model: its acts, and what always holds. -/
import Derived.Test.YtlkcccihkfggmaaGreatProg
import Derived.Test.YtlkcccihkfggmaaGreatPool3
import Derived.Test.YtlkcccihkfggmaaGreatSLBr
import Derived.KernelRfl
set_option linter.unusedSimpArgs false
set_option linter.unusedVariables false
set_option maxRecDepth 100000
namespace Go.Proofs.YtlkcccihkfggmaaGreat
open Go Go.Proofs.YtlkcccihkfggmaaGreat.SL Go.RowKit
structure PM where
  most : Int
  idle : Int
  wm : Int
  last : Int
  L : List Int
  cs : List XM
abbrev PO (g : Nat) (p : PM) : HP := PoolA g p.most p.idle p.wm p.last p.L p.cs
structure PA where
  d : Int
  se : Int
  id : Int
  e : Int
  now : Int
  n : Int
def paE (x : PA) : List Value := [.int .i64 x.d, .int .i64 x.se, .int .i64 x.id, .int .u64 x.e, .int .u64 x.now, .int .u64 x.n]
abbrev paV (x : PA) : Value := .agg #[.int .i64 x.d, .int .i64 x.se, .int .i64 x.id, .int .u64 x.e, .int .u64 x.now, .int .u64 x.n]
abbrev U64 (n : Int) : Prop := 0 ≤ n ∧ n < 18446744073709551616
def PA.ok (x : PA) : Prop := U64 x.e ∧ U64 x.now ∧ U64 x.n
structure Told where
  a : Int
  b : Int
  n : Int
  is : Bool
  e : Int
abbrev toV (t : Told) : Value := .agg #[.int .i64 t.a, .int .i64 t.b, .int .u64 t.n, .bool t.is, .int .i64 t.e]
/-- What an act makes of a pool. -/
def doP (p : PM) (x : PA) : PM :=
  if x.d = 0 then { p with last := (acqM p.most p.wm p.last p.L p.cs x.se x.e x.now).2.2.1, L := (acqM p.most p.wm p.last p.L p.cs x.se x.e x.now).2.2.2.1, cs := (acqM p.most p.wm p.last p.L p.cs x.se x.e x.now).2.2.2.2 }
  else if x.d = 1 then { p with last := (serveM p.most p.last p.L p.cs x.e x.now).2.2.2.1, L := (serveM p.most p.last p.L p.cs x.e x.now).2.2.2.2.1, cs := (serveM p.most p.last p.L p.cs x.e x.now).2.2.2.2.2 }
  else if x.d = 2 then { p with L := dropW p.L x.se }
  else if x.d = 3 then { p with cs := setL p.cs x.id (fun c => c.send x.n) }
  else if x.d = 4 then { p with cs := withL p.cs x.id (fun c => c.reply x.n) }
  else if x.d = 5 then { p with cs := withL p.cs x.id CM.soil }
  else if x.d = 6 then { p with cs := releaseL p.cs x.id x.now }
  else if x.d = 7 then { p with cs := withL p.cs x.id CM.close }
  else if x.d = 8 then { p with cs := midL p.cs (drainU x.e) p.cs.length }
  else if x.d = 9 then { p with cs := midL p.cs (reapU p.idle x.now) p.cs.length }
  else p
/-- What an act answers. -/
def doT (p : PM) (x : PA) : Told :=
  if x.d = 0 then ⟨(acqM p.most p.wm p.last p.L p.cs x.se x.e x.now).1, 0, 0, false, (acqM p.most p.wm p.last p.L p.cs x.se x.e x.now).2.1⟩
  else if x.d = 1 then ⟨(serveM p.most p.last p.L p.cs x.e x.now).1, (serveM p.most p.last p.L p.cs x.e x.now).2.1, 0, (serveM p.most p.last p.L p.cs x.e x.now).2.2.1, 0⟩
  else if x.d = 2 then ⟨0, 0, 0, !decide (atL p.L x.se 0 = -1), 0⟩
  else if x.d = 3 then ⟨0, 0, 0, false, sendE p.cs x.id x.n⟩
  else if x.d = 4 then ⟨0, 0, 0, withB p.cs x.id (fun c => c.replies x.n), 0⟩
  else if x.d = 5 then ⟨0, 0, 0, withB p.cs x.id CM.soils, 0⟩
  else if x.d = 6 then ⟨0, 0, 0, withB p.cs x.id CM.releases, 0⟩
  else if x.d = 7 then ⟨(breakM p.cs x.id).2.1, 0, (breakM p.cs x.id).1, (breakM p.cs x.id).2.2, 0⟩
  else if x.d = 8 then ⟨0, 0, 0, false, 0⟩
  else if x.d = 9 then ⟨(reapN p.idle x.now p.cs : Nat), 0, 0, false, 0⟩
  else ⟨0, 0, 0, false, 0⟩
/-- What holds of a connection that a pool holds. -/
def CWf (c : CM) : Prop := 0 ≤ c.o ∧ (c.f ≠ 0 → 0 < c.o) ∧ (c.r = true → c.f ≠ 0)
def XR (x y : XM) : Prop := x.1 < y.1 ∧ (x.2.1.o = 0 ∨ x.2.1.o ≠ y.2.1.o)
/-- What always holds of a pool; its last id is at most n. -/
structure Wf (n : Nat) (p : PM) : Prop where
  hn : n ≤ 400
  most_ : 1 ≤ p.most ∧ p.most ≤ 6
  wm_ : 0 ≤ p.wm ∧ p.wm ≤ 12
  last_ : 0 ≤ p.last ∧ p.last ≤ n
  len : (p.cs.length : Int) ≤ p.most
  pw : p.cs.Pairwise XR
  ids : ∀ x ∈ p.cs, 1 ≤ x.1 ∧ x.1 ≤ p.last
  con : ∀ x ∈ p.cs, CWf x.2.1
  since : ∀ x ∈ p.cs, U64 x.2.2
  lenL : (p.L.length : Int) ≤ p.wm
  nod : p.L.Nodup
  pos : ∀ s ∈ p.L, 1 ≤ s ∧ ∀ x ∈ p.cs, x.2.1.o ≠ s
theorem cwf_state {c : CM} (h : CWf c) : c.state ≠ 4 := by
  unfold CM.state CWf at *
  (repeat' split) <;> omega
section
variable {n : Nat} {p : PM} (h : Wf n p)
include h
theorem Wf.sorted : (p.cs.map (·.1)).Pairwise (· < ·) := List.pairwise_map.2 (h.pw.imp fun r => r.1)
theorem Wf.h6 : p.cs.length ≤ 6 := by have := h.len; have := h.most_; omega
theorem Wf.open_ : Open4 p.cs := fun x hx => cwf_state (h.con x hx)
theorem Wf.lastr : 0 ≤ p.last ∧ p.last ≤ 1000 := by have := h.last_; have := h.hn; omega
theorem Wf.idsl : ∀ x ∈ p.cs, x.1 ≤ p.last := fun x hx => (h.ids x hx).2
end
theorem T7 (w0 : World) {g : Nat} {p : PM} {n : Nat} (x : PA) (hx : x.ok) (hw : Wf n p) : Tri Tryz.prog w0 7 [ptrTo g, paV x] [PO g p] fun v m => v = toV (doT p x) ∧ m = [PO g (doP p x)] := by
  refine tri_of Tryz.func7 rfl rfl fun F => ?_
  simp only [Tryz.ntmps7, argEnv, List.cons_append, List.nil_append]
  have hs := hw.sorted
  have h6 := hw.h6
  have ho := hw.open_
  have hlast := hw.lastr
  have hids := hw.idsl
  have hnow := hx.2.1
  have hsi := hw.since
  obtain ⟨d, se, id, e, now, nn⟩ := x
  obtain ⟨most, idle, wm, last, L, cs⟩ := p
  simp only at hs h6 ho hlast hids hnow hsi ⊢
  by_cases hi0 : d = 0
  · simp only [doT, doP, if_pos hi0]
    refine at_seq_k (fun K0 hK0 => ?_)
    refine at_region ?_
    refine at_t (ot_boxA rfl rfl) rfl rfl rfl ?_
    rintro _ _ ⟨g0, rfl, rfl⟩
    refine at_t (ot_allocA rfl Tryz.zeroValue35) rfl rfl rfl ?_
    rintro _ _ ⟨g1, rfl, rfl⟩
    refine at_nil ?_
    refine at_normal ?_
    refine hK0 _ _ _ ?_
    refine at_seq_k (fun K1 hK1 => ?_)
    refine at_region ?_
    refine at_t (ot_allocA rfl Tryz.zeroValue35) rfl rfl rfl ?_
    rintro _ _ ⟨g2, rfl, rfl⟩
    refine at_nil ?_
    refine at_normal ?_
    refine hK1 _ _ _ ?_
    refine at_seq_k (fun K2 hK2 => ?_)
    refine at_seq_k (fun K3 hK3 => ?_)
    refine at_region ?_
    refine at_v (ov_fieldAddr (k := 0) (r := 0) rfl rfl rfl rfl) rfl rfl rfl ?_
    refine at_v (ov_load rfl rfl rfl (fun _ s => s.ld (k := 2) rfl rfl)) rfl rfl rfl ?_
    refine at_nil ?_
    refine at_normal ?_
    refine hK3 _ _ _ ?_
    refine at_block ?_
    refine at_seq_k (fun K4 hK4 => ?_)
    refine at_region ?_
    refine at_v (ov_int rfl rfl rfl rfl) rfl rfl rfl ?_
    refine at_v (ov_assign rfl rfl) rfl rfl rfl ?_
    refine at_nil ?_
    refine at_normal ?_
    refine hK4 _ _ _ ?_
    refine at_cond_true (congrArg (fun b => some (Value.bool b)) (show _ = true from decide_eq_true (by omega))) ?_
    refine at_region ?_
    refine at_v (ov_move rfl rfl) rfl rfl rfl ?_
    refine at_v (ov_fieldAddr (k := 1) (r := 1) rfl rfl rfl rfl) rfl rfl rfl ?_
    refine at_v (ov_load rfl rfl rfl (fun _ s => s.ld (k := 2) rfl rfl)) rfl rfl rfl ?_
    refine at_v (ov_fieldAddr (k := 3) (r := 3) rfl rfl rfl rfl) rfl rfl rfl ?_
    refine at_v (ov_load rfl rfl rfl (fun _ s => s.ld (k := 2) rfl rfl)) rfl rfl rfl ?_
    refine at_v (ov_fieldAddr (k := 4) (r := 4) rfl rfl rfl rfl) rfl rfl rfl ?_
    refine at_v (ov_load rfl rfl rfl (fun _ s => s.ld (k := 2) rfl rfl)) rfl rfl rfl ?_
    refine at_t (ot_call (ks := [3]) rfl rfl rfl Tryz.call15 rfl (T15 _ _ _ _ (by first | assumption | rfl | omega | decide | (simp; done) | (simp at *; omega)) (by first | assumption | rfl | omega | decide | (simp; done) | (simp at *; omega)) (by first | assumption | rfl | omega | decide | (simp; done) | (simp at *; omega)) (by first | assumption | rfl | omega | decide | (simp; done) | (simp at *; omega)) (by first | assumption | rfl | omega | decide | (simp; done) | (simp at *; omega))) rfl) rfl rfl rfl ?_
    rintro v0 _ ⟨m0, hp0, rfl⟩
    obtain ⟨rfl, rfl⟩ := hp0
    simp only [List.cons_append, List.nil_append, splice, spliceL]
    refine at_v (ov_move rfl rfl) rfl rfl rfl ?_
    refine at_v (ov_extract rfl rfl rfl) rfl rfl rfl ?_
    refine at_v (ov_extract rfl rfl rfl) rfl rfl rfl ?_
    refine at_v (ov_fieldAddr (k := 0) (r := 0) rfl rfl rfl rfl) rfl rfl rfl ?_
    refine at_t0 (ot_store (k := 1) rfl rfl rfl rfl rfl rfl rfl) rfl rfl ?_
    rintro _ _ ⟨rfl, rfl⟩
    simp only [setAt, splice, spliceL, Value.cells]
    refine at_v (ov_fieldAddr (k := 4) (r := 4) rfl rfl rfl rfl) rfl rfl rfl ?_
    refine at_t0 (ot_store (k := 1) rfl rfl rfl rfl rfl rfl rfl) rfl rfl ?_
    rintro _ _ ⟨rfl, rfl⟩
    simp only [setAt, splice, spliceL, Value.cells]
    refine at_nil ?_
    refine at_inb_normal ?_
    refine at_normal ?_
    refine hK2 _ _ _ ?_
    refine at_seq_k (fun K5 hK5 => ?_)
    refine at_region ?_
    refine at_v (ov_loadS (cs := [_, _, _, _, _]) rfl rfl rfl rfl (fun _ s => s.lds (k := 1) rfl ⟨rfl, rfl, rfl, rfl, rfl, trivial⟩)) rfl rfl rfl ?_
    refine at_t0 (ot_store (k := 2) rfl rfl rfl rfl rfl rfl rfl) rfl rfl ?_
    rintro _ _ ⟨rfl, rfl⟩
    simp only [setAt, splice, spliceL, Value.cells]
    refine at_nil ?_
    refine at_normal ?_
    refine hK5 _ _ _ ?_
    refine at_ret ?_
    refine at_end ?_
    refine at_fin (rsV rfl (res_cellS (k := 2) (vs := [_, _, _, _, _]) rfl rfl rfl rfl ⟨rfl, rfl, rfl, rfl, rfl, trivial⟩)) ?_
    refine ⟨_, ⟨rfl, rfl⟩, ?_⟩
    exact fun _ s => s.finEq (ks := [0]) (js := [0, 0, 0]) rfl rfl rfl
  by_cases hi1 : d = 1
  · simp only [doT, doP, if_neg hi0, if_pos hi1]
    refine at_seq_k (fun K0 hK0 => ?_)
    refine at_region ?_
    refine at_t (ot_boxA rfl rfl) rfl rfl rfl ?_
    rintro _ _ ⟨g0, rfl, rfl⟩
    refine at_t (ot_allocA rfl Tryz.zeroValue35) rfl rfl rfl ?_
    rintro _ _ ⟨g1, rfl, rfl⟩
    refine at_nil ?_
    refine at_normal ?_
    refine hK0 _ _ _ ?_
    refine at_seq_k (fun K1 hK1 => ?_)
    refine at_region ?_
    refine at_t (ot_allocA rfl Tryz.zeroValue35) rfl rfl rfl ?_
    rintro _ _ ⟨g2, rfl, rfl⟩
    refine at_nil ?_
    refine at_normal ?_
    refine hK1 _ _ _ ?_
    refine at_seq_k (fun K2 hK2 => ?_)
    refine at_seq_k (fun K3 hK3 => ?_)
    refine at_region ?_
    refine at_v (ov_fieldAddr (k := 0) (r := 0) rfl rfl rfl rfl) rfl rfl rfl ?_
    refine at_v (ov_load rfl rfl rfl (fun _ s => s.ld (k := 2) rfl rfl)) rfl rfl rfl ?_
    refine at_nil ?_
    refine at_normal ?_
    refine hK3 _ _ _ ?_
    refine at_block ?_
    refine at_seq_k (fun K4 hK4 => ?_)
    refine at_region ?_
    refine at_v (ov_int rfl rfl rfl rfl) rfl rfl rfl ?_
    refine at_v (ov_assign rfl rfl) rfl rfl rfl ?_
    refine at_nil ?_
    refine at_normal ?_
    refine hK4 _ _ _ ?_
    refine at_cond_false (congrArg (fun b => some (Value.bool b)) (show _ = false from decide_eq_false (by omega))) ?_
    refine at_seq_k (fun K5 hK5 => ?_)
    refine at_region ?_
    refine at_v (ov_int rfl rfl rfl rfl) rfl rfl rfl ?_
    refine at_v (ov_assign rfl rfl) rfl rfl rfl ?_
    refine at_nil ?_
    refine at_normal ?_
    refine hK5 _ _ _ ?_
    refine at_cond_true (congrArg (fun b => some (Value.bool b)) (show _ = true from decide_eq_true (by omega))) ?_
    refine at_region ?_
    refine at_v (ov_move rfl rfl) rfl rfl rfl ?_
    refine at_v (ov_fieldAddr (k := 3) (r := 3) rfl rfl rfl rfl) rfl rfl rfl ?_
    refine at_v (ov_load rfl rfl rfl (fun _ s => s.ld (k := 2) rfl rfl)) rfl rfl rfl ?_
    refine at_v (ov_fieldAddr (k := 4) (r := 4) rfl rfl rfl rfl) rfl rfl rfl ?_
    refine at_v (ov_load rfl rfl rfl (fun _ s => s.ld (k := 2) rfl rfl)) rfl rfl rfl ?_
    refine at_t (ot_call (ks := [3]) rfl rfl rfl Tryz.call19 rfl (T19 _ _ _ (by first | assumption | rfl | omega | decide | (simp; done) | (simp at *; omega)) (by first | assumption | rfl | omega | decide | (simp; done) | (simp at *; omega)) (by first | assumption | rfl | omega | decide | (simp; done) | (simp at *; omega)) (by first | assumption | rfl | omega | decide | (simp; done) | (simp at *; omega)) (by first | assumption | rfl | omega | decide | (simp; done) | (simp at *; omega))) rfl) rfl rfl rfl ?_
    rintro v0 _ ⟨m0, hp0, rfl⟩
    obtain ⟨rfl, rfl⟩ := hp0
    simp only [List.cons_append, List.nil_append, splice, spliceL]
    refine at_v (ov_move rfl rfl) rfl rfl rfl ?_
    refine at_v (ov_extract rfl rfl rfl) rfl rfl rfl ?_
    refine at_v (ov_extract rfl rfl rfl) rfl rfl rfl ?_
    refine at_v (ov_extract rfl rfl rfl) rfl rfl rfl ?_
    refine at_v (ov_fieldAddr (k := 0) (r := 0) rfl rfl rfl rfl) rfl rfl rfl ?_
    refine at_t0 (ot_store (k := 1) rfl rfl rfl rfl rfl rfl rfl) rfl rfl ?_
    rintro _ _ ⟨rfl, rfl⟩
    simp only [setAt, splice, spliceL, Value.cells]
    refine at_v (ov_fieldAddr (k := 1) (r := 1) rfl rfl rfl rfl) rfl rfl rfl ?_
    refine at_t0 (ot_store (k := 1) rfl rfl rfl rfl rfl rfl rfl) rfl rfl ?_
    rintro _ _ ⟨rfl, rfl⟩
    simp only [setAt, splice, spliceL, Value.cells]
    refine at_v (ov_fieldAddr (k := 3) (r := 3) rfl rfl rfl rfl) rfl rfl rfl ?_
    refine at_t0 (ot_store (k := 1) rfl rfl rfl rfl rfl rfl rfl) rfl rfl ?_
    rintro _ _ ⟨rfl, rfl⟩
    simp only [setAt, splice, spliceL, Value.cells]
    refine at_nil ?_
    refine at_inb_normal ?_
    refine at_normal ?_
    refine hK2 _ _ _ ?_
    refine at_seq_k (fun K6 hK6 => ?_)
    refine at_region ?_
    refine at_v (ov_loadS (cs := [_, _, _, _, _]) rfl rfl rfl rfl (fun _ s => s.lds (k := 1) rfl ⟨rfl, rfl, rfl, rfl, rfl, trivial⟩)) rfl rfl rfl ?_
    refine at_t0 (ot_store (k := 2) rfl rfl rfl rfl rfl rfl rfl) rfl rfl ?_
    rintro _ _ ⟨rfl, rfl⟩
    simp only [setAt, splice, spliceL, Value.cells]
    refine at_nil ?_
    refine at_normal ?_
    refine hK6 _ _ _ ?_
    refine at_ret ?_
    refine at_end ?_
    refine at_fin (rsV rfl (res_cellS (k := 2) (vs := [_, _, _, _, _]) rfl rfl rfl rfl ⟨rfl, rfl, rfl, rfl, rfl, trivial⟩)) ?_
    refine ⟨_, ⟨rfl, rfl⟩, ?_⟩
    exact fun _ s => s.finEq (ks := [0]) (js := [0, 0, 0]) rfl rfl rfl
  by_cases hi2 : d = 2
  · simp only [doT, doP, if_neg hi0, if_neg hi1, if_pos hi2]
    refine at_seq_k (fun K0 hK0 => ?_)
    refine at_region ?_
    refine at_t (ot_boxA rfl rfl) rfl rfl rfl ?_
    rintro _ _ ⟨g0, rfl, rfl⟩
    refine at_t (ot_allocA rfl Tryz.zeroValue35) rfl rfl rfl ?_
    rintro _ _ ⟨g1, rfl, rfl⟩
    refine at_nil ?_
    refine at_normal ?_
    refine hK0 _ _ _ ?_
    refine at_seq_k (fun K1 hK1 => ?_)
    refine at_region ?_
    refine at_t (ot_allocA rfl Tryz.zeroValue35) rfl rfl rfl ?_
    rintro _ _ ⟨g2, rfl, rfl⟩
    refine at_nil ?_
    refine at_normal ?_
    refine hK1 _ _ _ ?_
    refine at_seq_k (fun K2 hK2 => ?_)
    refine at_seq_k (fun K3 hK3 => ?_)
    refine at_region ?_
    refine at_v (ov_fieldAddr (k := 0) (r := 0) rfl rfl rfl rfl) rfl rfl rfl ?_
    refine at_v (ov_load rfl rfl rfl (fun _ s => s.ld (k := 2) rfl rfl)) rfl rfl rfl ?_
    refine at_nil ?_
    refine at_normal ?_
    refine hK3 _ _ _ ?_
    refine at_block ?_
    refine at_seq_k (fun K4 hK4 => ?_)
    refine at_region ?_
    refine at_v (ov_int rfl rfl rfl rfl) rfl rfl rfl ?_
    refine at_v (ov_assign rfl rfl) rfl rfl rfl ?_
    refine at_nil ?_
    refine at_normal ?_
    refine hK4 _ _ _ ?_
    refine at_cond_false (congrArg (fun b => some (Value.bool b)) (show _ = false from decide_eq_false (by omega))) ?_
    refine at_seq_k (fun K5 hK5 => ?_)
    refine at_region ?_
    refine at_v (ov_int rfl rfl rfl rfl) rfl rfl rfl ?_
    refine at_v (ov_assign rfl rfl) rfl rfl rfl ?_
    refine at_nil ?_
    refine at_normal ?_
    refine hK5 _ _ _ ?_
    refine at_cond_false (congrArg (fun b => some (Value.bool b)) (show _ = false from decide_eq_false (by omega))) ?_
    refine at_seq_k (fun K6 hK6 => ?_)
    refine at_region ?_
    refine at_v (ov_int rfl rfl rfl rfl) rfl rfl rfl ?_
    refine at_v (ov_assign rfl rfl) rfl rfl rfl ?_
    refine at_nil ?_
    refine at_normal ?_
    refine hK6 _ _ _ ?_
    refine at_cond_true (congrArg (fun b => some (Value.bool b)) (show _ = true from decide_eq_true (by omega))) ?_
    refine at_region ?_
    refine at_v (ov_move rfl rfl) rfl rfl rfl ?_
    refine at_v (ov_fieldAddr (k := 1) (r := 1) rfl rfl rfl rfl) rfl rfl rfl ?_
    refine at_v (ov_load rfl rfl rfl (fun _ s => s.ld (k := 2) rfl rfl)) rfl rfl rfl ?_
    refine at_t (ot_call (ks := [3]) rfl rfl rfl Tryz.call22 rfl (T22 _ _) rfl) rfl rfl rfl ?_
    rintro v0 _ ⟨m0, hp0, rfl⟩
    obtain ⟨rfl, rfl⟩ := hp0
    simp only [List.cons_append, List.nil_append, splice, spliceL]
    refine at_v (ov_fieldAddr (k := 3) (r := 3) rfl rfl rfl rfl) rfl rfl rfl ?_
    refine at_t0 (ot_store (k := 1) rfl rfl rfl rfl rfl rfl rfl) rfl rfl ?_
    rintro _ _ ⟨rfl, rfl⟩
    simp only [setAt, splice, spliceL, Value.cells]
    refine at_nil ?_
    refine at_inb_normal ?_
    refine at_normal ?_
    refine hK2 _ _ _ ?_
    refine at_seq_k (fun K7 hK7 => ?_)
    refine at_region ?_
    refine at_v (ov_loadS (cs := [_, _, _, _, _]) rfl rfl rfl rfl (fun _ s => s.lds (k := 1) rfl ⟨rfl, rfl, rfl, rfl, rfl, trivial⟩)) rfl rfl rfl ?_
    refine at_t0 (ot_store (k := 2) rfl rfl rfl rfl rfl rfl rfl) rfl rfl ?_
    rintro _ _ ⟨rfl, rfl⟩
    simp only [setAt, splice, spliceL, Value.cells]
    refine at_nil ?_
    refine at_normal ?_
    refine hK7 _ _ _ ?_
    refine at_ret ?_
    refine at_end ?_
    refine at_fin (rsV rfl (res_cellS (k := 2) (vs := [_, _, _, _, _]) rfl rfl rfl rfl ⟨rfl, rfl, rfl, rfl, rfl, trivial⟩)) ?_
    refine ⟨_, ⟨rfl, rfl⟩, ?_⟩
    exact fun _ s => s.finEq (ks := [0]) (js := [0, 0, 0]) rfl rfl rfl
  by_cases hi3 : d = 3
  · simp only [doT, doP, if_neg hi0, if_neg hi1, if_neg hi2, if_pos hi3]
    refine at_seq_k (fun K0 hK0 => ?_)
    refine at_region ?_
    refine at_t (ot_boxA rfl rfl) rfl rfl rfl ?_
    rintro _ _ ⟨g0, rfl, rfl⟩
    refine at_t (ot_allocA rfl Tryz.zeroValue35) rfl rfl rfl ?_
    rintro _ _ ⟨g1, rfl, rfl⟩
    refine at_nil ?_
    refine at_normal ?_
    refine hK0 _ _ _ ?_
    refine at_seq_k (fun K1 hK1 => ?_)
    refine at_region ?_
    refine at_t (ot_allocA rfl Tryz.zeroValue35) rfl rfl rfl ?_
    rintro _ _ ⟨g2, rfl, rfl⟩
    refine at_nil ?_
    refine at_normal ?_
    refine hK1 _ _ _ ?_
    refine at_seq_k (fun K2 hK2 => ?_)
    refine at_seq_k (fun K3 hK3 => ?_)
    refine at_region ?_
    refine at_v (ov_fieldAddr (k := 0) (r := 0) rfl rfl rfl rfl) rfl rfl rfl ?_
    refine at_v (ov_load rfl rfl rfl (fun _ s => s.ld (k := 2) rfl rfl)) rfl rfl rfl ?_
    refine at_nil ?_
    refine at_normal ?_
    refine hK3 _ _ _ ?_
    refine at_block ?_
    refine at_seq_k (fun K4 hK4 => ?_)
    refine at_region ?_
    refine at_v (ov_int rfl rfl rfl rfl) rfl rfl rfl ?_
    refine at_v (ov_assign rfl rfl) rfl rfl rfl ?_
    refine at_nil ?_
    refine at_normal ?_
    refine hK4 _ _ _ ?_
    refine at_cond_false (congrArg (fun b => some (Value.bool b)) (show _ = false from decide_eq_false (by omega))) ?_
    refine at_seq_k (fun K5 hK5 => ?_)
    refine at_region ?_
    refine at_v (ov_int rfl rfl rfl rfl) rfl rfl rfl ?_
    refine at_v (ov_assign rfl rfl) rfl rfl rfl ?_
    refine at_nil ?_
    refine at_normal ?_
    refine hK5 _ _ _ ?_
    refine at_cond_false (congrArg (fun b => some (Value.bool b)) (show _ = false from decide_eq_false (by omega))) ?_
    refine at_seq_k (fun K6 hK6 => ?_)
    refine at_region ?_
    refine at_v (ov_int rfl rfl rfl rfl) rfl rfl rfl ?_
    refine at_v (ov_assign rfl rfl) rfl rfl rfl ?_
    refine at_nil ?_
    refine at_normal ?_
    refine hK6 _ _ _ ?_
    refine at_cond_false (congrArg (fun b => some (Value.bool b)) (show _ = false from decide_eq_false (by omega))) ?_
    refine at_seq_k (fun K7 hK7 => ?_)
    refine at_region ?_
    refine at_v (ov_int rfl rfl rfl rfl) rfl rfl rfl ?_
    refine at_v (ov_assign rfl rfl) rfl rfl rfl ?_
    refine at_nil ?_
    refine at_normal ?_
    refine hK7 _ _ _ ?_
    refine at_cond_true (congrArg (fun b => some (Value.bool b)) (show _ = true from decide_eq_true (by omega))) ?_
    refine at_region ?_
    refine at_v (ov_move rfl rfl) rfl rfl rfl ?_
    refine at_v (ov_fieldAddr (k := 2) (r := 2) rfl rfl rfl rfl) rfl rfl rfl ?_
    refine at_v (ov_load rfl rfl rfl (fun _ s => s.ld (k := 2) rfl rfl)) rfl rfl rfl ?_
    refine at_v (ov_fieldAddr (k := 5) (r := 5) rfl rfl rfl rfl) rfl rfl rfl ?_
    refine at_v (ov_load rfl rfl rfl (fun _ s => s.ld (k := 2) rfl rfl)) rfl rfl rfl ?_
    refine at_t (ot_call (ks := [3]) rfl rfl rfl Tryz.call16 rfl (T16 _ _ _) rfl) rfl rfl rfl ?_
    rintro v0 _ ⟨m0, hp0, rfl⟩
    obtain ⟨rfl, rfl⟩ := hp0
    simp only [List.cons_append, List.nil_append, splice, spliceL]
    refine at_v (ov_fieldAddr (k := 4) (r := 4) rfl rfl rfl rfl) rfl rfl rfl ?_
    refine at_t0 (ot_store (k := 1) rfl rfl rfl rfl rfl rfl rfl) rfl rfl ?_
    rintro _ _ ⟨rfl, rfl⟩
    simp only [setAt, splice, spliceL, Value.cells]
    refine at_nil ?_
    refine at_inb_normal ?_
    refine at_normal ?_
    refine hK2 _ _ _ ?_
    refine at_seq_k (fun K8 hK8 => ?_)
    refine at_region ?_
    refine at_v (ov_loadS (cs := [_, _, _, _, _]) rfl rfl rfl rfl (fun _ s => s.lds (k := 1) rfl ⟨rfl, rfl, rfl, rfl, rfl, trivial⟩)) rfl rfl rfl ?_
    refine at_t0 (ot_store (k := 2) rfl rfl rfl rfl rfl rfl rfl) rfl rfl ?_
    rintro _ _ ⟨rfl, rfl⟩
    simp only [setAt, splice, spliceL, Value.cells]
    refine at_nil ?_
    refine at_normal ?_
    refine hK8 _ _ _ ?_
    refine at_ret ?_
    refine at_end ?_
    refine at_fin (rsV rfl (res_cellS (k := 2) (vs := [_, _, _, _, _]) rfl rfl rfl rfl ⟨rfl, rfl, rfl, rfl, rfl, trivial⟩)) ?_
    refine ⟨_, ⟨rfl, rfl⟩, ?_⟩
    exact fun _ s => s.finEq (ks := [0]) (js := [0, 0, 0]) rfl rfl rfl
  by_cases hi4 : d = 4
  · simp only [doT, doP, if_neg hi0, if_neg hi1, if_neg hi2, if_neg hi3, if_pos hi4]
    refine at_seq_k (fun K0 hK0 => ?_)
    refine at_region ?_
    refine at_t (ot_boxA rfl rfl) rfl rfl rfl ?_
    rintro _ _ ⟨g0, rfl, rfl⟩
    refine at_t (ot_allocA rfl Tryz.zeroValue35) rfl rfl rfl ?_
    rintro _ _ ⟨g1, rfl, rfl⟩
    refine at_nil ?_
    refine at_normal ?_
    refine hK0 _ _ _ ?_
    refine at_seq_k (fun K1 hK1 => ?_)
    refine at_region ?_
    refine at_t (ot_allocA rfl Tryz.zeroValue35) rfl rfl rfl ?_
    rintro _ _ ⟨g2, rfl, rfl⟩
    refine at_nil ?_
    refine at_normal ?_
    refine hK1 _ _ _ ?_
    refine at_seq_k (fun K2 hK2 => ?_)
    refine at_seq_k (fun K3 hK3 => ?_)
    refine at_region ?_
    refine at_v (ov_fieldAddr (k := 0) (r := 0) rfl rfl rfl rfl) rfl rfl rfl ?_
    refine at_v (ov_load rfl rfl rfl (fun _ s => s.ld (k := 2) rfl rfl)) rfl rfl rfl ?_
    refine at_nil ?_
    refine at_normal ?_
    refine hK3 _ _ _ ?_
    refine at_block ?_
    refine at_seq_k (fun K4 hK4 => ?_)
    refine at_region ?_
    refine at_v (ov_int rfl rfl rfl rfl) rfl rfl rfl ?_
    refine at_v (ov_assign rfl rfl) rfl rfl rfl ?_
    refine at_nil ?_
    refine at_normal ?_
    refine hK4 _ _ _ ?_
    refine at_cond_false (congrArg (fun b => some (Value.bool b)) (show _ = false from decide_eq_false (by omega))) ?_
    refine at_seq_k (fun K5 hK5 => ?_)
    refine at_region ?_
    refine at_v (ov_int rfl rfl rfl rfl) rfl rfl rfl ?_
    refine at_v (ov_assign rfl rfl) rfl rfl rfl ?_
    refine at_nil ?_
    refine at_normal ?_
    refine hK5 _ _ _ ?_
    refine at_cond_false (congrArg (fun b => some (Value.bool b)) (show _ = false from decide_eq_false (by omega))) ?_
    refine at_seq_k (fun K6 hK6 => ?_)
    refine at_region ?_
    refine at_v (ov_int rfl rfl rfl rfl) rfl rfl rfl ?_
    refine at_v (ov_assign rfl rfl) rfl rfl rfl ?_
    refine at_nil ?_
    refine at_normal ?_
    refine hK6 _ _ _ ?_
    refine at_cond_false (congrArg (fun b => some (Value.bool b)) (show _ = false from decide_eq_false (by omega))) ?_
    refine at_seq_k (fun K7 hK7 => ?_)
    refine at_region ?_
    refine at_v (ov_int rfl rfl rfl rfl) rfl rfl rfl ?_
    refine at_v (ov_assign rfl rfl) rfl rfl rfl ?_
    refine at_nil ?_
    refine at_normal ?_
    refine hK7 _ _ _ ?_
    refine at_cond_false (congrArg (fun b => some (Value.bool b)) (show _ = false from decide_eq_false (by omega))) ?_
    refine at_seq_k (fun K8 hK8 => ?_)
    refine at_region ?_
    refine at_v (ov_int rfl rfl rfl rfl) rfl rfl rfl ?_
    refine at_v (ov_assign rfl rfl) rfl rfl rfl ?_
    refine at_nil ?_
    refine at_normal ?_
    refine hK8 _ _ _ ?_
    refine at_cond_true (congrArg (fun b => some (Value.bool b)) (show _ = true from decide_eq_true (by omega))) ?_
    refine at_region ?_
    refine at_v (ov_move rfl rfl) rfl rfl rfl ?_
    refine at_v (ov_fieldAddr (k := 2) (r := 2) rfl rfl rfl rfl) rfl rfl rfl ?_
    refine at_v (ov_load rfl rfl rfl (fun _ s => s.ld (k := 2) rfl rfl)) rfl rfl rfl ?_
    refine at_v (ov_fieldAddr (k := 5) (r := 5) rfl rfl rfl rfl) rfl rfl rfl ?_
    refine at_v (ov_load rfl rfl rfl (fun _ s => s.ld (k := 2) rfl rfl)) rfl rfl rfl ?_
    refine at_t (ot_call (ks := [3]) rfl rfl rfl Tryz.call17 rfl (T17 _ _ _) rfl) rfl rfl rfl ?_
    rintro v0 _ ⟨m0, hp0, rfl⟩
    obtain ⟨rfl, rfl⟩ := hp0
    simp only [List.cons_append, List.nil_append, splice, spliceL]
    refine at_v (ov_fieldAddr (k := 3) (r := 3) rfl rfl rfl rfl) rfl rfl rfl ?_
    refine at_t0 (ot_store (k := 1) rfl rfl rfl rfl rfl rfl rfl) rfl rfl ?_
    rintro _ _ ⟨rfl, rfl⟩
    simp only [setAt, splice, spliceL, Value.cells]
    refine at_nil ?_
    refine at_inb_normal ?_
    refine at_normal ?_
    refine hK2 _ _ _ ?_
    refine at_seq_k (fun K9 hK9 => ?_)
    refine at_region ?_
    refine at_v (ov_loadS (cs := [_, _, _, _, _]) rfl rfl rfl rfl (fun _ s => s.lds (k := 1) rfl ⟨rfl, rfl, rfl, rfl, rfl, trivial⟩)) rfl rfl rfl ?_
    refine at_t0 (ot_store (k := 2) rfl rfl rfl rfl rfl rfl rfl) rfl rfl ?_
    rintro _ _ ⟨rfl, rfl⟩
    simp only [setAt, splice, spliceL, Value.cells]
    refine at_nil ?_
    refine at_normal ?_
    refine hK9 _ _ _ ?_
    refine at_ret ?_
    refine at_end ?_
    refine at_fin (rsV rfl (res_cellS (k := 2) (vs := [_, _, _, _, _]) rfl rfl rfl rfl ⟨rfl, rfl, rfl, rfl, rfl, trivial⟩)) ?_
    refine ⟨_, ⟨rfl, rfl⟩, ?_⟩
    exact fun _ s => s.finEq (ks := [0]) (js := [0, 0, 0]) rfl rfl rfl
  by_cases hi5 : d = 5
  · simp only [doT, doP, if_neg hi0, if_neg hi1, if_neg hi2, if_neg hi3, if_neg hi4, if_pos hi5]
    refine at_seq_k (fun K0 hK0 => ?_)
    refine at_region ?_
    refine at_t (ot_boxA rfl rfl) rfl rfl rfl ?_
    rintro _ _ ⟨g0, rfl, rfl⟩
    refine at_t (ot_allocA rfl Tryz.zeroValue35) rfl rfl rfl ?_
    rintro _ _ ⟨g1, rfl, rfl⟩
    refine at_nil ?_
    refine at_normal ?_
    refine hK0 _ _ _ ?_
    refine at_seq_k (fun K1 hK1 => ?_)
    refine at_region ?_
    refine at_t (ot_allocA rfl Tryz.zeroValue35) rfl rfl rfl ?_
    rintro _ _ ⟨g2, rfl, rfl⟩
    refine at_nil ?_
    refine at_normal ?_
    refine hK1 _ _ _ ?_
    refine at_seq_k (fun K2 hK2 => ?_)
    refine at_seq_k (fun K3 hK3 => ?_)
    refine at_region ?_
    refine at_v (ov_fieldAddr (k := 0) (r := 0) rfl rfl rfl rfl) rfl rfl rfl ?_
    refine at_v (ov_load rfl rfl rfl (fun _ s => s.ld (k := 2) rfl rfl)) rfl rfl rfl ?_
    refine at_nil ?_
    refine at_normal ?_
    refine hK3 _ _ _ ?_
    refine at_block ?_
    refine at_seq_k (fun K4 hK4 => ?_)
    refine at_region ?_
    refine at_v (ov_int rfl rfl rfl rfl) rfl rfl rfl ?_
    refine at_v (ov_assign rfl rfl) rfl rfl rfl ?_
    refine at_nil ?_
    refine at_normal ?_
    refine hK4 _ _ _ ?_
    refine at_cond_false (congrArg (fun b => some (Value.bool b)) (show _ = false from decide_eq_false (by omega))) ?_
    refine at_seq_k (fun K5 hK5 => ?_)
    refine at_region ?_
    refine at_v (ov_int rfl rfl rfl rfl) rfl rfl rfl ?_
    refine at_v (ov_assign rfl rfl) rfl rfl rfl ?_
    refine at_nil ?_
    refine at_normal ?_
    refine hK5 _ _ _ ?_
    refine at_cond_false (congrArg (fun b => some (Value.bool b)) (show _ = false from decide_eq_false (by omega))) ?_
    refine at_seq_k (fun K6 hK6 => ?_)
    refine at_region ?_
    refine at_v (ov_int rfl rfl rfl rfl) rfl rfl rfl ?_
    refine at_v (ov_assign rfl rfl) rfl rfl rfl ?_
    refine at_nil ?_
    refine at_normal ?_
    refine hK6 _ _ _ ?_
    refine at_cond_false (congrArg (fun b => some (Value.bool b)) (show _ = false from decide_eq_false (by omega))) ?_
    refine at_seq_k (fun K7 hK7 => ?_)
    refine at_region ?_
    refine at_v (ov_int rfl rfl rfl rfl) rfl rfl rfl ?_
    refine at_v (ov_assign rfl rfl) rfl rfl rfl ?_
    refine at_nil ?_
    refine at_normal ?_
    refine hK7 _ _ _ ?_
    refine at_cond_false (congrArg (fun b => some (Value.bool b)) (show _ = false from decide_eq_false (by omega))) ?_
    refine at_seq_k (fun K8 hK8 => ?_)
    refine at_region ?_
    refine at_v (ov_int rfl rfl rfl rfl) rfl rfl rfl ?_
    refine at_v (ov_assign rfl rfl) rfl rfl rfl ?_
    refine at_nil ?_
    refine at_normal ?_
    refine hK8 _ _ _ ?_
    refine at_cond_false (congrArg (fun b => some (Value.bool b)) (show _ = false from decide_eq_false (by omega))) ?_
    refine at_seq_k (fun K9 hK9 => ?_)
    refine at_region ?_
    refine at_v (ov_int rfl rfl rfl rfl) rfl rfl rfl ?_
    refine at_v (ov_assign rfl rfl) rfl rfl rfl ?_
    refine at_nil ?_
    refine at_normal ?_
    refine hK9 _ _ _ ?_
    refine at_cond_true (congrArg (fun b => some (Value.bool b)) (show _ = true from decide_eq_true (by omega))) ?_
    refine at_region ?_
    refine at_v (ov_move rfl rfl) rfl rfl rfl ?_
    refine at_v (ov_fieldAddr (k := 2) (r := 2) rfl rfl rfl rfl) rfl rfl rfl ?_
    refine at_v (ov_load rfl rfl rfl (fun _ s => s.ld (k := 2) rfl rfl)) rfl rfl rfl ?_
    refine at_t (ot_call (ks := [3]) rfl rfl rfl Tryz.call23 rfl (T23 _ _) rfl) rfl rfl rfl ?_
    rintro v0 _ ⟨m0, hp0, rfl⟩
    obtain ⟨rfl, rfl⟩ := hp0
    simp only [List.cons_append, List.nil_append, splice, spliceL]
    refine at_v (ov_fieldAddr (k := 3) (r := 3) rfl rfl rfl rfl) rfl rfl rfl ?_
    refine at_t0 (ot_store (k := 1) rfl rfl rfl rfl rfl rfl rfl) rfl rfl ?_
    rintro _ _ ⟨rfl, rfl⟩
    simp only [setAt, splice, spliceL, Value.cells]
    refine at_nil ?_
    refine at_inb_normal ?_
    refine at_normal ?_
    refine hK2 _ _ _ ?_
    refine at_seq_k (fun K10 hK10 => ?_)
    refine at_region ?_
    refine at_v (ov_loadS (cs := [_, _, _, _, _]) rfl rfl rfl rfl (fun _ s => s.lds (k := 1) rfl ⟨rfl, rfl, rfl, rfl, rfl, trivial⟩)) rfl rfl rfl ?_
    refine at_t0 (ot_store (k := 2) rfl rfl rfl rfl rfl rfl rfl) rfl rfl ?_
    rintro _ _ ⟨rfl, rfl⟩
    simp only [setAt, splice, spliceL, Value.cells]
    refine at_nil ?_
    refine at_normal ?_
    refine hK10 _ _ _ ?_
    refine at_ret ?_
    refine at_end ?_
    refine at_fin (rsV rfl (res_cellS (k := 2) (vs := [_, _, _, _, _]) rfl rfl rfl rfl ⟨rfl, rfl, rfl, rfl, rfl, trivial⟩)) ?_
    refine ⟨_, ⟨rfl, rfl⟩, ?_⟩
    exact fun _ s => s.finEq (ks := [0]) (js := [0, 0, 0]) rfl rfl rfl
  by_cases hi6 : d = 6
  · simp only [doT, doP, if_neg hi0, if_neg hi1, if_neg hi2, if_neg hi3, if_neg hi4, if_neg hi5, if_pos hi6]
    refine at_seq_k (fun K0 hK0 => ?_)
    refine at_region ?_
    refine at_t (ot_boxA rfl rfl) rfl rfl rfl ?_
    rintro _ _ ⟨g0, rfl, rfl⟩
    refine at_t (ot_allocA rfl Tryz.zeroValue35) rfl rfl rfl ?_
    rintro _ _ ⟨g1, rfl, rfl⟩
    refine at_nil ?_
    refine at_normal ?_
    refine hK0 _ _ _ ?_
    refine at_seq_k (fun K1 hK1 => ?_)
    refine at_region ?_
    refine at_t (ot_allocA rfl Tryz.zeroValue35) rfl rfl rfl ?_
    rintro _ _ ⟨g2, rfl, rfl⟩
    refine at_nil ?_
    refine at_normal ?_
    refine hK1 _ _ _ ?_
    refine at_seq_k (fun K2 hK2 => ?_)
    refine at_seq_k (fun K3 hK3 => ?_)
    refine at_region ?_
    refine at_v (ov_fieldAddr (k := 0) (r := 0) rfl rfl rfl rfl) rfl rfl rfl ?_
    refine at_v (ov_load rfl rfl rfl (fun _ s => s.ld (k := 2) rfl rfl)) rfl rfl rfl ?_
    refine at_nil ?_
    refine at_normal ?_
    refine hK3 _ _ _ ?_
    refine at_block ?_
    refine at_seq_k (fun K4 hK4 => ?_)
    refine at_region ?_
    refine at_v (ov_int rfl rfl rfl rfl) rfl rfl rfl ?_
    refine at_v (ov_assign rfl rfl) rfl rfl rfl ?_
    refine at_nil ?_
    refine at_normal ?_
    refine hK4 _ _ _ ?_
    refine at_cond_false (congrArg (fun b => some (Value.bool b)) (show _ = false from decide_eq_false (by omega))) ?_
    refine at_seq_k (fun K5 hK5 => ?_)
    refine at_region ?_
    refine at_v (ov_int rfl rfl rfl rfl) rfl rfl rfl ?_
    refine at_v (ov_assign rfl rfl) rfl rfl rfl ?_
    refine at_nil ?_
    refine at_normal ?_
    refine hK5 _ _ _ ?_
    refine at_cond_false (congrArg (fun b => some (Value.bool b)) (show _ = false from decide_eq_false (by omega))) ?_
    refine at_seq_k (fun K6 hK6 => ?_)
    refine at_region ?_
    refine at_v (ov_int rfl rfl rfl rfl) rfl rfl rfl ?_
    refine at_v (ov_assign rfl rfl) rfl rfl rfl ?_
    refine at_nil ?_
    refine at_normal ?_
    refine hK6 _ _ _ ?_
    refine at_cond_false (congrArg (fun b => some (Value.bool b)) (show _ = false from decide_eq_false (by omega))) ?_
    refine at_seq_k (fun K7 hK7 => ?_)
    refine at_region ?_
    refine at_v (ov_int rfl rfl rfl rfl) rfl rfl rfl ?_
    refine at_v (ov_assign rfl rfl) rfl rfl rfl ?_
    refine at_nil ?_
    refine at_normal ?_
    refine hK7 _ _ _ ?_
    refine at_cond_false (congrArg (fun b => some (Value.bool b)) (show _ = false from decide_eq_false (by omega))) ?_
    refine at_seq_k (fun K8 hK8 => ?_)
    refine at_region ?_
    refine at_v (ov_int rfl rfl rfl rfl) rfl rfl rfl ?_
    refine at_v (ov_assign rfl rfl) rfl rfl rfl ?_
    refine at_nil ?_
    refine at_normal ?_
    refine hK8 _ _ _ ?_
    refine at_cond_false (congrArg (fun b => some (Value.bool b)) (show _ = false from decide_eq_false (by omega))) ?_
    refine at_seq_k (fun K9 hK9 => ?_)
    refine at_region ?_
    refine at_v (ov_int rfl rfl rfl rfl) rfl rfl rfl ?_
    refine at_v (ov_assign rfl rfl) rfl rfl rfl ?_
    refine at_nil ?_
    refine at_normal ?_
    refine hK9 _ _ _ ?_
    refine at_cond_false (congrArg (fun b => some (Value.bool b)) (show _ = false from decide_eq_false (by omega))) ?_
    refine at_seq_k (fun K10 hK10 => ?_)
    refine at_region ?_
    refine at_v (ov_int rfl rfl rfl rfl) rfl rfl rfl ?_
    refine at_v (ov_assign rfl rfl) rfl rfl rfl ?_
    refine at_nil ?_
    refine at_normal ?_
    refine hK10 _ _ _ ?_
    refine at_cond_true (congrArg (fun b => some (Value.bool b)) (show _ = true from decide_eq_true (by omega))) ?_
    refine at_region ?_
    refine at_v (ov_move rfl rfl) rfl rfl rfl ?_
    refine at_v (ov_fieldAddr (k := 2) (r := 2) rfl rfl rfl rfl) rfl rfl rfl ?_
    refine at_v (ov_load rfl rfl rfl (fun _ s => s.ld (k := 2) rfl rfl)) rfl rfl rfl ?_
    refine at_v (ov_fieldAddr (k := 4) (r := 4) rfl rfl rfl rfl) rfl rfl rfl ?_
    refine at_v (ov_load rfl rfl rfl (fun _ s => s.ld (k := 2) rfl rfl)) rfl rfl rfl ?_
    refine at_t (ot_call (ks := [3]) rfl rfl rfl Tryz.call18 rfl (T18 _ _ _) rfl) rfl rfl rfl ?_
    rintro v0 _ ⟨m0, hp0, rfl⟩
    obtain ⟨rfl, rfl⟩ := hp0
    simp only [List.cons_append, List.nil_append, splice, spliceL]
    refine at_v (ov_fieldAddr (k := 3) (r := 3) rfl rfl rfl rfl) rfl rfl rfl ?_
    refine at_t0 (ot_store (k := 1) rfl rfl rfl rfl rfl rfl rfl) rfl rfl ?_
    rintro _ _ ⟨rfl, rfl⟩
    simp only [setAt, splice, spliceL, Value.cells]
    refine at_nil ?_
    refine at_inb_normal ?_
    refine at_normal ?_
    refine hK2 _ _ _ ?_
    refine at_seq_k (fun K11 hK11 => ?_)
    refine at_region ?_
    refine at_v (ov_loadS (cs := [_, _, _, _, _]) rfl rfl rfl rfl (fun _ s => s.lds (k := 1) rfl ⟨rfl, rfl, rfl, rfl, rfl, trivial⟩)) rfl rfl rfl ?_
    refine at_t0 (ot_store (k := 2) rfl rfl rfl rfl rfl rfl rfl) rfl rfl ?_
    rintro _ _ ⟨rfl, rfl⟩
    simp only [setAt, splice, spliceL, Value.cells]
    refine at_nil ?_
    refine at_normal ?_
    refine hK11 _ _ _ ?_
    refine at_ret ?_
    refine at_end ?_
    refine at_fin (rsV rfl (res_cellS (k := 2) (vs := [_, _, _, _, _]) rfl rfl rfl rfl ⟨rfl, rfl, rfl, rfl, rfl, trivial⟩)) ?_
    refine ⟨_, ⟨rfl, rfl⟩, ?_⟩
    exact fun _ s => s.finEq (ks := [0]) (js := [0, 0, 0]) rfl rfl rfl
  by_cases hi7 : d = 7
  · simp only [doT, doP, if_neg hi0, if_neg hi1, if_neg hi2, if_neg hi3, if_neg hi4, if_neg hi5, if_neg hi6, if_pos hi7]
    refine at_seq_k (fun K0 hK0 => ?_)
    refine at_region ?_
    refine at_t (ot_boxA rfl rfl) rfl rfl rfl ?_
    rintro _ _ ⟨g0, rfl, rfl⟩
    refine at_t (ot_allocA rfl Tryz.zeroValue35) rfl rfl rfl ?_
    rintro _ _ ⟨g1, rfl, rfl⟩
    refine at_nil ?_
    refine at_normal ?_
    refine hK0 _ _ _ ?_
    refine at_seq_k (fun K1 hK1 => ?_)
    refine at_region ?_
    refine at_t (ot_allocA rfl Tryz.zeroValue35) rfl rfl rfl ?_
    rintro _ _ ⟨g2, rfl, rfl⟩
    refine at_nil ?_
    refine at_normal ?_
    refine hK1 _ _ _ ?_
    refine at_seq_k (fun K2 hK2 => ?_)
    refine at_seq_k (fun K3 hK3 => ?_)
    refine at_region ?_
    refine at_v (ov_fieldAddr (k := 0) (r := 0) rfl rfl rfl rfl) rfl rfl rfl ?_
    refine at_v (ov_load rfl rfl rfl (fun _ s => s.ld (k := 2) rfl rfl)) rfl rfl rfl ?_
    refine at_nil ?_
    refine at_normal ?_
    refine hK3 _ _ _ ?_
    refine at_block ?_
    refine at_seq_k (fun K4 hK4 => ?_)
    refine at_region ?_
    refine at_v (ov_int rfl rfl rfl rfl) rfl rfl rfl ?_
    refine at_v (ov_assign rfl rfl) rfl rfl rfl ?_
    refine at_nil ?_
    refine at_normal ?_
    refine hK4 _ _ _ ?_
    refine at_cond_false (congrArg (fun b => some (Value.bool b)) (show _ = false from decide_eq_false (by omega))) ?_
    refine at_seq_k (fun K5 hK5 => ?_)
    refine at_region ?_
    refine at_v (ov_int rfl rfl rfl rfl) rfl rfl rfl ?_
    refine at_v (ov_assign rfl rfl) rfl rfl rfl ?_
    refine at_nil ?_
    refine at_normal ?_
    refine hK5 _ _ _ ?_
    refine at_cond_false (congrArg (fun b => some (Value.bool b)) (show _ = false from decide_eq_false (by omega))) ?_
    refine at_seq_k (fun K6 hK6 => ?_)
    refine at_region ?_
    refine at_v (ov_int rfl rfl rfl rfl) rfl rfl rfl ?_
    refine at_v (ov_assign rfl rfl) rfl rfl rfl ?_
    refine at_nil ?_
    refine at_normal ?_
    refine hK6 _ _ _ ?_
    refine at_cond_false (congrArg (fun b => some (Value.bool b)) (show _ = false from decide_eq_false (by omega))) ?_
    refine at_seq_k (fun K7 hK7 => ?_)
    refine at_region ?_
    refine at_v (ov_int rfl rfl rfl rfl) rfl rfl rfl ?_
    refine at_v (ov_assign rfl rfl) rfl rfl rfl ?_
    refine at_nil ?_
    refine at_normal ?_
    refine hK7 _ _ _ ?_
    refine at_cond_false (congrArg (fun b => some (Value.bool b)) (show _ = false from decide_eq_false (by omega))) ?_
    refine at_seq_k (fun K8 hK8 => ?_)
    refine at_region ?_
    refine at_v (ov_int rfl rfl rfl rfl) rfl rfl rfl ?_
    refine at_v (ov_assign rfl rfl) rfl rfl rfl ?_
    refine at_nil ?_
    refine at_normal ?_
    refine hK8 _ _ _ ?_
    refine at_cond_false (congrArg (fun b => some (Value.bool b)) (show _ = false from decide_eq_false (by omega))) ?_
    refine at_seq_k (fun K9 hK9 => ?_)
    refine at_region ?_
    refine at_v (ov_int rfl rfl rfl rfl) rfl rfl rfl ?_
    refine at_v (ov_assign rfl rfl) rfl rfl rfl ?_
    refine at_nil ?_
    refine at_normal ?_
    refine hK9 _ _ _ ?_
    refine at_cond_false (congrArg (fun b => some (Value.bool b)) (show _ = false from decide_eq_false (by omega))) ?_
    refine at_seq_k (fun K10 hK10 => ?_)
    refine at_region ?_
    refine at_v (ov_int rfl rfl rfl rfl) rfl rfl rfl ?_
    refine at_v (ov_assign rfl rfl) rfl rfl rfl ?_
    refine at_nil ?_
    refine at_normal ?_
    refine hK10 _ _ _ ?_
    refine at_cond_false (congrArg (fun b => some (Value.bool b)) (show _ = false from decide_eq_false (by omega))) ?_
    refine at_seq_k (fun K11 hK11 => ?_)
    refine at_region ?_
    refine at_v (ov_int rfl rfl rfl rfl) rfl rfl rfl ?_
    refine at_v (ov_assign rfl rfl) rfl rfl rfl ?_
    refine at_nil ?_
    refine at_normal ?_
    refine hK11 _ _ _ ?_
    refine at_cond_true (congrArg (fun b => some (Value.bool b)) (show _ = true from decide_eq_true (by omega))) ?_
    refine at_region ?_
    refine at_v (ov_move rfl rfl) rfl rfl rfl ?_
    refine at_v (ov_fieldAddr (k := 2) (r := 2) rfl rfl rfl rfl) rfl rfl rfl ?_
    refine at_v (ov_load rfl rfl rfl (fun _ s => s.ld (k := 2) rfl rfl)) rfl rfl rfl ?_
    refine at_t (ot_call (ks := [3]) rfl rfl rfl Tryz.call24 rfl (T24 _ _) rfl) rfl rfl rfl ?_
    rintro v0 _ ⟨m0, hp0, rfl⟩
    obtain ⟨rfl, rfl⟩ := hp0
    simp only [List.cons_append, List.nil_append, splice, spliceL]
    refine at_v (ov_move rfl rfl) rfl rfl rfl ?_
    refine at_v (ov_extract rfl rfl rfl) rfl rfl rfl ?_
    refine at_v (ov_extract rfl rfl rfl) rfl rfl rfl ?_
    refine at_v (ov_extract rfl rfl rfl) rfl rfl rfl ?_
    refine at_v (ov_fieldAddr (k := 2) (r := 2) rfl rfl rfl rfl) rfl rfl rfl ?_
    refine at_t0 (ot_store (k := 1) rfl rfl rfl rfl rfl rfl rfl) rfl rfl ?_
    rintro _ _ ⟨rfl, rfl⟩
    simp only [setAt, splice, spliceL, Value.cells]
    refine at_v (ov_fieldAddr (k := 0) (r := 0) rfl rfl rfl rfl) rfl rfl rfl ?_
    refine at_t0 (ot_store (k := 1) rfl rfl rfl rfl rfl rfl rfl) rfl rfl ?_
    rintro _ _ ⟨rfl, rfl⟩
    simp only [setAt, splice, spliceL, Value.cells]
    refine at_v (ov_fieldAddr (k := 3) (r := 3) rfl rfl rfl rfl) rfl rfl rfl ?_
    refine at_t0 (ot_store (k := 1) rfl rfl rfl rfl rfl rfl rfl) rfl rfl ?_
    rintro _ _ ⟨rfl, rfl⟩
    simp only [setAt, splice, spliceL, Value.cells]
    refine at_nil ?_
    refine at_inb_normal ?_
    refine at_normal ?_
    refine hK2 _ _ _ ?_
    refine at_seq_k (fun K12 hK12 => ?_)
    refine at_region ?_
    refine at_v (ov_loadS (cs := [_, _, _, _, _]) rfl rfl rfl rfl (fun _ s => s.lds (k := 1) rfl ⟨rfl, rfl, rfl, rfl, rfl, trivial⟩)) rfl rfl rfl ?_
    refine at_t0 (ot_store (k := 2) rfl rfl rfl rfl rfl rfl rfl) rfl rfl ?_
    rintro _ _ ⟨rfl, rfl⟩
    simp only [setAt, splice, spliceL, Value.cells]
    refine at_nil ?_
    refine at_normal ?_
    refine hK12 _ _ _ ?_
    refine at_ret ?_
    refine at_end ?_
    refine at_fin (rsV rfl (res_cellS (k := 2) (vs := [_, _, _, _, _]) rfl rfl rfl rfl ⟨rfl, rfl, rfl, rfl, rfl, trivial⟩)) ?_
    refine ⟨_, ⟨rfl, rfl⟩, ?_⟩
    exact fun _ s => s.finEq (ks := [0]) (js := [0, 0, 0]) rfl rfl rfl
  by_cases hi8 : d = 8
  · simp only [doT, doP, if_neg hi0, if_neg hi1, if_neg hi2, if_neg hi3, if_neg hi4, if_neg hi5, if_neg hi6, if_neg hi7, if_pos hi8]
    refine at_seq_k (fun K0 hK0 => ?_)
    refine at_region ?_
    refine at_t (ot_boxA rfl rfl) rfl rfl rfl ?_
    rintro _ _ ⟨g0, rfl, rfl⟩
    refine at_t (ot_allocA rfl Tryz.zeroValue35) rfl rfl rfl ?_
    rintro _ _ ⟨g1, rfl, rfl⟩
    refine at_nil ?_
    refine at_normal ?_
    refine hK0 _ _ _ ?_
    refine at_seq_k (fun K1 hK1 => ?_)
    refine at_region ?_
    refine at_t (ot_allocA rfl Tryz.zeroValue35) rfl rfl rfl ?_
    rintro _ _ ⟨g2, rfl, rfl⟩
    refine at_nil ?_
    refine at_normal ?_
    refine hK1 _ _ _ ?_
    refine at_seq_k (fun K2 hK2 => ?_)
    refine at_seq_k (fun K3 hK3 => ?_)
    refine at_region ?_
    refine at_v (ov_fieldAddr (k := 0) (r := 0) rfl rfl rfl rfl) rfl rfl rfl ?_
    refine at_v (ov_load rfl rfl rfl (fun _ s => s.ld (k := 2) rfl rfl)) rfl rfl rfl ?_
    refine at_nil ?_
    refine at_normal ?_
    refine hK3 _ _ _ ?_
    refine at_block ?_
    refine at_seq_k (fun K4 hK4 => ?_)
    refine at_region ?_
    refine at_v (ov_int rfl rfl rfl rfl) rfl rfl rfl ?_
    refine at_v (ov_assign rfl rfl) rfl rfl rfl ?_
    refine at_nil ?_
    refine at_normal ?_
    refine hK4 _ _ _ ?_
    refine at_cond_false (congrArg (fun b => some (Value.bool b)) (show _ = false from decide_eq_false (by omega))) ?_
    refine at_seq_k (fun K5 hK5 => ?_)
    refine at_region ?_
    refine at_v (ov_int rfl rfl rfl rfl) rfl rfl rfl ?_
    refine at_v (ov_assign rfl rfl) rfl rfl rfl ?_
    refine at_nil ?_
    refine at_normal ?_
    refine hK5 _ _ _ ?_
    refine at_cond_false (congrArg (fun b => some (Value.bool b)) (show _ = false from decide_eq_false (by omega))) ?_
    refine at_seq_k (fun K6 hK6 => ?_)
    refine at_region ?_
    refine at_v (ov_int rfl rfl rfl rfl) rfl rfl rfl ?_
    refine at_v (ov_assign rfl rfl) rfl rfl rfl ?_
    refine at_nil ?_
    refine at_normal ?_
    refine hK6 _ _ _ ?_
    refine at_cond_false (congrArg (fun b => some (Value.bool b)) (show _ = false from decide_eq_false (by omega))) ?_
    refine at_seq_k (fun K7 hK7 => ?_)
    refine at_region ?_
    refine at_v (ov_int rfl rfl rfl rfl) rfl rfl rfl ?_
    refine at_v (ov_assign rfl rfl) rfl rfl rfl ?_
    refine at_nil ?_
    refine at_normal ?_
    refine hK7 _ _ _ ?_
    refine at_cond_false (congrArg (fun b => some (Value.bool b)) (show _ = false from decide_eq_false (by omega))) ?_
    refine at_seq_k (fun K8 hK8 => ?_)
    refine at_region ?_
    refine at_v (ov_int rfl rfl rfl rfl) rfl rfl rfl ?_
    refine at_v (ov_assign rfl rfl) rfl rfl rfl ?_
    refine at_nil ?_
    refine at_normal ?_
    refine hK8 _ _ _ ?_
    refine at_cond_false (congrArg (fun b => some (Value.bool b)) (show _ = false from decide_eq_false (by omega))) ?_
    refine at_seq_k (fun K9 hK9 => ?_)
    refine at_region ?_
    refine at_v (ov_int rfl rfl rfl rfl) rfl rfl rfl ?_
    refine at_v (ov_assign rfl rfl) rfl rfl rfl ?_
    refine at_nil ?_
    refine at_normal ?_
    refine hK9 _ _ _ ?_
    refine at_cond_false (congrArg (fun b => some (Value.bool b)) (show _ = false from decide_eq_false (by omega))) ?_
    refine at_seq_k (fun K10 hK10 => ?_)
    refine at_region ?_
    refine at_v (ov_int rfl rfl rfl rfl) rfl rfl rfl ?_
    refine at_v (ov_assign rfl rfl) rfl rfl rfl ?_
    refine at_nil ?_
    refine at_normal ?_
    refine hK10 _ _ _ ?_
    refine at_cond_false (congrArg (fun b => some (Value.bool b)) (show _ = false from decide_eq_false (by omega))) ?_
    refine at_seq_k (fun K11 hK11 => ?_)
    refine at_region ?_
    refine at_v (ov_int rfl rfl rfl rfl) rfl rfl rfl ?_
    refine at_v (ov_assign rfl rfl) rfl rfl rfl ?_
    refine at_nil ?_
    refine at_normal ?_
    refine hK11 _ _ _ ?_
    refine at_cond_false (congrArg (fun b => some (Value.bool b)) (show _ = false from decide_eq_false (by omega))) ?_
    refine at_seq_k (fun K12 hK12 => ?_)
    refine at_region ?_
    refine at_v (ov_int rfl rfl rfl rfl) rfl rfl rfl ?_
    refine at_v (ov_assign rfl rfl) rfl rfl rfl ?_
    refine at_nil ?_
    refine at_normal ?_
    refine hK12 _ _ _ ?_
    refine at_cond_true (congrArg (fun b => some (Value.bool b)) (show _ = true from decide_eq_true (by omega))) ?_
    refine at_region ?_
    refine at_v (ov_move rfl rfl) rfl rfl rfl ?_
    refine at_v (ov_fieldAddr (k := 3) (r := 3) rfl rfl rfl rfl) rfl rfl rfl ?_
    refine at_v (ov_load rfl rfl rfl (fun _ s => s.ld (k := 2) rfl rfl)) rfl rfl rfl ?_
    refine at_t (ot_call (ks := [3]) rfl rfl rfl Tryz.call25 rfl (T25 _ _ (by first | assumption | rfl | omega | decide | (simp; done) | (simp at *; omega)) (by first | assumption | rfl | omega | decide | (simp; done) | (simp at *; omega))) rfl) rfl rfl rfl ?_
    rintro v0 _ ⟨m0, hp0, rfl⟩
    obtain ⟨rfl, rfl⟩ := hp0
    simp only [List.cons_append, List.nil_append, splice, spliceL]
    refine at_nil ?_
    refine at_inb_normal ?_
    refine at_normal ?_
    refine hK2 _ _ _ ?_
    refine at_seq_k (fun K13 hK13 => ?_)
    refine at_region ?_
    refine at_v (ov_loadS (cs := [_, _, _, _, _]) rfl rfl rfl rfl (fun _ s => s.lds (k := 1) rfl ⟨rfl, rfl, rfl, rfl, rfl, trivial⟩)) rfl rfl rfl ?_
    refine at_t0 (ot_store (k := 2) rfl rfl rfl rfl rfl rfl rfl) rfl rfl ?_
    rintro _ _ ⟨rfl, rfl⟩
    simp only [setAt, splice, spliceL, Value.cells]
    refine at_nil ?_
    refine at_normal ?_
    refine hK13 _ _ _ ?_
    refine at_ret ?_
    refine at_end ?_
    refine at_fin (rsV rfl (res_cellS (k := 2) (vs := [_, _, _, _, _]) rfl rfl rfl rfl ⟨rfl, rfl, rfl, rfl, rfl, trivial⟩)) ?_
    refine ⟨_, ⟨rfl, rfl⟩, ?_⟩
    exact fun _ s => s.finEq (ks := [0]) (js := [0, 0, 0]) rfl rfl rfl
  by_cases hi9 : d = 9
  · simp only [doT, doP, if_neg hi0, if_neg hi1, if_neg hi2, if_neg hi3, if_neg hi4, if_neg hi5, if_neg hi6, if_neg hi7, if_neg hi8, if_pos hi9]
    refine at_seq_k (fun K0 hK0 => ?_)
    refine at_region ?_
    refine at_t (ot_boxA rfl rfl) rfl rfl rfl ?_
    rintro _ _ ⟨g0, rfl, rfl⟩
    refine at_t (ot_allocA rfl Tryz.zeroValue35) rfl rfl rfl ?_
    rintro _ _ ⟨g1, rfl, rfl⟩
    refine at_nil ?_
    refine at_normal ?_
    refine hK0 _ _ _ ?_
    refine at_seq_k (fun K1 hK1 => ?_)
    refine at_region ?_
    refine at_t (ot_allocA rfl Tryz.zeroValue35) rfl rfl rfl ?_
    rintro _ _ ⟨g2, rfl, rfl⟩
    refine at_nil ?_
    refine at_normal ?_
    refine hK1 _ _ _ ?_
    refine at_seq_k (fun K2 hK2 => ?_)
    refine at_seq_k (fun K3 hK3 => ?_)
    refine at_region ?_
    refine at_v (ov_fieldAddr (k := 0) (r := 0) rfl rfl rfl rfl) rfl rfl rfl ?_
    refine at_v (ov_load rfl rfl rfl (fun _ s => s.ld (k := 2) rfl rfl)) rfl rfl rfl ?_
    refine at_nil ?_
    refine at_normal ?_
    refine hK3 _ _ _ ?_
    refine at_block ?_
    refine at_seq_k (fun K4 hK4 => ?_)
    refine at_region ?_
    refine at_v (ov_int rfl rfl rfl rfl) rfl rfl rfl ?_
    refine at_v (ov_assign rfl rfl) rfl rfl rfl ?_
    refine at_nil ?_
    refine at_normal ?_
    refine hK4 _ _ _ ?_
    refine at_cond_false (congrArg (fun b => some (Value.bool b)) (show _ = false from decide_eq_false (by omega))) ?_
    refine at_seq_k (fun K5 hK5 => ?_)
    refine at_region ?_
    refine at_v (ov_int rfl rfl rfl rfl) rfl rfl rfl ?_
    refine at_v (ov_assign rfl rfl) rfl rfl rfl ?_
    refine at_nil ?_
    refine at_normal ?_
    refine hK5 _ _ _ ?_
    refine at_cond_false (congrArg (fun b => some (Value.bool b)) (show _ = false from decide_eq_false (by omega))) ?_
    refine at_seq_k (fun K6 hK6 => ?_)
    refine at_region ?_
    refine at_v (ov_int rfl rfl rfl rfl) rfl rfl rfl ?_
    refine at_v (ov_assign rfl rfl) rfl rfl rfl ?_
    refine at_nil ?_
    refine at_normal ?_
    refine hK6 _ _ _ ?_
    refine at_cond_false (congrArg (fun b => some (Value.bool b)) (show _ = false from decide_eq_false (by omega))) ?_
    refine at_seq_k (fun K7 hK7 => ?_)
    refine at_region ?_
    refine at_v (ov_int rfl rfl rfl rfl) rfl rfl rfl ?_
    refine at_v (ov_assign rfl rfl) rfl rfl rfl ?_
    refine at_nil ?_
    refine at_normal ?_
    refine hK7 _ _ _ ?_
    refine at_cond_false (congrArg (fun b => some (Value.bool b)) (show _ = false from decide_eq_false (by omega))) ?_
    refine at_seq_k (fun K8 hK8 => ?_)
    refine at_region ?_
    refine at_v (ov_int rfl rfl rfl rfl) rfl rfl rfl ?_
    refine at_v (ov_assign rfl rfl) rfl rfl rfl ?_
    refine at_nil ?_
    refine at_normal ?_
    refine hK8 _ _ _ ?_
    refine at_cond_false (congrArg (fun b => some (Value.bool b)) (show _ = false from decide_eq_false (by omega))) ?_
    refine at_seq_k (fun K9 hK9 => ?_)
    refine at_region ?_
    refine at_v (ov_int rfl rfl rfl rfl) rfl rfl rfl ?_
    refine at_v (ov_assign rfl rfl) rfl rfl rfl ?_
    refine at_nil ?_
    refine at_normal ?_
    refine hK9 _ _ _ ?_
    refine at_cond_false (congrArg (fun b => some (Value.bool b)) (show _ = false from decide_eq_false (by omega))) ?_
    refine at_seq_k (fun K10 hK10 => ?_)
    refine at_region ?_
    refine at_v (ov_int rfl rfl rfl rfl) rfl rfl rfl ?_
    refine at_v (ov_assign rfl rfl) rfl rfl rfl ?_
    refine at_nil ?_
    refine at_normal ?_
    refine hK10 _ _ _ ?_
    refine at_cond_false (congrArg (fun b => some (Value.bool b)) (show _ = false from decide_eq_false (by omega))) ?_
    refine at_seq_k (fun K11 hK11 => ?_)
    refine at_region ?_
    refine at_v (ov_int rfl rfl rfl rfl) rfl rfl rfl ?_
    refine at_v (ov_assign rfl rfl) rfl rfl rfl ?_
    refine at_nil ?_
    refine at_normal ?_
    refine hK11 _ _ _ ?_
    refine at_cond_false (congrArg (fun b => some (Value.bool b)) (show _ = false from decide_eq_false (by omega))) ?_
    refine at_seq_k (fun K12 hK12 => ?_)
    refine at_region ?_
    refine at_v (ov_int rfl rfl rfl rfl) rfl rfl rfl ?_
    refine at_v (ov_assign rfl rfl) rfl rfl rfl ?_
    refine at_nil ?_
    refine at_normal ?_
    refine hK12 _ _ _ ?_
    refine at_cond_false (congrArg (fun b => some (Value.bool b)) (show _ = false from decide_eq_false (by omega))) ?_
    refine at_seq_k (fun K13 hK13 => ?_)
    refine at_region ?_
    refine at_v (ov_int rfl rfl rfl rfl) rfl rfl rfl ?_
    refine at_v (ov_assign rfl rfl) rfl rfl rfl ?_
    refine at_nil ?_
    refine at_normal ?_
    refine hK13 _ _ _ ?_
    refine at_cond_true (congrArg (fun b => some (Value.bool b)) (show _ = true from decide_eq_true (by omega))) ?_
    refine at_region ?_
    refine at_v (ov_move rfl rfl) rfl rfl rfl ?_
    refine at_v (ov_fieldAddr (k := 4) (r := 4) rfl rfl rfl rfl) rfl rfl rfl ?_
    refine at_v (ov_load rfl rfl rfl (fun _ s => s.ld (k := 2) rfl rfl)) rfl rfl rfl ?_
    refine at_t (ot_call (ks := [3]) rfl rfl rfl Tryz.call26 rfl (T26 _ _ (by first | assumption | rfl | omega | decide | (simp; done) | (simp at *; omega)) (by first | assumption | rfl | omega | decide | (simp; done) | (simp at *; omega)) (by first | assumption | rfl | omega | decide | (simp; done) | (simp at *; omega)) (by first | assumption | rfl | omega | decide | (simp; done) | (simp at *; omega))) rfl) rfl rfl rfl ?_
    rintro v0 _ ⟨m0, hp0, rfl⟩
    obtain ⟨rfl, rfl⟩ := hp0
    simp only [List.cons_append, List.nil_append, splice, spliceL]
    refine at_v (ov_fieldAddr (k := 0) (r := 0) rfl rfl rfl rfl) rfl rfl rfl ?_
    refine at_t0 (ot_store (k := 1) rfl rfl rfl rfl rfl rfl rfl) rfl rfl ?_
    rintro _ _ ⟨rfl, rfl⟩
    simp only [setAt, splice, spliceL, Value.cells]
    refine at_nil ?_
    refine at_inb_normal ?_
    refine at_normal ?_
    refine hK2 _ _ _ ?_
    refine at_seq_k (fun K14 hK14 => ?_)
    refine at_region ?_
    refine at_v (ov_loadS (cs := [_, _, _, _, _]) rfl rfl rfl rfl (fun _ s => s.lds (k := 1) rfl ⟨rfl, rfl, rfl, rfl, rfl, trivial⟩)) rfl rfl rfl ?_
    refine at_t0 (ot_store (k := 2) rfl rfl rfl rfl rfl rfl rfl) rfl rfl ?_
    rintro _ _ ⟨rfl, rfl⟩
    simp only [setAt, splice, spliceL, Value.cells]
    refine at_nil ?_
    refine at_normal ?_
    refine hK14 _ _ _ ?_
    refine at_ret ?_
    refine at_end ?_
    refine at_fin (rsV rfl (res_cellS (k := 2) (vs := [_, _, _, _, _]) rfl rfl rfl rfl ⟨rfl, rfl, rfl, rfl, rfl, trivial⟩)) ?_
    refine ⟨_, ⟨rfl, rfl⟩, ?_⟩
    exact fun _ s => s.finEq (ks := [0]) (js := [0, 0, 0]) rfl rfl rfl
  simp only [doT, doP, if_neg hi0, if_neg hi1, if_neg hi2, if_neg hi3, if_neg hi4, if_neg hi5, if_neg hi6, if_neg hi7, if_neg hi8, if_neg hi9]
  refine at_seq_k (fun K0 hK0 => ?_)
  refine at_region ?_
  refine at_t (ot_boxA rfl rfl) rfl rfl rfl ?_
  rintro _ _ ⟨g0, rfl, rfl⟩
  refine at_t (ot_allocA rfl Tryz.zeroValue35) rfl rfl rfl ?_
  rintro _ _ ⟨g1, rfl, rfl⟩
  refine at_nil ?_
  refine at_normal ?_
  refine hK0 _ _ _ ?_
  refine at_seq_k (fun K1 hK1 => ?_)
  refine at_region ?_
  refine at_t (ot_allocA rfl Tryz.zeroValue35) rfl rfl rfl ?_
  rintro _ _ ⟨g2, rfl, rfl⟩
  refine at_nil ?_
  refine at_normal ?_
  refine hK1 _ _ _ ?_
  refine at_seq_k (fun K2 hK2 => ?_)
  refine at_seq_k (fun K3 hK3 => ?_)
  refine at_region ?_
  refine at_v (ov_fieldAddr (k := 0) (r := 0) rfl rfl rfl rfl) rfl rfl rfl ?_
  refine at_v (ov_load rfl rfl rfl (fun _ s => s.ld (k := 2) rfl rfl)) rfl rfl rfl ?_
  refine at_nil ?_
  refine at_normal ?_
  refine hK3 _ _ _ ?_
  refine at_block ?_
  refine at_seq_k (fun K4 hK4 => ?_)
  refine at_region ?_
  refine at_v (ov_int rfl rfl rfl rfl) rfl rfl rfl ?_
  refine at_v (ov_assign rfl rfl) rfl rfl rfl ?_
  refine at_nil ?_
  refine at_normal ?_
  refine hK4 _ _ _ ?_
  refine at_cond_false (congrArg (fun b => some (Value.bool b)) (show _ = false from decide_eq_false (by omega))) ?_
  refine at_seq_k (fun K5 hK5 => ?_)
  refine at_region ?_
  refine at_v (ov_int rfl rfl rfl rfl) rfl rfl rfl ?_
  refine at_v (ov_assign rfl rfl) rfl rfl rfl ?_
  refine at_nil ?_
  refine at_normal ?_
  refine hK5 _ _ _ ?_
  refine at_cond_false (congrArg (fun b => some (Value.bool b)) (show _ = false from decide_eq_false (by omega))) ?_
  refine at_seq_k (fun K6 hK6 => ?_)
  refine at_region ?_
  refine at_v (ov_int rfl rfl rfl rfl) rfl rfl rfl ?_
  refine at_v (ov_assign rfl rfl) rfl rfl rfl ?_
  refine at_nil ?_
  refine at_normal ?_
  refine hK6 _ _ _ ?_
  refine at_cond_false (congrArg (fun b => some (Value.bool b)) (show _ = false from decide_eq_false (by omega))) ?_
  refine at_seq_k (fun K7 hK7 => ?_)
  refine at_region ?_
  refine at_v (ov_int rfl rfl rfl rfl) rfl rfl rfl ?_
  refine at_v (ov_assign rfl rfl) rfl rfl rfl ?_
  refine at_nil ?_
  refine at_normal ?_
  refine hK7 _ _ _ ?_
  refine at_cond_false (congrArg (fun b => some (Value.bool b)) (show _ = false from decide_eq_false (by omega))) ?_
  refine at_seq_k (fun K8 hK8 => ?_)
  refine at_region ?_
  refine at_v (ov_int rfl rfl rfl rfl) rfl rfl rfl ?_
  refine at_v (ov_assign rfl rfl) rfl rfl rfl ?_
  refine at_nil ?_
  refine at_normal ?_
  refine hK8 _ _ _ ?_
  refine at_cond_false (congrArg (fun b => some (Value.bool b)) (show _ = false from decide_eq_false (by omega))) ?_
  refine at_seq_k (fun K9 hK9 => ?_)
  refine at_region ?_
  refine at_v (ov_int rfl rfl rfl rfl) rfl rfl rfl ?_
  refine at_v (ov_assign rfl rfl) rfl rfl rfl ?_
  refine at_nil ?_
  refine at_normal ?_
  refine hK9 _ _ _ ?_
  refine at_cond_false (congrArg (fun b => some (Value.bool b)) (show _ = false from decide_eq_false (by omega))) ?_
  refine at_seq_k (fun K10 hK10 => ?_)
  refine at_region ?_
  refine at_v (ov_int rfl rfl rfl rfl) rfl rfl rfl ?_
  refine at_v (ov_assign rfl rfl) rfl rfl rfl ?_
  refine at_nil ?_
  refine at_normal ?_
  refine hK10 _ _ _ ?_
  refine at_cond_false (congrArg (fun b => some (Value.bool b)) (show _ = false from decide_eq_false (by omega))) ?_
  refine at_seq_k (fun K11 hK11 => ?_)
  refine at_region ?_
  refine at_v (ov_int rfl rfl rfl rfl) rfl rfl rfl ?_
  refine at_v (ov_assign rfl rfl) rfl rfl rfl ?_
  refine at_nil ?_
  refine at_normal ?_
  refine hK11 _ _ _ ?_
  refine at_cond_false (congrArg (fun b => some (Value.bool b)) (show _ = false from decide_eq_false (by omega))) ?_
  refine at_seq_k (fun K12 hK12 => ?_)
  refine at_region ?_
  refine at_v (ov_int rfl rfl rfl rfl) rfl rfl rfl ?_
  refine at_v (ov_assign rfl rfl) rfl rfl rfl ?_
  refine at_nil ?_
  refine at_normal ?_
  refine hK12 _ _ _ ?_
  refine at_cond_false (congrArg (fun b => some (Value.bool b)) (show _ = false from decide_eq_false (by omega))) ?_
  refine at_seq_k (fun K13 hK13 => ?_)
  refine at_region ?_
  refine at_v (ov_int rfl rfl rfl rfl) rfl rfl rfl ?_
  refine at_v (ov_assign rfl rfl) rfl rfl rfl ?_
  refine at_nil ?_
  refine at_normal ?_
  refine hK13 _ _ _ ?_
  refine at_cond_false (congrArg (fun b => some (Value.bool b)) (show _ = false from decide_eq_false (by omega))) ?_
  refine at_skip ?_
  refine at_inb_normal ?_
  refine at_normal ?_
  refine hK2 _ _ _ ?_
  refine at_seq_k (fun K14 hK14 => ?_)
  refine at_region ?_
  refine at_v (ov_loadS (cs := [_, _, _, _, _]) rfl rfl rfl rfl (fun _ s => s.lds (k := 0) rfl ⟨rfl, rfl, rfl, rfl, rfl, trivial⟩)) rfl rfl rfl ?_
  refine at_t0 (ot_store (k := 1) rfl rfl rfl rfl rfl rfl rfl) rfl rfl ?_
  rintro _ _ ⟨rfl, rfl⟩
  simp only [setAt, splice, spliceL, Value.cells]
  refine at_nil ?_
  refine at_normal ?_
  refine hK14 _ _ _ ?_
  refine at_ret ?_
  refine at_end ?_
  refine at_fin (rsV rfl (res_cellS (k := 1) (vs := [_, _, _, _, _]) rfl rfl rfl rfl ⟨rfl, rfl, rfl, rfl, rfl, trivial⟩)) ?_
  refine ⟨_, ⟨rfl, rfl⟩, ?_⟩
  exact fun _ s => s.finEq (ks := [3]) (js := [0, 0, 0]) rfl rfl rfl
