/- The functions of layer 17 (session), walked. -/
import Derived.Test.YtmhoimnochigjaaProg
import Derived.Test.YtmhoimnochigjaaView
import Derived.Test.YtmhoimnochigjaaSLRow
import Derived.KernelRfl
set_option linter.unusedSimpArgs false
set_option linter.unusedVariables false
set_option maxRecDepth 100000
namespace Go.Proofs.Ytmhoimnochigjaa
open Go Go.Proofs.Ytmhoimnochigjaa.SL Go.RowKit
/-- A request. -/
structure Rq where
  seq : Int
  text : ByteArray
  cls : Int
def rqE (q : Rq) : List Value := [.int .u64 q.seq, .string q.text, .int .i64 q.cls]
abbrev rqV (q : Rq) : Value := .agg #[.int .u64 q.seq, .string q.text, .int .i64 q.cls]
def rq0 : Rq := ⟨0, ⟨#[]⟩, 0⟩
/-- A session. -/
structure SM where
  reqs : List Rq
  te : Int
  tp : Int
  op : Option (Int × Int)
  lost : Bool
  aborted : Bool
def SM.new : SM := ⟨[], 0, 0, none, false, false⟩
def SM.push (s : SM) (q : Rq) : SM := if s.reqs.length ≥ 8 then s else { s with reqs := s.reqs ++ [q] }
def SM.pushE (s : SM) : Int := if s.reqs.length ≥ 8 then 5 else 0
def SM.pop (s : SM) : SM := { s with reqs := s.reqs.drop 1 }
def SM.head (s : SM) : Rq := s.reqs.headD rq0
def SM.some_ (s : SM) : Bool := !s.reqs.isEmpty
def SM.begin (s : SM) (n c : Int) : SM := if s.op.isSome then s else { s with op := some (n, c) }
def SM.end_ (s : SM) : SM := { s with op := none }
def SM.abort (s : SM) : SM := { s with op := none, aborted := s.aborted || s.op.isSome }
def SM.wrote (s : SM) (t : Int × Int) : SM := if s.lost then s else { s with te := (laterT s.te s.tp t.1 t.2).1, tp := (laterT s.te s.tp t.1 t.2).2 }
def SM.learn (s : SM) (v : VM) : SM := { s with te := (bringT v s.te s.tp).1, tp := (bringT v s.te s.tp).2, lost := s.lost || !bringB v s.te s.tp }
def SM.ack (s : SM) : SM := { s with lost := false }
def SM.verdict (s : SM) (q : Rq) : SM := if q.cls = 0 then s else if s.lost then s else if s.aborted then { s with aborted := false } else s
/-- Why a request isn't done (classes: 0 Bad, 3 Begin, 4 Commit, 5 Rollback; errors: 2 Form, 9 Lost, 10 Abort, 7 State). -/
def SM.verdictE (s : SM) (q : Rq) : Int := if q.cls = 0 then 2 else if s.lost then 9 else if s.aborted then 10 else if q.cls = 4 ∨ q.cls = 5 then (if s.op.isSome then 0 else 7) else if q.cls = 3 then (if s.op.isSome then 7 else 0) else 0
def OpenA (po : Option Addr) (o : Option (Int × Int)) : HP := fun h =>
  match o with
  | none => po = none
  | some (n, c) => ∃ b, po = some ⟨b, 0, none⟩ ∧ h b = some (.cells #[.int .i64 n, .int .i64 c] 63 (0, 0))
def SessA (g : Nat) (s : SM) : HP := fun h => ∃ A, ∃ c, ∃ po, star [cl g #[.slice A s.reqs.length c, .int .u64 s.te, .int .u64 s.tp, .pointer po, .bool s.lost, .bool s.aborted] 47, Row rqE 32 3 A c s.reqs, OpenA po s.op] h
theorem OpenA.none_mk : ∀ h, star [] h → OpenA none none h := fun _ _ => rfl
theorem at_openNone {w0 : World} {n : Nat} {ds : List Deferred} {R : Act → World → Prop} {env : Env} {l : List HP} (k : At w0 n ds R env (OpenA none none :: l)) : At w0 n ds R env l := fun a w f s =>
  k a w f (s.imp fun h hh => ⟨fun _ => none, h, rfl, hh, fun _ => .inl rfl, (fun _ _ e => by cases e), Le.refl _⟩)
theorem at_openSome {w0 : World} {n : Nat} {ds : List Deferred} {R : Act → World → Prop} {env : Env} {l : List HP} {po : Option Addr} {nd cn : Int}
    (k : ∀ b, po = some ⟨b, 0, none⟩ → At w0 n ds R env (cl b #[.int .i64 nd, .int .i64 cn] 63 :: l)) : At w0 n ds R env (OpenA po (some (nd, cn)) :: l) := fun a w f s => by
  obtain ⟨bel, h, ⟨p, q, ⟨b, hb, hp⟩, hq, hd, l1, l2⟩, kk⟩ := s
  exact k b hb a w f ⟨bel, h, ⟨p, q, hp, hq, hd, l1, l2⟩, kk⟩
theorem at_openNil {w0 : World} {n : Nat} {ds : List Deferred} {R : Act → World → Prop} {env : Env} {l : List HP} {po : Option Addr}
    (k : po = none → At w0 n ds R env l) : At w0 n ds R env (OpenA po none :: l) := fun a w f s => by
  obtain ⟨bel, h, ⟨p, q, hp, hq, hd, l1, l2⟩, kk⟩ := s
  exact k hp a w f ⟨bel, h, star_mono l2 hq, kk⟩
theorem OpenA.some_mk {b : Nat} {nd cn : Int} : ∀ h, star [cl b #[.int .i64 nd, .int .i64 cn] 63] h → OpenA (some ⟨b, 0, none⟩) (some (nd, cn)) h :=
  fun h ⟨p, q, hp, _, _, l1, _⟩ => ⟨b, rfl, l1 _ _ hp⟩
theorem T8 (w0 : World)  : Tri Try.prog w0 8 [] [] fun v m => ∃ g, v = ptrTo g ∧ m = [SessA g SM.new] := by
  refine tri_of Try.func8 rfl rfl fun F => ?_
  simp only [Try.ntmps8, argEnv, List.cons_append, List.nil_append]
  refine at_seq_k (fun K0 hK0 => ?_)
  refine at_region ?_
  refine at_v (ov_assign rfl rfl) rfl rfl rfl ?_
  refine at_nil ?_
  refine at_normal ?_
  refine hK0 _ _ ?_
  refine at_seq_k (fun K1 hK1 => ?_)
  refine at_region ?_
  refine at_v (ov_build (cs := [_, _, _, _, _, _]) rfl rfl rfl rfl) rfl rfl rfl ?_
  refine at_t (ot_boxA rfl rfl) rfl rfl rfl ?_
  rintro _ _ ⟨g0, rfl, rfl⟩
  refine at_v (ov_assign rfl rfl) rfl rfl rfl ?_
  refine at_nil ?_
  refine at_normal ?_
  refine hK1 _ _ ?_
  refine at_ret ?_
  refine at_end ?_
  refine at_rowNil rqE 32 3 (at_openNone ?_)
  refine at_fold (A := SessA g0 SM.new) [2, 1, 0] rfl (fun h s => ⟨none, 0, none, s⟩) ?_
  refine at_fin (rsV rfl (res_tmp rfl)) ?_
  refine ⟨_, ⟨g0, rfl, rfl⟩, ?_⟩
  exact fun _ s => s.finEq (ks := [0]) (js := []) rfl rfl rfl
theorem T11 (w0 : World) (g : Nat) (s : SM)  : Tri Try.prog w0 11 [ptrTo g] [SessA g s] fun v m => v = .tuple #[rqV s.head, .bool s.some_] ∧ m = [SessA g s] := by
  refine tri_of Try.func11 rfl rfl fun F => ?_
  simp only [Try.ntmps11, argEnv, List.cons_append, List.nil_append]
  refine at_ex fun A => at_ex fun c => at_ex fun po => at_open ?_
  simp only [List.cons_append, List.nil_append]
  obtain ⟨reqs, te, tp, op, lost, ab⟩ := s
  cases reqs with
  | nil =>
    refine at_seq_k (fun K0 hK0 => ?_)
    refine at_region ?_
    refine at_t (ot_allocA rfl Try.zeroValue32) rfl rfl rfl ?_
    rintro _ _ ⟨g0, rfl, rfl⟩
    refine at_v (ov_assign rfl rfl) rfl rfl rfl ?_
    refine at_nil ?_
    refine at_normal ?_
    refine hK0 _ _ ?_
    refine at_seq_k (fun K1 hK1 => ?_)
    refine at_seq_k (fun K2 hK2 => ?_)
    refine at_region ?_
    refine at_v (ov_move rfl rfl) rfl rfl rfl ?_
    refine at_v (ov_nilCheck rfl rfl) rfl rfl rfl ?_
    refine at_v (ov_fieldAddr (k := 0) (r := 0) rfl rfl rfl rfl) rfl rfl rfl ?_
    refine at_v (ov_load rfl rfl rfl (fun _ s => s.ld (k := 1) rfl rfl)) rfl rfl rfl ?_
    refine at_v (ov_len_slice rfl Try.underlying29 rfl) rfl rfl rfl ?_
    refine at_v (ov_int rfl rfl rfl rfl) rfl rfl rfl ?_
    refine at_nil ?_
    refine at_normal ?_
    refine hK2 _ _ ?_
    refine at_cond_true rfl ?_
    refine at_seq_k (fun K3 hK3 => ?_)
    refine at_region ?_
    refine at_v (ov_build (cs := [_, _, _]) rfl rfl rfl rfl) rfl rfl rfl ?_
    refine at_t0 (ot_store (k := 0) rfl rfl rfl rfl rfl rfl rfl) rfl rfl ?_
    rintro _ _ ⟨rfl, rfl⟩
    simp only [setAt, splice, spliceL, Value.cells]
    refine at_v (ov_assign rfl rfl) rfl rfl rfl ?_
    refine at_nil ?_
    refine at_normal ?_
    refine hK3 _ _ ?_
    refine at_ret ?_
    refine at_then_ret ?_
    refine at_end ?_
    refine at_fold (A := SessA g ⟨[], te, tp, op, lost, ab⟩) [1, 1, 1] rfl (fun h s => ⟨A, c, po, s⟩) ?_
    refine at_fin (rsL (vs := [_, _]) rfl ⟨res_cellS (k := 1) (vs := [_, _, _]) rfl rfl rfl rfl ⟨rfl, rfl, rfl, trivial⟩, res_tmp rfl, trivial⟩ rfl) ?_
    refine ⟨_, ⟨rfl, rfl⟩, ?_⟩
    exact fun _ s => s.finEq (ks := [0]) (js := [0]) rfl rfl rfl
  | cons q r =>
    have hget : (q :: r)[0]? = some q := rfl
    refine at_seq_k (fun K0 hK0 => ?_)
    refine at_region ?_
    refine at_t (ot_allocA rfl Try.zeroValue32) rfl rfl rfl ?_
    rintro _ _ ⟨g0, rfl, rfl⟩
    refine at_v (ov_assign rfl rfl) rfl rfl rfl ?_
    refine at_nil ?_
    refine at_normal ?_
    refine hK0 _ _ ?_
    refine at_seq_k (fun K1 hK1 => ?_)
    refine at_seq_k (fun K2 hK2 => ?_)
    refine at_region ?_
    refine at_v (ov_move rfl rfl) rfl rfl rfl ?_
    refine at_v (ov_nilCheck rfl rfl) rfl rfl rfl ?_
    refine at_v (ov_fieldAddr (k := 0) (r := 0) rfl rfl rfl rfl) rfl rfl rfl ?_
    refine at_v (ov_load rfl rfl rfl (fun _ s => s.ld (k := 1) rfl rfl)) rfl rfl rfl ?_
    refine at_v (ov_len_slice rfl Try.underlying29 rfl) rfl rfl rfl ?_
    refine at_v (ov_int rfl rfl rfl rfl) rfl rfl rfl ?_
    refine at_nil ?_
    refine at_normal ?_
    refine hK2 _ _ ?_
    refine at_cond_false rfl ?_
    refine at_skip ?_
    refine at_normal ?_
    refine hK1 _ _ ?_
    refine at_seq_k (fun K3 hK3 => ?_)
    refine at_region ?_
    refine at_v (ov_move rfl rfl) rfl rfl rfl ?_
    refine at_v (ov_nilCheck rfl rfl) rfl rfl rfl ?_
    refine at_v (ov_fieldAddr (k := 0) (r := 0) rfl rfl rfl rfl) rfl rfl rfl ?_
    refine at_v (ov_load rfl rfl rfl (fun _ s => s.ld (k := 1) rfl rfl)) rfl rfl rfl ?_
    refine at_v (ov_indexRd (fun _ s => s.rd (k := 2) rfl) rfl Try.underlying29 rfl rfl rfl hget) rfl rfl rfl ?_
    refine at_v (ov_loadRdS (vs := [_, _, _]) (fun _ s => s.rd (k := 2) rfl) rfl rfl rfl hget rfl rfl) rfl rfl rfl ?_
    refine at_t0 (ot_store (k := 0) rfl rfl rfl rfl rfl rfl rfl) rfl rfl ?_
    rintro _ _ ⟨rfl, rfl⟩
    simp only [setAt, splice, spliceL, Value.cells]
    refine at_v (ov_assign rfl rfl) rfl rfl rfl ?_
    refine at_nil ?_
    refine at_normal ?_
    refine hK3 _ _ ?_
    refine at_ret ?_
    refine at_end ?_
    refine at_fold (A := SessA g ⟨q :: r, te, tp, op, lost, ab⟩) [1, 1, 1] rfl (fun h s => ⟨A, c, po, s⟩) ?_
    refine at_fin (rsL (vs := [_, _]) rfl ⟨res_cellS (k := 1) (vs := [_, _, _]) rfl rfl rfl rfl ⟨rfl, rfl, rfl, trivial⟩, res_tmp rfl, trivial⟩ rfl) ?_
    refine ⟨_, ⟨rfl, rfl⟩, ?_⟩
    exact fun _ s => s.finEq (ks := [0]) (js := [0]) rfl rfl rfl
theorem T20 (w0 : World) (g : Nat) (s : SM) (qs : Int) (qt : ByteArray) (qc : Int) : Tri Try.prog w0 20 [ptrTo g, .agg #[.int .u64 qs, .string qt, .int .i64 qc]] [SessA g s] fun v m => v = .int .i64 s.pushE ∧ m = [SessA g (s.push ⟨qs, qt, qc⟩)] := by
  refine tri_of Try.func20 rfl rfl fun F => ?_
  simp only [Try.ntmps20, argEnv, List.cons_append, List.nil_append]
  refine at_ex fun A => at_ex fun c => at_ex fun po => at_open ?_
  simp only [List.cons_append, List.nil_append]
  refine at_seq_k (fun K0 hK0 => ?_)
  refine at_region ?_
  refine at_t (ot_boxA rfl rfl) rfl rfl rfl ?_
  rintro _ _ ⟨g0, rfl, rfl⟩
  refine at_v (ov_assign rfl rfl) rfl rfl rfl ?_
  refine at_nil ?_
  refine at_normal ?_
  refine hK0 _ _ ?_
  refine at_seq_k (fun K1 hK1 => ?_)
  refine at_seq_k (fun K2 hK2 => ?_)
  refine at_region ?_
  refine at_v (ov_move rfl rfl) rfl rfl rfl ?_
  refine at_v (ov_nilCheck rfl rfl) rfl rfl rfl ?_
  refine at_v (ov_fieldAddr (k := 0) (r := 0) rfl rfl rfl rfl) rfl rfl rfl ?_
  refine at_v (ov_load rfl rfl rfl (fun _ s => s.ld (k := 1) rfl rfl)) rfl rfl rfl ?_
  refine at_v (ov_len_slice rfl Try.underlying29 rfl) rfl rfl rfl ?_
  refine at_v (ov_int rfl rfl rfl rfl) rfl rfl rfl ?_
  refine at_nil ?_
  refine at_normal ?_
  refine hK2 _ _ ?_
  refine at_cond rfl (fun h => ?_) (fun h => ?_)
  · have h2 : s.reqs.length ≥ 8 := by have : (8 : Int) ≤ s.reqs.length := by simpa using h
                                      omega
    refine at_seq_k (fun K3 hK3 => ?_)
    refine at_region ?_
    refine at_v (ov_assign rfl rfl) rfl rfl rfl ?_
    refine at_nil ?_
    refine at_normal ?_
    refine hK3 _ _ ?_
    refine at_ret ?_
    refine at_then_ret ?_
    refine at_end ?_
    refine at_fold (A := SessA g s) [1, 1, 1] rfl (fun h s => ⟨A, c, po, s⟩) ?_
    rw [show s.push ⟨qs, qt, qc⟩ = s from if_pos h2, show s.pushE = 5 from if_pos h2]
    refine at_fin (rsV rfl (res_tmp rfl)) ?_
    refine ⟨_, ⟨rfl, rfl⟩, ?_⟩
    exact fun _ s => s.finEq (ks := [0]) (js := [0]) rfl rfl rfl
  · have h2 : ¬ s.reqs.length ≥ 8 := by have : (s.reqs.length : Int) < 8 := by simpa using h
                                        omega
    refine at_skip ?_
    refine at_normal ?_
    refine hK1 _ _ ?_
    refine at_seq_k (fun K3 hK3 => ?_)
    refine at_draw _ [] 10 [(2, 0), (2, 1), (2, 2), (2, 3), (1, 4), (1, 5), (0, 6), (0, 7), (2, 8), (2, 9), (3, 10)] (by kernel_rfl) (by kernel_rfl) (fun _ s => (s.pulls (ks := [0, 0]) rfl).left) ?_
    refine aq_p (ov_move rfl rfl) rfl rfl rfl ?_
    refine aq_p (ov_move rfl rfl) rfl rfl rfl ?_
    refine aq_p (ov_nilCheck rfl rfl) rfl rfl rfl ?_
    refine aq_p (ov_fieldAddr (k := 0) (r := 0) rfl rfl rfl rfl) rfl rfl rfl ?_
    refine aq_v (ov_load rfl rfl rfl (fun _ s => s.ld (k := 1) rfl rfl)) rfl rfl rfl ?_
    refine aq_v (ov_loadS (cs := [_, _, _]) rfl rfl rfl rfl (fun _ s => s.lds (k := 0) rfl ⟨rfl, rfl, rfl, trivial⟩)) rfl rfl rfl ?_
    refine aq_t (ot_buildSlice (cs := [_, _, _]) rfl Try.underlying29 rfl rfl rfl rfl rfl rfl) rfl rfl rfl ?_
    rintro _ _ ⟨g1, rfl, rfl⟩
    refine ⟨fun _ s => (s.pulls (ks := [1, 1]) rfl).left, ?_⟩
    refine aq_t (ot_append (k := 3) (size := 3) (bytes := 32) (ys := [⟨qs, qt, qc⟩]) (fun _ s => s.rdPt (k := 0) rfl rfl (by simp [rqE])) rfl Try.underlying29 (ti := Try.t32) rfl rfl rfl rfl rfl (by decide) rfl rfl rfl (by simp [rqE, Value.oneCell']) (by simp; omega) (by decide)) rfl rfl rfl ?_
    rintro _ _ ⟨A0, c0, rfl, rfl⟩
    simp only [setAt]
    refine ⟨fun _ s => (s.pulls (ks := [1, 1]) rfl).left, ?_⟩
    refine aq_p (ov_nilCheck rfl rfl) rfl rfl rfl ?_
    refine aq_p (ov_fieldAddr (k := 0) (r := 0) rfl rfl rfl rfl) rfl rfl rfl ?_
    refine aq_b0 (ot_store (k := 2) rfl rfl rfl rfl rfl rfl rfl) rfl rfl ?_
    rintro _ _ ⟨rfl, rfl⟩
    simp only [setAt, splice, spliceL, Value.cells]
    refine ⟨fun _ s => (s.pulls (ks := []) rfl).left, ?_⟩
    refine aq_nil ?_
    refine at_normal ?_
    refine hK3 _ _ ?_
    refine at_seq_k (fun K4 hK4 => ?_)
    refine at_region ?_
    refine at_v (ov_assign rfl rfl) rfl rfl rfl ?_
    refine at_nil ?_
    refine at_normal ?_
    refine hK4 _ _ ?_
    refine at_ret ?_
    refine at_end ?_
    refine at_fold (A := SessA g { s with reqs := s.reqs ++ [⟨qs, qt, qc⟩] }) [2, 2, 2] rfl (fun h s => ⟨A0, c0, po, s⟩) ?_
    rw [show s.push ⟨qs, qt, qc⟩ = { s with reqs := s.reqs ++ [⟨qs, qt, qc⟩] } from if_neg h2, show s.pushE = 0 from if_neg h2]
    refine at_fin (rsV rfl (res_tmp rfl)) ?_
    refine ⟨_, ⟨rfl, rfl⟩, ?_⟩
    exact fun _ s => s.finEq (ks := [0]) (js := [0, 0]) rfl rfl rfl
theorem T12 (w0 : World) (g : Nat) (s : SM)  : Tri Try.prog w0 12 [ptrTo g] [SessA g s] fun v m => v = .int .i64 s.reqs.length ∧ m = [SessA g s] := by
  refine tri_of Try.func12 rfl rfl fun F => ?_
  simp only [Try.ntmps12, argEnv, List.cons_append, List.nil_append]
  refine at_ex fun A => at_ex fun c => at_ex fun po => at_open ?_
  simp only [List.cons_append, List.nil_append]
  refine at_seq_k (fun K0 hK0 => ?_)
  refine at_region ?_
  refine at_v (ov_assign rfl rfl) rfl rfl rfl ?_
  refine at_nil ?_
  refine at_normal ?_
  refine hK0 _ _ ?_
  refine at_seq_k (fun K1 hK1 => ?_)
  refine at_region ?_
  refine at_v (ov_move rfl rfl) rfl rfl rfl ?_
  refine at_v (ov_nilCheck rfl rfl) rfl rfl rfl ?_
  refine at_v (ov_fieldAddr (k := 0) (r := 0) rfl rfl rfl rfl) rfl rfl rfl ?_
  refine at_v (ov_load rfl rfl rfl (fun _ s => s.ld (k := 0) rfl rfl)) rfl rfl rfl ?_
  refine at_v (ov_len_slice rfl Try.underlying29 rfl) rfl rfl rfl ?_
  refine at_v (ov_assign rfl rfl) rfl rfl rfl ?_
  refine at_nil ?_
  refine at_normal ?_
  refine hK1 _ _ ?_
  refine at_ret ?_
  refine at_end ?_
  refine at_fold (A := SessA g s) [0, 0, 0] rfl (fun h s => ⟨A, c, po, s⟩) ?_
  refine at_fin (rsV rfl (res_tmp rfl)) ?_
  refine ⟨_, ⟨rfl, rfl⟩, ?_⟩
  exact fun _ s => s.finEq (ks := [0]) (js := []) rfl rfl rfl
theorem at_rowDrop {w0 : World} {n : Nat} {ds : List Deferred} {R : Act → World → Prop} {env : Env} {α : Type} {enc : α → List Value} {l : List HP} (j k : Nat) {e : TypeId} {size : Nat} {A : Option Addr} {c : Nat} {xs : List α} (hk : nth k l = some (Row enc e size A c xs)) (hj : j ≤ xs.length)
    (h : At w0 n ds R env (setAt k (Row enc e size (dropA A c j size) (c - j) (xs.drop j)) l)) : At w0 n ds R env l := fun a w f s => by
  refine h a w f ?_
  obtain ⟨r, hp, hs⟩ := nth_pull hk
  have s1 : Sat w0 w (Row enc e size A c xs :: r) := s.imp fun _ hh => star_perm hp hh
  have s2 : Sat w0 w (Row enc e size (dropA A c j size) (c - j) (xs.drop j) :: r) := s1.imp fun h ⟨p, q, h1, h2, h3⟩ => ⟨p, q, Row.drop h1 j hj, h2, h3⟩
  exact s2.imp fun _ hh => star_perm (hs _).symm hh
theorem T25 (w0 : World) (g : Nat) (s : SM)  : Tri Try.prog w0 25 [ptrTo g] [SessA g s] fun v m => v = .bool s.some_ ∧ m = [SessA g s.pop] := by
  refine tri_of Try.func25 rfl rfl fun F => ?_
  simp only [Try.ntmps25, argEnv, List.cons_append, List.nil_append]
  refine at_seq_k (fun K0 hK0 => ?_)
  refine at_region ?_
  refine at_v (ov_assign rfl rfl) rfl rfl rfl ?_
  refine at_nil ?_
  refine at_normal ?_
  refine hK0 _ _ ?_
  refine at_seq_k (fun K1 hK1 => ?_)
  refine at_region ?_
  refine at_v (ov_move rfl rfl) rfl rfl rfl ?_
  refine at_t (ot_call (ks := [0]) rfl rfl rfl Try.call11 rfl (T11 _ _ _) rfl) rfl rfl rfl ?_
  rintro v0 _ ⟨m0, hp0, rfl⟩
  obtain ⟨rfl, rfl⟩ := hp0
  simp only [List.cons_append, List.nil_append]
  refine at_v (ov_move rfl rfl) rfl rfl rfl ?_
  refine at_v (ov_extract rfl rfl rfl) rfl rfl rfl ?_
  refine at_v (ov_extract rfl rfl rfl) rfl rfl rfl ?_
  refine at_t (ot_allocA rfl Try.zeroValue32) rfl rfl rfl ?_
  rintro _ _ ⟨g0, rfl, rfl⟩
  refine at_t0 (ot_store (k := 0) rfl rfl rfl rfl rfl rfl rfl) rfl rfl ?_
  rintro _ _ ⟨rfl, rfl⟩
  simp only [setAt, splice, spliceL, Value.cells]
  refine at_v (ov_assign rfl rfl) rfl rfl rfl ?_
  refine at_nil ?_
  refine at_normal ?_
  refine hK1 _ _ ?_
  refine at_seq_k (fun K2 hK2 => ?_)
  refine at_seq_k (fun K3 hK3 => ?_)
  refine at_region ?_
  refine at_v (ov_move rfl rfl) rfl rfl rfl ?_
  refine at_nil ?_
  refine at_normal ?_
  refine hK3 _ _ ?_
  refine at_cond rfl (fun h => ?_) (fun h => ?_)
  · refine at_pulls [1] rfl ?_
    refine at_ex fun A => at_ex fun c => at_ex fun po => at_open ?_
    simp only [List.cons_append, List.nil_append]
    have hne : 1 ≤ s.reqs.length := by
      have : s.reqs ≠ [] := by intro e; simp [SM.some_, e] at h
      exact List.length_pos_iff.2 this
    refine at_rowLen (xs := s.reqs) (enc := rqE) 1 rfl fun hc1 hc2 => ?_
    refine at_region ?_
    refine at_v (ov_move rfl rfl) rfl rfl rfl ?_
    refine at_v (ov_move rfl rfl) rfl rfl rfl ?_
    refine at_v (ov_nilCheck rfl rfl) rfl rfl rfl ?_
    refine at_v (ov_fieldAddr (k := 0) (r := 0) rfl rfl rfl rfl) rfl rfl rfl ?_
    refine at_v (ov_load rfl rfl rfl (fun _ s => s.ld (k := 0) rfl rfl)) rfl rfl rfl ?_
    refine at_v (ov_sliceFrom (size := 3) (k := 1) (xs := s.reqs) rfl Try.underlying29 rfl rfl rfl hne hc1) rfl rfl rfl ?_
    refine at_v (ov_nilCheck rfl rfl) rfl rfl rfl ?_
    refine at_v (ov_fieldAddr (k := 0) (r := 0) rfl rfl rfl rfl) rfl rfl rfl ?_
    refine at_t0 (ot_store (k := 0) rfl rfl rfl rfl rfl rfl rfl) rfl rfl ?_
    rintro _ _ ⟨rfl, rfl⟩
    simp only [setAt, splice, spliceL, Value.cells]
    refine at_nil ?_
    refine at_normal ?_
    refine hK2 _ _ ?_
    refine at_seq_k (fun K4 hK4 => ?_)
    refine at_region ?_
    refine at_v (ov_move rfl rfl) rfl rfl rfl ?_
    refine at_v (ov_assign rfl rfl) rfl rfl rfl ?_
    refine at_nil ?_
    refine at_normal ?_
    refine hK4 _ _ ?_
    refine at_ret ?_
    refine at_end ?_
    refine at_rowDrop 1 1 rfl hne ?_
    simp only [setAt]
    refine at_fold (A := SessA g s.pop) [0, 0, 0] rfl (fun h s => ⟨_, _, po, s⟩) ?_
    refine at_fin (rsV rfl (res_tmp rfl)) ?_
    refine ⟨_, ⟨rfl, rfl⟩, ?_⟩
    exact fun _ s => s.finEq (ks := [0]) (js := [0]) rfl rfl rfl
  · have hz : s.reqs = [] := by simpa [SM.some_] using h
    refine at_skip ?_
    refine at_normal ?_
    refine hK2 _ _ ?_
    refine at_seq_k (fun K4 hK4 => ?_)
    refine at_region ?_
    refine at_v (ov_move rfl rfl) rfl rfl rfl ?_
    refine at_v (ov_assign rfl rfl) rfl rfl rfl ?_
    refine at_nil ?_
    refine at_normal ?_
    refine hK4 _ _ ?_
    refine at_ret ?_
    refine at_end ?_
    rw [show SessA g s = SessA g s.pop from by rw [show s.pop = s from by obtain ⟨a, b, c, d, e, f⟩ := s; simp at hz; subst hz; rfl]]
    refine at_fin (rsV rfl (res_tmp rfl)) ?_
    refine ⟨_, ⟨rfl, rfl⟩, ?_⟩
    exact fun _ s => s.finEq (ks := [1]) (js := [0]) rfl rfl rfl
theorem T17 (w0 : World) (g : Nat) (s : SM) (n c : Int) : Tri Try.prog w0 17 [ptrTo g, .int .i64 n, .int .i64 c] [SessA g s] fun v m => v = .bool (!s.op.isSome) ∧ m = [SessA g (s.begin n c)] := by
  refine tri_of Try.func17 rfl rfl fun F => ?_
  simp only [Try.ntmps17, argEnv, List.cons_append, List.nil_append]
  refine at_ex fun A => at_ex fun c1 => at_ex fun po => at_open ?_
  simp only [List.cons_append, List.nil_append]
  refine at_pulls [2] rfl ?_
  obtain ⟨reqs, te, tp, op, lost, ab⟩ := s
  cases op with
  | none =>
    refine at_openNil fun e => ?_
    subst e
    refine at_seq_k (fun K0 hK0 => ?_)
    refine at_region ?_
    refine at_v (ov_assign rfl rfl) rfl rfl rfl ?_
    refine at_nil ?_
    refine at_normal ?_
    refine hK0 _ _ ?_
    refine at_seq_k (fun K1 hK1 => ?_)
    refine at_seq_k (fun K2 hK2 => ?_)
    refine at_region ?_
    refine at_v (ov_move rfl rfl) rfl rfl rfl ?_
    refine at_v (ov_nilCheck rfl rfl) rfl rfl rfl ?_
    refine at_v (ov_fieldAddr (k := 3) (r := 3) rfl rfl rfl rfl) rfl rfl rfl ?_
    refine at_v (ov_load rfl rfl rfl (fun _ s => s.ld (k := 0) rfl rfl)) rfl rfl rfl ?_
    refine at_v (ov_ptr_nnil (q := none) rfl Try.underlying45 rfl rfl) rfl rfl rfl ?_
    refine at_nil ?_
    refine at_normal ?_
    refine hK2 _ _ ?_
    refine at_cond_false rfl ?_
    refine at_skip ?_
    refine at_normal ?_
    refine hK1 _ _ ?_
    refine at_seq_k (fun K3 hK3 => ?_)
    refine at_region ?_
    refine at_v (ov_move rfl rfl) rfl rfl rfl ?_
    refine at_v (ov_move rfl rfl) rfl rfl rfl ?_
    refine at_v (ov_move rfl rfl) rfl rfl rfl ?_
    refine at_v (ov_build (cs := [_, _]) rfl rfl rfl rfl) rfl rfl rfl ?_
    refine at_t (ot_boxA rfl rfl) rfl rfl rfl ?_
    rintro _ _ ⟨g0, rfl, rfl⟩
    refine at_v (ov_nilCheck rfl rfl) rfl rfl rfl ?_
    refine at_v (ov_fieldAddr (k := 3) (r := 3) rfl rfl rfl rfl) rfl rfl rfl ?_
    refine at_t0 (ot_store (k := 1) rfl rfl rfl rfl rfl rfl rfl) rfl rfl ?_
    rintro _ _ ⟨rfl, rfl⟩
    simp only [setAt, splice, spliceL, Value.cells]
    refine at_nil ?_
    refine at_normal ?_
    refine hK3 _ _ ?_
    refine at_seq_k (fun K4 hK4 => ?_)
    refine at_region ?_
    refine at_v (ov_assign rfl rfl) rfl rfl rfl ?_
    refine at_nil ?_
    refine at_normal ?_
    refine hK4 _ _ ?_
    refine at_ret ?_
    refine at_end ?_
    refine at_fold (A := OpenA (some ⟨g0, 0, none⟩) (some (n, c))) [0] rfl OpenA.some_mk ?_
    refine at_fold (A := SessA g ((SM.mk reqs te tp none lost ab).begin n c)) [1, 1, 0] rfl (fun h s => ⟨A, c1, _, s⟩) ?_
    refine at_fin (rsV rfl (res_tmp rfl)) ?_
    refine ⟨_, ⟨rfl, rfl⟩, ?_⟩
    exact fun _ s => s.finEq (ks := [0]) (js := []) rfl rfl rfl
  | some x =>
    obtain ⟨nd, cn⟩ := x
    refine at_openSome fun b e => ?_
    subst e
    refine at_seq_k (fun K0 hK0 => ?_)
    refine at_region ?_
    refine at_v (ov_assign rfl rfl) rfl rfl rfl ?_
    refine at_nil ?_
    refine at_normal ?_
    refine hK0 _ _ ?_
    refine at_seq_k (fun K1 hK1 => ?_)
    refine at_seq_k (fun K2 hK2 => ?_)
    refine at_region ?_
    refine at_v (ov_move rfl rfl) rfl rfl rfl ?_
    refine at_v (ov_nilCheck rfl rfl) rfl rfl rfl ?_
    refine at_v (ov_fieldAddr (k := 3) (r := 3) rfl rfl rfl rfl) rfl rfl rfl ?_
    refine at_v (ov_load rfl rfl rfl (fun _ s => s.ld (k := 1) rfl rfl)) rfl rfl rfl ?_
    refine at_v (ov_ptr_nnil (q := none) rfl Try.underlying45 rfl rfl) rfl rfl rfl ?_
    refine at_nil ?_
    refine at_normal ?_
    refine hK2 _ _ ?_
    refine at_cond_true rfl ?_
    refine at_seq_k (fun K3 hK3 => ?_)
    refine at_region ?_
    refine at_v (ov_assign rfl rfl) rfl rfl rfl ?_
    refine at_nil ?_
    refine at_normal ?_
    refine hK3 _ _ ?_
    refine at_ret ?_
    refine at_then_ret ?_
    refine at_end ?_
    refine at_fold (A := OpenA (some ⟨b, 0, none⟩) (some (nd, cn))) [0] rfl OpenA.some_mk ?_
    refine at_fold (A := SessA g ((SM.mk reqs te tp (some (nd, cn)) lost ab).begin n c)) [1, 1, 0] rfl (fun h s => ⟨A, c1, _, s⟩) ?_
    refine at_fin (rsV rfl (res_tmp rfl)) ?_
    refine ⟨_, ⟨rfl, rfl⟩, ?_⟩
    exact fun _ s => s.finEq (ks := [0]) (js := []) rfl rfl rfl
def SM.hn (s : SM) : Int := match s.op with | none => 0 | some p => p.1
def SM.hc (s : SM) : Int := match s.op with | none => 0 | some p => p.2
abbrev SM.heldV (s : SM) : Value := .tuple #[.int .i64 s.hn, .int .i64 s.hc, .bool s.op.isSome]
theorem T13 (w0 : World) (g : Nat) (s : SM) : Tri Try.prog w0 13 [ptrTo g] [SessA g s] fun v m => v = s.heldV ∧ m = [SessA g s] := by
  refine tri_of Try.func13 rfl rfl fun F => ?_
  simp only [Try.ntmps13, argEnv, List.cons_append, List.nil_append]
  refine at_ex fun A => at_ex fun c1 => at_ex fun po => at_open ?_
  simp only [List.cons_append, List.nil_append]
  refine at_pulls [2] rfl ?_
  obtain ⟨reqs, te, tp, op, lost, ab⟩ := s
  cases op with
  | none =>
    refine at_openNil fun e => ?_
    subst e
    refine at_seq_k (fun K0 hK0 => ?_)
    refine at_region ?_
    refine at_v (ov_assign rfl rfl) rfl rfl rfl ?_
    refine at_v (ov_assign rfl rfl) rfl rfl rfl ?_
    refine at_v (ov_assign rfl rfl) rfl rfl rfl ?_
    refine at_nil ?_
    refine at_normal ?_
    refine hK0 _ _ ?_
    refine at_seq_k (fun K1 hK1 => ?_)
    refine at_seq_k (fun K2 hK2 => ?_)
    refine at_region ?_
    refine at_v (ov_move rfl rfl) rfl rfl rfl ?_
    refine at_v (ov_nilCheck rfl rfl) rfl rfl rfl ?_
    refine at_v (ov_fieldAddr (k := 3) (r := 3) rfl rfl rfl rfl) rfl rfl rfl ?_
    refine at_v (ov_load rfl rfl rfl (fun _ s => s.ld (k := 0) rfl rfl)) rfl rfl rfl ?_
    refine at_v (ov_ptr_nil (q := none) rfl Try.underlying45 rfl rfl) rfl rfl rfl ?_
    refine at_nil ?_
    refine at_normal ?_
    refine hK2 _ _ ?_
    refine at_cond_true rfl ?_
    refine at_seq_k (fun K3 hK3 => ?_)
    refine at_region ?_
    refine at_v (ov_assign rfl rfl) rfl rfl rfl ?_
    refine at_v (ov_assign rfl rfl) rfl rfl rfl ?_
    refine at_v (ov_assign rfl rfl) rfl rfl rfl ?_
    refine at_nil ?_
    refine at_normal ?_
    refine hK3 _ _ ?_
    refine at_ret ?_
    refine at_then_ret ?_
    refine at_end ?_
    refine at_fold (A := OpenA none none) [] rfl OpenA.none_mk ?_
    refine at_fold (A := SessA g (SM.mk reqs te tp none lost ab)) [1, 1, 0] rfl (fun h s => ⟨A, c1, _, s⟩) ?_
    refine at_fin (rsL (vs := [_, _, _]) rfl ⟨res_tmp rfl, res_tmp rfl, res_tmp rfl, trivial⟩ rfl) ?_
    refine ⟨_, ⟨rfl, rfl⟩, ?_⟩
    exact fun _ s => s.finEq (ks := [0]) (js := []) rfl rfl rfl
  | some x =>
    obtain ⟨nd, cn⟩ := x
    refine at_openSome fun b e => ?_
    subst e
    refine at_seq_k (fun K0 hK0 => ?_)
    refine at_region ?_
    refine at_v (ov_assign rfl rfl) rfl rfl rfl ?_
    refine at_v (ov_assign rfl rfl) rfl rfl rfl ?_
    refine at_v (ov_assign rfl rfl) rfl rfl rfl ?_
    refine at_nil ?_
    refine at_normal ?_
    refine hK0 _ _ ?_
    refine at_seq_k (fun K1 hK1 => ?_)
    refine at_seq_k (fun K2 hK2 => ?_)
    refine at_region ?_
    refine at_v (ov_move rfl rfl) rfl rfl rfl ?_
    refine at_v (ov_nilCheck rfl rfl) rfl rfl rfl ?_
    refine at_v (ov_fieldAddr (k := 3) (r := 3) rfl rfl rfl rfl) rfl rfl rfl ?_
    refine at_v (ov_load rfl rfl rfl (fun _ s => s.ld (k := 1) rfl rfl)) rfl rfl rfl ?_
    refine at_v (ov_ptr_nil (q := none) rfl Try.underlying45 rfl rfl) rfl rfl rfl ?_
    refine at_nil ?_
    refine at_normal ?_
    refine hK2 _ _ ?_
    refine at_cond_false rfl ?_
    refine at_skip ?_
    refine at_normal ?_
    refine hK1 _ _ ?_
    refine at_seq_k (fun K3 hK3 => ?_)
    refine at_draw _ [] 1000 [(2, 0), (2, 1), (2, 2), (1, 3), (2, 4), (2, 5), (1, 6), (2, 7), (2, 8), (2, 9), (1, 10), (2, 11), (2, 12), (1, 13), (2, 14), (2, 15), (2, 16)] (by kernel_rfl) (by kernel_rfl) (fun _ s => (s.pulls (ks := [0, 0]) rfl).left) ?_
    refine aq_p (ov_move rfl rfl) rfl rfl rfl ?_
    refine aq_p (ov_nilCheck rfl rfl) rfl rfl rfl ?_
    refine aq_p (ov_fieldAddr (k := 3) (r := 3) rfl rfl rfl rfl) rfl rfl rfl ?_
    refine aq_v (ov_load rfl rfl rfl (fun _ s => s.ld (k := 1) rfl rfl)) rfl rfl rfl ?_
    refine aq_p (ov_nilCheck rfl rfl) rfl rfl rfl ?_
    refine aq_p (ov_fieldAddr (k := 0) (r := 0) rfl rfl rfl rfl) rfl rfl rfl ?_
    refine aq_v (ov_load rfl rfl rfl (fun _ s => s.ld (k := 0) rfl rfl)) rfl rfl rfl ?_
    refine aq_p (ov_move rfl rfl) rfl rfl rfl ?_
    refine aq_p (ov_nilCheck rfl rfl) rfl rfl rfl ?_
    refine aq_p (ov_fieldAddr (k := 3) (r := 3) rfl rfl rfl rfl) rfl rfl rfl ?_
    refine aq_v (ov_load rfl rfl rfl (fun _ s => s.ld (k := 1) rfl rfl)) rfl rfl rfl ?_
    refine aq_p (ov_nilCheck rfl rfl) rfl rfl rfl ?_
    refine aq_p (ov_fieldAddr (k := 1) (r := 1) rfl rfl rfl rfl) rfl rfl rfl ?_
    refine aq_v (ov_load rfl rfl rfl (fun _ s => s.ld (k := 0) rfl rfl)) rfl rfl rfl ?_
    refine aq_p (ov_assign rfl rfl) rfl rfl rfl ?_
    refine aq_p (ov_assign rfl rfl) rfl rfl rfl ?_
    refine aq_p (ov_assign rfl rfl) rfl rfl rfl ?_
    refine aq_nil ?_
    refine at_normal ?_
    refine hK3 _ _ ?_
    refine at_ret ?_
    refine at_end ?_
    refine at_fold (A := OpenA (some ⟨b, 0, none⟩) (some (nd, cn))) [0] rfl OpenA.some_mk ?_
    refine at_fold (A := SessA g (SM.mk reqs te tp (some (nd, cn)) lost ab)) [1, 1, 0] rfl (fun h s => ⟨A, c1, _, s⟩) ?_
    refine at_fin (rsL (vs := [_, _, _]) rfl ⟨res_tmp rfl, res_tmp rfl, res_tmp rfl, trivial⟩ rfl) ?_
    refine ⟨_, ⟨rfl, rfl⟩, ?_⟩
    exact fun _ s => s.finEq (ks := [0]) (js := []) rfl rfl rfl
theorem T26 (w0 : World) (g : Nat) (s : SM) : Tri Try.prog w0 26 [ptrTo g] [SessA g s] fun v m => v = .bool s.op.isSome ∧ m = [SessA g s.end_] := by
  refine tri_of Try.func26 rfl rfl fun F => ?_
  simp only [Try.ntmps26, argEnv, List.cons_append, List.nil_append]
  refine at_ex fun A => at_ex fun c1 => at_ex fun po => at_open ?_
  simp only [List.cons_append, List.nil_append]
  refine at_pulls [2] rfl ?_
  obtain ⟨reqs, te, tp, op, lost, ab⟩ := s
  cases op with
  | none =>
    refine at_openNil fun e => ?_
    subst e
    refine at_seq_k (fun K0 hK0 => ?_)
    refine at_region ?_
    refine at_v (ov_assign rfl rfl) rfl rfl rfl ?_
    refine at_nil ?_
    refine at_normal ?_
    refine hK0 _ _ ?_
    refine at_seq_k (fun K1 hK1 => ?_)
    refine at_region ?_
    refine at_v (ov_move rfl rfl) rfl rfl rfl ?_
    refine at_v (ov_nilCheck rfl rfl) rfl rfl rfl ?_
    refine at_v (ov_fieldAddr (k := 3) (r := 3) rfl rfl rfl rfl) rfl rfl rfl ?_
    refine at_v (ov_load rfl rfl rfl (fun _ s => s.ld (k := 0) rfl rfl)) rfl rfl rfl ?_
    refine at_v (ov_ptr_nnil (q := none) rfl Try.underlying45 rfl rfl) rfl rfl rfl ?_
    refine at_v (ov_assign rfl rfl) rfl rfl rfl ?_
    refine at_nil ?_
    refine at_normal ?_
    refine hK1 _ _ ?_
    refine at_seq_k (fun K2 hK2 => ?_)
    refine at_region ?_
    refine at_v (ov_move rfl rfl) rfl rfl rfl ?_
    refine at_v (ov_nilCheck rfl rfl) rfl rfl rfl ?_
    refine at_v (ov_fieldAddr (k := 3) (r := 3) rfl rfl rfl rfl) rfl rfl rfl ?_
    refine at_t0 (ot_store (k := 0) rfl rfl rfl rfl rfl rfl rfl) rfl rfl ?_
    rintro _ _ ⟨rfl, rfl⟩
    simp only [setAt, splice, spliceL, Value.cells]
    refine at_nil ?_
    refine at_normal ?_
    refine hK2 _ _ ?_
    refine at_seq_k (fun K3 hK3 => ?_)
    refine at_region ?_
    refine at_v (ov_move rfl rfl) rfl rfl rfl ?_
    refine at_v (ov_assign rfl rfl) rfl rfl rfl ?_
    refine at_nil ?_
    refine at_normal ?_
    refine hK3 _ _ ?_
    refine at_ret ?_
    refine at_end ?_
    refine at_fold (A := OpenA none none) [] rfl OpenA.none_mk ?_
    refine at_fold (A := SessA g (SM.end_ (SM.mk reqs te tp none lost ab))) [1, 1, 0] rfl (fun h s => ⟨A, c1, _, s⟩) ?_
    refine at_fin (rsV rfl (res_tmp rfl)) ?_
    refine ⟨_, ⟨rfl, rfl⟩, ?_⟩
    exact fun _ s => s.finEq (ks := [0]) (js := []) rfl rfl rfl
  | some x =>
    obtain ⟨nd, cn⟩ := x
    refine at_openSome fun b e => ?_
    subst e
    refine at_seq_k (fun K0 hK0 => ?_)
    refine at_region ?_
    refine at_v (ov_assign rfl rfl) rfl rfl rfl ?_
    refine at_nil ?_
    refine at_normal ?_
    refine hK0 _ _ ?_
    refine at_seq_k (fun K1 hK1 => ?_)
    refine at_region ?_
    refine at_v (ov_move rfl rfl) rfl rfl rfl ?_
    refine at_v (ov_nilCheck rfl rfl) rfl rfl rfl ?_
    refine at_v (ov_fieldAddr (k := 3) (r := 3) rfl rfl rfl rfl) rfl rfl rfl ?_
    refine at_v (ov_load rfl rfl rfl (fun _ s => s.ld (k := 1) rfl rfl)) rfl rfl rfl ?_
    refine at_v (ov_ptr_nnil (q := none) rfl Try.underlying45 rfl rfl) rfl rfl rfl ?_
    refine at_v (ov_assign rfl rfl) rfl rfl rfl ?_
    refine at_nil ?_
    refine at_normal ?_
    refine hK1 _ _ ?_
    refine at_seq_k (fun K2 hK2 => ?_)
    refine at_region ?_
    refine at_v (ov_move rfl rfl) rfl rfl rfl ?_
    refine at_v (ov_nilCheck rfl rfl) rfl rfl rfl ?_
    refine at_v (ov_fieldAddr (k := 3) (r := 3) rfl rfl rfl rfl) rfl rfl rfl ?_
    refine at_t0 (ot_store (k := 1) rfl rfl rfl rfl rfl rfl rfl) rfl rfl ?_
    rintro _ _ ⟨rfl, rfl⟩
    simp only [setAt, splice, spliceL, Value.cells]
    refine at_nil ?_
    refine at_normal ?_
    refine hK2 _ _ ?_
    refine at_seq_k (fun K3 hK3 => ?_)
    refine at_region ?_
    refine at_v (ov_move rfl rfl) rfl rfl rfl ?_
    refine at_v (ov_assign rfl rfl) rfl rfl rfl ?_
    refine at_nil ?_
    refine at_normal ?_
    refine hK3 _ _ ?_
    refine at_ret ?_
    refine at_end ?_
    refine at_fold (A := OpenA none none) [] rfl OpenA.none_mk ?_
    refine at_fold (A := SessA g (SM.end_ (SM.mk reqs te tp (some (nd, cn)) lost ab))) [2, 2, 0] rfl (fun h s => ⟨A, c1, _, s⟩) ?_
    refine at_fin (rsV rfl (res_tmp rfl)) ?_
    refine ⟨_, ⟨rfl, rfl⟩, ?_⟩
    exact fun _ s => s.finEq (ks := [0]) (js := [0]) rfl rfl rfl
theorem SessA.ld4 {w0 w : World} {l : List HP} {k g : Nat} {s0 : SM} (s : Sat w0 w l) (hk : nth k l = some (SessA g s0)) : w.cell? ⟨g, 4, none⟩ = some (.bool s0.lost) := by
  obtain ⟨r, s⟩ := s.front hk
  obtain ⟨A, s⟩ := s.ex
  obtain ⟨c, s⟩ := s.ex
  obtain ⟨po, s⟩ := s.ex
  exact s.open_.ld (k := 0) rfl rfl
theorem T19 (w0 : World) (g : Nat) (s : SM) : Tri Try.prog w0 19 [ptrTo g] [SessA g s] fun v m => v = .bool s.op.isSome ∧ m = [SessA g s.abort] := by
  refine tri_of Try.func19 rfl rfl fun F => ?_
  simp only [Try.ntmps19, argEnv, List.cons_append, List.nil_append]
  refine at_seq_k (fun K0 hK0 => ?_)
  refine at_region ?_
  refine at_v (ov_assign rfl rfl) rfl rfl rfl ?_
  refine at_nil ?_
  refine at_normal ?_
  refine hK0 _ _ ?_
  refine at_seq_k (fun K1 hK1 => ?_)
  refine at_region ?_
  refine at_v (ov_move rfl rfl) rfl rfl rfl ?_
  refine at_t (ot_call (ks := [0]) rfl rfl rfl Try.call26 rfl (T26 _ _ _) rfl) rfl rfl rfl ?_
  rintro v0 _ ⟨m0, hp0, rfl⟩
  obtain ⟨rfl, rfl⟩ := hp0
  simp only [List.cons_append, List.nil_append]
  refine at_v (ov_assign rfl rfl) rfl rfl rfl ?_
  refine at_nil ?_
  refine at_normal ?_
  refine hK1 _ _ ?_
  refine at_seq_k (fun K2 hK2 => ?_)
  refine at_region ?_
  refine at_v (ov_move rfl rfl) rfl rfl rfl ?_
  refine at_v (ov_move rfl rfl) rfl rfl rfl ?_
  refine at_v (ov_nilCheck rfl rfl) rfl rfl rfl ?_
  refine at_v (ov_fieldAddr (k := 5) (r := 5) rfl rfl rfl rfl) rfl rfl rfl ?_
  refine at_ex fun A => at_ex fun c => at_ex fun po => at_open ?_
  simp only [List.cons_append, List.nil_append]
  obtain ⟨reqs, te, tp, op, lost, ab⟩ := s
  cases ab with
  | false =>
    refine at_v (ov_load rfl rfl rfl (fun _ s => s.ld (k := 0) rfl rfl)) rfl rfl rfl ?_
    refine at_v (ov_move rfl rfl) rfl rfl rfl ?_
    refine at_wanted (j := 5) rfl ?_
    refine at_v (ov_move rfl rfl) rfl rfl rfl ?_
    refine at_v (ov_pick_f rfl rfl rfl) rfl rfl rfl ?_
    refine at_v (ov_nilCheck rfl rfl) rfl rfl rfl ?_
    refine at_v (ov_fieldAddr (k := 5) (r := 5) rfl rfl rfl rfl) rfl rfl rfl ?_
    refine at_t0 (ot_store (k := 0) rfl rfl rfl rfl rfl rfl rfl) rfl rfl ?_
    rintro _ _ ⟨rfl, rfl⟩
    simp only [setAt, splice, spliceL, Value.cells]
    refine at_nil ?_
    refine at_normal ?_
    refine hK2 _ _ ?_
    refine at_seq_k (fun K3 hK3 => ?_)
    refine at_region ?_
    refine at_v (ov_move rfl rfl) rfl rfl rfl ?_
    refine at_v (ov_assign rfl rfl) rfl rfl rfl ?_
    refine at_nil ?_
    refine at_normal ?_
    refine hK3 _ _ ?_
    refine at_ret ?_
    refine at_end ?_
    refine at_fold (A := SessA g (SM.abort (SM.mk reqs te tp op lost false))) [0, 0, 0] rfl (fun h s => ⟨A, c, po, s⟩) ?_
    refine at_fin (rsV rfl (res_tmp rfl)) ?_
    refine ⟨_, ⟨rfl, rfl⟩, ?_⟩
    exact fun _ s => s.finEq (ks := [0]) (js := []) rfl rfl rfl
  | true =>
    refine at_v (ov_load rfl rfl rfl (fun _ s => s.ld (k := 0) rfl rfl)) rfl rfl rfl ?_
    refine at_v (ov_move rfl rfl) rfl rfl rfl ?_
    refine at_unwanted (j := 5) rfl rfl rfl rfl ?_
    refine at_v (ov_pick_t rfl rfl rfl) rfl rfl rfl ?_
    refine at_v (ov_nilCheck rfl rfl) rfl rfl rfl ?_
    refine at_v (ov_fieldAddr (k := 5) (r := 5) rfl rfl rfl rfl) rfl rfl rfl ?_
    refine at_t0 (ot_store (k := 0) rfl rfl rfl rfl rfl rfl rfl) rfl rfl ?_
    rintro _ _ ⟨rfl, rfl⟩
    simp only [setAt, splice, spliceL, Value.cells]
    refine at_nil ?_
    refine at_normal ?_
    refine hK2 _ _ ?_
    refine at_seq_k (fun K3 hK3 => ?_)
    refine at_region ?_
    refine at_v (ov_move rfl rfl) rfl rfl rfl ?_
    refine at_v (ov_assign rfl rfl) rfl rfl rfl ?_
    refine at_nil ?_
    refine at_normal ?_
    refine hK3 _ _ ?_
    refine at_ret ?_
    refine at_end ?_
    refine at_fold (A := SessA g (SM.abort (SM.mk reqs te tp op lost true))) [0, 0, 0] rfl (fun h s => ⟨A, c, po, s⟩) ?_
    refine at_fin (rsV rfl (res_tmp rfl)) ?_
    refine ⟨_, ⟨rfl, rfl⟩, ?_⟩
    exact fun _ s => s.finEq (ks := [0]) (js := []) rfl rfl rfl
theorem T21 (w0 : World) (g : Nat) (s : SM) (ue up : Int) : Tri Try.prog w0 21 [ptrTo g, .agg #[.int .u64 ue, .int .u64 up]] [SessA g s] fun v m => v = .bool (!s.lost) ∧ m = [SessA g (s.wrote (ue, up))] := by
  refine tri_of Try.func21 rfl rfl fun F => ?_
  simp only [Try.ntmps21, argEnv, List.cons_append, List.nil_append]
  refine at_ex fun A => at_ex fun c => at_ex fun po => at_open ?_
  simp only [List.cons_append, List.nil_append]
  obtain ⟨reqs, te, tp, op, lost, ab⟩ := s
  cases lost with
  | false =>
    refine at_seq_k (fun K0 hK0 => ?_)
    refine at_region ?_
    refine at_t (ot_boxA rfl rfl) rfl rfl rfl ?_
    rintro _ _ ⟨g0, rfl, rfl⟩
    refine at_v (ov_assign rfl rfl) rfl rfl rfl ?_
    refine at_nil ?_
    refine at_normal ?_
    refine hK0 _ _ ?_
    refine at_seq_k (fun K1 hK1 => ?_)
    refine at_seq_k (fun K2 hK2 => ?_)
    refine at_region ?_
    refine at_v (ov_move rfl rfl) rfl rfl rfl ?_
    refine at_v (ov_nilCheck rfl rfl) rfl rfl rfl ?_
    refine at_v (ov_fieldAddr (k := 4) (r := 4) rfl rfl rfl rfl) rfl rfl rfl ?_
    refine at_v (ov_load rfl rfl rfl (fun _ s => s.ld (k := 1) rfl rfl)) rfl rfl rfl ?_
    refine at_v (ov_not rfl rfl) rfl rfl rfl ?_
    refine at_nil ?_
    refine at_normal ?_
    refine hK2 _ _ ?_
    refine at_cond_true rfl ?_
    refine at_draw _ [] 9 [(2, 0), (2, 1), (2, 2), (2, 3), (1, 4), (1, 5), (0, 6), (2, 7), (2, 8), (3, 9)] (by kernel_rfl) (by kernel_rfl) (fun _ s => (s.pulls (ks := [0, 0]) rfl).left) ?_
    refine aq_p (ov_move rfl rfl) rfl rfl rfl ?_
    refine aq_p (ov_move rfl rfl) rfl rfl rfl ?_
    refine aq_p (ov_nilCheck rfl rfl) rfl rfl rfl ?_
    refine aq_p (ov_fieldAddr (k := 1) (r := 1) rfl rfl rfl rfl) rfl rfl rfl ?_
    refine aq_v (ov_loadS (cs := [_, _]) rfl rfl rfl rfl (fun _ s => s.lds (k := 1) rfl ⟨rfl, rfl, trivial⟩)) rfl rfl rfl ?_
    refine aq_v (ov_loadS (cs := [_, _]) rfl rfl rfl rfl (fun _ s => s.lds (k := 0) rfl ⟨rfl, rfl, trivial⟩)) rfl rfl rfl ?_
    refine aq_t (ot_call (ks := []) rfl rfl rfl Try.call27 rfl (T27 _ _ _ _ _) rfl) rfl rfl rfl ?_
    rintro v0 _ ⟨m0, hp0, rfl⟩
    obtain ⟨rfl, rfl⟩ := hp0
    simp only [List.cons_append, List.nil_append]
    refine ⟨fun _ s => (s.pulls (ks := [0, 0]) rfl).left, ?_⟩
    refine aq_p (ov_nilCheck rfl rfl) rfl rfl rfl ?_
    refine aq_p (ov_fieldAddr (k := 1) (r := 1) rfl rfl rfl rfl) rfl rfl rfl ?_
    refine aq_b0 (ot_store (k := 1) rfl rfl rfl rfl rfl rfl rfl) rfl rfl ?_
    rintro _ _ ⟨rfl, rfl⟩
    simp only [setAt, splice, spliceL, Value.cells]
    refine ⟨fun _ s => (s.pulls (ks := []) rfl).left, ?_⟩
    refine aq_nil ?_
    refine at_normal ?_
    refine hK1 _ _ ?_
    refine at_seq_k (fun K3 hK3 => ?_)
    refine at_region ?_
    refine at_v (ov_move rfl rfl) rfl rfl rfl ?_
    refine at_v (ov_nilCheck rfl rfl) rfl rfl rfl ?_
    refine at_v (ov_fieldAddr (k := 4) (r := 4) rfl rfl rfl rfl) rfl rfl rfl ?_
    refine at_v (ov_load rfl rfl rfl (fun _ s => s.ld (k := 1) rfl rfl)) rfl rfl rfl ?_
    refine at_v (ov_not rfl rfl) rfl rfl rfl ?_
    refine at_v (ov_assign rfl rfl) rfl rfl rfl ?_
    refine at_nil ?_
    refine at_normal ?_
    refine hK3 _ _ ?_
    refine at_ret ?_
    refine at_end ?_
    refine at_fold (A := SessA g (SM.wrote (SM.mk reqs te tp op false ab) (ue, up))) [1, 1, 1] rfl (fun h s => ⟨A, c, po, s⟩) ?_
    refine at_fin (rsV rfl (res_tmp rfl)) ?_
    refine ⟨_, ⟨rfl, rfl⟩, ?_⟩
    exact fun _ s => s.finEq (ks := [0]) (js := [0]) rfl rfl rfl
  | true =>
    refine at_seq_k (fun K0 hK0 => ?_)
    refine at_region ?_
    refine at_t (ot_boxA rfl rfl) rfl rfl rfl ?_
    rintro _ _ ⟨g0, rfl, rfl⟩
    refine at_v (ov_assign rfl rfl) rfl rfl rfl ?_
    refine at_nil ?_
    refine at_normal ?_
    refine hK0 _ _ ?_
    refine at_seq_k (fun K1 hK1 => ?_)
    refine at_seq_k (fun K2 hK2 => ?_)
    refine at_region ?_
    refine at_v (ov_move rfl rfl) rfl rfl rfl ?_
    refine at_v (ov_nilCheck rfl rfl) rfl rfl rfl ?_
    refine at_v (ov_fieldAddr (k := 4) (r := 4) rfl rfl rfl rfl) rfl rfl rfl ?_
    refine at_v (ov_load rfl rfl rfl (fun _ s => s.ld (k := 1) rfl rfl)) rfl rfl rfl ?_
    refine at_v (ov_not rfl rfl) rfl rfl rfl ?_
    refine at_nil ?_
    refine at_normal ?_
    refine hK2 _ _ ?_
    refine at_cond_false rfl ?_
    refine at_skip ?_
    refine at_normal ?_
    refine hK1 _ _ ?_
    refine at_seq_k (fun K3 hK3 => ?_)
    refine at_region ?_
    refine at_v (ov_move rfl rfl) rfl rfl rfl ?_
    refine at_v (ov_nilCheck rfl rfl) rfl rfl rfl ?_
    refine at_v (ov_fieldAddr (k := 4) (r := 4) rfl rfl rfl rfl) rfl rfl rfl ?_
    refine at_v (ov_load rfl rfl rfl (fun _ s => s.ld (k := 1) rfl rfl)) rfl rfl rfl ?_
    refine at_v (ov_not rfl rfl) rfl rfl rfl ?_
    refine at_v (ov_assign rfl rfl) rfl rfl rfl ?_
    refine at_nil ?_
    refine at_normal ?_
    refine hK3 _ _ ?_
    refine at_ret ?_
    refine at_end ?_
    refine at_fold (A := SessA g (SM.wrote (SM.mk reqs te tp op true ab) (ue, up))) [1, 1, 1] rfl (fun h s => ⟨A, c, po, s⟩) ?_
    refine at_fin (rsV rfl (res_tmp rfl)) ?_
    refine ⟨_, ⟨rfl, rfl⟩, ?_⟩
    exact fun _ s => s.finEq (ks := [0]) (js := [0]) rfl rfl rfl
theorem T23 (w0 : World) (g gv : Nat) (s : SM) (v0 : VM) (hlen : v0.cuts.length ≤ 1000000) : Tri Try.prog w0 23 [ptrTo g, ptrTo gv] [SessA g s, ViewA gv v0] fun v m => v = .bool (!bringB v0 s.te s.tp) ∧ m = [SessA g (s.learn v0), ViewA gv v0] := by
  refine tri_of Try.func23 rfl rfl fun F => ?_
  simp only [Try.ntmps23, argEnv, List.cons_append, List.nil_append]
  refine at_ex fun A => at_ex fun c => at_ex fun po => at_open ?_
  simp only [List.cons_append, List.nil_append]
  obtain ⟨reqs, te, tp, op, lost, ab⟩ := s
  cases lost with
  | false =>
    refine at_seq_k (fun K0 hK0 => ?_)
    refine at_region ?_
    refine at_v (ov_assign rfl rfl) rfl rfl rfl ?_
    refine at_nil ?_
    refine at_normal ?_
    refine hK0 _ _ ?_
    refine at_seq_k (fun K1 hK1 => ?_)
    refine at_region ?_
    refine at_v (ov_move rfl rfl) rfl rfl rfl ?_
    refine at_v (ov_move rfl rfl) rfl rfl rfl ?_
    refine at_v (ov_nilCheck rfl rfl) rfl rfl rfl ?_
    refine at_v (ov_fieldAddr (k := 1) (r := 1) rfl rfl rfl rfl) rfl rfl rfl ?_
    refine at_v (ov_loadS (cs := [_, _]) rfl rfl rfl rfl (fun _ s => s.lds (k := 0) rfl ⟨rfl, rfl, trivial⟩)) rfl rfl rfl ?_
    refine at_t (ot_call (ks := [3]) rfl rfl rfl Try.call28 rfl (T28 _ _ _ _ _ (by first | assumption | omega | decide | (simp; done) | (simp at *; omega))) rfl) rfl rfl rfl ?_
    rintro v1 _ ⟨m0, hp0, rfl⟩
    obtain ⟨rfl, rfl⟩ := hp0
    simp only [List.cons_append, List.nil_append]
    refine at_v (ov_move rfl rfl) rfl rfl rfl ?_
    refine at_v (ov_extract rfl rfl rfl) rfl rfl rfl ?_
    refine at_v (ov_extract rfl rfl rfl) rfl rfl rfl ?_
    refine at_t (ot_allocA rfl Try.zeroValue34) rfl rfl rfl ?_
    rintro _ _ ⟨g0, rfl, rfl⟩
    refine at_t0 (ot_store (k := 0) rfl rfl rfl rfl rfl rfl rfl) rfl rfl ?_
    rintro _ _ ⟨rfl, rfl⟩
    simp only [setAt, splice, spliceL, Value.cells]
    refine at_v (ov_assign rfl rfl) rfl rfl rfl ?_
    refine at_nil ?_
    refine at_normal ?_
    refine hK1 _ _ ?_
    refine at_seq_k (fun K2 hK2 => ?_)
    refine at_region ?_
    refine at_v (ov_move rfl rfl) rfl rfl rfl ?_
    refine at_v (ov_loadS (cs := [_, _]) rfl rfl rfl rfl (fun _ s => s.lds (k := 0) rfl ⟨rfl, rfl, trivial⟩)) rfl rfl rfl ?_
    refine at_v (ov_nilCheck rfl rfl) rfl rfl rfl ?_
    refine at_v (ov_fieldAddr (k := 1) (r := 1) rfl rfl rfl rfl) rfl rfl rfl ?_
    refine at_t0 (ot_store (k := 2) rfl rfl rfl rfl rfl rfl rfl) rfl rfl ?_
    rintro _ _ ⟨rfl, rfl⟩
    simp only [setAt, splice, spliceL, Value.cells]
    refine at_nil ?_
    refine at_normal ?_
    refine hK2 _ _ ?_
    refine at_seq_k (fun K3 hK3 => ?_)
    refine at_region ?_
    refine at_v (ov_move rfl rfl) rfl rfl rfl ?_
    refine at_v (ov_move rfl rfl) rfl rfl rfl ?_
    refine at_v (ov_nilCheck rfl rfl) rfl rfl rfl ?_
    refine at_v (ov_fieldAddr (k := 4) (r := 4) rfl rfl rfl rfl) rfl rfl rfl ?_
    refine at_v (ov_load rfl rfl rfl (fun _ s => s.ld (k := 2) rfl rfl)) rfl rfl rfl ?_
    refine at_v (ov_move rfl rfl) rfl rfl rfl ?_
    refine at_wanted (j := 5) rfl ?_
    refine at_v (ov_move rfl rfl) rfl rfl rfl ?_
    refine at_wanted (j := 5) rfl ?_
    refine at_v (ov_not rfl rfl) rfl rfl rfl ?_
    refine at_v (ov_pick_f rfl rfl rfl) rfl rfl rfl ?_
    refine at_v (ov_nilCheck rfl rfl) rfl rfl rfl ?_
    refine at_v (ov_fieldAddr (k := 4) (r := 4) rfl rfl rfl rfl) rfl rfl rfl ?_
    refine at_t0 (ot_store (k := 2) rfl rfl rfl rfl rfl rfl rfl) rfl rfl ?_
    rintro _ _ ⟨rfl, rfl⟩
    simp only [setAt, splice, spliceL, Value.cells]
    refine at_nil ?_
    refine at_normal ?_
    refine hK3 _ _ ?_
    refine at_seq_k (fun K4 hK4 => ?_)
    refine at_region ?_
    refine at_v (ov_move rfl rfl) rfl rfl rfl ?_
    refine at_v (ov_not rfl rfl) rfl rfl rfl ?_
    refine at_v (ov_assign rfl rfl) rfl rfl rfl ?_
    refine at_nil ?_
    refine at_normal ?_
    refine hK4 _ _ ?_
    refine at_ret ?_
    refine at_end ?_
    refine at_fold (A := SessA g (SM.learn (SM.mk reqs te tp op false ab) v0)) [2, 2, 2] rfl (fun h s => ⟨A, c, po, s⟩) ?_
    refine at_fin (rsV rfl (res_tmp rfl)) ?_
    refine ⟨_, ⟨rfl, rfl⟩, ?_⟩
    exact fun _ s => s.finEq (ks := [0, 1]) (js := [0]) rfl rfl rfl
  | true =>
    refine at_seq_k (fun K0 hK0 => ?_)
    refine at_region ?_
    refine at_v (ov_assign rfl rfl) rfl rfl rfl ?_
    refine at_nil ?_
    refine at_normal ?_
    refine hK0 _ _ ?_
    refine at_seq_k (fun K1 hK1 => ?_)
    refine at_region ?_
    refine at_v (ov_move rfl rfl) rfl rfl rfl ?_
    refine at_v (ov_move rfl rfl) rfl rfl rfl ?_
    refine at_v (ov_nilCheck rfl rfl) rfl rfl rfl ?_
    refine at_v (ov_fieldAddr (k := 1) (r := 1) rfl rfl rfl rfl) rfl rfl rfl ?_
    refine at_v (ov_loadS (cs := [_, _]) rfl rfl rfl rfl (fun _ s => s.lds (k := 0) rfl ⟨rfl, rfl, trivial⟩)) rfl rfl rfl ?_
    refine at_t (ot_call (ks := [3]) rfl rfl rfl Try.call28 rfl (T28 _ _ _ _ _ (by first | assumption | omega | decide | (simp; done) | (simp at *; omega))) rfl) rfl rfl rfl ?_
    rintro v1 _ ⟨m0, hp0, rfl⟩
    obtain ⟨rfl, rfl⟩ := hp0
    simp only [List.cons_append, List.nil_append]
    refine at_v (ov_move rfl rfl) rfl rfl rfl ?_
    refine at_v (ov_extract rfl rfl rfl) rfl rfl rfl ?_
    refine at_v (ov_extract rfl rfl rfl) rfl rfl rfl ?_
    refine at_t (ot_allocA rfl Try.zeroValue34) rfl rfl rfl ?_
    rintro _ _ ⟨g0, rfl, rfl⟩
    refine at_t0 (ot_store (k := 0) rfl rfl rfl rfl rfl rfl rfl) rfl rfl ?_
    rintro _ _ ⟨rfl, rfl⟩
    simp only [setAt, splice, spliceL, Value.cells]
    refine at_v (ov_assign rfl rfl) rfl rfl rfl ?_
    refine at_nil ?_
    refine at_normal ?_
    refine hK1 _ _ ?_
    refine at_seq_k (fun K2 hK2 => ?_)
    refine at_region ?_
    refine at_v (ov_move rfl rfl) rfl rfl rfl ?_
    refine at_v (ov_loadS (cs := [_, _]) rfl rfl rfl rfl (fun _ s => s.lds (k := 0) rfl ⟨rfl, rfl, trivial⟩)) rfl rfl rfl ?_
    refine at_v (ov_nilCheck rfl rfl) rfl rfl rfl ?_
    refine at_v (ov_fieldAddr (k := 1) (r := 1) rfl rfl rfl rfl) rfl rfl rfl ?_
    refine at_t0 (ot_store (k := 2) rfl rfl rfl rfl rfl rfl rfl) rfl rfl ?_
    rintro _ _ ⟨rfl, rfl⟩
    simp only [setAt, splice, spliceL, Value.cells]
    refine at_nil ?_
    refine at_normal ?_
    refine hK2 _ _ ?_
    refine at_seq_k (fun K3 hK3 => ?_)
    refine at_region ?_
    refine at_v (ov_move rfl rfl) rfl rfl rfl ?_
    refine at_v (ov_move rfl rfl) rfl rfl rfl ?_
    refine at_v (ov_nilCheck rfl rfl) rfl rfl rfl ?_
    refine at_v (ov_fieldAddr (k := 4) (r := 4) rfl rfl rfl rfl) rfl rfl rfl ?_
    refine at_v (ov_load rfl rfl rfl (fun _ s => s.ld (k := 2) rfl rfl)) rfl rfl rfl ?_
    refine at_v (ov_move rfl rfl) rfl rfl rfl ?_
    refine at_unwanted (j := 5) rfl rfl rfl rfl ?_
    refine at_unwanted (j := 5) rfl rfl rfl rfl ?_
    refine at_v (ov_pick_t rfl rfl rfl) rfl rfl rfl ?_
    refine at_v (ov_nilCheck rfl rfl) rfl rfl rfl ?_
    refine at_v (ov_fieldAddr (k := 4) (r := 4) rfl rfl rfl rfl) rfl rfl rfl ?_
    refine at_t0 (ot_store (k := 2) rfl rfl rfl rfl rfl rfl rfl) rfl rfl ?_
    rintro _ _ ⟨rfl, rfl⟩
    simp only [setAt, splice, spliceL, Value.cells]
    refine at_nil ?_
    refine at_normal ?_
    refine hK3 _ _ ?_
    refine at_seq_k (fun K4 hK4 => ?_)
    refine at_region ?_
    refine at_v (ov_move rfl rfl) rfl rfl rfl ?_
    refine at_v (ov_not rfl rfl) rfl rfl rfl ?_
    refine at_v (ov_assign rfl rfl) rfl rfl rfl ?_
    refine at_nil ?_
    refine at_normal ?_
    refine hK4 _ _ ?_
    refine at_ret ?_
    refine at_end ?_
    refine at_fold (A := SessA g (SM.learn (SM.mk reqs te tp op true ab) v0)) [2, 2, 2] rfl (fun h s => ⟨A, c, po, s⟩) ?_
    refine at_fin (rsV rfl (res_tmp rfl)) ?_
    refine ⟨_, ⟨rfl, rfl⟩, ?_⟩
    exact fun _ s => s.finEq (ks := [0, 1]) (js := [0]) rfl rfl rfl
theorem T15 (w0 : World) (g : Nat) (s : SM) : Tri Try.prog w0 15 [ptrTo g] [SessA g s] fun v m => v = tokV (s.te, s.tp) ∧ m = [SessA g s] := by
  refine tri_of Try.func15 rfl rfl fun F => ?_
  simp only [Try.ntmps15, argEnv, List.cons_append, List.nil_append]
  refine at_ex fun A => at_ex fun c => at_ex fun po => at_open ?_
  simp only [List.cons_append, List.nil_append]
  refine at_seq_k (fun K0 hK0 => ?_)
  refine at_region ?_
  refine at_t (ot_allocA rfl Try.zeroValue34) rfl rfl rfl ?_
  rintro _ _ ⟨g0, rfl, rfl⟩
  refine at_nil ?_
  refine at_normal ?_
  refine hK0 _ _ ?_
  refine at_seq_k (fun K1 hK1 => ?_)
  refine at_region ?_
  refine at_v (ov_move rfl rfl) rfl rfl rfl ?_
  refine at_v (ov_nilCheck rfl rfl) rfl rfl rfl ?_
  refine at_v (ov_fieldAddr (k := 1) (r := 1) rfl rfl rfl rfl) rfl rfl rfl ?_
  refine at_v (ov_loadS (cs := [_, _]) rfl rfl rfl rfl (fun _ s => s.lds (k := 1) rfl ⟨rfl, rfl, trivial⟩)) rfl rfl rfl ?_
  refine at_t0 (ot_store (k := 0) rfl rfl rfl rfl rfl rfl rfl) rfl rfl ?_
  rintro _ _ ⟨rfl, rfl⟩
  simp only [setAt, splice, spliceL, Value.cells]
  refine at_nil ?_
  refine at_normal ?_
  refine hK1 _ _ ?_
  refine at_ret ?_
  refine at_end ?_
  refine at_fold (A := SessA g s) [1, 1, 1] rfl (fun h s => ⟨A, c, po, s⟩) ?_
  refine at_fin (rsV rfl (res_cellS (k := 1) (vs := [_, _]) rfl rfl rfl rfl ⟨rfl, rfl, trivial⟩)) ?_
  refine ⟨_, ⟨rfl, rfl⟩, ?_⟩
  exact fun _ s => s.finEq (ks := [0]) (js := [0]) rfl rfl rfl
theorem T14 (w0 : World) (g : Nat) (s : SM) : Tri Try.prog w0 14 [ptrTo g] [SessA g s] fun v m => v = .bool s.lost ∧ m = [SessA g s] := by
  refine tri_of Try.func14 rfl rfl fun F => ?_
  simp only [Try.ntmps14, argEnv, List.cons_append, List.nil_append]
  refine at_ex fun A => at_ex fun c => at_ex fun po => at_open ?_
  simp only [List.cons_append, List.nil_append]
  refine at_seq_k (fun K0 hK0 => ?_)
  refine at_region ?_
  refine at_v (ov_assign rfl rfl) rfl rfl rfl ?_
  refine at_nil ?_
  refine at_normal ?_
  refine hK0 _ _ ?_
  refine at_seq_k (fun K1 hK1 => ?_)
  refine at_region ?_
  refine at_v (ov_move rfl rfl) rfl rfl rfl ?_
  refine at_v (ov_nilCheck rfl rfl) rfl rfl rfl ?_
  refine at_v (ov_fieldAddr (k := 4) (r := 4) rfl rfl rfl rfl) rfl rfl rfl ?_
  refine at_v (ov_load rfl rfl rfl (fun _ s => s.ld (k := 0) rfl rfl)) rfl rfl rfl ?_
  refine at_v (ov_assign rfl rfl) rfl rfl rfl ?_
  refine at_nil ?_
  refine at_normal ?_
  refine hK1 _ _ ?_
  refine at_ret ?_
  refine at_end ?_
  refine at_fold (A := SessA g s) [0, 0, 0] rfl (fun h s => ⟨A, c, po, s⟩) ?_
  refine at_fin (rsV rfl (res_tmp rfl)) ?_
  refine ⟨_, ⟨rfl, rfl⟩, ?_⟩
  exact fun _ s => s.finEq (ks := [0]) (js := []) rfl rfl rfl
theorem T24 (w0 : World) (g : Nat) (s : SM) : Tri Try.prog w0 24 [ptrTo g] [SessA g s] fun v m => v = .bool s.lost ∧ m = [SessA g s.ack] := by
  refine tri_of Try.func24 rfl rfl fun F => ?_
  simp only [Try.ntmps24, argEnv, List.cons_append, List.nil_append]
  refine at_ex fun A => at_ex fun c => at_ex fun po => at_open ?_
  simp only [List.cons_append, List.nil_append]
  refine at_seq_k (fun K0 hK0 => ?_)
  refine at_region ?_
  refine at_v (ov_assign rfl rfl) rfl rfl rfl ?_
  refine at_nil ?_
  refine at_normal ?_
  refine hK0 _ _ ?_
  refine at_seq_k (fun K1 hK1 => ?_)
  refine at_region ?_
  refine at_v (ov_move rfl rfl) rfl rfl rfl ?_
  refine at_v (ov_nilCheck rfl rfl) rfl rfl rfl ?_
  refine at_v (ov_fieldAddr (k := 4) (r := 4) rfl rfl rfl rfl) rfl rfl rfl ?_
  refine at_v (ov_load rfl rfl rfl (fun _ s => s.ld (k := 0) rfl rfl)) rfl rfl rfl ?_
  refine at_v (ov_assign rfl rfl) rfl rfl rfl ?_
  refine at_nil ?_
  refine at_normal ?_
  refine hK1 _ _ ?_
  refine at_seq_k (fun K2 hK2 => ?_)
  refine at_region ?_
  refine at_v (ov_move rfl rfl) rfl rfl rfl ?_
  refine at_v (ov_nilCheck rfl rfl) rfl rfl rfl ?_
  refine at_v (ov_fieldAddr (k := 4) (r := 4) rfl rfl rfl rfl) rfl rfl rfl ?_
  refine at_t0 (ot_store (k := 0) rfl rfl rfl rfl rfl rfl rfl) rfl rfl ?_
  rintro _ _ ⟨rfl, rfl⟩
  simp only [setAt, splice, spliceL, Value.cells]
  refine at_nil ?_
  refine at_normal ?_
  refine hK2 _ _ ?_
  refine at_seq_k (fun K3 hK3 => ?_)
  refine at_region ?_
  refine at_v (ov_move rfl rfl) rfl rfl rfl ?_
  refine at_v (ov_assign rfl rfl) rfl rfl rfl ?_
  refine at_nil ?_
  refine at_normal ?_
  refine hK3 _ _ ?_
  refine at_ret ?_
  refine at_end ?_
  refine at_fold (A := SessA g s.ack) [0, 0, 0] rfl (fun h s => ⟨A, c, po, s⟩) ?_
  refine at_fin (rsV rfl (res_tmp rfl)) ?_
  refine ⟨_, ⟨rfl, rfl⟩, ?_⟩
  exact fun _ s => s.finEq (ks := [0]) (js := []) rfl rfl rfl
theorem T18 (w0 : World) (g : Nat) (s : SM) (qs : Int) (qt : ByteArray) (qc : Int) : Tri Try.prog w0 18 [ptrTo g, .agg #[.int .u64 qs, .string qt, .int .i64 qc]] [SessA g s] fun v m => v = .int .i64 (s.verdictE ⟨qs, qt, qc⟩) ∧ m = [SessA g (s.verdict ⟨qs, qt, qc⟩)] := by
  refine tri_of Try.func18 rfl rfl fun F => ?_
  simp only [Try.ntmps18, argEnv, List.cons_append, List.nil_append]
  refine at_ex fun A => at_ex fun c => at_ex fun po => at_open ?_
  simp only [List.cons_append, List.nil_append]
  obtain ⟨reqs, te, tp, op, lost, ab⟩ := s
  refine at_pulls [2] rfl ?_
  cases op with
  | none =>
    refine at_openNil fun e => ?_
    subst e
    cases lost with
    | false =>
      cases ab with
      | false =>
        refine at_seq_k (fun K0 hK0 => ?_)
        refine at_region ?_
        refine at_t (ot_boxA rfl rfl) rfl rfl rfl ?_
        rintro _ _ ⟨g0, rfl, rfl⟩
        refine at_v (ov_assign rfl rfl) rfl rfl rfl ?_
        refine at_nil ?_
        refine at_normal ?_
        refine hK0 _ _ ?_
        refine at_seq_k (fun K1 hK1 => ?_)
        refine at_region ?_
        refine at_v (ov_assign rfl rfl) rfl rfl rfl ?_
        refine at_nil ?_
        refine at_normal ?_
        refine hK1 _ _ ?_
        refine at_seq_k (fun K2 hK2 => ?_)
        refine at_block ?_
        refine at_seq_k (fun K3 hK3 => ?_)
        refine at_region ?_
        refine at_v (ov_fieldAddr (k := 2) (r := 2) rfl rfl rfl rfl) rfl rfl rfl ?_
        refine at_v (ov_load rfl rfl rfl (fun _ s => s.ld (k := 0) rfl rfl)) rfl rfl rfl ?_
        refine at_v (ov_int rfl rfl rfl rfl) rfl rfl rfl ?_
        refine at_v (ov_assign rfl rfl) rfl rfl rfl ?_
        refine at_nil ?_
        refine at_normal ?_
        refine hK3 _ _ ?_
        refine at_cond rfl (fun h0 => ?_) (fun h0 => ?_)
        ·
          simp only [decide_eq_true_eq, decide_eq_false_iff_not, Bool.not_eq_true', Bool.not_eq_false', Int.not_lt, Int.not_le, Bool.and_eq_true, Bool.or_eq_true, Bool.and_eq_false_iff, Bool.or_eq_false_iff, gt_iff_lt, ge_iff_le] at h0
          refine at_seq_k (fun K4 hK4 => ?_)
          refine at_region ?_
          refine at_v (ov_assign rfl rfl) rfl rfl rfl ?_
          refine at_nil ?_
          refine at_normal ?_
          refine hK4 _ _ ?_
          refine at_ret ?_
          refine at_inb_ret ?_
          refine at_then_ret ?_
          refine at_end ?_
          refine at_fold (A := OpenA none none) [] rfl (fun h s => OpenA.none_mk _ s) ?_
          refine at_fold (A := SessA g (SM.mk reqs te tp none false false)) [2, 2, 0] rfl (fun h s => ⟨A, c, none, s⟩) ?_
          refine at_fin (rsV rfl (res_tmp rfl)) ?_
          refine ⟨[SessA g (SM.mk reqs te tp none false false)], ⟨by simp_all [SM.verdictE] <;> omega, by simp_all [SM.verdict]⟩, ?_⟩
          exact fun _ s => s.finEq (ks := [0]) (js := [0]) rfl rfl rfl
        ·
          simp only [decide_eq_true_eq, decide_eq_false_iff_not, Bool.not_eq_true', Bool.not_eq_false', Int.not_lt, Int.not_le, Bool.and_eq_true, Bool.or_eq_true, Bool.and_eq_false_iff, Bool.or_eq_false_iff, gt_iff_lt, ge_iff_le] at h0
          refine at_seq_k (fun K4 hK4 => ?_)
          refine at_region ?_
          refine at_v (ov_move rfl rfl) rfl rfl rfl ?_
          refine at_v (ov_nilCheck rfl rfl) rfl rfl rfl ?_
          refine at_v (ov_fieldAddr (k := 4) (r := 4) rfl rfl rfl rfl) rfl rfl rfl ?_
          refine at_v (ov_load rfl rfl rfl (fun _ s => s.ld (k := 1) rfl rfl)) rfl rfl rfl ?_
          refine at_v (ov_assign rfl rfl) rfl rfl rfl ?_
          refine at_nil ?_
          refine at_normal ?_
          refine hK4 _ _ ?_
          refine at_cond_false rfl ?_
          refine at_seq_k (fun K5 hK5 => ?_)
          refine at_region ?_
          refine at_v (ov_move rfl rfl) rfl rfl rfl ?_
          refine at_v (ov_nilCheck rfl rfl) rfl rfl rfl ?_
          refine at_v (ov_fieldAddr (k := 5) (r := 5) rfl rfl rfl rfl) rfl rfl rfl ?_
          refine at_v (ov_load rfl rfl rfl (fun _ s => s.ld (k := 1) rfl rfl)) rfl rfl rfl ?_
          refine at_v (ov_assign rfl rfl) rfl rfl rfl ?_
          refine at_nil ?_
          refine at_normal ?_
          refine hK5 _ _ ?_
          refine at_cond_false rfl ?_
          refine at_skip ?_
          refine at_inb_normal ?_
          refine at_normal ?_
          refine hK2 _ _ ?_
          refine at_seq_k (fun K6 hK6 => ?_)
          refine at_seq_k (fun K7 hK7 => ?_)
          refine at_region ?_
          refine at_v (ov_fieldAddr (k := 2) (r := 2) rfl rfl rfl rfl) rfl rfl rfl ?_
          refine at_v (ov_load rfl rfl rfl (fun _ s => s.ld (k := 0) rfl rfl)) rfl rfl rfl ?_
          refine at_nil ?_
          refine at_normal ?_
          refine hK7 _ _ ?_
          refine at_block ?_
          refine at_seq_k (fun K8 hK8 => ?_)
          refine at_block ?_
          refine at_seq_k (fun K9 hK9 => ?_)
          refine at_block ?_
          refine at_seq_k (fun K10 hK10 => ?_)
          refine at_seq_k (fun K11 hK11 => ?_)
          refine at_seq_k (fun K12 hK12 => ?_)
          refine at_seq_k (fun K13 hK13 => ?_)
          refine at_region ?_
          refine at_v (ov_int rfl rfl rfl rfl) rfl rfl rfl ?_
          refine at_v (ov_assign rfl rfl) rfl rfl rfl ?_
          refine at_nil ?_
          refine at_normal ?_
          refine hK13 _ _ ?_
          refine at_cond rfl (fun h1 => ?_) (fun h1 => ?_)
          ·
            simp only [decide_eq_true_eq, decide_eq_false_iff_not, Bool.not_eq_true', Bool.not_eq_false', Int.not_lt, Int.not_le, Bool.and_eq_true, Bool.or_eq_true, Bool.and_eq_false_iff, Bool.or_eq_false_iff, gt_iff_lt, ge_iff_le] at h1
            refine at_skip ?_
            refine at_normal ?_
            refine hK12 _ _ ?_
            refine at_cond_true (congrArg (fun b => some (Value.bool b)) (show _ = true from decide_eq_true (by omega))) ?_
            refine at_exit ?_
            refine at_then_exit ?_
            refine at_then_exit ?_
            refine at_exit_eq ?_
            refine at_normal ?_
            refine hK9 _ _ ?_
            refine at_region ?_
            refine at_v (ov_assign rfl rfl) rfl rfl rfl ?_
            refine at_nil ?_
            refine at_inb_normal ?_
            refine at_normal ?_
            refine hK8 _ _ ?_
            refine at_seq_k (fun K14 hK14 => ?_)
            refine at_seq_k (fun K15 hK15 => ?_)
            refine at_region ?_
            refine at_v (ov_move rfl rfl) rfl rfl rfl ?_
            refine at_v (ov_move rfl rfl) rfl rfl rfl ?_
            refine at_v (ov_nilCheck rfl rfl) rfl rfl rfl ?_
            refine at_v (ov_fieldAddr (k := 3) (r := 3) rfl rfl rfl rfl) rfl rfl rfl ?_
            refine at_v (ov_load rfl rfl rfl (fun _ s => s.ld (k := 1) rfl rfl)) rfl rfl rfl ?_
            refine at_v (ov_ptr_nnil (q := none) rfl Try.underlying45 rfl rfl) rfl rfl rfl ?_
            refine at_v (ov_boolne rfl Try.underlying4 rfl rfl) rfl rfl rfl ?_
            refine at_nil ?_
            refine at_normal ?_
            refine hK15 _ _ ?_
            refine at_cond_true rfl ?_
            refine at_seq_k (fun K16 hK16 => ?_)
            refine at_region ?_
            refine at_v (ov_assign rfl rfl) rfl rfl rfl ?_
            refine at_nil ?_
            refine at_normal ?_
            refine hK16 _ _ ?_
            refine at_ret ?_
            refine at_then_ret ?_
            refine at_inb_ret ?_
            refine at_then_ret ?_
            refine at_end ?_
            refine at_fold (A := OpenA none none) [] rfl (fun h s => OpenA.none_mk _ s) ?_
            refine at_fold (A := SessA g (SM.mk reqs te tp none false false)) [2, 2, 0] rfl (fun h s => ⟨A, c, none, s⟩) ?_
            refine at_fin (rsV rfl (res_tmp rfl)) ?_
            refine ⟨[SessA g (SM.mk reqs te tp none false false)], ⟨by simp_all [SM.verdictE] <;> omega, by simp_all [SM.verdict]⟩, ?_⟩
            exact fun _ s => s.finEq (ks := [0]) (js := [0]) rfl rfl rfl
          ·
            simp only [decide_eq_true_eq, decide_eq_false_iff_not, Bool.not_eq_true', Bool.not_eq_false', Int.not_lt, Int.not_le, Bool.and_eq_true, Bool.or_eq_true, Bool.and_eq_false_iff, Bool.or_eq_false_iff, gt_iff_lt, ge_iff_le] at h1
            refine at_region ?_
            refine at_v (ov_int rfl rfl rfl rfl) rfl rfl rfl ?_
            refine at_v (ov_assign rfl rfl) rfl rfl rfl ?_
            refine at_nil ?_
            refine at_normal ?_
            refine hK12 _ _ ?_
            refine at_cond rfl (fun h2 => ?_) (fun h2 => ?_)
            ·
              simp only [decide_eq_true_eq, decide_eq_false_iff_not, Bool.not_eq_true', Bool.not_eq_false', Int.not_lt, Int.not_le, Bool.and_eq_true, Bool.or_eq_true, Bool.and_eq_false_iff, Bool.or_eq_false_iff, gt_iff_lt, ge_iff_le] at h2
              refine at_exit ?_
              refine at_then_exit ?_
              refine at_then_exit ?_
              refine at_exit_eq ?_
              refine at_normal ?_
              refine hK9 _ _ ?_
              refine at_region ?_
              refine at_v (ov_assign rfl rfl) rfl rfl rfl ?_
              refine at_nil ?_
              refine at_inb_normal ?_
              refine at_normal ?_
              refine hK8 _ _ ?_
              refine at_seq_k (fun K14 hK14 => ?_)
              refine at_seq_k (fun K15 hK15 => ?_)
              refine at_region ?_
              refine at_v (ov_move rfl rfl) rfl rfl rfl ?_
              refine at_v (ov_move rfl rfl) rfl rfl rfl ?_
              refine at_v (ov_nilCheck rfl rfl) rfl rfl rfl ?_
              refine at_v (ov_fieldAddr (k := 3) (r := 3) rfl rfl rfl rfl) rfl rfl rfl ?_
              refine at_v (ov_load rfl rfl rfl (fun _ s => s.ld (k := 1) rfl rfl)) rfl rfl rfl ?_
              refine at_v (ov_ptr_nnil (q := none) rfl Try.underlying45 rfl rfl) rfl rfl rfl ?_
              refine at_v (ov_boolne rfl Try.underlying4 rfl rfl) rfl rfl rfl ?_
              refine at_nil ?_
              refine at_normal ?_
              refine hK15 _ _ ?_
              refine at_cond_true rfl ?_
              refine at_seq_k (fun K16 hK16 => ?_)
              refine at_region ?_
              refine at_v (ov_assign rfl rfl) rfl rfl rfl ?_
              refine at_nil ?_
              refine at_normal ?_
              refine hK16 _ _ ?_
              refine at_ret ?_
              refine at_then_ret ?_
              refine at_inb_ret ?_
              refine at_then_ret ?_
              refine at_end ?_
              refine at_fold (A := OpenA none none) [] rfl (fun h s => OpenA.none_mk _ s) ?_
              refine at_fold (A := SessA g (SM.mk reqs te tp none false false)) [2, 2, 0] rfl (fun h s => ⟨A, c, none, s⟩) ?_
              refine at_fin (rsV rfl (res_tmp rfl)) ?_
              refine ⟨[SessA g (SM.mk reqs te tp none false false)], ⟨by simp_all [SM.verdictE] <;> omega, by simp_all [SM.verdict]⟩, ?_⟩
              exact fun _ s => s.finEq (ks := [0]) (js := [0]) rfl rfl rfl
            ·
              simp only [decide_eq_true_eq, decide_eq_false_iff_not, Bool.not_eq_true', Bool.not_eq_false', Int.not_lt, Int.not_le, Bool.and_eq_true, Bool.or_eq_true, Bool.and_eq_false_iff, Bool.or_eq_false_iff, gt_iff_lt, ge_iff_le] at h2
              refine at_skip ?_
              refine at_normal ?_
              refine hK11 _ _ ?_
              refine at_seq_k (fun K14 hK14 => ?_)
              refine at_region ?_
              refine at_v (ov_int rfl rfl rfl rfl) rfl rfl rfl ?_
              refine at_v (ov_assign rfl rfl) rfl rfl rfl ?_
              refine at_nil ?_
              refine at_normal ?_
              refine hK14 _ _ ?_
              refine at_cond rfl (fun h3 => ?_) (fun h3 => ?_)
              ·
                simp only [decide_eq_true_eq, decide_eq_false_iff_not, Bool.not_eq_true', Bool.not_eq_false', Int.not_lt, Int.not_le, Bool.and_eq_true, Bool.or_eq_true, Bool.and_eq_false_iff, Bool.or_eq_false_iff, gt_iff_lt, ge_iff_le] at h3
                refine at_exit ?_
                refine at_then_exit ?_
                refine at_exit_ne rfl ?_
                refine at_then_exit ?_
                refine at_exit_eq ?_
                refine at_normal ?_
                refine hK8 _ _ ?_
                refine at_seq_k (fun K15 hK15 => ?_)
                refine at_seq_k (fun K16 hK16 => ?_)
                refine at_region ?_
                refine at_v (ov_move rfl rfl) rfl rfl rfl ?_
                refine at_v (ov_move rfl rfl) rfl rfl rfl ?_
                refine at_v (ov_nilCheck rfl rfl) rfl rfl rfl ?_
                refine at_v (ov_fieldAddr (k := 3) (r := 3) rfl rfl rfl rfl) rfl rfl rfl ?_
                refine at_v (ov_load rfl rfl rfl (fun _ s => s.ld (k := 1) rfl rfl)) rfl rfl rfl ?_
                refine at_v (ov_ptr_nnil (q := none) rfl Try.underlying45 rfl rfl) rfl rfl rfl ?_
                refine at_v (ov_boolne rfl Try.underlying4 rfl rfl) rfl rfl rfl ?_
                refine at_nil ?_
                refine at_normal ?_
                refine hK16 _ _ ?_
                refine at_cond_false rfl ?_
                refine at_skip ?_
                refine at_normal ?_
                refine hK15 _ _ ?_
                refine at_exit ?_
                refine at_exit_eq ?_
                refine at_normal ?_
                refine hK6 _ _ ?_
                refine at_seq_k (fun K17 hK17 => ?_)
                refine at_region ?_
                refine at_v (ov_assign rfl rfl) rfl rfl rfl ?_
                refine at_nil ?_
                refine at_normal ?_
                refine hK17 _ _ ?_
                refine at_ret ?_
                refine at_end ?_
                refine at_fold (A := OpenA none none) [] rfl (fun h s => OpenA.none_mk _ s) ?_
                refine at_fold (A := SessA g (SM.mk reqs te tp none false false)) [2, 2, 0] rfl (fun h s => ⟨A, c, none, s⟩) ?_
                refine at_fin (rsV rfl (res_tmp rfl)) ?_
                refine ⟨[SessA g (SM.mk reqs te tp none false false)], ⟨by simp_all [SM.verdictE] <;> omega, by simp_all [SM.verdict]⟩, ?_⟩
                exact fun _ s => s.finEq (ks := [0]) (js := [0]) rfl rfl rfl
              ·
                simp only [decide_eq_true_eq, decide_eq_false_iff_not, Bool.not_eq_true', Bool.not_eq_false', Int.not_lt, Int.not_le, Bool.and_eq_true, Bool.or_eq_true, Bool.and_eq_false_iff, Bool.or_eq_false_iff, gt_iff_lt, ge_iff_le] at h3
                refine at_skip ?_
                refine at_normal ?_
                refine hK10 _ _ ?_
                refine at_exit ?_
                refine at_exit_ne rfl ?_
                refine at_then_exit ?_
                refine at_exit_ne rfl ?_
                refine at_then_exit ?_
                refine at_exit_eq ?_
                refine at_normal ?_
                refine hK6 _ _ ?_
                refine at_seq_k (fun K15 hK15 => ?_)
                refine at_region ?_
                refine at_v (ov_assign rfl rfl) rfl rfl rfl ?_
                refine at_nil ?_
                refine at_normal ?_
                refine hK15 _ _ ?_
                refine at_ret ?_
                refine at_end ?_
                refine at_fold (A := OpenA none none) [] rfl (fun h s => OpenA.none_mk _ s) ?_
                refine at_fold (A := SessA g (SM.mk reqs te tp none false false)) [2, 2, 0] rfl (fun h s => ⟨A, c, none, s⟩) ?_
                refine at_fin (rsV rfl (res_tmp rfl)) ?_
                refine ⟨[SessA g (SM.mk reqs te tp none false false)], ⟨by simp_all [SM.verdictE] <;> omega, by simp_all [SM.verdict]⟩, ?_⟩
                exact fun _ s => s.finEq (ks := [0]) (js := [0]) rfl rfl rfl
      | true =>
        refine at_seq_k (fun K0 hK0 => ?_)
        refine at_region ?_
        refine at_t (ot_boxA rfl rfl) rfl rfl rfl ?_
        rintro _ _ ⟨g0, rfl, rfl⟩
        refine at_v (ov_assign rfl rfl) rfl rfl rfl ?_
        refine at_nil ?_
        refine at_normal ?_
        refine hK0 _ _ ?_
        refine at_seq_k (fun K1 hK1 => ?_)
        refine at_region ?_
        refine at_v (ov_assign rfl rfl) rfl rfl rfl ?_
        refine at_nil ?_
        refine at_normal ?_
        refine hK1 _ _ ?_
        refine at_seq_k (fun K2 hK2 => ?_)
        refine at_block ?_
        refine at_seq_k (fun K3 hK3 => ?_)
        refine at_region ?_
        refine at_v (ov_fieldAddr (k := 2) (r := 2) rfl rfl rfl rfl) rfl rfl rfl ?_
        refine at_v (ov_load rfl rfl rfl (fun _ s => s.ld (k := 0) rfl rfl)) rfl rfl rfl ?_
        refine at_v (ov_int rfl rfl rfl rfl) rfl rfl rfl ?_
        refine at_v (ov_assign rfl rfl) rfl rfl rfl ?_
        refine at_nil ?_
        refine at_normal ?_
        refine hK3 _ _ ?_
        refine at_cond rfl (fun h0 => ?_) (fun h0 => ?_)
        ·
          simp only [decide_eq_true_eq, decide_eq_false_iff_not, Bool.not_eq_true', Bool.not_eq_false', Int.not_lt, Int.not_le, Bool.and_eq_true, Bool.or_eq_true, Bool.and_eq_false_iff, Bool.or_eq_false_iff, gt_iff_lt, ge_iff_le] at h0
          refine at_seq_k (fun K4 hK4 => ?_)
          refine at_region ?_
          refine at_v (ov_assign rfl rfl) rfl rfl rfl ?_
          refine at_nil ?_
          refine at_normal ?_
          refine hK4 _ _ ?_
          refine at_ret ?_
          refine at_inb_ret ?_
          refine at_then_ret ?_
          refine at_end ?_
          refine at_fold (A := OpenA none none) [] rfl (fun h s => OpenA.none_mk _ s) ?_
          refine at_fold (A := SessA g (SM.mk reqs te tp none false true)) [2, 2, 0] rfl (fun h s => ⟨A, c, none, s⟩) ?_
          refine at_fin (rsV rfl (res_tmp rfl)) ?_
          refine ⟨[SessA g (SM.mk reqs te tp none false true)], ⟨by simp_all [SM.verdictE] <;> omega, by simp_all [SM.verdict]⟩, ?_⟩
          exact fun _ s => s.finEq (ks := [0]) (js := [0]) rfl rfl rfl
        ·
          simp only [decide_eq_true_eq, decide_eq_false_iff_not, Bool.not_eq_true', Bool.not_eq_false', Int.not_lt, Int.not_le, Bool.and_eq_true, Bool.or_eq_true, Bool.and_eq_false_iff, Bool.or_eq_false_iff, gt_iff_lt, ge_iff_le] at h0
          refine at_seq_k (fun K4 hK4 => ?_)
          refine at_region ?_
          refine at_v (ov_move rfl rfl) rfl rfl rfl ?_
          refine at_v (ov_nilCheck rfl rfl) rfl rfl rfl ?_
          refine at_v (ov_fieldAddr (k := 4) (r := 4) rfl rfl rfl rfl) rfl rfl rfl ?_
          refine at_v (ov_load rfl rfl rfl (fun _ s => s.ld (k := 1) rfl rfl)) rfl rfl rfl ?_
          refine at_v (ov_assign rfl rfl) rfl rfl rfl ?_
          refine at_nil ?_
          refine at_normal ?_
          refine hK4 _ _ ?_
          refine at_cond_false rfl ?_
          refine at_seq_k (fun K5 hK5 => ?_)
          refine at_region ?_
          refine at_v (ov_move rfl rfl) rfl rfl rfl ?_
          refine at_v (ov_nilCheck rfl rfl) rfl rfl rfl ?_
          refine at_v (ov_fieldAddr (k := 5) (r := 5) rfl rfl rfl rfl) rfl rfl rfl ?_
          refine at_v (ov_load rfl rfl rfl (fun _ s => s.ld (k := 1) rfl rfl)) rfl rfl rfl ?_
          refine at_v (ov_assign rfl rfl) rfl rfl rfl ?_
          refine at_nil ?_
          refine at_normal ?_
          refine hK5 _ _ ?_
          refine at_cond_true rfl ?_
          refine at_seq_k (fun K6 hK6 => ?_)
          refine at_region ?_
          refine at_v (ov_move rfl rfl) rfl rfl rfl ?_
          refine at_v (ov_nilCheck rfl rfl) rfl rfl rfl ?_
          refine at_v (ov_fieldAddr (k := 5) (r := 5) rfl rfl rfl rfl) rfl rfl rfl ?_
          refine at_t0 (ot_store (k := 1) rfl rfl rfl rfl rfl rfl rfl) rfl rfl ?_
          rintro _ _ ⟨rfl, rfl⟩
          simp only [setAt, splice, spliceL, Value.cells]
          refine at_nil ?_
          refine at_normal ?_
          refine hK6 _ _ ?_
          refine at_seq_k (fun K7 hK7 => ?_)
          refine at_region ?_
          refine at_v (ov_assign rfl rfl) rfl rfl rfl ?_
          refine at_nil ?_
          refine at_normal ?_
          refine hK7 _ _ ?_
          refine at_ret ?_
          refine at_inb_ret ?_
          refine at_then_ret ?_
          refine at_end ?_
          refine at_fold (A := OpenA none none) [] rfl (fun h s => OpenA.none_mk _ s) ?_
          refine at_fold (A := SessA g (SM.mk reqs te tp none false false)) [2, 2, 0] rfl (fun h s => ⟨A, c, none, s⟩) ?_
          refine at_fin (rsV rfl (res_tmp rfl)) ?_
          refine ⟨[SessA g (SM.mk reqs te tp none false false)], ⟨by simp_all [SM.verdictE] <;> omega, by simp_all [SM.verdict]⟩, ?_⟩
          exact fun _ s => s.finEq (ks := [0]) (js := [0]) rfl rfl rfl
    | true =>
      cases ab with
      | false =>
        refine at_seq_k (fun K0 hK0 => ?_)
        refine at_region ?_
        refine at_t (ot_boxA rfl rfl) rfl rfl rfl ?_
        rintro _ _ ⟨g0, rfl, rfl⟩
        refine at_v (ov_assign rfl rfl) rfl rfl rfl ?_
        refine at_nil ?_
        refine at_normal ?_
        refine hK0 _ _ ?_
        refine at_seq_k (fun K1 hK1 => ?_)
        refine at_region ?_
        refine at_v (ov_assign rfl rfl) rfl rfl rfl ?_
        refine at_nil ?_
        refine at_normal ?_
        refine hK1 _ _ ?_
        refine at_seq_k (fun K2 hK2 => ?_)
        refine at_block ?_
        refine at_seq_k (fun K3 hK3 => ?_)
        refine at_region ?_
        refine at_v (ov_fieldAddr (k := 2) (r := 2) rfl rfl rfl rfl) rfl rfl rfl ?_
        refine at_v (ov_load rfl rfl rfl (fun _ s => s.ld (k := 0) rfl rfl)) rfl rfl rfl ?_
        refine at_v (ov_int rfl rfl rfl rfl) rfl rfl rfl ?_
        refine at_v (ov_assign rfl rfl) rfl rfl rfl ?_
        refine at_nil ?_
        refine at_normal ?_
        refine hK3 _ _ ?_
        refine at_cond rfl (fun h0 => ?_) (fun h0 => ?_)
        ·
          simp only [decide_eq_true_eq, decide_eq_false_iff_not, Bool.not_eq_true', Bool.not_eq_false', Int.not_lt, Int.not_le, Bool.and_eq_true, Bool.or_eq_true, Bool.and_eq_false_iff, Bool.or_eq_false_iff, gt_iff_lt, ge_iff_le] at h0
          refine at_seq_k (fun K4 hK4 => ?_)
          refine at_region ?_
          refine at_v (ov_assign rfl rfl) rfl rfl rfl ?_
          refine at_nil ?_
          refine at_normal ?_
          refine hK4 _ _ ?_
          refine at_ret ?_
          refine at_inb_ret ?_
          refine at_then_ret ?_
          refine at_end ?_
          refine at_fold (A := OpenA none none) [] rfl (fun h s => OpenA.none_mk _ s) ?_
          refine at_fold (A := SessA g (SM.mk reqs te tp none true false)) [2, 2, 0] rfl (fun h s => ⟨A, c, none, s⟩) ?_
          refine at_fin (rsV rfl (res_tmp rfl)) ?_
          refine ⟨[SessA g (SM.mk reqs te tp none true false)], ⟨by simp_all [SM.verdictE] <;> omega, by simp_all [SM.verdict]⟩, ?_⟩
          exact fun _ s => s.finEq (ks := [0]) (js := [0]) rfl rfl rfl
        ·
          simp only [decide_eq_true_eq, decide_eq_false_iff_not, Bool.not_eq_true', Bool.not_eq_false', Int.not_lt, Int.not_le, Bool.and_eq_true, Bool.or_eq_true, Bool.and_eq_false_iff, Bool.or_eq_false_iff, gt_iff_lt, ge_iff_le] at h0
          refine at_seq_k (fun K4 hK4 => ?_)
          refine at_region ?_
          refine at_v (ov_move rfl rfl) rfl rfl rfl ?_
          refine at_v (ov_nilCheck rfl rfl) rfl rfl rfl ?_
          refine at_v (ov_fieldAddr (k := 4) (r := 4) rfl rfl rfl rfl) rfl rfl rfl ?_
          refine at_v (ov_load rfl rfl rfl (fun _ s => s.ld (k := 1) rfl rfl)) rfl rfl rfl ?_
          refine at_v (ov_assign rfl rfl) rfl rfl rfl ?_
          refine at_nil ?_
          refine at_normal ?_
          refine hK4 _ _ ?_
          refine at_cond_true rfl ?_
          refine at_seq_k (fun K5 hK5 => ?_)
          refine at_region ?_
          refine at_v (ov_assign rfl rfl) rfl rfl rfl ?_
          refine at_nil ?_
          refine at_normal ?_
          refine hK5 _ _ ?_
          refine at_ret ?_
          refine at_inb_ret ?_
          refine at_then_ret ?_
          refine at_end ?_
          refine at_fold (A := OpenA none none) [] rfl (fun h s => OpenA.none_mk _ s) ?_
          refine at_fold (A := SessA g (SM.mk reqs te tp none true false)) [2, 2, 0] rfl (fun h s => ⟨A, c, none, s⟩) ?_
          refine at_fin (rsV rfl (res_tmp rfl)) ?_
          refine ⟨[SessA g (SM.mk reqs te tp none true false)], ⟨by simp_all [SM.verdictE] <;> omega, by simp_all [SM.verdict]⟩, ?_⟩
          exact fun _ s => s.finEq (ks := [0]) (js := [0]) rfl rfl rfl
      | true =>
        refine at_seq_k (fun K0 hK0 => ?_)
        refine at_region ?_
        refine at_t (ot_boxA rfl rfl) rfl rfl rfl ?_
        rintro _ _ ⟨g0, rfl, rfl⟩
        refine at_v (ov_assign rfl rfl) rfl rfl rfl ?_
        refine at_nil ?_
        refine at_normal ?_
        refine hK0 _ _ ?_
        refine at_seq_k (fun K1 hK1 => ?_)
        refine at_region ?_
        refine at_v (ov_assign rfl rfl) rfl rfl rfl ?_
        refine at_nil ?_
        refine at_normal ?_
        refine hK1 _ _ ?_
        refine at_seq_k (fun K2 hK2 => ?_)
        refine at_block ?_
        refine at_seq_k (fun K3 hK3 => ?_)
        refine at_region ?_
        refine at_v (ov_fieldAddr (k := 2) (r := 2) rfl rfl rfl rfl) rfl rfl rfl ?_
        refine at_v (ov_load rfl rfl rfl (fun _ s => s.ld (k := 0) rfl rfl)) rfl rfl rfl ?_
        refine at_v (ov_int rfl rfl rfl rfl) rfl rfl rfl ?_
        refine at_v (ov_assign rfl rfl) rfl rfl rfl ?_
        refine at_nil ?_
        refine at_normal ?_
        refine hK3 _ _ ?_
        refine at_cond rfl (fun h0 => ?_) (fun h0 => ?_)
        ·
          simp only [decide_eq_true_eq, decide_eq_false_iff_not, Bool.not_eq_true', Bool.not_eq_false', Int.not_lt, Int.not_le, Bool.and_eq_true, Bool.or_eq_true, Bool.and_eq_false_iff, Bool.or_eq_false_iff, gt_iff_lt, ge_iff_le] at h0
          refine at_seq_k (fun K4 hK4 => ?_)
          refine at_region ?_
          refine at_v (ov_assign rfl rfl) rfl rfl rfl ?_
          refine at_nil ?_
          refine at_normal ?_
          refine hK4 _ _ ?_
          refine at_ret ?_
          refine at_inb_ret ?_
          refine at_then_ret ?_
          refine at_end ?_
          refine at_fold (A := OpenA none none) [] rfl (fun h s => OpenA.none_mk _ s) ?_
          refine at_fold (A := SessA g (SM.mk reqs te tp none true true)) [2, 2, 0] rfl (fun h s => ⟨A, c, none, s⟩) ?_
          refine at_fin (rsV rfl (res_tmp rfl)) ?_
          refine ⟨[SessA g (SM.mk reqs te tp none true true)], ⟨by simp_all [SM.verdictE] <;> omega, by simp_all [SM.verdict]⟩, ?_⟩
          exact fun _ s => s.finEq (ks := [0]) (js := [0]) rfl rfl rfl
        ·
          simp only [decide_eq_true_eq, decide_eq_false_iff_not, Bool.not_eq_true', Bool.not_eq_false', Int.not_lt, Int.not_le, Bool.and_eq_true, Bool.or_eq_true, Bool.and_eq_false_iff, Bool.or_eq_false_iff, gt_iff_lt, ge_iff_le] at h0
          refine at_seq_k (fun K4 hK4 => ?_)
          refine at_region ?_
          refine at_v (ov_move rfl rfl) rfl rfl rfl ?_
          refine at_v (ov_nilCheck rfl rfl) rfl rfl rfl ?_
          refine at_v (ov_fieldAddr (k := 4) (r := 4) rfl rfl rfl rfl) rfl rfl rfl ?_
          refine at_v (ov_load rfl rfl rfl (fun _ s => s.ld (k := 1) rfl rfl)) rfl rfl rfl ?_
          refine at_v (ov_assign rfl rfl) rfl rfl rfl ?_
          refine at_nil ?_
          refine at_normal ?_
          refine hK4 _ _ ?_
          refine at_cond_true rfl ?_
          refine at_seq_k (fun K5 hK5 => ?_)
          refine at_region ?_
          refine at_v (ov_assign rfl rfl) rfl rfl rfl ?_
          refine at_nil ?_
          refine at_normal ?_
          refine hK5 _ _ ?_
          refine at_ret ?_
          refine at_inb_ret ?_
          refine at_then_ret ?_
          refine at_end ?_
          refine at_fold (A := OpenA none none) [] rfl (fun h s => OpenA.none_mk _ s) ?_
          refine at_fold (A := SessA g (SM.mk reqs te tp none true true)) [2, 2, 0] rfl (fun h s => ⟨A, c, none, s⟩) ?_
          refine at_fin (rsV rfl (res_tmp rfl)) ?_
          refine ⟨[SessA g (SM.mk reqs te tp none true true)], ⟨by simp_all [SM.verdictE] <;> omega, by simp_all [SM.verdict]⟩, ?_⟩
          exact fun _ s => s.finEq (ks := [0]) (js := [0]) rfl rfl rfl
  | some x =>
    obtain ⟨nd, cn⟩ := x
    refine at_openSome fun b e => ?_
    subst e
    cases lost with
    | false =>
      cases ab with
      | false =>
        refine at_seq_k (fun K0 hK0 => ?_)
        refine at_region ?_
        refine at_t (ot_boxA rfl rfl) rfl rfl rfl ?_
        rintro _ _ ⟨g0, rfl, rfl⟩
        refine at_v (ov_assign rfl rfl) rfl rfl rfl ?_
        refine at_nil ?_
        refine at_normal ?_
        refine hK0 _ _ ?_
        refine at_seq_k (fun K1 hK1 => ?_)
        refine at_region ?_
        refine at_v (ov_assign rfl rfl) rfl rfl rfl ?_
        refine at_nil ?_
        refine at_normal ?_
        refine hK1 _ _ ?_
        refine at_seq_k (fun K2 hK2 => ?_)
        refine at_block ?_
        refine at_seq_k (fun K3 hK3 => ?_)
        refine at_region ?_
        refine at_v (ov_fieldAddr (k := 2) (r := 2) rfl rfl rfl rfl) rfl rfl rfl ?_
        refine at_v (ov_load rfl rfl rfl (fun _ s => s.ld (k := 0) rfl rfl)) rfl rfl rfl ?_
        refine at_v (ov_int rfl rfl rfl rfl) rfl rfl rfl ?_
        refine at_v (ov_assign rfl rfl) rfl rfl rfl ?_
        refine at_nil ?_
        refine at_normal ?_
        refine hK3 _ _ ?_
        refine at_cond rfl (fun h0 => ?_) (fun h0 => ?_)
        ·
          simp only [decide_eq_true_eq, decide_eq_false_iff_not, Bool.not_eq_true', Bool.not_eq_false', Int.not_lt, Int.not_le, Bool.and_eq_true, Bool.or_eq_true, Bool.and_eq_false_iff, Bool.or_eq_false_iff, gt_iff_lt, ge_iff_le] at h0
          refine at_seq_k (fun K4 hK4 => ?_)
          refine at_region ?_
          refine at_v (ov_assign rfl rfl) rfl rfl rfl ?_
          refine at_nil ?_
          refine at_normal ?_
          refine hK4 _ _ ?_
          refine at_ret ?_
          refine at_inb_ret ?_
          refine at_then_ret ?_
          refine at_end ?_
          refine at_fold (A := OpenA (some ⟨b, 0, none⟩) (some (nd, cn))) [1] rfl (fun h s => OpenA.some_mk _ s) ?_
          refine at_fold (A := SessA g (SM.mk reqs te tp (some (nd, cn)) false false)) [2, 2, 0] rfl (fun h s => ⟨A, c, (some ⟨b, 0, none⟩), s⟩) ?_
          refine at_fin (rsV rfl (res_tmp rfl)) ?_
          refine ⟨[SessA g (SM.mk reqs te tp (some (nd, cn)) false false)], ⟨by simp_all [SM.verdictE] <;> omega, by simp_all [SM.verdict]⟩, ?_⟩
          exact fun _ s => s.finEq (ks := [0]) (js := [0]) rfl rfl rfl
        ·
          simp only [decide_eq_true_eq, decide_eq_false_iff_not, Bool.not_eq_true', Bool.not_eq_false', Int.not_lt, Int.not_le, Bool.and_eq_true, Bool.or_eq_true, Bool.and_eq_false_iff, Bool.or_eq_false_iff, gt_iff_lt, ge_iff_le] at h0
          refine at_seq_k (fun K4 hK4 => ?_)
          refine at_region ?_
          refine at_v (ov_move rfl rfl) rfl rfl rfl ?_
          refine at_v (ov_nilCheck rfl rfl) rfl rfl rfl ?_
          refine at_v (ov_fieldAddr (k := 4) (r := 4) rfl rfl rfl rfl) rfl rfl rfl ?_
          refine at_v (ov_load rfl rfl rfl (fun _ s => s.ld (k := 2) rfl rfl)) rfl rfl rfl ?_
          refine at_v (ov_assign rfl rfl) rfl rfl rfl ?_
          refine at_nil ?_
          refine at_normal ?_
          refine hK4 _ _ ?_
          refine at_cond_false rfl ?_
          refine at_seq_k (fun K5 hK5 => ?_)
          refine at_region ?_
          refine at_v (ov_move rfl rfl) rfl rfl rfl ?_
          refine at_v (ov_nilCheck rfl rfl) rfl rfl rfl ?_
          refine at_v (ov_fieldAddr (k := 5) (r := 5) rfl rfl rfl rfl) rfl rfl rfl ?_
          refine at_v (ov_load rfl rfl rfl (fun _ s => s.ld (k := 2) rfl rfl)) rfl rfl rfl ?_
          refine at_v (ov_assign rfl rfl) rfl rfl rfl ?_
          refine at_nil ?_
          refine at_normal ?_
          refine hK5 _ _ ?_
          refine at_cond_false rfl ?_
          refine at_skip ?_
          refine at_inb_normal ?_
          refine at_normal ?_
          refine hK2 _ _ ?_
          refine at_seq_k (fun K6 hK6 => ?_)
          refine at_seq_k (fun K7 hK7 => ?_)
          refine at_region ?_
          refine at_v (ov_fieldAddr (k := 2) (r := 2) rfl rfl rfl rfl) rfl rfl rfl ?_
          refine at_v (ov_load rfl rfl rfl (fun _ s => s.ld (k := 0) rfl rfl)) rfl rfl rfl ?_
          refine at_nil ?_
          refine at_normal ?_
          refine hK7 _ _ ?_
          refine at_block ?_
          refine at_seq_k (fun K8 hK8 => ?_)
          refine at_block ?_
          refine at_seq_k (fun K9 hK9 => ?_)
          refine at_block ?_
          refine at_seq_k (fun K10 hK10 => ?_)
          refine at_seq_k (fun K11 hK11 => ?_)
          refine at_seq_k (fun K12 hK12 => ?_)
          refine at_seq_k (fun K13 hK13 => ?_)
          refine at_region ?_
          refine at_v (ov_int rfl rfl rfl rfl) rfl rfl rfl ?_
          refine at_v (ov_assign rfl rfl) rfl rfl rfl ?_
          refine at_nil ?_
          refine at_normal ?_
          refine hK13 _ _ ?_
          refine at_cond rfl (fun h1 => ?_) (fun h1 => ?_)
          ·
            simp only [decide_eq_true_eq, decide_eq_false_iff_not, Bool.not_eq_true', Bool.not_eq_false', Int.not_lt, Int.not_le, Bool.and_eq_true, Bool.or_eq_true, Bool.and_eq_false_iff, Bool.or_eq_false_iff, gt_iff_lt, ge_iff_le] at h1
            refine at_skip ?_
            refine at_normal ?_
            refine hK12 _ _ ?_
            refine at_cond_true (congrArg (fun b => some (Value.bool b)) (show _ = true from decide_eq_true (by omega))) ?_
            refine at_exit ?_
            refine at_then_exit ?_
            refine at_then_exit ?_
            refine at_exit_eq ?_
            refine at_normal ?_
            refine hK9 _ _ ?_
            refine at_region ?_
            refine at_v (ov_assign rfl rfl) rfl rfl rfl ?_
            refine at_nil ?_
            refine at_inb_normal ?_
            refine at_normal ?_
            refine hK8 _ _ ?_
            refine at_seq_k (fun K14 hK14 => ?_)
            refine at_seq_k (fun K15 hK15 => ?_)
            refine at_region ?_
            refine at_v (ov_move rfl rfl) rfl rfl rfl ?_
            refine at_v (ov_move rfl rfl) rfl rfl rfl ?_
            refine at_v (ov_nilCheck rfl rfl) rfl rfl rfl ?_
            refine at_v (ov_fieldAddr (k := 3) (r := 3) rfl rfl rfl rfl) rfl rfl rfl ?_
            refine at_v (ov_load rfl rfl rfl (fun _ s => s.ld (k := 2) rfl rfl)) rfl rfl rfl ?_
            refine at_v (ov_ptr_nnil (q := none) rfl Try.underlying45 rfl rfl) rfl rfl rfl ?_
            refine at_v (ov_boolne rfl Try.underlying4 rfl rfl) rfl rfl rfl ?_
            refine at_nil ?_
            refine at_normal ?_
            refine hK15 _ _ ?_
            refine at_cond_false rfl ?_
            refine at_skip ?_
            refine at_normal ?_
            refine hK14 _ _ ?_
            refine at_exit ?_
            refine at_exit_eq ?_
            refine at_normal ?_
            refine hK6 _ _ ?_
            refine at_seq_k (fun K16 hK16 => ?_)
            refine at_region ?_
            refine at_v (ov_assign rfl rfl) rfl rfl rfl ?_
            refine at_nil ?_
            refine at_normal ?_
            refine hK16 _ _ ?_
            refine at_ret ?_
            refine at_end ?_
            refine at_fold (A := OpenA (some ⟨b, 0, none⟩) (some (nd, cn))) [1] rfl (fun h s => OpenA.some_mk _ s) ?_
            refine at_fold (A := SessA g (SM.mk reqs te tp (some (nd, cn)) false false)) [2, 2, 0] rfl (fun h s => ⟨A, c, (some ⟨b, 0, none⟩), s⟩) ?_
            refine at_fin (rsV rfl (res_tmp rfl)) ?_
            refine ⟨[SessA g (SM.mk reqs te tp (some (nd, cn)) false false)], ⟨by simp_all [SM.verdictE] <;> omega, by simp_all [SM.verdict]⟩, ?_⟩
            exact fun _ s => s.finEq (ks := [0]) (js := [0]) rfl rfl rfl
          ·
            simp only [decide_eq_true_eq, decide_eq_false_iff_not, Bool.not_eq_true', Bool.not_eq_false', Int.not_lt, Int.not_le, Bool.and_eq_true, Bool.or_eq_true, Bool.and_eq_false_iff, Bool.or_eq_false_iff, gt_iff_lt, ge_iff_le] at h1
            refine at_region ?_
            refine at_v (ov_int rfl rfl rfl rfl) rfl rfl rfl ?_
            refine at_v (ov_assign rfl rfl) rfl rfl rfl ?_
            refine at_nil ?_
            refine at_normal ?_
            refine hK12 _ _ ?_
            refine at_cond rfl (fun h2 => ?_) (fun h2 => ?_)
            ·
              simp only [decide_eq_true_eq, decide_eq_false_iff_not, Bool.not_eq_true', Bool.not_eq_false', Int.not_lt, Int.not_le, Bool.and_eq_true, Bool.or_eq_true, Bool.and_eq_false_iff, Bool.or_eq_false_iff, gt_iff_lt, ge_iff_le] at h2
              refine at_exit ?_
              refine at_then_exit ?_
              refine at_then_exit ?_
              refine at_exit_eq ?_
              refine at_normal ?_
              refine hK9 _ _ ?_
              refine at_region ?_
              refine at_v (ov_assign rfl rfl) rfl rfl rfl ?_
              refine at_nil ?_
              refine at_inb_normal ?_
              refine at_normal ?_
              refine hK8 _ _ ?_
              refine at_seq_k (fun K14 hK14 => ?_)
              refine at_seq_k (fun K15 hK15 => ?_)
              refine at_region ?_
              refine at_v (ov_move rfl rfl) rfl rfl rfl ?_
              refine at_v (ov_move rfl rfl) rfl rfl rfl ?_
              refine at_v (ov_nilCheck rfl rfl) rfl rfl rfl ?_
              refine at_v (ov_fieldAddr (k := 3) (r := 3) rfl rfl rfl rfl) rfl rfl rfl ?_
              refine at_v (ov_load rfl rfl rfl (fun _ s => s.ld (k := 2) rfl rfl)) rfl rfl rfl ?_
              refine at_v (ov_ptr_nnil (q := none) rfl Try.underlying45 rfl rfl) rfl rfl rfl ?_
              refine at_v (ov_boolne rfl Try.underlying4 rfl rfl) rfl rfl rfl ?_
              refine at_nil ?_
              refine at_normal ?_
              refine hK15 _ _ ?_
              refine at_cond_false rfl ?_
              refine at_skip ?_
              refine at_normal ?_
              refine hK14 _ _ ?_
              refine at_exit ?_
              refine at_exit_eq ?_
              refine at_normal ?_
              refine hK6 _ _ ?_
              refine at_seq_k (fun K16 hK16 => ?_)
              refine at_region ?_
              refine at_v (ov_assign rfl rfl) rfl rfl rfl ?_
              refine at_nil ?_
              refine at_normal ?_
              refine hK16 _ _ ?_
              refine at_ret ?_
              refine at_end ?_
              refine at_fold (A := OpenA (some ⟨b, 0, none⟩) (some (nd, cn))) [1] rfl (fun h s => OpenA.some_mk _ s) ?_
              refine at_fold (A := SessA g (SM.mk reqs te tp (some (nd, cn)) false false)) [2, 2, 0] rfl (fun h s => ⟨A, c, (some ⟨b, 0, none⟩), s⟩) ?_
              refine at_fin (rsV rfl (res_tmp rfl)) ?_
              refine ⟨[SessA g (SM.mk reqs te tp (some (nd, cn)) false false)], ⟨by simp_all [SM.verdictE] <;> omega, by simp_all [SM.verdict]⟩, ?_⟩
              exact fun _ s => s.finEq (ks := [0]) (js := [0]) rfl rfl rfl
            ·
              simp only [decide_eq_true_eq, decide_eq_false_iff_not, Bool.not_eq_true', Bool.not_eq_false', Int.not_lt, Int.not_le, Bool.and_eq_true, Bool.or_eq_true, Bool.and_eq_false_iff, Bool.or_eq_false_iff, gt_iff_lt, ge_iff_le] at h2
              refine at_skip ?_
              refine at_normal ?_
              refine hK11 _ _ ?_
              refine at_seq_k (fun K14 hK14 => ?_)
              refine at_region ?_
              refine at_v (ov_int rfl rfl rfl rfl) rfl rfl rfl ?_
              refine at_v (ov_assign rfl rfl) rfl rfl rfl ?_
              refine at_nil ?_
              refine at_normal ?_
              refine hK14 _ _ ?_
              refine at_cond rfl (fun h3 => ?_) (fun h3 => ?_)
              ·
                simp only [decide_eq_true_eq, decide_eq_false_iff_not, Bool.not_eq_true', Bool.not_eq_false', Int.not_lt, Int.not_le, Bool.and_eq_true, Bool.or_eq_true, Bool.and_eq_false_iff, Bool.or_eq_false_iff, gt_iff_lt, ge_iff_le] at h3
                refine at_exit ?_
                refine at_then_exit ?_
                refine at_exit_ne rfl ?_
                refine at_then_exit ?_
                refine at_exit_eq ?_
                refine at_normal ?_
                refine hK8 _ _ ?_
                refine at_seq_k (fun K15 hK15 => ?_)
                refine at_seq_k (fun K16 hK16 => ?_)
                refine at_region ?_
                refine at_v (ov_move rfl rfl) rfl rfl rfl ?_
                refine at_v (ov_move rfl rfl) rfl rfl rfl ?_
                refine at_v (ov_nilCheck rfl rfl) rfl rfl rfl ?_
                refine at_v (ov_fieldAddr (k := 3) (r := 3) rfl rfl rfl rfl) rfl rfl rfl ?_
                refine at_v (ov_load rfl rfl rfl (fun _ s => s.ld (k := 2) rfl rfl)) rfl rfl rfl ?_
                refine at_v (ov_ptr_nnil (q := none) rfl Try.underlying45 rfl rfl) rfl rfl rfl ?_
                refine at_v (ov_boolne rfl Try.underlying4 rfl rfl) rfl rfl rfl ?_
                refine at_nil ?_
                refine at_normal ?_
                refine hK16 _ _ ?_
                refine at_cond_true rfl ?_
                refine at_seq_k (fun K17 hK17 => ?_)
                refine at_region ?_
                refine at_v (ov_assign rfl rfl) rfl rfl rfl ?_
                refine at_nil ?_
                refine at_normal ?_
                refine hK17 _ _ ?_
                refine at_ret ?_
                refine at_then_ret ?_
                refine at_inb_ret ?_
                refine at_then_ret ?_
                refine at_end ?_
                refine at_fold (A := OpenA (some ⟨b, 0, none⟩) (some (nd, cn))) [1] rfl (fun h s => OpenA.some_mk _ s) ?_
                refine at_fold (A := SessA g (SM.mk reqs te tp (some (nd, cn)) false false)) [2, 2, 0] rfl (fun h s => ⟨A, c, (some ⟨b, 0, none⟩), s⟩) ?_
                refine at_fin (rsV rfl (res_tmp rfl)) ?_
                refine ⟨[SessA g (SM.mk reqs te tp (some (nd, cn)) false false)], ⟨by simp_all [SM.verdictE] <;> omega, by simp_all [SM.verdict]⟩, ?_⟩
                exact fun _ s => s.finEq (ks := [0]) (js := [0]) rfl rfl rfl
              ·
                simp only [decide_eq_true_eq, decide_eq_false_iff_not, Bool.not_eq_true', Bool.not_eq_false', Int.not_lt, Int.not_le, Bool.and_eq_true, Bool.or_eq_true, Bool.and_eq_false_iff, Bool.or_eq_false_iff, gt_iff_lt, ge_iff_le] at h3
                refine at_skip ?_
                refine at_normal ?_
                refine hK10 _ _ ?_
                refine at_exit ?_
                refine at_exit_ne rfl ?_
                refine at_then_exit ?_
                refine at_exit_ne rfl ?_
                refine at_then_exit ?_
                refine at_exit_eq ?_
                refine at_normal ?_
                refine hK6 _ _ ?_
                refine at_seq_k (fun K15 hK15 => ?_)
                refine at_region ?_
                refine at_v (ov_assign rfl rfl) rfl rfl rfl ?_
                refine at_nil ?_
                refine at_normal ?_
                refine hK15 _ _ ?_
                refine at_ret ?_
                refine at_end ?_
                refine at_fold (A := OpenA (some ⟨b, 0, none⟩) (some (nd, cn))) [1] rfl (fun h s => OpenA.some_mk _ s) ?_
                refine at_fold (A := SessA g (SM.mk reqs te tp (some (nd, cn)) false false)) [2, 2, 0] rfl (fun h s => ⟨A, c, (some ⟨b, 0, none⟩), s⟩) ?_
                refine at_fin (rsV rfl (res_tmp rfl)) ?_
                refine ⟨[SessA g (SM.mk reqs te tp (some (nd, cn)) false false)], ⟨by simp_all [SM.verdictE] <;> omega, by simp_all [SM.verdict]⟩, ?_⟩
                exact fun _ s => s.finEq (ks := [0]) (js := [0]) rfl rfl rfl
      | true =>
        refine at_seq_k (fun K0 hK0 => ?_)
        refine at_region ?_
        refine at_t (ot_boxA rfl rfl) rfl rfl rfl ?_
        rintro _ _ ⟨g0, rfl, rfl⟩
        refine at_v (ov_assign rfl rfl) rfl rfl rfl ?_
        refine at_nil ?_
        refine at_normal ?_
        refine hK0 _ _ ?_
        refine at_seq_k (fun K1 hK1 => ?_)
        refine at_region ?_
        refine at_v (ov_assign rfl rfl) rfl rfl rfl ?_
        refine at_nil ?_
        refine at_normal ?_
        refine hK1 _ _ ?_
        refine at_seq_k (fun K2 hK2 => ?_)
        refine at_block ?_
        refine at_seq_k (fun K3 hK3 => ?_)
        refine at_region ?_
        refine at_v (ov_fieldAddr (k := 2) (r := 2) rfl rfl rfl rfl) rfl rfl rfl ?_
        refine at_v (ov_load rfl rfl rfl (fun _ s => s.ld (k := 0) rfl rfl)) rfl rfl rfl ?_
        refine at_v (ov_int rfl rfl rfl rfl) rfl rfl rfl ?_
        refine at_v (ov_assign rfl rfl) rfl rfl rfl ?_
        refine at_nil ?_
        refine at_normal ?_
        refine hK3 _ _ ?_
        refine at_cond rfl (fun h0 => ?_) (fun h0 => ?_)
        ·
          simp only [decide_eq_true_eq, decide_eq_false_iff_not, Bool.not_eq_true', Bool.not_eq_false', Int.not_lt, Int.not_le, Bool.and_eq_true, Bool.or_eq_true, Bool.and_eq_false_iff, Bool.or_eq_false_iff, gt_iff_lt, ge_iff_le] at h0
          refine at_seq_k (fun K4 hK4 => ?_)
          refine at_region ?_
          refine at_v (ov_assign rfl rfl) rfl rfl rfl ?_
          refine at_nil ?_
          refine at_normal ?_
          refine hK4 _ _ ?_
          refine at_ret ?_
          refine at_inb_ret ?_
          refine at_then_ret ?_
          refine at_end ?_
          refine at_fold (A := OpenA (some ⟨b, 0, none⟩) (some (nd, cn))) [1] rfl (fun h s => OpenA.some_mk _ s) ?_
          refine at_fold (A := SessA g (SM.mk reqs te tp (some (nd, cn)) false true)) [2, 2, 0] rfl (fun h s => ⟨A, c, (some ⟨b, 0, none⟩), s⟩) ?_
          refine at_fin (rsV rfl (res_tmp rfl)) ?_
          refine ⟨[SessA g (SM.mk reqs te tp (some (nd, cn)) false true)], ⟨by simp_all [SM.verdictE] <;> omega, by simp_all [SM.verdict]⟩, ?_⟩
          exact fun _ s => s.finEq (ks := [0]) (js := [0]) rfl rfl rfl
        ·
          simp only [decide_eq_true_eq, decide_eq_false_iff_not, Bool.not_eq_true', Bool.not_eq_false', Int.not_lt, Int.not_le, Bool.and_eq_true, Bool.or_eq_true, Bool.and_eq_false_iff, Bool.or_eq_false_iff, gt_iff_lt, ge_iff_le] at h0
          refine at_seq_k (fun K4 hK4 => ?_)
          refine at_region ?_
          refine at_v (ov_move rfl rfl) rfl rfl rfl ?_
          refine at_v (ov_nilCheck rfl rfl) rfl rfl rfl ?_
          refine at_v (ov_fieldAddr (k := 4) (r := 4) rfl rfl rfl rfl) rfl rfl rfl ?_
          refine at_v (ov_load rfl rfl rfl (fun _ s => s.ld (k := 2) rfl rfl)) rfl rfl rfl ?_
          refine at_v (ov_assign rfl rfl) rfl rfl rfl ?_
          refine at_nil ?_
          refine at_normal ?_
          refine hK4 _ _ ?_
          refine at_cond_false rfl ?_
          refine at_seq_k (fun K5 hK5 => ?_)
          refine at_region ?_
          refine at_v (ov_move rfl rfl) rfl rfl rfl ?_
          refine at_v (ov_nilCheck rfl rfl) rfl rfl rfl ?_
          refine at_v (ov_fieldAddr (k := 5) (r := 5) rfl rfl rfl rfl) rfl rfl rfl ?_
          refine at_v (ov_load rfl rfl rfl (fun _ s => s.ld (k := 2) rfl rfl)) rfl rfl rfl ?_
          refine at_v (ov_assign rfl rfl) rfl rfl rfl ?_
          refine at_nil ?_
          refine at_normal ?_
          refine hK5 _ _ ?_
          refine at_cond_true rfl ?_
          refine at_seq_k (fun K6 hK6 => ?_)
          refine at_region ?_
          refine at_v (ov_move rfl rfl) rfl rfl rfl ?_
          refine at_v (ov_nilCheck rfl rfl) rfl rfl rfl ?_
          refine at_v (ov_fieldAddr (k := 5) (r := 5) rfl rfl rfl rfl) rfl rfl rfl ?_
          refine at_t0 (ot_store (k := 2) rfl rfl rfl rfl rfl rfl rfl) rfl rfl ?_
          rintro _ _ ⟨rfl, rfl⟩
          simp only [setAt, splice, spliceL, Value.cells]
          refine at_nil ?_
          refine at_normal ?_
          refine hK6 _ _ ?_
          refine at_seq_k (fun K7 hK7 => ?_)
          refine at_region ?_
          refine at_v (ov_assign rfl rfl) rfl rfl rfl ?_
          refine at_nil ?_
          refine at_normal ?_
          refine hK7 _ _ ?_
          refine at_ret ?_
          refine at_inb_ret ?_
          refine at_then_ret ?_
          refine at_end ?_
          refine at_fold (A := OpenA (some ⟨b, 0, none⟩) (some (nd, cn))) [1] rfl (fun h s => OpenA.some_mk _ s) ?_
          refine at_fold (A := SessA g (SM.mk reqs te tp (some (nd, cn)) false false)) [2, 2, 0] rfl (fun h s => ⟨A, c, (some ⟨b, 0, none⟩), s⟩) ?_
          refine at_fin (rsV rfl (res_tmp rfl)) ?_
          refine ⟨[SessA g (SM.mk reqs te tp (some (nd, cn)) false false)], ⟨by simp_all [SM.verdictE] <;> omega, by simp_all [SM.verdict]⟩, ?_⟩
          exact fun _ s => s.finEq (ks := [0]) (js := [0]) rfl rfl rfl
    | true =>
      cases ab with
      | false =>
        refine at_seq_k (fun K0 hK0 => ?_)
        refine at_region ?_
        refine at_t (ot_boxA rfl rfl) rfl rfl rfl ?_
        rintro _ _ ⟨g0, rfl, rfl⟩
        refine at_v (ov_assign rfl rfl) rfl rfl rfl ?_
        refine at_nil ?_
        refine at_normal ?_
        refine hK0 _ _ ?_
        refine at_seq_k (fun K1 hK1 => ?_)
        refine at_region ?_
        refine at_v (ov_assign rfl rfl) rfl rfl rfl ?_
        refine at_nil ?_
        refine at_normal ?_
        refine hK1 _ _ ?_
        refine at_seq_k (fun K2 hK2 => ?_)
        refine at_block ?_
        refine at_seq_k (fun K3 hK3 => ?_)
        refine at_region ?_
        refine at_v (ov_fieldAddr (k := 2) (r := 2) rfl rfl rfl rfl) rfl rfl rfl ?_
        refine at_v (ov_load rfl rfl rfl (fun _ s => s.ld (k := 0) rfl rfl)) rfl rfl rfl ?_
        refine at_v (ov_int rfl rfl rfl rfl) rfl rfl rfl ?_
        refine at_v (ov_assign rfl rfl) rfl rfl rfl ?_
        refine at_nil ?_
        refine at_normal ?_
        refine hK3 _ _ ?_
        refine at_cond rfl (fun h0 => ?_) (fun h0 => ?_)
        ·
          simp only [decide_eq_true_eq, decide_eq_false_iff_not, Bool.not_eq_true', Bool.not_eq_false', Int.not_lt, Int.not_le, Bool.and_eq_true, Bool.or_eq_true, Bool.and_eq_false_iff, Bool.or_eq_false_iff, gt_iff_lt, ge_iff_le] at h0
          refine at_seq_k (fun K4 hK4 => ?_)
          refine at_region ?_
          refine at_v (ov_assign rfl rfl) rfl rfl rfl ?_
          refine at_nil ?_
          refine at_normal ?_
          refine hK4 _ _ ?_
          refine at_ret ?_
          refine at_inb_ret ?_
          refine at_then_ret ?_
          refine at_end ?_
          refine at_fold (A := OpenA (some ⟨b, 0, none⟩) (some (nd, cn))) [1] rfl (fun h s => OpenA.some_mk _ s) ?_
          refine at_fold (A := SessA g (SM.mk reqs te tp (some (nd, cn)) true false)) [2, 2, 0] rfl (fun h s => ⟨A, c, (some ⟨b, 0, none⟩), s⟩) ?_
          refine at_fin (rsV rfl (res_tmp rfl)) ?_
          refine ⟨[SessA g (SM.mk reqs te tp (some (nd, cn)) true false)], ⟨by simp_all [SM.verdictE] <;> omega, by simp_all [SM.verdict]⟩, ?_⟩
          exact fun _ s => s.finEq (ks := [0]) (js := [0]) rfl rfl rfl
        ·
          simp only [decide_eq_true_eq, decide_eq_false_iff_not, Bool.not_eq_true', Bool.not_eq_false', Int.not_lt, Int.not_le, Bool.and_eq_true, Bool.or_eq_true, Bool.and_eq_false_iff, Bool.or_eq_false_iff, gt_iff_lt, ge_iff_le] at h0
          refine at_seq_k (fun K4 hK4 => ?_)
          refine at_region ?_
          refine at_v (ov_move rfl rfl) rfl rfl rfl ?_
          refine at_v (ov_nilCheck rfl rfl) rfl rfl rfl ?_
          refine at_v (ov_fieldAddr (k := 4) (r := 4) rfl rfl rfl rfl) rfl rfl rfl ?_
          refine at_v (ov_load rfl rfl rfl (fun _ s => s.ld (k := 2) rfl rfl)) rfl rfl rfl ?_
          refine at_v (ov_assign rfl rfl) rfl rfl rfl ?_
          refine at_nil ?_
          refine at_normal ?_
          refine hK4 _ _ ?_
          refine at_cond_true rfl ?_
          refine at_seq_k (fun K5 hK5 => ?_)
          refine at_region ?_
          refine at_v (ov_assign rfl rfl) rfl rfl rfl ?_
          refine at_nil ?_
          refine at_normal ?_
          refine hK5 _ _ ?_
          refine at_ret ?_
          refine at_inb_ret ?_
          refine at_then_ret ?_
          refine at_end ?_
          refine at_fold (A := OpenA (some ⟨b, 0, none⟩) (some (nd, cn))) [1] rfl (fun h s => OpenA.some_mk _ s) ?_
          refine at_fold (A := SessA g (SM.mk reqs te tp (some (nd, cn)) true false)) [2, 2, 0] rfl (fun h s => ⟨A, c, (some ⟨b, 0, none⟩), s⟩) ?_
          refine at_fin (rsV rfl (res_tmp rfl)) ?_
          refine ⟨[SessA g (SM.mk reqs te tp (some (nd, cn)) true false)], ⟨by simp_all [SM.verdictE] <;> omega, by simp_all [SM.verdict]⟩, ?_⟩
          exact fun _ s => s.finEq (ks := [0]) (js := [0]) rfl rfl rfl
      | true =>
        refine at_seq_k (fun K0 hK0 => ?_)
        refine at_region ?_
        refine at_t (ot_boxA rfl rfl) rfl rfl rfl ?_
        rintro _ _ ⟨g0, rfl, rfl⟩
        refine at_v (ov_assign rfl rfl) rfl rfl rfl ?_
        refine at_nil ?_
        refine at_normal ?_
        refine hK0 _ _ ?_
        refine at_seq_k (fun K1 hK1 => ?_)
        refine at_region ?_
        refine at_v (ov_assign rfl rfl) rfl rfl rfl ?_
        refine at_nil ?_
        refine at_normal ?_
        refine hK1 _ _ ?_
        refine at_seq_k (fun K2 hK2 => ?_)
        refine at_block ?_
        refine at_seq_k (fun K3 hK3 => ?_)
        refine at_region ?_
        refine at_v (ov_fieldAddr (k := 2) (r := 2) rfl rfl rfl rfl) rfl rfl rfl ?_
        refine at_v (ov_load rfl rfl rfl (fun _ s => s.ld (k := 0) rfl rfl)) rfl rfl rfl ?_
        refine at_v (ov_int rfl rfl rfl rfl) rfl rfl rfl ?_
        refine at_v (ov_assign rfl rfl) rfl rfl rfl ?_
        refine at_nil ?_
        refine at_normal ?_
        refine hK3 _ _ ?_
        refine at_cond rfl (fun h0 => ?_) (fun h0 => ?_)
        ·
          simp only [decide_eq_true_eq, decide_eq_false_iff_not, Bool.not_eq_true', Bool.not_eq_false', Int.not_lt, Int.not_le, Bool.and_eq_true, Bool.or_eq_true, Bool.and_eq_false_iff, Bool.or_eq_false_iff, gt_iff_lt, ge_iff_le] at h0
          refine at_seq_k (fun K4 hK4 => ?_)
          refine at_region ?_
          refine at_v (ov_assign rfl rfl) rfl rfl rfl ?_
          refine at_nil ?_
          refine at_normal ?_
          refine hK4 _ _ ?_
          refine at_ret ?_
          refine at_inb_ret ?_
          refine at_then_ret ?_
          refine at_end ?_
          refine at_fold (A := OpenA (some ⟨b, 0, none⟩) (some (nd, cn))) [1] rfl (fun h s => OpenA.some_mk _ s) ?_
          refine at_fold (A := SessA g (SM.mk reqs te tp (some (nd, cn)) true true)) [2, 2, 0] rfl (fun h s => ⟨A, c, (some ⟨b, 0, none⟩), s⟩) ?_
          refine at_fin (rsV rfl (res_tmp rfl)) ?_
          refine ⟨[SessA g (SM.mk reqs te tp (some (nd, cn)) true true)], ⟨by simp_all [SM.verdictE] <;> omega, by simp_all [SM.verdict]⟩, ?_⟩
          exact fun _ s => s.finEq (ks := [0]) (js := [0]) rfl rfl rfl
        ·
          simp only [decide_eq_true_eq, decide_eq_false_iff_not, Bool.not_eq_true', Bool.not_eq_false', Int.not_lt, Int.not_le, Bool.and_eq_true, Bool.or_eq_true, Bool.and_eq_false_iff, Bool.or_eq_false_iff, gt_iff_lt, ge_iff_le] at h0
          refine at_seq_k (fun K4 hK4 => ?_)
          refine at_region ?_
          refine at_v (ov_move rfl rfl) rfl rfl rfl ?_
          refine at_v (ov_nilCheck rfl rfl) rfl rfl rfl ?_
          refine at_v (ov_fieldAddr (k := 4) (r := 4) rfl rfl rfl rfl) rfl rfl rfl ?_
          refine at_v (ov_load rfl rfl rfl (fun _ s => s.ld (k := 2) rfl rfl)) rfl rfl rfl ?_
          refine at_v (ov_assign rfl rfl) rfl rfl rfl ?_
          refine at_nil ?_
          refine at_normal ?_
          refine hK4 _ _ ?_
          refine at_cond_true rfl ?_
          refine at_seq_k (fun K5 hK5 => ?_)
          refine at_region ?_
          refine at_v (ov_assign rfl rfl) rfl rfl rfl ?_
          refine at_nil ?_
          refine at_normal ?_
          refine hK5 _ _ ?_
          refine at_ret ?_
          refine at_inb_ret ?_
          refine at_then_ret ?_
          refine at_end ?_
          refine at_fold (A := OpenA (some ⟨b, 0, none⟩) (some (nd, cn))) [1] rfl (fun h s => OpenA.some_mk _ s) ?_
          refine at_fold (A := SessA g (SM.mk reqs te tp (some (nd, cn)) true true)) [2, 2, 0] rfl (fun h s => ⟨A, c, (some ⟨b, 0, none⟩), s⟩) ?_
          refine at_fin (rsV rfl (res_tmp rfl)) ?_
          refine ⟨[SessA g (SM.mk reqs te tp (some (nd, cn)) true true)], ⟨by simp_all [SM.verdictE] <;> omega, by simp_all [SM.verdict]⟩, ?_⟩
          exact fun _ s => s.finEq (ks := [0]) (js := [0]) rfl rfl rfl
end Go.Proofs.Ytmhoimnochigjaa
