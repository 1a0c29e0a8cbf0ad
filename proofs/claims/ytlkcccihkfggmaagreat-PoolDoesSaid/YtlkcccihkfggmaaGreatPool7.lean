/- PoolReaps, walked. -/
import Derived.Test.YtlkcccihkfggmaaGreatProg
import Derived.Test.YtlkcccihkfggmaaGreatPool6
import Derived.Test.YtlkcccihkfggmaaGreatSLBr
import Derived.KernelRfl
set_option linter.unusedSimpArgs false
set_option linter.unusedVariables false
set_option maxRecDepth 100000
set_option maxHeartbeats 4000000
namespace Go.Proofs.YtlkcccihkfggmaaGreat
open Go Go.Proofs.YtlkcccihkfggmaaGreat.SL Go.RowKit
def runP (p : PM) (l : List PA) : PM := l.foldl doP p
theorem runP_succ (p : PM) (l : List PA) (k : Nat) (h : k < l.length) : runP p (l.take (k + 1)) = doP (runP p (l.take k)) l[k] := by
  unfold runP
  rw [List.take_succ_eq_append_getElem h, List.foldl_append]
  rfl
def initP (most idle wm : Int) : PM := ⟨most, idle, wm, 0, [], []⟩
theorem wf_init {most idle wm : Int} (h : 0 ≤ wm ∧ wm ≤ 12 ∧ 1 ≤ most ∧ most ≤ 6) : Wf 0 (initP most idle wm) where
  hn := by omega
  most_ := ⟨h.2.2.1, h.2.2.2⟩
  wm_ := ⟨h.1, h.2.1⟩
  last_ := by simp [initP]
  len := by simp [initP]; omega
  pw := by simp [initP]
  ids := by simp [initP]
  con := by simp [initP]
  since := by simp [initP]
  lenL := by simp [initP]; omega
  nod := by simp [initP]
  pos := by simp [initP]
theorem wf_run {n : Nat} {p : PM} (h : Wf n p) : ∀ (l : List PA), n + l.length ≤ 400 → (∀ x ∈ l, x.ok) → Wf (n + l.length) (runP p l) := by
  intro l
  induction l generalizing n p with
  | nil => intro _ _; exact h
  | cons x r ih =>
    intro hl hx
    simp only [List.length_cons] at hl ⊢
    have h1 := h.do_ (by omega) x (hx x (by simp))
    have h2 := ih h1 (by omega) fun y hy => hx y (by simp [hy])
    rw [show n + (r.length + 1) = n + 1 + r.length by omega]
    exact h2
theorem wf_runK {p : PM} (h : Wf 0 p) {l : List PA} (hl : l.length ≤ 100) (hx : ∀ x ∈ l, x.ok) (k : Nat) : Wf 100 (runP p (l.take k)) := by
  have hlen : (l.take k).length ≤ 100 := by rw [List.length_take]; omega
  exact (wf_run h (l.take k) (by omega) fun x hm => hx x (List.mem_of_mem_take hm)).mono (by omega) (by omega)
theorem do_most (p : PM) (x : PA) : (doP p x).most = p.most ∧ (doP p x).idle = p.idle ∧ (doP p x).wm = p.wm := by
  unfold doP
  (repeat' split) <;> exact ⟨rfl, rfl, rfl⟩
theorem run_most (p : PM) (l : List PA) : (runP p l).most = p.most ∧ (runP p l).idle = p.idle ∧ (runP p l).wm = p.wm := by
  induction l generalizing p with
  | nil => exact ⟨rfl, rfl, rfl⟩
  | cons x r ih =>
    have h1 := ih (doP p x)
    have h2 := do_most p x
    show (runP (doP p x) r).most = _ ∧ (runP (doP p x) r).idle = _ ∧ (runP (doP p x) r).wm = _
    rw [h1.1, h1.2.1, h1.2.2]
    exact h2
theorem T11a (w0 : World) {g n : Nat} {p : PM} (hw : Wf n p) :
    Tri Tryz.prog w0 11 [ptrTo g] [PO g p] fun v m => ∃ A c, v = .slice A p.cs.length c ∧ m = [Row infoE 61 6 A c p.cs, PO g p] :=
  T11 w0 hw.sorted hw.h6 hw.open_
theorem reap_eq {n : Nat} {p : PM} (h : Wf n p) (now : Int) : midL p.cs (reapU p.idle now) p.cs.length = p.cs.filter fun x => !reapB p.idle now x := by
  rw [midL_upd]
  unfold upd alive
  rw [List.filter_map]
  have e1 : p.cs.filter ((fun x : XM => !decide (x.2.1.state = 4)) ∘ fun x => (x.1, reapU p.idle now x)) = p.cs.filter fun x => !reapB p.idle now x := by
    refine List.filter_congr fun x hx => ?_
    show (!decide ((reapU p.idle now x).1.state = 4)) = !reapB p.idle now x
    by_cases hb : reapB p.idle now x = true
    · have e2 : (reapU p.idle now x).1 = x.2.1.drain := by unfold reapU; rw [if_pos hb]
      have h1 : x.2.1.state = 1 := by simp only [reapB, decide_eq_true_eq] at hb; exact hb.1
      have ho : x.2.1.o = 0 := by
        unfold CM.state at h1
        have := (h.con x hx).1
        by_cases h0 : x.2.1.o = 0
        · exact h0
        · rw [if_neg (by omega), if_neg h0] at h1
          split at h1 <;> omega
      have hf : x.2.1.f = 0 := by
        apply Decidable.byContradiction
        intro hf
        have := (h.con x hx).2.1 hf
        omega
      have : x.2.1.drain.state = 4 := by
        unfold CM.drain
        rw [if_neg (by simp [hf])]
        exact good_close
      simp only [e2, this, hb]
      rfl
    · have e2 : (reapU p.idle now x).1 = x.2.1 := by unfold reapU; rw [if_neg hb]
      simp [e2, h.open_ x hx, hb]
  rw [e1]
  rw [show (p.cs.filter fun x => !reapB p.idle now x).map (fun x : XM => (x.1, reapU p.idle now x)) = (p.cs.filter fun x => !reapB p.idle now x).map (fun x => x) from List.map_congr_left fun x hx => by
    have := (List.mem_filter.1 hx).2
    have hb : reapB p.idle now x = false := by simpa using this
    unfold reapU
    rw [if_neg (by simp [hb])]]
  simp
def reapP (p : PM) (now : Int) : PM := { p with cs := p.cs.filter fun x => !reapB p.idle now x }
theorem reap_zero (p : PM) (now : Int) : reapN p.idle now (reapP p now).cs = 0 := by
  unfold reapN reapP
  rw [List.countP_eq_zero]
  intro x hx
  have := (List.mem_filter.1 hx).2
  simpa using this
theorem reapP_wf {n : Nat} {p : PM} (h : Wf n p) (now : Int) : Wf n (reapP p now) := by
  have := h.upd (reapU p.idle now) (good_drainU h fun y => reapB p.idle now y = true)
  rw [← midL_upd, reap_eq h] at this
  exact this
theorem reap_tri (w0 : World) {g n : Nat} {p : PM} {now : Int} (hw : Wf n p) (hnow : U64 now) : Tri Tryz.prog w0 26 [ptrTo g, .int .u64 now] [PO g p] fun v m => v = .int .i64 (reapN p.idle now p.cs : Nat) ∧ m = [PO g (reapP p now)] :=
  (T26 w0 now hw.sorted hw.h6 hnow hw.since).post fun v m h => by rw [reap_eq hw] at h; exact h