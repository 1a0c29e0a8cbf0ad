/- A node, in plain words: what it is at, what is done. -/
import Derived.Test.YtfcmajgnpnlkiaaGreatDoorProg
import Derived.Test.YtfcmajgnpnlkiaaGreatDoorOfLaw
import Derived.Test.YtfcmajgnpnlkiaaGreatDoorKeepLaw
import Derived.Test.YtfcmajgnpnlkiaaGreatDoorClassA
set_option linter.unusedSimpArgs false
set_option linter.unusedVariables false
set_option maxRecDepth 100000
namespace Go.Proofs.YtfcmajgnpnlkiaaGreatDoor
open Go Go.Proofs.YtfcmajgnpnlkiaaGreatDoor.SL Go.RowKit
abbrev Ent := Int × BL
abbrev Trx := Int × List BL
structure ND where
  ep : Int
  ld : Bool
  lg : List Ent
  op : List Trx
structure RP where
  er : Int
  ep : Int
  pl : Nat
  tx : List BL
def findO (o : List Trx) (k : Int) : Option Nat := o.findIdx? fun p => decide (p.1 = k)
def closeN (s : ND) (k : Int) : ND × Bool := match findO s.op k with | some j => (⟨s.ep, s.ld, s.lg, s.op.eraseIdx j⟩, true) | none => (s, false)
def leadN (s : ND) (e : Int) : ND × Bool := if e < s.ep then (s, false) else (⟨e, true, s.lg, []⟩, true)
def tabF (l : List PR) (ts : List BL) : List PR := ts.foldl (fun l t => (writesL (planL t) l).1) l
def tabN (s : ND) : List PR := tabF [] (s.lg.map (·.2))
def layN (s : ND) (ts : List BL) : ND × Int := if 200 < s.lg.length + ts.length then (s, 5) else (⟨s.ep, s.ld, s.lg ++ ts.map (fun t => (s.ep, t)), s.op⟩, 0)
def trx (o : List Trx) (j : Nat) : List BL := match o[j]? with | some p => p.2 | none => []
def doN (s : ND) (k is : Int) (t : BL) : ND × Int :=
  if is = 3 then (match findO s.op k with | some _ => (s, 7) | none => (⟨s.ep, s.ld, s.lg, s.op ++ [(k, [])]⟩, 0))
  else if is = 4 then (match findO s.op k with | some j => layN ⟨s.ep, s.ld, s.lg, s.op.eraseIdx j⟩ (trx s.op j) | none => (s, 7))
  else if is = 5 then (match findO s.op k with | some j => (⟨s.ep, s.ld, s.lg, s.op.eraseIdx j⟩, 0) | none => (s, 7))
  else if is = 2 ∨ is = 7 then (match findO s.op k with
    | some j => if 200 ≤ (trx s.op j).length then (s, 5) else (⟨s.ep, s.ld, s.lg, s.op.set j (k, trx s.op j ++ [t])⟩, 0)
    | none => layN s [t])
  else (s, 0)
def mayN (s : ND) (e : Int) (rd : Bool) (is : Int) : Int :=
  if e ≠ s.ep then 8 else if is = 0 ∨ (rd = true ∧ is ≠ 1) then 2 else if rd = false ∧ s.ld = false then 7 else 0
def waitsN (s : ND) (k : Int) : List BL := match findO s.op k with | some j => trx s.op j | none => []
def runN (s : ND) (k e : Int) (rd : Bool) (t : BL) : ND × RP :=
  if mayN s e rd (classL t) ≠ 0 then (s, ⟨mayN s e rd (classL t), s.ep, s.lg.length, []⟩)
  else if classL t = 1 then (s, ⟨0, s.ep, s.lg.length, readsL (planL t) (tabF (tabN s) (waitsN s k))⟩)
  else ((doN s k (classL t) t).1, ⟨(doN s k (classL t) t).2, (doN s k (classL t) t).1.ep, (doN s k (classL t) t).1.lg.length, []⟩)
def bothL : List Ent → List Ent → Nat
  | a :: l, b :: m => if a = b then bothL l m + 1 else 0
  | _, _ => 0
def nextL (a b : List Ent) (most : Int) : List Ent := (b.drop (bothL a b)).take (max (min most 200) 0).toNat
def copyN (s f : ND) (most : Int) : ND × Int :=
  if f.ep < s.ep ∨ (f.ep = s.ep ∧ s.ld = true) then (s, 0)
  else if s.ep < f.ep then (⟨f.ep, false, s.lg.take (bothL s.lg f.lg) ++ nextL s.lg f.lg most, []⟩, (nextL s.lg f.lg most).length)
  else (⟨s.ep, s.ld, s.lg.take (bothL s.lg f.lg) ++ nextL s.lg f.lg most, s.op⟩, (nextL s.lg f.lg most).length)
structure NOk (s : ND) : Prop where
  e0 : 0 ≤ s.ep
  e1 : s.ep < 18446744073709551616
  len : s.lg.length ≤ 200
  tx : ∀ x ∈ s.lg, x.2.length ≤ 300
  ol : ∀ p ∈ s.op, p.2.length ≤ 200
  ot : ∀ p ∈ s.op, ∀ t ∈ p.2, t.length ≤ 300
theorem findO_some {o : List Trx} {k : Int} {j : Nat} (h : findO o k = some j) : ∃ p, o[j]? = some p ∧ p.1 = k := by
  unfold findO at h
  rw [List.findIdx?_eq_some_iff_getElem] at h;obtain ⟨h1, h2, _⟩ := h;exact ⟨o[j], List.getElem?_eq_getElem h1, of_decide_eq_true h2⟩
theorem findO_at {o : List Trx} {k : Int} {j : Nat} (h : findO o k = some j) : o[j]? = some (k, trx o j) := by
  obtain ⟨p, hp, hk⟩ := findO_some h
  unfold trx
  rw [hp];subst hk;rfl
theorem findO_none {o : List Trx} {k : Int} (h : findO o k = none) : ∀ p ∈ o, p.1 ≠ k := by
  unfold findO at h
  rw [List.findIdx?_eq_none_iff] at h;intro p hp
  simpa using h p hp
theorem tabF_append (l : List PR) (a b : List BL) : tabF l (a ++ b) = tabF (tabF l a) b := List.foldl_append
theorem tabF_tab : ∀ {ts : List BL} {l : List PR}, tabB l = true → tabB (tabF l ts) = true
  | [], l, h => h
  | t :: ts, l, h => tabF_tab (ts := ts) (keep_step (planL t) [] h).1
theorem tabF_len : ∀ (ts : List BL) (l : List PR), (tabF l ts).length ≤ l.length + ts.length
  | [], l => Nat.le_refl _
  | t :: ts, l => by
    have := tabF_len ts (writesL (planL t) l).1;have h2 := (keep_len (planL t) l).2.2.2
    show (tabF (writesL (planL t) l).1 ts).length ≤ _
    simp only [List.length_cons];omega
theorem tabN_tab (s : ND) : tabB (tabN s) = true := tabF_tab rfl
theorem tabN_len (s : ND) : (tabN s).length ≤ s.lg.length := by have := tabF_len (s.lg.map (·.2)) []; simpa [tabN] using this
theorem both_le : ∀ (a b : List Ent), bothL a b ≤ a.length ∧ bothL a b ≤ b.length
  | [], _ => by simp [bothL]
  | _ :: _, [] => by simp [bothL]
  | a :: l, b :: m => by
    have := both_le l m
    unfold bothL
    split
    · simp only [List.length_cons]; omega
    · simp
theorem both_take : ∀ (a b : List Ent), a.take (bothL a b) = b.take (bothL a b)
  | [], b => by simp [bothL]
  | a :: l, [] => by simp [bothL]
  | a :: l, b :: m => by
    unfold bothL
    split
    · rename_i h; rw [List.take_succ_cons, List.take_succ_cons, h, both_take l m]
    · rfl
theorem both_ge : ∀ {a b : List Ent} {k : Nat}, k ≤ a.length → a.take k = b.take k → k ≤ b.length → k ≤ bothL a b
  | _, _, 0, _, _, _ => Nat.zero_le _
  | [], b, k + 1, h, _, _ => by simp at h
  | a :: l, [], k + 1, _, _, h => by simp at h
  | a :: l, b :: m, k + 1, h1, h2, h3 => by
    rw [List.take_succ_cons, List.take_succ_cons] at h2;simp only [List.cons.injEq] at h2
    unfold bothL
    rw [if_pos h2.1];have := both_ge (a := l) (b := m) (k := k) (by simpa using h1) h2.2 (by simpa using h3);omega
theorem both_stop {a b : List Ent} {k : Nat} {x y : Ent} (h : a.take k = b.take k) (hx : a[k]? = some x) (hy : b[k]? = some y) (hne : x ≠ y) : bothL a b = k := by
  induction k generalizing a b with
  | zero =>
    cases a with
    | nil => simp at hx
    | cons a l => cases b with
      | nil => simp at hy
      | cons b m =>
        simp at hx hy;subst hx; subst hy
        unfold bothL; rw [if_neg hne]
  | succ k ih =>
    cases a with
    | nil => simp at hx
    | cons a l => cases b with
      | nil => simp at hy
      | cons b m =>
        rw [List.take_succ_cons, List.take_succ_cons] at h;simp only [List.cons.injEq] at h
        unfold bothL
        rw [if_pos h.1, ih h.2 (by simpa using hx) (by simpa using hy)]
theorem copy_lg_len (a b : List Ent) (most : Int) : (a.take (bothL a b) ++ nextL a b most).length ≤ b.length := by
  have := both_le a b
  unfold nextL
  rw [List.length_append, List.length_take, List.length_take, List.length_drop];omega
theorem copy_mem {a b : List Ent} {most : Int} {x : Ent} (h : x ∈ a.take (bothL a b) ++ nextL a b most) : x ∈ b := by
  rcases List.mem_append.1 h with h | h
  · rw [both_take] at h; exact List.mem_of_mem_take h
  · exact List.mem_of_mem_drop (List.mem_of_mem_take h)
theorem NOk.new : NOk ⟨1, false, [], []⟩ := ⟨by decide, by decide, by simp, by simp, by simp, by simp⟩
theorem NOk.close {s : ND} (h : NOk s) (k : Int) : NOk (closeN s k).1 := by
  unfold closeN
  split
  · exact ⟨h.e0, h.e1, h.len, h.tx, fun p hp => h.ol p (List.mem_of_mem_eraseIdx hp), fun p hp => h.ot p (List.mem_of_mem_eraseIdx hp)⟩
  · exact h
theorem NOk.lead {s : ND} (h : NOk s) {e : Int} (h0 : 0 ≤ e) (h1 : e < 18446744073709551616) : NOk (leadN s e).1 := by
  unfold leadN
  split
  · exact h
  · exact ⟨h0, h1, h.len, h.tx, by simp, by simp⟩
theorem NOk.lay {s : ND} (h : NOk s) {ts : List BL} (ht : ∀ t ∈ ts, t.length ≤ 300) : NOk (layN s ts).1 := by
  unfold layN
  split
  · exact h
  · rename_i hl
    refine ⟨h.e0, h.e1, ?_, ?_, h.ol, h.ot⟩
    · simp only [List.length_append, List.length_map]; omega
    · intro x hx
      rcases List.mem_append.1 hx with hx | hx
      · exact h.tx x hx
      · obtain ⟨t, ht', rfl⟩ := List.mem_map.1 hx; exact ht t ht'
theorem NOk.trx {s : ND} (h : NOk s) (j : Nat) : (trx s.op j).length ≤ 200 ∧ ∀ t ∈ trx s.op j, t.length ≤ 300 := by
  unfold Go.Proofs.YtfcmajgnpnlkiaaGreatDoor.trx
  cases hj : s.op[j]? with
  | none => simp
  | some p => exact ⟨h.ol p (List.mem_of_getElem? hj), h.ot p (List.mem_of_getElem? hj)⟩
theorem NOk.do_ {s : ND} (h : NOk s) (k is : Int) {t : BL} (ht : t.length ≤ 300) : NOk (doN s k is t).1 := by
  have her : ∀ j, NOk ⟨s.ep, s.ld, s.lg, s.op.eraseIdx j⟩ := fun j => ⟨h.e0, h.e1, h.len, h.tx, fun p hp => h.ol p (List.mem_of_mem_eraseIdx hp), fun p hp => h.ot p (List.mem_of_mem_eraseIdx hp)⟩
  unfold doN
  split
  · split
    · exact h
    · refine ⟨h.e0, h.e1, h.len, h.tx, fun p hp => ?_, fun p hp => ?_⟩
      · rcases List.mem_append.1 hp with hp | hp
        · exact h.ol p hp
        · simp at hp; subst hp; simp
      · rcases List.mem_append.1 hp with hp | hp
        · exact h.ot p hp
        · simp at hp; subst hp; simp
  · split
    · split
      · exact (her _).lay (h.trx _).2
      · exact h
    · split
      · split
        · exact her _
        · exact h
      · split
        · split
          · rename_i j hj
            split
            · exact h
            · rename_i hl
              refine ⟨h.e0, h.e1, h.len, h.tx, fun p hp => ?_, fun p hp => ?_⟩
              · rcases List.mem_or_eq_of_mem_set hp with hp | rfl
                · exact h.ol p hp
                · simp only [List.length_append, List.length_cons, List.length_nil]; omega
              · rcases List.mem_or_eq_of_mem_set hp with hp | rfl
                · exact h.ot p hp
                · intro u hu
                  rcases List.mem_append.1 hu with hu | hu
                  · exact (h.trx j).2 u hu
                  · simp at hu; subst hu; exact ht
          · exact h.lay (by simpa using ht)
        · exact h
theorem NOk.run {s : ND} (h : NOk s) (k e : Int) (rd : Bool) {t : BL} (ht : t.length ≤ 300) : NOk (runN s k e rd t).1 := by
  unfold runN
  split
  · exact h
  · split
    · exact h
    · exact h.do_ k _ ht
theorem NOk.copy {s f : ND} (h : NOk s) (hf : NOk f) (most : Int) : NOk (copyN s f most).1 := by
  have hl := copy_lg_len s.lg f.lg most;have hm : ∀ x ∈ s.lg.take (bothL s.lg f.lg) ++ nextL s.lg f.lg most, x.2.length ≤ 300 := fun x hx => hf.tx x (copy_mem hx);have := hf.len
  unfold copyN
  split
  · exact h
  · split
    · exact ⟨hf.e0, hf.e1, by simp only; omega, hm, by simp, by simp⟩
    · exact ⟨h.e0, h.e1, by simp only; omega, hm, h.ol, h.ot⟩
end Go.Proofs.YtfcmajgnpnlkiaaGreatDoor
