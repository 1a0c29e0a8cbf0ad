/- Package plan's tables, in plain words. -/
import Derived.Test.YtighdkdomfpadaaGreatDoorProg
import Derived.Test.YtighdkdomfpadaaGreatDoorLtLaw
set_option linter.unusedSimpArgs false
set_option linter.unusedVariables false
set_option maxRecDepth 100000
namespace Go.Proofs.YtighdkdomfpadaaGreatDoor
open Go Go.Proofs.YtighdkdomfpadaaGreatDoor.SL Go.RowKit
abbrev PR := BL × BL
def pE (p : PR) : List Value := [SV p.1, SV p.2]
abbrev PM := Int × BL × BL
def planV (p : PM) : Value := .agg #[.int .i64 p.1, SV p.2.1, SV p.2.2]
def tabB : List PR → Bool
  | a :: b :: l => ltB a.1 b.1 && tabB (b :: l)
  | _ => true
def posL (l : List PR) (key : BL) : Nat := (l.takeWhile fun p => ltB p.1 key).length
def isL (l : List PR) (key : BL) : Bool := match l[posL l key]? with | some x => decide (x.1 = key) | none => false
def writesL (p : PM) (l : List PR) : List PR × Int :=
  if p.1 = 3 ∧ isL l p.2.1 = false then (l.take (posL l p.2.1) ++ (p.2.1, p.2.2) :: l.drop (posL l p.2.1), 1)
  else if p.1 = 3 ∨ (p.1 = 4 ∧ isL l p.2.1 = true) then (l.set (posL l p.2.1) (p.2.1, p.2.2), 1)
  else if p.1 = 5 ∧ isL l p.2.1 = true then (l.eraseIdx (posL l p.2.1), 1)
  else (l, 0)
def readsL (p : PM) (l : List PR) : List BL :=
  if p.1 = 1 then (match l[posL l p.2.1]? with | some x => if x.1 = p.2.1 then [x.2] else [] | none => [])
  else if p.1 = 2 then (l.flatMap fun x => [x.1, x.2]).take 20
  else []
def refReads (p : PM) : List PR → List BL → List BL
  | [], out => out
  | x :: l, out =>
    let o1 := if p.1 = 1 ∧ x.1 = p.2.1 then out ++ [x.2] else out
    refReads p l (if p.1 = 2 ∧ o1.length < 20 then o1 ++ [x.1, x.2] else o1)
structure RW where
  out : List PR
  n : Int
  done : Bool
def rwStep (p : PM) (x : PR) (s : RW) : RW :=
  let s1 : RW := if p.1 = 3 ∧ s.done = false ∧ ltB p.2.1 x.1 = true then ⟨s.out ++ [(p.2.1, p.2.2)], s.n, true⟩ else s
  if x.1 ≠ p.2.1 ∨ p.1 < 3 ∨ p.1 > 5 then ⟨s1.out ++ [x], s1.n, s1.done⟩
  else ⟨if p.1 ≠ 5 then s1.out ++ [(p.2.1, p.2.2)] else s1.out, 1, true⟩
def rwAll (p : PM) (l : List PR) : RW := l.foldl (fun s x => rwStep p x s) ⟨[], 0, false⟩
def refWrites (p : PM) (l : List PR) : List PR × Int :=
  let s := rwAll p l
  (if p.1 = 3 ∧ s.done = false then s.out ++ [(p.2.1, p.2.2)] else s.out, if p.1 = 3 then 1 else s.n)
theorem tab_cons {a : PR} {l : List PR} (h : tabB (a :: l) = true) : tabB l = true ∧ ∀ x ∈ l, ltB a.1 x.1 = true := by
  induction l generalizing a with
  | nil => exact ⟨rfl, fun x hx => by simp at hx⟩
  | cons b l ih =>
    unfold tabB at h
    simp only [Bool.and_eq_true] at h;refine ⟨h.2, fun x hx => ?_⟩
    rcases List.mem_cons.1 hx with rfl | hx
    · exact h.1
    · exact ltB_trans h.1 ((ih h.2).2 x hx)
theorem tab_mk {a : PR} {l : List PR} (h : tabB l = true) (h1 : ∀ x ∈ l, ltB a.1 x.1 = true) : tabB (a :: l) = true := by
  cases l with
  | nil => rfl
  | cons b l => unfold tabB; rw [h1 b (by simp), h]; rfl
theorem pos_cons (a : PR) (l : List PR) (k : BL) : posL (a :: l) k = if ltB a.1 k = true then posL l k + 1 else 0 := by
  unfold posL
  rw [List.takeWhile_cons]
  cases ltB a.1 k <;> simp
theorem is_cons (a : PR) (l : List PR) (k : BL) : isL (a :: l) k = if ltB a.1 k = true then isL l k else decide (a.1 = k) := by
  unfold isL
  rw [pos_cons]
  cases ltB a.1 k <;> simp
theorem pos_le (l : List PR) (k : BL) : posL l k ≤ l.length := (List.takeWhile_sublist _).length_le
theorem tab_drop {l : List PR} (h : tabB l = true) {k : BL} (hk : ∀ x ∈ l, ltB k x.1 = true) : posL l k = 0 ∧ isL l k = false := by
  cases l with
  | nil => exact ⟨rfl, rfl⟩
  | cons a l =>
    have := hk a (by simp);rw [pos_cons, is_cons, ltB_asymm this];refine ⟨by simp, ?_⟩;simp only [Bool.false_eq_true, if_false];exact decide_eq_false fun e => ltB_ne this e.symm
theorem reads_get {p : PM} (hp : p.1 = 1) : ∀ {l : List PR} (out : List BL), tabB l = true → refReads p l out = out ++ readsL p l
  | [], out, _ => by unfold readsL; rw [if_pos hp]; simp [refReads]
  | a :: l, out, h => by
    obtain ⟨h1, h2⟩ := tab_cons h;have ih := fun out => reads_get hp (l := l) out h1
    unfold refReads
    simp only [hp, true_and, show ¬ ((1 : Int) = 2) by decide, false_and, if_false];rw [ih]
    unfold readsL
    rw [if_pos hp, if_pos hp, pos_cons]
    by_cases e : a.1 = p.2.1
    · have hz : ltB a.1 p.2.1 = false := by rw [e]; exact ltB_irrefl _
      rw [if_pos e, hz];have h3 : ∀ x ∈ l, ltB p.2.1 x.1 = true := fun x hx => by rw [← e]; exact h2 x hx
      obtain ⟨h4, h5⟩ := tab_drop h1 h3
      unfold isL at h5
      rw [h4] at h5 ⊢;simp only [Bool.false_eq_true, if_false, List.getElem?_cons_zero, e, if_true]
      cases l with
      | nil => simp
      | cons b l =>
        simp only [List.getElem?_cons_zero, decide_eq_false_iff_not] at h5 ⊢;rw [if_neg h5];simp
    · rw [if_neg e]
      cases hlt : ltB a.1 p.2.1 with
      | true => simp
      | false =>
        have hgt : ltB p.2.1 a.1 = true := by
          cases hgt : ltB p.2.1 a.1 with
          | true => rfl
          | false => exact absurd (ltB_tri hlt hgt) e
        have h3 : ∀ x ∈ l, ltB p.2.1 x.1 = true := fun x hx => ltB_trans hgt (h2 x hx);obtain ⟨h4, h5⟩ := tab_drop h1 h3
        unfold isL at h5
        rw [h4] at h5 ⊢;simp only [Bool.false_eq_true, if_false, List.getElem?_cons_zero, e]
        cases l with
        | nil => rfl
        | cons b l =>
          simp only [List.getElem?_cons_zero, decide_eq_false_iff_not] at h5 ⊢;rw [if_neg h5]
theorem reads_all {p : PM} (hp : p.1 = 2) : ∀ (l : List PR) (out : List BL), out.length % 2 = 0 → refReads p l (out.take 20) = (out ++ l.flatMap fun x => [x.1, x.2]).take 20
  | [], out, _ => by simp [refReads]
  | a :: l, out, h => by
    unfold refReads
    simp only [hp, true_and, show ¬ ((2 : Int) = 1) by decide, false_and, if_false]
    have e : (if (out.take 20).length < 20 then out.take 20 ++ [a.1, a.2] else out.take 20) = (out ++ [a.1, a.2]).take 20 := by
      rw [List.length_take]
      by_cases hl : out.length < 20
      · rw [if_pos (by omega), List.take_of_length_le (by omega), List.take_of_length_le (by simp; omega)]
      · rw [if_neg (by omega), List.take_append_of_le_length (by omega)]
    rw [e, reads_all hp l (out ++ [a.1, a.2]) (by simp; omega)];simp
theorem reads_none {p : PM} (h1 : p.1 ≠ 1) (h2 : p.1 ≠ 2) : ∀ (l : List PR) (out : List BL), refReads p l out = out
  | [], out => rfl
  | a :: l, out => by
    unfold refReads
    simp only [h1, h2, false_and, if_false];exact reads_none h1 h2 l out
theorem reads_same {p : PM} {l : List PR} (h : tabB l = true) : refReads p l [] = readsL p l := by
  by_cases h1 : p.1 = 1
  · rw [reads_get h1 [] h]; rfl
  · by_cases h2 : p.1 = 2
    · have := reads_all h2 l [] rfl;simp only [List.take_nil, List.nil_append] at this;rw [this]
      unfold readsL
      rw [if_neg h1, if_pos h2]
    · rw [reads_none h1 h2]
      unfold readsL
      rw [if_neg h1, if_neg h2]
theorem rw_tail {p : PM} : ∀ {l : List PR} (s : RW), (∀ x ∈ l, ltB p.2.1 x.1 = true) → (p.1 = 3 → s.done = true) → l.foldl (fun s x => rwStep p x s) s = ⟨s.out ++ l, s.n, s.done⟩
  | [], s, _, _ => by simp
  | a :: l, s, h, hd => by
    have h1 := h a (by simp)
    have e : rwStep p a s = ⟨s.out ++ [a], s.n, s.done⟩ := by
      unfold rwStep
      have hne : a.1 ≠ p.2.1 := fun e => ltB_ne h1 e.symm;have h3 : ¬ (p.1 = 3 ∧ s.done = false ∧ ltB p.2.1 a.1 = true) := fun ⟨e1, e2, _⟩ => by rw [hd e1] at e2; cases e2
      simp only [if_neg h3];rw [if_pos (.inl hne)]
    rw [List.foldl_cons, e, rw_tail (l := l) ⟨s.out ++ [a], s.n, s.done⟩ (fun x hx => h x (by simp [hx])) hd];simp
theorem rw_lt {p : PM} {a : PR} {s : RW} (h : ltB a.1 p.2.1 = true) : rwStep p a s = ⟨s.out ++ [a], s.n, s.done⟩ := by
  unfold rwStep
  have h3 : ¬ (p.1 = 3 ∧ s.done = false ∧ ltB p.2.1 a.1 = true) := fun ⟨_, _, e⟩ => by rw [ltB_asymm h] at e; cases e
  simp only [if_neg h3];rw [if_pos (.inl (ltB_ne h))]
theorem rw_eq {p : PM} {a : PR} {s : RW} (h : a.1 = p.2.1) (h1 : 3 ≤ p.1) (h2 : p.1 ≤ 5) : rwStep p a s = ⟨if p.1 ≠ 5 then s.out ++ [(p.2.1, p.2.2)] else s.out, 1, true⟩ := by
  unfold rwStep
  have h3 : ¬ (p.1 = 3 ∧ s.done = false ∧ ltB p.2.1 a.1 = true) := fun ⟨_, _, e⟩ => by rw [h, ltB_irrefl] at e; cases e
  simp only [if_neg h3];rw [if_neg (by rintro (e | e | e); exact e h; omega; omega)]
theorem tri_cases (a k : BL) : ltB a k = true ∨ a = k ∨ (ltB a k = false ∧ ltB k a = true ∧ a ≠ k) := by
  cases h1 : ltB a k with
  | true => exact .inl rfl
  | false =>
    cases h2 : ltB k a with
    | true => exact .inr (.inr ⟨rfl, rfl, fun e => ltB_ne h2 e.symm⟩)
    | false => exact .inr (.inl (ltB_tri h1 h2))
theorem writes_change {p : PM} (hp : p.1 = 4) : ∀ {l : List PR} (s : RW), tabB l = true → (l.foldl (fun s x => rwStep p x s) s).out = s.out ++ (if isL l p.2.1 = true then l.set (posL l p.2.1) (p.2.1, p.2.2) else l) ∧ (l.foldl (fun s x => rwStep p x s) s).n = if isL l p.2.1 = true then 1 else s.n
  | [], s, _ => by simp [isL]
  | a :: l, s, h => by
    obtain ⟨h1, h2⟩ := tab_cons h;rw [List.foldl_cons, pos_cons, is_cons]
    rcases tri_cases a.1 p.2.1 with hc | hc | ⟨hc, hc2, hc3⟩
    · rw [rw_lt hc];obtain ⟨i1, i2⟩ := writes_change hp ⟨s.out ++ [a], s.n, s.done⟩ h1;rw [i1, i2, if_pos hc, if_pos hc];refine ⟨?_, rfl⟩
      split <;> simp
    · have hz : ltB a.1 p.2.1 = false := by rw [hc]; exact ltB_irrefl _
      rw [rw_eq hc (by omega) (by omega), rw_tail _ (fun x hx => by rw [← hc]; exact h2 x hx) (fun e => rfl), hz, hp];simp [hc]
    · rw [show l.foldl (fun s x => rwStep p x s) (rwStep p a s) = (a :: l).foldl (fun s x => rwStep p x s) s from rfl, rw_tail _ (fun x hx => by
        rcases List.mem_cons.1 hx with rfl | hx
        · exact hc2
        · exact ltB_trans hc2 (h2 x hx)) (fun e => by omega), hc]
      simp [hc3]
theorem writes_del {p : PM} (hp : p.1 = 5) : ∀ {l : List PR} (s : RW), tabB l = true → (l.foldl (fun s x => rwStep p x s) s).out = s.out ++ (if isL l p.2.1 = true then l.eraseIdx (posL l p.2.1) else l) ∧ (l.foldl (fun s x => rwStep p x s) s).n = if isL l p.2.1 = true then 1 else s.n
  | [], s, _ => by simp [isL]
  | a :: l, s, h => by
    obtain ⟨h1, h2⟩ := tab_cons h;rw [List.foldl_cons, pos_cons, is_cons]
    rcases tri_cases a.1 p.2.1 with hc | hc | ⟨hc, hc2, hc3⟩
    · rw [rw_lt hc];obtain ⟨i1, i2⟩ := writes_del hp ⟨s.out ++ [a], s.n, s.done⟩ h1;rw [i1, i2, if_pos hc, if_pos hc];refine ⟨?_, rfl⟩
      split <;> simp
    · have hz : ltB a.1 p.2.1 = false := by rw [hc]; exact ltB_irrefl _
      rw [rw_eq hc (by omega) (by omega), rw_tail _ (fun x hx => by rw [← hc]; exact h2 x hx) (fun e => rfl), hz, hp];simp [hc]
    · rw [show l.foldl (fun s x => rwStep p x s) (rwStep p a s) = (a :: l).foldl (fun s x => rwStep p x s) s from rfl, rw_tail _ (fun x hx => by
        rcases List.mem_cons.1 hx with rfl | hx
        · exact hc2
        · exact ltB_trans hc2 (h2 x hx)) (fun e => by omega), hc]
      simp [hc3]
theorem writes_put {p : PM} (hp : p.1 = 3) : ∀ {l : List PR} (s : RW), tabB l = true → s.done = false →
    (if (l.foldl (fun s x => rwStep p x s) s).done = false then (l.foldl (fun s x => rwStep p x s) s).out ++ [(p.2.1, p.2.2)] else (l.foldl (fun s x => rwStep p x s) s).out)
      = s.out ++ (if isL l p.2.1 = true then l.set (posL l p.2.1) (p.2.1, p.2.2) else l.take (posL l p.2.1) ++ (p.2.1, p.2.2) :: l.drop (posL l p.2.1))
  | [], s, _, hd => by simp [isL, hd, posL]
  | a :: l, s, h, hd => by
    obtain ⟨h1, h2⟩ := tab_cons h;rw [List.foldl_cons, pos_cons, is_cons]
    rcases tri_cases a.1 p.2.1 with hc | hc | ⟨hc, hc2, hc3⟩
    · rw [rw_lt hc, writes_put hp ⟨s.out ++ [a], s.n, s.done⟩ h1 hd, if_pos hc, if_pos hc]
      split <;> simp
    · have hz : ltB a.1 p.2.1 = false := by rw [hc]; exact ltB_irrefl _
      rw [rw_eq hc (by omega) (by omega), rw_tail _ (fun x hx => by rw [← hc]; exact h2 x hx) (fun e => rfl), hz, hp];simp [hc]
    · have e : rwStep p a s = ⟨s.out ++ [(p.2.1, p.2.2)] ++ [a], s.n, true⟩ := by
        unfold rwStep
        simp only [hp, hd, hc2, and_self, if_true];rw [if_pos (.inl hc3)]
      rw [e, rw_tail _ (fun x hx => ltB_trans hc2 (h2 x hx)) (fun _ => rfl), hc];simp [hc3]
theorem writes_none {p : PM} (h1 : p.1 < 3 ∨ 5 < p.1) : ∀ (l : List PR) (s : RW), l.foldl (fun s x => rwStep p x s) s = ⟨s.out ++ l, s.n, s.done⟩
  | [], s => by simp
  | a :: l, s => by
    have e : rwStep p a s = ⟨s.out ++ [a], s.n, s.done⟩ := by
      unfold rwStep
      have h3 : ¬ (p.1 = 3 ∧ s.done = false ∧ ltB p.2.1 a.1 = true) := fun ⟨e, _, _⟩ => by omega
      simp only [if_neg h3];rw [if_pos (by omega)]
    rw [List.foldl_cons, e, writes_none h1];simp
theorem writes_same {p : PM} {l : List PR} (h : tabB l = true) : refWrites p l = writesL p l := by
  unfold refWrites writesL rwAll
  by_cases h3 : p.1 = 3
  · have := writes_put h3 (l := l) ⟨[], 0, false⟩ h rfl;simp only [h3, true_and, true_or, if_true, List.nil_append] at this ⊢;rw [this]
    cases isL l p.2.1 <;> simp
  · by_cases h4 : p.1 = 4
    · obtain ⟨e1, e2⟩ := writes_change h4 (l := l) ⟨[], 0, false⟩ h;simp only [e1, e2, h4, List.nil_append, show ¬ ((4 : Int) = 3) by decide, show ¬ ((4 : Int) = 5) by decide, false_and, false_or, true_and, if_false]
      cases isL l p.2.1 <;> simp
    · by_cases h5 : p.1 = 5
      · obtain ⟨e1, e2⟩ := writes_del h5 (l := l) ⟨[], 0, false⟩ h;simp only [e1, e2, h5, List.nil_append, show ¬ ((5 : Int) = 3) by decide, show ¬ ((5 : Int) = 4) by decide, false_and, false_or, true_and, if_false]
        cases isL l p.2.1 <;> simp
      · rw [writes_none (by omega)];simp [h3, h4, h5]
end Go.Proofs.YtighdkdomfpadaaGreatDoor
