/- What was put is read, in plain words. -/
import Derived.Test.YtfcmajgnpnlkiaaGreatDoorProg
import Derived.Test.YtfcmajgnpnlkiaaGreatDoorPlanLaw
set_option linter.unusedSimpArgs false
set_option linter.unusedVariables false
set_option maxRecDepth 100000
namespace Go.Proofs.YtfcmajgnpnlkiaaGreatDoor
open Go Go.Proofs.YtfcmajgnpnlkiaaGreatDoor.SL Go.RowKit
def getL : List PR → BL → Option BL
  | [], _ => none
  | a :: l, k => if ltB a.1 k = true then getL l k else if a.1 = k then some a.2 else none
def putT (k v : BL) : List PR → List PR
  | [] => [(k, v)]
  | a :: l => if ltB a.1 k = true then a :: putT k v l else if a.1 = k then (k, v) :: l else (k, v) :: a :: l
def chgT (k v : BL) : List PR → List PR
  | [] => []
  | a :: l => if ltB a.1 k = true then a :: chgT k v l else if a.1 = k then (k, v) :: l else a :: l
def delT (k : BL) : List PR → List PR
  | [] => []
  | a :: l => if ltB a.1 k = true then a :: delT k l else if a.1 = k then l else a :: l
theorem put_eq (k v : BL) : ∀ (l : List PR), (if isL l k = false then l.take (posL l k) ++ (k, v) :: l.drop (posL l k) else l.set (posL l k) (k, v)) = putT k v l
  | [] => by simp [isL, posL, putT]
  | a :: l => by
    have ih := put_eq k v l;rw [pos_cons, is_cons]
    unfold putT
    rw [← ih]
    by_cases h1 : ltB a.1 k = true
    · rw [if_pos h1, if_pos h1, if_pos h1]
      split <;> simp
    · rw [if_neg h1, if_neg h1, if_neg h1]
      by_cases h2 : a.1 = k <;> simp [h2]
theorem chg_eq (k v : BL) : ∀ (l : List PR), (if isL l k = true then l.set (posL l k) (k, v) else l) = chgT k v l
  | [] => by simp [isL, posL, chgT]
  | a :: l => by
    have ih := chg_eq k v l;rw [pos_cons, is_cons]
    unfold chgT
    rw [← ih]
    by_cases h1 : ltB a.1 k = true
    · rw [if_pos h1, if_pos h1, if_pos h1]
      split <;> simp
    · rw [if_neg h1, if_neg h1, if_neg h1]
      by_cases h2 : a.1 = k <;> simp [h2]
theorem del_eq (k : BL) : ∀ (l : List PR), (if isL l k = true then l.eraseIdx (posL l k) else l) = delT k l
  | [] => by simp [isL, posL, delT]
  | a :: l => by
    have ih := del_eq k l;rw [pos_cons, is_cons]
    unfold delT
    rw [← ih]
    by_cases h1 : ltB a.1 k = true
    · rw [if_pos h1, if_pos h1, if_pos h1]
      split <;> simp
    · rw [if_neg h1, if_neg h1, if_neg h1]
      by_cases h2 : a.1 = k <;> simp [h2]
theorem put_mem {k v : BL} : ∀ {l : List PR} {x : PR}, x ∈ putT k v l → x = (k, v) ∨ x ∈ l
  | [], x, h => by simp [putT] at h; exact .inl h
  | a :: l, x, h => by
    unfold putT at h
    split at h
    · rcases List.mem_cons.1 h with rfl | h
      · simp
      · rcases put_mem h with h | h <;> simp [h]
    · split at h
      · rcases List.mem_cons.1 h with h | h <;> simp [h]
      · rcases List.mem_cons.1 h with h | h
        · simp [h]
        · exact .inr h
theorem chg_mem {k v : BL} : ∀ {l : List PR} {x : PR}, x ∈ chgT k v l → (x = (k, v) ∧ ∃ y ∈ l, y.1 = k) ∨ x ∈ l
  | [], x, h => by simp [chgT] at h
  | a :: l, x, h => by
    unfold chgT at h
    split at h
    · rcases List.mem_cons.1 h with rfl | h
      · simp
      · rcases chg_mem h with ⟨h, y, hy, hk⟩ | h
        · exact .inl ⟨h, y, by simp [hy], hk⟩
        · simp [h]
    · split at h
      · rename_i h2
        rcases List.mem_cons.1 h with h | h
        · exact .inl ⟨h, a, by simp, h2⟩
        · simp [h]
      · exact .inr h
theorem del_mem {k : BL} : ∀ {l : List PR} {x : PR}, x ∈ delT k l → x ∈ l
  | [], x, h => by simp [delT] at h
  | a :: l, x, h => by
    unfold delT at h
    split at h
    · rcases List.mem_cons.1 h with rfl | h
      · simp
      · simp [del_mem h]
    · split at h
      · simp [h]
      · exact h
theorem put_tab {k v : BL} : ∀ {l : List PR}, tabB l = true → tabB (putT k v l) = true
  | [], _ => rfl
  | a :: l, h => by
    obtain ⟨h1, h2⟩ := tab_cons h
    unfold putT
    rcases tri_cases a.1 k with hc | hc | ⟨hc, hc2, hc3⟩
    · rw [if_pos hc];refine tab_mk (put_tab h1) fun x hx => ?_
      rcases put_mem hx with rfl | hx
      · exact hc
      · exact h2 x hx
    · have hz : ¬ ltB a.1 k = true := by rw [hc, ltB_irrefl]; simp
      rw [if_neg hz, if_pos hc];exact tab_mk h1 fun x hx => by rw [← hc]; exact h2 x hx
    · rw [if_neg (by rw [hc]; simp), if_neg hc3];refine tab_mk h fun x hx => ?_
      rcases List.mem_cons.1 hx with rfl | hx
      · exact hc2
      · exact ltB_trans hc2 (h2 x hx)
theorem chg_tab {k v : BL} : ∀ {l : List PR}, tabB l = true → tabB (chgT k v l) = true
  | [], _ => rfl
  | a :: l, h => by
    obtain ⟨h1, h2⟩ := tab_cons h
    unfold chgT
    rcases tri_cases a.1 k with hc | hc | ⟨hc, hc2, hc3⟩
    · rw [if_pos hc];refine tab_mk (chg_tab h1) fun x hx => ?_
      rcases chg_mem hx with ⟨rfl, _⟩ | hx
      · exact hc
      · exact h2 x hx
    · have hz : ¬ ltB a.1 k = true := by rw [hc, ltB_irrefl]; simp
      rw [if_neg hz, if_pos hc];exact tab_mk h1 fun x hx => by rw [← hc]; exact h2 x hx
    · rw [if_neg (by rw [hc]; simp), if_neg hc3];exact h
theorem del_tab {k : BL} : ∀ {l : List PR}, tabB l = true → tabB (delT k l) = true
  | [], _ => rfl
  | a :: l, h => by
    obtain ⟨h1, h2⟩ := tab_cons h
    unfold delT
    rcases tri_cases a.1 k with hc | hc | ⟨hc, hc2, hc3⟩
    · rw [if_pos hc];exact tab_mk (del_tab h1) fun x hx => h2 x (del_mem hx)
    · have hz : ¬ ltB a.1 k = true := by rw [hc, ltB_irrefl]; simp
      rw [if_neg hz, if_pos hc];exact h1
    · rw [if_neg (by rw [hc]; simp), if_neg hc3];exact h
theorem get_cons (a : PR) (l : List PR) (k : BL) : getL (a :: l) k = if ltB a.1 k = true then getL l k else if a.1 = k then some a.2 else none := rfl
theorem get_gt {k : BL} {l : List PR} (h : ∀ x ∈ l, ltB k x.1 = true) : getL l k = none := by
  cases l with
  | nil => rfl
  | cons a l =>
    have := h a (by simp);rw [get_cons, if_neg (by rw [ltB_asymm this]; simp), if_neg (fun e => ltB_ne this e.symm)]
theorem get_put {k v q : BL} : ∀ {l : List PR}, tabB l = true → getL (putT k v l) q = if q = k then some v else getL l q
  | [], _ => by
    unfold putT
    rw [get_cons]
    by_cases e : q = k
    · subst e; rw [if_pos rfl, if_neg (by rw [ltB_irrefl]; simp), if_pos rfl]
    · rw [if_neg e, if_neg (fun e2 : (k, v).1 = q => e e2.symm)]
      split <;> rfl
  | a :: l, h => by
    obtain ⟨h1, h2⟩ := tab_cons h;have ih := get_put (k := k) (v := v) (q := q) h1
    unfold putT
    rcases tri_cases a.1 k with hc | hc | ⟨hc, hc2, hc3⟩
    · rw [if_pos hc, get_cons, get_cons, ih]
      by_cases e : q = k
      · subst e; rw [if_pos hc, if_pos rfl, if_pos rfl]
      · rw [if_neg e, if_neg e]
    · have hz : ¬ ltB a.1 k = true := by rw [hc, ltB_irrefl]; simp
      rw [if_neg hz, if_pos hc, get_cons, get_cons, hc]
      by_cases e : q = k
      · subst e; rw [if_pos rfl, if_neg (by rw [ltB_irrefl]; simp), if_pos rfl]
      · rw [if_neg e, if_neg (fun e2 : (k, v).1 = q => e e2.symm), if_neg (fun e2 : k = q => e e2.symm)]
    · rw [if_neg (by rw [hc]; simp), if_neg hc3, get_cons (k, v)]
      by_cases e : q = k
      · subst e; rw [if_pos rfl, if_neg (by rw [ltB_irrefl]; simp), if_pos rfl]
      · rw [if_neg e, if_neg (fun e2 : (k, v).1 = q => e e2.symm)]
        by_cases hkq : ltB k q = true
        · rw [if_pos hkq]
        · rw [if_neg hkq]
          have hqk : ltB q k = true := by
            cases hh : ltB q k with
            | true => rfl
            | false => exact absurd (ltB_tri hh (by simpa using hkq)) e
          exact (get_gt fun x hx => by
            rcases List.mem_cons.1 hx with rfl | hx
            · exact ltB_trans hqk hc2
            · exact ltB_trans hqk (ltB_trans hc2 (h2 x hx))).symm
theorem get_chg {k v q : BL} : ∀ {l : List PR}, tabB l = true → getL (chgT k v l) q = if q = k then (match getL l k with | some _ => some v | none => none) else getL l q
  | [], _ => by
    unfold chgT
    split <;> rfl
  | a :: l, h => by
    obtain ⟨h1, h2⟩ := tab_cons h;have ih := get_chg (k := k) (v := v) (q := q) h1
    unfold chgT
    rcases tri_cases a.1 k with hc | hc | ⟨hc, hc2, hc3⟩
    · rw [if_pos hc, get_cons, get_cons a l q, get_cons a l k, ih, if_pos hc]
      by_cases e : q = k
      · subst e; rw [if_pos hc, if_pos rfl, if_pos rfl]
      · rw [if_neg e, if_neg e]
    · have hz : ¬ ltB a.1 k = true := by rw [hc, ltB_irrefl]; simp
      rw [if_neg hz, if_pos hc, get_cons, get_cons a l q, get_cons a l k, if_neg hz, if_pos hc, hc]
      by_cases e : q = k
      · subst e; rw [if_pos rfl, if_neg (by rw [ltB_irrefl]; simp), if_pos rfl]
      · rw [if_neg e, if_neg (fun e2 : (k, v).1 = q => e e2.symm), if_neg (fun e2 : k = q => e e2.symm)]
    · have hg : getL (a :: l) k = none := by rw [get_cons, if_neg (by rw [hc]; simp), if_neg hc3]
      rw [if_neg (by rw [hc]; simp), if_neg hc3, hg]
      by_cases e : q = k
      · subst e; rw [if_pos rfl, hg]
      · rw [if_neg e]
theorem get_del {k q : BL} : ∀ {l : List PR}, tabB l = true → getL (delT k l) q = if q = k then none else getL l q
  | [], _ => by
    unfold delT
    split <;> rfl
  | a :: l, h => by
    obtain ⟨h1, h2⟩ := tab_cons h;have ih := get_del (k := k) (q := q) h1
    unfold delT
    rcases tri_cases a.1 k with hc | hc | ⟨hc, hc2, hc3⟩
    · rw [if_pos hc, get_cons, get_cons, ih]
      by_cases e : q = k
      · subst e; rw [if_pos hc, if_pos rfl, if_pos rfl]
      · rw [if_neg e, if_neg e]
    · have hz : ¬ ltB a.1 k = true := by rw [hc, ltB_irrefl]; simp
      rw [if_neg hz, if_pos hc]
      by_cases e : q = k
      · subst e; rw [if_pos rfl];exact get_gt fun x hx => by rw [← hc]; exact h2 x hx
      · rw [if_neg e, get_cons]
        by_cases hkq : ltB a.1 q = true
        · rw [if_pos hkq]
        · rw [if_neg hkq, if_neg (fun e2 => e (by rw [← e2, hc]))]
          have hqa : ltB q a.1 = true := by
            cases hh : ltB q a.1 with
            | true => rfl
            | false => exact absurd (ltB_tri hh (by simpa using hkq)) (fun e2 => e (by rw [e2, hc]))
          exact get_gt fun x hx => ltB_trans hqa (h2 x hx)
    · rw [if_neg (by rw [hc]; simp), if_neg hc3]
      by_cases e : q = k
      · subst e; rw [if_pos rfl]
        exact get_gt fun x hx => by
          rcases List.mem_cons.1 hx with rfl | hx
          · exact hc2
          · exact ltB_trans hc2 (h2 x hx)
      · rw [if_neg e]
def stepG (p : PM) (key : BL) (g : Option BL) : Option BL :=
  if p.2.1 = key then (if p.1 = 3 then some p.2.2 else if p.1 = 4 then (match g with | some _ => some p.2.2 | none => none) else if p.1 = 5 then none else g) else g
theorem writes_p3 {p : PM} (h : p.1 = 3) (l : List PR) : (writesL p l).1 = putT p.2.1 p.2.2 l ∧ (writesL p l).2 = 1 := by
  rw [← put_eq]
  unfold writesL
  cases his : isL l p.2.1 <;> simp [h]
theorem writes_p4 {p : PM} (h : p.1 = 4) (l : List PR) : (writesL p l).1 = chgT p.2.1 p.2.2 l ∧ (writesL p l).2 = if isL l p.2.1 = true then 1 else 0 := by
  rw [← chg_eq]
  unfold writesL
  cases his : isL l p.2.1 <;> simp [h]
theorem writes_del' {p : PM} (h : p.1 = 5) (l : List PR) : (writesL p l).1 = delT p.2.1 l ∧ (writesL p l).2 = if isL l p.2.1 = true then 1 else 0 := by
  rw [← del_eq]
  unfold writesL
  cases his : isL l p.2.1 <;> simp [h]
theorem writes_no {p : PM} (h3 : p.1 ≠ 3) (h4 : p.1 ≠ 4) (h5 : p.1 ≠ 5) (l : List PR) : writesL p l = (l, 0) := by
  unfold writesL
  simp [h3, h4, h5]
theorem keep_step (p : PM) (key : BL) {l : List PR} (h : tabB l = true) : tabB (writesL p l).1 = true ∧ getL (writesL p l).1 key = stepG p key (getL l key) := by
  unfold stepG
  by_cases h3 : p.1 = 3
  · rw [(writes_p3 h3 l).1];refine ⟨put_tab h, ?_⟩;rw [get_put h]
    by_cases e : p.2.1 = key
    · rw [if_pos e, if_pos e.symm, if_pos h3]
    · rw [if_neg e, if_neg (fun e2 => e e2.symm)]
  · by_cases h4 : p.1 = 4
    · rw [(writes_p4 h4 l).1];refine ⟨chg_tab h, ?_⟩;rw [get_chg h]
      by_cases e : p.2.1 = key
      · rw [if_pos e, if_pos e.symm, if_neg h3, if_pos h4, e]
      · rw [if_neg e, if_neg (fun e2 => e e2.symm)]
    · by_cases h5 : p.1 = 5
      · rw [(writes_del' h5 l).1];refine ⟨del_tab h, ?_⟩;rw [get_del h]
        by_cases e : p.2.1 = key
        · rw [if_pos e, if_pos e.symm, if_neg h3, if_neg h4, if_pos h5]
        · rw [if_neg e, if_neg (fun e2 => e e2.symm)]
      · rw [writes_no h3 h4 h5];refine ⟨h, ?_⟩;rw [if_neg h3, if_neg h4, if_neg h5]
        split <;> rfl
theorem is_lt {l : List PR} {k : BL} (h : isL l k = true) : posL l k < l.length := by
  unfold isL at h
  cases hy : l[posL l k]? with
  | none => rw [hy] at h; cases h
  | some y => exact (List.getElem?_eq_some_iff.1 hy).1
theorem keep_len (p : PM) (l : List PR) : 0 ≤ (writesL p l).2 ∧ (writesL p l).2 ≤ 1 ∧ ((writesL p l).2 = 0 → (writesL p l).1.length = l.length) ∧ (writesL p l).1.length ≤ l.length + 1 ∧ l.length ≤ (writesL p l).1.length + 1 := by
  have hp := pos_le l p.2.1
  unfold writesL
  split
  · simp only [List.length_append, List.length_take, List.length_cons, List.length_drop];refine ⟨by omega, by omega, fun h => by omega, by omega, by omega⟩
  · split
    · simp only [List.length_set];exact ⟨by omega, by omega, fun h => by omega, by omega, by omega⟩
    · split
      · rename_i h
        have := List.length_eraseIdx_of_lt (is_lt h.2);simp only;exact ⟨by omega, by omega, fun h => by omega, by omega, by omega⟩
      · exact ⟨by omega, by omega, fun _ => rfl, by simp only; omega, by simp only; omega⟩
end Go.Proofs.YtfcmajgnpnlkiaaGreatDoor
