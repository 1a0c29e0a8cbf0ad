/- What a cluster always is: no epoch has two that lead it; a log of the newest epoch is what the newest primary's begins with. -/
import Derived.Test.YtfcmajgnpnlkiaaGreatDoorProg
import Derived.Test.YtfcmajgnpnlkiaaGreatDoorClu4
import Derived.Test.YtfcmajgnpnlkiaaGreatDoorFences
set_option linter.unusedSimpArgs false
set_option linter.unusedVariables false
set_option maxRecDepth 100000
namespace Go.Proofs.YtfcmajgnpnlkiaaGreatDoor
open Go Go.Proofs.YtfcmajgnpnlkiaaGreatDoor.SL Go.RowKit
theorem firstC_get {C : CD} (h : C.pr < C.ns.length) : C.ns[C.pr]? = some (firstC C) := by
  unfold firstC
  rw [List.getElem?_eq_getElem h]
structure CInv (C : CD) : Prop where
  ok : COk C
  top : ∀ s ∈ C.ns, s.ep ≤ C.ep
  fep : (firstC C).ep = C.ep
  fld : (firstC C).ld = true
  uniq : ∀ (i j : Nat) (s t : ND), C.ns[i]? = some s → C.ns[j]? = some t → s.ld = true → t.ld = true → s.ep = t.ep → i = j
  pre : ∀ s ∈ C.ns, s.ep = C.ep → s.lg <+: (firstC C).lg
  cut : C.ct ≤ (firstC C).lg.length
theorem set_get {α : Type} {l : List α} {i j : Nat} {x y : α} (h : (l.set i x)[j]? = some y) : (i = j ∧ y = x) ∨ (i ≠ j ∧ l[j]? = some y) := by
  by_cases hij : i = j
  · subst hij
    have hlt : i < l.length := by
      have := (List.getElem?_eq_some_iff.1 h).1
      rwa [List.length_set] at this
    rw [List.getElem?_set_self hlt] at h;exact .inl ⟨rfl, (Option.some.inj h).symm⟩
  · rw [List.getElem?_set_ne hij] at h;exact .inr ⟨hij, h⟩
theorem firstC_set {C : CD} {i : Nat} {s : ND} (h : C.pr < C.ns.length) : firstC (setC C i s) = if i = C.pr then s else firstC C := by
  have h2 : (setC C i s).pr < (setC C i s).ns.length := by simp only [setC, List.length_set]; exact h
  have h3 := firstC_get h2
  change (C.ns.set i s)[C.pr]? = _ at h3
  rcases set_get h3 with ⟨rfl, h4⟩ | ⟨h4, h5⟩
  · rw [if_pos rfl, h4]
  · rw [if_neg h4];rw [firstC_get h] at h5;exact (Option.some.inj h5).symm
theorem CInv.lead {C : CD} (I : CInv C) {i : Nat} {s : ND} (hs : C.ns[i]? = some s) (he : s.ep = C.ep) (hl : s.ld = true) : i = C.pr :=
  I.uniq i C.pr s (firstC C) hs (firstC_get I.ok.n0) hl I.fld (by rw [he, I.fep])
theorem CInv.set {C : CD} (I : CInv C) {i : Nat} {s s' : ND} {ext : List Ent} (hs : C.ns[i]? = some s) (hep : s'.ep = s.ep) (hld : s'.ld = s.ld) (hok : NOk s') (hlg : s'.lg = s.lg ++ ext) (hext : ext ≠ [] → s.ld = true) : CInv (setC C i s') := by
  have hm := List.mem_of_getElem? hs;have hf := firstC_set (C := C) (i := i) (s := s') I.ok.n0
  have hge : (firstC C).lg <+: (firstC (setC C i s')).lg := by
    rw [hf]
    split
    · rename_i h
      subst h;rw [firstC_get I.ok.n0] at hs;rw [hlg, ← Option.some.inj hs];exact List.prefix_append _ _
    · exact List.prefix_rfl
  refine ⟨setC_ok I.ok i hok, ?_, ?_, ?_, ?_, ?_, Nat.le_trans I.cut hge.length_le⟩
  · intro x hx
    rcases List.mem_or_eq_of_mem_set hx with hx | rfl
    · exact I.top x hx
    · rw [hep]; exact I.top s hm
  · rw [hf]
    split
    · rename_i h
      subst h;rw [firstC_get I.ok.n0] at hs;rw [hep, ← Option.some.inj hs]; exact I.fep
    · exact I.fep
  · rw [hf]
    split
    · rename_i h
      subst h;rw [firstC_get I.ok.n0] at hs;rw [hld, ← Option.some.inj hs]; exact I.fld
    · exact I.fld
  · intro a b x y hx hy h1 h2 h3
    rcases set_get hx with ⟨rfl, rfl⟩ | ⟨ha, hx'⟩ <;> rcases set_get hy with ⟨rfl, rfl⟩ | ⟨hb, hy'⟩
    · rfl
    · exact I.uniq _ _ s y hs hy' (by rw [← hld]; exact h1) h2 (by rw [← hep]; exact h3)
    · exact I.uniq _ _ x s hx' hs h1 (by rw [← hld]; exact h2) (by rw [← hep]; exact h3)
    · exact I.uniq _ _ x y hx' hy' h1 h2 h3
  · intro x hx he
    rcases List.mem_or_eq_of_mem_set hx with hx | rfl
    · exact (I.pre x hx he).trans hge
    · by_cases hip : i = C.pr
      · rw [hf, if_pos hip]; exact List.prefix_rfl
      · have hnl : s.ld ≠ true := fun h => hip (I.lead hs (by rw [← hep]; exact he) h);have hxn : ext = [] := Classical.byContradiction fun h => hnl (hext h);rw [hlg, hxn, List.append_nil];exact (I.pre s hm (by rw [← hep]; exact he)).trans hge
theorem CInv.run {C : CD} (I : CInv C) (n k e : Int) (rd : Bool) {t : BL} (ht : t.length ≤ 300) : CInv (runC C n k e rd t).1 := by
  unfold runC
  cases hs : atC C n with
  | none => exact I
  | some s =>
    obtain ⟨i, rfl, hi⟩ := atC_some hs;obtain ⟨ext, R⟩ := run_law s k e rd t;exact I.set hi R.ep R.ld ((I.ok.ok s (atC_mem hs)).run _ _ _ ht) R.lg fun h => (R.laid h).2.2.1
theorem CInv.close {C : CD} (I : CInv C) (n k : Int) : CInv (closeC C n k).1 := by
  unfold closeC
  cases hs : atC C n with
  | none => exact I
  | some s =>
    obtain ⟨i, rfl, hi⟩ := atC_some hs
    have hc : (closeN s k).1.ep = s.ep ∧ (closeN s k).1.ld = s.ld ∧ (closeN s k).1.lg = s.lg := by unfold closeN; split <;> exact ⟨rfl, rfl, rfl⟩
    exact I.set (ext := []) hi hc.1 hc.2.1 ((I.ok.ok s (atC_mem hs)).close _) (by rw [hc.2.2, List.append_nil]) (by simp)
theorem CInv.copied {C : CD} (I : CInv C) {i : Nat} {s : ND} (hs : C.ns[i]? = some s) (hip : i ≠ C.pr) (m : Int) :
    (copyN s (firstC C) m).1.ep = C.ep ∧ (copyN s (firstC C) m).1.ld = false ∧ (copyN s (firstC C) m).1.lg <+: (firstC C).lg ∧ (copyN s (firstC C) m).1.lg = s.lg.take (bothL s.lg (firstC C).lg) ++ nextL s.lg (firstC C).lg m ∧ (copyN s (firstC C) m).2 = ((nextL s.lg (firstC C).lg m).length : Int) := by
  have ht := I.top s (List.mem_of_getElem? hs)
  have hno : ¬ ((firstC C).ep < s.ep ∨ ((firstC C).ep = s.ep ∧ s.ld = true)) := by
    rw [I.fep];rintro (h | ⟨h1, h2⟩)
    · omega
    · exact hip (I.lead hs h1.symm h2)
  have hp : s.lg.take (bothL s.lg (firstC C).lg) ++ nextL s.lg (firstC C).lg m <+: (firstC C).lg := by
    rw [both_take]
    unfold nextL
    rw [← List.take_add];exact List.take_prefix _ _
  have hl : (firstC C).ep = s.ep → s.ld = false := fun h => by
    cases hd : s.ld with
    | false => rfl
    | true => exact absurd (.inr ⟨h, hd⟩) hno
  unfold copyN
  rw [if_neg hno]
  split
  · exact ⟨I.fep, rfl, hp, rfl, rfl⟩
  · rename_i h
    have : (firstC C).ep = s.ep := by rw [I.fep] at h ⊢; omega
    exact ⟨by rw [← this]; exact I.fep, hl this, hp, rfl, rfl⟩
theorem CInv.copy {C : CD} (I : CInv C) (n m : Int) : CInv (copyC C n m).1 := by
  unfold copyC
  cases hs : atC C n with
  | none => exact I
  | some s =>
    obtain ⟨i, rfl, hi⟩ := atC_some hs;simp only
    split
    · exact I
    · rename_i hne
      have hip : i ≠ C.pr := fun h => hne (by rw [h]);obtain ⟨h1, h2, h3, _⟩ := I.copied hi hip m;simp only [Int.toNat_natCast];have hf := firstC_set (C := C) (i := i) (s := (copyN s (firstC C) m).1) I.ok.n0;rw [if_neg hip] at hf;refine ⟨setC_ok I.ok i ((I.ok.ok s (atC_mem hs)).copy (I.ok.ok _ (firstC_mem I.ok.n0)) _), ?_, by rw [hf]; exact I.fep, by rw [hf]; exact I.fld, ?_, ?_, by rw [hf]; exact I.cut⟩
      · intro x hx
        rcases List.mem_or_eq_of_mem_set hx with hx | rfl
        · exact I.top x hx
        · exact Int.le_of_eq h1
      · intro a b x y hx hy g1 g2 g3
        rcases set_get hx with ⟨rfl, rfl⟩ | ⟨ha, hx'⟩
        · rw [h2] at g1; cases g1
        · rcases set_get hy with ⟨rfl, rfl⟩ | ⟨hb, hy'⟩
          · rw [h2] at g2; cases g2
          · exact I.uniq _ _ x y hx' hy' g1 g2 g3
      · intro x hx he;rw [hf]
        rcases List.mem_or_eq_of_mem_set hx with hx | rfl
        · exact I.pre x hx he
        · exact h3
theorem CInv.promote {C : CD} (I : CInv C) (he : C.ep + 1 ≤ 1000000) (n : Int) : CInv (promoteC C n).1 := by
  have hok := promoteC_ok I.ok he n
  unfold promoteC at hok ⊢
  cases hs : atC C n with
  | none => exact I
  | some s =>
    rw [hs] at hok;obtain ⟨i, rfl, hi⟩ := atC_some hs;simp only at hok ⊢
    split
    · exact I
    · rename_i hne
      rw [if_neg hne] at hok;simp only [Int.toNat_natCast] at hok ⊢;have hlt := (List.getElem?_eq_some_iff.1 hi).1;have htop := I.top s (List.mem_of_getElem? hi);have hld : leadN s (C.ep + 1) = (⟨C.ep + 1, true, s.lg, []⟩, true) := by unfold leadN; rw [if_neg (by omega)]
      rw [hld] at hok ⊢;simp only at hok ⊢;have hf : firstC ⟨C.ns.set i ⟨C.ep + 1, true, s.lg, []⟩, C.ep + 1, i, bothL s.lg (firstC C).lg⟩ = ⟨C.ep + 1, true, s.lg, []⟩ := firstC_at (by simp only; rw [List.getElem?_set_self hlt]);refine ⟨hok, ?_, by rw [hf], by rw [hf], ?_, ?_, by rw [hf]; exact (both_le s.lg (firstC C).lg).1⟩
      · intro x hx
        rcases List.mem_or_eq_of_mem_set hx with hx | rfl
        · have := I.top x hx; simp only; omega
        · exact Int.le_refl _
      · intro a b x y hx hy g1 g2 g3
        rcases set_get hx with ⟨rfl, rfl⟩ | ⟨ha, hx'⟩ <;> rcases set_get hy with ⟨rfl, rfl⟩ | ⟨hb, hy'⟩
        · rfl
        · have := I.top y (List.mem_of_getElem? hy'); simp only at g3; omega
        · have := I.top x (List.mem_of_getElem? hx'); simp only at g3; omega
        · exact I.uniq _ _ x y hx' hy' g1 g2 g3
      · intro x hx hxe;rw [hf]
        rcases List.mem_or_eq_of_mem_set hx with hx | rfl
        · have := I.top x hx; simp only at hxe; omega
        · exact List.prefix_rfl
theorem CInv.do_ {C : CD} (I : CInv C) (he : C.ep + 1 ≤ 1000000) (x : A6) (ht : x.tx.length ≤ 300) : CInv (doC C x).1 := by
  unfold doC
  split
  · exact I.run _ _ _ _ ht
  · split
    · exact I.close _ _
    · split
      · exact I.promote he _
      · exact I.copy _ _
theorem CInv.new {n : Nat} (h1 : 1 ≤ n) (h2 : n ≤ 6) : CInv (newC n) := by
  have hf : firstC (newC n) = ⟨1, true, [], []⟩ := rfl
  have hall : ∀ (i : Nat) (s : ND), (newC n).ns[i]? = some s → s.ep = 1 ∧ s.lg = [] ∧ (s.ld = true → i = 0) := by
    intro i s hs
    cases i with
    | zero => simp [newC] at hs; subst hs; exact ⟨rfl, rfl, fun _ => rfl⟩
    | succ i =>
      simp only [newC, List.getElem?_cons_succ] at hs;have := List.mem_of_getElem? hs;rw [List.mem_replicate] at this;rw [this.2];exact ⟨rfl, rfl, fun h => by cases h⟩
  have hall' : ∀ s ∈ (newC n).ns, s.ep = 1 ∧ s.lg = [] := fun s hs => by
    obtain ⟨i, hi⟩ := List.mem_iff_getElem?.1 hs;exact ⟨(hall i s hi).1, (hall i s hi).2.1⟩
  refine ⟨newC_ok h1 h2, fun s hs => by rw [(hall' s hs).1]; exact Int.le_refl _, rfl, rfl, fun i j s t hs ht g1 g2 _ => by rw [(hall i s hs).2.2 g1, (hall j t ht).2.2 g2], fun s hs _ => by rw [(hall' s hs).2]; exact List.nil_prefix, Nat.zero_le _⟩
end Go.Proofs.YtfcmajgnpnlkiaaGreatDoor
