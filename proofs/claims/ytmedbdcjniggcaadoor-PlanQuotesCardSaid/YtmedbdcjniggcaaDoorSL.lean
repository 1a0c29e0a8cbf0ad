/- A small separation logic over the model's worlds: assertions as lists of atoms, frames as lists of slots, rules for the code. -/
import Derived.WalkKit
import Derived.ProofKit
import Derived.TacticsIn
import Derived.OrdersIn
import Derived.RangeFuncRecord
set_option linter.unusedVariables false
set_option linter.unusedSimpArgs false
namespace Go.Proofs.YtmedbdcjniggcaaDoor.SL
open Go Go.RowKit

/-! ### 1. Assertions -/
abbrev PH := Nat → Option Obj
abbrev HP := PH → Prop
/-- Block b is o. -/
def pt (b : Nat) (o : Obj) : HP := fun h => h b = some o
/-- Block b is a row of cells. -/
abbrev cl (b : Nat) (cs : Array Value) (t : TypeId) : HP := pt b (.cells cs t (0, 0))
def Le (h1 h : PH) : Prop := ∀ b o, h1 b = some o → h b = some o
def Disj (h1 h2 : PH) : Prop := ∀ b, h1 b = none ∨ h2 b = none
def un (h1 h2 : PH) : PH := fun b => match h1 b with | some o => some o | none => h2 b
def star : List HP → HP
  | [] => fun _ => True
  | A :: l => fun h => ∃ h1 h2, A h1 ∧ star l h2 ∧ Disj h1 h2 ∧ Le h1 h ∧ Le h2 h

theorem Le.refl (h : PH) : Le h h := fun _ _ e => e
theorem Le.trans {a b c : PH} (h : Le a b) (k : Le b c) : Le a c := fun x o e => k x o (h x o e)
theorem Disj.symm {a b : PH} (h : Disj a b) : Disj b a := fun x => (h x).symm
theorem Disj.le {a b c : PH} (h : Disj a b) (k : Le c b) : Disj a c := fun x => by
  rcases h x with e | e
  · exact .inl e
  · refine .inr ?_
    cases hc : c x with
    | none => rfl
    | some o => have := k x o hc; rw [e] at this; cases this
theorem Disj.le2 {a b a' b' : PH} (h : Disj a b) (ka : Le a' a) (kb : Le b' b) : Disj a' b' := ((h.le kb).symm.le ka).symm
theorem un_left (a b : PH) : Le a (un a b) := fun x o e => by simp [un, e]
theorem un_right {a b : PH} (h : Disj a b) : Le b (un a b) := fun x o e => by
  rcases h x with n | n
  · simp [un, n, e]
  · rw [e] at n; cases n
theorem un_le {a b c : PH} (h : Le a c) (k : Le b c) : Le (un a b) c := fun x o e => by
  unfold un at e
  cases ha : a x with
  | none => rw [ha] at e; exact k x o e
  | some o' => rw [ha] at e; simp only [Option.some.injEq] at e; subst e; exact h x _ ha
theorem Disj.un {a b c : PH} (h : Disj a c) (k : Disj b c) : Disj (un a b) c := fun x => by
  rcases h x with e | e
  · rcases k x with f | f
    · left; simp [SL.un, e, f]
    · exact .inr f
  · exact .inr e

theorem star_mono {l : List HP} {h h' : PH} (k : Le h h') (s : star l h) : star l h' := by
  cases l with
  | nil => trivial
  | cons A l => obtain ⟨a, b, hA, hl, hd, ha, hb⟩ := s; exact ⟨a, b, hA, hl, hd, ha.trans k, hb.trans k⟩
theorem star_append {l m : List HP} {h : PH} : star (l ++ m) h ↔ ∃ a b, star l a ∧ star m b ∧ Disj a b ∧ Le a h ∧ Le b h := by
  induction l generalizing h with
  | nil =>
    constructor
    · intro s; exact ⟨fun _ => none, h, trivial, s, fun _ => .inl rfl, (fun _ _ e => by cases e), Le.refl _⟩
    · rintro ⟨a, b, _, s, _, _, k⟩; exact star_mono k s
  | cons A l ih =>
    constructor
    · rintro ⟨a, b, hA, hl, hd, ha, hb⟩
      obtain ⟨c, d, hc, hm, hcd, lc, ld⟩ := ih.1 hl
      exact ⟨un a c, d, ⟨a, c, hA, hc, hd.le lc, un_left _ _, un_right (hd.le lc)⟩, hm, (hd.le ld).un hcd, un_le ha (lc.trans hb), ld.trans hb⟩
    · rintro ⟨a, b, ⟨c, d, hA, hl, hcd, lc, ld⟩, hm, hab, la, lb⟩
      have hdb : Disj d b := hab.le2 ld (Le.refl _)
      refine ⟨c, un d b, hA, ih.2 ⟨d, b, hl, hm, hdb, un_left _ _, un_right hdb⟩, ?_, lc.trans la, un_le (ld.trans la) lb⟩
      exact ((hcd.symm).un ((hab.le2 lc (Le.refl _)).symm)).symm
theorem star_perm {l m : List HP} (p : l.Perm m) : ∀ {h : PH}, star l h → star m h := by
  induction p with
  | nil => exact fun s => s
  | cons A _ ih => rintro h ⟨a, b, hA, hl, hd, ha, hb⟩; exact ⟨a, b, hA, ih hl, hd, ha, hb⟩
  | swap A B l =>
    rintro h ⟨a, b, hA, ⟨c, d, hB, hl, hcd, lc, ld⟩, hab, la, lb⟩
    refine ⟨c, un a d, hB, ⟨a, d, hA, hl, hab.le ld, un_left _ _, un_right (hab.le ld)⟩, ?_, lc.trans lb, un_le la (ld.trans lb)⟩
    exact ((hab.le lc).un hcd.symm).symm
  | trans _ _ h1 h2 => exact fun s => h2 (h1 s)

structure Sat (w0 w : World) (l : List HP) : Prop where
  below : Below w0.heap.size w0 w
  here : ∃ h, star l h ∧ ∀ b o, h b = some o → w0.heap.size ≤ b ∧ w.heap[b]? = some o
theorem Sat.perm {w0 w : World} {l m : List HP} (s : Sat w0 w l) (p : l.Perm m) : Sat w0 w m :=
  ⟨s.below, let ⟨h, a, b⟩ := s.here; ⟨h, star_perm p a, b⟩⟩
theorem Sat.imp {w0 w : World} {l m : List HP} (s : Sat w0 w l) (p : ∀ h, star l h → star m h) : Sat w0 w m :=
  ⟨s.below, let ⟨h, a, b⟩ := s.here; ⟨h, p h a, b⟩⟩
theorem star_imp_left {l m r : List HP} (p : ∀ h, star l h → star m h) {h : PH} (s : star (l ++ r) h) : star (m ++ r) h := by
  obtain ⟨a, b, x, y, d, e, f⟩ := star_append.1 s
  exact star_append.2 ⟨a, b, p a x, y, d, e, f⟩
theorem Sat.conv {w0 w : World} {l m r : List HP} (s : Sat w0 w (l ++ r)) (p : ∀ h, star l h → star m h) : Sat w0 w (m ++ r) :=
  s.imp fun _ => star_imp_left p
theorem Sat.right {w0 w : World} {l r : List HP} (s : Sat w0 w (l ++ r)) : Sat w0 w r :=
  s.imp fun _ h => by obtain ⟨a, b, x, y, d, e, f⟩ := star_append.1 h; exact star_mono f y
theorem Sat.left {w0 w : World} {l r : List HP} (s : Sat w0 w (l ++ r)) : Sat w0 w l :=
  s.imp fun _ h => by obtain ⟨a, b, x, y, d, e, f⟩ := star_append.1 h; exact star_mono e x
theorem Sat.head {w0 w : World} {A : HP} {l : List HP} (s : Sat w0 w (A :: l)) {p : Prop} (k : ∀ h, A h → p) : p := by
  obtain ⟨h, ⟨a, b, hA, _⟩, _⟩ := s.here
  exact k a hA
theorem Sat.ex {α : Sort _} {w0 w : World} {A : α → HP} {l : List HP} (s : Sat w0 w ((fun h => ∃ x, A x h) :: l)) : ∃ x, Sat w0 w (A x :: l) := by
  obtain ⟨bel, h, ⟨a, b, ⟨x, hA⟩, r⟩, k⟩ := s
  exact ⟨x, bel, h, ⟨a, b, hA, r⟩, k⟩
theorem Sat.and {w0 w : World} {p : Prop} {A : HP} {l : List HP} (s : Sat w0 w ((fun h => p ∧ A h) :: l)) : p ∧ Sat w0 w (A :: l) := by
  obtain ⟨bel, h, ⟨a, b, ⟨x, hA⟩, r⟩, k⟩ := s
  exact ⟨x, bel, h, ⟨a, b, hA, r⟩, k⟩
/-- An atom that is itself a star. -/
theorem Sat.open_ {w0 w : World} {m l : List HP} (s : Sat w0 w (star m :: l)) : Sat w0 w (m ++ l) :=
  s.imp fun h k => by obtain ⟨a, b, x, y, d, e, f⟩ := k; exact star_append.2 ⟨a, b, x, y, d, e, f⟩
theorem Sat.shut {w0 w : World} {m l : List HP} (s : Sat w0 w (m ++ l)) : Sat w0 w (star m :: l) :=
  s.imp fun h k => by obtain ⟨a, b, x, y, d, e, f⟩ := star_append.1 k; exact ⟨a, b, x, y, d, e, f⟩

/-! ### 2. Picking atoms out -/
def pull {α : Type _} : Nat → List α → Option (α × List α)
  | _, [] => none
  | 0, a :: l => some (a, l)
  | k + 1, a :: l => match pull k l with | some (x, r) => some (x, a :: r) | none => none
theorem pull_perm {α : Type _} {k : Nat} {l r : List α} {x : α} (h : pull k l = some (x, r)) : l.Perm (x :: r) := by
  induction k generalizing l x r with
  | zero => cases l with
    | nil => simp [pull] at h
    | cons a l => simp [pull] at h; obtain ⟨rfl, rfl⟩ := h; exact List.Perm.refl _
  | succ k ih => cases l with
    | nil => simp [pull] at h
    | cons a l =>
      simp only [pull] at h
      cases e : pull k l with
      | none => rw [e] at h; cases h
      | some y =>
        rw [e] at h
        obtain ⟨y, r'⟩ := y
        simp at h
        obtain ⟨rfl, rfl⟩ := h
        exact ((ih e).cons a).trans (List.Perm.swap _ _ _)
/-- The atoms that stand at these places (each counted in what the ones before have left), and the rest. -/
def pulls {α : Type _} : List Nat → List α → Option (List α × List α)
  | [], l => some ([], l)
  | k :: ks, l => match pull k l with
    | none => none
    | some (x, r) => match pulls ks r with | none => none | some (xs, r') => some (x :: xs, r')
theorem pulls_perm {α : Type _} {ks : List Nat} {l xs r : List α} (h : pulls ks l = some (xs, r)) : l.Perm (xs ++ r) := by
  induction ks generalizing l xs r with
  | nil => simp [pulls] at h; obtain ⟨rfl, rfl⟩ := h; exact List.Perm.refl _
  | cons k ks ih =>
    simp only [pulls] at h
    cases e : pull k l with
    | none => rw [e] at h; cases h
    | some y =>
      obtain ⟨x, r1⟩ := y
      rw [e] at h
      simp only at h
      cases f : pulls ks r1 with
      | none => rw [f] at h; cases h
      | some z =>
        obtain ⟨zs, r2⟩ := z
        rw [f] at h
        simp at h
        obtain ⟨rfl, rfl⟩ := h
        exact (pull_perm e).trans ((ih f).cons x)
theorem Sat.pulls {w0 w : World} {ks : List Nat} {l xs r : List HP} (s : Sat w0 w l) (h : SL.pulls ks l = some (xs, r)) : Sat w0 w (xs ++ r) := s.perm (pulls_perm h)
/-- The atom at place k is another one. -/
def setAt {α : Type _} : Nat → α → List α → List α
  | _, _, [] => []
  | 0, x, _ :: l => x :: l
  | k + 1, x, a :: l => a :: setAt k x l
def nth {α : Type _} : Nat → List α → Option α
  | _, [] => none
  | 0, a :: _ => some a
  | k + 1, _ :: l => nth k l
theorem nth_pull {α : Type _} {k : Nat} {l : List α} {x : α} (h : nth k l = some x) : ∃ r, l.Perm (x :: r) ∧ ∀ y, (setAt k y l).Perm (y :: r) := by
  induction k generalizing l with
  | zero => cases l with
    | nil => simp [nth] at h
    | cons a l => simp [nth] at h; subst h; exact ⟨l, List.Perm.refl _, fun y => List.Perm.refl _⟩
  | succ k ih => cases l with
    | nil => simp [nth] at h
    | cons a l =>
      obtain ⟨r, hr, hs⟩ := ih h
      exact ⟨a :: r, (hr.cons a).trans (List.Perm.swap _ _ _), fun y => ((hs y).cons a).trans (List.Perm.swap _ _ _)⟩

/-! ### 3. What the world does -/
theorem Sat.blk {w0 w : World} {l : List HP} (s : Sat w0 w l) {k b : Nat} {o : Obj} (hk : nth k l = some (pt b o)) : w.heap[b]? = some o ∧ w0.heap.size ≤ b := by
  obtain ⟨r, hr, _⟩ := nth_pull hk
  obtain ⟨bel, h, ⟨a, c, hA, _, _, la, _⟩, k⟩ := s.perm hr
  exact ⟨(k b o (la _ _ hA)).2, (k b o (la _ _ hA)).1⟩
theorem Sat.grown {w0 w w' : World} {l : List HP} (s : Sat w0 w l) (h : Below w.heap.size w w') : Sat w0 w' l := by
  obtain ⟨bel, g, hs, k⟩ := s
  refine ⟨bel.trans (h.mono bel.size), g, hs, fun b o e => ?_⟩
  obtain ⟨k1, k2⟩ := k b o e
  have hlt : b < w.heap.size := (Array.getElem?_eq_some_iff.1 k2).1
  exact ⟨k1, (h.block b hlt).trans k2⟩
/-- What a call over the world w (all of it kept) has brought is beside all that was held. -/
theorem Sat.joined {w0 w w' : World} {l m : List HP} (s : Sat w0 w l) (t : Sat w w' m) : Sat w0 w' (m ++ l) := by
  obtain ⟨bel, h, hs, k⟩ := s.grown t.below
  have tb := t.below
  have sb := s.below
  obtain ⟨_, g, gs, j⟩ := t
  obtain ⟨_, h0, hs0, k0⟩ := s
  refine ⟨bel, un g h0, star_append.2 ⟨g, h0, gs, hs0, ?_, un_left _ _, un_right ?_⟩, fun b o e => ?_⟩
  · intro b
    cases e : g b with
    | none => exact .inl rfl
    | some o => refine .inr ?_; cases f : h0 b with
      | none => rfl
      | some o' =>
        have a1 := (j b o e).1
        have a2 := (Array.getElem?_eq_some_iff.1 (k0 b o' f).2).1
        omega
  · intro b
    cases e : g b with
    | none => exact .inl rfl
    | some o => refine .inr ?_; cases f : h0 b with
      | none => rfl
      | some o' =>
        have a1 := (j b o e).1
        have a2 := (Array.getElem?_eq_some_iff.1 (k0 b o' f).2).1
        omega
  · unfold un at e
    cases ge : g b with
    | none =>
      rw [ge] at e
      obtain ⟨a1, a2⟩ := k0 b o e
      exact ⟨a1, (tb.block b (Array.getElem?_eq_some_iff.1 a2).1).trans a2⟩
    | some o' =>
      rw [ge] at e
      simp only [Option.some.injEq] at e
      subst e
      have := (j b _ ge).1
      exact ⟨Nat.le_trans sb.size this, (j b _ ge).2⟩
theorem Sat.start (w : World) : Sat w w [] := ⟨Below.refl _ _, fun _ => none, trivial, fun _ _ e => by cases e⟩
theorem Sat.drew {w0 w : World} {l : List HP} (s : Sat w0 w l) (n : Nat) : Sat w0 { w with drawn := n } l :=
  ⟨⟨s.below.os, s.below.tape, s.below.output, s.below.size, s.below.block⟩, s.here⟩
theorem Sat.alloc {w0 w : World} {l : List HP} (s : Sat w0 w l) (o : Obj) : Sat w0 (w.alloc o) (pt w.heap.size o :: l) := by
  have t : Sat w (w.alloc o) [pt w.heap.size o] := by
    refine ⟨(Below.refl _ _).alloc (Nat.le_refl _) o, fun b => if b = w.heap.size then some o else none, ?_, ?_⟩
    · exact ⟨fun b => if b = w.heap.size then some o else none, fun _ => none, by simp [pt], trivial, fun _ => .inr rfl, Le.refl _, fun _ _ e => by cases e⟩
    · intro b o' e
      dsimp only at e
      split at e
      · rename_i h; subst h; simp only [Option.some.injEq] at e; subst e
        refine ⟨Nat.le_refl _, ?_⟩
        show (w.heap.push o)[w.heap.size]? = _
        simp
      · cases e
  exact s.joined t
/-- One block is another object. -/
theorem Sat.put {w0 w w' : World} {l : List HP} (s : Sat w0 w l) {k b : Nat} {o o' : Obj} (hk : nth k l = some (pt b o))
    (hb : w'.heap[b]? = some o') (hother : ∀ c, c ≠ b → w'.heap[c]? = w.heap[c]?) (hsize : w'.heap.size = w.heap.size) (hos : w'.os = w.os) (htape : w'.tape = w.tape) (hout : w'.output = w.output) :
    Sat w0 w' (setAt k (pt b o') l) := by
  obtain ⟨r, hr, hset⟩ := nth_pull hk
  refine Sat.perm ?_ (hset (pt b o')).symm
  obtain ⟨bel, h, ⟨a, c, hA, hl, hd, la, lc⟩, kk⟩ := s.perm hr
  have hge := (kk b o (la _ _ hA)).1
  refine ⟨⟨hos.trans bel.os, htape.trans bel.tape, hout.trans bel.output, by rw [hsize]; exact bel.size, fun i hi => (hother i (by omega)).trans (bel.block i hi)⟩, un (fun x => if x = b then some o' else none) c, ?_, ?_⟩
  · have dj : Disj (fun x => if x = b then some o' else none) c := fun x => by
      by_cases e : x = b
      · subst e
        refine .inr ?_
        rcases hd x with f | f
        · simp only [pt] at hA; rw [hA] at f; cases f
        · exact f
      · left; simp [e]
    exact ⟨_, c, by simp [pt], hl, dj, un_left _ _, un_right dj⟩
  · intro x ox e
    unfold un at e
    by_cases hx : x = b
    · subst hx; simp at e; subst e; exact ⟨hge, hb⟩
    · simp only [hx, if_false] at e
      obtain ⟨k1, k2⟩ := kk x ox (lc _ _ e)
      exact ⟨k1, (hother x hx).trans k2⟩
theorem Sat.cell {w0 w : World} {l : List HP} (s : Sat w0 w l) {k b : Nat} {cs : Array Value} {t : TypeId} {fr : Nat × Nat} (hk : nth k l = some (pt b (.cells cs t fr))) (j : Nat) :
    w.cell? ⟨b, j, none⟩ = cs[j]? := by
  simp [World.cell?, (s.blk hk).1]
theorem nth_list {α : Type _} {l : List α} {j : Nat} : nth j l = l[j]? := by
  induction l generalizing j with
  | nil => cases j <;> simp [nth]
  | cons a l ih => cases j with
    | zero => simp [nth]
    | succ j => simp [nth, ih]
theorem Sat.ld {w0 w : World} {l : List HP} (s : Sat w0 w l) {k b : Nat} {cs : Array Value} {t : TypeId} {fr : Nat × Nat} (hk : nth k l = some (pt b (.cells cs t fr))) {j : Nat} {v : Value} (hv : nth j cs.toList = some v) :
    w.cell? ⟨b, j, none⟩ = some v := by
  rw [s.cell hk, ← Array.getElem?_toList, ← nth_list]; exact hv
def NthAll (cs : List Value) : Nat → List Value → Prop
  | _, [] => True
  | off, v :: r => nth off cs = some v ∧ NthAll cs (off + 1) r
theorem NthAll.at_ {cs vs : List Value} {off : Nat} (h : NthAll cs off vs) {j : Nat} {v : Value} (hv : vs[j]? = some v) : nth (off + j) cs = some v := by
  induction vs generalizing off j with
  | nil => simp at hv
  | cons u r ih => cases j with
    | zero => simp at hv; subst hv; exact h.1
    | succ j => have := ih h.2 (j := j) (by simpa using hv); rwa [show off + (j + 1) = off + 1 + j by omega]
theorem Sat.setCell {w0 w : World} {l : List HP} (s : Sat w0 w l) {k b : Nat} {cs : Array Value} {t : TypeId} {fr : Nat × Nat} (hk : nth k l = some (pt b (.cells cs t fr))) (j : Nat) (v : Value) :
    Sat w0 (w.setCell ⟨b, j, none⟩ v) (setAt k (pt b (.cells (cs.setIfInBounds j v) t fr)) l) := by
  refine s.put hk ?_ ?_ ?_ rfl rfl rfl
  · simp only [World.setCell, Array.getElem?_modify]
    simp [(s.blk hk).1]
  · intro c hc
    exact Below.heap_setCell _ _ _ _ hc
  · simp [World.setCell]
theorem Sat.frozen {w0 w : World} {l : List HP} (s : Sat w0 w l) {k b : Nat} {cs : Array Value} {t : TypeId} (hk : nth k l = some (pt b (.cells cs t (0, 0)))) (j : Nat) (sp : Option Nat) :
    w.frozen? ⟨b, j, sp⟩ = false := by
  simp [World.frozen?, (s.blk hk).1]
/-- A block that was there at the start, below all that is held. -/
theorem Sat.old {w0 w : World} {l : List HP} (s : Sat w0 w l) {b : Nat} {o : Obj} (h : w0.heap[b]? = some o) : w.heap[b]? = some o :=
  (s.below.block b (Array.getElem?_eq_some_iff.1 h).1).trans h
theorem Sat.oldCell {w0 w : World} {l : List HP} (s : Sat w0 w l) {a : Addr} {v : Value} (h : w0.cell? a = some v) : w.cell? a = some v :=
  (s.below.cell (World.block_lt_of_cell? w0 a h)).trans h

/-! ### 4. Frames -/
abbrev Env := List (Nat × Value)
def look : Env → Nat → Option Value
  | [], _ => none
  | (t, v) :: r, u => match Nat.beq t u with | true => some v | false => look r u
theorem look_eq {env : Env} {t : Nat} {v u : Value} (h : look env t = some v) (e : v = u) : look env t = some u := e ▸ h
structure Fr (n : Nat) (ds : List Deferred) (env : Env) (a : Act) : Prop where
  size : a.tmps.size = n
  defers : a.defers = ds
  has : ∀ t v, look env t = some v → a.tmps[t]? = some v
def ev (env : Env) : Operand → Option Value
  | .tmp t => look env t
  | .const v => some v
  | .global g => some (.pointer (some ⟨g, 0, none⟩))
  | .func f => some (.func (.func f) #[] #[])
theorem Fr.eval {n : Nat} {ds : List Deferred} {env : Env} {a : Act} (h : Fr n ds env a) {x : Operand} {v : Value} (e : ev env x = some v) : a.eval x = v := by
  cases x with
  | tmp t => simp [Act.eval, Array.getD_eq_getD_getElem?, h.has t v e]
  | const c => simpa [ev, Act.eval] using e
  | global g => simpa [ev, Act.eval] using e
  | func f => simpa [ev, Act.eval] using e
theorem Fr.put {n : Nat} {ds : List Deferred} {env : Env} {a : Act} (h : Fr n ds env a) (d : Nat) (v : Value) (hd : Nat.blt d n = true) : Fr n ds ((d, v) :: env) (a.put (some d) v) := by
  have hlt : d < n := by simpa [Nat.blt_eq] using hd
  refine ⟨by simp [Act.put, h.size], h.defers, fun t u e => ?_⟩
  simp only [look] at e
  simp only [Act.put, Array.getElem?_setIfInBounds]
  cases hb : Nat.beq d t with
  | true =>
    rw [hb] at e
    have : d = t := Nat.eq_of_beq_eq_true hb
    subst this
    simp only [Option.some.injEq] at e
    subst e
    simp [h.size, hlt]
  | false =>
    rw [hb] at e
    have : d ≠ t := fun x => by subst x; simp at hb
    simp [this, h.has t u e]
/-- Fewer slots. -/
def subEnv (env : Env) : Env → Prop
  | [] => True
  | (t, v) :: r => look env t = some v ∧ subEnv env r
theorem look_sub {env e : Env} (h : subEnv env e) {t : Nat} {v : Value} (k : look e t = some v) : look env t = some v := by
  induction e with
  | nil => simp [look] at k
  | cons p r ih =>
    obtain ⟨u, x⟩ := p
    simp only [look] at k
    cases hb : Nat.beq u t with
    | true => rw [hb] at k; have := Nat.eq_of_beq_eq_true hb; subst this; simp only [Option.some.injEq] at k; subst k; exact h.1
    | false => rw [hb] at k; exact ih h.2 k
theorem Fr.sub {n : Nat} {ds : List Deferred} {env e : Env} {a : Act} (h : Fr n ds env a) (k : subEnv env e) : Fr n ds e a :=
  ⟨h.size, h.defers, fun t v x => h.has t v (look_sub k x)⟩

/-! ### 5. The goals of a walk -/
/-- The fence that lets everything in; ro: the record of the loop whose round this is. -/
def FW (ro : Option Nat) : Fence := { Fence.wide with round := ro }
theorem fw_room (ro : Option Nat) (n : Nat) : (FW ro).room n := fun _ h => by simp [FW, Fence.wide] at h
def gwp (ro : Option Nat) (P : Program) (c : Code) (Q : Exit → Act → World → Prop) (a : Act) (w : World) : Prop := c.wpIn (FW ro) 0 P Q a w
theorem gwp_wp {P : Program} {c : Code} {Q : Exit → Act → World → Prop} {a : Act} {w : World} (h : c.wp P Q a w) : gwp none P c Q a w := wpIn_wide.2 h
def At (w0 : World) (n : Nat) (ds : List Deferred) (R : Act → World → Prop) (env : Env) (l : List HP) : Prop :=
  ∀ a w, Fr n ds env a → Sat w0 w l → R a w
section rules
variable {ro : Option Nat} {w0 : World} {P : Program} {n : Nat} {ds : List Deferred} {env : Env} {l : List HP} {Q : Exit → Act → World → Prop} {R : Act → World → Prop}
theorem At.mono {R' : Act → World → Prop} (h : At w0 n ds R env l) (k : ∀ a w, R a w → R' a w) : At w0 n ds R' env l := fun a w f s => k a w (h a w f s)
theorem at_seq {x y : Code} (h : At w0 n ds (gwp ro P x (Exit.then (gwp ro P y Q) Q)) env l) : At w0 n ds (gwp ro P (Code.seq x y) Q) env l :=
  fun a w f s => wpIn_seq (h a w f s)
theorem at_seq_k {x y : Code} (h : ∀ K : Act → World → Prop, (∀ ds env l, At w0 n ds (gwp ro P y Q) env l → At w0 n ds K env l) → At w0 n ds (gwp ro P x (Exit.then K Q)) env l) : At w0 n ds (gwp ro P (Code.seq x y) Q) env l :=
  at_seq (h _ fun _ _ _ h => h)
theorem at_skip (h : At w0 n ds (Q .normal) env l) : At w0 n ds (gwp ro P Code.skip Q) env l := fun a w f s => wpIn_skip (h a w f s)
theorem at_ret (h : At w0 n ds (Q .ret) env l) : At w0 n ds (gwp ro P Code.ret Q) env l := fun a w f s => wpIn_ret (h a w f s)
theorem at_exit {id : Nat} (h : At w0 n ds (Q (.exit id)) env l) : At w0 n ds (gwp ro P (Code.exit id) Q) env l := fun a w f s => wpIn_exit (h a w f s)
theorem at_block {id : Nat} {c : Code} (h : At w0 n ds (gwp ro P c (Exit.inBlock id Q)) env l) : At w0 n ds (gwp ro P (Code.block id c) Q) env l :=
  fun a w f s => wpIn_block (h a w f s)
theorem at_normal {K : Act → World → Prop} (h : At w0 n ds K env l) : At w0 n ds (Exit.then K Q .normal) env l := h
theorem at_then_ret {K : Act → World → Prop} (h : At w0 n ds (Q .ret) env l) : At w0 n ds (Exit.then K Q .ret) env l := h
theorem at_then_exit {K : Act → World → Prop} {id : Nat} (h : At w0 n ds (Q (.exit id)) env l) : At w0 n ds (Exit.then K Q (.exit id)) env l := h
theorem at_inb_normal {id : Nat} (h : At w0 n ds (Q .normal) env l) : At w0 n ds (Exit.inBlock id Q .normal) env l := h
theorem at_inb_ret {id : Nat} (h : At w0 n ds (Q .ret) env l) : At w0 n ds (Exit.inBlock id Q .ret) env l := h
theorem at_exit_eq {id : Nat} (h : At w0 n ds (Q .normal) env l) : At w0 n ds (Exit.inBlock id Q (.exit id)) env l :=
  fun a w f s => by simp only [Exit.inBlock, if_true]; exact h a w f s
theorem at_exit_ne {id id' : Nat} (hne : Nat.beq id' id = false) (h : At w0 n ds (Q (.exit id')) env l) : At w0 n ds (Exit.inBlock id Q (.exit id')) env l :=
  fun a w f s => by
    have : ¬ id' = id := fun e => by subst e; simp at hne
    simp only [Exit.inBlock, this, if_false]; exact h a w f s
theorem at_cond {c : Operand} {x y : Code} {t : Bool} (hc : ev env c = some (.bool t)) (ht : t = true → At w0 n ds (gwp ro P x Q) env l)
    (hf : t = false → At w0 n ds (gwp ro P y Q) env l) : At w0 n ds (gwp ro P (Code.cond c x y) Q) env l :=
  fun a w f s => wpIn_cond_split (f.eval hc) (fun e => ht e a w f s) (fun e => hf e a w f s)
theorem at_cond_true {c : Operand} {x y : Code} (hc : ev env c = some (.bool true)) (ht : At w0 n ds (gwp ro P x Q) env l) : At w0 n ds (gwp ro P (Code.cond c x y) Q) env l :=
  fun a w f s => wpIn_cond_true (f.eval hc) (ht a w f s)
theorem at_cond_false {c : Operand} {x y : Code} (hc : ev env c = some (.bool false)) (hf : At w0 n ds (gwp ro P y Q) env l) : At w0 n ds (gwp ro P (Code.cond c x y) Q) env l :=
  fun a w f s => wpIn_cond_false (f.eval hc) (hf a w f s)
theorem at_sub {e : Env} (k : subEnv env e) (h : At w0 n ds R e l) : At w0 n ds R env l := fun a w f s => h a w (f.sub k) s
theorem at_pulls (ks : List Nat) {xs r : List HP} (h : pulls ks l = some (xs, r)) (k : At w0 n ds R env (xs ++ r)) : At w0 n ds R env l :=
  fun a w f s => k a w f (s.pulls h)
theorem at_conv {m r : List HP} (p : ∀ h, star l h → star m h) (k : At w0 n ds R env m) : At w0 n ds R env l := fun a w f s => k a w f (s.imp p)
theorem at_ex {α : Sort _} {A : α → HP} (k : ∀ x, At w0 n ds R env (A x :: l)) : At w0 n ds R env ((fun h => ∃ x, A x h) :: l) :=
  fun a w f s => by obtain ⟨x, hx⟩ := s.ex; exact k x a w f hx
theorem at_and {p : Prop} {A : HP} (k : p → At w0 n ds R env (A :: l)) : At w0 n ds R env ((fun h => p ∧ A h) :: l) :=
  fun a w f s => by obtain ⟨x, hx⟩ := s.and; exact k x a w f hx
theorem at_open {m : List HP} (k : At w0 n ds R env (m ++ l)) : At w0 n ds R env (star m :: l) := fun a w f s => k a w f s.open_
/-- The loop. -/
theorem at_loop {ι : Type} {c : Code} (I : ι → Prop) (E : ι → Env) (S : ι → List HP) (μ : ι → Nat) (i0 : ι) (h0 : I i0) (hE : ∀ t v, look (E i0) t = some v → look env t = some v) (hS : ∀ w, Sat w0 w l → Sat w0 w (S i0))
    (round : ∀ i, I i → At w0 n ds (gwp ro P c (Exit.then (fun a w => ∃ j, I j ∧ μ j < μ i ∧ Fr n ds (E j) a ∧ Sat w0 w (S j)) Q)) (E i) (S i)) :
    At w0 n ds (gwp ro P (Code.loop c) Q) env l := by
  intro a w f s b k cs hro hb hr
  have key : ∀ m i, μ i = m → I i → ∀ a w, Fr n ds (E i) a → Sat w0 w (S i) →
      ∃ e a' w', Q e a' w' ∧ ArrivesIn (Machine.fenced P (FW ro)) P (lone (b.atR a (.code c :: .inLoop c :: k)) cs w) b k cs e a' w' := by
    intro m
    induction m using Nat.strongRecOn with
    | _ m ih =>
      intro i hm hI a w hf hs
      obtain ⟨e, a₁, w₁, hq, harr⟩ := round i hI a w hf hs b (.inLoop c :: k) cs hro hb hr
      cases e with
      | normal =>
        obtain ⟨j, hj, hlt, hfj, hsj⟩ := hq
        obtain ⟨e₂, a₂, w₂, hq₂, harr₂⟩ := ih (μ j) (hm ▸ hlt) j rfl hj a₁ w₁ hfj hsj
        exact ⟨e₂, a₂, w₂, hq₂, .of_steps (StepsIn.trans harr (.one (fenced_calm hb hr rfl) stepR_inLoop)) harr₂⟩
      | exit id => exact ⟨_, a₁, w₁, hq, .pass (x := .inLoop c) rfl (fun _ _ => .inl (by simp)) harr⟩
      | goto l => exact ⟨_, a₁, w₁, hq, .pass (x := .inLoop c) rfl (fun _ _ => .inl (by simp)) harr⟩
      | ret => exact ⟨_, a₁, w₁, hq, .pass (x := .inLoop c) rfl (fun _ _ => .inl (by simp)) harr⟩
      | panic ch => exact ⟨_, a₁, w₁, hq, .pass (x := .inLoop c) rfl (fun _ _ => .inl (by simp)) harr⟩
      | outgrown => exact ⟨_, a₁, w₁, hq, .pass (x := .inLoop c) rfl (fun _ _ => .inl (by simp)) harr⟩
  obtain ⟨e, a', w', hq, harr⟩ := key _ i0 rfl h0 a w ⟨f.size, f.defers, fun t v h => f.has t v (hE t v h)⟩ (hS w s)
  exact ⟨e, a', w', hq, .of_steps (.one (fenced_calm hb hr rfl) stepR_loop) harr⟩
theorem at_round {ι : Type} {I : ι → Prop} {E : ι → Env} {S : ι → List HP} {μ : ι → Nat} {i : ι} (j : ι) (hj : I j) (hlt : μ j < μ i) (hE : subEnv env (E j)) (hS : ∀ w, Sat w0 w l → Sat w0 w (S j)) :
    At w0 n ds (fun a w => ∃ j, I j ∧ μ j < μ i ∧ Fr n ds (E j) a ∧ Sat w0 w (S j)) env l :=
  fun a w f s => ⟨j, hj, hlt, f.sub hE, hS w s⟩
end rules
end Go.Proofs.YtmedbdcjniggcaaDoor.SL
