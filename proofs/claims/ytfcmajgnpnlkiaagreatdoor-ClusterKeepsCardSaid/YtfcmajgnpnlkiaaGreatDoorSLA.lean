/- A small separation logic over the model's worlds: assertions as lists of atoms, frames as lists of slots, rules for the code. -/
import Derived.WalkKit
import Derived.ProofKit
import Derived.TacticsIn
import Derived.OrdersIn
import Derived.RangeFuncRecord
import Derived.Deep.Quiet
import Derived.Laws.MakeOwn
import Derived.Deep.Slices
import Derived.SizedLaws
set_option linter.unusedVariables false
set_option linter.unusedSimpArgs false
namespace Go.Proofs.YtfcmajgnpnlkiaaGreatDoor.SL
open Go Go.RowKit
abbrev PH := Nat → Option Obj
abbrev HP := PH → Prop
def pt (b : Nat) (o : Obj) : HP := fun h => h b = some o
abbrev cl (b : Nat) (cs : Array Value) (t : TypeId) : HP := pt b (.cells cs t (0, 0))
def Le (h1 h : PH) : Prop := ∀ b o, h1 b = some o → h b = some o
def Disj (h1 h2 : PH) : Prop := ∀ b, h1 b = none ∨ h2 b = none
def un (h1 h2 : PH) : PH := fun b => match h1 b with | some o => some o | none => h2 b
def star : List HP → HP
  | [] => fun _ => True
  | A :: l => fun h => ∃ h1 h2, A h1 ∧ star l h2 ∧ Disj h1 h2 ∧ Le h1 h ∧ Le h2 h
theorem Le.refl (h : PH) : Le h h := fun _ _ e => e
theorem Le.trans {a b c : PH} (h : Le a b) (k : Le b c) : Le a c := fun x o e => k x o (h x o e)
theorem Disj.symm {a b : PH} (h : Disj a b) : Disj b a := fun x => (h x).symm
theorem Disj.le {a b c : PH} (h : Disj a b) (k : Le c b) : Disj a c := fun x => by
  rcases h x with e | e
  · exact .inl e
  · refine .inr ?_
    cases hc : c x with
    | none => rfl
    | some o => have := k x o hc; rw [e] at this; cases this
theorem Disj.le2 {a b a' b' : PH} (h : Disj a b) (ka : Le a' a) (kb : Le b' b) : Disj a' b' := ((h.le kb).symm.le ka).symm
theorem un_left (a b : PH) : Le a (un a b) := fun x o e => by simp [un, e]
theorem un_right {a b : PH} (h : Disj a b) : Le b (un a b) := fun x o e => by
  rcases h x with n | n
  · simp [un, n, e]
  · rw [e] at n; cases n
theorem un_le {a b c : PH} (h : Le a c) (k : Le b c) : Le (un a b) c := fun x o e => by
  unfold un at e
  cases ha : a x with
  | none => rw [ha] at e; exact k x o e
  | some o' => rw [ha] at e; simp only [Option.some.injEq] at e; subst e; exact h x _ ha
theorem Disj.un {a b c : PH} (h : Disj a c) (k : Disj b c) : Disj (un a b) c := fun x => by
  rcases h x with e | e
  · rcases k x with f | f
    · left; simp [SL.un, e, f]
    · exact .inr f
  · exact .inr e
theorem star_mono {l : List HP} {h h' : PH} (k : Le h h') (s : star l h) : star l h' := by
  cases l with
  | nil => trivial
  | cons A l => obtain ⟨a, b, hA, hl, hd, ha, hb⟩ := s; exact ⟨a, b, hA, hl, hd, ha.trans k, hb.trans k⟩
theorem star_append {l m : List HP} {h : PH} : star (l ++ m) h ↔ ∃ a b, star l a ∧ star m b ∧ Disj a b ∧ Le a h ∧ Le b h := by
  induction l generalizing h with
  | nil =>
    constructor
    · intro s; exact ⟨fun _ => none, h, trivial, s, fun _ => .inl rfl, (fun _ _ e => by cases e), Le.refl _⟩
    · rintro ⟨a, b, _, s, _, _, k⟩; exact star_mono k s
  | cons A l ih =>
    constructor
    · rintro ⟨a, b, hA, hl, hd, ha, hb⟩;obtain ⟨c, d, hc, hm, hcd, lc, ld⟩ := ih.1 hl;exact ⟨un a c, d, ⟨a, c, hA, hc, hd.le lc, un_left _ _, un_right (hd.le lc)⟩, hm, (hd.le ld).un hcd, un_le ha (lc.trans hb), ld.trans hb⟩
    · rintro ⟨a, b, ⟨c, d, hA, hl, hcd, lc, ld⟩, hm, hab, la, lb⟩;have hdb : Disj d b := hab.le2 ld (Le.refl _);refine ⟨c, un d b, hA, ih.2 ⟨d, b, hl, hm, hdb, un_left _ _, un_right hdb⟩, ?_, lc.trans la, un_le (ld.trans la) lb⟩;exact ((hcd.symm).un ((hab.le2 lc (Le.refl _)).symm)).symm
theorem star_perm {l m : List HP} (p : l.Perm m) : ∀ {h : PH}, star l h → star m h := by
  induction p with
  | nil => exact fun s => s
  | cons A _ ih => rintro h ⟨a, b, hA, hl, hd, ha, hb⟩; exact ⟨a, b, hA, ih hl, hd, ha, hb⟩
  | swap A B l =>
    rintro h ⟨a, b, hA, ⟨c, d, hB, hl, hcd, lc, ld⟩, hab, la, lb⟩;refine ⟨c, un a d, hB, ⟨a, d, hA, hl, hab.le ld, un_left _ _, un_right (hab.le ld)⟩, ?_, lc.trans lb, un_le la (ld.trans lb)⟩;exact ((hab.le lc).un hcd.symm).symm
  | trans _ _ h1 h2 => exact fun s => h2 (h1 s)
structure Sat (w0 w : World) (l : List HP) : Prop where
  below : Below w0.heap.size w0 w
  here : ∃ h, star l h ∧ ∀ b o, h b = some o → w0.heap.size ≤ b ∧ w.heap[b]? = some o
theorem Sat.perm {w0 w : World} {l m : List HP} (s : Sat w0 w l) (p : l.Perm m) : Sat w0 w m :=
  ⟨s.below, let ⟨h, a, b⟩ := s.here; ⟨h, star_perm p a, b⟩⟩
theorem Sat.imp {w0 w : World} {l m : List HP} (s : Sat w0 w l) (p : ∀ h, star l h → star m h) : Sat w0 w m :=
  ⟨s.below, let ⟨h, a, b⟩ := s.here; ⟨h, p h a, b⟩⟩
theorem star_imp_left {l m r : List HP} (p : ∀ h, star l h → star m h) {h : PH} (s : star (l ++ r) h) : star (m ++ r) h := by
  obtain ⟨a, b, x, y, d, e, f⟩ := star_append.1 s;exact star_append.2 ⟨a, b, p a x, y, d, e, f⟩
theorem Sat.conv {w0 w : World} {l m r : List HP} (s : Sat w0 w (l ++ r)) (p : ∀ h, star l h → star m h) : Sat w0 w (m ++ r) :=
  s.imp fun _ => star_imp_left p
theorem Sat.right {w0 w : World} {l r : List HP} (s : Sat w0 w (l ++ r)) : Sat w0 w r :=
  s.imp fun _ h => by obtain ⟨a, b, x, y, d, e, f⟩ := star_append.1 h; exact star_mono f y
theorem Sat.left {w0 w : World} {l r : List HP} (s : Sat w0 w (l ++ r)) : Sat w0 w l :=
  s.imp fun _ h => by obtain ⟨a, b, x, y, d, e, f⟩ := star_append.1 h; exact star_mono e x
theorem Sat.head {w0 w : World} {A : HP} {l : List HP} (s : Sat w0 w (A :: l)) {p : Prop} (k : ∀ h, A h → p) : p := by
  obtain ⟨h, ⟨a, b, hA, _⟩, _⟩ := s.here;exact k a hA
theorem Sat.ex {α : Sort _} {w0 w : World} {A : α → HP} {l : List HP} (s : Sat w0 w ((fun h => ∃ x, A x h) :: l)) : ∃ x, Sat w0 w (A x :: l) := by
  obtain ⟨bel, h, ⟨a, b, ⟨x, hA⟩, r⟩, k⟩ := s;exact ⟨x, bel, h, ⟨a, b, hA, r⟩, k⟩
theorem Sat.and {w0 w : World} {p : Prop} {A : HP} {l : List HP} (s : Sat w0 w ((fun h => p ∧ A h) :: l)) : p ∧ Sat w0 w (A :: l) := by
  obtain ⟨bel, h, ⟨a, b, ⟨x, hA⟩, r⟩, k⟩ := s;exact ⟨x, bel, h, ⟨a, b, hA, r⟩, k⟩
theorem Sat.open_ {w0 w : World} {m l : List HP} (s : Sat w0 w (star m :: l)) : Sat w0 w (m ++ l) :=
  s.imp fun h k => by obtain ⟨a, b, x, y, d, e, f⟩ := k; exact star_append.2 ⟨a, b, x, y, d, e, f⟩
theorem Sat.shut {w0 w : World} {m l : List HP} (s : Sat w0 w (m ++ l)) : Sat w0 w (star m :: l) :=
  s.imp fun h k => by obtain ⟨a, b, x, y, d, e, f⟩ := star_append.1 k; exact ⟨a, b, x, y, d, e, f⟩
def pull {α : Type _} : Nat → List α → Option (α × List α)
  | _, [] => none
  | 0, a :: l => some (a, l)
  | k + 1, a :: l => match pull k l with | some (x, r) => some (x, a :: r) | none => none
theorem pull_perm {α : Type _} {k : Nat} {l r : List α} {x : α} (h : pull k l = some (x, r)) : l.Perm (x :: r) := by
  induction k generalizing l x r with
  | zero => cases l with
    | nil => simp [pull] at h
    | cons a l => simp [pull] at h; obtain ⟨rfl, rfl⟩ := h; exact List.Perm.refl _
  | succ k ih => cases l with
    | nil => simp [pull] at h
    | cons a l =>
      simp only [pull] at h
      cases e : pull k l with
      | none => rw [e] at h; cases h
      | some y =>
        rw [e] at h;obtain ⟨y, r'⟩ := y;simp at h;obtain ⟨rfl, rfl⟩ := h;exact ((ih e).cons a).trans (List.Perm.swap _ _ _)
def pulls {α : Type _} : List Nat → List α → Option (List α × List α)
  | [], l => some ([], l)
  | k :: ks, l => match pull k l with
    | none => none
    | some (x, r) => match pulls ks r with | none => none | some (xs, r') => some (x :: xs, r')
theorem pulls_perm {α : Type _} {ks : List Nat} {l xs r : List α} (h : pulls ks l = some (xs, r)) : l.Perm (xs ++ r) := by
  induction ks generalizing l xs r with
  | nil => simp [pulls] at h; obtain ⟨rfl, rfl⟩ := h; exact List.Perm.refl _
  | cons k ks ih =>
    simp only [pulls] at h
    cases e : pull k l with
    | none => rw [e] at h; cases h
    | some y =>
      obtain ⟨x, r1⟩ := y;rw [e] at h;simp only at h
      cases f : pulls ks r1 with
      | none => rw [f] at h; cases h
      | some z =>
        obtain ⟨zs, r2⟩ := z;rw [f] at h;simp at h;obtain ⟨rfl, rfl⟩ := h;exact (pull_perm e).trans ((ih f).cons x)
theorem Sat.pulls {w0 w : World} {ks : List Nat} {l xs r : List HP} (s : Sat w0 w l) (h : SL.pulls ks l = some (xs, r)) : Sat w0 w (xs ++ r) := s.perm (pulls_perm h)
def setAt {α : Type _} : Nat → α → List α → List α
  | _, _, [] => []
  | 0, x, _ :: l => x :: l
  | k + 1, x, a :: l => a :: setAt k x l
def nth {α : Type _} : Nat → List α → Option α
  | _, [] => none
  | 0, a :: _ => some a
  | k + 1, _ :: l => nth k l
theorem nth_pull {α : Type _} {k : Nat} {l : List α} {x : α} (h : nth k l = some x) : ∃ r, l.Perm (x :: r) ∧ ∀ y, (setAt k y l).Perm (y :: r) := by
  induction k generalizing l with
  | zero => cases l with
    | nil => simp [nth] at h
    | cons a l => simp [nth] at h; subst h; exact ⟨l, List.Perm.refl _, fun y => List.Perm.refl _⟩
  | succ k ih => cases l with
    | nil => simp [nth] at h
    | cons a l =>
      obtain ⟨r, hr, hs⟩ := ih h;exact ⟨a :: r, (hr.cons a).trans (List.Perm.swap _ _ _), fun y => ((hs y).cons a).trans (List.Perm.swap _ _ _)⟩
theorem Sat.blk {w0 w : World} {l : List HP} (s : Sat w0 w l) {k b : Nat} {o : Obj} (hk : nth k l = some (pt b o)) : w.heap[b]? = some o ∧ w0.heap.size ≤ b := by
  obtain ⟨r, hr, _⟩ := nth_pull hk;obtain ⟨bel, h, ⟨a, c, hA, _, _, la, _⟩, k⟩ := s.perm hr;exact ⟨(k b o (la _ _ hA)).2, (k b o (la _ _ hA)).1⟩
theorem Sat.grown {w0 w w' : World} {l : List HP} (s : Sat w0 w l) (h : Below w.heap.size w w') : Sat w0 w' l := by
  obtain ⟨bel, g, hs, k⟩ := s;refine ⟨bel.trans (h.mono bel.size), g, hs, fun b o e => ?_⟩;obtain ⟨k1, k2⟩ := k b o e;have hlt : b < w.heap.size := (Array.getElem?_eq_some_iff.1 k2).1;exact ⟨k1, (h.block b hlt).trans k2⟩
theorem Sat.joined {w0 w w' : World} {l m : List HP} (s : Sat w0 w l) (t : Sat w w' m) : Sat w0 w' (m ++ l) := by
  obtain ⟨bel, h, hs, k⟩ := s.grown t.below;have tb := t.below;have sb := s.below;obtain ⟨_, g, gs, j⟩ := t;obtain ⟨_, h0, hs0, k0⟩ := s;refine ⟨bel, un g h0, star_append.2 ⟨g, h0, gs, hs0, ?_, un_left _ _, un_right ?_⟩, fun b o e => ?_⟩
  · intro b
    cases e : g b with
    | none => exact .inl rfl
    | some o => refine .inr ?_; cases f : h0 b with
      | none => rfl
      | some o' =>
        have a1 := (j b o e).1;have a2 := (Array.getElem?_eq_some_iff.1 (k0 b o' f).2).1;omega
  · intro b
    cases e : g b with
    | none => exact .inl rfl
    | some o => refine .inr ?_; cases f : h0 b with
      | none => rfl
      | some o' =>
        have a1 := (j b o e).1;have a2 := (Array.getElem?_eq_some_iff.1 (k0 b o' f).2).1;omega
  · unfold un at e
    cases ge : g b with
    | none =>
      rw [ge] at e;obtain ⟨a1, a2⟩ := k0 b o e;exact ⟨a1, (tb.block b (Array.getElem?_eq_some_iff.1 a2).1).trans a2⟩
    | some o' =>
      rw [ge] at e;simp only [Option.some.injEq] at e;subst e;have := (j b _ ge).1;exact ⟨Nat.le_trans sb.size this, (j b _ ge).2⟩
theorem Sat.start (w : World) : Sat w w [] := ⟨Below.refl _ _, fun _ => none, trivial, fun _ _ e => by cases e⟩
theorem Sat.drew {w0 w : World} {l : List HP} (s : Sat w0 w l) (n : Nat) : Sat w0 { w with drawn := n } l :=
  ⟨⟨s.below.os, s.below.tape, s.below.output, s.below.size, s.below.block⟩, s.here⟩
theorem Sat.alloc {w0 w : World} {l : List HP} (s : Sat w0 w l) (o : Obj) : Sat w0 (w.alloc o) (pt w.heap.size o :: l) := by
  have t : Sat w (w.alloc o) [pt w.heap.size o] := by
    refine ⟨(Below.refl _ _).alloc (Nat.le_refl _) o, fun b => if b = w.heap.size then some o else none, ?_, ?_⟩
    · exact ⟨fun b => if b = w.heap.size then some o else none, fun _ => none, by simp [pt], trivial, fun _ => .inr rfl, Le.refl _, fun _ _ e => by cases e⟩
    · intro b o' e;dsimp only at e
      split at e
      · rename_i h; subst h; simp only [Option.some.injEq] at e; subst e
        refine ⟨Nat.le_refl _, ?_⟩
        show (w.heap.push o)[w.heap.size]? = _
        simp
      · cases e
  exact s.joined t
theorem Sat.put {w0 w w' : World} {l : List HP} (s : Sat w0 w l) {k b : Nat} {o o' : Obj} (hk : nth k l = some (pt b o))
    (hb : w'.heap[b]? = some o') (hother : ∀ c, c ≠ b → w'.heap[c]? = w.heap[c]?) (hsize : w'.heap.size = w.heap.size) (hos : w'.os = w.os) (htape : w'.tape = w.tape) (hout : w'.output = w.output) :
    Sat w0 w' (setAt k (pt b o') l) := by
  obtain ⟨r, hr, hset⟩ := nth_pull hk;refine Sat.perm ?_ (hset (pt b o')).symm;obtain ⟨bel, h, ⟨a, c, hA, hl, hd, la, lc⟩, kk⟩ := s.perm hr;have hge := (kk b o (la _ _ hA)).1;refine ⟨⟨hos.trans bel.os, htape.trans bel.tape, hout.trans bel.output, by rw [hsize]; exact bel.size, fun i hi => (hother i (by omega)).trans (bel.block i hi)⟩, un (fun x => if x = b then some o' else none) c, ?_, ?_⟩
  · have dj : Disj (fun x => if x = b then some o' else none) c := fun x => by
      by_cases e : x = b
      · subst e;refine .inr ?_
        rcases hd x with f | f
        · simp only [pt] at hA; rw [hA] at f; cases f
        · exact f
      · left; simp [e]
    exact ⟨_, c, by simp [pt], hl, dj, un_left _ _, un_right dj⟩
  · intro x ox e
    unfold un at e
    by_cases hx : x = b
    · subst hx; simp at e; subst e; exact ⟨hge, hb⟩
    · simp only [hx, if_false] at e;obtain ⟨k1, k2⟩ := kk x ox (lc _ _ e);exact ⟨k1, (hother x hx).trans k2⟩
theorem Sat.cell {w0 w : World} {l : List HP} (s : Sat w0 w l) {k b : Nat} {cs : Array Value} {t : TypeId} {fr : Nat × Nat} (hk : nth k l = some (pt b (.cells cs t fr))) (j : Nat) :
    w.cell? ⟨b, j, none⟩ = cs[j]? := by
  simp [World.cell?, (s.blk hk).1]
theorem nth_list {α : Type _} {l : List α} {j : Nat} : nth j l = l[j]? := by
  induction l generalizing j with
  | nil => cases j <;> simp [nth]
  | cons a l ih => cases j with
    | zero => simp [nth]
    | succ j => simp [nth, ih]
theorem Sat.ld {w0 w : World} {l : List HP} (s : Sat w0 w l) {k b : Nat} {cs : Array Value} {t : TypeId} {fr : Nat × Nat} (hk : nth k l = some (pt b (.cells cs t fr))) {j : Nat} {v : Value} (hv : nth j cs.toList = some v) :
    w.cell? ⟨b, j, none⟩ = some v := by
  rw [s.cell hk, ← Array.getElem?_toList, ← nth_list]; exact hv
def NthAll (cs : List Value) : Nat → List Value → Prop
  | _, [] => True
  | off, v :: r => nth off cs = some v ∧ NthAll cs (off + 1) r
theorem NthAll.at_ {cs vs : List Value} {off : Nat} (h : NthAll cs off vs) {j : Nat} {v : Value} (hv : vs[j]? = some v) : nth (off + j) cs = some v := by
  induction vs generalizing off j with
  | nil => simp at hv
  | cons u r ih => cases j with
    | zero => simp at hv; subst hv; exact h.1
    | succ j => have := ih h.2 (j := j) (by simpa using hv); rwa [show off + (j + 1) = off + 1 + j by omega]
theorem Sat.setCell {w0 w : World} {l : List HP} (s : Sat w0 w l) {k b : Nat} {cs : Array Value} {t : TypeId} {fr : Nat × Nat} (hk : nth k l = some (pt b (.cells cs t fr))) (j : Nat) (v : Value) :
    Sat w0 (w.setCell ⟨b, j, none⟩ v) (setAt k (pt b (.cells (cs.setIfInBounds j v) t fr)) l) := by
  refine s.put hk ?_ ?_ ?_ rfl rfl rfl
  · simp only [World.setCell, Array.getElem?_modify];simp [(s.blk hk).1]
  · intro c hc;exact Below.heap_setCell _ _ _ _ hc
  · simp [World.setCell]
theorem Sat.frozen {w0 w : World} {l : List HP} (s : Sat w0 w l) {k b : Nat} {cs : Array Value} {t : TypeId} (hk : nth k l = some (pt b (.cells cs t (0, 0)))) (j : Nat) (sp : Option Nat) :
    w.frozen? ⟨b, j, sp⟩ = false := by
  simp [World.frozen?, (s.blk hk).1]
theorem Sat.old {w0 w : World} {l : List HP} (s : Sat w0 w l) {b : Nat} {o : Obj} (h : w0.heap[b]? = some o) : w.heap[b]? = some o :=
  (s.below.block b (Array.getElem?_eq_some_iff.1 h).1).trans h
theorem Sat.oldCell {w0 w : World} {l : List HP} (s : Sat w0 w l) {a : Addr} {v : Value} (h : w0.cell? a = some v) : w.cell? a = some v :=
  (s.below.cell (World.block_lt_of_cell? w0 a h)).trans h
abbrev Env := List (Nat × Value)
def look : Env → Nat → Option Value
  | [], _ => none
  | (t, v) :: r, u => match Nat.beq t u with | true => some v | false => look r u
theorem look_eq {env : Env} {t : Nat} {v u : Value} (h : look env t = some v) (e : v = u) : look env t = some u := e ▸ h
structure Fr (n : Nat) (ds : List Deferred) (env : Env) (a : Act) : Prop where
  size : a.tmps.size = n
  defers : a.defers = ds
  has : ∀ t v, look env t = some v → a.tmps[t]? = some v
def ev (env : Env) : Operand → Option Value
  | .tmp t => look env t
  | .const v => some v
  | .global g => some (.pointer (some ⟨g, 0, none⟩))
  | .func f => some (.func (.func f) #[] #[])
theorem Fr.eval {n : Nat} {ds : List Deferred} {env : Env} {a : Act} (h : Fr n ds env a) {x : Operand} {v : Value} (e : ev env x = some v) : a.eval x = v := by
  cases x with
  | tmp t => simp [Act.eval, Array.getD_eq_getD_getElem?, h.has t v e]
  | const c => simpa [ev, Act.eval] using e
  | global g => simpa [ev, Act.eval] using e
  | func f => simpa [ev, Act.eval] using e
theorem Fr.put {n : Nat} {ds : List Deferred} {env : Env} {a : Act} (h : Fr n ds env a) (d : Nat) (v : Value) (hd : Nat.blt d n = true) : Fr n ds ((d, v) :: env) (a.put (some d) v) := by
  have hlt : d < n := by simpa [Nat.blt_eq] using hd
  refine ⟨by simp [Act.put, h.size], h.defers, fun t u e => ?_⟩;simp only [look] at e;simp only [Act.put, Array.getElem?_setIfInBounds]
  cases hb : Nat.beq d t with
  | true =>
    rw [hb] at e;have : d = t := Nat.eq_of_beq_eq_true hb;subst this;simp only [Option.some.injEq] at e;subst e;simp [h.size, hlt]
  | false =>
    rw [hb] at e;have : d ≠ t := fun x => by subst x; simp at hb
    simp [this, h.has t u e]
def subEnv (env : Env) : Env → Prop
  | [] => True
  | (t, v) :: r => look env t = some v ∧ subEnv env r
theorem look_sub {env e : Env} (h : subEnv env e) {t : Nat} {v : Value} (k : look e t = some v) : look env t = some v := by
  induction e with
  | nil => simp [look] at k
  | cons p r ih =>
    obtain ⟨u, x⟩ := p;simp only [look] at k
    cases hb : Nat.beq u t with
    | true => rw [hb] at k; have := Nat.eq_of_beq_eq_true hb; subst this; simp only [Option.some.injEq] at k; subst k; exact h.1
    | false => rw [hb] at k; exact ih h.2 k
theorem Fr.sub {n : Nat} {ds : List Deferred} {env e : Env} {a : Act} (h : Fr n ds env a) (k : subEnv env e) : Fr n ds e a :=
  ⟨h.size, h.defers, fun t v x => h.has t v (look_sub k x)⟩
def FW (ro : Option Nat) : Fence := { Fence.wide with round := ro }
def gwp (ro : Option Nat) (P : Program) (c : Code) (Q : Exit → Act → World → Prop) (a : Act) (w : World) : Prop := c.wpIn (FW ro) 0 P Q a w
def At (w0 : World) (n : Nat) (ds : List Deferred) (R : Act → World → Prop) (env : Env) (l : List HP) : Prop :=
  ∀ a w, Fr n ds env a → Sat w0 w l → R a w
section rules
variable {ro : Option Nat} {w0 : World} {P : Program} {n : Nat} {ds : List Deferred} {env : Env} {l : List HP} {Q : Exit → Act → World → Prop} {R : Act → World → Prop}
theorem At.mono {R' : Act → World → Prop} (h : At w0 n ds R env l) (k : ∀ a w, R a w → R' a w) : At w0 n ds R' env l := fun a w f s => k a w (h a w f s)
theorem at_seq {x y : Code} (h : At w0 n ds (gwp ro P x (Exit.then (gwp ro P y Q) Q)) env l) : At w0 n ds (gwp ro P (Code.seq x y) Q) env l :=
  fun a w f s => wpIn_seq (h a w f s)
theorem at_seq_k {x y : Code} (h : ∀ K : Act → World → Prop, (∀ ds env l, At w0 n ds (gwp ro P y Q) env l → At w0 n ds K env l) → At w0 n ds (gwp ro P x (Exit.then K Q)) env l) : At w0 n ds (gwp ro P (Code.seq x y) Q) env l :=
  at_seq (h _ fun _ _ _ h => h)
theorem at_skip (h : At w0 n ds (Q .normal) env l) : At w0 n ds (gwp ro P Code.skip Q) env l := fun a w f s => wpIn_skip (h a w f s)
theorem at_ret (h : At w0 n ds (Q .ret) env l) : At w0 n ds (gwp ro P Code.ret Q) env l := fun a w f s => wpIn_ret (h a w f s)
theorem at_exit {id : Nat} (h : At w0 n ds (Q (.exit id)) env l) : At w0 n ds (gwp ro P (Code.exit id) Q) env l := fun a w f s => wpIn_exit (h a w f s)
theorem at_block {id : Nat} {c : Code} (h : At w0 n ds (gwp ro P c (Exit.inBlock id Q)) env l) : At w0 n ds (gwp ro P (Code.block id c) Q) env l :=
  fun a w f s => wpIn_block (h a w f s)
theorem at_normal {K : Act → World → Prop} (h : At w0 n ds K env l) : At w0 n ds (Exit.then K Q .normal) env l := h
theorem at_then_ret {K : Act → World → Prop} (h : At w0 n ds (Q .ret) env l) : At w0 n ds (Exit.then K Q .ret) env l := h
theorem at_then_exit {K : Act → World → Prop} {id : Nat} (h : At w0 n ds (Q (.exit id)) env l) : At w0 n ds (Exit.then K Q (.exit id)) env l := h
theorem at_inb_normal {id : Nat} (h : At w0 n ds (Q .normal) env l) : At w0 n ds (Exit.inBlock id Q .normal) env l := h
theorem at_exit_eq {id : Nat} (h : At w0 n ds (Q .normal) env l) : At w0 n ds (Exit.inBlock id Q (.exit id)) env l :=
  fun a w f s => by simp only [Exit.inBlock, if_true]; exact h a w f s
theorem at_exit_ne {id id' : Nat} (hne : Nat.beq id' id = false) (h : At w0 n ds (Q (.exit id')) env l) : At w0 n ds (Exit.inBlock id Q (.exit id')) env l :=
  fun a w f s => by
    have : ¬ id' = id := fun e => by subst e; simp at hne
    simp only [Exit.inBlock, this, if_false]; exact h a w f s
theorem at_cond {c : Operand} {x y : Code} {t : Bool} (hc : ev env c = some (.bool t)) (ht : t = true → At w0 n ds (gwp ro P x Q) env l)
    (hf : t = false → At w0 n ds (gwp ro P y Q) env l) : At w0 n ds (gwp ro P (Code.cond c x y) Q) env l :=
  fun a w f s => wpIn_cond_split (f.eval hc) (fun e => ht e a w f s) (fun e => hf e a w f s)
theorem at_cond_true {c : Operand} {x y : Code} (hc : ev env c = some (.bool true)) (ht : At w0 n ds (gwp ro P x Q) env l) : At w0 n ds (gwp ro P (Code.cond c x y) Q) env l :=
  fun a w f s => wpIn_cond_true (f.eval hc) (ht a w f s)
theorem at_cond_false {c : Operand} {x y : Code} (hc : ev env c = some (.bool false)) (hf : At w0 n ds (gwp ro P y Q) env l) : At w0 n ds (gwp ro P (Code.cond c x y) Q) env l :=
  fun a w f s => wpIn_cond_false (f.eval hc) (hf a w f s)
theorem at_sub {e : Env} (k : subEnv env e) (h : At w0 n ds R e l) : At w0 n ds R env l := fun a w f s => h a w (f.sub k) s
theorem at_pulls (ks : List Nat) {xs r : List HP} (h : pulls ks l = some (xs, r)) (k : At w0 n ds R env (xs ++ r)) : At w0 n ds R env l :=
  fun a w f s => k a w f (s.pulls h)
theorem at_ex {α : Sort _} {A : α → HP} (k : ∀ x, At w0 n ds R env (A x :: l)) : At w0 n ds R env ((fun h => ∃ x, A x h) :: l) :=
  fun a w f s => by obtain ⟨x, hx⟩ := s.ex; exact k x a w f hx
theorem at_open {m : List HP} (k : At w0 n ds R env (m ++ l)) : At w0 n ds R env (star m :: l) := fun a w f s => k a w f s.open_
theorem at_loop {ι : Type} {c : Code} (I : ι → Prop) (E : ι → Env) (S : ι → List HP) (μ : ι → Nat) (i0 : ι) (h0 : I i0) (hE : ∀ t v, look (E i0) t = some v → look env t = some v) (hS : ∀ w, Sat w0 w l → Sat w0 w (S i0))
    (round : ∀ i, I i → At w0 n ds (gwp ro P c (Exit.then (fun a w => ∃ j, I j ∧ μ j < μ i ∧ Fr n ds (E j) a ∧ Sat w0 w (S j)) Q)) (E i) (S i)) :
    At w0 n ds (gwp ro P (Code.loop c) Q) env l := by
  intro a w f s b k cs hro hb hr
  have key : ∀ m i, μ i = m → I i → ∀ a w, Fr n ds (E i) a → Sat w0 w (S i) →
      ∃ e a' w', Q e a' w' ∧ ArrivesIn (Machine.fenced P (FW ro)) P (lone (b.atR a (.code c :: .inLoop c :: k)) cs w) b k cs e a' w' := by
    intro m
    induction m using Nat.strongRecOn with
    | _ m ih =>
      intro i hm hI a w hf hs;obtain ⟨e, a₁, w₁, hq, harr⟩ := round i hI a w hf hs b (.inLoop c :: k) cs hro hb hr
      cases e with
      | normal =>
        obtain ⟨j, hj, hlt, hfj, hsj⟩ := hq;obtain ⟨e₂, a₂, w₂, hq₂, harr₂⟩ := ih (μ j) (hm ▸ hlt) j rfl hj a₁ w₁ hfj hsj;exact ⟨e₂, a₂, w₂, hq₂, .of_steps (StepsIn.trans harr (.one (fenced_calm hb hr rfl) stepR_inLoop)) harr₂⟩
      | exit id => exact ⟨_, a₁, w₁, hq, .pass (x := .inLoop c) rfl (fun _ _ => .inl (by simp)) harr⟩
      | goto l => exact ⟨_, a₁, w₁, hq, .pass (x := .inLoop c) rfl (fun _ _ => .inl (by simp)) harr⟩
      | ret => exact ⟨_, a₁, w₁, hq, .pass (x := .inLoop c) rfl (fun _ _ => .inl (by simp)) harr⟩
      | panic ch => exact ⟨_, a₁, w₁, hq, .pass (x := .inLoop c) rfl (fun _ _ => .inl (by simp)) harr⟩
      | outgrown => exact ⟨_, a₁, w₁, hq, .pass (x := .inLoop c) rfl (fun _ _ => .inl (by simp)) harr⟩
  obtain ⟨e, a', w', hq, harr⟩ := key _ i0 rfl h0 a w ⟨f.size, f.defers, fun t v h => f.has t v (hE t v h)⟩ (hS w s);exact ⟨e, a', w', hq, .of_steps (.one (fenced_calm hb hr rfl) stepR_loop) harr⟩
end rules
open Go Go.RowKit
def OpV (P : Program) (w0 : World) (n : Nat) (ds : List Deferred) (env : Env) (l : List HP) (o : Oper) (v : Value) : Prop :=
  ∀ a w, Fr n ds env a → Sat w0 w l → (execOp a.eval o).run P w = .ok (.value v) w
def Oper.goesV (P : Program) (o : Oper) (a : Act) (w : World) (next : Value → World → Prop) : Prop :=
  match (execOp a.eval o).run P w with
  | .ok (.value v) w' => next v w'
  | .ok .skip w' => next undef w'
  | .ok (.enter f args) w' => Calls P f args w' fun e w'' => match e with | .returned v => next v w'' | _ => False
  | .ok (.row row args) w' => Rows P row args w' next
  | .ok (.round l f tmps assign body) w' => RoundIn Fence.wide 0 P l f tmps assign body w' fun e w'' => match e with | .returned v => next v w'' | _ => False
  | _ => False
def OpT (P : Program) (w0 : World) (n : Nat) (ds : List Deferred) (env : Env) (l : List HP) (o : Oper) (Post : Value → List HP → Prop) : Prop :=
  ∀ a w, Fr n ds env a → Sat w0 w l → Oper.goesV P o a w fun v w' => ∃ l', Post v l' ∧ Sat w0 w' l'
theorem goesV_mono {P : Program} {o : Oper} {a : Act} {w : World} {K K' : Value → World → Prop} (h : Oper.goesV P o a w K) (k : ∀ v w', K v w' → K' v w') : Oper.goesV P o a w K' := by
  unfold Oper.goesV at *
  generalize (execOp a.eval o).run P w = r at *
  cases r with
  | halt x w' => exact h
  | ok m w' =>
    cases m <;> simp only at h ⊢
    case value v => exact k _ _ h
    case skip => exact k _ _ h
    case enter f args => exact h.mono fun e w'' he => by cases e <;> first | exact k _ _ he | exact he
    case row r args => exact h.mono fun v w'' he => k _ _ he
    case round l f tmps assign body => exact h.mono fun e w'' he => by cases e <;> first | exact k _ _ he | exact he
theorem goesV_nodefer {P : Program} {o : Oper} {a : Act} {w : World} {K : Value → World → Prop} (h : Oper.goesV P o a w K) (c : Call) : o.op ≠ .defer c := fun ho => by
  unfold Oper.goesV execOp at h
  rw [ho] at h;simp only [Sem.run_bind] at h
  generalize (resolve a.eval c o.type).run P w = r at h
  cases r <;> simp [Result.andThen] at h
theorem goesV_in {P : Program} {o : Oper} {a : Act} {w : World} {K : Act → World → Prop} {Q : Exit → Act → World → Prop} (ro : Option Nat) (h : Oper.goesV P o a w fun v w' => K (a.put o.dst v) w') : o.wpIn (FW ro) 0 P a w K Q := by
  refine ⟨fun _ _ => trivial, ?_⟩;rw [Oper.semAt_eq _ _ _ (goesV_nodefer h)]
  unfold Oper.goesV at h
  generalize (execOp a.eval o).run P w = r at *
  cases r with
  | halt x w' => exact h.elim
  | ok m w' =>
    cases m <;> simp only at h <;> simp only [Oper.uponIn]
    case value v => exact h
    case skip => exact h
    case enter f args =>
      refine ⟨fun e => (by simp [FW, Fence.wide] at e), CallsIn.mono (R := fun e w'' => match e with | .returned v => K (a.put o.dst v) w'' | _ => False) (callsIn_wide.2 h) fun e w'' he => by cases e <;> first | exact he | exact he.elim⟩
    case row r args => exact ⟨fun e => (by simp [FW, Fence.wide] at e), fun c cs _ => let ⟨v, w'', x, y⟩ := h c cs; ⟨v, w'', x, stepsIn_wide.2 y⟩⟩
    case round l f tmps assign body =>
      refine ⟨fun e => (by simp [FW, Fence.wide] at e), RoundIn.mono (R := fun e w'' => match e with | .returned v => K (a.put o.dst v) w'' | _ => False) h fun e w'' he => by cases e <;> first | exact he | exact he.elim⟩
theorem OpV.T {P : Program} {w0 : World} {n : Nat} {ds : List Deferred} {env : Env} {l : List HP} {o : Oper} {v : Value} (h : OpV P w0 n ds env l o v) : OpT P w0 n ds env l o fun u l' => u = v ∧ l' = l :=
  fun a w f s => by unfold Oper.goesV; rw [h a w f s]; exact ⟨l, ⟨rfl, rfl⟩, s⟩
def gList (ro : Option Nat) (P : Program) (ops : Array Oper) (Q : Exit → Act → World → Prop) : List Oper → Act → World → Prop
  | [], a, w => Q .normal a w
  | o :: rest, a, w => if Region.wanted o (yielded ops a.tmps) then o.wpIn (FW ro) 0 P a w (gList ro P ops Q rest) Q else gList ro P ops Q rest (a.put o.dst undef) w
theorem gList_in {ro : Option Nat} {P : Program} {ops : Array Oper} {Q : Exit → Act → World → Prop} : ∀ (l : List Oper) (a : Act) (w : World), gList ro P ops Q l a w → wpListIn (FW ro) 0 P ops Q l a w
  | [], _, _, h => h
  | o :: rest, a, w, h => by
    unfold gList at h
    unfold wpListIn
    split
    · rename_i hw; simp only [hw, if_true] at h; exact Oper.wpIn_mono (fun a w k => gList_in rest a w k) h
    · rename_i hw; simp only [hw] at h; exact ⟨fun _ _ => trivial, gList_in rest _ w h⟩
theorem gList_plain {ro : Option Nat} {P : Program} {ops : Array Oper} {Q : Exit → Act → World → Prop} {o : Oper} {rest : List Oper} {a : Act} {w : World} (hg : o.guard = none)
    (h : o.wpIn (FW ro) 0 P a w (gList ro P ops Q rest) Q) : gList ro P ops Q (o :: rest) a w := by
  unfold gList; rw [if_pos (by simp [Region.wanted, hg])]; exact h
section seq
variable {ro : Option Nat} {P : Program} {w0 : World} {n : Nat} {ds : List Deferred} {env : Env} {l : List HP} {ops : Array Oper} {Q : Exit → Act → World → Prop} {o : Oper} {rest : List Oper}
theorem at_region {id : Nat} {m : List Oper} (h : At w0 n ds (gList ro P m.toArray Q m) env l) : At w0 n ds (gwp ro P (Code.region id m.toArray false) Q) env l :=
  fun a w f s => wpIn_region_lit (gList_in _ _ _ (h a w f s))
theorem at_nil (h : At w0 n ds (Q .normal) env l) : At w0 n ds (gList ro P ops Q []) env l := fun a w f s => h a w f s
theorem at_t {Post : Value → List HP → Prop} {d : Nat} (h : OpT P w0 n ds env l o Post) (hg : o.guard = none) (hd : o.dst = some d) (hn : Nat.blt d n = true)
    (k : ∀ v l', Post v l' → At w0 n ds (gList ro P ops Q rest) ((d, v) :: env) l') : At w0 n ds (gList ro P ops Q (o :: rest)) env l :=
  fun a w f s => gList_plain hg (goesV_in ro (goesV_mono (h a w f s) fun v w' ⟨l', hp, s'⟩ => by rw [hd]; exact k v l' hp _ w' (f.put d v hn) s'))
theorem at_t0 {Post : Value → List HP → Prop} (h : OpT P w0 n ds env l o Post) (hg : o.guard = none) (hd : o.dst = none)
    (k : ∀ v l', Post v l' → At w0 n ds (gList ro P ops Q rest) env l') : At w0 n ds (gList ro P ops Q (o :: rest)) env l :=
  fun a w f s => gList_plain hg (goesV_in ro (goesV_mono (h a w f s) fun v w' ⟨l', hp, s'⟩ => by rw [hd]; exact k v l' hp _ w' f s'))
theorem at_v {v : Value} {d : Nat} (h : OpV P w0 n ds env l o v) (hg : o.guard = none) (hd : o.dst = some d) (hn : Nat.blt d n = true)
    (k : At w0 n ds (gList ro P ops Q rest) ((d, v) :: env) l) : At w0 n ds (gList ro P ops Q (o :: rest)) env l :=
  at_t h.T hg hd hn fun _ _ ⟨e1, e2⟩ => by subst e1; subst e2; exact k
end seq
def guardV (ops : Array Oper) (env : Env) (j : Nat) : Option Bool :=
  match ops[j]? with
  | some o => match o.dst with | some d => (match look env d with | some (.bool b) => some b | _ => none) | none => none
  | none => none
theorem guard_yields {n : Nat} {ds : List Deferred} {env : Env} {a : Act} {ops : Array Oper} {j : Nat} {b : Bool} (f : Fr n ds env a) (h : guardV ops env j = some b) : yielded ops a.tmps j = some b := by
  unfold guardV at h
  unfold yielded
  cases ho : ops[j]? with
  | none => rw [ho] at h; cases h
  | some o =>
    rw [ho] at h;simp only at h
    cases hd : o.dst with
    | none => rw [hd] at h; cases h
    | some d =>
      rw [hd] at h;simp only at h
      cases hl : look env d with
      | none => rw [hl] at h; cases h
      | some v =>
        rw [hl] at h
        cases v <;> simp at h
        subst h;simp [hd, f.has _ _ hl]
section seq
variable {ro : Option Nat} {P : Program} {w0 : World} {n : Nat} {ds : List Deferred} {env : Env} {l : List HP} {ops : Array Oper} {Q : Exit → Act → World → Prop} {dst : Option Tmp} {op : Op} {type : TypeId} {pos : String} {after : Array Edge} {j : Nat} {want : Bool} {rest : List Oper}
theorem at_wanted (h : guardV ops env j = some want) (k : At w0 n ds (gList ro P ops Q (⟨dst, op, type, pos, after, none⟩ :: rest)) env l) :
    At w0 n ds (gList ro P ops Q (⟨dst, op, type, pos, after, some (j, want)⟩ :: rest)) env l := fun a w f s => by
  have h1 := k a w f s
  unfold gList at h1 ⊢
  simp only [Region.wanted, guard_yields f h, beq_self_eq_true, if_true] at h1 ⊢;exact h1
theorem at_unwanted {b : Bool} {d : Nat} (h : guardV ops env j = some b) (hb : b = !want) (hd : dst = some d) (hn : Nat.blt d n = true) (k : At w0 n ds (gList ro P ops Q rest) ((d, undef) :: env) l) :
    At w0 n ds (gList ro P ops Q (⟨dst, op, type, pos, after, some (j, want)⟩ :: rest)) env l := fun a w f s => by
  unfold gList
  simp only [Region.wanted, guard_yields f h]
  rw [if_neg (by subst hb; cases want <;> simp)]
  subst hd;exact k _ w (f.put d undef hn) s
end seq
def guardN (ops : Array Oper) (env : Env) (j : Nat) : Bool :=
  match ops[j]? with
  | some o => match o.dst with | some d => (match look env d with | some (.bool _) => false | some _ => true | none => false) | none => false
  | none => false
theorem guardN_yields {n : Nat} {ds : List Deferred} {env : Env} {a : Act} {ops : Array Oper} {j : Nat} (f : Fr n ds env a) (h : guardN ops env j = true) : yielded ops a.tmps j = none := by
  unfold guardN at h
  unfold yielded
  cases ho : ops[j]? with
  | none => rw [ho] at h; cases h
  | some o =>
    rw [ho] at h;simp only at h
    cases hd : o.dst with
    | none => rw [hd] at h; cases h
    | some d =>
      rw [hd] at h;simp only at h
      cases hl : look env d with
      | none => rw [hl] at h; cases h
      | some v =>
        rw [hl] at h;simp only [hd, Option.bind_some, f.has _ _ hl]
        cases v <;> first | rfl | (simp at h; done)
section seq
variable {ro : Option Nat} {P : Program} {w0 : World} {n : Nat} {ds : List Deferred} {env : Env} {l : List HP} {ops : Array Oper} {Q : Exit → Act → World → Prop} {dst : Option Tmp} {op : Op} {type : TypeId} {pos : String} {after : Array Edge} {j : Nat} {want : Bool} {rest : List Oper}
theorem at_unwantedN {d : Nat} (h : guardN ops env j = true) (hd : dst = some d) (hn : Nat.blt d n = true) (k : At w0 n ds (gList ro P ops Q rest) ((d, undef) :: env) l) :
    At w0 n ds (gList ro P ops Q (⟨dst, op, type, pos, after, some (j, want)⟩ :: rest)) env l := fun a w f s => by
  unfold gList
  simp only [Region.wanted, guardN_yields f h];rw [if_neg (by simp)];subst hd;exact k _ w (f.put d undef hn) s
end seq
theorem at_reval {w0 : World} {n : Nat} {ds : List Deferred} {R : Act → World → Prop} {env : Env} {l : List HP} (t : Nat) {v : Value} (u : Value) (h : look env t = some v) (e : v = u)
    (k : At w0 n ds R ((t, u) :: env) l) : At w0 n ds R env l := fun a w f s => by
  subst e;refine k a w ⟨f.size, f.defers, fun x y z => ?_⟩ s;simp only [look] at z
  cases hb : Nat.beq t x with
  | true => rw [hb] at z; simp only [Option.some.injEq] at z; have := Nat.eq_of_beq_eq_true hb; subst this; subst z; exact f.has _ _ h
  | false => rw [hb] at z; exact f.has _ _ z
section values
variable {ro : Option Nat} {P : Program} {w0 : World} {n : Nat} {ds : List Deferred} {env : Env} {l : List HP} {o : Oper}
theorem OpV.sub {l' : List HP} {v : Value} (h : OpV P w0 n ds env l o v) (k : ∀ w, Sat w0 w l' → Sat w0 w l) : OpV P w0 n ds env l' o v := fun a w f s => h a w f (k w s)
theorem u64_wrap (e : Int) : IntKind.u64.wrap e = e % 18446744073709551616 := by
  simp [IntKind.wrap, IntKind.bits, IntKind.signed]
theorem inK_i64 {e : Int} (h0 : -9223372036854775808 ≤ e) (h1 : e ≤ 9223372036854775807) : IntKind.i64.wrap e = e := by
  simp [IntKind.wrap, IntKind.bits, IntKind.signed]; omega
theorem inK_u64 {e : Int} (h0 : 0 ≤ e) (h1 : e ≤ 18446744073709551615) : IntKind.u64.wrap e = e := by
  rw [u64_wrap]; omega
theorem OpV.eq {v u : Value} (h : OpV P w0 n ds env l o v) (e : v = u) : OpV P w0 n ds env l o u := e ▸ h
theorem ov_move {x : Operand} {v : Value} (ho : o.op = .move x) (hx : ev env x = some v) : OpV P w0 n ds env l o v := fun a w f s => by
  unfold execOp; rw [ho]; simp [f.eval hx]
theorem ov_assign {x : Operand} {v : Value} (ho : o.op = .assign x) (hx : ev env x = some v) : OpV P w0 n ds env l o v := fun a w f s => by
  unfold execOp; rw [ho]; simp [f.eval hx]
theorem ov_pick_t {c x y : Operand} {v : Value} (ho : o.op = .pick c x y) (hc : ev env c = some (.bool true)) (hx : ev env x = some v) : OpV P w0 n ds env l o v := fun a w f s => by
  unfold execOp; rw [ho]; simp [f.eval hx, f.eval hc, asBool]
theorem ov_pick_f {c x y : Operand} {v : Value} (ho : o.op = .pick c x y) (hc : ev env c = some (.bool false)) (hy : ev env y = some v) : OpV P w0 n ds env l o v := fun a w f s => by
  unfold execOp; rw [ho]; simp [f.eval hy, f.eval hc, asBool]
def intBin (op : BinOp) (k : IntKind) (a b : Int) : Option Value :=
  match op with
  | .add => some (.int k (k.wrap (a + b)))
  | .sub => some (.int k (k.wrap (a - b)))
  | .mul => some (.int k (k.wrap (a * b)))
  | .eql => some (.bool (decide (a = b)))
  | .neq => some (.bool (!decide (a = b)))
  | .lss => some (.bool (decide (a < b)))
  | .leq => some (.bool (decide (a ≤ b)))
  | .gtr => some (.bool (decide (a > b)))
  | .geq => some (.bool (decide (a ≥ b)))
  | _ => none
theorem ov_int {op : BinOp} {xt yt : TypeId} {x y : Operand} {k : IntKind} {a b : Int} {v : Value} (ho : o.op = .binOp op xt x y yt) (hx : ev env x = some (.int k a)) (hy : ev env y = some (.int k b))
    (hv : intBin op k a b = some v) : OpV P w0 n ds env l o v := fun fr w f s => by
  unfold execOp
  rw [ho];simp only [f.eval hx, f.eval hy, binOp]
  cases op <;> simp [intBin] at hv <;> subst hv <;>
    simp [eqGuard, Op.intArith, Op.intCmp, bne, BEq.beq]
theorem ba_eq (x y : ByteArray) : (x.toList == y.toList) = decide (x = y) := by
  rw [Bool.eq_iff_iff];simp only [beq_iff_eq, decide_eq_true_eq, ByteArray.toList_eq];exact ⟨fun h => WideShapes.bytes_inj h, fun h => by rw [h]⟩
def strBin (op : BinOp) (x y : ByteArray) : Option Value :=
  match op with
  | .eql => some (.bool (decide (x = y)))
  | .neq => some (.bool (!decide (x = y)))
  | .lss => some (.bool (Op.bytesLess x.toList y.toList))
  | _ => none
theorem ov_str {op : BinOp} {xt yt : TypeId} {x y : Operand} {a b : ByteArray} {v : Value} (ho : o.op = .binOp op xt x y yt) (hx : ev env x = some (.string a)) (hy : ev env y = some (.string b))
    (hv : strBin op a b = some v) : OpV P w0 n ds env l o v := fun fr w f s => by
  unfold execOp
  rw [ho];simp only [f.eval hx, f.eval hy, binOp]
  cases op <;> simp [strBin] at hv <;> subst hv <;> simp [eqGuard, Op.stringOp, ba_eq]
theorem run_und {P : Program} {t : TypeId} {d : TypeDesc} (h : P.underlying t = some d) (w : World) : (underlying t).run P w = .ok d w := by simp [underlying, h]
theorem equal_ptr {P : Program} {t e : TypeId} (h : P.underlying t = some (.pointer e)) (p : Option Addr) (w : World) : (Op.equal t (.pointer p) (.pointer none)).run P w = .ok p.isNone w := by
  show (Op.equalIn (9999 + 1) t (.pointer p) (.pointer none)).run P w = _
  rw [Op.equalIn, Sem.run_bind, run_und h]; cases p <;> rfl
theorem ov_conv_int {src dst : TypeId} {x : Operand} {j k : IntKind} {a : Int} (ho : o.op = .convert src dst x) (hs : (P.underlying src).isSome = true) (hd : P.underlying dst = some (.int k)) (hx : ev env x = some (.int j a)) :
    OpV P w0 n ds env l o (.int k (k.wrap a)) := fun fr w f s => by
  unfold execOp
  rw [ho];obtain ⟨d, hs⟩ := Option.isSome_iff_exists.1 hs;simp only [f.eval hx, convert, Sem.run_bind, run_und hs, run_und hd, Result.andThen_ok];simp [Conv.intToInt]
theorem ov_not {t : TypeId} {x : Operand} {b : Bool} (ho : o.op = .unOp .not t x) (hx : ev env x = some (.bool b)) : OpV P w0 n ds env l o (.bool (!b)) := fun fr w f s => by
  unfold execOp; rw [ho]; simp [f.eval hx, Op.unary]
def scEq : Value → Value → Option Bool
  | .int j a, .int k b => match decide (j = k) with | true => some (decide (a = b)) | false => none
  | .string a, .string b => some (decide (a = b))
  | .bool a, .bool b => some (a == b)
  | _, _ => none
def scFits : TypeDesc → Value → Bool
  | .int _, .int _ _ => true
  | .string, .string _ => true
  | .bool, .bool _ => true
  | _, _ => false
def fieldsEq (xs ys : List Value) : List (Nat × TypeDesc) → Option Bool
  | [] => some true
  | [(off, d)] => match nth off xs, nth off ys with
    | some a, some b => match scFits d a with | true => scEq a b | false => none
    | _, _ => none
  | (off, d) :: fs => match nth off xs, nth off ys with
    | some a, some b => match scFits d a with
      | true => (match scEq a b with
        | some r => (match fieldsEq xs ys fs with | some s => some (r && s) | none => none)
        | none => none)
      | false => none
    | _, _ => none
def fieldDescs (P : Program) : List Field → Option (List (Nat × TypeDesc))
  | [] => some []
  | f :: fs => match P.underlying f.type, fieldDescs P fs with
    | some d, some r => some ((f.offset, d) :: r)
    | _, _ => none
def eqOk (P : Program) (t : TypeId) : Bool :=
  !P.stoodInHeld t && !P.eqGuardType P.depth t && (match P.underlying t with | some (.struct fs) => fs.toList.all fun f => f.name != "_" | _ => false)
theorem scEq_run {P : Program} {t : TypeId} {d : TypeDesc} {a b : Value} {r : Bool} {k : Nat} {w : World} (hd : P.underlying t = some d) (hf : scFits d a = true) (h : scEq a b = some r) : (Op.equalIn (k + 1) t a b).run P w = .ok r w := by
  cases a <;> cases b <;> simp [scEq] at h
  case bool.bool x y => cases d <;> simp [scFits] at hf; rw [run_equalIn_bool' w k t x y hd]; simp [← h]
  case int.int j x j' y =>
    cases d <;> simp [scFits] at hf
    split at h
    · rename_i he
      have : j = j' := by simpa using he
      subst this;simp at h;rw [run_equalIn_int w k t j _ x y hd, ← h];simp [BEq.beq]
    · cases h
  case string.string x y => cases d <;> simp [scFits] at hf; rw [run_equalIn_string w k t x y hd, ba_eq]; simp [← h]
theorem part_run {P : Program} {t : TypeId} {d : TypeDesc} {cs : List Value} {off : Nat} {a : Value} {w : World} (hd : P.underlying t = some d) (hf : scFits d a = true) (h : nth off cs = some a) : (part t cs.toArray off).run P w = .ok a w := by
  have hagg : (isAgg t).run P w = .ok false w := by
    unfold isAgg
    cases d <;> simp [scFits] at hf <;> simp [underlying, hd]
  rw [nth_list] at h;simp [part, hagg, h]
theorem scFits_of {d : TypeDesc} {a b : Value} {r : Bool} (hf : scFits d a = true) (h : scEq a b = some r) : scFits d b = true := by
  cases a <;> cases b <;> simp [scEq] at h <;> cases d <;> simp [scFits] at hf ⊢
theorem fieldsEq_run {P : Program} {xs ys : List Value} {w : World} : ∀ {fs : List Field} {ds : List (Nat × TypeDesc)} {r : Bool}, (fs.all fun f => f.name != "_") = true → fieldDescs P fs = some ds → fieldsEq xs ys ds = some r →
    (Op.eqFields 9999 xs.toArray ys.toArray fs).run P w = .ok r w
  | [], ds, r, _, hd, h => by simp [fieldDescs] at hd; subst hd; simp [fieldsEq] at h; subst h; simp [Op.eqFields]
  | f :: fs, ds, r, hn, hd, h => by
    simp only [fieldDescs] at hd
    split at hd
    · rename_i d rs hu hrs
      simp at hd;subst hd;simp only [List.all_cons, Bool.and_eq_true] at hn;have hname : f.name ≠ "_" := by simpa using hn.1
      have step : ∀ {a b : Value} {q s : Bool}, nth f.offset xs = some a → nth f.offset ys = some b → scFits d a = true → scEq a b = some q → (Op.eqFields 9999 xs.toArray ys.toArray fs).run P w = .ok s w →
          (Op.eqFields 9999 xs.toArray ys.toArray (f :: fs)).run P w = .ok (q && s) w := by
        intro a b q s h1 h2 h3 h4 h5;simp only [Op.eqFields, hname, ne_eq, not_false_eq_true, if_true, Sem.run_bind, part_run hu h3 h1, part_run hu (scFits_of h3 h4) h2, Result.andThen_ok, scEq_run (k := 9998) hu h3 h4]
        cases q <;> simp [h5]
      cases rs with
      | nil =>
        have hfs : fs = [] := by
          cases fs with
          | nil => rfl
          | cons g gs => simp only [fieldDescs] at hrs; split at hrs <;> simp at hrs
        subst hfs;simp only [fieldsEq] at h
        split at h
        · rename_i a b h1 h2
          split at h
          · rename_i h3
            have := step h1 h2 h3 h (s := true) (by simp [Op.eqFields])
            simpa using this
          · cases h
        · cases h
      | cons p ps =>
        simp only [fieldsEq] at h
        split at h
        · rename_i a b h1 h2
          split at h
          · rename_i h3
            split at h
            · rename_i q h4
              split at h
              · rename_i s h5
                simp at h;subst h;exact step h1 h2 h3 h4 (fieldsEq_run hn.2 hrs h5)
              · cases h
            · cases h
          · cases h
        · cases h
    · cases hd
theorem eqS_run {P : Program} {t : TypeId} {xs ys : List Value} {ds : List (Nat × TypeDesc)} {r : Bool} {w : World} (hok : eqOk P t = true) (hd : fieldDescs P (P.fieldsOf t).toList = some ds) (h : fieldsEq xs ys ds = some r) :
    (Op.equalIn 10000 t (.agg xs.toArray) (.agg ys.toArray)).run P w = .ok r w := by
  unfold eqOk at hok
  simp only [Bool.and_eq_true, Bool.not_eq_true'] at hok;obtain ⟨⟨h1, h2⟩, h3⟩ := hok
  split at h3
  · rename_i fs hu
    have hf : P.fieldsOf t = fs := by unfold Program.fieldsOf; rw [hu]
    rw [run_equalIn_struct w 9999 t _ _ (by rw [hf]; exact hu) h1];rw [hf] at hd ⊢;exact fieldsEq_run h3 hd h
  · cases h3
theorem ov_eqS {xt yt : TypeId} {x y : Operand} {xs ys : List Value} {ds' : List (Nat × TypeDesc)} {r : Bool} (ho : o.op = .binOp .eql xt x y yt) (hok : eqOk P xt = true) (hd : fieldDescs P (P.fieldsOf xt).toList = some ds') (hx : ev env x = some (.agg xs.toArray)) (hy : ev env y = some (.agg ys.toArray))
    (h : fieldsEq xs ys ds' = some r) : OpV P w0 n ds env l o (.bool r) := fun fr w f s => by
  have hg : P.eqGuardType P.depth xt = false := by unfold eqOk at hok; simp only [Bool.and_eq_true, Bool.not_eq_true'] at hok; exact hok.1.2
  unfold execOp
  rw [ho];simp only [f.eval hx, f.eval hy, Sem.run_bind, run_eqGuard_agg w .eql xt x y _ _ hg, Result.andThen_ok, run_eql_struct, eqS_run hok hd h, Sem.run_pure]
theorem ov_neS {xt yt : TypeId} {x y : Operand} {xs ys : List Value} {ds' : List (Nat × TypeDesc)} {r : Bool} (ho : o.op = .binOp .neq xt x y yt) (hok : eqOk P xt = true) (hd : fieldDescs P (P.fieldsOf xt).toList = some ds') (hx : ev env x = some (.agg xs.toArray)) (hy : ev env y = some (.agg ys.toArray))
    (h : fieldsEq xs ys ds' = some r) : OpV P w0 n ds env l o (.bool (!r)) := fun fr w f s => by
  have hg : P.eqGuardType P.depth xt = false := by unfold eqOk at hok; simp only [Bool.and_eq_true, Bool.not_eq_true'] at hok; exact hok.1.2
  unfold execOp
  rw [ho];simp only [f.eval hx, f.eval hy, Sem.run_bind, run_eqGuard_agg w .neq xt x y _ _ hg, Result.andThen_ok, run_neq_struct, eqS_run hok hd h, Sem.run_pure]
theorem ov_ptr_nil {xt yt e : TypeId} {x y : Operand} {p q : Option Addr} (ho : o.op = .binOp .eql xt x y yt) (ht : P.underlying xt = some (.pointer e)) (hx : ev env x = some (.pointer p)) (hy : ev env y = some (.pointer none)) :
    OpV P w0 n ds env l o (.bool p.isNone) := fun fr w f s => by
  unfold execOp
  rw [ho];simp only [f.eval hx, f.eval hy, binOp]
  cases p <;> simp [eqGuard, equal_ptr ht]
theorem equal_sl {P : Program} {t e : TypeId} (h : P.underlying t = some (.slice e)) (p : Option Addr) (m c m' c' : Nat) (w : World) : (Op.equal t (.slice p m c) (.slice none m' c')).run P w = .ok p.isNone w := by
  show (Op.equalIn (9999 + 1) t (.slice p m c) (.slice none m' c')).run P w = _
  rw [Op.equalIn, Sem.run_bind, run_und h]; cases p <;> rfl
theorem ov_slice_nil {xt yt e : TypeId} {x y : Operand} {p : Option Addr} {m c m' c' : Nat} (ho : o.op = .binOp .eql xt x y yt) (ht : P.underlying xt = some (.slice e)) (hx : ev env x = some (.slice p m c)) (hy : ev env y = some (.slice none m' c')) :
    OpV P w0 n ds env l o (.bool p.isNone) := fun fr w f s => by
  unfold execOp
  rw [ho];simp only [f.eval hx, f.eval hy, binOp];simp [eqGuard, equal_sl ht]
theorem ov_nilCheck {x : Operand} {p : Addr} (ho : o.op = .nilCheck x) (hx : ev env x = some (.pointer (some p))) : OpV P w0 n ds env l o (.pointer (some p)) := fun fr w f s => by
  unfold execOp; rw [ho]; simp [f.eval hx]
theorem add_none (b off k : Nat) : (⟨b, off, none⟩ : Addr).add k = ⟨b, off + k, none⟩ := by unfold Addr.add; split <;> simp_all
def fieldOff (P : Program) (s : TypeId) (i : Nat) : Option Nat :=
  match P.underlying s with
  | some (.struct fs) => (match fs[i]? with | some f => (match P.info? f.type with | some ti => (match Nat.beq ti.size 0 with | true => none | false => some f.offset) | none => none) | none => none)
  | _ => none
theorem ov_fieldAddr {t : TypeId} {x : Operand} {i b off k r : Nat} (ho : o.op = .fieldAddr t x i) (hx : ev env x = some (.pointer (some ⟨b, off, none⟩))) (hf : fieldOff P t i = some k) (hr : off + k = r) :
    OpV P w0 n ds env l o (.pointer (some ⟨b, r, none⟩)) := fun fr w f s => by
  subst hr
  unfold execOp
  rw [ho]
  unfold fieldOff at hf
  split at hf
  · rename_i fs hu
    split at hf
    · rename_i fd hfd
      split at hf
      · rename_i ti hti
        cases hz : Nat.beq ti.size 0 with
        | true => rw [hz] at hf; cases hf
        | false =>
          rw [hz] at hf;simp only [Option.some.injEq] at hf;have hne : ¬ ti.size = 0 := fun e => by rw [e] at hz; cases hz
          subst hf;simp [f.eval hx, Instr.fieldAt, underlying, hu, hfd, Instr.sureAddr, fieldPlace, sizeOf, typeInfo, hti, hne, add_none]
      · cases hf
    · cases hf
  · cases hf
def CellsAt (w : World) (p : Addr) (cs : List Value) : Prop := ∀ j v, cs[j]? = some v → w.cell? (p.add j) = some v
theorem Sat.lds {w : World} {l : List HP} (s : Sat w0 w l) {k b : Nat} {cs : Array Value} {t : TypeId} {fr : Nat × Nat} (hk : nth k l = some (pt b (.cells cs t fr))) {off : Nat} {vs : List Value} (hv : NthAll cs.toList off vs) :
    CellsAt w ⟨b, off, none⟩ vs := fun j v h => by
  rw [add_none]; exact s.ld hk (hv.at_ h)
theorem ov_load {t : TypeId} {x : Operand} {p : Addr} {v : Value} (ho : o.op = .load t x) (hx : ev env x = some (.pointer (some p)))
    (ht : (P.underlying t).map (fun | .struct _ | .array _ _ => false | _ => true) = some true) (hc : ∀ w, Sat w0 w l → w.cell? p = some v) : OpV P w0 n ds env l o v := fun fr w f s => by
  unfold execOp
  rw [ho]
  cases hu : P.underlying t with
  | none => rw [hu] at ht; cases ht
  | some d =>
    rw [hu] at ht
    have hagg : (isAgg t).run P w = .ok false w := by
      unfold isAgg
      cases d <;> simp [underlying, hu] at ht ⊢
    simp [f.eval hx, Instr.loadAt, Instr.sureAddr, loadVar, hagg, hc w s]
theorem ov_loadS {t : TypeId} {x : Operand} {p : Addr} {cs : List Value} (ho : o.op = .load t x) (hx : ev env x = some (.pointer (some p)))
    (ht : (P.underlying t).map (fun | .struct _ | .array _ _ => true | _ => false) = some true) (hsz : (P.info? t).map (·.size) = some cs.length) (hc : ∀ w, Sat w0 w l → CellsAt w p cs) :
    OpV P w0 n ds env l o (.agg cs.toArray) := fun fr w f s => by
  unfold execOp
  rw [ho]
  cases hu : P.underlying t with
  | none => rw [hu] at ht; cases ht
  | some d =>
    rw [hu] at ht
    have hagg : (isAgg t).run P w = .ok true w := by
      unfold isAgg
      cases d <;> simp [underlying, hu] at ht ⊢
    cases hi : P.info? t with
    | none => rw [hi] at hsz; cases hsz
    | some ti =>
      have : ti.size = cs.length := by simpa [hi] using hsz
      simp [f.eval hx, Instr.loadAt, Instr.sureAddr, loadVar, hagg, sizeOf, typeInfo, hi, this, run_loadCells_list (P := P) w p cs (hc w s)]
theorem ov_len_slice {t : TypeId} {x : Operand} {A : Option Addr} {m c : Nat} {e : TypeId} (ho : o.op = .call { callee := .builtin .len, args := #[x], argTypes := #[t] }) (ht : P.underlying t = some (.slice e))
    (hx : ev env x = some (.slice A m c)) : OpV P w0 n ds env l o (.int .i64 m) := fun fr w f s => by
  unfold execOp
  rw [ho];simp [resolve, invoke, builtin, Builtin.len_, underlying, ht, f.eval hx, goInt]
theorem ov_len_string {t : TypeId} {x : Operand} {b : ByteArray} (ho : o.op = .call { callee := .builtin .len, args := #[x], argTypes := #[t] }) (ht : P.underlying t = some .string)
    (hx : ev env x = some (.string b)) : OpV P w0 n ds env l o (.int .i64 b.size) := fun fr w f s => by
  unfold execOp
  rw [ho];simp [resolve, invoke, builtin, Builtin.len_, underlying, ht, f.eval hx, goInt]
theorem ov_indexAddr {t e : TypeId} {x ix : Operand} {p : Addr} {m c size : Nat} {k : IntKind} {i : Int} (ho : o.op = .indexAddr t x ix) (ht : P.underlying t = some (.slice e)) (hs : (P.info? e).map (·.size) = some size)
    (hx : ev env x = some (.slice (some p) m c)) (hi : ev env ix = some (.int k i)) (h0 : 0 ≤ i) (h1 : i < m) : OpV P w0 n ds env l o (.pointer (some (p.add (i.toNat * size)))) := fun fr w f s => by
  unfold execOp
  rw [ho]
  cases hti : P.info? e with
  | none => rw [hti] at hs; cases hs
  | some ti =>
    have : ti.size = size := by simpa [hti] using hs
    simp [Instr.indexAt, f.eval hx, f.eval hi, asIntOf, underlying, ht, h0, h1, sizeOf, typeInfo, hti, this]
theorem ov_extract {x : Operand} {i : Nat} {vs : Array Value} {v : Value} (ho : o.op = .extract x i) (hx : ev env x = some (.tuple vs)) (hv : nth i vs.toList = some v) : OpV P w0 n ds env l o v := fun fr w f s => by
  rw [nth_list, Array.getElem?_toList] at hv
  unfold execOp; rw [ho]; simp [f.eval hx, Instr.extract, hv]
def evs (env : Env) : List Operand → Option (List Value)
  | [] => some []
  | x :: r => match ev env x with | none => none | some v => (match evs env r with | none => none | some vs => some (v :: vs))
theorem Fr.evals {a : Act} (f : Fr n ds env a) : ∀ {xs : List Operand} {vs : List Value}, evs env xs = some vs → xs.map a.eval = vs
  | [], vs, h => by simp [evs] at h; simp [h]
  | x :: r, vs, h => by
    simp only [evs] at h
    split at h
    · cases h
    · rename_i v hv
      split at h
      · cases h
      · rename_i us hus
        simp at h;subst h;simp [f.eval hv, f.evals hus]
theorem ov_makeFunc {fn : Fn} {first captured : List Operand} {xs ys : List Value} (ho : o.op = .makeFunc fn first.toArray captured.toArray) (hx : evs env first = some xs) (hy : evs env captured = some ys) :
    OpV P w0 n ds env l o (.func fn xs.toArray ys.toArray) := fun fr w f s => by
  unfold execOp; rw [ho]; simp [Instr.makeFunc, f.evals hx, f.evals hy]
def spliceL : List Value → Nat → List Value → List Value
  | [], _, _ => []
  | c :: cs, 0, [] => c :: cs
  | _ :: cs, 0, v :: r => v :: spliceL cs 0 r
  | c :: cs, k + 1, r => c :: spliceL cs k r
theorem spliceL_nil (cs : List Value) (off : Nat) : spliceL cs off [] = cs := by
  induction cs generalizing off with
  | nil => rfl
  | cons c cs ih => cases off with
    | zero => rfl
    | succ k => simp [spliceL, ih]
theorem spliceL_cons (cs : List Value) (off : Nat) (v : Value) (r : List Value) : spliceL cs off (v :: r) = spliceL (cs.set off v) (off + 1) r := by
  induction cs generalizing off with
  | nil => rfl
  | cons c cs ih => cases off with
    | zero => simp [spliceL, List.set]
    | succ k => simp only [spliceL, List.set]; rw [ih]
theorem fold_splice : ∀ (vs : List Value) (j off : Nat) (cs : Array Value), ((vs.zipIdx j).foldl (fun cs (p : Value × Nat) => cs.setIfInBounds (off + p.2) p.1) cs) = (spliceL cs.toList (off + j) vs).toArray
  | [], j, off, cs => by simp [spliceL_nil]
  | v :: r, j, off, cs => by
    simp only [List.zipIdx_cons, List.foldl_cons];rw [fold_splice r (j + 1) off, spliceL_cons];simp [Nat.add_assoc]
def fillL (place : Nat → Option (Nat × Nat)) (env : Env) : List (Nat × Operand) → List Value → Option (List Value)
  | [], cs => some cs
  | (i, x) :: r, cs => match place i with
    | none => none
    | some (off, size) => match ev env x with
      | none => none
      | some v => match Nat.beq v.cells.size size && Nat.ble (off + size) cs.length with
        | false => none
        | true => fillL place env r (spliceL cs off v.cells.toList)
theorem spliceL_len (cs : List Value) (off : Nat) (vs : List Value) : (spliceL cs off vs).length = cs.length := by
  induction cs generalizing off vs with
  | nil => rfl
  | cons c cs ih => cases off with
    | zero => cases vs <;> simp [spliceL, ih]
    | succ k => simp [spliceL, ih]
theorem fill_eq {place : Nat → Option (Nat × Nat)} {a : Act} (f : Fr n ds env a) : ∀ {parts : List (Nat × Operand)} {cs res : List Value}, fillL place env parts cs = some res → Instr.fill place cs.toArray (parts.map fun (i, x) => (i, a.eval x)) = some res.toArray
  | [], cs, res, h => by simp [fillL] at h; simp [Instr.fill, h]
  | (i, x) :: r, cs, res, h => by
    simp only [fillL] at h
    split at h
    · cases h
    · rename_i off size hp
      split at h
      · cases h
      · rename_i v hv
        split at h
        · cases h
        · rename_i hb
          simp only [Bool.and_eq_true] at hb;have h1 : v.cells.size = size := Nat.eq_of_beq_eq_true hb.1;have h2 : off + size ≤ cs.length := Nat.le_of_ble_eq_true hb.2;have ih := fill_eq f h;simp only [List.map_cons, Instr.fill, hp, f.eval hv];rw [if_neg (by simp [h1]; omega)];have := fold_splice v.cells.toList 0 off cs.toArray;simp only [Nat.add_zero] at this;rw [← ih, ← this]
          congr 1
          rw [← Array.foldl_toList, Array.toList_zipIdx]
def structPlace (P : Program) (t : TypeId) (i : Nat) : Option (Nat × Nat) :=
  match P.underlying t with
  | some (.struct fs) => (match fs[i]? with | some f => (match P.info? f.type with | some ti => some (f.offset, ti.size) | none => none) | none => none)
  | _ => none
def zeroL (P : Program) (t : TypeId) : Option (List Value) := match P.info? t with | some ti => (match ti.zero with | some z => some z.cells.toList | none => none) | none => none
theorem mapM_places {P : Program} {w : World} : ∀ (l : List Field), (∀ f ∈ l, ∃ ti, P.info? f.type = some ti) → ∃ r : List (Nat × Nat), (l.mapM fun f => do pure (f.offset, ← sizeOf f.type) : Sem (List (Nat × Nat))).run P w = .ok r w ∧ r = l.map fun f => (f.offset, ((P.info? f.type).map (·.size)).getD 0)
  | [], _ => ⟨[], by simp, rfl⟩
  | f :: r, h => by
    obtain ⟨ti, hti⟩ := h f (by simp);obtain ⟨r', h1, h2⟩ := mapM_places r fun g hg => h g (by simp [hg]);refine ⟨_, ?_, rfl⟩;simp only [List.mapM_cons, Sem.run_bind];simp [sizeOf, typeInfo, hti];simp only [sizeOf, typeInfo] at h1;simp at h1;rw [h1]; simp [h2]
def structOk (P : Program) (t : TypeId) : Bool := match P.underlying t with | some (.struct fs) => fs.toList.all fun f => (P.info? f.type).isSome | _ => false
theorem ov_build {t : TypeId} {parts : List (Nat × Operand)} {zs cs : List Value} (ho : o.op = .build t parts.toArray) (hok : structOk P t = true) (hz : zeroL P t = some zs) (hf : fillL (structPlace P t) env parts zs = some cs) :
    OpV P w0 n ds env l o (.agg cs.toArray) := fun a w f s => by
  unfold execOp
  rw [ho]
  unfold structOk at hok
  split at hok
  · rename_i fs hu
    unfold zeroL at hz
    split at hz
    · rename_i ti hti
      split at hz
      · rename_i z hzz
        simp only [Option.some.injEq] at hz;subst hz;have hall : ∀ g ∈ fs.toList, ∃ ti, P.info? g.type = some ti := fun g hg => Option.isSome_iff_exists.1 (List.all_eq_true.1 hok g hg);obtain ⟨r, h1, h2⟩ := mapM_places (P := P) (w := w) fs.toList hall
        have hm : (fs.mapM fun f => do pure (f.offset, ← sizeOf f.type) : Sem (Array (Nat × Nat))).run P w = .ok r.toArray w := by
          rw [Array.mapM_eq_mapM_toList, Sem.run_map, h1]; rfl
        have hpl : (fun i => r.toArray[i]?) = structPlace P t := by
          funext i
          unfold structPlace
          rw [hu];subst h2;simp only [List.getElem?_toArray, List.getElem?_map, Array.getElem?_toList]
          cases hi : fs[i]? with
          | none => simp
          | some g =>
            obtain ⟨ti, hti⟩ := hall g (Array.mem_toList_iff.2 (Array.mem_of_getElem? hi));simp [hti]
        have hfill := fill_eq f hf;rw [← hpl] at hfill;have hmap : (Array.map (fun x => (x.1, a.eval x.2)) parts.toArray).toList = parts.map fun (i, x) => (i, a.eval x) := by simp
        simp only [Instr.build, Sem.run_bind, zeroValue, typeInfo, run_program, Result.andThen_ok, hti, Sem.run_pure, hzz, run_und hu, hm, hmap];simp only [Array.toArray_toList] at hfill
        have hfill' : Instr.fill (fun x => r[x]?) z.cells (parts.map fun x => (x.1, a.eval x.2)) = some cs.toArray := by
          simpa using hfill
        simp [hfill']
      · cases hz
    · cases hz
  · cases hok
theorem ov_any {v : Value} (hsel : (match o.op with | .select _ _ => false | _ => true) = true) (hall : (o.op.operands.toList.all fun x => (ev env x).isSome) = true)
    (hv : ∀ w, (execOp (fun x => (ev env x).getD undef) o).run P w = .ok (.value v) w) : OpV P w0 n ds env l o v := fun a w f s => by
  rw [execOp_congr (ρ' := fun x => (ev env x).getD undef) o (fun cs b e => by rw [e] at hsel; cases hsel) ?_]
  · exact hv w
  · intro x hx;have := List.all_eq_true.1 hall x (Array.mem_toList_iff.2 hx)
    cases he : ev env x with
    | none => rw [he] at this; cases this
    | some u => simp [f.eval he]
end values
section effects
variable {ro : Option Nat} {P : Program} {w0 : World} {n : Nat} {ds : List Deferred} {env : Env} {l : List HP} {o : Oper}
def Fresh (mk : Nat → Value) (o : Obj) (l : List HP) : Value → List HP → Prop := fun v l' => ∃ b, v = mk b ∧ l' = pt b o :: l
abbrev ptrTo (b : Nat) : Value := .pointer (some ⟨b, 0, none⟩)
theorem ot_alloc {t : TypeId} {z : Value} (ho : o.op = .alloc t) (hz : ∀ w, (zeroValue t).run P w = .ok z w) : OpT P w0 n ds env l o (Fresh ptrTo (.cells z.cells t) l) := fun a w f s => by
  unfold Oper.goesV execOp
  rw [ho];simp [Instr.alloc, hz, newVar, newRow];exact ⟨_, ⟨_, rfl, rfl⟩, s.alloc _⟩
theorem ot_allocA {t : TypeId} {cs : Array Value} (ho : o.op = .alloc t) (hz : ∀ w, (zeroValue t).run P w = .ok (.agg cs) w) : OpT P w0 n ds env l o (Fresh ptrTo (.cells cs t) l) := ot_alloc ho hz
theorem ot_box {t : TypeId} {x : Operand} {v : Value} (ho : o.op = .box t x) (hx : ev env x = some v) : OpT P w0 n ds env l o (Fresh ptrTo (.cells v.cells t) l) := fun a w f s => by
  unfold Oper.goesV execOp
  rw [ho];simp [Instr.box, f.eval hx, newVar, newRow];exact ⟨_, ⟨_, rfl, rfl⟩, s.alloc _⟩
theorem ot_box1 {t : TypeId} {x : Operand} {v : Value} (ho : o.op = .box t x) (hx : ev env x = some v) (hc : v.cells = #[v]) : OpT P w0 n ds env l o (Fresh ptrTo (.cells #[v] t) l) := hc ▸ ot_box ho hx
theorem ot_boxA {t : TypeId} {x : Operand} {cs : Array Value} (ho : o.op = .box t x) (hx : ev env x = some (.agg cs)) : OpT P w0 n ds env l o (Fresh ptrTo (.cells cs t) l) := ot_box ho hx
def splice (cs : Array Value) (off : Nat) (vs : List Value) : Array Value := (spliceL cs.toList off vs).toArray
theorem splice_nil (cs : Array Value) (off : Nat) : splice cs off [] = cs := by simp [splice, spliceL_nil]
theorem splice_cons (cs : Array Value) (off : Nat) (v : Value) (r : List Value) : splice cs off (v :: r) = splice (cs.setIfInBounds off v) (off + 1) r := by simp [splice, spliceL_cons]
theorem run_stores {k b : Nat} {t : TypeId} : ∀ (vs : List Value) (i off : Nat) (cs : Array Value) (w : World) (l : List HP), Sat w0 w l → nth k l = some (pt b (.cells cs t (0, 0))) → off + i + vs.length ≤ cs.size →
    (∀ v ∈ vs, v.oneCell' = true) → ∃ w', (storeCells ⟨b, off, none⟩ vs i).run P w = .ok () w' ∧ Sat w0 w' (setAt k (pt b (.cells (splice cs (off + i) vs) t)) l)
  | [], i, off, cs, w, l, s, hk, _, _ => by
    refine ⟨w, by simp [storeCells], ?_⟩;obtain ⟨r, hr, hset⟩ := nth_pull hk;rw [splice_nil];exact (s.perm hr).perm (hset _).symm
  | v :: r, i, off, cs, w, l, s, hk, hsz, h1 => by
    have hc : w.cell? ⟨b, off + i, none⟩ = some (cs[off + i]'(by simp at hsz; omega)) := by rw [s.cell hk]; simp
    have hs := s.setCell hk (off + i) v
    have hk' : nth k (setAt k (pt b (.cells (cs.setIfInBounds (off + i) v) t (0, 0))) l) = some (pt b (.cells (cs.setIfInBounds (off + i) v) t (0, 0))) := by
      clear hs hc hsz s h1
      induction k generalizing l with
      | zero => cases l <;> simp_all [nth, setAt]
      | succ k ih => cases l with
        | nil => simp [nth] at hk
        | cons A l => exact ih l hk
    obtain ⟨w', hw', hs'⟩ := run_stores r (i + 1) off _ _ _ hs hk' (by simp at hsz ⊢; omega) (fun x hx => h1 x (by simp [hx]));refine ⟨w', ?_, ?_⟩
    · simp only [storeCells, Sem.run_bind];rw [run_store _ _ _ _ _ (h1 v (by simp)), add_none, hc];simp only [s.frozen hk, Bool.false_eq_true, if_false, Result.andThen_ok];exact hw'
    · have : setAt k (pt b (.cells (splice (cs.setIfInBounds (off + i) v) (off + (i + 1)) r) t)) (setAt k (pt b (.cells (cs.setIfInBounds (off + i) v) t (0, 0))) l) = setAt k (pt b (.cells (splice cs (off + i) (v :: r)) t)) l := by
        clear hs' hk' hs hc hsz s hk h1 hw'
        induction k generalizing l with
        | zero => cases l <;> simp_all [setAt, splice_cons, Nat.add_assoc]
        | succ k ih => cases l with
          | nil => simp [setAt]
          | cons A l => simp only [setAt]; rw [ih l]
      rw [← this];exact hs'
theorem ot_store {t t' : TypeId} {x y : Operand} {k b off : Nat} {cs : Array Value} {v : Value} (ho : o.op = .store t x y) (hx : ev env x = some (.pointer (some ⟨b, off, none⟩))) (hy : ev env y = some v)
    (hk : nth k l = some (pt b (.cells cs t' (0, 0)))) (hs : (P.info? t).map (·.size) = some v.cells.size) (hsz : Nat.ble (off + v.cells.size) cs.size = true) (h1 : v.cells.toList.all (·.oneCell') = true) :
    OpT P w0 n ds env l o fun u l' => u = undef ∧ l' = setAt k (pt b (.cells (splice cs off v.cells.toList) t')) l := fun a w f s => by
  unfold Oper.goesV execOp
  rw [ho]
  cases hti : P.info? t with
  | none => rw [hti] at hs; cases hs
  | some ti =>
    have hsize : ti.size = v.cells.size := by simpa [hti] using hs
    obtain ⟨w', hw', hs'⟩ := run_stores (P := P) v.cells.toList 0 off cs w l s hk (by simpa using Nat.le_of_ble_eq_true hsz) (fun x hx => List.all_eq_true.1 h1 x hx);simp [f.eval hx, f.eval hy, Instr.storeAt, Instr.sureAddr, storeVar, sizeOf, typeInfo, hti, hsize, hw'];exact hs'
theorem setAt_nth {α : Type _} {k : Nat} {x : α} {l : List α} (h : nth k l = some x) : setAt k x l = l := by
  induction k generalizing l with
  | zero => cases l <;> simp_all [nth, setAt]
  | succ k ih => cases l with
    | nil => simp [nth] at h
    | cons A l => simp only [nth] at h; simp [setAt, ih h]
abbrev sliceOf (m b : Nat) : Value := .slice (some ⟨b, 0, none⟩) m m
def slicePlace (size : Nat) (i : Nat) : Option (Nat × Nat) := some (i * size, size)
def rep (zs : List Value) : Nat → List Value
  | 0 => []
  | k + 1 => zs ++ rep zs k
theorem rep_len (zs : List Value) (k : Nat) : (rep zs k).length = k * zs.length := by
  induction k with
  | zero => simp [rep]
  | succ k ih => simp [rep, ih, Nat.succ_mul, Nat.add_comm]
theorem rep_get {zs : List Value} : ∀ {k j : Nat}, j < k * zs.length → (rep zs k)[j]? = zs[j % zs.length]?
  | 0, j, h => by simp at h
  | k + 1, j, h => by
    simp only [rep]
    rcases Nat.lt_or_ge j zs.length with h1 | h1
    · rw [List.getElem?_append_left h1, Nat.mod_eq_of_lt h1]
    · rw [List.getElem?_append_right h1, rep_get (by rw [Nat.succ_mul] at h; omega)];have : zs.length ≠ 0 := fun e => by rw [e] at h; simp at h
      rw [Nat.mod_eq_sub_mod h1]
theorem rep_eq {zs : List Value} (hz : 0 < zs.length) (k : Nat) : (Array.range (k * zs.length)).map (fun i => zs.toArray[i % zs.toArray.size]!) = (rep zs k).toArray := by
  apply Array.ext'
  apply List.ext_getElem?
  intro j;simp only [Array.toList_map, Array.toList_range, List.getElem?_map, List.getElem?_range']
  rcases Nat.lt_or_ge j (k * zs.length) with h | h
  · rw [rep_get h];have hm : j % zs.length < zs.length := Nat.mod_lt _ hz;simp [h, hm, List.getElem?_range]
  · have hn : (rep zs k)[j]? = none := List.getElem?_eq_none (by rw [rep_len]; exact h);simp [hn, h, List.getElem?_range]
theorem ot_buildSlice {t e : TypeId} {m size : Nat} {parts : List (Nat × Operand)} {zs cs : List Value} (ho : o.op = .buildSlice t m parts.toArray) (hu : P.underlying t = some (.slice e)) (hz : zeroL P e = some zs) (hs : (P.info? e).map (·.size) = some size)
    (hl : Nat.beq zs.length size = true) (hp : Nat.blt 0 size = true) (hb : Nat.ble (m * size) 16777216 = true) (hf : fillL (slicePlace size) env parts (rep zs m) = some cs) :
    OpT P w0 n ds env l o (Fresh (sliceOf m) (.cells cs.toArray e) l) := fun a w f s => by
  unfold Oper.goesV execOp
  rw [ho]
  unfold zeroL at hz
  split at hz
  · rename_i ti hti
    split at hz
    · rename_i z hzz
      simp only [Option.some.injEq] at hz;subst hz;have h1 : ti.size = size := by simpa [hti] using hs
      have h2 := Nat.eq_of_beq_eq_true hl;have h3 : 0 < size := by simpa [Nat.blt_eq] using hp
      have h4 := Nat.le_of_ble_eq_true hb;have hrep := rep_eq (zs := z.cells.toList) (by omega) m;simp only [Array.length_toList, Array.toArray_toList] at hrep h2;have hfill := fill_eq f hf;rw [← hrep] at hfill
      have hfill' : Instr.fill (fun i => some (i * size, size)) (Array.map (fun i => z.cells[i % z.cells.size]!) (Array.range (m * z.cells.size))) (parts.map fun x => (x.1, a.eval x.2)) = some cs.toArray := by
        have hsp : slicePlace size = fun i => some (i * size, size) := rfl;rw [hsp] at hfill
        simpa using hfill
      rw [h2] at hfill'
      have hrun : (Instr.buildSlice t m (parts.toArray.map fun (i, x) => (i, a.eval x))).run P w = .ok (.slice (some ⟨w.heap.size, 0, none⟩) m m) (w.alloc (.cells cs.toArray e)) := by
        simp only [Instr.buildSlice, Sem.run_bind, run_und hu, Result.andThen_ok, sizeOf, typeInfo, run_program, hti, Sem.run_pure, h1, zeroValue, hzz];rw [if_neg (by omega)]
        by_cases h0 : m * size = 0
        · have hm : m = 0 := by rcases Nat.mul_eq_zero.1 h0 with h | h; exact h; omega
          subst hm;have hz0 : ∀ g : Nat → Value, Array.map g (Array.range 0) = #[] := fun g => by simp
          simp only [Nat.zero_mul, hz0] at hfill';simp [hz0, hfill', newRow]
        · simp [h0, typeInfo, hti, hzz, hfill', h2, newRow]
      simp only [Sem.run_bind, hrun, Result.andThen_ok, Sem.run_pure];exact ⟨_, ⟨_, rfl, rfl⟩, s.alloc _⟩
    · cases hz
  · cases hz
theorem ov_min {x y : Operand} {ts : Array TypeId} {k : IntKind} {a b : Int} (ho : o.op = .call { callee := .builtin .min, args := #[x, y], argTypes := ts }) (hx : ev env x = some (.int k a)) (hy : ev env y = some (.int k b)) :
    OpV P w0 n ds env l o (.int k (min a b)) := fun ac w f s => by
  unfold execOp
  rw [ho]
  have : (if b < a then b else a) = min a b := by rw [Int.min_def]; split <;> split <;> omega
  simp [resolve, invoke, builtin, Builtin.min_, Builtin.min2, f.eval hx, f.eval hy, List.foldlM, this]
theorem ov_max {x y : Operand} {ts : Array TypeId} {k : IntKind} {a b : Int} (ho : o.op = .call { callee := .builtin .max, args := #[x, y], argTypes := ts }) (hx : ev env x = some (.int k a)) (hy : ev env y = some (.int k b)) :
    OpV P w0 n ds env l o (.int k (max a b)) := fun ac w f s => by
  unfold execOp
  rw [ho]
  have : (if b > a then b else a) = max a b := by rw [Int.max_def]; split <;> split <;> omega
  simp [resolve, invoke, builtin, Builtin.max_, Builtin.max2, f.eval hx, f.eval hy, List.foldlM, this]
end effects
def Tri (P : Program) (w0 : World) (f : FuncId) (args : List Value) (pre : List HP) (Post : Value → List HP → Prop) : Prop :=
  ∀ (F : List HP) (w : World), Sat w0 w (pre ++ F) → Calls P f args.toArray w fun e w' => ∃ v post, e = .returned v ∧ Post v post ∧ Sat w0 w' (post ++ F)
section calls
variable {ro : Option Nat} {P : Program} {w0 : World} {n : Nat} {ds : List Deferred} {env : Env} {l : List HP} {o : Oper}
theorem Tri.post {f : FuncId} {args : List Value} {pre : List HP} {Post Post' : Value → List HP → Prop} (h : Tri P w0 f args pre Post) (k : ∀ v m, Post v m → Post' v m) : Tri P w0 f args pre Post' :=
  fun F w s => (h F w s).mono fun e w' ⟨v, m, a, b, c⟩ => ⟨v, m, a, k v m b, c⟩
theorem Tri.of_all {f : FuncId} {args : List Value} {pre : List HP} {Post : Value → List HP → Prop} (h : ∀ w, Sat w0 w pre → Tri P w f args [] Post) : Tri P w0 f args pre fun v m => ∃ m', Post v m' ∧ m = m' ++ pre :=
  fun F w s => (h w s.left [] w (by simpa using Sat.start w)).mono fun e w' ⟨v, m, a, b, c⟩ => ⟨v, m ++ pre, a, ⟨m, b, rfl⟩, by
    have := s.joined (m := m) (by simpa using c)
    simpa [List.append_assoc] using this⟩
theorem ot_call {f : FuncId} {ts : Array TypeId} {x : Operand} {xs : List Operand} {args first caps as : List Value} {ks : List Nat} {pre r : List HP} {Post : Value → List HP → Prop}
    (ho : o.op = .call { callee := .value x, args := xs.toArray, argTypes := ts }) (hx : ev env x = some (.func (.func f) first.toArray caps.toArray)) (hargs : evs env xs = some args)
    (hf : ∀ (args : Array Value) (w : World), (callFunc f args).run P w = .ok (.enter f args) w) (has : first ++ args ++ caps = as) (spec : Tri P w0 f as pre Post) (hks : pulls ks l = some (pre, r)) :
    OpT P w0 n ds env l o fun v l' => ∃ m, Post v m ∧ l' = m ++ r := fun a w fr s => by
  subst has
  unfold Oper.goesV execOp
  rw [ho];simp [resolve, fr.eval hx, Deferred.ofValue, invoke, hf, fr.evals hargs];have := spec r w (s.pulls hks);simp at this;refine this.mono ?_;rintro e w' ⟨v, he, m, hp, hs⟩;subst he;exact ⟨_, ⟨m, hp, rfl⟩, hs⟩
end calls
theorem Sat.fin {w0 w : World} {l xs gs r r' : List HP} (s : Sat w0 w l) {ks js : List Nat} (h : SL.pulls ks l = some (xs, r)) (h' : SL.pulls js r = some (gs, r')) : Sat w0 w (xs ++ r') := by
  have s1 := s.pulls h
  have s2 : Sat w0 w ((xs ++ gs) ++ r') := by
    rw [List.append_assoc];exact s1.perm ((pulls_perm h').append_left xs)
  rw [List.append_assoc] at s2;have s3 : Sat w0 w (gs ++ (xs ++ r')) := s2.perm (by rw [← List.append_assoc, ← List.append_assoc]; exact List.perm_append_comm.append_right r');exact s3.right
theorem Sat.finEq {w0 w : World} {l m xs gs r r' : List HP} (s : Sat w0 w l) {ks js : List Nat} (h : SL.pulls ks l = some (xs, r)) (h' : SL.pulls js r = some (gs, r')) (e : m = xs ++ r') : Sat w0 w m := e ▸ s.fin h h'
def memB (t : Nat) : List Nat → Bool
  | [] => false
  | u :: r => match Nat.beq t u with | true => true | false => memB t r
def wo (W : List Nat) : Env → Env
  | [] => []
  | (t, v) :: r => match memB t W with | true => wo W r | false => (t, v) :: wo W r
theorem memB_congr {t u : Nat} (h : Nat.beq t u = true) (W : List Nat) : memB t W = memB u W := by rw [Nat.eq_of_beq_eq_true h]
theorem look_wo {W : List Nat} : ∀ {env : Env} {t : Nat} {v : Value}, look (wo W env) t = some v → look env t = some v
  | [], t, v, h => by simp [wo, look] at h
  | (u, x) :: r, t, v, h => by
    simp only [wo] at h
    cases hm : memB u W with
    | true =>
      rw [hm] at h;simp only [look]
      cases hb : Nat.beq u t with
      | true =>
        have ht : memB t W = true := (memB_congr hb W) ▸ hm
        have hno : ∀ (e : Env), look (wo W e) t = none := by
          intro e
          induction e with
          | nil => rfl
          | cons p e ih =>
            obtain ⟨a, b⟩ := p;simp only [wo]
            cases ha : memB a W with
            | true => exact ih
            | false =>
              simp only [look]
              cases hc : Nat.beq a t with
              | true => rw [memB_congr hc W] at ha; rw [ht] at ha; cases ha
              | false => exact ih
        rw [hno] at h; cases h
      | false => exact look_wo h
    | false =>
      rw [hm] at h;simp only [look] at h ⊢
      cases hb : Nat.beq u t with
      | true => rw [hb] at h; exact h
      | false => rw [hb] at h; exact look_wo h
theorem look_app {e f : Env} {t : Nat} {v : Value} (h : look (e ++ f) t = some v) : look e t = some v ∨ look f t = some v := by
  induction e with
  | nil => exact .inr h
  | cons p e ih =>
    obtain ⟨a, b⟩ := p;simp only [List.cons_append, look] at h ⊢
    cases hc : Nat.beq a t with
    | true => rw [hc] at h; exact .inl h
    | false => rw [hc] at h; exact ih h
theorem Fr.loop {n : Nat} {ds : List Deferred} {env env0 U : Env} {W : List Nat} {a : Act} (f : Fr n ds env a) (hU : subEnv env U) (hw : wo W env = wo W env0) : Fr n ds (U ++ wo W env0) a :=
  ⟨f.size, f.defers, fun t v h => by
    rcases look_app h with h | h
    · exact f.has _ _ (look_sub hU h)
    · rw [← hw] at h; exact f.has _ _ (look_wo h)⟩
def Rnd {ι : Type} (w0 : World) (n : Nat) (ds : List Deferred) (I : ι → Prop) (μ : ι → Nat) (U : ι → Env) (V : ι → List HP → List HP) (W : List Nat) (env0 : Env) (m : List HP) (i : ι) : Act → World → Prop := fun a w => ∃ j, I j ∧ μ j < μ i ∧ Fr n ds (U j ++ wo W env0) a ∧ Sat w0 w (V j m)
theorem at_loopE {ro : Option Nat} {P : Program} {w0 : World} {n : Nat} {ds : List Deferred} {env : Env} {l : List HP} {Q : Exit → Act → World → Prop} {ι : Type} {c : Code} (W : List Nat) (I : ι → Prop) (U : ι → Env) (V : ι → List HP → List HP) (μ : ι → Nat) (i0 : ι)
    (h0 : I i0) (hU : subEnv env (U i0)) (hS : ∀ w, Sat w0 w l → Sat w0 w (V i0 l)) (round : ∀ i, I i → At w0 n ds (gwp ro P c (Exit.then (Rnd w0 n ds I μ U V W env l i) Q)) (U i ++ wo W env) (V i l)) :
    At w0 n ds (gwp ro P (Code.loop c) Q) env l := by
  intro a w f s;exact at_loop (env := U i0 ++ wo W env) (l := V i0 l) I (fun j => U j ++ wo W env) (fun j => V j l) μ i0 h0 (fun _ _ h => h) (fun _ s => s) round a w (f.loop hU rfl) (hS w s)
theorem at_roundF {w0 : World} {n : Nat} {ds : List Deferred} {env env0 : Env} {l m : List HP} {ι : Type} {W : List Nat} {I : ι → Prop} {U : ι → Env} {V : ι → List HP → List HP} {μ : ι → Nat} {i : ι} (j : ι) (hj : I j) (hlt : μ j < μ i) (hU : subEnv env (U j)) (hw : wo W env = wo W env0)
    (hV : ∀ w, Sat w0 w l → Sat w0 w (V j m)) : At w0 n ds (Rnd w0 n ds I μ U V W env0 m i) env l :=
  fun a w f s => ⟨j, hj, hlt, f.loop hU hw, hV w s⟩
def JK {ι : Type} (w0 : World) (n : Nat) (ds : List Deferred) (I : ι → Prop) (U : ι → Env) (V : ι → List HP → List HP) (W : List Nat) (env0 : Env) (m : List HP) : Act → World → Prop := fun a w => ∃ j, I j ∧ Fr n ds (U j ++ wo W env0) a ∧ Sat w0 w (V j m)
theorem at_joinE {ro : Option Nat} {P : Program} {w0 : World} {n : Nat} {ds : List Deferred} {env : Env} {l : List HP} {Q : Exit → Act → World → Prop} {K : Act → World → Prop} {c y : Code} (hK : ∀ ds env l, At w0 n ds (gwp ro P y Q) env l → At w0 n ds K env l) {ι : Type} (W : List Nat) (I : ι → Prop) (U : ι → Env) (V : ι → List HP → List HP)
    (main : At w0 n ds (gwp ro P c (Exit.then (JK w0 n ds I U V W env l) Q)) env l) (tail : ∀ i, I i → At w0 n ds (gwp ro P y Q) (U i ++ wo W env) (V i l)) : At w0 n ds (gwp ro P c (Exit.then K Q)) env l := by
  refine At.mono main ?_;intro a w h;refine wpIn_mono h ?_;intro e a w h
  cases e with
  | normal => obtain ⟨j, hj, f, s⟩ := h; exact hK _ _ _ (tail j hj) a w f s
  | _ => exact h
theorem at_joined {w0 : World} {n : Nat} {ds : List Deferred} {env env0 : Env} {l m : List HP} {ι : Type} {W : List Nat} {I : ι → Prop} {U : ι → Env} {V : ι → List HP → List HP} (j : ι) (hj : I j) (hU : subEnv env (U j)) (hw : wo W env = wo W env0)
    (hV : ∀ w, Sat w0 w l → Sat w0 w (V j m)) : At w0 n ds (JK w0 n ds I U V W env0 m) env l :=
  fun a w f s => ⟨j, hj, f.loop hU hw, hV w s⟩
theorem at_fold {w0 : World} {n : Nat} {ds : List Deferred} {R : Act → World → Prop} {env : Env} {l m r : List HP} {A : HP} (ks : List Nat) (h : pulls ks l = some (m, r)) (p : ∀ h, star m h → A h) (k : At w0 n ds R env (A :: r)) : At w0 n ds R env l :=
  fun a w f s => k a w f ((s.pulls h).shut.imp fun _ ⟨x, y, hx, hy, hd, l1, l2⟩ => ⟨x, y, p _ hx, hy, hd, l1, l2⟩)
def argEnv : Nat → List Value → Env
  | _, [] => []
  | i, v :: r => (i, v) :: argEnv (i + 1) r
theorem look_argEnv {t : Nat} {v : Value} : ∀ (l : List Value) (i : Nat), look (argEnv i l) t = some v → i ≤ t ∧ l[t - i]? = some v
  | [], i, h => by simp [argEnv, look] at h
  | x :: r, i, h => by
    simp only [argEnv, look] at h
    cases hb : Nat.beq i t with
    | true => rw [hb] at h; have := Nat.eq_of_beq_eq_true hb; subst this; simp at h; subst h; simp
    | false =>
      rw [hb] at h;obtain ⟨h1, h2⟩ := look_argEnv r (i + 1) h;refine ⟨by omega, ?_⟩;rw [show t - i = (t - (i + 1)) + 1 by omega]
      simpa using h2
def Post (P : Program) (w0 : World) (fn : Func) (Q : Value → List HP → Prop) (F : List HP) : Exit → Act → World → Prop :=
  bodyPostM (FW none) 0 P fn fun e w' => ∃ v post, e = .returned v ∧ Q v post ∧ Sat w0 w' (post ++ F)
theorem tri_of {P : Program} {w0 : World} {f : FuncId} {fn : Func} {c : Code} {args : List Value} {pre : List HP} {Q : Value → List HP → Prop} (hf : P.funcs[f]? = some fn) (hb : fn.body = some c)
    (hn : Nat.ble args.length fn.ntmps = true) (h : ∀ F, At w0 fn.ntmps [] (gwp none P c (Post P w0 fn Q F)) (argEnv 0 args) (pre ++ F)) : Tri P w0 f args pre Q := by
  intro F w s;refine callsIn_wide.1 (callsIn_of_wp_marks (F := FW none) (n := 0) hf hb trivial (h F _ w ⟨?_, rfl, ?_⟩ s))
  · have := Nat.le_of_ble_eq_true hn
    simp; omega
  · intro t v e;obtain ⟨_, h2⟩ := look_argEnv args 0 e;simp only [Nat.sub_zero] at h2;have hlt : t < args.length := (List.getElem?_eq_some_iff.1 h2).1;rw [Array.getElem?_append_left (by simpa using hlt)]
    simpa using h2
theorem at_done {P : Program} {w0 : World} {n : Nat} {fn : Func} {Q : Value → List HP → Prop} {F : List HP} {env : Env} {l : List HP} {v : Value} {post : List HP}
    (hr : ∀ a w, Fr n [] env a → Sat w0 w l → (results fn a.tmps).run P w = .ok v w) (hQ : Q v post) (hS : ∀ w, Sat w0 w l → Sat w0 w (post ++ F)) : At w0 n [] (Post P w0 fn Q F .ret) env l :=
  fun a w f s => by show LeavesInM _ _ _ _ _ _ a.defers _ _; rw [f.defers]; exact ⟨v, hr a w f s, v, post, rfl, hQ, hS w s⟩
theorem at_fin {P : Program} {w0 : World} {n : Nat} {fn : Func} {Q : Value → List HP → Prop} {F : List HP} {env : Env} {l : List HP} {v : Value}
    (hr : ∀ a w, Fr n [] env a → Sat w0 w l → (results fn a.tmps).run P w = .ok v w) (h : ∃ post, Q v post ∧ ∀ w, Sat w0 w l → Sat w0 w (post ++ F)) : At w0 n [] (Post P w0 fn Q F .ret) env l :=
  let ⟨_, hQ, hS⟩ := h; at_done hr hQ hS
theorem at_end {P : Program} {w0 : World} {n : Nat} {fn : Func} {Q : Value → List HP → Prop} {F : List HP} {env : Env} {l : List HP} {ds : List Deferred} (h : At w0 n ds (Post P w0 fn Q F .ret) env l) : At w0 n ds (Post P w0 fn Q F .normal) env l := h
theorem rs0 {P : Program} {w0 : World} {n : Nat} {fn : Func} {env : Env} {l : List HP} (h : fn.results = #[]) : ∀ a w, Fr n [] env a → Sat w0 w l → (results fn a.tmps).run P w = .ok (.tuple #[]) w := fun a w f s => results_none h _ _ _
def ResV (P : Program) (w0 : World) (l : List HP) (env : Env) : ResultVar → Value → Prop
  | .tmp t, v => look env t = some v
  | .cell t ty, v => ∃ p, look env t = some (.pointer (some p)) ∧ ∀ w, Sat w0 w l → (loadVar ty p).run P w = .ok v w
theorem res_tmp {P : Program} {w0 : World} {l : List HP} {env : Env} {t : Tmp} {v : Value} (h : look env t = some v) : ResV P w0 l env (.tmp t) v := h
theorem res_cellS {P : Program} {w0 : World} {l : List HP} {env : Env} {t : Tmp} {ty T : TypeId} {b k : Nat} {cs : Array Value} {fr : Nat × Nat} {vs : List Value} (h : look env t = some (.pointer (some ⟨b, 0, none⟩)))
    (ht : (P.underlying ty).map (fun | .struct _ | .array _ _ => true | _ => false) = some true) (hsz : (P.info? ty).map (·.size) = some vs.length) (hk : nth k l = some (pt b (.cells cs T fr))) (hv : NthAll cs.toList 0 vs) :
    ResV P w0 l env (.cell t ty) (.agg vs.toArray) := ⟨_, h, fun w s => by
  cases hu : P.underlying ty with
  | none => rw [hu] at ht; cases ht
  | some d =>
    rw [hu] at ht
    have hagg : (isAgg ty).run P w = .ok true w := by
      unfold isAgg
      cases d <;> simp [underlying, hu] at ht ⊢
    cases hi : P.info? ty with
    | none => rw [hi] at hsz; cases hsz
    | some ti =>
      have : ti.size = vs.length := by simpa [hi] using hsz
      simp [loadVar, hagg, sizeOf, typeInfo, hi, this, run_loadCells_list (P := P) w _ vs (s.lds hk hv)]⟩
def ResL (P : Program) (w0 : World) (l : List HP) (env : Env) : List ResultVar → List Value → Prop
  | [], [] => True
  | r :: rs, v :: vs => ResV P w0 l env r v ∧ ResL P w0 l env rs vs
  | _, _ => False
theorem ResL.run {P : Program} {w0 : World} {n : Nat} {l : List HP} {env : Env} {a : Act} {w : World} (f : Fr n [] env a) (s : Sat w0 w l) : ∀ {rs : List ResultVar} {vs : List Value}, ResL P w0 l env rs vs →
    (rs.mapM (fun | .tmp t => pure (a.tmps.getD t undef) | .cell p t => do loadVar t (← asAddr (a.tmps.getD p undef)) : ResultVar → Sem Value)).run P w = .ok vs w
  | [], [], _ => by simp
  | [], _ :: _, h => h.elim
  | _ :: _, [], h => h.elim
  | r :: rs, v :: vs, h => by
    have ih := ResL.run f s h.2;simp only [Array.getD_eq_getD_getElem?] at ih ⊢;simp only [List.mapM_cons, Sem.run_bind]
    cases r with
    | tmp t =>
      have := h.1;simp only [ResV] at this;simp [f.has _ _ this, ih]
    | cell p t =>
      obtain ⟨ad, h1, h2⟩ := h.1;have h3 : (asAddr (a.tmps[p]?.getD undef)).run P w = .ok ad w := by simp [f.has _ _ h1, asAddr]
      simp [h3, h2 w s, ih]
theorem rsL {P : Program} {w0 : World} {n : Nat} {fn : Func} {env : Env} {l : List HP} {rs : List ResultVar} {vs : List Value} (h : fn.results = rs.toArray) (hv : ResL P w0 l env rs vs) (h1 : Nat.beq vs.length 1 = false) :
    ∀ a w, Fr n [] env a → Sat w0 w l → (results fn a.tmps).run P w = .ok (.tuple vs.toArray) w := fun a w f s => by
  have hne : ¬ vs.length = 1 := fun e => by rw [e] at h1; cases h1
  have := ResL.run f s hv;simp only [results, h, Array.mapM_eq_mapM_toList, Sem.run_bind, Sem.run_map]
  erw [this]
  simp [hne]
theorem rsV {P : Program} {w0 : World} {n : Nat} {fn : Func} {env : Env} {l : List HP} {r : ResultVar} {v : Value} (h : fn.results = #[r]) (hv : ResV P w0 l env r v) :
    ∀ a w, Fr n [] env a → Sat w0 w l → (results fn a.tmps).run P w = .ok v w := fun a w f s => by
  have := ResL.run (rs := [r]) (vs := [v]) f s ⟨hv, trivial⟩;simp only [results, h, Array.mapM_eq_mapM_toList, Sem.run_bind, Sem.run_map]
  erw [this]
  simp
open Go Go.RowKit
def opGoes (P : Program) (ops : Array Oper) (i : Nat) (K : Act → World → Prop) (a : Act) (w : World) : Prop :=
  match ops[i]? with
  | none => K a w
  | some o => if Region.wanted o (yielded ops a.tmps) then Oper.goesV P o a w (fun v w' => K (a.put o.dst v) w') else K (a.put o.dst undef) w
theorem opGoes_mono {P : Program} {ops : Array Oper} {i : Nat} {K K' : Act → World → Prop} {a : Act} {w : World} (h : opGoes P ops i K a w) (k : ∀ a w, K a w → K' a w) : opGoes P ops i K' a w := by
  unfold opGoes at *
  split
  · rename_i ho; simp only [ho] at h; exact k _ _ h
  · rename_i o ho
    simp only [ho] at h
    split
    · rename_i hw; simp only [hw, if_true] at h; exact goesV_mono h fun _ _ => k _ _
    · rename_i hw; simp only [hw] at h; exact k _ _ h
theorem opGoes_wp {P : Program} {ops : Array Oper} {i : Nat} {K : Act → World → Prop} {Q : Exit → Act → World → Prop} {a : Act} {w : World} (ro : Option Nat) (h : opGoes P ops i K a w) : wpOpIn (FW ro) 0 P ops Q i K a w := by
  unfold opGoes at h
  unfold wpOpIn
  split
  · rename_i ho; simp only [ho] at h; exact h
  · rename_i o ho
    simp only [ho] at h
    split
    · rename_i hw; simp only [hw, if_true] at h; exact goesV_in ro h
    · rename_i hw; simp only [hw] at h; exact ⟨fun _ _ => trivial, h⟩
def anyC (P : Program) (ops : Array Oper) (C : Array Bool → World → Prop) (Q : Act → World → Prop) : Nat → Array Bool → Act → World → Prop
  | 0, listed, a, w => Region.ready .any ops listed = [] ∧ Q a w
  | fuel + 1, listed, a, w =>
    (Region.ready .any ops listed = [] → Q a w) ∧
    ∀ i ∈ Region.ready .any ops listed, opGoes P ops i (fun a' w' => C (listed.setIfInBounds i true) w' ∧ anyC P ops C Q fuel (listed.setIfInBounds i true) a' w') a w
theorem wpAny_of_anyC (ro : Option Nat) {P : Program} {ops : Array Oper} {C : Array Bool → World → Prop} {Q : Exit → Act → World → Prop} : ∀ (fuel : Nat) (listed : Array Bool) (a : Act) (w : World), anyC P ops C (Q .normal) fuel listed a w → wpAnyIn (FW ro) 0 P .any ops Q fuel listed a w
  | 0, _, _, _, h => h
  | fuel + 1, _, _, _, h => ⟨h.1, fun i hi => opGoes_wp ro (opGoes_mono (h.2 i hi) fun a' w' k => wpAny_of_anyC ro fuel _ a' w' k.2)⟩
def cls (e : Nat) (C1 C2 : World → Prop) (listed : Array Bool) (w : World) : Prop := match listed.getD e false with | true => C2 w | false => C1 w
def YieldsC (P : Program) (ops : Array Oper) (C : World → Prop) (o : Oper) (v : Value) (a : Act) : Prop :=
  (Region.wanted o (yielded ops a.tmps) = true ∧ ∀ w, C w → (execOp a.eval o).run P w = .ok (.value v) w) ∨ (Region.wanted o (yielded ops a.tmps) = false ∧ v = undef)
theorem YieldsC.put {P : Program} {ops : Array Oper} {C : World → Prop} {oi oj : Oper} {v : Value} {a : Act} (h : YieldsC P ops C oi v a) (hap : oi.apart ops oj = true) (hsi : ∀ cs b, oi.op ≠ .select cs b) (u : Value) :
    YieldsC P ops C oi v (a.put oj.dst u) := by
  obtain ⟨_, _, h3⟩ := Oper.apart_spec hap
  unfold YieldsC at *
  rw [execOp_put oi hsi a oj.dst u h3, wanted_put oi a oj.dst u h3];exact h
theorem goes_put {P : Program} {ops : Array Oper} {C : World → Prop} {j : Nat} {oi oj : Oper} {v : Value} (hj : ops[j]? = some oj) (hap : oi.apart ops oj = true)
    (hsi : ∀ cs b, oi.op ≠ .select cs b) (hsj : ∀ cs b, oj.op ≠ .select cs b) {K : Act → World → Prop} {a : Act} {w : World} (hy : YieldsC P ops C oi v a) (h : opGoes P ops j K (a.put oi.dst v) w) :
    opGoes P ops j (fun a' w' => YieldsC P ops C oi v a' ∧ K (a'.put oi.dst v) w') a w := by
  obtain ⟨h1, h2, h3⟩ := Oper.apart_spec hap
  unfold opGoes at *
  simp only [hj] at *;rw [wanted_put oj a oi.dst v h1] at h
  split
  · rename_i hw
    simp only [hw, if_true] at h
    have h' : Oper.goesV P oj a w fun u w' => K ((a.put oi.dst v).put oj.dst u) w' := by
      unfold Oper.goesV at *
      rwa [execOp_put oj hsj a oi.dst v h1] at h
    exact goesV_mono h' fun u w' k => ⟨hy.put hap hsi u, by rw [← Act.put_comm a v u h2]; exact k⟩
  · rename_i hw
    simp only [hw] at h;exact ⟨hy.put hap hsi undef, by rw [← Act.put_comm a v undef h2]; exact h⟩
theorem YieldsC.goes {P : Program} {ops : Array Oper} {C : World → Prop} {i : Nat} {o : Oper} {v : Value} {a : Act} {w : World} (hi : ops[i]? = some o) (hy : YieldsC P ops C o v a) (hw : C w) {K : Act → World → Prop}
    (h : K (a.put o.dst v) w) : opGoes P ops i K a w := by
  unfold opGoes
  simp only [hi]
  rcases hy with ⟨h1, h2⟩ | ⟨h1, rfl⟩
  · simp only [h1, if_true]; unfold Oper.goesV; rw [h2 w hw]; exact h
  · simp only [h1, Bool.false_eq_true, if_false]; exact h
theorem cls_set {e i : Nat} {C1 C2 : World → Prop} {listed : Array Bool} {w : World} (h : i ≠ e) : cls e C1 C2 (listed.setIfInBounds i true) w = cls e C1 C2 listed w := by
  unfold cls; rw [getD_set_ne false h]
theorem anyC_first {P : Program} {ops : Array Oper} {e : Nat} {C1 C2 : World → Prop} {C : World → Prop} {Q : Act → World → Prop} {i : Nat} {oi : Oper} {v : Value} (hi : ops[i]? = some oi) (hsel : ∀ (j : Nat) (o : Oper) cs b, ops[j]? = some o → o.op ≠ .select cs b)
    (hie : i ≠ e) (Inv : Array Bool → Prop) (hInv : ∀ listed j, Inv listed → i ∈ Region.ready .any ops listed → j ∈ Region.ready .any ops listed → j ≠ i → Inv (listed.setIfInBounds j true))
    (hC : ∀ listed w, Inv listed → cls e C1 C2 listed w → C w) :
    ∀ (fuel : Nat) (listed : Array Bool) (a : Act) (w : World), cls e C1 C2 listed w → Inv listed →
      (∀ j oj, ops[j]? = some oj → j ≠ i → listed.getD j true = false → (∀ e ∈ oj.after, Region.binds .any e = true → e.on ≠ i) → oi.apart ops oj = true) →
      i ∈ Region.ready .any ops listed → YieldsC P ops C oi v a →
      anyC P ops (cls e C1 C2) Q fuel (listed.setIfInBounds i true) (a.put oi.dst v) w → anyC P ops (cls e C1 C2) Q (fuel + 1) listed a w := by
  intro fuel
  induction fuel with
  | zero =>
    intro listed a w hw hl hfree hr hy H;refine ⟨fun h => (by rw [h] at hr; cases hr), fun j hj => ?_⟩
    by_cases hji : j = i
    · subst hji;exact hy.goes hi (hC _ _ hl hw) ⟨by rw [cls_set hie]; exact hw, H⟩
    · have := ready_mono hj hji;rw [H.1] at this; cases this
  | succ fuel ih =>
    intro listed a w hw hl hfree hr hy H;refine ⟨fun h => (by rw [h] at hr; cases hr), fun j hj => ?_⟩;obtain ⟨hiun, _⟩ := mem_ready.1 hr
    by_cases hji : j = i
    · subst hji;exact hy.goes hi (hC _ _ hl hw) ⟨by rw [cls_set hie]; exact hw, H⟩
    · obtain ⟨hjun, oj, hoj, hall⟩ := mem_ready.1 hj;have h1 := H.2 j (ready_mono hj hji)
      have hnot : ∀ e ∈ oj.after, Region.binds .any e = true → e.on ≠ i := fun e he hb heq => by
        have h0 := hall e he hb;rw [heq] at h0
        rcases Nat.lt_or_ge i listed.size with h' | h'
        · simp [h'] at h0 hiun; rw [h0] at hiun; cases hiun
        · simp [Array.getElem?_eq_none h'] at h0
      have h2 := goes_put hoj (hfree j oj hoj hji hjun hnot) (fun cs b => hsel i oi cs b hi) (fun cs b => hsel j oj cs b hoj) hy h1
      have hfree' : ∀ k ok, ops[k]? = some ok → k ≠ i → (listed.setIfInBounds j true).getD k true = false →
          (∀ e ∈ ok.after, Region.binds .any e = true → e.on ≠ i) → oi.apart ops ok = true := fun k ok hk hki hun hno => by
        refine hfree k ok hk hki ?_ hno
        by_cases hjk : j = k
        · subst hjk; exact hjun
        · rw [getD_set_ne true hjk] at hun; exact hun
      refine opGoes_mono h2 fun a' w' ⟨h3, h4, h5⟩ => ?_
      have h4' : cls e C1 C2 (listed.setIfInBounds j true) w' := by
        rw [Array.setIfInBounds_comm _ _ (Ne.symm hji), cls_set hie] at h4;exact h4
      refine ⟨h4', ih (listed.setIfInBounds j true) a' w' h4' (hInv listed j hl hr hj hji) hfree' (ready_mono hr (Ne.symm hji)) h3 ?_⟩;rw [Array.setIfInBounds_comm _ _ hji];exact h5
theorem anyC_only {P : Program} {ops : Array Oper} {C : Array Bool → World → Prop} {Q : Act → World → Prop} {i : Nat} {fuel : Nat} {listed : Array Bool} {a : Act} {w : World} (hr : Region.ready .any ops listed = [i])
    (h : opGoes P ops i (fun a' w' => C (listed.setIfInBounds i true) w' ∧ anyC P ops C Q fuel (listed.setIfInBounds i true) a' w') a w) : anyC P ops C Q (fuel + 1) listed a w :=
  ⟨(fun e => by rw [hr] at e; cases e), (fun j hj => by rw [hr] at hj; simp at hj; subst hj; exact h)⟩
def wpPi (P : Program) (ops : Array Oper) (C0 C2 : World → Prop) (Q : Exit → Act → World → Prop) : (C : World → Prop) → List (Nat × Oper) → Act → World → Prop
  | _, [], a, w => Q .normal a w
  | C, (1, o) :: rest, a, w => if Region.wanted o (yielded ops a.tmps) then ∃ v, (∀ w, C w → (execOp a.eval o).run P w = .ok (.value v) w) ∧ wpPi P ops C0 C2 Q C rest (a.put o.dst v) w else wpPi P ops C0 C2 Q C rest (a.put o.dst undef) w
  | C, (2, o) :: rest, a, w => if Region.wanted o (yielded ops a.tmps) then ∃ v, (∀ w, C0 w → (execOp a.eval o).run P w = .ok (.value v) w) ∧ wpPi P ops C0 C2 Q C rest (a.put o.dst v) w else wpPi P ops C0 C2 Q C rest (a.put o.dst undef) w
  | C, (0, o) :: rest, a, w => if Region.wanted o (yielded ops a.tmps) then Oper.goesV P o a w (fun v w' => C w' ∧ wpPi P ops C0 C2 Q C rest (a.put o.dst v) w') else wpPi P ops C0 C2 Q C rest (a.put o.dst undef) w
  | C, (3, o) :: rest, a, w => if Region.wanted o (yielded ops a.tmps) then Oper.goesV P o a w (fun v w' => C2 w' ∧ wpPi P ops C0 C2 Q C2 rest (a.put o.dst v) w') else C2 w ∧ wpPi P ops C0 C2 Q C2 rest (a.put o.dst undef) w
  | _, _ :: _, _, _ => False
def freeB (ops : Array Oper) (i : Nat) (listed : Array Bool) : Bool :=
  (List.range ops.size).all fun j => j == i || listed.getD j true || (match ops[i]?, ops[j]? with | some oi, some oj => (oj.after.any fun e => Region.binds .any e && e.on == i) || oi.apart ops oj | _, _ => false)
def orderOk (ops : Array Oper) (e : Nat) : List (Nat × Nat) → Array Bool → Bool
  | [], listed => (Region.ready .any ops listed).isEmpty
  | (1, i) :: rest, listed => (Region.ready .any ops listed).contains i && freeB ops i listed && i != e &&
      (listed.getD e false || (match ops[e]? with | some oe => oe.after.any fun x => Region.binds .any x && x.on == i | none => true)) && orderOk ops e rest (listed.setIfInBounds i true)
  | (2, i) :: rest, listed => (Region.ready .any ops listed).contains i && freeB ops i listed && i != e && orderOk ops e rest (listed.setIfInBounds i true)
  | (0, i) :: rest, listed => (Region.ready .any ops listed == [i]) && i != e && orderOk ops e rest (listed.setIfInBounds i true)
  | (3, i) :: rest, listed => (Region.ready .any ops listed == [i]) && i == e && orderOk ops e rest (listed.setIfInBounds i true)
  | _ :: _, _ => false
def inOrder (ops : Array Oper) : List (Nat × Nat) → List (Nat × Oper)
  | [] => []
  | (q, i) :: r => match ops[i]? with | some o => (q, o) :: inOrder ops r | none => inOrder ops r
theorem freeB_spec {ops : Array Oper} {i : Nat} {oi : Oper} {listed : Array Bool} (hoi : ops[i]? = some oi) (hf : freeB ops i listed = true) :
    ∀ j oj, ops[j]? = some oj → j ≠ i → listed.getD j true = false → (∀ e ∈ oj.after, Region.binds .any e = true → e.on ≠ i) → oi.apart ops oj = true := by
  intro j oj hj hji hun hno;have := List.all_eq_true.1 hf j (List.mem_range.2 (Array.getElem?_eq_some_iff.1 hj).1);simp only [Bool.or_eq_true, hoi, hj] at this
  rcases this with (h1 | h1) | h1
  · simp at h1; exact absurd h1 hji
  · rw [hun] at h1; cases h1
  · rcases h1 with h1 | h1
    · obtain ⟨e, he, hb⟩ := Array.any_eq_true'.1 h1;simp only [Bool.and_eq_true, beq_iff_eq] at hb;exact absurd hb.2 (hno e he hb.1)
    · exact h1
theorem cls_listed {e : Nat} {C1 C2 : World → Prop} {listed : Array Bool} {w : World} (h : e < listed.size) : cls e C1 C2 (listed.setIfInBounds e true) w = C2 w := by
  unfold cls; simp [h]
theorem anyC_of_pi {P : Program} {ops : Array Oper} {e : Nat} {C1 C2 C0 : World → Prop} {Q : Exit → Act → World → Prop} (hsel : Region.noSelect ops = true) (h10 : ∀ w, C1 w → C0 w) (h20 : ∀ w, C2 w → C0 w) :
    ∀ (p : List (Nat × Nat)) (C : World → Prop) (listed : Array Bool) (a : Act) (w : World), (C = match listed.getD e false with | true => C2 | false => C1) → C w → orderOk ops e p listed = true →
    wpPi P ops C0 C2 Q C (inOrder ops p) a w → anyC P ops (cls e C1 C2) (Q .normal) p.length listed a w
  | [], C, listed, a, w, hc, hw, ho, h => ⟨by simpa [orderOk] using ho, h⟩
  | (1, i) :: rest, C, listed, a, w, hc, hw, ho, h => by
    simp only [orderOk, Bool.and_eq_true] at ho;obtain ⟨⟨⟨⟨hr, hf⟩, hne⟩, hb⟩, ho'⟩ := ho;have hie : i ≠ e := by simpa using hne
    have hr' : i ∈ Region.ready .any ops listed := by simpa using hr
    obtain ⟨_, oi, hoi, _⟩ := mem_ready.1 hr';have hin : inOrder ops ((1, i) :: rest) = (1, oi) :: inOrder ops rest := by simp [inOrder, hoi]
    rw [hin] at h
    have hw' : cls e C1 C2 listed w := by unfold cls; subst hc; revert hw; cases listed.getD e false <;> exact id
    have hc' : C = match (listed.setIfInBounds i true).getD e false with | true => C2 | false => C1 := by rw [getD_set_ne false hie]; exact hc
    have go : ∀ v, YieldsC P ops C oi v a → anyC P ops (cls e C1 C2) (Q .normal) rest.length (listed.setIfInBounds i true) (a.put oi.dst v) w → anyC P ops (cls e C1 C2) (Q .normal) (rest.length + 1) listed a w := by
      intro v hy k;refine anyC_first hoi (Region.noSelect_spec hsel) hie (fun l => l.getD e false = listed.getD e false) ?_ ?_ rest.length listed a w hw' rfl (freeB_spec hoi hf) hr' hy k
      · intro l j hl hil hjl hji
        by_cases hje : j = e
        · subst hje;obtain ⟨hjun, oj, hoj, hall⟩ := mem_ready.1 hjl;obtain ⟨hiun, _⟩ := mem_ready.1 hil
          cases hla : listed.getD j false with
          | true =>
            rw [hla] at hl
            rcases Nat.lt_or_ge j l.size with h' | h'
            · simp [h'] at hl hjun; rw [hl] at hjun; cases hjun
            · simp [Array.getElem?_eq_none h'] at hl
          | false =>
            exfalso
            rw [hla, hoj] at hb;simp only [Bool.false_or] at hb;obtain ⟨x, hx, hbx⟩ := Array.any_eq_true'.1 hb;simp only [Bool.and_eq_true, beq_iff_eq] at hbx;have h0 := hall x hx hbx.1;rw [hbx.2] at h0
            rcases Nat.lt_or_ge i l.size with h' | h'
            · simp [h'] at h0 hiun; rw [h0] at hiun; cases hiun
            · simp [Array.getElem?_eq_none h'] at h0
        · rw [getD_set_ne false hje]; exact hl
      · intro l w1 hl h1
        unfold cls at h1
        rw [hl] at h1;subst hc
        revert h1
        cases listed.getD e false <;> exact id
    simp only [wpPi] at h
    by_cases hwt : Region.wanted oi (yielded ops a.tmps) = true
    · simp only [hwt, if_true] at h;obtain ⟨v, hv, hk⟩ := h;exact go v (.inl ⟨hwt, hv⟩) (anyC_of_pi hsel h10 h20 rest C _ _ w hc' hw ho' hk)
    · simp only [hwt] at h;exact go undef (.inr ⟨by simpa using hwt, rfl⟩) (anyC_of_pi hsel h10 h20 rest C _ _ w hc' hw ho' h)
  | (2, i) :: rest, C, listed, a, w, hc, hw, ho, h => by
    simp only [orderOk, Bool.and_eq_true] at ho;obtain ⟨⟨⟨hr, hf⟩, hne⟩, ho'⟩ := ho;have hie : i ≠ e := by simpa using hne
    have hr' : i ∈ Region.ready .any ops listed := by simpa using hr
    obtain ⟨_, oi, hoi, _⟩ := mem_ready.1 hr';have hin : inOrder ops ((2, i) :: rest) = (2, oi) :: inOrder ops rest := by simp [inOrder, hoi]
    rw [hin] at h
    have hw' : cls e C1 C2 listed w := by unfold cls; subst hc; revert hw; cases listed.getD e false <;> exact id
    have hc' : C = match (listed.setIfInBounds i true).getD e false with | true => C2 | false => C1 := by rw [getD_set_ne false hie]; exact hc
    have go : ∀ v, YieldsC P ops C0 oi v a → anyC P ops (cls e C1 C2) (Q .normal) rest.length (listed.setIfInBounds i true) (a.put oi.dst v) w → anyC P ops (cls e C1 C2) (Q .normal) (rest.length + 1) listed a w := by
      intro v hy k;refine anyC_first hoi (Region.noSelect_spec hsel) hie (fun _ => True) (fun _ _ _ _ _ _ => trivial) ?_ rest.length listed a w hw' trivial (freeB_spec hoi hf) hr' hy k;intro l w1 _ h1
      unfold cls at h1
      revert h1
      cases l.getD e false
      · exact h10 w1
      · exact h20 w1
    simp only [wpPi] at h
    by_cases hwt : Region.wanted oi (yielded ops a.tmps) = true
    · simp only [hwt, if_true] at h;obtain ⟨v, hv, hk⟩ := h;exact go v (.inl ⟨hwt, hv⟩) (anyC_of_pi hsel h10 h20 rest C _ _ w hc' hw ho' hk)
    · simp only [hwt] at h;exact go undef (.inr ⟨by simpa using hwt, rfl⟩) (anyC_of_pi hsel h10 h20 rest C _ _ w hc' hw ho' h)
  | (0, i) :: rest, C, listed, a, w, hc, hw, ho, h => by
    simp only [orderOk, Bool.and_eq_true] at ho;obtain ⟨⟨hr, hne⟩, ho'⟩ := ho;have hie : i ≠ e := by simpa using hne
    have hr1 : Region.ready .any ops listed = [i] := by simpa using hr
    obtain ⟨_, oi, hoi, _⟩ := mem_ready.1 (show i ∈ Region.ready .any ops listed by rw [hr1]; simp);have hin : inOrder ops ((0, i) :: rest) = (0, oi) :: inOrder ops rest := by simp [inOrder, hoi]
    rw [hin] at h;have hc' : C = match (listed.setIfInBounds i true).getD e false with | true => C2 | false => C1 := by rw [getD_set_ne false hie]; exact hc
    have hcls : ∀ w1, C w1 → cls e C1 C2 (listed.setIfInBounds i true) w1 := by
      intro w1 h1; unfold cls; rw [hc'] at h1; revert h1; cases (listed.setIfInBounds i true).getD e false <;> exact id
    refine anyC_only hr1 ?_;simp only [wpPi] at h
    unfold opGoes
    simp only [hoi]
    split
    · rename_i hwt
      simp only [hwt, if_true] at h;exact goesV_mono h fun v w' ⟨k1, k2⟩ => ⟨hcls _ k1, anyC_of_pi hsel h10 h20 rest C _ _ w' hc' k1 ho' k2⟩
    · rename_i hwt
      simp only [hwt] at h;exact ⟨hcls _ hw, anyC_of_pi hsel h10 h20 rest C _ _ w hc' hw ho' h⟩
  | (3, i) :: rest, C, listed, a, w, hc, hw, ho, h => by
    simp only [orderOk, Bool.and_eq_true] at ho;obtain ⟨⟨hr, hne⟩, ho'⟩ := ho;have hie : i = e := by simpa using hne
    subst hie;have hr1 : Region.ready .any ops listed = [i] := by simpa using hr
    obtain ⟨hun, oi, hoi, _⟩ := mem_ready.1 (show i ∈ Region.ready .any ops listed by rw [hr1]; simp);have hin : inOrder ops ((3, i) :: rest) = (3, oi) :: inOrder ops rest := by simp [inOrder, hoi]
    rw [hin] at h
    have hlt : i < listed.size := by
      rcases Nat.lt_or_ge i listed.size with h' | h'
      · exact h'
      · simp [Array.getElem?_eq_none h'] at hun
    have hc' : C2 = match (listed.setIfInBounds i true).getD i false with | true => C2 | false => C1 := by simp [hlt]
    refine anyC_only hr1 ?_;simp only [wpPi] at h
    unfold opGoes
    simp only [hoi]
    split
    · rename_i hwt
      simp only [hwt, if_true] at h;exact goesV_mono h fun v w' ⟨k1, k2⟩ => ⟨by rw [cls_listed hlt]; exact k1, anyC_of_pi hsel h10 h20 rest C2 _ _ w' hc' k1 ho' k2⟩
    · rename_i hwt
      simp only [hwt] at h;exact ⟨by rw [cls_listed hlt]; exact h.1, anyC_of_pi hsel h10 h20 rest C2 _ _ w hc' h.1 ho' h.2⟩
  | (n + 4, i) :: rest, C, listed, a, w, hc, hw, ho, h => by simp [orderOk] at ho
section
variable {ro : Option Nat} {P : Program} {w0 : World} {n : Nat} {ds : List Deferred} {env : Env} {l : List HP} {Q : Exit → Act → World → Prop} {S S2 : List HP}
abbrev pi (P : Program) (ops : Array Oper) (w0 : World) (S2 : List HP) (Q : Exit → Act → World → Prop) (S : List HP) : List (Nat × Oper) → Act → World → Prop :=
  wpPi P ops (fun w => Sat w0 w []) (fun w => Sat w0 w S2) Q (fun w => Sat w0 w S)
theorem Sat.bare {w : World} (h : Sat w0 w l) : Sat w0 w [] := (h.pulls (ks := []) rfl).left
theorem at_draw {id : Nat} {m : List Oper} (S S2 : List HP) (e : Nat) (p : List (Nat × Nat)) (hm : P.follows .mixedOrders = true) (hok : (Region.noSelect m.toArray && Nat.beq p.length m.length && orderOk m.toArray e p (Array.replicate m.length false)) = true)
    (hS : ∀ w, Sat w0 w l → Sat w0 w S) (h : At w0 n ds (pi P m.toArray w0 S2 Q S (inOrder m.toArray p)) env l) : At w0 n ds (gwp ro P (Code.region id m.toArray true) Q) env l := fun a w f s => by
  simp only [Bool.and_eq_true] at hok;obtain ⟨⟨h1, h2⟩, h3⟩ := hok;have hlen : p.length = m.length := Nat.eq_of_beq_eq_true h2;refine wpIn_region_any hm (wpAny_of_anyC ro (C := cls e (fun w => Sat w0 w S) (fun w => Sat w0 w S2)) _ _ _ _ ?_)
  have := anyC_of_pi (P := P) (C1 := fun w => Sat w0 w S) (C2 := fun w => Sat w0 w S2) (C0 := fun w => Sat w0 w []) (e := e) (Q := Q) h1 (fun _ s => s.bare) (fun _ s => s.bare) p _ (Array.replicate m.length false) a { w with drawn := w.drawn + 1 }
    (by have : (Array.replicate m.length false).getD e false = false := by simp [Array.getD, Array.getElem_replicate]
        rw [this]) (hS _ (s.drew _)) h3 (h a _ f (s.drew _))
  rw [hlen] at this
  simpa using this
variable {ops : Array Oper} {o : Oper} {rest : List (Nat × Oper)} {dst : Option Tmp} {op : Op} {type : TypeId} {pos : String} {after : Array Edge} {j : Nat} {want : Bool} {q : Nat}
theorem aq_nil (h : At w0 n ds (Q .normal) env l) : At w0 n ds (pi P ops w0 S2 Q S []) env l := h
theorem aq_v {v : Value} {d : Nat} (h : OpV P w0 n ds env S o v) (hg : o.guard = none) (hd : o.dst = some d) (hn : Nat.blt d n = true)
    (k : At w0 n ds (pi P ops w0 S2 Q S rest) ((d, v) :: env) l) : At w0 n ds (pi P ops w0 S2 Q S ((1, o) :: rest)) env l := fun a w f s => by
  simp only [wpPi, Region.wanted, hg, if_true];exact ⟨v, fun w' hw' => h a w' f hw', by rw [hd]; exact k _ w (f.put d v hn) s⟩
theorem aq_p {v : Value} {d : Nat} (h : OpV P w0 n ds env [] o v) (hg : o.guard = none) (hd : o.dst = some d) (hn : Nat.blt d n = true)
    (k : At w0 n ds (pi P ops w0 S2 Q S rest) ((d, v) :: env) l) : At w0 n ds (pi P ops w0 S2 Q S ((2, o) :: rest)) env l := fun a w f s => by
  simp only [wpPi, Region.wanted, hg, if_true];exact ⟨v, fun w' hw' => h a w' f hw', by rw [hd]; exact k _ w (f.put d v hn) s⟩
theorem aq_t {Post : Value → List HP → Prop} {d : Nat} (h : OpT P w0 n ds env l o Post) (hg : o.guard = none) (hd : o.dst = some d) (hn : Nat.blt d n = true)
    (k : ∀ v l', Post v l' → (∀ w, Sat w0 w l' → Sat w0 w S) ∧ At w0 n ds (pi P ops w0 S2 Q S rest) ((d, v) :: env) l') : At w0 n ds (pi P ops w0 S2 Q S ((0, o) :: rest)) env l := fun a w f s => by
  simp only [wpPi, Region.wanted, hg, if_true];exact goesV_mono (h a w f s) fun v w' ⟨l', hp, s'⟩ => ⟨(k v l' hp).1 w' s', by rw [hd]; exact (k v l' hp).2 _ w' (f.put d v hn) s'⟩
theorem aq_t0 {Post : Value → List HP → Prop} (h : OpT P w0 n ds env l o Post) (hg : o.guard = none) (hd : o.dst = none)
    (k : ∀ v l', Post v l' → (∀ w, Sat w0 w l' → Sat w0 w S) ∧ At w0 n ds (pi P ops w0 S2 Q S rest) env l') : At w0 n ds (pi P ops w0 S2 Q S ((0, o) :: rest)) env l := fun a w f s => by
  simp only [wpPi, Region.wanted, hg, if_true];exact goesV_mono (h a w f s) fun v w' ⟨l', hp, s'⟩ => ⟨(k v l' hp).1 w' s', by rw [hd]; exact (k v l' hp).2 _ w' f s'⟩
theorem aq_b0 {Post : Value → List HP → Prop} (h : OpT P w0 n ds env l o Post) (hg : o.guard = none) (hd : o.dst = none)
    (k : ∀ v l', Post v l' → (∀ w, Sat w0 w l' → Sat w0 w S2) ∧ At w0 n ds (pi P ops w0 S2 Q S2 rest) env l') : At w0 n ds (pi P ops w0 S2 Q S ((3, o) :: rest)) env l := fun a w f s => by
  simp only [wpPi, Region.wanted, hg, if_true];exact goesV_mono (h a w f s) fun v w' ⟨l', hp, s'⟩ => ⟨(k v l' hp).1 w' s', by rw [hd]; exact (k v l' hp).2 _ w' f s'⟩
theorem wpPi_unwanted {C0 C2 C : World → Prop} {a : Act} {w : World} {o : Oper} (h : Region.wanted o (yielded ops a.tmps) = false) (hq : Nat.blt q 3 = true) (k : wpPi P ops C0 C2 Q C rest (a.put o.dst undef) w) : wpPi P ops C0 C2 Q C ((q, o) :: rest) a w := by
  match q, hq with
  | 0, _ => simp only [wpPi, h]; exact k
  | 1, _ => simp only [wpPi, h]; exact k
  | 2, _ => simp only [wpPi, h]; exact k
theorem aq_wanted (h : guardV ops env j = some want) (k : At w0 n ds (pi P ops w0 S2 Q S ((q, ⟨dst, op, type, pos, after, none⟩) :: rest)) env l) :
    At w0 n ds (pi P ops w0 S2 Q S ((q, ⟨dst, op, type, pos, after, some (j, want)⟩) :: rest)) env l := fun a w f s => by
  have h1 := k a w f s
  match q, h1 with
  | 0, h1 => simp only [wpPi, Region.wanted, guard_yields f h, beq_self_eq_true, if_true] at h1 ⊢; exact h1
  | 1, h1 => simp only [wpPi, Region.wanted, guard_yields f h, beq_self_eq_true, if_true] at h1 ⊢; exact h1
  | 2, h1 => simp only [wpPi, Region.wanted, guard_yields f h, beq_self_eq_true, if_true] at h1 ⊢; exact h1
  | 3, h1 => simp only [wpPi, Region.wanted, guard_yields f h, beq_self_eq_true, if_true] at h1 ⊢; exact h1
  | k + 4, h1 => exact h1.elim
theorem aq_unwanted {b : Bool} {d : Nat} (h : guardV ops env j = some b) (hb : b = !want) (hd : dst = some d) (hn : Nat.blt d n = true) (hq : Nat.blt q 3 = true) (k : At w0 n ds (pi P ops w0 S2 Q S rest) ((d, undef) :: env) l) :
    At w0 n ds (pi P ops w0 S2 Q S ((q, ⟨dst, op, type, pos, after, some (j, want)⟩) :: rest)) env l := fun a w f s => by
  subst hd;refine wpPi_unwanted ?_ hq (k _ w (f.put d undef hn) s);subst hb;simp only [Region.wanted, guard_yields f h]
  cases want <;> rfl
theorem aq_unwantedN {d : Nat} (h : guardN ops env j = true) (hd : dst = some d) (hn : Nat.blt d n = true) (hq : Nat.blt q 3 = true) (k : At w0 n ds (pi P ops w0 S2 Q S rest) ((d, undef) :: env) l) :
    At w0 n ds (pi P ops w0 S2 Q S ((q, ⟨dst, op, type, pos, after, some (j, want)⟩) :: rest)) env l := fun a w f s => by
  subst hd;refine wpPi_unwanted ?_ hq (k _ w (f.put d undef hn) s);simp [Region.wanted, guardN_yields f h]
end
open Go Go.RowKit
structure Rd {α : Type} (enc : α → List Value) (w : World) (size : Nat) (A : Option Addr) (xs : List α) : Prop where
  len : ∀ x ∈ xs, (enc x).length = size
  at_ : xs ≠ [] → ∃ ad, A = some ad ∧ ∀ j u, (xs.map enc).flatten[j]? = some u → w.cell? (ad.add j) = some u
def Row {α : Type} (enc : α → List Value) (e : TypeId) (size : Nat) (A : Option Addr) (c : Nat) (xs : List α) : HP := fun h =>
  (∀ x ∈ xs, (enc x).length = size) ∧ ((A = none ∧ c = 0 ∧ xs = []) ∨
    ∃ g off cur, A = some ⟨g, off, none⟩ ∧ h g = some (.cells cur e (0, 0)) ∧ xs.length ≤ c ∧ c ≤ maxLen ∧ off + c * size ≤ cur.size ∧ (cur.toList.drop off).take (xs.length * size) = (xs.map enc).flatten)
theorem flat_len {α : Type} {enc : α → List Value} {size : Nat} : ∀ {xs : List α}, (∀ x ∈ xs, (enc x).length = size) → (xs.map enc).flatten.length = xs.length * size
  | [], _ => by simp
  | x :: r, h => by
    have := flat_len (xs := r) fun y hy => h y (by simp [hy]);simp only [List.map_cons, List.flatten_cons, List.length_append, this, h x (by simp), List.length_cons];rw [Nat.succ_mul, Nat.add_comm]
theorem flat_get {α : Type} {enc : α → List Value} {size : Nat} : ∀ {xs : List α} (h : ∀ x ∈ xs, (enc x).length = size) {i j : Nat} {x : α} {u : Value}, xs[i]? = some x → (enc x)[j]? = some u → (xs.map enc).flatten[i * size + j]? = some u
  | [], _, i, j, x, u, hx, _ => by simp at hx
  | y :: r, h, 0, j, x, u, hx, hu => by
    simp at hx; subst hx;have hlt : j < (enc y).length := (List.getElem?_eq_some_iff.1 hu).1;simp only [List.map_cons, List.flatten_cons, Nat.zero_mul, Nat.zero_add];rw [List.getElem?_append_left hlt]; exact hu
  | y :: r, h, i + 1, j, x, u, hx, hu => by
    have hr := flat_get (xs := r) (fun z hz => h z (by simp [hz])) (i := i) (by simpa using hx) hu;simp only [List.map_cons, List.flatten_cons];rw [List.getElem?_append_right (by rw [h y (by simp), Nat.succ_mul]; omega), h y (by simp)];rw [show (i + 1) * size + j - size = i * size + j by rw [Nat.succ_mul]; omega];exact hr
theorem Rd.cells {α : Type} {enc : α → List Value} {w : World} {size : Nat} {ad : Addr} {xs : List α} (h : Rd enc w size (some ad) xs) {i : Nat} {x : α} (hx : xs[i]? = some x) {j : Nat} {u : Value} (hu : (enc x)[j]? = some u) :
    w.cell? (ad.add (i * size + j)) = some u := by
  obtain ⟨ad', e, hc⟩ := h.at_ (by intro e; subst e; simp at hx);simp only [Option.some.injEq] at e;subst e;exact hc _ _ (flat_get h.len hx hu)
theorem Rd.some_ {α : Type} {enc : α → List Value} {w : World} {size : Nat} {A : Option Addr} {xs : List α} (h : Rd enc w size A xs) {i : Nat} {x : α} (hx : xs[i]? = some x) : ∃ ad, A = some ad := by
  obtain ⟨ad, e, _⟩ := h.at_ (by intro e; subst e; simp at hx);exact ⟨ad, e⟩
theorem Rd.up {α : Type} {enc : α → List Value} {w0 w : World} {size : Nat} {A : Option Addr} {xs : List α} {l : List HP} (h : Rd enc w0 size A xs) (s : Sat w0 w l) : Rd enc w size A xs :=
  ⟨h.len, fun hn => by obtain ⟨ad, e, hc⟩ := h.at_ hn; exact ⟨ad, e, fun j u hu => s.oldCell (hc j u hu)⟩⟩
theorem Rd.nil {α : Type} (enc : α → List Value) (w : World) (size : Nat) (A : Option Addr) : Rd enc w size A [] := ⟨fun x h => by simp at h, fun h => absurd rfl h⟩
theorem Rd.drop {α : Type} {enc : α → List Value} {w : World} {size : Nat} {ad : Addr} {xs : List α} (h : Rd enc w size (some ad) xs) (k : Nat) : Rd enc w size (some (ad.add (k * size))) (xs.drop k) :=
  ⟨fun x hx => h.len x (List.mem_of_mem_drop hx), fun hn => ⟨_, rfl, fun j u hu => by
    have hlt : k < xs.length := by rcases Nat.lt_or_ge k xs.length with h1 | h1; exact h1; exact absurd (List.drop_eq_nil_of_le h1) hn
    obtain ⟨ad', e, hc⟩ := h.at_ (by intro e; subst e; simp at hlt);simp only [Option.some.injEq] at e;subst e
    have hs : (xs.map enc).flatten = ((xs.take k).map enc).flatten ++ ((xs.drop k).map enc).flatten := by
      rw [← List.flatten_append, ← List.map_append, List.take_append_drop]
    have hl : ((xs.take k).map enc).flatten.length = k * size := by
      rw [flat_len (size := size) fun x hx => h.len x (List.mem_of_mem_take hx), List.length_take, Nat.min_eq_left (Nat.le_of_lt hlt)]
    have := hc (k * size + j) u (by rw [hs, List.getElem?_append_right (by omega), hl]; simpa using hu)
    have hadd : ∀ (p : Addr) (x y : Nat), (p.add x).add y = p.add (x + y) := by
      intro p x y
      unfold Addr.add
      by_cases hx : x = 0
      · subst hx; simp
      · by_cases hy : y = 0
        · subst hy; simp [hx]
        · simp [hx, hy]; omega
    rw [hadd]; exact this⟩⟩
theorem Rd.take {α : Type} {enc : α → List Value} {w : World} {size : Nat} {A : Option Addr} {xs : List α} (h : Rd enc w size A xs) (k : Nat) : Rd enc w size A (xs.take k) :=
  ⟨fun x hx => h.len x (List.mem_of_mem_take hx), fun hn => by
    have hne : xs ≠ [] := by intro e; subst e; simp at hn
    obtain ⟨ad, e, hc⟩ := h.at_ hne;refine ⟨ad, e, fun j u hu => hc j u ?_⟩
    have hs : (xs.map enc).flatten = ((xs.take k).map enc).flatten ++ ((xs.drop k).map enc).flatten := by
      rw [← List.flatten_append, ← List.map_append, List.take_append_drop]
    rw [hs, List.getElem?_append_left (List.getElem?_eq_some_iff.1 hu).1];exact hu⟩
theorem Row.mono {α : Type} {enc : α → List Value} {e : TypeId} {size : Nat} {A : Option Addr} {c : Nat} {xs : List α} {h h' : PH} (k : Le h h') (r : Row enc e size A c xs h) : Row enc e size A c xs h' := by
  obtain ⟨a, b⟩ := r;refine ⟨a, ?_⟩
  rcases b with b | ⟨g, off, cur, h1, h2, h3⟩
  · exact .inl b
  · exact .inr ⟨g, off, cur, h1, k _ _ h2, h3⟩
section
variable {P : Program} {w0 : World} {n : Nat} {ds : List Deferred} {env : Env} {l : List HP} {o : Oper}
theorem Sat.atom {w : World} (s : Sat w0 w l) {k : Nat} {A : HP} (hk : nth k l = some A) : ∃ h, A h ∧ ∀ b o, h b = some o → w0.heap.size ≤ b ∧ w.heap[b]? = some o := by
  obtain ⟨r, hr, _⟩ := nth_pull hk;obtain ⟨bel, h, ⟨a, c, hA, _, _, la, _⟩, k⟩ := s.perm hr;exact ⟨a, hA, fun b o e => k b o (la _ _ e)⟩
theorem Sat.rd {w : World} (s : Sat w0 w l) {α : Type} {enc : α → List Value} {k : Nat} {e : TypeId} {size : Nat} {A : Option Addr} {c : Nat} {xs : List α} (hk : nth k l = some (Row enc e size A c xs)) : Rd enc w size A xs := by
  obtain ⟨h, ⟨hl, hr⟩, hw⟩ := s.atom hk;refine ⟨hl, fun hn => ?_⟩
  rcases hr with ⟨_, _, hx⟩ | ⟨g, off, cur, rfl, hg, hle, hc, hsz, ht⟩
  · exact absurd hx hn
  · refine ⟨_, rfl, fun j u hu => ?_⟩;rw [add_none, cell_of_row w g (off + j) cur e (0, 0) (hw g _ hg).2];rw [← ht, List.getElem?_take] at hu
    split at hu
    · simpa using hu
    · cases hu
theorem Sat.rdPt {w : World} (s : Sat w0 w l) {α : Type} {enc : α → List Value} {k b : Nat} {cs : Array Value} {e : TypeId} {fr : Nat × Nat} {size : Nat} {xs : List α} (hk : nth k l = some (pt b (.cells cs e fr)))
    (hcs : cs.toList = (xs.map enc).flatten) (hl : ∀ x ∈ xs, (enc x).length = size) : Rd enc w size (some ⟨b, 0, none⟩) xs :=
  ⟨hl, fun _ => ⟨_, rfl, fun j u hu => by rw [← hcs] at hu; rw [add_none, Nat.zero_add, s.cell hk]; simpa using hu⟩⟩
theorem Sat.rowLen {w : World} (s : Sat w0 w l) {α : Type} {enc : α → List Value} {k : Nat} {e : TypeId} {size : Nat} {A : Option Addr} {c : Nat} {xs : List α} (hk : nth k l = some (Row enc e size A c xs)) : xs.length ≤ c ∧ c ≤ maxLen := by
  obtain ⟨h, ⟨hl, hr⟩, hw⟩ := s.atom hk
  rcases hr with ⟨_, rfl, rfl⟩ | ⟨g, off, cur, rfl, hg, hle, hc, hsz, ht⟩
  · simp
  · exact ⟨hle, hc⟩
theorem at_rowLen {R : Act → World → Prop} {α : Type} {enc : α → List Value} (k : Nat) {e : TypeId} {size : Nat} {A : Option Addr} {c : Nat} {xs : List α} (hk : nth k l = some (Row enc e size A c xs))
    (h : xs.length ≤ c → c ≤ 9223372036854775807 → At w0 n ds R env l) : At w0 n ds R env l := fun a w f s => by
  have := s.rowLen hk;exact h this.1 (by have := this.2; simp only [maxLen] at this; omega) a w f s
theorem Sat.openRow {w : World} {r : List HP} {α : Type} {enc : α → List Value} {e : TypeId} {size : Nat} {A : Option Addr} {c : Nat} {xs : List α} (s : Sat w0 w (Row enc e size A c xs :: r)) :
    (∀ x ∈ xs, (enc x).length = size) ∧ Sat w0 w r ∧ ((A = none ∧ c = 0 ∧ xs = []) ∨
      ∃ g off cur, A = some ⟨g, off, none⟩ ∧ Sat w0 w (pt g (.cells cur e) :: r) ∧ xs.length ≤ c ∧ c ≤ maxLen ∧ off + c * size ≤ cur.size ∧ (cur.toList.drop off).take (xs.length * size) = (xs.map enc).flatten) := by
  have s1 : Sat w0 w r := (show Sat w0 w ([Row enc e size A c xs] ++ r) from s).right;obtain ⟨bel, h, ⟨p, q, ⟨hl, hp⟩, hq, hd, l1, l2⟩, k⟩ := s;refine ⟨hl, s1, ?_⟩
  rcases hp with hp | ⟨g, off, cur, hA, hg, h3⟩
  · exact .inl hp
  · exact .inr ⟨g, off, cur, hA, ⟨bel, h, ⟨p, q, hg, hq, hd, l1, l2⟩, k⟩, h3⟩
theorem Sat.shutRow {w : World} {r : List HP} {α : Type} {enc : α → List Value} {e : TypeId} {size : Nat} {g off : Nat} {cur : Array Value} {c : Nat} {xs : List α} (s : Sat w0 w (pt g (.cells cur e) :: r)) (hl : ∀ x ∈ xs, (enc x).length = size) (h1 : xs.length ≤ c)
    (h2 : c ≤ maxLen) (h3 : off + c * size ≤ cur.size) (h4 : (cur.toList.drop off).take (xs.length * size) = (xs.map enc).flatten) : Sat w0 w (Row enc e size (some ⟨g, off, none⟩) c xs :: r) :=
  s.imp fun _ ⟨p, q, hp, hq, hd, l1, l2⟩ => ⟨p, q, ⟨hl, .inr ⟨g, off, cur, rfl, hp, h1, h2, h3, h4⟩⟩, hq, hd, l1, l2⟩
theorem at_rowNil {R : Act → World → Prop} {α : Type} (enc : α → List Value) (e size : Nat) (h : At w0 n ds R env (Row enc e size none 0 [] :: l)) : At w0 n ds R env l := fun a w f s => by
  refine h a w f (s.imp fun g hg => ?_);exact ⟨fun _ => none, g, ⟨(fun x h => by simp at h), .inl ⟨rfl, rfl, rfl⟩⟩, hg, (fun _ => .inl rfl), (fun _ _ e => by cases e), Le.refl _⟩
theorem at_rowOf {R : Act → World → Prop} {α : Type} (enc : α → List Value) (k : Nat) {b : Nat} {cs : Array Value} {e : TypeId} {size c : Nat} (xs : List α) (hk : nth k l = some (pt b (.cells cs e (0, 0)))) (hl : ∀ x ∈ xs, (enc x).length = size) (hc : xs.length ≤ c)
    (hm : c ≤ maxLen) (hsz : c * size ≤ cs.size) (ht : cs.toList.take (xs.length * size) = (xs.map enc).flatten) (h : At w0 n ds R env (setAt k (Row enc e size (some ⟨b, 0, none⟩) c xs) l)) : At w0 n ds R env l := fun a w f s => by
  obtain ⟨r, hr, hset⟩ := nth_pull hk;refine h a w f (Sat.perm (m := setAt k (Row enc e size (some ⟨b, 0, none⟩) c xs) l) (l := Row enc e size (some ⟨b, 0, none⟩) c xs :: r) ((s.perm hr).imp ?_) (hset _).symm);rintro g ⟨p, q, hp, hq, hd, l1, l2⟩;exact ⟨p, q, ⟨hl, .inr ⟨b, 0, cs, rfl, hp, hc, hm, by omega, by simpa using ht⟩⟩, hq, hd, l1, l2⟩
def elemPtr (A : Option Addr) (j : Nat) : Value := .pointer (A.map (·.add j))
theorem ov_indexRd {α : Type} {enc : α → List Value} {t e : TypeId} {x ix : Operand} {A : Option Addr} {c size : Nat} {k : IntKind} {i : Nat} {y : α} {xs : List α} (hr : ∀ w, Sat w0 w l → Rd enc w size A xs) (ho : o.op = .indexAddr t x ix)
    (ht : P.underlying t = some (.slice e)) (hs : (P.info? e).map (·.size) = some size) (hx : ev env x = some (.slice A xs.length c)) (hi : ev env ix = some (.int k (i : Int))) (h1 : xs[i]? = some y) :
    OpV P w0 n ds env l o (elemPtr A (i * size)) := fun fr w f s => by
  obtain ⟨ad, rfl⟩ := (hr w s).some_ h1;have hlt : i < xs.length := (List.getElem?_eq_some_iff.1 h1).1;have := ov_indexAddr (P := P) (w0 := w0) (n := n) (ds := ds) (l := l) ho ht hs hx hi (by omega) (by omega) fr w f s
  simpa [elemPtr] using this
theorem ov_fieldRd {α : Type} {enc : α → List Value} {t : TypeId} {x : Operand} {A : Option Addr} {i size j k : Nat} {y : α} {xs : List α} {f : Nat} (hr : ∀ w, Sat w0 w l → Rd enc w size A xs) (ho : o.op = .fieldAddr t x f)
    (hx : ev env x = some (elemPtr A (i * size + j))) (h1 : xs[i]? = some y) (hf : fieldOff P t f = some k) : OpV P w0 n ds env l o (elemPtr A (i * size + (j + k))) := fun fr w fm s => by
  obtain ⟨ad, rfl⟩ := (hr w s).some_ h1
  have hadd : ∀ (p : Addr) (x y : Nat), (p.add x).add y = p.add (x + y) := by
    intro p x y
    unfold Addr.add
    by_cases hx : x = 0
    · subst hx; simp
    · by_cases hy : y = 0
      · subst hy; simp [hx]
      · simp [hx, hy]; omega
  unfold execOp
  rw [ho]
  unfold fieldOff at hf
  split at hf
  · rename_i fs hu
    split at hf
    · rename_i fd hfd
      split at hf
      · rename_i ti hti
        cases hz : Nat.beq ti.size 0 with
        | true => rw [hz] at hf; cases hf
        | false =>
          rw [hz] at hf;simp only [Option.some.injEq] at hf;have hne : ¬ ti.size = 0 := fun e => by rw [e] at hz; cases hz
          subst hf;simp [elemPtr] at hx;simp [fm.eval hx, Instr.fieldAt, underlying, hu, hfd, Instr.sureAddr, fieldPlace, sizeOf, typeInfo, hti, hne, hadd, elemPtr, Nat.add_assoc]
      · cases hf
    · cases hf
  · cases hf
theorem ov_fieldRd0 {α : Type} {enc : α → List Value} {t : TypeId} {x : Operand} {A : Option Addr} {i size k : Nat} {y : α} {xs : List α} {f : Nat} (hr : ∀ w, Sat w0 w l → Rd enc w size A xs) (ho : o.op = .fieldAddr t x f)
    (hx : ev env x = some (elemPtr A (i * size))) (h1 : xs[i]? = some y) (hf : fieldOff P t f = some k) : OpV P w0 n ds env l o (elemPtr A (i * size + k)) := by
  have := ov_fieldRd (n := n) (ds := ds) (j := 0) hr ho (by simpa using hx) h1 hf
  simpa using this
theorem ov_loadRd {α : Type} {enc : α → List Value} {t : TypeId} {x : Operand} {A : Option Addr} {i size j : Nat} {y : α} {xs : List α} {v : Value} (hr : ∀ w, Sat w0 w l → Rd enc w size A xs) (ho : o.op = .load t x) (hx : ev env x = some (elemPtr A (i * size + j)))
    (ht : (P.underlying t).map (fun | .struct _ | .array _ _ => false | _ => true) = some true) (h1 : xs[i]? = some y) (hv : nth j (enc y) = some v) : OpV P w0 n ds env l o v := fun fr w f s => by
  obtain ⟨ad, rfl⟩ := (hr w s).some_ h1;exact ov_load (l := l) ho hx ht (fun w' s' => (hr w' s').cells h1 (by rw [← nth_list]; exact hv)) fr w f s
theorem ov_loadRd0 {α : Type} {enc : α → List Value} {t : TypeId} {x : Operand} {A : Option Addr} {i size : Nat} {y : α} {xs : List α} {v : Value} (hr : ∀ w, Sat w0 w l → Rd enc w size A xs) (ho : o.op = .load t x) (hx : ev env x = some (elemPtr A (i * size)))
    (ht : (P.underlying t).map (fun | .struct _ | .array _ _ => false | _ => true) = some true) (h1 : xs[i]? = some y) (hv : nth 0 (enc y) = some v) : OpV P w0 n ds env l o v := ov_loadRd hr ho hx ht h1 hv
theorem ov_loadRdS {α : Type} {enc : α → List Value} {t : TypeId} {x : Operand} {A : Option Addr} {i size : Nat} {y : α} {xs : List α} {vs : List Value} (hr : ∀ w, Sat w0 w l → Rd enc w size A xs) (ho : o.op = .load t x) (hx : ev env x = some (elemPtr A (i * size)))
    (ht : (P.underlying t).map (fun | .struct _ | .array _ _ => true | _ => false) = some true) (h1 : xs[i]? = some y) (hsz : (P.info? t).map (·.size) = some vs.length) (hv : enc y = vs) : OpV P w0 n ds env l o (.agg vs.toArray) := fun fr w f s => by
  subst hv;obtain ⟨ad, rfl⟩ := (hr w s).some_ h1;refine ov_loadS (l := l) ho hx ht hsz (fun w' s' j v hv => ?_) fr w f s
  have hadd : ∀ (p : Addr) (x y : Nat), (p.add x).add y = p.add (x + y) := by
    intro p x y
    unfold Addr.add
    by_cases hx : x = 0
    · subst hx; simp
    · by_cases hy : y = 0
      · subst hy; simp [hx]
      · simp [hx, hy]; omega
  rw [hadd];exact (hr w' s').cells h1 hv
theorem ot_append {α : Type} {enc : α → List Value} {t e : TypeId} {x y : Operand} {ti : TypeInfo} {z : Value} {size bytes k c c' : Nat} {A B : Option Addr} {xs ys : List α} (hr : ∀ w, Sat w0 w l → Rd enc w size B ys)
    (ho : o.op = .call { callee := .builtin .append, args := #[x, y], argTypes := #[t, t] }) (ht : P.underlying t = some (.slice e)) (hi : P.info? e = some ti) (hz : ti.zero = some z) (hsize : ti.size = size) (hby : ti.bytes = bytes)
    (hzs : z.cells.size = size) (hsz : 0 < size) (hk : nth k l = some (Row enc e size A c xs)) (hx : ev env x = some (.slice A xs.length c)) (hy : ev env y = some (.slice B ys.length c'))
    (h1 : ∀ v ∈ ys, ∀ u ∈ enc v, u.oneCell' = true) (hb : (xs.length + ys.length) * bytes ≤ 140737488355328) (hb1 : 0 < bytes) :
    OpT P w0 n ds env l o fun v l' => ∃ A' c', v = .slice A' (xs ++ ys).length c' ∧ l' = setAt k (Row enc e size A' c' (xs ++ ys)) l := fun a w f s => by
  subst hsize;subst hby;have h63 : xs.length + ys.length ≤ 140737488355328 := Nat.le_trans (Nat.le_mul_of_pos_right _ hb1) hb;have hrd := hr w s;have hxl : ∀ v ∈ xs, (enc v).length = ti.size := (s.rd hk).len;have hl : (ys.map enc).flatten.length = ys.length * ti.size := flat_len hrd.len;have hxsl : (xs.map enc).flatten.length = xs.length * ti.size := flat_len hxl;have hall : ∀ v ∈ xs ++ ys, (enc v).length = ti.size := fun v hv => by rcases List.mem_append.1 hv with h | h; exact hxl v h; exact hrd.len v h
  have hone : ∀ u ∈ (ys.map enc).flatten, u.oneCell' = true := fun u hu => by
    obtain ⟨m, hm, hu⟩ := List.mem_flatten.1 hu;obtain ⟨v, hv, rfl⟩ := List.mem_map.1 hm;exact h1 v hv u hu
  have hflat : ((xs ++ ys).map enc).flatten = (xs.map enc).flatten ++ (ys.map enc).flatten := by simp
  have hlen : (xs ++ ys).length = xs.length + ys.length := by simp
  have hop : ∀ v w', (Builtin.append_ #[t, t] o.type #[.slice A xs.length c, .slice B ys.length c']).run P w = .ok v w' → (∃ l', (∃ A' c', v = .slice A' (xs ++ ys).length c' ∧ l' = setAt k (Row enc e ti.size A' c' (xs ++ ys)) l) ∧ Sat w0 w' l') →
      Oper.goesV P o a w fun v w' => ∃ l', (∃ A' c', v = .slice A' (xs ++ ys).length c' ∧ l' = setAt k (Row enc e ti.size A' c' (xs ++ ys)) l) ∧ Sat w0 w' l' := by
    intro v w' hrun hpost
    unfold Oper.goesV execOp
    rw [ho];simp only [resolve, invoke, builtin, Sem.run_bind, Sem.run_pure, Result.andThen_ok, List.map_toArray, List.map_cons, List.map_nil, f.eval hx, f.eval hy, hrun];exact hpost
  obtain ⟨r, hperm, hset⟩ := nth_pull hk;obtain ⟨_, s1, hrow⟩ := (s.perm hperm).openRow
  -- a new array
  have grown : ∀ (old : Nat), old < xs.length + ys.length →
      Sat w0 (w.drew.alloc (.cells ((xs.map enc).flatten.toArray ++ (ys.map enc).flatten.toArray ++ Builtin.zeroCells z.cells (grownCap w (xs.length + ys.length) old e - (xs.length + ys.length))) e))
        (setAt k (Row enc e ti.size (some ⟨w.heap.size, 0, none⟩) (grownCap w (xs.length + ys.length) old e) (xs ++ ys)) l) := by
    intro old hold;have hge := grownCap_ge w (xs.length + ys.length) old e;have hcm : grownCap w (xs.length + ys.length) old e ≤ maxLen := grownCap_le_maxLen w _ old e (by simp only [maxLen]; omega);have s2 : Sat w0 w.drew r := ⟨⟨s1.below.os, s1.below.tape, s1.below.output, s1.below.size, s1.below.block⟩, s1.here⟩;refine Sat.perm (Sat.shutRow (off := 0) (s2.alloc _) hall (by rw [hlen]; exact hge) hcm ?_ ?_) (hset _).symm
    · simp only [Array.size_append, List.size_toArray, size_zeroCells, hzs, hxsl, hl, ← Nat.add_mul, Nat.zero_add];exact Nat.mul_le_mul_right _ (by omega)
    · simp only [Array.toList_append, List.append_assoc, List.drop_zero];rw [← List.append_assoc, hlen, hflat, Nat.add_mul, ← hxsl, ← hl, ← List.length_append];exact List.take_left
  by_cases hys : ys = []
  · -- nothing to append
    subst hys;have hcap : xs.length ≤ c := (s.rowLen hk).1;refine hop (.slice A xs.length c) w ?_ ⟨l, ⟨A, c, by simp, by simpa using (setAt_nth hk).symm⟩, s⟩
    cases A with
    | none =>
      cases B <;> simp [Builtin.append_, run_underlying ht, sizeOf, typeInfo, hi, Builtin.lenOf, hcap, Builtin.firstCells, loadCells, loadCellsFrom]
    | some ad =>
      cases B <;> simp [Builtin.append_, run_underlying ht, sizeOf, typeInfo, hi, Builtin.lenOf, hcap, Builtin.firstCells, loadCells, loadCellsFrom, storeCells]
  · obtain ⟨ad, rfl, hnews⟩ := hrd.at_ hys;have hpos : 0 < ys.length := List.length_pos_iff.2 hys
    rcases hrow with ⟨rfl, rfl, rfl⟩ | ⟨g, off, cur, rfl, sg, hle, hc, hfit, htk⟩
    · have hr' := run_append_nil (P := P) w t o.type e ti z ht hi hz ad ys.length c' (ys.map enc).flatten hl hnews (by omega) (by omega) (by simp only [List.length_nil, Nat.zero_add] at hb; omega);have hgr := grown 0 (by simp; omega);simp only [List.length_nil, Nat.zero_add, List.map_nil, List.flatten_nil, List.nil_append] at hgr hr' ⊢;refine hop _ _ hr' ⟨_, ⟨_, _, rfl, rfl⟩, ?_⟩
      simpa using hgr
    · have hgw : w.heap[g]? = some (.cells cur e) := (sg.blk (k := 0) rfl).1
      by_cases hroom : xs.length + ys.length ≤ c
      · -- it fits
        have hcells : off + xs.length * ti.size + (ys.map enc).flatten.length ≤ cur.size := by
          rw [hl, Nat.add_assoc, ← Nat.add_mul];exact Nat.le_trans (Nat.add_le_add_left (Nat.mul_le_mul_right _ hroom) _) hfit
        have hf := run_firstCells_some (P := P) w ti.size ys.length ad ys.length c' (ys.map enc).flatten hl hnews;have hst := run_storeCells_at P g (off + xs.length * ti.size) e (ys.map enc).flatten 0 cur w hgw (by simpa using hcells) hone;simp only [Nat.add_zero] at hst
        have hrun : (Builtin.append_ #[t, t] o.type #[.slice (some ⟨g, off, none⟩) xs.length c, .slice (some ad) ys.length c']).run P w =
            .ok (.slice (some ⟨g, off, none⟩) (xs.length + ys.length) c) (w.setRow g (cur.toList.take (off + xs.length * ti.size) ++ (ys.map enc).flatten ++ cur.toList.drop (off + xs.length * ti.size + (ys.map enc).flatten.length)).toArray) := by
          simp [Builtin.append_, run_underlying ht, sizeOf, typeInfo, hi, Builtin.lenOf, hroom, hf, add_none, hst]
        refine hop _ _ hrun ⟨_, ⟨_, _, by rw [hlen], rfl⟩, ?_⟩
        have s2 : Sat w0 (w.setRow g (cur.toList.take (off + xs.length * ti.size) ++ (ys.map enc).flatten ++ cur.toList.drop (off + xs.length * ti.size + (ys.map enc).flatten.length)).toArray)
            (pt g (.cells (cur.toList.take (off + xs.length * ti.size) ++ (ys.map enc).flatten ++ cur.toList.drop (off + xs.length * ti.size + (ys.map enc).flatten.length)).toArray e) :: r) :=
          sg.put (k := 0) rfl (setRow_heap w g cur _ e _ hgw) (fun x hx => setRow_other w g x _ hx) (by simp) rfl rfl rfl
        refine Sat.perm (Sat.shutRow s2 hall (by rw [hlen]; exact hroom) hc ?_ ?_) (hset _).symm
        · simp only [List.size_toArray, List.length_append, List.length_take, List.length_drop, Array.length_toList];omega
        · have h0 : off ≤ cur.toList.length := by simp; omega
          have hx1 : off + xs.length * ti.size ≤ cur.toList.length := by simp; omega
          rw [hlen, hflat]
          have e1 : cur.toList.take (off + xs.length * ti.size) = cur.toList.take off ++ (xs.map enc).flatten := by
            rw [List.take_add, htk]
          rw [e1];have e2 : (cur.toList.take off).length = off := by rw [List.length_take]; omega
          simp only [List.append_assoc];rw [List.drop_append_of_le_length (by omega), List.drop_eq_nil_of_le (by omega), List.nil_append, ← List.append_assoc, Nat.add_mul, ← hxsl, ← hl, ← List.length_append];exact List.take_left
      · -- it doesn't fit
        have hxs : ∀ j u, (xs.map enc).flatten[j]? = some u → w.cell? ((⟨g, off, none⟩ : Addr).add j) = some u := by
          intro j u hu;have hne : xs ≠ [] := by intro e; subst e; simp at hu
          obtain ⟨ad', e, hcc⟩ := (s.rd hk).at_ hne;simp only [Option.some.injEq] at e;subst e;exact hcc j u hu
        have hr' := run_append_grow (P := P) w t o.type e ti z ht hi hz ⟨g, off, none⟩ xs.length c (xs.map enc).flatten hxsl hxs ad ys.length c' (ys.map enc).flatten hl hnews (by omega) (by omega) (growslice_fits (by omega) hb);refine hop _ _ hr' ⟨_, ⟨_, _, by rw [hlen], rfl⟩, ?_⟩;exact grown c (by omega)
def dropA (A : Option Addr) (c lo size : Nat) : Option Addr := if c = lo then A else A.map (·.add (lo * size))
theorem Rd.dropA {α : Type} {enc : α → List Value} {w : World} {size c : Nat} {A : Option Addr} {xs : List α} (h : Rd enc w size A xs) (hc : xs.length ≤ c) (k : Nat) : Rd enc w size (dropA A c k size) (xs.drop k) := by
  unfold SL.dropA
  split
  · rename_i e
    subst e;rw [List.drop_eq_nil_of_le hc];exact Rd.nil _ _ _ _
  · cases A with
    | none =>
      have : xs = [] := by
        rcases Classical.em (xs = []) with e | e
        · exact e
        · obtain ⟨ad, e2, _⟩ := h.at_ e; cases e2
      subst this
      simpa using Rd.nil enc w size _
    | some ad => exact h.drop k
theorem Row.drop {α : Type} {enc : α → List Value} {e : TypeId} {size : Nat} {A : Option Addr} {c : Nat} {xs : List α} {h : PH} (r : Row enc e size A c xs h) (k : Nat) (hk : k ≤ xs.length) : Row enc e size (dropA A c k size) (c - k) (xs.drop k) h := by
  obtain ⟨hl, hr⟩ := r;refine ⟨fun x hx => hl x (List.mem_of_mem_drop hx), ?_⟩
  rcases hr with ⟨rfl, rfl, rfl⟩ | ⟨g, off, cur, rfl, hg, h1, h2, h3, h4⟩
  · exact .inl ⟨by simp [dropA], by simp, by simp⟩
  · have h5 : ((cur.toList.drop (off + k * size)).take ((xs.drop k).length * size)) = ((xs.drop k).map enc).flatten := by
      have hs : (xs.map enc).flatten = ((xs.take k).map enc).flatten ++ ((xs.drop k).map enc).flatten := by
        rw [← List.flatten_append, ← List.map_append, List.take_append_drop]
      have hl2 : ((xs.take k).map enc).flatten.length = k * size := by
        rw [flat_len (size := size) fun x hx => hl x (List.mem_of_mem_take hx), List.length_take, Nat.min_eq_left hk]
      have e1 : ((xs.drop k).map enc).flatten = ((xs.map enc).flatten).drop (k * size) := by
        rw [hs, ← hl2, List.drop_left]
      rw [e1, ← h4, List.drop_take, List.drop_drop, List.length_drop, Nat.sub_mul]
    by_cases hc : c = k
    · subst hc;have hz : xs.drop c = [] := List.drop_eq_nil_of_le (by omega);refine .inr ⟨g, off, cur, by simp [dropA], hg, by rw [hz]; simp, by omega, by simp; omega, by rw [hz]; simp⟩
    · refine .inr ⟨g, off + k * size, cur, by simp [dropA, hc, add_none], hg, by rw [List.length_drop]; omega, by omega, ?_, h5⟩;rw [Nat.sub_mul, Nat.add_assoc];have : k * size ≤ c * size := Nat.mul_le_mul_right _ (by omega);omega
theorem ov_sliceFrom {α : Type} {t e : TypeId} {x lo : Operand} {A : Option Addr} {c size k : Nat} {ik : IntKind} {xs : List α} (ho : o.op = .slice t x (some lo) none none) (ht : P.underlying t = some (.slice e)) (hs : (P.info? e).map (·.size) = some size)
    (hx : ev env x = some (.slice A xs.length c)) (hl : ev env lo = some (.int ik (k : Int))) (hk : k ≤ xs.length) (hc : xs.length ≤ c) : OpV P w0 n ds env l o (.slice (dropA A c k size) (xs.drop k).length (c - k)) := fun fr w f s => by
  unfold execOp
  rw [ho]
  cases hti : P.info? e with
  | none => rw [hti] at hs; cases hs
  | some ti =>
    have : ti.size = size := by simpa [hti] using hs
    have hkx : (k : Int) ≤ (xs.length : Int) := by omega
    simp [Instr.sliceAt, run_und ht, Instr.slice, Instr.sliceBounds, Instr.sliceBound, f.eval hx, f.eval hl, asIntOf, hkx, sizeOf, typeInfo, hti, this, dropA];intro h; omega
theorem spliceL_drop (off : Nat) : ∀ (vs : List Value) (L : List Value) (p : Nat), (spliceL L (off + p) vs).drop off = spliceL (L.drop off) p vs
  | [], L, p => by simp [spliceL_nil]
  | v :: r, L, p => by
    rw [spliceL_cons, spliceL_cons, Nat.add_assoc, spliceL_drop off r (L.set (off + p) v) (p + 1), List.drop_set];rw [if_neg (by omega), Nat.add_sub_cancel_left]
theorem spliceL_take (m : Nat) : ∀ (vs : List Value) (L : List Value) (p : Nat), (spliceL L p vs).take m = spliceL (L.take m) p vs
  | [], L, p => by simp [spliceL_nil]
  | v :: r, L, p => by
    rw [spliceL_cons, spliceL_cons, spliceL_take m r (L.set p v) (p + 1), List.take_set]
theorem flat_set {size : Nat} : ∀ {ls : List (List Value)} (h : ∀ x ∈ ls, x.length = size) {i j : Nat} {x : List Value} (v : Value), ls[i]? = some x → j < size → ls.flatten.set (i * size + j) v = (ls.set i (x.set j v)).flatten
  | [], _, i, j, x, v, hx, _ => by simp at hx
  | y :: r, h, 0, j, x, v, hx, hj => by
    simp at hx; subst hx;simp only [List.flatten_cons, Nat.zero_mul, Nat.zero_add, List.set_cons_zero];rw [List.set_append_left _ _ (by rw [h y (by simp)]; exact hj)]
  | y :: r, h, i + 1, j, x, v, hx, hj => by
    have ih := flat_set (ls := r) (fun z hz => h z (by simp [hz])) (i := i) v (by simpa using hx) hj;simp only [List.flatten_cons, List.set_cons_succ];rw [List.set_append_right _ _ (by rw [h y (by simp), Nat.succ_mul]; omega), h y (by simp), show (i + 1) * size + j - size = i * size + j by rw [Nat.succ_mul]; omega, ih]
theorem flat_splice {size : Nat} : ∀ (vs : List Value) {ls : List (List Value)} (h : ∀ x ∈ ls, x.length = size) {i j : Nat} {x : List Value}, ls[i]? = some x → j + vs.length ≤ size → spliceL ls.flatten (i * size + j) vs = (ls.set i (spliceL x j vs)).flatten
  | [], ls, h, i, j, x, hx, _ => by
    rw [spliceL_nil, spliceL_nil]
    congr 1
    refine List.ext_getElem? fun q => ?_;rw [List.getElem?_set]
    split
    · subst_vars; split
      · exact hx
      · exact List.getElem?_eq_none (by omega)
    · rfl
  | v :: r, ls, h, i, j, x, hx, hj => by
    simp only [List.length_cons] at hj;have hlt : i < ls.length := (List.getElem?_eq_some_iff.1 hx).1;rw [spliceL_cons, spliceL_cons, flat_set h v hx (by omega), Nat.add_assoc];rw [flat_splice r (ls := ls.set i (x.set j v)) ?_ (x := x.set j v) (by simp [hlt]) (by omega), List.set_set];intro z hz
    rcases List.mem_or_eq_of_mem_set hz with hz | rfl
    · exact h z hz
    · rw [List.length_set]; exact h x (List.mem_of_getElem? hx)
theorem ot_storeRow {α : Type} {enc : α → List Value} {t e : TypeId} {x y : Operand} {k i j size c : Nat} {A : Option Addr} {xs : List α} {u u' : α} {v : Value} (ho : o.op = .store t x y) (hk : nth k l = some (Row enc e size A c xs)) (hx : ev env x = some (elemPtr A (i * size + j))) (hy : ev env y = some v)
    (h1 : xs[i]? = some u) (hs : (P.info? t).map (·.size) = some v.cells.size) (hj : j + v.cells.size ≤ size) (henc : enc u' = spliceL (enc u) j v.cells.toList) (h1c : v.cells.toList.all (·.oneCell') = true) :
    OpT P w0 n ds env l o fun w l' => w = undef ∧ l' = setAt k (Row enc e size A c (xs.set i u')) l := fun a w f s => by
  obtain ⟨r, hperm, hset⟩ := nth_pull hk;obtain ⟨hl, s1, hrow⟩ := (s.perm hperm).openRow;have hil : i < xs.length := (List.getElem?_eq_some_iff.1 h1).1
  rcases hrow with ⟨rfl, rfl, rfl⟩ | ⟨g, off, cur, rfl, sg, hle, hc, hfit, htk⟩
  · simp at h1
  · have hbig : i * size + j + v.cells.size ≤ xs.length * size := by
      have : (i + 1) * size ≤ xs.length * size := Nat.mul_le_mul_right _ hil;rw [Nat.succ_mul] at this;omega
    have hbig2 : xs.length * size ≤ c * size := Nat.mul_le_mul_right _ hle
    unfold Oper.goesV execOp
    rw [ho]
    cases hti : P.info? t with
    | none => rw [hti] at hs; cases hs
    | some ti =>
      have hsize : ti.size = v.cells.size := by simpa [hti] using hs
      obtain ⟨w', hw', hs'⟩ := run_stores (P := P) v.cells.toList 0 (off + (i * size + j)) cur w _ sg (k := 0) rfl (by simp; omega) (fun x hx => List.all_eq_true.1 h1c x hx);have hx' : ev env x = some (.pointer (some ⟨g, off + (i * size + j), none⟩)) := by rw [hx]; simp [elemPtr, add_none]
      simp [f.eval hx', f.eval hy, Instr.storeAt, Instr.sureAddr, storeVar, sizeOf, typeInfo, hti, hsize, hw'];refine Sat.perm (Sat.shutRow (xs := xs.set i u') (c := c) (size := size) (off := off) (enc := enc) (by simpa [setAt] using hs') ?_ (by simpa using hle) hc ?_ ?_) (hset _).symm
      · intro z hz
        rcases List.mem_or_eq_of_mem_set hz with hz | rfl
        · exact hl z hz
        · rw [henc, spliceL_len]; exact hl u (List.mem_of_getElem? h1)
      · rw [splice, List.size_toArray, spliceL_len, Array.length_toList]; exact hfit
      · rw [splice, List.length_set]
        show ((spliceL cur.toList (off + (i * size + j)) v.cells.toList).drop off).take _ = _
        rw [spliceL_drop, spliceL_take, htk];rw [flat_splice _ (ls := xs.map enc) (size := size) (x := enc u) (fun z hz => by obtain ⟨q, hq, rfl⟩ := List.mem_map.1 hz; exact hl q hq) (by simp [h1]) (by simpa using hj), List.map_set, henc]
theorem ot_storeRow0 {α : Type} {enc : α → List Value} {t e : TypeId} {x y : Operand} {k i size c : Nat} {A : Option Addr} {xs : List α} {u u' : α} {v : Value} (ho : o.op = .store t x y) (hk : nth k l = some (Row enc e size A c xs)) (hx : ev env x = some (elemPtr A (i * size))) (hy : ev env y = some v)
    (h1 : xs[i]? = some u) (hs : (P.info? t).map (·.size) = some v.cells.size) (hj : v.cells.size ≤ size) (henc : enc u' = spliceL (enc u) 0 v.cells.toList) (h1c : v.cells.toList.all (·.oneCell') = true) :
    OpT P w0 n ds env l o fun w l' => w = undef ∧ l' = setAt k (Row enc e size A c (xs.set i u')) l :=
  ot_storeRow (j := 0) ho hk (by simpa using hx) hy h1 hs (by omega) henc h1c
end
open Go Go.RowKit Go.ChangeShapes Go.WideShapes Go.Deep
inductive SK | int (k : IntKind) | bool | str
def SK.fits : SK → Value → Prop
  | .int k, .int j n => j = k ∧ (Lit.int k n).wf = true
  | .bool, .bool _ => True
  | .str, .string s => s.size ≤ maxLen
  | _, _ => False
def fitsL : List SK → List Value → Prop
  | [], [] => True
  | k :: ks, v :: vs => k.fits v ∧ fitsL ks vs
  | _, _ => False
theorem fitsL_app : ∀ {ks ls : List SK} {vs us : List Value}, fitsL ks vs → fitsL ls us → fitsL (ks ++ ls) (vs ++ us)
  | [], _, [], _, _, h => h
  | [], _, _ :: _, _, h, _ => h.elim
  | _ :: _, _, [], _, h, _ => h.elim
  | _ :: _, _, _ :: _, _, h, k => ⟨h.1, fitsL_app h.2 k⟩
theorem fitsL_len : ∀ {ks : List SK} {vs : List Value}, fitsL ks vs → vs.length = ks.length
  | [], [], _ => rfl
  | [], _ :: _, h => h.elim
  | _ :: _, [], h => h.elim
  | _ :: _, _ :: _, h => by simp [fitsL_len h.2]
def flatFs (P : Program) (f : TypeId → Option (List SK)) : Nat → List Field → Option (List SK)
  | _, [] => some []
  | off, g :: r => match Nat.beq g.offset off, f g.type with
    | true, some ks => (match Nat.beq (P.cellsOf g.type) ks.length, flatFs P f (off + ks.length) r with
      | true, some rs => some (ks ++ rs)
      | _, _ => none)
    | _, _ => none
def flatOf (P : Program) : Nat → TypeId → Option (List SK)
  | 0, _ => none
  | m + 1, t => match P.underlying t with
    | some (.int k) => some [.int k]
    | some .bool => some [.bool]
    | some .string => some [.str]
    | some (.struct fs) => (match flatFs P (flatOf P m) 0 fs.toList with
      | some ks => (match Nat.beq (P.cellsOf t) ks.length with | true => some ks | false => none)
      | none => none)
    | _ => none
section
variable {H : Type} {enc : TypeId × Value → H} {P : Program} {w : World} {base : Nat} {spare : Nat → Bool} {held : Bool}
theorem flat_open : ∀ (m : Nat) (t : TypeId) (ks : List SK) (fuel : Nat) (cs : List Value) (x : DataW H × List MemPlace), flatOf P m t = some ks → DataW.trod enc P w base spare held fuel t cs = some x → fitsL ks cs
  | 0, _, _, _, _, _, h, _ => by simp [flatOf] at h
  | m + 1, t, ks, 0, cs, x, _, h => by simp [DataW.trod] at h
  | m + 1, t, ks, fuel + 1, cs, x, hf, h => by
    simp only [flatOf] at hf;simp only [DataW.trod] at h
    split at hf
    · rename_i k hu
      simp at hf;subst hf;rw [hu] at h
      cases cs with
      | nil => simp at h
      | cons c r =>
        cases r with
        | cons c2 r2 => cases c <;> simp at h
        | nil =>
          cases c <;> simp at h
          exact ⟨⟨h.1.1, h.1.2⟩, trivial⟩
    · rename_i hu
      simp at hf;subst hf;rw [hu] at h
      split at h <;> simp_all
      exact ⟨trivial, trivial⟩
    · rename_i hu
      simp at hf;subst hf;rw [hu] at h
      split at h <;> simp_all
      exact ⟨h.1, trivial⟩
    · rename_i fs hu
      rw [hu] at h
      split at hf
      · rename_i ls hls
        split at hf
        · rename_i hb
          simp at hf;subst hf;have hlen := Nat.eq_of_beq_eq_true hb
          have key : ∀ (l : List Field) (off : Nat) (ls : List SK) (xs : List (DataW H × List MemPlace)), flatFs P (flatOf P m) off l = some ls →
              (l.mapM fun f => DataW.trod enc P w base spare held fuel f.type ((cs.drop f.offset).take (P.cellsOf f.type))) = some xs → fitsL ls ((cs.drop off).take ls.length) := by
            intro l
            induction l with
            | nil => intro off ls xs h1 _; simp [flatFs] at h1; subst h1; simp [fitsL]
            | cons g r ih =>
              intro off ls xs h1 h2;simp only [flatFs] at h1
              split at h1
              · rename_i kk e1 e2
                have hoff := Nat.eq_of_beq_eq_true e1
                split at h1
                · rename_i rs e3 e4
                  have hcell := Nat.eq_of_beq_eq_true e3;simp at h1;subst h1;simp only [List.mapM_cons, Option.bind_eq_bind, Option.bind_eq_some_iff] at h2;obtain ⟨y, hy, ys, hys, _⟩ := h2;have ih' := ih (off + kk.length) rs ys e4 hys;rw [hoff, hcell] at hy;have hg := flat_open m g.type kk fuel _ y e2 hy;rw [List.length_append, List.take_add, List.drop_drop];exact fitsL_app hg ih'
                · cases h1
              · cases h1
          have h' : (if cs.length = P.cellsOf t then (fs.toList.mapM fun f => DataW.trod enc P w base spare held fuel f.type ((cs.drop f.offset).take (P.cellsOf f.type))).map fun xs => (DataW.agg (xs.map (·.1)), xs.flatMap (·.2)) else none) = some x := by
            split at h <;> simp_all
          split at h'
          · rename_i hl
            simp only [Option.map_eq_some_iff] at h';obtain ⟨xs, hxs, _⟩ := h';have := key fs.toList 0 ls xs hls hxs;rw [List.drop_zero, ← hlen, ← hl, List.take_length] at this;exact this
          · cases h'
        · cases hf
      · cases hf
    · cases hf
theorem cells?_at {a : Addr} {n : Nat} {cs : List Value} (h : w.cells? base a n = some cs) : cs.length = n ∧ ∀ j v, cs[j]? = some v → w.cell? (a.add j) = some v := by
  unfold World.cells? at h
  split at h
  · have : ∀ (k i : Nat) (cs : List Value), ((List.range' i k).mapM fun j => w.cell? (a.add j)) = some cs → cs.length = k ∧ ∀ j v, cs[j]? = some v → w.cell? (a.add (i + j)) = some v := by
      intro k
      induction k with
      | zero => intro i cs h; simp at h; subst h; simp
      | succ k ih =>
        intro i cs h;rw [List.range'_succ] at h;simp only [List.mapM_cons, Option.bind_eq_bind, Option.bind_eq_some_iff] at h;obtain ⟨v, hv, vs, hvs, he⟩ := h;simp at he;subst he;obtain ⟨h1, h2⟩ := ih (i + 1) vs hvs;refine ⟨by simp [h1], fun j u hu => ?_⟩
        cases j with
        | zero => simp at hu; subst hu; exact hv
        | succ j => have := h2 j u (by simpa using hu); rwa [show i + 1 + j = i + (j + 1) by omega] at this
    have h2 := this n 0 cs (by rw [← List.range_eq_range']; exact h);exact ⟨h2.1, fun j v hv => by simpa using h2.2 j v hv⟩
  · cases h
end
theorem typed {α : Type} {enc : α → List Value} {p : α → Prop} : ∀ {els : List (List Value)}, (∀ el ∈ els, ∃ x, enc x = el ∧ p x) → ∃ xs : List α, els = xs.map enc ∧ ∀ x ∈ xs, p x
  | [], _ => ⟨[], rfl, by simp⟩
  | el :: r, h => by
    obtain ⟨x, hx, hp⟩ := h el (by simp);obtain ⟨xs, h1, h2⟩ := typed (els := r) fun e he => h e (by simp [he]);exact ⟨x :: xs, by simp [hx, h1], fun y hy => by rcases List.mem_cons.1 hy with rfl | hy; exact hp; exact h2 y hy⟩
theorem Rd.typed {α : Type} {enc : α → List Value} {w : World} {size : Nat} {A : Option Addr} {xs : List α} (h : Rd (id : List Value → List Value) w size A (xs.map enc)) : Rd enc w size A xs :=
  ⟨fun x hx => h.len (enc x) (List.mem_map_of_mem hx), fun hn => by
    obtain ⟨ad, e, hc⟩ := h.at_ (by simpa using hn);exact ⟨ad, e, fun j u hu => hc j u (by simpa using hu)⟩⟩
theorem law_calls {P : Program} {w : World} {f : FuncId} {args : List Value} (h : Tri P w f args [] fun v m => v = .bool true ∧ m = []) :
    Calls P f args.toArray w fun e w' => e = .returned (.bool true) ∧ Below w.heap.size w w' :=
  (h [] w (Sat.start w)).mono fun e w' ⟨v, m, he, ⟨hv, _⟩, s⟩ => ⟨by rw [he, hv], s.below⟩
open Go Go.RowKit
abbrev mark (d : Nat) : Deferred := { target := .collected d, args := #[] }
theorem Sat.putO {w0 w : World} {l : List HP} (s : Sat w0 w l) {k b : Nat} {o : Obj} (o' : Obj) (hk : nth k l = some (pt b o)) : Sat w0 (w.putObj b o') (setAt k (pt b o') l) :=
  s.put hk (World.putObj_heap_same (Array.getElem?_eq_some_iff.1 (s.blk hk).1).1) (fun _ h => World.putObj_heap_other h) World.putObj_size rfl rfl rfl
def YTri (P : Program) (w0 : World) (l0 : Nat) (args : List Value) (pre : List HP) (Post : Value → List HP → Prop) : Prop :=
  ∀ (F : List HP) (w : World), Sat w0 w (pre ++ F) → ∃ fn tmps assign body, (Instr.yield l0 args.toArray).run P w = .ok (.round l0 fn tmps assign body) w ∧
    RoundIn Fence.wide 0 P l0 fn tmps assign body w fun e w' => ∃ v m, e = .returned v ∧ Post v m ∧ Sat w0 w' (m ++ F)
def binds : List Tmp → List Value → Env → Env
  | t :: ts, v :: vs, env => binds ts vs ((t, v) :: env)
  | _, _, env => env
section
variable {P : Program} {w0 : World} {n : Nat} {ds : List Deferred} {env : Env} {l : List HP} {l0 k : Nat} {r : Loop} {Q : Value → List HP → Prop} {F : List HP}
end
theorem Tri.conv {P : Program} {w0 : World} {f : FuncId} {args : List Value} {pre pre' : List HP} {Post Post' : Value → List HP → Prop} (h : Tri P w0 f args pre Post) (h1 : ∀ F w, Sat w0 w (pre' ++ F) → Sat w0 w (pre ++ F))
    (h2 : ∀ F w v m, Post v m → Sat w0 w (m ++ F) → ∃ m', Post' v m' ∧ Sat w0 w (m' ++ F)) : Tri P w0 f args pre' Post' :=
  fun F w s => (h F w (h1 F w s)).mono fun e w' ⟨v, m, a, b, c⟩ => let ⟨m', x, y⟩ := h2 F w' v m b c; ⟨v, m', a, x, y⟩
theorem YTri.conv {P : Program} {w0 : World} {l0 : Nat} {args : List Value} {pre pre' : List HP} {Post Post' : Value → List HP → Prop} (h : YTri P w0 l0 args pre Post) (h1 : ∀ F w, Sat w0 w (pre' ++ F) → Sat w0 w (pre ++ F))
    (h2 : ∀ F w v m, Post v m → Sat w0 w (m ++ F) → ∃ m', Post' v m' ∧ Sat w0 w (m' ++ F)) : YTri P w0 l0 args pre' Post' :=
  fun F w s => let ⟨fn, tmps, assign, body, a, b⟩ := h F w (h1 F w s); ⟨fn, tmps, assign, body, a, b.mono fun e w' ⟨v, m, x, y, z⟩ => let ⟨m', p, q⟩ := h2 F w' v m y z; ⟨v, m', x, p, q⟩⟩
end Go.Proofs.YtfcmajgnpnlkiaaGreatDoor.SL
