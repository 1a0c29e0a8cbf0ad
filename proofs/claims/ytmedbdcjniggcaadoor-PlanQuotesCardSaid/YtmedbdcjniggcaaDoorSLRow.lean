/- Slices: rows of elements that are held, and such as are read alone. -/
import Derived.Test.YtmedbdcjniggcaaDoorSLDraw
import Derived.Laws.MakeOwn
set_option linter.unusedVariables false
set_option linter.unusedSimpArgs false
namespace Go.Proofs.YtmedbdcjniggcaaDoor.SL
open Go Go.RowKit

/-- The elements xs, one behind the other, read through a slice that begins at A. -/
structure Rd {α : Type} (enc : α → List Value) (w : World) (size : Nat) (A : Option Addr) (xs : List α) : Prop where
  len : ∀ x ∈ xs, (enc x).length = size
  at_ : xs ≠ [] → ∃ ad, A = some ad ∧ ∀ j u, (xs.map enc).flatten[j]? = some u → w.cell? (ad.add j) = some u
/-- A slice that is held: nil, or a part of a block that is held whole. -/
def Row {α : Type} (enc : α → List Value) (e : TypeId) (size : Nat) (A : Option Addr) (c : Nat) (xs : List α) : HP := fun h =>
  (∀ x ∈ xs, (enc x).length = size) ∧ ((A = none ∧ c = 0 ∧ xs = []) ∨
    ∃ g off cur, A = some ⟨g, off, none⟩ ∧ h g = some (.cells cur e (0, 0)) ∧ xs.length ≤ c ∧ c ≤ maxLen ∧ off + c * size ≤ cur.size ∧ (cur.toList.drop off).take (xs.length * size) = (xs.map enc).flatten)
theorem flat_len {α : Type} {enc : α → List Value} {size : Nat} : ∀ {xs : List α}, (∀ x ∈ xs, (enc x).length = size) → (xs.map enc).flatten.length = xs.length * size
  | [], _ => by simp
  | x :: r, h => by
    have := flat_len (xs := r) fun y hy => h y (by simp [hy])
    simp only [List.map_cons, List.flatten_cons, List.length_append, this, h x (by simp), List.length_cons]
    rw [Nat.succ_mul, Nat.add_comm]
theorem flat_get {α : Type} {enc : α → List Value} {size : Nat} : ∀ {xs : List α} (h : ∀ x ∈ xs, (enc x).length = size) {i j : Nat} {x : α} {u : Value}, xs[i]? = some x → (enc x)[j]? = some u → (xs.map enc).flatten[i * size + j]? = some u
  | [], _, i, j, x, u, hx, _ => by simp at hx
  | y :: r, h, 0, j, x, u, hx, hu => by
    simp at hx; subst hx
    have hlt : j < (enc y).length := (List.getElem?_eq_some_iff.1 hu).1
    simp only [List.map_cons, List.flatten_cons, Nat.zero_mul, Nat.zero_add]
    rw [List.getElem?_append_left hlt]; exact hu
  | y :: r, h, i + 1, j, x, u, hx, hu => by
    have hr := flat_get (xs := r) (fun z hz => h z (by simp [hz])) (i := i) (by simpa using hx) hu
    simp only [List.map_cons, List.flatten_cons]
    rw [List.getElem?_append_right (by rw [h y (by simp), Nat.succ_mul]; omega), h y (by simp)]
    rw [show (i + 1) * size + j - size = i * size + j by rw [Nat.succ_mul]; omega]
    exact hr
theorem Rd.cells {α : Type} {enc : α → List Value} {w : World} {size : Nat} {ad : Addr} {xs : List α} (h : Rd enc w size (some ad) xs) {i : Nat} {x : α} (hx : xs[i]? = some x) {j : Nat} {u : Value} (hu : (enc x)[j]? = some u) :
    w.cell? (ad.add (i * size + j)) = some u := by
  obtain ⟨ad', e, hc⟩ := h.at_ (by intro e; subst e; simp at hx)
  simp only [Option.some.injEq] at e
  subst e
  exact hc _ _ (flat_get h.len hx hu)
theorem Rd.some_ {α : Type} {enc : α → List Value} {w : World} {size : Nat} {A : Option Addr} {xs : List α} (h : Rd enc w size A xs) {i : Nat} {x : α} (hx : xs[i]? = some x) : ∃ ad, A = some ad := by
  obtain ⟨ad, e, _⟩ := h.at_ (by intro e; subst e; simp at hx)
  exact ⟨ad, e⟩
theorem Rd.up {α : Type} {enc : α → List Value} {w0 w : World} {size : Nat} {A : Option Addr} {xs : List α} {l : List HP} (h : Rd enc w0 size A xs) (s : Sat w0 w l) : Rd enc w size A xs :=
  ⟨h.len, fun hn => by obtain ⟨ad, e, hc⟩ := h.at_ hn; exact ⟨ad, e, fun j u hu => s.oldCell (hc j u hu)⟩⟩
theorem Rd.nil {α : Type} (enc : α → List Value) (w : World) (size : Nat) (A : Option Addr) : Rd enc w size A [] := ⟨fun x h => by simp at h, fun h => absurd rfl h⟩
/-- What is read is read of a part as well. -/
theorem Rd.drop {α : Type} {enc : α → List Value} {w : World} {size : Nat} {ad : Addr} {xs : List α} (h : Rd enc w size (some ad) xs) (k : Nat) : Rd enc w size (some (ad.add (k * size))) (xs.drop k) :=
  ⟨fun x hx => h.len x (List.mem_of_mem_drop hx), fun hn => ⟨_, rfl, fun j u hu => by
    have hlt : k < xs.length := by rcases Nat.lt_or_ge k xs.length with h1 | h1; exact h1; exact absurd (List.drop_eq_nil_of_le h1) hn
    obtain ⟨ad', e, hc⟩ := h.at_ (by intro e; subst e; simp at hlt)
    simp only [Option.some.injEq] at e
    subst e
    have hs : (xs.map enc).flatten = ((xs.take k).map enc).flatten ++ ((xs.drop k).map enc).flatten := by
      rw [← List.flatten_append, ← List.map_append, List.take_append_drop]
    have hl : ((xs.take k).map enc).flatten.length = k * size := by
      rw [flat_len (size := size) fun x hx => h.len x (List.mem_of_mem_take hx), List.length_take, Nat.min_eq_left (Nat.le_of_lt hlt)]
    have := hc (k * size + j) u (by rw [hs, List.getElem?_append_right (by omega), hl]; simpa using hu)
    have hadd : ∀ (p : Addr) (x y : Nat), (p.add x).add y = p.add (x + y) := by
      intro p x y
      unfold Addr.add
      by_cases hx : x = 0
      · subst hx; simp
      · by_cases hy : y = 0
        · subst hy; simp [hx]
        · simp [hx, hy]; omega
    rw [hadd]; exact this⟩⟩
theorem Rd.take {α : Type} {enc : α → List Value} {w : World} {size : Nat} {A : Option Addr} {xs : List α} (h : Rd enc w size A xs) (k : Nat) : Rd enc w size A (xs.take k) :=
  ⟨fun x hx => h.len x (List.mem_of_mem_take hx), fun hn => by
    have hne : xs ≠ [] := by intro e; subst e; simp at hn
    obtain ⟨ad, e, hc⟩ := h.at_ hne
    refine ⟨ad, e, fun j u hu => hc j u ?_⟩
    have hs : (xs.map enc).flatten = ((xs.take k).map enc).flatten ++ ((xs.drop k).map enc).flatten := by
      rw [← List.flatten_append, ← List.map_append, List.take_append_drop]
    rw [hs, List.getElem?_append_left (List.getElem?_eq_some_iff.1 hu).1]
    exact hu⟩

theorem Row.mono {α : Type} {enc : α → List Value} {e : TypeId} {size : Nat} {A : Option Addr} {c : Nat} {xs : List α} {h h' : PH} (k : Le h h') (r : Row enc e size A c xs h) : Row enc e size A c xs h' := by
  obtain ⟨a, b⟩ := r
  refine ⟨a, ?_⟩
  rcases b with b | ⟨g, off, cur, h1, h2, h3⟩
  · exact .inl b
  · exact .inr ⟨g, off, cur, h1, k _ _ h2, h3⟩
section
variable {P : Program} {w0 : World} {n : Nat} {ds : List Deferred} {env : Env} {l : List HP} {o : Oper}
theorem Sat.atom {w : World} (s : Sat w0 w l) {k : Nat} {A : HP} (hk : nth k l = some A) : ∃ h, A h ∧ ∀ b o, h b = some o → w0.heap.size ≤ b ∧ w.heap[b]? = some o := by
  obtain ⟨r, hr, _⟩ := nth_pull hk
  obtain ⟨bel, h, ⟨a, c, hA, _, _, la, _⟩, k⟩ := s.perm hr
  exact ⟨a, hA, fun b o e => k b o (la _ _ e)⟩
theorem Sat.rd {w : World} (s : Sat w0 w l) {α : Type} {enc : α → List Value} {k : Nat} {e : TypeId} {size : Nat} {A : Option Addr} {c : Nat} {xs : List α} (hk : nth k l = some (Row enc e size A c xs)) : Rd enc w size A xs := by
  obtain ⟨h, ⟨hl, hr⟩, hw⟩ := s.atom hk
  refine ⟨hl, fun hn => ?_⟩
  rcases hr with ⟨_, _, hx⟩ | ⟨g, off, cur, rfl, hg, hle, hc, hsz, ht⟩
  · exact absurd hx hn
  · refine ⟨_, rfl, fun j u hu => ?_⟩
    rw [add_none, cell_of_row w g (off + j) cur e (0, 0) (hw g _ hg).2]
    rw [← ht, List.getElem?_take] at hu
    split at hu
    · simpa using hu
    · cases hu
/-- A block whose cells are these elements. -/
theorem Sat.rdPt {w : World} (s : Sat w0 w l) {α : Type} {enc : α → List Value} {k b : Nat} {cs : Array Value} {e : TypeId} {fr : Nat × Nat} {size : Nat} {xs : List α} (hk : nth k l = some (pt b (.cells cs e fr)))
    (hcs : cs.toList = (xs.map enc).flatten) (hl : ∀ x ∈ xs, (enc x).length = size) : Rd enc w size (some ⟨b, 0, none⟩) xs :=
  ⟨hl, fun _ => ⟨_, rfl, fun j u hu => by rw [← hcs] at hu; rw [add_none, Nat.zero_add, s.cell hk]; simpa using hu⟩⟩
theorem Sat.rowLen {w : World} (s : Sat w0 w l) {α : Type} {enc : α → List Value} {k : Nat} {e : TypeId} {size : Nat} {A : Option Addr} {c : Nat} {xs : List α} (hk : nth k l = some (Row enc e size A c xs)) : xs.length ≤ c ∧ c ≤ maxLen := by
  obtain ⟨h, ⟨hl, hr⟩, hw⟩ := s.atom hk
  rcases hr with ⟨_, rfl, rfl⟩ | ⟨g, off, cur, rfl, hg, hle, hc, hsz, ht⟩
  · simp
  · exact ⟨hle, hc⟩
/-- What is known of an atom's row: its length is an int's. -/
theorem at_rowLen {R : Act → World → Prop} {α : Type} {enc : α → List Value} (k : Nat) {e : TypeId} {size : Nat} {A : Option Addr} {c : Nat} {xs : List α} (hk : nth k l = some (Row enc e size A c xs))
    (h : xs.length ≤ c → c ≤ 9223372036854775807 → At w0 n ds R env l) : At w0 n ds R env l := fun a w f s => by
  have := s.rowLen hk
  exact h this.1 (by have := this.2; simp only [maxLen] at this; omega) a w f s
theorem Sat.openRow {w : World} {r : List HP} {α : Type} {enc : α → List Value} {e : TypeId} {size : Nat} {A : Option Addr} {c : Nat} {xs : List α} (s : Sat w0 w (Row enc e size A c xs :: r)) :
    (∀ x ∈ xs, (enc x).length = size) ∧ Sat w0 w r ∧ ((A = none ∧ c = 0 ∧ xs = []) ∨
      ∃ g off cur, A = some ⟨g, off, none⟩ ∧ Sat w0 w (pt g (.cells cur e) :: r) ∧ xs.length ≤ c ∧ c ≤ maxLen ∧ off + c * size ≤ cur.size ∧ (cur.toList.drop off).take (xs.length * size) = (xs.map enc).flatten) := by
  have s1 : Sat w0 w r := (show Sat w0 w ([Row enc e size A c xs] ++ r) from s).right
  obtain ⟨bel, h, ⟨p, q, ⟨hl, hp⟩, hq, hd, l1, l2⟩, k⟩ := s
  refine ⟨hl, s1, ?_⟩
  rcases hp with hp | ⟨g, off, cur, hA, hg, h3⟩
  · exact .inl hp
  · exact .inr ⟨g, off, cur, hA, ⟨bel, h, ⟨p, q, hg, hq, hd, l1, l2⟩, k⟩, h3⟩
theorem Sat.shutRow {w : World} {r : List HP} {α : Type} {enc : α → List Value} {e : TypeId} {size : Nat} {g off : Nat} {cur : Array Value} {c : Nat} {xs : List α} (s : Sat w0 w (pt g (.cells cur e) :: r)) (hl : ∀ x ∈ xs, (enc x).length = size) (h1 : xs.length ≤ c)
    (h2 : c ≤ maxLen) (h3 : off + c * size ≤ cur.size) (h4 : (cur.toList.drop off).take (xs.length * size) = (xs.map enc).flatten) : Sat w0 w (Row enc e size (some ⟨g, off, none⟩) c xs :: r) :=
  s.imp fun _ ⟨p, q, hp, hq, hd, l1, l2⟩ => ⟨p, q, ⟨hl, .inr ⟨g, off, cur, rfl, hp, h1, h2, h3, h4⟩⟩, hq, hd, l1, l2⟩
theorem at_rowNil {R : Act → World → Prop} {α : Type} (enc : α → List Value) (e size : Nat) (h : At w0 n ds R env (Row enc e size none 0 [] :: l)) : At w0 n ds R env l := fun a w f s => by
  refine h a w f (s.imp fun g hg => ?_)
  exact ⟨fun _ => none, g, ⟨(fun x h => by simp at h), .inl ⟨rfl, rfl, rfl⟩⟩, hg, (fun _ => .inl rfl), (fun _ _ e => by cases e), Le.refl _⟩
/-- A new block, held as a row. -/
theorem at_rowOf {R : Act → World → Prop} {α : Type} (enc : α → List Value) (k : Nat) {b : Nat} {cs : Array Value} {e : TypeId} {size c : Nat} (xs : List α) (hk : nth k l = some (pt b (.cells cs e (0, 0)))) (hl : ∀ x ∈ xs, (enc x).length = size) (hc : xs.length ≤ c)
    (hm : c ≤ maxLen) (hsz : c * size ≤ cs.size) (ht : cs.toList.take (xs.length * size) = (xs.map enc).flatten) (h : At w0 n ds R env (setAt k (Row enc e size (some ⟨b, 0, none⟩) c xs) l)) : At w0 n ds R env l := fun a w f s => by
  obtain ⟨r, hr, hset⟩ := nth_pull hk
  refine h a w f (Sat.perm (m := setAt k (Row enc e size (some ⟨b, 0, none⟩) c xs) l) (l := Row enc e size (some ⟨b, 0, none⟩) c xs :: r) ((s.perm hr).imp ?_) (hset _).symm)
  rintro g ⟨p, q, hp, hq, hd, l1, l2⟩
  exact ⟨p, q, ⟨hl, .inr ⟨b, 0, cs, rfl, hp, hc, hm, by omega, by simpa using ht⟩⟩, hq, hd, l1, l2⟩
/-- An element's address. -/
def elemPtr (A : Option Addr) (j : Nat) : Value := .pointer (A.map (·.add j))
theorem ov_indexRd {α : Type} {enc : α → List Value} {t e : TypeId} {x ix : Operand} {A : Option Addr} {c size : Nat} {k : IntKind} {i : Nat} {y : α} {xs : List α} (hr : ∀ w, Sat w0 w l → Rd enc w size A xs) (ho : o.op = .indexAddr t x ix)
    (ht : P.underlying t = some (.slice e)) (hs : (P.info? e).map (·.size) = some size) (hx : ev env x = some (.slice A xs.length c)) (hi : ev env ix = some (.int k (i : Int))) (h1 : xs[i]? = some y) :
    OpV P w0 n ds env l o (elemPtr A (i * size)) := fun fr w f s => by
  obtain ⟨ad, rfl⟩ := (hr w s).some_ h1
  have hlt : i < xs.length := (List.getElem?_eq_some_iff.1 h1).1
  have := ov_indexAddr (P := P) (w0 := w0) (n := n) (ds := ds) (l := l) ho ht hs hx hi (by omega) (by omega) fr w f s
  simpa [elemPtr] using this
theorem ov_fieldRd {α : Type} {enc : α → List Value} {t : TypeId} {x : Operand} {A : Option Addr} {i size j k : Nat} {y : α} {xs : List α} {f : Nat} (hr : ∀ w, Sat w0 w l → Rd enc w size A xs) (ho : o.op = .fieldAddr t x f)
    (hx : ev env x = some (elemPtr A (i * size + j))) (h1 : xs[i]? = some y) (hf : fieldOff P t f = some k) : OpV P w0 n ds env l o (elemPtr A (i * size + (j + k))) := fun fr w fm s => by
  obtain ⟨ad, rfl⟩ := (hr w s).some_ h1
  have hadd : ∀ (p : Addr) (x y : Nat), (p.add x).add y = p.add (x + y) := by
    intro p x y
    unfold Addr.add
    by_cases hx : x = 0
    · subst hx; simp
    · by_cases hy : y = 0
      · subst hy; simp [hx]
      · simp [hx, hy]; omega
  unfold execOp
  rw [ho]
  unfold fieldOff at hf
  split at hf
  · rename_i fs hu
    split at hf
    · rename_i fd hfd
      split at hf
      · rename_i ti hti
        cases hz : Nat.beq ti.size 0 with
        | true => rw [hz] at hf; cases hf
        | false =>
          rw [hz] at hf
          simp only [Option.some.injEq] at hf
          have hne : ¬ ti.size = 0 := fun e => by rw [e] at hz; cases hz
          subst hf
          simp [elemPtr] at hx
          simp [fm.eval hx, Instr.fieldAt, underlying, hu, hfd, Instr.sureAddr, fieldPlace, sizeOf, typeInfo, hti, hne, hadd, elemPtr, Nat.add_assoc]
      · cases hf
    · cases hf
  · cases hf
theorem ov_fieldRd0 {α : Type} {enc : α → List Value} {t : TypeId} {x : Operand} {A : Option Addr} {i size k : Nat} {y : α} {xs : List α} {f : Nat} (hr : ∀ w, Sat w0 w l → Rd enc w size A xs) (ho : o.op = .fieldAddr t x f)
    (hx : ev env x = some (elemPtr A (i * size))) (h1 : xs[i]? = some y) (hf : fieldOff P t f = some k) : OpV P w0 n ds env l o (elemPtr A (i * size + k)) := by
  have := ov_fieldRd (n := n) (ds := ds) (j := 0) hr ho (by simpa using hx) h1 hf
  simpa using this
theorem ov_loadRd {α : Type} {enc : α → List Value} {t : TypeId} {x : Operand} {A : Option Addr} {i size j : Nat} {y : α} {xs : List α} {v : Value} (hr : ∀ w, Sat w0 w l → Rd enc w size A xs) (ho : o.op = .load t x) (hx : ev env x = some (elemPtr A (i * size + j)))
    (ht : (P.underlying t).map (fun | .struct _ | .array _ _ => false | _ => true) = some true) (h1 : xs[i]? = some y) (hv : nth j (enc y) = some v) : OpV P w0 n ds env l o v := fun fr w f s => by
  obtain ⟨ad, rfl⟩ := (hr w s).some_ h1
  exact ov_load (l := l) ho hx ht (fun w' s' => (hr w' s').cells h1 (by rw [← nth_list]; exact hv)) fr w f s
theorem ov_loadRd0 {α : Type} {enc : α → List Value} {t : TypeId} {x : Operand} {A : Option Addr} {i size : Nat} {y : α} {xs : List α} {v : Value} (hr : ∀ w, Sat w0 w l → Rd enc w size A xs) (ho : o.op = .load t x) (hx : ev env x = some (elemPtr A (i * size)))
    (ht : (P.underlying t).map (fun | .struct _ | .array _ _ => false | _ => true) = some true) (h1 : xs[i]? = some y) (hv : nth 0 (enc y) = some v) : OpV P w0 n ds env l o v := ov_loadRd hr ho hx ht h1 hv
theorem ov_loadRdS {α : Type} {enc : α → List Value} {t : TypeId} {x : Operand} {A : Option Addr} {i size : Nat} {y : α} {xs : List α} {vs : List Value} (hr : ∀ w, Sat w0 w l → Rd enc w size A xs) (ho : o.op = .load t x) (hx : ev env x = some (elemPtr A (i * size)))
    (ht : (P.underlying t).map (fun | .struct _ | .array _ _ => true | _ => false) = some true) (h1 : xs[i]? = some y) (hsz : (P.info? t).map (·.size) = some vs.length) (hv : enc y = vs) : OpV P w0 n ds env l o (.agg vs.toArray) := fun fr w f s => by
  subst hv
  obtain ⟨ad, rfl⟩ := (hr w s).some_ h1
  refine ov_loadS (l := l) ho hx ht hsz (fun w' s' j v hv => ?_) fr w f s
  have hadd : ∀ (p : Addr) (x y : Nat), (p.add x).add y = p.add (x + y) := by
    intro p x y
    unfold Addr.add
    by_cases hx : x = 0
    · subst hx; simp
    · by_cases hy : y = 0
      · subst hy; simp [hx]
      · simp [hx, hy]; omega
  rw [hadd]
  exact (hr w' s').cells h1 hv
/-- append onto a row that is held. -/
theorem ot_append {α : Type} {enc : α → List Value} {t e : TypeId} {x y : Operand} {ti : TypeInfo} {z : Value} {size bytes k c c' : Nat} {A B : Option Addr} {xs ys : List α} (hr : ∀ w, Sat w0 w l → Rd enc w size B ys)
    (ho : o.op = .call { callee := .builtin .append, args := #[x, y], argTypes := #[t, t] }) (ht : P.underlying t = some (.slice e)) (hi : P.info? e = some ti) (hz : ti.zero = some z) (hsize : ti.size = size) (hby : ti.bytes = bytes)
    (hzs : z.cells.size = size) (hsz : 0 < size) (hk : nth k l = some (Row enc e size A c xs)) (hx : ev env x = some (.slice A xs.length c)) (hy : ev env y = some (.slice B ys.length c'))
    (h1 : ∀ v ∈ ys, ∀ u ∈ enc v, u.oneCell' = true) (hb : (xs.length + ys.length) * bytes ≤ 140737488355328) (hb1 : 0 < bytes) :
    OpT P w0 n ds env l o fun v l' => ∃ A' c', v = .slice A' (xs ++ ys).length c' ∧ l' = setAt k (Row enc e size A' c' (xs ++ ys)) l := fun a w f s => by
  subst hsize
  subst hby
  have h63 : xs.length + ys.length ≤ 140737488355328 := Nat.le_trans (Nat.le_mul_of_pos_right _ hb1) hb
  have hrd := hr w s
  have hxl : ∀ v ∈ xs, (enc v).length = ti.size := (s.rd hk).len
  have hl : (ys.map enc).flatten.length = ys.length * ti.size := flat_len hrd.len
  have hxsl : (xs.map enc).flatten.length = xs.length * ti.size := flat_len hxl
  have hall : ∀ v ∈ xs ++ ys, (enc v).length = ti.size := fun v hv => by rcases List.mem_append.1 hv with h | h; exact hxl v h; exact hrd.len v h
  have hone : ∀ u ∈ (ys.map enc).flatten, u.oneCell' = true := fun u hu => by
    obtain ⟨m, hm, hu⟩ := List.mem_flatten.1 hu
    obtain ⟨v, hv, rfl⟩ := List.mem_map.1 hm
    exact h1 v hv u hu
  have hflat : ((xs ++ ys).map enc).flatten = (xs.map enc).flatten ++ (ys.map enc).flatten := by simp
  have hlen : (xs ++ ys).length = xs.length + ys.length := by simp
  have hop : ∀ v w', (Builtin.append_ #[t, t] o.type #[.slice A xs.length c, .slice B ys.length c']).run P w = .ok v w' → (∃ l', (∃ A' c', v = .slice A' (xs ++ ys).length c' ∧ l' = setAt k (Row enc e ti.size A' c' (xs ++ ys)) l) ∧ Sat w0 w' l') →
      Oper.goesV P o a w fun v w' => ∃ l', (∃ A' c', v = .slice A' (xs ++ ys).length c' ∧ l' = setAt k (Row enc e ti.size A' c' (xs ++ ys)) l) ∧ Sat w0 w' l' := by
    intro v w' hrun hpost
    unfold Oper.goesV execOp
    rw [ho]
    simp only [resolve, invoke, builtin, Sem.run_bind, Sem.run_pure, Result.andThen_ok, List.map_toArray, List.map_cons, List.map_nil, f.eval hx, f.eval hy, hrun]
    exact hpost
  obtain ⟨r, hperm, hset⟩ := nth_pull hk
  obtain ⟨_, s1, hrow⟩ := (s.perm hperm).openRow
  -- a new array
  have grown : ∀ (old : Nat), old < xs.length + ys.length →
      Sat w0 (w.drew.alloc (.cells ((xs.map enc).flatten.toArray ++ (ys.map enc).flatten.toArray ++ Builtin.zeroCells z.cells (grownCap w (xs.length + ys.length) old e - (xs.length + ys.length))) e))
        (setAt k (Row enc e ti.size (some ⟨w.heap.size, 0, none⟩) (grownCap w (xs.length + ys.length) old e) (xs ++ ys)) l) := by
    intro old hold
    have hge := grownCap_ge w (xs.length + ys.length) old e
    have hcm : grownCap w (xs.length + ys.length) old e ≤ maxLen := grownCap_le_maxLen w _ old e (by simp only [maxLen]; omega)
    have s2 : Sat w0 w.drew r := ⟨⟨s1.below.os, s1.below.tape, s1.below.output, s1.below.size, s1.below.block⟩, s1.here⟩
    refine Sat.perm (Sat.shutRow (off := 0) (s2.alloc _) hall (by rw [hlen]; exact hge) hcm ?_ ?_) (hset _).symm
    · simp only [Array.size_append, List.size_toArray, size_zeroCells, hzs, hxsl, hl, ← Nat.add_mul, Nat.zero_add]
      exact Nat.mul_le_mul_right _ (by omega)
    · simp only [Array.toList_append, List.append_assoc, List.drop_zero]
      rw [← List.append_assoc, hlen, hflat, Nat.add_mul, ← hxsl, ← hl, ← List.length_append]
      exact List.take_left
  by_cases hys : ys = []
  · -- nothing to append
    subst hys
    have hcap : xs.length ≤ c := (s.rowLen hk).1
    refine hop (.slice A xs.length c) w ?_ ⟨l, ⟨A, c, by simp, by simpa using (setAt_nth hk).symm⟩, s⟩
    cases A with
    | none =>
      cases B <;> simp [Builtin.append_, run_underlying ht, sizeOf, typeInfo, hi, Builtin.lenOf, hcap, Builtin.firstCells, loadCells, loadCellsFrom]
    | some ad =>
      cases B <;> simp [Builtin.append_, run_underlying ht, sizeOf, typeInfo, hi, Builtin.lenOf, hcap, Builtin.firstCells, loadCells, loadCellsFrom, storeCells]
  · obtain ⟨ad, rfl, hnews⟩ := hrd.at_ hys
    have hpos : 0 < ys.length := List.length_pos_iff.2 hys
    rcases hrow with ⟨rfl, rfl, rfl⟩ | ⟨g, off, cur, rfl, sg, hle, hc, hfit, htk⟩
    · have hr' := run_append_nil (P := P) w t o.type e ti z ht hi hz ad ys.length c' (ys.map enc).flatten hl hnews (by omega) (by omega) (by simp only [List.length_nil, Nat.zero_add] at hb; omega)
      have hgr := grown 0 (by simp; omega)
      simp only [List.length_nil, Nat.zero_add, List.map_nil, List.flatten_nil, List.nil_append] at hgr hr' ⊢
      refine hop _ _ hr' ⟨_, ⟨_, _, rfl, rfl⟩, ?_⟩
      simpa using hgr
    · have hgw : w.heap[g]? = some (.cells cur e) := (sg.blk (k := 0) rfl).1
      by_cases hroom : xs.length + ys.length ≤ c
      · -- it fits
        have hcells : off + xs.length * ti.size + (ys.map enc).flatten.length ≤ cur.size := by
          rw [hl, Nat.add_assoc, ← Nat.add_mul]
          exact Nat.le_trans (Nat.add_le_add_left (Nat.mul_le_mul_right _ hroom) _) hfit
        have hf := run_firstCells_some (P := P) w ti.size ys.length ad ys.length c' (ys.map enc).flatten hl hnews
        have hst := run_storeCells_at P g (off + xs.length * ti.size) e (ys.map enc).flatten 0 cur w hgw (by simpa using hcells) hone
        simp only [Nat.add_zero] at hst
        have hrun : (Builtin.append_ #[t, t] o.type #[.slice (some ⟨g, off, none⟩) xs.length c, .slice (some ad) ys.length c']).run P w =
            .ok (.slice (some ⟨g, off, none⟩) (xs.length + ys.length) c) (w.setRow g (cur.toList.take (off + xs.length * ti.size) ++ (ys.map enc).flatten ++ cur.toList.drop (off + xs.length * ti.size + (ys.map enc).flatten.length)).toArray) := by
          simp [Builtin.append_, run_underlying ht, sizeOf, typeInfo, hi, Builtin.lenOf, hroom, hf, add_none, hst]
        refine hop _ _ hrun ⟨_, ⟨_, _, by rw [hlen], rfl⟩, ?_⟩
        have s2 : Sat w0 (w.setRow g (cur.toList.take (off + xs.length * ti.size) ++ (ys.map enc).flatten ++ cur.toList.drop (off + xs.length * ti.size + (ys.map enc).flatten.length)).toArray)
            (pt g (.cells (cur.toList.take (off + xs.length * ti.size) ++ (ys.map enc).flatten ++ cur.toList.drop (off + xs.length * ti.size + (ys.map enc).flatten.length)).toArray e) :: r) :=
          sg.put (k := 0) rfl (setRow_heap w g cur _ e _ hgw) (fun x hx => setRow_other w g x _ hx) (by simp) rfl rfl rfl
        refine Sat.perm (Sat.shutRow s2 hall (by rw [hlen]; exact hroom) hc ?_ ?_) (hset _).symm
        · simp only [List.size_toArray, List.length_append, List.length_take, List.length_drop, Array.length_toList]
          omega
        · have h0 : off ≤ cur.toList.length := by simp; omega
          have hx1 : off + xs.length * ti.size ≤ cur.toList.length := by simp; omega
          rw [hlen, hflat]
          have e1 : cur.toList.take (off + xs.length * ti.size) = cur.toList.take off ++ (xs.map enc).flatten := by
            rw [List.take_add, htk]
          rw [e1]
          have e2 : (cur.toList.take off).length = off := by rw [List.length_take]; omega
          simp only [List.append_assoc]
          rw [List.drop_append_of_le_length (by omega), List.drop_eq_nil_of_le (by omega), List.nil_append, ← List.append_assoc, Nat.add_mul, ← hxsl, ← hl, ← List.length_append]
          exact List.take_left
      · -- it doesn't fit
        have hxs : ∀ j u, (xs.map enc).flatten[j]? = some u → w.cell? ((⟨g, off, none⟩ : Addr).add j) = some u := by
          intro j u hu
          have hne : xs ≠ [] := by intro e; subst e; simp at hu
          obtain ⟨ad', e, hcc⟩ := (s.rd hk).at_ hne
          simp only [Option.some.injEq] at e
          subst e
          exact hcc j u hu
        have hr' := run_append_grow (P := P) w t o.type e ti z ht hi hz ⟨g, off, none⟩ xs.length c (xs.map enc).flatten hxsl hxs ad ys.length c' (ys.map enc).flatten hl hnews (by omega) (by omega) (growslice_fits (by omega) hb)
        refine hop _ _ hr' ⟨_, ⟨_, _, by rw [hlen], rfl⟩, ?_⟩
        exact grown c (by omega)
/-- s[lo:] of a slice with capacity c. -/
def dropA (A : Option Addr) (c lo size : Nat) : Option Addr := if c = lo then A else A.map (·.add (lo * size))
theorem addr_add_add (p : Addr) (x y : Nat) : (p.add x).add y = p.add (x + y) := by
  unfold Addr.add
  by_cases hx : x = 0
  · subst hx; simp
  · by_cases hy : y = 0
    · subst hy; simp [hx]
    · simp [hx, hy]; omega
theorem Rd.dropA {α : Type} {enc : α → List Value} {w : World} {size c : Nat} {A : Option Addr} {xs : List α} (h : Rd enc w size A xs) (hc : xs.length ≤ c) (k : Nat) : Rd enc w size (dropA A c k size) (xs.drop k) := by
  unfold SL.dropA
  split
  · rename_i e
    subst e
    rw [List.drop_eq_nil_of_le hc]
    exact Rd.nil _ _ _ _
  · cases A with
    | none =>
      have : xs = [] := by
        rcases Classical.em (xs = []) with e | e
        · exact e
        · obtain ⟨ad, e2, _⟩ := h.at_ e; cases e2
      subst this
      simpa using Rd.nil enc w size _
    | some ad => exact h.drop k
theorem Row.drop {α : Type} {enc : α → List Value} {e : TypeId} {size : Nat} {A : Option Addr} {c : Nat} {xs : List α} {h : PH} (r : Row enc e size A c xs h) (k : Nat) (hk : k ≤ xs.length) : Row enc e size (dropA A c k size) (c - k) (xs.drop k) h := by
  obtain ⟨hl, hr⟩ := r
  refine ⟨fun x hx => hl x (List.mem_of_mem_drop hx), ?_⟩
  rcases hr with ⟨rfl, rfl, rfl⟩ | ⟨g, off, cur, rfl, hg, h1, h2, h3, h4⟩
  · exact .inl ⟨by simp [dropA], by simp, by simp⟩
  · have h5 : ((cur.toList.drop (off + k * size)).take ((xs.drop k).length * size)) = ((xs.drop k).map enc).flatten := by
      have hs : (xs.map enc).flatten = ((xs.take k).map enc).flatten ++ ((xs.drop k).map enc).flatten := by
        rw [← List.flatten_append, ← List.map_append, List.take_append_drop]
      have hl2 : ((xs.take k).map enc).flatten.length = k * size := by
        rw [flat_len (size := size) fun x hx => hl x (List.mem_of_mem_take hx), List.length_take, Nat.min_eq_left hk]
      have e1 : ((xs.drop k).map enc).flatten = ((xs.map enc).flatten).drop (k * size) := by
        rw [hs, ← hl2, List.drop_left]
      rw [e1, ← h4, List.drop_take, List.drop_drop, List.length_drop, Nat.sub_mul]
    by_cases hc : c = k
    · subst hc
      have hz : xs.drop c = [] := List.drop_eq_nil_of_le (by omega)
      refine .inr ⟨g, off, cur, by simp [dropA], hg, by rw [hz]; simp, by omega, by simp; omega, by rw [hz]; simp⟩
    · refine .inr ⟨g, off + k * size, cur, by simp [dropA, hc, add_none], hg, by rw [List.length_drop]; omega, by omega, ?_, h5⟩
      rw [Nat.sub_mul, Nat.add_assoc]
      have : k * size ≤ c * size := Nat.mul_le_mul_right _ (by omega)
      omega
theorem ov_sliceFrom {α : Type} {t e : TypeId} {x lo : Operand} {A : Option Addr} {c size k : Nat} {ik : IntKind} {xs : List α} (ho : o.op = .slice t x (some lo) none none) (ht : P.underlying t = some (.slice e)) (hs : (P.info? e).map (·.size) = some size)
    (hx : ev env x = some (.slice A xs.length c)) (hl : ev env lo = some (.int ik (k : Int))) (hk : k ≤ xs.length) (hc : xs.length ≤ c) : OpV P w0 n ds env l o (.slice (dropA A c k size) (xs.drop k).length (c - k)) := fun fr w f s => by
  unfold execOp
  rw [ho]
  cases hti : P.info? e with
  | none => rw [hti] at hs; cases hs
  | some ti =>
    have : ti.size = size := by simpa [hti] using hs
    have hkx : (k : Int) ≤ (xs.length : Int) := by omega
    simp [Instr.sliceAt, run_und ht, Instr.slice, Instr.sliceBounds, Instr.sliceBound, f.eval hx, f.eval hl, asIntOf, hkx, sizeOf, typeInfo, hti, this, dropA]
    intro h; omega
/-! ### Stores into a row's elements; rows made -/
theorem spliceL_drop (off : Nat) : ∀ (vs : List Value) (L : List Value) (p : Nat), (spliceL L (off + p) vs).drop off = spliceL (L.drop off) p vs
  | [], L, p => by simp [spliceL_nil]
  | v :: r, L, p => by
    rw [spliceL_cons, spliceL_cons, Nat.add_assoc, spliceL_drop off r (L.set (off + p) v) (p + 1), List.drop_set]
    rw [if_neg (by omega), Nat.add_sub_cancel_left]
theorem spliceL_take (m : Nat) : ∀ (vs : List Value) (L : List Value) (p : Nat), (spliceL L p vs).take m = spliceL (L.take m) p vs
  | [], L, p => by simp [spliceL_nil]
  | v :: r, L, p => by
    rw [spliceL_cons, spliceL_cons, spliceL_take m r (L.set p v) (p + 1), List.take_set]
theorem flat_set {size : Nat} : ∀ {ls : List (List Value)} (h : ∀ x ∈ ls, x.length = size) {i j : Nat} {x : List Value} (v : Value), ls[i]? = some x → j < size → ls.flatten.set (i * size + j) v = (ls.set i (x.set j v)).flatten
  | [], _, i, j, x, v, hx, _ => by simp at hx
  | y :: r, h, 0, j, x, v, hx, hj => by
    simp at hx; subst hx
    simp only [List.flatten_cons, Nat.zero_mul, Nat.zero_add, List.set_cons_zero]
    rw [List.set_append_left _ _ (by rw [h y (by simp)]; exact hj)]
  | y :: r, h, i + 1, j, x, v, hx, hj => by
    have ih := flat_set (ls := r) (fun z hz => h z (by simp [hz])) (i := i) v (by simpa using hx) hj
    simp only [List.flatten_cons, List.set_cons_succ]
    rw [List.set_append_right _ _ (by rw [h y (by simp), Nat.succ_mul]; omega), h y (by simp), show (i + 1) * size + j - size = i * size + j by rw [Nat.succ_mul]; omega, ih]
theorem flat_splice {size : Nat} : ∀ (vs : List Value) {ls : List (List Value)} (h : ∀ x ∈ ls, x.length = size) {i j : Nat} {x : List Value}, ls[i]? = some x → j + vs.length ≤ size → spliceL ls.flatten (i * size + j) vs = (ls.set i (spliceL x j vs)).flatten
  | [], ls, h, i, j, x, hx, _ => by
    rw [spliceL_nil, spliceL_nil]
    congr 1
    refine List.ext_getElem? fun q => ?_
    rw [List.getElem?_set]
    split
    · subst_vars; split
      · exact hx
      · exact List.getElem?_eq_none (by omega)
    · rfl
  | v :: r, ls, h, i, j, x, hx, hj => by
    simp only [List.length_cons] at hj
    have hlt : i < ls.length := (List.getElem?_eq_some_iff.1 hx).1
    rw [spliceL_cons, spliceL_cons, flat_set h v hx (by omega), Nat.add_assoc]
    rw [flat_splice r (ls := ls.set i (x.set j v)) ?_ (x := x.set j v) (by simp [hlt]) (by omega), List.set_set]
    intro z hz
    rcases List.mem_or_eq_of_mem_set hz with hz | rfl
    · exact h z hz
    · rw [List.length_set]; exact h x (List.mem_of_getElem? hx)
theorem ot_storeRow {α : Type} {enc : α → List Value} {t e : TypeId} {x y : Operand} {k i j size c : Nat} {A : Option Addr} {xs : List α} {u u' : α} {v : Value} (ho : o.op = .store t x y) (hk : nth k l = some (Row enc e size A c xs)) (hx : ev env x = some (elemPtr A (i * size + j))) (hy : ev env y = some v)
    (h1 : xs[i]? = some u) (hs : (P.info? t).map (·.size) = some v.cells.size) (hj : j + v.cells.size ≤ size) (henc : enc u' = spliceL (enc u) j v.cells.toList) (h1c : v.cells.toList.all (·.oneCell') = true) :
    OpT P w0 n ds env l o fun w l' => w = undef ∧ l' = setAt k (Row enc e size A c (xs.set i u')) l := fun a w f s => by
  obtain ⟨r, hperm, hset⟩ := nth_pull hk
  obtain ⟨hl, s1, hrow⟩ := (s.perm hperm).openRow
  have hil : i < xs.length := (List.getElem?_eq_some_iff.1 h1).1
  rcases hrow with ⟨rfl, rfl, rfl⟩ | ⟨g, off, cur, rfl, sg, hle, hc, hfit, htk⟩
  · simp at h1
  · have hbig : i * size + j + v.cells.size ≤ xs.length * size := by
      have : (i + 1) * size ≤ xs.length * size := Nat.mul_le_mul_right _ hil
      rw [Nat.succ_mul] at this
      omega
    have hbig2 : xs.length * size ≤ c * size := Nat.mul_le_mul_right _ hle
    unfold Oper.goesV execOp
    rw [ho]
    cases hti : P.info? t with
    | none => rw [hti] at hs; cases hs
    | some ti =>
      have hsize : ti.size = v.cells.size := by simpa [hti] using hs
      obtain ⟨w', hw', hs'⟩ := run_stores (P := P) v.cells.toList 0 (off + (i * size + j)) cur w _ sg (k := 0) rfl (by simp; omega) (fun x hx => List.all_eq_true.1 h1c x hx)
      have hx' : ev env x = some (.pointer (some ⟨g, off + (i * size + j), none⟩)) := by rw [hx]; simp [elemPtr, add_none]
      simp [f.eval hx', f.eval hy, Instr.storeAt, Instr.sureAddr, storeVar, sizeOf, typeInfo, hti, hsize, hw']
      refine Sat.perm (Sat.shutRow (xs := xs.set i u') (c := c) (size := size) (off := off) (enc := enc) (by simpa [setAt] using hs') ?_ (by simpa using hle) hc ?_ ?_) (hset _).symm
      · intro z hz
        rcases List.mem_or_eq_of_mem_set hz with hz | rfl
        · exact hl z hz
        · rw [henc, spliceL_len]; exact hl u (List.mem_of_getElem? h1)
      · rw [splice, List.size_toArray, spliceL_len, Array.length_toList]; exact hfit
      · rw [splice, List.length_set]
        show ((spliceL cur.toList (off + (i * size + j)) v.cells.toList).drop off).take _ = _
        rw [spliceL_drop, spliceL_take, htk]
        rw [flat_splice _ (ls := xs.map enc) (size := size) (x := enc u) (fun z hz => by obtain ⟨q, hq, rfl⟩ := List.mem_map.1 hz; exact hl q hq) (by simp [h1]) (by simpa using hj), List.map_set, henc]
theorem ot_storeRow0 {α : Type} {enc : α → List Value} {t e : TypeId} {x y : Operand} {k i size c : Nat} {A : Option Addr} {xs : List α} {u u' : α} {v : Value} (ho : o.op = .store t x y) (hk : nth k l = some (Row enc e size A c xs)) (hx : ev env x = some (elemPtr A (i * size))) (hy : ev env y = some v)
    (h1 : xs[i]? = some u) (hs : (P.info? t).map (·.size) = some v.cells.size) (hj : v.cells.size ≤ size) (henc : enc u' = spliceL (enc u) 0 v.cells.toList) (h1c : v.cells.toList.all (·.oneCell') = true) :
    OpT P w0 n ds env l o fun w l' => w = undef ∧ l' = setAt k (Row enc e size A c (xs.set i u')) l :=
  ot_storeRow (j := 0) ho hk (by simpa using hx) hy h1 hs (by omega) henc h1c
theorem ot_makeSlice {α : Type} (enc : α → List Value) (u : α) {t e : TypeId} {x y : Operand} {i : TypeInfo} {z : Value} {m size bytes : Nat} {kl kc : IntKind} (ho : o.op = .makeSlice t x y) (ht : P.underlying t = some (.slice e)) (hi : P.info? e = some i) (hz : i.zero = some z) (hsize : i.size = size) (hby : i.bytes = bytes)
    (hx : ev env x = some (.int kl (m : Int))) (hy : ev env y = some (.int kc (m : Int))) (hu : enc u = z.cells.toList) (hul : (enc u).length = size) (hpos : 0 < size) (hb : bytes * m ≤ 281474976710656) (hm : m ≤ maxLen) :
    OpT P w0 n ds env l o fun v l' => ∃ b, v = .slice (some ⟨b, 0, none⟩) m m ∧ l' = Row enc e size (some ⟨b, 0, none⟩) m (List.replicate m u) :: l := fun a w f s => by
  subst hsize
  subst hby
  have hb2 : (i.bytes : Int) * (m : Int) ≤ 281474976710656 := by
    have h : ((i.bytes * m : Nat) : Int) ≤ 281474976710656 := by omega
    rwa [Int.natCast_mul] at h
  have hr := run_make (P := P) w t e i z ht hi hz kl kc m m (by omega) (Int.le_refl _) hb2 (by simp only [maxLen] at hm; omega)
  simp only [Int.toNat_natCast] at hr
  unfold Oper.goesV execOp
  rw [ho]
  simp [f.eval hx, f.eval hy, hr]
  have hzl : z.cells.toList.length = i.size := by rw [← hu]; exact hul
  have hcells : madeCells z.cells (m * i.size) = (rep z.cells.toList m).toArray := by
    have := rep_eq (zs := z.cells.toList) (by rw [hzl]; exact hpos) m
    rw [hzl] at this
    simpa [madeCells] using this
  have hrep : ∀ m, ((List.replicate m u).map enc).flatten = rep z.cells.toList m := by
    intro m
    induction m with
    | zero => rfl
    | succ m ih => simp only [List.replicate_succ, List.map_cons, List.flatten_cons, ih, rep, hu]
  have hlr : (rep z.cells.toList m).length = m * i.size := by rw [rep_len, hzl]
  refine Sat.shutRow (off := 0) (s.alloc _) (fun x hx => ?_) (by simp) hm ?_ ?_
  · rw [List.eq_of_mem_replicate hx]; exact hul
  · rw [hcells, List.size_toArray, hlr]; omega
  · rw [hcells, hrep, List.length_replicate]; simp only [List.drop_zero]; rw [← hlr]; exact List.take_length
end
end Go.Proofs.YtmedbdcjniggcaaDoor.SL
