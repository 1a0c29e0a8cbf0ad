/- What a row hands in, opened: flat structs and slices of them, as lists. -/
import Derived.Test.YtmedbdcjniggcaaDoorSLRow
import Derived.Deep.Slices
import Derived.SizedLaws
set_option linter.unusedVariables false
set_option linter.unusedSimpArgs false
namespace Go.Proofs.YtmedbdcjniggcaaDoor.SL
open Go Go.RowKit Go.ChangeShapes Go.WideShapes Go.Deep

/-- What one cell may hold. -/
inductive SK | int (k : IntKind) | bool | str
def SK.fits : SK → Value → Prop
  | .int k, .int j n => j = k ∧ (Lit.int k n).wf = true
  | .bool, .bool _ => True
  | .str, .string s => s.size ≤ maxLen
  | _, _ => False
def fitsL : List SK → List Value → Prop
  | [], [] => True
  | k :: ks, v :: vs => k.fits v ∧ fitsL ks vs
  | _, _ => False
theorem fitsL_app : ∀ {ks ls : List SK} {vs us : List Value}, fitsL ks vs → fitsL ls us → fitsL (ks ++ ls) (vs ++ us)
  | [], _, [], _, _, h => h
  | [], _, _ :: _, _, h, _ => h.elim
  | _ :: _, _, [], _, h, _ => h.elim
  | _ :: _, _, _ :: _, _, h, k => ⟨h.1, fitsL_app h.2 k⟩
theorem fitsL_len : ∀ {ks : List SK} {vs : List Value}, fitsL ks vs → vs.length = ks.length
  | [], [], _ => rfl
  | [], _ :: _, h => h.elim
  | _ :: _, [], h => h.elim
  | _ :: _, _ :: _, h => by simp [fitsL_len h.2]
def flatFs (P : Program) (f : TypeId → Option (List SK)) : Nat → List Field → Option (List SK)
  | _, [] => some []
  | off, g :: r => match Nat.beq g.offset off, f g.type with
    | true, some ks => (match Nat.beq (P.cellsOf g.type) ks.length, flatFs P f (off + ks.length) r with
      | true, some rs => some (ks ++ rs)
      | _, _ => none)
    | _, _ => none
/-- The cells of a type whose values hold numbers, bools and strings alone. -/
def flatOf (P : Program) : Nat → TypeId → Option (List SK)
  | 0, _ => none
  | m + 1, t => match P.underlying t with
    | some (.int k) => some [.int k]
    | some .bool => some [.bool]
    | some .string => some [.str]
    | some (.struct fs) => (match flatFs P (flatOf P m) 0 fs.toList with
      | some ks => (match Nat.beq (P.cellsOf t) ks.length with | true => some ks | false => none)
      | none => none)
    | _ => none
section
variable {H : Type} {enc : TypeId × Value → H} {P : Program} {w : World} {base : Nat} {spare : Nat → Bool} {held : Bool}
theorem flat_open : ∀ (m : Nat) (t : TypeId) (ks : List SK) (fuel : Nat) (cs : List Value) (x : DataW H × List MemPlace), flatOf P m t = some ks → DataW.trod enc P w base spare held fuel t cs = some x → fitsL ks cs
  | 0, _, _, _, _, _, h, _ => by simp [flatOf] at h
  | m + 1, t, ks, 0, cs, x, _, h => by simp [DataW.trod] at h
  | m + 1, t, ks, fuel + 1, cs, x, hf, h => by
    simp only [flatOf] at hf
    simp only [DataW.trod] at h
    split at hf
    · rename_i k hu
      simp at hf
      subst hf
      rw [hu] at h
      cases cs with
      | nil => simp at h
      | cons c r =>
        cases r with
        | cons c2 r2 => cases c <;> simp at h
        | nil =>
          cases c <;> simp at h
          exact ⟨⟨h.1.1, h.1.2⟩, trivial⟩
    · rename_i hu
      simp at hf
      subst hf
      rw [hu] at h
      split at h <;> simp_all
      exact ⟨trivial, trivial⟩
    · rename_i hu
      simp at hf
      subst hf
      rw [hu] at h
      split at h <;> simp_all
      exact ⟨h.1, trivial⟩
    · rename_i fs hu
      rw [hu] at h
      split at hf
      · rename_i ls hls
        split at hf
        · rename_i hb
          simp at hf
          subst hf
          have hlen := Nat.eq_of_beq_eq_true hb
          have key : ∀ (l : List Field) (off : Nat) (ls : List SK) (xs : List (DataW H × List MemPlace)), flatFs P (flatOf P m) off l = some ls →
              (l.mapM fun f => DataW.trod enc P w base spare held fuel f.type ((cs.drop f.offset).take (P.cellsOf f.type))) = some xs → fitsL ls ((cs.drop off).take ls.length) := by
            intro l
            induction l with
            | nil => intro off ls xs h1 _; simp [flatFs] at h1; subst h1; simp [fitsL]
            | cons g r ih =>
              intro off ls xs h1 h2
              simp only [flatFs] at h1
              split at h1
              · rename_i kk e1 e2
                have hoff := Nat.eq_of_beq_eq_true e1
                split at h1
                · rename_i rs e3 e4
                  have hcell := Nat.eq_of_beq_eq_true e3
                  simp at h1
                  subst h1
                  simp only [List.mapM_cons, Option.bind_eq_bind, Option.bind_eq_some_iff] at h2
                  obtain ⟨y, hy, ys, hys, _⟩ := h2
                  have ih' := ih (off + kk.length) rs ys e4 hys
                  rw [hoff, hcell] at hy
                  have hg := flat_open m g.type kk fuel _ y e2 hy
                  rw [List.length_append, List.take_add, List.drop_drop]
                  exact fitsL_app hg ih'
                · cases h1
              · cases h1
          have h' : (if cs.length = P.cellsOf t then (fs.toList.mapM fun f => DataW.trod enc P w base spare held fuel f.type ((cs.drop f.offset).take (P.cellsOf f.type))).map fun xs => (DataW.agg (xs.map (·.1)), xs.flatMap (·.2)) else none) = some x := by
            split at h <;> simp_all
          split at h'
          · rename_i hl
            simp only [Option.map_eq_some_iff] at h'
            obtain ⟨xs, hxs, _⟩ := h'
            have := key fs.toList 0 ls xs hls hxs
            rw [List.drop_zero, ← hlen, ← hl, List.take_length] at this
            exact this
          · cases h'
        · cases hf
      · cases hf
    · cases hf
theorem cells?_at {a : Addr} {n : Nat} {cs : List Value} (h : w.cells? base a n = some cs) : cs.length = n ∧ ∀ j v, cs[j]? = some v → w.cell? (a.add j) = some v := by
  unfold World.cells? at h
  split at h
  · have : ∀ (k i : Nat) (cs : List Value), ((List.range' i k).mapM fun j => w.cell? (a.add j)) = some cs → cs.length = k ∧ ∀ j v, cs[j]? = some v → w.cell? (a.add (i + j)) = some v := by
      intro k
      induction k with
      | zero => intro i cs h; simp at h; subst h; simp
      | succ k ih =>
        intro i cs h
        rw [List.range'_succ] at h
        simp only [List.mapM_cons, Option.bind_eq_bind, Option.bind_eq_some_iff] at h
        obtain ⟨v, hv, vs, hvs, he⟩ := h
        simp at he
        subst he
        obtain ⟨h1, h2⟩ := ih (i + 1) vs hvs
        refine ⟨by simp [h1], fun j u hu => ?_⟩
        cases j with
        | zero => simp at hu; subst hu; exact hv
        | succ j => have := h2 j u (by simpa using hu); rwa [show i + 1 + j = i + (j + 1) by omega] at this
    have h2 := this n 0 cs (by rw [← List.range_eq_range']; exact h)
    exact ⟨h2.1, fun j v hv => by simpa using h2.2 j v hv⟩
  · cases h
/-- A slice of flat elements. -/
theorem open_flats {t e : TypeId} {ks : List SK} {m : Nat} {v : Value} {d : DataW H} {ps : List MemPlace} (ht : P.underlying t = some (.slice e)) (hf : flatOf P m e = some ks) (hc : P.cellsOf e = ks.length) (hp : 0 < ks.length)
    {A : Option Addr} {len cap : Nat} (hv : v = .slice A len cap) (h : DataW.Trod enc P w base spare held t v d ps) :
    ∃ els : List (List Value), els.length = len ∧ len ≤ cap ∧ cap ≤ maxLen ∧ (∀ x ∈ els, fitsL ks x) ∧ Rd (id : List Value → List Value) w ks.length A els ∧ (A = none → cap = 0) := by
  subst hv
  obtain ⟨fuel, hfu⟩ := h
  rcases open_slice ht hfu with ⟨hcs, _⟩ | ⟨a, l, c, mm, n, D, Pl, hcs, hb, hl, hm, hmm, _, hel⟩
  · simp [Value.cells] at hcs
    obtain ⟨rfl, rfl, rfl⟩ := hcs
    exact ⟨[], rfl, Nat.le_refl _, by simp [maxLen], by simp, Rd.nil _ _ _ _, fun _ => rfl⟩
  · simp [Value.cells] at hcs
    obtain ⟨rfl, rfl, rfl⟩ := hcs
    have hlm : len ≤ mm := by rw [hmm]; split <;> omega
    have hex : ∀ i, i < len → ∃ cs', w.cells? base (a.add (i * P.cellsOf e)) (P.cellsOf e) = some cs' ∧ fitsL ks cs' := fun i hi => by
      obtain ⟨cs', h1, h2⟩ := hel i (by omega)
      exact ⟨cs', h1, flat_open m e ks n cs' _ hf h2⟩
    have hch : ∃ f : Nat → List Value, ∀ i, i < len → w.cells? base (a.add (i * P.cellsOf e)) (P.cellsOf e) = some (f i) ∧ fitsL ks (f i) := by
      classical
      refine ⟨fun i => if h : i < len then (hex i h).choose else [], fun i hi => ?_⟩
      simp only [hi, dif_pos]
      exact (hex i hi).choose_spec
    obtain ⟨f, hfx⟩ := hch
    have hlen : ∀ x ∈ (List.range len).map f, (id x).length = ks.length := fun x hx => by
      obtain ⟨i, hi, rfl⟩ := List.mem_map.1 hx
      exact fitsL_len (hfx i (List.mem_range.1 hi)).2
    refine ⟨(List.range len).map f, by simp, hl, hm, fun x hx => ?_, ⟨hlen, fun _ => ⟨a, rfl, fun j u hu => ?_⟩⟩, fun h => by cases h⟩
    · obtain ⟨i, hi, rfl⟩ := List.mem_map.1 hx
      exact (hfx i (List.mem_range.1 hi)).2
    · -- place j is cell j mod size of element j / size
      have hj : j < len * ks.length := by
        have := (List.getElem?_eq_some_iff.1 hu).1
        rw [flat_len hlen] at this
        simpa using this
      have hq : j / ks.length < len := Nat.div_lt_of_lt_mul (by rw [Nat.mul_comm]; exact hj)
      obtain ⟨hcells, hfit⟩ := hfx (j / ks.length) hq
      obtain ⟨hl2, hat⟩ := cells?_at hcells
      have hr : j % ks.length < ks.length := Nat.mod_lt _ hp
      have hget : ((List.range len).map f)[j / ks.length]? = some (f (j / ks.length)) := by simp [hq]
      have hv2 : (f (j / ks.length))[j % ks.length]? = some ((f (j / ks.length))[j % ks.length]'(by rw [fitsL_len hfit]; exact hr)) := List.getElem?_eq_getElem _
      have hfl := flat_get (enc := (id : List Value → List Value)) hlen hget hv2
      rw [Nat.mul_comm, Nat.div_add_mod] at hfl
      rw [hfl] at hu
      simp only [Option.some.injEq] at hu
      have h3 := hat _ _ hv2
      rw [hu, hc] at h3
      have hadd : ∀ (p : Addr) (x y : Nat), (p.add x).add y = p.add (x + y) := by
        intro p x y
        unfold Addr.add
        by_cases hx : x = 0
        · subst hx; simp
        · by_cases hy : y = 0
          · subst hy; simp [hx]
          · simp [hx, hy]; omega
      rw [hadd, Nat.mul_comm, Nat.div_add_mod] at h3
      exact h3
/-- A flat struct, handed in by value. -/
theorem open_flat {t : TypeId} {fs : Array Field} {ks : List SK} {m : Nat} {v : Value} {d : DataW H} {ps : List MemPlace} {r : Reach} {b0 : Nat} (ht : P.underlying t = some (.struct fs)) (hf : flatOf P m t = some ks) (hval : Value.okWide P w r b0 t v)
    (h : DataW.Trod enc P w base spare held t v d ps) : ∃ cs : List Value, v = .agg cs.toArray ∧ fitsL ks cs := by
  obtain ⟨cs, rfl, _⟩ := okWide_struct ht hval
  obtain ⟨fuel, hfu⟩ := h
  exact ⟨cs.toList, by simp, flat_open m t ks fuel _ _ hf hfu⟩
end
/-- Elements that are each some x's. -/
theorem typed {α : Type} {enc : α → List Value} {p : α → Prop} : ∀ {els : List (List Value)}, (∀ el ∈ els, ∃ x, enc x = el ∧ p x) → ∃ xs : List α, els = xs.map enc ∧ ∀ x ∈ xs, p x
  | [], _ => ⟨[], rfl, by simp⟩
  | el :: r, h => by
    obtain ⟨x, hx, hp⟩ := h el (by simp)
    obtain ⟨xs, h1, h2⟩ := typed (els := r) fun e he => h e (by simp [he])
    exact ⟨x :: xs, by simp [hx, h1], fun y hy => by rcases List.mem_cons.1 hy with rfl | hy; exact hp; exact h2 y hy⟩
theorem Rd.typed {α : Type} {enc : α → List Value} {w : World} {size : Nat} {A : Option Addr} {xs : List α} (h : Rd (id : List Value → List Value) w size A (xs.map enc)) : Rd enc w size A xs :=
  ⟨fun x hx => h.len (enc x) (List.mem_map_of_mem hx), fun hn => by
    obtain ⟨ad, e, hc⟩ := h.at_ (by simpa using hn)
    exact ⟨ad, e, fun j u hu => hc j u (by simpa using hu)⟩⟩
theorem wf_u64 {n : Int} (h : (Lit.int .u64 n).wf = true) : 0 ≤ n ∧ n < 18446744073709551616 := by
  simp [Lit.wf, IntKind.min, IntKind.max, IntKind.bits, IntKind.signed] at h; omega
theorem wf_i64 {n : Int} (h : (Lit.int .i64 n).wf = true) : -9223372036854775808 ≤ n ∧ n < 9223372036854775808 := by
  simp [Lit.wf, IntKind.min, IntKind.max, IntKind.bits, IntKind.signed] at h; omega
/-- A contract of a statement, as the row asks for it. -/
theorem law_calls {P : Program} {w : World} {f : FuncId} {args : List Value} (h : Tri P w f args [] fun v m => v = .bool true ∧ m = []) :
    Calls P f args.toArray w fun e w' => e = .returned (.bool true) ∧ Below w.heap.size w w' :=
  (h [] w (Sat.start w)).mono fun e w' ⟨v, m, he, ⟨hv, _⟩, s⟩ => ⟨by rw [he, hv], s.below⟩
end Go.Proofs.YtmedbdcjniggcaaDoor.SL
