/- What a row hands in, opened with its sizes: every string within a flat struct, and a slice's length, against the machine's reach. -/
import Derived.Test.YtmedbdcjniggcaaDoorSLOpen
set_option linter.unusedVariables false
set_option linter.unusedSimpArgs false
namespace Go.Proofs.YtmedbdcjniggcaaDoor.SL
open Go Go.RowKit Go.ChangeShapes Go.WideShapes Go.Deep
section
variable {H : Type} {enc : TypeId × Value → H} {P : Program} {w : World} {base : Nat} {spare : Nat → Bool} {held : Bool}
theorem flat_weight : ∀ (m : Nat) (t : TypeId) (ks : List SK) (fuel : Nat) (cs : List Value) (x : DataW H × List MemPlace), flatOf P m t = some ks → DataW.trod enc P w base spare held fuel t cs = some x → ∀ s : ByteArray, Value.string s ∈ cs → s.size ∈ x.1.weights P t
  | 0, _, _, _, _, _, h, _, _, _ => by simp [flatOf] at h
  | m + 1, t, ks, 0, cs, x, _, h, _, _ => by simp [DataW.trod] at h
  | m + 1, t, ks, fuel + 1, cs, x, hf, h, s, hs => by
    have hfit := flat_open (m + 1) t ks (fuel + 1) cs x hf h
    simp only [flatOf] at hf
    simp only [DataW.trod] at h
    split at hf
    · rename_i k hu
      simp at hf
      subst hf
      match cs, hfit with
      | [c], ⟨hc, _⟩ =>
        simp at hs
        subst hs
        exact hc.elim
    · rename_i hu
      simp at hf
      subst hf
      match cs, hfit with
      | [c], ⟨hc, _⟩ =>
        simp at hs
        subst hs
        exact hc.elim
    · rename_i hu
      simp at hf
      subst hf
      rw [hu] at h
      match cs, hfit, h with
      | [c], ⟨hc, _⟩, h =>
        simp at hs
        subst hs
        simp only [Option.ite_none_right_eq_some, Option.some.injEq] at h
        obtain ⟨_, rfl⟩ := h
        simp only [DataW.weights, List.mem_singleton]
        exact (Array.length_toList).symm
    · rename_i fs hu
      rw [hu] at h
      split at hf
      · rename_i ls hls
        split at hf
        · rename_i hb
          simp at hf
          subst hf
          have hlen := Nat.eq_of_beq_eq_true hb
          have key : ∀ (l : List Field) (off : Nat) (ls : List SK) (xs : List (DataW H × List MemPlace)), flatFs P (flatOf P m) off l = some ls →
              (l.mapM fun f => DataW.trod enc P w base spare held fuel f.type ((cs.drop f.offset).take (P.cellsOf f.type))) = some xs → Value.string s ∈ (cs.drop off).take ls.length → s.size ∈ DataW.weightsEach P (l.map (·.type)) (xs.map (·.1)) := by
            intro l
            induction l with
            | nil => intro off ls xs h1 _ hm; simp [flatFs] at h1; subst h1; simp at hm
            | cons g r ih =>
              intro off ls xs h1 h2 hm
              simp only [flatFs] at h1
              split at h1
              · rename_i kk e1 e2
                have hoff := Nat.eq_of_beq_eq_true e1
                split at h1
                · rename_i rs e3 e4
                  have hcell := Nat.eq_of_beq_eq_true e3
                  simp at h1
                  subst h1
                  simp only [List.mapM_cons, Option.bind_eq_bind, Option.bind_eq_some_iff] at h2
                  obtain ⟨y, hy, ys, hys, hxs⟩ := h2
                  have hxs : xs = y :: ys := by simpa using hxs.symm
                  subst hxs
                  have ih' := ih (off + kk.length) rs ys e4 hys
                  rw [hoff, hcell] at hy
                  have hg := flat_weight m g.type kk fuel _ y e2 hy s
                  rw [List.length_append, List.take_add, List.drop_drop] at hm
                  simp only [List.map_cons, DataW.weightsEach, List.mem_append] at hm ⊢
                  rcases hm with hm | hm
                  · exact .inl (hg hm)
                  · exact .inr (ih' hm)
                · cases h1
              · cases h1
          have h' : (if cs.length = P.cellsOf t then (fs.toList.mapM fun f => DataW.trod enc P w base spare held fuel f.type ((cs.drop f.offset).take (P.cellsOf f.type))).map fun xs => (DataW.agg (xs.map (·.1)), xs.flatMap (·.2)) else none) = some x := by
            split at h <;> simp_all
          split at h'
          · rename_i hl
            simp only [Option.map_eq_some_iff] at h'
            obtain ⟨xs, hxs, rfl⟩ := h'
            have := key fs.toList 0 ls xs hls hxs
            rw [List.drop_zero, ← hlen, ← hl, List.take_length] at this
            simp only [DataW.weights, hu]
            exact this hs
          · cases h'
        · cases hf
      · cases hf
    · cases hf
theorem weights_all {x : DataW H} {e : TypeId} : ∀ {l : List (DataW H)}, x ∈ l → ∀ n ∈ x.weights P e, n ∈ DataW.weightsAll P e l
  | y :: l, h, n, hn => by
    simp only [DataW.weightsAll, List.mem_append]
    rcases List.mem_cons.1 h with rfl | h
    · exact .inl hn
    · exact .inr (weights_all h n hn)
theorem sized_each {ts : List TypeId} {ds : List (DataW H)} (h : (DataW.weightsEach P ts ds).all (· ≤ reachBytes) = true) {j : Nat} {t : TypeId} {d : DataW H} (ht : ts[j]? = some t) (hd : ds[j]? = some d) : ∀ n ∈ d.weights P t, n ≤ reachBytes := fun n hn => by
  simpa using List.all_eq_true.1 h _ (DataW.weights_mem_each ht hd n hn)
def strsIn (cs : List Value) : Prop := ∀ s : ByteArray, Value.string s ∈ cs → s.size ≤ reachBytes
theorem open_flats2 {t e : TypeId} {ks : List SK} {m : Nat} {v : Value} {d : DataW H} {ps : List MemPlace} (ht : P.underlying t = some (.slice e)) (hf : flatOf P m e = some ks) (hc : P.cellsOf e = ks.length) (hp : 0 < ks.length)
    {A : Option Addr} {len cap : Nat} (hv : v = .slice A len cap) (h : DataW.Trod enc P w base spare held t v d ps) (hz : ∀ n ∈ d.weights P t, n ≤ reachBytes) :
    ∃ els : List (List Value), els.length = len ∧ len ≤ cap ∧ cap ≤ maxLen ∧ (∀ x ∈ els, fitsL ks x ∧ strsIn x) ∧ Rd (id : List Value → List Value) w ks.length A els ∧ (A = none → cap = 0) ∧ len * P.bytesOf e ≤ reachBytes := by
  subst hv
  obtain ⟨fuel, hfu⟩ := h
  rcases open_slice ht hfu with ⟨hcs, _⟩ | ⟨a, l, c, mm, n, D, Pl, hcs, hb, hl, hm, hmm, hd, hel⟩
  · simp [Value.cells] at hcs
    obtain ⟨rfl, rfl, rfl⟩ := hcs
    exact ⟨[], rfl, Nat.le_refl _, by simp [maxLen], by simp, Rd.nil _ _ _ _, fun _ => rfl, by simp⟩
  · simp [Value.cells] at hcs
    obtain ⟨rfl, rfl, rfl⟩ := hcs
    obtain ⟨rfl, rfl⟩ := Prod.mk.inj hd
    have hlm : len ≤ mm := by rw [hmm]; split <;> omega
    have hbytes : len * P.bytesOf e ≤ reachBytes := by
      have := hz ((((List.range len).map D).length + ((List.range (mm - len)).map fun j => D (len + j)).length) * P.bytesOf e) (by simp [DataW.weights, ht])
      refine Nat.le_trans (Nat.mul_le_mul_right _ ?_) this
      simp
    have hstr : ∀ i, i < len → ∀ n ∈ (D i).weights P e, n ≤ reachBytes := fun i hi n hn => by
      refine hz n ?_
      have hm : n ∈ DataW.weightsAll P e ((List.range len).map D) := weights_all (List.mem_map.2 ⟨i, List.mem_range.2 hi, rfl⟩) n hn
      simp only [DataW.weights, ht, List.mem_cons, List.mem_append]
      exact .inr (.inl hm)
    have hex : ∀ i, i < len → ∃ cs', w.cells? base (a.add (i * P.cellsOf e)) (P.cellsOf e) = some cs' ∧ (fitsL ks cs' ∧ strsIn cs') := fun i hi => by
      obtain ⟨cs', h1, h2⟩ := hel i (by omega)
      exact ⟨cs', h1, flat_open m e ks n cs' _ hf h2, fun s hs => hstr i hi _ (flat_weight m e ks n cs' _ hf h2 s hs)⟩
    have hch : ∃ f : Nat → List Value, ∀ i, i < len → w.cells? base (a.add (i * P.cellsOf e)) (P.cellsOf e) = some (f i) ∧ (fitsL ks (f i) ∧ strsIn (f i)) := by
      classical
      refine ⟨fun i => if h : i < len then (hex i h).choose else [], fun i hi => ?_⟩
      simp only [hi, dif_pos]
      exact (hex i hi).choose_spec
    obtain ⟨f, hfx⟩ := hch
    have hlen : ∀ x ∈ (List.range len).map f, (id x).length = ks.length := fun x hx => by
      obtain ⟨i, hi, rfl⟩ := List.mem_map.1 hx
      exact fitsL_len (hfx i (List.mem_range.1 hi)).2.1
    refine ⟨(List.range len).map f, by simp, hl, hm, fun x hx => ?_, ⟨hlen, fun _ => ⟨a, rfl, fun j u hu => ?_⟩⟩, (fun h => by cases h), hbytes⟩
    · obtain ⟨i, hi, rfl⟩ := List.mem_map.1 hx
      exact (hfx i (List.mem_range.1 hi)).2
    · have hj : j < len * ks.length := by
        have := (List.getElem?_eq_some_iff.1 hu).1
        rw [flat_len hlen] at this
        simpa using this
      have hq : j / ks.length < len := Nat.div_lt_of_lt_mul (by rw [Nat.mul_comm]; exact hj)
      obtain ⟨hcells, hfit, _⟩ := hfx (j / ks.length) hq
      obtain ⟨hl2, hat⟩ := cells?_at hcells
      have hr : j % ks.length < ks.length := Nat.mod_lt _ hp
      have hget : ((List.range len).map f)[j / ks.length]? = some (f (j / ks.length)) := by simp [hq]
      have hv2 : (f (j / ks.length))[j % ks.length]? = some ((f (j / ks.length))[j % ks.length]'(by rw [fitsL_len hfit]; exact hr)) := List.getElem?_eq_getElem _
      have hfl := flat_get (enc := (id : List Value → List Value)) hlen hget hv2
      rw [Nat.mul_comm, Nat.div_add_mod] at hfl
      rw [hfl] at hu
      simp only [Option.some.injEq] at hu
      have h3 := hat _ _ hv2
      rw [hu, hc] at h3
      have hadd : ∀ (p : Addr) (x y : Nat), (p.add x).add y = p.add (x + y) := by
        intro p x y
        unfold Addr.add
        by_cases hx : x = 0
        · subst hx; simp
        · by_cases hy : y = 0
          · subst hy; simp [hx]
          · simp [hx, hy]; omega
      rw [hadd, Nat.mul_comm, Nat.div_add_mod] at h3
      exact h3
theorem open_flat2 {t : TypeId} {fs : Array Field} {ks : List SK} {m : Nat} {v : Value} {d : DataW H} {ps : List MemPlace} {r : Reach} {b0 : Nat} (ht : P.underlying t = some (.struct fs)) (hf : flatOf P m t = some ks) (hval : Value.okWide P w r b0 t v)
    (h : DataW.Trod enc P w base spare held t v d ps) (hz : ∀ n ∈ d.weights P t, n ≤ reachBytes) : ∃ cs : List Value, v = .agg cs.toArray ∧ fitsL ks cs ∧ strsIn cs := by
  obtain ⟨cs, rfl, _⟩ := okWide_struct ht hval
  obtain ⟨fuel, hfu⟩ := h
  exact ⟨cs.toList, by simp, flat_open m t ks fuel _ _ hf hfu, fun s hs => hz _ (flat_weight m t ks fuel _ _ hf hfu s hs)⟩
end
section
variable {H : Type} {enc : TypeId × Value → H}
/-- The wrap of a row whose listed variables are laid, with the world's shape handed on to the contract too. -/
theorem returnsInHanded_of_change_and_shaped {a : Assume} {C : Checked} {os : Os} {f : FuncId} {fn : Func} {s : ChangeSpec} {conds : List PathCond} {apart fresh handsOn again : Bool} {X : World → Array Value → Prop}
    (hX : ∀ (w w' : World) (args : Array Value), w.heap = w'.heap → X w args → X w' args)
    (own : ownKnob C.prog.godebug = none) (started : os.Started) (noInit : C.prog.inits.idxOf? f = none) (hfn : C.prog.funcs[f]? = some fn)
    (witness : ∃ (w : World) (tape : Tape) (i : Input), w.os = os ∧ (w.forCall tape i).Shaped C.prog ∧ i.vars = [] ∧ Input.okWide C.prog (w.forCall tape i) .any w.heap.size f i ∧
      ((s.pre enc C.prog fn conds apart (w.forCall tape i).memory i.args ∧ X (w.forCall tape i).memory i.args) ∧ sizedMet enc C.prog fn (OpenSpec.ofChange s) apart (w.forCall tape i).memory i.args) ∧ a.holds C.prog (lone (Frame.enter C.prog f i.args .normal) [] (w.forCall tape i)))
    (contract : ∀ (W : World) (base : Nat) (args : Array Value) (ds gs : List (DataW H)) (before : List MemPlace),
      (∀ (j : Nat) t v, fn.params[j]? = some t → args[j]? = some v → Value.okWide C.prog W .any base t v) →
      DataW.Whole enc C.prog fn.params.toList s.vars apart W args.toList ds gs before →
      conds.all (PathCond.test C.prog ⟨fn.params.toList, ds, s.plain.varTypes C.prog, gs⟩) = true →
      (DataW.weightsEach C.prog (fn.params.toList ++ s.plain.varTypes C.prog) (ds ++ gs)).all (· ≤ reachBytes) = true → X W args → W.ShapedOpen C.prog →
      a.holds C.prog (lone (Frame.enter C.prog f args .normal) [] W) →
      Calls C.prog f args W fun e W' => ∃ v, e = .returned v ∧ s.post enc C.prog fn apart fresh handsOn again W args v W') :
    ReturnsInHanded a C os f .any (fun w args => (s.pre enc C.prog fn conds apart w args ∧ X w args) ∧ sizedMet enc C.prog fn (OpenSpec.ofChange s) apart w args) (s.post enc C.prog fn apart fresh handsOn again) := by
  refine returnsInHanded_of_calls own started noInit witness ?_
  intro w tape i _ hsh _ hok hpre hholds
  obtain ⟨_, _, _, fn', hfn', _, _, _, _, hval⟩ := hok
  have e : fn' = fn := Option.some.inj (hfn'.symm.trans hfn)
  subst e
  obtain ⟨⟨⟨ds, gs, before, hw, hc⟩, hx⟩, hz⟩ := hpre
  have hw' := DataW.Whole.of_heap (w' := w.forCall tape i) (by rfl) hw
  refine (contract (w.forCall tape i) w.heap.size i.args ds gs before hval hw' hc (hz.weights hw) (hX _ _ _ (by rfl) hx) hsh hholds).mono fun e W' ⟨v, he, hp⟩ => ?_
  subst he
  exact ChangeSpec.post_blind hp
end
end Go.Proofs.YtmedbdcjniggcaaDoor.SL
