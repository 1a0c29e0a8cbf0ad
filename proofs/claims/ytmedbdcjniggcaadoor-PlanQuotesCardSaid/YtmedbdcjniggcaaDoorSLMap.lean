/- Maps that are held: lookups, stores, deletes, ranges. -/
import Derived.Test.YtmedbdcjniggcaaDoorSLRange
import Derived.Maps.RangeRun
set_option linter.unusedVariables false
set_option linter.unusedSimpArgs false
namespace Go.Proofs.YtmedbdcjniggcaaDoor.SL
open Go Go.RowKit
open Go.MapKept (Stamped IsKey)

theorem nodup_inj {α : Type _} {l : List α} (h : l.Nodup) {i j : Nat} {a : α} (hi : l[i]? = some a) (hj : l[j]? = some a) : i = j := by
  obtain ⟨h1, e1⟩ := List.getElem?_eq_some_iff.1 hi
  obtain ⟨h2, e2⟩ := List.getElem?_eq_some_iff.1 hj
  have hp := List.pairwise_iff_getElem.1 h
  rcases Nat.lt_trichotomy i j with h3 | h3 | h3
  · exact absurd (e1.trans e2.symm) (hp i j h1 h2 h3)
  · exact h3
  · exact absurd (e2.trans e1.symm) (hp j i h2 h1 h3)
/-- A map that is held: its keys (of the kind d, no two alike) and values, in the order in which they came. -/
def MapA (d : TypeDesc) (mb : Nat) (kvs : List (Value × Value)) : HP := fun h =>
  ∃ es clock, h mb = some (.map es clock) ∧ Stamped es clock ∧ (∀ x ∈ es.toList, IsKey d x.key) ∧ es.toList.map (fun e => (e.key, e.val)) = kvs
/-- One atom's block is another object. -/
theorem Sat.putAt {w0 w w' : World} {l : List HP} {A A' : HP} (s : Sat w0 w l) {k b : Nat} {o' : Obj} (hk : nth k l = some A) (hA : ∀ h, A h → ∃ o, h b = some o) (hA' : ∀ h, A h → (∀ b o, h b = some o → w.heap[b]? = some o) → A' (fun x => if x = b then some o' else h x))
    (hb : w'.heap[b]? = some o') (hother : ∀ c, c ≠ b → w'.heap[c]? = w.heap[c]?) (hsize : w'.heap.size = w.heap.size) (hos : w'.os = w.os) (htape : w'.tape = w.tape) (hout : w'.output = w.output) :
    Sat w0 w' (setAt k A' l) := by
  obtain ⟨r, hr, hset⟩ := nth_pull hk
  refine Sat.perm ?_ (hset A').symm
  obtain ⟨bel, h, ⟨a, c, hAa, hl, hd, la, lc⟩, kk⟩ := s.perm hr
  obtain ⟨o, ho⟩ := hA a hAa
  have hge := (kk b o (la _ _ ho)).1
  refine ⟨⟨hos.trans bel.os, htape.trans bel.tape, hout.trans bel.output, by rw [hsize]; exact bel.size, fun i hi => (hother i (by omega)).trans (bel.block i hi)⟩, un (fun x => if x = b then some o' else a x) c, ?_, ?_⟩
  · have dj : Disj (fun x => if x = b then some o' else a x) c := fun x => by
      by_cases e : x = b
      · subst e
        refine .inr ?_
        rcases hd x with f | f
        · rw [ho] at f; cases f
        · exact f
      · rcases hd x with f | f
        · left; simp [e, f]
        · exact .inr f
    exact ⟨_, c, hA' a hAa (fun b o e => (kk b o (la _ _ e)).2), hl, dj, un_left _ _, un_right dj⟩
  · intro x ox e
    unfold un at e
    by_cases hx : x = b
    · subst hx; simp at e; subst e; exact ⟨hge, hb⟩
    · simp only [hx, if_false] at e
      cases ha : a x with
      | some o2 =>
        rw [ha] at e
        simp only [Option.some.injEq] at e
        subst e
        obtain ⟨k1, k2⟩ := kk x _ (la _ _ ha)
        exact ⟨k1, (hother x hx).trans k2⟩
      | none =>
        rw [ha] at e
        obtain ⟨k1, k2⟩ := kk x ox (lc _ _ e)
        exact ⟨k1, (hother x hx).trans k2⟩
section
variable {P : Program} {w0 : World} {n : Nat} {ds : List Deferred} {env : Env} {l : List HP} {o : Oper} {d : TypeDesc} {mb k j : Nat} {kvs : List (Value × Value)} {key v : Value} {t kt et : TypeId} {x y z : Operand}
theorem Sat.map_ {w : World} (s : Sat w0 w l) (hk : nth k l = some (MapA d mb kvs)) : ∃ es clock, w.heap[mb]? = some (.map es clock) ∧ Stamped es clock ∧ (∀ x ∈ es.toList, IsKey d x.key) ∧ es.toList.map (fun e => (e.key, e.val)) = kvs := by
  obtain ⟨h, ⟨es, clock, hb, r⟩, hw⟩ := s.atom hk
  exact ⟨es, clock, (hw _ _ hb).2, r⟩
theorem find_in {es : Array MapEntry} {clock : Nat} (hs : Stamped es clock) (hi : ∀ x ∈ es.toList, IsKey d x.key) (hd : IsKey d key) (hj : (es.toList.map fun e => (e.key, e.val))[j]? = some (key, v)) :
    Instr.findNow d key es.toList 0 = some (some (j, v)) := by
  simp only [List.getElem?_map, Option.map_eq_some_iff, Prod.mk.injEq] at hj
  obtain ⟨e, he, hek, hev⟩ := hj
  rcases MapKept.findNow_spec hd es.toList 0 hi with ⟨_, h2⟩ | ⟨j', e', h1, h2, h3⟩
  · exact absurd hek (h2 e (List.mem_of_getElem? he))
  · have hjj : j' = j := by
      have hn := hs.2.2
      have a1 : (es.toList.map (·.key))[j']? = some key := by simp [h2, h3]
      have a2 : (es.toList.map (·.key))[j]? = some key := by simp [he, hek]
      exact nodup_inj hn a1 a2
    subst hjj
    rw [h2] at he
    simp only [Option.some.injEq] at he
    subst he
    rw [h1, hev]; simp
theorem find_out {es : Array MapEntry} (hi : ∀ x ∈ es.toList, IsKey d x.key) (hd : IsKey d key) (hno : ∀ p ∈ es.toList.map (fun e => (e.key, e.val)), p.1 ≠ key) :
    Instr.findNow d key es.toList 0 = some none := by
  rcases MapKept.findNow_spec hd es.toList 0 hi with ⟨h1, _⟩ | ⟨j', e', h1, h2, h3⟩
  · exact h1
  · exact absurd h3 (hno (e'.key, e'.val) (List.mem_map.2 ⟨e', List.mem_of_getElem? h2, rfl⟩))
theorem ov_lookupOk (ho : o.op = .lookup t x y true) (ht : P.underlying t = some (.map kt et)) (hkt : P.underlying kt = some d) (hx : ev env x = some (.map (some mb))) (hy : ev env y = some key) (hk : nth k l = some (MapA d mb kvs)) (hd : IsKey d key) (hj : kvs[j]? = some (key, v)) :
    OpV P w0 n ds env l o (.tuple #[v, .bool true]) := fun a w f s => by
  obtain ⟨es, clock, hb, hs, hi, rfl⟩ := s.map_ hk
  unfold execOp
  rw [ho]
  simp [f.eval hx, f.eval hy, Instr.lookup, run_und ht, MapKept.run_getObj_map hb, MapKept.run_checkKey hkt hd, MapKept.run_findKey hkt (find_in hs hi hd hj)]
theorem ov_lookupNo {zv : Value} (ho : o.op = .lookup t x y true) (ht : P.underlying t = some (.map kt et)) (hkt : P.underlying kt = some d) (hz : ∀ w, (zeroValue et).run P w = .ok zv w) (hx : ev env x = some (.map (some mb))) (hy : ev env y = some key) (hk : nth k l = some (MapA d mb kvs)) (hd : IsKey d key) (hno : ∀ p ∈ kvs, p.1 ≠ key) :
    OpV P w0 n ds env l o (.tuple #[zv, .bool false]) := fun a w f s => by
  obtain ⟨es, clock, hb, hs, hi, rfl⟩ := s.map_ hk
  unfold execOp
  rw [ho]
  simp [f.eval hx, f.eval hy, Instr.lookup, run_und ht, MapKept.run_getObj_map hb, MapKept.run_checkKey hkt hd, MapKept.run_findKey hkt (find_out hi hd hno), hz]
theorem ov_lookup1 (ho : o.op = .lookup t x y false) (ht : P.underlying t = some (.map kt et)) (hkt : P.underlying kt = some d) (hx : ev env x = some (.map (some mb))) (hy : ev env y = some key) (hk : nth k l = some (MapA d mb kvs)) (hd : IsKey d key) (hj : kvs[j]? = some (key, v)) :
    OpV P w0 n ds env l o v := fun a w f s => by
  obtain ⟨es, clock, hb, hs, hi, rfl⟩ := s.map_ hk
  unfold execOp
  rw [ho]
  simp [f.eval hx, f.eval hy, Instr.lookup, run_und ht, MapKept.run_getObj_map hb, MapKept.run_checkKey hkt hd, MapKept.run_findKey hkt (find_in hs hi hd hj)]
theorem ov_lookup1No {zv : Value} (ho : o.op = .lookup t x y false) (ht : P.underlying t = some (.map kt et)) (hkt : P.underlying kt = some d) (hz : ∀ w, (zeroValue et).run P w = .ok zv w) (hx : ev env x = some (.map (some mb))) (hy : ev env y = some key) (hk : nth k l = some (MapA d mb kvs)) (hd : IsKey d key) (hno : ∀ p ∈ kvs, p.1 ≠ key) :
    OpV P w0 n ds env l o zv := fun a w f s => by
  obtain ⟨es, clock, hb, hs, hi, rfl⟩ := s.map_ hk
  unfold execOp
  rw [ho]
  simp [f.eval hx, f.eval hy, Instr.lookup, run_und ht, MapKept.run_getObj_map hb, MapKept.run_checkKey hkt hd, MapKept.run_findKey hkt (find_out hi hd hno), hz]
theorem ov_lenMap {ts : Array TypeId} (ho : o.op = .call { callee := .builtin .len, args := #[x], argTypes := #[t] }) (ht : P.underlying t = some (.map kt et)) (hx : ev env x = some (.map (some mb))) (hk : nth k l = some (MapA d mb kvs)) :
    OpV P w0 n ds env l o (.int .i64 (kvs.length : Nat)) := fun a w f s => by
  obtain ⟨es, clock, hb, hs, hi, rfl⟩ := s.map_ hk
  unfold execOp
  rw [ho]
  simp [resolve, invoke, builtin, f.eval hx, Builtin.len_, run_und ht, MapKept.run_getObj_map hb, goInt]
theorem Sat.mapSet {w : World} (s : Sat w0 w l) {kvs' : List (Value × Value)} (es' : Array MapEntry) (clock' : Nat) (hk : nth k l = some (MapA d mb kvs)) (hs' : Stamped es' clock') (hi' : ∀ x ∈ es'.toList, IsKey d x.key) (hm : es'.toList.map (fun e => (e.key, e.val)) = kvs') :
    Sat w0 { w with heap := w.heap.setIfInBounds mb (.map es' clock') } (setAt k (MapA d mb kvs') l) := by
  obtain ⟨es, clock, hb, _⟩ := s.map_ hk
  have hh := MapKept.heap_set (o' := Obj.map es' clock') hb
  exact s.putAt (b := mb) (o' := .map es' clock') hk (fun h ⟨es, clock, a, _⟩ => ⟨_, a⟩) (fun h _ _ => ⟨es', clock', by simp, hs', hi', hm⟩) hh.1 (fun c hc => hh.2 c hc) (by simp) rfl rfl rfl
theorem ot_mapNew (ho : o.op = .mapUpdate t x y z) (ht : P.underlying t = some (.map kt et)) (hkt : P.underlying kt = some d) (hx : ev env x = some (.map (some mb))) (hy : ev env y = some key) (hz : ev env z = some v) (hk : nth k l = some (MapA d mb kvs)) (hd : IsKey d key) (hno : ∀ p ∈ kvs, p.1 ≠ key) :
    OpT P w0 n ds env l o fun u l' => u = undef ∧ l' = setAt k (MapA d mb (kvs ++ [(key, v)])) l := fun a w f s => by
  obtain ⟨es, clock, hb, hs, hi, rfl⟩ := s.map_ hk
  unfold Oper.goesV execOp
  rw [ho]
  simp [f.eval hx, f.eval hy, f.eval hz, Instr.mapUpdate, run_und ht, MapKept.run_getObj_map hb, MapKept.run_checkKey hkt hd, MapKept.run_findKey hkt (find_out hi hd hno), MapKept.run_setObj_map _ hb]
  refine s.mapSet _ _ hk (MapKept.stamped_push hs (val := v) fun x hx e => hno (x.key, x.val) (List.mem_map.2 ⟨x, hx, rfl⟩) e) (fun x hx => ?_) (by simp)
  simp only [Array.toList_push, List.mem_append, List.mem_singleton] at hx
  rcases hx with hx | rfl
  · exact hi x hx
  · exact hd
theorem sameBits_key (m : Nat) (hd : IsKey d key) : Instr.sameBits m key key = true := by
  cases d <;> cases key <;> simp_all [IsKey, Instr.sameBits] <;> cases m <;> simp [Instr.sameBits, MapKept.bytes_beq]
theorem ot_mapOld {u : Value} (ho : o.op = .mapUpdate t x y z) (ht : P.underlying t = some (.map kt et)) (hkt : P.underlying kt = some d) (hx : ev env x = some (.map (some mb))) (hy : ev env y = some key) (hz : ev env z = some u) (hk : nth k l = some (MapA d mb kvs)) (hd : IsKey d key) (hj : kvs[j]? = some (key, v)) :
    OpT P w0 n ds env l o fun u' l' => u' = undef ∧ l' = setAt k (MapA d mb (kvs.set j (key, u))) l := fun a w f s => by
  obtain ⟨es, clock, hb, hs, hi, rfl⟩ := s.map_ hk
  have hj' := hj
  simp only [List.getElem?_map, Option.map_eq_some_iff, Prod.mk.injEq, Array.getElem?_toList] at hj
  obtain ⟨e, he, hek, hev⟩ := hj
  unfold Oper.goesV execOp
  rw [ho]
  simp [f.eval hx, f.eval hy, f.eval hz, Instr.mapUpdate, run_und ht, MapKept.run_getObj_map hb, MapKept.run_checkKey hkt hd, MapKept.run_findKey hkt (find_in hs hi hd hj'), MapKept.run_setObj_map _ hb, Instr.keyThatStays, he, hek, sameBits_key _ hd]
  refine s.mapSet _ _ hk (MapKept.stamped_modify hs j _ (fun _ _ => rfl) (fun e' _ he' => ?_)) (MapKept.isKey_modify hi j _ fun e' he' => ?_) ?_
  · rw [he] at he'; simp only [Option.some.injEq] at he'; subst he'; exact hek.symm
  · rw [he] at he'; simp only [Option.some.injEq] at he'; subst he'; exact hek.symm
  · refine List.ext_getElem? fun q => ?_
    simp only [List.getElem?_map, Array.getElem?_toList, Array.getElem?_modify, List.getElem?_set, List.length_map, Array.length_toList]
    by_cases hq : j = q
    · subst hq
      have hlt : j < es.size := (Array.getElem?_eq_some_iff.1 he).1
      simp [he, hlt]
    · simp [hq]
theorem ot_delete {ts : Array TypeId} (ho : o.op = .call { callee := .builtin .delete, args := #[x, y], argTypes := #[t, kt] }) (ht : P.underlying t = some (.map kt et)) (hkt : P.underlying kt = some d) (hx : ev env x = some (.map (some mb))) (hy : ev env y = some key) (hk : nth k l = some (MapA d mb kvs)) (hd : IsKey d key) (hj : kvs[j]? = some (key, v)) :
    OpT P w0 n ds env l o fun u' l' => u' = .tuple #[] ∧ l' = setAt k (MapA d mb (kvs.eraseIdx j)) l := fun a w f s => by
  obtain ⟨es, clock, hb, hs, hi, rfl⟩ := s.map_ hk
  have hj' := hj
  simp only [List.getElem?_map, Option.map_eq_some_iff, Prod.mk.injEq, Array.getElem?_toList] at hj
  obtain ⟨e, he, hek, hev⟩ := hj
  have hlt : j < es.size := (Array.getElem?_eq_some_iff.1 he).1
  unfold Oper.goesV execOp
  rw [ho]
  simp [resolve, invoke, builtin, f.eval hx, f.eval hy, Builtin.delete_, run_und ht, MapKept.run_getObj_map hb, MapKept.run_checkKey hkt hd, MapKept.run_findKey hkt (find_in hs hi hd hj'), MapKept.run_setObj_map _ hb]
  have hel : (es.eraseIdxIfInBounds j).toList = es.toList.eraseIdx j := by simp [Array.eraseIdxIfInBounds, hlt]
  refine s.mapSet _ _ hk (MapKept.stamped_erase hs j) (fun x hx => ?_) ?_
  · rw [hel] at hx; exact hi x ((List.eraseIdx_sublist _ _).subset hx)
  · rw [hel, ChangeMaps.map_eraseIdx]
theorem ot_makeMap (d : TypeDesc) (ho : o.op = .makeMap t none) : OpT P w0 n ds env l o fun u l' => ∃ b, u = .map (some b) ∧ l' = MapA d b [] :: l := fun a w f s => by
  unfold Oper.goesV execOp
  rw [ho]
  simp [run_makeMap]
  have s1 := s.alloc (.map #[] 0)
  obtain ⟨bel, h, ⟨p, q, hp, hl, hd, lp, lq⟩, kk⟩ := s1
  exact ⟨bel, h, ⟨p, q, ⟨#[], 0, hp, MapKept.stamped_empty 0, by simp, rfl⟩, hl, hd, lp, lq⟩, kk⟩

/-! ### Ranges -/
/-- A range over a map under way: 'told' are the places of what came out. -/
def Rng (d : TypeDesc) (mb r : Nat) (kvs : List (Value × Value)) (told : List Nat) : HP := fun h =>
  ∃ es clock seen c0, h mb = some (.map es clock) ∧ h r = some (.mapIter (some mb) clock seen c0) ∧ Stamped es clock ∧ (∀ x ∈ es.toList, IsKey d x.key) ∧ es.toList.map (fun e => (e.key, e.val)) = kvs ∧ clock ≤ c0 ∧ (told ≠ [] → c0 = clock) ∧
    (seen.toList.map some = told.map fun i => (es[i]?).map (·.born)) ∧ told.Nodup ∧ (∀ i ∈ told, i < kvs.length) ∧ mb ≠ r
theorem ot_range (ho : o.op = .range t x) (ht : P.underlying t = some (.map kt et)) (hx : ev env x = some (.map (some mb))) (hk : nth k l = some (MapA d mb kvs)) :
    OpT P w0 n ds env l o fun u l' => ∃ r, u = .pointer (some ⟨r, 0, none⟩) ∧ l' = setAt k (Rng d mb r kvs []) l := fun a w f s => by
  obtain ⟨es, clock, hb, hs, hi, hm⟩ := s.map_ hk
  unfold Oper.goesV execOp
  rw [ho]
  simp [f.eval hx, run_range_map w t kt et mb es clock ht hb]
  have s1 := s.alloc (.mapIter (some mb) clock #[] clock)
  obtain ⟨r, hr, hset⟩ := nth_pull hk
  refine Sat.perm ?_ (hset _).symm
  have s2 := s1.perm (hr.cons _)
  have hne : mb ≠ w.heap.size := fun e => by rw [e] at hb; simp at hb
  obtain ⟨bel, h, ⟨p, q, hp, ⟨p2, q2, ⟨es2, clock2, g1, g2, g3, g4⟩, hl, hd2, lp2, lq2⟩, hd, lp, lq⟩, kk⟩ := s2
  have hmb : h mb = some (.map es2 clock2) := lq _ _ (lp2 _ _ g1)
  have e1 := (kk _ _ hmb).2
  have e2 : (w.alloc (.mapIter (some mb) clock #[] clock)).heap[mb]? = some (.map es clock) := by
    rw [(MapKept.heap_alloc w _).2 mb (Array.getElem?_eq_some_iff.1 hb).1]; exact hb
  rw [e2] at e1
  simp only [Option.some.injEq, Obj.map.injEq] at e1
  obtain ⟨rfl, rfl⟩ := e1
  refine ⟨bel, h, ⟨un p p2, q2, ⟨es, clock, #[], clock, un_right (hd.le lp2) _ _ g1, un_left _ _ _ _ hp, g2, g3, g4, Nat.le_refl _, fun h => absurd rfl h, rfl, by simp, by simp, hne⟩, hl, ?_, un_le lp (lp2.trans lq), lq2.trans lq⟩, kk⟩
  exact (hd.le lq2).un hd2
theorem Sat.rng_ {w : World} {r : Nat} {told : List Nat} (s : Sat w0 w l) (hk : nth k l = some (Rng d mb r kvs told)) : ∃ es clock seen c0, w.heap[mb]? = some (.map es clock) ∧ w.heap[r]? = some (.mapIter (some mb) clock seen c0) ∧ Stamped es clock ∧ (∀ x ∈ es.toList, IsKey d x.key) ∧ es.toList.map (fun e => (e.key, e.val)) = kvs ∧ clock ≤ c0 ∧ (told ≠ [] → c0 = clock) ∧
    (seen.toList.map some = told.map fun i => (es[i]?).map (·.born)) ∧ told.Nodup ∧ (∀ i ∈ told, i < kvs.length) ∧ mb ≠ r := by
  obtain ⟨h, ⟨es, clock, seen, c0, hb, hr, rest⟩, hw⟩ := s.atom hk
  exact ⟨es, clock, seen, c0, (hw _ _ hb).2, (hw _ _ hr).2, rest⟩
theorem seen_iff {es : Array MapEntry} {seen : Array Nat} {told : List Nat} {clock i : Nat} {e : MapEntry} (hs : Stamped es clock) (hse : seen.toList.map some = told.map fun i => (es[i]?).map (·.born)) (he : es[i]? = some e) : seen.contains e.born = true ↔ i ∈ told := by
  have h1 : (seen.contains e.born = true) ↔ some e.born ∈ seen.toList.map some := by simp
  rw [h1, hse]
  simp only [List.mem_map]
  constructor
  · rintro ⟨q, hq, hb⟩
    simp only [Option.map_eq_some_iff] at hb
    obtain ⟨e', he', hb⟩ := hb
    have a1 : (es.toList.map (·.born))[q]? = some e.born := by simp [he', hb]
    have a2 : (es.toList.map (·.born))[i]? = some e.born := by simp [he]
    have : q = i := nodup_inj hs.2.1 a1 a2
    rwa [← this]
  · intro hi
    exact ⟨i, hi, by simp [he]⟩
theorem nodup_full : ∀ {m : Nat} {told : List Nat}, told.Nodup → (∀ i ∈ told, i < m) → (∀ i, i < m → i ∈ told) → told.length = m := by
  intro m told hn hlt hall
  have h1 : told.Perm (List.range m) := (List.perm_ext_iff_of_nodup hn List.nodup_range).2 fun a => ⟨fun h => List.mem_range.2 (hlt a h), fun h => hall a (List.mem_range.1 h)⟩
  simpa using h1.length_eq
theorem ot_next {r : Nat} {told : List Nat} (ho : o.op = .next x false) (hx : ev env x = some (.pointer (some ⟨r, 0, none⟩))) (hk : nth k l = some (Rng d mb r kvs told)) :
    OpT P w0 n ds env l o fun u l' => (told.Perm (List.range kvs.length) ∧ u = .tuple #[.bool false] ∧ l' = l) ∨ ∃ i key v, i ∉ told ∧ kvs[i]? = some (key, v) ∧ u = .tuple #[.bool true, key, v] ∧ l' = setAt k (Rng d mb r kvs (told ++ [i])) l := fun a w f s => by
  obtain ⟨es, clock, seen, c0, hb, hr, hs, hi, rfl, hc0, hc1, hse, hnd, hlt, hne⟩ := s.rng_ hk
  unfold Oper.goesV execOp
  rw [ho]
  rcases run_next_at (P := P) w o.type r mb clock c0 seen es clock hr hb hs.1 hc0 with ⟨h0, hrun⟩ | ⟨e, he, w1, hw1, hrun⟩
  · simp [f.eval hx, hrun]
    refine ⟨l, ⟨?_, rfl⟩, s⟩
    refine (List.perm_ext_iff_of_nodup hnd List.nodup_range).2 fun q => ⟨fun h => List.mem_range.2 (by simpa using hlt q h), fun h => ?_⟩
    have hq : q < es.size := by simpa using List.mem_range.1 h
    have hqe : es[q]? = some es[q] := Array.getElem?_eq_getElem hq
    exact (seen_iff hs hse hqe).1 (all_seen es seen h0 _ (by simp))
  · simp [f.eval hx, hrun]
    obtain ⟨hmem, hun⟩ := mem_left he
    obtain ⟨i, hi2⟩ := List.getElem?_of_mem hmem
    rw [Array.getElem?_toList] at hi2
    have hnot : i ∉ told := fun h => by rw [(seen_iff hs hse hi2).2 h] at hun; cases hun
    refine ⟨_, ⟨i, hnot, _, _, ⟨e, hi2, rfl, rfl⟩, ⟨rfl, rfl⟩, rfl⟩, ?_⟩
    have s1 : Sat w0 w1 l := by rcases hw1 with rfl | rfl; exact s; exact s.drew _
    have hr1 : w1.heap[r]? = some (.mapIter (some mb) clock seen c0) := by rcases hw1 with rfl | rfl <;> exact hr
    have hb1 : w1.heap[mb]? = some (.map es clock) := by rcases hw1 with rfl | rfl <;> exact hb
    have hh := MapKept.heap_set (o' := Obj.mapIter (some mb) clock (seen.push e.born) clock) hr1
    refine s1.putAt (b := r) (o' := .mapIter (some mb) clock (seen.push e.born) clock) hk (fun h ⟨_, _, _, _, _, a, _⟩ => ⟨_, a⟩) ?_ hh.1 (fun c hc => hh.2 c hc) (by simp [ChangeMaps.setBlock]) rfl rfl rfl
    rintro h ⟨es', clock', seen', c0', g1, g2, g3, g4, g5, g6, g7, g8, g9, g10, g11⟩ hwh
    have e1 := hwh _ _ g1
    rw [hb1] at e1
    simp only [Option.some.injEq, Obj.map.injEq] at e1
    obtain ⟨rfl, rfl⟩ := e1
    have e2 := hwh _ _ g2
    rw [hr1] at e2
    simp only [Option.some.injEq, Obj.mapIter.injEq, true_and] at e2
    obtain ⟨rfl, rfl⟩ := e2
    refine ⟨es, clock, seen.push e.born, clock, by simp [hne, g1], by simp, g3, g4, g5, Nat.le_refl _, fun _ => rfl, ?_, ?_, ?_, hne⟩
    · simp [hse, hi2]
    · rw [List.nodup_append]
      exact ⟨hnd, by simp, fun a ha b hb => by simp at hb; subst hb; exact fun e => hnot (e ▸ ha)⟩
    · intro q hq
      rcases List.mem_append.1 hq with hq | hq
      · exact hlt q hq
      · simp at hq; subst hq
        simpa using (Array.getElem?_eq_some_iff.1 hi2).1
theorem ov_entry {r i : Nat} {told : List Nat} (ho : o.op = .entry x) (hx : ev env x = some (.pointer (some ⟨r, 0, none⟩))) (hk : nth k l = some (Rng d mb r kvs (told ++ [i]))) (hj : kvs[i]? = some (key, v)) : OpV P w0 n ds env l o (.tuple #[key, v]) := fun a w f s => by
  obtain ⟨es, clock, seen, c0, hb, hr, hs, hi, rfl, hc0, hc1, hse, hnd, hlt, hne⟩ := s.rng_ hk
  have hcc := hc1 (by simp)
  subst hcc
  simp only [List.getElem?_map, Option.map_eq_some_iff, Prod.mk.injEq, Array.getElem?_toList] at hj
  obtain ⟨e, he, hek, hev⟩ := hj
  rw [List.map_append] at hse
  simp only [List.map_cons, List.map_nil, he, Option.map_some] at hse
  have hback : ∃ seen' : Array Nat, seen = seen'.push e.born := by
    have hl : seen.toList.length = told.length + 1 := by simpa using congrArg List.length hse
    rcases List.eq_nil_or_concat seen.toList with h0 | ⟨ys, y, hy⟩
    · rw [h0] at hl; simp at hl
    · rw [hy] at hse
      simp only [List.concat_eq_append, List.map_append, List.map_cons, List.map_nil] at hse
      have := (List.append_inj' hse rfl).2
      simp only [List.cons.injEq, Option.some.injEq, and_true] at this
      subst this
      exact ⟨ys.toArray, by apply Array.ext'; simp [hy]⟩
  obtain ⟨seen', rfl⟩ := hback
  unfold execOp
  rw [ho]
  simp [f.eval hx, run_entry_at w r mb _ seen' es _ e hr hb (by rw [← Array.getElem?_toList] at he; exact List.mem_of_getElem? he) hs.2.1, hek, hev]
/-- The range is over: the map. -/
theorem at_rngEnd {R : Act → World → Prop} (k : Nat) {r : Nat} {told : List Nat} (hk : nth k l = some (Rng d mb r kvs told)) (h : At w0 n ds R env (setAt k (MapA d mb kvs) l)) : At w0 n ds R env l := fun a w f s => by
  obtain ⟨q, hr, hset⟩ := nth_pull hk
  refine h a w f (Sat.perm (l := MapA d mb kvs :: q) ?_ (hset _).symm)
  exact (s.perm hr).imp fun h ⟨x, y, ⟨es, clock, seen, c0, g1, g2, g3, g4, g5, _⟩, b, c, dd, e⟩ => ⟨x, y, ⟨es, clock, g1, g3, g4, g5⟩, b, c, dd, e⟩
end
end Go.Proofs.YtmedbdcjniggcaaDoor.SL
