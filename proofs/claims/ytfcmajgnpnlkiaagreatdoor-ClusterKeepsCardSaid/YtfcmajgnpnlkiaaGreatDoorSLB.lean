/- Maps that are held: lookups, stores, deletes, ranges. -/
import Derived.Test.YtfcmajgnpnlkiaaGreatDoorSLA
import Derived.Maps.RangeRun
import Derived.Conc.AtomicLaws2
import Derived.Laws.Externs
import Derived.Laws.LoneSync
import Derived.Laws.IdiomStrings
import Derived.Laws.RangeString
import Derived.Lib.AppendStr
import Derived.Lib.UnsafeStr
import Derived.Lib.Strings
import Derived.Lib.Builder
import Derived.Scope
import Derived.Lib.BufferRead
import Derived.Laws.CopyRow
import Derived.Lib.Overlaps
set_option linter.unusedVariables false
set_option linter.unusedSimpArgs false
namespace Go.Proofs.YtfcmajgnpnlkiaaGreatDoor.SL
open Go Go.RowKit
open Go.MapKept (Stamped IsKey)
theorem nodup_inj {α : Type _} {l : List α} (h : l.Nodup) {i j : Nat} {a : α} (hi : l[i]? = some a) (hj : l[j]? = some a) : i = j := by
  obtain ⟨h1, e1⟩ := List.getElem?_eq_some_iff.1 hi;obtain ⟨h2, e2⟩ := List.getElem?_eq_some_iff.1 hj;have hp := List.pairwise_iff_getElem.1 h
  rcases Nat.lt_trichotomy i j with h3 | h3 | h3
  · exact absurd (e1.trans e2.symm) (hp i j h1 h2 h3)
  · exact h3
  · exact absurd (e2.trans e1.symm) (hp j i h2 h1 h3)
def MapA (d : TypeDesc) (mb : Nat) (kvs : List (Value × Value)) : HP := fun h =>
  ∃ es clock, h mb = some (.map es clock) ∧ Stamped es clock ∧ (∀ x ∈ es.toList, IsKey d x.key) ∧ es.toList.map (fun e => (e.key, e.val)) = kvs
theorem Sat.putAt {w0 w w' : World} {l : List HP} {A A' : HP} (s : Sat w0 w l) {k b : Nat} {o' : Obj} (hk : nth k l = some A) (hA : ∀ h, A h → ∃ o, h b = some o) (hA' : ∀ h, A h → (∀ b o, h b = some o → w.heap[b]? = some o) → A' (fun x => if x = b then some o' else h x))
    (hb : w'.heap[b]? = some o') (hother : ∀ c, c ≠ b → w'.heap[c]? = w.heap[c]?) (hsize : w'.heap.size = w.heap.size) (hos : w'.os = w.os) (htape : w'.tape = w.tape) (hout : w'.output = w.output) :
    Sat w0 w' (setAt k A' l) := by
  obtain ⟨r, hr, hset⟩ := nth_pull hk;refine Sat.perm ?_ (hset A').symm;obtain ⟨bel, h, ⟨a, c, hAa, hl, hd, la, lc⟩, kk⟩ := s.perm hr;obtain ⟨o, ho⟩ := hA a hAa;have hge := (kk b o (la _ _ ho)).1;refine ⟨⟨hos.trans bel.os, htape.trans bel.tape, hout.trans bel.output, by rw [hsize]; exact bel.size, fun i hi => (hother i (by omega)).trans (bel.block i hi)⟩, un (fun x => if x = b then some o' else a x) c, ?_, ?_⟩
  · have dj : Disj (fun x => if x = b then some o' else a x) c := fun x => by
      by_cases e : x = b
      · subst e;refine .inr ?_
        rcases hd x with f | f
        · rw [ho] at f; cases f
        · exact f
      · rcases hd x with f | f
        · left; simp [e, f]
        · exact .inr f
    exact ⟨_, c, hA' a hAa (fun b o e => (kk b o (la _ _ e)).2), hl, dj, un_left _ _, un_right dj⟩
  · intro x ox e
    unfold un at e
    by_cases hx : x = b
    · subst hx; simp at e; subst e; exact ⟨hge, hb⟩
    · simp only [hx, if_false] at e
      cases ha : a x with
      | some o2 =>
        rw [ha] at e;simp only [Option.some.injEq] at e;subst e;obtain ⟨k1, k2⟩ := kk x _ (la _ _ ha);exact ⟨k1, (hother x hx).trans k2⟩
      | none =>
        rw [ha] at e;obtain ⟨k1, k2⟩ := kk x ox (lc _ _ e);exact ⟨k1, (hother x hx).trans k2⟩
section
variable {P : Program} {w0 : World} {n : Nat} {ds : List Deferred} {env : Env} {l : List HP} {o : Oper} {d : TypeDesc} {mb k j : Nat} {kvs : List (Value × Value)} {key v : Value} {t kt et : TypeId} {x y z : Operand}
theorem Sat.map_ {w : World} (s : Sat w0 w l) (hk : nth k l = some (MapA d mb kvs)) : ∃ es clock, w.heap[mb]? = some (.map es clock) ∧ Stamped es clock ∧ (∀ x ∈ es.toList, IsKey d x.key) ∧ es.toList.map (fun e => (e.key, e.val)) = kvs := by
  obtain ⟨h, ⟨es, clock, hb, r⟩, hw⟩ := s.atom hk;exact ⟨es, clock, (hw _ _ hb).2, r⟩
theorem find_in {es : Array MapEntry} {clock : Nat} (hs : Stamped es clock) (hi : ∀ x ∈ es.toList, IsKey d x.key) (hd : IsKey d key) (hj : (es.toList.map fun e => (e.key, e.val))[j]? = some (key, v)) :
    Instr.findNow d key es.toList 0 = some (some (j, v)) := by
  simp only [List.getElem?_map, Option.map_eq_some_iff, Prod.mk.injEq] at hj;obtain ⟨e, he, hek, hev⟩ := hj
  rcases MapKept.findNow_spec hd es.toList 0 hi with ⟨_, h2⟩ | ⟨j', e', h1, h2, h3⟩
  · exact absurd hek (h2 e (List.mem_of_getElem? he))
  · have hjj : j' = j := by
      have hn := hs.2.2;have a1 : (es.toList.map (·.key))[j']? = some key := by simp [h2, h3]
      have a2 : (es.toList.map (·.key))[j]? = some key := by simp [he, hek]
      exact nodup_inj hn a1 a2
    subst hjj;rw [h2] at he;simp only [Option.some.injEq] at he;subst he;rw [h1, hev]; simp
theorem find_out {es : Array MapEntry} (hi : ∀ x ∈ es.toList, IsKey d x.key) (hd : IsKey d key) (hno : ∀ p ∈ es.toList.map (fun e => (e.key, e.val)), p.1 ≠ key) :
    Instr.findNow d key es.toList 0 = some none := by
  rcases MapKept.findNow_spec hd es.toList 0 hi with ⟨h1, _⟩ | ⟨j', e', h1, h2, h3⟩
  · exact h1
  · exact absurd h3 (hno (e'.key, e'.val) (List.mem_map.2 ⟨e', List.mem_of_getElem? h2, rfl⟩))
theorem ov_lookupOk (ho : o.op = .lookup t x y true) (ht : P.underlying t = some (.map kt et)) (hkt : P.underlying kt = some d) (hx : ev env x = some (.map (some mb))) (hy : ev env y = some key) (hk : nth k l = some (MapA d mb kvs)) (hd : IsKey d key) (hj : kvs[j]? = some (key, v)) :
    OpV P w0 n ds env l o (.tuple #[v, .bool true]) := fun a w f s => by
  obtain ⟨es, clock, hb, hs, hi, rfl⟩ := s.map_ hk
  unfold execOp
  rw [ho];simp [f.eval hx, f.eval hy, Instr.lookup, run_und ht, MapKept.run_getObj_map hb, MapKept.run_checkKey hkt hd, MapKept.run_findKey hkt (find_in hs hi hd hj)]
theorem ov_lookupNo {zv : Value} (ho : o.op = .lookup t x y true) (ht : P.underlying t = some (.map kt et)) (hkt : P.underlying kt = some d) (hz : ∀ w, (zeroValue et).run P w = .ok zv w) (hx : ev env x = some (.map (some mb))) (hy : ev env y = some key) (hk : nth k l = some (MapA d mb kvs)) (hd : IsKey d key) (hno : ∀ p ∈ kvs, p.1 ≠ key) :
    OpV P w0 n ds env l o (.tuple #[zv, .bool false]) := fun a w f s => by
  obtain ⟨es, clock, hb, hs, hi, rfl⟩ := s.map_ hk
  unfold execOp
  rw [ho];simp [f.eval hx, f.eval hy, Instr.lookup, run_und ht, MapKept.run_getObj_map hb, MapKept.run_checkKey hkt hd, MapKept.run_findKey hkt (find_out hi hd hno), hz]
theorem ov_lookup1 (ho : o.op = .lookup t x y false) (ht : P.underlying t = some (.map kt et)) (hkt : P.underlying kt = some d) (hx : ev env x = some (.map (some mb))) (hy : ev env y = some key) (hk : nth k l = some (MapA d mb kvs)) (hd : IsKey d key) (hj : kvs[j]? = some (key, v)) :
    OpV P w0 n ds env l o v := fun a w f s => by
  obtain ⟨es, clock, hb, hs, hi, rfl⟩ := s.map_ hk
  unfold execOp
  rw [ho];simp [f.eval hx, f.eval hy, Instr.lookup, run_und ht, MapKept.run_getObj_map hb, MapKept.run_checkKey hkt hd, MapKept.run_findKey hkt (find_in hs hi hd hj)]
theorem ov_lookup1No {zv : Value} (ho : o.op = .lookup t x y false) (ht : P.underlying t = some (.map kt et)) (hkt : P.underlying kt = some d) (hz : ∀ w, (zeroValue et).run P w = .ok zv w) (hx : ev env x = some (.map (some mb))) (hy : ev env y = some key) (hk : nth k l = some (MapA d mb kvs)) (hd : IsKey d key) (hno : ∀ p ∈ kvs, p.1 ≠ key) :
    OpV P w0 n ds env l o zv := fun a w f s => by
  obtain ⟨es, clock, hb, hs, hi, rfl⟩ := s.map_ hk
  unfold execOp
  rw [ho];simp [f.eval hx, f.eval hy, Instr.lookup, run_und ht, MapKept.run_getObj_map hb, MapKept.run_checkKey hkt hd, MapKept.run_findKey hkt (find_out hi hd hno), hz]
theorem Sat.mapSet {w : World} (s : Sat w0 w l) {kvs' : List (Value × Value)} (es' : Array MapEntry) (clock' : Nat) (hk : nth k l = some (MapA d mb kvs)) (hs' : Stamped es' clock') (hi' : ∀ x ∈ es'.toList, IsKey d x.key) (hm : es'.toList.map (fun e => (e.key, e.val)) = kvs') :
    Sat w0 { w with heap := w.heap.setIfInBounds mb (.map es' clock') } (setAt k (MapA d mb kvs') l) := by
  obtain ⟨es, clock, hb, _⟩ := s.map_ hk;have hh := MapKept.heap_set (o' := Obj.map es' clock') hb;exact s.putAt (b := mb) (o' := .map es' clock') hk (fun h ⟨es, clock, a, _⟩ => ⟨_, a⟩) (fun h _ _ => ⟨es', clock', by simp, hs', hi', hm⟩) hh.1 (fun c hc => hh.2 c hc) (by simp) rfl rfl rfl
theorem ot_mapNew (ho : o.op = .mapUpdate t x y z) (ht : P.underlying t = some (.map kt et)) (hkt : P.underlying kt = some d) (hx : ev env x = some (.map (some mb))) (hy : ev env y = some key) (hz : ev env z = some v) (hk : nth k l = some (MapA d mb kvs)) (hd : IsKey d key) (hno : ∀ p ∈ kvs, p.1 ≠ key) :
    OpT P w0 n ds env l o fun u l' => u = undef ∧ l' = setAt k (MapA d mb (kvs ++ [(key, v)])) l := fun a w f s => by
  obtain ⟨es, clock, hb, hs, hi, rfl⟩ := s.map_ hk
  unfold Oper.goesV execOp
  rw [ho];simp [f.eval hx, f.eval hy, f.eval hz, Instr.mapUpdate, run_und ht, MapKept.run_getObj_map hb, MapKept.run_checkKey hkt hd, MapKept.run_findKey hkt (find_out hi hd hno), MapKept.run_setObj_map _ hb];refine s.mapSet _ _ hk (MapKept.stamped_push hs (val := v) fun x hx e => hno (x.key, x.val) (List.mem_map.2 ⟨x, hx, rfl⟩) e) (fun x hx => ?_) (by simp);simp only [Array.toList_push, List.mem_append, List.mem_singleton] at hx
  rcases hx with hx | rfl
  · exact hi x hx
  · exact hd
theorem sameBits_key (m : Nat) (hd : IsKey d key) : Instr.sameBits m key key = true := by
  cases d <;> cases key <;> simp_all [IsKey, Instr.sameBits] <;> cases m <;> simp [Instr.sameBits, MapKept.bytes_beq]
theorem ot_mapOld {u : Value} (ho : o.op = .mapUpdate t x y z) (ht : P.underlying t = some (.map kt et)) (hkt : P.underlying kt = some d) (hx : ev env x = some (.map (some mb))) (hy : ev env y = some key) (hz : ev env z = some u) (hk : nth k l = some (MapA d mb kvs)) (hd : IsKey d key) (hj : kvs[j]? = some (key, v)) :
    OpT P w0 n ds env l o fun u' l' => u' = undef ∧ l' = setAt k (MapA d mb (kvs.set j (key, u))) l := fun a w f s => by
  obtain ⟨es, clock, hb, hs, hi, rfl⟩ := s.map_ hk;have hj' := hj;simp only [List.getElem?_map, Option.map_eq_some_iff, Prod.mk.injEq, Array.getElem?_toList] at hj;obtain ⟨e, he, hek, hev⟩ := hj
  unfold Oper.goesV execOp
  rw [ho];simp [f.eval hx, f.eval hy, f.eval hz, Instr.mapUpdate, run_und ht, MapKept.run_getObj_map hb, MapKept.run_checkKey hkt hd, MapKept.run_findKey hkt (find_in hs hi hd hj'), MapKept.run_setObj_map _ hb, Instr.keyThatStays, he, hek, sameBits_key _ hd];refine s.mapSet _ _ hk (MapKept.stamped_modify hs j _ (fun _ _ => rfl) (fun e' _ he' => ?_)) (MapKept.isKey_modify hi j _ fun e' he' => ?_) ?_
  · rw [he] at he'; simp only [Option.some.injEq] at he'; subst he'; exact hek.symm
  · rw [he] at he'; simp only [Option.some.injEq] at he'; subst he'; exact hek.symm
  · refine List.ext_getElem? fun q => ?_;simp only [List.getElem?_map, Array.getElem?_toList, Array.getElem?_modify, List.getElem?_set, List.length_map, Array.length_toList]
    by_cases hq : j = q
    · subst hq;have hlt : j < es.size := (Array.getElem?_eq_some_iff.1 he).1;simp [he, hlt]
    · simp [hq]
theorem ot_delete {ts : Array TypeId} (ho : o.op = .call { callee := .builtin .delete, args := #[x, y], argTypes := #[t, kt] }) (ht : P.underlying t = some (.map kt et)) (hkt : P.underlying kt = some d) (hx : ev env x = some (.map (some mb))) (hy : ev env y = some key) (hk : nth k l = some (MapA d mb kvs)) (hd : IsKey d key) (hj : kvs[j]? = some (key, v)) :
    OpT P w0 n ds env l o fun u' l' => u' = .tuple #[] ∧ l' = setAt k (MapA d mb (kvs.eraseIdx j)) l := fun a w f s => by
  obtain ⟨es, clock, hb, hs, hi, rfl⟩ := s.map_ hk;have hj' := hj;simp only [List.getElem?_map, Option.map_eq_some_iff, Prod.mk.injEq, Array.getElem?_toList] at hj;obtain ⟨e, he, hek, hev⟩ := hj;have hlt : j < es.size := (Array.getElem?_eq_some_iff.1 he).1
  unfold Oper.goesV execOp
  rw [ho];simp [resolve, invoke, builtin, f.eval hx, f.eval hy, Builtin.delete_, run_und ht, MapKept.run_getObj_map hb, MapKept.run_checkKey hkt hd, MapKept.run_findKey hkt (find_in hs hi hd hj'), MapKept.run_setObj_map _ hb];have hel : (es.eraseIdxIfInBounds j).toList = es.toList.eraseIdx j := by simp [Array.eraseIdxIfInBounds, hlt]
  refine s.mapSet _ _ hk (MapKept.stamped_erase hs j) (fun x hx => ?_) ?_
  · rw [hel] at hx; exact hi x ((List.eraseIdx_sublist _ _).subset hx)
  · rw [hel, ChangeMaps.map_eraseIdx]
theorem ot_makeMap (d : TypeDesc) (ho : o.op = .makeMap t none) : OpT P w0 n ds env l o fun u l' => ∃ b, u = .map (some b) ∧ l' = MapA d b [] :: l := fun a w f s => by
  unfold Oper.goesV execOp
  rw [ho];simp [run_makeMap];have s1 := s.alloc (.map #[] 0);obtain ⟨bel, h, ⟨p, q, hp, hl, hd, lp, lq⟩, kk⟩ := s1;exact ⟨bel, h, ⟨p, q, ⟨#[], 0, hp, MapKept.stamped_empty 0, by simp, rfl⟩, hl, hd, lp, lq⟩, kk⟩
end
open Go Go.RowKit
section
variable {P : Program} {w0 : World} {n : Nat} {ds : List Deferred} {env : Env} {l : List HP} {o : Oper}
theorem ot_extern {f : FuncId} {e : Array Value → Sem Value} {ts : Array TypeId} {x : Operand} {xs : List Operand} {args : List Value} {v : Value} {l' : List HP} (ho : o.op = .call { callee := .value x, args := xs.toArray, argTypes := ts }) (hx : ev env x = some (.func (.func f) #[] #[])) (hargs : evs env xs = some args)
    (hcall : ∀ (args : Array Value) (w : World), (callFunc f args).run P w = ((e args).run P w).andThen fun v w' => .ok (.value v) w') (hrun : ∀ w, Sat w0 w l → ∃ w', (e args.toArray).run P w = .ok v w' ∧ Sat w0 w' l') :
    OpT P w0 n ds env l o fun u m => u = v ∧ m = l' := fun a w fr s => by
  obtain ⟨w', h1, h2⟩ := hrun w s
  unfold Oper.goesV execOp
  rw [ho];simp [resolve, fr.eval hx, Deferred.ofValue, invoke, hcall, fr.evals hargs, h1];exact h2
theorem setB_splice (cs : Array Value) (off : Nat) (v : Value) : cs.setIfInBounds off v = splice cs off [v] := by rw [splice_cons, splice_nil]
theorem addr_zero (p : Addr) : p.add 0 = p := by unfold Addr.add; simp
theorem ov_sliceTo {α : Type} {t e : TypeId} {x hi : Operand} {A : Option Addr} {c size k : Nat} {ik : IntKind} {xs : List α} (ho : o.op = .slice t x none (some hi) none) (ht : P.underlying t = some (.slice e)) (hs : (P.info? e).map (·.size) = some size)
    (hx : ev env x = some (.slice A xs.length c)) (hl : ev env hi = some (.int ik (k : Int))) (hk : k ≤ xs.length) (hc : xs.length ≤ c) : OpV P w0 n ds env l o (.slice A (xs.take k).length c) := fun fr w f s => by
  unfold execOp
  rw [ho]
  cases hti : P.info? e with
  | none => rw [hti] at hs; cases hs
  | some ti =>
    have : ti.size = size := by simpa [hti] using hs
    have hkc : (k : Int) ≤ (c : Int) := by omega
    have h0 : (A.map fun p => p.add 0) = A := by cases A <;> simp [addr_zero]
    simp [Instr.sliceAt, run_und ht, Instr.slice, Instr.sliceBounds, Instr.sliceBound, f.eval hx, f.eval hl, asIntOf, hkc, sizeOf, typeInfo, hti, this, h0, Nat.min_eq_left hk];intro h; omega
theorem nth_splice1 {cs : Array Value} {p q : Nat} {v : Value} : nth q (splice cs p [v]).toList = if q = p ∧ p < cs.size then some v else nth q cs.toList := by
  rw [← setB_splice];simp only [nth_list, Array.toList_setIfInBounds, List.getElem?_set, Array.length_toList]
  by_cases h : p = q
  · subst h
    by_cases h2 : p < cs.size
    · simp [h2]
    · simp [h2] <;> omega
  · rw [if_neg h, if_neg (fun e => h e.1.symm)]
variable {b off k : Nat} {cs : Array Value} {t : TypeId} {kd : IntKind} {m d : Int}
theorem x_load (hk : nth k l = some (pt b (.cells cs t (0, 0)))) (hv : nth off cs.toList = some (.int kd m)) : ∀ w, Sat w0 w l → ∃ w', (Extern.Atomic.loadT (.int kd) [.pointer (some ⟨b, off, none⟩)].toArray).run P w = .ok (.int kd m) w' ∧ Sat w0 w' l := fun w s => by
  refine ⟨w, ?_, s⟩
  change Sem.run P (do Extern.Atomic.read (.int kd) (← asAddr (.pointer (some ⟨b, off, none⟩)))) w = _
  simp [Extern.Atomic.read, asAddr, s.ld hk hv]
theorem x_add (hk : nth k l = some (pt b (.cells cs t (0, 0)))) (hv : nth off cs.toList = some (.int kd m)) : ∀ w, Sat w0 w l → ∃ w', (Extern.Atomic.update (Op.intArith .add) kd true [.pointer (some ⟨b, off, none⟩), .int kd d].toArray).run P w = .ok (.int kd (kd.wrap (m + d))) w' ∧ Sat w0 w' (setAt k (pt b (.cells (cs.setIfInBounds off (.int kd (kd.wrap (m + d)))) t)) l) := fun w s =>
  ⟨_, Conc.run_add_entry (s.ld hk hv) (s.frozen hk _ _), s.setCell hk off _⟩
theorem x_casHit {old : Int} (hk : nth k l = some (pt b (.cells cs t (0, 0)))) (hv : nth off cs.toList = some (.int kd m)) (hm : m = old) : ∀ w, Sat w0 w l → ∃ w', (Extern.Atomic.casT (.int kd) [.pointer (some ⟨b, off, none⟩), .int kd old, .int kd d].toArray).run P w = .ok (.bool true) w' ∧ Sat w0 w' (setAt k (pt b (.cells (cs.setIfInBounds off (.int kd d)) t)) l) := fun w s => by
  subst hm;exact ⟨_, (Conc.casT_eq m d) ▸ Conc.run_cas_hit_entry (s.ld hk hv) (s.frozen hk _ _), s.setCell hk off _⟩
theorem x_store {u : Value} (hk : nth k l = some (pt b (.cells cs t (0, 0)))) (hv : nth off cs.toList = some u) : ∀ w, Sat w0 w l → ∃ w', (Extern.Atomic.storeT [.pointer (some ⟨b, off, none⟩), .int kd d].toArray).run P w = .ok (.tuple #[]) w' ∧ Sat w0 w' (setAt k (pt b (.cells (cs.setIfInBounds off (.int kd d)) t)) l) := fun w s => by
  refine ⟨_, ?_, s.setCell hk off _⟩
  change Sem.run P (do
    store (← asAddr (.pointer (some ⟨b, off, none⟩))) (.int kd d) .atomic
    pure Extern.Atomic.none_) w = _
  simp [asAddr, s.ld hk hv, s.frozen hk, run_store P w ⟨b, off, none⟩ (.int kd d) .atomic rfl, Extern.Atomic.none_]
end
theorem rd_dropA {α : Type} {enc : α → List Value} {w0 w : World} {l : List HP} {k : Nat} {e : TypeId} {size : Nat} {A : Option Addr} {c : Nat} {xs : List α} (s : Sat w0 w l) (hk : nth k l = some (Row enc e size A c xs)) (j : Nat) : Rd enc w size (dropA A c j size) (xs.drop j) := by
  by_cases hj : xs.length ≤ j
  · rw [List.drop_eq_nil_of_le hj];exact Rd.nil enc w size _
  · have hle := (s.rowLen hk).1;have r := s.rd hk;obtain ⟨ad, ea, _⟩ := r.at_ (by intro e; rw [e] at hj; simp at hj);subst ea;have : dropA (some ad) c j size = some (ad.add (j * size)) := by unfold dropA; rw [if_neg (by omega)]; rfl
    rw [this];exact r.drop j
open Go Go.RowKit
def laid : List (Nat × Nat) → Array Bool → Array Bool
  | [], l => l
  | (_, i) :: r, l => laid r (l.setIfInBounds i true)
section
variable {ro : Option Nat} {P : Program} {w0 : World} {n : Nat} {ds : List Deferred} {env : Env} {l : List HP} {Q : Exit → Act → World → Prop} {ops : Array Oper} {S S2 : List HP} {e f : Nat} {listed : Array Bool}
abbrev left (P : Program) (ops : Array Oper) (w0 : World) (S S2 : List HP) (e : Nat) (Q : Exit → Act → World → Prop) (f : Nat) (listed : Array Bool) : Act → World → Prop :=
  anyC P ops (cls e (fun w => Sat w0 w S) (fun w => Sat w0 w S2)) (Q .normal) f listed
theorem aq_v0 {ops : Array Oper} {o : Oper} {rest : List (Nat × Oper)} {v : Value} {d : Nat} (h : OpV P w0 n ds env l o v) (hg : o.guard = none) (hd : o.dst = some d) (hn : Nat.blt d n = true)
    (k : (∀ w, Sat w0 w l → Sat w0 w S) ∧ At w0 n ds (pi P ops w0 S2 Q S rest) ((d, v) :: env) l) : At w0 n ds (pi P ops w0 S2 Q S ((0, o) :: rest)) env l := fun a w f s => by
  simp only [wpPi, Region.wanted, hg, if_true]
  unfold Oper.goesV
  rw [h a w f s];exact ⟨k.1 w s, by rw [hd]; exact k.2 _ w (f.put d v hn) s⟩
end
open Go Go.RowKit
def TriD (P : Program) (w0 : World) (f : FuncId) (args : List Value) (pre : List HP) (Post : Value → List HP → Prop) : Prop :=
  ∀ (F : List HP) (w : World) (u : FrameMode), Sat w0 w (pre ++ F) → CallsDIn (FW none) 0 P f args.toArray u w fun e u' w' => u' = u ∧ ∃ v post, e = .returned v ∧ Post v post ∧ Sat w0 w' (post ++ F)
def DPost (P : Program) (w0 : World) (fn : Func) (Q : Value → List HP → Prop) (F : List HP) : Exit → Act → World → Prop :=
  bodyPost P fn fun e w' => ∃ v post, e = .returned v ∧ Q v post ∧ Sat w0 w' (post ++ F)
theorem triD_of {P : Program} {w0 : World} {f : FuncId} {fn : Func} {c : Code} {args : List Value} {pre : List HP} {Q : Value → List HP → Prop} (hf : P.funcs[f]? = some fn) (hb : fn.body = some c)
    (hn : Nat.ble args.length fn.ntmps = true) (h : ∀ F, At w0 fn.ntmps [] (gwp none P c (DPost P w0 fn Q F)) (argEnv 0 args) (pre ++ F)) : TriD P w0 f args pre Q := by
  intro F w u s;refine callsDIn_of_wp (F := FW none) (n := 0) hf hb trivial (h F _ w ⟨?_, rfl, ?_⟩ s)
  · have := Nat.le_of_ble_eq_true hn
    simp; omega
  · intro t v e;obtain ⟨_, h2⟩ := look_argEnv args 0 e;simp only [Nat.sub_zero] at h2;have hlt : t < args.length := (List.getElem?_eq_some_iff.1 h2).1;rw [Array.getElem?_append_left (by simpa using hlt)]
    simpa using h2
section
variable {P : Program} {w0 : World} {n : Nat} {ds : List Deferred} {env : Env} {l : List HP} {fn : Func} {Q : Value → List HP → Prop} {F : List HP}
theorem at_finD {v : Value} (hr : ∀ a w, Fr n [] env a → Sat w0 w l → (results fn a.tmps).run P w = .ok v w) (h : ∃ post, Q v post ∧ ∀ w, Sat w0 w l → Sat w0 w (post ++ F)) : At w0 n [] (DPost P w0 fn Q F .ret) env l :=
  fun a w f s => let ⟨post, hQ, hS⟩ := h; ⟨f.defers, v, hr a w f s, v, post, rfl, hQ, hS w s⟩
theorem at_endD (h : At w0 n ds (DPost P w0 fn Q F .ret) env l) : At w0 n ds (DPost P w0 fn Q F .normal) env l := h
theorem at_defer {ops : Array Oper} {R : Exit → Act → World → Prop} {rest : List Oper} {o : Oper} {f : FuncId} {ts : Array TypeId} {x : Operand} {xs : List Operand} {args first caps : List Value}
    (ho : o.op = .defer { callee := .value x, args := xs.toArray, argTypes := ts }) (hg : o.guard = none) (hd : o.dst = none) (hx : ev env x = some (.func (.func f) first.toArray caps.toArray)) (hargs : evs env xs = some args)
    (k : At w0 n ({ target := .fn (.func f) caps.toArray, args := first.toArray ++ args.toArray } :: ds) (gList none P ops R rest) env l) : At w0 n ds (gList none P ops R (o :: rest)) env l := fun a w fr s => by
  refine gList_plain hg ⟨fun _ _ => trivial, ?_⟩
  have hrun : (o.semAt (FW none).round a.eval).run P w = .ok (.defer { target := .fn (.func f) caps.toArray, args := first.toArray ++ args.toArray }) w := by
    show (Oper.semAt none a.eval o).run P w = _
    rw [Oper.semAt_none]
    unfold execOp
    rw [ho];simp [resolve, fr.eval hx, Deferred.ofValue, fr.evals hargs]
  rw [hrun, Oper.uponIn_defer, hd];exact k _ w ⟨fr.size, by simp [Act.put, fr.defers], fr.has⟩ s
theorem at_leave {f : FuncId} {cap dargs : Array Value} {vs : List Value} {ks : List Nat} {pre r : List HP} {PD : Value → List HP → Prop} (hf : ∀ (args : Array Value) (w : World), (callFunc f args).run P w = .ok (.enter f args) w)
    (has : dargs ++ cap = vs.toArray) (spec : TriD P w0 f vs pre PD) (hks : pulls ks l = some (pre, r)) (k : ∀ v m, PD v m → At w0 n ds (Post P w0 fn Q F .ret) env (m ++ r)) :
    At w0 n ({ target := .fn (.func f) cap, args := dargs } :: ds) (Post P w0 fn Q F .ret) env l := fun a w fr s => by
  show LeavesInM _ _ _ _ _ _ a.defers _ _
  rw [fr.defers];refine ⟨by simp, .inr ⟨fun _ => by simp [FW, Fence.wide] at *, _, _, f, vs.toArray, rfl, ?_, fun _ _ => trivial, (spec r w .returning (s.pulls hks)).mono ?_⟩⟩
  · rw [← has];simp [invoke, hf]
  · rintro e u' w' ⟨rfl, v, m, rfl, hp, s'⟩;exact k v m hp { a with defers := ds } w' ⟨fr.size, rfl, fr.has⟩ s'
theorem ov_unsafe {o : Oper} {src dst t : TypeId} {x : Operand} {k b off : Nat} {cs : Array Value} {ty : TypeId} {v : Value} (ho : o.op = .convert src dst x) (hs : P.underlying src = some (.pointer t)) (hd : P.underlying dst = some .unsafePointer) (hsz : (P.info? t).map (fun i => decide (i.size = 0)) = some false)
    (hx : ev env x = some (.pointer (some ⟨b, off, none⟩))) (hk : nth k l = some (pt b (.cells cs ty (0, 0)))) (hv : nth off cs.toList = some v) : OpV P w0 n ds env l o (.pointer (some ⟨b, off, none⟩)) := fun a w f s => by
  unfold execOp
  rw [ho];simp [f.eval hx, run_convert_to_unsafe hs hd hsz (s.ld hk hv)]
theorem x_mark0 (m : Mark) : ∀ w, Sat w0 w l → ∃ w', ((fun (_ : Array Value) => do Go.mark m; pure Extern.Race.none_ : Array Value → Sem Value) ([] : List Value).toArray).run P w = .ok (.tuple #[]) w' ∧ Sat w0 w' l := fun w s => ⟨w, rfl, s⟩
theorem x_marked (m : Addr → Mark) (ad : Addr) : ∀ w, Sat w0 w l → ∃ w', (Extern.Race.marked m [.pointer (some ad)].toArray).run P w = .ok (.tuple #[]) w' ∧ Sat w0 w' l := fun w s => ⟨w, rfl, s⟩
end
open Go Go.RowKit
theorem wpIn_scope {F : Fence} {n : Nat} {P : Program} {Q : Exit → Act → World → Prop} {a : Act} {w : World} {c : Code} (h : c.wpIn F n P (Exit.noGoto Q) a w) : (Code.scope c).wpIn F n P Q a w := by
  intro b k cs hro hb hr;have st : step P (lone (b.atR a (.code (.scope c) :: k)) cs w) = .next (lone (b.atR a (.code c :: .inScope c :: k)) cs w) := step_lone_go (by simp [stepG, stepG.exec, Frame.atR]);have h0 : (lone (b.atR a (.code (.scope c) :: k)) cs w).fenced P F := fenced_calm hb hr rfl;obtain ⟨e, a₁, w₁, hq, harr⟩ := h b (.inScope c :: k) cs hro hb hr
  cases e with
  | normal =>
    have s2 : step P (lone (b.atR a₁ (.inScope c :: k)) cs w₁) = .next (lone (b.atR a₁ k) cs w₁) := step_lone_go (by simp [stepG, stepG.exec, Frame.atR]);exact ⟨.normal, a₁, w₁, hq, .head h0 st (StepsIn.trans harr (.one (fenced_calm hb hr rfl) s2))⟩
  | exit id => exact ⟨.exit id, a₁, w₁, hq, fun k' hk => .head h0 st (harr.1 k' (by simp [exitTo, hk])), fun hs hk => let ⟨k₁, x, y⟩ := harr.2 hs (by simp [exitTo, hk]); ⟨k₁, x, .head h0 st y⟩⟩
  | goto l => exact hq.elim
  | ret => exact ⟨_, a₁, w₁, hq, .of_steps (.one h0 st) harr⟩
  | panic ch => exact ⟨_, a₁, w₁, hq, .of_steps (.one h0 st) harr⟩
  | outgrown => exact ⟨_, a₁, w₁, hq, .of_steps (.one h0 st) harr⟩
section
variable {ro : Option Nat} {w0 : World} {P : Program} {n : Nat} {ds : List Deferred} {env : Env} {l : List HP} {Q : Exit → Act → World → Prop}
theorem at_scope {c : Code} (h : At w0 n ds (gwp ro P c (Exit.noGoto Q)) env l) : At w0 n ds (gwp ro P (Code.scope c) Q) env l := fun a w f s => wpIn_scope (h a w f s)
theorem at_label {lb : Nat} (h : At w0 n ds (Q .normal) env l) : At w0 n ds (gwp ro P (Code.label lb) Q) env l := fun a w f s => wpIn_label (h a w f s)
theorem at_ng_ret (h : At w0 n ds (Q .ret) env l) : At w0 n ds (Exit.noGoto Q .ret) env l := h
end
abbrev BL := List UInt8
abbrev SV (l : BL) : Value := .string ⟨l.toArray⟩
def bcell (b : UInt8) : Value := .int .u8 (b.toNat : Int)
def bE (b : UInt8) : List Value := [.int .u8 (b.toNat : Int)]
theorem ba_inj {a b : BL} (h : (⟨a.toArray⟩ : ByteArray) = ⟨b.toArray⟩) : a = b := by
  have := congrArg (fun x : ByteArray => x.data.toList) h
  simpa using this
theorem ba_dec (a b : BL) : decide ((⟨a.toArray⟩ : ByteArray) = ⟨b.toArray⟩) = decide (a = b) := by
  by_cases h : a = b
  · subst h; simp
  · rw [decide_eq_false h, decide_eq_false (fun e => h (ba_inj e))]
theorem ba_extract (l : BL) (i j : Nat) : (⟨l.toArray⟩ : ByteArray).extract i j = ⟨((l.take j).drop i).toArray⟩ := by
  apply WideShapes.bytes_inj
  rw [ByteArray.data_extract];simp [List.extract_eq_take_drop, List.drop_take]
theorem ba_get (l : BL) {i : Nat} {b : UInt8} (h : l[i]? = some b) : (⟨l.toArray⟩ : ByteArray)[i]? = some b := by
  obtain ⟨h1, h2⟩ := List.getElem?_eq_some_iff.1 h;have h3 : i < (⟨l.toArray⟩ : ByteArray).size := h1;rw [getElem?_pos _ i h3];exact congrArg some h2
section
variable {P : Program} {w0 : World} {n : Nat} {ds : List Deferred} {env : Env} {l : List HP} {o : Oper}
def strBinL (op : BinOp) (x y : BL) : Option Value :=
  match op with
  | .eql => some (.bool (decide (x = y)))
  | .neq => some (.bool (!decide (x = y)))
  | _ => none
theorem ov_strL {op : BinOp} {xt yt : TypeId} {x y : Operand} {a b : BL} {v : Value} (ho : o.op = .binOp op xt x y yt) (hx : ev env x = some (SV a)) (hy : ev env y = some (SV b))
    (hv : strBinL op a b = some v) : OpV P w0 n ds env l o v := by
  refine ov_str ho hx hy ?_
  cases op <;> simp [strBinL] at hv <;> subst hv <;> simp [strBin, ba_dec, -ByteArray.mk.injEq]
theorem ov_len_strL {t : TypeId} {x : Operand} {b : BL} (ho : o.op = .call { callee := .builtin .len, args := #[x], argTypes := #[t] }) (ht : P.underlying t = some .string)
    (hx : ev env x = some (SV b)) : OpV P w0 n ds env l o (.int .i64 b.length) := ov_len_string ho ht hx
theorem ov_indexL {t : TypeId} {x ix : Operand} {a : BL} {k : IntKind} {i : Nat} {b : UInt8} {j : Int} (ho : o.op = .index t x ix) (ht : P.underlying t = some .string) (hx : ev env x = some (SV a)) (hi : ev env ix = some (.int k j)) (hb : a[i]? = some b) (hj : j = (i : Nat)) :
    OpV P w0 n ds env l o (.int .u8 (b.toNat : Int)) := fun fr w f s => by
  subst hj
  unfold execOp
  rw [ho];have := ba_get a hb;simp [f.eval hx, f.eval hi, Instr.index, run_und ht, asIntOf, this]
theorem ov_sliceFromL {t : TypeId} {x lo : Operand} {a : BL} {ik : IntKind} {k : Nat} {j : Int} (ho : o.op = .slice t x (some lo) none none) (ht : P.underlying t = some .string) (hx : ev env x = some (SV a)) (hl : ev env lo = some (.int ik j)) (hj : j = (k : Nat)) (hk : k ≤ a.length) :
    OpV P w0 n ds env l o (SV (a.drop k)) := fun fr w f s => by
  subst hj
  unfold execOp
  rw [ho];have hk' : (k : Int) ≤ (a.length : Int) := by omega
  have hsz : (⟨a.toArray⟩ : ByteArray).size = a.length := rfl;have he : (⟨a.toArray⟩ : ByteArray).extract k a.length = ⟨(a.drop k).toArray⟩ := by rw [ba_extract, List.take_length]
  simp [Instr.sliceAt, run_und ht, Instr.slice, Instr.sliceBounds, Instr.sliceBound, f.eval hx, f.eval hl, asIntOf, hk', hsz, he];intro h; omega
theorem ov_sliceToL {t : TypeId} {x hi : Operand} {a : BL} {ik : IntKind} {k : Nat} {j : Int} (ho : o.op = .slice t x none (some hi) none) (ht : P.underlying t = some .string) (hx : ev env x = some (SV a)) (hl : ev env hi = some (.int ik j)) (hj : j = (k : Nat)) (hk : k ≤ a.length) :
    OpV P w0 n ds env l o (SV (a.take k)) := fun fr w f s => by
  subst hj
  unfold execOp
  rw [ho];have hk' : (k : Int) ≤ (a.length : Int) := by omega
  have hsz : (⟨a.toArray⟩ : ByteArray).size = a.length := rfl;have he : (⟨a.toArray⟩ : ByteArray).extract 0 k = ⟨(a.take k).toArray⟩ := by rw [ba_extract, List.drop_zero]
  simp [Instr.sliceAt, run_und ht, Instr.slice, Instr.sliceBounds, Instr.sliceBound, f.eval hx, f.eval hl, asIntOf, hk', hsz, he];intro h; omega
def StrIt (r : Nat) (a : BL) (pos : Nat) : HP := pt r (.stringIter ⟨a.toArray⟩ pos)
theorem ot_rangeStr {t : TypeId} {x : Operand} {a : BL} (ho : o.op = .range t x) (ht : P.underlying t = some .string) (hx : ev env x = some (SV a)) : OpT P w0 n ds env l o fun v l' => ∃ r, v = ptrTo r ∧ l' = StrIt r a 0 :: l := fun fr w f s => by
  unfold Oper.goesV execOp
  rw [ho];simp [f.eval hx, run_range_string w t _ ht];exact s.alloc _
theorem ot_nextStr {x : Operand} {a : BL} {r k pos : Nat} {b : UInt8} (ho : o.op = .next x true) (hx : ev env x = some (ptrTo r)) (hk : nth k l = some (StrIt r a pos)) (hb : a[pos]? = some b) (hasc : b.toNat < 128) :
    OpT P w0 n ds env l o fun v l' => v = .tuple #[.bool true, .int .i64 (pos : Nat), .int .i32 (b.toNat : Int)] ∧ l' = setAt k (StrIt r a (pos + 1)) l := fun fr w f s => by
  unfold Oper.goesV execOp
  rw [ho];have hr := (s.blk hk).1;obtain ⟨h1, h2⟩ := List.getElem?_eq_some_iff.1 hb;have hlt : pos < (⟨a.toArray⟩ : ByteArray).size := h1;have hget : (⟨a.toArray⟩ : ByteArray)[pos]'hlt = b := h2;have hd := decode_ascii ⟨a.toArray⟩ pos hlt (by rw [hget]; exact hasc);rw [hget] at hd
  have hrun : (Instr.next (ptrTo r) true o.type).run P w = .ok (.tuple #[.bool true, .int .i64 (pos : Nat), .int .i32 (b.toNat : Int)]) (w.putObj r (.stringIter ⟨a.toArray⟩ (pos + 1))) := by
    simp only [Instr.next, getObj, setObj, Sem.run_bind, Sem.run, hr, Result.andThen, hlt, if_true, hd];simp [goInt, Sem.run, hr, World.putObj]
  simp [f.eval hx, hrun];exact s.putO _ hk
theorem ov_nextEnd {x : Operand} {a : BL} {r k : Nat} (ho : o.op = .next x true) (hx : ev env x = some (ptrTo r)) (hk : nth k l = some (StrIt r a a.length)) : OpV P w0 n ds env l o (.tuple #[.bool false]) := fun fr w f s => by
  unfold execOp
  rw [ho];have hr := (s.blk hk).1;have hlt : ¬ a.length < (⟨a.toArray⟩ : ByteArray).size := Nat.lt_irrefl _;simp [f.eval hx, Instr.next, getObj, Sem.run, hr, hlt]
def BufA (e : TypeId) (A : Option Addr) (c : Nat) (bs : BL) : HP := fun h => (A = none ∧ c = 0 ∧ bs = []) ∨
  ∃ g cur, A = some ⟨g, 0, none⟩ ∧ h g = some (.cells cur e (0, 0)) ∧ bs.length ≤ c ∧ 0 < c ∧ c ≤ maxLen ∧ c ≤ cur.size ∧ cur.toList.take bs.length = bs.map bcell
theorem at_buf {R : Act → World → Prop} {e : TypeId} {A : Option Addr} {c : Nat} {bs : BL} (h1 : A = none → c = 0 → bs = [] → At w0 n ds R env l)
    (h2 : ∀ g cur, A = some ⟨g, 0, none⟩ → bs.length ≤ c → 0 < c → c ≤ maxLen → c ≤ cur.size → cur.toList.take bs.length = bs.map bcell → At w0 n ds R env (cl g cur e :: l)) : At w0 n ds R env (BufA e A c bs :: l) := fun a w f s => by
  obtain ⟨bel, h, ⟨ha, hb, hA, hl, hd, la, lb⟩, hh⟩ := s
  rcases hA with ⟨e1, e2, e3⟩ | ⟨g, cur, e1, e2, e3, e4, e5, e6, e7⟩
  · exact h1 e1 e2 e3 a w f ⟨bel, h, star_mono lb hl, hh⟩
  · exact h2 g cur e1 e3 e4 e5 e6 e7 a w f ⟨bel, h, ⟨ha, hb, e2, hl, hd, la, lb⟩, hh⟩
theorem at_bufNil {R : Act → World → Prop} (e : TypeId) (k : At w0 n ds R env (BufA e none 0 [] :: l)) : At w0 n ds R env l :=
  fun a w f s => k a w f (s.imp fun h t => ⟨fun _ => none, h, .inl ⟨rfl, rfl, rfl⟩, t, fun _ => .inl rfl, (fun _ _ e => by cases e), Le.refl _⟩)
theorem Sat.toBuf {w : World} {r : List HP} {g c : Nat} {cur : Array Value} {e : TypeId} {bs : BL} (s : Sat w0 w (cl g cur e :: r)) (h1 : bs.length ≤ c) (h2 : 0 < c) (h3 : c ≤ maxLen) (h4 : c ≤ cur.size) (h5 : cur.toList.take bs.length = bs.map bcell) : Sat w0 w (BufA e (some ⟨g, 0, none⟩) c bs :: r) :=
  s.imp fun h ⟨a, b, hA, hr⟩ => ⟨a, b, .inr ⟨g, cur, rfl, hA, h1, h2, h3, h4, h5⟩, hr⟩
theorem buf_step {w : World} {k : Nat} {e : TypeId} {A : Option Addr} {c0 : Nat} {bs ys : BL} (m : Sem Value) (s : Sat w0 w l) (hk : nth k l = some (BufA e A c0 bs)) (hys : ys ≠ []) (hsz : bs.length + ys.length ≤ 1000000)
    (hnil : A = none → c0 = 0 → bs = [] → m.run P w = .ok (.slice (some ⟨w.heap.size, 0, none⟩) ys.length (grownCap w ys.length 0 e)) (w.drew.alloc (.cells ((ys.map bcell).toArray ++ Builtin.zeroCells #[.int .u8 0] (grownCap w ys.length 0 e - ys.length)) e)))
    (hroom : ∀ g c cur, A = some ⟨g, 0, none⟩ → c0 = c → w.heap[g]? = some (.cells cur e (0, 0)) → bs.length + ys.length ≤ c → c ≤ cur.size →
      m.run P w = .ok (.slice (some ⟨g, 0, none⟩) (bs.length + ys.length) c) (w.setRow g (cur.toList.take bs.length ++ ys.map bcell ++ cur.toList.drop (bs.length + ys.length)).toArray))
    (hgrow : ∀ g c cur, A = some ⟨g, 0, none⟩ → c0 = c → w.heap[g]? = some (.cells cur e (0, 0)) → c < bs.length + ys.length → (∀ (j : Nat) u, (bs.map bcell)[j]? = some u → w.cell? ((⟨g, 0, none⟩ : Addr).add j) = some u) →
      m.run P w = .ok (.slice (some ⟨w.heap.size, 0, none⟩) (bs.length + ys.length) (grownCap w (bs.length + ys.length) c e)) (w.drew.alloc (.cells ((bs.map bcell).toArray ++ (ys.map bcell).toArray ++ Builtin.zeroCells #[.int .u8 0] (grownCap w (bs.length + ys.length) c e - (bs.length + ys.length))) e))) :
    ∃ A' c' w', m.run P w = .ok (.slice A' (bs ++ ys).length c') w' ∧ Sat w0 w' (setAt k (BufA e A' c' (bs ++ ys)) l) := by
  obtain ⟨r, hperm, hset⟩ := nth_pull hk;have s1 := s.perm hperm;have hpos : 0 < ys.length := List.length_pos_iff.2 hys;have hlen : (bs ++ ys).length = bs.length + ys.length := by simp
  have fresh : ∀ old, Sat w0 (w.drew.alloc (.cells ((bs.map bcell).toArray ++ (ys.map bcell).toArray ++ Builtin.zeroCells #[.int .u8 0] (grownCap w (bs.length + ys.length) old e - (bs.length + ys.length))) e))
      (setAt k (BufA e (some ⟨w.heap.size, 0, none⟩) (grownCap w (bs.length + ys.length) old e) (bs ++ ys)) l) := by
    intro old;have hge := grownCap_ge w (bs.length + ys.length) old e;have hcm : grownCap w (bs.length + ys.length) old e ≤ maxLen := grownCap_le_maxLen w _ old e (by simp only [maxLen]; omega);have sr : Sat w0 w r := (show Sat w0 w ([BufA e A c0 bs] ++ r) from s1).right;have s2 : Sat w0 w.drew r := ⟨⟨sr.below.os, sr.below.tape, sr.below.output, sr.below.size, sr.below.block⟩, sr.here⟩;refine Sat.perm (Sat.toBuf (s2.alloc _) (by rw [hlen]; exact hge) (by omega) hcm ?_ ?_) (hset _).symm
    · simp only [Array.size_append, List.size_toArray, List.length_map, size_zeroCells];simp;omega
    · simp only [Array.toList_append, List.append_assoc];rw [← List.append_assoc, ← List.map_append, List.take_append_of_le_length (by simp), List.take_of_length_le (by simp)]
  obtain ⟨bel, h, ⟨ha, hb, hA, hl, hd, la, lb⟩, hh⟩ := s1
  rcases hA with ⟨e1, e0, e2⟩ | ⟨g, cur, e1, e2, e3, e4, e5, e6, e7⟩
  · have hf := fresh 0;have hr := hnil e1 e0 e2;subst e2;simp only [List.length_nil, Nat.zero_add, List.map_nil, List.nil_append] at hf ⊢;exact ⟨_, _, _, hr, by simpa using hf⟩
  · have hg := (hh g _ (la _ _ e2)).2
    by_cases hrm : bs.length + ys.length ≤ c0
    · have hr := hroom g c0 cur e1 rfl hg hrm e6;refine ⟨some ⟨g, 0, none⟩, c0, (w.setRow g (cur.toList.take bs.length ++ ys.map bcell ++ cur.toList.drop (bs.length + ys.length)).toArray), by rw [hlen]; exact hr, ?_⟩;have sg : Sat w0 w (cl g cur e :: r) := ⟨bel, h, ⟨ha, hb, e2, hl, hd, la, lb⟩, hh⟩
      have s2 : Sat w0 (w.setRow g (cur.toList.take bs.length ++ ys.map bcell ++ cur.toList.drop (bs.length + ys.length)).toArray) (pt g (.cells (cur.toList.take bs.length ++ ys.map bcell ++ cur.toList.drop (bs.length + ys.length)).toArray e) :: r) :=
        sg.put (k := 0) rfl (setRow_heap w g cur _ e _ hg) (fun x hx => setRow_other w g x _ hx) (by simp) rfl rfl rfl
      have := Sat.toBuf (bs := bs ++ ys) (c := c0) s2 (by rw [hlen]; exact hrm) e4 e5 (by simp only [List.size_toArray, List.length_append, List.length_take, List.length_drop, Array.length_toList, List.length_map]; omega) (by
        rw [e7, ← List.map_append]
        show ((bs ++ ys).map bcell ++ _).take _ = _
        rw [List.take_append_of_le_length (by simp), List.take_of_length_le (by simp)])
      exact this.perm (hset _).symm
    · refine ⟨some ⟨w.heap.size, 0, none⟩, grownCap w (bs.length + ys.length) c0 e, (w.drew.alloc (.cells ((bs.map bcell).toArray ++ (ys.map bcell).toArray ++ Builtin.zeroCells #[.int .u8 0] (grownCap w (bs.length + ys.length) c0 e - (bs.length + ys.length))) e)), ?_, ?_⟩
      · rw [hlen]; refine hgrow g c0 cur e1 rfl hg (by omega) ?_;intro j u hu;rw [add_none];simp only [World.cell?, hg, Nat.zero_add];rw [← e7, List.getElem?_take] at hu
        split at hu
        · simpa using hu
        · cases hu
      · have hf := fresh c0;exact hf
theorem ov_fromUnsafe {src dst u e : TypeId} {j : TypeInfo} {x : Operand} {k b cells : Nat} {cs : Array Value} (ho : o.op = .convert src dst x) (hs : P.underlying src = some .unsafePointer) (hd : P.underlying dst = some (.pointer u)) (hu : P.info? u = some j)
    (hx : ev env x = some (ptrTo b)) (hk : nth k l = some (pt b (.cells cs e (0, 0)))) (hc : cs.size = cells) (hlies : liesAt P P.depth e (cells / P.cellsOf e) 0 u 1 = true) : OpV P w0 n ds env l o (ptrTo b) := fun a w f s => by
  unfold execOp
  rw [ho];have hg := (s.blk hk).1;have hsh : w.shape? (⟨b, 0, none⟩ : Addr).block = some (e, cells) := by simp [World.shape?, hg, hc]
  simp [f.eval hx, Lib.run_from_unsafe w ⟨b, 0, none⟩ hs hd hu hsh hlies]
theorem ov_ptr_nsame {xt yt e : TypeId} {j : TypeInfo} {x y : Operand} {p : Addr} (ho : o.op = .binOp .neq xt x y yt) (ht : P.underlying xt = some (.pointer e)) (hj : P.info? e = some j) (hx : ev env x = some (.pointer (some p))) (hy : ev env y = some (.pointer (some p))) :
    OpV P w0 n ds env l o (.bool false) := fun fr w f s => by
  unfold execOp
  rw [ho];have h := Lib.run_neq_ptr_same (P := P) w p ht hj;simp only [f.eval hx, f.eval hy];simp [eqGuard, h]
theorem Sat.drop0 {w : World} {A : HP} {k : Nat} {B : HP} (s : Sat w0 w l) (hk : nth k l = some A) (hA : ∀ h, A h → B h) : Sat w0 w (setAt k B l) := by
  obtain ⟨r, hr, hset⟩ := nth_pull hk;refine Sat.perm ?_ (hset B).symm;exact (s.perm hr).imp fun h ⟨a, b, hA', x⟩ => ⟨a, b, hA a hA', x⟩
theorem Sat.putFree {w w' : World} (s : Sat w0 w l) {k b : Nat} {o o' : Obj} (hk : nth k l = some (pt b o)) (hb : w'.heap[b]? = some o') (hother : ∀ c, c ≠ b → w'.heap[c]? = w.heap[c]?) (hsize : w'.heap.size = w.heap.size) (hos : w'.os = w.os) (htape : w'.tape = w.tape) (hout : w'.output = w.output) :
    Sat w0 w' (setAt k (fun _ => True) l) := by
  obtain ⟨r, hr, hset⟩ := nth_pull hk;refine Sat.perm ?_ (hset _).symm;have h2 : Sat w0 w' (pt b o' :: r) := (s.perm hr).put (k := 0) (b := b) (o := o) rfl hb hother hsize hos htape hout;exact h2.imp fun h ⟨a, c, hA', x⟩ => ⟨a, c, trivial, x⟩
theorem ov_sliceData {t : TypeId} {x : Operand} {A : Option Addr} {m c : Nat} (ho : o.op = .call { callee := .builtin .unsafeSliceData, args := #[x], argTypes := #[t] }) (hx : ev env x = some (.slice A m c)) (hc : A = none ∨ c ≠ 0) : OpV P w0 n ds env l o (.pointer A) := fun fr w f s => by
  have h : (Builtin.unsafeSliceData_ #[t] o.type #[.slice A m c]).run P w = .ok (.pointer A) w := by
    cases A with
    | none => exact Lib.run_unsafeSliceData_nil w _ _ _ _
    | some a => exact Lib.run_unsafeSliceData_row w _ _ _ _ _ (by rcases hc with h | h; cases h; exact h)
  unfold execOp
  rw [ho];simp only [resolve, invoke, builtin, Sem.run_bind, Sem.run_pure, Result.andThen_ok, List.map_toArray, List.map_cons, List.map_nil, f.eval hx, h]
theorem ov_unsafeStr0 {pt' it : TypeId} {x y : Operand} {p : Option Addr} (ho : o.op = .call { callee := .builtin .unsafeString, args := #[x, y], argTypes := #[pt', it] }) (hx : ev env x = some (.pointer p)) (hy : ev env y = some (.int .i64 0)) : OpV P w0 n ds env l o (SV []) := fun fr w f s => by
  have h := Lib.run_unsafeString_none (P := P) w pt' it o.type p
  unfold execOp
  rw [ho];simp only [resolve, invoke, builtin, Sem.run_bind, Sem.run_pure, Result.andThen_ok, List.map_toArray, List.map_cons, List.map_nil, f.eval hx, f.eval hy, h];rfl
theorem ot_unsafeString {pt' it e : TypeId} {x y : Operand} {k g : Nat} {cur : Array Value} {bs : BL} (ho : o.op = .call { callee := .builtin .unsafeString, args := #[x, y], argTypes := #[pt', it] }) (hp : P.underlying pt' = some (.pointer e)) (hc : P.cellsOf e = 1)
    (hx : ev env x = some (ptrTo g)) (hy : ev env y = some (.int .i64 bs.length)) (hk : nth k l = some (cl g cur e)) (hn : bs.length ≤ cur.size) (h63 : bs.length ≤ 9223372036854775807) (ht : cur.toList.take bs.length = bs.map bcell) :
    OpT P w0 n ds env l o fun v l' => v = SV bs ∧ l' = setAt k (fun _ => True) l := fun fr w f s => by
  have hg := (s.blk hk).1
  have key : ∃ w', (Builtin.unsafeString_ #[pt', it] o.type #[ptrTo g, .int .i64 bs.length]).run P w = .ok (SV bs) w' ∧ Sat w0 w' (setAt k (fun _ => True) l) := by
    by_cases h0 : bs = []
    · subst h0;exact ⟨w, Lib.run_unsafeString_none w pt' it o.type _, s.drop0 hk fun _ _ => trivial⟩
    · refine ⟨w.freeze ⟨g, 0, none⟩ bs.length, Lib.run_unsafeString_row w pt' it o.type e hp hc g cur.size (by simp [World.shape?, hg]) bs h0 hn h63 ?_, ?_⟩
      · intro j x hj;rw [add_none, Nat.zero_add];simp only [World.cell?, hg];have := congrArg (·[j]?) ht;simp only [List.getElem?_take, List.getElem?_map, hj] at this;have hlt := (List.getElem?_eq_some_iff.1 hj).1;rw [if_pos hlt] at this
        simpa [bcell] using this
      · have hne : bs.length ≠ 0 := by simpa using h0
        refine s.putFree (o' := .cells cur e (0, bs.length)) hk ?_ ?_ ?_ ?_ ?_ ?_
        · simp [World.freeze, hne, Array.getElem?_modify, hg]
        · intro c hc';simp [World.freeze, hne, Array.getElem?_modify, Ne.symm hc']
        · simp [World.freeze, hne]
        · simp [World.freeze, hne]
        · simp [World.freeze, hne]
        · simp [World.freeze, hne]
  obtain ⟨w', h1, h2⟩ := key
  unfold Oper.goesV execOp
  rw [ho];simp only [resolve, invoke, builtin, Sem.run_bind, Sem.run_pure, Result.andThen_ok, List.map_toArray, List.map_cons, List.map_nil, f.eval hx, f.eval hy, h1];exact ⟨_, ⟨trivial, rfl⟩, h2⟩
theorem ot_bufBytes {t e : TypeId} {i : TypeInfo} {x y : Operand} {k c' : Nat} {A : Option Addr} {c0 : Nat} {B : Option Addr} {bs ys : BL} (hr : ∀ w, Sat w0 w l → Rd bE w 1 B ys) (ho : o.op = .call { callee := .builtin .append, args := #[x, y], argTypes := #[t, t] }) (ht : P.underlying t = some (.slice e)) (hi : P.info? e = some i) (hz : i.zero = some (.int .u8 0)) (hsize : i.size = 1) (hby : i.bytes = 1)
    (hk : nth k l = some (BufA e A c0 bs)) (hx : ev env x = some (.slice A bs.length c0)) (hy : ev env y = some (.slice B ys.length c')) (hne : ys ≠ []) (hsz : bs.length + ys.length ≤ 1000000) :
    OpT P w0 n ds env l o fun v' l' => ∃ A' c', v' = .slice A' (bs ++ ys).length c' ∧ l' = setAt k (BufA e A' c' (bs ++ ys)) l := fun fr w f st => by
  have hzc : (Value.int .u8 0).cells = #[.int .u8 0] := rfl;obtain ⟨ad, rfl, hcells⟩ := (hr w st).at_ hne
  have hfl : (ys.map bE).flatten = ys.map bcell := by
    clear hr hy hne hsz hcells
    induction ys with
    | nil => rfl
    | cons a ys ih => simp [bE, bcell] at ih ⊢; exact ih
  rw [hfl] at hcells;have hl1 : (ys.map bcell).length = ys.length * i.size := by simp [hsize]
  have key : ∃ A' c2 w', (Builtin.append_ #[t, t] o.type #[.slice A bs.length c0, .slice (some ad) ys.length c']).run P w = .ok (.slice A' (bs ++ ys).length c2) w' ∧ Sat w0 w' (setAt k (BufA e A' c2 (bs ++ ys)) l) := by
    refine buf_step (P := P) _ st hk hne hsz ?_ ?_ ?_
    · rintro rfl rfl rfl;have h1 := run_append_nil (P := P) w t o.type e i (.int .u8 0) ht hi hz ad ys.length c' (ys.map bcell) hl1 hcells (List.length_pos_iff.2 hne) (by simp at hsz; omega) (by rw [hby]; simp at hsz; omega);refine h1.trans ?_;rw [hzc]
    · rintro g c cur rfl rfl hg hroom hc;have hf := run_firstCells_some (P := P) w i.size ys.length ad ys.length c' (ys.map bcell) hl1 hcells;have hone : ∀ u ∈ ys.map bcell, u.oneCell' = true := fun u hu => by obtain ⟨b, _, rfl⟩ := List.mem_map.1 hu; rfl
      have hst := run_storeCells_at P g bs.length e (ys.map bcell) 0 cur w hg (by simp; omega) hone;simp only [Nat.add_zero, List.length_map] at hst;rw [hsize] at hf;simp [Builtin.append_, run_underlying ht, sizeOf, typeInfo, hi, hsize, Builtin.lenOf, hroom, hf, add_none, hst]
    · rintro g c cur rfl rfl hg hgr hold;have h1 := run_append_grow (P := P) w t o.type e i (.int .u8 0) ht hi hz ⟨g, 0, none⟩ bs.length c0 (bs.map bcell) (by simp [hsize]) hold ad ys.length c' (ys.map bcell) hl1 hcells hgr (by omega) (growslice_fits (by omega) (by rw [hby]; omega));rw [h1, hzc]
  obtain ⟨A', c2, w', h1, h2⟩ := key
  unfold Oper.goesV execOp
  rw [ho];simp only [resolve, invoke, builtin, Sem.run_bind, Sem.run_pure, Result.andThen_ok, List.map_toArray, List.map_cons, List.map_nil, f.eval hx, f.eval hy, h1];exact ⟨_, ⟨_, _, rfl, rfl⟩, h2⟩
end
open Go Go.RowKit Go.ChangeShapes Go.WideShapes Go.Deep
section
variable {H : Type} {enc : TypeId × Value → H} {P : Program} {w : World} {base : Nat} {spare : Nat → Bool} {held : Bool}
theorem flat_weight : ∀ (m : Nat) (t : TypeId) (ks : List SK) (fuel : Nat) (cs : List Value) (x : DataW H × List MemPlace), flatOf P m t = some ks → DataW.trod enc P w base spare held fuel t cs = some x → ∀ s : ByteArray, Value.string s ∈ cs → s.size ∈ x.1.weights P t
  | 0, _, _, _, _, _, h, _, _, _ => by simp [flatOf] at h
  | m + 1, t, ks, 0, cs, x, _, h, _, _ => by simp [DataW.trod] at h
  | m + 1, t, ks, fuel + 1, cs, x, hf, h, s, hs => by
    have hfit := flat_open (m + 1) t ks (fuel + 1) cs x hf h;simp only [flatOf] at hf;simp only [DataW.trod] at h
    split at hf
    · rename_i k hu
      simp at hf;subst hf
      match cs, hfit with
      | [c], ⟨hc, _⟩ =>
        simp at hs;subst hs;exact hc.elim
    · rename_i hu
      simp at hf;subst hf
      match cs, hfit with
      | [c], ⟨hc, _⟩ =>
        simp at hs;subst hs;exact hc.elim
    · rename_i hu
      simp at hf;subst hf;rw [hu] at h
      match cs, hfit, h with
      | [c], ⟨hc, _⟩, h =>
        simp at hs;subst hs;simp only [Option.ite_none_right_eq_some, Option.some.injEq] at h;obtain ⟨_, rfl⟩ := h;simp only [DataW.weights, List.mem_singleton];exact (Array.length_toList).symm
    · rename_i fs hu
      rw [hu] at h
      split at hf
      · rename_i ls hls
        split at hf
        · rename_i hb
          simp at hf;subst hf;have hlen := Nat.eq_of_beq_eq_true hb
          have key : ∀ (l : List Field) (off : Nat) (ls : List SK) (xs : List (DataW H × List MemPlace)), flatFs P (flatOf P m) off l = some ls →
              (l.mapM fun f => DataW.trod enc P w base spare held fuel f.type ((cs.drop f.offset).take (P.cellsOf f.type))) = some xs → Value.string s ∈ (cs.drop off).take ls.length → s.size ∈ DataW.weightsEach P (l.map (·.type)) (xs.map (·.1)) := by
            intro l
            induction l with
            | nil => intro off ls xs h1 _ hm; simp [flatFs] at h1; subst h1; simp at hm
            | cons g r ih =>
              intro off ls xs h1 h2 hm;simp only [flatFs] at h1
              split at h1
              · rename_i kk e1 e2
                have hoff := Nat.eq_of_beq_eq_true e1
                split at h1
                · rename_i rs e3 e4
                  have hcell := Nat.eq_of_beq_eq_true e3;simp at h1;subst h1;simp only [List.mapM_cons, Option.bind_eq_bind, Option.bind_eq_some_iff] at h2;obtain ⟨y, hy, ys, hys, hxs⟩ := h2;have hxs : xs = y :: ys := by simpa using hxs.symm
                  subst hxs;have ih' := ih (off + kk.length) rs ys e4 hys;rw [hoff, hcell] at hy;have hg := flat_weight m g.type kk fuel _ y e2 hy s;rw [List.length_append, List.take_add, List.drop_drop] at hm;simp only [List.map_cons, DataW.weightsEach, List.mem_append] at hm ⊢
                  rcases hm with hm | hm
                  · exact .inl (hg hm)
                  · exact .inr (ih' hm)
                · cases h1
              · cases h1
          have h' : (if cs.length = P.cellsOf t then (fs.toList.mapM fun f => DataW.trod enc P w base spare held fuel f.type ((cs.drop f.offset).take (P.cellsOf f.type))).map fun xs => (DataW.agg (xs.map (·.1)), xs.flatMap (·.2)) else none) = some x := by
            split at h <;> simp_all
          split at h'
          · rename_i hl
            simp only [Option.map_eq_some_iff] at h';obtain ⟨xs, hxs, rfl⟩ := h';have := key fs.toList 0 ls xs hls hxs;rw [List.drop_zero, ← hlen, ← hl, List.take_length] at this;simp only [DataW.weights, hu];exact this hs
          · cases h'
        · cases hf
      · cases hf
    · cases hf
theorem weights_all {x : DataW H} {e : TypeId} : ∀ {l : List (DataW H)}, x ∈ l → ∀ n ∈ x.weights P e, n ∈ DataW.weightsAll P e l
  | y :: l, h, n, hn => by
    simp only [DataW.weightsAll, List.mem_append]
    rcases List.mem_cons.1 h with rfl | h
    · exact .inl hn
    · exact .inr (weights_all h n hn)
theorem sized_each {ts : List TypeId} {ds : List (DataW H)} (h : (DataW.weightsEach P ts ds).all (· ≤ reachBytes) = true) {j : Nat} {t : TypeId} {d : DataW H} (ht : ts[j]? = some t) (hd : ds[j]? = some d) : ∀ n ∈ d.weights P t, n ≤ reachBytes := fun n hn => by
  simpa using List.all_eq_true.1 h _ (DataW.weights_mem_each ht hd n hn)
def strsIn (cs : List Value) : Prop := ∀ s : ByteArray, Value.string s ∈ cs → s.size ≤ reachBytes
theorem open_flats2 {t e : TypeId} {ks : List SK} {m : Nat} {v : Value} {d : DataW H} {ps : List MemPlace} (ht : P.underlying t = some (.slice e)) (hf : flatOf P m e = some ks) (hc : P.cellsOf e = ks.length) (hp : 0 < ks.length)
    {A : Option Addr} {len cap : Nat} (hv : v = .slice A len cap) (h : DataW.Trod enc P w base spare held t v d ps) (hz : ∀ n ∈ d.weights P t, n ≤ reachBytes) :
    ∃ els : List (List Value), els.length = len ∧ len ≤ cap ∧ cap ≤ maxLen ∧ (∀ x ∈ els, fitsL ks x ∧ strsIn x) ∧ Rd (id : List Value → List Value) w ks.length A els ∧ (A = none → cap = 0) ∧ len * P.bytesOf e ≤ reachBytes := by
  subst hv;obtain ⟨fuel, hfu⟩ := h
  rcases open_slice ht hfu with ⟨hcs, _⟩ | ⟨a, l, c, mm, n, D, Pl, hcs, hb, hl, hm, hmm, hd, hel⟩
  · simp [Value.cells] at hcs;obtain ⟨rfl, rfl, rfl⟩ := hcs;exact ⟨[], rfl, Nat.le_refl _, by simp [maxLen], by simp, Rd.nil _ _ _ _, fun _ => rfl, by simp⟩
  · simp [Value.cells] at hcs;obtain ⟨rfl, rfl, rfl⟩ := hcs;obtain ⟨rfl, rfl⟩ := Prod.mk.inj hd
    have hlm : len ≤ mm := by rw [hmm]; split <;> omega
    have hbytes : len * P.bytesOf e ≤ reachBytes := by
      have := hz ((((List.range len).map D).length + ((List.range (mm - len)).map fun j => D (len + j)).length) * P.bytesOf e) (by simp [DataW.weights, ht]);refine Nat.le_trans (Nat.mul_le_mul_right _ ?_) this;simp
    have hstr : ∀ i, i < len → ∀ n ∈ (D i).weights P e, n ≤ reachBytes := fun i hi n hn => by
      refine hz n ?_;have hm : n ∈ DataW.weightsAll P e ((List.range len).map D) := weights_all (List.mem_map.2 ⟨i, List.mem_range.2 hi, rfl⟩) n hn;simp only [DataW.weights, ht, List.mem_cons, List.mem_append];exact .inr (.inl hm)
    have hex : ∀ i, i < len → ∃ cs', w.cells? base (a.add (i * P.cellsOf e)) (P.cellsOf e) = some cs' ∧ (fitsL ks cs' ∧ strsIn cs') := fun i hi => by
      obtain ⟨cs', h1, h2⟩ := hel i (by omega);exact ⟨cs', h1, flat_open m e ks n cs' _ hf h2, fun s hs => hstr i hi _ (flat_weight m e ks n cs' _ hf h2 s hs)⟩
    have hch : ∃ f : Nat → List Value, ∀ i, i < len → w.cells? base (a.add (i * P.cellsOf e)) (P.cellsOf e) = some (f i) ∧ (fitsL ks (f i) ∧ strsIn (f i)) := by
      classical
      refine ⟨fun i => if h : i < len then (hex i h).choose else [], fun i hi => ?_⟩;simp only [hi, dif_pos];exact (hex i hi).choose_spec
    obtain ⟨f, hfx⟩ := hch
    have hlen : ∀ x ∈ (List.range len).map f, (id x).length = ks.length := fun x hx => by
      obtain ⟨i, hi, rfl⟩ := List.mem_map.1 hx;exact fitsL_len (hfx i (List.mem_range.1 hi)).2.1
    refine ⟨(List.range len).map f, by simp, hl, hm, fun x hx => ?_, ⟨hlen, fun _ => ⟨a, rfl, fun j u hu => ?_⟩⟩, (fun h => by cases h), hbytes⟩
    · obtain ⟨i, hi, rfl⟩ := List.mem_map.1 hx;exact (hfx i (List.mem_range.1 hi)).2
    · have hj : j < len * ks.length := by
        have := (List.getElem?_eq_some_iff.1 hu).1;rw [flat_len hlen] at this
        simpa using this
      have hq : j / ks.length < len := Nat.div_lt_of_lt_mul (by rw [Nat.mul_comm]; exact hj);obtain ⟨hcells, hfit, _⟩ := hfx (j / ks.length) hq;obtain ⟨hl2, hat⟩ := cells?_at hcells;have hr : j % ks.length < ks.length := Nat.mod_lt _ hp;have hget : ((List.range len).map f)[j / ks.length]? = some (f (j / ks.length)) := by simp [hq]
      have hv2 : (f (j / ks.length))[j % ks.length]? = some ((f (j / ks.length))[j % ks.length]'(by rw [fitsL_len hfit]; exact hr)) := List.getElem?_eq_getElem _;have hfl := flat_get (enc := (id : List Value → List Value)) hlen hget hv2;rw [Nat.mul_comm, Nat.div_add_mod] at hfl;rw [hfl] at hu;simp only [Option.some.injEq] at hu;have h3 := hat _ _ hv2;rw [hu, hc] at h3
      have hadd : ∀ (p : Addr) (x y : Nat), (p.add x).add y = p.add (x + y) := by
        intro p x y
        unfold Addr.add
        by_cases hx : x = 0
        · subst hx; simp
        · by_cases hy : y = 0
          · subst hy; simp [hx]
          · simp [hx, hy]; omega
      rw [hadd, Nat.mul_comm, Nat.div_add_mod] at h3;exact h3
end
section
variable {H : Type} {enc : TypeId × Value → H}
theorem returnsInHanded_of_change_and_shaped {a : Assume} {C : Checked} {os : Os} {f : FuncId} {fn : Func} {s : ChangeSpec} {conds : List PathCond} {apart fresh handsOn again : Bool} {X : World → Array Value → Prop}
    (hX : ∀ (w w' : World) (args : Array Value), w.heap = w'.heap → X w args → X w' args)
    (own : ownKnob C.prog.godebug = none) (started : os.Started) (noInit : C.prog.inits.idxOf? f = none) (hfn : C.prog.funcs[f]? = some fn)
    (witness : ∃ (w : World) (tape : Tape) (i : Input), w.os = os ∧ (w.forCall tape i).Shaped C.prog ∧ i.vars = [] ∧ Input.okWide C.prog (w.forCall tape i) .any w.heap.size f i ∧
      ((s.pre enc C.prog fn conds apart (w.forCall tape i).memory i.args ∧ X (w.forCall tape i).memory i.args) ∧ sizedMet enc C.prog fn (OpenSpec.ofChange s) apart (w.forCall tape i).memory i.args) ∧ a.holds C.prog (lone (Frame.enter C.prog f i.args .normal) [] (w.forCall tape i)))
    (contract : ∀ (W : World) (base : Nat) (args : Array Value) (ds gs : List (DataW H)) (before : List MemPlace),
      (∀ (j : Nat) t v, fn.params[j]? = some t → args[j]? = some v → Value.okWide C.prog W .any base t v) →
      DataW.Whole enc C.prog fn.params.toList s.vars apart W args.toList ds gs before →
      conds.all (PathCond.test C.prog ⟨fn.params.toList, ds, s.plain.varTypes C.prog, gs⟩) = true →
      (DataW.weightsEach C.prog (fn.params.toList ++ s.plain.varTypes C.prog) (ds ++ gs)).all (· ≤ reachBytes) = true → X W args → W.ShapedOpen C.prog →
      a.holds C.prog (lone (Frame.enter C.prog f args .normal) [] W) →
      Calls C.prog f args W fun e W' => ∃ v, e = .returned v ∧ s.post enc C.prog fn apart fresh handsOn again W args v W') :
    ReturnsInHanded a C os f .any (fun w args => (s.pre enc C.prog fn conds apart w args ∧ X w args) ∧ sizedMet enc C.prog fn (OpenSpec.ofChange s) apart w args) (s.post enc C.prog fn apart fresh handsOn again) := by
  refine returnsInHanded_of_calls own started noInit witness ?_;intro w tape i _ hsh _ hok hpre hholds;obtain ⟨_, _, _, fn', hfn', _, _, _, _, hval⟩ := hok;have e : fn' = fn := Option.some.inj (hfn'.symm.trans hfn);subst e;obtain ⟨⟨⟨ds, gs, before, hw, hc⟩, hx⟩, hz⟩ := hpre;have hw' := DataW.Whole.of_heap (w' := w.forCall tape i) (by rfl) hw;refine (contract (w.forCall tape i) w.heap.size i.args ds gs before hval hw' hc (hz.weights hw) (hX _ _ _ (by rfl) hx) hsh hholds).mono fun e W' ⟨v, he, hp⟩ => ?_;subst he;exact ChangeSpec.post_blind hp
end
open Go Go.RowKit
def toCome (listed : Array Bool) : Nat := listed.toList.countP (fun b => !b)
theorem toCome_set {listed : Array Bool} {i : Nat} (hi : i < listed.size) (h : listed.getD i true = false) : toCome (listed.setIfInBounds i true) + 1 = toCome listed := by
  unfold toCome
  have hl : listed.toList[i]? = some false := by
    rw [Array.getElem?_toList];have : listed[i]? = some (listed.getD i true) := by simp [Array.getD, hi]
    rw [this, h]
  rw [Array.toList_setIfInBounds]
  generalize listed.toList = l at hl
  clear hi h
  induction l generalizing i with
  | nil => simp at hl
  | cons a l ih =>
    cases i with
    | zero => simp at hl; subst hl; simp
    | succ i =>
      have := ih (i := i) (by simpa using hl);rw [List.set_cons_succ, List.countP_cons, List.countP_cons];omega
theorem anyC_inv {P : Program} {ops : Array Oper} {Q : Act → World → Prop} (Inv : Array Bool → Act → World → Prop)
    (step : ∀ listed a w, listed.size = ops.size → Inv listed a w → ∀ i ∈ Region.ready .any ops listed, opGoes P ops i (fun a' w' => Inv (listed.setIfInBounds i true) a' w') a w)
    (fin : ∀ listed a w, listed.size = ops.size → Inv listed a w → Region.ready .any ops listed = [] → Q a w) :
    ∀ (fuel : Nat) (listed : Array Bool) (a : Act) (w : World), toCome listed ≤ fuel → listed.size = ops.size → Inv listed a w → anyC P ops (fun _ _ => True) Q fuel listed a w
  | 0, listed, a, w, hf, hs, h => by
    have hr : Region.ready .any ops listed = [] := by
      rw [List.eq_nil_iff_forall_not_mem];intro i hi;obtain ⟨h0, o, ho, _⟩ := mem_ready.1 hi;have hi2 : i < listed.size := by rw [hs]; exact (Array.getElem?_eq_some_iff.1 ho).1
      have := toCome_set hi2 h0;omega
    exact ⟨hr, fin listed a w hs h hr⟩
  | fuel + 1, listed, a, w, hf, hs, h => by
    refine ⟨fun hr => fin listed a w hs h hr, fun i hi => ?_⟩;obtain ⟨h0, o, ho, _⟩ := mem_ready.1 hi;have hi2 : i < listed.size := by rw [hs]; exact (Array.getElem?_eq_some_iff.1 ho).1
    have hc := toCome_set hi2 h0;exact opGoes_mono (step listed a w hs h i hi) fun a' w' h' => ⟨trivial, anyC_inv Inv step fin fuel _ a' w' (by omega) (by simpa using hs) h'⟩
section
variable {ro : Option Nat} {P : Program} {w0 : World} {n : Nat} {ds : List Deferred} {env : Env} {l : List HP} {Q : Exit → Act → World → Prop}
theorem at_drawInv {id : Nat} {m : List Oper} (J : Array Bool → Env → List HP → Prop) (hm : P.follows .mixedOrders = true) (h0 : J (Array.replicate m.length false) env l)
    (step : ∀ (listed : Array Bool) (e : Env) (q : List HP), listed.size = m.length → J listed e q → ∀ i ∈ Region.ready .any m.toArray listed,
      At w0 n ds (fun a w => opGoes P m.toArray i (fun a' w' => ∃ e' q', J (listed.setIfInBounds i true) e' q' ∧ Fr n ds e' a' ∧ Sat w0 w' q') a w) e q)
    (fin : ∀ (listed : Array Bool) (e : Env) (q : List HP), listed.size = m.length → J listed e q → Region.ready .any m.toArray listed = [] → At w0 n ds (Q .normal) e q) :
    At w0 n ds (gwp ro P (Code.region id m.toArray true) Q) env l := fun a w f s => by
  refine wpIn_region_any hm (wpAny_of_anyC ro (C := fun _ _ => True) _ _ _ _ ?_)
  have := anyC_inv (P := P) (ops := m.toArray) (Q := Q .normal) (fun listed a w => ∃ e q, J listed e q ∧ Fr n ds e a ∧ Sat w0 w q)
    (fun listed a w hs ⟨e, q, hj, hf, hq⟩ i hi => step listed e q (by simpa using hs) hj i hi a w hf hq)
    (fun listed a w hs ⟨e, q, hj, hf, hq⟩ hr => fin listed e q (by simpa using hs) hj hr a w hf hq)
    m.length (Array.replicate m.length false) a { w with drawn := w.drawn + 1 } (by unfold toCome; refine Nat.le_trans List.countP_le_length ?_; simp) (by simp) ⟨env, l, h0, f, s.drew _⟩
  simpa using this
theorem goes_t {ops : Array Oper} {i d : Nat} {o : Oper} {Post : Value → List HP → Prop} {K : Act → World → Prop} (ho : ops[i]? = some o) (h : OpT P w0 n ds env l o Post) (hg : o.guard = none) (hd : o.dst = some d) (hn : Nat.blt d n = true)
    (k : ∀ v l', Post v l' → At w0 n ds K ((d, v) :: env) l') : At w0 n ds (fun a w => opGoes P ops i K a w) env l := fun a w f s => by
  unfold opGoes
  simp only [ho, Region.wanted, hg, if_true];exact goesV_mono (h a w f s) fun v w' ⟨l', hp, s'⟩ => by rw [hd]; exact k v l' hp _ w' (f.put d v hn) s'
theorem goes_t0 {ops : Array Oper} {i : Nat} {o : Oper} {Post : Value → List HP → Prop} {K : Act → World → Prop} (ho : ops[i]? = some o) (h : OpT P w0 n ds env l o Post) (hg : o.guard = none) (hd : o.dst = none)
    (k : ∀ v l', Post v l' → At w0 n ds K env l') : At w0 n ds (fun a w => opGoes P ops i K a w) env l := fun a w f s => by
  unfold opGoes
  simp only [ho, Region.wanted, hg, if_true];exact goesV_mono (h a w f s) fun v w' ⟨l', hp, s'⟩ => by rw [hd]; exact k v l' hp _ w' f s'
theorem goes_v {ops : Array Oper} {i d : Nat} {o : Oper} {v : Value} {K : Act → World → Prop} (ho : ops[i]? = some o) (h : OpV P w0 n ds env l o v) (hg : o.guard = none) (hd : o.dst = some d) (hn : Nat.blt d n = true)
    (k : At w0 n ds K ((d, v) :: env) l) : At w0 n ds (fun a w => opGoes P ops i K a w) env l := fun a w f s => by
  unfold opGoes
  simp only [ho, Region.wanted, hg, if_true]
  unfold Oper.goesV
  rw [h a w f s, hd];exact k _ w (f.put d v hn) s
theorem at_inv {J : Env → List HP → Prop} {e : Env} {q : List HP} (h : J e q) : At w0 n ds (fun a' w' => ∃ e' q', J e' q' ∧ Fr n ds e' a' ∧ Sat w0 w' q') e q := fun a w f s => ⟨e, q, h, f, s⟩
end
theorem beq_no {i j : Nat} (e : i ≠ j) : Nat.beq i j = false := by
  cases h : Nat.beq i j with
  | false => rfl
  | true => exact absurd (Nat.eq_of_beq_eq_true h) e
def up (listed : Array Bool) (j : Nat) : Bool := listed.getD j false
theorem up_set {listed : Array Bool} {i : Nat} (hi : i < listed.size) : up (listed.setIfInBounds i true) = fun j => (Nat.beq i j || up listed j) := by
  funext j
  unfold up
  simp only [Array.getD_eq_getD_getElem?, Array.getElem?_setIfInBounds]
  by_cases e : i = j
  · subst e; simp [hi]
  · have : Nat.beq i j = false := beq_no e;simp [e, this]
theorem ready_self {ops : Array Oper} {listed : Array Bool} {i : Nat} (h : i ∈ Region.ready .any ops listed) (hi : i < listed.size) : up listed i = false := by
  have := (mem_ready.1 h).1
  unfold up
  simp [Array.getD, hi] at this ⊢;exact this
theorem ready_dep {ops : Array Oper} {listed : Array Bool} {i d : Nat} {o : Oper} (h : i ∈ Region.ready .any ops listed) (ho : ops[i]? = some o) (hd : (o.after.toList.any fun e => Nat.beq e.on d && Region.binds .any e) = true) : up listed d = true := by
  obtain ⟨_, o', ho', hall⟩ := mem_ready.1 h;rw [ho] at ho'
  cases ho'
  obtain ⟨e, he, h2⟩ := List.any_eq_true.1 hd;simp only [Bool.and_eq_true, Nat.beq_eq] at h2;have := hall e (by simpa using he) h2.2;rw [h2.1] at this;exact this
theorem ready_lt {ops : Array Oper} {listed : Array Bool} {i : Nat} (h : i ∈ Region.ready .any ops listed) : i < ops.size := by
  obtain ⟨_, o', ho', hall⟩ := mem_ready.1 h;exact (Array.getElem?_eq_some_iff.1 ho').1
theorem ready_all {ops : Array Oper} {listed : Array Bool} (h : Region.ready .any ops listed = []) {i : Nat} {o : Oper} (ho : ops[i]? = some o) (hs : listed.size = ops.size) (hd : (o.after.toList.all fun e => up listed e.on) = true) : up listed i = true := by
  have hlt : i < listed.size := by rw [hs]; exact (Array.getElem?_eq_some_iff.1 ho).1
  cases hu : up listed i with
  | true => rfl
  | false =>
    have : i ∈ Region.ready .any ops listed := mem_ready.2 ⟨by unfold up at hu; simp [Array.getD, hlt] at hu ⊢; exact hu, o, ho, fun e he _ => List.all_eq_true.1 hd e (by simpa using he)⟩;rw [h] at this
    cases this
theorem at_empty {w0 : World} {n : Nat} {ds : List Deferred} {R : Act → World → Prop} {env : Env} {l : List HP} (h : At w0 n ds R env ((fun _ => True) :: l)) : At w0 n ds R env l :=
  fun a w f s => h a w f (s.imp fun h t => ⟨fun _ => none, h, trivial, t, fun _ => .inl rfl, (fun _ _ e => by cases e), Le.refl _⟩)
theorem at_dropMid {w0 : World} {n : Nat} {ds : List Deferred} {R : Act → World → Prop} {env : Env} {xs r F : List HP} (h : At w0 n ds R env (xs ++ F)) : At w0 n ds R env (xs ++ (r ++ F)) := fun a w f s => by
  have p : (xs ++ (r ++ F)).Perm (r ++ (xs ++ F)) := by
    rw [← List.append_assoc, ← List.append_assoc];exact List.perm_append_comm.append_right F
  exact h a w f (s.perm p).right
open Go Go.RowKit
theorem spliceL_out : ∀ (L : List Value) (p : Nat) (vs : List Value), L.length ≤ p → spliceL L p vs = L
  | [], _, _, _ => by unfold spliceL; rfl
  | c :: cs, 0, _, h => by simp at h
  | c :: cs, p + 1, vs, h => by
    have := spliceL_out cs p vs (by simpa using h)
    unfold spliceL
    rw [this]
theorem zeroCells_len (z : Array Value) (n : Nat) : (Builtin.zeroCells z n).toList.length = n * z.size := by simp [Builtin.zeroCells]
theorem zeroCells_one {z : Array Value} {n : Nat} (h : z.toList.all (·.oneCell') = true) : ∀ v ∈ (Builtin.zeroCells z n).toList, v.oneCell' = true := by
  intro v hv;simp [Builtin.zeroCells] at hv;obtain ⟨i, hi, rfl⟩ := hv
  have hz : 0 < z.size := by
    rcases Nat.eq_zero_or_pos z.size with e | e
    · rw [e] at hi; simp at hi
    · exact e
  have hlt : i % z.size < z.size := Nat.mod_lt _ hz;rw [getElem!_pos z _ hlt];exact List.all_eq_true.1 h _ (by simp)
section
variable {P : Program} {w0 : World} {n : Nat} {ds : List Deferred} {env : Env} {l : List HP} {o : Oper}
theorem ot_clearRow {α : Type} {enc : α → List Value} {t e : TypeId} {x : Operand} {k i size c : Nat} {A : Option Addr} {xs : List α} {z : Value} (ho : o.op = .call { callee := .builtin .clear, args := #[x], argTypes := #[t] }) (ht : P.underlying t = some (.slice e))
    (hz : ∀ w, (zeroValue e).run P w = .ok z w) (hzs : z.cells.size = size) (hz1 : z.cells.toList.all (·.oneCell') = true) (hk : nth k l = some (Row enc e size A c xs)) (hx : ev env x = some (.slice (dropA A c i size) (xs.drop i).length (c - i))) (hi : i ≤ xs.length) :
    OpT P w0 n ds env l o fun w l' => w = .tuple #[] ∧ l' = setAt k (Row enc e size A c (xs.take i)) l := fun a w f s => by
  obtain ⟨r, hperm, hset⟩ := nth_pull hk;obtain ⟨hl, s1, hrow⟩ := (s.perm hperm).openRow;have hlt : ∀ x ∈ xs.take i, (enc x).length = size := fun x hx => hl x (List.mem_of_mem_take hx)
  have key : ∃ w', (Builtin.clear_ #[t] o.type #[.slice (dropA A c i size) (xs.drop i).length (c - i)]).run P w = .ok (.tuple #[]) w' ∧ Sat w0 w' (Row enc e size A c (xs.take i) :: r) := by
    by_cases h0 : i = xs.length
    · subst h0;refine ⟨w, ?_, by rw [List.take_length]; exact s.perm hperm⟩;rw [List.drop_length]
      cases dropA A c xs.length size <;> simp [Builtin.clear_, run_und ht]
    · rcases hrow with ⟨_, _, rfl⟩ | ⟨g, off, cur, rfl, sg, hle, hc, hfit, htk⟩
      · simp at hi h0; omega
      · have hilt : i < xs.length := by omega
        have hA : dropA (some ⟨g, off, none⟩) c i size = some ⟨g, off + i * size, none⟩ := by
          unfold dropA
          rw [if_neg (by omega)];simp [add_none]
        have hnum : off + i * size + 0 + (Builtin.zeroCells z.cells (xs.drop i).length).toList.length ≤ cur.size := by
          rw [zeroCells_len, hzs, List.length_drop];have h1 : (xs.length - i) * size + i * size = xs.length * size := by rw [← Nat.add_mul]; congr 1; omega
          have h2 : xs.length * size ≤ c * size := Nat.mul_le_mul_right _ hle;omega
        obtain ⟨w', hw', hs'⟩ := run_stores (P := P) (Builtin.zeroCells z.cells (xs.drop i).length).toList 0 (off + i * size) cur w _ sg (k := 0) rfl hnum (zeroCells_one hz1);obtain ⟨m, hm⟩ : ∃ m, (xs.drop i).length = m + 1 := ⟨(xs.drop i).length - 1, by rw [List.length_drop]; omega⟩;refine ⟨w', ?_, ?_⟩
        · rw [hA];rw [hm] at hw' ⊢;simp [Builtin.clear_, run_und ht, hz, hw']
        · refine Sat.shutRow (xs := xs.take i) (c := c) (size := size) (off := off) (enc := enc) (by simpa [setAt] using hs') hlt (by rw [List.length_take]; omega) hc ?_ ?_
          · rw [splice, List.size_toArray, spliceL_len, Array.length_toList]; exact hfit
          · have hti : (xs.take i).length = i := by rw [List.length_take]; omega
            rw [splice, hti]
            show ((spliceL cur.toList (off + i * size + 0) _).drop off).take _ = _
            rw [Nat.add_zero, spliceL_drop, spliceL_take, spliceL_out _ _ _ (by rw [List.length_take]; omega)];have h3 := congrArg (List.take (i * size)) htk;rw [List.take_take, Nat.min_eq_left (Nat.mul_le_mul_right _ hi)] at h3;rw [h3]
            have hs2 : (xs.map enc).flatten = ((xs.take i).map enc).flatten ++ ((xs.drop i).map enc).flatten := by
              rw [← List.flatten_append, ← List.map_append, List.take_append_drop]
            have hl2 : ((xs.take i).map enc).flatten.length = i * size := by rw [flat_len hlt, hti]
            rw [hs2, ← hl2, List.take_left]
  obtain ⟨w', hrun, hs'⟩ := key
  unfold Oper.goesV execOp
  rw [ho];rw [List.length_drop] at hrun hx;simp [resolve, invoke, builtin, f.eval hx, hrun];exact hs'.perm (hset _).symm
end
open Go Go.RowKit
section
variable {P : Program} {w0 : World} {n : Nat} {ds : List Deferred} {env : Env} {l : List HP} {o : Oper}
theorem ov_half {xt yt : TypeId} {x y : Operand} {a : Int} (ho : o.op = .binOp .shr xt x y yt) (hx : ev env x = some (.int .u64 a)) (hy : ev env y = some (.int .u64 1)) (h0 : 0 ≤ a) :
    OpV P w0 n ds env l o (.int .u64 (a / 2)) := fun fr w f s => by
  unfold execOp
  rw [ho];simp only [f.eval hx, f.eval hy, binOp];have e : a.fdiv 2 = a / 2 := Int.fdiv_eq_ediv_of_nonneg a (by decide);have hb : min 1 IntKind.u64.bits = 1 := rfl;simp [eqGuard, Op.shift, hb, e]
end
open Go Go.RowKit
theorem flat_take {α : Type} {enc : α → List Value} {size : Nat} : ∀ {xs : List α} (j : Nat), (∀ x ∈ xs, (enc x).length = size) → ((xs.take j).map enc).flatten = ((xs.map enc).flatten).take (j * size)
  | [], j, _ => by simp
  | x :: xs, 0, _ => by simp
  | x :: xs, j + 1, h => by
    have ih := flat_take (xs := xs) j fun y hy => h y (by simp [hy]);have hx := h x (by simp);simp only [List.take_succ_cons, List.map_cons, List.flatten_cons, ih];rw [List.take_append, hx, List.take_of_length_le (l := enc x) (by rw [hx, Nat.succ_mul]; omega)]
    congr 2
    rw [Nat.succ_mul]; omega
theorem flat_drop {α : Type} {enc : α → List Value} {size : Nat} : ∀ {xs : List α} (j : Nat), (∀ x ∈ xs, (enc x).length = size) → ((xs.drop j).map enc).flatten = ((xs.map enc).flatten).drop (j * size)
  | [], j, _ => by simp
  | x :: xs, 0, _ => by simp
  | x :: xs, j + 1, h => by
    have ih := flat_drop (xs := xs) j fun y hy => h y (by simp [hy]);have hx := h x (by simp);simp only [List.drop_succ_cons, List.map_cons, List.flatten_cons, ih];rw [List.drop_append, hx, List.drop_eq_nil_of_le (as := enc x) (by rw [hx, Nat.succ_mul]; omega), List.nil_append]
    congr 1
    rw [Nat.succ_mul]; omega
section
variable {P : Program} {w0 : World} {n : Nat} {ds : List Deferred} {env : Env} {l : List HP} {o : Oper}
theorem Sat.overlay {α : Type} {enc : α → List Value} {w : World} {r : List HP} {e : TypeId} {size g off c j : Nat} {cur : Array Value} {xs ys : List α} (sg : Sat w0 w (pt g (.cells cur e) :: r)) (hle : xs.length ≤ c) (hc : c ≤ maxLen) (hfit : off + c * size ≤ cur.size)
    (htk : (cur.toList.drop off).take (xs.length * size) = (xs.map enc).flatten) (hlx : ∀ x ∈ xs, (enc x).length = size) (hly : ∀ x ∈ ys, (enc x).length = size) (hj : j ≤ xs.length) (hjc : j + ys.length ≤ c) :
    Sat w0 (w.setRow g (cur.toList.take (off + j * size) ++ (ys.map enc).flatten ++ cur.toList.drop (off + j * size + (ys.map enc).flatten.length)).toArray) (Row enc e size (some ⟨g, off, none⟩) c (xs.take j ++ ys ++ xs.drop (j + ys.length)) :: r) := by
  have hgw : w.heap[g]? = some (.cells cur e) := (sg.blk (k := 0) rfl).1
  have s2 : Sat w0 (w.setRow g (cur.toList.take (off + j * size) ++ (ys.map enc).flatten ++ cur.toList.drop (off + j * size + (ys.map enc).flatten.length)).toArray)
      (pt g (.cells (cur.toList.take (off + j * size) ++ (ys.map enc).flatten ++ cur.toList.drop (off + j * size + (ys.map enc).flatten.length)).toArray e) :: r) :=
    sg.put (k := 0) rfl (setRow_heap w g cur _ e _ hgw) (fun x hx => setRow_other w g x _ hx) (by simp) rfl rfl rfl
  have hy : (ys.map enc).flatten.length = ys.length * size := flat_len hly;have hxl : (xs.map enc).flatten.length = xs.length * size := flat_len hlx;have hjs : j * size ≤ xs.length * size := Nat.mul_le_mul_right _ hj;have hcs : xs.length * size ≤ c * size := Nat.mul_le_mul_right _ hle;have hjcs : j * size + ys.length * size ≤ c * size := by rw [← Nat.add_mul]; exact Nat.mul_le_mul_right _ hjc
  refine Sat.shutRow s2 (fun x hx => ?_) ?_ hc ?_ ?_
  · rcases List.mem_append.1 hx with hx | hx
    · rcases List.mem_append.1 hx with hx | hx
      · exact hlx x (List.mem_of_mem_take hx)
      · exact hly x hx
    · exact hlx x (List.mem_of_mem_drop hx)
  · simp only [List.length_append, List.length_take, List.length_drop]; omega
  · simp only [List.size_toArray, List.length_append, List.length_take, List.length_drop, Array.length_toList]; omega
  · have hlen : (xs.take j ++ ys ++ xs.drop (j + ys.length)).length * size = (j * size + ys.length * size) + (xs.length * size - (j * size + ys.length * size)) := by
      simp only [List.length_append, List.length_take, List.length_drop, Nat.min_eq_left hj];rw [Nat.add_mul, Nat.add_mul, Nat.sub_mul, Nat.add_mul]
    have h0 : off ≤ cur.toList.length := by simp; omega
    rw [hlen, List.map_append, List.map_append, List.flatten_append, List.flatten_append, flat_take j hlx, flat_drop _ hlx, Nat.add_mul, hy]
    show List.take _ (List.drop off (cur.toList.take (off + j * size) ++ (ys.map enc).flatten ++ cur.toList.drop (off + j * size + ys.length * size))) = _
    have e1 : List.drop off (cur.toList.take (off + j * size)) = ((xs.map enc).flatten).take (j * size) := by
      rw [← htk, List.take_take, Nat.min_eq_left hjs, List.drop_take]
      congr 1; omega
    have e1l : (((xs.map enc).flatten).take (j * size)).length = j * size := by rw [List.length_take, hxl]; omega
    rw [List.drop_append_of_le_length (by simp; omega), List.drop_append_of_le_length (by simp; omega), e1]
    have e2 : (cur.toList.drop (off + j * size + ys.length * size)).take (xs.length * size - (j * size + ys.length * size)) = ((xs.map enc).flatten).drop (j * size + ys.length * size) := by
      rw [← htk, List.drop_take, List.drop_drop]
      congr 2; omega
    rw [List.take_append, List.take_of_length_le (by simp only [List.length_append, e1l, hy]; omega)]
    congr 1
    rw [← e2]
    congr 1
    simp only [List.length_append, e1l, hy];omega
theorem ot_copyRow {α : Type} {enc : α → List Value} {t t' e : TypeId} {x y : Operand} {ti : TypeInfo} {k c j dlen dcap slen scap size : Nat} {A D B : Option Addr} {xs ys : List α} (hr : ∀ w, Sat w0 w l → Rd enc w size B ys)
    (ho : o.op = .call { callee := .builtin .copy, args := #[x, y], argTypes := #[t, t'] }) (ht : P.underlying t = some (.slice e)) (hi : P.info? e = some ti) (hsize : ti.size = size)
    (hk : nth k l = some (Row enc e size A c xs)) (hx : ev env x = some (.slice D dlen dcap)) (hD : D = A.map (·.add (j * size))) (hy : ev env y = some (.slice B slen scap)) (hm : min slen dlen = ys.length)
    (hj : j ≤ xs.length) (hjc : j + ys.length ≤ c) (hne : ys ≠ []) (h1 : ∀ v ∈ ys, ∀ u ∈ enc v, u.oneCell' = true) :
    OpT P w0 n ds env l o fun u l' => u = .int .i64 ys.length ∧ l' = setAt k (Row enc e size A c (xs.take j ++ ys ++ xs.drop (j + ys.length))) l := fun a w f s => by
  subst hsize;subst hD;have hrd := hr w s;have hl : (ys.map enc).flatten.length = ys.length * ti.size := flat_len hrd.len
  have hone : ∀ u ∈ (ys.map enc).flatten, u.oneCell' = true := fun u hu => by
    obtain ⟨m, hm, hu⟩ := List.mem_flatten.1 hu;obtain ⟨v, hv, rfl⟩ := List.mem_map.1 hm;exact h1 v hv u hu
  obtain ⟨ad, rfl, hnews⟩ := hrd.at_ hne;have hpos : 0 < ys.length := List.length_pos_iff.2 hne;obtain ⟨r, hperm, hset⟩ := nth_pull hk;obtain ⟨hlx, s1, hrow⟩ := (s.perm hperm).openRow
  rcases hrow with ⟨_, rfl, _⟩ | ⟨g, off, cur, rfl, sg, hle, hc, hfit, htk⟩
  · omega
  · have hgw : w.heap[g]? = some (.cells cur e) := (sg.blk (k := 0) rfl).1
    have hcells : off + j * ti.size + (ys.map enc).flatten.length ≤ cur.size := by
      rw [hl, Nat.add_assoc, ← Nat.add_mul];exact Nat.le_trans (Nat.add_le_add_left (Nat.mul_le_mul_right _ hjc) _) hfit
    have hf := run_firstCells_some (P := P) w ti.size ys.length ad slen scap (ys.map enc).flatten hl hnews;have hst := run_storeCells_at P g (off + j * ti.size) e (ys.map enc).flatten 0 cur w hgw (by simpa using hcells) hone;simp only [Nat.add_zero] at hst;have hmin : Nat.min slen dlen = ys.length := hm
    unfold Oper.goesV execOp
    rw [ho];simp [resolve, invoke, builtin, f.eval hx, f.eval hy, Builtin.copy_, run_underlying ht, Builtin.lenOf, sizeOf, typeInfo, hi, hmin, hf, add_none, hst, goInt]
    simpa using (sg.overlay hle hc hfit htk hlx hrd.len hj hjc).perm (hset _).symm
theorem ot_appendIn {α : Type} {enc : α → List Value} {t e : TypeId} {x y : Operand} {ti : TypeInfo} {k c j scap size : Nat} {A B : Option Addr} {xs ys : List α} (hr : ∀ w, Sat w0 w l → Rd enc w size B ys)
    (ho : o.op = .call { callee := .builtin .append, args := #[x, y], argTypes := #[t, t] }) (ht : P.underlying t = some (.slice e)) (hi : P.info? e = some ti) (hsize : ti.size = size)
    (hk : nth k l = some (Row enc e size A c xs)) (hx : ev env x = some (.slice A j c)) (hy : ev env y = some (.slice B ys.length scap))
    (hj : j ≤ xs.length) (hjc : j + ys.length ≤ c) (h1 : ∀ v ∈ ys, ∀ u ∈ enc v, u.oneCell' = true) :
    OpT P w0 n ds env l o fun u l' => u = .slice A (j + ys.length) c ∧ l' = setAt k (Row enc e size A c (xs.take j ++ ys ++ xs.drop (j + ys.length))) l := fun a w f s => by
  subst hsize;have hrd := hr w s;have hl : (ys.map enc).flatten.length = ys.length * ti.size := flat_len hrd.len
  have hone : ∀ u ∈ (ys.map enc).flatten, u.oneCell' = true := fun u hu => by
    obtain ⟨m, hm, hu⟩ := List.mem_flatten.1 hu;obtain ⟨v, hv, rfl⟩ := List.mem_map.1 hm;exact h1 v hv u hu
  by_cases hne : ys = []
  · subst hne;have e0 : xs.take j ++ [] ++ xs.drop (j + ([] : List α).length) = xs := by simp
    rw [e0, setAt_nth hk]
    unfold Oper.goesV execOp
    rw [ho];simp only [List.length_nil, Nat.add_zero] at hjc hy ⊢
    cases A with
    | none => cases B <;> simp [resolve, invoke, builtin, f.eval hx, f.eval hy, Builtin.append_, run_underlying ht, sizeOf, typeInfo, hi, Builtin.lenOf, hjc, Builtin.firstCells, loadCells, loadCellsFrom] <;> exact s
    | some ad => cases B <;> simp [resolve, invoke, builtin, f.eval hx, f.eval hy, Builtin.append_, run_underlying ht, sizeOf, typeInfo, hi, Builtin.lenOf, hjc, Builtin.firstCells, loadCells, loadCellsFrom, storeCells] <;> exact s
  obtain ⟨ad, rfl, hnews⟩ := hrd.at_ hne;have hpos : 0 < ys.length := List.length_pos_iff.2 hne;obtain ⟨r, hperm, hset⟩ := nth_pull hk;obtain ⟨hlx, s1, hrow⟩ := (s.perm hperm).openRow
  rcases hrow with ⟨_, rfl, _⟩ | ⟨g, off, cur, rfl, sg, hle, hc, hfit, htk⟩
  · omega
  · have hgw : w.heap[g]? = some (.cells cur e) := (sg.blk (k := 0) rfl).1
    have hcells : off + j * ti.size + (ys.map enc).flatten.length ≤ cur.size := by
      rw [hl, Nat.add_assoc, ← Nat.add_mul];exact Nat.le_trans (Nat.add_le_add_left (Nat.mul_le_mul_right _ hjc) _) hfit
    have hf := run_firstCells_some (P := P) w ti.size ys.length ad ys.length scap (ys.map enc).flatten hl hnews;have hst := run_storeCells_at P g (off + j * ti.size) e (ys.map enc).flatten 0 cur w hgw (by simpa using hcells) hone;simp only [Nat.add_zero] at hst
    unfold Oper.goesV execOp
    rw [ho];simp [resolve, invoke, builtin, f.eval hx, f.eval hy, Builtin.append_, run_underlying ht, sizeOf, typeInfo, hi, Builtin.lenOf, hjc, hf, add_none, hst]
    simpa using (sg.overlay hle hc hfit htk hlx hrd.len hj hjc).perm (hset _).symm
theorem ot_appendZeros {α : Type} {enc : α → List Value} {t tn e : TypeId} {kn : IntKind} {x y : Operand} {ti : TypeInfo} {z : Value} {k c j m size : Nat} {A : Option Addr} {xs : List α} (z0 : α)
    (ho : o.op = .call { callee := .builtin .append, args := #[x, y], argTypes := #[t, tn] }) (ht : P.underlying t = some (.slice e)) (htn : P.underlying tn = some (.int kn)) (hi : P.info? e = some ti) (hz : ti.zero = some z) (hsize : ti.size = size)
    (hzc : z.cells = (enc z0).toArray) (hzs : (enc z0).length = size) (hpos : 0 < size)
    (hk : nth k l = some (Row enc e size A c xs)) (hx : ev env x = some (.slice A j c)) (hy : ev env y = some (.int .i64 (m : Nat))) (hj : j < xs.length) (hm : 0 < m) (hc : c < j + m) (hb : (j + m) * ti.bytes ≤ 140737488355328) (hb1 : 0 < ti.bytes) :
    OpT P w0 n ds env l o fun u l' => ∃ A' c', u = .slice A' (j + m) c' ∧ l' = Row enc e size A' c' (xs.take j ++ List.replicate m z0) :: l := fun a w f s => by
  subst hsize;have hrd := s.rd hk;have hlx := hrd.len;have hne : xs ≠ [] := fun e => by subst e; simp at hj
  obtain ⟨ad, rfl, hcell⟩ := hrd.at_ hne;have hlt : ∀ x ∈ xs.take j, (enc x).length = ti.size := fun x hx => hlx x (List.mem_of_mem_take hx);have hjl : (xs.take j).length = j := by rw [List.length_take]; omega
  have hl : ((xs.take j).map enc).flatten.length = j * ti.size := by rw [flat_len hlt, hjl]
  have holds : ∀ q v, ((xs.take j).map enc).flatten[q]? = some v → w.cell? (ad.add q) = some v := fun q v hq => by
    rw [flat_take j hlx, List.getElem?_take] at hq
    split at hq
    · exact hcell q v hq
    · cases hq
  have h63 : j + m ≤ 140737488355328 := Nat.le_trans (Nat.le_mul_of_pos_right _ hb1) hb;have hn : m ≠ 0 := by omega
  have hw : IntKind.i64.wrap (m : Int) = m := by rw [IntKind.wrap_i64]; omega
  have h63' : ¬ (9223372036854775807 < ((j : Int) + (m : Int))) := by omega
  have h48' : ¬ (281474976710656 < Builtin.nextslicecap (j + m) c * ti.bytes) := by
    have := growslice_fits (need := j + m) (old := c) (by omega) hb;omega
  have hmb : m * ti.bytes ≤ (j + m) * ti.bytes := Nat.mul_le_mul_right _ (by omega)
  have h48i : ¬ (281474976710656 < (m : Int) * (ti.bytes : Int)) := by
    rw [← Int.natCast_mul]; omega
  have hneg : ¬ ((m : Int) < 0) := by omega
  have hns : ¬ (m * ti.size = 0) := Nat.mul_ne_zero hn (by omega);have hfit : ¬ (j + m ≤ c) := by omega
  have hfo := run_firstCells_some (P := P) w.drew ti.size j ad j c ((xs.take j).map enc).flatten hl (by simpa using holds)
  have hrun : (Builtin.append_ #[t, tn] o.type #[.slice (some ad) j c, .int .i64 (m : Nat)]).run P w =
      .ok (.slice (some ⟨w.heap.size, 0, none⟩) (j + m) (grownCap w (j + m) c e)) (w.drew.alloc (.cells (((xs.take j).map enc).flatten.toArray ++ Builtin.zeroCells z.cells m ++ Builtin.zeroCells z.cells (grownCap w (j + m) c e - (j + m))) e)) := by
    simp [Builtin.append_, run_underlying ht, run_underlying htn, sizeOf, typeInfo, zeroValue, hi, hz, asInt, asIntOf, hw, hn, hneg, hns, hfit, h63', h48', h48i, Question.forced, hfo, newRow, grownCap]
  have hrep : ∀ q, (List.map enc (List.replicate q z0)).flatten = rep (enc z0) q := fun q => by
    induction q with
    | zero => rfl
    | succ q ih => rw [List.replicate_succ, List.map_cons, List.flatten_cons, ih]; rfl
  have hzr : Builtin.zeroCells z.cells m = (rep (enc z0) m).toArray := by
    rw [hzc]
    unfold Builtin.zeroCells
    have := rep_eq (zs := enc z0) (by omega) m
    simpa using this
  have hge := grownCap_ge w (j + m) c e;have hcm : grownCap w (j + m) c e ≤ maxLen := grownCap_le_maxLen w _ c e (by simp only [maxLen]; omega);have hzl : z.cells.size = ti.size := by rw [hzc]; simpa using hzs
  have s2 : Sat w0 w.drew l := ⟨⟨s.below.os, s.below.tape, s.below.output, s.below.size, s.below.block⟩, s.here⟩;have hlen : (xs.take j ++ List.replicate m z0).length = j + m := by rw [List.length_append, hjl, List.length_replicate]
  have hall : ∀ x ∈ xs.take j ++ List.replicate m z0, (enc x).length = ti.size := fun x hx => by
    rcases List.mem_append.1 hx with h | h
    · exact hlt x h
    · rw [List.eq_of_mem_replicate h]; exact hzs
  have hfin : Sat w0 (w.drew.alloc (.cells (((xs.take j).map enc).flatten.toArray ++ Builtin.zeroCells z.cells m ++ Builtin.zeroCells z.cells (grownCap w (j + m) c e - (j + m))) e)) (Row enc e ti.size (some ⟨w.heap.size, 0, none⟩) (grownCap w (j + m) c e) (xs.take j ++ List.replicate m z0) :: l) := by
    refine Sat.shutRow (off := 0) (s2.alloc _) hall (by rw [hlen]; exact hge) hcm ?_ ?_
    · simp only [Array.size_append, List.size_toArray, size_zeroCells, hzl, hl, Nat.zero_add];rw [← Nat.add_mul, ← Nat.add_mul];exact Nat.mul_le_mul_right _ (by omega)
    · simp only [Array.toList_append, List.drop_zero, hzr];rw [hlen, List.map_append, List.flatten_append, hrep];have e1 : ((xs.take j).map enc).flatten.length + (rep (enc z0) m).length = (j + m) * ti.size := by rw [hl, rep_len, hzs, Nat.add_mul]
      rw [← e1, ← List.length_append];exact List.take_left
  unfold Oper.goesV execOp
  rw [ho];simp only [resolve, invoke, builtin, Sem.run_bind, Sem.run_pure, Result.andThen_ok, List.map_toArray, List.map_cons, List.map_nil, f.eval hx, f.eval hy, hrun];exact ⟨_, ⟨_, _, rfl, rfl⟩, hfin⟩
theorem ot_appendZeros0 {α : Type} {enc : α → List Value} {t tn e : TypeId} {kn : IntKind} {x y : Operand} {ti : TypeInfo} {z : Value} {m size : Nat} (z0 : α)
    (ho : o.op = .call { callee := .builtin .append, args := #[x, y], argTypes := #[t, tn] }) (ht : P.underlying t = some (.slice e)) (htn : P.underlying tn = some (.int kn)) (hi : P.info? e = some ti) (hz : ti.zero = some z) (hsize : ti.size = size)
    (hzc : z.cells = (enc z0).toArray) (hzs : (enc z0).length = size) (hpos : 0 < size)
    (hx : ev env x = some (.slice none 0 0)) (hy : ev env y = some (.int .i64 (m : Nat))) (hm : 0 < m) (hb : m * ti.bytes ≤ 140737488355328) (hb1 : 0 < ti.bytes) :
    OpT P w0 n ds env l o fun u l' => ∃ A' c', u = .slice A' m c' ∧ l' = Row enc e size A' c' (List.replicate m z0) :: l := fun a w f s => by
  subst hsize;have h63 : m ≤ 140737488355328 := Nat.le_trans (Nat.le_mul_of_pos_right _ hb1) hb;have hn : m ≠ 0 := by omega
  have hw : IntKind.i64.wrap (m : Int) = m := by rw [IntKind.wrap_i64]; omega
  have h63' : ¬ (9223372036854775807 < (m : Int)) := by omega
  have h48' : ¬ (281474976710656 < Builtin.nextslicecap m 0 * ti.bytes) := by
    have := growslice_fits (need := m) (old := 0) (by omega) hb;omega
  have h48i : ¬ (281474976710656 < (m : Int) * (ti.bytes : Int)) := by
    rw [← Int.natCast_mul]; omega
  have hneg : ¬ ((m : Int) < 0) := by omega
  have hns : ¬ (m * ti.size = 0) := Nat.mul_ne_zero hn (by omega)
  have hrun : (Builtin.append_ #[t, tn] o.type #[.slice none 0 0, .int .i64 (m : Nat)]).run P w =
      .ok (.slice (some ⟨w.heap.size, 0, none⟩) m (grownCap w m 0 e)) (w.drew.alloc (.cells (Builtin.zeroCells z.cells m ++ Builtin.zeroCells z.cells (grownCap w m 0 e - m)) e)) := by
    simp [Builtin.append_, run_underlying ht, run_underlying htn, sizeOf, typeInfo, zeroValue, hi, hz, asInt, asIntOf, hw, hn, hneg, hns, h63', h48', h48i, Question.forced, newRow, grownCap, Builtin.firstCells]
  have hrep : ∀ q, (List.map enc (List.replicate q z0)).flatten = rep (enc z0) q := fun q => by
    induction q with
    | zero => rfl
    | succ q ih => rw [List.replicate_succ, List.map_cons, List.flatten_cons, ih]; rfl
  have hzr : Builtin.zeroCells z.cells m = (rep (enc z0) m).toArray := by
    rw [hzc]
    unfold Builtin.zeroCells
    have := rep_eq (zs := enc z0) (by omega) m
    simpa using this
  have hge := grownCap_ge w m 0 e;have hcm : grownCap w m 0 e ≤ maxLen := grownCap_le_maxLen w _ 0 e (by simp only [maxLen]; omega);have hzl : z.cells.size = ti.size := by rw [hzc]; simpa using hzs
  have s2 : Sat w0 w.drew l := ⟨⟨s.below.os, s.below.tape, s.below.output, s.below.size, s.below.block⟩, s.here⟩;have hall : ∀ x ∈ List.replicate m z0, (enc x).length = ti.size := fun x hx => by rw [List.eq_of_mem_replicate hx]; exact hzs
  have hfin : Sat w0 (w.drew.alloc (.cells (Builtin.zeroCells z.cells m ++ Builtin.zeroCells z.cells (grownCap w m 0 e - m)) e)) (Row enc e ti.size (some ⟨w.heap.size, 0, none⟩) (grownCap w m 0 e) (List.replicate m z0) :: l) := by
    refine Sat.shutRow (off := 0) (s2.alloc _) hall (by rw [List.length_replicate]; exact hge) hcm ?_ ?_
    · simp only [Array.size_append, size_zeroCells, hzl, Nat.zero_add];rw [← Nat.add_mul];exact Nat.mul_le_mul_right _ (by omega)
    · simp only [Array.toList_append, List.drop_zero, hzr];rw [List.length_replicate, hrep];have e1 : (rep (enc z0) m).length = m * ti.size := by rw [rep_len, hzs]
      rw [← e1];exact List.take_left
  unfold Oper.goesV execOp
  rw [ho];simp only [resolve, invoke, builtin, Sem.run_bind, Sem.run_pure, Result.andThen_ok, List.map_toArray, List.map_cons, List.map_nil, f.eval hx, f.eval hy, hrun];exact ⟨_, ⟨_, _, rfl, rfl⟩, hfin⟩
theorem ov_capS {t e : TypeId} {x : Operand} {A : Option Addr} {m c : Nat} (ho : o.op = .call { callee := .builtin .cap, args := #[x], argTypes := #[t] }) (ht : P.underlying t = some (.slice e)) (hx : ev env x = some (.slice A m c)) :
    OpV P w0 n ds env l o (.int .i64 (c : Nat)) := fun fr w f s => by
  unfold execOp
  rw [ho];simp [resolve, invoke, builtin, f.eval hx, Builtin.cap_, run_und ht, goInt]
theorem ov_sliceToC {t e : TypeId} {x hi : Operand} {A : Option Addr} {m c size k : Nat} {ik : IntKind} (ho : o.op = .slice t x none (some hi) none) (ht : P.underlying t = some (.slice e)) (hs : (P.info? e).map (·.size) = some size)
    (hx : ev env x = some (.slice A m c)) (hl : ev env hi = some (.int ik (k : Int))) (hk : k ≤ c) : OpV P w0 n ds env l o (.slice A k c) := fun fr w f s => by
  unfold execOp
  rw [ho]
  cases hti : P.info? e with
  | none => rw [hti] at hs; cases hs
  | some ti =>
    have : ti.size = size := by simpa [hti] using hs
    have hkc : (k : Int) ≤ (c : Int) := by omega
    have h0 : (A.map fun p => p.add 0) = A := by cases A <;> simp [addr_zero]
    simp [Instr.sliceAt, run_und ht, Instr.slice, Instr.sliceBounds, Instr.sliceBound, f.eval hx, f.eval hl, asIntOf, hkc, sizeOf, typeInfo, hti, this, h0];intro h; omega
theorem ov_sliceFromC {t e : TypeId} {x lo : Operand} {A : Option Addr} {m c size j : Nat} {ik : IntKind} (ho : o.op = .slice t x (some lo) none none) (ht : P.underlying t = some (.slice e)) (hs : (P.info? e).map (·.size) = some size)
    (hx : ev env x = some (.slice A m c)) (hj : ev env lo = some (.int ik (j : Int))) (hjm : j ≤ m) : OpV P w0 n ds env l o (.slice (dropA A c j size) (m - j) (c - j)) := fun fr w f s => by
  unfold execOp
  rw [ho]
  cases hti : P.info? e with
  | none => rw [hti] at hs; cases hs
  | some ti =>
    have : ti.size = size := by simpa [hti] using hs
    have hjm' : (j : Int) ≤ (m : Int) := by omega
    simp [Instr.sliceAt, run_und ht, Instr.slice, Instr.sliceBounds, Instr.sliceBound, f.eval hx, f.eval hj, asIntOf, hjm', sizeOf, typeInfo, hti, this, dropA];intro h; omega
theorem ov_sliceMidC {t e : TypeId} {x lo hi : Operand} {A : Option Addr} {m c size j k : Nat} {ik ik2 : IntKind} (ho : o.op = .slice t x (some lo) (some hi) none) (ht : P.underlying t = some (.slice e)) (hs : (P.info? e).map (·.size) = some size)
    (hx : ev env x = some (.slice A m c)) (hj : ev env lo = some (.int ik (j : Int))) (hl : ev env hi = some (.int ik2 (k : Int))) (hjk : j ≤ k) (hk : k ≤ c) : OpV P w0 n ds env l o (.slice (dropA A c j size) (k - j) (c - j)) := fun fr w f s => by
  unfold execOp
  rw [ho]
  cases hti : P.info? e with
  | none => rw [hti] at hs; cases hs
  | some ti =>
    have : ti.size = size := by simpa [hti] using hs
    have hkc : (k : Int) ≤ (c : Int) := by omega
    have hjk' : (j : Int) ≤ (k : Int) := by omega
    have h0 : (A.map fun p => p.add 0) = A := by cases A <;> simp [addr_zero]
    simp [Instr.sliceAt, run_und ht, Instr.slice, Instr.sliceBounds, Instr.sliceBound, f.eval hx, f.eval hj, f.eval hl, asIntOf, hkc, hjk', sizeOf, typeInfo, hti, this, dropA];rw [if_pos hk, if_pos hjk]
theorem ov_slice3 {t e : TypeId} {x lo hi mx : Operand} {A : Option Addr} {m c size j k q : Nat} {ik ik2 ik3 : IntKind} (ho : o.op = .slice t x (some lo) (some hi) (some mx)) (ht : P.underlying t = some (.slice e)) (hs : (P.info? e).map (·.size) = some size)
    (hx : ev env x = some (.slice A m c)) (hj : ev env lo = some (.int ik (j : Int))) (hl : ev env hi = some (.int ik2 (k : Int))) (hq : ev env mx = some (.int ik3 (q : Int))) (hjk : j ≤ k) (hk : k ≤ q) (hqc : q ≤ c) : OpV P w0 n ds env l o (.slice (dropA A q j size) (k - j) (q - j)) := fun fr w f s => by
  unfold execOp
  rw [ho]
  cases hti : P.info? e with
  | none => rw [hti] at hs; cases hs
  | some ti =>
    have : ti.size = size := by simpa [hti] using hs
    have hkc : (k : Int) ≤ (q : Int) := by omega
    have hqc' : (q : Int) ≤ (c : Int) := by omega
    have hjk' : (j : Int) ≤ (k : Int) := by omega
    have h0 : (A.map fun p => p.add 0) = A := by cases A <;> simp [addr_zero]
    simp [Instr.sliceAt, run_und ht, Instr.slice, Instr.sliceBounds, Instr.sliceBound, f.eval hx, f.eval hj, f.eval hl, f.eval hq, asIntOf, hkc, hqc', hjk', sizeOf, typeInfo, hti, this, dropA];rw [if_pos hqc, if_pos hk, if_pos hjk]
theorem x_overlaps {α : Type} {enc : α → List Value} {tS tR e : TypeId} {size gv c q la ca lb cb : Nat} {cs : Array Value} {T : TypeId} {A : Option Addr} {xs : List α} {ks : List Nat} {r : List HP} (ht : P.underlying tS = some (.slice e)) (hz : ∀ w, (sizeOf e).run P w = .ok size w) (hpos : 0 < size) (hne : xs ≠ [])
    (hks : pulls ks l = some ([pt gv (.cells cs T (0, 0)), Row enc e size A c xs], r)) :
    ∀ w, Sat w0 w l → ∃ w', (Extern.SlicesOverlaps.overlaps #[tS, tS] #[tR] [.slice (some ⟨gv, 0, none⟩) la ca, .slice (A.map (·.add q)) lb cb].toArray).run P w = .ok (.bool false) w' ∧ Sat w0 w' l := fun w s => by
  refine ⟨w, ?_, s⟩;obtain ⟨bel, h, ⟨p, p', hp, ⟨p2, q2, ⟨hl, hrow⟩, _, _, l3, _⟩, hd, l1, l2⟩, kk⟩ := (show Sat w0 w (pt gv (.cells cs T (0, 0)) :: Row enc e size A c xs :: r) from s.pulls hks)
  rcases hrow with ⟨_, _, rfl⟩ | ⟨g, off, cur, rfl, hg, h3, h4, h5, h6⟩
  · exact absurd rfl hne
  · have hp : p gv = some (.cells cs T (0, 0)) := hp
    have hgne : gv ≠ g := fun e0 => by
      subst e0
      rcases hd gv with hd | hd
      · rw [hp] at hd; cases hd
      · rw [l3 gv _ hg] at hd; cases hd
    have b1 := (kk gv _ (l1 gv _ hp)).2;have b2 := (kk g _ (l2 g _ (l3 g _ hg))).2;have hx1 : 1 ≤ xs.length := List.length_pos_iff.2 hne;have hc1 : 1 ≤ c * size := Nat.mul_pos (by omega) hpos;have hA : (some (⟨g, off, none⟩ : Addr)).map (·.add q) = some ⟨g, off + q, none⟩ := by simp [add_none]
    rw [hA];exact Lib.run_overlaps_apart w tS tR e ht size hz ⟨gv, 0, none⟩ ⟨g, off + q, none⟩ la ca lb cb hgne T e cs.size cur.size (by simp [World.shape?, b1]) (by simp [World.shape?, b2]) (by omega) (by simp [World.frozen?, b1]) (by simp [World.frozen?, b1])
end
theorem Row_tk {α : Type} {enc : α → List Value} {e : TypeId} {size : Nat} {A : Option Addr} {c : Nat} {xs : List α} {h : PH} (r : Row enc e size A c xs h) (k : Nat) : Row enc e size A c (xs.take k) h := by
  obtain ⟨hl, hr⟩ := r;refine ⟨fun x hx => hl x (List.mem_of_mem_take hx), ?_⟩
  rcases hr with ⟨h1, h2, h3⟩ | ⟨g, off, cur, h1, h2, h3, h4, h5, h6⟩
  · exact .inl ⟨h1, h2, by rw [h3]; simp⟩
  · refine .inr ⟨g, off, cur, h1, h2, by rw [List.length_take]; omega, h4, h5, ?_⟩
    have hs : (xs.map enc).flatten = ((xs.take k).map enc).flatten ++ ((xs.drop k).map enc).flatten := by
      rw [← List.flatten_append, ← List.map_append, List.take_append_drop]
    have hl2 : ((xs.take k).map enc).flatten.length = (xs.take k).length * size := flat_len fun x hx => hl x (List.mem_of_mem_take hx);have := congrArg (List.take ((xs.take k).length * size)) h6;rw [hs, ← hl2, List.take_left, hl2, List.take_take, Nat.min_eq_left (Nat.mul_le_mul_right _ (by rw [List.length_take]; omega))] at this;exact this
theorem at_rowTk {w0 : World} {n : Nat} {ds : List Deferred} {R : Act → World → Prop} {env : Env} {α : Type} {enc : α → List Value} {l : List HP} (j k : Nat) {e : TypeId} {size : Nat} {A : Option Addr} {c : Nat} {xs : List α} (hk : nth k l = some (Row enc e size A c xs))
    (h : At w0 n ds R env (setAt k (Row enc e size A c (xs.take j)) l)) : At w0 n ds R env l := fun a w f s => by
  refine h a w f ?_;obtain ⟨r, hp, hs⟩ := nth_pull hk;have s1 : Sat w0 w (Row enc e size A c xs :: r) := s.imp fun _ hh => star_perm hp hh;have s2 : Sat w0 w (Row enc e size A c (xs.take j) :: r) := s1.imp fun h ⟨p, q, h1, h2, h3⟩ => ⟨p, q, Row_tk h1 j, h2, h3⟩;exact s2.imp fun _ hh => star_perm (hs _).symm hh
open Go Go.RowKit
inductive Kf where
  | seq (c : Code)
  | blk (id : Nat)
  | inv (K : Act → World → Prop)
def kq (ro : Option Nat) (P : Program) (Q : Exit → Act → World → Prop) : List Kf → Exit → Act → World → Prop
  | [] => Q
  | .seq c :: fs => Exit.then (gwp ro P c (kq ro P Q fs)) (kq ro P Q fs)
  | .blk id :: fs => Exit.inBlock id (kq ro P Q fs)
  | .inv K :: fs => Exit.then K (kq ro P Q fs)
inductive Pos where
  | code (c : Code)
  | ops (all : Array Oper) (rest : List Oper)
  | out (e : Exit)
def goal (ro : Option Nat) (P : Program) (Q : Exit → Act → World → Prop) (fs : List Kf) : Pos → Act → World → Prop
  | .code c => gwp ro P c (kq ro P Q fs)
  | .ops all rest => gList ro P all (kq ro P Q fs) rest
  | .out e => kq ro P Q fs e
abbrev Mem := List (Nat × Nat × TypeId × List Value)
def Views (l : List HP) : Mem → Prop
  | [] => True
  | (k, b, t, cs) :: r => nth k l = some (pt b (.cells cs.toArray t (0, 0))) ∧ Views l r
def AllEq : List (Nat × Nat) → Prop
  | [] => True
  | p :: r => p.1 = p.2 ∧ AllEq r
def kNo : IntKind → Nat
  | .i8 => 0 | .i16 => 1 | .i32 => 2 | .i64 => 3 | .u8 => 4 | .u16 => 5 | .u32 => 6 | .u64 => 7
theorem kNo_inj {i j : IntKind} (h : Nat.beq (kNo i) (kNo j) = true) : i = j := by
  cases i <;> cases j <;> first | rfl | (simp [kNo] at h)
def takeK {R : Type} : Nat → List Value → (List Value → Option R) → Option R
  | 0, _, k => k []
  | n + 1, v :: r, k => takeK n r fun l => k (v :: l)
  | _ + 1, [], _ => none
def dropK : Nat → List Value → Option (List Value)
  | 0, l => some l
  | n + 1, _ :: r => dropK n r
  | _ + 1, [] => none
theorem takeK_some {R : Type} : ∀ {n : Nat} {l : List Value} {k : List Value → Option R} {r : R}, takeK n l k = some r → ∃ vs, k vs = some r ∧ vs.length = n ∧ ∃ t, l = vs ++ t
  | 0, l, k, r, h => ⟨[], h, rfl, l, rfl⟩
  | n + 1, v :: l, k, r, h => by
    obtain ⟨vs, h1, h2, t, h3⟩ := takeK_some (n := n) h;exact ⟨v :: vs, h1, by simp [h2], t, by simp [h3]⟩
theorem dropK_some : ∀ {n : Nat} {l r : List Value}, dropK n l = some r → r = l.drop n
  | 0, l, r, h => by simp [dropK] at h; simp [h]
  | n + 1, v :: l, r, h => by simp only [dropK] at h; simpa using dropK_some h
theorem nthAll_drop : ∀ {off : Nat} {cs vs t : List Value}, cs.drop off = vs ++ t → NthAll cs off vs
  | off, cs, [], t, h => trivial
  | off, cs, v :: vs, t, h => by
    refine ⟨?_, nthAll_drop (t := t) ?_⟩
    · have h2 : (cs.drop off)[0]? = some v := by rw [h]; rfl
      rw [List.getElem?_drop] at h2;rw [nth_list]; simpa using h2
    · rw [← List.drop_drop, h]; simp
def isAggD : TypeDesc → Bool
  | .struct _ | .array _ _ => true
  | _ => false
def opK {R : Type} (P : Program) (M : Mem) (env : Env) (op : Op) (ks : List Nat) (k : Value → List Nat → Option (Nat × Nat) → Option R) : Option R :=
  match op with
  | .move x => (match ev env x with | some v => k v ks none | none => none)
  | .assign x => (match ev env x with | some v => k v ks none | none => none)
  | .pick c x y => (match ev env c with
    | some (.bool true) => (match ev env x with | some v => k v ks none | none => none)
    | some (.bool false) => (match ev env y with | some v => k v ks none | none => none)
    | _ => none)
  | .binOp op _ x y _ => (match ev env x with
    | some (.int i a) => (match ev env y with
      | some (.int j b) => (match Nat.beq (kNo i) (kNo j) with
        | true => (match intBin op i a b with | some v => k v ks none | none => none)
        | false => none)
      | _ => none)
    | some (.string ⟨⟨a⟩⟩) => (match ev env y with
      | some (.string ⟨⟨b⟩⟩) => (match strBinL op a b with | some v => k v ks none | none => none)
      | _ => none)
    | _ => none)
  | .unOp .not _ x => (match ev env x with | some (.bool b) => k (.bool (!b)) ks none | _ => none)
  | .nilCheck x => (match ev env x with | some (.pointer (some p)) => k (.pointer (some p)) ks none | _ => none)
  | .extract x i => (match ev env x with | some (.tuple ⟨vs⟩) => (match nth i vs with | some v => k v ks none | none => none) | _ => none)
  | .fieldAddr t x i => (match ev env x with
    | some (.pointer (some ⟨b, off, none⟩)) => (match fieldOff P t i with | some o => k (.pointer (some ⟨b, off + o, none⟩)) ks none | none => none)
    | _ => none)
  | .makeFunc fn ⟨first⟩ ⟨caps⟩ => (match evs env first with
    | some xs => (match evs env caps with | some ys => k (.func fn ⟨xs⟩ ⟨ys⟩) ks none | none => none)
    | none => none)
  | .load t x => (match ks with
    | j :: ks => (match M[j]? with
      | some (_, b, _, cs) => (match ev env x with
        | some (.pointer (some ⟨b', off, none⟩)) => (match P.underlying t with
          | some d => (match isAggD d with
            | false => (match nth off cs with | some v => k v ks (some (b', b)) | none => none)
            | true => (match P.info? t with
              | some ti => (match dropK off cs with | some r => takeK ti.size r fun vs => k (.agg ⟨vs⟩) ks (some (b', b)) | none => none)
              | none => none))
          | none => none)
        | _ => none)
      | none => none)
    | [] => none)
  | .call c => (match c with
    | ⟨.builtin .len, ⟨[x]⟩, ⟨[t]⟩⟩ => (match ev env x with
      | some (.slice _ m _) => (match P.underlying t with | some (.slice _) => k (.int .i64 m) ks none | _ => none)
      | some (.string ⟨⟨b⟩⟩) => (match P.underlying t with | some .string => k (.int .i64 b.length) ks none | _ => none)
      | _ => none)
    | _ => none)
  | _ => none
section
variable {ro : Option Nat} {P : Program} {w0 : World} {n : Nat} {ds : List Deferred} {l : List HP} {M : Mem}
theorem views_at : ∀ {M : Mem} {j k b : Nat} {t : TypeId} {cs : List Value}, Views l M → M[j]? = some (k, b, t, cs) → nth k l = some (pt b (.cells cs.toArray t (0, 0)))
  | (k', b', t', cs') :: M, 0, k, b, t, cs, h, e => by simp at e; obtain ⟨rfl, rfl, rfl, rfl⟩ := e; exact h.1
  | p :: M, j + 1, k, b, t, cs, h, e => views_at (M := M) h.2 (by simpa using e)
theorem opK_sound {R : Type} {env : Env} {op : Op} {ks : List Nat} {k : Value → List Nat → Option (Nat × Nat) → Option R} {r : R} (h : opK P M env op ks k = some r) :
    ∃ v ks' es, k v ks' es = some r ∧ ∀ o : Oper, o.op = op → (∀ p, es = some p → p.1 = p.2) → Views l M → OpV P w0 n ds env l o v := by
  unfold opK at h
  split at h
  · split at h
    · rename_i v hv; exact ⟨v, _, _, h, fun o ho _ _ => ov_move ho hv⟩
    · cases h
  · split at h
    · rename_i v hv; exact ⟨v, _, _, h, fun o ho _ _ => ov_assign ho hv⟩
    · cases h
  · split at h
    · rename_i hc
      split at h
      · rename_i v hv; exact ⟨v, _, _, h, fun o ho _ _ => ov_pick_t ho hc hv⟩
      · cases h
    · rename_i hc
      split at h
      · rename_i v hv; exact ⟨v, _, _, h, fun o ho _ _ => ov_pick_f ho hc hv⟩
      · cases h
    · cases h
  · split at h
    · rename_i i a hx
      split at h
      · rename_i j b hy
        split at h
        · rename_i hk
          have := kNo_inj hk;subst this
          split at h
          · rename_i v hv; exact ⟨v, _, _, h, fun o ho _ _ => ov_int ho hx hy hv⟩
          · cases h
        · cases h
      · cases h
    · rename_i a hx
      split at h
      · rename_i b hy
        split at h
        · rename_i v hv; exact ⟨v, _, _, h, fun o ho _ _ => ov_strL ho hx hy hv⟩
        · cases h
      · cases h
    · cases h
  · split at h
    · rename_i b hx; exact ⟨_, _, _, h, fun o ho _ _ => ov_not ho hx⟩
    · cases h
  · split at h
    · rename_i p hx; exact ⟨_, _, _, h, fun o ho _ _ => ov_nilCheck ho hx⟩
    · cases h
  · split at h
    · rename_i vs hx
      split at h
      · rename_i v hv; exact ⟨_, _, _, h, fun o ho _ _ => ov_extract ho hx hv⟩
      · cases h
    · cases h
  · split at h
    · rename_i b off hx
      split at h
      · rename_i o' hf; exact ⟨_, _, _, h, fun o ho _ _ => ov_fieldAddr ho hx hf rfl⟩
      · cases h
    · cases h
  · split at h
    · rename_i xs hx
      split at h
      · rename_i ys hy; exact ⟨_, _, _, h, fun o ho _ _ => ov_makeFunc ho hx hy⟩
      · cases h
    · cases h
  · split at h
    · rename_i j ks'
      split at h
      · rename_i kk b ty cs hm
        split at h
        · rename_i b' off hx
          split at h
          · rename_i d hd
            split at h
            · rename_i ha
              split at h
              · rename_i v hv
                refine ⟨_, _, _, h, fun o ho he hv' => ?_⟩;have hb : b' = b := he _ rfl;subst hb
                exact ov_load ho hx (by rw [hd]; cases d <;> simp [isAggD] at ha ⊢) fun w s => s.ld (views_at hv' hm) hv
              · cases h
            · rename_i ha
              split at h
              · rename_i ti hti
                split at h
                · rename_i q hq
                  obtain ⟨vs, h1, h2, t, h3⟩ := takeK_some h;refine ⟨_, _, _, h1, fun o ho he hv' => ?_⟩;have hb : b' = b := he _ rfl;subst hb
                  refine ov_loadS ho hx (by rw [hd]; cases d <;> simp [isAggD] at ha ⊢) (by rw [hti, h2]; rfl) fun w s => s.lds (views_at hv' hm) ?_
                  exact nthAll_drop (t := t) (by rw [← h3]; exact (dropK_some hq).symm)
                · cases h
              · cases h
          · cases h
        · cases h
      · cases h
    · cases h
  · split at h
    · rename_i x t
      split at h
      · rename_i A m c hx
        split at h
        · rename_i e hu; exact ⟨_, _, _, h, fun o ho _ _ => ov_len_slice ho hu hx⟩
        · cases h
      · rename_i b hx
        split at h
        · rename_i hu; exact ⟨_, _, _, h, fun o ho _ _ => ov_len_strL ho hu hx⟩
        · cases h
      · cases h
    · cases h
  · cases h
end
def want1 (all : Array Oper) (env : Env) : Option (Nat × Bool) → Option Bool
  | none => some true
  | some (j, want) => (match guardV all env j with
    | some b => (match b with
      | true => (match want with | true => some true | false => some false)
      | false => (match want with | true => some false | false => some true))
    | none => (match guardN all env j with | true => some false | false => none))
section
variable {ro : Option Nat} {P : Program} {w0 : World} {n : Nat} {ds : List Deferred} {env : Env} {l : List HP} {ops : Array Oper} {Q : Exit → Act → World → Prop} {o : Oper} {rest : List Oper}
theorem want1_yes (h : want1 ops env o.guard = some true) {a : Act} (f : Fr n ds env a) : Region.wanted o (yielded ops a.tmps) = true := by
  unfold want1 at h
  unfold Region.wanted
  split at h
  · rename_i hg; rw [hg]
  · rename_i j want hg
    rw [hg]
    split at h
    · rename_i b hb
      simp only [guard_yields f hb]
      cases b <;> cases want <;> simp at h ⊢
    · rename_i hb
      split at h <;> simp at h
theorem want1_no (h : want1 ops env o.guard = some false) {a : Act} (f : Fr n ds env a) : Region.wanted o (yielded ops a.tmps) = false := by
  unfold want1 at h
  unfold Region.wanted
  split at h
  · simp at h
  · rename_i j want hg
    rw [hg]
    split at h
    · rename_i b hb
      simp only [guard_yields f hb]
      cases b <;> cases want <;> simp at h ⊢
    · rename_i hb
      split at h
      · rename_i hn; simp [guardN_yields f hn]
      · simp at h
theorem at_yes {d : Nat} {v : Value} (h : want1 ops env o.guard = some true) (hv : OpV P w0 n ds env l o v) (hd : o.dst = some d) (hn : Nat.blt d n = true)
    (k : At w0 n ds (gList ro P ops Q rest) ((d, v) :: env) l) : At w0 n ds (gList ro P ops Q (o :: rest)) env l := fun a w f s => by
  unfold gList
  rw [if_pos (want1_yes h f)];refine goesV_in ro ?_
  unfold Oper.goesV
  rw [hv a w f s, hd];exact k _ w (f.put d v hn) s
theorem at_no {d : Nat} (h : want1 ops env o.guard = some false) (hd : o.dst = some d) (hn : Nat.blt d n = true) (k : At w0 n ds (gList ro P ops Q rest) ((d, undef) :: env) l) :
    At w0 n ds (gList ro P ops Q (o :: rest)) env l := fun a w f s => by
  unfold gList
  rw [if_neg (by rw [want1_no h f]; simp), hd];exact k _ w (f.put d undef hn) s
theorem at_no0 (h : want1 ops env o.guard = some false) (hd : o.dst = none) (k : At w0 n ds (gList ro P ops Q rest) env l) :
    At w0 n ds (gList ro P ops Q (o :: rest)) env l := fun a w f s => by
  unfold gList
  rw [if_neg (by rw [want1_no h f]; simp), hd];exact k _ w f s
end
abbrev St := Pos × List Kf × Env × List (Nat × Nat)
def run (P : Program) (nt : Nat) (M : Mem) : Nat → Pos → List Kf → Env → List Nat → List (Nat × Nat) → Option St
  | 0, p, fs, env, _, es => some (p, fs, env, es)
  | n + 1, .code c, fs, env, ks, es => (match c with
    | .seq x y => run P nt M n (.code x) (.seq y :: fs) env ks es
    | .skip => run P nt M n (.out .normal) fs env ks es
    | .ret => run P nt M n (.out .ret) fs env ks es
    | .exit id => run P nt M n (.out (.exit id)) fs env ks es
    | .block id c => run P nt M n (.code c) (.blk id :: fs) env ks es
    | .region _ ⟨ops⟩ false => run P nt M n (.ops ⟨ops⟩ ops) fs env ks es
    | .cond c x y => (match ev env c with
      | some (.bool true) => run P nt M n (.code x) fs env ks es
      | some (.bool false) => run P nt M n (.code y) fs env ks es
      | _ => none)
    | _ => none)
  | n + 1, .out e, fs, env, ks, es => (match fs with
    | [] => some (.out e, [], env, es)
    | .seq c :: fs => (match e with
      | .normal => run P nt M n (.code c) fs env ks es
      | .ret => run P nt M n (.out .ret) fs env ks es
      | .exit id => run P nt M n (.out (.exit id)) fs env ks es
      | _ => none)
    | .blk id :: fs => (match e with
      | .normal => run P nt M n (.out .normal) fs env ks es
      | .ret => run P nt M n (.out .ret) fs env ks es
      | .exit id' => (match Nat.beq id' id with
        | true => run P nt M n (.out .normal) fs env ks es
        | false => run P nt M n (.out (.exit id')) fs env ks es)
      | _ => none)
    | .inv K :: fs => (match e with
      | .normal => some (.out .normal, .inv K :: fs, env, es)
      | .ret => run P nt M n (.out .ret) fs env ks es
      | .exit id => run P nt M n (.out (.exit id)) fs env ks es
      | _ => none))
  | n + 1, .ops all rest, fs, env, ks, es => (match rest with
    | [] => run P nt M n (.out .normal) fs env ks es
    | ⟨dst, op, _, _, _, g⟩ :: rest => (match want1 all env g with
      | some true => (match dst with
        | some d => (match Nat.blt d nt with
          | true => opK P M env op ks fun v ks e => (match e with | none => run P nt M n (.ops all rest) fs ((d, v) :: env) ks es | some p => run P nt M n (.ops all rest) fs ((d, v) :: env) ks (p :: es))
          | false => none)
        | none => none)
      | some false => (match dst with
        | some d => (match Nat.blt d nt with | true => run P nt M n (.ops all rest) fs ((d, undef) :: env) ks es | false => none)
        | none => run P nt M n (.ops all rest) fs env ks es)
      | none => none))
section
variable {ro : Option Nat} {P : Program} {w0 : World} {nt : Nat} {ds : List Deferred} {l : List HP} {M : Mem} {Q : Exit → Act → World → Prop}
theorem run_sound {st : St} (hM : Views l M) : ∀ {n : Nat} {p : Pos} {fs : List Kf} {env : Env} {ks : List Nat} {es : List (Nat × Nat)}, run P nt M n p fs env ks es = some st → AllEq st.2.2.2 →
    AllEq es ∧ (At w0 nt ds (goal ro P Q st.2.1 st.1) st.2.2.1 l → At w0 nt ds (goal ro P Q fs p) env l)
  | 0, p, fs, env, ks, es, h, he => by
    simp only [run, Option.some.injEq] at h;subst h;exact ⟨he, fun k => k⟩
  | n + 1, .code c, fs, env, ks, es, h, he => by
    unfold run at h
    split at h
    · obtain ⟨h1, h2⟩ := run_sound hM h he;exact ⟨h1, fun k => at_seq (h2 k)⟩
    · obtain ⟨h1, h2⟩ := run_sound hM h he;exact ⟨h1, fun k => at_skip (h2 k)⟩
    · obtain ⟨h1, h2⟩ := run_sound hM h he;exact ⟨h1, fun k => at_ret (h2 k)⟩
    · obtain ⟨h1, h2⟩ := run_sound hM h he;exact ⟨h1, fun k => at_exit (h2 k)⟩
    · obtain ⟨h1, h2⟩ := run_sound hM h he;exact ⟨h1, fun k => at_block (h2 k)⟩
    · obtain ⟨h1, h2⟩ := run_sound hM h he;exact ⟨h1, fun k => at_region (h2 k)⟩
    · split at h
      · rename_i hc
        obtain ⟨h1, h2⟩ := run_sound hM h he;exact ⟨h1, fun k => at_cond_true hc (h2 k)⟩
      · rename_i hc
        obtain ⟨h1, h2⟩ := run_sound hM h he;exact ⟨h1, fun k => at_cond_false hc (h2 k)⟩
      · cases h
    · cases h
  | n + 1, .out e, fs, env, ks, es, h, he => by
    unfold run at h
    split at h
    · simp only [Option.some.injEq] at h;subst h;exact ⟨he, fun k => k⟩
    · split at h
      · obtain ⟨h1, h2⟩ := run_sound hM h he;exact ⟨h1, fun k => h2 k⟩
      · obtain ⟨h1, h2⟩ := run_sound hM h he;exact ⟨h1, fun k => h2 k⟩
      · obtain ⟨h1, h2⟩ := run_sound hM h he;exact ⟨h1, fun k => h2 k⟩
      · cases h
    · split at h
      · obtain ⟨h1, h2⟩ := run_sound hM h he;exact ⟨h1, fun k => h2 k⟩
      · obtain ⟨h1, h2⟩ := run_sound hM h he;exact ⟨h1, fun k => h2 k⟩
      · split at h
        · rename_i hb
          obtain ⟨h1, h2⟩ := run_sound hM h he;have := Nat.eq_of_beq_eq_true hb;subst this;exact ⟨h1, fun k => at_exit_eq (h2 k)⟩
        · rename_i hb
          obtain ⟨h1, h2⟩ := run_sound hM h he;exact ⟨h1, fun k => at_exit_ne hb (h2 k)⟩
      · cases h
    · split at h
      · simp only [Option.some.injEq] at h;subst h;exact ⟨he, fun k => k⟩
      · obtain ⟨h1, h2⟩ := run_sound hM h he;exact ⟨h1, fun k => h2 k⟩
      · obtain ⟨h1, h2⟩ := run_sound hM h he;exact ⟨h1, fun k => h2 k⟩
      · cases h
  | n + 1, .ops all rest, fs, env, ks, es, h, he => by
    unfold run at h
    split at h
    · obtain ⟨h1, h2⟩ := run_sound hM h he;exact ⟨h1, fun k => at_nil (ro := ro) (P := P) (ops := all) (h2 k)⟩
    · rename_i dst op ty pos after g rest
      split at h
      · rename_i hw
        split at h
        · rename_i d
          split at h
          · rename_i hd
            obtain ⟨v, ks', e, h3, h4⟩ := opK_sound (w0 := w0) (n := nt) (ds := ds) (l := l) h
            split at h3
            · obtain ⟨h1, h2⟩ := run_sound hM h3 he;exact ⟨h1, fun k => at_yes (ro := ro) (P := P) (ops := all) hw (h4 _ rfl (fun _ e => by cases e) hM) rfl hd (h2 k)⟩
            · obtain ⟨h1, h2⟩ := run_sound hM h3 he;exact ⟨h1.2, fun k => at_yes (ro := ro) (P := P) (ops := all) hw (h4 _ rfl (fun _ e => by cases e; exact h1.1) hM) rfl hd (h2 k)⟩
          · cases h
        · cases h
      · rename_i hw
        split at h
        · split at h
          · rename_i hd
            obtain ⟨h1, h2⟩ := run_sound hM h he;exact ⟨h1, fun k => at_no (ro := ro) (P := P) (ops := all) hw rfl hd (h2 k)⟩
          · cases h
        · obtain ⟨h1, h2⟩ := run_sound hM h he;exact ⟨h1, fun k => at_no0 (ro := ro) (P := P) (ops := all) hw rfl (h2 k)⟩
      · cases h
variable {env env' : Env} {fs fs' : List Kf} {p' : Pos} {es : List (Nat × Nat)}
theorem zO (k : Nat) {all : Array Oper} {rest : List Oper} (h : run P nt [] k (.ops all rest) fs env [] [] = some (p', fs', env', [])) (g : At w0 nt ds (goal ro P Q fs' p') env' l) :
    At w0 nt ds (gList ro P all (kq ro P Q fs) rest) env l := (run_sound (M := []) trivial h trivial).2 g
theorem zC (k : Nat) {c : Code} (h : run P nt [] k (.code c) fs env [] [] = some (p', fs', env', [])) (g : At w0 nt ds (goal ro P Q fs' p') env' l) :
    At w0 nt ds (gwp ro P c (kq ro P Q fs)) env l := (run_sound (M := []) trivial h trivial).2 g
theorem zX (k : Nat) {e : Exit} (h : run P nt [] k (.out e) fs env [] [] = some (p', fs', env', [])) (g : At w0 nt ds (goal ro P Q fs' p') env' l) :
    At w0 nt ds (kq ro P Q fs e) env l := (run_sound (M := []) trivial h trivial).2 g
theorem zOM (M : Mem) (hM : Views l M) (ks : List Nat) (k : Nat) {all : Array Oper} {rest : List Oper} (h : run P nt M k (.ops all rest) fs env ks [] = some (p', fs', env', es)) (g : At w0 nt ds (goal ro P Q fs' p') env' l)
    (he : AllEq es := by repeat' constructor) : At w0 nt ds (gList ro P all (kq ro P Q fs) rest) env l := (run_sound hM h he).2 g
theorem zCM (M : Mem) (hM : Views l M) (ks : List Nat) (k : Nat) {c : Code} (h : run P nt M k (.code c) fs env ks [] = some (p', fs', env', es)) (g : At w0 nt ds (goal ro P Q fs' p') env' l)
    (he : AllEq es := by repeat' constructor) : At w0 nt ds (gwp ro P c (kq ro P Q fs)) env l := (run_sound hM h he).2 g
theorem zXM (M : Mem) (hM : Views l M) (ks : List Nat) (k : Nat) {e : Exit} (h : run P nt M k (.out e) fs env ks [] = some (p', fs', env', es)) (g : At w0 nt ds (goal ro P Q fs' p') env' l)
    (he : AllEq es := by repeat' constructor) : At w0 nt ds (kq ro P Q fs e) env l := (run_sound hM h he).2 g
variable {K : Act → World → Prop}
theorem zOR (k : Nat) {all : Array Oper} {rest : List Oper} (h : run P nt [] k (.ops all rest) fs env [] [] = some (.out .normal, .inv K :: fs', env', [])) (g : At w0 nt ds K env' l) :
    At w0 nt ds (gList ro P all (kq ro P Q fs) rest) env l := zO k h g
theorem zCR (k : Nat) {c : Code} (h : run P nt [] k (.code c) fs env [] [] = some (.out .normal, .inv K :: fs', env', [])) (g : At w0 nt ds K env' l) :
    At w0 nt ds (gwp ro P c (kq ro P Q fs)) env l := zC k h g
end
section
variable {ro : Option Nat} {P : Program} {w0 : World} {n : Nat} {ds : List Deferred} {env : Env} {l : List HP} {Q : Exit → Act → World → Prop} {fs : List Kf}
theorem at_loopK {ι : Type} {c : Code} (W : List Nat) (I : ι → Prop) (U : ι → Env) (V : ι → List HP → List HP) (μ : ι → Nat) (i0 : ι)
    (h0 : I i0) (hU : subEnv env (U i0)) (hS : ∀ w, Sat w0 w l → Sat w0 w (V i0 l)) (round : ∀ i, I i → At w0 n ds (gwp ro P c (kq ro P Q (.inv (Rnd w0 n ds I μ U V W env l i) :: fs))) (U i ++ wo W env) (V i l)) :
    At w0 n ds (gwp ro P (Code.loop c) (kq ro P Q fs)) env l := at_loopE W I U V μ i0 h0 hU hS round
end
theorem zrT {w0 : World} {n : Nat} {ds : List Deferred} {R : Act → World → Prop} {env : Env} {l : List HP} (t : Nat) {b : Bool} (h : look env t = some (.bool b)) (e : b = true) (k : At w0 n ds R ((t, .bool true) :: env) l) : At w0 n ds R env l :=
  at_reval t (.bool true) h (congrArg Value.bool e) k
theorem zrF {w0 : World} {n : Nat} {ds : List Deferred} {R : Act → World → Prop} {env : Env} {l : List HP} (t : Nat) {b : Bool} (h : look env t = some (.bool b)) (e : b = false) (k : At w0 n ds R ((t, .bool false) :: env) l) : At w0 n ds R env l :=
  at_reval t (.bool false) h (congrArg Value.bool e) k
theorem zE {w0 : World} {l m xs gs r r' : List HP} (ks js : List Nat) (h : pulls ks l = some (xs, r) := by rfl) (h' : pulls js r = some (gs, r') := by rfl) (e : m = xs ++ r' := by rfl) : ∀ w, Sat w0 w l → Sat w0 w m := fun _ s => s.finEq h h' e
theorem at_scopeK {ro : Option Nat} {P : Program} {w0 : World} {n : Nat} {ds : List Deferred} {env : Env} {l : List HP} {Q : Exit → Act → World → Prop} {c : Code} (h : At w0 n ds (gwp ro P c (kq ro P (Exit.noGoto Q) [])) env l) : At w0 n ds (gwp ro P (Code.scope c) Q) env l := at_scope h
section
variable {ro : Option Nat} {P : Program} {w0 : World} {n : Nat} {ds : List Deferred} {env : Env} {l : List HP} {ops : Array Oper} {Q : Exit → Act → World → Prop} {o : Oper} {rest : List Oper}
theorem zcT {c : Operand} {x y : Code} {t : Bool} (hc : ev env c = some (.bool t)) (h : t = true) (k : At w0 n ds (gwp ro P x Q) env l) : At w0 n ds (gwp ro P (Code.cond c x y) Q) env l := by
  subst h; exact at_cond_true hc k
theorem zcF {c : Operand} {x y : Code} {t : Bool} (hc : ev env c = some (.bool t)) (h : t = false) (k : At w0 n ds (gwp ro P y Q) env l) : At w0 n ds (gwp ro P (Code.cond c x y) Q) env l := by
  subst h; exact at_cond_false hc k
theorem zV {v : Value} {d : Nat} (h : OpV P w0 n ds env l o v) (k : At w0 n ds (gList ro P ops Q rest) ((d, v) :: env) l) (hg : o.guard = none := by rfl) (hd : o.dst = some d := by rfl) (hn : Nat.blt d n = true := by rfl) :
    At w0 n ds (gList ro P ops Q (o :: rest)) env l := at_v h hg hd hn k
theorem zT {Post : Value → List HP → Prop} {d : Nat} (h : OpT P w0 n ds env l o Post) (k : ∀ v l', Post v l' → At w0 n ds (gList ro P ops Q rest) ((d, v) :: env) l') (hg : o.guard = none := by rfl) (hd : o.dst = some d := by rfl) (hn : Nat.blt d n = true := by rfl) :
    At w0 n ds (gList ro P ops Q (o :: rest)) env l := at_t h hg hd hn k
theorem zT0 {Post : Value → List HP → Prop} (h : OpT P w0 n ds env l o Post) (k : ∀ v l', Post v l' → At w0 n ds (gList ro P ops Q rest) env l') (hg : o.guard = none := by rfl) (hd : o.dst = none := by rfl) :
    At w0 n ds (gList ro P ops Q (o :: rest)) env l := at_t0 h hg hd k
theorem zI {op : BinOp} {xt yt : TypeId} {x y : Operand} {k : IntKind} {a b i : Int} (ho : o.op = .binOp op xt x y yt := by rfl) (hx : ev env x = some (.int k a) := by rfl) (hy : ev env y = some (.int k b) := by rfl)
    (hv : intBin op k a b = some (.int .i64 (IntKind.i64.wrap i)) := by rfl) (h0 : -9223372036854775808 ≤ i := by omega) (h1 : i ≤ 9223372036854775807 := by omega) : OpV P w0 n ds env l o (.int .i64 i) := (ov_int ho hx hy hv).eq (congrArg (Value.int .i64) (inK_i64 h0 h1))
theorem zU {op : BinOp} {xt yt : TypeId} {x y : Operand} {k : IntKind} {a b i : Int} (ho : o.op = .binOp op xt x y yt := by rfl) (hx : ev env x = some (.int k a) := by rfl) (hy : ev env y = some (.int k b) := by rfl)
    (hv : intBin op k a b = some (.int .u64 (IntKind.u64.wrap i)) := by rfl) (h0 : 0 ≤ i := by omega) (h1 : i ≤ 18446744073709551615 := by omega) : OpV P w0 n ds env l o (.int .u64 i) := (ov_int ho hx hy hv).eq (congrArg (Value.int .u64) (inK_u64 h0 h1))
theorem zcall {d : Nat} {f : FuncId} {ts : Array TypeId} {x : Operand} {xs : List Operand} {args first caps as : List Value} {pre r m : List HP} {v : Value} (ks : List Nat)
    (ho : o.op = .call { callee := .value x, args := xs.toArray, argTypes := ts }) (hx : ev env x = some (.func (.func f) first.toArray caps.toArray)) (hargs : evs env xs = some args)
    (hf : ∀ (args : Array Value) (w : World), (callFunc f args).run P w = .ok (.enter f args) w) (has : first ++ args ++ caps = as)
    (spec : Tri P w0 f as pre (fun u q => u = v ∧ q = m)) (hks : pulls ks l = some (pre, r)) (k : At w0 n ds (gList ro P ops Q rest) ((d, v) :: env) (m ++ r))
    (hg : o.guard = none := by rfl) (hd : o.dst = some d := by rfl) (hn : Nat.blt d n = true := by rfl) :
    At w0 n ds (gList ro P ops Q (o :: rest)) env l := at_t (ot_call ho hx hargs hf has spec hks) hg hd hn (by rintro _ _ ⟨q, ⟨rfl, rfl⟩, rfl⟩; exact k)
theorem zS {t t' : TypeId} {x y : Operand} {b off : Nat} {cs : Array Value} {v : Value} (k : Nat) (g : At w0 n ds (gList ro P ops Q rest) env (setAt k (pt b (.cells (splice cs off v.cells.toList) t')) l))
    (ho : o.op = .store t x y := by rfl) (hx : ev env x = some (.pointer (some ⟨b, off, none⟩)) := by rfl) (hy : ev env y = some v := by rfl) (hk : nth k l = some (pt b (.cells cs t' (0, 0))) := by rfl) (hs : (P.info? t).map (·.size) = some v.cells.size := by rfl)
    (hsz : Nat.ble (off + v.cells.size) cs.size = true := by rfl) (h1 : v.cells.toList.all (·.oneCell') = true := by rfl) (hg : o.guard = none := by rfl) (hd : o.dst = none := by rfl) : At w0 n ds (gList ro P ops Q (o :: rest)) env l :=
  at_t0 (ot_store ho hx hy hk hs hsz h1) hg hd (by rintro _ _ ⟨rfl, rfl⟩; exact g)
theorem zA {t : TypeId} {cs : Array Value} {d : Nat} (hz : ∀ w, (zeroValue t).run P w = .ok (.agg cs) w) (k : ∀ b, At w0 n ds (gList ro P ops Q rest) ((d, ptrTo b) :: env) (pt b (.cells cs t) :: l))
    (ho : o.op = .alloc t := by rfl) (hg : o.guard = none := by rfl) (hd : o.dst = some d := by rfl) (hn : Nat.blt d n = true := by rfl) : At w0 n ds (gList ro P ops Q (o :: rest)) env l :=
  at_t (ot_allocA ho hz) hg hd hn (by rintro _ _ ⟨b, rfl, rfl⟩; exact k b)
end
section
variable {ro : Option Nat} {P : Program} {w0 : World} {n : Nat} {ds : List Deferred} {env : Env} {l S S2 : List HP} {ops : Array Oper} {Q : Exit → Act → World → Prop} {o : Oper} {rest : List (Nat × Oper)} {dst : Option Tmp} {op : Op} {type : TypeId} {pos : String} {after : Array Edge} {want : Bool} {q : Nat}
theorem qP {v : Value} {d : Nat} (h : OpV P w0 n ds env [] o v) (k : At w0 n ds (pi P ops w0 S2 Q S rest) ((d, v) :: env) l) (hg : o.guard = none := by rfl) (hd : o.dst = some d := by rfl) (hn : Nat.blt d n = true := by rfl) :
    At w0 n ds (pi P ops w0 S2 Q S ((2, o) :: rest)) env l := aq_p h hg hd hn k
theorem qV {v : Value} {d : Nat} (h : OpV P w0 n ds env S o v) (k : At w0 n ds (pi P ops w0 S2 Q S rest) ((d, v) :: env) l) (hg : o.guard = none := by rfl) (hd : o.dst = some d := by rfl) (hn : Nat.blt d n = true := by rfl) :
    At w0 n ds (pi P ops w0 S2 Q S ((1, o) :: rest)) env l := aq_v h hg hd hn k
theorem qM {x : Operand} {v : Value} {d : Nat} (k : At w0 n ds (pi P ops w0 S2 Q S rest) ((d, v) :: env) l) (ho : o.op = .move x := by rfl) (hx : ev env x = some v := by rfl) (hg : o.guard = none := by rfl) (hd : o.dst = some d := by rfl) (hn : Nat.blt d n = true := by rfl) :
    At w0 n ds (pi P ops w0 S2 Q S ((2, o) :: rest)) env l := aq_p (ov_move ho hx) hg hd hn k
theorem qF {t : TypeId} {x : Operand} {i b off d : Nat} (j r : Nat) (k : At w0 n ds (pi P ops w0 S2 Q S rest) ((d, .pointer (some ⟨b, r, none⟩)) :: env) l) (ho : o.op = .fieldAddr t x i := by rfl) (hx : ev env x = some (.pointer (some ⟨b, off, none⟩)) := by rfl)
    (hf : fieldOff P t i = some j := by rfl) (hr : off + j = r := by rfl) (hg : o.guard = none := by rfl) (hd : o.dst = some d := by rfl) (hn : Nat.blt d n = true := by rfl) : At w0 n ds (pi P ops w0 S2 Q S ((2, o) :: rest)) env l := aq_p (ov_fieldAddr ho hx hf hr) hg hd hn k
theorem qN {x : Operand} {p : Addr} {d : Nat} (k : At w0 n ds (pi P ops w0 S2 Q S rest) ((d, .pointer (some p)) :: env) l) (ho : o.op = .nilCheck x := by rfl) (hx : ev env x = some (.pointer (some p)) := by rfl) (hg : o.guard = none := by rfl) (hd : o.dst = some d := by rfl) (hn : Nat.blt d n = true := by rfl) :
    At w0 n ds (pi P ops w0 S2 Q S ((2, o) :: rest)) env l := aq_p (ov_nilCheck ho hx) hg hd hn k
theorem qL {t T : TypeId} {x : Operand} {b off d : Nat} {cs : Array Value} {fr : Nat × Nat} {v : Value} (j : Nat) (k : At w0 n ds (pi P ops w0 S2 Q S rest) ((d, v) :: env) l) (ho : o.op = .load t x := by rfl) (hx : ev env x = some (.pointer (some ⟨b, off, none⟩)) := by rfl)
    (ht : (P.underlying t).map (fun | .struct _ | .array _ _ => false | _ => true) = some true := by rfl) (hk : nth j S = some (pt b (.cells cs T fr)) := by rfl) (hv : nth off cs.toList = some v := by rfl) (hg : o.guard = none := by rfl) (hd : o.dst = some d := by rfl) (hn : Nat.blt d n = true := by rfl) :
    At w0 n ds (pi P ops w0 S2 Q S ((1, o) :: rest)) env l := aq_v (ov_load ho hx ht fun _ s => s.ld hk hv) hg hd hn k
theorem qI {op : BinOp} {xt yt : TypeId} {x y : Operand} {i : IntKind} {a b : Int} {v : Value} {d : Nat} (k : At w0 n ds (pi P ops w0 S2 Q S rest) ((d, v) :: env) l) (ho : o.op = .binOp op xt x y yt := by rfl) (hx : ev env x = some (.int i a) := by rfl) (hy : ev env y = some (.int i b) := by rfl)
    (hv : intBin op i a b = some v := by rfl) (hg : o.guard = none := by rfl) (hd : o.dst = some d := by rfl) (hn : Nat.blt d n = true := by rfl) : At w0 n ds (pi P ops w0 S2 Q S ((2, o) :: rest)) env l := aq_p (ov_int ho hx hy hv) hg hd hn k
theorem qW (j : Nat) (k : At w0 n ds (pi P ops w0 S2 Q S ((q, ⟨dst, op, type, pos, after, none⟩) :: rest)) env l) (h : guardV ops env j = some want := by rfl) : At w0 n ds (pi P ops w0 S2 Q S ((q, ⟨dst, op, type, pos, after, some (j, want)⟩) :: rest)) env l := aq_wanted h k
theorem qU {b : Bool} {d : Nat} (j : Nat) (k : At w0 n ds (pi P ops w0 S2 Q S rest) ((d, undef) :: env) l) (h : guardV ops env j = some b := by rfl) (hb : b = !want := by rfl) (hd : dst = some d := by rfl) (hn : Nat.blt d n = true := by rfl) (hq : Nat.blt q 3 = true := by rfl) :
    At w0 n ds (pi P ops w0 S2 Q S ((q, ⟨dst, op, type, pos, after, some (j, want)⟩) :: rest)) env l := aq_unwanted h hb hd hn hq k
end
section
variable {ro : Option Nat} {P : Program} {w0 : World} {n : Nat} {ds : List Deferred} {R : Act → World → Prop} {env : Env} {l : List HP} {Q : Exit → Act → World → Prop} {c : Operand} {x y : Code} {t : Bool}
theorem zf (k : At w0 n ds (gwp ro P y Q) env l) (hc : ev env c = some (.bool t) := by rfl) (h : t = false := by first | assumption | (rw [Bool.not_eq_false']; exact decide_eq_true (by omega))) : At w0 n ds (gwp ro P (Code.cond c x y) Q) env l := zcF hc h k
theorem zt (k : At w0 n ds (gwp ro P x Q) env l) (hc : ev env c = some (.bool t) := by rfl) (h : t = true := by first | assumption | (rw [Bool.not_eq_true']; exact decide_eq_false (by omega))) : At w0 n ds (gwp ro P (Code.cond c x y) Q) env l := zcT hc h k
theorem zg (k : At w0 n ds (gwp ro P y Q) env l) (hc : ev env c = some (.bool t) := by rfl) (h : t = false := by exact decide_eq_false (by omega)) : At w0 n ds (gwp ro P (Code.cond c x y) Q) env l := zcF hc h k
theorem zu (k : At w0 n ds (gwp ro P x Q) env l) (hc : ev env c = some (.bool t) := by rfl) (h : t = true := by exact decide_eq_true (by omega)) : At w0 n ds (gwp ro P (Code.cond c x y) Q) env l := zcT hc h k
theorem zrf (i : Nat) (k : At w0 n ds R ((i, .bool false) :: env) l) (h : look env i = some (.bool t) := by rfl) (e : t = false := by first | assumption | (rw [Bool.not_eq_false']; exact decide_eq_true (by omega))) : At w0 n ds R env l := zrF i h e k
theorem zrt (i : Nat) (k : At w0 n ds R ((i, .bool true) :: env) l) (h : look env i = some (.bool t) := by rfl) (e : t = true := by first | assumption | (rw [Bool.not_eq_true']; exact decide_eq_false (by omega))) : At w0 n ds R env l := zrT i h e k
theorem zrg (i : Nat) (k : At w0 n ds R ((i, .bool false) :: env) l) (h : look env i = some (.bool t) := by rfl) (e : t = false := by exact decide_eq_false (by omega)) : At w0 n ds R env l := zrF i h e k
theorem zru (i : Nat) (k : At w0 n ds R ((i, .bool true) :: env) l) (h : look env i = some (.bool t) := by rfl) (e : t = true := by exact decide_eq_true (by omega)) : At w0 n ds R env l := zrT i h e k
end
theorem zfin {P : Program} {w0 : World} {n : Nat} {fn : Func} {T : Value → List HP → Prop} {F : List HP} {env : Env} {l : List HP} {t : Tmp} {v : Value} (h : ∃ post, T v post ∧ ∀ w, Sat w0 w l → Sat w0 w (post ++ F)) (hr : fn.results = #[.tmp t] := by rfl) (hv : look env t = some v := by rfl) :
    At w0 n [] (Post P w0 fn T F .ret) env l := at_fin (rsV hr (res_tmp hv)) h
theorem zca {α : Type _} {a : α} {as bs : List α} : (a :: as) ++ bs = a :: (as ++ bs) := rfl
theorem zna {α : Type _} (as : List α) : [] ++ as = as := rfl
theorem zla {α : Type _} {as bs : List α} : (as ++ bs).length = as.length + bs.length := List.length_append
theorem zlc {α : Type _} {a : α} {as : List α} : (a :: as).length = as.length + 1 := rfl
theorem zln {α : Type _} : ([] : List α).length = 0 := rfl
theorem tri_k {P : Program} {w0 : World} {f : FuncId} {fn : Func} {c : Code} {args : List Value} {pre : List HP} {Q : Value → List HP → Prop} (hf : P.funcs[f]? = some fn) (hb : fn.body = some c)
    (hn : Nat.ble args.length fn.ntmps = true) (h : ∀ F, At w0 fn.ntmps [] (gwp none P c (kq none P (Post P w0 fn Q F) [])) (argEnv 0 args) (pre ++ F)) : Tri P w0 f args pre Q := tri_of hf hb hn h
theorem zH {P : Program} {w0 : World} {n : Nat} {Q : Exit → Act → World → Prop} {c : Code} {env : Env} {l : List HP} {ds : List Deferred}
    (h : ∀ q : Exit → Act → World → Prop, (∀ {e : Exit} {ds : List Deferred} {env : Env} {l : List HP}, At w0 n ds (Q e) env l → At w0 n ds (q e) env l) → At w0 n ds (gwp none P c (kq none P q [])) env l) :
    At w0 n ds (gwp none P c (kq none P Q [])) env l := h _ fun k => k
open Go Go.RowKit
open Go.MapKept (Stamped IsKey)
section
variable {P : Program} {w0 : World} {n : Nat} {ds : List Deferred} {env : Env} {l : List HP} {o : Oper} {d : TypeDesc} {mb k j : Nat} {kvs : List (Value × Value)} {key v : Value} {t kt et : TypeId} {x y z : Operand}
theorem ot_deleteNo (ho : o.op = .call { callee := .builtin .delete, args := #[x, y], argTypes := #[t, kt] }) (ht : P.underlying t = some (.map kt et)) (hkt : P.underlying kt = some d) (hx : ev env x = some (.map (some mb))) (hy : ev env y = some key) (hk : nth k l = some (MapA d mb kvs)) (hd : IsKey d key) (hno : ∀ p ∈ kvs, p.1 ≠ key) :
    OpT P w0 n ds env l o fun u' l' => u' = .tuple #[] ∧ l' = l := fun a w f s => by
  obtain ⟨es, clock, hb, hs, hi, rfl⟩ := s.map_ hk
  unfold Oper.goesV execOp
  rw [ho];simp [resolve, invoke, builtin, f.eval hx, f.eval hy, Builtin.delete_, run_und ht, MapKept.run_getObj_map hb, MapKept.run_checkKey hkt hd, MapKept.run_findKey hkt (find_out hi hd hno), MapKept.run_setObj_map _ hb];have h := s.mapSet es clock hk hs hi rfl
  rwa [setAt_nth hk] at h
theorem ot_clearMap (ho : o.op = .call { callee := .builtin .clear, args := #[x], argTypes := #[t] }) (ht : P.underlying t = some (.map kt et)) (hx : ev env x = some (.map (some mb))) (hk : nth k l = some (MapA d mb kvs)) :
    OpT P w0 n ds env l o fun u' l' => u' = .tuple #[] ∧ l' = setAt k (MapA d mb []) l := fun a w f s => by
  obtain ⟨es, clock, hb, hs, hi, rfl⟩ := s.map_ hk
  unfold Oper.goesV execOp
  rw [ho];simp [resolve, invoke, builtin, f.eval hx, Builtin.clear_, run_und ht, MapKept.run_getObj_map hb, MapKept.run_setObj_map _ hb];exact s.mapSet #[] _ hk (MapKept.stamped_empty _) (by simp) (by simp)
end
section
variable {κ α : Type} (d : TypeDesc) (kv : κ → Value) (enc : α → List Value) (e size : Nat)
def rmKvs (o : List (κ × List α)) (ads : List (Option Addr × Nat)) : List (Value × Value) := List.zipWith (fun p a => (kv p.1, Value.slice a.1 p.2.length a.2)) o ads
def rmRows (o : List (κ × List α)) (ads : List (Option Addr × Nat)) : List HP := List.zipWith (fun p a => Row enc e size a.1 a.2 p.2) o ads
def RmR (o : List (κ × List α)) (ads : List (Option Addr × Nat)) : HP := star (rmRows enc e size o ads)
def MapRows (mb : Nat) (o : List (κ × List α)) : HP := fun h => ∃ ads : List (Option Addr × Nat), ads.length = o.length ∧ star [MapA d mb (rmKvs kv o ads), RmR enc e size o ads] h
end
section
variable {κ α : Type} {d : TypeDesc} {kv : κ → Value} {enc : α → List Value} {e size : Nat} {mb : Nat} {o : List (κ × List α)} {ads : List (Option Addr × Nat)} {j : Nat} {k : κ} {ts ts' : List α} {A A' : Option Addr} {c c' : Nat}
theorem rm_at (ho : o[j]? = some (k, ts)) (ha : ads[j]? = some (A, c)) : (rmKvs kv o ads)[j]? = some (kv k, .slice A ts.length c) := by
  unfold rmKvs; rw [List.getElem?_zipWith, ho, ha]
theorem zip_erase {α β γ : Type _} (f : α → β → γ) : ∀ (l : List α) (m : List β) (j : Nat), List.zipWith f (l.eraseIdx j) (m.eraseIdx j) = (List.zipWith f l m).eraseIdx j
  | [], m, j => by cases m <;> simp
  | a :: l, [], j => by cases j <;> simp
  | a :: l, b :: m, 0 => by simp
  | a :: l, b :: m, j + 1 => by simp [zip_erase f l m j]
theorem zip_set {α β γ : Type _} (f : α → β → γ) : ∀ (l : List α) (m : List β) (j : Nat) (a : α) (b : β), List.zipWith f (l.set j a) (m.set j b) = (List.zipWith f l m).set j (f a b)
  | [], m, j, a, b => by cases m <;> simp
  | x :: l, [], j, a, b => by cases j <;> simp
  | x :: l, y :: m, 0, a, b => by simp
  | x :: l, y :: m, j + 1, a, b => by simp [zip_set f l m j]
theorem erase_perm {α : Type _} {l : List α} {j : Nat} {x : α} (h : l[j]? = some x) : l.Perm (x :: l.eraseIdx j) := by
  induction l generalizing j with
  | nil => simp at h
  | cons a l ih => cases j with
    | zero => simp at h; subst h; exact List.Perm.refl _
    | succ j => exact ((ih (by simpa using h)).cons a).trans (List.Perm.swap _ _ _)
theorem rows_at (ho : o[j]? = some (k, ts)) (ha : ads[j]? = some (A, c)) : (rmRows enc e size o ads)[j]? = some (Row enc e size A c ts) := by
  unfold rmRows; rw [List.getElem?_zipWith, ho, ha]
theorem rmR_pick (ho : o[j]? = some (k, ts)) (ha : ads[j]? = some (A, c)) {h : PH} (s : RmR enc e size o ads h) : star [Row enc e size A c ts, RmR enc e size (o.eraseIdx j) (ads.eraseIdx j)] h := by
  have s1 := star_perm (erase_perm (rows_at (enc := enc) (e := e) (size := size) ho ha)) s;obtain ⟨a, b, h1, h2, h3, h4, h5⟩ := s1;refine ⟨a, b, h1, ⟨b, fun _ => none, ?_, trivial, fun _ => .inr rfl, Le.refl _, fun _ _ e => by cases e⟩, h3, h4, h5⟩
  unfold RmR rmRows
  rw [zip_erase];exact h2
theorem rmR_back (ho : o[j]? = some (k, ts')) (ha : ads[j]? = some (A, c)) {h : PH} (s : star [Row enc e size A c ts', RmR enc e size (o.eraseIdx j) (ads.eraseIdx j)] h) : RmR enc e size o ads h := by
  obtain ⟨a, b, h1, ⟨b', _, h2, _, _, l1, _⟩, h3, h4, h5⟩ := s;refine star_perm (erase_perm (rows_at (enc := enc) (e := e) (size := size) ho ha)).symm ⟨a, b', h1, ?_, h3.le2 (Le.refl _) l1, h4, l1.trans h5⟩
  unfold RmR rmRows at h2
  rw [zip_erase] at h2;exact h2
theorem star3 {A B C D : HP} (p : ∀ h, star [B, C] h → D h) {h : PH} (s : star [A, B, C] h) : star [A, D] h := by
  obtain ⟨a, b, h1, h2, h3, h4, h5⟩ := s;exact ⟨a, b, h1, ⟨b, fun _ => none, p b h2, trivial, fun _ => .inr rfl, Le.refl _, fun _ _ e => by cases e⟩, h3, h4, h5⟩
theorem rm_same (hl : ads.length = o.length) (ho : o[j]? = some (k, ts)) (ha : ads[j]? = some (A, c)) (h : PH) (s : star [MapA d mb (rmKvs kv o ads), Row enc e size A c ts, RmR enc e size (o.eraseIdx j) (ads.eraseIdx j)] h) : MapRows d kv enc e size mb o h :=
  ⟨ads, hl, star3 (fun _ => rmR_back ho ha) s⟩
theorem rm_all (hl : ads.length = o.length) (h : PH) (s : star [MapA d mb (rmKvs kv o ads), RmR enc e size o ads] h) : MapRows d kv enc e size mb o h := ⟨ads, hl, s⟩
theorem rm_set (hl : ads.length = o.length) (ho : o[j]? = some (k, ts)) (h : PH) (s : star [MapA d mb ((rmKvs kv o ads).set j (kv k, .slice A' ts'.length c')), Row enc e size A' c' ts', RmR enc e size (o.eraseIdx j) (ads.eraseIdx j)] h) : MapRows d kv enc e size mb (o.set j (k, ts')) h := by
  have hj : j < o.length := (List.getElem?_eq_some_iff.1 ho).1;refine ⟨ads.set j (A', c'), by simp [hl], ?_⟩;have e1 : rmKvs kv (o.set j (k, ts')) (ads.set j (A', c')) = (rmKvs kv o ads).set j (kv k, .slice A' ts'.length c') := by unfold rmKvs; rw [zip_set]
  rw [e1];refine star3 (fun h s => rmR_back (j := j) (k := k) (ts' := ts') (A := A') (c := c') (by simp [hj]) (by simp [hl, hj]) ?_) s;rw [List.eraseIdx_set_eq, List.eraseIdx_set_eq];exact s
theorem rm_del (hl : ads.length = o.length) (hj : j < o.length) (h : PH) (s : star [MapA d mb ((rmKvs kv o ads).eraseIdx j), RmR enc e size (o.eraseIdx j) (ads.eraseIdx j)] h) : MapRows d kv enc e size mb (o.eraseIdx j) h := by
  refine ⟨ads.eraseIdx j, by rw [List.length_eraseIdx, List.length_eraseIdx, hl], ?_⟩;have e1 : rmKvs kv (o.eraseIdx j) (ads.eraseIdx j) = (rmKvs kv o ads).eraseIdx j := by unfold rmKvs; rw [zip_erase]
  rw [e1];exact s
theorem rm_put (hl : ads.length = o.length) (h : PH) (s : star [MapA d mb (rmKvs kv o ads ++ [(kv k, .slice A ts.length c)]), Row enc e size A c ts, RmR enc e size o ads] h) : MapRows d kv enc e size mb (o ++ [(k, ts)]) h := by
  refine ⟨ads ++ [(A, c)], by simp [hl], ?_⟩;have e1 : rmKvs kv (o ++ [(k, ts)]) (ads ++ [(A, c)]) = rmKvs kv o ads ++ [(kv k, .slice A ts.length c)] := by unfold rmKvs; rw [List.zipWith_append hl.symm]; rfl
  have e2 : rmRows enc e size (o ++ [(k, ts)]) (ads ++ [(A, c)]) = rmRows enc e size o ads ++ [Row enc e size A c ts] := by unfold rmRows; rw [List.zipWith_append hl.symm]; rfl
  rw [e1];refine star3 (fun h s => ?_) s
  unfold RmR
  rw [e2];obtain ⟨a, b, h1, ⟨b', _, h2, _, _, l1, _⟩, h3, h4, h5⟩ := s;exact star_append.2 ⟨b', a, h2, ⟨a, fun _ => none, h1, trivial, fun _ => .inr rfl, Le.refl _, fun _ _ e => by cases e⟩, (h3.le2 (Le.refl _) l1).symm, l1.trans h5, h4⟩
theorem rm_nil (h : PH) (s : star [MapA d mb []] h) : MapRows (κ := κ) d kv enc e size mb [] h := by
  refine ⟨[], rfl, ?_⟩;obtain ⟨a, b, h1, _, h3, h4, h5⟩ := s;exact ⟨a, fun _ => none, h1, ⟨fun _ => none, fun _ => none, trivial, trivial, fun _ => .inr rfl, Le.refl _, fun _ _ e => by cases e⟩, fun _ => .inr rfl, h4, fun _ _ e => by cases e⟩
theorem rm_clear (hl : ads.length = o.length) (h : PH) (s : star [MapA d mb [], RmR enc e size o ads] h) : MapRows (κ := κ) d kv enc e size mb [] h := by
  obtain ⟨a, b, h1, _, h3, h4, h5⟩ := s;exact rm_nil h ⟨a, fun _ => none, h1, trivial, fun _ => .inr rfl, h4, fun _ _ e => by cases e⟩
variable {w0 : World} {n : Nat} {ds : List Deferred} {R : Act → World → Prop} {env : Env} {l r : List HP}
theorem at_rm (q : Nat) (hq : pull q l = some (MapRows d kv enc e size mb o, r)) (h : ∀ ads, ads.length = o.length → At w0 n ds R env (MapA d mb (rmKvs kv o ads) :: RmR enc e size o ads :: r)) : At w0 n ds R env l := fun a w f s => by
  have s1 := s.perm (pull_perm hq);obtain ⟨ads, s2⟩ := s1.ex;obtain ⟨hl, s3⟩ := s2.and;exact h ads hl a w f s3.open_
theorem at_rmPick (q j : Nat) (ho : o[j]? = some (k, ts)) (hq : pull q l = some (MapRows d kv enc e size mb o, r)) (h : ∀ ads A c, ads.length = o.length → ads[j]? = some (A, c) → (rmKvs kv o ads)[j]? = some (kv k, .slice A ts.length c) →
    At w0 n ds R env (MapA d mb (rmKvs kv o ads) :: Row enc e size A c ts :: RmR enc e size (o.eraseIdx j) (ads.eraseIdx j) :: r)) : At w0 n ds R env l :=
  at_rm q hq fun ads hl a w f s => by
    have hj : j < ads.length := by rw [hl]; exact (List.getElem?_eq_some_iff.1 ho).1
    obtain ⟨⟨A, c⟩, ha⟩ : ∃ p, ads[j]? = some p := ⟨_, List.getElem?_eq_getElem hj⟩;refine h ads A c hl ha (rm_at ho ha) a w f ?_;have s1 : Sat w0 w (RmR enc e size o ads :: MapA d mb (rmKvs kv o ads) :: r) := s.perm (List.Perm.swap _ _ _);have s2 : Sat w0 w (star [Row enc e size A c ts, RmR enc e size (o.eraseIdx j) (ads.eraseIdx j)] :: MapA d mb (rmKvs kv o ads) :: r) := s1.imp fun _ ⟨p, q, h1, h2, h3⟩ => ⟨p, q, rmR_pick ho ha h1, h2, h3⟩;have s3 := s2.open_
    exact s3.perm (by
      show ([Row enc e size A c ts, RmR enc e size (o.eraseIdx j) (ads.eraseIdx j)] ++ MapA d mb (rmKvs kv o ads) :: r).Perm _
      exact List.perm_middle)
theorem rm_no (hno : ∀ p ∈ o, p.1 ≠ k) (hk : ∀ a b : κ, kv a = kv b → a = b) : ∀ p ∈ rmKvs kv o ads, p.1 ≠ kv k := fun p hp e => by
  unfold rmKvs at hp
  obtain ⟨i, hi, he⟩ := List.mem_iff_getElem.1 hp;rw [List.getElem_zipWith] at he;have hi2 : i < o.length := by rw [List.length_zipWith] at hi; omega
  exact hno o[i] (List.getElem_mem hi2) (hk _ _ (by rw [← he] at e; exact e))
end
section
variable {α : Type} {f : Nat → α → HP} {gs : List Nat} {ss : List α} {i g : Nat} {s s' : α} {h : PH}
def Many (f : Nat → α → HP) (gs : List Nat) (ss : List α) : HP := star (List.zipWith f gs ss)
theorem zip_at {β γ δ : Type _} {f : β → γ → δ} {l : List β} {m : List γ} {i : Nat} {a : β} {b : γ} (h1 : l[i]? = some a) (h2 : m[i]? = some b) : (List.zipWith f l m)[i]? = some (f a b) := by rw [List.getElem?_zipWith, h1, h2]
theorem many_pick (hg : gs[i]? = some g) (hs : ss[i]? = some s) (k : Many f gs ss h) : star [f g s, Many f (gs.eraseIdx i) (ss.eraseIdx i)] h := by
  obtain ⟨a, b, h1, h2, h3, h4, h5⟩ := star_perm (erase_perm (zip_at (f := f) hg hs)) k;refine ⟨a, b, h1, ⟨b, fun _ => none, ?_, trivial, fun _ => .inr rfl, Le.refl _, fun _ _ e => by cases e⟩, h3, h4, h5⟩
  unfold Many
  rw [zip_erase];exact h2
theorem many_back (hg : gs[i]? = some g) (hi : i < ss.length) (h : PH) (k : star [f g s', Many f (gs.eraseIdx i) (ss.eraseIdx i)] h) : Many f gs (ss.set i s') h := by
  obtain ⟨a, b, h1, ⟨b', _, h2, _, _, l1, _⟩, h3, h4, h5⟩ := k;refine star_perm (erase_perm (zip_at (f := f) (m := ss.set i s') (b := s') hg (by simp [hi]))).symm ⟨a, b', h1, ?_, h3.le2 (Le.refl _) l1, h4, l1.trans h5⟩
  unfold Many at h2
  rw [← List.eraseIdx_set_eq (l := ss) (i := i) (a := s'), zip_erase] at h2;exact h2
theorem many_same (hg : gs[i]? = some g) (hs : ss[i]? = some s) (h : PH) (k : star [f g s, Many f (gs.eraseIdx i) (ss.eraseIdx i)] h) : Many f gs ss h := by
  have hi := (List.getElem?_eq_some_iff.1 hs);have := many_back hg hi.1 h k
  rwa [show ss.set i s = ss by rw [← hi.2]; exact List.set_getElem_self hi.1] at this
theorem erase_other {β : Type _} {l : List β} {i j : Nat} (h : i ≠ j) : (l.eraseIdx i)[if j < i then j else j - 1]? = l[j]? := by
  rw [List.getElem?_eraseIdx]
  by_cases hj : j < i
  · rw [if_pos hj, if_pos hj]
  · rw [if_neg hj, if_neg (by omega), show j - 1 + 1 = j by omega]
variable {w0 : World} {n : Nat} {ds : List Deferred} {R : Act → World → Prop} {env : Env} {l r : List HP}
theorem at_many (q i : Nat) (hg : gs[i]? = some g) (hs : ss[i]? = some s) (hq : pull q l = some (Many f gs ss, r)) (k : At w0 n ds R env (f g s :: Many f (gs.eraseIdx i) (ss.eraseIdx i) :: r)) : At w0 n ds R env l := fun a w fr st => by
  have s1 := st.perm (pull_perm hq);have s2 : Sat w0 w (star [f g s, Many f (gs.eraseIdx i) (ss.eraseIdx i)] :: r) := s1.imp fun _ ⟨p, q, h1, h2, h3⟩ => ⟨p, q, many_pick hg hs h1, h2, h3⟩;exact k a w fr s2.open_
end
open Go Go.RowKit
theorem OpV.more {P : Program} {w0 : World} {n : Nat} {ds : List Deferred} {env : Env} {l q : List HP} {o : Oper} {v : Value} (h : OpV P w0 n ds env l o v) (k : ∀ w, Sat w0 w q → Sat w0 w l) : OpV P w0 n ds env q o v :=
  fun a w f s => h a w f (k w s)
theorem OpT.more {P : Program} {w0 : World} {n : Nat} {ds : List Deferred} {env : Env} {l q : List HP} {o : Oper} {Post Post' : Value → List HP → Prop} (h : OpT P w0 n ds env l o Post) (k : ∀ w, Sat w0 w q → Sat w0 w l)
    (p : ∀ v m, Post v m → ∃ m', Post' v m' ∧ ∀ w, Sat w0 w m → Sat w0 w m') : OpT P w0 n ds env q o Post' :=
  fun a w f s => goesV_mono (h a w f (k w s)) fun v w' ⟨m, hp, s'⟩ => let ⟨m', h1, h2⟩ := p v m hp; ⟨m', h1, h2 w' s'⟩
theorem OpT.post {P : Program} {w0 : World} {n : Nat} {ds : List Deferred} {env : Env} {l : List HP} {o : Oper} {Post Post' : Value → List HP → Prop} (h : OpT P w0 n ds env l o Post)
    (p : ∀ v m, Post v m → ∃ m', Post' v m' ∧ ∀ w, Sat w0 w m → Sat w0 w m') : OpT P w0 n ds env l o Post' := h.more (fun _ s => s) p
theorem At.more {w0 : World} {n : Nat} {ds : List Deferred} {R : Act → World → Prop} {env : Env} {l q : List HP} (h : At w0 n ds R env l) (k : ∀ w, Sat w0 w q → Sat w0 w l) : At w0 n ds R env q :=
  fun a w f s => h a w f (k w s)
def Kept2 (W : List Nat) (env e : Env) : Prop := ∀ t v, memB t W = false → look env t = some v → look e t = some v
theorem Kept2.put {W : List Nat} {env e : Env} (h : Kept2 W env e) {d : Nat} (v : Value) (hd : memB d W = true) : Kept2 W env ((d, v) :: e) := fun t u ht hu => by
  have hne : Nat.beq d t = false := by
    cases hb : Nat.beq d t with
    | false => rfl
    | true => rw [← memB_congr hb W, hd] at ht; cases ht
  show (match Nat.beq d t with | true => some v | false => look e t) = some u
  rw [hne];exact h t u ht hu
theorem wo_not {W : List Nat} : ∀ {env : Env} {t : Nat} {v : Value}, look (wo W env) t = some v → memB t W = false
  | [], t, v, h => by cases h
  | (u, x) :: r, t, v, h => by
    unfold wo at h
    cases hm : memB u W with
    | true => rw [hm] at h; exact wo_not h
    | false =>
      rw [hm] at h
      change (match Nat.beq u t with | true => some x | false => look (wo W r) t) = some v at h
      cases hb : Nat.beq u t with
      | true => rw [← memB_congr hb W]; exact hm
      | false => rw [hb] at h; exact wo_not h
theorem Kept2.wo {W : List Nat} {env e : Env} (h : Kept2 W env e) {t : Nat} {v : Value} (k : look (SL.wo W env) t = some v) : look e t = some v := h t v (wo_not k) (look_wo k)
section
variable {ro : Option Nat} {P : Program} {w0 : World} {n : Nat} {ds : List Deferred} {env : Env} {l : List HP} {Q : Exit → Act → World → Prop} {α β : Type}
theorem Fr.kept {W : List Nat} {env e : Env} {a : Act} (h : Fr n ds e a) (k : Kept2 W env e) : Fr n ds (wo W env) a := ⟨h.size, h.defers, fun t v e => h.has t v (k.wo e)⟩
theorem Fr.two {e : Env} {a : Act} {i j : Nat} {u v : Value} (h : Fr n ds e a) (hi : look e i = some u) (hj : look e j = some v) : Fr n ds [(i, u), (j, v)] a := ⟨h.size, h.defers, fun t x hx => by
  change (match Nat.beq i t with | true => some u | false => (match Nat.beq j t with | true => some v | false => none)) = some x at hx
  cases hb : Nat.beq i t with
  | true => rw [hb] at hx; rw [← Nat.eq_of_beq_eq_true hb]; exact h.has i x (hi.trans hx)
  | false =>
    rw [hb] at hx;simp only at hx
    cases hb2 : Nat.beq j t with
    | true => rw [hb2] at hx; rw [← Nat.eq_of_beq_eq_true hb2]; exact h.has j x (hj.trans hx)
    | false => rw [hb2] at hx; cases hx⟩
end
open Go Go.RowKit
section
variable {α : Type} {f : α → HP} {L : List α} {i : Nat} {x y : α} {h : PH}
def Each (f : α → HP) (L : List α) : HP := star (L.map f)
variable {w0 : World} {n : Nat} {ds : List Deferred} {R : Act → World → Prop} {env : Env} {l r : List HP}
def subE : Env → Env → Prop
  | [], _ => True
  | (t, v) :: r, e => look e t = some v ∧ subE r e
theorem subE.has : ∀ {d e : Env} {t : Nat} {v : Value}, subE d e → look d t = some v → look e t = some v
  | [], e, t, v, _, h => by cases h
  | (u, x) :: r, e, t, v, ⟨h1, h2⟩, h => by
    change (match Nat.beq u t with | true => some x | false => look r t) = some v at h
    cases hb : Nat.beq u t with
    | true => rw [hb] at h; rw [← Nat.eq_of_beq_eq_true hb]; exact h1.trans h
    | false => rw [hb] at h; exact subE.has h2 h
end
end Go.Proofs.YtfcmajgnpnlkiaaGreatDoor.SL
