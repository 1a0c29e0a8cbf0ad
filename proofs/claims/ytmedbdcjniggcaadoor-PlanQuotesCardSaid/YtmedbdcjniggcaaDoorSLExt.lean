/- Functions that the model itself brings: atomics. -/
import Derived.Test.YtmedbdcjniggcaaDoorSLMap
import Derived.Conc.AtomicLaws2
import Derived.Laws.Externs
set_option linter.unusedVariables false
set_option linter.unusedSimpArgs false
namespace Go.Proofs.YtmedbdcjniggcaaDoor.SL
open Go Go.RowKit
section
variable {P : Program} {w0 : World} {n : Nat} {ds : List Deferred} {env : Env} {l : List HP} {o : Oper}
/-- A call of a function that the model itself brings. -/
theorem ot_extern {f : FuncId} {e : Array Value → Sem Value} {ts : Array TypeId} {x : Operand} {xs : List Operand} {args : List Value} {v : Value} {l' : List HP} (ho : o.op = .call { callee := .value x, args := xs.toArray, argTypes := ts }) (hx : ev env x = some (.func (.func f) #[] #[])) (hargs : evs env xs = some args)
    (hcall : ∀ (args : Array Value) (w : World), (callFunc f args).run P w = ((e args).run P w).andThen fun v w' => .ok (.value v) w') (hrun : ∀ w, Sat w0 w l → ∃ w', (e args.toArray).run P w = .ok v w' ∧ Sat w0 w' l') :
    OpT P w0 n ds env l o fun u m => u = v ∧ m = l' := fun a w fr s => by
  obtain ⟨w', h1, h2⟩ := hrun w s
  unfold Oper.goesV execOp
  rw [ho]
  simp [resolve, fr.eval hx, Deferred.ofValue, invoke, hcall, fr.evals hargs, h1]
  exact h2
theorem setB_splice (cs : Array Value) (off : Nat) (v : Value) : cs.setIfInBounds off v = splice cs off [v] := by rw [splice_cons, splice_nil]
/-- A store into a block of which only the size is known. -/
theorem ot_storeA {t t' : TypeId} {x y : Operand} {k b off : Nat} {cs : Array Value} {v : Value} (ho : o.op = .store t x y) (hx : ev env x = some (.pointer (some ⟨b, off, none⟩))) (hy : ev env y = some v)
    (hk : nth k l = some (pt b (.cells cs t' (0, 0)))) (hs : (P.info? t).map (·.size) = some v.cells.size) (hsz : off + v.cells.size ≤ cs.size) (h1 : v.cells.toList.all (·.oneCell') = true) :
    OpT P w0 n ds env l o fun u l' => u = undef ∧ l' = setAt k (pt b (.cells (splice cs off v.cells.toList) t')) l :=
  ot_store ho hx hy hk hs (Nat.ble_eq_true_of_le hsz) h1
/-- A byte of a string: some byte. -/
theorem ot_indexStr {t : TypeId} {x ix : Operand} {b : ByteArray} {k : IntKind} {i : Int} (ho : o.op = .index t x ix) (ht : P.underlying t = some .string) (hx : ev env x = some (.string b)) (hi : ev env ix = some (.int k i)) (h0 : 0 ≤ i) (h1 : i < b.size) :
    OpT P w0 n ds env l o fun v l' => ∃ m : Int, 0 ≤ m ∧ m < 256 ∧ v = .int .u8 m ∧ l' = l := fun a w f s => by
  unfold Oper.goesV execOp
  rw [ho]
  have h2 : i.toNat < b.size := by omega
  simp [f.eval hx, f.eval hi, Instr.index, run_und ht, asIntOf, h0, h1, h2]
  exact ⟨l, ⟨_, by omega, by have := (b[i.toNat]'h2).toNat_lt; omega, rfl, rfl⟩, s⟩
/-- A row that isn't empty isn't nil. -/
theorem at_rowSome {R : Act → World → Prop} {α : Type} {enc : α → List Value} {e : TypeId} {size : Nat} {A : Option Addr} {c : Nat} {xs : List α} (k : Nat) (hk : nth k l = some (Row enc e size A c xs)) (hne : xs ≠ []) (h : (∃ ad, A = some ad) → At w0 n ds R env l) : At w0 n ds R env l :=
  fun a w f s => h (let ⟨ad, e, _⟩ := (s.rd hk).at_ hne; ⟨ad, e⟩) a w f s
/-- An element's address, of a slice that isn't nil: no cell is looked at. -/
theorem ov_indexE {t e : TypeId} {x ix : Operand} {A : Option Addr} {m c size : Nat} {k : IntKind} {i : Int} {j : Nat} (hA : ∃ ad, A = some ad) (ho : o.op = .indexAddr t x ix) (ht : P.underlying t = some (.slice e)) (hs : (P.info? e).map (·.size) = some size) (hx : ev env x = some (.slice A m c)) (hi : ev env ix = some (.int k i)) (hj : i = (j : Nat)) (h1 : j < m) :
    OpV P w0 n ds env l o (elemPtr A (j * size)) := by
  obtain ⟨ad, rfl⟩ := hA
  subst hj
  have := ov_indexAddr (P := P) (w0 := w0) (n := n) (ds := ds) (l := l) ho ht hs hx hi (by omega) (by omega)
  simpa [elemPtr] using this
/-- A field's address of an element, of a slice that isn't nil: no cell is looked at. -/
theorem ov_fieldE {t : TypeId} {x : Operand} {A : Option Addr} {j k : Nat} {f : Nat} (hA : ∃ ad, A = some ad) (ho : o.op = Op.fieldAddr t x f)
    (hx : ev env x = some (elemPtr A j)) (hf : fieldOff P t f = some k) : OpV P w0 n ds env l o (elemPtr A (j + k)) := fun fr w fm s => by
  obtain ⟨ad, rfl⟩ := hA
  have hadd : ∀ (p : Addr) (x y : Nat), (p.add x).add y = p.add (x + y) := by
    intro p x y
    unfold Addr.add
    by_cases hx : x = 0
    · subst hx; simp
    · by_cases hy : y = 0
      · subst hy; simp [hx]
      · simp [hx, hy]; omega
  unfold execOp
  rw [ho]
  unfold fieldOff at hf
  split at hf
  · rename_i fs hu
    split at hf
    · rename_i fd hfd
      split at hf
      · rename_i ti hti
        cases hz : Nat.beq ti.size 0 with
        | true => rw [hz] at hf; cases hf
        | false =>
          rw [hz] at hf
          simp only [Option.some.injEq] at hf
          have hne : ¬ ti.size = 0 := fun e => by rw [e] at hz; cases hz
          subst hf
          simp [elemPtr] at hx
          simp [fm.eval hx, Instr.fieldAt, underlying, hu, hfd, Instr.sureAddr, fieldPlace, sizeOf, typeInfo, hti, hne, hadd, elemPtr, Nat.add_assoc]
      · cases hf
    · cases hf
  · cases hf
theorem addr_zero (p : Addr) : p.add 0 = p := by unfold Addr.add; simp
/-- A slice up to a place. -/
theorem ov_sliceTo {α : Type} {t e : TypeId} {x hi : Operand} {A : Option Addr} {c size k : Nat} {ik : IntKind} {xs : List α} (ho : o.op = .slice t x none (some hi) none) (ht : P.underlying t = some (.slice e)) (hs : (P.info? e).map (·.size) = some size)
    (hx : ev env x = some (.slice A xs.length c)) (hl : ev env hi = some (.int ik (k : Int))) (hk : k ≤ xs.length) (hc : xs.length ≤ c) : OpV P w0 n ds env l o (.slice A (xs.take k).length c) := fun fr w f s => by
  unfold execOp
  rw [ho]
  cases hti : P.info? e with
  | none => rw [hti] at hs; cases hs
  | some ti =>
    have : ti.size = size := by simpa [hti] using hs
    have hkc : (k : Int) ≤ (c : Int) := by omega
    have h0 : (A.map fun p => p.add 0) = A := by cases A <;> simp [addr_zero]
    simp [Instr.sliceAt, run_und ht, Instr.slice, Instr.sliceBounds, Instr.sliceBound, f.eval hx, f.eval hl, asIntOf, hkc, sizeOf, typeInfo, hti, this, h0, Nat.min_eq_left hk]
    intro h; omega
theorem ov_indexArr {t e : TypeId} {x ix : Operand} {b off len size : Nat} {k : IntKind} {i : Int} (ho : o.op = .indexAddr t x ix) (ht : P.underlying t = some (.array len e)) (hs : (P.info? e).map (·.size) = some size)
    (hx : ev env x = some (.pointer (some ⟨b, off, none⟩))) (hi : ev env ix = some (.int k i)) (h0 : 0 ≤ i) (h1 : i < len) : OpV P w0 n ds env l o (.pointer (some ⟨b, off + i.toNat * size, none⟩)) := fun fr w f s => by
  unfold execOp
  rw [ho]
  cases hti : P.info? e with
  | none => rw [hti] at hs; cases hs
  | some ti =>
    have : ti.size = size := by simpa [hti] using hs
    simp [Instr.indexAt, Instr.sureAddr, f.eval hx, f.eval hi, asIntOf, underlying, ht, h0, h1, sizeOf, typeInfo, hti, this, add_none]
theorem nth_splice1 {cs : Array Value} {p q : Nat} {v : Value} : nth q (splice cs p [v]).toList = if q = p ∧ p < cs.size then some v else nth q cs.toList := by
  rw [← setB_splice]
  simp only [nth_list, Array.toList_setIfInBounds, List.getElem?_set, Array.length_toList]
  by_cases h : p = q
  · subst h
    by_cases h2 : p < cs.size
    · simp [h2]
    · simp [h2] <;> omega
  · rw [if_neg h, if_neg (fun e => h e.1.symm)]
theorem size_splice1 {cs : Array Value} {p : Nat} {v : Value} : (splice cs p [v]).size = cs.size := by rw [← setB_splice]; simp
/-- An atom by another name. -/
theorem at_as {R : Act → World → Prop} (B : HP) (k : Nat) {A : HP} (hk : nth k l = some A) (e : A = B) (h : At w0 n ds R env (setAt k B l)) : At w0 n ds R env l := by
  subst e
  rwa [setAt_nth hk] at h
variable {b off k : Nat} {cs : Array Value} {t : TypeId} {kd : IntKind} {m d : Int}
theorem x_load (hk : nth k l = some (pt b (.cells cs t (0, 0)))) (hv : nth off cs.toList = some (.int kd m)) : ∀ w, Sat w0 w l → ∃ w', (Extern.Atomic.loadT (.int kd) [.pointer (some ⟨b, off, none⟩)].toArray).run P w = .ok (.int kd m) w' ∧ Sat w0 w' l := fun w s => by
  refine ⟨w, ?_, s⟩
  change Sem.run P (do Extern.Atomic.read (.int kd) (← asAddr (.pointer (some ⟨b, off, none⟩)))) w = _
  simp [Extern.Atomic.read, asAddr, s.ld hk hv]
theorem x_add (hk : nth k l = some (pt b (.cells cs t (0, 0)))) (hv : nth off cs.toList = some (.int kd m)) : ∀ w, Sat w0 w l → ∃ w', (Extern.Atomic.update (Op.intArith .add) kd true [.pointer (some ⟨b, off, none⟩), .int kd d].toArray).run P w = .ok (.int kd (kd.wrap (m + d))) w' ∧ Sat w0 w' (setAt k (pt b (.cells (cs.setIfInBounds off (.int kd (kd.wrap (m + d)))) t)) l) := fun w s =>
  ⟨_, Conc.run_add_entry (s.ld hk hv) (s.frozen hk _ _), s.setCell hk off _⟩
theorem x_casHit {old : Int} (hk : nth k l = some (pt b (.cells cs t (0, 0)))) (hv : nth off cs.toList = some (.int kd m)) (hm : m = old) : ∀ w, Sat w0 w l → ∃ w', (Extern.Atomic.casT (.int kd) [.pointer (some ⟨b, off, none⟩), .int kd old, .int kd d].toArray).run P w = .ok (.bool true) w' ∧ Sat w0 w' (setAt k (pt b (.cells (cs.setIfInBounds off (.int kd d)) t)) l) := fun w s => by
  subst hm
  exact ⟨_, (Conc.casT_eq m d) ▸ Conc.run_cas_hit_entry (s.ld hk hv) (s.frozen hk _ _), s.setCell hk off _⟩
theorem x_casMiss {old : Int} (hk : nth k l = some (pt b (.cells cs t (0, 0)))) (hv : nth off cs.toList = some (.int kd m)) (hm : ¬ m = old) : ∀ w, Sat w0 w l → ∃ w', (Extern.Atomic.casT (.int kd) [.pointer (some ⟨b, off, none⟩), .int kd old, .int kd d].toArray).run P w = .ok (.bool false) w' ∧ Sat w0 w' l := fun w s =>
  ⟨_, (Conc.casT_eq old d) ▸ Conc.run_cas_miss_entry (s.ld hk hv) (s.frozen hk _ _) hm, s⟩
theorem x_store {u : Value} (hk : nth k l = some (pt b (.cells cs t (0, 0)))) (hv : nth off cs.toList = some u) : ∀ w, Sat w0 w l → ∃ w', (Extern.Atomic.storeT [.pointer (some ⟨b, off, none⟩), .int kd d].toArray).run P w = .ok (.tuple #[]) w' ∧ Sat w0 w' (setAt k (pt b (.cells (cs.setIfInBounds off (.int kd d)) t)) l) := fun w s => by
  refine ⟨_, ?_, s.setCell hk off _⟩
  change Sem.run P (do
    store (← asAddr (.pointer (some ⟨b, off, none⟩))) (.int kd d) .atomic
    pure Extern.Atomic.none_) w = _
  simp [asAddr, s.ld hk hv, s.frozen hk, run_store P w ⟨b, off, none⟩ (.int kd d) .atomic rfl, Extern.Atomic.none_]
end
/-- A part of a row is read. -/
theorem rd_dropA {α : Type} {enc : α → List Value} {w0 w : World} {l : List HP} {k : Nat} {e : TypeId} {size : Nat} {A : Option Addr} {c : Nat} {xs : List α} (s : Sat w0 w l) (hk : nth k l = some (Row enc e size A c xs)) (j : Nat) : Rd enc w size (dropA A c j size) (xs.drop j) := by
  by_cases hj : xs.length ≤ j
  · rw [List.drop_eq_nil_of_le hj]
    exact Rd.nil enc w size _
  · have hle := (s.rowLen hk).1
    have r := s.rd hk
    obtain ⟨ad, ea, _⟩ := r.at_ (by intro e; rw [e] at hj; simp at hj)
    subst ea
    have : dropA (some ad) c j size = some (ad.add (j * size)) := by unfold dropA; rw [if_neg (by omega)]; rfl
    rw [this]
    exact r.drop j
/-- The place ahead. -/
theorem inK_pred {n : Nat} (h : n < 9223372036854775807) : IntKind.i64.wrap (((n + 1 : Nat) : Int) - 1) = (n : Int) := by
  rw [inK_i64 (by omega) (by omega)]; omega
end Go.Proofs.YtmedbdcjniggcaaDoor.SL
