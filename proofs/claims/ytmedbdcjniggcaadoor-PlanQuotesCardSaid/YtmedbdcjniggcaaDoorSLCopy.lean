/- copy and append into a row that is held; append of zeros; overlaps. -/
import Derived.Test.YtmedbdcjniggcaaDoorSLClear
import Derived.Laws.CopyRow
import Derived.Lib.Overlaps
set_option linter.unusedVariables false
set_option linter.unusedSimpArgs false
namespace Go.Proofs.YtmedbdcjniggcaaDoor.SL
open Go Go.RowKit
theorem flat_take {α : Type} {enc : α → List Value} {size : Nat} : ∀ {xs : List α} (j : Nat), (∀ x ∈ xs, (enc x).length = size) → ((xs.take j).map enc).flatten = ((xs.map enc).flatten).take (j * size)
  | [], j, _ => by simp
  | x :: xs, 0, _ => by simp
  | x :: xs, j + 1, h => by
    have ih := flat_take (xs := xs) j fun y hy => h y (by simp [hy])
    have hx := h x (by simp)
    simp only [List.take_succ_cons, List.map_cons, List.flatten_cons, ih]
    rw [List.take_append, hx, List.take_of_length_le (l := enc x) (by rw [hx, Nat.succ_mul]; omega)]
    congr 2
    rw [Nat.succ_mul]; omega
theorem flat_drop {α : Type} {enc : α → List Value} {size : Nat} : ∀ {xs : List α} (j : Nat), (∀ x ∈ xs, (enc x).length = size) → ((xs.drop j).map enc).flatten = ((xs.map enc).flatten).drop (j * size)
  | [], j, _ => by simp
  | x :: xs, 0, _ => by simp
  | x :: xs, j + 1, h => by
    have ih := flat_drop (xs := xs) j fun y hy => h y (by simp [hy])
    have hx := h x (by simp)
    simp only [List.drop_succ_cons, List.map_cons, List.flatten_cons, ih]
    rw [List.drop_append, hx, List.drop_eq_nil_of_le (as := enc x) (by rw [hx, Nat.succ_mul]; omega), List.nil_append]
    congr 1
    rw [Nat.succ_mul]; omega
section
variable {P : Program} {w0 : World} {n : Nat} {ds : List Deferred} {env : Env} {l : List HP} {o : Oper}
/-- What stands in a row behind ys was written at place j. -/
theorem Sat.overlay {α : Type} {enc : α → List Value} {w : World} {r : List HP} {e : TypeId} {size g off c j : Nat} {cur : Array Value} {xs ys : List α} (sg : Sat w0 w (pt g (.cells cur e) :: r)) (hle : xs.length ≤ c) (hc : c ≤ maxLen) (hfit : off + c * size ≤ cur.size)
    (htk : (cur.toList.drop off).take (xs.length * size) = (xs.map enc).flatten) (hlx : ∀ x ∈ xs, (enc x).length = size) (hly : ∀ x ∈ ys, (enc x).length = size) (hj : j ≤ xs.length) (hjc : j + ys.length ≤ c) :
    Sat w0 (w.setRow g (cur.toList.take (off + j * size) ++ (ys.map enc).flatten ++ cur.toList.drop (off + j * size + (ys.map enc).flatten.length)).toArray) (Row enc e size (some ⟨g, off, none⟩) c (xs.take j ++ ys ++ xs.drop (j + ys.length)) :: r) := by
  have hgw : w.heap[g]? = some (.cells cur e) := (sg.blk (k := 0) rfl).1
  have s2 : Sat w0 (w.setRow g (cur.toList.take (off + j * size) ++ (ys.map enc).flatten ++ cur.toList.drop (off + j * size + (ys.map enc).flatten.length)).toArray)
      (pt g (.cells (cur.toList.take (off + j * size) ++ (ys.map enc).flatten ++ cur.toList.drop (off + j * size + (ys.map enc).flatten.length)).toArray e) :: r) :=
    sg.put (k := 0) rfl (setRow_heap w g cur _ e _ hgw) (fun x hx => setRow_other w g x _ hx) (by simp) rfl rfl rfl
  have hy : (ys.map enc).flatten.length = ys.length * size := flat_len hly
  have hxl : (xs.map enc).flatten.length = xs.length * size := flat_len hlx
  have hjs : j * size ≤ xs.length * size := Nat.mul_le_mul_right _ hj
  have hcs : xs.length * size ≤ c * size := Nat.mul_le_mul_right _ hle
  have hjcs : j * size + ys.length * size ≤ c * size := by rw [← Nat.add_mul]; exact Nat.mul_le_mul_right _ hjc
  refine Sat.shutRow s2 (fun x hx => ?_) ?_ hc ?_ ?_
  · rcases List.mem_append.1 hx with hx | hx
    · rcases List.mem_append.1 hx with hx | hx
      · exact hlx x (List.mem_of_mem_take hx)
      · exact hly x hx
    · exact hlx x (List.mem_of_mem_drop hx)
  · simp only [List.length_append, List.length_take, List.length_drop]; omega
  · simp only [List.size_toArray, List.length_append, List.length_take, List.length_drop, Array.length_toList]; omega
  · have hlen : (xs.take j ++ ys ++ xs.drop (j + ys.length)).length * size = (j * size + ys.length * size) + (xs.length * size - (j * size + ys.length * size)) := by
      simp only [List.length_append, List.length_take, List.length_drop, Nat.min_eq_left hj]
      rw [Nat.add_mul, Nat.add_mul, Nat.sub_mul, Nat.add_mul]
    have h0 : off ≤ cur.toList.length := by simp; omega
    rw [hlen, List.map_append, List.map_append, List.flatten_append, List.flatten_append, flat_take j hlx, flat_drop _ hlx, Nat.add_mul, hy]
    show List.take _ (List.drop off (cur.toList.take (off + j * size) ++ (ys.map enc).flatten ++ cur.toList.drop (off + j * size + ys.length * size))) = _
    have e1 : List.drop off (cur.toList.take (off + j * size)) = ((xs.map enc).flatten).take (j * size) := by
      rw [← htk, List.take_take, Nat.min_eq_left hjs, List.drop_take]
      congr 1; omega
    have e1l : (((xs.map enc).flatten).take (j * size)).length = j * size := by rw [List.length_take, hxl]; omega
    rw [List.drop_append_of_le_length (by simp; omega), List.drop_append_of_le_length (by simp; omega), e1]
    have e2 : (cur.toList.drop (off + j * size + ys.length * size)).take (xs.length * size - (j * size + ys.length * size)) = ((xs.map enc).flatten).drop (j * size + ys.length * size) := by
      rw [← htk, List.drop_take, List.drop_drop]
      congr 2; omega
    rw [List.take_append, List.take_of_length_le (by simp only [List.length_append, e1l, hy]; omega)]
    congr 1
    rw [← e2]
    congr 1
    simp only [List.length_append, e1l, hy]
    omega
/-- copy into a row that is held, at place j. -/
theorem ot_copyRow {α : Type} {enc : α → List Value} {t t' e : TypeId} {x y : Operand} {ti : TypeInfo} {k c j dlen dcap slen scap size : Nat} {A D B : Option Addr} {xs ys : List α} (hr : ∀ w, Sat w0 w l → Rd enc w size B ys)
    (ho : o.op = .call { callee := .builtin .copy, args := #[x, y], argTypes := #[t, t'] }) (ht : P.underlying t = some (.slice e)) (hi : P.info? e = some ti) (hsize : ti.size = size)
    (hk : nth k l = some (Row enc e size A c xs)) (hx : ev env x = some (.slice D dlen dcap)) (hD : D = A.map (·.add (j * size))) (hy : ev env y = some (.slice B slen scap)) (hm : min slen dlen = ys.length)
    (hj : j ≤ xs.length) (hjc : j + ys.length ≤ c) (hne : ys ≠ []) (h1 : ∀ v ∈ ys, ∀ u ∈ enc v, u.oneCell' = true) :
    OpT P w0 n ds env l o fun u l' => u = .int .i64 ys.length ∧ l' = setAt k (Row enc e size A c (xs.take j ++ ys ++ xs.drop (j + ys.length))) l := fun a w f s => by
  subst hsize
  subst hD
  have hrd := hr w s
  have hl : (ys.map enc).flatten.length = ys.length * ti.size := flat_len hrd.len
  have hone : ∀ u ∈ (ys.map enc).flatten, u.oneCell' = true := fun u hu => by
    obtain ⟨m, hm, hu⟩ := List.mem_flatten.1 hu
    obtain ⟨v, hv, rfl⟩ := List.mem_map.1 hm
    exact h1 v hv u hu
  obtain ⟨ad, rfl, hnews⟩ := hrd.at_ hne
  have hpos : 0 < ys.length := List.length_pos_iff.2 hne
  obtain ⟨r, hperm, hset⟩ := nth_pull hk
  obtain ⟨hlx, s1, hrow⟩ := (s.perm hperm).openRow
  rcases hrow with ⟨_, rfl, _⟩ | ⟨g, off, cur, rfl, sg, hle, hc, hfit, htk⟩
  · omega
  · have hgw : w.heap[g]? = some (.cells cur e) := (sg.blk (k := 0) rfl).1
    have hcells : off + j * ti.size + (ys.map enc).flatten.length ≤ cur.size := by
      rw [hl, Nat.add_assoc, ← Nat.add_mul]
      exact Nat.le_trans (Nat.add_le_add_left (Nat.mul_le_mul_right _ hjc) _) hfit
    have hf := run_firstCells_some (P := P) w ti.size ys.length ad slen scap (ys.map enc).flatten hl hnews
    have hst := run_storeCells_at P g (off + j * ti.size) e (ys.map enc).flatten 0 cur w hgw (by simpa using hcells) hone
    simp only [Nat.add_zero] at hst
    have hmin : Nat.min slen dlen = ys.length := hm
    unfold Oper.goesV execOp
    rw [ho]
    simp [resolve, invoke, builtin, f.eval hx, f.eval hy, Builtin.copy_, run_underlying ht, Builtin.lenOf, sizeOf, typeInfo, hi, hmin, hf, add_none, hst, goInt]
    simpa using (sg.overlay hle hc hfit htk hlx hrd.len hj hjc).perm (hset _).symm
/-- append where it fits, onto what a row begins with: in place. -/
theorem ot_appendIn {α : Type} {enc : α → List Value} {t e : TypeId} {x y : Operand} {ti : TypeInfo} {k c j scap size : Nat} {A B : Option Addr} {xs ys : List α} (hr : ∀ w, Sat w0 w l → Rd enc w size B ys)
    (ho : o.op = .call { callee := .builtin .append, args := #[x, y], argTypes := #[t, t] }) (ht : P.underlying t = some (.slice e)) (hi : P.info? e = some ti) (hsize : ti.size = size)
    (hk : nth k l = some (Row enc e size A c xs)) (hx : ev env x = some (.slice A j c)) (hy : ev env y = some (.slice B ys.length scap))
    (hj : j ≤ xs.length) (hjc : j + ys.length ≤ c) (h1 : ∀ v ∈ ys, ∀ u ∈ enc v, u.oneCell' = true) :
    OpT P w0 n ds env l o fun u l' => u = .slice A (j + ys.length) c ∧ l' = setAt k (Row enc e size A c (xs.take j ++ ys ++ xs.drop (j + ys.length))) l := fun a w f s => by
  subst hsize
  have hrd := hr w s
  have hl : (ys.map enc).flatten.length = ys.length * ti.size := flat_len hrd.len
  have hone : ∀ u ∈ (ys.map enc).flatten, u.oneCell' = true := fun u hu => by
    obtain ⟨m, hm, hu⟩ := List.mem_flatten.1 hu
    obtain ⟨v, hv, rfl⟩ := List.mem_map.1 hm
    exact h1 v hv u hu
  by_cases hne : ys = []
  · subst hne
    have e0 : xs.take j ++ [] ++ xs.drop (j + ([] : List α).length) = xs := by simp
    rw [e0, setAt_nth hk]
    unfold Oper.goesV execOp
    rw [ho]
    simp only [List.length_nil, Nat.add_zero] at hjc hy ⊢
    cases A with
    | none => cases B <;> simp [resolve, invoke, builtin, f.eval hx, f.eval hy, Builtin.append_, run_underlying ht, sizeOf, typeInfo, hi, Builtin.lenOf, hjc, Builtin.firstCells, loadCells, loadCellsFrom] <;> exact s
    | some ad => cases B <;> simp [resolve, invoke, builtin, f.eval hx, f.eval hy, Builtin.append_, run_underlying ht, sizeOf, typeInfo, hi, Builtin.lenOf, hjc, Builtin.firstCells, loadCells, loadCellsFrom, storeCells] <;> exact s
  obtain ⟨ad, rfl, hnews⟩ := hrd.at_ hne
  have hpos : 0 < ys.length := List.length_pos_iff.2 hne
  obtain ⟨r, hperm, hset⟩ := nth_pull hk
  obtain ⟨hlx, s1, hrow⟩ := (s.perm hperm).openRow
  rcases hrow with ⟨_, rfl, _⟩ | ⟨g, off, cur, rfl, sg, hle, hc, hfit, htk⟩
  · omega
  · have hgw : w.heap[g]? = some (.cells cur e) := (sg.blk (k := 0) rfl).1
    have hcells : off + j * ti.size + (ys.map enc).flatten.length ≤ cur.size := by
      rw [hl, Nat.add_assoc, ← Nat.add_mul]
      exact Nat.le_trans (Nat.add_le_add_left (Nat.mul_le_mul_right _ hjc) _) hfit
    have hf := run_firstCells_some (P := P) w ti.size ys.length ad ys.length scap (ys.map enc).flatten hl hnews
    have hst := run_storeCells_at P g (off + j * ti.size) e (ys.map enc).flatten 0 cur w hgw (by simpa using hcells) hone
    simp only [Nat.add_zero] at hst
    unfold Oper.goesV execOp
    rw [ho]
    simp [resolve, invoke, builtin, f.eval hx, f.eval hy, Builtin.append_, run_underlying ht, sizeOf, typeInfo, hi, Builtin.lenOf, hjc, hf, add_none, hst]
    simpa using (sg.overlay hle hc hfit htk hlx hrd.len hj hjc).perm (hset _).symm
/-- append of zeros where they don't fit: a new row; the old one stays. -/
theorem ot_appendZeros {α : Type} {enc : α → List Value} {t tn e : TypeId} {kn : IntKind} {x y : Operand} {ti : TypeInfo} {z : Value} {k c j m size : Nat} {A : Option Addr} {xs : List α} (z0 : α)
    (ho : o.op = .call { callee := .builtin .append, args := #[x, y], argTypes := #[t, tn] }) (ht : P.underlying t = some (.slice e)) (htn : P.underlying tn = some (.int kn)) (hi : P.info? e = some ti) (hz : ti.zero = some z) (hsize : ti.size = size)
    (hzc : z.cells = (enc z0).toArray) (hzs : (enc z0).length = size) (hpos : 0 < size)
    (hk : nth k l = some (Row enc e size A c xs)) (hx : ev env x = some (.slice A j c)) (hy : ev env y = some (.int .i64 (m : Nat))) (hj : j < xs.length) (hm : 0 < m) (hc : c < j + m) (hb : (j + m) * ti.bytes ≤ 140737488355328) (hb1 : 0 < ti.bytes) :
    OpT P w0 n ds env l o fun u l' => ∃ A' c', u = .slice A' (j + m) c' ∧ l' = Row enc e size A' c' (xs.take j ++ List.replicate m z0) :: l := fun a w f s => by
  subst hsize
  have hrd := s.rd hk
  have hlx := hrd.len
  have hne : xs ≠ [] := fun e => by subst e; simp at hj
  obtain ⟨ad, rfl, hcell⟩ := hrd.at_ hne
  have hlt : ∀ x ∈ xs.take j, (enc x).length = ti.size := fun x hx => hlx x (List.mem_of_mem_take hx)
  have hjl : (xs.take j).length = j := by rw [List.length_take]; omega
  have hl : ((xs.take j).map enc).flatten.length = j * ti.size := by rw [flat_len hlt, hjl]
  have holds : ∀ q v, ((xs.take j).map enc).flatten[q]? = some v → w.cell? (ad.add q) = some v := fun q v hq => by
    rw [flat_take j hlx, List.getElem?_take] at hq
    split at hq
    · exact hcell q v hq
    · cases hq
  have h63 : j + m ≤ 140737488355328 := Nat.le_trans (Nat.le_mul_of_pos_right _ hb1) hb
  have hn : m ≠ 0 := by omega
  have hw : IntKind.i64.wrap (m : Int) = m := by rw [IntKind.wrap_i64]; omega
  have h63' : ¬ (9223372036854775807 < ((j : Int) + (m : Int))) := by omega
  have h48' : ¬ (281474976710656 < Builtin.nextslicecap (j + m) c * ti.bytes) := by
    have := growslice_fits (need := j + m) (old := c) (by omega) hb
    omega
  have hmb : m * ti.bytes ≤ (j + m) * ti.bytes := Nat.mul_le_mul_right _ (by omega)
  have h48i : ¬ (281474976710656 < (m : Int) * (ti.bytes : Int)) := by
    rw [← Int.natCast_mul]; omega
  have hneg : ¬ ((m : Int) < 0) := by omega
  have hns : ¬ (m * ti.size = 0) := Nat.mul_ne_zero hn (by omega)
  have hfit : ¬ (j + m ≤ c) := by omega
  have hfo := run_firstCells_some (P := P) w.drew ti.size j ad j c ((xs.take j).map enc).flatten hl (by simpa using holds)
  have hrun : (Builtin.append_ #[t, tn] o.type #[.slice (some ad) j c, .int .i64 (m : Nat)]).run P w =
      .ok (.slice (some ⟨w.heap.size, 0, none⟩) (j + m) (grownCap w (j + m) c e)) (w.drew.alloc (.cells (((xs.take j).map enc).flatten.toArray ++ Builtin.zeroCells z.cells m ++ Builtin.zeroCells z.cells (grownCap w (j + m) c e - (j + m))) e)) := by
    simp [Builtin.append_, run_underlying ht, run_underlying htn, sizeOf, typeInfo, zeroValue, hi, hz, asInt, asIntOf, hw, hn, hneg, hns, hfit, h63', h48', h48i, Question.forced, hfo, newRow, grownCap]
  have hrep : ∀ q, (List.map enc (List.replicate q z0)).flatten = rep (enc z0) q := fun q => by
    induction q with
    | zero => rfl
    | succ q ih => rw [List.replicate_succ, List.map_cons, List.flatten_cons, ih]; rfl
  have hzr : Builtin.zeroCells z.cells m = (rep (enc z0) m).toArray := by
    rw [hzc]
    unfold Builtin.zeroCells
    have := rep_eq (zs := enc z0) (by omega) m
    simpa using this
  have hge := grownCap_ge w (j + m) c e
  have hcm : grownCap w (j + m) c e ≤ maxLen := grownCap_le_maxLen w _ c e (by simp only [maxLen]; omega)
  have hzl : z.cells.size = ti.size := by rw [hzc]; simpa using hzs
  have s2 : Sat w0 w.drew l := ⟨⟨s.below.os, s.below.tape, s.below.output, s.below.size, s.below.block⟩, s.here⟩
  have hlen : (xs.take j ++ List.replicate m z0).length = j + m := by rw [List.length_append, hjl, List.length_replicate]
  have hall : ∀ x ∈ xs.take j ++ List.replicate m z0, (enc x).length = ti.size := fun x hx => by
    rcases List.mem_append.1 hx with h | h
    · exact hlt x h
    · rw [List.eq_of_mem_replicate h]; exact hzs
  have hfin : Sat w0 (w.drew.alloc (.cells (((xs.take j).map enc).flatten.toArray ++ Builtin.zeroCells z.cells m ++ Builtin.zeroCells z.cells (grownCap w (j + m) c e - (j + m))) e)) (Row enc e ti.size (some ⟨w.heap.size, 0, none⟩) (grownCap w (j + m) c e) (xs.take j ++ List.replicate m z0) :: l) := by
    refine Sat.shutRow (off := 0) (s2.alloc _) hall (by rw [hlen]; exact hge) hcm ?_ ?_
    · simp only [Array.size_append, List.size_toArray, size_zeroCells, hzl, hl, Nat.zero_add]
      rw [← Nat.add_mul, ← Nat.add_mul]
      exact Nat.mul_le_mul_right _ (by omega)
    · simp only [Array.toList_append, List.drop_zero, hzr]
      rw [hlen, List.map_append, List.flatten_append, hrep]
      have e1 : ((xs.take j).map enc).flatten.length + (rep (enc z0) m).length = (j + m) * ti.size := by rw [hl, rep_len, hzs, Nat.add_mul]
      rw [← e1, ← List.length_append]
      exact List.take_left
  unfold Oper.goesV execOp
  rw [ho]
  simp only [resolve, invoke, builtin, Sem.run_bind, Sem.run_pure, Result.andThen_ok, List.map_toArray, List.map_cons, List.map_nil, f.eval hx, f.eval hy, hrun]
  exact ⟨_, ⟨_, _, rfl, rfl⟩, hfin⟩
theorem ov_capS {t e : TypeId} {x : Operand} {A : Option Addr} {m c : Nat} (ho : o.op = .call { callee := .builtin .cap, args := #[x], argTypes := #[t] }) (ht : P.underlying t = some (.slice e)) (hx : ev env x = some (.slice A m c)) :
    OpV P w0 n ds env l o (.int .i64 (c : Nat)) := fun fr w f s => by
  unfold execOp
  rw [ho]
  simp [resolve, invoke, builtin, f.eval hx, Builtin.cap_, run_und ht, goInt]
/-- s[:k], within the capacity. -/
theorem ov_sliceToC {t e : TypeId} {x hi : Operand} {A : Option Addr} {m c size k : Nat} {ik : IntKind} (ho : o.op = .slice t x none (some hi) none) (ht : P.underlying t = some (.slice e)) (hs : (P.info? e).map (·.size) = some size)
    (hx : ev env x = some (.slice A m c)) (hl : ev env hi = some (.int ik (k : Int))) (hk : k ≤ c) : OpV P w0 n ds env l o (.slice A k c) := fun fr w f s => by
  unfold execOp
  rw [ho]
  cases hti : P.info? e with
  | none => rw [hti] at hs; cases hs
  | some ti =>
    have : ti.size = size := by simpa [hti] using hs
    have hkc : (k : Int) ≤ (c : Int) := by omega
    have h0 : (A.map fun p => p.add 0) = A := by cases A <;> simp [addr_zero]
    simp [Instr.sliceAt, run_und ht, Instr.slice, Instr.sliceBounds, Instr.sliceBound, f.eval hx, f.eval hl, asIntOf, hkc, sizeOf, typeInfo, hti, this, h0]
    intro h; omega
/-- s[lo:] -/
theorem ov_sliceFromC {t e : TypeId} {x lo : Operand} {A : Option Addr} {m c size j : Nat} {ik : IntKind} (ho : o.op = .slice t x (some lo) none none) (ht : P.underlying t = some (.slice e)) (hs : (P.info? e).map (·.size) = some size)
    (hx : ev env x = some (.slice A m c)) (hj : ev env lo = some (.int ik (j : Int))) (hjm : j ≤ m) : OpV P w0 n ds env l o (.slice (dropA A c j size) (m - j) (c - j)) := fun fr w f s => by
  unfold execOp
  rw [ho]
  cases hti : P.info? e with
  | none => rw [hti] at hs; cases hs
  | some ti =>
    have : ti.size = size := by simpa [hti] using hs
    have hjm' : (j : Int) ≤ (m : Int) := by omega
    simp [Instr.sliceAt, run_und ht, Instr.slice, Instr.sliceBounds, Instr.sliceBound, f.eval hx, f.eval hj, asIntOf, hjm', sizeOf, typeInfo, hti, this, dropA]
    intro h; omega
/-- s[lo:hi], within the capacity. -/
theorem ov_sliceMidC {t e : TypeId} {x lo hi : Operand} {A : Option Addr} {m c size j k : Nat} {ik ik2 : IntKind} (ho : o.op = .slice t x (some lo) (some hi) none) (ht : P.underlying t = some (.slice e)) (hs : (P.info? e).map (·.size) = some size)
    (hx : ev env x = some (.slice A m c)) (hj : ev env lo = some (.int ik (j : Int))) (hl : ev env hi = some (.int ik2 (k : Int))) (hjk : j ≤ k) (hk : k ≤ c) : OpV P w0 n ds env l o (.slice (dropA A c j size) (k - j) (c - j)) := fun fr w f s => by
  unfold execOp
  rw [ho]
  cases hti : P.info? e with
  | none => rw [hti] at hs; cases hs
  | some ti =>
    have : ti.size = size := by simpa [hti] using hs
    have hkc : (k : Int) ≤ (c : Int) := by omega
    have hjk' : (j : Int) ≤ (k : Int) := by omega
    have h0 : (A.map fun p => p.add 0) = A := by cases A <;> simp [addr_zero]
    simp [Instr.sliceAt, run_und ht, Instr.slice, Instr.sliceBounds, Instr.sliceBound, f.eval hx, f.eval hj, f.eval hl, asIntOf, hkc, hjk', sizeOf, typeInfo, hti, this, dropA]
    rw [if_pos hk, if_pos hjk]
/-- s[lo:hi:max], within the capacity. -/
theorem ov_slice3 {t e : TypeId} {x lo hi mx : Operand} {A : Option Addr} {m c size j k q : Nat} {ik ik2 ik3 : IntKind} (ho : o.op = .slice t x (some lo) (some hi) (some mx)) (ht : P.underlying t = some (.slice e)) (hs : (P.info? e).map (·.size) = some size)
    (hx : ev env x = some (.slice A m c)) (hj : ev env lo = some (.int ik (j : Int))) (hl : ev env hi = some (.int ik2 (k : Int))) (hq : ev env mx = some (.int ik3 (q : Int))) (hjk : j ≤ k) (hk : k ≤ q) (hqc : q ≤ c) : OpV P w0 n ds env l o (.slice (dropA A q j size) (k - j) (q - j)) := fun fr w f s => by
  unfold execOp
  rw [ho]
  cases hti : P.info? e with
  | none => rw [hti] at hs; cases hs
  | some ti =>
    have : ti.size = size := by simpa [hti] using hs
    have hkc : (k : Int) ≤ (q : Int) := by omega
    have hqc' : (q : Int) ≤ (c : Int) := by omega
    have hjk' : (j : Int) ≤ (k : Int) := by omega
    have h0 : (A.map fun p => p.add 0) = A := by cases A <;> simp [addr_zero]
    simp [Instr.sliceAt, run_und ht, Instr.slice, Instr.sliceBounds, Instr.sliceBound, f.eval hx, f.eval hj, f.eval hl, f.eval hq, asIntOf, hkc, hqc', hjk', sizeOf, typeInfo, hti, this, dropA]
    rw [if_pos hqc, if_pos hk, if_pos hjk]
/-- overlaps, of a block that is held and of a row in another one. -/
theorem x_overlaps {α : Type} {enc : α → List Value} {tS tR e : TypeId} {size gv c q la ca lb cb : Nat} {cs : Array Value} {T : TypeId} {A : Option Addr} {xs : List α} {ks : List Nat} {r : List HP} (ht : P.underlying tS = some (.slice e)) (hz : ∀ w, (sizeOf e).run P w = .ok size w) (hpos : 0 < size) (hne : xs ≠ [])
    (hks : pulls ks l = some ([pt gv (.cells cs T (0, 0)), Row enc e size A c xs], r)) :
    ∀ w, Sat w0 w l → ∃ w', (Extern.SlicesOverlaps.overlaps #[tS, tS] #[tR] [.slice (some ⟨gv, 0, none⟩) la ca, .slice (A.map (·.add q)) lb cb].toArray).run P w = .ok (.bool false) w' ∧ Sat w0 w' l := fun w s => by
  refine ⟨w, ?_, s⟩
  obtain ⟨bel, h, ⟨p, p', hp, ⟨p2, q2, ⟨hl, hrow⟩, _, _, l3, _⟩, hd, l1, l2⟩, kk⟩ := (show Sat w0 w (pt gv (.cells cs T (0, 0)) :: Row enc e size A c xs :: r) from s.pulls hks)
  rcases hrow with ⟨_, _, rfl⟩ | ⟨g, off, cur, rfl, hg, h3, h4, h5, h6⟩
  · exact absurd rfl hne
  · have hp : p gv = some (.cells cs T (0, 0)) := hp
    have hgne : gv ≠ g := fun e0 => by
      subst e0
      rcases hd gv with hd | hd
      · rw [hp] at hd; cases hd
      · rw [l3 gv _ hg] at hd; cases hd
    have b1 := (kk gv _ (l1 gv _ hp)).2
    have b2 := (kk g _ (l2 g _ (l3 g _ hg))).2
    have hx1 : 1 ≤ xs.length := List.length_pos_iff.2 hne
    have hc1 : 1 ≤ c * size := Nat.mul_pos (by omega) hpos
    have hA : (some (⟨g, off, none⟩ : Addr)).map (·.add q) = some ⟨g, off + q, none⟩ := by simp [add_none]
    rw [hA]
    exact Lib.run_overlaps_apart w tS tR e ht size hz ⟨gv, 0, none⟩ ⟨g, off + q, none⟩ la ca lb cb hgne T e cs.size cur.size (by simp [World.shape?, b1]) (by simp [World.shape?, b2]) (by omega) (by simp [World.frozen?, b1]) (by simp [World.frozen?, b1])
end
theorem Row_tk {α : Type} {enc : α → List Value} {e : TypeId} {size : Nat} {A : Option Addr} {c : Nat} {xs : List α} {h : PH} (r : Row enc e size A c xs h) (k : Nat) : Row enc e size A c (xs.take k) h := by
  obtain ⟨hl, hr⟩ := r
  refine ⟨fun x hx => hl x (List.mem_of_mem_take hx), ?_⟩
  rcases hr with ⟨h1, h2, h3⟩ | ⟨g, off, cur, h1, h2, h3, h4, h5, h6⟩
  · exact .inl ⟨h1, h2, by rw [h3]; simp⟩
  · refine .inr ⟨g, off, cur, h1, h2, by rw [List.length_take]; omega, h4, h5, ?_⟩
    have hs : (xs.map enc).flatten = ((xs.take k).map enc).flatten ++ ((xs.drop k).map enc).flatten := by
      rw [← List.flatten_append, ← List.map_append, List.take_append_drop]
    have hl2 : ((xs.take k).map enc).flatten.length = (xs.take k).length * size := flat_len fun x hx => hl x (List.mem_of_mem_take hx)
    have := congrArg (List.take ((xs.take k).length * size)) h6
    rw [hs, ← hl2, List.take_left, hl2, List.take_take, Nat.min_eq_left (Nat.mul_le_mul_right _ (by rw [List.length_take]; omega))] at this
    exact this
theorem at_rowTk {w0 : World} {n : Nat} {ds : List Deferred} {R : Act → World → Prop} {env : Env} {α : Type} {enc : α → List Value} {l : List HP} (j k : Nat) {e : TypeId} {size : Nat} {A : Option Addr} {c : Nat} {xs : List α} (hk : nth k l = some (Row enc e size A c xs))
    (h : At w0 n ds R env (setAt k (Row enc e size A c (xs.take j)) l)) : At w0 n ds R env l := fun a w f s => by
  refine h a w f ?_
  obtain ⟨r, hp, hs⟩ := nth_pull hk
  have s1 : Sat w0 w (Row enc e size A c xs :: r) := s.imp fun _ hh => star_perm hp hh
  have s2 : Sat w0 w (Row enc e size A c (xs.take j) :: r) := s1.imp fun h ⟨p, q, h1, h2, h3⟩ => ⟨p, q, Row_tk h1 j, h2, h3⟩
  exact s2.imp fun _ hh => star_perm (hs _).symm hh
end Go.Proofs.YtmedbdcjniggcaaDoor.SL
