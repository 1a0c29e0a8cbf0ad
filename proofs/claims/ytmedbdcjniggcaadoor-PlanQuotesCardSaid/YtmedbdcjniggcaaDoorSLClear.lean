/- clear, of a row's rest. -/
import Derived.Test.YtmedbdcjniggcaaDoorSLExt
set_option linter.unusedVariables false
set_option linter.unusedSimpArgs false
namespace Go.Proofs.YtmedbdcjniggcaaDoor.SL
open Go Go.RowKit
theorem spliceL_out : ∀ (L : List Value) (p : Nat) (vs : List Value), L.length ≤ p → spliceL L p vs = L
  | [], _, _, _ => by unfold spliceL; rfl
  | c :: cs, 0, _, h => by simp at h
  | c :: cs, p + 1, vs, h => by
    have := spliceL_out cs p vs (by simpa using h)
    unfold spliceL
    rw [this]
theorem zeroCells_len (z : Array Value) (n : Nat) : (Builtin.zeroCells z n).toList.length = n * z.size := by simp [Builtin.zeroCells]
theorem zeroCells_one {z : Array Value} {n : Nat} (h : z.toList.all (·.oneCell') = true) : ∀ v ∈ (Builtin.zeroCells z n).toList, v.oneCell' = true := by
  intro v hv
  simp [Builtin.zeroCells] at hv
  obtain ⟨i, hi, rfl⟩ := hv
  have hz : 0 < z.size := by
    rcases Nat.eq_zero_or_pos z.size with e | e
    · rw [e] at hi; simp at hi
    · exact e
  have hlt : i % z.size < z.size := Nat.mod_lt _ hz
  rw [getElem!_pos z _ hlt]
  exact List.all_eq_true.1 h _ (by simp)
section
variable {P : Program} {w0 : World} {n : Nat} {ds : List Deferred} {env : Env} {l : List HP} {o : Oper}
theorem ot_clearRow {α : Type} {enc : α → List Value} {t e : TypeId} {x : Operand} {k i size c : Nat} {A : Option Addr} {xs : List α} {z : Value} (ho : o.op = .call { callee := .builtin .clear, args := #[x], argTypes := #[t] }) (ht : P.underlying t = some (.slice e))
    (hz : ∀ w, (zeroValue e).run P w = .ok z w) (hzs : z.cells.size = size) (hz1 : z.cells.toList.all (·.oneCell') = true) (hk : nth k l = some (Row enc e size A c xs)) (hx : ev env x = some (.slice (dropA A c i size) (xs.drop i).length (c - i))) (hi : i ≤ xs.length) :
    OpT P w0 n ds env l o fun w l' => w = .tuple #[] ∧ l' = setAt k (Row enc e size A c (xs.take i)) l := fun a w f s => by
  obtain ⟨r, hperm, hset⟩ := nth_pull hk
  obtain ⟨hl, s1, hrow⟩ := (s.perm hperm).openRow
  have hlt : ∀ x ∈ xs.take i, (enc x).length = size := fun x hx => hl x (List.mem_of_mem_take hx)
  have key : ∃ w', (Builtin.clear_ #[t] o.type #[.slice (dropA A c i size) (xs.drop i).length (c - i)]).run P w = .ok (.tuple #[]) w' ∧ Sat w0 w' (Row enc e size A c (xs.take i) :: r) := by
    by_cases h0 : i = xs.length
    · subst h0
      refine ⟨w, ?_, by rw [List.take_length]; exact s.perm hperm⟩
      rw [List.drop_length]
      cases dropA A c xs.length size <;> simp [Builtin.clear_, run_und ht]
    · rcases hrow with ⟨_, _, rfl⟩ | ⟨g, off, cur, rfl, sg, hle, hc, hfit, htk⟩
      · simp at hi h0; omega
      · have hilt : i < xs.length := by omega
        have hA : dropA (some ⟨g, off, none⟩) c i size = some ⟨g, off + i * size, none⟩ := by
          unfold dropA
          rw [if_neg (by omega)]
          simp [add_none]
        have hnum : off + i * size + 0 + (Builtin.zeroCells z.cells (xs.drop i).length).toList.length ≤ cur.size := by
          rw [zeroCells_len, hzs, List.length_drop]
          have h1 : (xs.length - i) * size + i * size = xs.length * size := by rw [← Nat.add_mul]; congr 1; omega
          have h2 : xs.length * size ≤ c * size := Nat.mul_le_mul_right _ hle
          omega
        obtain ⟨w', hw', hs'⟩ := run_stores (P := P) (Builtin.zeroCells z.cells (xs.drop i).length).toList 0 (off + i * size) cur w _ sg (k := 0) rfl hnum (zeroCells_one hz1)
        obtain ⟨m, hm⟩ : ∃ m, (xs.drop i).length = m + 1 := ⟨(xs.drop i).length - 1, by rw [List.length_drop]; omega⟩
        refine ⟨w', ?_, ?_⟩
        · rw [hA]
          rw [hm] at hw' ⊢
          simp [Builtin.clear_, run_und ht, hz, hw']
        · refine Sat.shutRow (xs := xs.take i) (c := c) (size := size) (off := off) (enc := enc) (by simpa [setAt] using hs') hlt (by rw [List.length_take]; omega) hc ?_ ?_
          · rw [splice, List.size_toArray, spliceL_len, Array.length_toList]; exact hfit
          · have hti : (xs.take i).length = i := by rw [List.length_take]; omega
            rw [splice, hti]
            show ((spliceL cur.toList (off + i * size + 0) _).drop off).take _ = _
            rw [Nat.add_zero, spliceL_drop, spliceL_take, spliceL_out _ _ _ (by rw [List.length_take]; omega)]
            have h3 := congrArg (List.take (i * size)) htk
            rw [List.take_take, Nat.min_eq_left (Nat.mul_le_mul_right _ hi)] at h3
            rw [h3]
            have hs2 : (xs.map enc).flatten = ((xs.take i).map enc).flatten ++ ((xs.drop i).map enc).flatten := by
              rw [← List.flatten_append, ← List.map_append, List.take_append_drop]
            have hl2 : ((xs.take i).map enc).flatten.length = i * size := by rw [flat_len hlt, hti]
            rw [hs2, ← hl2, List.take_left]
  obtain ⟨w', hrun, hs'⟩ := key
  unfold Oper.goesV execOp
  rw [ho]
  rw [List.length_drop] at hrun hx
  simp [resolve, invoke, builtin, f.eval hx, hrun]
  exact hs'.perm (hset _).symm
end
end Go.Proofs.YtmedbdcjniggcaaDoor.SL
