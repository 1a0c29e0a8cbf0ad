/- Texts in order. -/
import Derived.Test.YtmedbdcjniggcaaDoorSLStr
set_option linter.unusedVariables false
set_option linter.unusedSimpArgs false
namespace Go.Proofs.YtmedbdcjniggcaaDoor.SL
open Go Go.RowKit
theorem ba_toList (a : BL) : (⟨a.toArray⟩ : ByteArray).toList = a := by
  have : (⟨a.toArray⟩ : ByteArray).toList = (⟨a.toArray⟩ : ByteArray).data.toList := by simp
  rw [this]
def cmpL (op : BinOp) (x y : BL) : Option Value :=
  match op with
  | .lss => some (.bool (Op.bytesLess x y))
  | .leq => some (.bool (Op.bytesLess x y || decide (x = y)))
  | .gtr => some (.bool !(Op.bytesLess x y || decide (x = y)))
  | .geq => some (.bool !Op.bytesLess x y)
  | _ => none
section
variable {P : Program} {w0 : World} {n : Nat} {ds : List Deferred} {env : Env} {l : List HP} {o : Oper}
theorem ov_cmpL {op : BinOp} {xt yt : TypeId} {x y : Operand} {a b : BL} {v : Value} (ho : o.op = .binOp op xt x y yt) (hx : ev env x = some (SV a)) (hy : ev env y = some (SV b))
    (hv : cmpL op a b = some v) : OpV P w0 n ds env l o v := fun fr w f s => by
  unfold execOp
  rw [ho]
  simp only [f.eval hx, f.eval hy, binOp]
  have hb : (a == b) = decide (a = b) := by
    by_cases h : a = b
    · subst h; simp
    · rw [decide_eq_false h]; simpa using h
  cases op <;> simp [cmpL] at hv <;> subst hv <;> simp [eqGuard, Op.stringOp, ba_toList, hb]
theorem ov_half {xt yt : TypeId} {x y : Operand} {a : Int} (ho : o.op = .binOp .shr xt x y yt) (hx : ev env x = some (.int .u64 a)) (hy : ev env y = some (.int .u64 1)) (h0 : 0 ≤ a) :
    OpV P w0 n ds env l o (.int .u64 (a / 2)) := fun fr w f s => by
  unfold execOp
  rw [ho]
  simp only [f.eval hx, f.eval hy, binOp]
  have e : a.fdiv 2 = a / 2 := Int.fdiv_eq_ediv_of_nonneg a (by decide)
  have hb : min 1 IntKind.u64.bits = 1 := rfl
  simp [eqGuard, Op.shift, hb, e]
end
end Go.Proofs.YtmedbdcjniggcaaDoor.SL
