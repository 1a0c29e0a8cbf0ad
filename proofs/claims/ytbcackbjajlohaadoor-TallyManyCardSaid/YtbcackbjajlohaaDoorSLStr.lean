/- Strings: bytes and strings turned into one another, a string's bytes and parts. -/
import Derived.Test.YtbcackbjajlohaaDoorSLDefer
import Derived.Laws.IdiomStrings
set_option linter.unusedVariables false
set_option linter.unusedSimpArgs false
namespace Go.Proofs.YtbcackbjajlohaaDoor.SL
open Go Go.RowKit
def bE (b : UInt8) : List Value := [.int .u8 (b.toNat : Int)]
def sE (s : ByteArray) : List Value := [.string s]
section
variable {P : Program} {w0 : World} {n : Nat} {ds : List Deferred} {env : Env} {l : List HP} {o : Oper}
theorem ov_neg {t : TypeId} {x : Operand} {k : IntKind} {a : Int} (ho : o.op = .unOp .neg t x) (hx : ev env x = some (.int k a)) : OpV P w0 n ds env l o (.int k (k.wrap (-a))) := fun fr w f s => by
  unfold execOp; rw [ho]; simp [f.eval hx, Op.unary, Op.intArith]
/-- 'string(b)'. -/
theorem ov_bytesStr {src dst e : TypeId} {x : Operand} {A : Option Addr} {c : Nat} {bs : List UInt8} (hr : ∀ w, Sat w0 w l → Rd bE w 1 A bs) (hA : ∃ ad, A = some ad) (ho : o.op = .convert src dst x) (hs : P.underlying src = some (.slice e)) (he : P.underlying e = some (.int .u8)) (hd : P.underlying dst = some .string)
    (hx : ev env x = some (.slice A bs.length c)) : OpV P w0 n ds env l o (.string ⟨bs.toArray⟩) := fun fr w f s => by
  obtain ⟨ad, rfl⟩ := hA
  unfold execOp
  rw [ho]
  have h := run_convert_bytes_back (P := P) w src dst e ad c bs hs he hd (fun j hj => by
    have := (hr w s).cells (List.getElem?_eq_getElem hj) (j := 0) (u := .int .u8 (bs[j].toNat : Int)) rfl
    simpa using this)
  simp [f.eval hx, h]
end
end Go.Proofs.YtbcackbjajlohaaDoor.SL
