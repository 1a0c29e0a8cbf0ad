/- Rules for the operations: what an operation yields, what it does to the atoms. -/
import Derived.Test.YtmedbdcjniggcaaDoorSL
import Derived.Deep.Quiet
set_option linter.unusedVariables false
set_option linter.unusedSimpArgs false
namespace Go.Proofs.YtmedbdcjniggcaaDoor.SL
open Go Go.RowKit

/-! ### 1. What an operation does -/
/-- It yields v and leaves the world alone. -/
def OpV (P : Program) (w0 : World) (n : Nat) (ds : List Deferred) (env : Env) (l : List HP) (o : Oper) (v : Value) : Prop :=
  ∀ a w, Fr n ds env a → Sat w0 w l → (execOp a.eval o).run P w = .ok (.value v) w
def Oper.goesV (P : Program) (o : Oper) (a : Act) (w : World) (next : Value → World → Prop) : Prop :=
  match (execOp a.eval o).run P w with
  | .ok (.value v) w' => next v w'
  | .ok .skip w' => next undef w'
  | .ok (.enter f args) w' => Calls P f args w' fun e w'' => match e with | .returned v => next v w'' | _ => False
  | .ok (.row row args) w' => Rows P row args w' next
  | .ok (.round l f tmps assign body) w' => RoundIn Fence.wide 0 P l f tmps assign body w' fun e w'' => match e with | .returned v => next v w'' | _ => False
  | _ => False
/-- It yields some v, and other atoms. -/
def OpT (P : Program) (w0 : World) (n : Nat) (ds : List Deferred) (env : Env) (l : List HP) (o : Oper) (Post : Value → List HP → Prop) : Prop :=
  ∀ a w, Fr n ds env a → Sat w0 w l → Oper.goesV P o a w fun v w' => ∃ l', Post v l' ∧ Sat w0 w' l'
theorem goesV_mono {P : Program} {o : Oper} {a : Act} {w : World} {K K' : Value → World → Prop} (h : Oper.goesV P o a w K) (k : ∀ v w', K v w' → K' v w') : Oper.goesV P o a w K' := by
  unfold Oper.goesV at *
  generalize (execOp a.eval o).run P w = r at *
  cases r with
  | halt x w' => exact h
  | ok m w' =>
    cases m <;> simp only at h ⊢
    case value v => exact k _ _ h
    case skip => exact k _ _ h
    case enter f args => exact h.mono fun e w'' he => by cases e <;> first | exact k _ _ he | exact he
    case row r args => exact h.mono fun v w'' he => k _ _ he
    case round l f tmps assign body => exact h.mono fun e w'' he => by cases e <;> first | exact k _ _ he | exact he
theorem goesV_nodefer {P : Program} {o : Oper} {a : Act} {w : World} {K : Value → World → Prop} (h : Oper.goesV P o a w K) (c : Call) : o.op ≠ .defer c := fun ho => by
  unfold Oper.goesV execOp at h
  rw [ho] at h
  simp only [Sem.run_bind] at h
  generalize (resolve a.eval c o.type).run P w = r at h
  cases r <;> simp [Result.andThen] at h
theorem goesV_in {P : Program} {o : Oper} {a : Act} {w : World} {K : Act → World → Prop} {Q : Exit → Act → World → Prop} (ro : Option Nat) (h : Oper.goesV P o a w fun v w' => K (a.put o.dst v) w') : o.wpIn (FW ro) 0 P a w K Q := by
  refine ⟨fun _ _ => trivial, ?_⟩
  rw [Oper.semAt_eq _ _ _ (goesV_nodefer h)]
  unfold Oper.goesV at h
  generalize (execOp a.eval o).run P w = r at *
  cases r with
  | halt x w' => exact h.elim
  | ok m w' =>
    cases m <;> simp only at h <;> simp only [Oper.uponIn]
    case value v => exact h
    case skip => exact h
    case enter f args =>
      refine ⟨fun e => (by simp [FW, Fence.wide] at e), CallsIn.mono (R := fun e w'' => match e with | .returned v => K (a.put o.dst v) w'' | _ => False) (callsIn_wide.2 h) fun e w'' he => by cases e <;> first | exact he | exact he.elim⟩
    case row r args => exact ⟨fun e => (by simp [FW, Fence.wide] at e), fun c cs _ => let ⟨v, w'', x, y⟩ := h c cs; ⟨v, w'', x, stepsIn_wide.2 y⟩⟩
    case round l f tmps assign body =>
      refine ⟨fun e => (by simp [FW, Fence.wide] at e), RoundIn.mono (R := fun e w'' => match e with | .returned v => K (a.put o.dst v) w'' | _ => False) h fun e w'' he => by cases e <;> first | exact he | exact he.elim⟩
theorem OpV.T {P : Program} {w0 : World} {n : Nat} {ds : List Deferred} {env : Env} {l : List HP} {o : Oper} {v : Value} (h : OpV P w0 n ds env l o v) : OpT P w0 n ds env l o fun u l' => u = v ∧ l' = l :=
  fun a w f s => by unfold Oper.goesV; rw [h a w f s]; exact ⟨l, ⟨rfl, rfl⟩, s⟩

/-! ### 2. Steps in the order of the text -/
def gList (ro : Option Nat) (P : Program) (ops : Array Oper) (Q : Exit → Act → World → Prop) : List Oper → Act → World → Prop
  | [], a, w => Q .normal a w
  | o :: rest, a, w => if Region.wanted o (yielded ops a.tmps) then o.wpIn (FW ro) 0 P a w (gList ro P ops Q rest) Q else gList ro P ops Q rest (a.put o.dst undef) w
theorem gList_in {ro : Option Nat} {P : Program} {ops : Array Oper} {Q : Exit → Act → World → Prop} : ∀ (l : List Oper) (a : Act) (w : World), gList ro P ops Q l a w → wpListIn (FW ro) 0 P ops Q l a w
  | [], _, _, h => h
  | o :: rest, a, w, h => by
    unfold gList at h
    unfold wpListIn
    split
    · rename_i hw; simp only [hw, if_true] at h; exact Oper.wpIn_mono (fun a w k => gList_in rest a w k) h
    · rename_i hw; simp only [hw] at h; exact ⟨fun _ _ => trivial, gList_in rest _ w h⟩
theorem gList_plain {ro : Option Nat} {P : Program} {ops : Array Oper} {Q : Exit → Act → World → Prop} {o : Oper} {rest : List Oper} {a : Act} {w : World} (hg : o.guard = none)
    (h : o.wpIn (FW ro) 0 P a w (gList ro P ops Q rest) Q) : gList ro P ops Q (o :: rest) a w := by
  unfold gList; rw [if_pos (by simp [Region.wanted, hg])]; exact h
section seq
variable {ro : Option Nat} {P : Program} {w0 : World} {n : Nat} {ds : List Deferred} {env : Env} {l : List HP} {ops : Array Oper} {Q : Exit → Act → World → Prop} {o : Oper} {rest : List Oper}
theorem at_region {id : Nat} {m : List Oper} (h : At w0 n ds (gList ro P m.toArray Q m) env l) : At w0 n ds (gwp ro P (Code.region id m.toArray false) Q) env l :=
  fun a w f s => wpIn_region_lit (gList_in _ _ _ (h a w f s))
theorem at_nil (h : At w0 n ds (Q .normal) env l) : At w0 n ds (gList ro P ops Q []) env l := fun a w f s => h a w f s
theorem at_t {Post : Value → List HP → Prop} {d : Nat} (h : OpT P w0 n ds env l o Post) (hg : o.guard = none) (hd : o.dst = some d) (hn : Nat.blt d n = true)
    (k : ∀ v l', Post v l' → At w0 n ds (gList ro P ops Q rest) ((d, v) :: env) l') : At w0 n ds (gList ro P ops Q (o :: rest)) env l :=
  fun a w f s => gList_plain hg (goesV_in ro (goesV_mono (h a w f s) fun v w' ⟨l', hp, s'⟩ => by rw [hd]; exact k v l' hp _ w' (f.put d v hn) s'))
theorem at_t0 {Post : Value → List HP → Prop} (h : OpT P w0 n ds env l o Post) (hg : o.guard = none) (hd : o.dst = none)
    (k : ∀ v l', Post v l' → At w0 n ds (gList ro P ops Q rest) env l') : At w0 n ds (gList ro P ops Q (o :: rest)) env l :=
  fun a w f s => gList_plain hg (goesV_in ro (goesV_mono (h a w f s) fun v w' ⟨l', hp, s'⟩ => by rw [hd]; exact k v l' hp _ w' f s'))
theorem at_v {v : Value} {d : Nat} (h : OpV P w0 n ds env l o v) (hg : o.guard = none) (hd : o.dst = some d) (hn : Nat.blt d n = true)
    (k : At w0 n ds (gList ro P ops Q rest) ((d, v) :: env) l) : At w0 n ds (gList ro P ops Q (o :: rest)) env l :=
  at_t h.T hg hd hn fun _ _ ⟨e1, e2⟩ => by subst e1; subst e2; exact k
end seq
/-- Whether a guarded operation comes up. -/
def guardV (ops : Array Oper) (env : Env) (j : Nat) : Option Bool :=
  match ops[j]? with
  | some o => match o.dst with | some d => (match look env d with | some (.bool b) => some b | _ => none) | none => none
  | none => none
theorem guard_yields {n : Nat} {ds : List Deferred} {env : Env} {a : Act} {ops : Array Oper} {j : Nat} {b : Bool} (f : Fr n ds env a) (h : guardV ops env j = some b) : yielded ops a.tmps j = some b := by
  unfold guardV at h
  unfold yielded
  cases ho : ops[j]? with
  | none => rw [ho] at h; cases h
  | some o =>
    rw [ho] at h
    simp only at h
    cases hd : o.dst with
    | none => rw [hd] at h; cases h
    | some d =>
      rw [hd] at h
      simp only at h
      cases hl : look env d with
      | none => rw [hl] at h; cases h
      | some v =>
        rw [hl] at h
        cases v <;> simp at h
        subst h
        simp [hd, f.has _ _ hl]
section seq
variable {ro : Option Nat} {P : Program} {w0 : World} {n : Nat} {ds : List Deferred} {env : Env} {l : List HP} {ops : Array Oper} {Q : Exit → Act → World → Prop} {dst : Option Tmp} {op : Op} {type : TypeId} {pos : String} {after : Array Edge} {j : Nat} {want : Bool} {rest : List Oper}
/-- The guard says yes: the operation without it. -/
theorem at_wanted (h : guardV ops env j = some want) (k : At w0 n ds (gList ro P ops Q (⟨dst, op, type, pos, after, none⟩ :: rest)) env l) :
    At w0 n ds (gList ro P ops Q (⟨dst, op, type, pos, after, some (j, want)⟩ :: rest)) env l := fun a w f s => by
  have h1 := k a w f s
  unfold gList at h1 ⊢
  simp only [Region.wanted, guard_yields f h, beq_self_eq_true, if_true] at h1 ⊢
  exact h1
theorem at_unwanted {b : Bool} {d : Nat} (h : guardV ops env j = some b) (hb : b = !want) (hd : dst = some d) (hn : Nat.blt d n = true) (k : At w0 n ds (gList ro P ops Q rest) ((d, undef) :: env) l) :
    At w0 n ds (gList ro P ops Q (⟨dst, op, type, pos, after, some (j, want)⟩ :: rest)) env l := fun a w f s => by
  unfold gList
  simp only [Region.wanted, guard_yields f h]
  rw [if_neg (by subst hb; cases want <;> simp)]
  subst hd
  exact k _ w (f.put d undef hn) s
theorem at_unwanted0 {b : Bool} (h : guardV ops env j = some b) (hb : b = !want) (hd : dst = none) (k : At w0 n ds (gList ro P ops Q rest) env l) :
    At w0 n ds (gList ro P ops Q (⟨dst, op, type, pos, after, some (j, want)⟩ :: rest)) env l := fun a w f s => by
  unfold gList
  simp only [Region.wanted, guard_yields f h]
  rw [if_neg (by subst hb; cases want <;> simp)]
  subst hd
  exact k _ w f s
end seq
/-- The operation that guards was passed over itself. -/
def guardN (ops : Array Oper) (env : Env) (j : Nat) : Bool :=
  match ops[j]? with
  | some o => match o.dst with | some d => (match look env d with | some (.bool _) => false | some _ => true | none => false) | none => false
  | none => false
theorem guardN_yields {n : Nat} {ds : List Deferred} {env : Env} {a : Act} {ops : Array Oper} {j : Nat} (f : Fr n ds env a) (h : guardN ops env j = true) : yielded ops a.tmps j = none := by
  unfold guardN at h
  unfold yielded
  cases ho : ops[j]? with
  | none => rw [ho] at h; cases h
  | some o =>
    rw [ho] at h
    simp only at h
    cases hd : o.dst with
    | none => rw [hd] at h; cases h
    | some d =>
      rw [hd] at h
      simp only at h
      cases hl : look env d with
      | none => rw [hl] at h; cases h
      | some v =>
        rw [hl] at h
        simp only [hd, Option.bind_some, f.has _ _ hl]
        cases v <;> first | rfl | (simp at h; done)
section seq
variable {ro : Option Nat} {P : Program} {w0 : World} {n : Nat} {ds : List Deferred} {env : Env} {l : List HP} {ops : Array Oper} {Q : Exit → Act → World → Prop} {dst : Option Tmp} {op : Op} {type : TypeId} {pos : String} {after : Array Edge} {j : Nat} {want : Bool} {rest : List Oper}
theorem at_unwantedN {d : Nat} (h : guardN ops env j = true) (hd : dst = some d) (hn : Nat.blt d n = true) (k : At w0 n ds (gList ro P ops Q rest) ((d, undef) :: env) l) :
    At w0 n ds (gList ro P ops Q (⟨dst, op, type, pos, after, some (j, want)⟩ :: rest)) env l := fun a w f s => by
  unfold gList
  simp only [Region.wanted, guardN_yields f h]
  rw [if_neg (by simp)]
  subst hd
  exact k _ w (f.put d undef hn) s
end seq
/-- A slot that holds a bool is told to be true, or false. -/
theorem at_bool {w0 : World} {n : Nat} {ds : List Deferred} {R : Act → World → Prop} {env : Env} {l : List HP} {t : Nat} {b : Bool} (h : look env t = some (.bool b))
    (ht : b = true → At w0 n ds R ((t, .bool true) :: env) l) (hf : b = false → At w0 n ds R ((t, .bool false) :: env) l) : At w0 n ds R env l := fun a w f s => by
  have key : ∀ c, b = c → Fr n ds ((t, .bool c) :: env) a := fun c e => ⟨f.size, f.defers, fun u v x => by
    simp only [look] at x
    cases hb : Nat.beq t u with
    | true => rw [hb] at x; simp only [Option.some.injEq] at x; have := Nat.eq_of_beq_eq_true hb; subst this; subst x; subst e; exact f.has _ _ h
    | false => rw [hb] at x; exact f.has _ _ x⟩
  cases hb : b with
  | true => exact ht hb a w (key _ hb) s
  | false => exact hf hb a w (key _ hb) s
/-- A slot's value in other words. -/
theorem at_reval {w0 : World} {n : Nat} {ds : List Deferred} {R : Act → World → Prop} {env : Env} {l : List HP} (t : Nat) {v : Value} (u : Value) (h : look env t = some v) (e : v = u)
    (k : At w0 n ds R ((t, u) :: env) l) : At w0 n ds R env l := fun a w f s => by
  subst e
  refine k a w ⟨f.size, f.defers, fun x y z => ?_⟩ s
  simp only [look] at z
  cases hb : Nat.beq t x with
  | true => rw [hb] at z; simp only [Option.some.injEq] at z; have := Nat.eq_of_beq_eq_true hb; subst this; subst z; exact f.has _ _ h
  | false => rw [hb] at z; exact f.has _ _ z

/-! ### 3. Values -/
section values
variable {ro : Option Nat} {P : Program} {w0 : World} {n : Nat} {ds : List Deferred} {env : Env} {l : List HP} {o : Oper}
theorem OpV.sub {l' : List HP} {v : Value} (h : OpV P w0 n ds env l o v) (k : ∀ w, Sat w0 w l' → Sat w0 w l) : OpV P w0 n ds env l' o v := fun a w f s => h a w f (k w s)
theorem u64_wrap (e : Int) : IntKind.u64.wrap e = e % 18446744073709551616 := by
  simp [IntKind.wrap, IntKind.bits, IntKind.signed]
theorem inK_i64 {e : Int} (h0 : -9223372036854775808 ≤ e) (h1 : e ≤ 9223372036854775807) : IntKind.i64.wrap e = e := by
  simp [IntKind.wrap, IntKind.bits, IntKind.signed]; omega
theorem inK_u64 {e : Int} (h0 : 0 ≤ e) (h1 : e ≤ 18446744073709551615) : IntKind.u64.wrap e = e := by
  rw [u64_wrap]; omega
theorem OpV.eq {v u : Value} (h : OpV P w0 n ds env l o v) (e : v = u) : OpV P w0 n ds env l o u := e ▸ h
theorem ov_move {x : Operand} {v : Value} (ho : o.op = .move x) (hx : ev env x = some v) : OpV P w0 n ds env l o v := fun a w f s => by
  unfold execOp; rw [ho]; simp [f.eval hx]
theorem ov_assign {x : Operand} {v : Value} (ho : o.op = .assign x) (hx : ev env x = some v) : OpV P w0 n ds env l o v := fun a w f s => by
  unfold execOp; rw [ho]; simp [f.eval hx]
theorem ov_pick_t {c x y : Operand} {v : Value} (ho : o.op = .pick c x y) (hc : ev env c = some (.bool true)) (hx : ev env x = some v) : OpV P w0 n ds env l o v := fun a w f s => by
  unfold execOp; rw [ho]; simp [f.eval hx, f.eval hc, asBool]
theorem ov_pick_f {c x y : Operand} {v : Value} (ho : o.op = .pick c x y) (hc : ev env c = some (.bool false)) (hy : ev env y = some v) : OpV P w0 n ds env l o v := fun a w f s => by
  unfold execOp; rw [ho]; simp [f.eval hy, f.eval hc, asBool]
/-- Whole numbers. -/
def intBin (op : BinOp) (k : IntKind) (a b : Int) : Option Value :=
  match op with
  | .add => some (.int k (k.wrap (a + b)))
  | .sub => some (.int k (k.wrap (a - b)))
  | .mul => some (.int k (k.wrap (a * b)))
  | .eql => some (.bool (decide (a = b)))
  | .neq => some (.bool (!decide (a = b)))
  | .lss => some (.bool (decide (a < b)))
  | .leq => some (.bool (decide (a ≤ b)))
  | .gtr => some (.bool (decide (a > b)))
  | .geq => some (.bool (decide (a ≥ b)))
  | _ => none
theorem ov_int {op : BinOp} {xt yt : TypeId} {x y : Operand} {k : IntKind} {a b : Int} {v : Value} (ho : o.op = .binOp op xt x y yt) (hx : ev env x = some (.int k a)) (hy : ev env y = some (.int k b))
    (hv : intBin op k a b = some v) : OpV P w0 n ds env l o v := fun fr w f s => by
  unfold execOp
  rw [ho]
  simp only [f.eval hx, f.eval hy, binOp]
  cases op <;> simp [intBin] at hv <;> subst hv <;>
    simp [eqGuard, Op.intArith, Op.intCmp, bne, BEq.beq]
theorem ov_quo {xt yt : TypeId} {x y : Operand} {k : IntKind} {a b : Int} (ho : o.op = .binOp .quo xt x y yt) (hx : ev env x = some (.int k a)) (hy : ev env y = some (.int k b))
    (hb : b ≠ 0) : OpV P w0 n ds env l o (.int k (k.wrap (a.tdiv b))) := fun fr w f s => by
  unfold execOp
  rw [ho]
  simp only [f.eval hx, f.eval hy, binOp]
  simp [eqGuard, Op.intDiv, hb]
theorem ov_rem {xt yt : TypeId} {x y : Operand} {k : IntKind} {a b : Int} (ho : o.op = .binOp .rem xt x y yt) (hx : ev env x = some (.int k a)) (hy : ev env y = some (.int k b))
    (hb : b ≠ 0) : OpV P w0 n ds env l o (.int k (a.tmod b)) := fun fr w f s => by
  unfold execOp
  rw [ho]
  simp only [f.eval hx, f.eval hy, binOp]
  simp [eqGuard, Op.intDiv, hb]
/-- Strings held against one another. -/
theorem ba_eq (x y : ByteArray) : (x.toList == y.toList) = decide (x = y) := by
  rw [Bool.eq_iff_iff]
  simp only [beq_iff_eq, decide_eq_true_eq, ByteArray.toList_eq]
  exact ⟨fun h => WideShapes.bytes_inj h, fun h => by rw [h]⟩
def strBin (op : BinOp) (x y : ByteArray) : Option Value :=
  match op with
  | .eql => some (.bool (decide (x = y)))
  | .neq => some (.bool (!decide (x = y)))
  | .lss => some (.bool (Op.bytesLess x.toList y.toList))
  | _ => none
theorem ov_str {op : BinOp} {xt yt : TypeId} {x y : Operand} {a b : ByteArray} {v : Value} (ho : o.op = .binOp op xt x y yt) (hx : ev env x = some (.string a)) (hy : ev env y = some (.string b))
    (hv : strBin op a b = some v) : OpV P w0 n ds env l o v := fun fr w f s => by
  unfold execOp
  rw [ho]
  simp only [f.eval hx, f.eval hy, binOp]
  cases op <;> simp [strBin] at hv <;> subst hv <;> simp [eqGuard, Op.stringOp, ba_eq]
theorem ov_cat {xt yt : TypeId} {x y : Operand} {a b : ByteArray} (ho : o.op = .binOp .add xt x y yt) (hx : ev env x = some (.string a)) (hy : ev env y = some (.string b))
    (hsz : a.size + b.size ≤ 9223372036854775807) : OpV P w0 n ds env l o (.string (a ++ b)) := fun fr w f s => by
  unfold execOp
  rw [ho]
  simp only [f.eval hx, f.eval hy, binOp]
  have : ¬ ((a.size + b.size : Nat) : Int) > IntKind.i64.max := by simp [IntKind.max, IntKind.bits, IntKind.signed]; omega
  simp [eqGuard, Op.stringOp, this]
  omega
theorem run_und {P : Program} {t : TypeId} {d : TypeDesc} (h : P.underlying t = some d) (w : World) : (underlying t).run P w = .ok d w := by simp [underlying, h]
theorem equal_bool {P : Program} {t : TypeId} (h : P.underlying t = some .bool) (a b : Bool) (w : World) : (Op.equal t (.bool a) (.bool b)).run P w = .ok (a == b) w := by
  show (Op.equalIn (9999 + 1) t (.bool a) (.bool b)).run P w = _
  rw [Op.equalIn, Sem.run_bind, run_und h]; rfl
theorem equal_ptr {P : Program} {t e : TypeId} (h : P.underlying t = some (.pointer e)) (p : Option Addr) (w : World) : (Op.equal t (.pointer p) (.pointer none)).run P w = .ok p.isNone w := by
  show (Op.equalIn (9999 + 1) t (.pointer p) (.pointer none)).run P w = _
  rw [Op.equalIn, Sem.run_bind, run_und h]; cases p <;> rfl
theorem ov_booleq {xt yt : TypeId} {x y : Operand} {a b : Bool} (ho : o.op = .binOp .eql xt x y yt) (ht : P.underlying xt = some .bool) (hx : ev env x = some (.bool a)) (hy : ev env y = some (.bool b)) :
    OpV P w0 n ds env l o (.bool (a == b)) := fun fr w f s => by
  unfold execOp
  rw [ho]
  simp only [f.eval hx, f.eval hy, binOp]
  simp [eqGuard, equal_bool ht]
theorem ov_boolne {xt yt : TypeId} {x y : Operand} {a b : Bool} (ho : o.op = .binOp .neq xt x y yt) (ht : P.underlying xt = some .bool) (hx : ev env x = some (.bool a)) (hy : ev env y = some (.bool b)) :
    OpV P w0 n ds env l o (.bool (!(a == b))) := fun fr w f s => by
  unfold execOp
  rw [ho]
  simp only [f.eval hx, f.eval hy, binOp]
  simp [eqGuard, equal_bool ht]
theorem ov_conv_int {src dst : TypeId} {x : Operand} {j k : IntKind} {a : Int} (ho : o.op = .convert src dst x) (hs : (P.underlying src).isSome = true) (hd : P.underlying dst = some (.int k)) (hx : ev env x = some (.int j a)) :
    OpV P w0 n ds env l o (.int k (k.wrap a)) := fun fr w f s => by
  unfold execOp
  rw [ho]
  obtain ⟨d, hs⟩ := Option.isSome_iff_exists.1 hs
  simp only [f.eval hx, convert, Sem.run_bind, run_und hs, run_und hd, Result.andThen_ok]
  simp [Conv.intToInt]
theorem ov_not {t : TypeId} {x : Operand} {b : Bool} (ho : o.op = .unOp .not t x) (hx : ev env x = some (.bool b)) : OpV P w0 n ds env l o (.bool (!b)) := fun fr w f s => by
  unfold execOp; rw [ho]; simp [f.eval hx, Op.unary]
/-- Structs of numbers, strings and bools held against one another. -/
def scEq : Value → Value → Option Bool
  | .int j a, .int k b => match decide (j = k) with | true => some (decide (a = b)) | false => none
  | .string a, .string b => some (decide (a = b))
  | .bool a, .bool b => some (a == b)
  | _, _ => none
def scFits : TypeDesc → Value → Bool
  | .int _, .int _ _ => true
  | .string, .string _ => true
  | .bool, .bool _ => true
  | _, _ => false
def fieldsEq (xs ys : List Value) : List (Nat × TypeDesc) → Option Bool
  | [] => some true
  | [(off, d)] => match nth off xs, nth off ys with
    | some a, some b => match scFits d a with | true => scEq a b | false => none
    | _, _ => none
  | (off, d) :: fs => match nth off xs, nth off ys with
    | some a, some b => match scFits d a with
      | true => (match scEq a b with
        | some r => (match fieldsEq xs ys fs with | some s => some (r && s) | none => none)
        | none => none)
      | false => none
    | _, _ => none
def fieldDescs (P : Program) : List Field → Option (List (Nat × TypeDesc))
  | [] => some []
  | f :: fs => match P.underlying f.type, fieldDescs P fs with
    | some d, some r => some ((f.offset, d) :: r)
    | _, _ => none
def eqOk (P : Program) (t : TypeId) : Bool :=
  !P.stoodInHeld t && !P.eqGuardType P.depth t && (match P.underlying t with | some (.struct fs) => fs.toList.all fun f => f.name != "_" | _ => false)
theorem scEq_run {P : Program} {t : TypeId} {d : TypeDesc} {a b : Value} {r : Bool} {k : Nat} {w : World} (hd : P.underlying t = some d) (hf : scFits d a = true) (h : scEq a b = some r) : (Op.equalIn (k + 1) t a b).run P w = .ok r w := by
  cases a <;> cases b <;> simp [scEq] at h
  case bool.bool x y => cases d <;> simp [scFits] at hf; rw [run_equalIn_bool' w k t x y hd]; simp [← h]
  case int.int j x j' y =>
    cases d <;> simp [scFits] at hf
    split at h
    · rename_i he
      have : j = j' := by simpa using he
      subst this
      simp at h
      rw [run_equalIn_int w k t j _ x y hd, ← h]
      simp [BEq.beq]
    · cases h
  case string.string x y => cases d <;> simp [scFits] at hf; rw [run_equalIn_string w k t x y hd, ba_eq]; simp [← h]
theorem part_run {P : Program} {t : TypeId} {d : TypeDesc} {cs : List Value} {off : Nat} {a : Value} {w : World} (hd : P.underlying t = some d) (hf : scFits d a = true) (h : nth off cs = some a) : (part t cs.toArray off).run P w = .ok a w := by
  have hagg : (isAgg t).run P w = .ok false w := by
    unfold isAgg
    cases d <;> simp [scFits] at hf <;> simp [underlying, hd]
  rw [nth_list] at h
  simp [part, hagg, h]
theorem scFits_of {d : TypeDesc} {a b : Value} {r : Bool} (hf : scFits d a = true) (h : scEq a b = some r) : scFits d b = true := by
  cases a <;> cases b <;> simp [scEq] at h <;> cases d <;> simp [scFits] at hf ⊢
theorem fieldsEq_run {P : Program} {xs ys : List Value} {w : World} : ∀ {fs : List Field} {ds : List (Nat × TypeDesc)} {r : Bool}, (fs.all fun f => f.name != "_") = true → fieldDescs P fs = some ds → fieldsEq xs ys ds = some r →
    (Op.eqFields 9999 xs.toArray ys.toArray fs).run P w = .ok r w
  | [], ds, r, _, hd, h => by simp [fieldDescs] at hd; subst hd; simp [fieldsEq] at h; subst h; simp [Op.eqFields]
  | f :: fs, ds, r, hn, hd, h => by
    simp only [fieldDescs] at hd
    split at hd
    · rename_i d rs hu hrs
      simp at hd
      subst hd
      simp only [List.all_cons, Bool.and_eq_true] at hn
      have hname : f.name ≠ "_" := by simpa using hn.1
      have step : ∀ {a b : Value} {q s : Bool}, nth f.offset xs = some a → nth f.offset ys = some b → scFits d a = true → scEq a b = some q → (Op.eqFields 9999 xs.toArray ys.toArray fs).run P w = .ok s w →
          (Op.eqFields 9999 xs.toArray ys.toArray (f :: fs)).run P w = .ok (q && s) w := by
        intro a b q s h1 h2 h3 h4 h5
        simp only [Op.eqFields, hname, ne_eq, not_false_eq_true, if_true, Sem.run_bind, part_run hu h3 h1, part_run hu (scFits_of h3 h4) h2, Result.andThen_ok, scEq_run (k := 9998) hu h3 h4]
        cases q <;> simp [h5]
      cases rs with
      | nil =>
        have hfs : fs = [] := by
          cases fs with
          | nil => rfl
          | cons g gs => simp only [fieldDescs] at hrs; split at hrs <;> simp at hrs
        subst hfs
        simp only [fieldsEq] at h
        split at h
        · rename_i a b h1 h2
          split at h
          · rename_i h3
            have := step h1 h2 h3 h (s := true) (by simp [Op.eqFields])
            simpa using this
          · cases h
        · cases h
      | cons p ps =>
        simp only [fieldsEq] at h
        split at h
        · rename_i a b h1 h2
          split at h
          · rename_i h3
            split at h
            · rename_i q h4
              split at h
              · rename_i s h5
                simp at h
                subst h
                exact step h1 h2 h3 h4 (fieldsEq_run hn.2 hrs h5)
              · cases h
            · cases h
          · cases h
        · cases h
    · cases hd
theorem eqS_run {P : Program} {t : TypeId} {xs ys : List Value} {ds : List (Nat × TypeDesc)} {r : Bool} {w : World} (hok : eqOk P t = true) (hd : fieldDescs P (P.fieldsOf t).toList = some ds) (h : fieldsEq xs ys ds = some r) :
    (Op.equalIn 10000 t (.agg xs.toArray) (.agg ys.toArray)).run P w = .ok r w := by
  unfold eqOk at hok
  simp only [Bool.and_eq_true, Bool.not_eq_true'] at hok
  obtain ⟨⟨h1, h2⟩, h3⟩ := hok
  split at h3
  · rename_i fs hu
    have hf : P.fieldsOf t = fs := by unfold Program.fieldsOf; rw [hu]
    rw [run_equalIn_struct w 9999 t _ _ (by rw [hf]; exact hu) h1]
    rw [hf] at hd ⊢
    exact fieldsEq_run h3 hd h
  · cases h3
theorem ov_eqS {xt yt : TypeId} {x y : Operand} {xs ys : List Value} {ds' : List (Nat × TypeDesc)} {r : Bool} (ho : o.op = .binOp .eql xt x y yt) (hok : eqOk P xt = true) (hd : fieldDescs P (P.fieldsOf xt).toList = some ds') (hx : ev env x = some (.agg xs.toArray)) (hy : ev env y = some (.agg ys.toArray))
    (h : fieldsEq xs ys ds' = some r) : OpV P w0 n ds env l o (.bool r) := fun fr w f s => by
  have hg : P.eqGuardType P.depth xt = false := by unfold eqOk at hok; simp only [Bool.and_eq_true, Bool.not_eq_true'] at hok; exact hok.1.2
  unfold execOp
  rw [ho]
  simp only [f.eval hx, f.eval hy, Sem.run_bind, run_eqGuard_agg w .eql xt x y _ _ hg, Result.andThen_ok, run_eql_struct, eqS_run hok hd h, Sem.run_pure]
theorem ov_neS {xt yt : TypeId} {x y : Operand} {xs ys : List Value} {ds' : List (Nat × TypeDesc)} {r : Bool} (ho : o.op = .binOp .neq xt x y yt) (hok : eqOk P xt = true) (hd : fieldDescs P (P.fieldsOf xt).toList = some ds') (hx : ev env x = some (.agg xs.toArray)) (hy : ev env y = some (.agg ys.toArray))
    (h : fieldsEq xs ys ds' = some r) : OpV P w0 n ds env l o (.bool (!r)) := fun fr w f s => by
  have hg : P.eqGuardType P.depth xt = false := by unfold eqOk at hok; simp only [Bool.and_eq_true, Bool.not_eq_true'] at hok; exact hok.1.2
  unfold execOp
  rw [ho]
  simp only [f.eval hx, f.eval hy, Sem.run_bind, run_eqGuard_agg w .neq xt x y _ _ hg, Result.andThen_ok, run_neq_struct, eqS_run hok hd h, Sem.run_pure]
/-- A pointer held against nil. -/
theorem ov_ptr_nil {xt yt e : TypeId} {x y : Operand} {p q : Option Addr} (ho : o.op = .binOp .eql xt x y yt) (ht : P.underlying xt = some (.pointer e)) (hx : ev env x = some (.pointer p)) (hy : ev env y = some (.pointer none)) :
    OpV P w0 n ds env l o (.bool p.isNone) := fun fr w f s => by
  unfold execOp
  rw [ho]
  simp only [f.eval hx, f.eval hy, binOp]
  cases p <;> simp [eqGuard, equal_ptr ht]
theorem ov_ptr_nnil {xt yt e : TypeId} {x y : Operand} {p q : Option Addr} (ho : o.op = .binOp .neq xt x y yt) (ht : P.underlying xt = some (.pointer e)) (hx : ev env x = some (.pointer p)) (hy : ev env y = some (.pointer none)) :
    OpV P w0 n ds env l o (.bool p.isSome) := fun fr w f s => by
  unfold execOp
  rw [ho]
  simp only [f.eval hx, f.eval hy, binOp]
  cases p <;> simp [eqGuard, equal_ptr ht]
theorem equal_sl {P : Program} {t e : TypeId} (h : P.underlying t = some (.slice e)) (p : Option Addr) (m c m' c' : Nat) (w : World) : (Op.equal t (.slice p m c) (.slice none m' c')).run P w = .ok p.isNone w := by
  show (Op.equalIn (9999 + 1) t (.slice p m c) (.slice none m' c')).run P w = _
  rw [Op.equalIn, Sem.run_bind, run_und h]; cases p <;> rfl
theorem equal_map {P : Program} {t k e : TypeId} (h : P.underlying t = some (.map k e)) (p : Option Nat) (w : World) : (Op.equal t (.map p) (.map none)).run P w = .ok p.isNone w := by
  show (Op.equalIn (9999 + 1) t (.map p) (.map none)).run P w = _
  rw [Op.equalIn, Sem.run_bind, run_und h]; cases p <;> rfl
theorem ov_slice_nil {xt yt e : TypeId} {x y : Operand} {p : Option Addr} {m c m' c' : Nat} (ho : o.op = .binOp .eql xt x y yt) (ht : P.underlying xt = some (.slice e)) (hx : ev env x = some (.slice p m c)) (hy : ev env y = some (.slice none m' c')) :
    OpV P w0 n ds env l o (.bool p.isNone) := fun fr w f s => by
  unfold execOp
  rw [ho]
  simp only [f.eval hx, f.eval hy, binOp]
  simp [eqGuard, equal_sl ht]
theorem ov_slice_nnil {xt yt e : TypeId} {x y : Operand} {p : Option Addr} {m c m' c' : Nat} (ho : o.op = .binOp .neq xt x y yt) (ht : P.underlying xt = some (.slice e)) (hx : ev env x = some (.slice p m c)) (hy : ev env y = some (.slice none m' c')) :
    OpV P w0 n ds env l o (.bool p.isSome) := fun fr w f s => by
  unfold execOp
  rw [ho]
  simp only [f.eval hx, f.eval hy, binOp]
  cases p <;> simp [eqGuard, equal_sl ht]
theorem ov_map_nil {xt yt k e : TypeId} {x y : Operand} {p : Option Nat} (ho : o.op = .binOp .eql xt x y yt) (ht : P.underlying xt = some (.map k e)) (hx : ev env x = some (.map p)) (hy : ev env y = some (.map none)) :
    OpV P w0 n ds env l o (.bool p.isNone) := fun fr w f s => by
  unfold execOp
  rw [ho]
  simp only [f.eval hx, f.eval hy, binOp]
  simp [eqGuard, equal_map ht]
theorem ov_map_nnil {xt yt k e : TypeId} {x y : Operand} {p : Option Nat} (ho : o.op = .binOp .neq xt x y yt) (ht : P.underlying xt = some (.map k e)) (hx : ev env x = some (.map p)) (hy : ev env y = some (.map none)) :
    OpV P w0 n ds env l o (.bool p.isSome) := fun fr w f s => by
  unfold execOp
  rw [ho]
  simp only [f.eval hx, f.eval hy, binOp]
  cases p <;> simp [eqGuard, equal_map ht]
theorem ov_nilCheck {x : Operand} {p : Addr} (ho : o.op = .nilCheck x) (hx : ev env x = some (.pointer (some p))) : OpV P w0 n ds env l o (.pointer (some p)) := fun fr w f s => by
  unfold execOp; rw [ho]; simp [f.eval hx]
theorem add_none (b off k : Nat) : (⟨b, off, none⟩ : Addr).add k = ⟨b, off + k, none⟩ := by unfold Addr.add; split <;> simp_all
def fieldOff (P : Program) (s : TypeId) (i : Nat) : Option Nat :=
  match P.underlying s with
  | some (.struct fs) => (match fs[i]? with | some f => (match P.info? f.type with | some ti => (match Nat.beq ti.size 0 with | true => none | false => some f.offset) | none => none) | none => none)
  | _ => none
theorem ov_fieldAddr {t : TypeId} {x : Operand} {i b off k r : Nat} (ho : o.op = .fieldAddr t x i) (hx : ev env x = some (.pointer (some ⟨b, off, none⟩))) (hf : fieldOff P t i = some k) (hr : off + k = r) :
    OpV P w0 n ds env l o (.pointer (some ⟨b, r, none⟩)) := fun fr w f s => by
  subst hr
  unfold execOp
  rw [ho]
  unfold fieldOff at hf
  split at hf
  · rename_i fs hu
    split at hf
    · rename_i fd hfd
      split at hf
      · rename_i ti hti
        cases hz : Nat.beq ti.size 0 with
        | true => rw [hz] at hf; cases hf
        | false =>
          rw [hz] at hf
          simp only [Option.some.injEq] at hf
          have hne : ¬ ti.size = 0 := fun e => by rw [e] at hz; cases hz
          subst hf
          simp [f.eval hx, Instr.fieldAt, underlying, hu, hfd, Instr.sureAddr, fieldPlace, sizeOf, typeInfo, hti, hne, add_none]
      · cases hf
    · cases hf
  · cases hf
/-- The cells that stand from an address on. -/
def CellsAt (w : World) (p : Addr) (cs : List Value) : Prop := ∀ j v, cs[j]? = some v → w.cell? (p.add j) = some v
theorem Sat.cellsAt {w : World} {l : List HP} (s : Sat w0 w l) {k b : Nat} {cs : Array Value} {t : TypeId} {fr : Nat × Nat} (hk : nth k l = some (pt b (.cells cs t fr))) (off m : Nat) :
    CellsAt w ⟨b, off, none⟩ ((cs.toList.drop off).take m) := fun j v hv => by
  rw [add_none, s.cell hk]
  rw [List.getElem?_take] at hv
  split at hv
  · simpa using hv
  · cases hv
theorem Sat.lds {w : World} {l : List HP} (s : Sat w0 w l) {k b : Nat} {cs : Array Value} {t : TypeId} {fr : Nat × Nat} (hk : nth k l = some (pt b (.cells cs t fr))) {off : Nat} {vs : List Value} (hv : NthAll cs.toList off vs) :
    CellsAt w ⟨b, off, none⟩ vs := fun j v h => by
  rw [add_none]; exact s.ld hk (hv.at_ h)
theorem ov_load {t : TypeId} {x : Operand} {p : Addr} {v : Value} (ho : o.op = .load t x) (hx : ev env x = some (.pointer (some p)))
    (ht : (P.underlying t).map (fun | .struct _ | .array _ _ => false | _ => true) = some true) (hc : ∀ w, Sat w0 w l → w.cell? p = some v) : OpV P w0 n ds env l o v := fun fr w f s => by
  unfold execOp
  rw [ho]
  cases hu : P.underlying t with
  | none => rw [hu] at ht; cases ht
  | some d =>
    rw [hu] at ht
    have hagg : (isAgg t).run P w = .ok false w := by
      unfold isAgg
      cases d <;> simp [underlying, hu] at ht ⊢
    simp [f.eval hx, Instr.loadAt, Instr.sureAddr, loadVar, hagg, hc w s]
theorem ov_loadS {t : TypeId} {x : Operand} {p : Addr} {cs : List Value} (ho : o.op = .load t x) (hx : ev env x = some (.pointer (some p)))
    (ht : (P.underlying t).map (fun | .struct _ | .array _ _ => true | _ => false) = some true) (hsz : (P.info? t).map (·.size) = some cs.length) (hc : ∀ w, Sat w0 w l → CellsAt w p cs) :
    OpV P w0 n ds env l o (.agg cs.toArray) := fun fr w f s => by
  unfold execOp
  rw [ho]
  cases hu : P.underlying t with
  | none => rw [hu] at ht; cases ht
  | some d =>
    rw [hu] at ht
    have hagg : (isAgg t).run P w = .ok true w := by
      unfold isAgg
      cases d <;> simp [underlying, hu] at ht ⊢
    cases hi : P.info? t with
    | none => rw [hi] at hsz; cases hsz
    | some ti =>
      have : ti.size = cs.length := by simpa [hi] using hsz
      simp [f.eval hx, Instr.loadAt, Instr.sureAddr, loadVar, hagg, sizeOf, typeInfo, hi, this, run_loadCells_list (P := P) w p cs (hc w s)]
theorem ov_len_slice {t : TypeId} {x : Operand} {A : Option Addr} {m c : Nat} {e : TypeId} (ho : o.op = .call { callee := .builtin .len, args := #[x], argTypes := #[t] }) (ht : P.underlying t = some (.slice e))
    (hx : ev env x = some (.slice A m c)) : OpV P w0 n ds env l o (.int .i64 m) := fun fr w f s => by
  unfold execOp
  rw [ho]
  simp [resolve, invoke, builtin, Builtin.len_, underlying, ht, f.eval hx, goInt]
theorem ov_len_string {t : TypeId} {x : Operand} {b : ByteArray} (ho : o.op = .call { callee := .builtin .len, args := #[x], argTypes := #[t] }) (ht : P.underlying t = some .string)
    (hx : ev env x = some (.string b)) : OpV P w0 n ds env l o (.int .i64 b.size) := fun fr w f s => by
  unfold execOp
  rw [ho]
  simp [resolve, invoke, builtin, Builtin.len_, underlying, ht, f.eval hx, goInt]
theorem ov_indexAddr {t e : TypeId} {x ix : Operand} {p : Addr} {m c size : Nat} {k : IntKind} {i : Int} (ho : o.op = .indexAddr t x ix) (ht : P.underlying t = some (.slice e)) (hs : (P.info? e).map (·.size) = some size)
    (hx : ev env x = some (.slice (some p) m c)) (hi : ev env ix = some (.int k i)) (h0 : 0 ≤ i) (h1 : i < m) : OpV P w0 n ds env l o (.pointer (some (p.add (i.toNat * size)))) := fun fr w f s => by
  unfold execOp
  rw [ho]
  cases hti : P.info? e with
  | none => rw [hti] at hs; cases hs
  | some ti =>
    have : ti.size = size := by simpa [hti] using hs
    simp [Instr.indexAt, f.eval hx, f.eval hi, asIntOf, underlying, ht, h0, h1, sizeOf, typeInfo, hti, this]
theorem ov_extract {x : Operand} {i : Nat} {vs : Array Value} {v : Value} (ho : o.op = .extract x i) (hx : ev env x = some (.tuple vs)) (hv : nth i vs.toList = some v) : OpV P w0 n ds env l o v := fun fr w f s => by
  rw [nth_list, Array.getElem?_toList] at hv
  unfold execOp; rw [ho]; simp [f.eval hx, Instr.extract, hv]
theorem ov_field {t : TypeId} {x : Operand} {i : Nat} {cs : Array Value} {v : Value} (ho : o.op = .field t x i) (hx : ev env x = some (.agg cs))
    (hv : ∀ w, (Instr.field t (.agg cs) i).run P w = .ok v w) : OpV P w0 n ds env l o v := fun fr w f s => by
  unfold execOp; rw [ho]; simp [f.eval hx, hv]
def evs (env : Env) : List Operand → Option (List Value)
  | [] => some []
  | x :: r => match ev env x with | none => none | some v => (match evs env r with | none => none | some vs => some (v :: vs))
theorem Fr.evals {a : Act} (f : Fr n ds env a) : ∀ {xs : List Operand} {vs : List Value}, evs env xs = some vs → xs.map a.eval = vs
  | [], vs, h => by simp [evs] at h; simp [h]
  | x :: r, vs, h => by
    simp only [evs] at h
    split at h
    · cases h
    · rename_i v hv
      split at h
      · cases h
      · rename_i us hus
        simp at h
        subst h
        simp [f.eval hv, f.evals hus]
theorem ov_makeFunc {fn : Fn} {first captured : List Operand} {xs ys : List Value} (ho : o.op = .makeFunc fn first.toArray captured.toArray) (hx : evs env first = some xs) (hy : evs env captured = some ys) :
    OpV P w0 n ds env l o (.func fn xs.toArray ys.toArray) := fun fr w f s => by
  unfold execOp; rw [ho]; simp [Instr.makeFunc, f.evals hx, f.evals hy]
/-- A struct's cells, put together. -/
def spliceL : List Value → Nat → List Value → List Value
  | [], _, _ => []
  | c :: cs, 0, [] => c :: cs
  | _ :: cs, 0, v :: r => v :: spliceL cs 0 r
  | c :: cs, k + 1, r => c :: spliceL cs k r
theorem spliceL_nil (cs : List Value) (off : Nat) : spliceL cs off [] = cs := by
  induction cs generalizing off with
  | nil => rfl
  | cons c cs ih => cases off with
    | zero => rfl
    | succ k => simp [spliceL, ih]
theorem spliceL_cons (cs : List Value) (off : Nat) (v : Value) (r : List Value) : spliceL cs off (v :: r) = spliceL (cs.set off v) (off + 1) r := by
  induction cs generalizing off with
  | nil => rfl
  | cons c cs ih => cases off with
    | zero => simp [spliceL, List.set]
    | succ k => simp only [spliceL, List.set]; rw [ih]
theorem fold_splice : ∀ (vs : List Value) (j off : Nat) (cs : Array Value), ((vs.zipIdx j).foldl (fun cs (p : Value × Nat) => cs.setIfInBounds (off + p.2) p.1) cs) = (spliceL cs.toList (off + j) vs).toArray
  | [], j, off, cs => by simp [spliceL_nil]
  | v :: r, j, off, cs => by
    simp only [List.zipIdx_cons, List.foldl_cons]
    rw [fold_splice r (j + 1) off, spliceL_cons]
    simp [Nat.add_assoc]
/-- Where the parts go: of a place its offset and size; then the parts' cells are laid. -/
def fillL (place : Nat → Option (Nat × Nat)) (env : Env) : List (Nat × Operand) → List Value → Option (List Value)
  | [], cs => some cs
  | (i, x) :: r, cs => match place i with
    | none => none
    | some (off, size) => match ev env x with
      | none => none
      | some v => match Nat.beq v.cells.size size && Nat.ble (off + size) cs.length with
        | false => none
        | true => fillL place env r (spliceL cs off v.cells.toList)
theorem spliceL_len (cs : List Value) (off : Nat) (vs : List Value) : (spliceL cs off vs).length = cs.length := by
  induction cs generalizing off vs with
  | nil => rfl
  | cons c cs ih => cases off with
    | zero => cases vs <;> simp [spliceL, ih]
    | succ k => simp [spliceL, ih]
theorem fill_eq {place : Nat → Option (Nat × Nat)} {a : Act} (f : Fr n ds env a) : ∀ {parts : List (Nat × Operand)} {cs res : List Value}, fillL place env parts cs = some res → Instr.fill place cs.toArray (parts.map fun (i, x) => (i, a.eval x)) = some res.toArray
  | [], cs, res, h => by simp [fillL] at h; simp [Instr.fill, h]
  | (i, x) :: r, cs, res, h => by
    simp only [fillL] at h
    split at h
    · cases h
    · rename_i off size hp
      split at h
      · cases h
      · rename_i v hv
        split at h
        · cases h
        · rename_i hb
          simp only [Bool.and_eq_true] at hb
          have h1 : v.cells.size = size := Nat.eq_of_beq_eq_true hb.1
          have h2 : off + size ≤ cs.length := Nat.le_of_ble_eq_true hb.2
          have ih := fill_eq f h
          simp only [List.map_cons, Instr.fill, hp, f.eval hv]
          rw [if_neg (by simp [h1]; omega)]
          have := fold_splice v.cells.toList 0 off cs.toArray
          simp only [Nat.add_zero] at this
          rw [← ih, ← this]
          congr 1
          rw [← Array.foldl_toList, Array.toList_zipIdx]
def structPlace (P : Program) (t : TypeId) (i : Nat) : Option (Nat × Nat) :=
  match P.underlying t with
  | some (.struct fs) => (match fs[i]? with | some f => (match P.info? f.type with | some ti => some (f.offset, ti.size) | none => none) | none => none)
  | _ => none
def zeroL (P : Program) (t : TypeId) : Option (List Value) := match P.info? t with | some ti => (match ti.zero with | some z => some z.cells.toList | none => none) | none => none
theorem mapM_places {P : Program} {w : World} : ∀ (l : List Field), (∀ f ∈ l, ∃ ti, P.info? f.type = some ti) → ∃ r : List (Nat × Nat), (l.mapM fun f => do pure (f.offset, ← sizeOf f.type) : Sem (List (Nat × Nat))).run P w = .ok r w ∧ r = l.map fun f => (f.offset, ((P.info? f.type).map (·.size)).getD 0)
  | [], _ => ⟨[], by simp, rfl⟩
  | f :: r, h => by
    obtain ⟨ti, hti⟩ := h f (by simp)
    obtain ⟨r', h1, h2⟩ := mapM_places r fun g hg => h g (by simp [hg])
    refine ⟨_, ?_, rfl⟩
    simp only [List.mapM_cons, Sem.run_bind]
    simp [sizeOf, typeInfo, hti]
    simp only [sizeOf, typeInfo] at h1
    simp at h1
    rw [h1]; simp [h2]
def structOk (P : Program) (t : TypeId) : Bool := match P.underlying t with | some (.struct fs) => fs.toList.all fun f => (P.info? f.type).isSome | _ => false
theorem ov_build {t : TypeId} {parts : List (Nat × Operand)} {zs cs : List Value} (ho : o.op = .build t parts.toArray) (hok : structOk P t = true) (hz : zeroL P t = some zs) (hf : fillL (structPlace P t) env parts zs = some cs) :
    OpV P w0 n ds env l o (.agg cs.toArray) := fun a w f s => by
  unfold execOp
  rw [ho]
  unfold structOk at hok
  split at hok
  · rename_i fs hu
    unfold zeroL at hz
    split at hz
    · rename_i ti hti
      split at hz
      · rename_i z hzz
        simp only [Option.some.injEq] at hz
        subst hz
        have hall : ∀ g ∈ fs.toList, ∃ ti, P.info? g.type = some ti := fun g hg => Option.isSome_iff_exists.1 (List.all_eq_true.1 hok g hg)
        obtain ⟨r, h1, h2⟩ := mapM_places (P := P) (w := w) fs.toList hall
        have hm : (fs.mapM fun f => do pure (f.offset, ← sizeOf f.type) : Sem (Array (Nat × Nat))).run P w = .ok r.toArray w := by
          rw [Array.mapM_eq_mapM_toList, Sem.run_map, h1]; rfl
        have hpl : (fun i => r.toArray[i]?) = structPlace P t := by
          funext i
          unfold structPlace
          rw [hu]
          subst h2
          simp only [List.getElem?_toArray, List.getElem?_map, Array.getElem?_toList]
          cases hi : fs[i]? with
          | none => simp
          | some g =>
            obtain ⟨ti, hti⟩ := hall g (Array.mem_toList_iff.2 (Array.mem_of_getElem? hi))
            simp [hti]
        have hfill := fill_eq f hf
        rw [← hpl] at hfill
        have hmap : (Array.map (fun x => (x.1, a.eval x.2)) parts.toArray).toList = parts.map fun (i, x) => (i, a.eval x) := by simp
        simp only [Instr.build, Sem.run_bind, zeroValue, typeInfo, run_program, Result.andThen_ok, hti, Sem.run_pure, hzz, run_und hu, hm, hmap]
        simp only [Array.toArray_toList] at hfill
        have hfill' : Instr.fill (fun x => r[x]?) z.cells (parts.map fun x => (x.1, a.eval x.2)) = some cs.toArray := by
          simpa using hfill
        simp [hfill']
      · cases hz
    · cases hz
  · cases hok
/-- Whatever else: the operation run over what its operands hold. -/
theorem ov_any {v : Value} (hsel : (match o.op with | .select _ _ => false | _ => true) = true) (hall : (o.op.operands.toList.all fun x => (ev env x).isSome) = true)
    (hv : ∀ w, (execOp (fun x => (ev env x).getD undef) o).run P w = .ok (.value v) w) : OpV P w0 n ds env l o v := fun a w f s => by
  rw [execOp_congr (ρ' := fun x => (ev env x).getD undef) o (fun cs b e => by rw [e] at hsel; cases hsel) ?_]
  · exact hv w
  · intro x hx
    have := List.all_eq_true.1 hall x (Array.mem_toList_iff.2 hx)
    cases he : ev env x with
    | none => rw [he] at this; cases this
    | some u => simp [f.eval he]
end values

/-! ### 4. What writes and makes memory -/
section effects
variable {ro : Option Nat} {P : Program} {w0 : World} {n : Nat} {ds : List Deferred} {env : Env} {l : List HP} {o : Oper}
/-- A new block. -/
def Fresh (mk : Nat → Value) (o : Obj) (l : List HP) : Value → List HP → Prop := fun v l' => ∃ b, v = mk b ∧ l' = pt b o :: l
abbrev ptrTo (b : Nat) : Value := .pointer (some ⟨b, 0, none⟩)
theorem ot_alloc {t : TypeId} {z : Value} (ho : o.op = .alloc t) (hz : ∀ w, (zeroValue t).run P w = .ok z w) : OpT P w0 n ds env l o (Fresh ptrTo (.cells z.cells t) l) := fun a w f s => by
  unfold Oper.goesV execOp
  rw [ho]
  simp [Instr.alloc, hz, newVar, newRow]
  exact ⟨_, ⟨_, rfl, rfl⟩, s.alloc _⟩
theorem ot_alloc1 {t : TypeId} {z : Value} (ho : o.op = .alloc t) (hz : ∀ w, (zeroValue t).run P w = .ok z w) (hc : z.cells = #[z]) : OpT P w0 n ds env l o (Fresh ptrTo (.cells #[z] t) l) := hc ▸ ot_alloc ho hz
theorem ot_allocA {t : TypeId} {cs : Array Value} (ho : o.op = .alloc t) (hz : ∀ w, (zeroValue t).run P w = .ok (.agg cs) w) : OpT P w0 n ds env l o (Fresh ptrTo (.cells cs t) l) := ot_alloc ho hz
theorem ot_box {t : TypeId} {x : Operand} {v : Value} (ho : o.op = .box t x) (hx : ev env x = some v) : OpT P w0 n ds env l o (Fresh ptrTo (.cells v.cells t) l) := fun a w f s => by
  unfold Oper.goesV execOp
  rw [ho]
  simp [Instr.box, f.eval hx, newVar, newRow]
  exact ⟨_, ⟨_, rfl, rfl⟩, s.alloc _⟩
theorem ot_box1 {t : TypeId} {x : Operand} {v : Value} (ho : o.op = .box t x) (hx : ev env x = some v) (hc : v.cells = #[v]) : OpT P w0 n ds env l o (Fresh ptrTo (.cells #[v] t) l) := hc ▸ ot_box ho hx
theorem ot_boxA {t : TypeId} {x : Operand} {cs : Array Value} (ho : o.op = .box t x) (hx : ev env x = some (.agg cs)) : OpT P w0 n ds env l o (Fresh ptrTo (.cells cs t) l) := ot_box ho hx
/-- A store: cells of one block are others. -/
def splice (cs : Array Value) (off : Nat) (vs : List Value) : Array Value := (spliceL cs.toList off vs).toArray
theorem splice_nil (cs : Array Value) (off : Nat) : splice cs off [] = cs := by simp [splice, spliceL_nil]
theorem splice_cons (cs : Array Value) (off : Nat) (v : Value) (r : List Value) : splice cs off (v :: r) = splice (cs.setIfInBounds off v) (off + 1) r := by simp [splice, spliceL_cons]
theorem run_stores {k b : Nat} {t : TypeId} : ∀ (vs : List Value) (i off : Nat) (cs : Array Value) (w : World) (l : List HP), Sat w0 w l → nth k l = some (pt b (.cells cs t (0, 0))) → off + i + vs.length ≤ cs.size →
    (∀ v ∈ vs, v.oneCell' = true) → ∃ w', (storeCells ⟨b, off, none⟩ vs i).run P w = .ok () w' ∧ Sat w0 w' (setAt k (pt b (.cells (splice cs (off + i) vs) t)) l)
  | [], i, off, cs, w, l, s, hk, _, _ => by
    refine ⟨w, by simp [storeCells], ?_⟩
    obtain ⟨r, hr, hset⟩ := nth_pull hk
    rw [splice_nil]
    exact (s.perm hr).perm (hset _).symm
  | v :: r, i, off, cs, w, l, s, hk, hsz, h1 => by
    have hc : w.cell? ⟨b, off + i, none⟩ = some (cs[off + i]'(by simp at hsz; omega)) := by rw [s.cell hk]; simp
    have hs := s.setCell hk (off + i) v
    have hk' : nth k (setAt k (pt b (.cells (cs.setIfInBounds (off + i) v) t (0, 0))) l) = some (pt b (.cells (cs.setIfInBounds (off + i) v) t (0, 0))) := by
      clear hs hc hsz s h1
      induction k generalizing l with
      | zero => cases l <;> simp_all [nth, setAt]
      | succ k ih => cases l with
        | nil => simp [nth] at hk
        | cons A l => exact ih l hk
    obtain ⟨w', hw', hs'⟩ := run_stores r (i + 1) off _ _ _ hs hk' (by simp at hsz ⊢; omega) (fun x hx => h1 x (by simp [hx]))
    refine ⟨w', ?_, ?_⟩
    · simp only [storeCells, Sem.run_bind]
      rw [run_store _ _ _ _ _ (h1 v (by simp)), add_none, hc]
      simp only [s.frozen hk, Bool.false_eq_true, if_false, Result.andThen_ok]
      exact hw'
    · have : setAt k (pt b (.cells (splice (cs.setIfInBounds (off + i) v) (off + (i + 1)) r) t)) (setAt k (pt b (.cells (cs.setIfInBounds (off + i) v) t (0, 0))) l) = setAt k (pt b (.cells (splice cs (off + i) (v :: r)) t)) l := by
        clear hs' hk' hs hc hsz s hk h1 hw'
        induction k generalizing l with
        | zero => cases l <;> simp_all [setAt, splice_cons, Nat.add_assoc]
        | succ k ih => cases l with
          | nil => simp [setAt]
          | cons A l => simp only [setAt]; rw [ih l]
      rw [← this]
      exact hs'
theorem ot_store {t t' : TypeId} {x y : Operand} {k b off : Nat} {cs : Array Value} {v : Value} (ho : o.op = .store t x y) (hx : ev env x = some (.pointer (some ⟨b, off, none⟩))) (hy : ev env y = some v)
    (hk : nth k l = some (pt b (.cells cs t' (0, 0)))) (hs : (P.info? t).map (·.size) = some v.cells.size) (hsz : Nat.ble (off + v.cells.size) cs.size = true) (h1 : v.cells.toList.all (·.oneCell') = true) :
    OpT P w0 n ds env l o fun u l' => u = undef ∧ l' = setAt k (pt b (.cells (splice cs off v.cells.toList) t')) l := fun a w f s => by
  unfold Oper.goesV execOp
  rw [ho]
  cases hti : P.info? t with
  | none => rw [hti] at hs; cases hs
  | some ti =>
    have hsize : ti.size = v.cells.size := by simpa [hti] using hs
    obtain ⟨w', hw', hs'⟩ := run_stores (P := P) v.cells.toList 0 off cs w l s hk (by simpa using Nat.le_of_ble_eq_true hsz) (fun x hx => List.all_eq_true.1 h1 x hx)
    simp [f.eval hx, f.eval hy, Instr.storeAt, Instr.sureAddr, storeVar, sizeOf, typeInfo, hti, hsize, hw']
    exact hs'
theorem setAt_nth {α : Type _} {k : Nat} {x : α} {l : List α} (h : nth k l = some x) : setAt k x l = l := by
  induction k generalizing l with
  | zero => cases l <;> simp_all [nth, setAt]
  | succ k ih => cases l with
    | nil => simp [nth] at h
    | cons A l => simp only [nth] at h; simp [setAt, ih h]
/-- A slice that is written out. -/
abbrev sliceOf (m b : Nat) : Value := .slice (some ⟨b, 0, none⟩) m m
def slicePlace (size : Nat) (i : Nat) : Option (Nat × Nat) := some (i * size, size)
def rep (zs : List Value) : Nat → List Value
  | 0 => []
  | k + 1 => zs ++ rep zs k
theorem rep_len (zs : List Value) (k : Nat) : (rep zs k).length = k * zs.length := by
  induction k with
  | zero => simp [rep]
  | succ k ih => simp [rep, ih, Nat.succ_mul, Nat.add_comm]
theorem rep_get {zs : List Value} : ∀ {k j : Nat}, j < k * zs.length → (rep zs k)[j]? = zs[j % zs.length]?
  | 0, j, h => by simp at h
  | k + 1, j, h => by
    simp only [rep]
    rcases Nat.lt_or_ge j zs.length with h1 | h1
    · rw [List.getElem?_append_left h1, Nat.mod_eq_of_lt h1]
    · rw [List.getElem?_append_right h1, rep_get (by rw [Nat.succ_mul] at h; omega)]
      have : zs.length ≠ 0 := fun e => by rw [e] at h; simp at h
      rw [Nat.mod_eq_sub_mod h1]
theorem rep_eq {zs : List Value} (hz : 0 < zs.length) (k : Nat) : (Array.range (k * zs.length)).map (fun i => zs.toArray[i % zs.toArray.size]!) = (rep zs k).toArray := by
  apply Array.ext'
  apply List.ext_getElem?
  intro j
  simp only [Array.toList_map, Array.toList_range, List.getElem?_map, List.getElem?_range']
  rcases Nat.lt_or_ge j (k * zs.length) with h | h
  · rw [rep_get h]
    have hm : j % zs.length < zs.length := Nat.mod_lt _ hz
    simp [h, hm, List.getElem?_range]
  · have hn : (rep zs k)[j]? = none := List.getElem?_eq_none (by rw [rep_len]; exact h)
    simp [hn, h, List.getElem?_range]
theorem ot_buildSlice {t e : TypeId} {m size : Nat} {parts : List (Nat × Operand)} {zs cs : List Value} (ho : o.op = .buildSlice t m parts.toArray) (hu : P.underlying t = some (.slice e)) (hz : zeroL P e = some zs) (hs : (P.info? e).map (·.size) = some size)
    (hl : Nat.beq zs.length size = true) (hp : Nat.blt 0 size = true) (hb : Nat.ble (m * size) 16777216 = true) (hf : fillL (slicePlace size) env parts (rep zs m) = some cs) :
    OpT P w0 n ds env l o (Fresh (sliceOf m) (.cells cs.toArray e) l) := fun a w f s => by
  unfold Oper.goesV execOp
  rw [ho]
  unfold zeroL at hz
  split at hz
  · rename_i ti hti
    split at hz
    · rename_i z hzz
      simp only [Option.some.injEq] at hz
      subst hz
      have h1 : ti.size = size := by simpa [hti] using hs
      have h2 := Nat.eq_of_beq_eq_true hl
      have h3 : 0 < size := by simpa [Nat.blt_eq] using hp
      have h4 := Nat.le_of_ble_eq_true hb
      have hrep := rep_eq (zs := z.cells.toList) (by omega) m
      simp only [Array.length_toList, Array.toArray_toList] at hrep h2
      have hfill := fill_eq f hf
      rw [← hrep] at hfill
      have hfill' : Instr.fill (fun i => some (i * size, size)) (Array.map (fun i => z.cells[i % z.cells.size]!) (Array.range (m * z.cells.size))) (parts.map fun x => (x.1, a.eval x.2)) = some cs.toArray := by
        have hsp : slicePlace size = fun i => some (i * size, size) := rfl
        rw [hsp] at hfill
        simpa using hfill
      rw [h2] at hfill'
      have hrun : (Instr.buildSlice t m (parts.toArray.map fun (i, x) => (i, a.eval x))).run P w = .ok (.slice (some ⟨w.heap.size, 0, none⟩) m m) (w.alloc (.cells cs.toArray e)) := by
        simp only [Instr.buildSlice, Sem.run_bind, run_und hu, Result.andThen_ok, sizeOf, typeInfo, run_program, hti, Sem.run_pure, h1, zeroValue, hzz]
        rw [if_neg (by omega)]
        by_cases h0 : m * size = 0
        · have hm : m = 0 := by rcases Nat.mul_eq_zero.1 h0 with h | h; exact h; omega
          subst hm
          have hz0 : ∀ g : Nat → Value, Array.map g (Array.range 0) = #[] := fun g => by simp
          simp only [Nat.zero_mul, hz0] at hfill'
          simp [hz0, hfill', newRow]
        · simp [h0, typeInfo, hti, hzz, hfill', h2, newRow]
      simp only [Sem.run_bind, hrun, Result.andThen_ok, Sem.run_pure]
      exact ⟨_, ⟨_, rfl, rfl⟩, s.alloc _⟩
    · cases hz
  · cases hz
theorem ov_min {x y : Operand} {ts : Array TypeId} {k : IntKind} {a b : Int} (ho : o.op = .call { callee := .builtin .min, args := #[x, y], argTypes := ts }) (hx : ev env x = some (.int k a)) (hy : ev env y = some (.int k b)) :
    OpV P w0 n ds env l o (.int k (min a b)) := fun ac w f s => by
  unfold execOp
  rw [ho]
  have : (if b < a then b else a) = min a b := by rw [Int.min_def]; split <;> split <;> omega
  simp [resolve, invoke, builtin, Builtin.min_, Builtin.min2, f.eval hx, f.eval hy, List.foldlM, this]
theorem ov_max {x y : Operand} {ts : Array TypeId} {k : IntKind} {a b : Int} (ho : o.op = .call { callee := .builtin .max, args := #[x, y], argTypes := ts }) (hx : ev env x = some (.int k a)) (hy : ev env y = some (.int k b)) :
    OpV P w0 n ds env l o (.int k (max a b)) := fun ac w f s => by
  unfold execOp
  rw [ho]
  have : (if b > a then b else a) = max a b := by rw [Int.max_def]; split <;> split <;> omega
  simp [resolve, invoke, builtin, Builtin.max_, Builtin.max2, f.eval hx, f.eval hy, List.foldlM, this]
end effects

/-! ### 5. Calls -/
/-- Called over the atoms 'pre' it returns some v, with the atoms that 'Post' tells; all else is as it was. -/
def Tri (P : Program) (w0 : World) (f : FuncId) (args : List Value) (pre : List HP) (Post : Value → List HP → Prop) : Prop :=
  ∀ (F : List HP) (w : World), Sat w0 w (pre ++ F) → Calls P f args.toArray w fun e w' => ∃ v post, e = .returned v ∧ Post v post ∧ Sat w0 w' (post ++ F)
section calls
variable {ro : Option Nat} {P : Program} {w0 : World} {n : Nat} {ds : List Deferred} {env : Env} {l : List HP} {o : Oper}
theorem Tri.post {f : FuncId} {args : List Value} {pre : List HP} {Post Post' : Value → List HP → Prop} (h : Tri P w0 f args pre Post) (k : ∀ v m, Post v m → Post' v m) : Tri P w0 f args pre Post' :=
  fun F w s => (h F w s).mono fun e w' ⟨v, m, a, b, c⟩ => ⟨v, m, a, k v m b, c⟩
/-- A contract that asks nothing of the atoms, made over the world as it stands at the call. -/
theorem Tri.of_all {f : FuncId} {args : List Value} {pre : List HP} {Post : Value → List HP → Prop} (h : ∀ w, Sat w0 w pre → Tri P w f args [] Post) : Tri P w0 f args pre fun v m => ∃ m', Post v m' ∧ m = m' ++ pre :=
  fun F w s => (h w s.left [] w (by simpa using Sat.start w)).mono fun e w' ⟨v, m, a, b, c⟩ => ⟨v, m ++ pre, a, ⟨m, b, rfl⟩, by
    have := s.joined (m := m) (by simpa using c)
    simpa [List.append_assoc] using this⟩
/-- The call of a Go function: ks tells where its atoms stand. -/
theorem ot_call {f : FuncId} {ts : Array TypeId} {x : Operand} {xs : List Operand} {args first caps as : List Value} {ks : List Nat} {pre r : List HP} {Post : Value → List HP → Prop}
    (ho : o.op = .call { callee := .value x, args := xs.toArray, argTypes := ts }) (hx : ev env x = some (.func (.func f) first.toArray caps.toArray)) (hargs : evs env xs = some args)
    (hf : ∀ (args : Array Value) (w : World), (callFunc f args).run P w = .ok (.enter f args) w) (has : first ++ args ++ caps = as) (spec : Tri P w0 f as pre Post) (hks : pulls ks l = some (pre, r)) :
    OpT P w0 n ds env l o fun v l' => ∃ m, Post v m ∧ l' = m ++ r := fun a w fr s => by
  subst has
  unfold Oper.goesV execOp
  rw [ho]
  simp [resolve, fr.eval hx, Deferred.ofValue, invoke, hf, fr.evals hargs]
  have := spec r w (s.pulls hks)
  simp at this
  refine this.mono ?_
  rintro e w' ⟨v, he, m, hp, hs⟩
  subst he
  exact ⟨_, ⟨m, hp, rfl⟩, hs⟩
end calls

/-- The atoms at these places; those at the next ones are left behind. -/
theorem Sat.fin {w0 w : World} {l xs gs r r' : List HP} (s : Sat w0 w l) {ks js : List Nat} (h : SL.pulls ks l = some (xs, r)) (h' : SL.pulls js r = some (gs, r')) : Sat w0 w (xs ++ r') := by
  have s1 := s.pulls h
  have s2 : Sat w0 w ((xs ++ gs) ++ r') := by
    rw [List.append_assoc]
    exact s1.perm ((pulls_perm h').append_left xs)
  rw [List.append_assoc] at s2
  have s3 : Sat w0 w (gs ++ (xs ++ r')) := s2.perm (by rw [← List.append_assoc, ← List.append_assoc]; exact List.perm_append_comm.append_right r')
  exact s3.right
theorem Sat.finEq {w0 w : World} {l m xs gs r r' : List HP} (s : Sat w0 w l) {ks js : List Nat} (h : SL.pulls ks l = some (xs, r)) (h' : SL.pulls js r = some (gs, r')) (e : m = xs ++ r') : Sat w0 w m := e ▸ s.fin h h'
theorem Sat.front {w0 w : World} {l : List HP} (s : Sat w0 w l) {k : Nat} {A : HP} (hk : nth k l = some A) : ∃ r, Sat w0 w (A :: r) := let ⟨r, hr, _⟩ := nth_pull hk; ⟨r, s.perm hr⟩
/-! Loops: W are the slots that a round writes, U what of them stands at a round's head, V what the atoms are then. -/
def memB (t : Nat) : List Nat → Bool
  | [] => false
  | u :: r => match Nat.beq t u with | true => true | false => memB t r
def wo (W : List Nat) : Env → Env
  | [] => []
  | (t, v) :: r => match memB t W with | true => wo W r | false => (t, v) :: wo W r
theorem memB_congr {t u : Nat} (h : Nat.beq t u = true) (W : List Nat) : memB t W = memB u W := by rw [Nat.eq_of_beq_eq_true h]
theorem look_wo {W : List Nat} : ∀ {env : Env} {t : Nat} {v : Value}, look (wo W env) t = some v → look env t = some v
  | [], t, v, h => by simp [wo, look] at h
  | (u, x) :: r, t, v, h => by
    simp only [wo] at h
    cases hm : memB u W with
    | true =>
      rw [hm] at h
      simp only [look]
      cases hb : Nat.beq u t with
      | true =>
        have ht : memB t W = true := (memB_congr hb W) ▸ hm
        have hno : ∀ (e : Env), look (wo W e) t = none := by
          intro e
          induction e with
          | nil => rfl
          | cons p e ih =>
            obtain ⟨a, b⟩ := p
            simp only [wo]
            cases ha : memB a W with
            | true => exact ih
            | false =>
              simp only [look]
              cases hc : Nat.beq a t with
              | true => rw [memB_congr hc W] at ha; rw [ht] at ha; cases ha
              | false => exact ih
        rw [hno] at h; cases h
      | false => exact look_wo h
    | false =>
      rw [hm] at h
      simp only [look] at h ⊢
      cases hb : Nat.beq u t with
      | true => rw [hb] at h; exact h
      | false => rw [hb] at h; exact look_wo h
theorem look_app {e f : Env} {t : Nat} {v : Value} (h : look (e ++ f) t = some v) : look e t = some v ∨ look f t = some v := by
  induction e with
  | nil => exact .inr h
  | cons p e ih =>
    obtain ⟨a, b⟩ := p
    simp only [List.cons_append, look] at h ⊢
    cases hc : Nat.beq a t with
    | true => rw [hc] at h; exact .inl h
    | false => rw [hc] at h; exact ih h
theorem Fr.loop {n : Nat} {ds : List Deferred} {env env0 U : Env} {W : List Nat} {a : Act} (f : Fr n ds env a) (hU : subEnv env U) (hw : wo W env = wo W env0) : Fr n ds (U ++ wo W env0) a :=
  ⟨f.size, f.defers, fun t v h => by
    rcases look_app h with h | h
    · exact f.has _ _ (look_sub hU h)
    · rw [← hw] at h; exact f.has _ _ (look_wo h)⟩
def Rnd {ι : Type} (w0 : World) (n : Nat) (ds : List Deferred) (I : ι → Prop) (μ : ι → Nat) (U : ι → Env) (V : ι → List HP → List HP) (W : List Nat) (env0 : Env) (m : List HP) (i : ι) : Act → World → Prop := fun a w => ∃ j, I j ∧ μ j < μ i ∧ Fr n ds (U j ++ wo W env0) a ∧ Sat w0 w (V j m)
theorem at_loopE {ro : Option Nat} {P : Program} {w0 : World} {n : Nat} {ds : List Deferred} {env : Env} {l : List HP} {Q : Exit → Act → World → Prop} {ι : Type} {c : Code} (W : List Nat) (I : ι → Prop) (U : ι → Env) (V : ι → List HP → List HP) (μ : ι → Nat) (i0 : ι)
    (h0 : I i0) (hU : subEnv env (U i0)) (hS : ∀ w, Sat w0 w l → Sat w0 w (V i0 l)) (round : ∀ i, I i → At w0 n ds (gwp ro P c (Exit.then (Rnd w0 n ds I μ U V W env l i) Q)) (U i ++ wo W env) (V i l)) :
    At w0 n ds (gwp ro P (Code.loop c) Q) env l := by
  intro a w f s
  exact at_loop (env := U i0 ++ wo W env) (l := V i0 l) I (fun j => U j ++ wo W env) (fun j => V j l) μ i0 h0 (fun _ _ h => h) (fun _ s => s) round a w (f.loop hU rfl) (hS w s)
theorem at_roundE {w0 : World} {n : Nat} {ds : List Deferred} {env env0 : Env} {l m xs gs r r' : List HP} {ι : Type} {W : List Nat} {I : ι → Prop} {U : ι → Env} {V : ι → List HP → List HP} {μ : ι → Nat} {i : ι} (j : ι) (hj : I j) (hlt : μ j < μ i) (hU : subEnv env (U j)) (hw : wo W env = wo W env0)
    {ks js : List Nat} (h1 : pulls ks l = some (xs, r)) (h2 : pulls js r = some (gs, r')) (hV : V j m = xs ++ r') : At w0 n ds (Rnd w0 n ds I μ U V W env0 m i) env l :=
  fun a w f s => ⟨j, hj, hlt, f.loop hU hw, by show Sat w0 w (V j m); rw [hV]; exact s.fin h1 h2⟩
theorem at_roundF {w0 : World} {n : Nat} {ds : List Deferred} {env env0 : Env} {l m : List HP} {ι : Type} {W : List Nat} {I : ι → Prop} {U : ι → Env} {V : ι → List HP → List HP} {μ : ι → Nat} {i : ι} (j : ι) (hj : I j) (hlt : μ j < μ i) (hU : subEnv env (U j)) (hw : wo W env = wo W env0)
    (hV : ∀ w, Sat w0 w l → Sat w0 w (V j m)) : At w0 n ds (Rnd w0 n ds I μ U V W env0 m i) env l :=
  fun a w f s => ⟨j, hj, hlt, f.loop hU hw, hV w s⟩
theorem at_fold {w0 : World} {n : Nat} {ds : List Deferred} {R : Act → World → Prop} {env : Env} {l m r : List HP} {A : HP} (ks : List Nat) (h : pulls ks l = some (m, r)) (p : ∀ h, star m h → A h) (k : At w0 n ds R env (A :: r)) : At w0 n ds R env l :=
  fun a w f s => k a w f ((s.pulls h).shut.imp fun _ ⟨x, y, hx, hy, hd, l1, l2⟩ => ⟨x, y, p _ hx, hy, hd, l1, l2⟩)
/-! ### 6. The function's own text -/
def argEnv : Nat → List Value → Env
  | _, [] => []
  | i, v :: r => (i, v) :: argEnv (i + 1) r
theorem look_argEnv {t : Nat} {v : Value} : ∀ (l : List Value) (i : Nat), look (argEnv i l) t = some v → i ≤ t ∧ l[t - i]? = some v
  | [], i, h => by simp [argEnv, look] at h
  | x :: r, i, h => by
    simp only [argEnv, look] at h
    cases hb : Nat.beq i t with
    | true => rw [hb] at h; have := Nat.eq_of_beq_eq_true hb; subst this; simp at h; subst h; simp
    | false =>
      rw [hb] at h
      obtain ⟨h1, h2⟩ := look_argEnv r (i + 1) h
      refine ⟨by omega, ?_⟩
      rw [show t - i = (t - (i + 1)) + 1 by omega]
      simpa using h2
/-- What stands at a function's end. -/
def Post (P : Program) (w0 : World) (fn : Func) (Q : Value → List HP → Prop) (F : List HP) : Exit → Act → World → Prop :=
  bodyPostM (FW none) 0 P fn fun e w' => ∃ v post, e = .returned v ∧ Q v post ∧ Sat w0 w' (post ++ F)
theorem tri_of {P : Program} {w0 : World} {f : FuncId} {fn : Func} {c : Code} {args : List Value} {pre : List HP} {Q : Value → List HP → Prop} (hf : P.funcs[f]? = some fn) (hb : fn.body = some c)
    (hn : Nat.ble args.length fn.ntmps = true) (h : ∀ F, At w0 fn.ntmps [] (gwp none P c (Post P w0 fn Q F)) (argEnv 0 args) (pre ++ F)) : Tri P w0 f args pre Q := by
  intro F w s
  refine callsIn_wide.1 (callsIn_of_wp_marks (F := FW none) (n := 0) hf hb trivial (h F _ w ⟨?_, rfl, ?_⟩ s))
  · have := Nat.le_of_ble_eq_true hn
    simp; omega
  · intro t v e
    obtain ⟨_, h2⟩ := look_argEnv args 0 e
    simp only [Nat.sub_zero] at h2
    have hlt : t < args.length := (List.getElem?_eq_some_iff.1 h2).1
    rw [Array.getElem?_append_left (by simpa using hlt)]
    simpa using h2
theorem at_done {P : Program} {w0 : World} {n : Nat} {fn : Func} {Q : Value → List HP → Prop} {F : List HP} {env : Env} {l : List HP} {v : Value} {post : List HP}
    (hr : ∀ a w, Fr n [] env a → Sat w0 w l → (results fn a.tmps).run P w = .ok v w) (hQ : Q v post) (hS : ∀ w, Sat w0 w l → Sat w0 w (post ++ F)) : At w0 n [] (Post P w0 fn Q F .ret) env l :=
  fun a w f s => by show LeavesInM _ _ _ _ _ _ a.defers _ _; rw [f.defers]; exact ⟨v, hr a w f s, v, post, rfl, hQ, hS w s⟩
theorem at_fin {P : Program} {w0 : World} {n : Nat} {fn : Func} {Q : Value → List HP → Prop} {F : List HP} {env : Env} {l : List HP} {v : Value}
    (hr : ∀ a w, Fr n [] env a → Sat w0 w l → (results fn a.tmps).run P w = .ok v w) (h : ∃ post, Q v post ∧ ∀ w, Sat w0 w l → Sat w0 w (post ++ F)) : At w0 n [] (Post P w0 fn Q F .ret) env l :=
  let ⟨_, hQ, hS⟩ := h; at_done hr hQ hS
theorem at_end {P : Program} {w0 : World} {n : Nat} {fn : Func} {Q : Value → List HP → Prop} {F : List HP} {env : Env} {l : List HP} {ds : List Deferred} (h : At w0 n ds (Post P w0 fn Q F .ret) env l) : At w0 n ds (Post P w0 fn Q F .normal) env l := h
theorem rs0 {P : Program} {w0 : World} {n : Nat} {fn : Func} {env : Env} {l : List HP} (h : fn.results = #[]) : ∀ a w, Fr n [] env a → Sat w0 w l → (results fn a.tmps).run P w = .ok (.tuple #[]) w := fun a w f s => results_none h _ _ _
theorem rs1 {P : Program} {w0 : World} {n : Nat} {fn : Func} {env : Env} {l : List HP} {t : Tmp} {v : Value} (h : fn.results = #[.tmp t]) (hv : look env t = some v) : ∀ a w, Fr n [] env a → Sat w0 w l → (results fn a.tmps).run P w = .ok v w := fun a w f s => by
  rw [results_tmp h]; simp [Array.getD_eq_getD_getElem?, f.has _ _ hv]
/-- One result, or one of several: a temporary, or a cell. -/
def ResV (P : Program) (w0 : World) (l : List HP) (env : Env) : ResultVar → Value → Prop
  | .tmp t, v => look env t = some v
  | .cell t ty, v => ∃ p, look env t = some (.pointer (some p)) ∧ ∀ w, Sat w0 w l → (loadVar ty p).run P w = .ok v w
theorem res_tmp {P : Program} {w0 : World} {l : List HP} {env : Env} {t : Tmp} {v : Value} (h : look env t = some v) : ResV P w0 l env (.tmp t) v := h
theorem res_cellS {P : Program} {w0 : World} {l : List HP} {env : Env} {t : Tmp} {ty T : TypeId} {b k : Nat} {cs : Array Value} {fr : Nat × Nat} {vs : List Value} (h : look env t = some (.pointer (some ⟨b, 0, none⟩)))
    (ht : (P.underlying ty).map (fun | .struct _ | .array _ _ => true | _ => false) = some true) (hsz : (P.info? ty).map (·.size) = some vs.length) (hk : nth k l = some (pt b (.cells cs T fr))) (hv : NthAll cs.toList 0 vs) :
    ResV P w0 l env (.cell t ty) (.agg vs.toArray) := ⟨_, h, fun w s => by
  cases hu : P.underlying ty with
  | none => rw [hu] at ht; cases ht
  | some d =>
    rw [hu] at ht
    have hagg : (isAgg ty).run P w = .ok true w := by
      unfold isAgg
      cases d <;> simp [underlying, hu] at ht ⊢
    cases hi : P.info? ty with
    | none => rw [hi] at hsz; cases hsz
    | some ti =>
      have : ti.size = vs.length := by simpa [hi] using hsz
      simp [loadVar, hagg, sizeOf, typeInfo, hi, this, run_loadCells_list (P := P) w _ vs (s.lds hk hv)]⟩
theorem res_cell1 {P : Program} {w0 : World} {l : List HP} {env : Env} {t : Tmp} {ty T : TypeId} {b k : Nat} {cs : Array Value} {fr : Nat × Nat} {v : Value} (h : look env t = some (.pointer (some ⟨b, 0, none⟩)))
    (ht : (P.underlying ty).map (fun | .struct _ | .array _ _ => false | _ => true) = some true) (hk : nth k l = some (pt b (.cells cs T fr))) (hv : nth 0 cs.toList = some v) :
    ResV P w0 l env (.cell t ty) v := ⟨_, h, fun w s => by
  cases hu : P.underlying ty with
  | none => rw [hu] at ht; cases ht
  | some d =>
    rw [hu] at ht
    have hagg : (isAgg ty).run P w = .ok false w := by
      unfold isAgg
      cases d <;> simp [underlying, hu] at ht ⊢
    simp [loadVar, hagg, s.ld hk hv]⟩
def ResL (P : Program) (w0 : World) (l : List HP) (env : Env) : List ResultVar → List Value → Prop
  | [], [] => True
  | r :: rs, v :: vs => ResV P w0 l env r v ∧ ResL P w0 l env rs vs
  | _, _ => False
theorem ResL.run {P : Program} {w0 : World} {n : Nat} {l : List HP} {env : Env} {a : Act} {w : World} (f : Fr n [] env a) (s : Sat w0 w l) : ∀ {rs : List ResultVar} {vs : List Value}, ResL P w0 l env rs vs →
    (rs.mapM (fun | .tmp t => pure (a.tmps.getD t undef) | .cell p t => do loadVar t (← asAddr (a.tmps.getD p undef)) : ResultVar → Sem Value)).run P w = .ok vs w
  | [], [], _ => by simp
  | [], _ :: _, h => h.elim
  | _ :: _, [], h => h.elim
  | r :: rs, v :: vs, h => by
    have ih := ResL.run f s h.2
    simp only [Array.getD_eq_getD_getElem?] at ih ⊢
    simp only [List.mapM_cons, Sem.run_bind]
    cases r with
    | tmp t =>
      have := h.1
      simp only [ResV] at this
      simp [f.has _ _ this, ih]
    | cell p t =>
      obtain ⟨ad, h1, h2⟩ := h.1
      have h3 : (asAddr (a.tmps[p]?.getD undef)).run P w = .ok ad w := by simp [f.has _ _ h1, asAddr]
      simp [h3, h2 w s, ih]
theorem rsL {P : Program} {w0 : World} {n : Nat} {fn : Func} {env : Env} {l : List HP} {rs : List ResultVar} {vs : List Value} (h : fn.results = rs.toArray) (hv : ResL P w0 l env rs vs) (h1 : Nat.beq vs.length 1 = false) :
    ∀ a w, Fr n [] env a → Sat w0 w l → (results fn a.tmps).run P w = .ok (.tuple vs.toArray) w := fun a w f s => by
  have hne : ¬ vs.length = 1 := fun e => by rw [e] at h1; cases h1
  have := ResL.run f s hv
  simp only [results, h, Array.mapM_eq_mapM_toList, Sem.run_bind, Sem.run_map]
  erw [this]
  simp [hne]
theorem rsV {P : Program} {w0 : World} {n : Nat} {fn : Func} {env : Env} {l : List HP} {r : ResultVar} {v : Value} (h : fn.results = #[r]) (hv : ResV P w0 l env r v) :
    ∀ a w, Fr n [] env a → Sat w0 w l → (results fn a.tmps).run P w = .ok v w := fun a w f s => by
  have := ResL.run (rs := [r]) (vs := [v]) f s ⟨hv, trivial⟩
  simp only [results, h, Array.mapM_eq_mapM_toList, Sem.run_bind, Sem.run_map]
  erw [this]
  simp
end Go.Proofs.YtmedbdcjniggcaaDoor.SL
