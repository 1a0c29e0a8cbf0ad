/- Deferred calls; the marks of package internal/race; addresses made unsafe. -/
import Derived.Test.YtmedbdcjniggcaaDoorSLBr
import Derived.Laws.LoneSync
set_option linter.unusedVariables false
set_option linter.unusedSimpArgs false
namespace Go.Proofs.YtmedbdcjniggcaaDoor.SL
open Go Go.RowKit
/-- Entered as a deferred call over the atoms 'pre' it ends with the atoms that 'Post' tells, and leaves the mode of the frame below alone. -/
def TriD (P : Program) (w0 : World) (f : FuncId) (args : List Value) (pre : List HP) (Post : Value → List HP → Prop) : Prop :=
  ∀ (F : List HP) (w : World) (u : FrameMode), Sat w0 w (pre ++ F) → CallsDIn (FW none) 0 P f args.toArray u w fun e u' w' => u' = u ∧ ∃ v post, e = .returned v ∧ Post v post ∧ Sat w0 w' (post ++ F)
/-- What stands at the end of a function that is entered so. -/
def DPost (P : Program) (w0 : World) (fn : Func) (Q : Value → List HP → Prop) (F : List HP) : Exit → Act → World → Prop :=
  bodyPost P fn fun e w' => ∃ v post, e = .returned v ∧ Q v post ∧ Sat w0 w' (post ++ F)
theorem triD_of {P : Program} {w0 : World} {f : FuncId} {fn : Func} {c : Code} {args : List Value} {pre : List HP} {Q : Value → List HP → Prop} (hf : P.funcs[f]? = some fn) (hb : fn.body = some c)
    (hn : Nat.ble args.length fn.ntmps = true) (h : ∀ F, At w0 fn.ntmps [] (gwp none P c (DPost P w0 fn Q F)) (argEnv 0 args) (pre ++ F)) : TriD P w0 f args pre Q := by
  intro F w u s
  refine callsDIn_of_wp (F := FW none) (n := 0) hf hb trivial (h F _ w ⟨?_, rfl, ?_⟩ s)
  · have := Nat.le_of_ble_eq_true hn
    simp; omega
  · intro t v e
    obtain ⟨_, h2⟩ := look_argEnv args 0 e
    simp only [Nat.sub_zero] at h2
    have hlt : t < args.length := (List.getElem?_eq_some_iff.1 h2).1
    rw [Array.getElem?_append_left (by simpa using hlt)]
    simpa using h2
section
variable {P : Program} {w0 : World} {n : Nat} {ds : List Deferred} {env : Env} {l : List HP} {fn : Func} {Q : Value → List HP → Prop} {F : List HP}
theorem at_finD {v : Value} (hr : ∀ a w, Fr n [] env a → Sat w0 w l → (results fn a.tmps).run P w = .ok v w) (h : ∃ post, Q v post ∧ ∀ w, Sat w0 w l → Sat w0 w (post ++ F)) : At w0 n [] (DPost P w0 fn Q F .ret) env l :=
  fun a w f s => let ⟨post, hQ, hS⟩ := h; ⟨f.defers, v, hr a w f s, v, post, rfl, hQ, hS w s⟩
theorem at_endD (h : At w0 n ds (DPost P w0 fn Q F .ret) env l) : At w0 n ds (DPost P w0 fn Q F .normal) env l := h
/-- A call is put off. -/
theorem at_defer {ops : Array Oper} {R : Exit → Act → World → Prop} {rest : List Oper} {o : Oper} {f : FuncId} {ts : Array TypeId} {x : Operand} {xs : List Operand} {args first caps : List Value}
    (ho : o.op = .defer { callee := .value x, args := xs.toArray, argTypes := ts }) (hg : o.guard = none) (hd : o.dst = none) (hx : ev env x = some (.func (.func f) first.toArray caps.toArray)) (hargs : evs env xs = some args)
    (k : At w0 n ({ target := .fn (.func f) caps.toArray, args := first.toArray ++ args.toArray } :: ds) (gList none P ops R rest) env l) : At w0 n ds (gList none P ops R (o :: rest)) env l := fun a w fr s => by
  refine gList_plain hg ⟨fun _ _ => trivial, ?_⟩
  have hrun : (o.semAt (FW none).round a.eval).run P w = .ok (.defer { target := .fn (.func f) caps.toArray, args := first.toArray ++ args.toArray }) w := by
    show (Oper.semAt none a.eval o).run P w = _
    rw [Oper.semAt_none]
    unfold execOp
    rw [ho]
    simp [resolve, fr.eval hx, Deferred.ofValue, fr.evals hargs]
  rw [hrun, Oper.uponIn_defer, hd]
  exact k _ w ⟨fr.size, by simp [Act.put, fr.defers], fr.has⟩ s
/-- At the door: the call that was put off last. -/
theorem at_leave {f : FuncId} {cap dargs : Array Value} {vs : List Value} {ks : List Nat} {pre r : List HP} {PD : Value → List HP → Prop} (hf : ∀ (args : Array Value) (w : World), (callFunc f args).run P w = .ok (.enter f args) w)
    (has : dargs ++ cap = vs.toArray) (spec : TriD P w0 f vs pre PD) (hks : pulls ks l = some (pre, r)) (k : ∀ v m, PD v m → At w0 n ds (Post P w0 fn Q F .ret) env (m ++ r)) :
    At w0 n ({ target := .fn (.func f) cap, args := dargs } :: ds) (Post P w0 fn Q F .ret) env l := fun a w fr s => by
  show LeavesInM _ _ _ _ _ _ a.defers _ _
  rw [fr.defers]
  refine ⟨by simp, .inr ⟨fun _ => by simp [FW, Fence.wide] at *, _, _, f, vs.toArray, rfl, ?_, fun _ _ => trivial, (spec r w .returning (s.pulls hks)).mono ?_⟩⟩
  · rw [← has]
    simp [invoke, hf]
  · rintro e u' w' ⟨rfl, v, m, rfl, hp, s'⟩
    exact k v m hp { a with defers := ds } w' ⟨fr.size, rfl, fr.has⟩ s'
/-- An address made unsafe. -/
theorem ov_unsafe {o : Oper} {src dst t : TypeId} {x : Operand} {k b off : Nat} {cs : Array Value} {ty : TypeId} {v : Value} (ho : o.op = .convert src dst x) (hs : P.underlying src = some (.pointer t)) (hd : P.underlying dst = some .unsafePointer) (hsz : (P.info? t).map (fun i => decide (i.size = 0)) = some false)
    (hx : ev env x = some (.pointer (some ⟨b, off, none⟩))) (hk : nth k l = some (pt b (.cells cs ty (0, 0)))) (hv : nth off cs.toList = some v) : OpV P w0 n ds env l o (.pointer (some ⟨b, off, none⟩)) := fun a w f s => by
  unfold execOp
  rw [ho]
  simp [f.eval hx, run_convert_to_unsafe hs hd hsz (s.ld hk hv)]
theorem x_mark0 (m : Mark) : ∀ w, Sat w0 w l → ∃ w', ((fun (_ : Array Value) => do Go.mark m; pure Extern.Race.none_ : Array Value → Sem Value) ([] : List Value).toArray).run P w = .ok (.tuple #[]) w' ∧ Sat w0 w' l := fun w s => ⟨w, rfl, s⟩
theorem x_marked (m : Addr → Mark) (ad : Addr) : ∀ w, Sat w0 w l → ∃ w', (Extern.Race.marked m [.pointer (some ad)].toArray).run P w = .ok (.tuple #[]) w' ∧ Sat w0 w' l := fun w s => ⟨w, rfl, s⟩
end
end Go.Proofs.YtmedbdcjniggcaaDoor.SL
