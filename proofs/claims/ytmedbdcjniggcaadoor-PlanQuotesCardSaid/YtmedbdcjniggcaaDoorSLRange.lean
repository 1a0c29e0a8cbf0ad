/- Ranges over functions: the marks that a function leaves with, calls of yield, rounds, the statement. -/
import Derived.Test.YtmedbdcjniggcaaDoorSLOpen
set_option linter.unusedVariables false
set_option linter.unusedSimpArgs false
namespace Go.Proofs.YtmedbdcjniggcaaDoor.SL
open Go Go.RowKit

/-! ### 1. Marks -/
abbrev mark (d : Nat) : Deferred := { target := .collected d, args := #[] }
theorem Sat.putO {w0 w : World} {l : List HP} (s : Sat w0 w l) {k b : Nat} {o : Obj} (o' : Obj) (hk : nth k l = some (pt b o)) : Sat w0 (w.putObj b o') (setAt k (pt b o') l) :=
  s.put hk (World.putObj_heap_same (Array.getElem?_eq_some_iff.1 (s.blk hk).1).1) (fun _ h => World.putObj_heap_other h) World.putObj_size rfl rfl rfl
theorem at_mark {P : Program} {w0 : World} {n : Nat} {ds : List Deferred} {fn : Func} {Q : Value → List HP → Prop} {F : List HP} {env : Env} {l : List HP} {d k : Nat} (hk : nth k l = some (pt d (.deferred (some []))))
    (h : At w0 n ds (Post P w0 fn Q F .ret) env (setAt k (pt d (.deferred none)) l)) : At w0 n (mark d :: ds) (Post P w0 fn Q F .ret) env l := fun a w f s => by
  show LeavesInM _ _ _ _ _ _ a.defers _ _
  rw [f.defers]
  refine ⟨by simp, .inl ⟨d, w.putObj d (.deferred none), rfl, run_takeDeferred (s.blk hk).1, ?_⟩⟩
  exact h { a with defers := ds } _ ⟨f.size, rfl, f.has⟩ (s.putO _ hk)

/-! ### 2. Calls of yield -/
/-- Yield, called over the atoms 'pre', hands back some v, with the atoms that 'Post' tells. -/
def YTri (P : Program) (w0 : World) (l0 : Nat) (args : List Value) (pre : List HP) (Post : Value → List HP → Prop) : Prop :=
  ∀ (F : List HP) (w : World), Sat w0 w (pre ++ F) → ∃ fn tmps assign body, (Instr.yield l0 args.toArray).run P w = .ok (.round l0 fn tmps assign body) w ∧
    RoundIn Fence.wide 0 P l0 fn tmps assign body w fun e w' => ∃ v m, e = .returned v ∧ Post v m ∧ Sat w0 w' (m ++ F)
theorem ot_yield {P : Program} {w0 : World} {n : Nat} {ds : List Deferred} {env : Env} {l : List HP} {o : Oper} {l0 : Nat} {ts : Array TypeId} {x : Operand} {xs : List Operand} {args : List Value} {ks : List Nat} {pre r : List HP} {Post : Value → List HP → Prop}
    (ho : o.op = .call { callee := .value x, args := xs.toArray, argTypes := ts }) (hx : ev env x = some (.func (.yield l0) #[] #[])) (hargs : evs env xs = some args) (spec : YTri P w0 l0 args pre Post) (hks : pulls ks l = some (pre, r)) :
    OpT P w0 n ds env l o fun v l' => ∃ m, Post v m ∧ l' = m ++ r := fun a w fr s => by
  obtain ⟨fn, tmps, assign, body, h1, h2⟩ := spec r w (s.pulls hks)
  unfold Oper.goesV execOp
  rw [ho]
  simp [resolve, fr.eval hx, Deferred.ofValue, invoke, fr.evals hargs, h1]
  refine h2.mono ?_
  rintro e w' ⟨v, m, he, hp, hs⟩
  subst he
  exact ⟨_, ⟨m, hp, rfl⟩, hs⟩

/-! ### 3. Rounds -/
structure Tm (n : Nat) (env : Env) (tmps : Array Value) : Prop where
  size : tmps.size = n
  has : ∀ t v, look env t = some v → tmps[t]? = some v
def binds : List Tmp → List Value → Env → Env
  | t :: ts, v :: vs, env => binds ts vs ((t, v) :: env)
  | _, _, env => env
theorem binds_fr {n : Nat} : ∀ {ps : List Tmp} {args : List Value} {env : Env} {a : Act}, Fr n [] env a → (ps.all fun t => Nat.blt t n) = true →
    Fr n [] (binds ps args env) { tmps := (ps.zip args).foldl (fun (tmps : Array Value) (p : Tmp × Value) => tmps.setIfInBounds p.1 p.2) a.tmps, defers := [] }
  | [], args, env, a, f, h => ⟨f.size, rfl, f.has⟩
  | t :: ts, [], env, a, f, h => ⟨f.size, rfl, f.has⟩
  | t :: ts, v :: vs, env, a, f, h => by
    simp only [List.all_cons, Bool.and_eq_true] at h
    exact @binds_fr n ts vs ((t, v) :: env) (a.put (some t) v) (f.put t v h.1) h.2
def RMid (P : Program) (l0 : Nat) (K : Act → World → Prop) (a : Act) (w : World) : Prop := ∃ w2, (Instr.beginRound l0).run P w = .ok () w2 ∧ K a w2
/-- What stands at a round's end. -/
def RPost (P : Program) (w0 : World) (l0 : Nat) (Q : Value → List HP → Prop) (F : List HP) : Exit → Act → World → Prop :=
  roundPost P l0 fun e w' => ∃ v m, e = .returned v ∧ Q v m ∧ Sat w0 w' (m ++ F)
/-- Yield's contract, out of the walk through the round. -/
theorem ytri_of {P : Program} {w0 : World} {n l0 k : Nat} {args : List Value} {pre : List HP} {Q : Value → List HP → Prop} {env : Env} {r : Loop} (ps : List Tmp) (hp : r.params = ps.toArray) (hk : nth k pre = some (pt l0 (.loop r))) (ht : Tm n env r.tmps)
    (hl : Nat.beq args.length ps.length = true) (hn : (ps.all fun t => Nat.blt t n) = true)
    (h : ∀ F, At w0 n [] (gwp (some l0) P r.assign (Exit.then (RMid P l0 (gwp (some l0) P r.body (RPost P w0 l0 Q F))) fun _ _ _ => False)) (binds ps args env) (pre ++ F)) : YTri P w0 l0 args pre Q := by
  intro F w s
  have s1 := s.left.blk hk
  have hlen := Nat.eq_of_beq_eq_true hl
  refine ⟨_, _, _, _, run_yield s1.1 (by rw [hp]; simpa using hlen), roundIn_of_wpIn trivial ?_⟩
  have f : Fr n [] env { tmps := r.tmps, defers := [] } := ⟨ht.size, rfl, ht.has⟩
  have := h F _ w (binds_fr (args := args) f hn) s
  simp only [hp, List.zip_toArray, List.foldl_toArray]
  exact this
theorem nth_app {α : Type _} {k : Nat} {l r : List α} {x : α} (h : nth k l = some x) : nth k (l ++ r) = some x := by
  induction k generalizing l with
  | zero => cases l <;> simp_all [nth]
  | succ k ih => cases l with
    | nil => simp [nth] at h
    | cons a l => simp only [nth] at h; simpa [nth] using ih h
section
variable {P : Program} {w0 : World} {n : Nat} {ds : List Deferred} {env : Env} {l : List HP} {l0 k : Nat} {r : Loop} {Q : Value → List HP → Prop} {F : List HP}
theorem at_mid {K : Act → World → Prop} (hk : nth k l = some (pt l0 (.loop r))) (hr : r.state = .ready) (h : At w0 n ds K env (setAt k (pt l0 (.loop { r with state := .busy })) l)) : At w0 n ds (RMid P l0 K) env l :=
  fun a w f s => ⟨_, run_beginRound (s.blk hk).1 hr, h a _ f (s.putO _ hk)⟩
theorem at_rnormal (hk : nth k l = some (pt l0 (.loop r))) (h : ∃ m, Q (.bool true) m ∧ ∀ w, Sat w0 w (setAt k (pt l0 (.loop { r with state := .ready, pending := none })) l) → Sat w0 w (m ++ F)) : At w0 n ds (RPost P w0 l0 Q F .normal) env l :=
  fun a w f s => let ⟨m, hm, hs⟩ := h; ⟨_, _, run_endRound none (s.blk hk).1, _, m, rfl, hm, hs _ (s.putO _ hk)⟩
theorem at_rret (hk : nth k l = some (pt l0 (.loop r))) (h : ∃ m, Q (.bool false) m ∧ ∀ w, Sat w0 w (setAt k (pt l0 (.loop { r with state := .done, pending := some .ret })) l) → Sat w0 w (m ++ F)) : At w0 n ds (RPost P w0 l0 Q F .ret) env l :=
  fun a w f s => let ⟨m, hm, hs⟩ := h; ⟨_, _, run_endRound (some .ret) (s.blk hk).1, _, m, rfl, hm, hs _ (s.putO _ hk)⟩
theorem at_rexit {id : Nat} (hk : nth k l = some (pt l0 (.loop r))) (h : ∃ m, Q (.bool false) m ∧ ∀ w, Sat w0 w (setAt k (pt l0 (.loop { r with state := .done, pending := some (.exit id) })) l) → Sat w0 w (m ++ F)) : At w0 n ds (RPost P w0 l0 Q F (.exit id)) env l :=
  fun a w f s => let ⟨m, hm, hs⟩ := h; ⟨_, _, run_endRound (some (.exit id)) (s.blk hk).1, _, m, rfl, hm, hs _ (s.putO _ hk)⟩
end

/-! ### 4. The statement -/
/-- A loop's record: its state tells the pending jump. -/
abbrev recO (fn : FuncId) (d : Nat) (tmps : Array Value) (ps : Array Tmp) (assign body : Code) (st : LoopState) (pe : Option Code) : Loop := { state := st, pending := pe, fn, tmps, params := ps, assign, body, defers := d }
def stOf : Option Code → LoopState
  | none => .ready
  | some _ => .done
theorem at_rangeFunc {P : Program} {w0 : World} {n : Nat} {ds : List Deferred} {env : Env} {l : List HP} {Q : Exit → Act → World → Prop} {g : Operand} {ps : Array Tmp} {assign body : Code} {gf : Nat} {caps : List Value} {pre r : List HP} (ks : List Nat)
    (Qi : Option Code → List HP → Prop) (hg : ev env g = some (.func (.func gf) #[] caps.toArray)) (hf : ∀ (args : Array Value) (w : World), (callFunc gf args).run P w = .ok (.enter gf args) w) (hks : pulls ks l = some (pre, r))
    (spec : ∀ fn d l0 tmps, Tm n env tmps → Tri P w0 gf (.func (.yield l0) #[] #[] :: caps) (pt l0 (.loop (recO fn d tmps ps assign body .ready none)) :: pre) fun _ m => ∃ st m', Qi st m' ∧ m = pt l0 (.loop (recO fn d tmps ps assign body (stOf st) st)) :: m')
    (kn : ∀ d m', Qi none m' → At w0 n (mark d :: ds) (Q .normal) env (pt d (.deferred (some [])) :: (m' ++ r)))
    (kc : ∀ d c m', Qi (some c) m' → At w0 n (mark d :: ds) (gwp none P c Q) env (pt d (.deferred (some [])) :: (m' ++ r))) :
    At w0 n ds (gwp none P (.rangeFunc g ps assign body) Q) env l := by
  intro a w f s
  refine wpIn_rangeFunc ?_
  intro fn _
  have ht : Tm n env a.tmps := ⟨f.size, f.has⟩
  have s1 := (s.pulls hks).alloc (.deferred (some []))
  have s2 := s1.alloc (.loop (recO fn w.heap.size a.tmps ps assign body .ready none))
  rw [World.size_alloc] at s2
  obtain ⟨W, hW⟩ : ∃ W, (w.alloc (.deferred (some []))).alloc (.loop (recO fn w.heap.size a.tmps ps assign body .ready none)) = W := ⟨_, rfl⟩
  refine ⟨w.heap.size + 1, [mark w.heap.size], W, { target := .fn (.func gf) caps.toArray, args := #[.func (.yield (w.heap.size + 1)) #[] #[]] }, W, gf,
    #[.func (.yield (w.heap.size + 1)) #[] #[]] ++ caps.toArray, W, hW ▸ run_enterLoop_outer _ _ _ _ _, ?_, fun _ _ => trivial, ?_, fun e => (by simp [FW, Fence.wide] at e), ?_⟩
  · simp only [resolve, f.eval hg]
    simp [go_sem]
  · simp [invoke, go_sem, hf]
  · rw [hW] at s2
    have s3 : Sat w0 W
        ((pt (w.heap.size + 1) (.loop (recO fn w.heap.size a.tmps ps assign body .ready none)) :: pre) ++ (pt w.heap.size (.deferred (some [])) :: r)) :=
      s2.perm (by
        simp only [List.cons_append]
        exact (List.perm_middle.symm).cons _)
    have c := spec fn w.heap.size (w.heap.size + 1) a.tmps ht _ _ s3
    have harg : (Value.func (.yield (w.heap.size + 1)) #[] #[] :: caps).toArray = #[.func (.yield (w.heap.size + 1)) #[] #[]] ++ caps.toArray := by simp
    rw [harg] at c
    refine CallsIn.mono (F := FW none) (callsIn_wide.2 c) ?_
    rintro e w3 ⟨v, m, rfl, hm, s4⟩
    obtain ⟨st, m', hq, rfl⟩ : ∃ st m', Qi st m' ∧ m = pt (w.heap.size + 1) (.loop (recO fn w.heap.size a.tmps ps assign body (stOf st) st)) :: m' := hm
    have hl := s4.blk (k := 0) rfl
    refine ⟨st, _, run_endLoop hl.1 (by cases st <;> simp [stOf]), ?_⟩
    have s5 : Sat w0 (w3.putObj (w.heap.size + 1) (.loop { recO fn w.heap.size a.tmps ps assign body (stOf st) st with state := .exhausted })) (pt w.heap.size (.deferred (some [])) :: (m' ++ r)) := by
      have s6 := s4.putO (.loop { recO fn w.heap.size a.tmps ps assign body (stOf st) st with state := .exhausted }) (k := 0) rfl
      simp only [List.cons_append, setAt] at s6
      have s7 : Sat w0 _ ([pt (w.heap.size + 1) _] ++ (m' ++ pt w.heap.size (.deferred (some [])) :: r)) := s6
      exact s7.right.perm List.perm_middle
    have f' : Fr n (mark w.heap.size :: ds) env { a with defers := [mark w.heap.size] ++ a.defers } := ⟨f.size, by simp [f.defers], f.has⟩
    cases st with
    | none => exact kn w.heap.size m' hq _ _ f' s5
    | some c => exact kc w.heap.size c m' hq _ _ f' s5

def isRet : Code → Bool
  | .ret => true
  | _ => false
theorem isRet_eq {c : Code} (h : isRet c = true) : c = .ret := by cases c <;> simp_all [isRet]
def isExit (id : Nat) : Code → Bool
  | .exit i => Nat.beq i id
  | _ => false
theorem isExit_eq {c : Code} {id : Nat} (h : isExit id c = true) : c = .exit id := by cases c <;> simp_all [isExit]
/-! ### 5. A sequence of which the rounds touch nothing -/
theorem Tri.conv {P : Program} {w0 : World} {f : FuncId} {args : List Value} {pre pre' : List HP} {Post Post' : Value → List HP → Prop} (h : Tri P w0 f args pre Post) (h1 : ∀ F w, Sat w0 w (pre' ++ F) → Sat w0 w (pre ++ F))
    (h2 : ∀ F w v m, Post v m → Sat w0 w (m ++ F) → ∃ m', Post' v m' ∧ Sat w0 w (m' ++ F)) : Tri P w0 f args pre' Post' :=
  fun F w s => (h F w (h1 F w s)).mono fun e w' ⟨v, m, a, b, c⟩ => let ⟨m', x, y⟩ := h2 F w' v m b c; ⟨v, m', a, x, y⟩
theorem YTri.conv {P : Program} {w0 : World} {l0 : Nat} {args : List Value} {pre pre' : List HP} {Post Post' : Value → List HP → Prop} (h : YTri P w0 l0 args pre Post) (h1 : ∀ F w, Sat w0 w (pre' ++ F) → Sat w0 w (pre ++ F))
    (h2 : ∀ F w v m, Post v m → Sat w0 w (m ++ F) → ∃ m', Post' v m' ∧ Sat w0 w (m' ++ F)) : YTri P w0 l0 args pre' Post' :=
  fun F w s => let ⟨fn, tmps, assign, body, a, b⟩ := h F w (h1 F w s); ⟨fn, tmps, assign, body, a, b.mono fun e w' ⟨v, m, x, y, z⟩ => let ⟨m', p, q⟩ := h2 F w' v m y z; ⟨v, m', x, p, q⟩⟩
/-- What yield hands back, and the atom that it leaves: T if the loop goes on, D if it is left. -/
def YPost (T D : HP) (v : Value) (m : List HP) : Prop := ∃ b : Bool, v = .bool b ∧ m = [match b with | true => T | false => D]
/-- How a sequence of n ends: all were told (J n), or the loop was left at the k-th (D k). -/
def SPost (n : Nat) (J D : Nat → HP) (pre : List HP) (v : Value) (m : List HP) : Prop := ∃ (k : Nat) (s : Bool), (s = true → k = n) ∧ (s = false → k < n) ∧ v = .tuple #[] ∧ m = (match s with | true => J k | false => D k) :: pre
/-- A sequence's contract. -/
def Seq (P : Program) (w0 : World) (gf : Nat) (caps : List Value) (pre : List HP) (N : Nat) (arg : Nat → List Value) : Prop :=
  ∀ l0 (J D : Nat → HP), (∀ k, k < N → YTri P w0 l0 (arg k) [J k] (YPost (J (k + 1)) (D k))) → Tri P w0 gf (.func (.yield l0) #[] #[] :: caps) (J 0 :: pre) (SPost N J D pre)
def RQ (l0 : Nat) (r : Loop) (T : HP) (E : Code → HP) (v : Value) (m : List HP) : Prop :=
  (v = .bool true ∧ m = [pt l0 (.loop { r with state := .ready, pending := none }), T]) ∨ ∃ c, v = .bool false ∧ m = [pt l0 (.loop { r with state := .done, pending := some c }), E c]
theorem at_rangeSeq {P : Program} {w0 : World} {n : Nat} {ds : List Deferred} {env : Env} {l : List HP} {Q : Exit → Act → World → Prop} {g : Operand} {psl : List Tmp} {assign body : Code} {gf : Nat} {caps : List Value} {pre r : List HP} (ks : List Nat)
    (N : Nat) (arg : Nat → List Value) (B : Nat → HP) (E : Nat → Code → HP) (hg : ev env g = some (.func (.func gf) #[] caps.toArray)) (hf : ∀ (args : Array Value) (w : World), (callFunc gf args).run P w = .ok (.enter gf args) w) (hks : pulls ks l = some (B 0 :: pre, r))
    (iter : Seq P w0 gf caps pre N arg) (hn : (psl.all fun t => Nat.blt t n) = true) (hxs : ∀ k, Nat.beq (arg k).length psl.length = true)
    (round : ∀ l0 rc k, k < N → rc.state = .ready → ∀ F, At w0 n [] (gwp (some l0) P assign (Exit.then (RMid P l0 (gwp (some l0) P body (RPost P w0 l0 (RQ l0 rc (B (k + 1)) (E k)) F))) fun _ _ _ => False)) (binds psl (arg k) env) (pt l0 (.loop rc) :: B k :: F))
    (kn : ∀ d, At w0 n (mark d :: ds) (Q .normal) env (pt d (.deferred (some [])) :: B N :: (pre ++ r)))
    (kc : ∀ d k c, k < N → At w0 n (mark d :: ds) (gwp none P c Q) env (pt d (.deferred (some [])) :: E k c :: (pre ++ r))) :
    At w0 n ds (gwp none P (.rangeFunc g psl.toArray assign body) Q) env l := by
  refine at_rangeFunc ks (fun st m => match st with | none => m = B N :: pre | some c => ∃ k, k < N ∧ m = E k c :: pre) hg hf hks ?_ ?_ ?_
  · intro fn d l0 tmps ht
    obtain ⟨rc, hrc⟩ : ∃ rc, recO fn d tmps psl.toArray assign body .ready none = rc := ⟨_, rfl⟩
    rw [hrc]
    have hT : ∀ k, k < N → YTri P w0 l0 (arg k) [star [pt l0 (.loop rc), B k]] (YPost (star [pt l0 (.loop rc), B (k + 1)]) (fun h => ∃ c, star [pt l0 (.loop { rc with state := .done, pending := some c }), E k c] h)) := by
      intro k hx
      have hy : YTri P w0 l0 (arg k) [pt l0 (.loop rc), B k] (RQ l0 rc (B (k + 1)) (E k)) := by
        refine ytri_of (n := n) (env := env) (k := 0) psl (by rw [← hrc]) rfl (by rw [← hrc]; exact ht) (hxs k) hn ?_
        intro F
        have := round l0 rc k hx (by rw [← hrc]) F
        rw [← hrc] at this ⊢
        exact this
      refine hy.conv (fun F w s => s.open_) ?_
      rintro F w v m (⟨rfl, rfl⟩ | ⟨c, rfl, rfl⟩) s
      · refine ⟨[star [pt l0 (.loop rc), B (k + 1)]], ⟨true, rfl, rfl⟩, ?_⟩
        have e : ({ rc with state := .ready, pending := none } : Loop) = rc := by rw [← hrc]
        rw [e] at s
        exact Sat.shut s
      · refine ⟨[fun h => ∃ c, star [pt l0 (.loop { rc with state := .done, pending := some c }), E k c] h], ⟨false, rfl, rfl⟩, ?_⟩
        have s1 := Sat.shut (m := [pt l0 (.loop { rc with state := .done, pending := some c }), E k c]) s
        exact s1.imp fun h k => by obtain ⟨x, y, hx, r⟩ := k; exact ⟨x, y, ⟨c, hx⟩, r⟩
    refine (iter l0 _ _ hT).conv (fun F w s => ?_) ?_
    · exact Sat.shut (m := [pt l0 (.loop rc), B 0]) s
    · rintro F w v m ⟨k, b, h1, h2, rfl, rfl⟩ s
      cases b with
      | true =>
        have := h1 rfl
        subst this
        exact ⟨_, ⟨none, _, rfl, by simp only [stOf]; rw [hrc]⟩, s.open_⟩
      | false =>
        obtain ⟨c, s1⟩ := s.ex
        exact ⟨_, ⟨some c, _, ⟨k, h2 rfl, rfl⟩, rfl⟩, by rw [← hrc] at s1; exact s1.open_⟩
  · rintro d m' hm
    have hm : m' = B N :: pre := hm
    subst hm; exact kn d
  · rintro d c m' ⟨k, hk, rfl⟩
    exact kc d k c hk
/-- A sequence's contract, the steps told by a relation. -/
def SeqI {ι : Type} (P : Program) (w0 : World) (gf : Nat) (caps : List Value) (pre : List HP) (i0 : ι) (Step : ι → List Value → ι → Prop) (Fin : ι → Prop) : Prop :=
  ∀ l0 (J D : ι → HP), (∀ i a i', Step i a i' → YTri P w0 l0 a [J i] (YPost (J i') (D i))) → Tri P w0 gf (.func (.yield l0) #[] #[] :: caps) (J i0 :: pre) fun v m => ∃ (i : ι) (s : Bool), (s = true → Fin i) ∧ v = .tuple #[] ∧ m = (match s with | true => J i | false => D i) :: pre
theorem at_rangeStep {ι : Type} {P : Program} {w0 : World} {n : Nat} {ds : List Deferred} {env : Env} {l : List HP} {Q : Exit → Act → World → Prop} {g : Operand} {psl : List Tmp} {assign body : Code} {gf : Nat} {caps : List Value} {pre r : List HP} (ks : List Nat)
    (i0 : ι) (Step : ι → List Value → ι → Prop) (Fin : ι → Prop) (B : ι → HP) (E : ι → Code → HP) (hg : ev env g = some (.func (.func gf) #[] caps.toArray)) (hf : ∀ (args : Array Value) (w : World), (callFunc gf args).run P w = .ok (.enter gf args) w) (hks : pulls ks l = some (B i0 :: pre, r))
    (iter : SeqI P w0 gf caps pre i0 Step Fin) (hn : (psl.all fun t => Nat.blt t n) = true) (hxs : ∀ i a i', Step i a i' → Nat.beq a.length psl.length = true)
    (round : ∀ l0 rc i a i', Step i a i' → rc.state = .ready → ∀ F, At w0 n [] (gwp (some l0) P assign (Exit.then (RMid P l0 (gwp (some l0) P body (RPost P w0 l0 (RQ l0 rc (B i') (E i)) F))) fun _ _ _ => False)) (binds psl a env) (pt l0 (.loop rc) :: B i :: F))
    (kn : ∀ d i, Fin i → At w0 n (mark d :: ds) (Q .normal) env (pt d (.deferred (some [])) :: B i :: (pre ++ r)))
    (kc : ∀ d k c, At w0 n (mark d :: ds) (gwp none P c Q) env (pt d (.deferred (some [])) :: E k c :: (pre ++ r))) :
    At w0 n ds (gwp none P (.rangeFunc g psl.toArray assign body) Q) env l := by
  refine at_rangeFunc ks (fun st m => match st with | none => ∃ i, Fin i ∧ m = B i :: pre | some c => ∃ k, m = E k c :: pre) hg hf hks ?_ ?_ ?_
  · intro fn d l0 tmps ht
    obtain ⟨rc, hrc⟩ : ∃ rc, recO fn d tmps psl.toArray assign body .ready none = rc := ⟨_, rfl⟩
    rw [hrc]
    have hT : ∀ k a k', Step k a k' → YTri P w0 l0 a [star [pt l0 (.loop rc), B k]] (YPost (star [pt l0 (.loop rc), B k']) (fun h => ∃ c, star [pt l0 (.loop { rc with state := .done, pending := some c }), E k c] h)) := by
      intro k a k' hx
      have hy : YTri P w0 l0 a [pt l0 (.loop rc), B k] (RQ l0 rc (B k') (E k)) := by
        refine ytri_of (n := n) (env := env) (k := 0) psl (by rw [← hrc]) rfl (by rw [← hrc]; exact ht) (hxs k a k' hx) hn ?_
        intro F
        have := round l0 rc k a k' hx (by rw [← hrc]) F
        rw [← hrc] at this ⊢
        exact this
      refine hy.conv (fun F w s => s.open_) ?_
      rintro F w v m (⟨rfl, rfl⟩ | ⟨c, rfl, rfl⟩) s
      · refine ⟨[star [pt l0 (.loop rc), B k']], ⟨true, rfl, rfl⟩, ?_⟩
        have e : ({ rc with state := .ready, pending := none } : Loop) = rc := by rw [← hrc]
        rw [e] at s
        exact Sat.shut s
      · refine ⟨[fun h => ∃ c, star [pt l0 (.loop { rc with state := .done, pending := some c }), E k c] h], ⟨false, rfl, rfl⟩, ?_⟩
        have s1 := Sat.shut (m := [pt l0 (.loop { rc with state := .done, pending := some c }), E k c]) s
        exact s1.imp fun h k => by obtain ⟨x, y, hx, r⟩ := k; exact ⟨x, y, ⟨c, hx⟩, r⟩
    refine (iter l0 _ _ hT).conv (fun F w s => ?_) ?_
    · exact Sat.shut (m := [pt l0 (.loop rc), B i0]) s
    · rintro F w v m ⟨k, b, h1, rfl, rfl⟩ s
      cases b with
      | true =>
        exact ⟨_, ⟨none, _, ⟨k, h1 rfl, rfl⟩, by simp only [stOf]; rw [hrc]⟩, s.open_⟩
      | false =>
        obtain ⟨c, s1⟩ := s.ex
        exact ⟨_, ⟨some c, _, ⟨k, rfl⟩, rfl⟩, by rw [← hrc] at s1; exact s1.open_⟩
  · rintro d m' ⟨i, hi, rfl⟩
    exact kn d i hi
  · rintro d c m' ⟨k, rfl⟩
    exact kc d k c
end Go.Proofs.YtmedbdcjniggcaaDoor.SL
