/- Strings: bytes and strings turned into one another, a string's bytes and parts; buffers of bytes (strings.Builder). -/
import Derived.Test.YtmedbdcjniggcaaDoorSLDefer
import Derived.Laws.IdiomStrings
import Derived.Laws.RangeString
import Derived.Lib.AppendStr
import Derived.Lib.UnsafeStr
import Derived.Lib.Strings
import Derived.Lib.Builder
import Derived.Scope
import Derived.Lib.BufferRead
set_option linter.unusedVariables false
set_option linter.unusedSimpArgs false
namespace Go.Proofs.YtmedbdcjniggcaaDoor.SL
open Go Go.RowKit
/-! ### A scope of labels through which no goto goes -/
theorem wpIn_scope {F : Fence} {n : Nat} {P : Program} {Q : Exit → Act → World → Prop} {a : Act} {w : World} {c : Code} (h : c.wpIn F n P (Exit.noGoto Q) a w) : (Code.scope c).wpIn F n P Q a w := by
  intro b k cs hro hb hr
  have st : step P (lone (b.atR a (.code (.scope c) :: k)) cs w) = .next (lone (b.atR a (.code c :: .inScope c :: k)) cs w) := step_lone_go (by simp [stepG, stepG.exec, Frame.atR])
  have h0 : (lone (b.atR a (.code (.scope c) :: k)) cs w).fenced P F := fenced_calm hb hr rfl
  obtain ⟨e, a₁, w₁, hq, harr⟩ := h b (.inScope c :: k) cs hro hb hr
  cases e with
  | normal =>
    have s2 : step P (lone (b.atR a₁ (.inScope c :: k)) cs w₁) = .next (lone (b.atR a₁ k) cs w₁) := step_lone_go (by simp [stepG, stepG.exec, Frame.atR])
    exact ⟨.normal, a₁, w₁, hq, .head h0 st (StepsIn.trans harr (.one (fenced_calm hb hr rfl) s2))⟩
  | exit id => exact ⟨.exit id, a₁, w₁, hq, fun k' hk => .head h0 st (harr.1 k' (by simp [exitTo, hk])), fun hs hk => let ⟨k₁, x, y⟩ := harr.2 hs (by simp [exitTo, hk]); ⟨k₁, x, .head h0 st y⟩⟩
  | goto l => exact hq.elim
  | ret => exact ⟨_, a₁, w₁, hq, .of_steps (.one h0 st) harr⟩
  | panic ch => exact ⟨_, a₁, w₁, hq, .of_steps (.one h0 st) harr⟩
  | outgrown => exact ⟨_, a₁, w₁, hq, .of_steps (.one h0 st) harr⟩
section
variable {ro : Option Nat} {w0 : World} {P : Program} {n : Nat} {ds : List Deferred} {env : Env} {l : List HP} {Q : Exit → Act → World → Prop}
theorem at_scope {c : Code} (h : At w0 n ds (gwp ro P c (Exit.noGoto Q)) env l) : At w0 n ds (gwp ro P (Code.scope c) Q) env l := fun a w f s => wpIn_scope (h a w f s)
theorem at_label {lb : Nat} (h : At w0 n ds (Q .normal) env l) : At w0 n ds (gwp ro P (Code.label lb) Q) env l := fun a w f s => wpIn_label (h a w f s)
theorem at_ng_normal (h : At w0 n ds (Q .normal) env l) : At w0 n ds (Exit.noGoto Q .normal) env l := h
theorem at_ng_ret (h : At w0 n ds (Q .ret) env l) : At w0 n ds (Exit.noGoto Q .ret) env l := h
theorem at_ng_exit {id : Nat} (h : At w0 n ds (Q (.exit id)) env l) : At w0 n ds (Exit.noGoto Q (.exit id)) env l := h
end
abbrev BL := List UInt8
/-- A string, of its bytes. -/
abbrev SV (l : BL) : Value := .string ⟨l.toArray⟩
def bcell (b : UInt8) : Value := .int .u8 (b.toNat : Int)
def bE (b : UInt8) : List Value := [.int .u8 (b.toNat : Int)]
def sE (s : ByteArray) : List Value := [.string s]
theorem ba_list (s : ByteArray) : (⟨s.data.toList.toArray⟩ : ByteArray) = s := by cases s; rfl
theorem ba_app (a b : BL) : (⟨a.toArray⟩ : ByteArray) ++ ⟨b.toArray⟩ = ⟨(a ++ b).toArray⟩ := by
  apply WideShapes.bytes_inj; simp
theorem ba_inj {a b : BL} (h : (⟨a.toArray⟩ : ByteArray) = ⟨b.toArray⟩) : a = b := by
  have := congrArg (fun x : ByteArray => x.data.toList) h
  simpa using this
theorem ba_dec (a b : BL) : decide ((⟨a.toArray⟩ : ByteArray) = ⟨b.toArray⟩) = decide (a = b) := by
  by_cases h : a = b
  · subst h; simp
  · rw [decide_eq_false h, decide_eq_false (fun e => h (ba_inj e))]
theorem ba_extract (l : BL) (i j : Nat) : (⟨l.toArray⟩ : ByteArray).extract i j = ⟨((l.take j).drop i).toArray⟩ := by
  apply WideShapes.bytes_inj
  rw [ByteArray.data_extract]
  simp [List.extract_eq_take_drop, List.drop_take]
theorem ba_get (l : BL) {i : Nat} {b : UInt8} (h : l[i]? = some b) : (⟨l.toArray⟩ : ByteArray)[i]? = some b := by
  obtain ⟨h1, h2⟩ := List.getElem?_eq_some_iff.1 h
  have h3 : i < (⟨l.toArray⟩ : ByteArray).size := h1
  rw [getElem?_pos _ i h3]
  exact congrArg some h2
section
variable {P : Program} {w0 : World} {n : Nat} {ds : List Deferred} {env : Env} {l : List HP} {o : Oper}
theorem ov_neg {t : TypeId} {x : Operand} {k : IntKind} {a : Int} (ho : o.op = .unOp .neg t x) (hx : ev env x = some (.int k a)) : OpV P w0 n ds env l o (.int k (k.wrap (-a))) := fun fr w f s => by
  unfold execOp; rw [ho]; simp [f.eval hx, Op.unary, Op.intArith]
/-- 'string(b)'. -/
theorem ov_bytesStr {src dst e : TypeId} {x : Operand} {A : Option Addr} {c : Nat} {bs : List UInt8} (hr : ∀ w, Sat w0 w l → Rd bE w 1 A bs) (hA : ∃ ad, A = some ad) (ho : o.op = .convert src dst x) (hs : P.underlying src = some (.slice e)) (he : P.underlying e = some (.int .u8)) (hd : P.underlying dst = some .string)
    (hx : ev env x = some (.slice A bs.length c)) : OpV P w0 n ds env l o (.string ⟨bs.toArray⟩) := fun fr w f s => by
  obtain ⟨ad, rfl⟩ := hA
  unfold execOp
  rw [ho]
  have h := run_convert_bytes_back (P := P) w src dst e ad c bs hs he hd (fun j hj => by
    have := (hr w s).cells (List.getElem?_eq_getElem hj) (j := 0) (u := .int .u8 (bs[j].toNat : Int)) rfl
    simpa using this)
  simp [f.eval hx, h]
theorem ov_bytesStr2 {src dst e : TypeId} {x : Operand} {A : Option Addr} {c : Nat} {bs : List UInt8} (hr : ∀ w, Sat w0 w l → Rd bE w 1 A bs) (ho : o.op = .convert src dst x) (hs : P.underlying src = some (.slice e)) (he : P.underlying e = some (.int .u8)) (hd : P.underlying dst = some .string)
    (hx : ev env x = some (.slice A bs.length c)) : OpV P w0 n ds env l o (.string ⟨bs.toArray⟩) := by
  cases A with
  | some ad => exact ov_bytesStr hr ⟨_, rfl⟩ ho hs he hd hx
  | none =>
    intro fr w f s
    have h0 : bs = [] := by
      rcases Classical.em (bs = []) with h | h
      · exact h
      · obtain ⟨_, h, _⟩ := (hr w s).at_ h; cases h
    subst h0
    unfold execOp
    rw [ho]
    have := Lib.run_convert_nil_bytes (P := P) w src dst e c hs he hd
    simp only [f.eval hx, List.length_nil]
    rw [Sem.run_bind, this]
    rfl
/-- Strings held against one another, by their bytes. -/
def strBinL (op : BinOp) (x y : BL) : Option Value :=
  match op with
  | .eql => some (.bool (decide (x = y)))
  | .neq => some (.bool (!decide (x = y)))
  | _ => none
theorem ov_strL {op : BinOp} {xt yt : TypeId} {x y : Operand} {a b : BL} {v : Value} (ho : o.op = .binOp op xt x y yt) (hx : ev env x = some (SV a)) (hy : ev env y = some (SV b))
    (hv : strBinL op a b = some v) : OpV P w0 n ds env l o v := by
  refine ov_str ho hx hy ?_
  cases op <;> simp [strBinL] at hv <;> subst hv <;> simp [strBin, ba_dec, -ByteArray.mk.injEq]
theorem ov_catL {xt yt : TypeId} {x y : Operand} {a b : BL} (ho : o.op = .binOp .add xt x y yt) (hx : ev env x = some (SV a)) (hy : ev env y = some (SV b))
    (hsz : a.length + b.length ≤ 9223372036854775807) : OpV P w0 n ds env l o (SV (a ++ b)) :=
  (ov_cat ho hx hy hsz).eq (by rw [ba_app])
theorem ov_len_strL {t : TypeId} {x : Operand} {b : BL} (ho : o.op = .call { callee := .builtin .len, args := #[x], argTypes := #[t] }) (ht : P.underlying t = some .string)
    (hx : ev env x = some (SV b)) : OpV P w0 n ds env l o (.int .i64 b.length) := ov_len_string ho ht hx
/-- A string's byte. -/
theorem ov_indexL {t : TypeId} {x ix : Operand} {a : BL} {k : IntKind} {i : Nat} {b : UInt8} {j : Int} (ho : o.op = .index t x ix) (ht : P.underlying t = some .string) (hx : ev env x = some (SV a)) (hi : ev env ix = some (.int k j)) (hb : a[i]? = some b) (hj : j = (i : Nat)) :
    OpV P w0 n ds env l o (.int .u8 (b.toNat : Int)) := fun fr w f s => by
  subst hj
  unfold execOp
  rw [ho]
  have := ba_get a hb
  simp [f.eval hx, f.eval hi, Instr.index, run_und ht, asIntOf, this]
/-- A string's part. -/
theorem ov_sliceFromL {t : TypeId} {x lo : Operand} {a : BL} {ik : IntKind} {k : Nat} {j : Int} (ho : o.op = .slice t x (some lo) none none) (ht : P.underlying t = some .string) (hx : ev env x = some (SV a)) (hl : ev env lo = some (.int ik j)) (hj : j = (k : Nat)) (hk : k ≤ a.length) :
    OpV P w0 n ds env l o (SV (a.drop k)) := fun fr w f s => by
  subst hj
  unfold execOp
  rw [ho]
  have hk' : (k : Int) ≤ (a.length : Int) := by omega
  have hsz : (⟨a.toArray⟩ : ByteArray).size = a.length := rfl
  have he : (⟨a.toArray⟩ : ByteArray).extract k a.length = ⟨(a.drop k).toArray⟩ := by rw [ba_extract, List.take_length]
  simp [Instr.sliceAt, run_und ht, Instr.slice, Instr.sliceBounds, Instr.sliceBound, f.eval hx, f.eval hl, asIntOf, hk', hsz, he]
  intro h; omega
theorem ov_sliceToL {t : TypeId} {x hi : Operand} {a : BL} {ik : IntKind} {k : Nat} {j : Int} (ho : o.op = .slice t x none (some hi) none) (ht : P.underlying t = some .string) (hx : ev env x = some (SV a)) (hl : ev env hi = some (.int ik j)) (hj : j = (k : Nat)) (hk : k ≤ a.length) :
    OpV P w0 n ds env l o (SV (a.take k)) := fun fr w f s => by
  subst hj
  unfold execOp
  rw [ho]
  have hk' : (k : Int) ≤ (a.length : Int) := by omega
  have hsz : (⟨a.toArray⟩ : ByteArray).size = a.length := rfl
  have he : (⟨a.toArray⟩ : ByteArray).extract 0 k = ⟨(a.take k).toArray⟩ := by rw [ba_extract, List.drop_zero]
  simp [Instr.sliceAt, run_und ht, Instr.slice, Instr.sliceBounds, Instr.sliceBound, f.eval hx, f.eval hl, asIntOf, hk', hsz, he]
  intro h; omega
theorem ov_sliceMidL {t : TypeId} {x lo hi : Operand} {a : BL} {ik ik2 : IntKind} {k k2 : Nat} {j j2 : Int} (ho : o.op = .slice t x (some lo) (some hi) none) (ht : P.underlying t = some .string) (hx : ev env x = some (SV a)) (hl : ev env lo = some (.int ik j)) (hh : ev env hi = some (.int ik2 j2)) (hj : j = (k : Nat)) (hj2 : j2 = (k2 : Nat)) (hk : k ≤ k2) (hk2 : k2 ≤ a.length) :
    OpV P w0 n ds env l o (SV ((a.take k2).drop k)) := fun fr w f s => by
  subst hj; subst hj2
  unfold execOp
  rw [ho]
  have hk' : (k : Int) ≤ (k2 : Int) := by omega
  have hk2' : (k2 : Int) ≤ (a.length : Int) := by omega
  have hsz : (⟨a.toArray⟩ : ByteArray).size = a.length := rfl
  simp [Instr.sliceAt, run_und ht, Instr.slice, Instr.sliceBounds, Instr.sliceBound, f.eval hx, f.eval hl, f.eval hh, asIntOf, hk', hk2', hsz, ba_extract]
  rw [if_pos hk2, if_pos hk]
/-! ### Ranges over strings -/
def StrIt (r : Nat) (a : BL) (pos : Nat) : HP := pt r (.stringIter ⟨a.toArray⟩ pos)
theorem ot_rangeStr {t : TypeId} {x : Operand} {a : BL} (ho : o.op = .range t x) (ht : P.underlying t = some .string) (hx : ev env x = some (SV a)) : OpT P w0 n ds env l o fun v l' => ∃ r, v = ptrTo r ∧ l' = StrIt r a 0 :: l := fun fr w f s => by
  unfold Oper.goesV execOp
  rw [ho]
  simp [f.eval hx, run_range_string w t _ ht]
  exact s.alloc _
theorem ot_nextStr {x : Operand} {a : BL} {r k pos : Nat} {b : UInt8} (ho : o.op = .next x true) (hx : ev env x = some (ptrTo r)) (hk : nth k l = some (StrIt r a pos)) (hb : a[pos]? = some b) (hasc : b.toNat < 128) :
    OpT P w0 n ds env l o fun v l' => v = .tuple #[.bool true, .int .i64 (pos : Nat), .int .i32 (b.toNat : Int)] ∧ l' = setAt k (StrIt r a (pos + 1)) l := fun fr w f s => by
  unfold Oper.goesV execOp
  rw [ho]
  have hr := (s.blk hk).1
  obtain ⟨h1, h2⟩ := List.getElem?_eq_some_iff.1 hb
  have hlt : pos < (⟨a.toArray⟩ : ByteArray).size := h1
  have hget : (⟨a.toArray⟩ : ByteArray)[pos]'hlt = b := h2
  have hd := decode_ascii ⟨a.toArray⟩ pos hlt (by rw [hget]; exact hasc)
  rw [hget] at hd
  have hrun : (Instr.next (ptrTo r) true o.type).run P w = .ok (.tuple #[.bool true, .int .i64 (pos : Nat), .int .i32 (b.toNat : Int)]) (w.putObj r (.stringIter ⟨a.toArray⟩ (pos + 1))) := by
    simp only [Instr.next, getObj, setObj, Sem.run_bind, Sem.run, hr, Result.andThen, hlt, if_true, hd]
    simp [goInt, Sem.run, hr, World.putObj]
  simp [f.eval hx, hrun]
  exact s.putO _ hk
theorem ov_nextEnd {x : Operand} {a : BL} {r k : Nat} (ho : o.op = .next x true) (hx : ev env x = some (ptrTo r)) (hk : nth k l = some (StrIt r a a.length)) : OpV P w0 n ds env l o (.tuple #[.bool false]) := fun fr w f s => by
  unfold execOp
  rw [ho]
  have hr := (s.blk hk).1
  have hlt : ¬ a.length < (⟨a.toArray⟩ : ByteArray).size := Nat.lt_irrefl _
  simp [f.eval hx, Instr.next, getObj, Sem.run, hr, hlt]
/-! ### Buffers -/
/-- Bytes that are held: nil, or a block's first ones. -/
def BufA (e : TypeId) (A : Option Addr) (c : Nat) (bs : BL) : HP := fun h => (A = none ∧ c = 0 ∧ bs = []) ∨
  ∃ g cur, A = some ⟨g, 0, none⟩ ∧ h g = some (.cells cur e (0, 0)) ∧ bs.length ≤ c ∧ 0 < c ∧ c ≤ maxLen ∧ c ≤ cur.size ∧ cur.toList.take bs.length = bs.map bcell
theorem at_buf {R : Act → World → Prop} {e : TypeId} {A : Option Addr} {c : Nat} {bs : BL} (h1 : A = none → c = 0 → bs = [] → At w0 n ds R env l)
    (h2 : ∀ g cur, A = some ⟨g, 0, none⟩ → bs.length ≤ c → 0 < c → c ≤ maxLen → c ≤ cur.size → cur.toList.take bs.length = bs.map bcell → At w0 n ds R env (cl g cur e :: l)) : At w0 n ds R env (BufA e A c bs :: l) := fun a w f s => by
  obtain ⟨bel, h, ⟨ha, hb, hA, hl, hd, la, lb⟩, hh⟩ := s
  rcases hA with ⟨e1, e2, e3⟩ | ⟨g, cur, e1, e2, e3, e4, e5, e6, e7⟩
  · exact h1 e1 e2 e3 a w f ⟨bel, h, star_mono lb hl, hh⟩
  · exact h2 g cur e1 e3 e4 e5 e6 e7 a w f ⟨bel, h, ⟨ha, hb, e2, hl, hd, la, lb⟩, hh⟩
theorem at_bufNil {R : Act → World → Prop} (e : TypeId) (k : At w0 n ds R env (BufA e none 0 [] :: l)) : At w0 n ds R env l :=
  fun a w f s => k a w f (s.imp fun h t => ⟨fun _ => none, h, .inl ⟨rfl, rfl, rfl⟩, t, fun _ => .inl rfl, (fun _ _ e => by cases e), Le.refl _⟩)
theorem Sat.toBuf {w : World} {r : List HP} {g c : Nat} {cur : Array Value} {e : TypeId} {bs : BL} (s : Sat w0 w (cl g cur e :: r)) (h1 : bs.length ≤ c) (h2 : 0 < c) (h3 : c ≤ maxLen) (h4 : c ≤ cur.size) (h5 : cur.toList.take bs.length = bs.map bcell) : Sat w0 w (BufA e (some ⟨g, 0, none⟩) c bs :: r) :=
  s.imp fun h ⟨a, b, hA, hr⟩ => ⟨a, b, .inr ⟨g, cur, rfl, hA, h1, h2, h3, h4, h5⟩, hr⟩
/-- Bytes are put behind. -/
theorem buf_step {w : World} {k : Nat} {e : TypeId} {A : Option Addr} {c0 : Nat} {bs ys : BL} (m : Sem Value) (s : Sat w0 w l) (hk : nth k l = some (BufA e A c0 bs)) (hys : ys ≠ []) (hsz : bs.length + ys.length ≤ 1000000)
    (hnil : A = none → c0 = 0 → bs = [] → m.run P w = .ok (.slice (some ⟨w.heap.size, 0, none⟩) ys.length (grownCap w ys.length 0 e)) (w.drew.alloc (.cells ((ys.map bcell).toArray ++ Builtin.zeroCells #[.int .u8 0] (grownCap w ys.length 0 e - ys.length)) e)))
    (hroom : ∀ g c cur, A = some ⟨g, 0, none⟩ → c0 = c → w.heap[g]? = some (.cells cur e (0, 0)) → bs.length + ys.length ≤ c → c ≤ cur.size →
      m.run P w = .ok (.slice (some ⟨g, 0, none⟩) (bs.length + ys.length) c) (w.setRow g (cur.toList.take bs.length ++ ys.map bcell ++ cur.toList.drop (bs.length + ys.length)).toArray))
    (hgrow : ∀ g c cur, A = some ⟨g, 0, none⟩ → c0 = c → w.heap[g]? = some (.cells cur e (0, 0)) → c < bs.length + ys.length → (∀ (j : Nat) u, (bs.map bcell)[j]? = some u → w.cell? ((⟨g, 0, none⟩ : Addr).add j) = some u) →
      m.run P w = .ok (.slice (some ⟨w.heap.size, 0, none⟩) (bs.length + ys.length) (grownCap w (bs.length + ys.length) c e)) (w.drew.alloc (.cells ((bs.map bcell).toArray ++ (ys.map bcell).toArray ++ Builtin.zeroCells #[.int .u8 0] (grownCap w (bs.length + ys.length) c e - (bs.length + ys.length))) e))) :
    ∃ A' c' w', m.run P w = .ok (.slice A' (bs ++ ys).length c') w' ∧ Sat w0 w' (setAt k (BufA e A' c' (bs ++ ys)) l) := by
  obtain ⟨r, hperm, hset⟩ := nth_pull hk
  have s1 := s.perm hperm
  have hpos : 0 < ys.length := List.length_pos_iff.2 hys
  have hlen : (bs ++ ys).length = bs.length + ys.length := by simp
  have fresh : ∀ old, Sat w0 (w.drew.alloc (.cells ((bs.map bcell).toArray ++ (ys.map bcell).toArray ++ Builtin.zeroCells #[.int .u8 0] (grownCap w (bs.length + ys.length) old e - (bs.length + ys.length))) e))
      (setAt k (BufA e (some ⟨w.heap.size, 0, none⟩) (grownCap w (bs.length + ys.length) old e) (bs ++ ys)) l) := by
    intro old
    have hge := grownCap_ge w (bs.length + ys.length) old e
    have hcm : grownCap w (bs.length + ys.length) old e ≤ maxLen := grownCap_le_maxLen w _ old e (by simp only [maxLen]; omega)
    have sr : Sat w0 w r := (show Sat w0 w ([BufA e A c0 bs] ++ r) from s1).right
    have s2 : Sat w0 w.drew r := ⟨⟨sr.below.os, sr.below.tape, sr.below.output, sr.below.size, sr.below.block⟩, sr.here⟩
    refine Sat.perm (Sat.toBuf (s2.alloc _) (by rw [hlen]; exact hge) (by omega) hcm ?_ ?_) (hset _).symm
    · simp only [Array.size_append, List.size_toArray, List.length_map, size_zeroCells]
      simp
      omega
    · simp only [Array.toList_append, List.append_assoc]
      rw [← List.append_assoc, ← List.map_append, List.take_append_of_le_length (by simp), List.take_of_length_le (by simp)]
  obtain ⟨bel, h, ⟨ha, hb, hA, hl, hd, la, lb⟩, hh⟩ := s1
  rcases hA with ⟨e1, e0, e2⟩ | ⟨g, cur, e1, e2, e3, e4, e5, e6, e7⟩
  · have hf := fresh 0
    have hr := hnil e1 e0 e2
    subst e2
    simp only [List.length_nil, Nat.zero_add, List.map_nil, List.nil_append] at hf ⊢
    exact ⟨_, _, _, hr, by simpa using hf⟩
  · have hg := (hh g _ (la _ _ e2)).2
    by_cases hrm : bs.length + ys.length ≤ c0
    · have hr := hroom g c0 cur e1 rfl hg hrm e6
      refine ⟨some ⟨g, 0, none⟩, c0, (w.setRow g (cur.toList.take bs.length ++ ys.map bcell ++ cur.toList.drop (bs.length + ys.length)).toArray), by rw [hlen]; exact hr, ?_⟩
      have sg : Sat w0 w (cl g cur e :: r) := ⟨bel, h, ⟨ha, hb, e2, hl, hd, la, lb⟩, hh⟩
      have s2 : Sat w0 (w.setRow g (cur.toList.take bs.length ++ ys.map bcell ++ cur.toList.drop (bs.length + ys.length)).toArray) (pt g (.cells (cur.toList.take bs.length ++ ys.map bcell ++ cur.toList.drop (bs.length + ys.length)).toArray e) :: r) :=
        sg.put (k := 0) rfl (setRow_heap w g cur _ e _ hg) (fun x hx => setRow_other w g x _ hx) (by simp) rfl rfl rfl
      have := Sat.toBuf (bs := bs ++ ys) (c := c0) s2 (by rw [hlen]; exact hrm) e4 e5 (by simp only [List.size_toArray, List.length_append, List.length_take, List.length_drop, Array.length_toList, List.length_map]; omega) (by
        rw [e7, ← List.map_append]
        show ((bs ++ ys).map bcell ++ _).take _ = _
        rw [List.take_append_of_le_length (by simp), List.take_of_length_le (by simp)])
      exact this.perm (hset _).symm
    · refine ⟨some ⟨w.heap.size, 0, none⟩, grownCap w (bs.length + ys.length) c0 e, (w.drew.alloc (.cells ((bs.map bcell).toArray ++ (ys.map bcell).toArray ++ Builtin.zeroCells #[.int .u8 0] (grownCap w (bs.length + ys.length) c0 e - (bs.length + ys.length))) e)), ?_, ?_⟩
      · rw [hlen]; refine hgrow g c0 cur e1 rfl hg (by omega) ?_
        intro j u hu
        rw [add_none]
        simp only [World.cell?, hg, Nat.zero_add]
        rw [← e7, List.getElem?_take] at hu
        split at hu
        · simpa using hu
        · cases hu
      · have hf := fresh c0
        exact hf
theorem strCells_eq (b : BL) : Lib.strCells ⟨b.toArray⟩ = b.map bcell := by simp [Lib.strCells, bcell]
/-- An address made safe again. -/
theorem ov_fromUnsafe {src dst u e : TypeId} {j : TypeInfo} {x : Operand} {k b cells : Nat} {cs : Array Value} (ho : o.op = .convert src dst x) (hs : P.underlying src = some .unsafePointer) (hd : P.underlying dst = some (.pointer u)) (hu : P.info? u = some j)
    (hx : ev env x = some (ptrTo b)) (hk : nth k l = some (pt b (.cells cs e (0, 0)))) (hc : cs.size = cells) (hlies : liesAt P P.depth e (cells / P.cellsOf e) 0 u 1 = true) : OpV P w0 n ds env l o (ptrTo b) := fun a w f s => by
  unfold execOp
  rw [ho]
  have hg := (s.blk hk).1
  have hsh : w.shape? (⟨b, 0, none⟩ : Addr).block = some (e, cells) := by simp [World.shape?, hg, hc]
  simp [f.eval hx, Lib.run_from_unsafe w ⟨b, 0, none⟩ hs hd hu hsh hlies]
theorem ov_ptr_nsame {xt yt e : TypeId} {j : TypeInfo} {x y : Operand} {p : Addr} (ho : o.op = .binOp .neq xt x y yt) (ht : P.underlying xt = some (.pointer e)) (hj : P.info? e = some j) (hx : ev env x = some (.pointer (some p))) (hy : ev env y = some (.pointer (some p))) :
    OpV P w0 n ds env l o (.bool false) := fun fr w f s => by
  unfold execOp
  rw [ho]
  have h := Lib.run_neq_ptr_same (P := P) w p ht hj
  simp only [f.eval hx, f.eval hy]
  simp [eqGuard, h]
theorem Sat.drop0 {w : World} {A : HP} {k : Nat} {B : HP} (s : Sat w0 w l) (hk : nth k l = some A) (hA : ∀ h, A h → B h) : Sat w0 w (setAt k B l) := by
  obtain ⟨r, hr, hset⟩ := nth_pull hk
  refine Sat.perm ?_ (hset B).symm
  exact (s.perm hr).imp fun h ⟨a, b, hA', x⟩ => ⟨a, b, hA a hA', x⟩
theorem Sat.putFree {w w' : World} (s : Sat w0 w l) {k b : Nat} {o o' : Obj} (hk : nth k l = some (pt b o)) (hb : w'.heap[b]? = some o') (hother : ∀ c, c ≠ b → w'.heap[c]? = w.heap[c]?) (hsize : w'.heap.size = w.heap.size) (hos : w'.os = w.os) (htape : w'.tape = w.tape) (hout : w'.output = w.output) :
    Sat w0 w' (setAt k (fun _ => True) l) := by
  obtain ⟨r, hr, hset⟩ := nth_pull hk
  refine Sat.perm ?_ (hset _).symm
  have h2 : Sat w0 w' (pt b o' :: r) := (s.perm hr).put (k := 0) (b := b) (o := o) rfl hb hother hsize hos htape hout
  exact h2.imp fun h ⟨a, c, hA', x⟩ => ⟨a, c, trivial, x⟩
theorem ov_sliceData {t : TypeId} {x : Operand} {A : Option Addr} {m c : Nat} (ho : o.op = .call { callee := .builtin .unsafeSliceData, args := #[x], argTypes := #[t] }) (hx : ev env x = some (.slice A m c)) (hc : A = none ∨ c ≠ 0) : OpV P w0 n ds env l o (.pointer A) := fun fr w f s => by
  have h : (Builtin.unsafeSliceData_ #[t] o.type #[.slice A m c]).run P w = .ok (.pointer A) w := by
    cases A with
    | none => exact Lib.run_unsafeSliceData_nil w _ _ _ _
    | some a => exact Lib.run_unsafeSliceData_row w _ _ _ _ _ (by rcases hc with h | h; cases h; exact h)
  unfold execOp
  rw [ho]
  simp only [resolve, invoke, builtin, Sem.run_bind, Sem.run_pure, Result.andThen_ok, List.map_toArray, List.map_cons, List.map_nil, f.eval hx, h]
theorem ov_unsafeStr0 {pt' it : TypeId} {x y : Operand} {p : Option Addr} (ho : o.op = .call { callee := .builtin .unsafeString, args := #[x, y], argTypes := #[pt', it] }) (hx : ev env x = some (.pointer p)) (hy : ev env y = some (.int .i64 0)) : OpV P w0 n ds env l o (SV []) := fun fr w f s => by
  have h := Lib.run_unsafeString_none (P := P) w pt' it o.type p
  unfold execOp
  rw [ho]
  simp only [resolve, invoke, builtin, Sem.run_bind, Sem.run_pure, Result.andThen_ok, List.map_toArray, List.map_cons, List.map_nil, f.eval hx, f.eval hy, h]
  rfl
/-- unsafe.String: the block is given up. -/
theorem ot_unsafeString {pt' it e : TypeId} {x y : Operand} {k g : Nat} {cur : Array Value} {bs : BL} (ho : o.op = .call { callee := .builtin .unsafeString, args := #[x, y], argTypes := #[pt', it] }) (hp : P.underlying pt' = some (.pointer e)) (hc : P.cellsOf e = 1)
    (hx : ev env x = some (ptrTo g)) (hy : ev env y = some (.int .i64 bs.length)) (hk : nth k l = some (cl g cur e)) (hn : bs.length ≤ cur.size) (h63 : bs.length ≤ 9223372036854775807) (ht : cur.toList.take bs.length = bs.map bcell) :
    OpT P w0 n ds env l o fun v l' => v = SV bs ∧ l' = setAt k (fun _ => True) l := fun fr w f s => by
  have hg := (s.blk hk).1
  have key : ∃ w', (Builtin.unsafeString_ #[pt', it] o.type #[ptrTo g, .int .i64 bs.length]).run P w = .ok (SV bs) w' ∧ Sat w0 w' (setAt k (fun _ => True) l) := by
    by_cases h0 : bs = []
    · subst h0
      exact ⟨w, Lib.run_unsafeString_none w pt' it o.type _, s.drop0 hk fun _ _ => trivial⟩
    · refine ⟨w.freeze ⟨g, 0, none⟩ bs.length, Lib.run_unsafeString_row w pt' it o.type e hp hc g cur.size (by simp [World.shape?, hg]) bs h0 hn h63 ?_, ?_⟩
      · intro j x hj
        rw [add_none, Nat.zero_add]
        simp only [World.cell?, hg]
        have := congrArg (·[j]?) ht
        simp only [List.getElem?_take, List.getElem?_map, hj] at this
        have hlt := (List.getElem?_eq_some_iff.1 hj).1
        rw [if_pos hlt] at this
        simpa [bcell] using this
      · have hne : bs.length ≠ 0 := by simpa using h0
        refine s.putFree (o' := .cells cur e (0, bs.length)) hk ?_ ?_ ?_ ?_ ?_ ?_
        · simp [World.freeze, hne, Array.getElem?_modify, hg]
        · intro c hc'
          simp [World.freeze, hne, Array.getElem?_modify, Ne.symm hc']
        · simp [World.freeze, hne]
        · simp [World.freeze, hne]
        · simp [World.freeze, hne]
        · simp [World.freeze, hne]
  obtain ⟨w', h1, h2⟩ := key
  unfold Oper.goesV execOp
  rw [ho]
  simp only [resolve, invoke, builtin, Sem.run_bind, Sem.run_pure, Result.andThen_ok, List.map_toArray, List.map_cons, List.map_nil, f.eval hx, f.eval hy, h1]
  exact ⟨_, ⟨trivial, rfl⟩, h2⟩
/-- append(b, s...). -/
theorem ot_bufStr {t u e : TypeId} {i : TypeInfo} {x y : Operand} {k : Nat} {A : Option Addr} {c0 : Nat} {bs s : BL} (ho : o.op = .call { callee := .builtin .append, args := #[x, y], argTypes := #[t, u] }) (ht : P.underlying t = some (.slice e)) (hu : P.underlying u = some .string) (hi : P.info? e = some i) (hz : i.zero = some (.int .u8 0)) (hsize : i.size = 1) (hby : i.bytes = 1)
    (hk : nth k l = some (BufA e A c0 bs)) (hx : ev env x = some (.slice A bs.length c0)) (hy : ev env y = some (SV s)) (hsz : bs.length + s.length ≤ 1000000) :
    OpT P w0 n ds env l o fun v' l' => ∃ A' c', v' = .slice A' (bs ++ s).length c' ∧ l' = setAt k (BufA e A' c' (bs ++ s)) l := fun fr w f st => by
  have hzc : (Value.int .u8 0).cells = #[.int .u8 0] := rfl
  have hss : (⟨s.toArray⟩ : ByteArray).size = s.length := rfl
  have key : ∃ A' c' w', (Builtin.append_ #[t, u] o.type #[.slice A bs.length c0, SV s]).run P w = .ok (.slice A' (bs ++ s).length c') w' ∧ Sat w0 w' (setAt k (BufA e A' c' (bs ++ s)) l) := by
    by_cases hs : s = []
    · subst hs
      refine ⟨A, c0, w, ?_, by rw [List.append_nil, setAt_nth hk]; exact st⟩
      rw [List.append_nil]
      obtain ⟨r, hperm, _⟩ := nth_pull hk
      obtain ⟨bel, h, ⟨ha, hb, hA, hl, hd, la, lb⟩, hh⟩ := st.perm hperm
      have hf := Lib.run_firstCells_string (P := P) w 1 ⟨[].toArray⟩
      have h0 : (⟨[].toArray⟩ : ByteArray).size = 0 := rfl
      have hc0 : Lib.strCells ⟨[].toArray⟩ = [] := rfl
      rw [h0, hc0] at hf
      rcases hA with ⟨rfl, rfl, rfl⟩ | ⟨g, cur, rfl, _, e3, _⟩
      · simp [Builtin.append_, run_underlying ht, run_underlying hu, sizeOf, typeInfo, hi, hsize, Builtin.lenOf, h0, hf]
      · simp [Builtin.append_, run_underlying ht, run_underlying hu, sizeOf, typeInfo, hi, hsize, Builtin.lenOf, h0, hf, e3, storeCells]
    · refine buf_step (P := P) _ st hk hs hsz ?_ ?_ ?_
      · rintro rfl rfl rfl
        have hr := run_append_nil_string (P := P) w t u o.type e i (.int .u8 0) ht hu hi hz ⟨s.toArray⟩ (by rw [hss]; exact List.length_pos_iff.2 hs) (by rw [hss]; simp at hsz; omega) (by rw [hss, hby]; simp at hsz; omega)
        refine hr.trans ?_
        rw [hss, hzc]
        congr 3
        congr 1
        apply Array.ext'
        simp [bcell]
      · rintro g c cur rfl rfl hg hroom hc
        have hr := Lib.run_append_room_string (P := P) w t u o.type e i ht hu hi hsize g bs.length c0 cur hg ⟨s.toArray⟩ (by rw [hss]; exact hroom) (by rw [hss]; omega)
        rw [hr, hss, strCells_eq]
      · rintro g c cur rfl rfl hg hgr hold
        have hr := Lib.run_append_grow_string (P := P) w t u o.type e i (.int .u8 0) ht hu hi hz ⟨g, 0, none⟩ bs.length c0 (bs.map bcell) (by simp [hsize]) hold ⟨s.toArray⟩ (by rw [hss]; exact hgr) (by rw [hss]; omega) (by rw [hss]; exact growslice_fits (by omega) (by rw [hby]; omega))
        rw [hr, hss, strCells_eq, hzc]
  obtain ⟨A', c2, w', h1, h2⟩ := key
  unfold Oper.goesV execOp
  rw [ho]
  simp only [resolve, invoke, builtin, Sem.run_bind, Sem.run_pure, Result.andThen_ok, List.map_toArray, List.map_cons, List.map_nil, f.eval hx, f.eval hy, h1]
  exact ⟨_, ⟨_, _, rfl, rfl⟩, h2⟩
/-- append(b, bs...). -/
theorem ot_bufBytes {t e : TypeId} {i : TypeInfo} {x y : Operand} {k c' : Nat} {A : Option Addr} {c0 : Nat} {B : Option Addr} {bs ys : BL} (hr : ∀ w, Sat w0 w l → Rd bE w 1 B ys) (ho : o.op = .call { callee := .builtin .append, args := #[x, y], argTypes := #[t, t] }) (ht : P.underlying t = some (.slice e)) (hi : P.info? e = some i) (hz : i.zero = some (.int .u8 0)) (hsize : i.size = 1) (hby : i.bytes = 1)
    (hk : nth k l = some (BufA e A c0 bs)) (hx : ev env x = some (.slice A bs.length c0)) (hy : ev env y = some (.slice B ys.length c')) (hne : ys ≠ []) (hsz : bs.length + ys.length ≤ 1000000) :
    OpT P w0 n ds env l o fun v' l' => ∃ A' c', v' = .slice A' (bs ++ ys).length c' ∧ l' = setAt k (BufA e A' c' (bs ++ ys)) l := fun fr w f st => by
  have hzc : (Value.int .u8 0).cells = #[.int .u8 0] := rfl
  obtain ⟨ad, rfl, hcells⟩ := (hr w st).at_ hne
  have hfl : (ys.map bE).flatten = ys.map bcell := by
    clear hr hy hne hsz hcells
    induction ys with
    | nil => rfl
    | cons a ys ih => simp [bE, bcell] at ih ⊢; exact ih
  rw [hfl] at hcells
  have hl1 : (ys.map bcell).length = ys.length * i.size := by simp [hsize]
  have key : ∃ A' c2 w', (Builtin.append_ #[t, t] o.type #[.slice A bs.length c0, .slice (some ad) ys.length c']).run P w = .ok (.slice A' (bs ++ ys).length c2) w' ∧ Sat w0 w' (setAt k (BufA e A' c2 (bs ++ ys)) l) := by
    refine buf_step (P := P) _ st hk hne hsz ?_ ?_ ?_
    · rintro rfl rfl rfl
      have h1 := run_append_nil (P := P) w t o.type e i (.int .u8 0) ht hi hz ad ys.length c' (ys.map bcell) hl1 hcells (List.length_pos_iff.2 hne) (by simp at hsz; omega) (by rw [hby]; simp at hsz; omega)
      refine h1.trans ?_
      rw [hzc]
    · rintro g c cur rfl rfl hg hroom hc
      have hf := run_firstCells_some (P := P) w i.size ys.length ad ys.length c' (ys.map bcell) hl1 hcells
      have hone : ∀ u ∈ ys.map bcell, u.oneCell' = true := fun u hu => by obtain ⟨b, _, rfl⟩ := List.mem_map.1 hu; rfl
      have hst := run_storeCells_at P g bs.length e (ys.map bcell) 0 cur w hg (by simp; omega) hone
      simp only [Nat.add_zero, List.length_map] at hst
      rw [hsize] at hf
      simp [Builtin.append_, run_underlying ht, sizeOf, typeInfo, hi, hsize, Builtin.lenOf, hroom, hf, add_none, hst]
    · rintro g c cur rfl rfl hg hgr hold
      have h1 := run_append_grow (P := P) w t o.type e i (.int .u8 0) ht hi hz ⟨g, 0, none⟩ bs.length c0 (bs.map bcell) (by simp [hsize]) hold ad ys.length c' (ys.map bcell) hl1 hcells hgr (by omega) (growslice_fits (by omega) (by rw [hby]; omega))
      rw [h1, hzc]
  obtain ⟨A', c2, w', h1, h2⟩ := key
  unfold Oper.goesV execOp
  rw [ho]
  simp only [resolve, invoke, builtin, Sem.run_bind, Sem.run_pure, Result.andThen_ok, List.map_toArray, List.map_cons, List.map_nil, f.eval hx, f.eval hy, h1]
  exact ⟨_, ⟨_, _, rfl, rfl⟩, h2⟩
end
end Go.Proofs.YtmedbdcjniggcaaDoor.SL
