/- The functions of package tally, walked: the rest. -/
import Derived.Test.YtbcackbjajlohaaDoorProg
import Derived.Test.YtbcackbjajlohaaDoorTally
import Derived.Test.YtbcackbjajlohaaDoorShelf
import Derived.Lib.ItoaLen
import Derived.Test.YtbcackbjajlohaaDoorSLStr
import Derived.KernelRfl
set_option linter.unusedSimpArgs false
set_option linter.unusedVariables false
set_option maxRecDepth 100000
namespace Go.Proofs.YtbcackbjajlohaaDoor
open Go Go.Proofs.YtbcackbjajlohaaDoor.SL Go.RowKit
/-! ### slices.Index, Contains, Clone -/
theorem take_succ_mem {l : List ByteArray} {k : Nat} {s x : ByteArray} (h : l[k]? = some x) (hn : s ∉ l.take k) (hne : x ≠ s) : s ∉ l.take (k + 1) := by
  rw [List.take_add_one, h]
  simp only [Option.toList_some, List.mem_append, List.mem_singleton, not_or]
  exact ⟨hn, fun e => hne e.symm⟩
theorem posS_hit {l : List ByteArray} {k : Nat} {s : ByteArray} (h : l[k]? = some s) (hn : s ∉ l.take k) : posS l s = some k := by
  obtain ⟨h1, h2⟩ := List.getElem?_eq_some_iff.1 h
  unfold posS
  rw [List.findIdx?_eq_some_iff_getElem]
  refine ⟨h1, by simp [h2], fun j hj => ?_⟩
  simp only [decide_eq_true_eq]
  intro e
  refine hn ?_
  rw [List.mem_take_iff_getElem]
  exact ⟨j, by omega, e⟩
theorem posS_miss {l : List ByteArray} {s : ByteArray} (h : s ∉ l) : posS l s = none := by
  unfold posS
  rw [List.findIdx?_eq_none_iff]
  intro x hx
  simp only [decide_eq_false_iff_not]
  intro e
  exact h (e ▸ hx)
def idxV (l : List ByteArray) (s : ByteArray) : Int := match posS l s with | some k => (k : Nat) | none => -1
theorem T29 (w0 : World) {A : Option Addr} {c : Nat} {xs : List ByteArray} (s : ByteArray) (hr : Rd sE w0 1 A xs) (hm : xs.length ≤ 9223372036854775807) :
    Tri Tryd.prog w0 29 [.slice A xs.length c, .string s] [] fun v m => v = .int .i64 (idxV xs s) ∧ m = [] := by
  refine tri_of Tryd.func29 rfl rfl fun F => ?_
  simp only [Tryd.ntmps29, argEnv, List.nil_append]
  refine at_seq_k (fun K0 hK0 => ?_)
  refine at_region ?_
  refine at_v (ov_assign rfl rfl) rfl rfl rfl ?_
  refine at_nil ?_
  refine at_normal ?_
  refine hK0 _ _ _ ?_
  refine at_seq_k (fun K1 hK1 => ?_)
  refine at_seq_k (fun K2 hK2 => ?_)
  refine at_region ?_
  refine at_v (ov_move rfl rfl) rfl rfl rfl ?_
  refine at_v (ov_len_slice rfl Tryd.underlying22 rfl) rfl rfl rfl ?_
  refine at_v (ov_move rfl rfl) rfl rfl rfl ?_
  refine at_nil ?_
  refine at_normal ?_
  refine hK2 _ _ _ ?_
  refine at_block ?_
  refine at_loopE [9, 10, 5, 11, 12, 13, 14, 15, 16, 17, 4, 18, 8] (fun k => k ≤ xs.length ∧ s ∉ xs.take k) (fun k => [(8, .int .i64 (k : Nat))]) (fun _ l => l) (fun k => xs.length - k) 0 ⟨Nat.zero_le _, by simp⟩ ⟨rfl, trivial⟩ (fun _ s => s) ?_
  rintro k ⟨hk, hb⟩
  refine at_seq_k (fun K3 hK3 => ?_)
  refine at_region ?_
  refine at_v (ov_int rfl rfl rfl rfl) rfl rfl rfl ?_
  refine at_nil ?_
  refine at_normal ?_
  refine hK3 _ _ _ ?_
  refine at_seq_k (fun K4 hK4 => ?_)
  refine at_cond rfl (fun hc => ?_) (fun hc => ?_)
  · have hlt : k < xs.length := by simpa using hc
    obtain ⟨x, hget⟩ : ∃ x, xs[k]? = some x := ⟨_, List.getElem?_eq_getElem hlt⟩
    by_cases he : s = x
    · have hi : decide (s = x) = true := decide_eq_true he
      have hp := posS_hit (he ▸ hget) hb
      refine at_skip ?_
      refine at_normal ?_
      refine hK4 _ _ _ ?_
      refine at_seq_k (fun K5 hK5 => ?_)
      refine at_block ?_
      refine at_seq_k (fun K6 hK6 => ?_)
      refine at_region ?_
      refine at_v (ov_move rfl rfl) rfl rfl rfl ?_
      refine at_v (ov_assign rfl rfl) rfl rfl rfl ?_
      refine at_nil ?_
      refine at_normal ?_
      refine hK6 _ _ _ ?_
      refine at_seq_k (fun K7 hK7 => ?_)
      refine at_region ?_
      refine at_v (ov_move rfl rfl) rfl rfl rfl ?_
      refine at_v (ov_move rfl rfl) rfl rfl rfl ?_
      refine at_v (ov_move rfl rfl) rfl rfl rfl ?_
      refine at_v (ov_indexRd (fun _ s => hr.up s) rfl Tryd.underlying22 rfl rfl rfl hget) rfl rfl rfl ?_
      refine at_v (ov_loadRd0 (fun _ s => hr.up s) rfl rfl rfl hget rfl) rfl rfl rfl ?_
      refine at_v (ov_str rfl rfl rfl rfl) rfl rfl rfl ?_
      refine at_nil ?_
      refine at_normal ?_
      refine hK7 _ _ _ ?_
      refine at_cond_true (congrArg (fun b => some (Value.bool b)) (show _ = true from decide_eq_true (by omega))) ?_
      refine at_seq_k (fun K8 hK8 => ?_)
      refine at_region ?_
      refine at_v (ov_move rfl rfl) rfl rfl rfl ?_
      refine at_v (ov_assign rfl rfl) rfl rfl rfl ?_
      refine at_nil ?_
      refine at_normal ?_
      refine hK8 _ _ _ ?_
      refine at_ret ?_
      refine at_inb_ret ?_
      refine at_then_ret ?_
      refine at_then_ret ?_
      refine at_inb_ret ?_
      refine at_then_ret ?_
      refine at_end ?_
      refine at_fin (rsV rfl (res_tmp rfl)) ?_
      refine ⟨_, ⟨by simp [idxV, hp], rfl⟩, ?_⟩
      exact fun _ s => s.finEq (ks := []) (js := []) rfl rfl rfl
    · have hi : decide (s = x) = false := decide_eq_false he
      have hnx := take_succ_mem hget hb (fun e => he e.symm)
      refine at_skip ?_
      refine at_normal ?_
      refine hK4 _ _ _ ?_
      refine at_seq_k (fun K5 hK5 => ?_)
      refine at_block ?_
      refine at_seq_k (fun K6 hK6 => ?_)
      refine at_region ?_
      refine at_v (ov_move rfl rfl) rfl rfl rfl ?_
      refine at_v (ov_assign rfl rfl) rfl rfl rfl ?_
      refine at_nil ?_
      refine at_normal ?_
      refine hK6 _ _ _ ?_
      refine at_seq_k (fun K7 hK7 => ?_)
      refine at_region ?_
      refine at_v (ov_move rfl rfl) rfl rfl rfl ?_
      refine at_v (ov_move rfl rfl) rfl rfl rfl ?_
      refine at_v (ov_move rfl rfl) rfl rfl rfl ?_
      refine at_v (ov_indexRd (fun _ s => hr.up s) rfl Tryd.underlying22 rfl rfl rfl hget) rfl rfl rfl ?_
      refine at_v (ov_loadRd0 (fun _ s => hr.up s) rfl rfl rfl hget rfl) rfl rfl rfl ?_
      refine at_v (ov_str rfl rfl rfl rfl) rfl rfl rfl ?_
      refine at_nil ?_
      refine at_normal ?_
      refine hK7 _ _ _ ?_
      refine at_cond_false (congrArg (fun b => some (Value.bool b)) (show _ = false from decide_eq_false (by omega))) ?_
      refine at_skip ?_
      refine at_inb_normal ?_
      refine at_normal ?_
      refine hK5 _ _ _ ?_
      refine at_region ?_
      refine at_v ((ov_int rfl rfl rfl rfl).eq (congrArg (Value.int .i64) (inK_i64 (by omega) (by omega)))) rfl rfl rfl ?_
      refine at_v (ov_move rfl rfl) rfl rfl rfl ?_
      refine at_nil ?_
      refine at_normal ?_
      refine at_roundF (k + 1) ⟨hlt, hnx⟩ (by omega) ⟨rfl, trivial⟩ rfl ?_
      exact fun _ s => s.finEq (ks := []) (js := []) rfl rfl rfl
  · have hk2 : k = xs.length := by
      have : ¬ k < xs.length := by simpa using hc
      omega
    subst hk2
    rw [List.take_length] at hb
    have hp := posS_miss hb
    refine at_exit ?_
    refine at_then_exit ?_
    refine at_then_exit ?_
    refine at_exit_eq ?_
    refine at_normal ?_
    refine hK1 _ _ _ ?_
    refine at_seq_k (fun K5 hK5 => ?_)
    refine at_region ?_
    refine at_v (ov_assign rfl rfl) rfl rfl rfl ?_
    refine at_nil ?_
    refine at_normal ?_
    refine hK5 _ _ _ ?_
    refine at_ret ?_
    refine at_end ?_
    refine at_fin (rsV rfl (res_tmp rfl)) ?_
    refine ⟨_, ⟨by simp [idxV, hp], rfl⟩, ?_⟩
    exact fun _ s => s.finEq (ks := []) (js := []) rfl rfl rfl
theorem T20 (w0 : World) {A : Option Addr} {c : Nat} {xs : List ByteArray} (s : ByteArray) (hr : Rd sE w0 1 A xs) (hm : xs.length ≤ 9223372036854775807) :
    Tri Tryd.prog w0 20 [.slice A xs.length c, .string s] [] fun v m => v = .bool (posS xs s).isSome ∧ m = [] := by
  refine tri_of Tryd.func20 rfl rfl fun F => ?_
  simp only [Tryd.ntmps20, argEnv, List.nil_append]
  refine at_seq_k (fun K0 hK0 => ?_)
  refine at_region ?_
  refine at_v (ov_assign rfl rfl) rfl rfl rfl ?_
  refine at_nil ?_
  refine at_normal ?_
  refine hK0 _ _ _ ?_
  refine at_seq_k (fun K1 hK1 => ?_)
  refine at_region ?_
  refine at_v (ov_move rfl rfl) rfl rfl rfl ?_
  refine at_v (ov_move rfl rfl) rfl rfl rfl ?_
  refine at_t (ot_call (ks := []) rfl rfl rfl Tryd.call29 rfl (T29 _ _ (by first | assumption | rfl | omega | decide | (simp; done) | (simp at *; omega)) (by first | assumption | rfl | omega | decide | (simp; done) | (simp at *; omega))) rfl) rfl rfl rfl ?_
  rintro v0 _ ⟨m0, hp0, rfl⟩
  obtain ⟨rfl, rfl⟩ := hp0
  simp only [List.cons_append, List.nil_append, splice, spliceL]
  refine at_v (ov_int rfl rfl rfl rfl) rfl rfl rfl ?_
  refine at_v (ov_assign rfl rfl) rfl rfl rfl ?_
  refine at_nil ?_
  refine at_normal ?_
  refine hK1 _ _ _ ?_
  refine at_ret ?_
  refine at_end ?_
  refine at_fin (rsV rfl (res_tmp rfl)) ?_
  refine ⟨_, ⟨?_, rfl⟩, ?_⟩
  · congr 1
    unfold idxV
    cases posS xs s with
    | none => simp
    | some k => simp
  exact fun _ s => s.finEq (ks := []) (js := []) rfl rfl rfl
theorem T20a (w0 : World) {A : Option Addr} {c : Nat} {xs : List ByteArray} (s : ByteArray) (hm : xs.length ≤ 9223372036854775807) :
    Tri Tryd.prog w0 20 [.slice A xs.length c, .string s] [Row sE 9 1 A c xs] fun v m => v = .bool (posS xs s).isSome ∧ m = [Row sE 9 1 A c xs] :=
  (Tri.of_all fun w s' => T20 w s (s'.rd (k := 0) rfl) hm).post fun v m ⟨m', ⟨h1, h2⟩, h3⟩ => ⟨h1, by rw [h3, h2]; rfl⟩
theorem T22 (w0 : World) {A : Option Addr} {c : Nat} {xs : List ByteArray} (hr : Rd sE w0 1 A xs) (hm : xs.length ≤ 1000) :
    Tri Tryd.prog w0 22 [.slice A xs.length c] [] fun v m => ∃ B d, v = .slice B xs.length d ∧ m = [Row sE 9 1 B d xs] := by
  refine tri_of Tryd.func22 rfl rfl fun F => ?_
  simp only [Tryd.ntmps22, argEnv, List.nil_append]
  refine at_seq_k (fun K0 hK0 => ?_)
  refine at_region ?_
  refine at_v (ov_assign rfl rfl) rfl rfl rfl ?_
  refine at_nil ?_
  refine at_normal ?_
  refine hK0 _ _ _ ?_
  refine at_seq_k (fun K1 hK1 => ?_)
  refine at_seq_k (fun K2 hK2 => ?_)
  refine at_region ?_
  refine at_v (ov_move rfl rfl) rfl rfl rfl ?_
  refine at_v (ov_slice_nil rfl Tryd.underlying22 rfl rfl) rfl rfl rfl ?_
  refine at_nil ?_
  refine at_normal ?_
  refine hK2 _ _ _ ?_
  refine at_cond rfl (fun hc => ?_) (fun hc => ?_)
  · have hn : A = none := by cases A <;> simp_all
    subst hn
    have hx : xs = [] := by
      cases xs with
      | nil => rfl
      | cons a b => obtain ⟨ad, e, _⟩ := hr.at_ (by simp); cases e
    subst hx
    refine at_seq_k (fun K3 hK3 => ?_)
    refine at_region ?_
    refine at_v (ov_assign rfl rfl) rfl rfl rfl ?_
    refine at_nil ?_
    refine at_normal ?_
    refine hK3 _ _ _ ?_
    refine at_ret ?_
    refine at_then_ret ?_
    refine at_end ?_
    refine at_rowNil sE 9 1 ?_
    refine at_fin (rsV rfl (res_tmp rfl)) ?_
    refine ⟨_, ⟨none, 0, rfl, rfl⟩, ?_⟩
    exact fun _ s => s.finEq (ks := [0]) (js := []) rfl rfl rfl
  · refine at_skip ?_
    refine at_normal ?_
    refine hK1 _ _ _ ?_
    refine at_seq_k (fun K3 hK3 => ?_)
    refine at_region ?_
    refine at_t (ot_buildSlice (cs := []) rfl Tryd.underlying22 rfl rfl rfl rfl rfl rfl) rfl rfl rfl ?_
    rintro _ _ ⟨g0, rfl, rfl⟩
    refine at_v (ov_move rfl rfl) rfl rfl rfl ?_
    refine at_rowOf (c := 0) (size := 1) sE 0 [] rfl (by simp) (by simp) (by decide) (by simp) rfl ?_
    simp only [setAt]
    refine at_t (ot_append (k := 0) (size := 1) (bytes := 16) (ys := xs) (fun _ s => hr.up s) rfl Tryd.underlying22 (ti := Tryd.t9) rfl rfl rfl rfl rfl (by decide) rfl rfl rfl (by simp [sE, Value.oneCell']) (by simp; omega) (by decide)) rfl rfl rfl ?_
    rintro _ _ ⟨A0, c0, rfl, rfl⟩
    simp only [setAt]
    simp only [List.nil_append]
    refine at_v (ov_assign rfl rfl) rfl rfl rfl ?_
    refine at_nil ?_
    refine at_normal ?_
    refine hK3 _ _ _ ?_
    refine at_ret ?_
    refine at_end ?_
    refine at_fin (rsV rfl (res_tmp rfl)) ?_
    refine ⟨_, ⟨_, _, rfl, rfl⟩, ?_⟩
    exact fun _ s => s.finEq (ks := [0]) (js := []) rfl rfl rfl
/-! ### New -/
def uniq1 (own : List ByteArray) (s : ByteArray) : List ByteArray := match posS own s with | some _ => own | none => own ++ [s]
def uniqL (l : List ByteArray) : List ByteArray := l.foldl uniq1 []
theorem uniq_succ {l : List ByteArray} {k : Nat} {s : ByteArray} (h : l[k]? = some s) : uniqL (l.take (k + 1)) = uniq1 (uniqL (l.take k)) s := by
  unfold uniqL
  rw [List.take_add_one, h]
  simp [List.foldl_append]
theorem uniq1_nodup {l : List ByteArray} {s : ByteArray} (h : l.Nodup) : (uniq1 l s).Nodup := by
  unfold uniq1
  cases hp : posS l s with
  | some k => exact h
  | none =>
    have := posS_none hp
    rw [List.nodup_append]
    refine ⟨h, by simp, fun a ha b hb e => ?_⟩
    simp at hb; subst hb; subst e; exact this ha
theorem uniq_foldl_nodup (l : List ByteArray) : ∀ (acc : List ByteArray), acc.Nodup → (l.foldl uniq1 acc).Nodup := by
  induction l with
  | nil => exact fun _ h => h
  | cons a l ih => exact fun acc h => ih _ (uniq1_nodup h)
theorem uniq_nodup (l : List ByteArray) : (uniqL l).Nodup := uniq_foldl_nodup l [] List.nodup_nil
theorem uniq_foldl_len (l : List ByteArray) : ∀ (acc : List ByteArray), (l.foldl uniq1 acc).length ≤ acc.length + l.length := by
  induction l with
  | nil => exact fun _ => by simp
  | cons a l ih =>
    intro acc
    have h1 := ih (uniq1 acc a)
    have h2 : (uniq1 acc a).length ≤ acc.length + 1 := by unfold uniq1; split <;> simp
    simp only [List.foldl_cons, List.length_cons]
    omega
theorem uniq_len (l : List ByteArray) : (uniqL l).length ≤ l.length := by
  have := uniq_foldl_len l []
  simp only [List.length_nil, Nat.zero_add] at this
  exact this
theorem uniq_foldl_mem (l : List ByteArray) : ∀ (acc : List ByteArray) (x : ByteArray), x ∈ l.foldl uniq1 acc → x ∈ acc ∨ x ∈ l := by
  induction l with
  | nil => exact fun _ _ h => .inl h
  | cons a l ih =>
    intro acc x h
    rcases ih _ _ h with h | h
    · unfold uniq1 at h
      split at h
      · exact .inl h
      · rcases List.mem_append.1 h with h | h
        · exact .inl h
        · simp at h; subst h; exact .inr (by simp)
    · exact .inr (by simp [h])
theorem uniq_mem {l : List ByteArray} {x : ByteArray} (h : x ∈ uniqL l) : x ∈ l := by
  rcases uniq_foldl_mem l [] x h with h | h
  · cases h
  · exact h
def ctA (cs : List Int) : Array Value := (cs.map (Value.int .i64)).toArray
def stI : Option Nat → Int
  | none => 0
  | some _ => 1
def stA (l : List ByteArray) : Option Nat → HP
  | none => fun _ => True
  | some mb => MapA KS mb (nkv l l.length)
/-- A tally: names, counts. -/
def Tal (g : Nat) (l : List ByteArray) (cs : List Int) : HP := fun h => ∃ NA, ∃ nc, ∃ cb, ∃ st, (l.Nodup ∧ l.length ≤ 100 ∧ cs.length = l.length) ∧
  star [TC g NA l.length nc cb l.length (stI st) 0 (.map st), Row sE 9 1 NA nc l, cl cb (ctA cs) 69, stA l st] h
theorem at_tal {w0 : World} {n : Nat} {ds : List Deferred} {R : Act → World → Prop} {env : Env} {l : List HP} {g : Nat} {ls : List ByteArray} {cs : List Int}
    (k : ∀ NA nc cb st, ls.Nodup → ls.length ≤ 100 → cs.length = ls.length → At w0 n ds R env (TC g NA ls.length nc cb ls.length (stI st) 0 (.map st) :: Row sE 9 1 NA nc ls :: cl cb (ctA cs) 69 :: stA ls st :: l)) : At w0 n ds R env (Tal g ls cs :: l) :=
  at_ex fun NA => at_ex fun nc => at_ex fun cb => at_ex fun st => at_and fun ⟨h1, h2, h3⟩ => at_open (k NA nc cb st h1 h2 h3)
theorem at_emp {w0 : World} {n : Nat} {ds : List Deferred} {R : Act → World → Prop} {env : Env} {l : List HP} (k : At w0 n ds R env ((fun _ => True) :: l)) : At w0 n ds R env l :=
  fun a w f s => k a w f (s.imp fun h t => ⟨fun _ => none, h, trivial, t, fun _ => .inl rfl, (fun _ _ e => by cases e), Le.refl _⟩)
/-- A new row of counts. -/
theorem ot_makeCounts {P : Program} {w0 : World} {n : Nat} {ds : List Deferred} {env : Env} {l : List HP} {o : Oper} {t e : TypeId} {x y : Operand} {i : TypeInfo} {m : Nat} {kl kc : IntKind} (ho : o.op = .makeSlice t x y) (ht : P.underlying t = some (.slice e)) (hi : P.info? e = some i) (hz : i.zero = some (.agg #[.int .i64 0])) (hsize : i.size = 1) (hby : i.bytes = 8)
    (hx : ev env x = some (.int kl (m : Int))) (hy : ev env y = some (.int kc (m : Int))) (hm : m ≤ 1000) :
    OpT P w0 n ds env l o fun v l' => ∃ b, v = .slice (some ⟨b, 0, none⟩) m m ∧ l' = cl b (ctA (List.replicate m 0)) e :: l := fun a w f s => by
  have hb2 : (i.bytes : Int) * (m : Int) ≤ 281474976710656 := by
    rw [hby]; omega
  have hr := run_make (P := P) w t e i _ ht hi hz kl kc m m (by omega) (Int.le_refl _) hb2 (by omega)
  simp only [Int.toNat_natCast] at hr
  unfold Oper.goesV execOp
  rw [ho]
  simp [f.eval hx, f.eval hy, hr]
  have hcells : madeCells (Value.agg #[.int .i64 0]).cells (m * i.size) = ctA (List.replicate m 0) := by
    have := rep_eq (zs := [Value.int .i64 0]) (by simp) m
    have hrep : ∀ m, rep [Value.int .i64 0] m = (List.replicate m (0 : Int)).map (Value.int .i64) := by
      intro m
      induction m with
      | zero => rfl
      | succ m ih => simp only [rep, List.replicate_succ, List.map_cons, ih]; rfl
    rw [hrep] at this
    rw [hsize]
    unfold madeCells ctA
    exact this
  have := s.alloc (.cells (ctA (List.replicate m 0)) e)
  rw [hcells]
  exact this
theorem ctA_get {cs : List Int} {k : Nat} {n : Int} (h : cs[k]? = some n) : nth k (ctA cs).toList = some (.int .i64 n) := by
  rw [nth_list]; simp [ctA, h]
theorem ctA_set {cs : List Int} {k : Nat} {n : Int} (h : k < cs.length) : splice (ctA cs) k [.int .i64 n] = ctA (cs.set k n) := by
  rw [← setB_splice]
  apply Array.ext'
  simp [ctA, List.map_set]
theorem T8 (w0 : World) {A : Option Addr} {c : Nat} {xs : List ByteArray} (hr : Rd sE w0 1 A xs) (hm : xs.length ≤ 100) :
    Tri Tryd.prog w0 8 [.slice A xs.length c] [] fun v m => ∃ g, v = ptrTo g ∧ m = [Tal g (uniqL xs) (List.replicate (uniqL xs).length 0)] := by
  refine tri_of Tryd.func8 rfl rfl fun F => ?_
  simp only [Tryd.ntmps8, argEnv, List.nil_append]
  refine at_rowNil sE 9 1 ?_
  refine at_seq_k (fun K0 hK0 => ?_)
  refine at_region ?_
  refine at_v (ov_assign rfl rfl) rfl rfl rfl ?_
  refine at_nil ?_
  refine at_normal ?_
  refine hK0 _ _ _ ?_
  refine at_seq_k (fun K1 hK1 => ?_)
  refine at_region ?_
  refine at_v (ov_assign rfl rfl) rfl rfl rfl ?_
  refine at_nil ?_
  refine at_normal ?_
  refine hK1 _ _ _ ?_
  refine at_seq_k (fun K2 hK2 => ?_)
  refine at_seq_k (fun K3 hK3 => ?_)
  refine at_region ?_
  refine at_v (ov_move rfl rfl) rfl rfl rfl ?_
  refine at_v (ov_len_slice rfl Tryd.underlying22 rfl) rfl rfl rfl ?_
  refine at_v (ov_move rfl rfl) rfl rfl rfl ?_
  refine at_nil ?_
  refine at_normal ?_
  refine hK3 _ _ _ ?_
  refine at_block ?_
  refine at_loopE [9, 10, 11, 5, 12, 13, 14, 15, 16, 17, 18, 19, 3, 20, 8] (fun i : Nat × Option Addr × Nat => i.1 ≤ xs.length) (fun i => [(8, .int .i64 (i.1 : Nat)), (3, .slice i.2.1 (uniqL (xs.take i.1)).length i.2.2)]) (fun i m => setAt 0 (Row sE 9 1 i.2.1 i.2.2 (uniqL (xs.take i.1))) m) (fun i => xs.length - i.1) (0, none, 0) (Nat.zero_le _) ⟨rfl, rfl, trivial⟩ (fun _ s => s) ?_
  rintro ⟨k, A1, c1⟩ hk
  simp only [setAt] at hk ⊢
  have hul := uniq_len (xs.take k)
  have htk : (xs.take k).length ≤ 100 := by rw [List.length_take]; omega
  refine at_seq_k (fun K4 hK4 => ?_)
  refine at_region ?_
  refine at_v (ov_int rfl rfl rfl rfl) rfl rfl rfl ?_
  refine at_nil ?_
  refine at_normal ?_
  refine hK4 _ _ _ ?_
  refine at_seq_k (fun K5 hK5 => ?_)
  refine at_cond rfl (fun hc => ?_) (fun hc => ?_)
  · have hlt : k < xs.length := by simpa using hc
    obtain ⟨x, hget⟩ : ∃ x, xs[k]? = some x := ⟨_, List.getElem?_eq_getElem hlt⟩
    have hs := uniq_succ hget
    refine at_skip ?_
    refine at_normal ?_
    refine hK5 _ _ _ ?_
    refine at_seq_k (fun K6 hK6 => ?_)
    refine at_block ?_
    refine at_seq_k (fun K7 hK7 => ?_)
    refine at_region ?_
    refine at_v (ov_indexRd (fun _ s => hr.up s) rfl Tryd.underlying22 rfl rfl rfl hget) rfl rfl rfl ?_
    refine at_v (ov_loadRd0 (fun _ s => hr.up s) rfl rfl rfl hget rfl) rfl rfl rfl ?_
    refine at_v (ov_assign rfl rfl) rfl rfl rfl ?_
    refine at_nil ?_
    refine at_normal ?_
    refine hK7 _ _ _ ?_
    refine at_seq_k (fun K8 hK8 => ?_)
    refine at_region ?_
    refine at_v (ov_move rfl rfl) rfl rfl rfl ?_
    refine at_v (ov_move rfl rfl) rfl rfl rfl ?_
    refine at_t (ot_call (ks := [0]) rfl rfl rfl Tryd.call20 rfl (T20a _ _ (by first | assumption | rfl | omega | decide | (simp; done) | (simp at *; omega))) rfl) rfl rfl rfl ?_
    rintro v0 _ ⟨m0, hp0, rfl⟩
    obtain ⟨rfl, rfl⟩ := hp0
    simp only [List.cons_append, List.nil_append, splice, spliceL]
    refine at_v (ov_not rfl rfl) rfl rfl rfl ?_
    refine at_nil ?_
    refine at_normal ?_
    refine hK8 _ _ _ ?_
    cases hp : posS (uniqL (xs.take k)) x with
    | some j =>
      have e : uniqL (xs.take (k + 1)) = uniqL (xs.take k) := by rw [hs]; simp [uniq1, hp]
      refine at_cond_false rfl ?_
      refine at_skip ?_
      refine at_inb_normal ?_
      refine at_normal ?_
      refine hK6 _ _ _ ?_
      refine at_region ?_
      refine at_v ((ov_int rfl rfl rfl rfl).eq (congrArg (Value.int .i64) (inK_i64 (by omega) (by omega)))) rfl rfl rfl ?_
      refine at_v (ov_move rfl rfl) rfl rfl rfl ?_
      refine at_nil ?_
      refine at_normal ?_
      refine at_roundF (k + 1, A1, c1) hlt (by simp only; omega) ⟨rfl, look_eq rfl (by simp only [e]), trivial⟩ rfl ?_
      simp only [e]
      exact fun _ s => s.finEq (ks := [0]) (js := []) rfl rfl rfl
    | none =>
      have e : uniqL (xs.take (k + 1)) = uniqL (xs.take k) ++ [x] := by rw [hs]; simp [uniq1, hp]
      refine at_cond_true rfl ?_
      refine at_region ?_
      refine at_v (ov_move rfl rfl) rfl rfl rfl ?_
      refine at_v (ov_move rfl rfl) rfl rfl rfl ?_
      refine at_t (ot_buildSlice (cs := [_]) rfl Tryd.underlying22 rfl rfl rfl rfl rfl rfl) rfl rfl rfl ?_
      rintro _ _ ⟨g0, rfl, rfl⟩
      refine at_t (ot_append (k := 1) (size := 1) (bytes := 16) (ys := [x]) (fun _ s => s.rdPt (k := 0) rfl rfl (by simp [sE])) rfl Tryd.underlying22 (ti := Tryd.t9) rfl rfl rfl rfl rfl (by decide) rfl rfl rfl (by simp [sE, Value.oneCell']) (by simp; omega) (by decide)) rfl rfl rfl ?_
      rintro _ _ ⟨A0, c0, rfl, rfl⟩
      simp only [setAt]
      refine at_v (ov_assign rfl rfl) rfl rfl rfl ?_
      refine at_nil ?_
      refine at_inb_normal ?_
      refine at_normal ?_
      refine hK6 _ _ _ ?_
      refine at_region ?_
      refine at_v ((ov_int rfl rfl rfl rfl).eq (congrArg (Value.int .i64) (inK_i64 (by omega) (by omega)))) rfl rfl rfl ?_
      refine at_v (ov_move rfl rfl) rfl rfl rfl ?_
      refine at_nil ?_
      refine at_normal ?_
      refine at_roundF (k + 1, A0, c0) hlt (by simp only; omega) ⟨rfl, look_eq rfl (by simp only [e]), trivial⟩ rfl ?_
      simp only [e]
      exact fun _ s => s.finEq (ks := [1]) (js := [0]) rfl rfl rfl
  · have hk2 : k = xs.length := by
      have : ¬ k < xs.length := by simpa using hc
      omega
    subst hk2
    rw [List.take_length] at hul ⊢
    refine at_exit ?_
    refine at_then_exit ?_
    refine at_then_exit ?_
    refine at_exit_eq ?_
    refine at_normal ?_
    refine hK2 _ _ _ ?_
    refine at_seq_k (fun K6 hK6 => ?_)
    refine at_region ?_
    refine at_v (ov_move rfl rfl) rfl rfl rfl ?_
    refine at_v (ov_move rfl rfl) rfl rfl rfl ?_
    refine at_v (ov_len_slice rfl Tryd.underlying22 rfl) rfl rfl rfl ?_
    refine at_t (ot_makeCounts (m := (uniqL xs).length) rfl Tryd.underlying44 (i := Tryd.t69) rfl rfl rfl rfl rfl rfl (by omega)) rfl rfl rfl ?_
    rintro _ _ ⟨cb, rfl, rfl⟩
    refine at_v (ov_build (cs := [_, _, _, _, _, _]) rfl rfl rfl rfl) rfl rfl rfl ?_
    refine at_t (ot_boxA rfl rfl) rfl rfl rfl ?_
    rintro _ _ ⟨g0, rfl, rfl⟩
    refine at_v (ov_assign rfl rfl) rfl rfl rfl ?_
    refine at_nil ?_
    refine at_normal ?_
    refine hK6 _ _ _ ?_
    refine at_ret ?_
    refine at_end ?_
    refine at_emp ?_
    refine at_fold (A := Tal g0 (uniqL xs) (List.replicate (uniqL xs).length 0)) [1, 2, 1, 0] rfl (fun h s => ⟨A1, c1, cb, none, ⟨uniq_nodup xs, by omega, by simp⟩, s⟩) ?_
    refine at_fin (rsV rfl (res_tmp rfl)) ?_
    refine ⟨_, ⟨_, rfl, rfl⟩, ?_⟩
    exact fun _ s => s.finEq (ks := [0]) (js := []) rfl rfl rfl
/-! ### of, Add, Count, Swap -/
theorem T23b (w0 : World) {g : Nat} {NA : Option Addr} {nc cb : Nat} {st : Option Nat} {l : List ByteArray} (s : ByteArray) (hn : l.Nodup) (hl : l.length ≤ 100) :
    Tri Tryd.prog w0 23 [ptrTo g, .string s] [TC g NA l.length nc cb l.length (stI st) 0 (.map st), Row sE 9 1 NA nc l, stA l st] fun v m' => ∃ mb, v = ofV cb l s ∧ m' = [TC g NA l.length nc cb l.length 1 0 (.map (some mb)), Row sE 9 1 NA nc l, MapA KS mb (nkv l l.length)] := by
  cases st with
  | none =>
    refine Tri.conv (T23a w0 s hn hl) (fun F w s => s.fin (ks := [0, 0]) (js := [0]) rfl rfl) ?_
    rintro F w v m ⟨mb, rfl, rfl⟩ s
    exact ⟨_, ⟨mb, rfl, rfl⟩, s.pulls (ks := [0, 1, 0]) rfl⟩
  | some mb =>
    intro F w s2
    simp only [stA, stI, Option.map, List.cons_append, List.nil_append] at s2
    refine (T23 w0 (g := g) (NA := NA) (nc := nc) (cb := cb) (mb := mb) (l := l) s (Row sE 9 1 NA nc l :: F) w (s2.pulls (ks := [0, 1]) rfl)).mono ?_
    rintro e w' ⟨v, m, rfl, ⟨rfl, rfl⟩, s'⟩
    exact ⟨_, _, rfl, ⟨mb, rfl, rfl⟩, s'.pulls (ks := [0, 1, 0]) rfl⟩
theorem T24 (w0 : World) {b off : Nat} {cs : List Int} (d : Int) {n : Int} (hv : cs[off]? = some n) : Tri Tryd.prog w0 24 [.pointer (some ⟨b, off, none⟩), .int .i64 d] [cl b (ctA cs) 69] fun v m => v = .int .i64 (IntKind.i64.wrap (n + d)) ∧ m = [cl b (ctA (cs.set off (IntKind.i64.wrap (n + d)))) 69] := by
  refine tri_of Tryd.func24 rfl rfl fun F => ?_
  simp only [Tryd.ntmps24, argEnv, List.cons_append, List.nil_append]
  have hlt := (List.getElem?_eq_some_iff.1 hv).1
  refine at_seq_k (fun K0 hK0 => ?_)
  refine at_region ?_
  refine at_v (ov_assign rfl rfl) rfl rfl rfl ?_
  refine at_nil ?_
  refine at_normal ?_
  refine hK0 _ _ _ ?_
  refine at_seq_k (fun K1 hK1 => ?_)
  refine at_region ?_
  refine at_v (ov_move rfl rfl) rfl rfl rfl ?_
  refine at_v (ov_nilCheck rfl rfl) rfl rfl rfl ?_
  refine at_v (ov_fieldAddr (k := 0) rfl rfl rfl rfl) rfl rfl rfl ?_
  refine at_v (ov_move rfl rfl) rfl rfl rfl ?_
  refine at_t (ot_extern (e := Extern.Atomic.update (Op.intArith .add) .i64 true) rfl rfl rfl (run_callFunc_extern Tryd.func32 (by decide) rfl rfl rfl) (x_add (k := 0) rfl (ctA_get hv))) rfl rfl rfl ?_
  rintro _ _ ⟨rfl, rfl⟩
  simp only [setAt, Nat.add_zero, setB_splice, ctA_set hlt]
  refine at_v (ov_assign rfl rfl) rfl rfl rfl ?_
  refine at_nil ?_
  refine at_normal ?_
  refine hK1 _ _ _ ?_
  refine at_ret ?_
  refine at_end ?_
  refine at_fin (rsV rfl (res_tmp rfl)) ?_
  refine ⟨_, ⟨rfl, rfl⟩, ?_⟩
  exact fun _ s => s.finEq (ks := [0]) (js := []) rfl rfl rfl
theorem T26 (w0 : World) {b off : Nat} {cs : List Int} {n : Int} (hv : cs[off]? = some n) : Tri Tryd.prog w0 26 [.pointer (some ⟨b, off, none⟩)] [cl b (ctA cs) 69] fun v m => v = .int .i64 n ∧ m = [cl b (ctA cs) 69] := by
  refine tri_of Tryd.func26 rfl rfl fun F => ?_
  simp only [Tryd.ntmps26, argEnv, List.cons_append, List.nil_append]
  refine at_seq_k (fun K0 hK0 => ?_)
  refine at_region ?_
  refine at_v (ov_assign rfl rfl) rfl rfl rfl ?_
  refine at_nil ?_
  refine at_normal ?_
  refine hK0 _ _ _ ?_
  refine at_seq_k (fun K1 hK1 => ?_)
  refine at_region ?_
  refine at_v (ov_move rfl rfl) rfl rfl rfl ?_
  refine at_v (ov_nilCheck rfl rfl) rfl rfl rfl ?_
  refine at_v (ov_fieldAddr (k := 0) rfl rfl rfl rfl) rfl rfl rfl ?_
  refine at_t (ot_extern (e := Extern.Atomic.loadT (.int .i64)) rfl rfl rfl (run_callFunc_extern Tryd.func34 (by decide) rfl rfl rfl) (x_load (k := 0) rfl (ctA_get hv))) rfl rfl rfl ?_
  rintro _ _ ⟨rfl, rfl⟩
  refine at_v (ov_assign rfl rfl) rfl rfl rfl ?_
  refine at_nil ?_
  refine at_normal ?_
  refine hK1 _ _ _ ?_
  refine at_ret ?_
  refine at_end ?_
  refine at_fin (rsV rfl (res_tmp rfl)) ?_
  refine ⟨_, ⟨rfl, rfl⟩, ?_⟩
  exact fun _ s => s.finEq (ks := [0]) (js := []) rfl rfl rfl
theorem T25 (w0 : World) {b off : Nat} {cs : List Int} (old d : Int) {n : Int} (hv : cs[off]? = some n) : Tri Tryd.prog w0 25 [.pointer (some ⟨b, off, none⟩), .int .i64 old, .int .i64 d] [cl b (ctA cs) 69] fun v m => v = .bool (decide (n = old)) ∧ m = [cl b (ctA (if n = old then cs.set off d else cs)) 69] := by
  refine tri_of Tryd.func25 rfl rfl fun F => ?_
  simp only [Tryd.ntmps25, argEnv, List.cons_append, List.nil_append]
  have hlt := (List.getElem?_eq_some_iff.1 hv).1
  by_cases he : n = old
  · simp only [he, if_true, decide_true]
    refine at_seq_k (fun K0 hK0 => ?_)
    refine at_region ?_
    refine at_v (ov_assign rfl rfl) rfl rfl rfl ?_
    refine at_nil ?_
    refine at_normal ?_
    refine hK0 _ _ _ ?_
    refine at_seq_k (fun K1 hK1 => ?_)
    refine at_region ?_
    refine at_v (ov_move rfl rfl) rfl rfl rfl ?_
    refine at_v (ov_nilCheck rfl rfl) rfl rfl rfl ?_
    refine at_v (ov_fieldAddr (k := 0) rfl rfl rfl rfl) rfl rfl rfl ?_
    refine at_v (ov_move rfl rfl) rfl rfl rfl ?_
    refine at_v (ov_move rfl rfl) rfl rfl rfl ?_
    refine at_t (ot_extern (e := Extern.Atomic.casT (.int .i64)) rfl rfl rfl (run_callFunc_extern Tryd.func33 (by decide) rfl rfl rfl) (x_casHit (k := 0) rfl (ctA_get hv) he)) rfl rfl rfl ?_
    rintro _ _ ⟨rfl, rfl⟩
    simp only [setAt, Nat.add_zero, setB_splice, ctA_set hlt]
    refine at_v (ov_assign rfl rfl) rfl rfl rfl ?_
    refine at_nil ?_
    refine at_normal ?_
    refine hK1 _ _ _ ?_
    refine at_ret ?_
    refine at_end ?_
    refine at_fin (rsV rfl (res_tmp rfl)) ?_
    refine ⟨_, ⟨rfl, rfl⟩, ?_⟩
    exact fun _ s => s.finEq (ks := [0]) (js := []) rfl rfl rfl
  · simp only [he, if_false, decide_false]
    refine at_seq_k (fun K0 hK0 => ?_)
    refine at_region ?_
    refine at_v (ov_assign rfl rfl) rfl rfl rfl ?_
    refine at_nil ?_
    refine at_normal ?_
    refine hK0 _ _ _ ?_
    refine at_seq_k (fun K1 hK1 => ?_)
    refine at_region ?_
    refine at_v (ov_move rfl rfl) rfl rfl rfl ?_
    refine at_v (ov_nilCheck rfl rfl) rfl rfl rfl ?_
    refine at_v (ov_fieldAddr (k := 0) rfl rfl rfl rfl) rfl rfl rfl ?_
    refine at_v (ov_move rfl rfl) rfl rfl rfl ?_
    refine at_v (ov_move rfl rfl) rfl rfl rfl ?_
    refine at_t (ot_extern (e := Extern.Atomic.casT (.int .i64)) rfl rfl rfl (run_callFunc_extern Tryd.func33 (by decide) rfl rfl rfl) (x_casMiss (k := 0) rfl (ctA_get hv) he)) rfl rfl rfl ?_
    rintro _ _ ⟨rfl, rfl⟩
    refine at_v (ov_assign rfl rfl) rfl rfl rfl ?_
    refine at_nil ?_
    refine at_normal ?_
    refine hK1 _ _ _ ?_
    refine at_ret ?_
    refine at_end ?_
    refine at_fin (rsV rfl (res_tmp rfl)) ?_
    refine ⟨_, ⟨rfl, rfl⟩, ?_⟩
    exact fun _ s => s.finEq (ks := [0]) (js := []) rfl rfl rfl
def cntOf (l : List ByteArray) (cs : List Int) (s : ByteArray) : Option Int := match posS l s with | some k => cs[k]? | none => none
def putC (l : List ByteArray) (cs : List Int) (s : ByteArray) (n : Int) : List Int := match posS l s with | some k => cs.set k n | none => cs
theorem cntOf_some {l : List ByteArray} {cs : List Int} {s : ByteArray} {k : Nat} (h : posS l s = some k) (hc : cs.length = l.length) : ∃ n, cs[k]? = some n ∧ cntOf l cs s = some n := by
  have hlt : k < l.length := (List.getElem?_eq_some_iff.1 (posS_some h)).1
  refine ⟨_, List.getElem?_eq_getElem (by omega), ?_⟩
  unfold cntOf; rw [h]; exact List.getElem?_eq_getElem (by omega)
theorem cntOf_none {l : List ByteArray} {cs : List Int} {s : ByteArray} (h : posS l s = none) : cntOf l cs s = none := by unfold cntOf; rw [h]
def addC (l : List ByteArray) (cs : List Int) (s : ByteArray) (d : Int) : List Int := match cntOf l cs s with | some n => putC l cs s (IntKind.i64.wrap (n + d)) | none => cs
def swapB (l : List ByteArray) (cs : List Int) (s : ByteArray) (old : Int) : Bool := match cntOf l cs s with | some n => decide (n = old) | none => false
def swapC (l : List ByteArray) (cs : List Int) (s : ByteArray) (old d : Int) : List Int := match swapB l cs s old with | true => putC l cs s d | false => cs
theorem T12 (w0 : World) {g : Nat} {l : List ByteArray} {cs : List Int} (s : ByteArray) (d : Int) :
    Tri Tryd.prog w0 12 [ptrTo g, .string s, .int .i64 d] [Tal g l cs] fun v m => v = .bool (cntOf l cs s).isSome ∧ m = [Tal g l (addC l cs s d)] := by
  refine tri_of Tryd.func12 rfl rfl fun F => ?_
  simp only [Tryd.ntmps12, argEnv, List.cons_append, List.nil_append]
  refine at_tal fun NA nc cb st hn hl hc => ?_
  refine at_seq_k (fun K0 hK0 => ?_)
  refine at_region ?_
  refine at_v (ov_assign rfl rfl) rfl rfl rfl ?_
  refine at_nil ?_
  refine at_normal ?_
  refine hK0 _ _ _ ?_
  refine at_seq_k (fun K1 hK1 => ?_)
  refine at_region ?_
  refine at_v (ov_move rfl rfl) rfl rfl rfl ?_
  refine at_v (ov_move rfl rfl) rfl rfl rfl ?_
  refine at_t (ot_call (ks := [0, 0, 1]) rfl rfl rfl Tryd.call23 rfl (T23b _ _ (by first | assumption | rfl | omega | decide | (simp; done) | (simp at *; omega)) (by first | assumption | rfl | omega | decide | (simp; done) | (simp at *; omega))) rfl) rfl rfl rfl ?_
  rintro v0 _ ⟨m0, hp0, rfl⟩
  obtain ⟨mb0, hp0⟩ := hp0
  obtain ⟨rfl, rfl⟩ := hp0
  simp only [List.cons_append, List.nil_append, splice, spliceL]
  refine at_v (ov_assign rfl rfl) rfl rfl rfl ?_
  refine at_nil ?_
  refine at_normal ?_
  refine hK1 _ _ _ ?_
  refine at_seq_k (fun K2 hK2 => ?_)
  refine at_seq_k (fun K3 hK3 => ?_)
  refine at_region ?_
  refine at_v (ov_move rfl rfl) rfl rfl rfl ?_
  cases hp : posS l s with
  | none =>
    have ho := cntOf_none (cs := cs) hp
    simp only [ofV, hp]
    refine at_v (ov_ptr_nnil (q := none) rfl Tryd.underlying62 rfl rfl) rfl rfl rfl ?_
    refine at_nil ?_
    refine at_normal ?_
    refine hK3 _ _ _ ?_
    refine at_cond_false rfl ?_
    refine at_skip ?_
    refine at_normal ?_
    refine hK2 _ _ _ ?_
    refine at_seq_k (fun K4 hK4 => ?_)
    refine at_region ?_
    refine at_v (ov_move rfl rfl) rfl rfl rfl ?_
    refine at_v (ov_ptr_nnil (q := none) rfl Tryd.underlying62 rfl rfl) rfl rfl rfl ?_
    refine at_v (ov_assign rfl rfl) rfl rfl rfl ?_
    refine at_nil ?_
    refine at_normal ?_
    refine hK4 _ _ _ ?_
    refine at_ret ?_
    refine at_end ?_
    simp only [addC, ho]
    refine at_fold (A := Tal g l cs) [0, 0, 1, 0] rfl (fun h s => ⟨NA, nc, cb, some mb0, ⟨hn, hl, hc⟩, s⟩) ?_
    refine at_fin (rsV rfl (res_tmp rfl)) ?_
    refine ⟨_, ⟨rfl, rfl⟩, ?_⟩
    exact fun _ s => s.finEq (ks := [0]) (js := []) rfl rfl rfl
  | some k =>
    obtain ⟨n, hk, ho⟩ := cntOf_some (cs := cs) hp hc
    simp only [ofV, hp]
    refine at_v (ov_ptr_nnil (q := none) rfl Tryd.underlying62 rfl rfl) rfl rfl rfl ?_
    refine at_nil ?_
    refine at_normal ?_
    refine hK3 _ _ _ ?_
    refine at_cond_true rfl ?_
    refine at_region ?_
    refine at_v (ov_move rfl rfl) rfl rfl rfl ?_
    refine at_v (ov_move rfl rfl) rfl rfl rfl ?_
    refine at_t (ot_call (ks := [3]) rfl rfl rfl Tryd.call24 rfl (T24 _ _ (by first | assumption | rfl | omega | decide | (simp; done) | (simp at *; omega))) rfl) rfl rfl rfl ?_
    rintro v0 _ ⟨m0, hp0, rfl⟩
    obtain ⟨rfl, rfl⟩ := hp0
    simp only [List.cons_append, List.nil_append, splice, spliceL]
    refine at_nil ?_
    refine at_normal ?_
    refine hK2 _ _ _ ?_
    refine at_seq_k (fun K4 hK4 => ?_)
    refine at_region ?_
    refine at_v (ov_move rfl rfl) rfl rfl rfl ?_
    refine at_v (ov_ptr_nnil (q := none) rfl Tryd.underlying62 rfl rfl) rfl rfl rfl ?_
    refine at_v (ov_assign rfl rfl) rfl rfl rfl ?_
    refine at_nil ?_
    refine at_normal ?_
    refine hK4 _ _ _ ?_
    refine at_ret ?_
    refine at_end ?_
    simp only [addC, ho, putC, hp]
    refine at_fold (A := Tal g l (cs.set k (IntKind.i64.wrap (n + d)))) [1, 1, 0, 0] rfl (fun h s => ⟨NA, nc, cb, some mb0, ⟨hn, hl, by simpa using hc⟩, s⟩) ?_
    refine at_fin (rsV rfl (res_tmp rfl)) ?_
    refine ⟨_, ⟨rfl, rfl⟩, ?_⟩
    exact fun _ s => s.finEq (ks := [0]) (js := []) rfl rfl rfl
theorem T16 (w0 : World) {g : Nat} {l : List ByteArray} {cs : List Int} (s : ByteArray) :
    Tri Tryd.prog w0 16 [ptrTo g, .string s] [Tal g l cs] fun v m => v = .tuple #[.int .i64 ((cntOf l cs s).getD 0), .bool (cntOf l cs s).isSome] ∧ m = [Tal g l cs] := by
  refine tri_of Tryd.func16 rfl rfl fun F => ?_
  simp only [Tryd.ntmps16, argEnv, List.cons_append, List.nil_append]
  refine at_tal fun NA nc cb st hn hl hc => ?_
  refine at_seq_k (fun K0 hK0 => ?_)
  refine at_region ?_
  refine at_v (ov_assign rfl rfl) rfl rfl rfl ?_
  refine at_v (ov_assign rfl rfl) rfl rfl rfl ?_
  refine at_nil ?_
  refine at_normal ?_
  refine hK0 _ _ _ ?_
  refine at_seq_k (fun K1 hK1 => ?_)
  refine at_region ?_
  refine at_v (ov_move rfl rfl) rfl rfl rfl ?_
  refine at_v (ov_move rfl rfl) rfl rfl rfl ?_
  refine at_t (ot_call (ks := [0, 0, 1]) rfl rfl rfl Tryd.call23 rfl (T23b _ _ (by first | assumption | rfl | omega | decide | (simp; done) | (simp at *; omega)) (by first | assumption | rfl | omega | decide | (simp; done) | (simp at *; omega))) rfl) rfl rfl rfl ?_
  rintro v0 _ ⟨m0, hp0, rfl⟩
  obtain ⟨mb0, hp0⟩ := hp0
  obtain ⟨rfl, rfl⟩ := hp0
  simp only [List.cons_append, List.nil_append, splice, spliceL]
  refine at_v (ov_assign rfl rfl) rfl rfl rfl ?_
  refine at_nil ?_
  refine at_normal ?_
  refine hK1 _ _ _ ?_
  refine at_seq_k (fun K2 hK2 => ?_)
  refine at_seq_k (fun K3 hK3 => ?_)
  refine at_region ?_
  refine at_v (ov_move rfl rfl) rfl rfl rfl ?_
  cases hp : posS l s with
  | none =>
    have ho := cntOf_none (cs := cs) hp
    simp only [ofV, hp]
    refine at_v (ov_ptr_nil (q := none) rfl Tryd.underlying62 rfl rfl) rfl rfl rfl ?_
    refine at_nil ?_
    refine at_normal ?_
    refine hK3 _ _ _ ?_
    refine at_cond_true rfl ?_
    refine at_seq_k (fun K4 hK4 => ?_)
    refine at_region ?_
    refine at_v (ov_assign rfl rfl) rfl rfl rfl ?_
    refine at_v (ov_assign rfl rfl) rfl rfl rfl ?_
    refine at_nil ?_
    refine at_normal ?_
    refine hK4 _ _ _ ?_
    refine at_ret ?_
    refine at_then_ret ?_
    refine at_end ?_
    simp only [ho]
    refine at_fold (A := Tal g l cs) [0, 0, 1, 0] rfl (fun h s => ⟨NA, nc, cb, some mb0, ⟨hn, hl, hc⟩, s⟩) ?_
    refine at_fin (rsL (vs := [_, _]) rfl ⟨res_tmp rfl, res_tmp rfl, trivial⟩ rfl) ?_
    refine ⟨_, ⟨rfl, rfl⟩, ?_⟩
    exact fun _ s => s.finEq (ks := [0]) (js := []) rfl rfl rfl
  | some k =>
    obtain ⟨n, hk, ho⟩ := cntOf_some (cs := cs) hp hc
    simp only [ofV, hp]
    refine at_v (ov_ptr_nil (q := none) rfl Tryd.underlying62 rfl rfl) rfl rfl rfl ?_
    refine at_nil ?_
    refine at_normal ?_
    refine hK3 _ _ _ ?_
    refine at_cond_false rfl ?_
    refine at_skip ?_
    refine at_normal ?_
    refine hK2 _ _ _ ?_
    refine at_seq_k (fun K4 hK4 => ?_)
    refine at_region ?_
    refine at_v (ov_move rfl rfl) rfl rfl rfl ?_
    refine at_t (ot_call (ks := [3]) rfl rfl rfl Tryd.call26 rfl (T26 _ (by first | assumption | rfl | omega | decide | (simp; done) | (simp at *; omega))) rfl) rfl rfl rfl ?_
    rintro v0 _ ⟨m0, hp0, rfl⟩
    obtain ⟨rfl, rfl⟩ := hp0
    simp only [List.cons_append, List.nil_append, splice, spliceL]
    refine at_v (ov_assign rfl rfl) rfl rfl rfl ?_
    refine at_v (ov_assign rfl rfl) rfl rfl rfl ?_
    refine at_nil ?_
    refine at_normal ?_
    refine hK4 _ _ _ ?_
    refine at_ret ?_
    refine at_end ?_
    simp only [ho]
    refine at_fold (A := Tal g l cs) [1, 1, 0, 0] rfl (fun h s => ⟨NA, nc, cb, some mb0, ⟨hn, hl, hc⟩, s⟩) ?_
    refine at_fin (rsL (vs := [_, _]) rfl ⟨res_tmp rfl, res_tmp rfl, trivial⟩ rfl) ?_
    refine ⟨_, ⟨rfl, rfl⟩, ?_⟩
    exact fun _ s => s.finEq (ks := [0]) (js := []) rfl rfl rfl
theorem T14 (w0 : World) {g : Nat} {l : List ByteArray} {cs : List Int} (s : ByteArray) (old d : Int) :
    Tri Tryd.prog w0 14 [ptrTo g, .string s, .int .i64 old, .int .i64 d] [Tal g l cs] fun v m => v = .bool (swapB l cs s old) ∧ m = [Tal g l (swapC l cs s old d)] := by
  refine tri_of Tryd.func14 rfl rfl fun F => ?_
  simp only [Tryd.ntmps14, argEnv, List.cons_append, List.nil_append]
  refine at_tal fun NA nc cb st hn hl hc => ?_
  refine at_seq_k (fun K0 hK0 => ?_)
  refine at_region ?_
  refine at_v (ov_assign rfl rfl) rfl rfl rfl ?_
  refine at_nil ?_
  refine at_normal ?_
  refine hK0 _ _ _ ?_
  refine at_seq_k (fun K1 hK1 => ?_)
  refine at_region ?_
  refine at_v (ov_move rfl rfl) rfl rfl rfl ?_
  refine at_v (ov_move rfl rfl) rfl rfl rfl ?_
  refine at_t (ot_call (ks := [0, 0, 1]) rfl rfl rfl Tryd.call23 rfl (T23b _ _ (by first | assumption | rfl | omega | decide | (simp; done) | (simp at *; omega)) (by first | assumption | rfl | omega | decide | (simp; done) | (simp at *; omega))) rfl) rfl rfl rfl ?_
  rintro v0 _ ⟨m0, hp0, rfl⟩
  obtain ⟨mb0, hp0⟩ := hp0
  obtain ⟨rfl, rfl⟩ := hp0
  simp only [List.cons_append, List.nil_append, splice, spliceL]
  refine at_v (ov_assign rfl rfl) rfl rfl rfl ?_
  refine at_nil ?_
  refine at_normal ?_
  refine hK1 _ _ _ ?_
  refine at_seq_k (fun K2 hK2 => ?_)
  refine at_region ?_
  refine at_v (ov_move rfl rfl) rfl rfl rfl ?_
  cases hp : posS l s with
  | none =>
    have ho := cntOf_none (cs := cs) hp
    simp only [ofV, hp]
    refine at_v (ov_ptr_nnil (q := none) rfl Tryd.underlying62 rfl rfl) rfl rfl rfl ?_
    refine at_v (ov_move rfl rfl) rfl rfl rfl ?_
    refine at_unwanted (j := 2) rfl rfl rfl rfl ?_
    refine at_unwanted (j := 2) rfl rfl rfl rfl ?_
    refine at_unwanted (j := 2) rfl rfl rfl rfl ?_
    refine at_unwanted (j := 2) rfl rfl rfl rfl ?_
    refine at_v (ov_pick_f rfl rfl rfl) rfl rfl rfl ?_
    refine at_v (ov_assign rfl rfl) rfl rfl rfl ?_
    refine at_nil ?_
    refine at_normal ?_
    refine hK2 _ _ _ ?_
    refine at_ret ?_
    refine at_end ?_
    simp only [swapC, swapB, ho]
    refine at_fold (A := Tal g l cs) [0, 0, 1, 0] rfl (fun h s => ⟨NA, nc, cb, some mb0, ⟨hn, hl, hc⟩, s⟩) ?_
    refine at_fin (rsV rfl (res_tmp rfl)) ?_
    refine ⟨_, ⟨rfl, rfl⟩, ?_⟩
    exact fun _ s => s.finEq (ks := [0]) (js := []) rfl rfl rfl
  | some k =>
    obtain ⟨n, hk, ho⟩ := cntOf_some (cs := cs) hp hc
    simp only [ofV, hp]
    refine at_v (ov_ptr_nnil (q := none) rfl Tryd.underlying62 rfl rfl) rfl rfl rfl ?_
    refine at_v (ov_move rfl rfl) rfl rfl rfl ?_
    refine at_wanted (j := 2) rfl ?_
    refine at_v (ov_move rfl rfl) rfl rfl rfl ?_
    refine at_wanted (j := 2) rfl ?_
    refine at_v (ov_move rfl rfl) rfl rfl rfl ?_
    refine at_wanted (j := 2) rfl ?_
    refine at_v (ov_move rfl rfl) rfl rfl rfl ?_
    refine at_wanted (j := 2) rfl ?_
    refine at_t (ot_call (ks := [3]) rfl rfl rfl Tryd.call25 rfl (T25 _ _ _ (by first | assumption | rfl | omega | decide | (simp; done) | (simp at *; omega))) rfl) rfl rfl rfl ?_
    rintro v0 _ ⟨m0, hp0, rfl⟩
    obtain ⟨rfl, rfl⟩ := hp0
    simp only [List.cons_append, List.nil_append, splice, spliceL]
    refine at_v (ov_pick_t rfl rfl rfl) rfl rfl rfl ?_
    refine at_v (ov_assign rfl rfl) rfl rfl rfl ?_
    refine at_nil ?_
    refine at_normal ?_
    refine hK2 _ _ _ ?_
    refine at_ret ?_
    refine at_end ?_
    have e : (if n = old then cs.set k d else cs) = swapC l cs s old d := by
      simp only [swapC, swapB, ho, putC, hp]
      by_cases h : n = old <;> simp [h]
    simp only [e]
    have hc' : (swapC l cs s old d).length = l.length := by rw [← e]; split <;> simp [hc]
    refine at_fold (A := Tal g l (swapC l cs s old d)) [1, 1, 0, 0] rfl (fun h s => ⟨NA, nc, cb, some mb0, ⟨hn, hl, hc'⟩, s⟩) ?_
    refine at_fin (rsV rfl (res_tmp rfl)) ?_
    refine ⟨_, ⟨by simp [swapB, ho], rfl⟩, ?_⟩
    exact fun _ s => s.finEq (ks := [0]) (js := []) rfl rfl rfl
/-! ### Names, Lines, Texts -/
theorem T22a (w0 : World) {A : Option Addr} {c : Nat} {xs : List ByteArray} (hm : xs.length ≤ 1000) :
    Tri Tryd.prog w0 22 [.slice A xs.length c] [Row sE 9 1 A c xs] fun v m => ∃ B d, v = .slice B xs.length d ∧ m = [Row sE 9 1 B d xs, Row sE 9 1 A c xs] :=
  (Tri.of_all fun w s' => T22 w (s'.rd (k := 0) rfl) hm).post fun v m ⟨m', ⟨B, d, h1, h2⟩, h3⟩ => ⟨B, d, h1, by rw [h3, h2]; rfl⟩
theorem T11 (w0 : World) {g : Nat} {l : List ByteArray} {cs : List Int} :
    Tri Tryd.prog w0 11 [ptrTo g] [Tal g l cs] fun v m => ∃ B d, v = .slice B l.length d ∧ m = [Row sE 9 1 B d l, Tal g l cs] := by
  refine tri_of Tryd.func11 rfl rfl fun F => ?_
  simp only [Tryd.ntmps11, argEnv, List.cons_append, List.nil_append]
  refine at_tal fun NA nc cb st hn hl hc => ?_
  refine at_seq_k (fun K0 hK0 => ?_)
  refine at_region ?_
  refine at_v (ov_assign rfl rfl) rfl rfl rfl ?_
  refine at_nil ?_
  refine at_normal ?_
  refine hK0 _ _ _ ?_
  refine at_seq_k (fun K1 hK1 => ?_)
  refine at_region ?_
  refine at_v (ov_move rfl rfl) rfl rfl rfl ?_
  refine at_v (ov_nilCheck rfl rfl) rfl rfl rfl ?_
  refine at_v (ov_fieldAddr (k := 0) (r := 0) rfl rfl rfl rfl) rfl rfl rfl ?_
  refine at_v (ov_load rfl rfl rfl (fun _ s => s.ld (k := 0) rfl rfl)) rfl rfl rfl ?_
  refine at_t (ot_call (ks := [1]) rfl rfl rfl Tryd.call22 rfl (T22a _ (by first | assumption | rfl | omega | decide | (simp; done) | (simp at *; omega))) rfl) rfl rfl rfl ?_
  rintro v0 _ ⟨m0, hp0, rfl⟩
  obtain ⟨B0, hp0⟩ := hp0
  obtain ⟨d0, hp0⟩ := hp0
  obtain ⟨rfl, rfl⟩ := hp0
  simp only [List.cons_append, List.nil_append, splice, spliceL]
  refine at_v (ov_assign rfl rfl) rfl rfl rfl ?_
  refine at_nil ?_
  refine at_normal ?_
  refine hK1 _ _ _ ?_
  refine at_ret ?_
  refine at_end ?_
  refine at_fold (A := Tal g l cs) [2, 1, 1, 1] rfl (fun h s => ⟨NA, nc, cb, st, ⟨hn, hl, hc⟩, s⟩) ?_
  refine at_fin (rsV rfl (res_tmp rfl)) ?_
  refine ⟨_, ⟨_, _, rfl, rfl⟩, ?_⟩
  exact fun _ s => s.finEq (ks := [1, 0]) (js := []) rfl rfl rfl
def spB : ByteArray := ⟨#[32]⟩
def lineOf (s : ByteArray) (n : Int) : ByteArray := s ++ spB ++ itoaB n
def linesL (l : List ByteArray) (cs : List Int) : List ByteArray := (l.zip cs).filterMap fun p => if p.2 = 0 then none else some (lineOf p.1 p.2)
theorem lines_succ {l : List ByteArray} {cs : List Int} {k : Nat} {s : ByteArray} {n : Int} (h : l[k]? = some s) (hc : cs[k]? = some n) : linesL (l.take (k + 1)) (cs.take (k + 1)) = linesL (l.take k) (cs.take k) ++ (if n = 0 then [] else [lineOf s n]) := by
  have h1 := (List.getElem?_eq_some_iff.1 h).1
  have h2 := (List.getElem?_eq_some_iff.1 hc).1
  unfold linesL
  rw [List.take_add_one, h, List.take_add_one, hc]
  simp only [Option.toList_some]
  rw [List.zip_append (by simp; omega), List.filterMap_append]
  congr 1
  by_cases e : n = 0 <;> simp [e]
theorem lines_len (l : List ByteArray) (cs : List Int) : (linesL l cs).length ≤ l.length := by
  unfold linesL
  refine Nat.le_trans (List.length_filterMap_le _ _) ?_
  rw [List.length_zip]; omega
def okC (cs : List Int) : Prop := ∀ n ∈ cs, -9223372036854775808 ≤ n ∧ n ≤ 9223372036854775807
theorem itoaB_size (n : Int) (h0 : -9223372036854775808 ≤ n) (h1 : n ≤ 9223372036854775807) : (itoaB n).size ≤ 21 := by
  have := Lib.itoa_length_le n h0 h1
  simpa [itoaB, ByteArray.size] using this
theorem T18 (w0 : World) {g : Nat} {l : List ByteArray} {cs : List Int} (hs : ∀ s ∈ l, s.size ≤ 300) (hcs : okC cs) (htab : Pow10 w0) :
    Tri Tryd.prog w0 18 [ptrTo g] [Tal g l cs] fun v m => ∃ B d, v = .slice B (linesL l cs).length d ∧ m = [Row sE 9 1 B d (linesL l cs), Tal g l cs] := by
  refine tri_of Tryd.func18 rfl rfl fun F => ?_
  simp only [Tryd.ntmps18, argEnv, List.cons_append, List.nil_append]
  refine at_tal fun NA nc cb st hn hl hc => ?_
  refine at_rowNil sE 9 1 ?_
  refine at_seq_k (fun K0 hK0 => ?_)
  refine at_region ?_
  refine at_v (ov_assign rfl rfl) rfl rfl rfl ?_
  refine at_nil ?_
  refine at_normal ?_
  refine hK0 _ _ _ ?_
  refine at_seq_k (fun K1 hK1 => ?_)
  refine at_region ?_
  refine at_v (ov_assign rfl rfl) rfl rfl rfl ?_
  refine at_nil ?_
  refine at_normal ?_
  refine hK1 _ _ _ ?_
  refine at_seq_k (fun K2 hK2 => ?_)
  refine at_seq_k (fun K3 hK3 => ?_)
  refine at_region ?_
  refine at_v (ov_move rfl rfl) rfl rfl rfl ?_
  refine at_v (ov_nilCheck rfl rfl) rfl rfl rfl ?_
  refine at_v (ov_fieldAddr (k := 0) (r := 0) rfl rfl rfl rfl) rfl rfl rfl ?_
  refine at_v (ov_load rfl rfl rfl (fun _ s => s.ld (k := 1) rfl rfl)) rfl rfl rfl ?_
  refine at_v (ov_len_slice rfl Tryd.underlying22 rfl) rfl rfl rfl ?_
  refine at_v (ov_move rfl rfl) rfl rfl rfl ?_
  refine at_nil ?_
  refine at_normal ?_
  refine hK3 _ _ _ ?_
  refine at_block ?_
  refine at_loopE [13, 14, 15, 16, 4, 5, 17, 18, 19, 20, 21, 22, 23, 6, 24, 25, 26, 27, 28, 29, 30, 31, 32, 33, 3, 34, 12] (fun i : Nat × Option Addr × Nat => i.1 ≤ l.length) (fun i => [(12, .int .i64 (i.1 : Nat)), (3, .slice i.2.1 (linesL (l.take i.1) (cs.take i.1)).length i.2.2)]) (fun i m => setAt 0 (Row sE 9 1 i.2.1 i.2.2 (linesL (l.take i.1) (cs.take i.1))) m) (fun i => l.length - i.1) (0, none, 0) (Nat.zero_le _) ⟨rfl, rfl, trivial⟩ (fun _ s => s) ?_
  rintro ⟨k, A1, c1⟩ hk
  simp only [setAt] at hk ⊢
  have hul := lines_len (l.take k) (cs.take k)
  have htk : (l.take k).length ≤ 100 := by rw [List.length_take]; omega
  refine at_seq_k (fun K4 hK4 => ?_)
  refine at_region ?_
  refine at_v (ov_int rfl rfl rfl rfl) rfl rfl rfl ?_
  refine at_nil ?_
  refine at_normal ?_
  refine hK4 _ _ _ ?_
  refine at_seq_k (fun K5 hK5 => ?_)
  refine at_cond rfl (fun hc2 => ?_) (fun hc2 => ?_)
  · have hlt : k < l.length := by simpa using hc2
    obtain ⟨x, hget⟩ : ∃ x, l[k]? = some x := ⟨_, List.getElem?_eq_getElem hlt⟩
    obtain ⟨n, hgc⟩ : ∃ n, cs[k]? = some n := ⟨_, List.getElem?_eq_getElem (by omega)⟩
    have hsx := hs x (List.mem_of_getElem? hget)
    have hnx := hcs n (List.mem_of_getElem? hgc)
    have hst := lines_succ hget hgc
    have hcell := ctA_get hgc
    have hisz := itoaB_size n hnx.1 hnx.2
    refine at_skip ?_
    refine at_normal ?_
    refine hK5 _ _ _ ?_
    refine at_seq_k (fun K6 hK6 => ?_)
    refine at_block ?_
    refine at_seq_k (fun K7 hK7 => ?_)
    refine at_region ?_
    refine at_v (ov_move rfl rfl) rfl rfl rfl ?_
    refine at_v (ov_indexRd (fun _ s => s.rd (k := 2) rfl) rfl Tryd.underlying22 rfl rfl rfl hget) rfl rfl rfl ?_
    refine at_v (ov_loadRd0 (fun _ s => s.rd (k := 2) rfl) rfl rfl rfl hget rfl) rfl rfl rfl ?_
    refine at_v (ov_assign rfl rfl) rfl rfl rfl ?_
    refine at_v (ov_assign rfl rfl) rfl rfl rfl ?_
    refine at_nil ?_
    refine at_normal ?_
    refine hK7 _ _ _ ?_
    refine at_seq_k (fun K8 hK8 => ?_)
    refine at_region ?_
    refine at_v (ov_move rfl rfl) rfl rfl rfl ?_
    refine at_v (ov_nilCheck rfl rfl) rfl rfl rfl ?_
    refine at_v (ov_fieldAddr (k := 1) (r := 1) rfl rfl rfl rfl) rfl rfl rfl ?_
    refine at_v (ov_load rfl rfl rfl (fun _ s => s.ld (k := 1) rfl rfl)) rfl rfl rfl ?_
    refine at_v (ov_move rfl rfl) rfl rfl rfl ?_
    refine at_v (ov_indexAddr rfl Tryd.underlying44 rfl rfl rfl (by omega) (by omega)) rfl rfl rfl ?_
    refine at_reval 22 (.pointer (some ⟨cb, k, none⟩)) rfl (show Value.pointer (some ((⟨cb, 0, none⟩ : Addr).add ((k : Int).toNat * 1))) = _ by rw [add_none]; simp) ?_
    refine at_t (ot_call (ks := [3]) rfl rfl rfl Tryd.call26 rfl (T26 _ (by first | assumption | rfl | omega | decide | (simp; done) | (simp at *; omega))) rfl) rfl rfl rfl ?_
    rintro v0 _ ⟨m0, hp0, rfl⟩
    obtain ⟨rfl, rfl⟩ := hp0
    simp only [List.cons_append, List.nil_append, splice, spliceL]
    refine at_v (ov_assign rfl rfl) rfl rfl rfl ?_
    refine at_nil ?_
    refine at_normal ?_
    refine hK8 _ _ _ ?_
    refine at_seq_k (fun K9 hK9 => ?_)
    refine at_region ?_
    refine at_v (ov_move rfl rfl) rfl rfl rfl ?_
    refine at_v (ov_int rfl rfl rfl rfl) rfl rfl rfl ?_
    refine at_nil ?_
    refine at_normal ?_
    refine hK9 _ _ _ ?_
    by_cases hz : n = 0
    · subst hz
      simp only [if_true, List.append_nil] at hst
      refine at_cond_false rfl ?_
      refine at_skip ?_
      refine at_inb_normal ?_
      refine at_normal ?_
      refine hK6 _ _ _ ?_
      refine at_region ?_
      refine at_v ((ov_int rfl rfl rfl rfl).eq (congrArg (Value.int .i64) (inK_i64 (by omega) (by omega)))) rfl rfl rfl ?_
      refine at_v (ov_move rfl rfl) rfl rfl rfl ?_
      refine at_nil ?_
      refine at_normal ?_
      refine at_roundF (k + 1, A1, c1) hlt (by simp only; omega) ⟨rfl, look_eq rfl (by simp only [hst]), trivial⟩ rfl ?_
      simp only [hst]
      exact fun _ s => s.finEq (ks := [1, 1, 1, 0, 0]) (js := []) rfl rfl rfl
    · rw [if_neg hz] at hst
      have hi : (!decide (n = 0)) = true := by simp [hz]
      have hs1 : (⟨#[32]⟩ : ByteArray).size = 1 := rfl
      have hs2 : (x ++ (⟨#[32]⟩ : ByteArray)).size = x.size + 1 := by rw [ByteArray.size_append, hs1]
      refine at_cond_true (congrArg (fun b => some (Value.bool b)) (show _ = true from by first | assumption | (rw [Bool.not_eq_true']; exact decide_eq_false (by omega)))) ?_
      refine at_region ?_
      refine at_v (ov_move rfl rfl) rfl rfl rfl ?_
      refine at_v (ov_move rfl rfl) rfl rfl rfl ?_
      refine at_v (ov_cat rfl rfl rfl (by omega)) rfl rfl rfl ?_
      refine at_v (ov_move rfl rfl) rfl rfl rfl ?_
      refine at_t (ot_call (ks := []) rfl rfl rfl Tryd.call27 rfl (T27 _ _ (by first | assumption | rfl | omega | decide | (simp; done) | (simp at *; omega)) (by first | assumption | rfl | omega | decide | (simp; done) | (simp at *; omega)) (by first | assumption | rfl | omega | decide | (simp; done) | (simp at *; omega))) rfl) rfl rfl rfl ?_
      rintro v0 _ ⟨m0, hp0, rfl⟩
      obtain ⟨rfl, rfl⟩ := hp0
      simp only [List.cons_append, List.nil_append, splice, spliceL]
      refine at_v (ov_cat rfl rfl rfl (by omega)) rfl rfl rfl ?_
      refine at_t (ot_buildSlice (cs := [_]) rfl Tryd.underlying22 rfl rfl rfl rfl rfl rfl) rfl rfl rfl ?_
      rintro _ _ ⟨g0, rfl, rfl⟩
      refine at_t (ot_append (k := 2) (size := 1) (bytes := 16) (ys := [lineOf x n]) (fun _ s => s.rdPt (k := 0) rfl rfl (by simp [sE])) rfl Tryd.underlying22 (ti := Tryd.t9) rfl rfl rfl rfl rfl (by decide) rfl rfl rfl (by simp [sE, Value.oneCell']) (by simp; omega) (by decide)) rfl rfl rfl ?_
      rintro _ _ ⟨A0, c0, rfl, rfl⟩
      simp only [setAt]
      refine at_v (ov_assign rfl rfl) rfl rfl rfl ?_
      refine at_nil ?_
      refine at_inb_normal ?_
      refine at_normal ?_
      refine hK6 _ _ _ ?_
      refine at_region ?_
      refine at_v ((ov_int rfl rfl rfl rfl).eq (congrArg (Value.int .i64) (inK_i64 (by omega) (by omega)))) rfl rfl rfl ?_
      refine at_v (ov_move rfl rfl) rfl rfl rfl ?_
      refine at_nil ?_
      refine at_normal ?_
      refine at_roundF (k + 1, A0, c0) hlt (by simp only; omega) ⟨rfl, look_eq rfl (by simp only [hst]), trivial⟩ rfl ?_
      simp only [hst]
      exact fun _ s => s.finEq (ks := [2, 2, 2, 1, 1]) (js := [0]) rfl rfl rfl
  · have hk2 : k = l.length := by
      have : ¬ k < l.length := by simpa using hc2
      omega
    subst hk2
    rw [List.take_length, List.take_of_length_le (by omega)]
    refine at_exit ?_
    refine at_then_exit ?_
    refine at_then_exit ?_
    refine at_exit_eq ?_
    refine at_normal ?_
    refine hK2 _ _ _ ?_
    refine at_seq_k (fun K6 hK6 => ?_)
    refine at_region ?_
    refine at_v (ov_move rfl rfl) rfl rfl rfl ?_
    refine at_v (ov_assign rfl rfl) rfl rfl rfl ?_
    refine at_nil ?_
    refine at_normal ?_
    refine hK6 _ _ _ ?_
    refine at_ret ?_
    refine at_end ?_
    refine at_fold (A := Tal g l cs) [1, 1, 1, 1] rfl (fun h s => ⟨NA, nc, cb, st, ⟨hn, hl, hc⟩, s⟩) ?_
    refine at_fin (rsV rfl (res_tmp rfl)) ?_
    refine ⟨_, ⟨_, _, rfl, rfl⟩, ?_⟩
    exact fun _ s => s.finEq (ks := [1, 0]) (js := []) rfl rfl rfl
theorem T10 (w0 : World) {A B : Option Addr} {c d : Nat} {xs ys : List ByteArray} (hr : Rd sE w0 1 A xs) (hr2 : Rd sE w0 1 B ys) (hm : xs.length ≤ 9223372036854775807) (hm2 : ys.length ≤ 9223372036854775807) :
    Tri Tryd.prog w0 10 [.slice A xs.length c, .slice B ys.length d] [] fun v m => v = .bool (decide (xs = ys)) ∧ m = [] := by
  refine tri_of Tryd.func10 rfl rfl fun F => ?_
  simp only [Tryd.ntmps10, argEnv, List.nil_append]
  by_cases hil : xs.length = ys.length
  · refine at_seq_k (fun K0 hK0 => ?_)
    refine at_region ?_
    refine at_v (ov_assign rfl rfl) rfl rfl rfl ?_
    refine at_nil ?_
    refine at_normal ?_
    refine hK0 _ _ _ ?_
    refine at_seq_k (fun K1 hK1 => ?_)
    refine at_seq_k (fun K2 hK2 => ?_)
    refine at_region ?_
    refine at_v (ov_move rfl rfl) rfl rfl rfl ?_
    refine at_v (ov_len_slice rfl Tryd.underlying22 rfl) rfl rfl rfl ?_
    refine at_v (ov_move rfl rfl) rfl rfl rfl ?_
    refine at_v (ov_len_slice rfl Tryd.underlying22 rfl) rfl rfl rfl ?_
    refine at_v (ov_int rfl rfl rfl rfl) rfl rfl rfl ?_
    refine at_nil ?_
    refine at_normal ?_
    refine hK2 _ _ _ ?_
    refine at_cond_false (congrArg (fun b => some (Value.bool b)) (show _ = false from by first | assumption | (rw [Bool.not_eq_false']; exact decide_eq_true (by omega)))) ?_
    refine at_skip ?_
    refine at_normal ?_
    refine hK1 _ _ _ ?_
    refine at_seq_k (fun K3 hK3 => ?_)
    refine at_seq_k (fun K4 hK4 => ?_)
    refine at_region ?_
    refine at_v (ov_assign rfl rfl) rfl rfl rfl ?_
    refine at_nil ?_
    refine at_normal ?_
    refine hK4 _ _ _ ?_
    refine at_block ?_
    refine at_loopE [11, 12, 13, 14, 17, 18, 19, 20, 21, 22, 23, 24, 25, 4, 15, 16, 5] (fun k => k ≤ xs.length ∧ xs.take k = ys.take k) (fun k => [(5, .int .i64 (k : Nat))]) (fun _ l => l) (fun k => xs.length - k) 0 ⟨Nat.zero_le _, rfl⟩ ⟨rfl, trivial⟩ (fun _ s => s) ?_
    rintro k ⟨hk, hb⟩
    refine at_seq_k (fun K5 hK5 => ?_)
    refine at_seq_k (fun K6 hK6 => ?_)
    refine at_region ?_
    refine at_v (ov_move rfl rfl) rfl rfl rfl ?_
    refine at_v (ov_move rfl rfl) rfl rfl rfl ?_
    refine at_v (ov_len_slice rfl Tryd.underlying22 rfl) rfl rfl rfl ?_
    refine at_v (ov_int rfl rfl rfl rfl) rfl rfl rfl ?_
    refine at_nil ?_
    refine at_normal ?_
    refine hK6 _ _ _ ?_
    refine at_cond rfl (fun hc => ?_) (fun hc => ?_)
    · have hlt : k < xs.length := by simpa using hc
      have hget : xs[k]? = some xs[k] := List.getElem?_eq_getElem hlt
      have hget2 : ys[k]? = some ys[k] := List.getElem?_eq_getElem (by omega)
      by_cases he : xs[k] = ys[k]
      · refine at_skip ?_
        refine at_normal ?_
        refine hK5 _ _ _ ?_
        refine at_seq_k (fun K7 hK7 => ?_)
        refine at_block ?_
        refine at_seq_k (fun K8 hK8 => ?_)
        refine at_draw _ [] 1000 [(2, 0), (2, 1), (1, 2), (1, 3), (2, 4), (2, 5), (1, 6), (1, 7), (2, 8)] (by kernel_rfl) (by kernel_rfl) (fun _ s => (s.pulls (ks := []) rfl).left) ?_
        refine aq_p (ov_move rfl rfl) rfl rfl rfl ?_
        refine aq_p (ov_move rfl rfl) rfl rfl rfl ?_
        refine aq_v (ov_indexRd (fun _ s => hr.up s) rfl Tryd.underlying22 rfl rfl rfl hget) rfl rfl rfl ?_
        refine aq_v (ov_loadRd0 (fun _ s => hr.up s) rfl rfl rfl hget rfl) rfl rfl rfl ?_
        refine aq_p (ov_move rfl rfl) rfl rfl rfl ?_
        refine aq_p (ov_move rfl rfl) rfl rfl rfl ?_
        refine aq_v (ov_indexRd (fun _ s => hr2.up s) rfl Tryd.underlying22 rfl rfl rfl hget2) rfl rfl rfl ?_
        refine aq_v (ov_loadRd0 (fun _ s => hr2.up s) rfl rfl rfl hget2 rfl) rfl rfl rfl ?_
        refine aq_p (ov_str rfl rfl rfl rfl) rfl rfl rfl ?_
        refine aq_nil ?_
        refine at_normal ?_
        refine hK8 _ _ _ ?_
        refine at_cond_false (congrArg (fun b => some (Value.bool b)) (show _ = false from by first | assumption | (rw [Bool.not_eq_false']; exact decide_eq_true (by omega)))) ?_
        refine at_skip ?_
        refine at_inb_normal ?_
        refine at_normal ?_
        refine hK7 _ _ _ ?_
        refine at_region ?_
        refine at_v (ov_move rfl rfl) rfl rfl rfl ?_
        refine at_v ((ov_int rfl rfl rfl rfl).eq (congrArg (Value.int .i64) (inK_i64 (by omega) (by omega)))) rfl rfl rfl ?_
        refine at_v (ov_assign rfl rfl) rfl rfl rfl ?_
        refine at_nil ?_
        refine at_normal ?_
        refine at_roundF (k + 1) ⟨hlt, by rw [List.take_add_one, List.take_add_one, hget, hget2, he, hb]⟩ (by omega) ⟨rfl, trivial⟩ rfl ?_
        exact fun _ s => s.finEq (ks := []) (js := []) rfl rfl rfl
      · have hne : ¬ xs = ys := fun e => by subst e; exact he rfl
        refine at_skip ?_
        refine at_normal ?_
        refine hK5 _ _ _ ?_
        refine at_seq_k (fun K7 hK7 => ?_)
        refine at_block ?_
        refine at_seq_k (fun K8 hK8 => ?_)
        refine at_draw _ [] 1000 [(2, 0), (2, 1), (1, 2), (1, 3), (2, 4), (2, 5), (1, 6), (1, 7), (2, 8)] (by kernel_rfl) (by kernel_rfl) (fun _ s => (s.pulls (ks := []) rfl).left) ?_
        refine aq_p (ov_move rfl rfl) rfl rfl rfl ?_
        refine aq_p (ov_move rfl rfl) rfl rfl rfl ?_
        refine aq_v (ov_indexRd (fun _ s => hr.up s) rfl Tryd.underlying22 rfl rfl rfl hget) rfl rfl rfl ?_
        refine aq_v (ov_loadRd0 (fun _ s => hr.up s) rfl rfl rfl hget rfl) rfl rfl rfl ?_
        refine aq_p (ov_move rfl rfl) rfl rfl rfl ?_
        refine aq_p (ov_move rfl rfl) rfl rfl rfl ?_
        refine aq_v (ov_indexRd (fun _ s => hr2.up s) rfl Tryd.underlying22 rfl rfl rfl hget2) rfl rfl rfl ?_
        refine aq_v (ov_loadRd0 (fun _ s => hr2.up s) rfl rfl rfl hget2 rfl) rfl rfl rfl ?_
        refine aq_p (ov_str rfl rfl rfl rfl) rfl rfl rfl ?_
        refine aq_nil ?_
        refine at_normal ?_
        refine hK8 _ _ _ ?_
        refine at_cond_true (congrArg (fun b => some (Value.bool b)) (show _ = true from by first | assumption | (rw [Bool.not_eq_true']; exact decide_eq_false (by omega)))) ?_
        refine at_seq_k (fun K9 hK9 => ?_)
        refine at_region ?_
        refine at_v (ov_assign rfl rfl) rfl rfl rfl ?_
        refine at_nil ?_
        refine at_normal ?_
        refine hK9 _ _ _ ?_
        refine at_ret ?_
        refine at_inb_ret ?_
        refine at_then_ret ?_
        refine at_then_ret ?_
        refine at_inb_ret ?_
        refine at_then_ret ?_
        refine at_end ?_
        refine at_fin (rsV rfl (res_tmp rfl)) ?_
        refine ⟨_, ⟨by simp [hne], rfl⟩, ?_⟩
        exact fun _ s => s.finEq (ks := []) (js := []) rfl rfl rfl
    · have hk2 : k = xs.length := by
        have : ¬ k < xs.length := by simpa using hc
        omega
      subst hk2
      rw [List.take_length, hil, List.take_length] at hb
      refine at_exit ?_
      refine at_then_exit ?_
      refine at_then_exit ?_
      refine at_exit_eq ?_
      refine at_normal ?_
      refine hK3 _ _ _ ?_
      refine at_seq_k (fun K7 hK7 => ?_)
      refine at_region ?_
      refine at_v (ov_assign rfl rfl) rfl rfl rfl ?_
      refine at_nil ?_
      refine at_normal ?_
      refine hK7 _ _ _ ?_
      refine at_ret ?_
      refine at_end ?_
      refine at_fin (rsV rfl (res_tmp rfl)) ?_
      refine ⟨_, ⟨by simp [hb], rfl⟩, ?_⟩
      exact fun _ s => s.finEq (ks := []) (js := []) rfl rfl rfl
  · have hne : ¬ xs = ys := fun e => hil (by rw [e])
    refine at_seq_k (fun K0 hK0 => ?_)
    refine at_region ?_
    refine at_v (ov_assign rfl rfl) rfl rfl rfl ?_
    refine at_nil ?_
    refine at_normal ?_
    refine hK0 _ _ _ ?_
    refine at_seq_k (fun K1 hK1 => ?_)
    refine at_seq_k (fun K2 hK2 => ?_)
    refine at_region ?_
    refine at_v (ov_move rfl rfl) rfl rfl rfl ?_
    refine at_v (ov_len_slice rfl Tryd.underlying22 rfl) rfl rfl rfl ?_
    refine at_v (ov_move rfl rfl) rfl rfl rfl ?_
    refine at_v (ov_len_slice rfl Tryd.underlying22 rfl) rfl rfl rfl ?_
    refine at_v (ov_int rfl rfl rfl rfl) rfl rfl rfl ?_
    refine at_nil ?_
    refine at_normal ?_
    refine hK2 _ _ _ ?_
    refine at_cond_true (congrArg (fun b => some (Value.bool b)) (show _ = true from by first | assumption | (rw [Bool.not_eq_true']; exact decide_eq_false (by omega)))) ?_
    refine at_seq_k (fun K3 hK3 => ?_)
    refine at_region ?_
    refine at_v (ov_assign rfl rfl) rfl rfl rfl ?_
    refine at_nil ?_
    refine at_normal ?_
    refine hK3 _ _ _ ?_
    refine at_ret ?_
    refine at_then_ret ?_
    refine at_end ?_
    refine at_fin (rsV rfl (res_tmp rfl)) ?_
    refine ⟨_, ⟨by simp [hne], rfl⟩, ?_⟩
    exact fun _ s => s.finEq (ks := []) (js := []) rfl rfl rfl
