/- Package class: the map of rules is made: its first region, which draws its order. -/
import Derived.Test.YtfcmajgnpnlkiaaGreatDoorProg
import Derived.Test.YtfcmajgnpnlkiaaGreatDoorClassB
import Derived.Test.YtfcmajgnpnlkiaaGreatDoorSLB
import Derived.KernelRfl
set_option linter.unusedSimpArgs false
set_option linter.unusedVariables false
set_option maxRecDepth 100000
set_option maxHeartbeats 4000000
namespace Go.Proofs.YtfcmajgnpnlkiaaGreatDoor
open Go Go.Proofs.YtfcmajgnpnlkiaaGreatDoor.SL Go.RowKit
section
variable {P : Program} {w0 : World} {n : Nat} {ds : List Deferred} {env : Env} {l : List HP} {o : Oper} {d : TypeDesc} {mb k j : Nat} {kvs : List (Value × Value)} {key v : Value} {t kt et : TypeId} {x y z : Operand}
open Go.MapKept (Stamped IsKey) in
theorem ot_insNew (ho : o.op = .insert t x y z) (ht : P.underlying t = some (.map kt et)) (hkt : P.underlying kt = some d) (hx : ev env x = some (.map (some mb))) (hy : ev env y = some key) (hz : ev env z = some v) (hk : nth k l = some (MapA d mb kvs)) (hd : IsKey d key) (hno : ∀ p ∈ kvs, p.1 ≠ key) :
    OpT P w0 n ds env l o fun u l' => u = undef ∧ l' = setAt k (MapA d mb (kvs ++ [(key, v)])) l := fun a w f s => by
  obtain ⟨es, clock, hb, hs, hi, rfl⟩ := s.map_ hk
  unfold Oper.goesV execOp
  rw [ho];simp [f.eval hx, f.eval hy, f.eval hz, Instr.mapUpdate, run_und ht, MapKept.run_getObj_map hb, MapKept.run_checkKey hkt hd, MapKept.run_findKey hkt (find_out hi hd hno), MapKept.run_setObj_map _ hb];refine s.mapSet _ _ hk (MapKept.stamped_push hs (val := v) fun x hx e => hno (x.key, x.val) (List.mem_map.2 ⟨x, hx, rfl⟩) e) (fun x hx => ?_) (by simp);simp only [Array.toList_push, List.mem_append, List.mem_singleton] at hx
  rcases hx with hx | rfl
  · exact hi x hx
  · exact hd
end
def opt (c : Bool) (A : HP) : HP := match c with | true => A | false => fun _ => True
def six (b4 b5 : Nat) : List (Nat × Value × Value) :=
  [(2, SV wEXPLAIN, fnV 91), (3, SV wBEGIN, fnV 92), (4, SV wSTART, fnV 93), (6, SV wCOMMIT, capV 133 b4), (8, SV wROLLBACK, capV 133 b5), (9, SV wSET, fnV 95)]
def upKV (u : Nat → Bool) (t : List (Nat × Value × Value)) : List (Value × Value) := t.filterMap fun x => match u x.1 with | true => some x.2 | false => none
def sel (c : Bool) (x : Value × Value) : List (Value × Value) := match c with | true => [x] | false => []
theorem upKV_six {u : Nat → Bool} {b4 b5 : Nat} : upKV u (six b4 b5) = sel (u 2) (SV wEXPLAIN, fnV 91) ++ (sel (u 3) (SV wBEGIN, fnV 92) ++ (sel (u 4) (SV wSTART, fnV 93) ++ (sel (u 6) (SV wCOMMIT, capV 133 b4) ++ (sel (u 8) (SV wROLLBACK, capV 133 b5) ++ sel (u 9) (SV wSET, fnV 95))))) := by
  unfold upKV six
  simp only [List.filterMap_cons, List.filterMap_nil]
  cases u 2 <;> cases u 3 <;> cases u 4 <;> cases u 6 <;> cases u 8 <;> cases u 9 <;> rfl
theorem upKV_same {u u' : Nat → Bool} {t : List (Nat × Value × Value)} (h : ∀ x ∈ t, u' x.1 = u x.1) : upKV u' t = upKV u t := by
  unfold upKV
  induction t with
  | nil => rfl
  | cons a t ih =>
    have h1 := h a (by simp);have h2 := ih fun x hx => h x (by simp [hx]);simp only [List.filterMap_cons, h1, h2]
theorem upKV_add {u : Nat → Bool} {i : Nat} {x : Value × Value} : ∀ {t : List (Nat × Value × Value)}, (t.map (·.1)).Nodup → (i, x) ∈ t → u i = false → (upKV (fun j => (Nat.beq i j || u j)) t).Perm (upKV u t ++ [x])
  | a :: t, hn, hm, hu => by
    have hn' := List.nodup_cons.1 hn
    rcases List.mem_cons.1 hm with rfl | hm
    · have hs : upKV (fun j => (Nat.beq i j || u j)) t = upKV u t := upKV_same fun y hy => by
        have : i ≠ y.1 := fun e => hn'.1 (e ▸ List.mem_map.2 ⟨y, hy, rfl⟩);have : Nat.beq i y.1 = false := beq_no this;simp [this]
      have hi : Nat.beq i i = true := by simp [Nat.beq_eq]
      have h1 : upKV (fun j => (Nat.beq i j || u j)) ((i, x) :: t) = x :: upKV u t := by rw [← hs]; unfold upKV; simp [hi]
      have h2 : upKV u ((i, x) :: t) = upKV u t := by unfold upKV; simp [hu]
      rw [h1, h2];exact (List.perm_append_singleton x _).symm
    · have ih := upKV_add hn'.2 hm hu;have hia : i ≠ a.1 := fun e => hn'.1 (List.mem_map.2 ⟨(i, x), hm, e⟩);have hia : Nat.beq i a.1 = false := beq_no hia
      cases hua : u a.1 with
      | true =>
        have h1 : upKV (fun j => (Nat.beq i j || u j)) (a :: t) = a.2 :: upKV (fun j => (Nat.beq i j || u j)) t := by unfold upKV; simp [hua]
        have h2 : upKV u (a :: t) = a.2 :: upKV u t := by unfold upKV; simp [hua]
        rw [h1, h2];exact ih.cons _
      | false =>
        have h1 : upKV (fun j => (Nat.beq i j || u j)) (a :: t) = upKV (fun j => (Nat.beq i j || u j)) t := by unfold upKV; simp [hua, hia]
        have h2 : upKV u (a :: t) = upKV u t := by unfold upKV; simp [hua]
        rw [h1, h2];exact ih
theorem upKV_no {u : Nat → Bool} {i b4 b5 : Nat} {x : Value × Value} {kvs : List (Value × Value)} (hp : kvs.Perm (upKV u (six b4 b5))) (hm : (i, x) ∈ six b4 b5) (hu : u i = false) : ∀ p ∈ kvs, p.1 ≠ x.1 := by
  intro p hpm e;have := hp.mem_iff.1 hpm
  unfold upKV at this
  obtain ⟨y, hy, hyp⟩ := List.mem_filterMap.1 this
  have hk : ∀ y ∈ six b4 b5, ∀ z ∈ six b4 b5, y.2.1 = z.2.1 → y.1 = z.1 := by
    intro y hy z hz e;simp only [six, List.mem_cons, List.not_mem_nil, or_false] at hy hz
    rcases hy with rfl | rfl | rfl | rfl | rfl | rfl <;> rcases hz with rfl | rfl | rfl | rfl | rfl | rfl <;> first | rfl | exact absurd (SV_inj e) (by decide)
  cases huy : u y.1 with
  | false => rw [huy] at hyp; cases hyp
  | true =>
    rw [huy] at hyp;simp only [Option.some.injEq] at hyp;have := hk y hy (i, x) hm (by rw [hyp]; exact e);simp only at this;rw [this, hu] at huy
    cases huy
structure BJ (F : List HP) (b g : Nat) (mu sm : Int) (u : Nat → Bool) (e : Env) (q : List HP) (mb b4 b5 : Nat) (kvs : List (Value × Value)) : Prop where
  s0 : SL.look e 0 = some (ptrTo b)
  s7 : u 0 = true → SL.look e 7 = some (ptrTo g)
  s8 : u 1 = true → SL.look e 8 = some (.map (some mb))
  s9 : u 5 = true → SL.look e 9 = some (capV 133 b4)
  s10 : u 7 = true → SL.look e 10 = some (capV 133 b5)
  s11 : u 10 = true → SL.look e 11 = some (.map (some mb))
  s12 : u 11 = true → SL.look e 12 = some (ptrTo g)
  s13 : u 12 = true → SL.look e 13 = some (.pointer (some ⟨g, 3, none⟩))
  d2 : u 2 = true → u 1 = true
  d3 : u 3 = true → u 1 = true
  d4 : u 4 = true → u 1 = true
  d6 : u 6 = true → u 1 = true
  d8 : u 8 = true → u 1 = true
  d9 : u 9 = true → u 1 = true
  d10 : u 10 = true → u 1 = true
  d13 : u 13 = true → u 1 = true
  e6 : u 6 = true → u 5 = true
  e8 : u 8 = true → u 7 = true
  ks : kvs.Perm (upKV u (six b4 b5))
  at_ : ∃ r, q = cl b #[ptrTo g] 65 :: CC g 0 mu sm (match u 13 with | true => .map (some mb) | false => .map none) :: opt (u 1) (MapA KS mb kvs) :: opt (u 5) (cl b4 #[.int .i64 4] 3) :: opt (u 7) (cl b5 #[.int .i64 5] 3) :: (r ++ F)
theorem six_nodup (b4 b5 : Nat) : ((six b4 b5).map (·.1)).Nodup := by
  show [2, 3, 4, 6, 8, 9].Nodup
  decide
theorem six_all {u : Nat → Bool} {b4 b5 : Nat} (h2 : u 2 = true) (h3 : u 3 = true) (h4 : u 4 = true) (h6 : u 6 = true) (h8 : u 8 = true) (h9 : u 9 = true) : upKV u (six b4 b5) = (six b4 b5).map (·.2) := by
  unfold upKV six
  simp [h2, h3, h4, h6, h8, h9]
theorem Boxes_snoc {k : Int} {b : Nat} {bs : List Nat} (h : PH) (s : star [cl b #[.int .i64 k] 3, Boxes k bs] h) : Boxes k (bs ++ [b]) h :=
  star_perm (List.Perm.map _ (List.perm_append_singleton b bs).symm) (Boxes_cons h s)
def sixW : List BL := [wEXPLAIN, wBEGIN, wSTART, wCOMMIT, wROLLBACK, wSET]
def Keyed (pre : List BL) (kvs : List (Value × Value)) : Prop := ∀ p ∈ kvs, ∃ w ∈ pre, p.1 = SV w
theorem keyed_add {pre ws : List BL} {bs : List Nat} {kvs : List (Value × Value)} (h : Keyed pre kvs) (f : BL × Nat → Value) : Keyed (pre ++ ws) (kvs ++ (List.zip ws bs).map fun p => (SV p.1, f p)) := by
  intro p hp
  rcases List.mem_append.1 hp with hp | hp
  · obtain ⟨w, h1, h2⟩ := h p hp;exact ⟨w, by simp [h1], h2⟩
  · obtain ⟨q, hq, rfl⟩ := List.mem_map.1 hp;exact ⟨q.1, by simp [(List.of_mem_zip (a := q.1) (b := q.2) hq).1], rfl⟩
theorem keyed_add0 {pre ws : List BL} {kvs : List (Value × Value)} (h : Keyed pre kvs) (f : BL → Value) : Keyed (pre ++ ws) (kvs ++ ws.map fun p => (SV p, f p)) := by
  intro p hp
  rcases List.mem_append.1 hp with hp | hp
  · obtain ⟨w, h1, h2⟩ := h p hp;exact ⟨w, by simp [h1], h2⟩
  · obtain ⟨q, hq, rfl⟩ := List.mem_map.1 hp;exact ⟨q, by simp [hq], rfl⟩
theorem keyed_no {pre ws : List BL} (hn : (pre ++ ws).Nodup) {i : Nat} {q : BL} (hq : ws[i]? = some q) {kvs : List (Value × Value)} (h : Keyed (pre ++ ws.take i) kvs) : ∀ p ∈ kvs, p.1 ≠ SV q := by
  intro p hp e;obtain ⟨w, hw, h2⟩ := h p hp;have : w = q := SV_inj (h2.symm.trans e);subst this;obtain ⟨a, ha⟩ := List.getElem?_of_mem hw
  have hlen : a < pre.length + i := by
    have := (List.getElem?_eq_some_iff.1 ha).1;rw [List.length_append, List.length_take] at this;omega
  have h1 : (pre ++ ws)[a]? = some w := by
    have : pre ++ ws.take i = (pre ++ ws).take (pre.length + i) := by rw [List.take_append, List.take_of_length_le (l := pre) (by omega)]; simp
    rw [this, List.getElem?_take] at ha;rw [if_pos hlen] at ha;exact ha
  have h3 : (pre ++ ws)[pre.length + i]? = some w := by rw [List.getElem?_append_right (by omega)]; simpa using hq
  have := nodup_inj hn h1 h3;omega
theorem zip_snoc {ws : List BL} {i : Nat} {q : BL} {bs : List Nat} {bn : Nat} {f : BL × Nat → Value × Value} (hq : ws[i]? = some q) (hl : bs.length = i) : (List.zip (ws.take (i + 1)) (bs ++ [bn])).map f = (List.zip (ws.take i) bs).map f ++ [f (q, bn)] := by
  have hi := (List.getElem?_eq_some_iff.1 hq).1;rw [List.take_add_one, hq, List.zip_append (by rw [List.length_take, hl]; omega)];simp
theorem T90 (w0 : World) {g b : Nat} {mu sm : Int} : Tri Tryz.prog w0 90 [ptrTo b] [cl b #[ptrTo g] 65, CC g 0 mu sm (.map none)] fun v m => ∃ mb b4 b5, ∃ bs1 bs2 : List Nat, ∃ kvs, (bs1.length = 3 ∧ bs2.length = 12 ∧ kvs.Perm (rulesL b4 b5 bs1 bs2)) ∧ v = .tuple #[] ∧
 m = [cl b #[ptrTo g] 65, CC g 0 mu sm (.map (some mb)), MapA KS mb kvs, cl b4 #[.int .i64 4] 3, cl b5 #[.int .i64 5] 3, Boxes 1 bs1, Boxes 2 bs2] := by
 refine tri_k Tryz.func90 rfl rfl fun F => ?_;simp only [Tryz.ntmps90, argEnv, List.cons_append, List.nil_append];refine zH fun zq zQ => ?_;refine zC 1 rfl ?_;refine at_empty (at_empty (at_empty (at_pulls [3, 3, 0, 0, 0] rfl ?_)));simp only [zca, zna];refine at_drawInv (fun listed e q => ∃ mb b4 b5 kvs, BJ F b g mu sm (up listed) e q mb b4 b5 kvs) (by kernel_rfl) ⟨0, 0, 0, [], ?_⟩ ?_ ?_
 ·have hu : ∀ j, up (Array.replicate 14 false) j = false := fun j => by unfold up; simp [Array.getD]
  have h (j) (p : Prop) : up (Array.replicate 14 false) j = true → p := fun e => by rw [hu] at e; cases e
  exact { s0 := rfl, s7 := h _ _, s8 := h _ _, s9 := h _ _, s10 := h _ _, s11 := h _ _, s12 := h _ _, s13 := h _ _, d2 := h _ _, d3 := h _ _, d4 := h _ _, d6 := h _ _, d8 := h _ _, d9 := h _ _, d10 := h _ _, d13 := h _ _, e6 := h _ _, e8 := h _ _, ks := by simp [upKV, six, hu], at_ := ⟨[], by simp [hu, opt]⟩ }
 ·intro listed e q hsz ⟨mb, b4, b5, kvs, J⟩ i hi;have hlt : i < 14 := ready_lt hi;obtain ⟨r, rfl⟩ := J.at_;have hs14 : listed.size = 14 := hsz;have hcase : i = 0 ∨ i = 1 ∨ i = 2 ∨ i = 3 ∨ i = 4 ∨ i = 5 ∨ i = 6 ∨ i = 7 ∨ i = 8 ∨ i = 9 ∨ i = 10 ∨ i = 11 ∨ i = 12 ∨ i = 13 := by omega
  rcases hcase with rfl | rfl | rfl | rfl | rfl | rfl | rfl | rfl | rfl | rfl | rfl | rfl | rfl | rfl
  ·refine goes_v rfl (ov_load rfl J.s0 (by rw [Tryz.underlying65]; rfl) (fun _ s => s.ld (k := 0) rfl rfl)) rfl rfl rfl ?_;refine at_inv ⟨mb, b4, b5, kvs, ?_⟩
   try rw [up_set (by rw [hsz]; decide)]
   exact { J with s7 := fun _ => rfl, at_ := ⟨r, rfl⟩ }
  ·have hz : up listed 1 = false := ready_self hi (by rw [hsz]; decide);have no (j) (f : up listed j = true → up listed 1 = true) : up listed j = false := by cases hu : up listed j with | false => rfl | true => rw [f hu] at hz; cases hz
   refine goes_t rfl (ot_makeMap KS rfl) rfl rfl rfl ?_;rintro _ _ ⟨mb', rfl, rfl⟩;refine at_pulls [1, 1, 0, 1, 1] rfl ?_;refine at_inv ⟨mb', b4, b5, [], ?_⟩
   try rw [up_set (by rw [hsz]; decide)]
   exact { J with s8 := fun _ => rfl, s11 := fun h => (by rw [J.d10 h] at hz; cases hz), d2 := fun _ => rfl, d3 := fun _ => rfl, d4 := fun _ => rfl, d6 := fun _ => rfl, d8 := fun _ => rfl, d9 := fun _ => rfl, d10 := fun _ => rfl, d13 := fun _ => rfl, ks := by simp [upKV, six, no 2 J.d2, no 3 J.d3, no 4 J.d4, no 6 J.d6, no 8 J.d8, no 9 J.d9], at_ := ⟨opt (up listed 1) (MapA KS mb kvs) :: r, by simp [opt, no 13 J.d13, show (Nat.beq 1 13 || up listed 13) = up listed 13 from rfl, show (Nat.beq 1 5 || up listed 5) = up listed 5 from rfl, show (Nat.beq 1 7 || up listed 7) = up listed 7 from rfl, show Nat.beq 1 1 = true from rfl]⟩ }
  ·have h1 : up listed 1 = true := ready_dep hi rfl rfl;have hz : up listed 2 = false := ready_self hi (by rw [hsz]; decide);refine goes_t0 rfl (ot_insNew (k := 2) (d := KS) (key := SV wEXPLAIN) (v := fnV 91) rfl Tryz.underlying111 Tryz.underlying9 (J.s8 h1) rfl rfl (by simp [nth, opt, h1]) trivial (upKV_no (x := (SV wEXPLAIN, fnV 91)) J.ks (by simp [six]) hz)) rfl rfl ?_;rintro _ _ ⟨rfl, rfl⟩;refine at_inv ⟨mb, b4, b5, kvs ++ [(SV wEXPLAIN, fnV 91)], ?_⟩
   try rw [up_set (by rw [hsz]; decide)]
   exact { J with ks := (J.ks.append_right _).trans (upKV_add (six_nodup b4 b5) (by simp [six]) hz).symm, d2 := fun _ => h1, at_ := ⟨r, by simp [setAt, opt, h1, show (Nat.beq 2 13 || up listed 13) = up listed 13 from rfl, show (Nat.beq 2 1 || up listed 1) = up listed 1 from rfl, show (Nat.beq 2 5 || up listed 5) = up listed 5 from rfl, show (Nat.beq 2 7 || up listed 7) = up listed 7 from rfl]⟩ }
  ·have h1 : up listed 1 = true := ready_dep hi rfl rfl;have hz : up listed 3 = false := ready_self hi (by rw [hsz]; decide);refine goes_t0 rfl (ot_insNew (k := 2) (d := KS) (key := SV wBEGIN) (v := fnV 92) rfl Tryz.underlying111 Tryz.underlying9 (J.s8 h1) rfl rfl (by simp [nth, opt, h1]) trivial (upKV_no (x := (SV wBEGIN, fnV 92)) J.ks (by simp [six]) hz)) rfl rfl ?_;rintro _ _ ⟨rfl, rfl⟩;refine at_inv ⟨mb, b4, b5, kvs ++ [(SV wBEGIN, fnV 92)], ?_⟩
   try rw [up_set (by rw [hsz]; decide)]
   exact { J with ks := (J.ks.append_right _).trans (upKV_add (six_nodup b4 b5) (by simp [six]) hz).symm, d3 := fun _ => h1, at_ := ⟨r, by simp [setAt, opt, h1, show (Nat.beq 3 13 || up listed 13) = up listed 13 from rfl, show (Nat.beq 3 1 || up listed 1) = up listed 1 from rfl, show (Nat.beq 3 5 || up listed 5) = up listed 5 from rfl, show (Nat.beq 3 7 || up listed 7) = up listed 7 from rfl]⟩ }
  ·have h1 : up listed 1 = true := ready_dep hi rfl rfl;have hz : up listed 4 = false := ready_self hi (by rw [hsz]; decide);refine goes_t0 rfl (ot_insNew (k := 2) (d := KS) (key := SV wSTART) (v := fnV 93) rfl Tryz.underlying111 Tryz.underlying9 (J.s8 h1) rfl rfl (by simp [nth, opt, h1]) trivial (upKV_no (x := (SV wSTART, fnV 93)) J.ks (by simp [six]) hz)) rfl rfl ?_;rintro _ _ ⟨rfl, rfl⟩;refine at_inv ⟨mb, b4, b5, kvs ++ [(SV wSTART, fnV 93)], ?_⟩
   try rw [up_set (by rw [hsz]; decide)]
   exact { J with ks := (J.ks.append_right _).trans (upKV_add (six_nodup b4 b5) (by simp [six]) hz).symm, d4 := fun _ => h1, at_ := ⟨r, by simp [setAt, opt, h1, show (Nat.beq 4 13 || up listed 13) = up listed 13 from rfl, show (Nat.beq 4 1 || up listed 1) = up listed 1 from rfl, show (Nat.beq 4 5 || up listed 5) = up listed 5 from rfl, show (Nat.beq 4 7 || up listed 7) = up listed 7 from rfl]⟩ }
  ·have hz : up listed 5 = false := ready_self hi (by rw [hsz]; decide);have h6 : up listed 6 = false := by cases hu : up listed 6 with | false => rfl | true => rw [J.e6 hu] at hz; cases hz
   refine goes_t rfl (ot_call (ks := []) rfl rfl rfl Tryz.call94 rfl (T94 _ 4) rfl) rfl rfl rfl ?_;rintro _ _ ⟨_, ⟨bn, rfl, rfl⟩, rfl⟩;simp only [zca, zna];refine at_pulls [1, 1, 1, 0, 1] rfl ?_;refine at_inv ⟨mb, bn, b5, kvs, ?_⟩
   try rw [up_set (by rw [hsz]; decide)]
   exact { J with s9 := fun _ => rfl, e6 := fun _ => rfl, ks := by have := J.ks; rw [upKV_six] at this ⊢; simpa [sel, show (Nat.beq 5 2 || up listed 2) = up listed 2 from rfl, show (Nat.beq 5 3 || up listed 3) = up listed 3 from rfl, show (Nat.beq 5 4 || up listed 4) = up listed 4 from rfl, show (Nat.beq 5 6 || up listed 6) = up listed 6 from rfl, show (Nat.beq 5 8 || up listed 8) = up listed 8 from rfl, show (Nat.beq 5 9 || up listed 9) = up listed 9 from rfl, h6] using this, at_ := ⟨opt (up listed 5) (cl b4 #[.int .i64 4] 3) :: r, by simp [opt, show (Nat.beq 5 13 || up listed 13) = up listed 13 from rfl, show (Nat.beq 5 1 || up listed 1) = up listed 1 from rfl, show (Nat.beq 5 7 || up listed 7) = up listed 7 from rfl, show Nat.beq 5 5 = true from rfl]⟩ }
  ·have h1 : up listed 1 = true := ready_dep hi rfl rfl;have hz : up listed 6 = false := ready_self hi (by rw [hsz]; decide);have h5 : up listed 5 = true := ready_dep hi rfl rfl;refine goes_t0 rfl (ot_insNew (k := 2) (d := KS) (key := SV wCOMMIT) (v := capV 133 b4) rfl Tryz.underlying111 Tryz.underlying9 (J.s8 h1) rfl (J.s9 h5) (by simp [nth, opt, h1]) trivial (upKV_no (x := (SV wCOMMIT, capV 133 b4)) J.ks (by simp [six]) hz)) rfl rfl ?_;rintro _ _ ⟨rfl, rfl⟩;refine at_inv ⟨mb, b4, b5, kvs ++ [(SV wCOMMIT, capV 133 b4)], ?_⟩
   try rw [up_set (by rw [hsz]; decide)]
   exact { J with ks := (J.ks.append_right _).trans (upKV_add (six_nodup b4 b5) (by simp [six]) hz).symm, d6 := fun _ => h1, e6 := fun _ => h5, at_ := ⟨r, by simp [setAt, opt, h1, show (Nat.beq 6 13 || up listed 13) = up listed 13 from rfl, show (Nat.beq 6 1 || up listed 1) = up listed 1 from rfl, show (Nat.beq 6 5 || up listed 5) = up listed 5 from rfl, show (Nat.beq 6 7 || up listed 7) = up listed 7 from rfl]⟩ }
  ·have hz : up listed 7 = false := ready_self hi (by rw [hsz]; decide);have h8 : up listed 8 = false := by cases hu : up listed 8 with | false => rfl | true => rw [J.e8 hu] at hz; cases hz
   refine goes_t rfl (ot_call (ks := []) rfl rfl rfl Tryz.call94 rfl (T94 _ 5) rfl) rfl rfl rfl ?_;rintro _ _ ⟨_, ⟨bn, rfl, rfl⟩, rfl⟩;simp only [zca, zna];refine at_pulls [1, 1, 1, 1, 0] rfl ?_;refine at_inv ⟨mb, b4, bn, kvs, ?_⟩
   try rw [up_set (by rw [hsz]; decide)]
   exact { J with s10 := fun _ => rfl, e8 := fun _ => rfl, ks := by have := J.ks; rw [upKV_six] at this ⊢; simpa [sel, show (Nat.beq 7 2 || up listed 2) = up listed 2 from rfl, show (Nat.beq 7 3 || up listed 3) = up listed 3 from rfl, show (Nat.beq 7 4 || up listed 4) = up listed 4 from rfl, show (Nat.beq 7 6 || up listed 6) = up listed 6 from rfl, show (Nat.beq 7 8 || up listed 8) = up listed 8 from rfl, show (Nat.beq 7 9 || up listed 9) = up listed 9 from rfl, h8] using this, at_ := ⟨opt (up listed 7) (cl b5 #[.int .i64 5] 3) :: r, by simp [opt, show (Nat.beq 7 13 || up listed 13) = up listed 13 from rfl, show (Nat.beq 7 1 || up listed 1) = up listed 1 from rfl, show (Nat.beq 7 5 || up listed 5) = up listed 5 from rfl, show Nat.beq 7 7 = true from rfl]⟩ }
  ·have h1 : up listed 1 = true := ready_dep hi rfl rfl;have hz : up listed 8 = false := ready_self hi (by rw [hsz]; decide);have h5 : up listed 7 = true := ready_dep hi rfl rfl;refine goes_t0 rfl (ot_insNew (k := 2) (d := KS) (key := SV wROLLBACK) (v := capV 133 b5) rfl Tryz.underlying111 Tryz.underlying9 (J.s8 h1) rfl (J.s10 h5) (by simp [nth, opt, h1]) trivial (upKV_no (x := (SV wROLLBACK, capV 133 b5)) J.ks (by simp [six]) hz)) rfl rfl ?_;rintro _ _ ⟨rfl, rfl⟩;refine at_inv ⟨mb, b4, b5, kvs ++ [(SV wROLLBACK, capV 133 b5)], ?_⟩
   try rw [up_set (by rw [hsz]; decide)]
   exact { J with ks := (J.ks.append_right _).trans (upKV_add (six_nodup b4 b5) (by simp [six]) hz).symm, d8 := fun _ => h1, e8 := fun _ => h5, at_ := ⟨r, by simp [setAt, opt, h1, show (Nat.beq 8 13 || up listed 13) = up listed 13 from rfl, show (Nat.beq 8 1 || up listed 1) = up listed 1 from rfl, show (Nat.beq 8 5 || up listed 5) = up listed 5 from rfl, show (Nat.beq 8 7 || up listed 7) = up listed 7 from rfl]⟩ }
  ·have h1 : up listed 1 = true := ready_dep hi rfl rfl;have hz : up listed 9 = false := ready_self hi (by rw [hsz]; decide);refine goes_t0 rfl (ot_insNew (k := 2) (d := KS) (key := SV wSET) (v := fnV 95) rfl Tryz.underlying111 Tryz.underlying9 (J.s8 h1) rfl rfl (by simp [nth, opt, h1]) trivial (upKV_no (x := (SV wSET, fnV 95)) J.ks (by simp [six]) hz)) rfl rfl ?_;rintro _ _ ⟨rfl, rfl⟩;refine at_inv ⟨mb, b4, b5, kvs ++ [(SV wSET, fnV 95)], ?_⟩
   try rw [up_set (by rw [hsz]; decide)]
   exact { J with ks := (J.ks.append_right _).trans (upKV_add (six_nodup b4 b5) (by simp [six]) hz).symm, d9 := fun _ => h1, at_ := ⟨r, by simp [setAt, opt, h1, show (Nat.beq 9 13 || up listed 13) = up listed 13 from rfl, show (Nat.beq 9 1 || up listed 1) = up listed 1 from rfl, show (Nat.beq 9 5 || up listed 5) = up listed 5 from rfl, show (Nat.beq 9 7 || up listed 7) = up listed 7 from rfl]⟩ }
  ·have h1 : up listed 1 = true := ready_dep hi rfl rfl;refine goes_v rfl (ov_move rfl (J.s8 h1)) rfl rfl rfl ?_;refine at_inv ⟨mb, b4, b5, kvs, ?_⟩
   try rw [up_set (by rw [hsz]; decide)]
   exact { J with s11 := fun _ => rfl, d10 := fun _ => h1, at_ := ⟨r, rfl⟩ }
  ·have h0 : up listed 0 = true := ready_dep hi rfl rfl;refine goes_v rfl (ov_nilCheck rfl (J.s7 h0)) rfl rfl rfl ?_;refine at_inv ⟨mb, b4, b5, kvs, ?_⟩
   try rw [up_set (by rw [hsz]; decide)]
   exact { J with s12 := fun _ => rfl, at_ := ⟨r, rfl⟩ }
  ·have h0 : up listed 11 = true := ready_dep hi rfl rfl;refine goes_v rfl (ov_fieldAddr (k := 3) (r := 3) rfl (J.s12 h0) rfl rfl) rfl rfl rfl ?_;refine at_inv ⟨mb, b4, b5, kvs, ?_⟩
   try rw [up_set (by rw [hsz]; decide)]
   exact { J with s13 := fun _ => rfl, at_ := ⟨r, rfl⟩ }
  ·have h0 : up listed 12 = true := ready_dep hi rfl rfl;have h1 : up listed 10 = true := ready_dep hi rfl rfl;have hz : up listed 13 = false := ready_self hi (by rw [hsz]; decide);refine goes_t0 rfl (ot_store (k := 1) rfl (J.s13 h0) (J.s11 h1) rfl rfl rfl rfl) rfl rfl ?_;rintro _ _ ⟨rfl, rfl⟩;refine at_inv ⟨mb, b4, b5, kvs, ?_⟩
   try rw [up_set (by rw [hsz]; decide)]
   exact { J with d13 := fun _ => (ready_dep hi rfl rfl : up listed 1 = true), at_ := ⟨r, rfl⟩ }
 ·intro listed e q hsz ⟨mb, b4, b5, kvs, J⟩ hr;have h0 : up listed 0 = true := ready_all hr rfl hsz rfl;have h1 : up listed 1 = true := ready_all hr rfl hsz rfl;have h5 : up listed 5 = true := ready_all hr rfl hsz rfl;have h2 : up listed 2 = true := ready_all hr rfl hsz (by show (up listed 1 && true) = true; simp [h1]);have h3 : up listed 3 = true := ready_all hr rfl hsz (by show (up listed 1 && true) = true; simp [h1]);have h4 : up listed 4 = true := ready_all hr rfl hsz (by show (up listed 1 && true) = true; simp [h1]);have h6 : up listed 6 = true := ready_all hr rfl hsz (by show (up listed 1 && (up listed 5 && true)) = true; simp [h1, h5]);have h7 : up listed 7 = true := ready_all hr rfl hsz (by show (up listed 5 && true) = true; simp [h5]);have h8 : up listed 8 = true := ready_all hr rfl hsz (by show (up listed 1 && (up listed 7 && true)) = true; simp [h1, h7]);have h9 : up listed 9 = true := ready_all hr rfl hsz (by show (up listed 1 && true) = true; simp [h1]);have h10 : up listed 10 = true := ready_all hr rfl hsz (by show (up listed 1 && (up listed 2 && (up listed 3 && (up listed 4 && (up listed 5 && (up listed 6 && (up listed 7 && (up listed 8 && (up listed 9 && true))))))))) = true; simp [h1, h2, h3, h4, h5, h6, h7, h8, h9]);have h11 : up listed 11 = true := ready_all hr rfl hsz (by show (up listed 0 && (up listed 0 && (up listed 1 && (up listed 2 && (up listed 3 && (up listed 4 && (up listed 5 && (up listed 6 && (up listed 7 && (up listed 8 && (up listed 9 && (up listed 10 && true)))))))))))) = true; simp [h0, h1, h2, h3, h4, h5, h6, h7, h8, h9, h10]);have h12 : up listed 12 = true := ready_all hr rfl hsz (by show (up listed 11 && (up listed 0 && (up listed 1 && (up listed 2 && (up listed 3 && (up listed 4 && (up listed 5 && (up listed 6 && (up listed 7 && (up listed 8 && (up listed 9 && (up listed 10 && true)))))))))))) = true; simp [h0, h1, h2, h3, h4, h5, h6, h7, h8, h9, h10, h11]);have h13 : up listed 13 = true := ready_all hr rfl hsz (by show (up listed 12 && (up listed 10 && (up listed 7 && (up listed 0 && (up listed 1 && (up listed 2 && (up listed 3 && (up listed 4 && (up listed 5 && (up listed 6 && (up listed 7 && (up listed 8 && (up listed 9 && (up listed 10 && true)))))))))))))) = true; simp [h0, h1, h2, h3, h4, h5, h6, h7, h8, h9, h10, h11, h12]);obtain ⟨r, rfl⟩ := J.at_;have hp : kvs.Perm ((six b4 b5).map (·.2)) := by have := J.ks; rwa [six_all h2 h3 h4 h6 h8 h9] at this
  have hkey : Keyed sixW kvs := fun p hm => by
   have := hp.mem_iff.1 hm;simp only [six, List.map_cons, List.map_nil, List.mem_cons, List.not_mem_nil, or_false] at this
   rcases this with rfl | rfl | rfl | rfl | rfl | rfl <;> exact ⟨_, by simp [sixW], rfl⟩
  refine at_sub (e := [(0, ptrTo b)]) ⟨J.s0, trivial⟩ ?_;simp only [h13, h1, h5, h7, opt];refine at_dropMid (xs := [_, _, _, _, _]) ?_;simp only [zca, zna];refine zX 4 rfl ?_;refine zT (ot_buildSlice (cs := [_, _, _]) rfl Tryz.underlying35 rfl rfl rfl rfl rfl rfl) ?_;rintro _ _ ⟨g0, rfl, rfl⟩;refine zO 5 rfl ?_;refine at_rowOf bsE 0 (size := 1) (c := 3) readsW rfl (fun _ _ => rfl) (by decide) (by decide) (by decide) rfl ?_;simp only [setAt];refine at_boxesNil 1 ?_;refine at_loopK [17, 18, 19, 2, 20, 21, 22, 23, 24, 25, 26, 16] (fun i : Nat × List Nat => i.1 ≤ 3 ∧ i.2.length = i.1) (fun i => [(16, .int .i64 (i.1 : Nat))]) (fun i q => setAt 0 (Boxes 1 i.2) (setAt 4 (MapA KS mb (kvs ++ (List.zip (readsW.take i.1) i.2).map fun p => (SV p.1, capV 134 p.2))) q)) (fun i => 3 - i.1) (0, []) ⟨by decide, rfl⟩ ⟨rfl, trivial⟩ (fun _ s => by simpa [setAt] using s) ?_;intro ⟨i, bs⟩ ⟨hi, hbl⟩;simp only [setAt];refine zC 6 rfl ?_;refine at_cond rfl (fun hc => ?_) (fun hc => ?_)
  ·have hlt : i < 3 := by simp only [decide_eq_true_eq] at hc; omega
   obtain ⟨q, hq⟩ : ∃ q, readsW[i]? = some q := ⟨_, List.getElem?_eq_getElem (l := readsW) hlt⟩;have hno := keyed_no (pre := sixW) (ws := readsW) (by decide) hq (keyed_add (bs := bs) (ws := readsW.take i) hkey fun p => capV 134 p.2)
   have hnx (bn : Nat) : kvs ++ (List.zip (readsW.take (i + 1)) (bs ++ [bn])).map (fun p => (SV p.1, capV 134 p.2)) = kvs ++ (List.zip (readsW.take i) bs).map (fun p => (SV p.1, capV 134 p.2)) ++ [(SV q, Value.func (.func 134) #[] #[ptrTo bn])] := by
    rw [zip_snoc hq hbl, List.append_assoc]; rfl
   refine zC 6 rfl ?_;refine zV (ov_indexRd (fun _ s => s.rd (k := 1) rfl) rfl Tryz.underlying35 rfl rfl rfl hq) ?_;refine zV (ov_loadRd0 (fun _ s => s.rd (k := 1) rfl) rfl rfl rfl hq rfl) ?_;refine zO 3 rfl ?_;refine at_draw _ [] 1000 [(1, 0), (2, 1), (2, 2), (1, 3), (2, 4), (0, 5), (0, 6)] (by kernel_rfl) (by kernel_rfl) (fun _ s => (s.pulls (ks := [2, 2, 3, 3]) rfl).left) ?_;refine qL 0 ?_;refine qN ?_;refine qF 3 3 ?_;refine qL 1 ?_;refine qM ?_;refine aq_t (ot_call (ks := []) rfl rfl rfl Tryz.call96 rfl (T96 _ _) rfl) rfl rfl rfl ?_;rintro v0 _ ⟨m0, hp0, rfl⟩;obtain ⟨b0, hp0⟩ := hp0;obtain ⟨rfl, rfl⟩ := hp0;simp only [zca, zna, splice, spliceL];refine ⟨fun _ s => (s.pulls (ks := [3, 3, 4, 4]) rfl).left, ?_⟩;refine aq_t0 (ot_mapNew (k := 5) rfl Tryz.underlying111 Tryz.underlying9 rfl rfl rfl rfl (by first | rfl | trivial) (by assumption)) rfl rfl ?_;rintro _ _ ⟨rfl, rfl⟩;simp only [setAt];refine ⟨fun _ s => (s.pulls (ks := [3, 3, 4, 4]) rfl).left, ?_⟩;refine aq_nil ?_;refine zX 3 rfl ?_;refine zV zI ?_;refine zOR 3 rfl ?_
   try rw [← hnx]
   refine at_fold (A := Boxes 1 (bs ++ [b0])) [0, 0] rfl Boxes_snoc ?_;refine at_roundF (i + 1, bs ++ [b0]) ⟨hlt, by simp [hbl]⟩ (by simp only; omega) ⟨rfl, trivial⟩ rfl ?_;exact zE [0, 0, 0, 0, 0, 0, 0] []
  ·have hi3 : i = 3 := by
    have : ¬ i < 3 := by simp only [decide_eq_false_iff_not] at hc; omega
    omega
   subst hi3;simp only [show readsW.take 3 = readsW from rfl];refine zC 8 rfl ?_;refine zT (ot_buildSlice (cs := [_, _, _, _, _, _, _, _, _, _, _, _]) rfl Tryz.underlying35 rfl rfl rfl rfl rfl rfl) ?_;rintro _ _ ⟨g1, rfl, rfl⟩;refine zO 5 rfl ?_
   generalize hk1 : kvs ++ (List.zip readsW bs).map (fun p => (SV p.1, capV 134 p.2)) = kv1
   refine at_rowOf bsE 0 (size := 1) (c := 12) changeW rfl (fun _ _ => rfl) (by decide) (by decide) (by decide) rfl ?_;simp only [setAt];refine at_boxesNil 2 ?_;have hkey1 : Keyed (sixW ++ readsW) kv1 := hk1 ▸ keyed_add hkey _;refine at_loopK [30, 31, 32, 4, 33, 34, 35, 36, 37, 38, 39, 29] (fun i : Nat × List Nat => i.1 ≤ 12 ∧ i.2.length = i.1) (fun i => [(29, .int .i64 (i.1 : Nat))]) (fun i q => setAt 0 (Boxes 2 i.2) (setAt 6 (MapA KS mb (kv1 ++ (List.zip (changeW.take i.1) i.2).map fun p => (SV p.1, capV 134 p.2))) q)) (fun i => 12 - i.1) (0, []) ⟨by decide, rfl⟩ ⟨rfl, trivial⟩ (fun _ s => by simpa [setAt] using s) ?_;intro ⟨i, bs2⟩ ⟨hi, hbl2⟩;simp only [setAt];refine zC 6 rfl ?_;refine at_cond rfl (fun hc => ?_) (fun hc => ?_)
   ·have hlt : i < 12 := by simp only [decide_eq_true_eq] at hc; omega
    obtain ⟨q, hq⟩ : ∃ q, changeW[i]? = some q := ⟨_, List.getElem?_eq_getElem (l := changeW) hlt⟩;have hno := keyed_no (pre := sixW ++ readsW) (ws := changeW) (by decide) hq (keyed_add (bs := bs2) (ws := changeW.take i) hkey1 fun p => capV 134 p.2)
    have hnx (bn : Nat) : kv1 ++ (List.zip (changeW.take (i + 1)) (bs2 ++ [bn])).map (fun p => (SV p.1, capV 134 p.2)) = kv1 ++ (List.zip (changeW.take i) bs2).map (fun p => (SV p.1, capV 134 p.2)) ++ [(SV q, Value.func (.func 134) #[] #[ptrTo bn])] := by
     rw [zip_snoc hq hbl2, List.append_assoc]; rfl
    refine zC 6 rfl ?_;refine zV (ov_indexRd (fun _ s => s.rd (k := 1) rfl) rfl Tryz.underlying35 rfl rfl rfl hq) ?_;refine zV (ov_loadRd0 (fun _ s => s.rd (k := 1) rfl) rfl rfl rfl hq rfl) ?_;refine zO 3 rfl ?_;refine at_draw _ [] 1000 [(1, 0), (2, 1), (2, 2), (1, 3), (2, 4), (0, 5), (0, 6)] (by kernel_rfl) (by kernel_rfl) (fun _ s => (s.pulls (ks := [4, 4, 5, 5]) rfl).left) ?_;refine qL 0 ?_;refine qN ?_;refine qF 3 3 ?_;refine qL 1 ?_;refine qM ?_;refine aq_t (ot_call (ks := []) rfl rfl rfl Tryz.call96 rfl (T96 _ _) rfl) rfl rfl rfl ?_;rintro v0 _ ⟨m0, hp0, rfl⟩;obtain ⟨b0, hp0⟩ := hp0;obtain ⟨rfl, rfl⟩ := hp0;simp only [zca, zna, splice, spliceL];refine ⟨fun _ s => (s.pulls (ks := [5, 5, 6, 6]) rfl).left, ?_⟩;refine aq_t0 (ot_mapNew (k := 7) rfl Tryz.underlying111 Tryz.underlying9 rfl rfl rfl rfl (by first | rfl | trivial) (by assumption)) rfl rfl ?_;rintro _ _ ⟨rfl, rfl⟩;simp only [setAt];refine ⟨fun _ s => (s.pulls (ks := [5, 5, 6, 6]) rfl).left, ?_⟩;refine aq_nil ?_;refine zX 3 rfl ?_;refine zV zI ?_;refine zOR 3 rfl ?_
    try rw [← hnx]
    refine at_fold (A := Boxes 2 (bs2 ++ [b0])) [0, 0] rfl Boxes_snoc ?_;refine at_roundF (i + 1, bs2 ++ [b0]) ⟨hlt, by simp [hbl2]⟩ (by simp only; omega) ⟨rfl, trivial⟩ rfl ?_;exact zE [0, 0, 0, 0, 0, 0, 0, 0, 0] []
   ·have hi3 : i = 12 := by
     have : ¬ i < 12 := by simp only [decide_eq_false_iff_not] at hc; omega
     omega
    subst hi3;simp only [show changeW.take 12 = changeW from rfl];refine zC 7 rfl ?_;refine zT (ot_buildSlice (cs := [_, _, _, _]) rfl Tryz.underlying35 rfl rfl rfl rfl rfl rfl) ?_;rintro _ _ ⟨g2, rfl, rfl⟩;refine zO 5 rfl ?_
    generalize hk2 : kv1 ++ (List.zip changeW bs2).map (fun p => (SV p.1, capV 134 p.2)) = kv2
    have hkey2 : Keyed (sixW ++ readsW ++ changeW) kv2 := hk2 ▸ keyed_add hkey1 _;refine at_rowOf bsE 0 (size := 1) (c := 4) askW rfl (fun _ _ => rfl) (by decide) (by decide) (by decide) rfl ?_;simp only [setAt];refine at_loopK [43, 44, 45, 6, 46, 47, 48, 49, 50, 51, 42] (fun i : Nat => i ≤ 4) (fun i => [(42, .int .i64 (i : Nat))]) (fun i q => setAt 7 (MapA KS mb (kv2 ++ (askW.take i).map fun w => (SV w, fnV 97))) q) (fun i => 4 - i) 0 (by decide) ⟨rfl, trivial⟩ (fun _ s => by simpa [setAt] using s) ?_;intro i hi;simp only [setAt];refine zC 6 rfl ?_;refine at_cond rfl (fun hc => ?_) (fun hc => ?_)
    ·have hlt : i < 4 := by simp only [decide_eq_true_eq] at hc; omega
     obtain ⟨q, hq⟩ : ∃ q, askW[i]? = some q := ⟨_, List.getElem?_eq_getElem (l := askW) hlt⟩;have hno := keyed_no (pre := sixW ++ readsW ++ changeW) (ws := askW) (by decide) hq (keyed_add0 (ws := askW.take i) hkey2 fun _ => fnV 97)
     have hnx : kv2 ++ (askW.take (i + 1)).map (fun w => (SV w, fnV 97)) = kv2 ++ (askW.take i).map (fun w => (SV w, fnV 97)) ++ [(SV q, Value.func (.func 97) #[] #[])] := by
      rw [List.take_add_one, hq, List.append_assoc, List.map_append]; rfl
     refine zC 6 rfl ?_;refine zV (ov_indexRd (fun _ s => s.rd (k := 0) rfl) rfl Tryz.underlying35 rfl rfl rfl hq) ?_;refine zV (ov_loadRd0 (fun _ s => s.rd (k := 0) rfl) rfl rfl rfl hq rfl) ?_;refine zOM [(5,_,_,_),(6,_,_,_)] ⟨rfl,rfl,trivial⟩ [0,1] 9 rfl ?_;refine zT0 (ot_mapNew (k := 7) rfl Tryz.underlying111 Tryz.underlying9 rfl rfl rfl rfl (by first | rfl | trivial) (by assumption)) ?_;rintro _ _ ⟨rfl, rfl⟩;simp only [setAt];refine zO 4 rfl ?_;refine zV zI ?_;refine zOR 3 rfl ?_
     try rw [← hnx]
     refine at_roundF (i + 1) hlt (by omega) ⟨rfl, trivial⟩ rfl ?_;exact zE [0, 0, 0, 0, 0, 0, 0, 0, 0, 0] []
    ·have hi3 : i = 4 := by
      have : ¬ i < 4 := by simp only [decide_eq_false_iff_not] at hc; omega
      omega
     subst hi3;simp only [show askW.take 4 = askW from rfl];refine zC 4 rfl ?_;refine zQ ?_;refine at_end ?_;refine at_fin (rs0 rfl) ?_
     have hfin : (kv2 ++ askW.map fun w => (SV w, fnV 97)).Perm (rulesL b4 b5 bs bs2) := by
      try rw [← hk2]
      try rw [← hk1]
      exact ((hp.append_right _).append_right _).append_right _
     refine ⟨_, ⟨mb, b4, b5, bs, bs2, _, ⟨hbl, hbl2, hfin⟩, rfl, rfl⟩, ?_⟩;exact zE [5, 5, 5, 5, 5, 3, 1] [0, 0, 0]
end Go.Proofs.YtfcmajgnpnlkiaaGreatDoor
