/- Package class: the rules over rows that are held; a classer in use. -/
import Derived.Test.YtgclahlbifbgdaaGreatDoorProg
import Derived.Test.YtgclahlbifbgdaaGreatDoorClass8
import Derived.Test.YtgclahlbifbgdaaGreatDoorSLStr
import Derived.KernelRfl
set_option linter.unusedSimpArgs false
set_option linter.unusedVariables false
set_option maxRecDepth 100000
set_option maxHeartbeats 4000000
namespace Go.Proofs.YtgclahlbifbgdaaGreatDoor
open Go Go.Proofs.YtgclahlbifbgdaaGreatDoor.SL Go.RowKit
theorem T56a (w0 : World) (cv : Value) {A : Option Addr} {c c' : Nat} {l : List Tok} (hm : l.length ≤ 10000) : Tri Tryz.prog w0 56 [cv, .slice A l.length c] [Row tE 37 2 A c' l] fun v m => v = .int .i64 (setL l) ∧ m = [Row tE 37 2 A c' l] :=
  (Tri.of_all fun w s => T56 w cv (s.rd (k := 0) rfl) hm).post fun v m ⟨m', ⟨h1, h2⟩, h3⟩ => ⟨h1, by rw [h3, h2]; rfl⟩
theorem T53a (w0 : World) (cv : Value) {A : Option Addr} {c c' : Nat} {l : List Tok} (hm : l.length ≤ 10000) : Tri Tryz.prog w0 53 [cv, .slice A l.length c] [Row tE 37 2 A c' l] fun v m => v = .int .i64 (beginL l) ∧ m = [Row tE 37 2 A c' l] :=
  (Tri.of_all fun w s => T53 w cv (s.rd (k := 0) rfl) hm).post fun v m ⟨m', ⟨h1, h2⟩, h3⟩ => ⟨h1, by rw [h3, h2]; rfl⟩
theorem T54a (w0 : World) (cv : Value) {A : Option Addr} {c c' : Nat} {l : List Tok} (hm : l.length ≤ 10000) : Tri Tryz.prog w0 54 [cv, .slice A l.length c] [Row tE 37 2 A c' l] fun v m => v = .int .i64 (startL l) ∧ m = [Row tE 37 2 A c' l] :=
  (Tri.of_all fun w s => T54 w cv (s.rd (k := 0) rfl) hm).post fun v m ⟨m', ⟨h1, h2⟩, h3⟩ => ⟨h1, by rw [h3, h2]; rfl⟩
theorem T58a (w0 : World) (cv : Value) {A : Option Addr} {c c' : Nat} {l : List Tok} (hm : l.length ≤ 10000) : Tri Tryz.prog w0 58 [cv, .slice A l.length c] [Row tE 37 2 A c' l] fun v m => v = .int .i64 (asksL l) ∧ m = [Row tE 37 2 A c' l] :=
  (Tri.of_all fun w s => T58 w cv (s.rd (k := 0) rfl) hm).post fun v m ⟨m', ⟨h1, h2⟩, h3⟩ => ⟨h1, by rw [h3, h2]; rfl⟩
theorem T46a (w0 : World) {A : Option Addr} {c c' : Nat} {l : List Tok} (hm : l.length ≤ 10000) : Tri Tryz.prog w0 46 [.slice A l.length c, .func (.func 26) #[] #[]] [Row tE 37 2 A c' l] fun v m => v = .bool (l.any fun t => decide (t = signL)) ∧ m = [Row tE 37 2 A c' l] :=
  (Tri.of_all fun w s => T46 w (s.rd (k := 0) rfl) hm).post fun v m ⟨m', ⟨h1, h2⟩, h3⟩ => ⟨h1, by rw [h3, h2]; rfl⟩
theorem T85b (w0 : World) {A B : Option Addr} {c c' d d' : Nat} {l : List Tok} {ws : List BL} (hm : l.length ≤ 10000) (hm2 : ws.length ≤ 10000) (i : Nat) (hi : i ≤ 10000) : Tri Tryz.prog w0 85 [.slice A l.length c, .int .i64 (i : Nat), .slice B ws.length d] [Row tE 37 2 A c' l, Row bsE 9 1 B d' ws] fun v m => v = .bool (wordIn l i ws) ∧ m = [Row tE 37 2 A c' l, Row bsE 9 1 B d' ws] :=
  (Tri.of_all fun w s => T85 w (s.rd (k := 0) rfl) (s.rd (k := 1) rfl) hm hm2 i hi).post fun v m ⟨m', ⟨h1, h2⟩, h3⟩ => ⟨h1, by rw [h3, h2]; rfl⟩
/-- A classer in use: its rules are made. -/
def Cls (g : Nat) (sm : Int) : HP := fun h => ∃ mb b4 b5, ∃ bs1 bs2 : List Nat, ∃ kvs, (bs1.length = 3 ∧ bs2.length = 12 ∧ kvs.Perm (rulesL b4 b5 bs1 bs2)) ∧
  star [CC g 1 0 sm (.map (some mb)), MapA KS mb kvs, cl b4 #[.int .i64 4] 3, cl b5 #[.int .i64 5] 3, Boxes 1 bs1, Boxes 2 bs2] h
theorem at_cls {w0 : World} {n : Nat} {ds : List Deferred} {R : Act → World → Prop} {env : Env} {l : List HP} {g : Nat} {sm : Int}
    (k : ∀ (mb b4 b5 : Nat) (bs1 bs2 : List Nat) (kvs : List (Value × Value)), bs1.length = 3 → bs2.length = 12 → kvs.Perm (rulesL b4 b5 bs1 bs2) →
      At w0 n ds R env (CC g 1 0 sm (.map (some mb)) :: MapA KS mb kvs :: cl b4 #[.int .i64 4] 3 :: cl b5 #[.int .i64 5] 3 :: Boxes 1 bs1 :: Boxes 2 bs2 :: l)) : At w0 n ds R env (Cls g sm :: l) := fun a w f s => by
  obtain ⟨bel, h, ⟨p, q, ⟨mb, b4, b5, bs1, bs2, kvs, ⟨h1, h2, h3⟩, hs⟩, hq, hd, l1, l2⟩, kk⟩ := s
  have s2 : Sat w0 w (star [CC g 1 0 sm (.map (some mb)), MapA KS mb kvs, cl b4 #[.int .i64 4] 3, cl b5 #[.int .i64 5] 3, Boxes 1 bs1, Boxes 2 bs2] :: l) := ⟨bel, h, ⟨p, q, hs, hq, hd, l1, l2⟩, kk⟩
  exact k mb b4 b5 bs1 bs2 kvs h1 h2 h3 a w f s2.open_
end Go.Proofs.YtgclahlbifbgdaaGreatDoor
