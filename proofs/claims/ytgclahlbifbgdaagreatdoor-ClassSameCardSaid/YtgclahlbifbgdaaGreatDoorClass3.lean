/- Package class: boxes that functions hold; always and ends, read from them; the map of rules. -/
import Derived.Test.YtgclahlbifbgdaaGreatDoorProg
import Derived.Test.YtgclahlbifbgdaaGreatDoorClassDef
import Derived.Test.YtgclahlbifbgdaaGreatDoorOnce
import Derived.Test.YtgclahlbifbgdaaGreatDoorSLStr
import Derived.KernelRfl
set_option linter.unusedSimpArgs false
set_option linter.unusedVariables false
set_option maxRecDepth 100000
set_option maxHeartbeats 4000000
namespace Go.Proofs.YtgclahlbifbgdaaGreatDoor
open Go Go.Proofs.YtgclahlbifbgdaaGreatDoor.SL Go.RowKit
/-- Boxes that each hold one number. -/
def Boxes (k : Int) (bs : List Nat) : HP := star (bs.map fun b => cl b #[.int .i64 k] 3)
theorem Boxes_cons {k : Int} {b : Nat} {bs : List Nat} (h : PH) (s : star [cl b #[.int .i64 k] 3, Boxes k bs] h) : Boxes k (b :: bs) h := by
  obtain ⟨h1, h2, hA, ⟨h3, h4, hB, _, _, l3, _⟩, hd, l1, l2⟩ := s
  refine ⟨h1, h3, hA, hB, fun x => ?_, l1, l3.trans l2⟩
  rcases hd x with e | e
  · exact .inl e
  · refine .inr ?_
    cases h3x : h3 x with
    | none => rfl
    | some o => have := l3 x o h3x; rw [e] at this; cases this
theorem star_mem : ∀ {l : List HP} {A : HP} {h : PH}, A ∈ l → star l h → ∃ h1, A h1 ∧ Le h1 h
  | B :: l, A, h, hm, ⟨h1, h2, hB, hl, _, l1, l2⟩ => by
    rcases List.mem_cons.1 hm with rfl | hm
    · exact ⟨h1, hB, l1⟩
    · obtain ⟨h3, hA, l3⟩ := star_mem hm hl
      exact ⟨h3, hA, l3.trans l2⟩
section
variable {P : Program} {w0 : World} {n : Nat} {ds : List Deferred} {env : Env} {l : List HP} {o : Oper}
theorem Sat.box {w : World} (s : Sat w0 w l) {j b : Nat} {k : Int} {bs : List Nat} (hk : nth j l = some (Boxes k bs)) (hb : b ∈ bs) : w.cell? ⟨b, 0, none⟩ = some (.int .i64 k) := by
  obtain ⟨h, hB, hw⟩ := SL.Sat.atom s hk
  obtain ⟨h1, hA, hl⟩ := star_mem (List.mem_map.2 ⟨b, hb, rfl⟩) hB
  have := (hw b _ (hl b _ hA)).2
  simp [World.cell?, this]
theorem at_boxesNil {R : Act → World → Prop} (k : Int) (h : At w0 n ds R env (Boxes k [] :: l)) : At w0 n ds R env l :=
  fun a w f s => h a w f (s.imp fun h t => ⟨fun _ => none, h, trivial, t, fun _ => .inl rfl, (fun _ _ e => by cases e), Le.refl _⟩)
end
/-- always$1, of a box among others. -/
theorem T87a (w0 : World) (cv lv : Value) {b : Nat} {bs : List Nat} {k : Int} (hb : b ∈ bs) : Tri Tryz.prog w0 87 [cv, lv, ptrTo b] [Boxes k bs] fun v m => v = .int .i64 k ∧ m = [Boxes k bs] := by
  refine tri_of Tryz.func87 rfl rfl fun F => ?_
  simp only [Tryz.ntmps87, argEnv, List.cons_append, List.nil_append]
  refine at_seq_k (fun K0 hK0 => ?_)
  refine at_region ?_
  refine at_v (ov_assign rfl rfl) rfl rfl rfl ?_
  refine at_nil ?_
  refine at_normal ?_
  refine hK0 _ _ _ ?_
  refine at_seq_k (fun K1 hK1 => ?_)
  refine at_region ?_
  refine at_v (ov_load rfl rfl (by rw [Tryz.underlying3]; rfl) (fun w s => Sat.box s (j := 0) rfl hb)) rfl rfl rfl ?_
  refine at_v (ov_assign rfl rfl) rfl rfl rfl ?_
  refine at_nil ?_
  refine at_normal ?_
  refine hK1 _ _ _ ?_
  refine at_ret ?_
  refine at_end ?_
  refine at_fin (rsV rfl (res_tmp rfl)) ?_
  refine ⟨_, ⟨rfl, rfl⟩, ?_⟩
  exact fun _ s => s.finEq (ks := [0]) (js := []) rfl rfl rfl
end Go.Proofs.YtgclahlbifbgdaaGreatDoor
