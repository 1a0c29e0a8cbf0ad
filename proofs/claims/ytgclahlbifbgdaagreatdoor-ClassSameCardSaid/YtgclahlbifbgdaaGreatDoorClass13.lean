/- Package class: Known at a classer in use, walked. -/
import Derived.Test.YtgclahlbifbgdaaGreatDoorProg
import Derived.Test.YtgclahlbifbgdaaGreatDoorClass12
import Derived.Test.YtgclahlbifbgdaaGreatDoorSLStr
import Derived.KernelRfl
set_option linter.unusedSimpArgs false
set_option linter.unusedVariables false
set_option maxRecDepth 100000
set_option maxHeartbeats 4000000
namespace Go.Proofs.YtgclahlbifbgdaaGreatDoor
open Go Go.Proofs.YtgclahlbifbgdaaGreatDoor.SL Go.RowKit
theorem rules_len {b4 b5 : Nat} {bs1 bs2 : List Nat} (h1 : bs1.length = 3) (h2 : bs2.length = 12) : (rulesL b4 b5 bs1 bs2).length = 25 := by
  have l1 : readsW.length = 3 := rfl
  have l2 : changeW.length = 12 := rfl
  have l3 : askW.length = 4 := rfl
  unfold rulesL
  simp only [List.length_append, List.length_map, List.length_zip, List.length_cons, List.length_nil, l1, l2, l3, h1, h2]
  omega
theorem T13 (w0 : World) {g : Nat} : Tri Tryz.prog w0 13 [ptrTo g] [Cl g] fun v m => v = .int .i64 25 ∧ m = [Cl g] := by
  refine tri_of Tryz.func13 rfl rfl fun F => ?_
  simp only [Tryz.ntmps13, argEnv, List.cons_append, List.nil_append]
  refine at_seq_k (fun K0 hK0 => ?_)
  refine at_region ?_
  refine at_v (ov_assign rfl rfl) rfl rfl rfl ?_
  refine at_nil ?_
  refine at_normal ?_
  refine hK0 _ _ _ ?_
  refine at_seq_k (fun K1 hK1 => ?_)
  refine at_region ?_
  refine at_v (ov_move rfl rfl) rfl rfl rfl ?_
  refine at_t (ot_call (ks := [0]) rfl rfl rfl Tryz.call31 rfl (T31c _) rfl) rfl rfl rfl ?_
  rintro v0 _ ⟨m0, hp0, rfl⟩
  obtain ⟨mb0, hp0⟩ := hp0
  obtain ⟨b40, hp0⟩ := hp0
  obtain ⟨b50, hp0⟩ := hp0
  obtain ⟨bs10, hp0⟩ := hp0
  obtain ⟨bs20, hp0⟩ := hp0
  obtain ⟨kvs0, hp0⟩ := hp0
  obtain ⟨hq0, hp0⟩ := hp0
  obtain ⟨rfl, rfl⟩ := hp0
  simp only [List.cons_append, List.nil_append, splice, spliceL]
  refine at_v (ov_lenMap (ts := #[]) (k := 1) rfl Tryz.underlying63 rfl rfl) rfl rfl rfl ?_
  refine at_v (ov_assign rfl rfl) rfl rfl rfl ?_
  refine at_nil ?_
  refine at_normal ?_
  refine hK1 _ _ _ ?_
  refine at_ret ?_
  refine at_end ?_
  obtain ⟨hl1, hl2, hperm⟩ : bs10.length = 3 ∧ bs20.length = 12 ∧ kvs0.Perm (rulesL b40 b50 bs10 bs20) := by assumption
  have hk : (kvs0.length : Int) = 25 := by rw [hperm.length_eq, rules_len hl1 hl2]; rfl
  refine at_fold (A := Cl g) [0, 0, 0, 0, 0, 0] rfl (cl_fold ⟨hl1, hl2, hperm⟩) ?_
  refine at_fin (rsV rfl (res_tmp rfl)) ?_
  refine ⟨_, ⟨by rw [hk], rfl⟩, ?_⟩
  exact fun _ s => s.finEq (ks := [0]) (js := []) rfl rfl rfl
end Go.Proofs.YtgclahlbifbgdaaGreatDoor
