/- Package class: the map of rules. -/
import Derived.Test.YtgclahlbifbgdaaGreatDoorProg
import Derived.Test.YtgclahlbifbgdaaGreatDoorClass3
import Derived.Test.YtgclahlbifbgdaaGreatDoorSLStr
import Derived.KernelRfl
set_option linter.unusedSimpArgs false
set_option linter.unusedVariables false
set_option maxRecDepth 100000
set_option maxHeartbeats 4000000
namespace Go.Proofs.YtgclahlbifbgdaaGreatDoor
open Go Go.Proofs.YtgclahlbifbgdaaGreatDoor.SL Go.RowKit
/-- A classer's cells: done, the mutex, the rules. -/
abbrev CC (g : Nat) (dn mu sm : Int) (mv : Value) : HP := cl g #[.int .u32 dn, .int .i32 mu, .int .u32 sm, mv] 65
theorem T8 (w0 : World) : Tri Tryz.prog w0 8 [] [] fun v m => ∃ g, v = ptrTo g ∧ m = [CC g 0 0 0 (.map none)] := by
  refine tri_of Tryz.func8 rfl rfl fun F => ?_
  simp only [Tryz.ntmps8, argEnv, List.nil_append]
  refine at_seq_k (fun K0 hK0 => ?_)
  refine at_region ?_
  refine at_v (ov_assign rfl rfl) rfl rfl rfl ?_
  refine at_nil ?_
  refine at_normal ?_
  refine hK0 _ _ _ ?_
  refine at_seq_k (fun K1 hK1 => ?_)
  refine at_region ?_
  refine at_v (ov_build (cs := [_, _, _, _]) rfl rfl rfl rfl) rfl rfl rfl ?_
  refine at_t (ot_boxA rfl rfl) rfl rfl rfl ?_
  rintro _ _ ⟨g0, rfl, rfl⟩
  refine at_v (ov_assign rfl rfl) rfl rfl rfl ?_
  refine at_nil ?_
  refine at_normal ?_
  refine hK1 _ _ _ ?_
  refine at_ret ?_
  refine at_end ?_
  refine at_fin (rsV rfl (res_tmp rfl)) ?_
  refine ⟨_, ⟨g0, rfl, rfl⟩, ?_⟩
  exact fun _ s => s.finEq (ks := [0]) (js := []) rfl rfl rfl
abbrev KS : TypeDesc := .string
end Go.Proofs.YtgclahlbifbgdaaGreatDoor
