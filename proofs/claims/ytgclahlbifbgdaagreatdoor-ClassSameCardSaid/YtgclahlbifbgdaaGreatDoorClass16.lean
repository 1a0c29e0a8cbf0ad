/- Package class: awake, walked. -/
import Derived.Test.YtgclahlbifbgdaaGreatDoorProg
import Derived.Test.YtgclahlbifbgdaaGreatDoorClass13
import Derived.Test.YtgclahlbifbgdaaGreatDoorSLStr
import Derived.KernelRfl
import Derived.KernelRfl
set_option linter.unusedSimpArgs false
set_option linter.unusedVariables false
set_option maxRecDepth 100000
set_option maxHeartbeats 4000000
namespace Go.Proofs.YtgclahlbifbgdaaGreatDoor
open Go Go.Proofs.YtgclahlbifbgdaaGreatDoor.SL Go.RowKit
theorem cl_new {g : Nat} (h : PH) (s : star [CC g 0 0 0 (.map none)] h) : Cl g h := by
  obtain ⟨p, q, hp, _, _, l1, _⟩ := s
  exact .inl (l1 g _ hp)
def cinA : BL := [115, 101, 108, 101, 99, 116, 32, 49, 32, 102, 111, 114, 32, 117, 112, 100, 97, 116, 101]
def cinB : BL := [83, 101, 108, 101, 99, 116, 32, 49, 59]
def cinC : BL := [39]
def cinD : BL := [98, 101, 103, 105, 110]
def cinE : BL := []
def cinF : BL := [47, 42, 43, 32, 112, 114, 105, 109, 97, 114, 121, 32, 42, 47, 32, 115, 101, 108, 101, 99, 116, 32, 49]
theorem classOf_inA : classL cinA = 2 := by decide +kernel
theorem classOf_inB : classL cinB = 1 := by decide +kernel
theorem classOf_inC : classL cinC = 0 := by decide +kernel
theorem classOf_inD : classL cinD = 3 := by decide +kernel
theorem classOf_inE : classL cinE = 7 := by decide +kernel
theorem asksOf_inF : asksT (lexR cinF).1 = 1 := by decide +kernel
theorem T7 (w0 : World) (hM : MaxL w0) : Tri Tryz.prog w0 7 [] [] fun v m => v = .bool true ∧ m = [] := by
  refine tri_of Tryz.func7 rfl rfl fun F => ?_
  simp only [Tryz.ntmps7, argEnv, List.nil_append]
  have hinA {g : Nat} : Tri Tryz.prog w0 9 [ptrTo g, SV cinA] [Cl g] fun v m => v = .int .i64 2 ∧ m = [Cl g] := by
    have := T9 w0 (g := g) cinA (by decide) hM
    rwa [classOf_inA] at this
  have hinB {g : Nat} : Tri Tryz.prog w0 9 [ptrTo g, SV cinB] [Cl g] fun v m => v = .int .i64 1 ∧ m = [Cl g] := by
    have := T9 w0 (g := g) cinB (by decide) hM
    rwa [classOf_inB] at this
  have hinC {g : Nat} : Tri Tryz.prog w0 9 [ptrTo g, SV cinC] [Cl g] fun v m => v = .int .i64 0 ∧ m = [Cl g] := by
    have := T9 w0 (g := g) cinC (by decide) hM
    rwa [classOf_inC] at this
  have hinD {g : Nat} : Tri Tryz.prog w0 9 [ptrTo g, SV cinD] [Cl g] fun v m => v = .int .i64 3 ∧ m = [Cl g] := by
    have := T9 w0 (g := g) cinD (by decide) hM
    rwa [classOf_inD] at this
  have hinE {g : Nat} : Tri Tryz.prog w0 9 [ptrTo g, SV cinE] [Cl g] fun v m => v = .int .i64 7 ∧ m = [Cl g] := by
    have := T9 w0 (g := g) cinE (by decide) hM
    rwa [classOf_inE] at this
  have hinF {g : Nat} : Tri Tryz.prog w0 11 [ptrTo g, SV cinF] [] fun v m => v = .int .i64 1 ∧ m = [] := by
    have := T11 w0 (ptrTo g) cinF (by decide) hM
    rwa [asksOf_inF] at this
  refine at_seq_k (fun K0 hK0 => ?_)
  refine at_region ?_
  refine at_v (ov_assign rfl rfl) rfl rfl rfl ?_
  refine at_nil ?_
  refine at_normal ?_
  refine hK0 _ _ _ ?_
  refine at_seq_k (fun K1 hK1 => ?_)
  refine at_region ?_
  refine at_t (ot_call (ks := []) rfl rfl rfl Tryz.call8 rfl (T8 _) rfl) rfl rfl rfl ?_
  rintro v0 _ ⟨m0, hp0, rfl⟩
  obtain ⟨g0, hp0⟩ := hp0
  obtain ⟨rfl, rfl⟩ := hp0
  simp only [List.cons_append, List.nil_append, splice, spliceL]
  refine at_v (ov_assign rfl rfl) rfl rfl rfl ?_
  refine at_nil ?_
  refine at_normal ?_
  refine hK1 _ _ _ ?_
  refine at_seq_k (fun K2 hK2 => ?_)
  refine at_seq_k (fun K3 hK3 => ?_)
  refine at_region ?_
  refine at_v (ov_move rfl rfl) rfl rfl rfl ?_
  refine at_v (ov_ptr_nil (q := none) rfl Tryz.underlying23 rfl rfl) rfl rfl rfl ?_
  refine at_nil ?_
  refine at_normal ?_
  refine hK3 _ _ _ ?_
  refine at_cond_false rfl ?_
  refine at_skip ?_
  refine at_normal ?_
  refine hK2 _ _ _ ?_
  refine at_seq_k (fun K4 hK4 => ?_)
  refine at_region ?_
  refine at_v (ov_move rfl rfl) rfl rfl rfl ?_
  refine at_fold (A := Cl g0) [0] rfl cl_new ?_
  refine at_t (ot_call (ks := [0]) rfl rfl rfl Tryz.call9 rfl (hinA ) rfl) rfl rfl rfl ?_
  rintro v0 _ ⟨m0, hp0, rfl⟩
  obtain ⟨rfl, rfl⟩ := hp0
  simp only [List.cons_append, List.nil_append, splice, spliceL]
  refine at_v (ov_int rfl rfl rfl rfl) rfl rfl rfl ?_
  refine at_v (ov_move rfl rfl) rfl rfl rfl ?_
  refine at_wanted (j := 3) rfl ?_
  refine at_v (ov_move rfl rfl) rfl rfl rfl ?_
  refine at_wanted (j := 3) rfl ?_
  refine at_t (ot_call (ks := [0]) rfl rfl rfl Tryz.call9 rfl (hinB ) rfl) rfl rfl rfl ?_
  rintro v0 _ ⟨m0, hp0, rfl⟩
  obtain ⟨rfl, rfl⟩ := hp0
  simp only [List.cons_append, List.nil_append, splice, spliceL]
  refine at_wanted (j := 3) rfl ?_
  refine at_v (ov_int rfl rfl rfl rfl) rfl rfl rfl ?_
  refine at_v (ov_pick_t rfl rfl rfl) rfl rfl rfl ?_
  refine at_v (ov_move rfl rfl) rfl rfl rfl ?_
  refine at_wanted (j := 8) rfl ?_
  refine at_v (ov_move rfl rfl) rfl rfl rfl ?_
  refine at_wanted (j := 8) rfl ?_
  refine at_t (ot_call (ks := [0]) rfl rfl rfl Tryz.call9 rfl (hinC ) rfl) rfl rfl rfl ?_
  rintro v0 _ ⟨m0, hp0, rfl⟩
  obtain ⟨rfl, rfl⟩ := hp0
  simp only [List.cons_append, List.nil_append, splice, spliceL]
  refine at_wanted (j := 8) rfl ?_
  refine at_v (ov_int rfl rfl rfl rfl) rfl rfl rfl ?_
  refine at_v (ov_pick_t rfl rfl rfl) rfl rfl rfl ?_
  refine at_v (ov_move rfl rfl) rfl rfl rfl ?_
  refine at_wanted (j := 13) rfl ?_
  refine at_v (ov_move rfl rfl) rfl rfl rfl ?_
  refine at_wanted (j := 13) rfl ?_
  refine at_t (ot_call (ks := [0]) rfl rfl rfl Tryz.call9 rfl (hinD ) rfl) rfl rfl rfl ?_
  rintro v0 _ ⟨m0, hp0, rfl⟩
  obtain ⟨rfl, rfl⟩ := hp0
  simp only [List.cons_append, List.nil_append, splice, spliceL]
  refine at_wanted (j := 13) rfl ?_
  refine at_v (ov_int rfl rfl rfl rfl) rfl rfl rfl ?_
  refine at_v (ov_pick_t rfl rfl rfl) rfl rfl rfl ?_
  refine at_v (ov_move rfl rfl) rfl rfl rfl ?_
  refine at_wanted (j := 18) rfl ?_
  refine at_v (ov_move rfl rfl) rfl rfl rfl ?_
  refine at_wanted (j := 18) rfl ?_
  refine at_t (ot_call (ks := []) rfl rfl rfl Tryz.call11 rfl (hinF ) rfl) rfl rfl rfl ?_
  rintro v0 _ ⟨m0, hp0, rfl⟩
  obtain ⟨rfl, rfl⟩ := hp0
  simp only [List.cons_append, List.nil_append, splice, spliceL]
  refine at_wanted (j := 18) rfl ?_
  refine at_v (ov_int rfl rfl rfl rfl) rfl rfl rfl ?_
  refine at_v (ov_pick_t rfl rfl rfl) rfl rfl rfl ?_
  refine at_v (ov_move rfl rfl) rfl rfl rfl ?_
  refine at_wanted (j := 23) rfl ?_
  refine at_v (ov_move rfl rfl) rfl rfl rfl ?_
  refine at_wanted (j := 23) rfl ?_
  refine at_t (ot_call (ks := [0]) rfl rfl rfl Tryz.call9 rfl (hinE ) rfl) rfl rfl rfl ?_
  rintro v0 _ ⟨m0, hp0, rfl⟩
  obtain ⟨rfl, rfl⟩ := hp0
  simp only [List.cons_append, List.nil_append, splice, spliceL]
  refine at_wanted (j := 23) rfl ?_
  refine at_v (ov_int rfl rfl rfl rfl) rfl rfl rfl ?_
  refine at_v (ov_pick_t rfl rfl rfl) rfl rfl rfl ?_
  refine at_v (ov_move rfl rfl) rfl rfl rfl ?_
  refine at_wanted (j := 28) rfl ?_
  refine at_v (ov_move rfl rfl) rfl rfl rfl ?_
  refine at_wanted (j := 28) rfl ?_
  refine at_t (ot_call (ks := [0]) rfl rfl rfl Tryz.call13 rfl (T13 _) rfl) rfl rfl rfl ?_
  rintro v0 _ ⟨m0, hp0, rfl⟩
  obtain ⟨rfl, rfl⟩ := hp0
  simp only [List.cons_append, List.nil_append, splice, spliceL]
  refine at_wanted (j := 28) rfl ?_
  refine at_v (ov_int rfl rfl rfl rfl) rfl rfl rfl ?_
  refine at_v (ov_pick_t rfl rfl rfl) rfl rfl rfl ?_
  refine at_v (ov_move rfl rfl) rfl rfl rfl ?_
  refine at_v (ov_pick_t rfl rfl rfl) rfl rfl rfl ?_
  refine at_v (ov_assign rfl rfl) rfl rfl rfl ?_
  refine at_nil ?_
  refine at_normal ?_
  refine hK4 _ _ _ ?_
  refine at_ret ?_
  refine at_end ?_
  refine at_fin (rsV rfl (res_tmp rfl)) ?_
  refine ⟨_, ⟨rfl, rfl⟩, ?_⟩
  exact fun _ s => s.finEq (ks := []) (js := [0]) rfl rfl rfl
end Go.Proofs.YtgclahlbifbgdaaGreatDoor
