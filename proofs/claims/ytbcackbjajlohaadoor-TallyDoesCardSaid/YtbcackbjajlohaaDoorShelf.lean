/- strconv.FormatInt, by the library's contract. -/
import Derived.Test.YtbcackbjajlohaaDoorProg
import Derived.Shelf.Strconv.Itoa4
import Derived.Test.YtbcackbjajlohaaDoorSLStr
import Derived.KernelRfl
set_option linter.unusedSimpArgs false
set_option linter.unusedVariables false
set_option maxRecDepth 100000
namespace Go.Proofs.YtbcackbjajlohaaDoor
open Go Go.Proofs.YtbcackbjajlohaaDoor.SL Go.RowKit
/-- The numbers under which this program holds what strconv.FormatInt reaches. -/
def Tryd.laysM173_ren : Go.Shelf.Ren := ⟨fun | 173 => 27 | 246 => 35 | 283 => 38 | 284 => 39 | 285 => 40 | 286 => 41 | 129 => 47 | 317 => 46 | 318 => 48 | 319 => 49 | 320 => 50 | 337 => 55 | 338 => 56 | n => n, fun | 2 => 2 | 3 => 3 | 9 => 9 | 4 => 4 | 171 => 82 | 0 => 0 | 53 => 83 | 37 => 79 | 5 => 5 | 173 => 86 | 212 => 94 | 51 => 48 | 20 => 20 | 213 => 95 | 46 => 97 | 232 => 110 | 233 => 111 | n => n, fun | 17 => 0 | 18 => 1 | 19 => 2 | n => n⟩
theorem Tryd.laysM173 : Go.Proofs.LaysM.n173 Tryd.prog Tryd.laysM173_ren where
  mixed := by kernel_rfl
  f129 := Tryd.func47.trans (congrArg some (by kernel_rfl))
  f173 := Tryd.func27.trans (congrArg some (by kernel_rfl))
  f246 := Tryd.func35.trans (congrArg some (by kernel_rfl))
  f283 := Tryd.func38.trans (congrArg some (by kernel_rfl))
  f284 := Tryd.func39.trans (congrArg some (by kernel_rfl))
  f285 := Tryd.func40.trans (congrArg some (by kernel_rfl))
  f286 := Tryd.func41.trans (congrArg some (by kernel_rfl))
  f317 := Tryd.func46.trans (congrArg some (by kernel_rfl))
  f318 := Tryd.func48.trans (congrArg some (by kernel_rfl))
  f319 := Tryd.func49.trans (congrArg some (by kernel_rfl))
  f320 := Tryd.func50.trans (congrArg some (by kernel_rfl))
  f337 := Tryd.func55.trans (congrArg some (by kernel_rfl))
  f338 := Tryd.func56.trans (congrArg some (by kernel_rfl))
  t0 := Tryd.underlying0
  a0 := Tryd.isAgg0
  z0 := Tryd.sizeOf0
  v0 := Tryd.zeroValue0
  t2 := Tryd.underlying2
  a2 := Tryd.isAgg2
  z2 := Tryd.sizeOf2
  v2 := Tryd.zeroValue2
  t3 := Tryd.underlying3
  a3 := Tryd.isAgg3
  z3 := Tryd.sizeOf3
  v3 := Tryd.zeroValue3
  t4 := Tryd.underlying4
  a4 := Tryd.isAgg4
  z4 := Tryd.sizeOf4
  v4 := Tryd.zeroValue4
  t5 := Tryd.underlying5
  a5 := Tryd.isAgg5
  z5 := Tryd.sizeOf5
  v5 := Tryd.zeroValue5
  t9 := Tryd.underlying9
  a9 := Tryd.isAgg9
  z9 := Tryd.sizeOf9
  v9 := Tryd.zeroValue9
  t20 := Tryd.underlying20
  a20 := Tryd.isAgg20
  z20 := Tryd.sizeOf20
  v20 := Tryd.zeroValue20
  t37 := Tryd.underlying79
  a37 := Tryd.isAgg79
  z37 := Tryd.sizeOf79
  v37 := Tryd.zeroValue79
  t46 := Tryd.underlying97
  a46 := Tryd.isAgg97
  z46 := Tryd.sizeOf97
  v46 := Tryd.zeroValue97
  t51 := Tryd.underlying48
  a51 := Tryd.isAgg48
  z51 := Tryd.sizeOf48
  v51 := Tryd.zeroValue48
  t53 := Tryd.underlying83
  a53 := Tryd.isAgg83
  z53 := Tryd.sizeOf83
  v53 := Tryd.zeroValue83
  t171 := Tryd.underlying82
  a171 := Tryd.isAgg82
  z171 := Tryd.sizeOf82
  v171 := Tryd.zeroValue82
  t173 := Tryd.underlying86
  a173 := Tryd.isAgg86
  z173 := Tryd.sizeOf86
  v173 := Tryd.zeroValue86
  t212 := Tryd.underlying94
  a212 := Tryd.isAgg94
  z212 := Tryd.sizeOf94
  v212 := Tryd.zeroValue94
  t213 := Tryd.underlying95
  a213 := Tryd.isAgg95
  z213 := Tryd.sizeOf95
  t232 := Tryd.underlying110
  a232 := Tryd.isAgg110
  z232 := Tryd.sizeOf110
  v232 := Tryd.zeroValue110
  t233 := Tryd.underlying111
  a233 := Tryd.isAgg111
  z233 := Tryd.sizeOf111
  v233 := Tryd.zeroValue111
  g17 := by kernel_rfl
  g18 := by kernel_rfl
  g19 := by kernel_rfl
  i0 := by kernel_rfl
  i2 := by kernel_rfl
  i3 := by kernel_rfl
  i4 := by kernel_rfl
  i5 := by kernel_rfl
  i9 := by kernel_rfl
  i20 := by kernel_rfl
  i37 := by kernel_rfl
  i46 := by kernel_rfl
  i51 := by kernel_rfl
  i53 := by kernel_rfl
  i171 := by kernel_rfl
  i173 := by kernel_rfl
  i212 := by kernel_rfl
  i232 := by kernel_rfl
  i233 := by kernel_rfl
  m17 := by kernel_rfl
  m18 := by kernel_rfl
  m19 := by kernel_rfl
theorem sat_growN {w0 w : World} {l : List HP} (s : Sat w0 w l) (k : Nat) (os : Array Obj) : Sat w0 (Go.Sort.grow (w.drewN k) os) l :=
  s.grown ⟨rfl, rfl, rfl, by simp [Go.Sort.grow, World.drewN], fun i hi => by
    simp only [Go.Sort.grow, World.drewN]
    rw [Array.getElem?_append_left hi]⟩
/-- The table that strconv reads, in the world that the walk begins with. -/
abbrev Pow10 (w : World) : Prop := Lib.TabIs Tryd.prog w "internal/strconv.uint64pow10" .u64 Lib.pow10Tab
theorem sat_tab {w0 w : World} {l : List HP} (s : Sat w0 w l) (h : Pow10 w0) : Pow10 w := by
  have h1 : w0.var? Tryd.prog "internal/strconv.uint64pow10" = some (Lib.pow10Tab.map fun z => Value.int .u64 z).toArray := h
  show w.var? Tryd.prog "internal/strconv.uint64pow10" = _
  rw [← h1]
  unfold World.var? at h1 ⊢
  cases hg : Tryd.prog.globalNamed "internal/strconv.uint64pow10" with
  | none => rw [hg] at h1; simp at h1
  | some g =>
    rw [hg] at h1
    simp only [Option.bind_some] at h1 ⊢
    cases ho : w0.heap[g]? with
    | none => rw [ho] at h1; simp at h1
    | some o => rw [s.old ho]
def itoaB (n : Int) : ByteArray := ⟨(Lib.itoa n).toArray⟩
theorem T27 (w0 : World) (n : Int) (h0 : -9223372036854775808 ≤ n) (h1 : n ≤ 9223372036854775807) (htab : Pow10 w0) : Tri Tryd.prog w0 27 [.int .i64 n, .int .i64 10] [] fun v m => v = .string (itoaB n) ∧ m = [] := by
  intro F w s
  refine (Any.strconv_FormatInt_10 Tryd.laysM173 n h0 h1 w (sat_tab s htab)).mono ?_
  rintro e w' ⟨rfl, k, os, rfl⟩
  exact ⟨_, [], rfl, ⟨rfl, rfl⟩, sat_growN s k os⟩
