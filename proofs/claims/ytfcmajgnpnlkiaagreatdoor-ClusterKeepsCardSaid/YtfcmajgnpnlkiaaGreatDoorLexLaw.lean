/- Lexing, in plain words: what the program's and the reference's functions compute. -/
import Derived.Test.YtfcmajgnpnlkiaaGreatDoorProg
import Derived.Test.YtfcmajgnpnlkiaaGreatDoorStrs
import Derived.Lib.IndexMore
import Derived.Lib.SlTrimSet
set_option linter.unusedSimpArgs false
set_option linter.unusedVariables false
namespace Go.Proofs.YtfcmajgnpnlkiaaGreatDoor
open Go Go.Proofs.YtfcmajgnpnlkiaaGreatDoor.SL Go.RowKit
abbrev Tok := Int × BL
def tE (t : Tok) : List Value := [.int .i64 t.1, SV t.2]
def letterB (c : UInt8) : Bool := (decide (65 ≤ c.toNat) && decide (c.toNat ≤ 90)) || (decide (97 ≤ c.toNat) && decide (c.toNat ≤ 122)) || decide (c.toNat = 95)
def digitB (c : UInt8) : Bool := decide (48 ≤ c.toNat) && decide (c.toNat ≤ 57)
def blankB (c : UInt8) : Bool := decide (c.toNat = 32) || decide (c.toNat = 9) || decide (c.toNat = 10) || decide (c.toNat = 13)
def wordB (c : UInt8) : Bool := letterB c || digitB c
def greatB (c : UInt8) : UInt8 := if 97 ≤ c.toNat ∧ c.toNat ≤ 122 then c - 32 else c
def greatL (l : BL) : BL := l.map greatB
def quotL (q : UInt8) : BL → Option (BL × Nat)
  | [] => none
  | c :: r => if c = q then (match r with
      | d :: r' => if d = q then (quotL q r').map fun x => (q :: x.1, x.2 + 2) else some ([], 1)
      | [] => some ([], 1))
    else (quotL q r).map fun x => (c :: x.1, x.2 + 1)
def hintsL : BL := [47, 42, 43]
def opensL : BL := [47, 42]
def closesL : BL := [42, 47]
def remarkL (l : BL) : Int :=
  if Lib.hasPrefix l hintsL then 0
  else if Lib.hasPrefix l opensL then (if Lib.index (l.drop 2) closesL < 0 then -1 else 4 + Lib.index (l.drop 2) closesL)
  else if Lib.hasPrefix l [45, 45] || Lib.hasPrefix l [35] then (if Lib.indexByte l 10 < 0 then (l.length : Nat) else Lib.indexByte l 10)
  else 0
def blanksL : BL := [32, 9, 10, 13]
def oneL (l : BL) : Tok × Int :=
  match l with
  | [] => ((0, []), -1)
  | c :: r =>
    if Lib.hasPrefix l hintsL then (if Lib.index (l.drop 3) closesL < 0 then ((0, []), -1) else ((5, Lib.trimS ((l.drop 3).take (Lib.index (l.drop 3) closesL).toNat) blanksL), 5 + Lib.index (l.drop 3) closesL))
    else if letterB c then ((1, greatL (l.takeWhile wordB)), ((l.takeWhile wordB).length : Nat))
    else if digitB c then ((4, l.takeWhile digitB), ((l.takeWhile digitB).length : Nat))
    else if c.toNat = 39 then (match quotL c r with | some (t, n) => ((3, t), ((n + 1 : Nat) : Int)) | none => ((3, []), -1))
    else if c.toNat = 34 ∨ c.toNat = 96 then (match quotL c r with | some (t, n) => ((2, t), ((n + 1 : Nat) : Int)) | none => ((2, []), -1))
    else if 33 ≤ c.toNat ∧ c.toNat ≤ 126 then ((6, [c]), 1)
    else ((0, []), -1)
def lexN : Nat → BL → Option (List Tok)
  | _, [] => some []
  | 0, _ => none
  | f + 1, c :: r =>
    if blankB c then lexN f r
    else if remarkL (c :: r) = 0 then (if (oneL (c :: r)).2 < 0 then none else (lexN f ((c :: r).drop (oneL (c :: r)).2.toNat)).map ((oneL (c :: r)).1 :: ·))
    else if remarkL (c :: r) < 0 then none
    else lexN f ((c :: r).drop (remarkL (c :: r)).toNat)
def lexL (l : BL) : Option (List Tok) := lexN l.length l
def lexR (l : BL) : List Tok × Int := if 200 < l.length then ([], 4) else match lexL l with | some ts => (ts, 0) | none => ([], 2)
theorem quotL_le {q : UInt8} : ∀ {l : BL} {t : BL} {n : Nat}, quotL q l = some (t, n) → 1 ≤ n ∧ n ≤ l.length ∧ t.length + 1 ≤ n
  | [], t, n, h => by simp [quotL] at h
  | c :: r, t, n, h => by
    unfold quotL at h
    split at h
    · match r, h with
      | [], h => simp at h; obtain ⟨rfl, rfl⟩ := h; simp
      | d :: r', h =>
        simp only at h
        split at h
        · cases hq : quotL q r' with
          | none => rw [hq] at h; cases h
          | some x =>
            rw [hq] at h;have := quotL_le (t := x.1) (n := x.2) hq;simp at h;obtain ⟨rfl, rfl⟩ := h
            simp; omega
        · simp at h; obtain ⟨rfl, rfl⟩ := h; simp
    · cases hq : quotL q r with
      | none => rw [hq] at h; cases h
      | some x =>
        rw [hq] at h;have := quotL_le (t := x.1) (n := x.2) hq;simp at h;obtain ⟨rfl, rfl⟩ := h
        simp; omega
theorem index_le (s sub : BL) (h : 0 ≤ Lib.index s sub) : (Lib.index s sub).toNat + sub.length ≤ s.length := by
  induction s with
  | nil =>
    unfold Lib.index at h ⊢
    cases sub with
    | nil => simp
    | cons a b => simp at h
  | cons a s ih =>
    unfold Lib.index at h ⊢
    by_cases hp : sub.isPrefixOf (a :: s) = true
    · rw [if_pos hp]
      simpa using (List.isPrefixOf_iff_prefix.1 hp).length_le
    · rw [if_neg hp] at h ⊢
      by_cases hm : (Lib.index s sub == -1) = true
      · rw [if_pos hm] at h; omega
      · rw [if_neg hm] at h ⊢;have h1 := Lib.index_ge s sub;have h2 : Lib.index s sub ≠ -1 := by simpa using hm
        have := ih (by omega);simp only [List.length_cons]; omega
theorem indexByte_lt (s : BL) (c : UInt8) : Lib.indexByte s c < s.length ∨ s = [] := by
  induction s with
  | nil => exact .inr rfl
  | cons a s ih =>
    left
    unfold Lib.indexByte
    split
    · simp only [List.length_cons]; omega
    · split
      · simp only [List.length_cons]; omega
      · simp only [List.length_cons]
        rcases ih with ih | ih
        · omega
        · subst ih; simp [Lib.indexByte]
theorem takeWhile_le (p : UInt8 → Bool) (l : BL) : (l.takeWhile p).length ≤ l.length := (List.takeWhile_sublist p).length_le
theorem oneL_le {c : UInt8} {r : BL} (h : 0 ≤ (oneL (c :: r)).2) : 1 ≤ (oneL (c :: r)).2.toNat ∧ (oneL (c :: r)).2.toNat ≤ (c :: r).length := by
  unfold oneL at h ⊢
  simp only at h ⊢
  by_cases h1 : Lib.hasPrefix (c :: r) hintsL = true
  · rw [if_pos h1] at h ⊢;have hl : 3 ≤ (c :: r).length := by simpa [hintsL] using (List.isPrefixOf_iff_prefix.1 h1).length_le
    split at h
    · simp at h
    · rename_i h2
      rw [if_neg h2];have := index_le ((c :: r).drop 3) closesL (by omega);simp only [closesL, List.length_drop, List.length_cons, List.length_nil] at this ⊢;simp only [closesL] at h2;simp only [List.length_cons] at hl;omega
  · rw [if_neg h1] at h ⊢
    by_cases h2 : letterB c = true
    · rw [if_pos h2];have hw : wordB c = true := by simp [wordB, h2]
      have := takeWhile_le wordB (c :: r);simp only [Int.toNat_natCast];rw [List.takeWhile_cons_of_pos hw] at this ⊢;simp only [List.length_cons] at this ⊢; omega
    · rw [if_neg h2] at h ⊢
      by_cases h3 : digitB c = true
      · rw [if_pos h3];have := takeWhile_le digitB (c :: r);simp only [Int.toNat_natCast];rw [List.takeWhile_cons_of_pos h3] at this ⊢;simp only [List.length_cons] at this ⊢; omega
      · rw [if_neg h3] at h ⊢
        by_cases h4 : c.toNat = 39
        · rw [if_pos h4] at h ⊢
          cases hq : quotL c r with
          | none => rw [hq] at h; simp at h
          | some x => have := quotL_le (t := x.1) (n := x.2) hq; simp only [Int.toNat_natCast, List.length_cons]; omega
        · rw [if_neg h4] at h ⊢
          by_cases h5 : c.toNat = 34 ∨ c.toNat = 96
          · rw [if_pos h5] at h ⊢
            cases hq : quotL c r with
            | none => rw [hq] at h; simp at h
            | some x => have := quotL_le (t := x.1) (n := x.2) hq; simp only [Int.toNat_natCast, List.length_cons]; omega
          · rw [if_neg h5] at h ⊢
            by_cases h6 : 33 ≤ c.toNat ∧ c.toNat ≤ 126
            · rw [if_pos h6]; simp
            · rw [if_neg h6] at h; simp at h
theorem remarkL_le (c : UInt8) (r : BL) : remarkL (c :: r) ≤ (c :: r).length := by
  unfold remarkL
  split
  · simp only [List.length_cons]; omega
  · split
    · split
      · simp only [List.length_cons]; omega
      · rename_i h2
        have := index_le ((c :: r).drop 2) closesL (by omega);simp only [closesL, List.length_drop, List.length_cons, List.length_nil] at this h2 ⊢;omega
    · split
      · split
        · simp
        · rcases indexByte_lt (c :: r) 10 with h | h
          · omega
          · cases h
      · simp only [List.length_cons]; omega
theorem lexN_fuel : ∀ (f : Nat) (l : BL), l.length ≤ f → ∀ g, l.length ≤ g → lexN f l = lexN g l := by
  intro f
  induction f with
  | zero =>
    intro l hl g hg;have : l = [] := List.eq_nil_of_length_eq_zero (by omega);subst this
    cases g <;> rfl
  | succ f ih =>
    intro l hl g hg
    cases l with
    | nil => cases g <;> rfl
    | cons c r =>
      cases g with
      | zero => simp at hg
      | succ g =>
        simp only [List.length_cons] at hl hg
        have key : ∀ k : Nat, 1 ≤ k → lexN f ((c :: r).drop k) = lexN g ((c :: r).drop k) := fun k hk =>
          ih _ (by rw [List.length_drop, List.length_cons]; omega) _ (by rw [List.length_drop, List.length_cons]; omega)
        unfold lexN
        split
        · exact key 1 (Nat.le_refl _)
        · split
          · split
            · rfl
            · rename_i h1
              rw [key _ (oneL_le (by omega)).1]
          · split
            · rfl
            · rename_i h1 h2
              rw [key _ (by omega)]
theorem lexN_L {f : Nat} {l : BL} (h : l.length ≤ f) : lexN f l = lexL l := lexN_fuel f l h _ (Nat.le_refl _)
theorem lexL_nil : lexL [] = some [] := rfl
theorem lexL_cons (c : UInt8) (r : BL) : lexL (c :: r) = if blankB c then lexL r
    else if remarkL (c :: r) = 0 then (if (oneL (c :: r)).2 < 0 then none else (lexL ((c :: r).drop (oneL (c :: r)).2.toNat)).map ((oneL (c :: r)).1 :: ·))
    else if remarkL (c :: r) < 0 then none
    else lexL ((c :: r).drop (remarkL (c :: r)).toNat) := by
  have key : ∀ k : Nat, 1 ≤ k → lexN r.length ((c :: r).drop k) = lexL ((c :: r).drop k) := fun k hk => lexN_L (by rw [List.length_drop, List.length_cons]; omega)
  conv => lhs; unfold lexL
  simp only [List.length_cons]
  unfold lexN
  split
  · exact lexN_L (Nat.le_refl _)
  · split
    · split
      · rfl
      · rename_i h1
        rw [key _ (oneL_le (by omega)).1]
    · split
      · rfl
      · rename_i h1 h2
        rw [key _ (by omega)]
end Go.Proofs.YtfcmajgnpnlkiaaGreatDoor
