/- Of a transaction all is laid, or nothing: in plain words. -/
import Derived.Test.YtighdkdomfpadaaGreatDoorProg
import Derived.Test.YtighdkdomfpadaaGreatDoorNodeLaw
import Derived.Test.YtighdkdomfpadaaGreatDoorNode8
import Derived.Lib.IndexMore
import Derived.Lib.MapLaws
import Derived.KernelRfl
set_option linter.unusedSimpArgs false
set_option linter.unusedVariables false
set_option maxRecDepth 100000
namespace Go.Proofs.YtighdkdomfpadaaGreatDoor
open Go Go.Proofs.YtighdkdomfpadaaGreatDoor.SL Go.RowKit
theorem lexL_blank {b : UInt8} {r : BL} (h : blankB b = true) : lexL (b :: r) = lexL r := by rw [lexL_cons, if_pos h]
theorem quotL_dbl (q : UInt8) : ∀ (s r : BL), (∀ r', r ≠ q :: r') → quotL q (dblL q s ++ q :: r) = some (s, (dblL q s).length + 1)
  | [], r, h => by
    simp only [dblL, List.flatMap_nil, List.nil_append]
    cases r with
    | nil => simp [quotL]
    | cons d r' =>
      have : d ≠ q := fun e => h r' (by rw [e])
      simp [quotL, this]
  | c :: s, r, h => by
    have ih := quotL_dbl q s r h
    have e : dblL q (c :: s) = (if c = q then [q, q] else [c]) ++ dblL q s := by simp [dblL]
    rw [e]
    by_cases hc : c = q
    · subst hc
      rw [if_pos rfl]
      simp only [List.cons_append, List.nil_append]
      unfold quotL
      simp [ih]
    · rw [if_neg hc]
      simp only [List.cons_append, List.nil_append]
      unfold quotL
      rw [if_neg hc, ih]
      simp
theorem lex_one {c : UInt8} {r rest : BL} {t : Tok} {n : Nat} (hb : blankB c = false) (hr : remarkL (c :: r) = 0) (ho : oneL (c :: r) = (t, ((n : Nat) : Int))) (hd : (c :: r).drop n = rest) : lexL (c :: r) = (lexL rest).map (t :: ·) := by
  rw [lexL_cons, hb, hr, ho]
  simp only [Bool.false_eq_true, if_false, if_true]
  rw [if_neg (by omega), show ((n : Nat) : Int).toNat = n from rfl, hd]
theorem rem_ne {x : UInt8} {l : BL} (h1 : x ≠ 47) (h2 : x ≠ 45) (h3 : x ≠ 35) : remarkL (x :: l) = 0 := by
  unfold remarkL hintsL opensL
  simp [pre_cons, h1, h2, h3]
theorem pre_ne {x : UInt8} {l : BL} (h1 : x ≠ 47) : Lib.hasPrefix (x :: l) hintsL = false := by
  unfold hintsL
  simp [pre_cons, h1]

/-- A text between quotes, its quotes twice. -/
def qT (s : BL) : BL := 39 :: (dblL 39 s ++ [39])
theorem qT_le (s : BL) : (qT s).length ≤ 2 * s.length + 2 := by
  have := dblL_le 39 s
  unfold qT
  simp only [List.length_cons, List.length_append, List.length_nil]
  omega
theorem lex_qT {s r : BL} (h : ∀ r', r ≠ 39 :: r') : lexL (qT s ++ r) = (lexL r).map (((3 : Int), s) :: ·) := by
  have ew : qT s ++ r = 39 :: (dblL 39 s ++ 39 :: r) := by simp [qT]
  rw [ew]
  refine lex_one (n := (dblL 39 s).length + 1 + 1) (by decide) (rem_ne (by decide) (by decide) (by decide)) ?_ (by simp)
  unfold oneL
  simp only
  rw [pre_ne (by decide)]
  simp only [Bool.false_eq_true, if_false, show letterB 39 = false by decide, show digitB 39 = false by decide]
  rw [if_pos (by decide), quotL_dbl 39 s _ h]
theorem lexL_none : lexL [] = some [] := rfl
def ownL : BL := [111, 119, 110]
def toksW (val : BL) : List Tok := [(1, [73, 78, 83, 69, 82, 84]), (1, [73, 78, 84, 79]), (1, [75, 86]), (1, [86, 65, 76, 85, 69, 83]), (6, [40]), (3, ownL), (6, [44]), (3, val), (6, [41])]
def stW (val : BL) : BL := [105, 110, 115, 101, 114, 116, 32, 105, 110, 116, 111, 32, 107, 118, 32, 118, 97, 108, 117, 101, 115, 32, 40, 39, 111, 119, 110, 39, 44, 32] ++ qT val ++ [41]
theorem lexW (val : BL) : lexL (105 :: 110 :: 115 :: 101 :: 114 :: 116 :: (32 :: (105 :: 110 :: 116 :: 111 :: (32 :: (107 :: 118 :: (32 :: (118 :: 97 :: 108 :: 117 :: 101 :: 115 :: (32 :: (40 :: (39 :: 111 :: 119 :: 110 :: 39 :: (44 :: (32 :: (qT val ++ [41]))))))))))))) = some (toksW val) := by
  rw [show lexL (105 :: 110 :: 115 :: 101 :: 114 :: 116 :: (32 :: (105 :: 110 :: 116 :: 111 :: (32 :: (107 :: 118 :: (32 :: (118 :: 97 :: 108 :: 117 :: 101 :: 115 :: (32 :: (40 :: (39 :: 111 :: 119 :: 110 :: 39 :: (44 :: (32 :: (qT val ++ [41]))))))))))))) = (lexL (32 :: (105 :: 110 :: 116 :: 111 :: (32 :: (107 :: 118 :: (32 :: (118 :: 97 :: 108 :: 117 :: 101 :: 115 :: (32 :: (40 :: (39 :: 111 :: 119 :: 110 :: 39 :: (44 :: (32 :: (qT val ++ [41]))))))))))))).map (((1, [73, 78, 83, 69, 82, 84]) : Tok) :: ·) from lex_one (n := 6) (by decide) (rem_ne (by decide) (by decide) (by decide)) (by kernel_rfl) rfl]
  rw [show lexL (32 :: (105 :: 110 :: 116 :: 111 :: (32 :: (107 :: 118 :: (32 :: (118 :: 97 :: 108 :: 117 :: 101 :: 115 :: (32 :: (40 :: (39 :: 111 :: 119 :: 110 :: 39 :: (44 :: (32 :: (qT val ++ [41])))))))))))) = lexL (105 :: 110 :: 116 :: 111 :: (32 :: (107 :: 118 :: (32 :: (118 :: 97 :: 108 :: 117 :: 101 :: 115 :: (32 :: (40 :: (39 :: 111 :: 119 :: 110 :: 39 :: (44 :: (32 :: (qT val ++ [41]))))))))))) from lexL_blank (by decide)]
  rw [show lexL (105 :: 110 :: 116 :: 111 :: (32 :: (107 :: 118 :: (32 :: (118 :: 97 :: 108 :: 117 :: 101 :: 115 :: (32 :: (40 :: (39 :: 111 :: 119 :: 110 :: 39 :: (44 :: (32 :: (qT val ++ [41]))))))))))) = (lexL (32 :: (107 :: 118 :: (32 :: (118 :: 97 :: 108 :: 117 :: 101 :: 115 :: (32 :: (40 :: (39 :: 111 :: 119 :: 110 :: 39 :: (44 :: (32 :: (qT val ++ [41]))))))))))).map (((1, [73, 78, 84, 79]) : Tok) :: ·) from lex_one (n := 4) (by decide) (rem_ne (by decide) (by decide) (by decide)) (by kernel_rfl) rfl]
  rw [show lexL (32 :: (107 :: 118 :: (32 :: (118 :: 97 :: 108 :: 117 :: 101 :: 115 :: (32 :: (40 :: (39 :: 111 :: 119 :: 110 :: 39 :: (44 :: (32 :: (qT val ++ [41])))))))))) = lexL (107 :: 118 :: (32 :: (118 :: 97 :: 108 :: 117 :: 101 :: 115 :: (32 :: (40 :: (39 :: 111 :: 119 :: 110 :: 39 :: (44 :: (32 :: (qT val ++ [41]))))))))) from lexL_blank (by decide)]
  rw [show lexL (107 :: 118 :: (32 :: (118 :: 97 :: 108 :: 117 :: 101 :: 115 :: (32 :: (40 :: (39 :: 111 :: 119 :: 110 :: 39 :: (44 :: (32 :: (qT val ++ [41]))))))))) = (lexL (32 :: (118 :: 97 :: 108 :: 117 :: 101 :: 115 :: (32 :: (40 :: (39 :: 111 :: 119 :: 110 :: 39 :: (44 :: (32 :: (qT val ++ [41]))))))))).map (((1, [75, 86]) : Tok) :: ·) from lex_one (n := 2) (by decide) (rem_ne (by decide) (by decide) (by decide)) (by kernel_rfl) rfl]
  rw [show lexL (32 :: (118 :: 97 :: 108 :: 117 :: 101 :: 115 :: (32 :: (40 :: (39 :: 111 :: 119 :: 110 :: 39 :: (44 :: (32 :: (qT val ++ [41])))))))) = lexL (118 :: 97 :: 108 :: 117 :: 101 :: 115 :: (32 :: (40 :: (39 :: 111 :: 119 :: 110 :: 39 :: (44 :: (32 :: (qT val ++ [41]))))))) from lexL_blank (by decide)]
  rw [show lexL (118 :: 97 :: 108 :: 117 :: 101 :: 115 :: (32 :: (40 :: (39 :: 111 :: 119 :: 110 :: 39 :: (44 :: (32 :: (qT val ++ [41]))))))) = (lexL (32 :: (40 :: (39 :: 111 :: 119 :: 110 :: 39 :: (44 :: (32 :: (qT val ++ [41]))))))).map (((1, [86, 65, 76, 85, 69, 83]) : Tok) :: ·) from lex_one (n := 6) (by decide) (rem_ne (by decide) (by decide) (by decide)) (by kernel_rfl) rfl]
  rw [show lexL (32 :: (40 :: (39 :: 111 :: 119 :: 110 :: 39 :: (44 :: (32 :: (qT val ++ [41])))))) = lexL (40 :: (39 :: 111 :: 119 :: 110 :: 39 :: (44 :: (32 :: (qT val ++ [41]))))) from lexL_blank (by decide)]
  rw [show lexL (40 :: (39 :: 111 :: 119 :: 110 :: 39 :: (44 :: (32 :: (qT val ++ [41]))))) = (lexL (39 :: 111 :: 119 :: 110 :: 39 :: (44 :: (32 :: (qT val ++ [41]))))).map (((6, [40]) : Tok) :: ·) from lex_one (n := 1) (by decide) (rem_ne (by decide) (by decide) (by decide)) (by kernel_rfl) rfl]
  rw [show lexL (39 :: 111 :: 119 :: 110 :: 39 :: (44 :: (32 :: (qT val ++ [41])))) = (lexL (44 :: (32 :: (qT val ++ [41])))).map (((3, ownL) : Tok) :: ·) from lex_one (n := 5) (by decide) (rem_ne (by decide) (by decide) (by decide)) (by kernel_rfl) rfl]
  rw [show lexL (44 :: (32 :: (qT val ++ [41]))) = (lexL (32 :: (qT val ++ [41]))).map (((6, [44]) : Tok) :: ·) from lex_one (n := 1) (by decide) (rem_ne (by decide) (by decide) (by decide)) (by kernel_rfl) rfl]
  rw [show lexL (32 :: (qT val ++ [41])) = lexL (qT val ++ [41]) from lexL_blank (by decide)]
  rw [show lexL (qT val ++ [41]) = (lexL [41]).map (((3 : Int), val) :: ·) from lex_qT (fun r' e => by cases e)]
  rw [show lexL [41] = (lexL []).map (((6, [41]) : Tok) :: ·) from lex_one (n := 1) (by decide) (rem_ne (by decide) (by decide) (by decide)) (by kernel_rfl) rfl]
  rw [lexL_none]
  rfl
theorem stW_le (val : BL) (h : val.length ≤ 20) : (stW val).length ≤ 200 := by
  have h1 := qT_le val
  unfold stW
  simp only [List.length_append, List.length_cons, List.length_nil]
  omega
theorem stW_lex (val : BL) (h : val.length ≤ 20) : lexR (stW val) = (toksW val, 0) := by
  have hle := stW_le val h
  have e : lexL (stW val) = some (toksW val) := by
    rw [← lexW val]
    unfold stW
    simp only [List.append_assoc, List.cons_append, List.nil_append, List.append_nil]
  unfold lexR
  rw [if_neg (by omega), e]
theorem stW_plan (val : BL) (h : val.length ≤ 20) : planL (stW val) = (3, ownL, val) := by
  unfold planL
  rw [stW_lex val h, if_pos rfl]
  have ht : textL (toksW val) = form3 := by
    have hw : trimW (wordsL (toksW val)) = toks3.map word1 := by kernel_rfl
    unfold textL
    rw [hw, form3_join]
  unfold ofL
  rw [ht]
  rw [if_neg (by decide), if_neg (by decide), if_pos rfl]
  rfl
theorem stW_class (val : BL) (h : val.length ≤ 20) : classL (stW val) = 2 := by
  unfold classL
  rw [stW_lex val h, if_pos rfl]
  kernel_rfl
def wB : BL := [98, 101, 103, 105, 110]
def wC : BL := [99, 111, 109, 109, 105, 116]
def wR : BL := [114, 111, 108, 108, 98, 97, 99, 107]
def wO : BL := [115, 101, 108, 101, 99, 116, 32, 118, 32, 102, 114, 111, 109, 32, 107, 118, 32, 119, 104, 101, 114, 101, 32, 107, 32, 61, 32, 39, 111, 119, 110, 39]
abbrev inT (ts : List BL) : ND := ⟨1, true, [], [(1, ts)]⟩
abbrev outT (lg : List Ent) : ND := ⟨1, true, lg, []⟩
theorem find1 (ts : List BL) : findO [((1 : Int), ts)] 1 = some 0 := rfl
theorem find2 (ts : List BL) : findO [((1 : Int), ts)] 2 = none := rfl
theorem w_begin : runN (outT []) 1 1 false wB = (inT [], ⟨0, 1, 0, []⟩) := by kernel_rfl
theorem w_write {s : BL} (h : classL s = 2) {ts : List BL} (hl : ts.length < 200) : runN (inT ts) 1 1 false s = (inT (ts ++ [s]), ⟨0, 1, 0, []⟩) := by
  unfold runN mayN doN
  rw [h]
  simp [find1, trx, show ¬ 200 ≤ ts.length by omega]
theorem w_other (ts : List BL) : runN (inT ts) 2 1 true wkS = (inT ts, ⟨0, 1, 0, []⟩) := by
  have hc : classL wkS = 1 := by decide +kernel
  have hw : waitsN (inT ts) 2 = [] := rfl
  have hr : readsL (planL wkS) [] = [] := by decide +kernel
  unfold runN mayN
  rw [hc, hw]
  simp [tabN, tabF, hr]
theorem w_own (ts : List BL) {val : BL} (h : val.length ≤ 20) : runN (inT (ts ++ [stW val])) 1 1 false wO = (inT (ts ++ [stW val]), ⟨0, 1, 0, [val]⟩) := by
  have hc : classL wO = 1 := by decide +kernel
  have hp : planL wO = (1, ownL, []) := by decide +kernel
  have hw : waitsN (inT (ts ++ [stW val])) 1 = ts ++ [stW val] := rfl
  have hn : tabN (inT (ts ++ [stW val])) = [] := rfl
  have hr : readsL (1, ownL, []) (tabF [] (ts ++ [stW val])) = [val] := by
    rw [tabF_append]
    show readsL (1, ownL, []) (writesL (planL (stW val)) (tabF [] ts)).1 = _
    rw [stW_plan val h, reads_get_one, (writes_p3 (p := (3, ownL, val)) rfl _).1, get_put (tabF_tab rfl), if_pos rfl]
  unfold runN mayN
  rw [hc, hw, hp, hn, hr]
  simp
theorem w_commit {ts : List BL} (hl : ts.length ≤ 200) : runN (inT ts) 1 1 false wC = (outT (ts.map fun t => (1, t)), ⟨0, 1, ts.length, []⟩) := by
  have hc : classL wC = 4 := by decide +kernel
  unfold runN mayN doN
  rw [hc]
  simp [find1, trx, layN, show ¬ 200 < ts.length by omega]
theorem w_rollback (ts : List BL) : runN (inT ts) 1 1 false wR = (outT [], ⟨0, 1, 0, []⟩) := by
  have hc : classL wR = 5 := by decide +kernel
  unfold runN mayN doN
  rw [hc]
  simp [find1]
theorem w_close (ts : List BL) : closeN (inT ts) 1 = (outT [], true) := rfl
theorem w_close0 (lg : List Ent) : closeN (outT lg) 1 = (outT lg, false) := rfl
theorem w_commit0 (lg : List Ent) : runN (outT lg) 1 1 false wC = (outT lg, ⟨7, 1, lg.length, []⟩) := by
  have hc : classL wC = 4 := by decide +kernel
  unfold runN mayN doN
  rw [hc]
  simp [findO]
/-- What is put together sign by sign. -/
theorem dbl_step {v : BL} {i : Nat} {c : UInt8} (h : v[i]? = some c) : dblL 39 (v.take (i + 1)) = dblL 39 (v.take i) ++ (if c = 39 then [39, 39] else [c]) := by
  rw [List.take_add_one, h]
  simp [dblL]
end Go.Proofs.YtighdkdomfpadaaGreatDoor
