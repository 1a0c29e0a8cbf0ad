/-
  No cell of these rows narrows 'for every input' (looked for: loops, veiled, ifaces, maps, wideKeys, modest, calm, conditions, laid).
  DERIVED. THE GIVEN ROWS OF THIS SEAT. 3 by the template 'for every input the law returns true; each argument reads behind the call as it read before'; 0 by the template 'total and deterministic' (their statements: YtmhoimnochigjaaTotals.lean).
  GIVEN WITH THE SEED: the statements are not yours to turn. If you find one false, say at which input.
  Laid BY PROGRAM, IN A SANDBOX (cutbox-rows.mjs): the forced cells as the released guide's own fill.sh prints them over the translation 8d7c542e5d14a963… (all of the seat's roots in one cut). By AI agents, Wed Nov 11 2026. No macro, syntax, notation, axiom, sorry.
-/
import Derived.Test.YtmhoimnochigjaaChecked
import GoSem.Claim
import GoSem.ClaimJoined
import GoSem.ClaimMapViews
import Derived.JoinedTies
import Derived.KernelRfl
namespace Go.Proofs.Ytmhoimnochigjaa
/- THE CELL 'sum', in the pinned program and in every row, IS THE sha256 OF THE DUMP (.gsa) THAT YtmhoimnochigjaaProg.lean LOADS. Nothing in Lean hashes anything: it is a label: what it is worth is what the hold of that sum in a sandbox is worth. -/
noncomputable def Try.pinned : Pinned := { name := "ytmhoimnochigjaa", sum := "8d7c542e5d14a9632df07eeb6978e029d262ec678934a8dcea5010975f899399", checked := Try.checked }
namespace Rows
def none {H : Type} : Left H := { results := [], args := [] }

/-- 'signalmanlaw17.SessionOrder': WHATEVER THE INPUT: true; the input reads as it did. -/
def sessionOrderSpec : ChangeSpec := { name := "sessionOrder", fn := fun _ => fun
  | [d] => { results := [.lit (.bool true)], args := [d] }
  | _ => none }
def sessionOrderRow : OpenClaim := { program := "ytmhoimnochigjaa", sum := "8d7c542e5d14a9632df07eeb6978e029d262ec678934a8dcea5010975f899399", func := "signalman/signalmanlaw17.SessionOrder", spec := "sessionOrder", unfollowed := true, recurses := true, apart := false }
def SessionOrderSaid : Prop := sessionOrderRow.holds Try.pinned (OpenSpec.ofChange sessionOrderSpec)

/-- ITS FALSE NEIGHBOUR: 'it returns false'. Refute it at one input. -/
def sessionOrderWrong : ChangeSpec := { name := "sessionOrder", fn := fun _ => fun
  | [d] => { results := [.lit (.bool false)], args := [d] }
  | _ => none }
def SessionOrderWrongFalsely : Prop := sessionOrderRow.holds Try.pinned (OpenSpec.ofChange sessionOrderWrong)

/-- 'signalmanlaw17.SessionLoses': WHATEVER THE INPUT: true; the input reads as it did. -/
def sessionLosesSpec : ChangeSpec := { name := "sessionLoses", fn := fun _ => fun
  | [d] => { results := [.lit (.bool true)], args := [d] }
  | _ => none }
def sessionLosesRow : OpenClaim := { program := "ytmhoimnochigjaa", sum := "8d7c542e5d14a9632df07eeb6978e029d262ec678934a8dcea5010975f899399", func := "signalman/signalmanlaw17.SessionLoses", spec := "sessionLoses", unfollowed := true, recurses := true, apart := false }
def SessionLosesSaid : Prop := sessionLosesRow.holds Try.pinned (OpenSpec.ofChange sessionLosesSpec)

/-- ITS FALSE NEIGHBOUR: 'it returns false'. Refute it at one input. -/
def sessionLosesWrong : ChangeSpec := { name := "sessionLoses", fn := fun _ => fun
  | [d] => { results := [.lit (.bool false)], args := [d] }
  | _ => none }
def SessionLosesWrongFalsely : Prop := sessionLosesRow.holds Try.pinned (OpenSpec.ofChange sessionLosesWrong)

/-- 'signalmanlaw17.SessionToken': WHATEVER THE INPUT: true; the input reads as it did. -/
def sessionTokenSpec : ChangeSpec := { name := "sessionToken", fn := fun _ => fun
  | [d] => { results := [.lit (.bool true)], args := [d] }
  | _ => none }
def sessionTokenRow : OpenClaim := { program := "ytmhoimnochigjaa", sum := "8d7c542e5d14a9632df07eeb6978e029d262ec678934a8dcea5010975f899399", func := "signalman/signalmanlaw17.SessionToken", spec := "sessionToken", unfollowed := true, recurses := true, apart := false }
def SessionTokenSaid : Prop := sessionTokenRow.holds Try.pinned (OpenSpec.ofChange sessionTokenSpec)

/-- ITS FALSE NEIGHBOUR: 'it returns false'. Refute it at one input. -/
def sessionTokenWrong : ChangeSpec := { name := "sessionToken", fn := fun _ => fun
  | [d] => { results := [.lit (.bool false)], args := [d] }
  | _ => none }
def SessionTokenWrongFalsely : Prop := sessionTokenRow.holds Try.pinned (OpenSpec.ofChange sessionTokenWrong)

/- THE SECOND FORM. 'bulk': how many values and letters a reading holds, each counted each time it is reached (what is shared counts as often as it is met; a slice's spare places count too). A statement '..UptoSaid' is the law's where the arguments, and the package variables that the reading takes, are together of bulk at most 1048576: NARROWER than '..Said'. Prove '..Said' where nothing that the law and all that it calls make is longer than what came in: it says more and counts as full. Else prove '..UptoSaid'. A law counts once. -/
mutual
def uptoBulk {H : Type} : DataW H → Nat
  | .lit (.string bytes) => bytes.length + 1
  | .lit _ => 1
  | .nil => 1
  | .ptr d => uptoBulk d + 1
  | .slice elems spare => uptoBulkAll elems + uptoBulkAll spare + 1
  | .agg parts => uptoBulkAll parts + 1
  | .iface _ d => uptoBulk d + 1
  | .map entries => uptoBulkEntries entries + 1
  | .held _ => 1
def uptoBulkAll {H : Type} : List (DataW H) → Nat
  | [] => 0
  | d :: r => uptoBulk d + uptoBulkAll r
def uptoBulkEntries {H : Type} : List (Lit × DataW H) → Nat
  | [] => 0
  | x :: r => uptoBulkEntry x + uptoBulkEntries r
def uptoBulkEntry {H : Type} : Lit × DataW H → Nat
  | (.string bytes, d) => bytes.length + uptoBulk d + 1
  | (_, d) => uptoBulk d + 1
 end
def uptoSmall : (H : Type) → List (DataW H) → Bool := fun _ ds => decide (uptoBulkAll ds ≤ 1048576)
def OpenSpec.upto (s : _root_.Go.ChangeSpec) : _root_.Go.OpenSpec := { _root_.Go.OpenSpec.ofChange s with cond := some uptoSmall }

/-- 'signalmanlaw17.SessionOrder', WHERE WHAT IT READS IS OF BULK AT MOST 1048576: true; the input reads as it did. -/
def sessionOrderUptoRow : OpenClaim := { program := "ytmhoimnochigjaa", sum := "8d7c542e5d14a9632df07eeb6978e029d262ec678934a8dcea5010975f899399", func := "signalman/signalmanlaw17.SessionOrder", spec := "sessionOrder", unfollowed := true, recurses := true, apart := false, narrowed := true }
def SessionOrderUptoSaid : Prop := sessionOrderUptoRow.holds Try.pinned (OpenSpec.upto sessionOrderSpec)

/-- 'signalmanlaw17.SessionLoses', WHERE WHAT IT READS IS OF BULK AT MOST 1048576: true; the input reads as it did. -/
def sessionLosesUptoRow : OpenClaim := { program := "ytmhoimnochigjaa", sum := "8d7c542e5d14a9632df07eeb6978e029d262ec678934a8dcea5010975f899399", func := "signalman/signalmanlaw17.SessionLoses", spec := "sessionLoses", unfollowed := true, recurses := true, apart := false, narrowed := true }
def SessionLosesUptoSaid : Prop := sessionLosesUptoRow.holds Try.pinned (OpenSpec.upto sessionLosesSpec)

/-- 'signalmanlaw17.SessionToken', WHERE WHAT IT READS IS OF BULK AT MOST 1048576: true; the input reads as it did. -/
def sessionTokenUptoRow : OpenClaim := { program := "ytmhoimnochigjaa", sum := "8d7c542e5d14a9632df07eeb6978e029d262ec678934a8dcea5010975f899399", func := "signalman/signalmanlaw17.SessionToken", spec := "sessionToken", unfollowed := true, recurses := true, apart := false, narrowed := true }
def SessionTokenUptoSaid : Prop := sessionTokenUptoRow.holds Try.pinned (OpenSpec.upto sessionTokenSpec)

end Rows
end Go.Proofs.Ytmhoimnochigjaa
