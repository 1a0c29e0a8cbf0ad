/- Package lex, walked: Right, Write. -/
import Derived.Test.YtfcmajgnpnlkiaaGreatDoorProg
import Derived.Test.YtfcmajgnpnlkiaaGreatDoorLex
import Derived.Lib.ReplaceLaws
import Derived.Test.YtfcmajgnpnlkiaaGreatDoorSLB
import Derived.KernelRfl
set_option linter.unusedSimpArgs false
set_option linter.unusedVariables false
set_option maxRecDepth 100000
namespace Go.Proofs.YtfcmajgnpnlkiaaGreatDoor
open Go Go.Proofs.YtfcmajgnpnlkiaaGreatDoor.SL Go.RowKit
theorem tok_eq (a b : Tok) : (decide (a.1 = b.1) && decide (a.2 = b.2)) = decide (a = b) := by
  cases a; cases b; simp [Prod.ext_iff]
end Go.Proofs.YtfcmajgnpnlkiaaGreatDoor
