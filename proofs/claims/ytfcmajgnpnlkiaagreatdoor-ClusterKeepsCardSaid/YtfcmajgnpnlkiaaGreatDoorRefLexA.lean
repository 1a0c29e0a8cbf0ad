/- The reference of lexing, walked. -/
import Derived.Test.YtfcmajgnpnlkiaaGreatDoorProg
import Derived.Test.YtfcmajgnpnlkiaaGreatDoorLex2
import Derived.Test.YtfcmajgnpnlkiaaGreatDoorLexLen
import Derived.Test.YtfcmajgnpnlkiaaGreatDoorSLB
import Derived.KernelRfl
set_option linter.unusedSimpArgs false
set_option linter.unusedVariables false
set_option maxRecDepth 100000
namespace Go.Proofs.YtfcmajgnpnlkiaaGreatDoor
open Go Go.Proofs.YtfcmajgnpnlkiaaGreatDoor.SL Go.RowKit
open Go Go.Proofs.YtfcmajgnpnlkiaaGreatDoor.SL Go.RowKit
end Go.Proofs.YtfcmajgnpnlkiaaGreatDoor
