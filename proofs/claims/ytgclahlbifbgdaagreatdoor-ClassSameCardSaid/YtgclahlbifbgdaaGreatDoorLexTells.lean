/- The statement LexTells, walked. -/
import Derived.Test.YtgclahlbifbgdaaGreatDoorProg
import Derived.Test.YtgclahlbifbgdaaGreatDoorRefLex4
import Derived.Test.YtgclahlbifbgdaaGreatDoorLexLen
import Derived.Test.YtgclahlbifbgdaaGreatDoorSLStr
import Derived.KernelRfl
import Derived.KernelRfl
set_option linter.unusedSimpArgs false
set_option linter.unusedVariables false
set_option maxRecDepth 100000
namespace Go.Proofs.YtgclahlbifbgdaaGreatDoor
open Go Go.Proofs.YtgclahlbifbgdaaGreatDoor.SL Go.RowKit
def inA : BL := [115, 101, 108, 101, 99, 116, 32, 39, 97, 39, 39, 98, 39, 45, 45, 120]
def inB : BL := [39]
def inC : BL := [47, 42, 43, 32, 112, 114, 105, 109, 97, 114, 121, 32, 42, 47, 32, 55]
def outA : List Tok := [(1, [83, 69, 76, 69, 67, 84]), (3, [97, 39, 98])]
def outC : List Tok := [(5, [112, 114, 105, 109, 97, 114, 121]), (4, [55])]
def wroteA : BL := [83, 69, 76, 69, 67, 84, 32, 39, 97, 39, 39, 98, 39]
theorem lexA : lexR inA = (outA, 0) := by decide +kernel
theorem lexB : (lexR inB) = ([], 2) := by decide +kernel
theorem lexC : lexR inC = (outC, 0) := by decide +kernel
theorem rightD : rightL (6, [45]) = true := by decide +kernel
theorem writeA : writeL outA = wroteA := by decide +kernel
end Go.Proofs.YtgclahlbifbgdaaGreatDoor
