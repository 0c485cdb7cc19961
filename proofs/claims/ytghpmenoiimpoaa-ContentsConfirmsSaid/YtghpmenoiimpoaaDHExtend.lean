import Derived.Test.YtghpmenoiimpoaaDHAllocate
import Derived.Test.YtghpmenoiimpoaaDHJoin
import Derived.Deep.RegionWith
import Derived.Outline
namespace Go.Proofs.Ytghpmenoiimpoaa.P
open Go.RowKit Go.Proofs.YtghpmenoiimpoaaW.PrintWords Go.Proofs.YtghpmenoiimpoaaW.PrintLast Go.Proofs.YtghpmenoiimpoaaW.PrintMore
set_option linter.unusedVariables false
set_option linter.unusedSimpArgs false
def space_Extend.B7 : List Nat := [0, 1, 3, 7, 7, 23, 55, 119, 7, 263, 775, 1799, 4087, 8191, 16383]
end Go.Proofs.Ytghpmenoiimpoaa.P
