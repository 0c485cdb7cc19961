import Derived.Test.YtghpmenoiimpoaaDHCount
import Derived.Test.YtghpmenoiimpoaaDPx0
import Derived.Test.YtghpmenoiimpoaaDPx13
import Derived.Test.YtghpmenoiimpoaaDPx16
import Derived.Test.YtghpmenoiimpoaaDPx17
import Derived.Test.YtghpmenoiimpoaaDHExtent
import Derived.Test.YtghpmenoiimpoaaDHJoin
import Derived.Test.YtghpmenoiimpoaaDHRow
import Derived.Test.YtghpmenoiimpoaaDPx2
import Derived.Test.YtghpmenoiimpoaaDPx11
import Derived.Test.YtghpmenoiimpoaaDHRow2
import Derived.Test.YtghpmenoiimpoaaDPx9
import Derived.Test.YtghpmenoiimpoaaDPx22
import Derived.Test.YtghpmenoiimpoaaDHAwake8
namespace Go.Proofs.Ytghpmenoiimpoaa.P
open Go.RowKit Go.Proofs.YtghpmenoiimpoaaW.PrintWords Go.Proofs.YtghpmenoiimpoaaW.PrintLast Go.Proofs.YtghpmenoiimpoaaW.PrintMore
set_option linter.unusedVariables false
theorem few_some (f0 f1 : Int) (f2 f3 : ByteArray) (l : List S25) : dasdref07_Few.f f0 f1 f2 f3 l = some (decide (f2.size ≤ 100) && (decide (f3.size ≤ 500) && decide (l.length ≤ 30))) := by
  unfold dasdref07_Few.f
  by_cases h2 : f2.size ≤ 100
  · rw [if_pos (by omega), decide_eq_true h2, Bool.true_and]
    by_cases h3 : f3.size ≤ 500
    · rw [if_pos (by omega), decide_eq_true h3, Bool.true_and]
      congr 1
      exact decide_eq_decide.2 (by omega)
    · rw [if_neg (by omega), decide_eq_false h3]; rfl
  · rw [if_neg (by omega), decide_eq_false h2]; rfl
end Go.Proofs.Ytghpmenoiimpoaa.P
