import Derived.Test.YtghpmenoiimpoaaKHJoin
import Derived.Test.YtghpmenoiimpoaaKHRow
import Derived.Test.YtghpmenoiimpoaaKPx3
import Derived.Test.YtghpmenoiimpoaaKHAllocate
import Derived.Test.YtghpmenoiimpoaaKPx5
namespace Go.Proofs.Ytghpmenoiimpoaa.P
open Go.RowKit Go.Proofs.YtghpmenoiimpoaaW.PrintWords Go.Proofs.YtghpmenoiimpoaaW.PrintLast Go.Proofs.YtghpmenoiimpoaaW.PrintMore
set_option linter.unusedVariables false
theorem rsame_l0 (xs : List S25) (hl : xs.length ≤ 9223372036854775806) : ∀ (d k i : Nat), i + d = xs.length → d < k → dasdref05_Same.l0 k xs xs (i : Int) = some true := by
  intro d
  induction d with
  | zero =>
    intro k i hi hk
    obtain ⟨k, rfl⟩ : ∃ m, k = m + 1 := ⟨k - 1, by omega⟩
    rw [dasdref05_Same.l0, if_neg (by omega)]
  | succ d ih =>
    intro k i hi hk
    obtain ⟨k, rfl⟩ : ∃ m, k = m + 1 := ⟨k - 1, by omega⟩
    have hw : wrap64 ((i : Int) + 1) = ((i + 1 : Nat) : Int) := by rw [w64 (by omega) (by omega)]; omega
    rw [dasdref05_Same.l0, if_pos (by omega), if_pos (by omega), if_pos (by omega), hw, if_neg (by simp)]
    exact ih k (i + 1) (by omega) (by omega)
theorem rsame_some (xs : List S25) (hl : xs.length ≤ 9223372036854775806) (k : Nat) (hk : xs.length < k) : dasdref05_Same.f k xs xs = some true := by
  unfold dasdref05_Same.f
  rw [if_pos rfl]
  exact rsame_l0 xs hl xs.length k 0 (by omega) hk
end Go.Proofs.Ytghpmenoiimpoaa.P
