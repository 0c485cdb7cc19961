import Derived.Test.YtghpmenoiimpoaaRHRefB
import Derived.Test.YtghpmenoiimpoaaRPx32
namespace Go.Proofs.Ytghpmenoiimpoaa.P
open Go.RowKit Go.Proofs.YtghpmenoiimpoaaW.PrintWords Go.Proofs.YtghpmenoiimpoaaW.PrintLast Go.Proofs.YtghpmenoiimpoaaW.PrintMore
set_option linter.unusedVariables false
set_option maxRecDepth 100000 in
theorem awake6_some (k : Nat) (hk : 200 < k) : dasdlaw06_awake.f k = some true := by
  have e1 : bestP [⟨10, 4⟩, ⟨20, 2⟩, ⟨30, 3⟩] 3 = (30, 3, true) := by kernel_rfl
  have e2 : allocP [⟨10, 4⟩, ⟨20, 2⟩, ⟨30, 3⟩] 6 2 = ([⟨10, 4⟩, ⟨30, 2⟩], 0) := by kernel_rfl
  have e3 : allocP [⟨10, 4⟩, ⟨20, 2⟩, ⟨30, 3⟩] 6 1 = ([], 14) := by kernel_rfl
  have e4 : extP [⟨8, 2⟩] [⟨10, 4⟩, ⟨20, 2⟩, ⟨30, 3⟩] 5 = ([⟨8, 6⟩, ⟨20, 1⟩], 0) := by kernel_rfl
  unfold dasdlaw06_awake.f dasdlaw06_example.f space_Allocate.f space_Extend.f
  simp only [Option.bind_some, best_some _ _ k (by omega), e1, e2, e3, e4]
  rw [if_pos (show ([⟨8, 2⟩] : List S25).length < 100000 by decide)]
  simp only [Option.bind_some]
  rw [rsame_some _ (by decide) k (by simp; omega), rsame_some _ (by decide) k (by simp; omega)]
  rfl
end Go.Proofs.Ytghpmenoiimpoaa.P
