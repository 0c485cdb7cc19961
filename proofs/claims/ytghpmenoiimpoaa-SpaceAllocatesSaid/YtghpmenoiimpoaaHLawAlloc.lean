/- The chapter's example holds; SpaceAllocates. -/
import Derived.Test.YtghpmenoiimpoaaHRefB
import Derived.Test.YtghpmenoiimpoaaPx32
import Derived.Test.YtghpmenoiimpoaaPx33
namespace Go.Proofs.Ytghpmenoiimpoaa.P
open Go.RowKit Go.Proofs.YtghpmenoiimpoaaW.PrintWords Go.Proofs.YtghpmenoiimpoaaW.PrintLast Go.Proofs.YtghpmenoiimpoaaW.PrintMore
set_option linter.unusedVariables false
set_option maxRecDepth 100000 in
theorem awake6_some (k : Nat) (hk : 200 < k) : dasdlaw06_awake.f k = some true := by
  have e1 : bestP [⟨10, 4⟩, ⟨20, 2⟩, ⟨30, 3⟩] 3 = (30, 3, true) := by kernel_rfl
  have e2 : allocP [⟨10, 4⟩, ⟨20, 2⟩, ⟨30, 3⟩] 6 2 = ([⟨10, 4⟩, ⟨30, 2⟩], 0) := by kernel_rfl
  have e3 : allocP [⟨10, 4⟩, ⟨20, 2⟩, ⟨30, 3⟩] 6 1 = ([], 14) := by kernel_rfl
  have e4 : extP [⟨8, 2⟩] [⟨10, 4⟩, ⟨20, 2⟩, ⟨30, 3⟩] 5 = ([⟨8, 6⟩, ⟨20, 1⟩], 0) := by kernel_rfl
  unfold dasdlaw06_awake.f dasdlaw06_example.f space_Allocate.f space_Extend.f
  simp only [Option.bind_some, best_some _ _ k (by omega), e1, e2, e3, e4]
  rw [if_pos (show ([⟨8, 2⟩] : List S25).length < 100000 by decide)]
  simp only [Option.bind_some]
  rw [rsame_some _ (by decide) k (by simp; omega), rsame_some _ (by decide) k (by simp; omega)]
  rfl
theorem spaceAllocates_some (l0 : List S25) (hr : InR l0) (a1 a2 : Int) (h1 : InI a1) (h2 : InI a2) : ∃ k, dasdlaw06_SpaceAllocates.f k l0 a1 a2 = some true := by
  refine ⟨30000, ?_⟩
  unfold dasdlaw06_SpaceAllocates.f
  rw [awake6_some _ (by decide), Option.bind_some, if_pos rfl, dasdlaw06_SpaceAllocates.j0]
  by_cases hl : (l0.length : Int) > 30
  · rw [decide_eq_true hl, if_pos rfl, awake6_some _ (by decide)]
    rfl
  · have ha := allocP_length' l0 a1 a2
    rw [decide_eq_false hl, if_neg (by decide), best_some _ _ _ (by decide), Option.bind_some, rbest_some l0 hr 30 (by decide) (by omega) a1 _ (by decide), Option.bind_some]
    unfold space_Allocate.f
    rw [Option.bind_some, ralloc_some l0 hr 30 (by decide) (by omega) a1 a2 h1 _ (by decide), Option.bind_some]
    dsimp only
    rw [if_pos (by simp), if_pos (by simp), if_pos rfl, rsame_some _ (by omega) _ (by omega)]
    rfl
end Go.Proofs.Ytghpmenoiimpoaa.P
