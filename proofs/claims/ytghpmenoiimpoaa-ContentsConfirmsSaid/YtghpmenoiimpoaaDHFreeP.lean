import Derived.Test.YtghpmenoiimpoaaDPx18
import Derived.Test.YtghpmenoiimpoaaDHCount
namespace Go.Proofs.Ytghpmenoiimpoaa.P
open Go.RowKit Go.Proofs.YtghpmenoiimpoaaW.PrintWords Go.Proofs.YtghpmenoiimpoaaW.PrintLast Go.Proofs.YtghpmenoiimpoaaW.PrintMore
set_option linter.unusedVariables false
def freeP (a b : Int) (used : List S25) : List S25 := runsOf fun t => (decide (a ≤ (t : Int)) && decide ((t : Int) < b)) && !hasT used t
theorem seg_hasT (f c : Int) (h0 : 0 ≤ f) (h1 : 1 ≤ c) (h2 : f + c ≤ 128) (t : Nat) : hasT [⟨f, c⟩] t = (decide (f ≤ (t : Int)) && decide ((t : Int) < f + c)) := by
  simp only [hasT, List.any_cons, List.any_nil, Bool.or_false]
  rw [cl_id f c h0 h1 h2]
theorem free_some (a b : Int) (used : List S25) : space_Free.f a b used = some (freeP a b used) := by
  unfold space_Free.f freeP
  have hmx : 0 ≤ mx 0 a ∧ a ≤ mx 0 a ∧ (mx 0 a = 0 ∨ mx 0 a = a) := by unfold mx; split <;> omega
  have hmn : mn 128 b ≤ 128 ∧ mn 128 b ≤ b ∧ (mn 128 b = 128 ∨ mn 128 b = b) := by unfold mn; split <;> omega
  by_cases h : mn 128 b ≤ mx 0 a
  · rw [if_pos h, runsOf_nil _ fun t ht => ?_]
    rw [← Bool.decide_and, decide_eq_false (by omega)]
    rfl
  · rw [if_neg h, w64 (by omega) (by omega)]
    unfold extent_Minus.f
    rw [Option.bind_some]
    refine congrArg some (runsOf_congr fun t ht => ?_)
    rw [seg_hasT _ _ hmx.1 (by omega) (by omega), ← Bool.decide_and, ← Bool.decide_and]
    congr 1
    exact decide_eq_decide.2 (by omega)
end Go.Proofs.Ytghpmenoiimpoaa.P
