import Derived.Test.YtghpmenoiimpoaaKHRefB
import Derived.Test.YtghpmenoiimpoaaKHExtend
import Derived.Test.YtghpmenoiimpoaaKPx8
namespace Go.Proofs.Ytghpmenoiimpoaa.P
open Go.RowKit Go.Proofs.YtghpmenoiimpoaaW.PrintWords Go.Proofs.YtghpmenoiimpoaaW.PrintLast Go.Proofs.YtghpmenoiimpoaaW.PrintMore
set_option linter.unusedVariables false
theorem hasT_append (a b : List S25) (t : Nat) : hasT (a ++ b) t = (hasT a t || hasT b t) := by simp [hasT, List.any_append]
theorem hasT_one (f c : Int) (h0 : 0 ≤ f) (h1 : 1 ≤ c) (h2 : f + c ≤ 128) (t : Nat) : hasT [⟨f, c⟩] t = (decide (f ≤ t) && decide ((t : Int) < f + c)) := by
  simp only [hasT, List.any_cons, List.any_nil, Bool.or_false]
  rw [cl_id f c h0 h1 h2]
theorem set_last (i : List S25) (x y : S25) : (i ++ [x]).set ((i ++ [x]).length - 1) y = i ++ [y] := by
  rw [show (i ++ [x]).length - 1 = i.length by simp, List.set_append]
  simp
theorem hasT_grown (l : List S25) (hne : l ≠ []) (hex : Ex l) (c : Int) (h1 : (lastR l).f1 ≤ c) (h2 : (lastR l).f0 + c ≤ 128) (t : Nat) :
    hasT (l.set (l.length - 1) ⟨(lastR l).f0, c⟩) t = (hasT l t || (decide ((lastR l).f0 + (lastR l).f1 ≤ t) && decide ((t : Int) < (lastR l).f0 + c))) := by
  obtain ⟨i, x, rfl⟩ := list_snoc l hne
  have hx := hex x (by simp)
  rw [lastR_snoc] at *
  rw [set_last, hasT_append, hasT_append, hasT_one x.f0 c (by omega) (by omega) (by omega)]
  have := hasT_one x.f0 x.f1 (by omega) (by omega) (by omega) t
  rw [show ([x] : List S25) = [⟨x.f0, x.f1⟩] from rfl, this, Bool.or_assoc]
  congr 1
  rw [← Bool.decide_and, ← Bool.decide_and, ← Bool.decide_and, ← Bool.decide_or]
  exact decide_eq_decide.2 (by omega)
section
variable (l fr : List S25) (hne : l ≠ []) (hex : Ex l) (hll : l.length ≤ 100000) (hfd : ∀ t, hasT fr t = true → hasT l t = false)
include hne hex hll hfd
end
end Go.Proofs.Ytghpmenoiimpoaa.P
