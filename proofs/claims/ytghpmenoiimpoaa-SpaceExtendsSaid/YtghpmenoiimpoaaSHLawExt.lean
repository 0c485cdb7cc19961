import Derived.Test.YtghpmenoiimpoaaSHRefC
import Derived.Test.YtghpmenoiimpoaaSHLawAwake
import Derived.Test.YtghpmenoiimpoaaSPx34
namespace Go.Proofs.Ytghpmenoiimpoaa.P
open Go.RowKit Go.Proofs.YtghpmenoiimpoaaW.PrintWords Go.Proofs.YtghpmenoiimpoaaW.PrintLast Go.Proofs.YtghpmenoiimpoaaW.PrintMore
set_option linter.unusedVariables false
theorem extP_length (ext free : List S25) (n : Int) (h : ext.length ≤ 1000) : (extP ext free n).1.length ≤ 100000 := by
  have hj := joinP_length ext
  unfold extP
  split
  · simp
  · dsimp only
    unfold extFin
    split
    · simp; omega
    · split
      · simp
      · split
        · have h1 := joinP_length ((joinP ext).set ((joinP ext).length - 1) ⟨(lastR (joinP ext)).f0, (growGo (minusP free (joinP ext)) (lastR (joinP ext)).f0 (128 - ((lastR (joinP ext)).f0 + (lastR (joinP ext)).f1)).toNat (lastR (joinP ext)).f1 n).1⟩ ++ (allocP (minusP (minusP free (joinP ext)) ((joinP ext).set ((joinP ext).length - 1) ⟨(lastR (joinP ext)).f0, (growGo (minusP free (joinP ext)) (lastR (joinP ext)).f0 (128 - ((lastR (joinP ext)).f0 + (lastR (joinP ext)).f1)).toNat (lastR (joinP ext)).f1 n).1⟩)) (growGo (minusP free (joinP ext)) (lastR (joinP ext)).f0 (128 - ((lastR (joinP ext)).f0 + (lastR (joinP ext)).f1)).toNat (lastR (joinP ext)).f1 n).2 (16 - ((joinP ext).length : Int))).1)
          have h2 := allocP_length' (minusP (minusP free (joinP ext)) ((joinP ext).set ((joinP ext).length - 1) ⟨(lastR (joinP ext)).f0, (growGo (minusP free (joinP ext)) (lastR (joinP ext)).f0 (128 - ((lastR (joinP ext)).f0 + (lastR (joinP ext)).f1)).toNat (lastR (joinP ext)).f1 n).1⟩)) (growGo (minusP free (joinP ext)) (lastR (joinP ext)).f0 (128 - ((lastR (joinP ext)).f0 + (lastR (joinP ext)).f1)).toNat (lastR (joinP ext)).f1 n).2 (16 - ((joinP ext).length : Int))
          rw [List.length_append, List.length_set] at h1
          dsimp only
          omega
        · simp
theorem spaceExtends_some (l0 : List S25) (hr0 : InR l0) (l1 : List S25) (hr1 : InR l1) (a2 : Int) (h2 : InI a2) : ∃ k, dasdlaw06_SpaceExtends.f k l0 l1 a2 = some true := by
  have hgo : ∀ b : Bool, b = true ∨ (l0.length ≤ 30 ∧ l1.length ≤ 30) → dasdlaw06_SpaceExtends.j0 400000 l0 l1 a2 b = some true := by
    intro b hb
    rw [dasdlaw06_SpaceExtends.j0]
    by_cases h : b = true
    · rw [if_pos h, awake6_some _ (by decide)]
      rfl
    · obtain ⟨h0, h1⟩ := hb.resolve_left h
      rw [if_neg h]
      unfold space_Extend.f
      rw [if_pos (by omega), Option.bind_some, rext_some l0 l1 hr0 hr1 (by omega) (by omega) a2 h2 _ (by decide), Option.bind_some]
      dsimp only
      have hl := extP_length l0 l1 a2 (by omega)
      rw [if_pos rfl, rsame_some _ (by omega) _ (by omega)]
      rfl
  refine ⟨400000, ?_⟩
  unfold dasdlaw06_SpaceExtends.f
  rw [awake6_some _ (by decide), Option.bind_some, if_pos rfl]
  by_cases hl : (l0.length : Int) > 30
  · rw [if_pos hl]
    exact hgo true (.inl rfl)
  · rw [if_neg hl]
    refine hgo _ ?_
    by_cases hl1 : (l1.length : Int) > 30
    · exact .inl (decide_eq_true hl1)
    · exact .inr ⟨by omega, by omega⟩
end Go.Proofs.Ytghpmenoiimpoaa.P
