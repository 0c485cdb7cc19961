import Derived.Test.YtghpmenoiimpoaaSHCount
import Derived.Test.YtghpmenoiimpoaaSHBest
import Derived.Test.YtghpmenoiimpoaaSHLawAwake
import Derived.Test.YtghpmenoiimpoaaSPx18
import Derived.Test.YtghpmenoiimpoaaSPx38
namespace Go.Proofs.Ytghpmenoiimpoaa.P
open Go.RowKit Go.Proofs.YtghpmenoiimpoaaW.PrintWords Go.Proofs.YtghpmenoiimpoaaW.PrintLast Go.Proofs.YtghpmenoiimpoaaW.PrintMore
set_option linter.unusedVariables false
theorem bestGo_of (n : Int) : ∀ (l : List S25) (b : S25), bestGo n b l = b ∨ (bestGo n b l ∈ l ∧ n ≤ (bestGo n b l).f1)
  | [], b => .inl rfl
  | r :: rs, b => by
    rw [bestGo]
    rcases bestGo_of n rs (if r.f1 ≥ n ∧ (b.f1 = 0 ∨ r.f1 < b.f1) then r else b) with h | h
    · rw [h]
      split
      · rename_i h2
        exact .inr ⟨by simp, h2.1⟩
      · exact .inl rfl
    · exact .inr ⟨List.mem_cons_of_mem _ h.1, h.2⟩
theorem bestP_ok (l : List S25) (n : Int) (h : (bestP l n).2.2 = true) : 1 ≤ n ∧ ∃ r ∈ runsOf (hasT l), n ≤ r.f1 ∧ bestP l n = (r.f0, n, true) := by
  unfold bestP at *
  by_cases h1 : n < 1
  · rw [if_pos h1] at h; exact absurd h (by decide)
  · rw [if_neg h1] at h ⊢
    unfold bestFin at *
    rcases bestGo_of n (runsOf (hasT l)) ⟨0, 0⟩ with hb | hb
    · rw [hb, if_pos rfl] at h; exact absurd h (by decide)
    · split at h
      · exact absurd h (by decide)
      · rename_i h2
        rw [if_neg h2]
        exact ⟨by omega, _, hb.1, hb.2, rfl⟩
theorem bestP_no (l : List S25) (n : Int) (h : ¬ (bestP l n).2.2 = true) : bestP l n = (0, 0, false) := by
  unfold bestP at *
  split
  · rfl
  · rename_i h1
    rw [if_neg h1] at h
    unfold bestFin at *
    split
    · rfl
    · rename_i h2
      rw [if_neg h2] at h
      exact absurd rfl h
theorem sumN_sub (f g : Nat → Int) : ∀ n, sumN (fun t => f t - g t) n = sumN f n - sumN g n
  | 0 => rfl
  | n + 1 => by simp only [sumN]; rw [sumN_sub f g n]; omega
def conP (ext free : List S25) : Int × Int × Bool := if ((joinP ext).length : Int) < 2 then (0, 0, false) else bestP (runsOf fun t => hasT free t && !hasT ext t) (sizeP ext)
theorem con_some (ext free : List S25) (he : ext.length ≤ 1000) (k : Nat) (hk : 10000 < k) : space_Consolidate.f k ext free = some ((conP ext free).1, (conP ext free).2.1, (conP ext free).2.2) := by
  unfold space_Consolidate.f conP
  rw [join_some ext (by omega) k (by omega), Option.bind_some]
  by_cases h : ((joinP ext).length : Int) < 2
  · rw [if_pos h, if_pos h]
  · unfold extent_Minus.f
    rw [if_neg h, if_neg h, Option.bind_some, size_some ext (by omega) k (by omega), Option.bind_some, best_some _ _ k (by omega), Option.bind_some]
theorem single_pure (ext free : List S25) (he : ext.length ≤ 30) (hf : free.length ≤ 30) (k : Nat) (hk : 20000 < k) : dasdlaw06_SpaceSingle.j0 k ext free false = some true := by
  obtain ⟨k, rfl⟩ : ∃ m, k = m + 1 := ⟨k - 1, by omega⟩
  rw [dasdlaw06_SpaceSingle.j0, if_neg (by decide), con_some ext free (by omega) k (by omega), Option.bind_some]
  dsimp only
  by_cases hok : (conP ext free).2.2 = true
  · rw [if_pos hok]
    have hj : ¬ ((joinP ext).length : Int) < 2 := fun h => by unfold conP at hok; rw [if_pos h] at hok; exact absurd hok (by decide)
    have hc : conP ext free = bestP (runsOf fun t => hasT free t && !hasT ext t) (sizeP ext) := by unfold conP; rw [if_neg hj]
    rw [hc] at hok ⊢
    obtain ⟨hn, r, hr, hrl, e⟩ := bestP_ok _ _ hok
    rw [runsOf_again] at hr
    have hb := runsOf_bd _ r hr
    have hin : ∀ t, t < 128 → hasT [⟨r.f0, sizeP ext⟩] t = true → hasT free t = true ∧ hasT ext t = false := by
      intro t ht h
      rw [hasT_iff] at h
      obtain ⟨q, hq, h1, h2⟩ := h
      obtain rfl := List.mem_singleton.1 hq
      rw [cl_id _ _ hb.1 hn (by omega)] at h1 h2
      dsimp only at h1 h2
      have h3 := ((runsOf_mem _ t).1 ⟨r, hr, h1, by omega⟩).2
      cases e1 : hasT free t <;> cases e2 : hasT ext t <;> rw [e1, e2] at h3 <;> simp at h3 ⊢
    have hm : (runsOf fun t => hasT [⟨r.f0, sizeP ext⟩] t && !hasT free t) = [] := runsOf_nil _ fun t ht => by
      cases e1 : hasT [⟨r.f0, sizeP ext⟩] t with
      | false => rfl
      | true => rw [(hin t ht e1).1]; rfl
    have hcm : (runsOf fun t => hasT [⟨r.f0, sizeP ext⟩] t && hasT ext t) = [] := runsOf_nil _ fun t ht => by
      cases e1 : hasT [⟨r.f0, sizeP ext⟩] t with
      | false => rfl
      | true => rw [(hin t ht e1).2]; rfl
    rw [e]
    unfold extent_Minus.f extent_Common.f
    dsimp only
    rw [size_some ext (by omega) k (by omega), Option.bind_some, if_pos rfl, Option.bind_some, hm, if_neg (by simp), Option.bind_some, hcm, if_neg (by simp), join_some ext (by omega) k (by omega), Option.bind_some, decide_eq_false hj]
    obtain ⟨k, rfl⟩ : ∃ m, k = m + 1 := ⟨k - 1, by omega⟩
    rw [dasdlaw06_SpaceSingle.j1, if_neg (by decide), disjoint_some ext (by omega) k (by omega), Option.bind_some]
    by_cases hd : (sizeP ext == cardT (hasT ext)) = true
    · unfold extent_Union.f extent_Minus.f
      have hl1 := runsOf_length (fun t => hasT free t || hasT ext t)
      have hl2 := runsOf_length (fun t => hasT (runsOf fun t => hasT free t || hasT ext t) t && !hasT [⟨r.f0, sizeP ext⟩] t)
      have hz := cl_id r.f0 (sizeP ext) hb.1 hn (by omega)
      have hsub : cardT (fun t => hasT (runsOf fun t => hasT free t || hasT ext t) t && !hasT [⟨r.f0, sizeP ext⟩] t) = cardT (fun t => hasT free t || hasT ext t) - sizeP ext := by
        have h1 : sizeP ext = sumN (cntR ⟨r.f0, sizeP ext⟩) 128 := by rw [sum_cnt]; dsimp only; rw [hz]
        unfold cardT
        conv => rhs; rw [h1]
        rw [← sumN_sub]
        refine sumN_congr 128 fun t ht => ?_
        simp only [hasT_runsOf _ t ht]
        have h2 := cntR_bd ⟨r.f0, sizeP ext⟩ t
        have h3 := hasT_mult [⟨r.f0, sizeP ext⟩] t
        simp only [mult, Int.add_zero] at h3
        cases e1 : hasT [⟨r.f0, sizeP ext⟩] t with
        | true =>
          rw [e1] at h3
          have h4 := of_decide_eq_true h3.symm
          simp only [(hin t ht e1).1, Bool.true_or, Bool.not_true, Bool.and_false]
          simp
          omega
        | false =>
          rw [e1] at h3
          have h4 := of_decide_eq_false h3.symm
          have h5 : cntR ⟨r.f0, sizeP ext⟩ t = 0 := by omega
          rw [h5]
          simp
      have hcu : 0 ≤ cardT (fun t => hasT free t || hasT ext t) ∧ cardT (fun t => hasT free t || hasT ext t) ≤ 1000000 := by
        rw [← size_runsOf]
        have := sizeP_nonneg (runsOf fun t => hasT free t || hasT ext t)
        have := sizeP_le (runsOf fun t => hasT free t || hasT ext t)
        omega
      rw [if_pos hd, Option.bind_some, Option.bind_some, size_some _ (by omega) k (by omega), Option.bind_some, Option.bind_some, size_some _ (by omega) k (by omega), Option.bind_some, size_runsOf, size_runsOf, hsub, w64 (by omega) (by omega)]
      simp
    · rw [if_neg hd]
  · have h0 : conP ext free = (0, 0, false) := by
      unfold conP at hok ⊢
      split
      · rfl
      · rename_i h1
        rw [if_neg h1] at hok
        exact bestP_no _ _ hok
    rw [if_neg hok, h0]
    rfl
theorem spaceSingle_some (l0 : List S25) (hr0 : InR l0) (l1 : List S25) (hr1 : InR l1) : ∃ k, dasdlaw06_SpaceSingle.f k l0 l1 = some true := by
  have hgo : ∀ b : Bool, b = true ∨ (l0.length ≤ 30 ∧ l1.length ≤ 30) → dasdlaw06_SpaceSingle.j0 30000 l0 l1 b = some true := by
    intro b hb
    by_cases h : b = true
    · rw [dasdlaw06_SpaceSingle.j0, if_pos h, awake6_some _ (by decide)]
      rfl
    · obtain ⟨h0, h1⟩ := hb.resolve_left h
      rw [Bool.eq_false_iff.2 h]
      exact single_pure l0 l1 h0 h1 _ (by decide)
  refine ⟨30000, ?_⟩
  unfold dasdlaw06_SpaceSingle.f
  rw [awake6_some _ (by decide), Option.bind_some, if_pos rfl]
  by_cases hl : (l0.length : Int) > 30
  · rw [if_pos hl]
    exact hgo true (.inl rfl)
  · rw [if_neg hl]
    refine hgo _ ?_
    by_cases hl1 : (l1.length : Int) > 30
    · exact .inl (decide_eq_true hl1)
    · exact .inr ⟨by omega, by omega⟩
end Go.Proofs.Ytghpmenoiimpoaa.P
