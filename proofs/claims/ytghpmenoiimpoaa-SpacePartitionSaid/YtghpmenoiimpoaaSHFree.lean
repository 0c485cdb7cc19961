import Derived.Test.YtghpmenoiimpoaaSHCount
import Derived.Test.YtghpmenoiimpoaaSHLawAwake
import Derived.Test.YtghpmenoiimpoaaSPx18
import Derived.Test.YtghpmenoiimpoaaSPx37
namespace Go.Proofs.Ytghpmenoiimpoaa.P
open Go.RowKit Go.Proofs.YtghpmenoiimpoaaW.PrintWords Go.Proofs.YtghpmenoiimpoaaW.PrintLast Go.Proofs.YtghpmenoiimpoaaW.PrintMore
set_option linter.unusedVariables false
def freeP (a b : Int) (used : List S25) : List S25 := runsOf fun t => (decide (a ≤ (t : Int)) && decide ((t : Int) < b)) && !hasT used t
theorem seg_hasT (f c : Int) (h0 : 0 ≤ f) (h1 : 1 ≤ c) (h2 : f + c ≤ 128) (t : Nat) : hasT [⟨f, c⟩] t = (decide (f ≤ (t : Int)) && decide ((t : Int) < f + c)) := by
  simp only [hasT, List.any_cons, List.any_nil, Bool.or_false]
  rw [cl_id f c h0 h1 h2]
theorem free_some (a b : Int) (used : List S25) : space_Free.f a b used = some (freeP a b used) := by
  unfold space_Free.f freeP
  have hmx : 0 ≤ mx 0 a ∧ a ≤ mx 0 a ∧ (mx 0 a = 0 ∨ mx 0 a = a) := by unfold mx; split <;> omega
  have hmn : mn 128 b ≤ 128 ∧ mn 128 b ≤ b ∧ (mn 128 b = 128 ∨ mn 128 b = b) := by unfold mn; split <;> omega
  by_cases h : mn 128 b ≤ mx 0 a
  · rw [if_pos h, runsOf_nil _ fun t ht => ?_]
    rw [← Bool.decide_and, decide_eq_false (by omega)]
    rfl
  · rw [if_neg h, w64 (by omega) (by omega)]
    unfold extent_Minus.f
    rw [Option.bind_some]
    refine congrArg some (runsOf_congr fun t ht => ?_)
    rw [seg_hasT _ _ hmx.1 (by omega) (by omega), ← Bool.decide_and, ← Bool.decide_and]
    congr 1
    exact decide_eq_decide.2 (by omega)
theorem equal_l0 (xs : List S25) (hl : xs.length ≤ 9223372036854775806) : ∀ (d k i : Nat), i + d = xs.length → d < k → api_Run_85.l0 k xs xs (xs.length : Int) (i : Int) = some true := by
  intro d
  induction d with
  | zero =>
    intro k i hi hk
    obtain ⟨k, rfl⟩ : ∃ m, k = m + 1 := ⟨k - 1, by omega⟩
    rw [api_Run_85.l0, if_neg (by omega)]
  | succ d ih =>
    intro k i hi hk
    obtain ⟨k, rfl⟩ : ∃ m, k = m + 1 := ⟨k - 1, by omega⟩
    have hw : wrap64 ((i : Int) + 1) = ((i + 1 : Nat) : Int) := by rw [w64 (by omega) (by omega)]; omega
    rw [api_Run_85.l0, if_pos (by omega), if_pos (by omega), if_pos (by omega), if_pos (by omega), hw, if_neg (by simp)]
    exact ih k (i + 1) (by omega) (by omega)
theorem equal_some (xs : List S25) (hl : xs.length ≤ 9223372036854775806) (k : Nat) (hk : xs.length < k) : api_Run_85.f k xs xs = some true := by
  unfold api_Run_85.f
  rw [if_pos rfl]
  exact equal_l0 xs hl xs.length k 0 (by omega) hk
theorem valid_runsOf (p : Nat → Bool) (k : Nat) (hk : 128 < k) : extent_Valid.f k (runsOf p) = some true := by
  have := runsOf_length p
  unfold extent_Valid.f extent_Normal.f
  rw [Option.bind_some, runsOf_again, equal_some _ (by omega) k (by omega)]
  rfl
theorem partition_l0 (a b : Int) (used : List S25) (hl : used.length ≤ 1000) : ∀ (d k i : Nat), i + d = 128 → d + 2000 < k → dasdlaw06_SpacePartition.l0 k a b used (freeP a b used) (i : Int) = some true := by
  intro d
  induction d with
  | zero =>
    intro k i hi hk
    obtain ⟨k, rfl⟩ : ∃ m, k = m + 1 := ⟨k - 1, by omega⟩
    rw [dasdlaw06_SpacePartition.l0, if_neg (by omega)]
  | succ d ih =>
    intro k i hi hk
    obtain ⟨k, rfl⟩ : ∃ m, k = m + 1 := ⟨k - 1, by omega⟩
    have hw : wrap64 ((i : Int) + 1) = ((i + 1 : Nat) : Int) := by rw [w64 (by omega) (by omega)]; omega
    have hfl : (freeP a b used).length ≤ 128 := runsOf_length _
    have ih' := ih k (i + 1) (by omega) (by omega)
    have hfr : hasI (freeP a b used) (i : Int) = ((decide (a ≤ (i : Int)) && decide ((i : Int) < b)) && !hasT used i) := by
      rw [hasI_nat]
      exact hasT_runsOf _ i (by omega)
    rw [dasdlaw06_SpacePartition.l0, if_pos (by omega), contains_some _ _ (by omega) k (by omega), Option.bind_some, hfr, hw]
    by_cases h1 : (i : Int) ≥ a
    · rw [if_pos h1]
      by_cases h2 : (i : Int) < b
      · rw [if_pos h2, contains_some _ _ (by omega) k (by omega), Option.bind_some, hasI_nat, decide_eq_true (show a ≤ (i : Int) from h1), decide_eq_true h2]
        rw [if_neg (by cases hasT used i <;> decide)]
        exact ih'
      · rw [if_neg h2, decide_eq_false h2, Bool.and_false, Bool.false_and, if_neg (by decide)]
        exact ih'
    · rw [if_neg h1, decide_eq_false (show ¬ a ≤ (i : Int) from h1), Bool.false_and, Bool.false_and, if_neg (by decide)]
      exact ih'
theorem spacePartition_some (a0 a1 : Int) (l2 : List S25) (hr : InR l2) (h0 : InI a0) (h1 : InI a1) : ∃ k, dasdlaw06_SpacePartition.f k a0 a1 l2 = some true := by
  refine ⟨5000, ?_⟩
  unfold dasdlaw06_SpacePartition.f
  rw [awake6_some _ (by decide), Option.bind_some, if_pos rfl, dasdlaw06_SpacePartition.j0]
  by_cases hl : (l2.length : Int) > 30
  · rw [decide_eq_true hl, if_pos rfl, awake6_some _ (by decide)]
    rfl
  · rw [decide_eq_false hl, if_neg (by decide), free_some, Option.bind_some]
    unfold freeP
    rw [valid_runsOf _ _ (by decide), Option.bind_some, if_pos rfl]
    exact partition_l0 a0 a1 l2 (by omega) 128 _ 0 rfl (by decide)
end Go.Proofs.Ytghpmenoiimpoaa.P
