import Derived.Test.YtghpmenoiimpoaaRHRefA
import Derived.Test.YtghpmenoiimpoaaRHAllocate
import Derived.Test.YtghpmenoiimpoaaRPx5
namespace Go.Proofs.Ytghpmenoiimpoaa.P
open Go.RowKit Go.Proofs.YtghpmenoiimpoaaW.PrintWords Go.Proofs.YtghpmenoiimpoaaW.PrintLast Go.Proofs.YtghpmenoiimpoaaW.PrintMore
set_option linter.unusedVariables false
theorem rbest_l0 (n : Int) (hn : 1 ≤ n) (xs : List S25) (hl : xs.length ≤ 9223372036854775806) : ∀ (d k i : Nat) (a b : Int), i + d = xs.length → 2 * d + 1 < k →
    dasdref06_Best.l0 k n xs (i : Int) a b = some (bestFin n (bestGo n ⟨a, b⟩ (xs.drop i))) := by
  intro d
  induction d with
  | zero =>
    intro k i a b hi hk
    obtain ⟨k, rfl⟩ : ∃ m, k = m + 2 := ⟨k - 2, by omega⟩
    rw [List.drop_eq_nil_of_le (by omega), show bestGo n ⟨a, b⟩ [] = ⟨a, b⟩ from rfl]
    unfold bestFin
    rw [dasdref06_Best.l0, if_neg (by omega), dasdref06_Best.j1, if_neg (by decide)]
    by_cases hb : b = 0
    · rw [if_pos hb, if_pos hb]
    · rw [if_neg hb, if_neg hb]
  | succ d ih =>
    intro k i a b hi hk
    obtain ⟨k, rfl⟩ : ∃ m, k = m + 2 := ⟨k - 2, by omega⟩
    have hlt : i < xs.length := by omega
    have hw : wrap64 ((i : Int) + 1) = ((i + 1 : Nat) : Int) := by rw [w64 (by omega) (by omega)]; omega
    rw [List.drop_eq_getElem_cons hlt, dasdref06_Best.l0, if_pos (by omega), decide_eq_true (by omega), dasdref06_Best.j1, if_pos rfl, if_pos (by omega), if_pos (by omega), rd_at xs i hlt, hw, bestGo]
    by_cases h1 : xs[i].f1 ≥ n
    · rw [if_pos h1]
      by_cases h2 : b = 0
      · rw [if_pos h2, ih k (i + 1) _ _ (by omega) (by omega), if_pos ⟨h1, .inl h2⟩]
      · rw [if_neg h2]
        by_cases h3 : xs[i].f1 < b
        · rw [if_pos h3, ih k (i + 1) _ _ (by omega) (by omega), if_pos ⟨h1, .inr h3⟩]
        · rw [if_neg h3, ih k (i + 1) _ _ (by omega) (by omega), if_neg (by simp [h2, h3])]
    · rw [if_neg h1, ih k (i + 1) _ _ (by omega) (by omega), if_neg (by simp [h1])]
theorem rbest_some (l : List S25) (hx : InR l) (m : Nat) (hm : m ≤ 1000000000) (hxl : l.length ≤ m) (n : Int) (k : Nat) (hk : m + 400 < k) :
    dasdref06_Best.f k l n = some (bestP l n) := by
  unfold dasdref06_Best.f bestP
  rw [rNormal_some l hx m hm hxl k hk, Option.bind_some]
  have hlen := runsOf_length (hasT l)
  by_cases h : n < 1
  · rw [if_pos h]
    obtain ⟨k, rfl⟩ : ∃ m, k = m + 2 := ⟨k - 2, by omega⟩
    rw [dasdref06_Best.l0]
    by_cases h0 : (0 : Int) < ((runsOf (hasT l)).length : Int)
    · rw [if_pos h0, decide_eq_false (by omega), dasdref06_Best.j1, if_neg (by decide), if_pos rfl]
    · rw [if_neg h0, dasdref06_Best.j1, if_neg (by decide), if_pos rfl]
  · rw [if_neg h]
    have := rbest_l0 n (by omega) (runsOf (hasT l)) (by omega) (runsOf (hasT l)).length k 0 0 0 (by omega) (by omega)
    rw [List.drop_zero] at this
    exact this
theorem rsame_l0 (xs : List S25) (hl : xs.length ≤ 9223372036854775806) : ∀ (d k i : Nat), i + d = xs.length → d < k → dasdref05_Same.l0 k xs xs (i : Int) = some true := by
  intro d
  induction d with
  | zero =>
    intro k i hi hk
    obtain ⟨k, rfl⟩ : ∃ m, k = m + 1 := ⟨k - 1, by omega⟩
    rw [dasdref05_Same.l0, if_neg (by omega)]
  | succ d ih =>
    intro k i hi hk
    obtain ⟨k, rfl⟩ : ∃ m, k = m + 1 := ⟨k - 1, by omega⟩
    have hw : wrap64 ((i : Int) + 1) = ((i + 1 : Nat) : Int) := by rw [w64 (by omega) (by omega)]; omega
    rw [dasdref05_Same.l0, if_pos (by omega), if_pos (by omega), if_pos (by omega), hw, if_neg (by simp)]
    exact ih k (i + 1) (by omega) (by omega)
theorem rsame_some (xs : List S25) (hl : xs.length ≤ 9223372036854775806) (k : Nat) (hk : xs.length < k) : dasdref05_Same.f k xs xs = some true := by
  unfold dasdref05_Same.f
  rw [if_pos rfl]
  exact rsame_l0 xs hl xs.length k 0 (by omega) hk
end Go.Proofs.Ytghpmenoiimpoaa.P
