import Derived.Test.YtghpmenoiimpoaaDPx14
import Derived.Test.YtghpmenoiimpoaaDHRuns
namespace Go.Proofs.Ytghpmenoiimpoaa.P
open Go.RowKit Go.Proofs.YtghpmenoiimpoaaW.PrintWords Go.Proofs.YtghpmenoiimpoaaW.PrintLast Go.Proofs.YtghpmenoiimpoaaW.PrintMore
set_option linter.unusedVariables false
theorem wrap_succ {i : Int} {n : Nat} (h0 : 0 ≤ i) (h : i < (n : Int)) (hn : n ≤ 9223372036854775807) : wrap64 (i + 1) = i + 1 := by unfold wrap64; omega
def bestGo (n : Int) : S25 → List S25 → S25
  | b, [] => b
  | b, r :: rs => bestGo n (if r.f1 ≥ n ∧ (b.f1 = 0 ∨ r.f1 < b.f1) then r else b) rs
def bestFin (n : Int) (b : S25) : Int × Int × Bool := if b.f1 = 0 then (0, 0, false) else (b.f0, n, true)
def bestP (l : List S25) (n : Int) : Int × Int × Bool :=
  if n < 1 then (0, 0, false) else bestFin n (bestGo n ⟨0, 0⟩ (runsOf (hasT l)))
theorem best_l0 (n : Int) (xs : List S25) (hl : xs.length ≤ 9223372036854775807) : ∀ (d k i : Nat) (a b : Int), i + d = xs.length → d < k →
    space_Best.l0 k n xs (xs.length : Int) (i : Int) a b = some (bestFin n (bestGo n ⟨a, b⟩ (xs.drop i))) := by
  intro d
  induction d with
  | zero =>
    intro k i a b hi hk
    obtain ⟨k, rfl⟩ : ∃ m, k = m + 1 := ⟨k - 1, by omega⟩
    rw [List.drop_eq_nil_of_le (by omega)]
    rw [show bestGo n ⟨a, b⟩ [] = ⟨a, b⟩ from rfl]
    unfold bestFin
    simp only [space_Best.l0]
    rw [if_neg (by omega)]
    by_cases hb : b = 0
    · rw [if_pos hb, if_pos hb]
    · rw [if_neg hb, if_neg hb]
  | succ d ih =>
    intro k i a b hi hk
    obtain ⟨k, rfl⟩ : ∃ m, k = m + 1 := ⟨k - 1, by omega⟩
    have hlt : i < xs.length := by omega
    have hrd : rd_T25 xs (i : Int) = xs[i] := by simp [rd_T25, List.getD_eq_getElem?_getD, hlt]
    have hw : wrap64 ((i : Int) + 1) = ((i + 1 : Nat) : Int) := by rw [wrap_succ (n := xs.length) (by omega) (by omega) hl]; omega
    rw [List.drop_eq_getElem_cons hlt]
    simp only [space_Best.l0, bestGo]
    rw [if_pos (by omega), if_pos (by omega), if_pos (by omega), hrd, hw]
    by_cases h1 : xs[i].f1 ≥ n
    · rw [if_pos h1]
      by_cases h2 : b = 0
      · rw [if_pos h2, ih k (i + 1) _ _ (by omega) (by omega), if_pos ⟨h1, .inl h2⟩]
      · rw [if_neg h2]
        by_cases h3 : xs[i].f1 < b
        · rw [if_pos h3, ih k (i + 1) _ _ (by omega) (by omega), if_pos ⟨h1, .inr h3⟩]
        · rw [if_neg h3, ih k (i + 1) _ _ (by omega) (by omega), if_neg (by simp [h2, h3])]
    · rw [if_neg h1, ih k (i + 1) _ _ (by omega) (by omega), if_neg (by simp [h1])]
theorem best_some (l : List S25) (n : Int) (k : Nat) (hk : 128 < k) : space_Best.f k l n = some ((bestP l n).1, (bestP l n).2.1, (bestP l n).2.2) := by
  unfold space_Best.f bestP
  by_cases h : n < 1
  · rw [if_pos h, if_pos h]
  · rw [if_neg h, if_neg h]
    unfold extent_Normal.f
    rw [Option.bind_some]
    have := best_l0 n (runsOf (hasT l)) (by have := runsOf_length (hasT l); omega) (runsOf (hasT l)).length k 0 0 0 (by omega) (by have := runsOf_length (hasT l); omega)
    rw [List.drop_zero] at this
    rw [show ((0 : Nat) : Int) = 0 from rfl] at this
    rw [this]
/-- The runs by decreasing Count, equal ones as they stood. -/
def sortFrom (l : List S25) : Nat → List S25
  | 0 => []
  | n + 1 => l.filter (fun r => r.f1 == ((n + 1 : Nat) : Int)) ++ sortFrom l n
def sortR (l : List S25) : List S25 := sortFrom l 128
end Go.Proofs.Ytghpmenoiimpoaa.P
