import Derived.Test.YtghpmenoiimpoaaRHJoin
import Derived.Test.YtghpmenoiimpoaaRPx17
namespace Go.Proofs.Ytghpmenoiimpoaa.P
open Go.RowKit Go.Proofs.YtghpmenoiimpoaaW.PrintWords Go.Proofs.YtghpmenoiimpoaaW.PrintLast Go.Proofs.YtghpmenoiimpoaaW.PrintMore
set_option linter.unusedVariables false
def sizeP : List S25 → Int
  | [] => 0
  | r :: l => (cl r.f0 r.f1).2 + sizeP l
theorem sizeP_le : ∀ l : List S25, sizeP l ≤ 128 * (l.length : Int)
  | [] => by simp [sizeP]
  | r :: l => by have := cl_bd r.f0 r.f1; have := sizeP_le l; simp only [sizeP, List.length_cons]; omega
theorem size_l0 (xs : List S25) (hl : xs.length ≤ 1000000000) : ∀ (d k i : Nat) (acc : Int), i + d = xs.length → d + 2 < k → 0 ≤ acc → acc ≤ 128 * (i : Int) →
    extent_Size.l0 k acc xs (xs.length : Int) (i : Int) = some (acc + sizeP (xs.drop i)) := by
  intro d
  induction d with
  | zero =>
    intro k i acc hi hk h0 h1
    obtain ⟨k, rfl⟩ : ∃ m, k = m + 1 := ⟨k - 1, by omega⟩
    rw [List.drop_eq_nil_of_le (by omega), extent_Size.l0, if_neg (by omega)]
    simp [sizeP]
  | succ d ih =>
    intro k i acc hi hk h0 h1
    obtain ⟨k, rfl⟩ : ∃ m, k = m + 1 := ⟨k - 1, by omega⟩
    have hlt : i < xs.length := by omega
    have hw : wrap64 ((i : Int) + 1) = ((i + 1 : Nat) : Int) := by rw [w64 (by omega) (by omega)]; omega
    have hb := cl_bd xs[i].f0 xs[i].f1
    rw [List.drop_eq_getElem_cons hlt, extent_Size.l0, if_pos (by omega), if_pos (by omega), if_pos (by omega), rd_at xs i hlt, clip_ge k _ _ (by omega), Option.bind_some, hw]
    dsimp only
    rw [w64 (x := acc + (cl xs[i].f0 xs[i].f1).2) (by omega) (by omega), ih k (i + 1) _ (by omega) (by omega) (by omega) (by omega)]
    simp only [sizeP]
    rw [Int.add_assoc]
theorem size_some (l : List S25) (hl : l.length ≤ 1000000000) (k : Nat) (hk : l.length + 2 < k) : extent_Size.f k l = some (sizeP l) := by
  unfold extent_Size.f
  have := size_l0 l hl l.length k 0 0 (by omega) hk (by omega) (by omega)
  rw [List.drop_zero, Int.zero_add] at this
  exact this
end Go.Proofs.Ytghpmenoiimpoaa.P
