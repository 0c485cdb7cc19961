import Derived.Test.YtghpmenoiimpoaaKHCount
import Derived.Test.YtghpmenoiimpoaaKPx20
import Derived.Test.YtghpmenoiimpoaaKPx21
namespace Go.Proofs.Ytghpmenoiimpoaa.P
open Go.RowKit Go.Proofs.YtghpmenoiimpoaaW.PrintWords Go.Proofs.YtghpmenoiimpoaaW.PrintLast Go.Proofs.YtghpmenoiimpoaaW.PrintMore
set_option linter.unusedVariables false
def InI' (x : Int) : Prop := -9223372036854775808 ≤ x ∧ x ≤ 9223372036854775807
def cutN (n : Int) (r : S25) : Int := mn n (cl r.f0 r.f1).2
def cutK : Int → List S25 → List S25
  | _, [] => []
  | n, r :: l => ⟨(cl r.f0 r.f1).1, cutN n r⟩ :: cutK (n - cutN n r) l
def cutRest : Int → List S25 → List S25
  | _, [] => []
  | n, r :: l => ⟨(cl r.f0 r.f1).1 + cutN n r, (cl r.f0 r.f1).2 - cutN n r⟩ :: cutRest (n - cutN n r) l
theorem cutN_bd (n : Int) (r : S25) (h : 0 ≤ n) : 0 ≤ cutN n r ∧ cutN n r ≤ n ∧ cutN n r ≤ (cl r.f0 r.f1).2 ∧ (cutN n r = n ∨ cutN n r = (cl r.f0 r.f1).2) := by
  have := cl_bd r.f0 r.f1
  unfold cutN mn
  split <;> omega
theorem cutRest_length : ∀ (l : List S25) (n : Int), (cutRest n l).length = l.length
  | [], _ => rfl
  | r :: l, n => by simp only [cutRest, List.length_cons]; rw [cutRest_length l]
theorem cut_l0 (xs : List S25) (hl : xs.length ≤ 1000000) : ∀ (d k i : Nat) (n : Int) (us bs : List S25), i + d = xs.length → d + xs.length + 10 < k → 0 ≤ n → n ≤ 9223372036854775807 → us.length = i → bs.length = i →
    extent_Cut.l0 k n us bs xs (xs.length : Int) (i : Int) = some (joinP (us ++ cutK n (xs.drop i)), joinP (bs ++ cutRest n (xs.drop i))) := by
  intro d
  induction d with
  | zero =>
    intro k i n us bs hi hk h0 h1 ha hb
    obtain ⟨k, rfl⟩ : ∃ m, k = m + 1 := ⟨k - 1, by omega⟩
    rw [List.drop_eq_nil_of_le (by omega), extent_Cut.l0, if_neg (by omega), join_some us (by omega) k (by omega), Option.bind_some, join_some bs (by omega) k (by omega), Option.bind_some]
    simp only [cutK, cutRest, List.append_nil]
  | succ d ih =>
    intro k i n us bs hi hk h0 h1 ha hb
    obtain ⟨k, rfl⟩ : ∃ m, k = m + 1 := ⟨k - 1, by omega⟩
    have hlt : i < xs.length := by omega
    have hw : wrap64 ((i : Int) + 1) = ((i + 1 : Nat) : Int) := by rw [w64 (by omega) (by omega)]; omega
    have hc := cl_bd xs[i].f0 xs[i].f1
    have hn := cutN_bd n xs[i] h0
    rw [List.drop_eq_getElem_cons hlt, extent_Cut.l0, if_pos (by omega), if_pos (by omega), if_pos (by omega), rd_at xs i hlt, clip_ge k _ _ (by omega), Option.bind_some, Option.bind_some, hw]
    dsimp only
    rw [show mn n (cl xs[i].f0 xs[i].f1).2 = cutN n xs[i] from rfl, if_pos (by simp only [List.length_cons, List.length_nil]; omega), Option.bind_some, if_pos (by simp only [List.length_cons, List.length_nil]; omega), w64 (x := n - cutN n xs[i]) (by omega) (by omega), w64 (x := (cl xs[i].f0 xs[i].f1).1 + cutN n xs[i]) (by omega) (by omega), w64 (x := (cl xs[i].f0 xs[i].f1).2 - cutN n xs[i]) (by omega) (by omega)]
    rw [ih k (i + 1) _ _ _ (by omega) (by omega) (by omega) (by omega) (by simp; omega) (by simp; omega)]
    simp only [cutK, cutRest, List.append_assoc, List.singleton_append]
theorem cut_some (l : List S25) (hl : l.length ≤ 1000000) (n : Int) (hn : InI' n) (k : Nat) (hk : 2 * l.length + 10 < k) : extent_Cut.f k l n = some (joinP (cutK (mx 0 n) l), joinP (cutRest (mx 0 n) l)) := by
  have hm : 0 ≤ mx 0 n ∧ mx 0 n ≤ 9223372036854775807 := by unfold mx; unfold InI' at hn; split <;> omega
  unfold extent_Cut.f
  have := cut_l0 l hl l.length k 0 (mx 0 n) [] [] (by omega) (by omega) hm.1 hm.2 rfl rfl
  rw [List.drop_zero, List.nil_append, List.nil_append] at this
  exact this
def relP (l : List S25) (n : Int) : List S25 × List S25 × Int := if n < 1 ∨ n > sizeP l then ([], [], 2) else (joinP (cutK n l), runsOf (fun t => hasT (joinP (cutRest n l)) t && !hasT (joinP (cutK n l)) t), 0)
theorem release_some (l : List S25) (hl : l.length ≤ 1000000) (n : Int) (k : Nat) (hk : 2 * l.length + 20 < k) : space_Release.f k l n = some ((relP l n).1, (relP l n).2.1, (relP l n).2.2) := by
  obtain ⟨k, rfl⟩ : ∃ m, k = m + 1 := ⟨k - 1, by omega⟩
  have hs := sizeP_le l
  unfold space_Release.f relP
  by_cases h1 : n < 1
  · rw [if_pos h1, if_pos (.inl h1), space_Release.j0, if_pos rfl]
  · rw [if_neg h1, size_some l (by omega) _ (by omega), Option.bind_some, space_Release.j0]
    by_cases h2 : n > sizeP l
    · rw [decide_eq_true h2, if_pos rfl, if_pos (.inr h2)]
    · have hm : mx 0 n = n := by unfold mx; split <;> omega
      rw [decide_eq_false h2, if_neg (by decide), cut_some l hl n (by unfold InI'; omega) k (by omega), Option.bind_some, hm, if_neg (by omega)]
      rfl
end Go.Proofs.Ytghpmenoiimpoaa.P
