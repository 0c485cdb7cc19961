import Derived.Test.YtghpmenoiimpoaaCHJoin
import Derived.Test.YtghpmenoiimpoaaCHRow
import Derived.Test.YtghpmenoiimpoaaCPx0
import Derived.Test.YtghpmenoiimpoaaCPx2
namespace Go.Proofs.Ytghpmenoiimpoaa.P
open Go.RowKit Go.Proofs.YtghpmenoiimpoaaW.PrintWords Go.Proofs.YtghpmenoiimpoaaW.PrintLast Go.Proofs.YtghpmenoiimpoaaW.PrintMore
set_option linter.unusedVariables false
theorem cl_spec (a b : Int) (ha : InI a) (hb : InI b) : ((cl a b).2 = 0 → (cl a b).1 = 0) ∧ ∀ t : Int, 0 ≤ t → t < 128 → (((cl a b).1 ≤ t ∧ t < (cl a b).1 + (cl a b).2) ↔ (a ≤ t ∧ t < a + b)) := by
  obtain ⟨ha1, ha2⟩ := ha
  obtain ⟨hb1, hb2⟩ := hb
  unfold cl mn mx wrap64
  repeat' split
  all_goals (refine ⟨?_, ?_⟩ <;> dsimp only <;> intros <;> omega)
theorem holds_some (a b t : Int) (ha : InI a) (hb : InI b) (h0 : 0 ≤ t) (h1 : t < 128) : dasdref05_holds.f a b t = some (decide ((cl a b).1 ≤ t) && decide (t < (cl a b).1 + (cl a b).2)) := by
  have hc := (cl_spec a b ha hb).2 t h0 h1
  rw [← Bool.decide_and, decide_eq_decide.2 hc]
  obtain ⟨ha1, ha2⟩ := ha
  obtain ⟨hb1, hb2⟩ := hb
  unfold dasdref05_holds.f
  by_cases c1 : a < 0
  · rw [if_pos c1]
    by_cases c2 : b ≥ 1
    · rw [if_pos c2, w64 (x := a + b) (by omega) (by omega)]
      exact congrArg some (decide_eq_decide.2 (by omega))
    · rw [if_neg c2, decide_eq_false (by omega)]
  · rw [if_neg c1]
    by_cases c2 : b ≥ 1
    · rw [if_pos c2]
      by_cases c3 : t ≥ a
      · rw [if_pos c3, w64 (x := t - a) (by omega) (by omega)]
        exact congrArg some (decide_eq_decide.2 (by omega))
      · rw [if_neg c3, decide_eq_false (by omega)]
    · rw [if_neg c2, decide_eq_false (by omega)]
theorem rclip_l0 (a b : Int) (ha : InI a) (hb : InI b) : ∀ (d k : Nat) (x f c : Int), x + d = 128 → 0 ≤ x → d < k →
    c = (if x ≤ (cl a b).1 then 0 else if x ≤ (cl a b).1 + (cl a b).2 then x - (cl a b).1 else (cl a b).2) → f = (if c = 0 then 0 else (cl a b).1) →
    dasdref05_clip.l0 k x a b f c = some ((cl a b).1, (cl a b).2) := by
  have hbd := cl_bd a b
  have hz := (cl_spec a b ha hb).1
  intro d
  induction d with
  | zero =>
    intro k x f c hx h0 hk hc hf
    obtain ⟨k, rfl⟩ : ∃ m, k = m + 1 := ⟨k - 1, by omega⟩
    simp only [dasdref05_clip.l0]
    rw [if_neg (by omega)]
    have hcc : c = (cl a b).2 := by rw [hc]; split <;> (try split) <;> omega
    have hff : f = (cl a b).1 := by
      rw [hf]
      split
      · rename_i h; rw [hz (by omega)]
      · rfl
    rw [hcc, hff]
  | succ d ih =>
    intro k x f c hx h0 hk hc hf
    obtain ⟨k, rfl⟩ : ∃ m, k = m + 1 := ⟨k - 1, by omega⟩
    simp only [dasdref05_clip.l0]
    rw [if_pos (by omega), holds_some a b x ha hb h0 (by omega), Option.bind_some, w64 (x := x + 1) (by omega) (by omega)]
    by_cases h : (cl a b).1 ≤ x ∧ x < (cl a b).1 + (cl a b).2
    · rw [← Bool.decide_and, decide_eq_true h, if_pos rfl]
      have hc2 : c = x - (cl a b).1 := by rw [hc]; split <;> (try split) <;> omega
      rw [w64 (x := c + 1) (by omega) (by omega)]
      by_cases hc0 : c = 0
      · rw [if_pos hc0]
        refine ih k _ _ _ (by omega) (by omega) (by omega) ?_ ?_
        · split <;> (try split) <;> omega
        · rw [if_neg (by omega)]; omega
      · rw [if_neg hc0]
        refine ih k _ _ _ (by omega) (by omega) (by omega) ?_ ?_
        · split <;> (try split) <;> omega
        · rw [if_neg (by omega), hf, if_neg hc0]
    · rw [← Bool.decide_and, decide_eq_false h, if_neg (by simp)]
      refine ih k _ _ _ (by omega) (by omega) (by omega) ?_ hf
      rw [hc]; split <;> (try split) <;> (try split) <;> (try split) <;> omega
theorem rclip_some (a b : Int) (ha : InI a) (hb : InI b) (k : Nat) (hk : 128 < k) : dasdref05_clip.f k a b = some ((cl a b).1, (cl a b).2) := by
  have hbd := cl_bd a b
  exact rclip_l0 a b ha hb 128 k 0 0 0 (by omega) (by omega) hk (by rw [if_pos (by omega)]) (by simp)
end Go.Proofs.Ytghpmenoiimpoaa.P
