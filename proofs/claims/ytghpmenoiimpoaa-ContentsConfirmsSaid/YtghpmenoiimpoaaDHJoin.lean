import Derived.Test.YtghpmenoiimpoaaDPx16
import Derived.Test.YtghpmenoiimpoaaDPx0
import Derived.Test.YtghpmenoiimpoaaDPx13
import Derived.Test.YtghpmenoiimpoaaDHBest
namespace Go.Proofs.Ytghpmenoiimpoaa.P
open Go.RowKit Go.Proofs.YtghpmenoiimpoaaW.PrintWords Go.Proofs.YtghpmenoiimpoaaW.PrintLast Go.Proofs.YtghpmenoiimpoaaW.PrintMore
set_option linter.unusedVariables false
theorem rd_at (xs : List S25) (i : Nat) (h : i < xs.length) : rd_T25 xs (i : Int) = xs[i] := by simp [rd_T25, List.getD_eq_getElem?_getD, h]
theorem w64 {x : Int} (h0 : -9223372036854775808 ≤ x) (h1 : x ≤ 9223372036854775807) : wrap64 x = x := by unfold wrap64; omega
theorem clip_ge (k : Nat) (a b : Int) (h : 2 ≤ k) : extent_clip.f k a b = some ((cl a b).1, (cl a b).2) := by
  obtain ⟨m, rfl⟩ : ∃ m, k = m + 2 := ⟨k - 2, by omega⟩
  exact clip_cl m a b
def lastR (l : List S25) : S25 := l.getD (l.length - 1) z25
def addL (acc : List S25) (c : Int) : List S25 := acc.set (acc.length - 1) ⟨(lastR acc).f0, (lastR acc).f1 + c⟩
def joinStep (acc : List S25) (r : S25) : List S25 :=
  if (cl r.f0 r.f1).2 = 0 then acc else if acc ≠ [] ∧ (lastR acc).f0 + (lastR acc).f1 = (cl r.f0 r.f1).1 then addL acc (cl r.f0 r.f1).2 else acc ++ [⟨(cl r.f0 r.f1).1, (cl r.f0 r.f1).2⟩]
def joinP (l : List S25) : List S25 := l.foldl joinStep []
/-- Runs of tracks that all exist. -/
def Ex (l : List S25) : Prop := ∀ r ∈ l, 0 ≤ r.f0 ∧ 1 ≤ r.f1 ∧ r.f0 + r.f1 ≤ 128
theorem lastR_mem (l : List S25) (h : l ≠ []) : lastR l ∈ l := by
  have hl : l.length - 1 < l.length := by have := List.length_pos_iff.2 h; omega
  rw [lastR, List.getD_eq_getElem?_getD, List.getElem?_eq_getElem hl]
  exact List.getElem_mem hl
theorem addL_length (acc : List S25) (c : Int) : (addL acc c).length = acc.length := by simp [addL]
theorem mem_addL {acc : List S25} {c : Int} {r : S25} (hne : acc ≠ []) (h : r ∈ addL acc c) : r ∈ acc ∨ r = ⟨(lastR acc).f0, (lastR acc).f1 + c⟩ := by
  rcases List.mem_or_eq_of_mem_set h with h | h
  · exact .inl h
  · exact .inr h
theorem joinStep_ex {acc : List S25} (h : Ex acc) (r : S25) : Ex (joinStep acc r) := by
  have hb := cl_bd r.f0 r.f1
  unfold joinStep
  split
  · exact h
  · split
    · rename_i h1 h2
      intro q hq
      have hm := h _ (lastR_mem acc h2.1)
      rcases mem_addL h2.1 hq with hq | rfl
      · exact h q hq
      · dsimp only; omega
    · intro q hq
      rcases List.mem_append.1 hq with hq | hq
      · exact h q hq
      · rw [List.mem_singleton.1 hq]; dsimp only; omega
theorem joinStep_length (acc : List S25) (r : S25) : (joinStep acc r).length ≤ acc.length + 1 := by
  unfold joinStep
  split
  · omega
  · split
    · rw [addL_length]; omega
    · simp
theorem foldl_length (l : List S25) : ∀ acc, (l.foldl joinStep acc).length ≤ acc.length + l.length := by
  induction l with
  | nil => intro acc; simp
  | cons r l ih =>
    intro acc
    have := ih (joinStep acc r)
    have := joinStep_length acc r
    simp only [List.foldl_cons, List.length_cons]
    omega
theorem joinP_length (l : List S25) : (joinP l).length ≤ l.length := by have := foldl_length l []; simpa [joinP] using this
theorem join_l0 (xs : List S25) (hl : xs.length < 8796093022208) : ∀ (d k i : Nat) (acc : List S25), i + d = xs.length → d + 2 < k → Ex acc → acc.length ≤ i →
    extent_Join.l0 k acc xs (xs.length : Int) (i : Int) = some ((xs.drop i).foldl joinStep acc) := by
  intro d
  induction d with
  | zero =>
    intro k i acc hi hk _ _
    obtain ⟨k, rfl⟩ : ∃ m, k = m + 1 := ⟨k - 1, by omega⟩
    rw [List.drop_eq_nil_of_le (by omega)]
    simp only [extent_Join.l0]
    rw [if_neg (by omega)]
    rfl
  | succ d ih =>
    intro k i acc hi hk hex hal
    obtain ⟨k, rfl⟩ : ∃ m, k = m + 1 := ⟨k - 1, by omega⟩
    have hlt : i < xs.length := by omega
    have hw : wrap64 ((i : Int) + 1) = ((i + 1 : Nat) : Int) := by rw [w64 (by omega) (by omega)]; omega
    have hb := cl_bd xs[i].f0 xs[i].f1
    rw [List.drop_eq_getElem_cons hlt, List.foldl_cons]
    have ih' := ih k (i + 1) (joinStep acc xs[i]) (by omega) (by omega) (joinStep_ex hex _) (by have := joinStep_length acc xs[i]; omega)
    rw [← ih']
    simp only [extent_Join.l0]
    rw [if_pos (by omega), if_pos (by omega), if_pos (by omega), rd_at xs i hlt, clip_ge k _ _ (by omega), Option.bind_some, hw]
    dsimp only
    by_cases h1 : (cl xs[i].f0 xs[i].f1).2 = 0
    · rw [if_pos h1, show joinStep acc xs[i] = acc from if_pos h1]
    · rw [if_neg h1]
      by_cases h2 : acc = []
      · subst h2
        have e : joinStep [] xs[i] = [] ++ [⟨(cl xs[i].f0 xs[i].f1).1, (cl xs[i].f0 xs[i].f1).2⟩] := by rw [joinStep, if_neg h1, if_neg (by simp)]
        rw [e]
        rw [show wrap64 ((([] : List S25).length : Int) - 1) = -1 from by simp [wrap64], if_neg (by omega), if_pos (by simp)]
      · have hp := List.length_pos_iff.2 h2
        have hw2 : wrap64 ((acc.length : Int) - 1) = ((acc.length - 1 : Nat) : Int) := by rw [w64 (by omega) (by omega)]; omega
        have hm := hex _ (lastR_mem acc h2)
        rw [hw2, if_pos (by omega), if_pos (by omega), if_pos (by omega), Int.toNat_natCast, show rd_T25 acc ((acc.length - 1 : Nat) : Int) = lastR acc from by simp [rd_T25, lastR]]
        rw [w64 (x := (lastR acc).f0 + (lastR acc).f1) (by omega) (by omega)]
        by_cases h3 : (lastR acc).f0 + (lastR acc).f1 = (cl xs[i].f0 xs[i].f1).1
        · rw [if_pos h3, show joinStep acc xs[i] = addL acc (cl xs[i].f0 xs[i].f1).2 from by rw [joinStep, if_neg h1, if_pos ⟨h2, h3⟩], w64 (by omega) (by omega)]
          rfl
        · rw [if_neg h3, show joinStep acc xs[i] = acc ++ [⟨(cl xs[i].f0 xs[i].f1).1, (cl xs[i].f0 xs[i].f1).2⟩] from by rw [joinStep, if_neg h1, if_neg (fun h => h3 h.2)], if_pos (by omega)]
theorem join_some (l : List S25) (hl : l.length < 8796093022208) (k : Nat) (hk : l.length + 2 < k) : extent_Join.f k l = some (joinP l) := by
  unfold extent_Join.f joinP
  have := join_l0 l hl l.length k 0 [] (by omega) (by omega) (fun r hr => by simp at hr) (by simp)
  rw [List.drop_zero] at this
  exact this
end Go.Proofs.Ytghpmenoiimpoaa.P
