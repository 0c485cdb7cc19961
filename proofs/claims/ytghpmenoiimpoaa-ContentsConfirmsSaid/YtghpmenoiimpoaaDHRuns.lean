import Derived.Test.YtghpmenoiimpoaaDHExtA
namespace Go.Proofs.Ytghpmenoiimpoaa.P
open Go.RowKit Go.Proofs.YtghpmenoiimpoaaW.PrintWords Go.Proofs.YtghpmenoiimpoaaW.PrintLast Go.Proofs.YtghpmenoiimpoaaW.PrintMore
set_option linter.unusedVariables false
theorem S25_ext {a b : S25} (h0 : a.f0 = b.f0) (h1 : a.f1 = b.f1) : a = b := by cases a; cases b; simp_all
theorem incL_snoc (i : List S25) (x : S25) : incL (i ++ [x]) = i ++ [⟨x.f0, x.f1 + 1⟩] := by
  unfold incL
  have e : (i ++ [x]).length - 1 = i.length := by simp
  rw [e]
  have g : (i ++ [x]).getD i.length z25 = x := by simp [List.getD_eq_getElem?_getD]
  rw [g, List.set_append]
  simp
theorem runsN_last (p : Nat → Bool) (n : Nat) (h : p n = true) : ∃ i r, runsN p (n + 1) = i ++ [r] ∧ r.f0 + r.f1 = ((n + 1 : Nat) : Int) := by
  induction n with
  | zero => exact ⟨[], ⟨0, 1⟩, by simp [runsN, runStep, h], rfl⟩
  | succ n ih =>
    rw [runsN, runStep, if_pos h]
    by_cases h2 : p n = true
    · obtain ⟨i, r, e, he⟩ := ih h2
      rw [if_pos ⟨by omega, by simpa using h2⟩, e, incL_snoc]
      exact ⟨i, _, rfl, by dsimp only; omega⟩
    · rw [if_neg (by simp [h2])]
      exact ⟨_, _, rfl, by dsimp only; omega⟩
theorem runsN_gap (p : Nat → Bool) (n : Nat) (h : ¬ (0 < n ∧ p (n - 1) = true)) : ∀ r ∈ runsN p n, r.f0 + r.f1 < n := by
  cases n with
  | zero => simp [runsN]
  | succ n =>
    have h2 : ¬ p n = true := fun e => h ⟨by omega, by simpa using e⟩
    rw [runsN, runStep, if_neg h2]
    intro r hr
    have := runsN_bd p n r hr
    omega
theorem runsN_chain (p : Nat → Bool) : ∀ n, (runsN p n).Pairwise (fun r s => r.f0 + r.f1 < s.f0)
  | 0 => List.Pairwise.nil
  | n + 1 => by
    have ih := runsN_chain p n
    rw [runsN, runStep]
    split
    · split
      · rename_i h1 h2
        obtain ⟨m, rfl⟩ : ∃ m, n = m + 1 := ⟨n - 1, by omega⟩
        obtain ⟨i, r, e, _⟩ := runsN_last p m (by simpa using h2.2)
        rw [e] at ih ⊢
        rw [incL_snoc]
        rw [List.pairwise_append] at ih ⊢
        refine ⟨ih.1, List.pairwise_singleton _ _, fun a ha b hb => ?_⟩
        rw [List.mem_singleton.1 hb]
        exact ih.2.2 a ha r (List.mem_singleton.2 rfl)
      · rename_i h1 h2
        rw [List.pairwise_append]
        refine ⟨ih, List.pairwise_singleton _ _, fun a ha b hb => ?_⟩
        rw [List.mem_singleton.1 hb]
        exact runsN_gap p n h2 a ha
    · exact ih
theorem runsN_mem (p : Nat → Bool) (t : Nat) : ∀ n, (∃ r ∈ runsN p n, r.f0 ≤ t ∧ (t : Int) < r.f0 + r.f1) ↔ t < n ∧ p t = true
  | 0 => by simp [runsN]
  | n + 1 => by
    have ih := runsN_mem p t n
    rw [runsN, runStep]
    split
    · rename_i hp
      split
      · rename_i h2
        obtain ⟨m, rfl⟩ : ∃ m, n = m + 1 := ⟨n - 1, by omega⟩
        obtain ⟨i, r, e, he⟩ := runsN_last p m (by simpa using h2.2)
        have hb := runsN_bd p (m + 1) r (by rw [e]; simp)
        rw [e] at ih ⊢
        rw [incL_snoc]
        simp only [List.mem_append, List.mem_singleton] at ih ⊢
        constructor
        · rintro ⟨q, hq | rfl, h3, h4⟩
          · have := ih.1 ⟨q, .inl hq, h3, h4⟩
            exact ⟨by omega, this.2⟩
          · dsimp only at h3 h4
            by_cases ht : (t : Int) < r.f0 + r.f1
            · have := ih.1 ⟨r, .inr rfl, h3, ht⟩
              exact ⟨by omega, this.2⟩
            · have : t = m + 1 := by omega
              subst this
              exact ⟨by omega, hp⟩
        · rintro ⟨h3, h4⟩
          by_cases ht : t < m + 1
          · obtain ⟨q, hq | rfl, h5, h6⟩ := ih.2 ⟨ht, h4⟩
            · exact ⟨q, .inl hq, h5, h6⟩
            · exact ⟨_, .inr rfl, h5, by dsimp only; omega⟩
          · exact ⟨_, .inr rfl, by dsimp only; omega, by dsimp only; omega⟩
      · simp only [List.mem_append, List.mem_singleton]
        constructor
        · rintro ⟨q, hq | rfl, h3, h4⟩
          · have := ih.1 ⟨q, hq, h3, h4⟩
            exact ⟨by omega, this.2⟩
          · dsimp only at h3 h4
            have : t = n := by omega
            subst this
            exact ⟨by omega, hp⟩
        · rintro ⟨h3, h4⟩
          by_cases ht : t < n
          · obtain ⟨q, hq, h5, h6⟩ := ih.2 ⟨ht, h4⟩
            exact ⟨q, .inl hq, h5, h6⟩
          · exact ⟨_, .inr rfl, by dsimp only; omega, by dsimp only; omega⟩
    · rename_i hp
      rw [ih]
      constructor
      · rintro ⟨h1, h2⟩; exact ⟨by omega, h2⟩
      · rintro ⟨h1, h2⟩
        refine ⟨?_, h2⟩
        by_cases e : t = n
        · subst e; exact absurd h2 hp
        · omega
theorem runsN_congr {p q : Nat → Bool} : ∀ n, (∀ t, t < n → p t = q t) → runsN p n = runsN q n
  | 0, _ => rfl
  | n + 1, h => by
    rw [runsN, runsN, runsN_congr n (fun t ht => h t (by omega))]
    unfold runStep
    rw [h n (by omega)]
    by_cases h0 : 0 < n
    · rw [h (n - 1) (by omega)]
    · simp [h0]
theorem runsOf_congr {p q : Nat → Bool} (h : ∀ t, t < 128 → p t = q t) : runsOf p = runsOf q := runsN_congr 128 h
theorem runsOf_bd (p : Nat → Bool) : ∀ r ∈ runsOf p, 0 ≤ r.f0 ∧ 1 ≤ r.f1 ∧ r.f0 + r.f1 ≤ 128 := runsN_bd p 128
theorem runsOf_length (p : Nat → Bool) : (runsOf p).length ≤ 128 := runsN_length p 128
theorem runsOf_chain (p : Nat → Bool) : (runsOf p).Pairwise (fun r s => r.f0 + r.f1 < s.f0) := runsN_chain p 128
theorem runsOf_mem (p : Nat → Bool) (t : Nat) : (∃ r ∈ runsOf p, r.f0 ≤ t ∧ (t : Int) < r.f0 + r.f1) ↔ t < 128 ∧ p t = true := runsN_mem p t 128
/-- Of a run that exists wholly, the existing tracks are its own. -/
theorem cl_id (a b : Int) (h0 : 0 ≤ a) (h1 : 1 ≤ b) (h2 : a + b ≤ 128) : cl a b = (a, b) := by
  unfold cl mn mx wrap64
  rw [if_neg (by omega)]
  by_cases h3 : b < 128 - a
  · rw [if_pos (by right; omega), if_neg (by split <;> split <;> omega)]
    refine Prod.ext ?_ ?_ <;> dsimp only
    · split <;> omega
    · split <;> split <;> omega
  · rw [if_neg (by omega), if_neg (by split <;> omega)]
    refine Prod.ext ?_ ?_ <;> dsimp only
    · split <;> omega
    · split <;> omega
theorem hasT_iff (l : List S25) (t : Nat) : hasT l t = true ↔ ∃ r ∈ l, (cl r.f0 r.f1).1 ≤ t ∧ (t : Int) < (cl r.f0 r.f1).1 + (cl r.f0 r.f1).2 := by
  simp [hasT]
theorem hasT_runsOf (p : Nat → Bool) (t : Nat) (h : t < 128) : hasT (runsOf p) t = p t := by
  rw [Bool.eq_iff_iff, hasT_iff]
  have := runsOf_mem p t
  constructor
  · rintro ⟨r, hr, h1, h2⟩
    have hb := runsOf_bd p r hr
    rw [cl_id _ _ hb.1 hb.2.1 hb.2.2] at h1 h2
    exact (this.1 ⟨r, hr, h1, h2⟩).2
  · intro hp
    obtain ⟨r, hr, h1, h2⟩ := this.2 ⟨h, hp⟩
    have hb := runsOf_bd p r hr
    exact ⟨r, hr, by rw [cl_id _ _ hb.1 hb.2.1 hb.2.2]; exact ⟨h1, h2⟩⟩
end Go.Proofs.Ytghpmenoiimpoaa.P
