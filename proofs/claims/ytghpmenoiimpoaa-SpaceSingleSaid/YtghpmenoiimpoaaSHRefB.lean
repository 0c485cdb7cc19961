import Derived.Test.YtghpmenoiimpoaaSHRefA
import Derived.Test.YtghpmenoiimpoaaSHAllocate
import Derived.Test.YtghpmenoiimpoaaSPx5
namespace Go.Proofs.Ytghpmenoiimpoaa.P
open Go.RowKit Go.Proofs.YtghpmenoiimpoaaW.PrintWords Go.Proofs.YtghpmenoiimpoaaW.PrintLast Go.Proofs.YtghpmenoiimpoaaW.PrintMore
set_option linter.unusedVariables false
theorem rbest_l0 (n : Int) (hn : 1 ≤ n) (xs : List S25) (hl : xs.length ≤ 9223372036854775806) : ∀ (d k i : Nat) (a b : Int), i + d = xs.length → 2 * d + 1 < k →
    dasdref06_Best.l0 k n xs (i : Int) a b = some (bestFin n (bestGo n ⟨a, b⟩ (xs.drop i))) := by
  intro d
  induction d with
  | zero =>
    intro k i a b hi hk
    obtain ⟨k, rfl⟩ : ∃ m, k = m + 2 := ⟨k - 2, by omega⟩
    rw [List.drop_eq_nil_of_le (by omega), show bestGo n ⟨a, b⟩ [] = ⟨a, b⟩ from rfl]
    unfold bestFin
    rw [dasdref06_Best.l0, if_neg (by omega), dasdref06_Best.j1, if_neg (by decide)]
    by_cases hb : b = 0
    · rw [if_pos hb, if_pos hb]
    · rw [if_neg hb, if_neg hb]
  | succ d ih =>
    intro k i a b hi hk
    obtain ⟨k, rfl⟩ : ∃ m, k = m + 2 := ⟨k - 2, by omega⟩
    have hlt : i < xs.length := by omega
    have hw : wrap64 ((i : Int) + 1) = ((i + 1 : Nat) : Int) := by rw [w64 (by omega) (by omega)]; omega
    rw [List.drop_eq_getElem_cons hlt, dasdref06_Best.l0, if_pos (by omega), decide_eq_true (by omega), dasdref06_Best.j1, if_pos rfl, if_pos (by omega), if_pos (by omega), rd_at xs i hlt, hw, bestGo]
    by_cases h1 : xs[i].f1 ≥ n
    · rw [if_pos h1]
      by_cases h2 : b = 0
      · rw [if_pos h2, ih k (i + 1) _ _ (by omega) (by omega), if_pos ⟨h1, .inl h2⟩]
      · rw [if_neg h2]
        by_cases h3 : xs[i].f1 < b
        · rw [if_pos h3, ih k (i + 1) _ _ (by omega) (by omega), if_pos ⟨h1, .inr h3⟩]
        · rw [if_neg h3, ih k (i + 1) _ _ (by omega) (by omega), if_neg (by simp [h2, h3])]
    · rw [if_neg h1, ih k (i + 1) _ _ (by omega) (by omega), if_neg (by simp [h1])]
theorem rbest_some (l : List S25) (hx : InR l) (m : Nat) (hm : m ≤ 1000000000) (hxl : l.length ≤ m) (n : Int) (k : Nat) (hk : m + 400 < k) :
    dasdref06_Best.f k l n = some (bestP l n) := by
  unfold dasdref06_Best.f bestP
  rw [rNormal_some l hx m hm hxl k hk, Option.bind_some]
  have hlen := runsOf_length (hasT l)
  by_cases h : n < 1
  · rw [if_pos h]
    obtain ⟨k, rfl⟩ : ∃ m, k = m + 2 := ⟨k - 2, by omega⟩
    rw [dasdref06_Best.l0]
    by_cases h0 : (0 : Int) < ((runsOf (hasT l)).length : Int)
    · rw [if_pos h0, decide_eq_false (by omega), dasdref06_Best.j1, if_neg (by decide), if_pos rfl]
    · rw [if_neg h0, dasdref06_Best.j1, if_neg (by decide), if_pos rfl]
  · rw [if_neg h]
    have := rbest_l0 n (by omega) (runsOf (hasT l)) (by omega) (runsOf (hasT l)).length k 0 0 0 (by omega) (by omega)
    rw [List.drop_zero] at this
    exact this
theorem rsorted_l1 (xs : List S25) (hl : xs.length ≤ 1000) (n : Int) : ∀ (d k i : Nat) (acc : List S25), i + d = xs.length → acc.length + d ≤ 1000000 →
    dasdref06_sorted.l1 (k + d + 1) xs acc n (i : Int) = dasdref06_sorted.l0 k xs (acc ++ (xs.drop i).filter (fun r => r.f1 == n)) (wrap64 (n - 1)) := by
  intro d
  induction d with
  | zero =>
    intro k i acc hi ha
    rw [List.drop_eq_nil_of_le (by omega), List.filter_nil, List.append_nil, dasdref06_sorted.l1, if_neg (by omega)]
  | succ d ih =>
    intro k i acc hi ha
    have hlt : i < xs.length := by omega
    have hw : wrap64 ((i : Int) + 1) = ((i + 1 : Nat) : Int) := by rw [w64 (by omega) (by omega)]; omega
    rw [show k + (d + 1) + 1 = (k + d + 1) + 1 by omega, dasdref06_sorted.l1, if_pos (by omega), if_pos (by omega), rd_at xs i hlt, hw, List.drop_eq_getElem_cons hlt, List.filter_cons]
    by_cases h : xs[i].f1 = n
    · rw [if_pos h, if_pos (by omega), ih k (i + 1) _ (by omega) (by simp; omega), if_pos (beq_iff_eq.2 h), List.append_assoc]
      rfl
    · rw [if_neg h, ih k (i + 1) _ (by omega) (by omega), if_neg (by rwa [beq_iff_eq])]
theorem rsorted_l0 (xs : List S25) (hl : xs.length ≤ 128) : ∀ (n k : Nat) (acc : List S25), n ≤ 128 → n * 130 < k → acc.length + n * 128 ≤ 100000 →
    dasdref06_sorted.l0 k xs acc (n : Int) = some (acc ++ sortFrom xs n) := by
  intro n
  induction n with
  | zero =>
    intro k acc _ hk ha
    obtain ⟨k, rfl⟩ : ∃ m, k = m + 1 := ⟨k - 1, by omega⟩
    rw [dasdref06_sorted.l0, if_neg (by omega), sortFrom, List.append_nil]
  | succ n ih =>
    intro k acc hn hk ha
    obtain ⟨k, rfl⟩ : ∃ m, k = m + xs.length + 1 + 1 := ⟨k - xs.length - 2, by omega⟩
    have hf : ((xs.drop 0).filter fun r => r.f1 == ((n + 1 : Nat) : Int)).length ≤ xs.length := by rw [List.drop_zero]; exact List.length_filter_le _ _
    rw [dasdref06_sorted.l0, if_pos (by omega)]
    have h1 := rsorted_l1 xs (by omega) ((n + 1 : Nat) : Int) xs.length k 0 acc (by omega) (by omega)
    rw [show ((0 : Nat) : Int) = 0 from rfl] at h1
    rw [h1, show wrap64 (((n + 1 : Nat) : Int) - 1) = (n : Int) by rw [w64 (by omega) (by omega)]; omega, ih k _ (by omega) (by omega) (by rw [List.length_append]; omega), List.drop_zero, List.append_assoc]
    rfl
theorem rsorted_some (l : List S25) (hx : InR l) (m : Nat) (hm : m ≤ 1000000000) (hxl : l.length ≤ m) (k : Nat) (hk : m + 20000 < k) :
    dasdref06_sorted.f k l = some (sortR (runsOf (hasT l))) := by
  unfold dasdref06_sorted.f sortR
  rw [rNormal_some l hx m hm hxl k (by omega), Option.bind_some]
  exact rsorted_l0 _ (runsOf_length _) 128 k [] (by omega) (by omega) (by simp)
theorem ralloc_l0 (most : Int) (xs : List S25) (hl : xs.length ≤ 1000) (hb : ∀ r ∈ xs, 1 ≤ r.f1 ∧ r.f1 ≤ 128) : ∀ (d k i : Nat) (n : Int) (acc : List S25), i + d = xs.length → d < k → 0 ≤ n → n ≤ 9223372036854775807 → acc.length ≤ i →
    dasdref06_Allocate.l0 k n most xs acc (i : Int) = some ((allocFin most (takeGo n acc (xs.drop i))).1, (allocFin most (takeGo n acc (xs.drop i))).2) := by
  have fin0 : ∀ acc : List S25, (if (acc.length : Int) > most then (some (([] : List S25), (14 : Int))) else (some (acc, 0))) = some ((allocFin most (acc, 0)).1, (allocFin most (acc, 0)).2) := by
    intro acc
    unfold allocFin
    by_cases h : (acc.length : Int) > most
    · rw [if_pos h, if_pos (.inr h)]
    · rw [if_neg h, if_neg (fun h2 => h2.elim (fun h3 => absurd h3 (by simp)) h)]
  intro d
  induction d with
  | zero =>
    intro k i n acc hi hk h0 h1 ha
    obtain ⟨k, rfl⟩ : ∃ m, k = m + 1 := ⟨k - 1, by omega⟩
    rw [List.drop_eq_nil_of_le (by omega), takeGo, dasdref06_Allocate.l0, if_neg (by omega)]
    by_cases hn : n > 0
    · rw [if_pos hn, allocFin, if_pos (.inl hn)]
    · obtain rfl : n = 0 := by omega
      rw [if_neg hn]
      exact fin0 acc
  | succ d ih =>
    intro k i n acc hi hk h0 h1 ha
    obtain ⟨k, rfl⟩ : ∃ m, k = m + 1 := ⟨k - 1, by omega⟩
    have hlt : i < xs.length := by omega
    have hw : wrap64 ((i : Int) + 1) = ((i + 1 : Nat) : Int) := by rw [w64 (by omega) (by omega)]; omega
    have hbi := hb xs[i] (List.getElem_mem hlt)
    rw [List.drop_eq_getElem_cons hlt, takeGo, dasdref06_Allocate.l0, if_pos (by omega)]
    by_cases hn : n > 0
    · have hm : 0 ≤ n - mn xs[i].f1 n ∧ n - mn xs[i].f1 n ≤ 9223372036854775807 := by unfold mn; split <;> omega
      rw [if_pos hn, if_pos (by omega), if_pos (by omega), rd_at xs i hlt, hw, if_neg (by omega)]
      exact ih k (i + 1) _ _ (by omega) (by omega) (by rw [w64 (by omega) (by omega)]; omega) (by rw [w64 (by omega) (by omega)]; omega) (by simp; omega)
    · obtain rfl : n = 0 := by omega
      rw [if_neg hn, if_pos rfl]
      exact fin0 acc
theorem ralloc_some (l : List S25) (hx : InR l) (m : Nat) (hm : m ≤ 1000000000) (hxl : l.length ≤ m) (n most : Int) (hn : InI n) (k : Nat) (hk : m + 20001 < k) :
    dasdref06_Allocate.f k l n most = some ((allocP l n most).1, (allocP l n most).2) := by
  obtain ⟨k, rfl⟩ : ∃ m, k = m + 1 := ⟨k - 1, by omega⟩
  unfold dasdref06_Allocate.f allocP
  by_cases h1 : n < 1
  · rw [if_pos h1, if_pos (.inl h1), dasdref06_Allocate.j0, if_pos rfl]
  · rw [if_neg h1]
    by_cases h2 : most < 1
    · rw [decide_eq_true h2, if_pos (.inr h2), dasdref06_Allocate.j0, if_pos rfl]
    · rw [decide_eq_false h2, if_neg (by omega), dasdref06_Allocate.j0, if_neg (by decide), rbest_some l hx m hm hxl n k (by omega), Option.bind_some]
      by_cases h3 : (bestP l n).2.2 = true
      · rw [if_pos h3, if_pos h3]
      · rw [if_neg h3, if_neg h3, rsorted_some l hx m hm hxl k (by omega), Option.bind_some]
        have hp := sortR_perm (l := runsOf (hasT l)) (fun r hr => by have := runsOf_bd _ r hr; omega)
        have := ralloc_l0 most (sortR (runsOf (hasT l))) (by rw [hp.length_eq]; have := runsOf_length (hasT l); omega) (fun r hr => by have := runsOf_bd _ r (hp.mem_iff.1 hr); omega) (sortR (runsOf (hasT l))).length k 0 n [] (by omega) (by rw [hp.length_eq]; have := runsOf_length (hasT l); omega) (by omega) hn.2 (by simp)
        rw [List.drop_zero] at this
        exact this
theorem takeGo_length : ∀ (l : List S25) (n : Int) (acc : List S25), (takeGo n acc l).1.length ≤ acc.length + l.length
  | [], n, acc => by simp [takeGo]
  | r :: rs, n, acc => by
    rw [takeGo]
    split
    · simp
    · have := takeGo_length rs (wrap64 (n - mn r.f1 n)) (acc ++ [⟨r.f0, mn r.f1 n⟩])
      simp at this ⊢
      omega
theorem sortFrom_length (l : List S25) : ∀ n, (sortFrom l n).length ≤ n * l.length
  | 0 => by simp [sortFrom]
  | n + 1 => by
    have := sortFrom_length l n
    have h2 := List.length_filter_le (fun r : S25 => r.f1 == ((n + 1 : Nat) : Int)) l
    rw [sortFrom, List.length_append, Nat.succ_mul]
    omega
theorem allocP_length' (l : List S25) (n most : Int) : (allocP l n most).1.length ≤ 20000 := by
  unfold allocP
  split
  · simp
  · split
    · simp
    · unfold allocFin
      split
      · simp
      · have h1 := takeGo_length (sortR (runsOf (hasT l))) n []
        have h2 := sortFrom_length (runsOf (hasT l)) 128
        have h3 := runsOf_length (hasT l)
        have h4 : sortR (runsOf (hasT l)) = sortFrom (runsOf (hasT l)) 128 := rfl
        rw [h4] at h1 ⊢
        simp only [List.length_nil] at h1
        dsimp only
        omega
theorem allocP_err (l : List S25) (n most : Int) (h1 : 1 ≤ n) (h2 : 1 ≤ most) (h : (allocP l n most).2 ≠ 0) : (allocP l n most).2 = 14 := by
  unfold allocP at h ⊢
  rw [if_neg (by omega)] at h ⊢
  split
  · rename_i h3
    rw [if_pos h3] at h
    exact absurd rfl h
  · rename_i h3
    rw [if_neg h3] at h
    unfold allocFin at h ⊢
    split
    · rfl
    · rename_i h4
      rw [if_neg h4] at h
      exact absurd rfl h
theorem rsame_l0 (xs : List S25) (hl : xs.length ≤ 9223372036854775806) : ∀ (d k i : Nat), i + d = xs.length → d < k → dasdref05_Same.l0 k xs xs (i : Int) = some true := by
  intro d
  induction d with
  | zero =>
    intro k i hi hk
    obtain ⟨k, rfl⟩ : ∃ m, k = m + 1 := ⟨k - 1, by omega⟩
    rw [dasdref05_Same.l0, if_neg (by omega)]
  | succ d ih =>
    intro k i hi hk
    obtain ⟨k, rfl⟩ : ∃ m, k = m + 1 := ⟨k - 1, by omega⟩
    have hw : wrap64 ((i : Int) + 1) = ((i + 1 : Nat) : Int) := by rw [w64 (by omega) (by omega)]; omega
    rw [dasdref05_Same.l0, if_pos (by omega), if_pos (by omega), if_pos (by omega), hw, if_neg (by simp)]
    exact ih k (i + 1) (by omega) (by omega)
theorem rsame_some (xs : List S25) (hl : xs.length ≤ 9223372036854775806) (k : Nat) (hk : xs.length < k) : dasdref05_Same.f k xs xs = some true := by
  unfold dasdref05_Same.f
  rw [if_pos rfl]
  exact rsame_l0 xs hl xs.length k 0 (by omega) hk
end Go.Proofs.Ytghpmenoiimpoaa.P
