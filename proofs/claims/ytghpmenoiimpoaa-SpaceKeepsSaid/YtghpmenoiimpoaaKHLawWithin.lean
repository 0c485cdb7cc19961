import Derived.Test.YtghpmenoiimpoaaKHRefB
import Derived.Test.YtghpmenoiimpoaaKPx9
import Derived.Test.YtghpmenoiimpoaaKHCount
import Derived.Test.YtghpmenoiimpoaaKHLawAwake
import Derived.Test.YtghpmenoiimpoaaKPx35
namespace Go.Proofs.Ytghpmenoiimpoaa.P
open Go.RowKit Go.Proofs.YtghpmenoiimpoaaW.PrintWords Go.Proofs.YtghpmenoiimpoaaW.PrintLast Go.Proofs.YtghpmenoiimpoaaW.PrintMore
set_option linter.unusedVariables false
theorem sumF_nonneg : ∀ l, Ex l → 0 ≤ sumF l
  | [], _ => Int.le_refl _
  | r :: l, h => by have := h r (by simp); have := sumF_nonneg l (fun q hq => h q (by simp [hq])); simp only [sumF]; omega
/-- What is taken: runs within those that are there, of the size that was asked for, if there is enough. -/
theorem takeGo_spec : ∀ (l : List S25) (n : Int) (acc : List S25), Ex l → 0 ≤ n → n ≤ 9223372036854775807 →
    ∃ new, takeGo n acc l = (acc ++ new, if sumF l ≤ n then n - sumF l else 0) ∧ Ex new ∧ sumF new = n - (if sumF l ≤ n then n - sumF l else 0) ∧ (∀ t, mult new t ≤ mult l t) ∧ ∀ k : Nat, k < new.length → sumF (l.take k) < n
  | [], n, acc, _, h0, _ => ⟨[], by simp [takeGo, sumF]; omega, fun r hr => by simp at hr, by simp [sumF]; omega, fun t => Int.le_refl _, fun k hk => absurd hk (by simp)⟩
  | r :: rs, n, acc, hex, h0, h1 => by
    have hr := hex r (by simp)
    have hrs : Ex rs := fun q hq => hex q (by simp [hq])
    have hs := sumF_nonneg rs hrs
    rw [takeGo]
    by_cases hn : n = 0
    · rw [if_pos hn]
      refine ⟨[], ?_, fun r hr => by simp at hr, ?_, fun t => mult_nonneg _ t, fun k hk => absurd hk (by simp)⟩
      · rw [List.append_nil, if_neg (by simp only [sumF]; omega), hn]
      · rw [if_neg (by simp only [sumF]; omega), hn]; rfl
    · rw [if_neg hn]
      have hm : 1 ≤ mn r.f1 n ∧ mn r.f1 n ≤ r.f1 ∧ mn r.f1 n ≤ n ∧ (mn r.f1 n = r.f1 ∨ mn r.f1 n = n ∧ n < r.f1) := by unfold mn; split <;> omega
      rw [w64 (by omega) (by omega)]
      obtain ⟨new, e, hx, hsum, hmul, htake⟩ := takeGo_spec rs (n - mn r.f1 n) (acc ++ [⟨r.f0, mn r.f1 n⟩]) hrs (by omega) (by omega)
      refine ⟨⟨r.f0, mn r.f1 n⟩ :: new, ?_, ?_, ?_, ?_, ?_⟩
      · rw [e, List.append_assoc]
        refine Prod.ext rfl ?_
        dsimp only
        rw [show sumF (r :: rs) = r.f1 + sumF rs from rfl]
        split <;> split <;> omega
      · intro q hq
        rcases List.mem_cons.1 hq with rfl | hq
        · dsimp only; omega
        · exact hx q hq
      · rw [show sumF (r :: rs) = r.f1 + sumF rs from rfl, show sumF (⟨r.f0, mn r.f1 n⟩ :: new) = mn r.f1 n + sumF new from rfl, hsum]
        split <;> split <;> omega
      · intro t
        have := hmul t
        have h2 := cntR_Ex r hr.1 hr.2.1 hr.2.2 t
        have h3 := cntR_Ex ⟨r.f0, mn r.f1 n⟩ hr.1 hm.1 (by dsimp only; omega) t
        dsimp only at h3
        simp only [mult]
        rw [h2, h3]
        split <;> split <;> omega
      · intro k hk
        cases k with
        | zero => simp only [List.take_zero, sumF]; omega
        | succ k =>
          have hk' : k < new.length := by simpa using hk
          have := htake k hk'
          simp only [List.take_succ_cons, sumF]
          rcases hm.2.2.2 with h | h
          · omega
          · have := sumF_nonneg (rs.take k) (fun q hq => hrs q (List.mem_of_mem_take hq)); omega
theorem bestGo_spec (n : Int) : ∀ (l : List S25) (b : S25), bestGo n b l = b ∨ (bestGo n b l ∈ l ∧ n ≤ (bestGo n b l).f1)
  | [], b => .inl rfl
  | r :: rs, b => by
    rw [bestGo]
    rcases bestGo_spec n rs (if r.f1 ≥ n ∧ (b.f1 = 0 ∨ r.f1 < b.f1) then r else b) with h | h
    · rw [h]
      split
      · rename_i h2
        exact .inr ⟨by simp, h2.1⟩
      · exact .inl rfl
    · exact .inr ⟨List.mem_cons_of_mem _ h.1, h.2⟩
theorem bestP_spec (l : List S25) (n : Int) (h : (bestP l n).2.2 = true) : 1 ≤ n ∧ ∃ r ∈ runsOf (hasT l), n ≤ r.f1 ∧ bestP l n = (r.f0, n, true) := by
  unfold bestP at *
  by_cases h1 : n < 1
  · rw [if_pos h1] at h; exact absurd h (by decide)
  · rw [if_neg h1] at h ⊢
    unfold bestFin at *
    rcases bestGo_spec n (runsOf (hasT l)) ⟨0, 0⟩ with hb | hb
    · rw [hb, if_pos rfl] at h; exact absurd h (by decide)
    · split at h
      · exact absurd h (by decide)
      · rename_i h2
        rw [if_neg h2]
        exact ⟨by omega, _, hb.1, hb.2, rfl⟩
theorem cut_mult (r : S25) (h0 : 0 ≤ r.f0) (h1 : 1 ≤ r.f1) (h2 : r.f0 + r.f1 ≤ 128) (n : Int) (hn : 1 ≤ n) (hl : n ≤ r.f1) (t : Nat) : mult [⟨r.f0, n⟩] t ≤ cntR r t := by
  have h3 := cntR_Ex r h0 h1 h2 t
  have h4 := cntR_Ex ⟨r.f0, n⟩ h0 hn (by dsimp only; omega) t
  dsimp only at h4
  simp only [mult]
  rw [h3, h4]
  split <;> split <;> omega
theorem mult_mem {r : S25} {l : List S25} (h : r ∈ l) (t : Nat) : cntR r t ≤ mult l t := by
  induction l with
  | nil => simp at h
  | cons q l ih =>
    have h1 := mult_nonneg l t
    have h2 := cntR_bd q t
    simp only [mult]
    rcases List.mem_cons.1 h with rfl | h
    · omega
    · have := ih h; omega
/-- Allocated tracks. -/
theorem allocP_spec (l : List S25) (n most : Int) (hn : 1 ≤ n) (hn2 : InI n) (hm : 1 ≤ most) (h : (allocP l n most).2 = 0) :
    ((allocP l n most).1.length : Int) ≤ most ∧ Ex (allocP l n most).1 ∧ sumF (allocP l n most).1 = n ∧ ∀ t, t < 128 → mult (allocP l n most).1 t ≤ if hasT l t = true then 1 else 0 := by
  refine ⟨allocP_length l n most hm, ?_⟩
  unfold allocP at *
  rw [if_neg (by omega)] at h ⊢
  by_cases hb : (bestP l n).2.2 = true
  · rw [if_pos hb]
    obtain ⟨_, r, hr, hl, e⟩ := bestP_spec l n hb
    have hbd := runsOf_bd _ r hr
    rw [e]
    dsimp only
    refine ⟨fun q hq => ?_, by simp [sumF], fun t ht => ?_⟩
    · obtain rfl := List.mem_singleton.1 hq
      dsimp only; omega
    · rw [← mult_runsOf (hasT l) t ht]
      exact Int.le_trans (cut_mult r hbd.1 hbd.2.1 hbd.2.2 n hn hl t) (mult_mem hr t)
  · rw [if_neg hb] at h ⊢
    have hp := sortR_perm (l := runsOf (hasT l)) (fun r hr => by have := runsOf_bd _ r hr; omega)
    have hex : Ex (sortR (runsOf (hasT l))) := fun r hr => runsOf_bd _ r (hp.mem_iff.1 hr)
    obtain ⟨new, e, hx, hsum, hmul, _⟩ := takeGo_spec (sortR (runsOf (hasT l))) n [] hex (by omega) hn2.2
    unfold allocFin at h ⊢
    rw [e, List.nil_append] at h ⊢
    by_cases hf : (if sumF (sortR (runsOf (hasT l))) ≤ n then n - sumF (sortR (runsOf (hasT l))) else 0) > 0 ∨ (new.length : Int) > most
    · rw [if_pos hf] at h; exact absurd h (by decide)
    · rw [if_neg hf]
      refine ⟨hx, ?_, fun t ht => ?_⟩
      · dsimp only
        rw [hsum]
        have : ¬ (if sumF (sortR (runsOf (hasT l))) ≤ n then n - sumF (sortR (runsOf (hasT l))) else 0) > 0 := fun h => hf (.inl h)
        split at this <;> split <;> omega
      · rw [← mult_runsOf (hasT l) t ht, ← mult_perm hp t]
        exact hmul t
end Go.Proofs.Ytghpmenoiimpoaa.P
