import Derived.Test.YtghpmenoiimpoaaSHRefB
import Derived.Test.YtghpmenoiimpoaaSPx9
import Derived.Test.YtghpmenoiimpoaaSHCount
import Derived.Test.YtghpmenoiimpoaaSHLawAwake
import Derived.Test.YtghpmenoiimpoaaSPx35
namespace Go.Proofs.Ytghpmenoiimpoaa.P
open Go.RowKit Go.Proofs.YtghpmenoiimpoaaW.PrintWords Go.Proofs.YtghpmenoiimpoaaW.PrintLast Go.Proofs.YtghpmenoiimpoaaW.PrintMore
set_option linter.unusedVariables false
theorem sumF_nonneg : ∀ l, Ex l → 0 ≤ sumF l
  | [], _ => Int.le_refl _
  | r :: l, h => by have := h r (by simp); have := sumF_nonneg l (fun q hq => h q (by simp [hq])); simp only [sumF]; omega
theorem sumF_take_le : ∀ (k : Nat) (l : List S25), Ex l → sumF (l.take k) ≤ sumF l
  | 0, l, h => by simp only [List.take_zero, sumF]; exact sumF_nonneg l h
  | k + 1, [], _ => Int.le_refl _
  | k + 1, r :: l, h => by
    have := sumF_take_le k l (fun q hq => h q (by simp [hq]))
    simp only [List.take_succ_cons, sumF]; omega
/-- What is taken: runs within those that are there, of the size that was asked for, if there is enough. -/
theorem takeGo_spec : ∀ (l : List S25) (n : Int) (acc : List S25), Ex l → 0 ≤ n → n ≤ 9223372036854775807 →
    ∃ new, takeGo n acc l = (acc ++ new, if sumF l ≤ n then n - sumF l else 0) ∧ Ex new ∧ sumF new = n - (if sumF l ≤ n then n - sumF l else 0) ∧ (∀ t, mult new t ≤ mult l t) ∧ ∀ k : Nat, k < new.length → sumF (l.take k) < n
  | [], n, acc, _, h0, _ => ⟨[], by simp [takeGo, sumF]; omega, fun r hr => by simp at hr, by simp [sumF]; omega, fun t => Int.le_refl _, fun k hk => absurd hk (by simp)⟩
  | r :: rs, n, acc, hex, h0, h1 => by
    have hr := hex r (by simp)
    have hrs : Ex rs := fun q hq => hex q (by simp [hq])
    have hs := sumF_nonneg rs hrs
    rw [takeGo]
    by_cases hn : n = 0
    · rw [if_pos hn]
      refine ⟨[], ?_, fun r hr => by simp at hr, ?_, fun t => mult_nonneg _ t, fun k hk => absurd hk (by simp)⟩
      · rw [List.append_nil, if_neg (by simp only [sumF]; omega), hn]
      · rw [if_neg (by simp only [sumF]; omega), hn]; rfl
    · rw [if_neg hn]
      have hm : 1 ≤ mn r.f1 n ∧ mn r.f1 n ≤ r.f1 ∧ mn r.f1 n ≤ n ∧ (mn r.f1 n = r.f1 ∨ mn r.f1 n = n ∧ n < r.f1) := by unfold mn; split <;> omega
      rw [w64 (by omega) (by omega)]
      obtain ⟨new, e, hx, hsum, hmul, htake⟩ := takeGo_spec rs (n - mn r.f1 n) (acc ++ [⟨r.f0, mn r.f1 n⟩]) hrs (by omega) (by omega)
      refine ⟨⟨r.f0, mn r.f1 n⟩ :: new, ?_, ?_, ?_, ?_, ?_⟩
      · rw [e, List.append_assoc]
        refine Prod.ext rfl ?_
        dsimp only
        rw [show sumF (r :: rs) = r.f1 + sumF rs from rfl]
        split <;> split <;> omega
      · intro q hq
        rcases List.mem_cons.1 hq with rfl | hq
        · dsimp only; omega
        · exact hx q hq
      · rw [show sumF (r :: rs) = r.f1 + sumF rs from rfl, show sumF (⟨r.f0, mn r.f1 n⟩ :: new) = mn r.f1 n + sumF new from rfl, hsum]
        split <;> split <;> omega
      · intro t
        have := hmul t
        have h2 := cntR_Ex r hr.1 hr.2.1 hr.2.2 t
        have h3 := cntR_Ex ⟨r.f0, mn r.f1 n⟩ hr.1 hm.1 (by dsimp only; omega) t
        dsimp only at h3
        simp only [mult]
        rw [h2, h3]
        split <;> split <;> omega
      · intro k hk
        cases k with
        | zero => simp only [List.take_zero, sumF]; omega
        | succ k =>
          have hk' : k < new.length := by simpa using hk
          have := htake k hk'
          simp only [List.take_succ_cons, sumF]
          rcases hm.2.2.2 with h | h
          · omega
          · have := sumF_nonneg (rs.take k) (fun q hq => hrs q (List.mem_of_mem_take hq)); omega
theorem bestGo_spec (n : Int) : ∀ (l : List S25) (b : S25), bestGo n b l = b ∨ (bestGo n b l ∈ l ∧ n ≤ (bestGo n b l).f1)
  | [], b => .inl rfl
  | r :: rs, b => by
    rw [bestGo]
    rcases bestGo_spec n rs (if r.f1 ≥ n ∧ (b.f1 = 0 ∨ r.f1 < b.f1) then r else b) with h | h
    · rw [h]
      split
      · rename_i h2
        exact .inr ⟨by simp, h2.1⟩
      · exact .inl rfl
    · exact .inr ⟨List.mem_cons_of_mem _ h.1, h.2⟩
theorem bestP_spec (l : List S25) (n : Int) (h : (bestP l n).2.2 = true) : 1 ≤ n ∧ ∃ r ∈ runsOf (hasT l), n ≤ r.f1 ∧ bestP l n = (r.f0, n, true) := by
  unfold bestP at *
  by_cases h1 : n < 1
  · rw [if_pos h1] at h; exact absurd h (by decide)
  · rw [if_neg h1] at h ⊢
    unfold bestFin at *
    rcases bestGo_spec n (runsOf (hasT l)) ⟨0, 0⟩ with hb | hb
    · rw [hb, if_pos rfl] at h; exact absurd h (by decide)
    · split at h
      · exact absurd h (by decide)
      · rename_i h2
        rw [if_neg h2]
        exact ⟨by omega, _, hb.1, hb.2, rfl⟩
theorem cut_mult (r : S25) (h0 : 0 ≤ r.f0) (h1 : 1 ≤ r.f1) (h2 : r.f0 + r.f1 ≤ 128) (n : Int) (hn : 1 ≤ n) (hl : n ≤ r.f1) (t : Nat) : mult [⟨r.f0, n⟩] t ≤ cntR r t := by
  have h3 := cntR_Ex r h0 h1 h2 t
  have h4 := cntR_Ex ⟨r.f0, n⟩ h0 hn (by dsimp only; omega) t
  dsimp only at h4
  simp only [mult]
  rw [h3, h4]
  split <;> split <;> omega
theorem mult_mem {r : S25} {l : List S25} (h : r ∈ l) (t : Nat) : cntR r t ≤ mult l t := by
  induction l with
  | nil => simp at h
  | cons q l ih =>
    have h1 := mult_nonneg l t
    have h2 := cntR_bd q t
    simp only [mult]
    rcases List.mem_cons.1 h with rfl | h
    · omega
    · have := ih h; omega
/-- Allocated tracks. -/
theorem allocP_spec (l : List S25) (n most : Int) (hn : 1 ≤ n) (hn2 : InI n) (hm : 1 ≤ most) (h : (allocP l n most).2 = 0) :
    ((allocP l n most).1.length : Int) ≤ most ∧ Ex (allocP l n most).1 ∧ sumF (allocP l n most).1 = n ∧ ∀ t, t < 128 → mult (allocP l n most).1 t ≤ if hasT l t = true then 1 else 0 := by
  refine ⟨allocP_length l n most hm, ?_⟩
  unfold allocP at *
  rw [if_neg (by omega)] at h ⊢
  by_cases hb : (bestP l n).2.2 = true
  · rw [if_pos hb]
    obtain ⟨_, r, hr, hl, e⟩ := bestP_spec l n hb
    have hbd := runsOf_bd _ r hr
    rw [e]
    dsimp only
    refine ⟨fun q hq => ?_, by simp [sumF], fun t ht => ?_⟩
    · obtain rfl := List.mem_singleton.1 hq
      dsimp only; omega
    · rw [← mult_runsOf (hasT l) t ht]
      exact Int.le_trans (cut_mult r hbd.1 hbd.2.1 hbd.2.2 n hn hl t) (mult_mem hr t)
  · rw [if_neg hb] at h ⊢
    have hp := sortR_perm (l := runsOf (hasT l)) (fun r hr => by have := runsOf_bd _ r hr; omega)
    have hex : Ex (sortR (runsOf (hasT l))) := fun r hr => runsOf_bd _ r (hp.mem_iff.1 hr)
    obtain ⟨new, e, hx, hsum, hmul, _⟩ := takeGo_spec (sortR (runsOf (hasT l))) n [] hex (by omega) hn2.2
    unfold allocFin at h ⊢
    rw [e, List.nil_append] at h ⊢
    by_cases hf : (if sumF (sortR (runsOf (hasT l))) ≤ n then n - sumF (sortR (runsOf (hasT l))) else 0) > 0 ∨ (new.length : Int) > most
    · rw [if_pos hf] at h; exact absurd h (by decide)
    · rw [if_neg hf]
      refine ⟨hx, ?_, fun t ht => ?_⟩
      · dsimp only
        rw [hsum]
        have : ¬ (if sumF (sortR (runsOf (hasT l))) ≤ n then n - sumF (sortR (runsOf (hasT l))) else 0) > 0 := fun h => hf (.inl h)
        split at this <;> split <;> omega
      · rw [← mult_runsOf (hasT l) t ht, ← mult_perm hp t]
        exact hmul t
theorem allocP_fails (l : List S25) (n most : Int) (hn : 1 ≤ n) (hn2 : InI n) (hm : 1 ≤ most) (h : (allocP l n most).2 ≠ 0) :
    (allocP l n most).2 = 14 ∧ (allocP l n most).1 = [] ∧ sumF ((sortR (runsOf (hasT l))).take most.toNat) < n := by
  refine ⟨allocP_err l n most hn hm h, ?_⟩
  unfold allocP at *
  rw [if_neg (by omega)] at h ⊢
  by_cases hb : (bestP l n).2.2 = true
  · rw [if_pos hb] at h; exact absurd rfl h
  · rw [if_neg hb] at h ⊢
    have hp := sortR_perm (l := runsOf (hasT l)) (fun r hr => by have := runsOf_bd _ r hr; omega)
    have hex : Ex (sortR (runsOf (hasT l))) := fun r hr => runsOf_bd _ r (hp.mem_iff.1 hr)
    obtain ⟨new, e, hx, hsum, _, htake⟩ := takeGo_spec (sortR (runsOf (hasT l))) n [] hex (by omega) hn2.2
    unfold allocFin at h ⊢
    rw [e, List.nil_append] at h ⊢
    by_cases hf : (if sumF (sortR (runsOf (hasT l))) ≤ n then n - sumF (sortR (runsOf (hasT l))) else 0) > 0 ∨ (new.length : Int) > most
    · rw [if_pos hf]
      refine ⟨rfl, ?_⟩
      rcases hf with hf | hf
      · have := sumF_take_le most.toNat _ hex
        split at hf <;> omega
      · exact htake most.toNat (by omega)
    · rw [if_neg hf] at h; exact absurd rfl h
theorem room_l0 (most : Int) (xs : List S25) (hx : Ex xs) (hl : xs.length ≤ 1000) : ∀ (d k i : Nat) (acc : Int), i + d = xs.length → d < k → 0 ≤ acc → acc ≤ 128 * (i : Int) → (i : Int) ≤ most →
    dasdref06_Room.l0 k most xs acc (i : Int) = some (acc + sumF ((xs.drop i).take (most.toNat - i))) := by
  intro d
  induction d with
  | zero =>
    intro k i acc hi hk h0 h1 hm
    obtain ⟨k, rfl⟩ : ∃ m, k = m + 1 := ⟨k - 1, by omega⟩
    rw [List.drop_eq_nil_of_le (by omega), dasdref06_Room.l0, if_neg (by omega)]
    simp [sumF]
  | succ d ih =>
    intro k i acc hi hk h0 h1 hm
    obtain ⟨k, rfl⟩ : ∃ m, k = m + 1 := ⟨k - 1, by omega⟩
    have hlt : i < xs.length := by omega
    have hw : wrap64 ((i : Int) + 1) = ((i + 1 : Nat) : Int) := by rw [w64 (by omega) (by omega)]; omega
    have hb := hx xs[i] (List.getElem_mem hlt)
    rw [dasdref06_Room.l0, if_pos (by omega)]
    by_cases h : (i : Int) < most
    · rw [if_pos h, if_pos (by omega), rd_at xs i hlt, hw, w64 (x := acc + xs[i].f1) (by omega) (by omega), ih k (i + 1) _ (by omega) (by omega) (by omega) (by omega) (by omega), List.drop_eq_getElem_cons hlt, show most.toNat - i = (most.toNat - (i + 1)) + 1 by omega, List.take_succ_cons]
      simp only [sumF]
      rw [Int.add_assoc]
    · rw [if_neg h, show most.toNat - i = 0 by omega]
      simp [sumF]
theorem room_some (l : List S25) (hx : InR l) (m : Nat) (hm : m ≤ 1000000000) (hxl : l.length ≤ m) (most : Int) (h1 : 1 ≤ most) (k : Nat) (hk : m + 20000 < k) :
    dasdref06_Room.f k l most = some (sumF ((sortR (runsOf (hasT l))).take most.toNat)) := by
  have hp := sortR_perm (l := runsOf (hasT l)) (fun r hr => by have := runsOf_bd _ r hr; omega)
  have hlen := hp.length_eq
  have hlr := runsOf_length (hasT l)
  unfold dasdref06_Room.f
  rw [rsorted_some l hx m hm hxl k hk, Option.bind_some]
  have := room_l0 most (sortR (runsOf (hasT l))) (fun r hr => runsOf_bd _ r (hp.mem_iff.1 hr)) (by omega) (sortR (runsOf (hasT l))).length k 0 0 (by omega) (by omega) (by omega) (by omega) (by omega)
  rw [List.drop_zero, Int.zero_add, Nat.sub_zero] at this
  exact this
theorem spaceWithin_some (l0 : List S25) (hr : InR l0) (a1 a2 : Int) (h1 : InI a1) (h2 : InI a2) : ∃ k, dasdlaw06_SpaceWithin.f k l0 a1 a2 = some true := by
  have hgo : ∀ b : Bool, b = true ∨ (l0.length ≤ 30 ∧ 1 ≤ a1 ∧ 1 ≤ a2) → dasdlaw06_SpaceWithin.j0 40000 l0 a1 a2 b = some true := by
    intro b hb
    rw [dasdlaw06_SpaceWithin.j0]
    by_cases h : b = true
    · rw [if_pos h, awake6_some _ (by decide)]
      rfl
    · obtain ⟨h0, h3, h4⟩ := hb.resolve_left h
      rw [if_neg h]
      unfold space_Allocate.f
      rw [Option.bind_some]
      dsimp only
      have hlen := allocP_length' l0 a1 a2
      by_cases he : (allocP l0 a1 a2).2 = 0
      · obtain ⟨hl, hex, hsum, hmul⟩ := allocP_spec l0 a1 a2 h3 h1 h4 he
        have hsz := sizeP_Ex _ hex
        rw [if_pos he, if_pos hl, size_some _ (by omega) _ (by omega), Option.bind_some, hsz, hsum, if_pos rfl, disjoint_some _ (by omega) _ (by omega), Option.bind_some]
        have hdis := (size_disjoint (allocP l0 a1 a2).1).2 (fun t ht => by have := hmul t ht; split at this <;> omega)
        have hmin : (runsOf fun t => hasT (allocP l0 a1 a2).1 t && !hasT l0 t) = [] := runsOf_nil _ fun t ht => by
          have h5 := hmul t ht
          cases e : hasT l0 t with
          | true => simp
          | false =>
            rw [e, if_neg (by decide)] at h5
            rw [hasT_mult, decide_eq_false (by omega)]
            rfl
        rw [if_pos (by rw [← hdis]; simp)]
        unfold extent_Minus.f
        rw [Option.bind_some, hmin]
        rfl
      · obtain ⟨e14, enil, hroom⟩ := allocP_fails l0 a1 a2 h3 h1 h4 he
        rw [if_neg he, if_pos e14, enil, if_pos (show (([] : List S25).length : Int) = 0 from rfl), room_some l0 hr 30 (by decide) h0 a2 h4 _ (by decide), Option.bind_some, decide_eq_true hroom]
  refine ⟨40000, ?_⟩
  unfold dasdlaw06_SpaceWithin.f
  rw [awake6_some _ (by decide), Option.bind_some, if_pos rfl]
  by_cases hl : (l0.length : Int) > 30
  · rw [if_pos hl]
    exact hgo true (.inl rfl)
  · rw [if_neg hl]
    by_cases hc : a1 < 1
    · rw [if_pos hc]
      exact hgo true (.inl rfl)
    · rw [if_neg hc]
      refine hgo _ ?_
      by_cases hl1 : a2 < 1
      · exact .inl (decide_eq_true hl1)
      · exact .inr ⟨by omega, by omega, by omega⟩
end Go.Proofs.Ytghpmenoiimpoaa.P
