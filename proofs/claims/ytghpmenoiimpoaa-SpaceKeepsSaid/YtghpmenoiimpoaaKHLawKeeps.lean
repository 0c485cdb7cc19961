import Derived.Test.YtghpmenoiimpoaaKHSeq
import Derived.Test.YtghpmenoiimpoaaKHLawWithin
import Derived.Test.YtghpmenoiimpoaaKHRefC
import Derived.Test.YtghpmenoiimpoaaKHLawAwake
import Derived.Test.YtghpmenoiimpoaaKPx40
namespace Go.Proofs.Ytghpmenoiimpoaa.P
open Go.RowKit Go.Proofs.YtghpmenoiimpoaaW.PrintWords Go.Proofs.YtghpmenoiimpoaaW.PrintLast Go.Proofs.YtghpmenoiimpoaaW.PrintMore
set_option linter.unusedVariables false
theorem growGo_spec (fr : List S25) (f : Int) : ∀ (d : Nat) (c n : Int), (d : Int) + (f + c) = 128 → 0 ≤ n → n ≤ 9223372036854775807 →
    c ≤ (growGo fr f d c n).1 ∧ 0 ≤ (growGo fr f d c n).2 ∧ (growGo fr f d c n).1 - c = n - (growGo fr f d c n).2 ∧ f + (growGo fr f d c n).1 ≤ 128 ∧ ∀ t : Int, f + c ≤ t → t < f + (growGo fr f d c n).1 → hasI fr t = true
  | 0, c, n, hd, h0, h1 => by
    simp only [growGo]
    refine ⟨Int.le_refl _, h0, by omega, by omega, fun t h2 h3 => by omega⟩
  | d + 1, c, n, hd, h0, h1 => by
    rw [growGo]
    by_cases h : n > 0 ∧ hasI fr (f + c) = true
    · rw [if_pos h, w64 (by omega) (by omega)]
      obtain ⟨k1, k2, k3, k4, k5⟩ := growGo_spec fr f d (c + 1) (n - 1) (by omega) (by omega) (by omega)
      refine ⟨by omega, k2, by omega, k4, fun t h2 h3 => ?_⟩
      by_cases e : t = f + c
      · rw [e]; exact h.2
      · exact k5 t (by omega) h3
    · rw [if_neg h]
      refine ⟨Int.le_refl _, h0, by dsimp only; omega, by dsimp only; omega, fun t h2 h3 => ?_⟩
      dsimp only at h3
      omega
/-- What Extend gives, when it gives something. -/
theorem extP_spec (ext free : List S25) (n : Int) (hn : InI n) (he : ext.length ≤ 1000) (h : (extP ext free n).2 = 0) :
    ∃ new : List Int, seqP (extP ext free n).1 = seqP ext ++ new ∧ (new.length : Int) = n ∧ 1 ≤ n ∧ 1 ≤ sizeP ext ∧ (((extP ext free n).1.length : Int) ≤ mx ((joinP ext).length : Int) 16) ∧
      ∀ t : Nat, t < 128 → (new.count (t : Int) : Int) ≤ if hasT free t = true ∧ hasT ext t = false then 1 else 0 := by
  have hjl := joinP_length ext
  have hex := joinP_ex ext
  have hsj := seq_joinP ext
  unfold extP at *
  by_cases h1 : n < 1 ∨ joinP ext = []
  · rw [if_pos h1] at h; exact absurd h (by decide)
  · rw [if_neg h1] at h ⊢
    have hne : joinP ext ≠ [] := fun e => h1 (.inr e)
    have hn1 : 1 ≤ n := by omega
    have hT : ∀ t, hasT (joinP ext) t = hasT ext t := hasT_joinP ext
    dsimp only at h ⊢
    have hlast := hex _ (lastR_mem _ hne)
    have hg := growGo_spec (minusP free (joinP ext)) (lastR (joinP ext)).f0 (128 - ((lastR (joinP ext)).f0 + (lastR (joinP ext)).f1)).toNat (lastR (joinP ext)).f1 n (by omega) (by omega) hn.2
    generalize growGo (minusP free (joinP ext)) (lastR (joinP ext)).f0 (128 - ((lastR (joinP ext)).f0 + (lastR (joinP ext)).f1)).toNat (lastR (joinP ext)).f1 n = g at *
    obtain ⟨c, m⟩ := g
    dsimp only at *
    obtain ⟨g1, g2, g3, g4, g5⟩ := hg
    have hfr : ∀ t : Nat, t < 128 → hasT (minusP free (joinP ext)) t = true → hasT free t = true ∧ hasT ext t = false := by
      intro t ht e
      rw [minusP, hasT_runsOf _ t ht, hT] at e
      cases e1 : hasT free t <;> cases e2 : hasT ext t <;> rw [e1, e2] at e <;> simp at e ⊢
    have hgrown := fun t => hasT_grown (joinP ext) hne hex c g1 (by omega) t
    have hseqg : seqP ((joinP ext).set ((joinP ext).length - 1) ⟨(lastR (joinP ext)).f0, c⟩) = seqP ext ++ segI ((lastR (joinP ext)).f0 + (lastR (joinP ext)).f1) (c - (lastR (joinP ext)).f1).toNat := by
      rw [← hsj]
      obtain ⟨i, x, e⟩ := list_snoc (joinP ext) hne
      rw [e] at hlast hex ⊢
      rw [lastR_snoc] at *
      rw [e, lastR_snoc] at g1 g4
      rw [set_last, seqP_append, seqP_append, seqP_one _ _ hlast.1 (by omega) (by omega), show ([x] : List S25) = [⟨x.f0, x.f1⟩] from rfl, seqP_one _ _ hlast.1 (by omega) (by omega), List.append_assoc]
      congr 1
      have := segI_add x.f0 x.f1.toNat (c - x.f1).toNat
      rw [show x.f1.toNat + (c - x.f1).toNat = c.toNat by omega, show ((x.f1.toNat : Nat) : Int) = x.f1 by omega] at this
      exact this
    have hlen : ((joinP ext).set ((joinP ext).length - 1) (⟨(lastR (joinP ext)).f0, c⟩ : S25)).length = (joinP ext).length := List.length_set ..
    have hpos : 1 ≤ sizeP ext := by
      have h8 : sizeP (joinP ext) = sizeP ext := by rw [sizeP_seq, sizeP_seq, hsj]
      obtain ⟨i, x, e⟩ := list_snoc (joinP ext) hne
      rw [e, lastR_snoc] at hlast
      rw [← h8, e, sizeP_append]
      have h9 := sizeP_nonneg i
      simp only [sizeP]
      rw [cl_id x.f0 x.f1 hlast.1 hlast.2.1 hlast.2.2]
      dsimp only
      omega
    generalize (joinP ext).set ((joinP ext).length - 1) (⟨(lastR (joinP ext)).f0, c⟩ : S25) = J at *
    have hcount0 : ∀ t : Nat, t < 128 → ((segI ((lastR (joinP ext)).f0 + (lastR (joinP ext)).f1) (c - (lastR (joinP ext)).f1).toNat).count (t : Int) : Int) = if (lastR (joinP ext)).f0 + (lastR (joinP ext)).f1 ≤ (t : Int) ∧ (t : Int) < (lastR (joinP ext)).f0 + c then 1 else 0 := by
      intro t ht
      rw [segI_count]
      by_cases h3 : (lastR (joinP ext)).f0 + (lastR (joinP ext)).f1 ≤ (t : Int) ∧ (t : Int) < (lastR (joinP ext)).f0 + c
      · rw [if_pos h3, if_pos (by omega)]
      · rw [if_neg h3, if_neg (by omega)]
    unfold extFin at *
    by_cases hm : m = 0
    · rw [if_pos hm] at h ⊢
      refine ⟨_, hseqg, by rw [segI_length]; omega, hn1, hpos, ?_, fun t ht => ?_⟩
      · dsimp only
        rw [hlen]; unfold mx; split <;> omega
      · rw [hcount0 t ht]
        by_cases h3 : (lastR (joinP ext)).f0 + (lastR (joinP ext)).f1 ≤ (t : Int) ∧ (t : Int) < (lastR (joinP ext)).f0 + c
        · have := g5 t h3.1 h3.2
          rw [hasI_nat] at this
          rw [if_pos h3, if_pos (hfr t ht this)]
          exact Int.le_refl _
        · rw [if_neg h3]; split <;> omega
    · rw [if_neg hm] at h ⊢
      by_cases hk : 16 - ((joinP ext).length : Int) < 1
      · rw [if_pos hk] at h; exact absurd h (by decide)
      · rw [if_neg hk] at h ⊢
        by_cases hz : (allocP (minusP (minusP free (joinP ext)) J) m (16 - ((joinP ext).length : Int))).2 = 0
        · rw [if_pos hz]
          obtain ⟨a1, a2, a3, a4⟩ := allocP_spec (minusP (minusP free (joinP ext)) J) m (16 - ((joinP ext).length : Int)) (by omega) (by unfold InI at *; omega) (by omega) hz
          generalize (allocP (minusP (minusP free (joinP ext)) J) m (16 - ((joinP ext).length : Int))).1 = more at *
          have hsz := sizeP_seq more
          rw [sizeP_Ex _ a2, a3] at hsz
          refine ⟨segI ((lastR (joinP ext)).f0 + (lastR (joinP ext)).f1) (c - (lastR (joinP ext)).f1).toNat ++ seqP more, ?_, ?_, hn1, hpos, ?_, fun t ht => ?_⟩
          · dsimp only
            rw [seq_joinP, seqP_append, hseqg, List.append_assoc]
          · rw [List.length_append, segI_length]
            omega
          · have := joinP_length (J ++ more)
            rw [List.length_append, hlen] at this
            dsimp only
            unfold mx
            split <;> omega
          · have h4 := a4 t ht
            rw [mult_count] at h4
            rw [List.count_append]
            have h5 := hcount0 t ht
            have h6 : hasT (minusP (minusP free (joinP ext)) J) t = (hasT (minusP free (joinP ext)) t && !hasT J t) := by rw [minusP, hasT_runsOf _ t ht]
            rw [h6, hgrown t] at h4
            by_cases h3 : (lastR (joinP ext)).f0 + (lastR (joinP ext)).f1 ≤ (t : Int) ∧ (t : Int) < (lastR (joinP ext)).f0 + c
            · have := g5 t h3.1 h3.2
              rw [hasI_nat] at this
              rw [if_pos h3] at h5
              rw [if_pos (hfr t ht this)]
              rw [← Bool.decide_and, decide_eq_true h3, Bool.or_true, Bool.not_true, Bool.and_false, if_neg (by decide)] at h4
              omega
            · rw [if_neg h3] at h5
              by_cases h7 : (hasT (minusP free (joinP ext)) t && !(hasT (joinP ext) t || (decide ((lastR (joinP ext)).f0 + (lastR (joinP ext)).f1 ≤ (t : Int)) && decide ((t : Int) < (lastR (joinP ext)).f0 + c)))) = true
              · rw [if_pos h7] at h4
                rw [if_pos (hfr t ht (by cases e : hasT (minusP free (joinP ext)) t <;> rw [e] at h7 <;> simp at h7 ⊢))]
                omega
              · rw [if_neg h7] at h4
                split <;> omega
        · rw [if_neg hz] at h; exact absurd h hz
theorem extP_err (ext free : List S25) (n : Int) (h : (extP ext free n).2 ≠ 0) : (extP ext free n).1 = [] := by
  unfold extP at *
  split
  · rfl
  · rename_i h1
    rw [if_neg h1] at h
    dsimp only at *
    unfold extFin at *
    split
    · rename_i h2
      rw [if_pos h2] at h
      exact absurd rfl h
    · rename_i h2
      rw [if_neg h2] at h
      split
      · rfl
      · rename_i h3
        rw [if_neg h3] at h
        split
        · rename_i h4
          rw [if_pos h4] at h
          exact absurd rfl h
        · rfl
theorem keeps_pure (ext free : List S25) (hx : InR ext) (he : ext.length ≤ 30) (hf : free.length ≤ 30) (n : Int) (hn : InI n) (k : Nat) (hk : 1000000 < k) : dasdlaw06_SpaceKeeps.j0 k ext free n false = some true := by
  obtain ⟨k, rfl⟩ : ∃ m, k = m + 1 := ⟨k - 1, by omega⟩
  rw [dasdlaw06_SpaceKeeps.j0, if_neg (by decide)]
  unfold space_Extend.f
  rw [if_pos (by omega), Option.bind_some]
  dsimp only
  by_cases h0 : (extP ext free n).2 = 0
  · obtain ⟨new, hs, hnl, hn1, hpos, hlen, hcnt⟩ := extP_spec ext free n hn (by omega) h0
    have hjl := joinP_length ext
    have hll : (extP ext free n).1.length ≤ 1000 := by unfold mx at hlen; split at hlen <;> omega
    have hszl : sizeP (extP ext free n).1 = sizeP ext + n := by rw [sizeP_seq, hs, List.length_append, sizeP_seq]; omega
    have hse := sizeP_le ext
    have hsl := sizeP_le (extP ext free n).1
    have hsq := sizeP_seq ext
    generalize (extP ext free n).1 = l at *
    have hm : mx 0 (sizeP ext) = sizeP ext := by unfold mx; split <;> omega
    have hold : joinP (cutK (sizeP ext) l) = joinP ext := joinP_of_seq (by
      rw [seq_cutK l _ (by omega), hs, hsq, Int.toNat_natCast, List.take_append_of_le_length (Nat.le_refl _), List.take_length])
    have hmore : seqP (joinP (cutRest (sizeP ext) l)) = new := by
      rw [seq_joinP, seq_cutRest l _ (by omega), hs, hsq, Int.toNat_natCast, List.drop_append_of_le_length (Nat.le_refl _), List.drop_length, List.nil_append]
    have hml : (joinP (cutRest (sizeP ext) l)).length ≤ 1000 := by
      have := joinP_length (cutRest (sizeP ext) l)
      rw [cutRest_length] at this
      omega
    have hrel : relP l (sizeP ext) = (joinP ext, runsOf (fun t => hasT (joinP (cutRest (sizeP ext) l)) t && !hasT (joinP ext) t), 0) := by
      unfold relP
      rw [if_neg (by omega), hold]
    generalize hmd : joinP (cutRest (sizeP ext) l) = more at *
    have hin : ∀ t, t < 128 → hasT more t = true → hasT free t = true ∧ hasT ext t = false := by
      intro t ht h
      rw [hasT_mult, mult_count, hmore, decide_eq_true_eq] at h
      have := hcnt t ht
      split at this
      · assumption
      · omega
    have hdis := (size_disjoint more).2 (fun t ht => by
      have := hcnt t ht
      rw [mult_count, hmore]
      split at this <;> omega)
    have hmin : (runsOf fun t => hasT more t && !hasT free t) = [] := runsOf_nil _ fun t ht => by
      cases e1 : hasT more t with
      | false => rfl
      | true => rw [(hin t ht e1).1]; rfl
    have hcom : (runsOf fun t => hasT more t && hasT ext t) = [] := runsOf_nil _ fun t ht => by
      cases e1 : hasT more t with
      | false => rfl
      | true => rw [(hin t ht e1).2]; rfl
    have hback : (runsOf fun t => hasT more t && !hasT (joinP ext) t) = runsOf (hasT more) := runsOf_congr fun t ht => by
      rw [hasT_joinP]
      cases e1 : hasT more t with
      | false => rfl
      | true => rw [(hin t ht e1).2]; rfl
    have hbl := runsOf_length (hasT more)
    rw [if_pos h0, size_some ext (by omega) k (by omega), Option.bind_some, cut_some l (by omega) (sizeP ext) (by unfold InI'; omega) k (by omega), Option.bind_some, hm, hold, hmd]
    dsimp only
    rw [size_some l (by omega) k (by omega), Option.bind_some, hszl, w64 (by omega) (by omega), if_pos rfl, join_some ext (by omega) k (by omega), Option.bind_some]
    obtain ⟨k, rfl⟩ : ∃ m, k = m + 1 := ⟨k - 1, by omega⟩
    unfold extent_Minus.f extent_Common.f
    rw [rsame_some _ (by omega) _ (by omega), Option.bind_some, if_pos rfl, disjoint_some more (by omega) _ (by omega), Option.bind_some, if_pos (by rw [← hdis]; simp), Option.bind_some, hmin, if_neg (by simp), Option.bind_some, hcom, decide_eq_false (by simp), dasdlaw06_SpaceKeeps.j1, if_neg (by decide), join_some ext (by omega) k (by omega), Option.bind_some, if_neg (by omega), release_some l (by omega) (sizeP ext) k (by omega), Option.bind_some, hrel]
    dsimp only
    unfold extent_Normal.f
    rw [if_pos rfl, Option.bind_some, rsame_some _ (by omega) _ (by omega), Option.bind_some, if_pos rfl, Option.bind_some, hback, rsame_some _ (by omega) _ (by omega)]
    rfl
  · have herr := extP_err ext free n h0
    rw [if_neg h0, herr]
    rfl
theorem spaceKeeps_some (l0 : List S25) (hr0 : InR l0) (l1 : List S25) (hr1 : InR l1) (a2 : Int) (h2 : InI a2) : ∃ k, dasdlaw06_SpaceKeeps.f k l0 l1 a2 = some true := by
  have hgo : ∀ b : Bool, b = true ∨ (l0.length ≤ 30 ∧ l1.length ≤ 30) → dasdlaw06_SpaceKeeps.j0 2000000 l0 l1 a2 b = some true := by
    intro b hb
    by_cases h : b = true
    · rw [dasdlaw06_SpaceKeeps.j0, if_pos h, awake6_some _ (by decide)]
      rfl
    · obtain ⟨h0, h1⟩ := hb.resolve_left h
      rw [Bool.eq_false_iff.2 h]
      exact keeps_pure l0 l1 hr0 h0 h1 a2 h2 _ (by decide)
  refine ⟨2000000, ?_⟩
  unfold dasdlaw06_SpaceKeeps.f
  rw [awake6_some _ (by decide), Option.bind_some, if_pos rfl]
  by_cases hl : (l0.length : Int) > 30
  · rw [if_pos hl]
    exact hgo true (.inl rfl)
  · rw [if_neg hl]
    refine hgo _ ?_
    by_cases hl1 : (l1.length : Int) > 30
    · exact .inl (decide_eq_true hl1)
    · exact .inr ⟨by omega, by omega⟩
end Go.Proofs.Ytghpmenoiimpoaa.P
