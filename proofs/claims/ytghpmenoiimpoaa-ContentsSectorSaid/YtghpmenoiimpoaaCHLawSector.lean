import Derived.Test.YtghpmenoiimpoaaCHSeqF
import Derived.Test.YtghpmenoiimpoaaCHRow2
import Derived.Test.YtghpmenoiimpoaaCPx41
namespace Go.Proofs.Ytghpmenoiimpoaa.P
open Go.RowKit Go.Proofs.YtghpmenoiimpoaaW.PrintWords Go.Proofs.YtghpmenoiimpoaaW.PrintLast Go.Proofs.YtghpmenoiimpoaaW.PrintMore
set_option linter.unusedVariables false
theorem few_some (f0 f1 : Int) (f2 f3 : ByteArray) (l : List S25) : dasdref07_Few.f f0 f1 f2 f3 l = some (decide (f2.size ≤ 100) && (decide (f3.size ≤ 500) && decide (l.length ≤ 30))) := by
  unfold dasdref07_Few.f
  by_cases h2 : f2.size ≤ 100
  · rw [if_pos (by omega), decide_eq_true h2, Bool.true_and]
    by_cases h3 : f3.size ≤ 500
    · rw [if_pos (by omega), decide_eq_true h3, Bool.true_and]
      congr 1
      exact decide_eq_decide.2 (by omega)
    · rw [if_neg (by omega), decide_eq_false h3]; rfl
  · rw [if_neg (by omega), decide_eq_false h2]; rfl
/-- The data sector that is a sector of a label. -/
def secP (l : List S25) (n : Int) : Int × Bool := if n < 0 then (0, false) else if (atL (seqP l) (n / 8)).2 = true then ((atL (seqP l) (n / 8)).1 * 8 + n % 8, true) else (0, false)
theorem atL_bd (l : List S25) (i : Int) (h0 : 0 ≤ i) : 0 ≤ (atL (seqP l) i).1 ∧ (atL (seqP l) i).1 < 128 := by
  unfold atL
  by_cases h : i < ((seqP l).length : Int)
  · rw [if_pos h]
    refine seqP_bd l _ ?_
    unfold rd
    rw [List.getD_eq_getElem?_getD, List.getElem?_eq_getElem (by omega)]
    exact List.getElem_mem _
  · rw [if_neg h]; decide
theorem sec_some (f0 f1 : Int) (f2 f3 : ByteArray) (l : List S25) (hl : l.length ≤ 30) (n : Int) (hn : InI n) (k : Nat) (hk : 100 < k) : contents_Sector.f k f0 f1 f2 f3 l n = some (secP l n) := by
  unfold contents_Sector.f secP
  obtain ⟨h1, h2⟩ := hn
  by_cases h : n < 0
  · rw [if_pos h, if_pos h]
  · have hd : Int.tdiv n 8 = n / 8 := Int.tdiv_eq_ediv_of_nonneg (by omega)
    have hm : Int.tmod n 8 = n % 8 := Int.tmod_eq_emod_of_nonneg (by omega)
    have hb := atL_bd l (n / 8) (by omega)
    rw [if_neg h, if_neg h, hd, hm, w64 (x := n / 8) (by omega) (by omega), at_some l (by omega) _ (by omega) (by omega) k (by omega), Option.bind_some]
    by_cases h3 : (atL (seqP l) (n / 8)).2 = true
    · rw [if_pos h3, if_pos h3, w64 (x := (atL (seqP l) (n / 8)).1 * 8) (by omega) (by omega), w64 (by omega) (by omega)]
    · rw [if_neg h3, if_neg h3]
theorem rsec_some (f0 f1 : Int) (f2 f3 : ByteArray) (l : List S25) (hl : l.length ≤ 30) (hr : InR l) (n : Int) (hn : InI n) (k : Nat) (hk : 20000 < k) : dasdref08_Sector.f k f0 f1 f2 f3 l n = some (secP l n) := by
  unfold dasdref08_Sector.f secP
  obtain ⟨h1, h2⟩ := hn
  by_cases h : n < 0
  · rw [if_pos h, if_pos h]
  · have hd : Int.tdiv n 8 = n / 8 := Int.tdiv_eq_ediv_of_nonneg (by omega)
    have hm : Int.tmod n 8 = n % 8 := Int.tmod_eq_emod_of_nonneg (by omega)
    have hb := atL_bd l (n / 8) (by omega)
    rw [if_neg h, if_neg h, hd, hm, w64 (x := n / 8) (by omega) (by omega), rat_some l (by omega) hr _ (by omega) k (by omega), Option.bind_some]
    by_cases h3 : (atL (seqP l) (n / 8)).2 = true
    · rw [if_pos h3, if_pos h3, w64 (x := 8 * (atL (seqP l) (n / 8)).1) (by omega) (by omega), w64 (by omega) (by omega), Int.mul_comm]
    · rw [if_neg h3, if_neg h3]
theorem secP_true {l : List S25} {n : Int} (h : (secP l n).2 = true) : 0 ≤ n ∧ n / 8 < ((seqP l).length : Int) ∧ (secP l n).1 = rd (seqP l) (n / 8) * 8 + n % 8 := by
  unfold secP at h ⊢
  by_cases h0 : n < 0
  · rw [if_pos h0] at h; cases h
  · rw [if_neg h0] at h ⊢
    by_cases h1 : (atL (seqP l) (n / 8)).2 = true
    · rw [if_pos h1]
      unfold atL at h1 ⊢
      by_cases h2 : n / 8 < ((seqP l).length : Int)
      · rw [if_pos h2]; exact ⟨by omega, h2, rfl⟩
      · rw [if_neg h2] at h1; cases h1
    · rw [if_neg h1] at h; cases h
theorem rd_mem {s : List Int} {i : Int} (h0 : 0 ≤ i) (h : i < (s.length : Int)) : rd s i ∈ s := by
  unfold rd
  rw [List.getD_eq_getElem?_getD, List.getElem?_eq_getElem (by omega)]
  exact List.getElem_mem _
theorem rd_inj {s : List Int} (hs : s.Nodup) {i j : Int} (h0 : 0 ≤ i) (h1 : i < (s.length : Int)) (h2 : 0 ≤ j) (h3 : j < (s.length : Int)) (h : rd s i = rd s j) : i = j := by
  unfold rd at h
  rw [List.getD_eq_getElem?_getD, List.getD_eq_getElem?_getD, List.getElem?_eq_getElem (by omega), List.getElem?_eq_getElem (by omega)] at h
  have := (List.getElem_inj hs).1 (show s[i.toNat] = s[j.toNat] from h)
  omega
theorem hasI_of {l : List S25} {t : Int} (h : t ∈ seqP l) : hasI l t = true := by
  have hb := seqP_bd l t h
  obtain ⟨n, rfl⟩ : ∃ n : Nat, t = n := ⟨t.toNat, by omega⟩
  rw [hasI_nat, hasT_seq]
  exact decide_eq_true h
theorem contentsSector_some (f0 f1 : Int) (f2 f3 : ByteArray) (l : List S25) (hr : InR l) (a1 a2 : Int) (h1 : InI a1) (h2 : InI a2) : ∃ k, dasdlaw08_ContentsSector.f k f0 f1 f2 f3 l a1 a2 = some true := by
  refine ⟨20003 + 1 + 1, ?_⟩
  unfold dasdlaw08_ContentsSector.f dasdlaw08_awake.f
  rw [Option.bind_some, if_pos rfl, few_some, Option.bind_some, dasdlaw08_ContentsSector.j0]
  cases hf : (decide (f2.size ≤ 100) && (decide (f3.size ≤ 500) && decide (l.length ≤ 30))) with
  | false => rfl
  | true =>
    have hl : l.length ≤ 30 := by
      simp only [Bool.and_eq_true, decide_eq_true_eq] at hf
      exact hf.2.2
    rw [if_neg (by decide), sec_some _ _ _ _ l hl a1 h1 _ (by omega), Option.bind_some, rsec_some _ _ _ _ l hl hr a1 h1 _ (by omega), Option.bind_some, sec_some _ _ _ _ l hl a2 h2 _ (by omega), Option.bind_some, if_pos rfl, bne_self_eq_false, dasdlaw08_ContentsSector.j1, if_neg (by decide)]
    by_cases ht1 : (secP l a1).2 = true
    · rw [if_pos ht1]
      by_cases ht2 : (secP l a2).2 = true
      · rw [if_pos ht2]
        by_cases he : a1 = a2
        · rw [if_pos he]
        · rw [if_neg he, disjoint_some l (by omega) _ (by omega), Option.bind_some]
          obtain ⟨p0, p1, p2⟩ := secP_true ht1
          obtain ⟨q0, q1, q2⟩ := secP_true ht2
          have hb1 := seqP_bd l _ (rd_mem (by omega) p1)
          have hb2 := seqP_bd l _ (rd_mem (by omega) q1)
          by_cases hd : (sizeP l == cardT (hasT l)) = true
          · rw [if_pos hd]
            rw [if_neg (fun e => he (by
              rw [p2, q2] at e
              have := rd_inj (seqP_nodup hd) (by omega) p1 (by omega) q1 (by omega)
              omega))]
            have hdv : wrap64 (Int.tdiv (secP l a1).1 8) = rd (seqP l) (a1 / 8) := by
              rw [p2, Int.tdiv_eq_ediv_of_nonneg (by omega), w64 (by omega) (by omega)]
              omega
            rw [hdv, contains_some l _ (by omega) _ (by omega), Option.bind_some, hasI_of (rd_mem (by omega) p1)]
          · rw [if_neg hd]
      · rw [if_neg ht2]
    · rw [if_neg ht1]
end Go.Proofs.Ytghpmenoiimpoaa.P
