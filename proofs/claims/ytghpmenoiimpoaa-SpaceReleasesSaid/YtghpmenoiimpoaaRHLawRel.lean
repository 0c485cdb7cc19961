import Derived.Test.YtghpmenoiimpoaaRHCut
import Derived.Test.YtghpmenoiimpoaaRHRefC
import Derived.Test.YtghpmenoiimpoaaRHLawAwake
import Derived.Test.YtghpmenoiimpoaaRPx10
import Derived.Test.YtghpmenoiimpoaaRPx11
import Derived.Test.YtghpmenoiimpoaaRPx18
import Derived.Test.YtghpmenoiimpoaaRPx41
namespace Go.Proofs.Ytghpmenoiimpoaa.P
open Go.RowKit Go.Proofs.YtghpmenoiimpoaaW.PrintWords Go.Proofs.YtghpmenoiimpoaaW.PrintLast Go.Proofs.YtghpmenoiimpoaaW.PrintMore
set_option linter.unusedVariables false
theorem append_InR {a b : List S25} (ha : InR a) (hb : InR b) : InR (a ++ b) := fun r hr => (List.mem_append.1 hr).elim (ha r) (hb r)
theorem rcut_l0 (xs : List S25) (hl : xs.length ≤ 1000000) (hx : InR xs) : ∀ (d k i : Nat) (n : Int) (us bs : List S25), i + d = xs.length → d + xs.length + 200 < k → 0 ≤ n → n ≤ 9223372036854775807 → us.length = i → bs.length = i → InR us → InR bs →
    dasdref05_Cut.l0 k xs n us bs (i : Int) = some (joinP (us ++ cutK n (xs.drop i)), joinP (bs ++ cutRest n (xs.drop i))) := by
  intro d
  induction d with
  | zero =>
    intro k i n us bs hi hk h0 h1 ha hb hai hbi
    obtain ⟨k, rfl⟩ : ∃ m, k = m + 1 := ⟨k - 1, by omega⟩
    rw [List.drop_eq_nil_of_le (by omega), dasdref05_Cut.l0, if_neg (by omega), rjoin_some us (by omega) hai k (by omega), Option.bind_some, rjoin_some bs (by omega) hbi k (by omega), Option.bind_some]
    simp only [cutK, cutRest, List.append_nil]
  | succ d ih =>
    intro k i n us bs hi hk h0 h1 ha hb hai hbi
    obtain ⟨k, rfl⟩ : ∃ m, k = m + 1 := ⟨k - 1, by omega⟩
    have hlt : i < xs.length := by omega
    have hw : wrap64 ((i : Int) + 1) = ((i + 1 : Nat) : Int) := by rw [w64 (by omega) (by omega)]; omega
    have hc := cl_bd xs[i].f0 xs[i].f1
    have hn := cutN_bd n xs[i] h0
    have hri := hx xs[i] (List.getElem_mem hlt)
    have hm : mx 0 (mn n (cl xs[i].f0 xs[i].f1).2) = cutN n xs[i] := by
      rw [show mn n (cl xs[i].f0 xs[i].f1).2 = cutN n xs[i] from rfl]
      unfold mx; split <;> omega
    have key := ih k (i + 1) (n - cutN n xs[i]) (us ++ [⟨(cl xs[i].f0 xs[i].f1).1, cutN n xs[i]⟩]) (bs ++ [⟨(cl xs[i].f0 xs[i].f1).1 + cutN n xs[i], (cl xs[i].f0 xs[i].f1).2 - cutN n xs[i]⟩]) (by omega) (by omega) (by omega) (by omega) (by simp; omega) (by simp; omega)
      (append_InR hai (fun q hq => by obtain rfl := List.mem_singleton.1 hq; unfold InI; dsimp only; omega)) (append_InR hbi (fun q hq => by obtain rfl := List.mem_singleton.1 hq; unfold InI; dsimp only; omega))
    rw [List.append_assoc, List.append_assoc, List.singleton_append, List.singleton_append] at key
    rw [List.drop_eq_getElem_cons hlt, dasdref05_Cut.l0, if_pos (by omega), if_pos (by omega), rd_at xs i hlt, rclip_some _ _ hri.1 hri.2 k (by omega), Option.bind_some, hw]
    dsimp only
    rw [hm, if_pos (by omega), Option.bind_some, if_pos (by omega), Option.bind_some, w64 (x := n - cutN n xs[i]) (by omega) (by omega), w64 (x := (cl xs[i].f0 xs[i].f1).1 + cutN n xs[i]) (by omega) (by omega), w64 (x := (cl xs[i].f0 xs[i].f1).2 - cutN n xs[i]) (by omega) (by omega)]
    simp only [cutK, cutRest]
    by_cases hp : n > 0
    · rw [if_pos hp]; exact key
    · have h00 : cutN n xs[i] = 0 := by omega
      rw [if_neg hp]
      have e : n - cutN n xs[i] = n := by omega
      rw [e] at key ⊢
      exact key
theorem rcut_some (l : List S25) (hl : l.length ≤ 1000000) (hx : InR l) (n : Int) (h0 : 0 ≤ n) (h1 : n ≤ 9223372036854775807) (k : Nat) (hk : 2 * l.length + 200 < k) : dasdref05_Cut.f k l n = some (joinP (cutK n l), joinP (cutRest n l)) := by
  unfold dasdref05_Cut.f
  have := rcut_l0 l hl hx l.length k 0 n [] [] (by omega) (by omega) h0 h1 rfl rfl InR_nil InR_nil
  rw [List.drop_zero, List.nil_append, List.nil_append] at this
  exact this
theorem seq_l1 (xs : List S25) (i : Nat) (p q : Int) (hp : 0 ≤ p) (hq : p + q ≤ 128) : ∀ (d k j : Nat) (acc : List Int), (j : Int) + d = q → acc.length + d ≤ 1000000000 →
    ∃ s : List Int, s.length = acc.length + d ∧ dasdref05_Sequence.l1 (k + d + 1) xs acc (i : Int) (j : Int) p q = dasdref05_Sequence.l0 k xs s (wrap64 ((i : Int) + 1)) := by
  intro d
  induction d with
  | zero =>
    intro k j acc hj ha
    exact ⟨acc, rfl, by rw [show k + 0 + 1 = k + 1 from rfl, dasdref05_Sequence.l1, if_neg (by omega)]⟩
  | succ d ih =>
    intro k j acc hj ha
    have hw : wrap64 ((j : Int) + 1) = ((j + 1 : Nat) : Int) := by rw [w64 (by omega) (by omega)]; omega
    obtain ⟨s, hs, e⟩ := ih k (j + 1) (acc ++ [wrap64 (p + j)]) (by omega) (by rw [List.length_append]; simp; omega)
    refine ⟨s, by rw [hs, List.length_append]; simp; omega, ?_⟩
    rw [show k + (d + 1) + 1 = (k + d + 1) + 1 by omega, dasdref05_Sequence.l1, if_pos (by omega), if_pos (by omega), hw]
    exact e
theorem seq_l0 (xs : List S25) (hl : xs.length ≤ 1000000) (hx : InR xs) : ∀ (d k i : Nat) (acc : List Int), i + d = xs.length → 300 * d + 300 < k → acc.length ≤ 128 * i →
    ∃ s : List Int, (s.length : Int) = acc.length + sizeP (xs.drop i) ∧ dasdref05_Sequence.l0 k xs acc (i : Int) = some s := by
  intro d
  induction d with
  | zero =>
    intro k i acc hi hk ha
    obtain ⟨k, rfl⟩ : ∃ m, k = m + 1 := ⟨k - 1, by omega⟩
    rw [List.drop_eq_nil_of_le (by omega)]
    exact ⟨acc, by simp [sizeP], by rw [dasdref05_Sequence.l0, if_neg (by omega)]⟩
  | succ d ih =>
    intro k i acc hi hk ha
    have hlt : i < xs.length := by omega
    have hw : wrap64 ((i : Int) + 1) = ((i + 1 : Nat) : Int) := by rw [w64 (by omega) (by omega)]; omega
    have hc := cl_bd xs[i].f0 xs[i].f1
    have hri := hx xs[i] (List.getElem_mem hlt)
    obtain ⟨q, hq⟩ : ∃ q : Nat, (q : Int) = (cl xs[i].f0 xs[i].f1).2 := ⟨(cl xs[i].f0 xs[i].f1).2.toNat, by omega⟩
    obtain ⟨k, rfl⟩ : ∃ m, k = m + q + 1 + 1 := ⟨k - q - 2, by omega⟩
    obtain ⟨s, hs, e⟩ := seq_l1 xs i (cl xs[i].f0 xs[i].f1).1 (cl xs[i].f0 xs[i].f1).2 hc.1 hc.2.2 q k 0 acc (by omega) (by omega)
    obtain ⟨s2, hs2, e2⟩ := ih k (i + 1) s (by omega) (by omega) (by omega)
    rw [show ((0 : Nat) : Int) = 0 from rfl] at e
    refine ⟨s2, ?_, ?_⟩
    · rw [hs2, hs, List.drop_eq_getElem_cons hlt]
      simp only [sizeP]
      omega
    · rw [dasdref05_Sequence.l0, if_pos (by omega), if_pos (by omega), rd_at xs i hlt, rclip_some _ _ hri.1 hri.2 _ (by omega), Option.bind_some, e, hw]
      exact e2
theorem seq_some (l : List S25) (hl : l.length ≤ 1000000) (hx : InR l) (k : Nat) (hk : 300 * l.length + 300 < k) : ∃ s : List Int, (s.length : Int) = sizeP l ∧ dasdref05_Sequence.f k l = some s := by
  obtain ⟨s, hs, e⟩ := seq_l0 l hl hx l.length k 0 [] (by omega) hk (by simp)
  rw [List.drop_zero] at hs
  exact ⟨s, by simpa using hs, e⟩
theorem rrelease_some (l : List S25) (hl : l.length ≤ 1000) (hx : InR l) (n : Int) (hn : InI n) (k : Nat) (hk : 400000 < k) : dasdref06_Release.f k l n = some ((relP l n).1, (relP l n).2.1, (relP l n).2.2) := by
  obtain ⟨k, rfl⟩ : ∃ m, k = m + 1 := ⟨k - 1, by omega⟩
  have hs := sizeP_le l
  unfold dasdref06_Release.f relP
  by_cases h1 : n < 1
  · rw [if_pos h1, if_pos (.inl h1), dasdref06_Release.j0, if_pos rfl]
  · obtain ⟨s, hsl, e⟩ := seq_some l (by omega) hx (k + 1) (by omega)
    rw [if_neg h1, e, Option.bind_some, dasdref06_Release.j0, hsl]
    by_cases h2 : n > sizeP l
    · rw [decide_eq_true h2, if_pos rfl, if_pos (.inr h2)]
    · have hk1 := joinP_length (cutK n l)
      have hk2 := joinP_length (cutRest n l)
      rw [cutK_length] at hk1
      rw [cutRest_length] at hk2
      rw [decide_eq_false h2, if_neg (by decide), rcut_some l (by omega) hx n (by omega) hn.2 k (by omega), Option.bind_some, if_neg (by omega)]
      dsimp only
      rw [rminus_some _ _ (Ex_InR (joinP_ex _)) (Ex_InR (joinP_ex _)) 1000 (by decide) (by omega) (by omega) k (by omega), Option.bind_some]
      rfl
def consP (ext free : List S25) : Int × Int × Bool := if ((joinP ext).length : Int) < 2 then (0, 0, false) else bestP (runsOf fun t => hasT free t && !hasT ext t) (sizeP ext)
theorem cons_some (ext free : List S25) (he : ext.length ≤ 1000) (k : Nat) (hk : 10000 < k) : space_Consolidate.f k ext free = some ((consP ext free).1, (consP ext free).2.1, (consP ext free).2.2) := by
  unfold space_Consolidate.f consP
  rw [join_some ext (by omega) k (by omega), Option.bind_some]
  by_cases h : ((joinP ext).length : Int) < 2
  · rw [if_pos h, if_pos h]
  · unfold extent_Minus.f
    rw [if_neg h, if_neg h, Option.bind_some, size_some ext (by omega) k (by omega), Option.bind_some, best_some _ _ k (by omega), Option.bind_some]
theorem rcons_some (ext free : List S25) (he : ext.length ≤ 1000) (hf : free.length ≤ 1000) (hx : InR ext) (hy : InR free) (k : Nat) (hk : 400000 < k) : dasdref06_Consolidate.f k ext free = some ((consP ext free).1, (consP ext free).2.1, (consP ext free).2.2) := by
  obtain ⟨s, hsl, e⟩ := seq_some ext (by omega) hx k (by omega)
  unfold dasdref06_Consolidate.f consP
  rw [rjoin_some ext (by omega) hx k (by omega), Option.bind_some]
  by_cases h : ((joinP ext).length : Int) < 2
  · rw [if_pos h, if_pos h]
  · rw [if_neg h, if_neg h, rminus_some free ext hy hx 1000 (by decide) hf he k (by omega), Option.bind_some, e, Option.bind_some, hsl, rbest_some (minusP free ext) (Ex_InR (runsOf_Ex _)) 128 (by decide) (runsOf_length _) _ k (by omega), Option.bind_some]
    rfl
theorem spaceReleases_some (l0 : List S25) (hr0 : InR l0) (l1 : List S25) (hr1 : InR l1) (a2 : Int) (h2 : InI a2) : ∃ k, dasdlaw06_SpaceReleases.f k l0 l1 a2 = some true := by
  have hgo : ∀ b : Bool, b = true ∨ (l0.length ≤ 30 ∧ l1.length ≤ 30) → dasdlaw06_SpaceReleases.j0 500000 l0 l1 a2 b = some true := by
    intro b hb
    rw [dasdlaw06_SpaceReleases.j0]
    by_cases h : b = true
    · rw [if_pos h, awake6_some _ (by decide)]
      rfl
    · obtain ⟨h0, h1⟩ := hb.resolve_left h
      have hl1 : (relP l0 a2).1.length ≤ 1000 ∧ (relP l0 a2).2.1.length ≤ 1000 := by
        unfold relP
        split
        · exact ⟨by simp, by simp⟩
        · have := joinP_length (cutK a2 l0)
          rw [cutK_length] at this
          have h3 := runsOf_length (fun t => hasT (joinP (cutRest a2 l0)) t && !hasT (joinP (cutK a2 l0)) t)
          exact ⟨by dsimp only; omega, by dsimp only; omega⟩
      rw [if_neg h, release_some l0 (by omega) a2 _ (by omega), Option.bind_some, rrelease_some l0 (by omega) hr0 a2 h2 _ (by decide), Option.bind_some, cons_some l0 l1 (by omega) _ (by decide), Option.bind_some, rcons_some l0 l1 (by omega) (by omega) hr0 hr1 _ (by decide), Option.bind_some]
      dsimp only
      rw [if_pos rfl, rsame_some _ (by omega) _ (by omega), Option.bind_some, if_pos rfl, rsame_some _ (by omega) _ (by omega), Option.bind_some, if_pos rfl, if_pos (by simp)]
      simp
  refine ⟨500000, ?_⟩
  unfold dasdlaw06_SpaceReleases.f
  rw [awake6_some _ (by decide), Option.bind_some, if_pos rfl]
  by_cases hl : (l0.length : Int) > 30
  · rw [if_pos hl]
    exact hgo true (.inl rfl)
  · rw [if_neg hl]
    refine hgo _ ?_
    by_cases hl1 : (l1.length : Int) > 30
    · exact .inl (decide_eq_true hl1)
    · exact .inr ⟨by omega, by omega⟩
end Go.Proofs.Ytghpmenoiimpoaa.P
