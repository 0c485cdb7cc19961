import Derived.Test.YtghpmenoiimpoaaSHFree
import Derived.Test.YtghpmenoiimpoaaSHRefB
import Derived.Test.YtghpmenoiimpoaaSPx10
import Derived.Test.YtghpmenoiimpoaaSPx9
import Derived.Test.YtghpmenoiimpoaaSPx7
import Derived.Test.YtghpmenoiimpoaaSPx19
import Derived.Test.YtghpmenoiimpoaaSPx39
namespace Go.Proofs.Ytghpmenoiimpoaa.P
open Go.RowKit Go.Proofs.YtghpmenoiimpoaaW.PrintWords Go.Proofs.YtghpmenoiimpoaaW.PrintLast Go.Proofs.YtghpmenoiimpoaaW.PrintMore
set_option linter.unusedVariables false
theorem InR_Ex {l : List S25} (h : Ex l) : InR l := fun r hr => by have := h r hr; unfold InI; omega
theorem rminus_any (xs ys : List S25) (hx : InR xs) (hy : InR ys) (n : Nat) (hn : n ≤ 1000000000) (hxl : xs.length ≤ n) (hyl : ys.length ≤ n) (k : Nat) (hk : n + 400 < k) :
    dasdref06_minus.f k xs ys = some (runsOf fun t => hasT xs t && !hasT ys t) := by
  unfold dasdref06_minus.f
  rw [rSet_some xs ys hx hy true false false n hn hxl hyl k hk, Option.bind_some]
  refine congrArg some (runsOf_congr fun t _ => ?_)
  unfold comb
  cases hasT xs t <;> cases hasT ys t <;> rfl
def ones (a b : Int) (n : Nat) : List S25 := ((List.range n).filter fun t : Nat => decide (a ≤ (t : Int)) && decide ((t : Int) < b)).map fun t : Nat => ⟨(t : Int), 1⟩
theorem rfree_l0 (a b : Int) (used : List S25) (hu : InR used) (hl : used.length ≤ 1000) : ∀ (d k i : Nat), i + d = 128 → d + 2000 < k → dasdref06_Free.l0 k a b used (ones a b i) (i : Int) = some (freeP a b used) := by
  intro d
  induction d with
  | zero =>
    intro k i hi hk
    obtain ⟨k, rfl⟩ : ∃ m, k = m + 1 := ⟨k - 1, by omega⟩
    obtain rfl : i = 128 := by omega
    have hex : Ex (ones a b 128) := fun r hr => by
      obtain ⟨t, ht, rfl⟩ := List.mem_map.1 hr
      have := List.mem_range.1 (List.mem_filter.1 ht).1
      dsimp only; omega
    have hlen : (ones a b 128).length ≤ 128 := by
      unfold ones
      rw [List.length_map]
      exact Nat.le_trans (List.length_filter_le _ _) (by simp)
    rw [dasdref06_Free.l0, if_neg (by omega), rminus_any _ used (InR_Ex hex) hu 1000 (by decide) (by omega) hl k (by omega), Option.bind_some]
    refine congrArg some (runsOf_congr fun t ht => ?_)
    congr 1
    rw [Bool.eq_iff_iff, hasT_iff, Bool.and_eq_true, decide_eq_true_eq, decide_eq_true_eq]
    constructor
    · rintro ⟨r, hr, h1, h2⟩
      have hb := hex r hr
      rw [cl_id _ _ hb.1 hb.2.1 hb.2.2] at h1 h2
      obtain ⟨q, hq, rfl⟩ := List.mem_map.1 hr
      have h3 := (List.mem_filter.1 hq).2
      rw [Bool.and_eq_true, decide_eq_true_eq, decide_eq_true_eq] at h3
      dsimp only at h1 h2
      omega
    · intro h
      have hr : (⟨(t : Int), 1⟩ : S25) ∈ ones a b 128 := List.mem_map.2 ⟨t, List.mem_filter.2 ⟨List.mem_range.2 ht, by rw [Bool.and_eq_true, decide_eq_true_eq, decide_eq_true_eq]; exact h⟩, rfl⟩
      have hb := hex _ hr
      refine ⟨_, hr, ?_⟩
      rw [cl_id _ _ hb.1 hb.2.1 hb.2.2]
      dsimp only; omega
  | succ d ih =>
    intro k i hi hk
    obtain ⟨k, rfl⟩ : ∃ m, k = m + 1 := ⟨k - 1, by omega⟩
    have hw : wrap64 ((i : Int) + 1) = ((i + 1 : Nat) : Int) := by rw [w64 (by omega) (by omega)]; omega
    have ih' := ih k (i + 1) (by omega) (by omega)
    have hlen : (ones a b i).length < 8796093022208 := by
      unfold ones
      rw [List.length_map]
      exact Nat.lt_of_le_of_lt (List.length_filter_le _ _) (by simp; omega)
    have e : ones a b (i + 1) = ones a b i ++ (if (decide (a ≤ (i : Int)) && decide ((i : Int) < b)) = true then [⟨(i : Int), 1⟩] else []) := by
      unfold ones
      rw [List.range_succ, List.filter_append, List.map_append]
      congr 1
      rw [List.filter_cons, List.filter_nil]
      split <;> rfl
    rw [e] at ih'
    rw [dasdref06_Free.l0, if_pos (by omega), hw]
    by_cases h1 : (i : Int) ≥ a
    · rw [if_pos h1]
      by_cases h2 : (i : Int) < b
      · rw [decide_eq_true (show a ≤ (i : Int) from h1), decide_eq_true h2, if_pos (by decide)] at ih'
        rw [if_pos h2, if_pos hlen]
        exact ih'
      · rw [decide_eq_false h2, Bool.and_false, if_neg (by decide), List.append_nil] at ih'
        rw [if_neg h2]
        exact ih'
    · rw [decide_eq_false (show ¬ a ≤ (i : Int) from h1), Bool.false_and, if_neg (by decide), List.append_nil] at ih'
      rw [if_neg h1]
      exact ih'
theorem rfree_some (a b : Int) (used : List S25) (hu : InR used) (hl : used.length ≤ 1000) (k : Nat) (hk : 3000 < k) : dasdref06_Free.f k a b used = some (freeP a b used) :=
  rfree_l0 a b used hu hl 128 k 0 rfl (by omega)
def maxF : Int → List S25 → Int
  | m, [] => m
  | m, r :: l => maxF (mx m r.f1) l
theorem largest_l0 (xs : List S25) (hl : xs.length ≤ 9223372036854775806) : ∀ (d k i : Nat) (m : Int), i + d = xs.length → d < k → space_Largest.l0 k m xs (xs.length : Int) (i : Int) = some (maxF m (xs.drop i)) := by
  intro d
  induction d with
  | zero =>
    intro k i m hi hk
    obtain ⟨k, rfl⟩ : ∃ m, k = m + 1 := ⟨k - 1, by omega⟩
    rw [List.drop_eq_nil_of_le (by omega), space_Largest.l0, if_neg (by omega)]
    rfl
  | succ d ih =>
    intro k i m hi hk
    obtain ⟨k, rfl⟩ : ∃ m, k = m + 1 := ⟨k - 1, by omega⟩
    have hlt : i < xs.length := by omega
    have hw : wrap64 ((i : Int) + 1) = ((i + 1 : Nat) : Int) := by rw [w64 (by omega) (by omega)]; omega
    rw [List.drop_eq_getElem_cons hlt, space_Largest.l0, if_pos (by omega), if_pos (by omega), if_pos (by omega), rd_at xs i hlt, hw, ih k (i + 1) _ (by omega) (by omega), maxF]
theorem largest_some (l : List S25) (k : Nat) (hk : 128 < k) : space_Largest.f k l = some (maxF 0 (runsOf (hasT l))) := by
  have := runsOf_length (hasT l)
  unfold space_Largest.f extent_Normal.f
  rw [Option.bind_some]
  exact largest_l0 _ (by omega) (runsOf (hasT l)).length k 0 0 (by omega) (by omega)
theorem maxF_spec : ∀ (l : List S25) (m : Int), m ≤ maxF m l ∧ (∀ r ∈ l, r.f1 ≤ maxF m l) ∧ (maxF m l = m ∨ ∃ r ∈ l, maxF m l = r.f1)
  | [], m => ⟨Int.le_refl _, fun r hr => by simp at hr, .inl rfl⟩
  | r :: l, m => by
    have h := maxF_spec l (mx m r.f1)
    have hm : m ≤ mx m r.f1 ∧ r.f1 ≤ mx m r.f1 ∧ (mx m r.f1 = m ∨ mx m r.f1 = r.f1) := by unfold mx; split <;> omega
    simp only [maxF]
    refine ⟨by omega, fun q hq => ?_, ?_⟩
    · rcases List.mem_cons.1 hq with rfl | hq
      · omega
      · exact h.2.1 q hq
    · rcases h.2.2 with h2 | ⟨q, hq, h2⟩
      · rcases hm.2.2 with h3 | h3
        · exact .inl (by omega)
        · exact .inr ⟨r, by simp, by omega⟩
      · exact .inr ⟨q, by simp [hq], h2⟩
theorem maxF_sorted (l : List S25) (h : Ex l) (x : S25) (ys : List S25) (hp : (x :: ys).Perm l) (hs : (x :: ys).Pairwise leR) : maxF 0 l = x.f1 := by
  have hm := maxF_spec l 0
  have h1 := hm.2.1 x (hp.mem_iff.1 (by simp))
  have hx := h x (hp.mem_iff.1 (by simp))
  rcases hm.2.2 with h2 | ⟨r, hr, h2⟩
  · omega
  · rcases List.mem_cons.1 (hp.mem_iff.2 hr) with rfl | hr
    · exact h2
    · have := (List.pairwise_cons.1 hs).1 r hr
      unfold leR at this
      omega
theorem sortR_sorted (p : Nat → Bool) : (sortR (runsOf p)).Pairwise leR := sortFrom_sorted _ ((runsOf_chain p).imp_of_mem (fun {a b} ha _ h => by have := runsOf_bd p a ha; omega)) 128
theorem sumF_perm' {a b : List S25} (h : a.Perm b) : sumF a = sumF b := by
  induction h with
  | nil => rfl
  | cons x _ ih => simp only [sumF]; omega
  | swap x y l => simp only [sumF]; omega
  | trans _ _ h1 h2 => omega
def fragP (l : List S25) : Int × Int := if sumF (runsOf (hasT l)) = 0 then (0, 0) else (((runsOf (hasT l)).length : Int), wrap64 (Int.tdiv (wrap64 (100 * wrap64 (sumF (runsOf (hasT l)) - maxF 0 (runsOf (hasT l))))) (sumF (runsOf (hasT l)))))
theorem fragments_some (l : List S25) (k : Nat) (hk : 1000 < k) : space_Fragments.f k l = some ((fragP l).1, (fragP l).2) := by
  have hlen := runsOf_length (hasT l)
  unfold space_Fragments.f extent_Normal.f fragP
  rw [Option.bind_some, size_some _ (by omega) k (by omega), Option.bind_some, sizeP_Ex _ (runsOf_bd _)]
  by_cases h : sumF (runsOf (hasT l)) = 0
  · rw [if_pos h, if_pos h]
  · rw [if_neg h, if_neg h, largest_some _ k (by omega), Option.bind_some, runsOf_again]
theorem rfrag_l0 (xs : List S25) (hx : Ex xs) (hl : xs.length ≤ 1000) (res : Int × Int) (hres : res = (if sumF xs = 0 then (0, 0) else ((xs.length : Int), wrap64 (Int.tdiv (wrap64 (100 * wrap64 (sumF xs - (rd_T25 xs 0).f1))) (sumF xs))))) : ∀ (d k i : Nat) (acc : Int), i + d = xs.length → d < k → 0 ≤ acc → acc ≤ 128 * (i : Int) → acc + sumF (xs.drop i) = sumF xs →
    dasdref06_Fragments.l0 k xs acc (i : Int) = some (res.1, res.2) := by
  intro d
  induction d with
  | zero =>
    intro k i acc hi hk h0 h1 hs
    obtain ⟨k, rfl⟩ : ∃ m, k = m + 1 := ⟨k - 1, by omega⟩
    rw [List.drop_eq_nil_of_le (by omega)] at hs
    have hs' : acc = sumF xs := by simpa [sumF] using hs
    rw [dasdref06_Fragments.l0, if_neg (by omega), hs', hres]
    by_cases h : sumF xs = 0
    · rw [if_pos h, if_pos h]
    · have hpos : 0 < xs.length := by
        rcases Nat.eq_zero_or_pos xs.length with h2 | h2
        · obtain rfl := List.eq_nil_of_length_eq_zero h2
          exact absurd rfl h
        · exact h2
      rw [if_neg h, if_neg h, if_pos (by omega)]
  | succ d ih =>
    intro k i acc hi hk h0 h1 hs
    obtain ⟨k, rfl⟩ : ∃ m, k = m + 1 := ⟨k - 1, by omega⟩
    have hlt : i < xs.length := by omega
    have hw : wrap64 ((i : Int) + 1) = ((i + 1 : Nat) : Int) := by rw [w64 (by omega) (by omega)]; omega
    have hb := hx xs[i] (List.getElem_mem hlt)
    rw [List.drop_eq_getElem_cons hlt] at hs
    simp only [sumF] at hs
    rw [dasdref06_Fragments.l0, if_pos (by omega), if_pos (by omega), rd_at xs i hlt, hw, w64 (x := acc + xs[i].f1) (by omega) (by omega)]
    exact ih k (i + 1) _ (by omega) (by omega) (by omega) (by omega) (by omega)
theorem rfrag_some (l : List S25) (hx : InR l) (m : Nat) (hm : m ≤ 1000000000) (hxl : l.length ≤ m) (k : Nat) (hk : m + 20000 < k) : dasdref06_Fragments.f k l = some ((fragP l).1, (fragP l).2) := by
  have hp := sortR_perm (l := runsOf (hasT l)) (fun r hr => by have := runsOf_bd _ r hr; omega)
  have hlen := hp.length_eq
  have hlr := runsOf_length (hasT l)
  have hso := sortR_sorted (hasT l)
  have hex : Ex (sortR (runsOf (hasT l))) := fun r hr => runsOf_bd _ r (hp.mem_iff.1 hr)
  unfold dasdref06_Fragments.f
  rw [rsorted_some l hx m hm hxl k hk, Option.bind_some]
  refine rfrag_l0 (sortR (runsOf (hasT l))) hex (by omega) (fragP l) ?_ (sortR (runsOf (hasT l))).length k 0 0 (by omega) (by omega) (by omega) (by omega) (by rw [List.drop_zero, Int.zero_add])
  unfold fragP
  rw [sumF_perm' hp, hlen]
  by_cases h : sumF (runsOf (hasT l)) = 0
  · rw [if_pos h, if_pos h]
  · rw [if_neg h, if_neg h]
    cases e : sortR (runsOf (hasT l)) with
    | nil => rw [e] at hp; rw [← hp.nil_eq] at h; exact absurd rfl h
    | cons x ys =>
      rw [e] at hp hso
      rw [maxF_sorted _ (runsOf_bd _) x ys hp hso]
      rfl
theorem rlargest_some (l : List S25) (hx : InR l) (m : Nat) (hm : m ≤ 1000000000) (hxl : l.length ≤ m) (k : Nat) (hk : m + 20000 < k) : dasdref06_Largest.f k l = some (maxF 0 (runsOf (hasT l))) := by
  have hp := sortR_perm (l := runsOf (hasT l)) (fun r hr => by have := runsOf_bd _ r hr; omega)
  have hso := sortR_sorted (hasT l)
  unfold dasdref06_Largest.f
  rw [rsorted_some l hx m hm hxl k hk, Option.bind_some]
  cases e : sortR (runsOf (hasT l)) with
  | nil => rw [e] at hp; rw [← hp.nil_eq]; rfl
  | cons x ys =>
    rw [e] at hp hso
    rw [maxF_sorted _ (runsOf_bd _) x ys hp hso, if_neg (by simp only [List.length_cons]; omega), if_pos (by simp only [List.length_cons]; omega)]
    rfl
theorem spaceFree_some (a0 a1 : Int) (l2 : List S25) (hr : InR l2) (h0 : InI a0) (h1 : InI a1) : ∃ k, dasdlaw06_SpaceFree.f k a0 a1 l2 = some true := by
  refine ⟨40000, ?_⟩
  unfold dasdlaw06_SpaceFree.f
  rw [awake6_some _ (by decide), Option.bind_some, if_pos rfl, dasdlaw06_SpaceFree.j0]
  by_cases hl : (l2.length : Int) > 30
  · rw [decide_eq_true hl, if_pos rfl, awake6_some _ (by decide)]
    rfl
  · have hfl : (freeP a0 a1 l2).length ≤ 128 := runsOf_length _
    rw [decide_eq_false hl, if_neg (by decide), fragments_some _ _ (by decide), Option.bind_some, rfrag_some l2 hr 30 (by decide) (by omega) _ (by decide), Option.bind_some, free_some, Option.bind_some, rfree_some a0 a1 l2 hr (by omega) _ (by decide), Option.bind_some, rsame_some _ (by omega) _ (by omega), Option.bind_some, if_pos rfl, largest_some _ _ (by decide), Option.bind_some, rlargest_some l2 hr 30 (by decide) (by omega) _ (by decide), Option.bind_some, if_pos rfl]
    dsimp only
    rw [if_pos rfl]
    simp
end Go.Proofs.Ytghpmenoiimpoaa.P
