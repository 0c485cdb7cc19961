import Derived.Test.YtghpmenoiimpoaaDHJoin
import Derived.Test.YtghpmenoiimpoaaDPx17
namespace Go.Proofs.Ytghpmenoiimpoaa.P
open Go.RowKit Go.Proofs.YtghpmenoiimpoaaW.PrintWords Go.Proofs.YtghpmenoiimpoaaW.PrintLast Go.Proofs.YtghpmenoiimpoaaW.PrintMore
set_option linter.unusedVariables false
def sumN (f : Nat → Int) : Nat → Int
  | 0 => 0
  | n + 1 => sumN f n + f n
theorem sumN_add (f g : Nat → Int) : ∀ n, sumN (fun t => f t + g t) n = sumN f n + sumN g n
  | 0 => rfl
  | n + 1 => by simp only [sumN]; rw [sumN_add f g n]; omega
theorem sumN_congr {f g : Nat → Int} : ∀ n, (∀ t, t < n → f t = g t) → sumN f n = sumN g n
  | 0, _ => rfl
  | n + 1, h => by simp only [sumN]; rw [sumN_congr n (fun t ht => h t (by omega)), h n (by omega)]
theorem sumN_zero : ∀ n, sumN (fun _ => 0) n = 0
  | 0 => rfl
  | n + 1 => by simp only [sumN]; rw [sumN_zero n]; rfl
theorem sumN_seg (a c : Int) (h0 : 0 ≤ a) (h1 : 0 ≤ c) : ∀ n : Nat, sumN (fun t => if a ≤ (t : Int) ∧ (t : Int) < a + c then 1 else 0) n = (if (n : Int) ≤ a then 0 else if (n : Int) ≤ a + c then n - a else c)
  | 0 => by simp only [sumN]; split <;> (try split) <;> omega
  | n + 1 => by
    simp only [sumN]
    rw [sumN_seg a c h0 h1 n]
    split <;> (try split) <;> (try split) <;> (try split) <;> (try split) <;> omega
/-- How often a run has a track: 0 or 1. -/
def cntR (r : S25) (t : Nat) : Int := if (cl r.f0 r.f1).1 ≤ (t : Int) ∧ (t : Int) < (cl r.f0 r.f1).1 + (cl r.f0 r.f1).2 then 1 else 0
def mult : List S25 → Nat → Int
  | [], _ => 0
  | r :: l, t => cntR r t + mult l t
def sizeP : List S25 → Int
  | [] => 0
  | r :: l => (cl r.f0 r.f1).2 + sizeP l
def cardT (p : Nat → Bool) : Int := sumN (fun t => if p t = true then 1 else 0) 128
theorem cntR_bd (r : S25) (t : Nat) : 0 ≤ cntR r t ∧ cntR r t ≤ 1 := by unfold cntR; split <;> omega
theorem sum_cnt (r : S25) : sumN (cntR r) 128 = (cl r.f0 r.f1).2 := by
  have h := cl_bd r.f0 r.f1
  have := sumN_seg (cl r.f0 r.f1).1 (cl r.f0 r.f1).2 (by omega) (by omega) 128
  unfold cntR
  rw [this]
  split <;> (try split) <;> omega
theorem sizeP_mult : ∀ l, sizeP l = sumN (mult l) 128
  | [] => by
    have : mult [] = fun _ => 0 := by funext t; rfl
    rw [this, sumN_zero]; rfl
  | r :: l => by
    have : mult (r :: l) = fun t => cntR r t + mult l t := by funext t; rfl
    rw [this, sumN_add, sum_cnt, ← sizeP_mult l]; rfl
theorem mult_nonneg (l : List S25) (t : Nat) : 0 ≤ mult l t := by
  induction l with
  | nil => exact Int.le_refl _
  | cons r l ih => have := cntR_bd r t; simp only [mult]; omega
theorem hasT_mult (l : List S25) (t : Nat) : hasT l t = decide (1 ≤ mult l t) := by
  induction l with
  | nil => rfl
  | cons r l ih =>
    have h1 := cntR_bd r t
    have h2 := mult_nonneg l t
    have e : hasT (r :: l) t = ((decide ((cl r.f0 r.f1).1 ≤ t) && decide ((t : Int) < (cl r.f0 r.f1).1 + (cl r.f0 r.f1).2)) || hasT l t) := rfl
    rw [e, ih, ← Bool.decide_and, ← Bool.decide_or]
    refine decide_eq_decide.2 ?_
    simp only [mult]
    unfold cntR at *
    split <;> rename_i h <;> constructor <;> intro h3
    · omega
    · exact .inl h
    · rcases h3 with h3 | h3
      · exact absurd h3 h
      · omega
    · exact .inr (by omega)
theorem cntR_Ex (r : S25) (h0 : 0 ≤ r.f0) (h1 : 1 ≤ r.f1) (h2 : r.f0 + r.f1 ≤ 128) (t : Nat) : cntR r t = if r.f0 ≤ (t : Int) ∧ (t : Int) < r.f0 + r.f1 then 1 else 0 := by
  unfold cntR
  rw [cl_id _ _ h0 h1 h2]
theorem mult_chain (t : Nat) : ∀ l, Ex l → (l.Pairwise fun r s => r.f0 + r.f1 ≤ s.f0) → mult l t ≤ 1
  | [], _, _ => by simp [mult]
  | r :: l, hex, hp => by
    have ih := mult_chain t l (fun q hq => hex q (by simp [hq])) (List.pairwise_cons.1 hp).2
    have hr := hex r (by simp)
    have hc := cntR_Ex r hr.1 hr.2.1 hr.2.2 t
    simp only [mult]
    by_cases h : r.f0 ≤ (t : Int) ∧ (t : Int) < r.f0 + r.f1
    · rw [if_pos h] at hc
      have h0 : hasT l t = false := by
        rw [Bool.eq_false_iff, ne_eq, hasT_iff]
        rintro ⟨s, hs, h1, h2⟩
        have hb := hex s (by simp [hs])
        have := (List.pairwise_cons.1 hp).1 s hs
        rw [cl_id _ _ hb.1 hb.2.1 hb.2.2] at h1 h2
        dsimp only at h1 h2
        omega
      rw [hasT_mult, decide_eq_false_iff_not] at h0
      omega
    · rw [if_neg h] at hc
      omega
theorem mult_runsOf (p : Nat → Bool) (t : Nat) (ht : t < 128) : mult (runsOf p) t = if p t = true then 1 else 0 := by
  have h1 := hasT_runsOf p t ht
  have h2 := mult_chain t (runsOf p) (runsOf_bd p) ((runsOf_chain p).imp (fun h => by omega))
  have h3 := mult_nonneg (runsOf p) t
  rw [hasT_mult] at h1
  by_cases h : p t = true
  · rw [h, decide_eq_true_eq] at h1
    rw [if_pos h]; omega
  · rw [Bool.eq_false_iff.2 h, decide_eq_false_iff_not] at h1
    rw [if_neg h]; omega
theorem size_runsOf (p : Nat → Bool) : sizeP (runsOf p) = cardT p := by
  rw [sizeP_mult]
  exact sumN_congr 128 fun t ht => mult_runsOf p t ht
theorem runsOf_nil (p : Nat → Bool) (h : ∀ t, t < 128 → p t = false) : runsOf p = [] := by
  cases e : runsOf p with
  | nil => rfl
  | cons r l =>
    have hr := runsOf_bd p r (by rw [e]; simp)
    have := (runsOf_mem p r.f0.toNat).1 ⟨r, by rw [e]; simp, by omega, by omega⟩
    rw [h _ this.1] at this
    exact absurd this.2 (by decide)
theorem size_l0 (xs : List S25) (hl : xs.length ≤ 1000000000) : ∀ (d k i : Nat) (acc : Int), i + d = xs.length → d + 2 < k → 0 ≤ acc → acc ≤ 128 * (i : Int) →
    extent_Size.l0 k acc xs (xs.length : Int) (i : Int) = some (acc + sizeP (xs.drop i)) := by
  intro d
  induction d with
  | zero =>
    intro k i acc hi hk h0 h1
    obtain ⟨k, rfl⟩ : ∃ m, k = m + 1 := ⟨k - 1, by omega⟩
    rw [List.drop_eq_nil_of_le (by omega), extent_Size.l0, if_neg (by omega)]
    simp [sizeP]
  | succ d ih =>
    intro k i acc hi hk h0 h1
    obtain ⟨k, rfl⟩ : ∃ m, k = m + 1 := ⟨k - 1, by omega⟩
    have hlt : i < xs.length := by omega
    have hw : wrap64 ((i : Int) + 1) = ((i + 1 : Nat) : Int) := by rw [w64 (by omega) (by omega)]; omega
    have hb := cl_bd xs[i].f0 xs[i].f1
    rw [List.drop_eq_getElem_cons hlt, extent_Size.l0, if_pos (by omega), if_pos (by omega), if_pos (by omega), rd_at xs i hlt, clip_ge k _ _ (by omega), Option.bind_some, hw]
    dsimp only
    rw [w64 (x := acc + (cl xs[i].f0 xs[i].f1).2) (by omega) (by omega), ih k (i + 1) _ (by omega) (by omega) (by omega) (by omega)]
    simp only [sizeP]
    rw [Int.add_assoc]
theorem size_some (l : List S25) (hl : l.length ≤ 1000000000) (k : Nat) (hk : l.length + 2 < k) : extent_Size.f k l = some (sizeP l) := by
  unfold extent_Size.f
  have := size_l0 l hl l.length k 0 0 (by omega) hk (by omega) (by omega)
  rw [List.drop_zero, Int.zero_add] at this
  exact this
theorem disjoint_some (l : List S25) (hl : l.length ≤ 1000000000) (k : Nat) (hk : l.length + 200 < k) : extent_Disjoint.f k l = some (sizeP l == cardT (hasT l)) := by
  have := runsOf_length (hasT l)
  unfold extent_Disjoint.f extent_Normal.f
  rw [size_some l hl k (by omega), Option.bind_some, Option.bind_some, size_some _ (by omega) k (by omega), Option.bind_some, size_runsOf]
end Go.Proofs.Ytghpmenoiimpoaa.P
