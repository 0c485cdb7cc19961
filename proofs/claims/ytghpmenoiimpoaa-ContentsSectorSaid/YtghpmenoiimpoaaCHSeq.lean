import Derived.Test.YtghpmenoiimpoaaCHCount
import Derived.Test.YtghpmenoiimpoaaCPx0
import Derived.Test.YtghpmenoiimpoaaCPx13
import Derived.Test.YtghpmenoiimpoaaCPx16
import Derived.Test.YtghpmenoiimpoaaCPx17
import Derived.Test.YtghpmenoiimpoaaCHExtent
namespace Go.Proofs.Ytghpmenoiimpoaa.P
open Go.RowKit Go.Proofs.YtghpmenoiimpoaaW.PrintWords Go.Proofs.YtghpmenoiimpoaaW.PrintLast Go.Proofs.YtghpmenoiimpoaaW.PrintMore
set_option linter.unusedVariables false
def segI (p : Int) (k : Nat) : List Int := (List.range k).map fun i : Nat => p + (i : Int)
def seqR (r : S25) : List Int := segI (cl r.f0 r.f1).1 (cl r.f0 r.f1).2.toNat
def seqP : List S25 → List Int
  | [] => []
  | r :: l => seqR r ++ seqP l
theorem segI_length (p : Int) (k : Nat) : (segI p k).length = k := by simp [segI]
theorem segI_succ (p : Int) (k : Nat) : segI p (k + 1) = segI p k ++ [p + (k : Int)] := by simp [segI, List.range_succ]
theorem segI_add (p : Int) (a : Nat) : ∀ b, segI p (a + b) = segI p a ++ segI (p + (a : Int)) b
  | 0 => by simp [segI]
  | b + 1 => by
    rw [show a + (b + 1) = (a + b) + 1 by omega, segI_succ, segI_add p a b, segI_succ, List.append_assoc]
    congr 3
    omega
theorem segI_mem {p : Int} {k : Nat} {t : Int} : t ∈ segI p k ↔ p ≤ t ∧ t < p + k := by
  unfold segI
  rw [List.mem_map]
  constructor
  · rintro ⟨i, hi, rfl⟩
    have := List.mem_range.1 hi
    omega
  · rintro ⟨h1, h2⟩
    exact ⟨(t - p).toNat, List.mem_range.2 (by omega), by omega⟩
theorem seqP_bd : ∀ (l : List S25) (t : Int), t ∈ seqP l → 0 ≤ t ∧ t < 128
  | [], t, h => by simp [seqP] at h
  | r :: l, t, h => by
    have hc := cl_bd r.f0 r.f1
    simp only [seqP] at h
    rcases List.mem_append.1 h with h | h
    · have := segI_mem.1 h
      omega
    · exact seqP_bd l t h
theorem segI_count (p t : Int) : ∀ k, ((segI p k).count t : Int) = if p ≤ t ∧ t < p + (k : Int) then 1 else 0
  | 0 => by
    rw [if_neg (by omega)]; rfl
  | k + 1 => by
    rw [segI_succ, List.count_append, List.count_singleton]
    have ih := segI_count p t k
    by_cases h : p + (k : Int) = t
    · rw [if_neg (by omega)] at ih
      rw [if_pos (by simpa using h), if_pos (by omega)]
      omega
    · rw [if_neg (by simpa using h)]
      by_cases h2 : p ≤ t ∧ t < p + (k : Int)
      · rw [if_pos h2] at ih
        rw [if_pos (by omega)]
        omega
      · rw [if_neg h2] at ih
        rw [if_neg (by omega)]
        omega
theorem mult_count (t : Nat) : ∀ l, mult l t = ((seqP l).count (t : Int) : Int)
  | [] => rfl
  | r :: l => by
    have hc := cl_bd r.f0 r.f1
    simp only [mult, seqP, List.count_append]
    rw [mult_count t l]
    have := segI_count (cl r.f0 r.f1).1 (t : Int) (cl r.f0 r.f1).2.toNat
    unfold seqR
    rw [show (((cl r.f0 r.f1).2.toNat : Nat) : Int) = (cl r.f0 r.f1).2 by omega] at this
    unfold cntR
    omega
theorem hasT_seq (l : List S25) (t : Nat) : hasT l t = decide ((t : Int) ∈ seqP l) := by
  rw [hasT_mult, mult_count]
  refine decide_eq_decide.2 ?_
  rw [← List.count_pos_iff]
  omega
end Go.Proofs.Ytghpmenoiimpoaa.P
