import Derived.Test.YtghpmenoiimpoaaDHBest
import Derived.Test.YtghpmenoiimpoaaDHSort
namespace Go.Proofs.Ytghpmenoiimpoaa.P
open Go.RowKit Go.Sort Go.Proofs.YtghpmenoiimpoaaW.PrintWords Go.Proofs.YtghpmenoiimpoaaW.PrintLast Go.Proofs.YtghpmenoiimpoaaW.PrintMore
set_option linter.unusedVariables false
def leR (a b : S25) : Prop := b.f1 < a.f1 ∨ (a.f1 = b.f1 ∧ a.f0 ≤ b.f0)
theorem sortFrom_mem (l : List S25) : ∀ n r, r ∈ sortFrom l n → r ∈ l ∧ 1 ≤ r.f1 ∧ r.f1 ≤ n
  | 0, r, h => by simp [sortFrom] at h
  | n + 1, r, h => by
    rw [sortFrom, List.mem_append, List.mem_filter] at h
    rcases h with ⟨h1, h2⟩ | h
    · have := beq_iff_eq.1 h2
      exact ⟨h1, by omega, by omega⟩
    · have := sortFrom_mem l n r h
      exact ⟨this.1, this.2.1, by omega⟩
theorem sortFrom_perm (l : List S25) : ∀ n, (sortFrom l n).Perm (l.filter fun r => decide (1 ≤ r.f1) && decide (r.f1 ≤ n))
  | 0 => by
    rw [List.filter_eq_nil_iff.2 (by intro a _; simp; omega)]
    exact List.Perm.refl _
  | n + 1 => by
    have ih := sortFrom_perm l n
    have h1 := List.filter_append_perm (fun r : S25 => r.f1 == ((n + 1 : Nat) : Int)) (l.filter fun r => decide (1 ≤ r.f1) && decide (r.f1 ≤ ((n + 1 : Nat) : Int)))
    rw [List.filter_filter, List.filter_filter] at h1
    refine List.Perm.trans ?_ h1
    rw [sortFrom]
    refine List.Perm.append ?_ ?_
    · have : (l.filter fun r => r.f1 == ((n + 1 : Nat) : Int)) = l.filter fun a => (a.f1 == ((n + 1 : Nat) : Int)) && (decide (1 ≤ a.f1) && decide (a.f1 ≤ ((n + 1 : Nat) : Int))) := by
        apply List.filter_congr
        intro r _
        rw [Bool.eq_iff_iff]
        simp
        omega
      rw [this]
    · refine ih.trans ?_
      have : (l.filter fun r => decide (1 ≤ r.f1) && decide (r.f1 ≤ (n : Int))) = l.filter fun a => (!(a.f1 == ((n + 1 : Nat) : Int))) && (decide (1 ≤ a.f1) && decide (a.f1 ≤ ((n + 1 : Nat) : Int))) := by
        apply List.filter_congr
        intro r _
        rw [Bool.eq_iff_iff]
        simp
        omega
      rw [this]
theorem sortFrom_sorted (l : List S25) (h : l.Pairwise fun r s => r.f0 < s.f0) : ∀ n, (sortFrom l n).Pairwise leR
  | 0 => List.Pairwise.nil
  | n + 1 => by
    rw [sortFrom, List.pairwise_append]
    refine ⟨?_, sortFrom_sorted l h n, ?_⟩
    · have h2 := List.Pairwise.sublist (List.filter_sublist (p := fun r : S25 => r.f1 == ((n + 1 : Nat) : Int))) h
      refine List.Pairwise.imp_of_mem ?_ h2
      intro a b ha hb hab
      have h3 := beq_iff_eq.1 (List.mem_filter.1 ha).2
      have h4 := beq_iff_eq.1 (List.mem_filter.1 hb).2
      exact .inr ⟨by omega, by omega⟩
    · intro a ha b hb
      have h3 := beq_iff_eq.1 (List.mem_filter.1 ha).2
      have h4 := (sortFrom_mem l n b hb).2.2
      exact .inl (by omega)
theorem sortR_unique {l ys : List S25} (h : l.Pairwise fun r s => r.f0 < s.f0) (hb : ∀ r ∈ l, 1 ≤ r.f1 ∧ r.f1 ≤ 128) (hp : ys.Perm l) (hs : ys.Pairwise leR) : ys = sortR l := by
  have h1 : (sortR l).Perm l := by
    refine (sortFrom_perm l 128).trans ?_
    rw [List.filter_eq_self.2 (by intro a ha; have := hb a ha; simp; omega)]
  refine List.Perm.eq_of_pairwise ?_ hs (sortFrom_sorted l h 128) (hp.trans h1.symm)
  intro a b _ _ hab hba
  unfold leR at hab hba
  exact S25_ext (by omega) (by omega)
theorem sortR_perm {l : List S25} (hb : ∀ r ∈ l, 1 ≤ r.f1 ∧ r.f1 ≤ 128) : (sortR l).Perm l := by
  refine (sortFrom_perm l 128).trans ?_
  rw [List.filter_eq_self.2 (by intro a ha; have := hb a ha; simp; omega)]
abbrev RB := Fin 256 × Fin 256
def encB (x : RB) : List Value := [.int .i64 (x.1.val : Int), .int .i64 (x.2.val : Int)]
def cfB (x y : RB) : Int := if x.2 = y.2 then (x.1.val : Int) - (y.1.val : Int) else (y.2.val : Int) - (x.2.val : Int)
def unB (x : RB) : S25 := ⟨(x.1.val : Int), (x.2.val : Int)⟩
theorem encB_len (x : RB) : (encB x).length = 2 := rfl
theorem encB_one (x : RB) : ∀ v ∈ encB x, v.oneCell' = true := by
  intro v hv
  simp only [encB, List.mem_cons, List.not_mem_nil, or_false] at hv
  rcases hv with rfl | rfl <;> rfl
theorem ltB_iff (x y : RB) : ltOf cfB x y = true ↔ (y.2.val < x.2.val ∨ (x.2.val = y.2.val ∧ x.1.val < y.1.val)) := by
  unfold ltOf cfB
  rw [decide_eq_true_iff]
  by_cases h : x.2 = y.2
  · rw [if_pos h]
    have : x.2.val = y.2.val := by rw [h]
    omega
  · rw [if_neg h]
    have : x.2.val ≠ y.2.val := fun e => h (Fin.ext e)
    omega
theorem ltB_false (x y : RB) : ltOf cfB x y = false ↔ ¬ (y.2.val < x.2.val ∨ (x.2.val = y.2.val ∧ x.1.val < y.1.val)) := by
  rw [← ltB_iff, Bool.not_eq_true]
theorem swoB : SWO (ltOf cfB) where
  irrefl x := by rw [ltB_false]; omega
  trans x y z h1 h2 := by rw [ltB_iff] at *; omega
  ntrans x y z h1 h2 := by rw [ltB_false] at *; omega
theorem totB (x y : RB) (h1 : ltOf cfB x y = false) (h2 : ltOf cfB y x = false) : x = y := by
  rw [ltB_false] at h1 h2
  exact Prod.ext (Fin.ext (by omega)) (Fin.ext (by omega))
/-- Runs within bounds, as such pairs. -/
def toB (r : S25) : RB := (⟨r.f0.toNat % 256, Nat.mod_lt _ (by decide)⟩, ⟨r.f1.toNat % 256, Nat.mod_lt _ (by decide)⟩)
theorem unB_toB (r : S25) (h0 : 0 ≤ r.f0) (h1 : r.f0 < 256) (h2 : 0 ≤ r.f1) (h3 : r.f1 < 256) : unB (toB r) = r := by
  refine S25_ext ?_ ?_ <;> simp only [unB, toB] <;> omega
theorem merge_sortR (l : List S25) (h : l.Pairwise fun r s => r.f0 < s.f0) (hb : ∀ r ∈ l, 0 ≤ r.f0 ∧ 1 ≤ r.f1 ∧ r.f0 + r.f1 ≤ 128) :
    (((l.map toB).mergeSort fun x y => !ltOf cfB y x).map unB) = sortR l := by
  have hmap : ∀ r ∈ l, unB (toB r) = r := fun r hr => by
    have := hb r hr
    exact unB_toB r (by omega) (by omega) (by omega) (by omega)
  refine sortR_unique h (fun r hr => by have := hb r hr; omega) ?_ ?_
  · refine ((List.mergeSort_perm (l.map toB) _).map unB).trans ?_
    rw [List.map_map, List.map_congr_left (f := unB ∘ toB) (g := id) (fun r hr => hmap r hr), List.map_id]
  · rw [List.pairwise_map]
    refine List.Pairwise.imp ?_ (List.pairwise_mergeSort (le := fun x y => !ltOf cfB y x) ?_ ?_ (l.map toB))
    · intro a b hab
      have := (ltB_false b a).1 (by simpa using hab)
      unfold leR unB
      dsimp only
      omega
    · intro a b c h1 h2
      have h3 : ltOf cfB b a = false := by simpa using h1
      have h4 : ltOf cfB c b = false := by simpa using h2
      have := swoB.ntrans c b a h4 h3
      simp [this]
    · intro a b
      rw [Bool.or_eq_true]
      by_cases h1 : ltOf cfB b a = true
      · right
        rw [ltB_iff] at h1
        have : ltOf cfB a b = false := by rw [ltB_false]; omega
        simp [this]
      · left
        simp [Bool.eq_false_iff.2 h1]
end Go.Proofs.Ytghpmenoiimpoaa.P
