import Derived.Test.YtghpmenoiimpoaaRHRefB
import Derived.Test.YtghpmenoiimpoaaRHExtend
import Derived.Test.YtghpmenoiimpoaaRPx8
namespace Go.Proofs.Ytghpmenoiimpoaa.P
open Go.RowKit Go.Proofs.YtghpmenoiimpoaaW.PrintWords Go.Proofs.YtghpmenoiimpoaaW.PrintLast Go.Proofs.YtghpmenoiimpoaaW.PrintMore
set_option linter.unusedVariables false
theorem rjoin_l0 (xs : List S25) (hl : xs.length < 8796093022208) (hr : InR xs) : ∀ (d k i : Nat) (acc : List S25), i + d = xs.length → d + 129 < k → Ex acc → acc.length ≤ i →
    dasdref05_Join.l0 k xs acc (i : Int) = some ((xs.drop i).foldl joinStep acc) := by
  intro d
  induction d with
  | zero =>
    intro k i acc hi hk _ _
    obtain ⟨k, rfl⟩ : ∃ m, k = m + 1 := ⟨k - 1, by omega⟩
    rw [List.drop_eq_nil_of_le (by omega), dasdref05_Join.l0, if_neg (by omega)]
    rfl
  | succ d ih =>
    intro k i acc hi hk hex hal
    obtain ⟨k, rfl⟩ : ∃ m, k = m + 1 := ⟨k - 1, by omega⟩
    have hlt : i < xs.length := by omega
    have hw : wrap64 ((i : Int) + 1) = ((i + 1 : Nat) : Int) := by rw [w64 (by omega) (by omega)]; omega
    have hb := cl_bd xs[i].f0 xs[i].f1
    have hri := hr xs[i] (List.getElem_mem hlt)
    rw [List.drop_eq_getElem_cons hlt, List.foldl_cons]
    have ih' := ih k (i + 1) (joinStep acc xs[i]) (by omega) (by omega) (joinStep_ex hex _) (by have := joinStep_length acc xs[i]; omega)
    rw [← ih', dasdref05_Join.l0, if_pos (by omega), if_pos (by omega), rd_at xs i hlt, rclip_some _ _ hri.1 hri.2 k (by omega), Option.bind_some, hw]
    dsimp only
    by_cases h1 : (cl xs[i].f0 xs[i].f1).2 = 0
    · rw [if_pos h1, show joinStep acc xs[i] = acc from if_pos h1]
    · rw [if_neg h1]
      by_cases h2 : acc = []
      · subst h2
        have e : joinStep [] xs[i] = [] ++ [⟨(cl xs[i].f0 xs[i].f1).1, (cl xs[i].f0 xs[i].f1).2⟩] := by rw [joinStep, if_neg h1, if_neg (by simp)]
        rw [e, if_neg (by simp), if_pos (by simp)]
      · have hp := List.length_pos_iff.2 h2
        have hw2 : wrap64 ((acc.length : Int) - 1) = ((acc.length - 1 : Nat) : Int) := by rw [w64 (by omega) (by omega)]; omega
        have hm := hex _ (lastR_mem acc h2)
        rw [hw2, if_pos (by omega), if_pos (by omega), if_pos (by omega), Int.toNat_natCast, show rd_T25 acc ((acc.length - 1 : Nat) : Int) = lastR acc from by simp [rd_T25, lastR]]
        rw [w64 (x := (lastR acc).f0 + (lastR acc).f1) (by omega) (by omega)]
        by_cases h3 : (lastR acc).f0 + (lastR acc).f1 = (cl xs[i].f0 xs[i].f1).1
        · rw [if_pos h3, show joinStep acc xs[i] = addL acc (cl xs[i].f0 xs[i].f1).2 from by rw [joinStep, if_neg h1, if_pos ⟨h2, h3⟩], w64 (by omega) (by omega)]
          rfl
        · rw [if_neg h3, show joinStep acc xs[i] = acc ++ [⟨(cl xs[i].f0 xs[i].f1).1, (cl xs[i].f0 xs[i].f1).2⟩] from by rw [joinStep, if_neg h1, if_neg (fun h => h3 h.2)], if_pos (by omega)]
theorem rjoin_some (l : List S25) (hl : l.length < 8796093022208) (hr : InR l) (k : Nat) (hk : l.length + 129 < k) : dasdref05_Join.f k l = some (joinP l) := by
  unfold dasdref05_Join.f joinP
  have := rjoin_l0 l hl hr l.length k 0 [] (by omega) (by omega) (fun r hr => by simp at hr) (by simp)
  rw [List.drop_zero] at this
  exact this
theorem rminus_some (xs ys : List S25) (hx : InR xs) (hy : InR ys) (n : Nat) (hn : n ≤ 1000000000) (hxl : xs.length ≤ n) (hyl : ys.length ≤ n) (k : Nat) (hk : n + 400 < k) :
    dasdref06_minus.f k xs ys = some (minusP xs ys) := by
  unfold dasdref06_minus.f minusP
  rw [rSet_some xs ys hx hy true false false n hn hxl hyl k hk, Option.bind_some]
  refine congrArg some (runsOf_congr fun t _ => ?_)
  unfold comb
  cases hasT xs t <;> cases hasT ys t <;> rfl
theorem Ex_InR {l : List S25} (h : Ex l) : InR l := fun r hr => by have := h r hr; unfold InI; omega
theorem runsOf_Ex (p : Nat → Bool) : Ex (runsOf p) := runsOf_bd p
section
variable (l fr : List S25) (hne : l ≠ []) (hex : Ex l) (hll : l.length ≤ 100000) (hfd : ∀ t, hasT fr t = true → hasT l t = false)
include hne hex hll hfd
end
end Go.Proofs.Ytghpmenoiimpoaa.P
