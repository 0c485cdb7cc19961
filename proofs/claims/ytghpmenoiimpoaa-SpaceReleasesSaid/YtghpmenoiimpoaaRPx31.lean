import Derived.Test.YtghpmenoiimpoaaRPx0
namespace Go.Proofs.Ytghpmenoiimpoaa.P
open Go.RowKit Go.Proofs.YtghpmenoiimpoaaW.PrintWords Go.Proofs.YtghpmenoiimpoaaW.PrintLast Go.Proofs.YtghpmenoiimpoaaW.PrintMore
attribute [local go_sem] max2_int min2_int max_two min_two max_three min_three max_four min_four   -- for this text's walks alone
set_option linter.unusedVariables false
set_option linter.unusedSimpArgs false
/-! ### dasdlaw06_example: function 63 -/
def dasdlaw06_example.f  : Option ((List (S25))) := some (([(⟨10, 4⟩ : S25), (⟨20, 2⟩ : S25), (⟨30, 3⟩ : S25)] : List (S25)))
set_option maxHeartbeats 8000000 in
set_option maxRecDepth 100000 in
theorem dasdlaw06_example.calls  (r : List (S25)) (w : World) (h : dasdlaw06_example.f  = some r) :
    Calls Try.prog 63 #[] w fun e w' => ∃ v0_ : Value, e = .returned (v0_) ∧ Kd.R k25 25 w' w.heap.size (fun _ => True) v0_ r ∧ Below w.heap.size w w' := by
  have hu25 := Try.underlying25
  have HB := Aside0.mk (Below.refl w.heap.size w)
  have H : (some (([(⟨10, 4⟩ : S25), (⟨20, 2⟩ : S25), (⟨30, 3⟩ : S25)] : List (S25)))) = some r := h
  clear h
  obtain ⟨y132, hy132⟩ : ∃ y_ : List (S25), y_ = (([(⟨10, 4⟩ : S25), (⟨20, 2⟩ : S25), (⟨30, 3⟩ : S25)] : List (S25))) := ⟨_, rfl⟩
  replace H : (some y132) = some r := by first | (rw [hy132]; with_reducible exact H) | (have H2_ := (Option.bind_some _ _).symm.trans H; rw [hy132]; with_reducible exact H2_) | (have H2_ := (Option.bind_some _ _).symm.trans H; with_reducible exact H2_) | with_reducible exact H | (rw [hy132]; exact H) | exact H
  have Ny132 := Aside0.mk hy132
  clear hy132
  obtain rfl := Option.some.inj H
  go_enter Try.func63, Try.ntmps63
  go_wp2_with (first | ((with_reducible refine gate_dst (N := 4) rfl ?_); refine Kd.R_lit k25 _ 25 ?hg (N := 4) ?hd (xs := ([(⟨10, 4⟩ : S25), (⟨20, 2⟩ : S25), (⟨30, 3⟩ : S25)] : List (S25))) (inner := [.int .i64 10, .int .i64 4, .int .i64 20, .int .i64 2, .int .i64 30, .int .i64 3]) (ok := fun _ => True) (okp := fun _ => True) ?hr ?hp (fun _ hk => hk) trivial (Below.refl _ _) (Nat.le_refl _) (by simp) ?_; (case hd => rfl); (case hg => rfl); (case hr => first | (go_simp; done) | (go_simp; rfl)); (case hp => exact (Reps.c2 (show Kd.M k25 _ _ _ (⟨10, 4⟩ : S25) [.int .i64 10, .int .i64 4] from (k25_mkM _ _ _ (⟨10, 4⟩ : S25) )) (Reps.c2 (show Kd.M k25 _ _ _ (⟨20, 2⟩ : S25) [.int .i64 20, .int .i64 2] from (k25_mkM _ _ _ (⟨20, 2⟩ : S25) )) (Reps.c2 (show Kd.M k25 _ _ _ (⟨30, 3⟩ : S25) [.int .i64 30, .int .i64 3] from (k25_mkM _ _ _ (⟨30, 3⟩ : S25) )) (Reps.none _ _))))); intro v133 w1 ho2 hb hg_ hnew_; clear hg_ hnew_; (first | rw [← Ny132.out] at ho2 | (simp only [Int.reduceToNat] at ho2; rw [← Ny132.out] at ho2)); have n0_ := Aside0.mk (Kd.R_lower ho2 (below_size (by repeat (first | (with_reducible first | exact HB.out | apply below_alloc | apply pw_below_drewN | apply below_drew1) | exact HB.out)))); have n1_ := Aside0.mk (below_step (by repeat (first | (with_reducible first | exact HB.out | apply below_alloc | apply pw_below_drewN | apply below_drew1) | exact HB.out)) hb); clear HB; have HO134 := n0_; have HB := n1_; clear n0_ n1_; clear hb ho2))
  go_ret
  exact ⟨_, by first | rfl | (simp [errW_none, errW_some] <;> rfl) | (simp [*, errW_none, errW_some] <;> rfl), by (with_reducible repeat (first | apply Kd.R_alloc | apply Kd.R_drewN | apply Kd.R_drew)); exact HO134.out, by repeat (first | (with_reducible first | exact HB.out | apply below_alloc | apply pw_below_drewN | apply below_drew1) | exact HB.out)⟩

end Go.Proofs.Ytghpmenoiimpoaa.P

