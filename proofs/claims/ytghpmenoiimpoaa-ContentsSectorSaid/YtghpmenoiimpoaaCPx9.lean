import Derived.Test.YtghpmenoiimpoaaCPx0
import Derived.Test.YtghpmenoiimpoaaCPx2
namespace Go.Proofs.Ytghpmenoiimpoaa.P
open Go.RowKit Go.Proofs.YtghpmenoiimpoaaW.PrintWords Go.Proofs.YtghpmenoiimpoaaW.PrintLast Go.Proofs.YtghpmenoiimpoaaW.PrintMore
attribute [local go_sem] max2_int min2_int max_two min_two max_three min_three max_four min_four   -- for this text's walks alone
set_option linter.unusedVariables false
set_option linter.unusedSimpArgs false
/-! ### dasdref07_Few: function 51 -/
def dasdref07_Few.f (a0_0 : Int) (a0_1 : Int) (a0_2 : ByteArray) (a0_3 : ByteArray) (l0_4 : List (S25)) : Option (Bool) := if (a0_2.size : Int) ≤ 100 then (if (a0_3.size : Int) ≤ 500 then (some (decide ((l0_4.length : Int) ≤ 30))) else (some false)) else (some false)
set_option maxHeartbeats 8000000 in
set_option maxRecDepth 100000 in
theorem dasdref07_Few.calls (a0_0 : Int) (a0_1 : Int) (a0_2 : ByteArray) (a0_3 : ByteArray) (A0_4 : Option Addr) (c0_4 : Nat) (l0_4 : List (S25)) (r : Bool) (w : World) (hr0_4 : Kd.C k25 w A0_4 l0_4.length l0_4) (hc0_4 : l0_4.length ≤ c0_4) (h : dasdref07_Few.f a0_0 a0_1 a0_2 a0_3 l0_4 = some r) :
    Calls Try.prog 51 #[.agg #[.int .i64 a0_0, .int .i64 a0_1, .string a0_2, .string a0_3, .slice A0_4 l0_4.length c0_4]] w fun e w' => e = .returned (.bool r) ∧ Below w.heap.size w w' := by
  have hu66 := Try.underlying66
  have HR0_4 := Aside0.mk hr0_4
  have HC0_4 := Aside0.mk hc0_4
  clear hr0_4 hc0_4
  have HB := Aside0.mk (Below.refl w.heap.size w)
  have H : (if (a0_2.size : Int) ≤ 100 then (if (a0_3.size : Int) ≤ 500 then (some (decide ((l0_4.length : Int) ≤ 30))) else (some false)) else (some false)) = some r := h
  clear h
  by_cases c2 : (a0_2.size : Int) ≤ 100
  · rw [if_pos c2] at H
    have c2b0 : decide ((a0_2.size : Int) ≤ 100) = true := decide_eq_true c2
    have c2b1 : decide (a0_2.size ≤ 100) = true := decide_eq_true (by omega)
    clear c2
    by_cases c3 : (a0_3.size : Int) ≤ 500
    · rw [if_pos c3] at H
      have c3b0 : decide ((a0_3.size : Int) ≤ 500) = true := decide_eq_true c3
      have c3b1 : decide (a0_3.size ≤ 500) = true := decide_eq_true (by omega)
      clear c3
      obtain rfl := Option.some.inj H
      go_enter Try.func51, Try.ntmps51
      go_wp2_with (first | ((with_reducible refine gate_dst (N := 1) rfl ?_); (try (refine gate_guard (by rfl) ?_; dsimp only)); refine box_event ?hg (N := 1) ?hd (cs := #[.int .i64 a0_0, .int .i64 a0_1, .string a0_2, .string a0_3, .slice A0_4 l0_4.length c0_4]) (t := 66) ?hr ?_; (case hd => rfl); (case hg => rfl); (case hr => first | (go_simp; done) | (go_simp; rfl)); intro gb416 hg w4 hbox hb; have n0_ := Aside0.mk (below_step (by repeat (first | (with_reducible first | exact HB.out | apply below_alloc | apply pw_below_drewN | apply below_drew1) | exact HB.out)) hb); have n1_ := Aside0.mk (hbox); have n2_ := Aside0.mk ((by rw [hg]; exact (below_size (by repeat (first | (with_reducible first | exact HB.out | apply below_alloc | apply pw_below_drewN | apply below_drew1) | exact HB.out))) : w.heap.size ≤ gb416)); have n3_ := Aside0.mk ((by rw [hg]; exact (below_size (by repeat (first | (with_reducible first | exact HB.out | apply below_alloc | apply pw_below_drewN | apply below_drew1) | exact HB.out))) : w.heap.size ≤ gb416)); clear HB; have HB := n0_; have BK416 := n1_; have GW416 := n2_; have GE416 := n3_; clear n0_ n1_ n2_ n3_; clear hb hbox hg; have hcz5_0 : w4.cell? ⟨gb416, 0, none⟩ = some (.int .i64 a0_0) := (blk_cell BK416.out 0).trans rfl; have hcz5_1 : w4.cell? ⟨gb416, 1, none⟩ = some (.int .i64 a0_1) := (blk_cell BK416.out 1).trans rfl; have hcz5_2 : w4.cell? ⟨gb416, 2, none⟩ = some (.string a0_2) := (blk_cell BK416.out 2).trans rfl; have hcz5_3 : w4.cell? ⟨gb416, 3, none⟩ = some (.string a0_3) := (blk_cell BK416.out 3).trans rfl; have hcz5_4 : w4.cell? ⟨gb416, 4, none⟩ = some (.slice A0_4 l0_4.length c0_4) := (blk_cell BK416.out 4).trans rfl; have hfz5_0 := blk_frozen BK416.out 0; have hfz5_1 := blk_frozen BK416.out 1; have hfz5_2 := blk_frozen BK416.out 2; have hfz5_3 := blk_frozen BK416.out 3; have hfz5_4 := blk_frozen BK416.out 4))
      go_ret
      exact ⟨by first | rfl | (simp [errW_none, errW_some] <;> rfl) | (simp [*, errW_none, errW_some] <;> rfl), by repeat (first | (with_reducible first | exact HB.out | apply below_alloc | apply pw_below_drewN | apply below_drew1 | refine below_set ?_ GE416.out) | exact HB.out)⟩
    · rw [if_neg c3] at H
      have c3b0 : decide ((a0_3.size : Int) ≤ 500) = false := decide_eq_false c3
      have c3b1 : decide (a0_3.size ≤ 500) = false := decide_eq_false (by omega)
      clear c3
      obtain rfl := Option.some.inj H
      go_enter Try.func51, Try.ntmps51
      go_wp2_with (first | ((with_reducible refine gate_dst (N := 1) rfl ?_); (try (refine gate_guard (by rfl) ?_; dsimp only)); refine box_event ?hg (N := 1) ?hd (cs := #[.int .i64 a0_0, .int .i64 a0_1, .string a0_2, .string a0_3, .slice A0_4 l0_4.length c0_4]) (t := 66) ?hr ?_; (case hd => rfl); (case hg => rfl); (case hr => first | (go_simp; done) | (go_simp; rfl)); intro gb416 hg w6 hbox hb; have n0_ := Aside0.mk (below_step (by repeat (first | (with_reducible first | exact HB.out | apply below_alloc | apply pw_below_drewN | apply below_drew1) | exact HB.out)) hb); have n1_ := Aside0.mk (hbox); have n2_ := Aside0.mk ((by rw [hg]; exact (below_size (by repeat (first | (with_reducible first | exact HB.out | apply below_alloc | apply pw_below_drewN | apply below_drew1) | exact HB.out))) : w.heap.size ≤ gb416)); have n3_ := Aside0.mk ((by rw [hg]; exact (below_size (by repeat (first | (with_reducible first | exact HB.out | apply below_alloc | apply pw_below_drewN | apply below_drew1) | exact HB.out))) : w.heap.size ≤ gb416)); clear HB; have HB := n0_; have BK416 := n1_; have GW416 := n2_; have GE416 := n3_; clear n0_ n1_ n2_ n3_; clear hb hbox hg; have hcz7_0 : w6.cell? ⟨gb416, 0, none⟩ = some (.int .i64 a0_0) := (blk_cell BK416.out 0).trans rfl; have hcz7_1 : w6.cell? ⟨gb416, 1, none⟩ = some (.int .i64 a0_1) := (blk_cell BK416.out 1).trans rfl; have hcz7_2 : w6.cell? ⟨gb416, 2, none⟩ = some (.string a0_2) := (blk_cell BK416.out 2).trans rfl; have hcz7_3 : w6.cell? ⟨gb416, 3, none⟩ = some (.string a0_3) := (blk_cell BK416.out 3).trans rfl; have hcz7_4 : w6.cell? ⟨gb416, 4, none⟩ = some (.slice A0_4 l0_4.length c0_4) := (blk_cell BK416.out 4).trans rfl; have hfz7_0 := blk_frozen BK416.out 0; have hfz7_1 := blk_frozen BK416.out 1; have hfz7_2 := blk_frozen BK416.out 2; have hfz7_3 := blk_frozen BK416.out 3; have hfz7_4 := blk_frozen BK416.out 4))
      go_ret
      exact ⟨by first | rfl | (simp [errW_none, errW_some] <;> rfl) | (simp [*, errW_none, errW_some] <;> rfl), by repeat (first | (with_reducible first | exact HB.out | apply below_alloc | apply pw_below_drewN | apply below_drew1 | refine below_set ?_ GE416.out) | exact HB.out)⟩
  · rw [if_neg c2] at H
    have c2b0 : decide ((a0_2.size : Int) ≤ 100) = false := decide_eq_false c2
    have c2b1 : decide (a0_2.size ≤ 100) = false := decide_eq_false (by omega)
    clear c2
    obtain rfl := Option.some.inj H
    go_enter Try.func51, Try.ntmps51
    go_wp2_with (first | ((with_reducible refine gate_dst (N := 1) rfl ?_); (try (refine gate_guard (by rfl) ?_; dsimp only)); refine box_event ?hg (N := 1) ?hd (cs := #[.int .i64 a0_0, .int .i64 a0_1, .string a0_2, .string a0_3, .slice A0_4 l0_4.length c0_4]) (t := 66) ?hr ?_; (case hd => rfl); (case hg => rfl); (case hr => first | (go_simp; done) | (go_simp; rfl)); intro gb416 hg w8 hbox hb; have n0_ := Aside0.mk (below_step (by repeat (first | (with_reducible first | exact HB.out | apply below_alloc | apply pw_below_drewN | apply below_drew1) | exact HB.out)) hb); have n1_ := Aside0.mk (hbox); have n2_ := Aside0.mk ((by rw [hg]; exact (below_size (by repeat (first | (with_reducible first | exact HB.out | apply below_alloc | apply pw_below_drewN | apply below_drew1) | exact HB.out))) : w.heap.size ≤ gb416)); have n3_ := Aside0.mk ((by rw [hg]; exact (below_size (by repeat (first | (with_reducible first | exact HB.out | apply below_alloc | apply pw_below_drewN | apply below_drew1) | exact HB.out))) : w.heap.size ≤ gb416)); clear HB; have HB := n0_; have BK416 := n1_; have GW416 := n2_; have GE416 := n3_; clear n0_ n1_ n2_ n3_; clear hb hbox hg; have hcz9_0 : w8.cell? ⟨gb416, 0, none⟩ = some (.int .i64 a0_0) := (blk_cell BK416.out 0).trans rfl; have hcz9_1 : w8.cell? ⟨gb416, 1, none⟩ = some (.int .i64 a0_1) := (blk_cell BK416.out 1).trans rfl; have hcz9_2 : w8.cell? ⟨gb416, 2, none⟩ = some (.string a0_2) := (blk_cell BK416.out 2).trans rfl; have hcz9_3 : w8.cell? ⟨gb416, 3, none⟩ = some (.string a0_3) := (blk_cell BK416.out 3).trans rfl; have hcz9_4 : w8.cell? ⟨gb416, 4, none⟩ = some (.slice A0_4 l0_4.length c0_4) := (blk_cell BK416.out 4).trans rfl; have hfz9_0 := blk_frozen BK416.out 0; have hfz9_1 := blk_frozen BK416.out 1; have hfz9_2 := blk_frozen BK416.out 2; have hfz9_3 := blk_frozen BK416.out 3; have hfz9_4 := blk_frozen BK416.out 4))
    go_ret
    exact ⟨by first | rfl | (simp [errW_none, errW_some] <;> rfl) | (simp [*, errW_none, errW_some] <;> rfl), by repeat (first | (with_reducible first | exact HB.out | apply below_alloc | apply pw_below_drewN | apply below_drew1 | refine below_set ?_ GE416.out) | exact HB.out)⟩

end Go.Proofs.Ytghpmenoiimpoaa.P

