import Derived.Test.YtghpmenoiimpoaaDPx0
import Derived.Test.YtghpmenoiimpoaaDPx2
namespace Go.Proofs.Ytghpmenoiimpoaa.P
open Go.RowKit Go.Proofs.YtghpmenoiimpoaaW.PrintWords Go.Proofs.YtghpmenoiimpoaaW.PrintLast Go.Proofs.YtghpmenoiimpoaaW.PrintMore
attribute [local go_sem] max2_int min2_int max_two min_two max_three min_three max_four min_four   -- for this text's walks alone
set_option linter.unusedVariables false
set_option linter.unusedSimpArgs false
/-! ### dasdref07_Few: function 51 -/
def dasdref07_Few.f (a0_0 : Int) (a0_1 : Int) (a0_2 : ByteArray) (a0_3 : ByteArray) (l0_4 : List (S25)) : Option (Bool) := if (a0_2.size : Int) ≤ 100 then (if (a0_3.size : Int) ≤ 500 then (some (decide ((l0_4.length : Int) ≤ 30))) else (some false)) else (some false)
set_option maxHeartbeats 8000000 in
set_option maxRecDepth 100000 in
theorem dasdref07_Few.calls (a0_0 : Int) (a0_1 : Int) (a0_2 : ByteArray) (a0_3 : ByteArray) (A0_4 : Option Addr) (c0_4 : Nat) (l0_4 : List (S25)) (r : Bool) (w : World) (hr0_4 : Kd.C k25 w A0_4 l0_4.length l0_4) (hc0_4 : l0_4.length ≤ c0_4) (h : dasdref07_Few.f a0_0 a0_1 a0_2 a0_3 l0_4 = some r) :
    Calls Try.prog 51 #[.agg #[.int .i64 a0_0, .int .i64 a0_1, .string a0_2, .string a0_3, .slice A0_4 l0_4.length c0_4]] w fun e w' => e = .returned (.bool r) ∧ Below w.heap.size w w' := by
  have hu66 := Try.underlying66
  have HR0_4 := Aside0.mk hr0_4
  have HC0_4 := Aside0.mk hc0_4
  clear hr0_4 hc0_4
  have HB := Aside0.mk (Below.refl w.heap.size w)
  have H : (if (a0_2.size : Int) ≤ 100 then (if (a0_3.size : Int) ≤ 500 then (some (decide ((l0_4.length : Int) ≤ 30))) else (some false)) else (some false)) = some r := h
  clear h
  by_cases c2 : (a0_2.size : Int) ≤ 100
  · rw [if_pos c2] at H
    have c2b0 : decide ((a0_2.size : Int) ≤ 100) = true := decide_eq_true c2
    have c2b1 : decide (a0_2.size ≤ 100) = true := decide_eq_true (by omega)
    clear c2
    by_cases c3 : (a0_3.size : Int) ≤ 500
    · rw [if_pos c3] at H
      have c3b0 : decide ((a0_3.size : Int) ≤ 500) = true := decide_eq_true c3
      have c3b1 : decide (a0_3.size ≤ 500) = true := decide_eq_true (by omega)
      clear c3
      obtain rfl := Option.some.inj H
      go_enter Try.func51, Try.ntmps51
      go_wp2_with (first | ((with_reducible refine gate_dst (N := 1) rfl ?_); (try (refine gate_guard (by rfl) ?_; dsimp only)); refine box_event ?hg (N := 1) ?hd (cs := #[.int .i64 a0_0, .int .i64 a0_1, .string a0_2, .string a0_3, .slice A0_4 l0_4.length c0_4]) (t := 66) ?hr ?_; (case hd => rfl); (case hg => rfl); (case hr => first | (go_simp; done) | (go_simp; rfl)); intro gb416 hg w4 hbox hb; have n0_ := Aside0.mk (below_step (by repeat (first | (with_reducible first | exact HB.out | apply below_alloc | apply pw_below_drewN | apply below_drew1) | exact HB.out)) hb); have n1_ := Aside0.mk (hbox); have n2_ := Aside0.mk ((by rw [hg]; exact (below_size (by repeat (first | (with_reducible first | exact HB.out | apply below_alloc | apply pw_below_drewN | apply below_drew1) | exact HB.out))) : w.heap.size ≤ gb416)); have n3_ := Aside0.mk ((by rw [hg]; exact (below_size (by repeat (first | (with_reducible first | exact HB.out | apply below_alloc | apply pw_below_drewN | apply below_drew1) | exact HB.out))) : w.heap.size ≤ gb416)); clear HB; have HB := n0_; have BK416 := n1_; have GW416 := n2_; have GE416 := n3_; clear n0_ n1_ n2_ n3_; clear hb hbox hg; have hcz5_0 : w4.cell? ⟨gb416, 0, none⟩ = some (.int .i64 a0_0) := (blk_cell BK416.out 0).trans rfl; have hcz5_1 : w4.cell? ⟨gb416, 1, none⟩ = some (.int .i64 a0_1) := (blk_cell BK416.out 1).trans rfl; have hcz5_2 : w4.cell? ⟨gb416, 2, none⟩ = some (.string a0_2) := (blk_cell BK416.out 2).trans rfl; have hcz5_3 : w4.cell? ⟨gb416, 3, none⟩ = some (.string a0_3) := (blk_cell BK416.out 3).trans rfl; have hcz5_4 : w4.cell? ⟨gb416, 4, none⟩ = some (.slice A0_4 l0_4.length c0_4) := (blk_cell BK416.out 4).trans rfl; have hfz5_0 := blk_frozen BK416.out 0; have hfz5_1 := blk_frozen BK416.out 1; have hfz5_2 := blk_frozen BK416.out 2; have hfz5_3 := blk_frozen BK416.out 3; have hfz5_4 := blk_frozen BK416.out 4))
      go_ret
      exact ⟨by first | rfl | (simp [errW_none, errW_some] <;> rfl) | (simp [*, errW_none, errW_some] <;> rfl), by repeat (first | (with_reducible first | exact HB.out | apply below_alloc | apply pw_below_drewN | apply below_drew1 | refine below_set ?_ GE416.out) | exact HB.out)⟩
    · rw [if_neg c3] at H
      have c3b0 : decide ((a0_3.size : Int) ≤ 500) = false := decide_eq_false c3
      have c3b1 : decide (a0_3.size ≤ 500) = false := decide_eq_false (by omega)
      clear c3
      obtain rfl := Option.some.inj H
      go_enter Try.func51, Try.ntmps51
      go_wp2_with (first | ((with_reducible refine gate_dst (N := 1) rfl ?_); (try (refine gate_guard (by rfl) ?_; dsimp only)); refine box_event ?hg (N := 1) ?hd (cs := #[.int .i64 a0_0, .int .i64 a0_1, .string a0_2, .string a0_3, .slice A0_4 l0_4.length c0_4]) (t := 66) ?hr ?_; (case hd => rfl); (case hg => rfl); (case hr => first | (go_simp; done) | (go_simp; rfl)); intro gb416 hg w6 hbox hb; have n0_ := Aside0.mk (below_step (by repeat (first | (with_reducible first | exact HB.out | apply below_alloc | apply pw_below_drewN | apply below_drew1) | exact HB.out)) hb); have n1_ := Aside0.mk (hbox); have n2_ := Aside0.mk ((by rw [hg]; exact (below_size (by repeat (first | (with_reducible first | exact HB.out | apply below_alloc | apply pw_below_drewN | apply below_drew1) | exact HB.out))) : w.heap.size ≤ gb416)); have n3_ := Aside0.mk ((by rw [hg]; exact (below_size (by repeat (first | (with_reducible first | exact HB.out | apply below_alloc | apply pw_below_drewN | apply below_drew1) | exact HB.out))) : w.heap.size ≤ gb416)); clear HB; have HB := n0_; have BK416 := n1_; have GW416 := n2_; have GE416 := n3_; clear n0_ n1_ n2_ n3_; clear hb hbox hg; have hcz7_0 : w6.cell? ⟨gb416, 0, none⟩ = some (.int .i64 a0_0) := (blk_cell BK416.out 0).trans rfl; have hcz7_1 : w6.cell? ⟨gb416, 1, none⟩ = some (.int .i64 a0_1) := (blk_cell BK416.out 1).trans rfl; have hcz7_2 : w6.cell? ⟨gb416, 2, none⟩ = some (.string a0_2) := (blk_cell BK416.out 2).trans rfl; have hcz7_3 : w6.cell? ⟨gb416, 3, none⟩ = some (.string a0_3) := (blk_cell BK416.out 3).trans rfl; have hcz7_4 : w6.cell? ⟨gb416, 4, none⟩ = some (.slice A0_4 l0_4.length c0_4) := (blk_cell BK416.out 4).trans rfl; have hfz7_0 := blk_frozen BK416.out 0; have hfz7_1 := blk_frozen BK416.out 1; have hfz7_2 := blk_frozen BK416.out 2; have hfz7_3 := blk_frozen BK416.out 3; have hfz7_4 := blk_frozen BK416.out 4))
      go_ret
      exact ⟨by first | rfl | (simp [errW_none, errW_some] <;> rfl) | (simp [*, errW_none, errW_some] <;> rfl), by repeat (first | (with_reducible first | exact HB.out | apply below_alloc | apply pw_below_drewN | apply below_drew1 | refine below_set ?_ GE416.out) | exact HB.out)⟩
  · rw [if_neg c2] at H
    have c2b0 : decide ((a0_2.size : Int) ≤ 100) = false := decide_eq_false c2
    have c2b1 : decide (a0_2.size ≤ 100) = false := decide_eq_false (by omega)
    clear c2
    obtain rfl := Option.some.inj H
    go_enter Try.func51, Try.ntmps51
    go_wp2_with (first | ((with_reducible refine gate_dst (N := 1) rfl ?_); (try (refine gate_guard (by rfl) ?_; dsimp only)); refine box_event ?hg (N := 1) ?hd (cs := #[.int .i64 a0_0, .int .i64 a0_1, .string a0_2, .string a0_3, .slice A0_4 l0_4.length c0_4]) (t := 66) ?hr ?_; (case hd => rfl); (case hg => rfl); (case hr => first | (go_simp; done) | (go_simp; rfl)); intro gb416 hg w8 hbox hb; have n0_ := Aside0.mk (below_step (by repeat (first | (with_reducible first | exact HB.out | apply below_alloc | apply pw_below_drewN | apply below_drew1) | exact HB.out)) hb); have n1_ := Aside0.mk (hbox); have n2_ := Aside0.mk ((by rw [hg]; exact (below_size (by repeat (first | (with_reducible first | exact HB.out | apply below_alloc | apply pw_below_drewN | apply below_drew1) | exact HB.out))) : w.heap.size ≤ gb416)); have n3_ := Aside0.mk ((by rw [hg]; exact (below_size (by repeat (first | (with_reducible first | exact HB.out | apply below_alloc | apply pw_below_drewN | apply below_drew1) | exact HB.out))) : w.heap.size ≤ gb416)); clear HB; have HB := n0_; have BK416 := n1_; have GW416 := n2_; have GE416 := n3_; clear n0_ n1_ n2_ n3_; clear hb hbox hg; have hcz9_0 : w8.cell? ⟨gb416, 0, none⟩ = some (.int .i64 a0_0) := (blk_cell BK416.out 0).trans rfl; have hcz9_1 : w8.cell? ⟨gb416, 1, none⟩ = some (.int .i64 a0_1) := (blk_cell BK416.out 1).trans rfl; have hcz9_2 : w8.cell? ⟨gb416, 2, none⟩ = some (.string a0_2) := (blk_cell BK416.out 2).trans rfl; have hcz9_3 : w8.cell? ⟨gb416, 3, none⟩ = some (.string a0_3) := (blk_cell BK416.out 3).trans rfl; have hcz9_4 : w8.cell? ⟨gb416, 4, none⟩ = some (.slice A0_4 l0_4.length c0_4) := (blk_cell BK416.out 4).trans rfl; have hfz9_0 := blk_frozen BK416.out 0; have hfz9_1 := blk_frozen BK416.out 1; have hfz9_2 := blk_frozen BK416.out 2; have hfz9_3 := blk_frozen BK416.out 3; have hfz9_4 := blk_frozen BK416.out 4))
    go_ret
    exact ⟨by first | rfl | (simp [errW_none, errW_some] <;> rfl) | (simp [*, errW_none, errW_some] <;> rfl), by repeat (first | (with_reducible first | exact HB.out | apply below_alloc | apply pw_below_drewN | apply below_drew1 | refine below_set ?_ GE416.out) | exact HB.out)⟩

/-! ### dasdref08_Few: function 28 -/
def dasdref08_Few.l0 : Nat → Int → ByteArray → Int → List (S66) → Option (Bool)
  | 0, _, _, _, _ => none
  | k + 1, x3, x418000, x418001, x418002 => if x3 < (x418002.length : Int) then (if 0 ≤ x3 then ((dasdref07_Few.f ((rd_T66 x418002 x3).f0) ((rd_T66 x418002 x3).f1) ((rd_T66 x418002 x3).f2) ((rd_T66 x418002 x3).f3) ((rd_T66 x418002 x3).f4)).bind fun t419 => (if t419 = true then (dasdref08_Few.l0 k (wrap64 (x3 + 1)) x418000 x418001 x418002) else (some false))) else (none)) else (if (x418000.size : Int) ≤ 100 then (some (decide ((x418002.length : Int) ≤ 40))) else (some false))
def dasdref08_Few.f (k : Nat) (a0_0 : ByteArray) (a0_1 : Int) (l0_2 : List (S66)) : Option (Bool) := dasdref08_Few.l0 k 0 a0_0 a0_1 l0_2
theorem dasdref08_Few.mono_l : ∀ k, (∀ y0 y1 y2 y3, LeO (dasdref08_Few.l0 k y0 y1 y2 y3) (dasdref08_Few.l0 (k + 1) y0 y1 y2 y3))
  | 0 => fun _ _ _ _ r h => by simp [dasdref08_Few.l0] at h
  | k + 1 => by
    have ih0 := dasdref08_Few.mono_l k
    · intro y0 y1 y2 y3
      unfold dasdref08_Few.l0
      repeat' first
      | (with_reducible exact ih0 _ _ _ _)
      | (with_reducible exact LeO.refl _)
      | (with_reducible exact LeO.none _)
      | (with_reducible refine LeO.ite ?_ ?_)
      | (with_reducible refine LeO.bind ?_ (fun _ => ?_))
      | exact ih0 _ _ _ _
      | exact LeO.none _
      | refine LeO.ite ?_ ?_
      | refine LeO.bind ?_ (fun _ => ?_)
theorem dasdref08_Few.mono : ∀ a0 a1 a2 k, LeO (dasdref08_Few.f k a0 a1 a2) (dasdref08_Few.f (k + 1) a0 a1 a2) := by
  intro a0 a1 a2 k
  have ih0 := dasdref08_Few.mono_l k
  unfold dasdref08_Few.f
  repeat' first
      | (with_reducible exact ih0 _ _ _ _)
      | (with_reducible exact LeO.refl _)
      | (with_reducible exact LeO.none _)
      | (with_reducible refine LeO.ite ?_ ?_)
      | (with_reducible refine LeO.bind ?_ (fun _ => ?_))
      | exact ih0 _ _ _ _
      | exact LeO.none _
      | refine LeO.ite ?_ ?_
      | refine LeO.bind ?_ (fun _ => ?_)
set_option maxHeartbeats 8000000 in
set_option maxRecDepth 100000 in
theorem dasdref08_Few.calls (k : Nat) (a0_0 : ByteArray) (a0_1 : Int) (A0_2 : Option Addr) (c0_2 : Nat) (l0_2 : List (S66)) (r : Bool) (w : World) (hr0_2 : Kd.C k66 w A0_2 l0_2.length l0_2) (hc0_2 : l0_2.length ≤ c0_2) (h : dasdref08_Few.f k a0_0 a0_1 l0_2 = some r) :
    Calls Try.prog 28 #[.agg #[.string a0_0, .int .i64 a0_1, .slice A0_2 l0_2.length c0_2]] w fun e w' => e = .returned (.bool r) ∧ Below w.heap.size w w' := by
  have hu41 := Try.underlying41
  have hu66 := Try.underlying66
  have HR0_2 := Aside0.mk hr0_2
  have HC0_2 := Aside0.mk hc0_2
  clear hr0_2 hc0_2
  have HB := Aside0.mk (Below.refl w.heap.size w)
  have H : (dasdref08_Few.l0 k 0 a0_0 a0_1 l0_2) = some r := h
  clear h
  have H' := Aside0.mk H
  clear H
  go_enter Try.func28, Try.ntmps28
  go_wp2_with (first | ((with_reducible refine gate_dst (N := 1) rfl ?_); (try (refine gate_guard (by rfl) ?_; dsimp only)); refine box_event ?hg (N := 1) ?hd (cs := #[.string a0_0, .int .i64 a0_1, .slice A0_2 l0_2.length c0_2]) (t := 41) ?hr ?_; (case hd => rfl); (case hg => rfl); (case hr => first | (go_simp; done) | (go_simp; rfl)); intro gb417 hg w2 hbox hb; have n0_ := Aside0.mk (below_step (by repeat (first | (with_reducible first | exact HB.out | apply below_alloc | apply pw_below_drewN | apply below_drew1) | exact HB.out)) hb); have n1_ := Aside0.mk (hbox); have n2_ := Aside0.mk ((by rw [hg]; exact (below_size (by repeat (first | (with_reducible first | exact HB.out | apply below_alloc | apply pw_below_drewN | apply below_drew1) | exact HB.out))) : w.heap.size ≤ gb417)); have n3_ := Aside0.mk ((by rw [hg]; exact (below_size (by repeat (first | (with_reducible first | exact HB.out | apply below_alloc | apply pw_below_drewN | apply below_drew1) | exact HB.out))) : w.heap.size ≤ gb417)); clear HB; have HB := n0_; have BK417 := n1_; have GW417 := n2_; have GE417 := n3_; clear n0_ n1_ n2_ n3_; clear hb hbox hg))
  go_loopg [3] k (fun kq v3 w' => ∃ (x3_1 : Int), v3 = .int .i64 x3_1 ∧ Aside0 (dasdref08_Few.l0 kq x3_1 a0_0 a0_1 l0_2 = some r) ∧ Aside0 (kq ≤ k) ∧ Aside0 (w'.heap[gb417]? = some (.cells #[.string a0_0, .int .i64 a0_1, (.slice A0_2 l0_2.length c0_2)] 41 (0, 0))) ∧ Aside0 (Below w.heap.size w w'))
  case atStart => exact ⟨(0), (by first | rfl | (simp; done) | (simp [*]; done)), H', ⟨Nat.le_refl _⟩, ⟨by (with_reducible repeat (first | refine blk_drewN ?_ _ | refine blk_drew ?_ | refine blk_alloc ?_ _)); exact BK417.out⟩, ⟨by repeat (first | (with_reducible first | exact HB.out | apply below_alloc | apply pw_below_drewN | apply below_drew1 | refine below_set ?_ GE417.out) | exact HB.out)⟩⟩
  case round =>
    clear H'
    try clear c2
    try clear p2
    obtain ⟨x3_1, rfl, HA, HK1, BK417, HB⟩ := hrel
    cases gk with
    | zero => exact absurd HA.out (by simp [dasdref08_Few.l0])
    | succ k1 =>
      have H := HA.out
      clear HA
      simp only [dasdref08_Few.l0] at H
      by_cases c3 : x3_1 < (l0_2.length : Int)
      · rw [if_pos c3] at H
        have c3b0 : decide (x3_1 < (l0_2.length : Int)) = true := decide_eq_true c3
        clear c3
        by_cases c4 : 0 ≤ x3_1
        · rw [if_pos c4] at H
          have c4b0 : decide (0 ≤ x3_1) = true := decide_eq_true c4
          clear c4
          replace H := Option.bind_eq_some_iff.mp H
          obtain ⟨t419, A50, H⟩ := H
          replace H : (if t419 = true then (dasdref08_Few.l0 k1 (wrap64 (x3_1 + 1)) a0_0 a0_1 l0_2) else (some false)) = some r := H
          have A5 := Aside0.mk A50
          clear A50
          by_cases c6 : t419 = true
          · subst c6
            have H1 : (dasdref08_Few.l0 k1 (wrap64 (x3_1 + 1)) a0_0 a0_1 l0_2) = some r := by rw [if_pos rfl] at H; exact H
            clear H
            have H := H1
            clear H1
            have H' := Aside0.mk H
            clear H
            have hcz7_0 : wr.cell? ⟨gb417, 0, none⟩ = some (.string a0_0) := (blk_cell BK417.out 0).trans rfl
            have hcz7_1 : wr.cell? ⟨gb417, 1, none⟩ = some (.int .i64 a0_1) := (blk_cell BK417.out 1).trans rfl
            have hcz7_2 : wr.cell? ⟨gb417, 2, none⟩ = some (.slice A0_2 l0_2.length c0_2) := (blk_cell BK417.out 2).trans rfl
            have hfz7_0 := blk_frozen BK417.out 0
            have hfz7_1 := blk_frozen BK417.out 1
            have hfz7_2 := blk_frozen BK417.out 2
            have p418 : 0 ≤ (x3_1 : Int) := of_decide_eq_true (by first | (with_reducible assumption) | assumption)
            have q418 : x3_1 < (l0_2.length : Int) := of_decide_eq_true (by first | (with_reducible assumption) | assumption)
            obtain ⟨ad418, A418_4, c418_4, e418, hx418_0, hx418_1, hx418_2, hx418_3, hx418_4, hl418_4, hi418_4⟩ := at_T66 HR0_2.out x3_1 p418 q418
            cases e418
            replace hx418_0 := (HB.out.cell (World.block_lt_of_cell? w _ hx418_0)).trans hx418_0
            replace hx418_1 := (HB.out.cell (World.block_lt_of_cell? w _ hx418_1)).trans hx418_1
            replace hx418_2 := (HB.out.cell (World.block_lt_of_cell? w _ hx418_2)).trans hx418_2
            replace hx418_3 := (HB.out.cell (World.block_lt_of_cell? w _ hx418_3)).trans hx418_3
            replace hx418_4 := (HB.out.cell (World.block_lt_of_cell? w _ hx418_4)).trans hx418_4
            have HR418_4 := Aside0.mk hi418_4
            have HC418_4 := Aside0.mk hl418_4
            clear hi418_4 hl418_4
            replace p418 := eq_true p418
            replace q418 := eq_true q418
            go_wp2_with (first | ((with_reducible refine gate_callee (f := 51) rfl ?_); refine goesL_ (some 16) rfl rfl Try.func51 (by kernel_rfl) rfl #[.agg #[.int .i64 ((rd_T66 l0_2 x3_1).f0), .int .i64 ((rd_T66 l0_2 x3_1).f1), .string ((rd_T66 l0_2 x3_1).f2), .string ((rd_T66 l0_2 x3_1).f3), .slice A418_4 ((rd_T66 l0_2 x3_1).f4).length c418_4]] rfl (by (try simp only [List.map_toArray, List.map_cons, List.map_nil]); first | done | rfl | (simp only [List.length_drop, List.length_take]; rfl)) ?_; (with_reducible refine (dasdref07_Few.calls ((rd_T66 l0_2 x3_1).f0) ((rd_T66 l0_2 x3_1).f1) ((rd_T66 l0_2 x3_1).f2) ((rd_T66 l0_2 x3_1).f3) _ _ ((rd_T66 l0_2 x3_1).f4) true _ ?side1 ?side2 A5.out).mono ?_); (case side1 => repeat (first | exact (Kd.C_below HR418_4.out HB.out) | (with_reducible refine Kd.C_alloc ?_ _) | (with_reducible refine Kd.C_drewN ?_ _) | (with_reducible refine Kd.C_drew ?_))); (case side2 => exact HC418_4.out); rintro e w8 ⟨rfl, hb⟩; refine ⟨_, rfl, ?_⟩; have n0_ := Aside0.mk (blk_below (g := gb417) (o := .cells #[.string a0_0, .int .i64 a0_1, .slice (some ad418) l0_2.length c0_2] 41 (0, 0)) (by (with_reducible repeat (first | refine blk_drewN ?_ _ | refine blk_drew ?_ | refine blk_alloc ?_ _)); exact BK417.out) hb); have n1_ := Aside0.mk (below_step (by repeat (first | (with_reducible first | exact HB.out | apply below_alloc | apply pw_below_drewN | apply below_drew1 | refine below_set ?_ GE417.out) | exact HB.out)) hb); clear BK417; clear HB; have BK417 := n0_; have HB := n1_; clear n0_ n1_; (try clear hb); (try clear hb2); (try clear hk); (try clear hi)))
            go_roundg k1
            case measure => have := HK1.out; omega
            case rel => exact ⟨(wrap64 (x3_1 + 1)), (by first | rfl | (simp; done) | (simp [*]; done)), H', ⟨by have := HK1.out; omega⟩, ⟨by (with_reducible repeat (first | refine blk_drewN ?_ _ | refine blk_drew ?_ | refine blk_alloc ?_ _)); exact BK417.out⟩, ⟨by repeat (first | (with_reducible first | exact HB.out | apply below_alloc | apply pw_below_drewN | apply below_drew1 | refine below_set ?_ GE417.out) | exact HB.out)⟩⟩
          · replace c6 := Bool.eq_false_iff.mpr c6
            subst c6
            have H1 : (some false) = some r := by rw [if_neg (show ¬ (false = true) by decide)] at H; exact H
            clear H
            have H := H1
            clear H1
            obtain rfl := Option.some.inj H
            have hcz9_0 : wr.cell? ⟨gb417, 0, none⟩ = some (.string a0_0) := (blk_cell BK417.out 0).trans rfl
            have hcz9_1 : wr.cell? ⟨gb417, 1, none⟩ = some (.int .i64 a0_1) := (blk_cell BK417.out 1).trans rfl
            have hcz9_2 : wr.cell? ⟨gb417, 2, none⟩ = some (.slice A0_2 l0_2.length c0_2) := (blk_cell BK417.out 2).trans rfl
            have hfz9_0 := blk_frozen BK417.out 0
            have hfz9_1 := blk_frozen BK417.out 1
            have hfz9_2 := blk_frozen BK417.out 2
            have p418 : 0 ≤ (x3_1 : Int) := of_decide_eq_true (by first | (with_reducible assumption) | assumption)
            have q418 : x3_1 < (l0_2.length : Int) := of_decide_eq_true (by first | (with_reducible assumption) | assumption)
            obtain ⟨ad418, A418_4, c418_4, e418, hx418_0, hx418_1, hx418_2, hx418_3, hx418_4, hl418_4, hi418_4⟩ := at_T66 HR0_2.out x3_1 p418 q418
            cases e418
            replace hx418_0 := (HB.out.cell (World.block_lt_of_cell? w _ hx418_0)).trans hx418_0
            replace hx418_1 := (HB.out.cell (World.block_lt_of_cell? w _ hx418_1)).trans hx418_1
            replace hx418_2 := (HB.out.cell (World.block_lt_of_cell? w _ hx418_2)).trans hx418_2
            replace hx418_3 := (HB.out.cell (World.block_lt_of_cell? w _ hx418_3)).trans hx418_3
            replace hx418_4 := (HB.out.cell (World.block_lt_of_cell? w _ hx418_4)).trans hx418_4
            have HR418_4 := Aside0.mk hi418_4
            have HC418_4 := Aside0.mk hl418_4
            clear hi418_4 hl418_4
            replace p418 := eq_true p418
            replace q418 := eq_true q418
            go_wp2_with (first | ((with_reducible refine gate_callee (f := 51) rfl ?_); refine goesL_ (some 16) rfl rfl Try.func51 (by kernel_rfl) rfl #[.agg #[.int .i64 ((rd_T66 l0_2 x3_1).f0), .int .i64 ((rd_T66 l0_2 x3_1).f1), .string ((rd_T66 l0_2 x3_1).f2), .string ((rd_T66 l0_2 x3_1).f3), .slice A418_4 ((rd_T66 l0_2 x3_1).f4).length c418_4]] rfl (by (try simp only [List.map_toArray, List.map_cons, List.map_nil]); first | done | rfl | (simp only [List.length_drop, List.length_take]; rfl)) ?_; (with_reducible refine (dasdref07_Few.calls ((rd_T66 l0_2 x3_1).f0) ((rd_T66 l0_2 x3_1).f1) ((rd_T66 l0_2 x3_1).f2) ((rd_T66 l0_2 x3_1).f3) _ _ ((rd_T66 l0_2 x3_1).f4) false _ ?side1 ?side2 A5.out).mono ?_); (case side1 => repeat (first | exact (Kd.C_below HR418_4.out HB.out) | (with_reducible refine Kd.C_alloc ?_ _) | (with_reducible refine Kd.C_drewN ?_ _) | (with_reducible refine Kd.C_drew ?_))); (case side2 => exact HC418_4.out); rintro e w10 ⟨rfl, hb⟩; refine ⟨_, rfl, ?_⟩; have n0_ := Aside0.mk (blk_below (g := gb417) (o := .cells #[.string a0_0, .int .i64 a0_1, .slice (some ad418) l0_2.length c0_2] 41 (0, 0)) (by (with_reducible repeat (first | refine blk_drewN ?_ _ | refine blk_drew ?_ | refine blk_alloc ?_ _)); exact BK417.out) hb); have n1_ := Aside0.mk (below_step (by repeat (first | (with_reducible first | exact HB.out | apply below_alloc | apply pw_below_drewN | apply below_drew1 | refine below_set ?_ GE417.out) | exact HB.out)) hb); clear BK417; clear HB; have BK417 := n0_; have HB := n1_; clear n0_ n1_; (try clear hb); (try clear hb2); (try clear hk); (try clear hi)))
            go_ret
            exact ⟨by first | rfl | (simp [errW_none, errW_some] <;> rfl) | (simp [*, errW_none, errW_some] <;> rfl), by repeat (first | (with_reducible first | exact HB.out | apply below_alloc | apply pw_below_drewN | apply below_drew1 | refine below_set ?_ GE417.out) | exact HB.out)⟩
        · rw [if_neg c4] at H
          exact absurd H (by simp)
      · rw [if_neg c3] at H
        have c3b0 : decide (x3_1 < (l0_2.length : Int)) = false := decide_eq_false c3
        clear c3
        by_cases c11 : (a0_0.size : Int) ≤ 100
        · rw [if_pos c11] at H
          have c11b0 : decide ((a0_0.size : Int) ≤ 100) = true := decide_eq_true c11
          have c11b1 : decide (a0_0.size ≤ 100) = true := decide_eq_true (by omega)
          clear c11
          obtain rfl := Option.some.inj H
          have hcz12_0 : wr.cell? ⟨gb417, 0, none⟩ = some (.string a0_0) := (blk_cell BK417.out 0).trans rfl
          have hcz12_1 : wr.cell? ⟨gb417, 1, none⟩ = some (.int .i64 a0_1) := (blk_cell BK417.out 1).trans rfl
          have hcz12_2 : wr.cell? ⟨gb417, 2, none⟩ = some (.slice A0_2 l0_2.length c0_2) := (blk_cell BK417.out 2).trans rfl
          have hfz12_0 := blk_frozen BK417.out 0
          have hfz12_1 := blk_frozen BK417.out 1
          have hfz12_2 := blk_frozen BK417.out 2
          go_wp2
          go_ret
          exact ⟨by first | rfl | (simp [errW_none, errW_some] <;> rfl) | (simp [*, errW_none, errW_some] <;> rfl), by repeat (first | (with_reducible first | exact HB.out | apply below_alloc | apply pw_below_drewN | apply below_drew1 | refine below_set ?_ GE417.out) | exact HB.out)⟩
        · rw [if_neg c11] at H
          have c11b0 : decide ((a0_0.size : Int) ≤ 100) = false := decide_eq_false c11
          have c11b1 : decide (a0_0.size ≤ 100) = false := decide_eq_false (by omega)
          clear c11
          obtain rfl := Option.some.inj H
          have hcz13_0 : wr.cell? ⟨gb417, 0, none⟩ = some (.string a0_0) := (blk_cell BK417.out 0).trans rfl
          have hcz13_1 : wr.cell? ⟨gb417, 1, none⟩ = some (.int .i64 a0_1) := (blk_cell BK417.out 1).trans rfl
          have hcz13_2 : wr.cell? ⟨gb417, 2, none⟩ = some (.slice A0_2 l0_2.length c0_2) := (blk_cell BK417.out 2).trans rfl
          have hfz13_0 := blk_frozen BK417.out 0
          have hfz13_1 := blk_frozen BK417.out 1
          have hfz13_2 := blk_frozen BK417.out 2
          go_wp2
          go_ret
          exact ⟨by first | rfl | (simp [errW_none, errW_some] <;> rfl) | (simp [*, errW_none, errW_some] <;> rfl), by repeat (first | (with_reducible first | exact HB.out | apply below_alloc | apply pw_below_drewN | apply below_drew1 | refine below_set ?_ GE417.out) | exact HB.out)⟩

end Go.Proofs.Ytghpmenoiimpoaa.P

