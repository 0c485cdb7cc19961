import Derived.Test.YtghpmenoiimpoaaCPx0
import Derived.Test.YtghpmenoiimpoaaCPx2
namespace Go.Proofs.Ytghpmenoiimpoaa.P
open Go.RowKit Go.Proofs.YtghpmenoiimpoaaW.PrintWords Go.Proofs.YtghpmenoiimpoaaW.PrintLast Go.Proofs.YtghpmenoiimpoaaW.PrintMore
attribute [local go_sem] max2_int min2_int max_two min_two max_three min_three max_four min_four   -- for this text's walks alone
set_option linter.unusedVariables false
set_option linter.unusedSimpArgs false
/-! ### dasdref05_Sequence: function 89 -/
mutual
def dasdref05_Sequence.l0 : Nat → List (S25) → List Int → Int → Option (List Int)
  | 0, _, _, _ => none
  | k + 1, x0, x3, x4 => if x4 < (x0.length : Int) then (if 0 ≤ x4 then ((dasdref05_clip.f k ((rd_T25 x0 x4).f0) ((rd_T25 x0 x4).f1)).bind fun bt739 => (dasdref05_Sequence.l1 k x0 x3 x4 0 bt739.1 bt739.2)) else (none)) else (some x3)
def dasdref05_Sequence.l1 : Nat → List (S25) → List Int → Int → Int → Int → Int → Option (List Int)
  | 0, _, _, _, _, _, _ => none
  | k + 1, x0, x3, x4, x6, x742000, x742001 => if x6 < x742001 then (if x3.length < 17592186044416 then (dasdref05_Sequence.l1 k x0 (x3 ++ [wrap64 (x742000 + x6)]) x4 (wrap64 (x6 + 1)) x742000 x742001) else (none)) else (dasdref05_Sequence.l0 k x0 x3 (wrap64 (x4 + 1)))
end
def dasdref05_Sequence.f (k : Nat) (l0 : List (S25)) : Option (List Int) := dasdref05_Sequence.l0 k l0 (([] : List Int)) 0
theorem dasdref05_Sequence.mono_l : ∀ k, (∀ y0 y1 y2, LeO (dasdref05_Sequence.l0 k y0 y1 y2) (dasdref05_Sequence.l0 (k + 1) y0 y1 y2)) ∧ (∀ y0 y1 y2 y3 y4 y5, LeO (dasdref05_Sequence.l1 k y0 y1 y2 y3 y4 y5) (dasdref05_Sequence.l1 (k + 1) y0 y1 y2 y3 y4 y5))
  | 0 => ⟨fun _ _ _ r h => by simp [dasdref05_Sequence.l0] at h, fun _ _ _ _ _ _ r h => by simp [dasdref05_Sequence.l1] at h⟩
  | k + 1 => by
    obtain ⟨ih0, ih1⟩ := dasdref05_Sequence.mono_l k
    refine ⟨?_, ?_⟩
    · intro y0 y1 y2
      unfold dasdref05_Sequence.l0
      repeat' first
      | (with_reducible exact ih0 _ _ _)
      | (with_reducible exact ih1 _ _ _ _ _ _)
      | (with_reducible exact dasdref05_clip.mono _ _ _)
      | (with_reducible exact LeO.refl _)
      | (with_reducible exact LeO.none _)
      | (with_reducible refine LeO.ite ?_ ?_)
      | (with_reducible refine LeO.bind ?_ (fun _ => ?_))
      | exact ih0 _ _ _
      | exact ih1 _ _ _ _ _ _
      | exact dasdref05_clip.mono _ _ _
      | exact LeO.none _
      | refine LeO.ite ?_ ?_
      | refine LeO.bind ?_ (fun _ => ?_)
    · intro y0 y1 y2 y3 y4 y5
      unfold dasdref05_Sequence.l1
      repeat' first
      | (with_reducible exact ih0 _ _ _)
      | (with_reducible exact ih1 _ _ _ _ _ _)
      | (with_reducible exact dasdref05_clip.mono _ _ _)
      | (with_reducible exact LeO.refl _)
      | (with_reducible exact LeO.none _)
      | (with_reducible refine LeO.ite ?_ ?_)
      | (with_reducible refine LeO.bind ?_ (fun _ => ?_))
      | exact ih0 _ _ _
      | exact ih1 _ _ _ _ _ _
      | exact dasdref05_clip.mono _ _ _
      | exact LeO.none _
      | refine LeO.ite ?_ ?_
      | refine LeO.bind ?_ (fun _ => ?_)
theorem dasdref05_Sequence.mono : ∀ a0 k, LeO (dasdref05_Sequence.f k a0) (dasdref05_Sequence.f (k + 1) a0) := by
  intro a0 k
  obtain ⟨ih0, ih1⟩ := dasdref05_Sequence.mono_l k
  unfold dasdref05_Sequence.f
  repeat' first
      | (with_reducible exact ih0 _ _ _)
      | (with_reducible exact ih1 _ _ _ _ _ _)
      | (with_reducible exact dasdref05_clip.mono _ _ _)
      | (with_reducible exact LeO.refl _)
      | (with_reducible exact LeO.none _)
      | (with_reducible refine LeO.ite ?_ ?_)
      | (with_reducible refine LeO.bind ?_ (fun _ => ?_))
      | exact ih0 _ _ _
      | exact ih1 _ _ _ _ _ _
      | exact dasdref05_clip.mono _ _ _
      | exact LeO.none _
      | refine LeO.ite ?_ ?_
      | refine LeO.bind ?_ (fun _ => ?_)
set_option maxHeartbeats 8000000 in
set_option maxRecDepth 100000 in
theorem dasdref05_Sequence.calls (k : Nat) (A0 : Option Addr) (c0 : Nat) (l0 : List (S25)) (r : List Int) (w : World) (hr0 : Kd.C k25 w A0 l0.length l0) (hc0 : l0.length ≤ c0) (h : dasdref05_Sequence.f k l0 = some r) :
    Calls Try.prog 89 #[.slice A0 l0.length c0] w fun e w' => ∃ v0_ : Value, e = .returned (v0_) ∧ Kd.R (Kd.int .i64) 3 w' w.heap.size (fun _ => True) v0_ r ∧ Below w.heap.size w w' := by
  have hu25 := Try.underlying25
  have HR0 := Aside0.mk hr0
  have HC0 := Aside0.mk hc0
  clear hr0 hc0
  have HB := Aside0.mk (Below.refl w.heap.size w)
  have H : (dasdref05_Sequence.l0 k l0 (([] : List Int)) 0) = some r := h
  clear h
  obtain ⟨y735, hy735⟩ : ∃ y_ : List Int, y_ = (([] : List Int)) := ⟨_, rfl⟩
  replace H : (dasdref05_Sequence.l0 k l0 y735 0) = some r := by first | (rw [hy735]; with_reducible exact H) | (have H2_ := (Option.bind_some _ _).symm.trans H; rw [hy735]; with_reducible exact H2_) | (have H2_ := (Option.bind_some _ _).symm.trans H; with_reducible exact H2_) | with_reducible exact H | (rw [hy735]; exact H) | exact H
  have Ny735 := Aside0.mk hy735
  clear hy735
  have H' := Aside0.mk H
  clear H
  go_enter Try.func89, Try.ntmps89
  go_wp2_with (first | ((with_reducible refine gate_dst (N := 7) rfl ?_); refine Kd.R_lit (Kd.int .i64) _ 3 ?hg (N := 7) ?hd (xs := ([] : List Int)) (inner := []) (ok := fun _ => True) (okp := fun _ => True) ?hr ?hp (fun _ hk => hk) trivial (Below.refl _ _) (Nat.le_refl _) (by simp) ?_; (case hd => rfl); (case hg => rfl); (case hr => first | (go_simp; done) | (go_simp; rfl)); (case hp => exact (Reps.none _ _)); intro v736 w2 ho3 hb hg_ hnew_; clear hg_ hnew_; (first | rw [← Ny735.out] at ho3 | (simp only [Int.reduceToNat] at ho3; rw [← Ny735.out] at ho3)); have n0_ := Aside0.mk (Kd.R_lower ho3 (below_size (by repeat (first | (with_reducible first | exact HB.out | apply below_alloc | apply pw_below_drewN | apply below_drew1) | exact HB.out)))); have n1_ := Aside0.mk (below_step (by repeat (first | (with_reducible first | exact HB.out | apply below_alloc | apply pw_below_drewN | apply below_drew1) | exact HB.out)) hb); clear HB; have HO737 := n0_; have HB := n1_; clear n0_ n1_; clear hb ho3))
  go_loopg [3, 4] k (fun kq v3 v4 w' => ∃ (x3_1 : List Int) (x4_1 : Int), v4 = .int .i64 x4_1 ∧ Aside0 (dasdref05_Sequence.l0 kq l0 x3_1 x4_1 = some r) ∧ Aside0 (kq ≤ k) ∧ Aside0 (Kd.R (Kd.int .i64) 3 w' w.heap.size (fun _ => True) v3 x3_1) ∧ Aside0 (Below w.heap.size w w'))
  case atStart => exact ⟨(y735), (0), (by first | rfl | (simp; done) | (simp [*]; done)), H', ⟨Nat.le_refl _⟩, ⟨by (with_reducible repeat (first | apply Kd.R_alloc | apply Kd.R_drewN | apply Kd.R_drew)); exact HO737.out⟩, ⟨by repeat (first | (with_reducible first | exact HB.out | apply below_alloc | apply pw_below_drewN | apply below_drew1) | exact HB.out)⟩⟩
  case round =>
    clear H'
    try clear p2
    obtain ⟨x3_1, x4_1, rfl, HA, HK1, HO_3, HB⟩ := hrel
    cases gk with
    | zero => exact absurd HA.out (by simp [dasdref05_Sequence.l0])
    | succ k1 =>
      have H := HA.out
      clear HA
      simp only [dasdref05_Sequence.l0] at H
      by_cases c4 : x4_1 < (l0.length : Int)
      · rw [if_pos c4] at H
        have c4b0 : decide (x4_1 < (l0.length : Int)) = true := decide_eq_true c4
        clear c4
        by_cases c5 : 0 ≤ x4_1
        · rw [if_pos c5] at H
          have c5b0 : decide (0 ≤ x4_1) = true := decide_eq_true c5
          clear c5
          replace H := Option.bind_eq_some_iff.mp H
          obtain ⟨⟨t739, t740⟩, A60, H⟩ := H
          replace H : (dasdref05_Sequence.l1 k1 l0 x3_1 x4_1 0 t739 t740) = some r := H
          have A6 := Aside0.mk A60
          clear A60
          have H' := Aside0.mk H
          clear H
          have p738 : 0 ≤ (x4_1 : Int) := of_decide_eq_true (by first | (with_reducible assumption) | assumption)
          have q738 : x4_1 < (l0.length : Int) := of_decide_eq_true (by first | (with_reducible assumption) | assumption)
          obtain ⟨ad738, e738, hx738_0, hx738_1⟩ := at_T25 HR0.out x4_1 p738 q738
          cases e738
          replace hx738_0 := (HB.out.cell (World.block_lt_of_cell? w _ hx738_0)).trans hx738_0
          replace hx738_1 := (HB.out.cell (World.block_lt_of_cell? w _ hx738_1)).trans hx738_1
          replace p738 := eq_true p738
          replace q738 := eq_true q738
          go_wp2_with (first | ((with_reducible refine gate_callee (f := 110) rfl ?_); refine goesL_ (some 18) rfl rfl Try.func110 (by kernel_rfl) rfl #[.agg #[.int .i64 ((rd_T25 l0 x4_1).f0), .int .i64 ((rd_T25 l0 x4_1).f1)]] rfl (by (try simp only [List.map_toArray, List.map_cons, List.map_nil]); first | done | rfl | (simp only [List.length_drop, List.length_take]; rfl)) ?_; (with_reducible refine (dasdref05_clip.calls k1 ((rd_T25 l0 x4_1).f0) ((rd_T25 l0 x4_1).f1) t739 t740 _ A6.out).mono ?_); rintro e w7 ⟨rfl, hb⟩; refine ⟨_, rfl, ?_⟩; have n0_ := Aside0.mk (Kd.R_below (by (with_reducible repeat (first | apply Kd.R_alloc | apply Kd.R_drewN | apply Kd.R_drew)); exact HO_3.out) hb); have n1_ := Aside0.mk (below_step (by repeat (first | (with_reducible first | exact HB.out | apply below_alloc | apply pw_below_drewN | apply below_drew1) | exact HB.out)) hb); clear HO_3; clear HB; have HO_3 := n0_; have HB := n1_; clear n0_ n1_; (try clear hb); (try clear hb2); (try clear hk); (try clear hi)) | ((with_reducible refine gate_dst (N := 5) rfl ?_); refine box_event ?hg (N := 5) ?hd (cs := #[.int .i64 0, .int .i64 0]) (t := 25) ?hr ?_; (case hd => rfl); (case hg => rfl); (case hr => first | (go_simp; done) | (go_simp; rfl)); intro gb741 hg w8 hbox hb; have n0_ := Aside0.mk (Kd.R_below (by (with_reducible repeat (first | apply Kd.R_alloc | apply Kd.R_drewN | apply Kd.R_drew)); exact HO_3.out) hb); have n1_ := Aside0.mk (below_step (by repeat (first | (with_reducible first | exact HB.out | apply below_alloc | apply pw_below_drewN | apply below_drew1) | exact HB.out)) hb); have n2_ := Aside0.mk (hbox); have n3_ := Aside0.mk ((by rw [hg]; exact (below_size (by repeat (first | (with_reducible first | exact HB.out | apply below_alloc | apply pw_below_drewN | apply below_drew1) | exact HB.out))) : w.heap.size ≤ gb741)); have n4_ := Aside0.mk ((by rw [hg]; exact (below_size (by repeat (first | (with_reducible first | exact HB.out | apply below_alloc | apply pw_below_drewN | apply below_drew1) | exact HB.out))) : w.heap.size ≤ gb741)); clear HO_3; clear HB; have HO_3 := n0_; have HB := n1_; have BK741 := n2_; have GW741 := n3_; have GE741 := n4_; clear n0_ n1_ n2_ n3_ n4_; clear hb hbox hg; have hcz9_0 : w8.cell? ⟨gb741, 0, none⟩ = some (.int .i64 0) := (blk_cell BK741.out 0).trans rfl; have hcz9_1 : w8.cell? ⟨gb741, 1, none⟩ = some (.int .i64 0) := (blk_cell BK741.out 1).trans rfl; have hfz9_0 := blk_frozen BK741.out 0; have hfz9_1 := blk_frozen BK741.out 1))
          go_loopg [3, 6] k1 (fun kq v3 v6 w' => ∃ (x3_2 : List Int) (x6_2 : Int), v6 = .int .i64 x6_2 ∧ Aside0 (dasdref05_Sequence.l1 kq l0 x3_2 x4_1 x6_2 t739 t740 = some r) ∧ Aside0 (kq ≤ k1) ∧ Aside0 (Kd.R (Kd.int .i64) 3 w' w.heap.size (fun _ => True) v3 x3_2) ∧ Aside0 (w'.heap[gb741]? = some (.cells #[.int .i64 t739, .int .i64 t740] 25 (0, 0))) ∧ Aside0 (Below w.heap.size w w'))
          case atStart => exact ⟨(x3_1), (0), (by first | rfl | (simp; done) | (simp [*]; done)), H', ⟨Nat.le_refl _⟩, ⟨by (with_reducible repeat (first | apply Kd.R_alloc | apply Kd.R_drewN | apply Kd.R_drew)); exact Kd.R_mono (Kd.R_far (p := ⟨gb741, 1, none⟩) (Kd.R_far (p := ⟨gb741, 0, none⟩) (Kd.R_types HO_3.out BK741.out (by decide)) (fun _ hk => hk.2) (.int .i64 t739)) (fun _ hk => hk.2) (.int .i64 t740)) (fun _ hk => trivial)⟩, ⟨by (with_reducible repeat (first | refine blk_drewN ?_ _ | refine blk_drew ?_ | refine blk_alloc ?_ _)); refine blk_put (cs := #[.int .i64 t739, .int .i64 0]) ?_ 1 _ rfl; (with_reducible repeat (first | refine blk_drewN ?_ _ | refine blk_drew ?_ | refine blk_alloc ?_ _)); refine blk_put (cs := #[.int .i64 0, .int .i64 0]) ?_ 0 _ rfl; (with_reducible repeat (first | refine blk_drewN ?_ _ | refine blk_drew ?_ | refine blk_alloc ?_ _)); exact BK741.out⟩, ⟨by repeat (first | (with_reducible first | exact HB.out | apply below_alloc | apply pw_below_drewN | apply below_drew1 | refine below_set ?_ GE741.out) | exact HB.out)⟩⟩
          case round =>
            clear H'
            try clear c1
            try clear p2
            try clear c4
            try clear c4b0
            try clear c5
            try clear c5b0
            try clear p7
            try clear q7
            try clear hx7
            try clear c8
            try clear hcz9_0
            try clear hcz9_1
            try clear hfz9_0
            try clear hfz9_1
            try clear hx738_0
            try clear hx738_1
            try clear p2
            try clear p738
            try clear q738
            obtain ⟨x3_2, x6_2, rfl, HA, HK2, HO_3, BK741, HB⟩ := hrel
            cases gk with
            | zero => exact absurd HA.out (by simp [dasdref05_Sequence.l1])
            | succ k2 =>
              have H := HA.out
              clear HA
              simp only [dasdref05_Sequence.l1] at H
              by_cases c10 : x6_2 < t740
              · rw [if_pos c10] at H
                have c10b0 : decide (x6_2 < t740) = true := decide_eq_true c10
                clear c10
                by_cases c11 : x3_2.length < 17592186044416
                · rw [if_pos c11] at H
                  have LMc11 := Aside0.mk c11
                  clear c11
                  obtain ⟨y742, hy742⟩ : ∃ y_ : List Int, y_ = (x3_2 ++ [wrap64 (t739 + x6_2)]) := ⟨_, rfl⟩
                  replace H : (dasdref05_Sequence.l1 k2 l0 y742 x4_1 (wrap64 (x6_2 + 1)) t739 t740) = some r := by first | (rw [hy742]; with_reducible exact H) | (have H2_ := (Option.bind_some _ _).symm.trans H; rw [hy742]; with_reducible exact H2_) | (have H2_ := (Option.bind_some _ _).symm.trans H; with_reducible exact H2_) | with_reducible exact H | (rw [hy742]; exact H) | exact H
                  have Ny742 := Aside0.mk hy742
                  clear hy742
                  have H' := Aside0.mk H
                  clear H
                  have hcz12_0 : wr.cell? ⟨gb741, 0, none⟩ = some (.int .i64 t739) := (blk_cell BK741.out 0).trans rfl
                  have hcz12_1 : wr.cell? ⟨gb741, 1, none⟩ = some (.int .i64 t740) := (blk_cell BK741.out 1).trans rfl
                  have hfz12_0 := blk_frozen BK741.out 0
                  have hfz12_1 := blk_frozen BK741.out 1
                  go_wp2_with (first | ((with_reducible refine gate_builtin (b := .append) (xs := #[.tmp 25, .tmp 30]) rfl ?_); at_builtin; refine Kd.R_append (Kd.int .i64) (w0 := w) w.heap.size rfl (.tmp 25) (.tmp 30) 115 3 (.int .i64 0) 8 rfl Try.underlying115 info3 rfl (by decide) (by omega) u3 x3_2 (wrap64 (t739 + x6_2)) [.int .i64 (wrap64 (t739 + x6_2))] (fun _ => True) (fun _ => False) rfl rfl ?aP (fun _ hk => hk.elim) ?aF ?aO ?aB ?aS ?aL ?_; (case aP => exact rfl); (case aB => exact (by repeat (first | (with_reducible first | exact HB.out | apply below_alloc | apply pw_below_drewN | apply below_drew1 | refine below_set ?_ GE741.out) | exact HB.out))); (case aF => exact (fun _ _ => trivial)); (case aO => exact (by (with_reducible repeat (first | apply Kd.R_alloc | apply Kd.R_drewN | apply Kd.R_drew)); exact HO_3.out)); (case aS => exact (below_size (by repeat (first | (with_reducible first | exact HB.out | apply below_alloc | apply pw_below_drewN | apply below_drew1 | refine below_set ?_ GE741.out) | exact HB.out)))); (case aL => have := LMc11.out; omega); intro v743 w13 ho hb hg hat; rw [← Ny742.out] at ho; have n0_ := Aside0.mk (blk_grown (g := gb741) (o := .cells #[.int .i64 t739, .int .i64 t740] 25 (0, 0)) (by (with_reducible repeat (first | refine blk_drewN ?_ _ | refine blk_drew ?_ | refine blk_alloc ?_ _)); exact BK741.out) hg (Kd.R_ne HO_3.out BK741.out (by decide))); have n1_ := Aside0.mk (hb); have n2_ := Aside0.mk (ho); clear BK741; clear HB; clear HO_3; have BK741 := n0_; have HB := n1_; have HO744 := n2_; clear n0_ n1_ n2_; clear ho hb hg hat))
                  go_roundg k2
                  case measure => have := HK1.out; have := HK2.out; omega
                  case rel => exact ⟨(y742), (wrap64 (x6_2 + 1)), (by first | rfl | (simp; done) | (simp [*]; done)), H', ⟨by have := HK1.out; have := HK2.out; omega⟩, ⟨by (with_reducible repeat (first | apply Kd.R_alloc | apply Kd.R_drewN | apply Kd.R_drew)); exact HO744.out⟩, ⟨by (with_reducible repeat (first | refine blk_drewN ?_ _ | refine blk_drew ?_ | refine blk_alloc ?_ _)); exact BK741.out⟩, ⟨by repeat (first | (with_reducible first | exact HB.out | apply below_alloc | apply pw_below_drewN | apply below_drew1 | refine below_set ?_ GE741.out) | exact HB.out)⟩⟩
                · rw [if_neg c11] at H
                  exact absurd H (by simp)
              · rw [if_neg c10] at H
                have c10b0 : decide (x6_2 < t740) = false := decide_eq_false c10
                clear c10
                have H' := Aside0.mk H
                clear H
                have hcz14_0 : wr.cell? ⟨gb741, 0, none⟩ = some (.int .i64 t739) := (blk_cell BK741.out 0).trans rfl
                have hcz14_1 : wr.cell? ⟨gb741, 1, none⟩ = some (.int .i64 t740) := (blk_cell BK741.out 1).trans rfl
                have hfz14_0 := blk_frozen BK741.out 0
                have hfz14_1 := blk_frozen BK741.out 1
                go_wp2
                go_roundg k2
                case measure => have := HK1.out; have := HK2.out; omega
                case rel => exact ⟨(x3_2), (wrap64 (x4_1 + 1)), (by first | rfl | (simp; done) | (simp [*]; done)), H', ⟨by have := HK1.out; have := HK2.out; omega⟩, ⟨by (with_reducible repeat (first | apply Kd.R_alloc | apply Kd.R_drewN | apply Kd.R_drew)); exact HO_3.out⟩, ⟨by repeat (first | (with_reducible first | exact HB.out | apply below_alloc | apply pw_below_drewN | apply below_drew1 | refine below_set ?_ GE741.out) | exact HB.out)⟩⟩
        · rw [if_neg c5] at H
          exact absurd H (by simp)
      · rw [if_neg c4] at H
        have c4b0 : decide (x4_1 < (l0.length : Int)) = false := decide_eq_false c4
        clear c4
        obtain rfl := Option.some.inj H
        go_wp2
        go_ret
        exact ⟨_, by first | rfl | (simp [errW_none, errW_some] <;> rfl) | (simp [*, errW_none, errW_some] <;> rfl), by (with_reducible repeat (first | apply Kd.R_alloc | apply Kd.R_drewN | apply Kd.R_drew)); exact HO_3.out, by repeat (first | (with_reducible first | exact HB.out | apply below_alloc | apply pw_below_drewN | apply below_drew1) | exact HB.out)⟩

end Go.Proofs.Ytghpmenoiimpoaa.P

