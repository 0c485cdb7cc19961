import Derived.Test.YtghpmenoiimpoaaRPx0
import Derived.Test.YtghpmenoiimpoaaRPx2
import Derived.Test.YtghpmenoiimpoaaRPx4
import Derived.Test.YtghpmenoiimpoaaRPx6
import Derived.Test.YtghpmenoiimpoaaRPx7
namespace Go.Proofs.Ytghpmenoiimpoaa.P
open Go.RowKit Go.Proofs.YtghpmenoiimpoaaW.PrintWords Go.Proofs.YtghpmenoiimpoaaW.PrintLast Go.Proofs.YtghpmenoiimpoaaW.PrintMore
attribute [local go_sem] max2_int min2_int max_two min_two max_three min_three max_four min_four   -- for this text's walks alone
set_option linter.unusedVariables false
set_option linter.unusedSimpArgs false
/-! ### dasdref05_Sequence: function 89 -/
mutual
def dasdref05_Sequence.l0 : Nat → List (S25) → List Int → Int → Option (List Int)
  | 0, _, _, _ => none
  | k + 1, x0, x3, x4 => if x4 < (x0.length : Int) then (if 0 ≤ x4 then ((dasdref05_clip.f k ((rd_T25 x0 x4).f0) ((rd_T25 x0 x4).f1)).bind fun bt773 => (dasdref05_Sequence.l1 k x0 x3 x4 0 bt773.1 bt773.2)) else (none)) else (some x3)
def dasdref05_Sequence.l1 : Nat → List (S25) → List Int → Int → Int → Int → Int → Option (List Int)
  | 0, _, _, _, _, _, _ => none
  | k + 1, x0, x3, x4, x6, x776000, x776001 => if x6 < x776001 then (if x3.length < 17592186044416 then (dasdref05_Sequence.l1 k x0 (x3 ++ [wrap64 (x776000 + x6)]) x4 (wrap64 (x6 + 1)) x776000 x776001) else (none)) else (dasdref05_Sequence.l0 k x0 x3 (wrap64 (x4 + 1)))
end
def dasdref05_Sequence.f (k : Nat) (l0 : List (S25)) : Option (List Int) := dasdref05_Sequence.l0 k l0 (([] : List Int)) 0
theorem dasdref05_Sequence.mono_l : ∀ k, (∀ y0 y1 y2, LeO (dasdref05_Sequence.l0 k y0 y1 y2) (dasdref05_Sequence.l0 (k + 1) y0 y1 y2)) ∧ (∀ y0 y1 y2 y3 y4 y5, LeO (dasdref05_Sequence.l1 k y0 y1 y2 y3 y4 y5) (dasdref05_Sequence.l1 (k + 1) y0 y1 y2 y3 y4 y5))
  | 0 => ⟨fun _ _ _ r h => by simp [dasdref05_Sequence.l0] at h, fun _ _ _ _ _ _ r h => by simp [dasdref05_Sequence.l1] at h⟩
  | k + 1 => by
    obtain ⟨ih0, ih1⟩ := dasdref05_Sequence.mono_l k
    refine ⟨?_, ?_⟩
    · intro y0 y1 y2
      unfold dasdref05_Sequence.l0
      repeat' first
      | (with_reducible exact ih0 _ _ _)
      | (with_reducible exact ih1 _ _ _ _ _ _)
      | (with_reducible exact dasdref05_clip.mono _ _ _)
      | (with_reducible exact LeO.refl _)
      | (with_reducible exact LeO.none _)
      | (with_reducible refine LeO.ite ?_ ?_)
      | (with_reducible refine LeO.bind ?_ (fun _ => ?_))
      | exact ih0 _ _ _
      | exact ih1 _ _ _ _ _ _
      | exact dasdref05_clip.mono _ _ _
      | exact LeO.none _
      | refine LeO.ite ?_ ?_
      | refine LeO.bind ?_ (fun _ => ?_)
    · intro y0 y1 y2 y3 y4 y5
      unfold dasdref05_Sequence.l1
      repeat' first
      | (with_reducible exact ih0 _ _ _)
      | (with_reducible exact ih1 _ _ _ _ _ _)
      | (with_reducible exact dasdref05_clip.mono _ _ _)
      | (with_reducible exact LeO.refl _)
      | (with_reducible exact LeO.none _)
      | (with_reducible refine LeO.ite ?_ ?_)
      | (with_reducible refine LeO.bind ?_ (fun _ => ?_))
      | exact ih0 _ _ _
      | exact ih1 _ _ _ _ _ _
      | exact dasdref05_clip.mono _ _ _
      | exact LeO.none _
      | refine LeO.ite ?_ ?_
      | refine LeO.bind ?_ (fun _ => ?_)
theorem dasdref05_Sequence.mono : ∀ a0 k, LeO (dasdref05_Sequence.f k a0) (dasdref05_Sequence.f (k + 1) a0) := by
  intro a0 k
  obtain ⟨ih0, ih1⟩ := dasdref05_Sequence.mono_l k
  unfold dasdref05_Sequence.f
  repeat' first
      | (with_reducible exact ih0 _ _ _)
      | (with_reducible exact ih1 _ _ _ _ _ _)
      | (with_reducible exact dasdref05_clip.mono _ _ _)
      | (with_reducible exact LeO.refl _)
      | (with_reducible exact LeO.none _)
      | (with_reducible refine LeO.ite ?_ ?_)
      | (with_reducible refine LeO.bind ?_ (fun _ => ?_))
      | exact ih0 _ _ _
      | exact ih1 _ _ _ _ _ _
      | exact dasdref05_clip.mono _ _ _
      | exact LeO.none _
      | refine LeO.ite ?_ ?_
      | refine LeO.bind ?_ (fun _ => ?_)
set_option maxHeartbeats 8000000 in
set_option maxRecDepth 100000 in
theorem dasdref05_Sequence.calls (k : Nat) (A0 : Option Addr) (c0 : Nat) (l0 : List (S25)) (r : List Int) (w : World) (hr0 : Kd.C k25 w A0 l0.length l0) (hc0 : l0.length ≤ c0) (h : dasdref05_Sequence.f k l0 = some r) :
    Calls Try.prog 89 #[.slice A0 l0.length c0] w fun e w' => ∃ v0_ : Value, e = .returned (v0_) ∧ Kd.R (Kd.int .i64) 3 w' w.heap.size (fun _ => True) v0_ r ∧ Below w.heap.size w w' := by
  have hu25 := Try.underlying25
  have HR0 := Aside0.mk hr0
  have HC0 := Aside0.mk hc0
  clear hr0 hc0
  have HB := Aside0.mk (Below.refl w.heap.size w)
  have H : (dasdref05_Sequence.l0 k l0 (([] : List Int)) 0) = some r := h
  clear h
  obtain ⟨y769, hy769⟩ : ∃ y_ : List Int, y_ = (([] : List Int)) := ⟨_, rfl⟩
  replace H : (dasdref05_Sequence.l0 k l0 y769 0) = some r := by first | (rw [hy769]; with_reducible exact H) | (have H2_ := (Option.bind_some _ _).symm.trans H; rw [hy769]; with_reducible exact H2_) | (have H2_ := (Option.bind_some _ _).symm.trans H; with_reducible exact H2_) | with_reducible exact H | (rw [hy769]; exact H) | exact H
  have Ny769 := Aside0.mk hy769
  clear hy769
  have H' := Aside0.mk H
  clear H
  go_enter Try.func89, Try.ntmps89
  go_wp2_with (first | ((with_reducible refine gate_dst (N := 7) rfl ?_); refine Kd.R_lit (Kd.int .i64) _ 3 ?hg (N := 7) ?hd (xs := ([] : List Int)) (inner := []) (ok := fun _ => True) (okp := fun _ => True) ?hr ?hp (fun _ hk => hk) trivial (Below.refl _ _) (Nat.le_refl _) (by simp) ?_; (case hd => rfl); (case hg => rfl); (case hr => first | (go_simp; done) | (go_simp; rfl)); (case hp => exact (Reps.none _ _)); intro v770 w2 ho3 hb hg_ hnew_; clear hg_ hnew_; (first | rw [← Ny769.out] at ho3 | (simp only [Int.reduceToNat] at ho3; rw [← Ny769.out] at ho3)); have n0_ := Aside0.mk (Kd.R_lower ho3 (below_size (by repeat (first | (with_reducible first | exact HB.out | apply below_alloc | apply pw_below_drewN | apply below_drew1) | exact HB.out)))); have n1_ := Aside0.mk (below_step (by repeat (first | (with_reducible first | exact HB.out | apply below_alloc | apply pw_below_drewN | apply below_drew1) | exact HB.out)) hb); clear HB; have HO771 := n0_; have HB := n1_; clear n0_ n1_; clear hb ho3))
  go_loopg [3, 4] k (fun kq v3 v4 w' => ∃ (x3_1 : List Int) (x4_1 : Int), v4 = .int .i64 x4_1 ∧ Aside0 (dasdref05_Sequence.l0 kq l0 x3_1 x4_1 = some r) ∧ Aside0 (kq ≤ k) ∧ Aside0 (Kd.R (Kd.int .i64) 3 w' w.heap.size (fun _ => True) v3 x3_1) ∧ Aside0 (Below w.heap.size w w'))
  case atStart => exact ⟨(y769), (0), (by first | rfl | (simp; done) | (simp [*]; done)), H', ⟨Nat.le_refl _⟩, ⟨by (with_reducible repeat (first | apply Kd.R_alloc | apply Kd.R_drewN | apply Kd.R_drew)); exact HO771.out⟩, ⟨by repeat (first | (with_reducible first | exact HB.out | apply below_alloc | apply pw_below_drewN | apply below_drew1) | exact HB.out)⟩⟩
  case round =>
    clear H'
    try clear p2
    obtain ⟨x3_1, x4_1, rfl, HA, HK1, HO_3, HB⟩ := hrel
    cases gk with
    | zero => exact absurd HA.out (by simp [dasdref05_Sequence.l0])
    | succ k1 =>
      have H := HA.out
      clear HA
      simp only [dasdref05_Sequence.l0] at H
      by_cases c4 : x4_1 < (l0.length : Int)
      · rw [if_pos c4] at H
        have c4b0 : decide (x4_1 < (l0.length : Int)) = true := decide_eq_true c4
        clear c4
        by_cases c5 : 0 ≤ x4_1
        · rw [if_pos c5] at H
          have c5b0 : decide (0 ≤ x4_1) = true := decide_eq_true c5
          clear c5
          replace H := Option.bind_eq_some_iff.mp H
          obtain ⟨⟨t773, t774⟩, A60, H⟩ := H
          replace H : (dasdref05_Sequence.l1 k1 l0 x3_1 x4_1 0 t773 t774) = some r := H
          have A6 := Aside0.mk A60
          clear A60
          have H' := Aside0.mk H
          clear H
          have p772 : 0 ≤ (x4_1 : Int) := of_decide_eq_true (by first | (with_reducible assumption) | assumption)
          have q772 : x4_1 < (l0.length : Int) := of_decide_eq_true (by first | (with_reducible assumption) | assumption)
          obtain ⟨ad772, e772, hx772_0, hx772_1⟩ := at_T25 HR0.out x4_1 p772 q772
          cases e772
          replace hx772_0 := (HB.out.cell (World.block_lt_of_cell? w _ hx772_0)).trans hx772_0
          replace hx772_1 := (HB.out.cell (World.block_lt_of_cell? w _ hx772_1)).trans hx772_1
          replace p772 := eq_true p772
          replace q772 := eq_true q772
          go_wp2_with (first | ((with_reducible refine gate_callee (f := 110) rfl ?_); refine goesL_ (some 18) rfl rfl Try.func110 (by kernel_rfl) rfl #[.agg #[.int .i64 ((rd_T25 l0 x4_1).f0), .int .i64 ((rd_T25 l0 x4_1).f1)]] rfl (by (try simp only [List.map_toArray, List.map_cons, List.map_nil]); first | done | rfl | (simp only [List.length_drop, List.length_take]; rfl)) ?_; (with_reducible refine (dasdref05_clip.calls k1 ((rd_T25 l0 x4_1).f0) ((rd_T25 l0 x4_1).f1) t773 t774 _ A6.out).mono ?_); rintro e w7 ⟨rfl, hb⟩; refine ⟨_, rfl, ?_⟩; have n0_ := Aside0.mk (Kd.R_below (by (with_reducible repeat (first | apply Kd.R_alloc | apply Kd.R_drewN | apply Kd.R_drew)); exact HO_3.out) hb); have n1_ := Aside0.mk (below_step (by repeat (first | (with_reducible first | exact HB.out | apply below_alloc | apply pw_below_drewN | apply below_drew1) | exact HB.out)) hb); clear HO_3; clear HB; have HO_3 := n0_; have HB := n1_; clear n0_ n1_; (try clear hb); (try clear hb2); (try clear hk); (try clear hi)) | ((with_reducible refine gate_dst (N := 5) rfl ?_); refine box_event ?hg (N := 5) ?hd (cs := #[.int .i64 0, .int .i64 0]) (t := 25) ?hr ?_; (case hd => rfl); (case hg => rfl); (case hr => first | (go_simp; done) | (go_simp; rfl)); intro gb775 hg w8 hbox hb; have n0_ := Aside0.mk (Kd.R_below (by (with_reducible repeat (first | apply Kd.R_alloc | apply Kd.R_drewN | apply Kd.R_drew)); exact HO_3.out) hb); have n1_ := Aside0.mk (below_step (by repeat (first | (with_reducible first | exact HB.out | apply below_alloc | apply pw_below_drewN | apply below_drew1) | exact HB.out)) hb); have n2_ := Aside0.mk (hbox); have n3_ := Aside0.mk ((by rw [hg]; exact (below_size (by repeat (first | (with_reducible first | exact HB.out | apply below_alloc | apply pw_below_drewN | apply below_drew1) | exact HB.out))) : w.heap.size ≤ gb775)); have n4_ := Aside0.mk ((by rw [hg]; exact (below_size (by repeat (first | (with_reducible first | exact HB.out | apply below_alloc | apply pw_below_drewN | apply below_drew1) | exact HB.out))) : w.heap.size ≤ gb775)); clear HO_3; clear HB; have HO_3 := n0_; have HB := n1_; have BK775 := n2_; have GW775 := n3_; have GE775 := n4_; clear n0_ n1_ n2_ n3_ n4_; clear hb hbox hg; have hcz9_0 : w8.cell? ⟨gb775, 0, none⟩ = some (.int .i64 0) := (blk_cell BK775.out 0).trans rfl; have hcz9_1 : w8.cell? ⟨gb775, 1, none⟩ = some (.int .i64 0) := (blk_cell BK775.out 1).trans rfl; have hfz9_0 := blk_frozen BK775.out 0; have hfz9_1 := blk_frozen BK775.out 1))
          go_loopg [3, 6] k1 (fun kq v3 v6 w' => ∃ (x3_2 : List Int) (x6_2 : Int), v6 = .int .i64 x6_2 ∧ Aside0 (dasdref05_Sequence.l1 kq l0 x3_2 x4_1 x6_2 t773 t774 = some r) ∧ Aside0 (kq ≤ k1) ∧ Aside0 (Kd.R (Kd.int .i64) 3 w' w.heap.size (fun _ => True) v3 x3_2) ∧ Aside0 (w'.heap[gb775]? = some (.cells #[.int .i64 t773, .int .i64 t774] 25 (0, 0))) ∧ Aside0 (Below w.heap.size w w'))
          case atStart => exact ⟨(x3_1), (0), (by first | rfl | (simp; done) | (simp [*]; done)), H', ⟨Nat.le_refl _⟩, ⟨by (with_reducible repeat (first | apply Kd.R_alloc | apply Kd.R_drewN | apply Kd.R_drew)); exact Kd.R_mono (Kd.R_far (p := ⟨gb775, 1, none⟩) (Kd.R_far (p := ⟨gb775, 0, none⟩) (Kd.R_types HO_3.out BK775.out (by decide)) (fun _ hk => hk.2) (.int .i64 t773)) (fun _ hk => hk.2) (.int .i64 t774)) (fun _ hk => trivial)⟩, ⟨by (with_reducible repeat (first | refine blk_drewN ?_ _ | refine blk_drew ?_ | refine blk_alloc ?_ _)); refine blk_put (cs := #[.int .i64 t773, .int .i64 0]) ?_ 1 _ rfl; (with_reducible repeat (first | refine blk_drewN ?_ _ | refine blk_drew ?_ | refine blk_alloc ?_ _)); refine blk_put (cs := #[.int .i64 0, .int .i64 0]) ?_ 0 _ rfl; (with_reducible repeat (first | refine blk_drewN ?_ _ | refine blk_drew ?_ | refine blk_alloc ?_ _)); exact BK775.out⟩, ⟨by repeat (first | (with_reducible first | exact HB.out | apply below_alloc | apply pw_below_drewN | apply below_drew1 | refine below_set ?_ GE775.out) | exact HB.out)⟩⟩
          case round =>
            clear H'
            try clear c1
            try clear p2
            try clear c4
            try clear c4b0
            try clear c5
            try clear c5b0
            try clear p7
            try clear q7
            try clear hx7
            try clear c8
            try clear hcz9_0
            try clear hcz9_1
            try clear hfz9_0
            try clear hfz9_1
            try clear hx772_0
            try clear hx772_1
            try clear p2
            try clear p772
            try clear q772
            obtain ⟨x3_2, x6_2, rfl, HA, HK2, HO_3, BK775, HB⟩ := hrel
            cases gk with
            | zero => exact absurd HA.out (by simp [dasdref05_Sequence.l1])
            | succ k2 =>
              have H := HA.out
              clear HA
              simp only [dasdref05_Sequence.l1] at H
              by_cases c10 : x6_2 < t774
              · rw [if_pos c10] at H
                have c10b0 : decide (x6_2 < t774) = true := decide_eq_true c10
                clear c10
                by_cases c11 : x3_2.length < 17592186044416
                · rw [if_pos c11] at H
                  have LMc11 := Aside0.mk c11
                  clear c11
                  obtain ⟨y776, hy776⟩ : ∃ y_ : List Int, y_ = (x3_2 ++ [wrap64 (t773 + x6_2)]) := ⟨_, rfl⟩
                  replace H : (dasdref05_Sequence.l1 k2 l0 y776 x4_1 (wrap64 (x6_2 + 1)) t773 t774) = some r := by first | (rw [hy776]; with_reducible exact H) | (have H2_ := (Option.bind_some _ _).symm.trans H; rw [hy776]; with_reducible exact H2_) | (have H2_ := (Option.bind_some _ _).symm.trans H; with_reducible exact H2_) | with_reducible exact H | (rw [hy776]; exact H) | exact H
                  have Ny776 := Aside0.mk hy776
                  clear hy776
                  have H' := Aside0.mk H
                  clear H
                  have hcz12_0 : wr.cell? ⟨gb775, 0, none⟩ = some (.int .i64 t773) := (blk_cell BK775.out 0).trans rfl
                  have hcz12_1 : wr.cell? ⟨gb775, 1, none⟩ = some (.int .i64 t774) := (blk_cell BK775.out 1).trans rfl
                  have hfz12_0 := blk_frozen BK775.out 0
                  have hfz12_1 := blk_frozen BK775.out 1
                  go_wp2_with (first | ((with_reducible refine gate_builtin (b := .append) (xs := #[.tmp 25, .tmp 30]) rfl ?_); at_builtin; refine Kd.R_append (Kd.int .i64) (w0 := w) w.heap.size rfl (.tmp 25) (.tmp 30) 115 3 (.int .i64 0) 8 rfl Try.underlying115 info3 rfl (by decide) (by omega) u3 x3_2 (wrap64 (t773 + x6_2)) [.int .i64 (wrap64 (t773 + x6_2))] (fun _ => True) (fun _ => False) rfl rfl ?aP (fun _ hk => hk.elim) ?aF ?aO ?aB ?aS ?aL ?_; (case aP => exact rfl); (case aB => exact (by repeat (first | (with_reducible first | exact HB.out | apply below_alloc | apply pw_below_drewN | apply below_drew1 | refine below_set ?_ GE775.out) | exact HB.out))); (case aF => exact (fun _ _ => trivial)); (case aO => exact (by (with_reducible repeat (first | apply Kd.R_alloc | apply Kd.R_drewN | apply Kd.R_drew)); exact HO_3.out)); (case aS => exact (below_size (by repeat (first | (with_reducible first | exact HB.out | apply below_alloc | apply pw_below_drewN | apply below_drew1 | refine below_set ?_ GE775.out) | exact HB.out)))); (case aL => have := LMc11.out; omega); intro v777 w13 ho hb hg hat; rw [← Ny776.out] at ho; have n0_ := Aside0.mk (blk_grown (g := gb775) (o := .cells #[.int .i64 t773, .int .i64 t774] 25 (0, 0)) (by (with_reducible repeat (first | refine blk_drewN ?_ _ | refine blk_drew ?_ | refine blk_alloc ?_ _)); exact BK775.out) hg (Kd.R_ne HO_3.out BK775.out (by decide))); have n1_ := Aside0.mk (hb); have n2_ := Aside0.mk (ho); clear BK775; clear HB; clear HO_3; have BK775 := n0_; have HB := n1_; have HO778 := n2_; clear n0_ n1_ n2_; clear ho hb hg hat))
                  go_roundg k2
                  case measure => have := HK1.out; have := HK2.out; omega
                  case rel => exact ⟨(y776), (wrap64 (x6_2 + 1)), (by first | rfl | (simp; done) | (simp [*]; done)), H', ⟨by have := HK1.out; have := HK2.out; omega⟩, ⟨by (with_reducible repeat (first | apply Kd.R_alloc | apply Kd.R_drewN | apply Kd.R_drew)); exact HO778.out⟩, ⟨by (with_reducible repeat (first | refine blk_drewN ?_ _ | refine blk_drew ?_ | refine blk_alloc ?_ _)); exact BK775.out⟩, ⟨by repeat (first | (with_reducible first | exact HB.out | apply below_alloc | apply pw_below_drewN | apply below_drew1 | refine below_set ?_ GE775.out) | exact HB.out)⟩⟩
                · rw [if_neg c11] at H
                  exact absurd H (by simp)
              · rw [if_neg c10] at H
                have c10b0 : decide (x6_2 < t774) = false := decide_eq_false c10
                clear c10
                have H' := Aside0.mk H
                clear H
                have hcz14_0 : wr.cell? ⟨gb775, 0, none⟩ = some (.int .i64 t773) := (blk_cell BK775.out 0).trans rfl
                have hcz14_1 : wr.cell? ⟨gb775, 1, none⟩ = some (.int .i64 t774) := (blk_cell BK775.out 1).trans rfl
                have hfz14_0 := blk_frozen BK775.out 0
                have hfz14_1 := blk_frozen BK775.out 1
                go_wp2
                go_roundg k2
                case measure => have := HK1.out; have := HK2.out; omega
                case rel => exact ⟨(x3_2), (wrap64 (x4_1 + 1)), (by first | rfl | (simp; done) | (simp [*]; done)), H', ⟨by have := HK1.out; have := HK2.out; omega⟩, ⟨by (with_reducible repeat (first | apply Kd.R_alloc | apply Kd.R_drewN | apply Kd.R_drew)); exact HO_3.out⟩, ⟨by repeat (first | (with_reducible first | exact HB.out | apply below_alloc | apply pw_below_drewN | apply below_drew1 | refine below_set ?_ GE775.out) | exact HB.out)⟩⟩
        · rw [if_neg c5] at H
          exact absurd H (by simp)
      · rw [if_neg c4] at H
        have c4b0 : decide (x4_1 < (l0.length : Int)) = false := decide_eq_false c4
        clear c4
        obtain rfl := Option.some.inj H
        go_wp2
        go_ret
        exact ⟨_, by first | rfl | (simp [errW_none, errW_some] <;> rfl) | (simp [*, errW_none, errW_some] <;> rfl), by (with_reducible repeat (first | apply Kd.R_alloc | apply Kd.R_drewN | apply Kd.R_drew)); exact HO_3.out, by repeat (first | (with_reducible first | exact HB.out | apply below_alloc | apply pw_below_drewN | apply below_drew1) | exact HB.out)⟩

/-! ### dasdref05_Cut: function 90 -/
def dasdref05_Cut.l0 : Nat → List (S25) → Int → List (S25) → List (S25) → Int → Option ((List (S25)) × (List (S25)))
  | 0, _, _, _, _, _ => none
  | k + 1, x0, x1, x6, x7, x8 => if x8 < (x0.length : Int) then (if 0 ≤ x8 then ((dasdref05_clip.f k ((rd_T25 x0 x8).f0) ((rd_T25 x0 x8).f1)).bind fun bt786 => (if x6.length < 8796093022208 then ((some (x6 ++ [(⟨bt786.1, mx 0 (mn x1 bt786.2)⟩ : S25)] : List (S25))).bind fun y789 => (if x7.length < 8796093022208 then ((some (x7 ++ [(⟨wrap64 (bt786.1 + (mx 0 (mn x1 bt786.2))), wrap64 (bt786.2 - (mx 0 (mn x1 bt786.2)))⟩ : S25)] : List (S25))).bind fun y792 => (if x1 > 0 then (dasdref05_Cut.l0 k x0 (wrap64 (x1 - (mx 0 (mn x1 bt786.2)))) y789 y792 (wrap64 (x8 + 1))) else (dasdref05_Cut.l0 k x0 x1 y789 y792 (wrap64 (x8 + 1))))) else (none))) else (none))) else (none)) else ((dasdref05_Join.f k x6).bind fun t795 => ((dasdref05_Join.f k x7).bind fun t798 => (some (t795, t798))))
def dasdref05_Cut.f (k : Nat) (l0 : List (S25)) (a1 : Int) : Option ((List (S25)) × (List (S25))) := dasdref05_Cut.l0 k l0 a1 (([] : List (S25))) (([] : List (S25))) 0
theorem dasdref05_Cut.mono_l : ∀ k, (∀ y0 y1 y2 y3 y4, LeO (dasdref05_Cut.l0 k y0 y1 y2 y3 y4) (dasdref05_Cut.l0 (k + 1) y0 y1 y2 y3 y4))
  | 0 => fun _ _ _ _ _ r h => by simp [dasdref05_Cut.l0] at h
  | k + 1 => by
    have ih0 := dasdref05_Cut.mono_l k
    · intro y0 y1 y2 y3 y4
      unfold dasdref05_Cut.l0
      repeat' first
      | (with_reducible exact ih0 _ _ _ _ _)
      | (with_reducible exact dasdref05_Join.mono _ _)
      | (with_reducible exact dasdref05_clip.mono _ _ _)
      | (with_reducible exact LeO.refl _)
      | (with_reducible exact LeO.none _)
      | (with_reducible refine LeO.ite ?_ ?_)
      | (with_reducible refine LeO.bind ?_ (fun _ => ?_))
      | exact ih0 _ _ _ _ _
      | exact dasdref05_Join.mono _ _
      | exact dasdref05_clip.mono _ _ _
      | exact LeO.none _
      | refine LeO.ite ?_ ?_
      | refine LeO.bind ?_ (fun _ => ?_)
theorem dasdref05_Cut.mono : ∀ a0 a1 k, LeO (dasdref05_Cut.f k a0 a1) (dasdref05_Cut.f (k + 1) a0 a1) := by
  intro a0 a1 k
  have ih0 := dasdref05_Cut.mono_l k
  unfold dasdref05_Cut.f
  repeat' first
      | (with_reducible exact ih0 _ _ _ _ _)
      | (with_reducible exact dasdref05_Join.mono _ _)
      | (with_reducible exact dasdref05_clip.mono _ _ _)
      | (with_reducible exact LeO.refl _)
      | (with_reducible exact LeO.none _)
      | (with_reducible refine LeO.ite ?_ ?_)
      | (with_reducible refine LeO.bind ?_ (fun _ => ?_))
      | exact ih0 _ _ _ _ _
      | exact dasdref05_Join.mono _ _
      | exact dasdref05_clip.mono _ _ _
      | exact LeO.none _
      | refine LeO.ite ?_ ?_
      | refine LeO.bind ?_ (fun _ => ?_)
set_option maxHeartbeats 8000000 in
set_option maxRecDepth 100000 in
theorem dasdref05_Cut.calls (k : Nat) (A0 : Option Addr) (c0 : Nat) (l0 : List (S25)) (a1 : Int) (r1 : List (S25)) (r2 : List (S25)) (w : World) (hr0 : Kd.C k25 w A0 l0.length l0) (hc0 : l0.length ≤ c0) (h : dasdref05_Cut.f k l0 a1 = some (r1, r2)) :
    Calls Try.prog 90 #[.slice A0 l0.length c0, .int .i64 a1] w fun e w' => ∃ v0_ v1_ : Value, e = .returned (.tuple #[v0_, v1_]) ∧ Kd.R k25 25 w' w.heap.size (fun k_ => some k_ ≠ (v1_ : Value).ownBlock) v0_ r1 ∧ Kd.R k25 25 w' w.heap.size (fun k_ => some k_ ≠ (v0_ : Value).ownBlock) v1_ r2 ∧ Below w.heap.size w w' := by
  have hu25 := Try.underlying25
  have HR0 := Aside0.mk hr0
  have HC0 := Aside0.mk hc0
  clear hr0 hc0
  have HB := Aside0.mk (Below.refl w.heap.size w)
  have H : (dasdref05_Cut.l0 k l0 a1 (([] : List (S25))) (([] : List (S25))) 0) = some (r1, r2) := h
  clear h
  obtain ⟨y779, hy779⟩ : ∃ y_ : List (S25), y_ = (([] : List (S25))) := ⟨_, rfl⟩
  replace H : (dasdref05_Cut.l0 k l0 a1 y779 (([] : List (S25))) 0) = some (r1, r2) := by first | (rw [hy779]; with_reducible exact H) | (have H2_ := (Option.bind_some _ _).symm.trans H; rw [hy779]; with_reducible exact H2_) | (have H2_ := (Option.bind_some _ _).symm.trans H; with_reducible exact H2_) | with_reducible exact H | (rw [hy779]; exact H) | exact H
  have Ny779 := Aside0.mk hy779
  clear hy779
  obtain ⟨y782, hy782⟩ : ∃ y_ : List (S25), y_ = (([] : List (S25))) := ⟨_, rfl⟩
  replace H : (dasdref05_Cut.l0 k l0 a1 y779 y782 0) = some (r1, r2) := by first | (rw [hy782]; with_reducible exact H) | (have H2_ := (Option.bind_some _ _).symm.trans H; rw [hy782]; with_reducible exact H2_) | (have H2_ := (Option.bind_some _ _).symm.trans H; with_reducible exact H2_) | with_reducible exact H | (rw [hy782]; exact H) | exact H
  have Ny782 := Aside0.mk hy782
  clear hy782
  have H' := Aside0.mk H
  clear H
  go_enter Try.func90, Try.ntmps90
  go_wp2_with (first | ((with_reducible refine gate_dst (N := 11) rfl ?_); refine Kd.R_lit k25 _ 25 ?hg (N := 11) ?hd (xs := ([] : List (S25))) (inner := []) (ok := fun _ => True) (okp := fun _ => True) ?hr ?hp (fun _ hk => hk) trivial (Below.refl _ _) (Nat.le_refl _) (by simp) ?_; (case hd => rfl); (case hg => rfl); (case hr => first | (go_simp; done) | (go_simp; rfl)); (case hp => exact (Reps.none _ _)); intro v780 w3 ho4 hb hg_ hnew_; clear hg_ hnew_; (first | rw [← Ny779.out] at ho4 | (simp only [Int.reduceToNat] at ho4; rw [← Ny779.out] at ho4)); have n0_ := Aside0.mk (Kd.R_lower ho4 (below_size (by repeat (first | (with_reducible first | exact HB.out | apply below_alloc | apply pw_below_drewN | apply below_drew1) | exact HB.out)))); have n1_ := Aside0.mk (below_step (by repeat (first | (with_reducible first | exact HB.out | apply below_alloc | apply pw_below_drewN | apply below_drew1) | exact HB.out)) hb); clear HB; have HO781 := n0_; have HB := n1_; clear n0_ n1_; clear hb ho4) | ((with_reducible refine gate_dst (N := 12) rfl ?_); refine Kd.R_lit k25 _ 25 ?hg (N := 12) ?hd (xs := ([] : List (S25))) (inner := []) (ok := fun _ => True) (okp := fun _ => True) ?hr ?hp (fun _ hk => hk) trivial (Below.refl _ _) (Nat.le_refl _) (by simp) ?_; (case hd => rfl); (case hg => rfl); (case hr => first | (go_simp; done) | (go_simp; rfl)); (case hp => exact (Reps.none _ _)); intro v783 w5 ho6 hb hg_ hnew_; clear hg_ hnew_; (first | rw [← Ny782.out] at ho6 | (simp only [Int.reduceToNat] at ho6; rw [← Ny782.out] at ho6)); have n0_ := Aside0.mk (Kd.R_elder' (by (with_reducible repeat (first | apply Kd.R_alloc | apply Kd.R_drewN | apply Kd.R_drew)); exact HO781.out) (Kd.R_base ho6) hb); have n1_ := Aside0.mk (Kd.R_lower (Kd.R_new' ho6 (Kd.R_lt (by (with_reducible repeat (first | apply Kd.R_alloc | apply Kd.R_drewN | apply Kd.R_drew)); exact HO781.out))) (below_size (by repeat (first | (with_reducible first | exact HB.out | apply below_alloc | apply pw_below_drewN | apply below_drew1) | exact HB.out)))); have n2_ := Aside0.mk (below_step (by repeat (first | (with_reducible first | exact HB.out | apply below_alloc | apply pw_below_drewN | apply below_drew1) | exact HB.out)) hb); clear HO781; clear HB; have HO781 := n0_; have HO784 := n1_; have HB := n2_; clear n0_ n1_ n2_; clear hb ho6))
  go_loopg [1, 6, 7, 8] k (fun kq v1 v6 v7 v8 w' => ∃ (x1_1 : Int) (x6_1 : List (S25)) (x7_1 : List (S25)) (x8_1 : Int), v1 = .int .i64 x1_1 ∧ v8 = .int .i64 x8_1 ∧ Aside0 (dasdref05_Cut.l0 kq l0 x1_1 x6_1 x7_1 x8_1 = some (r1, r2)) ∧ Aside0 (kq ≤ k) ∧ Aside0 (Kd.R k25 25 w' w.heap.size (fun k_ => some k_ ≠ (v7 : Value).ownBlock) v6 x6_1) ∧ Aside0 (Kd.R k25 25 w' w.heap.size (fun k_ => some k_ ≠ (v6 : Value).ownBlock) v7 x7_1) ∧ Aside0 (Below w.heap.size w w'))
  case atStart => exact ⟨(a1), (y779), (y782), (0), (by first | rfl | (simp; done) | (simp [*]; done)), (by first | rfl | (simp; done) | (simp [*]; done)), H', ⟨Nat.le_refl _⟩, ⟨by (with_reducible repeat (first | apply Kd.R_alloc | apply Kd.R_drewN | apply Kd.R_drew)); exact Kd.R_mono HO781.out (fun _ hk => hk.2)⟩, ⟨by (with_reducible repeat (first | apply Kd.R_alloc | apply Kd.R_drewN | apply Kd.R_drew)); exact Kd.R_mono HO784.out (fun _ hk => hk.2)⟩, ⟨by repeat (first | (with_reducible first | exact HB.out | apply below_alloc | apply pw_below_drewN | apply below_drew1) | exact HB.out)⟩⟩
  case round =>
    clear H'
    try clear p2
    obtain ⟨x1_1, x6_1, x7_1, x8_1, rfl, rfl, HA, HK1, HO_6, HO_7, HB⟩ := hrel
    cases gk with
    | zero => exact absurd HA.out (by simp [dasdref05_Cut.l0])
    | succ k1 =>
      have H := HA.out
      clear HA
      simp only [dasdref05_Cut.l0] at H
      by_cases c7 : x8_1 < (l0.length : Int)
      · rw [if_pos c7] at H
        have c7b0 : decide (x8_1 < (l0.length : Int)) = true := decide_eq_true c7
        clear c7
        by_cases c8 : 0 ≤ x8_1
        · rw [if_pos c8] at H
          have c8b0 : decide (0 ≤ x8_1) = true := decide_eq_true c8
          clear c8
          replace H := Option.bind_eq_some_iff.mp H
          obtain ⟨⟨t786, t787⟩, A90, H⟩ := H
          replace H : (if x6_1.length < 8796093022208 then ((some (x6_1 ++ [(⟨t786, mx 0 (mn x1_1 t787)⟩ : S25)] : List (S25))).bind fun y789 => (if x7_1.length < 8796093022208 then ((some (x7_1 ++ [(⟨wrap64 (t786 + (mx 0 (mn x1_1 t787))), wrap64 (t787 - (mx 0 (mn x1_1 t787)))⟩ : S25)] : List (S25))).bind fun y792 => (if x1_1 > 0 then (dasdref05_Cut.l0 k1 l0 (wrap64 (x1_1 - (mx 0 (mn x1_1 t787)))) y789 y792 (wrap64 (x8_1 + 1))) else (dasdref05_Cut.l0 k1 l0 x1_1 y789 y792 (wrap64 (x8_1 + 1))))) else (none))) else (none)) = some (r1, r2) := H
          have A9 := Aside0.mk A90
          clear A90
          obtain ⟨ji10, hji10⟩ : ∃ j_ : Int, (mn x1_1 t787) = j_ := ⟨_, rfl⟩
          replace H : (if x6_1.length < 8796093022208 then ((some (x6_1 ++ [(⟨t786, mx 0 (ji10)⟩ : S25)] : List (S25))).bind fun y789 => (if x7_1.length < 8796093022208 then ((some (x7_1 ++ [(⟨wrap64 (t786 + (mx 0 (ji10))), wrap64 (t787 - (mx 0 (ji10)))⟩ : S25)] : List (S25))).bind fun y792 => (if x1_1 > 0 then (dasdref05_Cut.l0 k1 l0 (wrap64 (x1_1 - (mx 0 (ji10)))) y789 y792 (wrap64 (x8_1 + 1))) else (dasdref05_Cut.l0 k1 l0 x1_1 y789 y792 (wrap64 (x8_1 + 1))))) else (none))) else (none)) = some (r1, r2) := by first | (rw [hji10] at H; exact H) | (simp only [hji10] at H ⊢; exact H)
          (try rw [hji10] at A9)
          have hji10_ : (if t787 < x1_1 then t787 else x1_1) = ji10 := hji10
          obtain ⟨ji11, hji11⟩ : ∃ j_ : Int, (mx 0 (ji10)) = j_ := ⟨_, rfl⟩
          replace H : (if x6_1.length < 8796093022208 then ((some (x6_1 ++ [(⟨t786, ji11⟩ : S25)] : List (S25))).bind fun y789 => (if x7_1.length < 8796093022208 then ((some (x7_1 ++ [(⟨wrap64 (t786 + (ji11)), wrap64 (t787 - (ji11))⟩ : S25)] : List (S25))).bind fun y792 => (if x1_1 > 0 then (dasdref05_Cut.l0 k1 l0 (wrap64 (x1_1 - (ji11))) y789 y792 (wrap64 (x8_1 + 1))) else (dasdref05_Cut.l0 k1 l0 x1_1 y789 y792 (wrap64 (x8_1 + 1))))) else (none))) else (none)) = some (r1, r2) := by first | (rw [hji11] at H; exact H) | (simp only [hji11] at H ⊢; exact H)
          (try rw [hji11] at A9)
          have hji11_ : (if 0 < (ji10) then (ji10) else 0) = ji11 := hji11
          by_cases c12 : x6_1.length < 8796093022208
          · rw [if_pos c12] at H
            have LMc12 := Aside0.mk c12
            clear c12
            obtain ⟨y789, hy789⟩ : ∃ y_ : List (S25), y_ = (x6_1 ++ [(⟨t786, ji11⟩ : S25)]) := ⟨_, rfl⟩
            replace H : (if x7_1.length < 8796093022208 then ((some (x7_1 ++ [(⟨wrap64 (t786 + (ji11)), wrap64 (t787 - (ji11))⟩ : S25)] : List (S25))).bind fun y792 => (if x1_1 > 0 then (dasdref05_Cut.l0 k1 l0 (wrap64 (x1_1 - (ji11))) y789 y792 (wrap64 (x8_1 + 1))) else (dasdref05_Cut.l0 k1 l0 x1_1 y789 y792 (wrap64 (x8_1 + 1))))) else (none)) = some (r1, r2) := by first | (rw [hy789]; with_reducible exact H) | (have H2_ := (Option.bind_some _ _).symm.trans H; rw [hy789]; with_reducible exact H2_) | (have H2_ := (Option.bind_some _ _).symm.trans H; with_reducible exact H2_) | with_reducible exact H | (rw [hy789]; exact H) | exact H
            have Ny789 := Aside0.mk hy789
            clear hy789
            by_cases c13 : x7_1.length < 8796093022208
            · rw [if_pos c13] at H
              have LMc13 := Aside0.mk c13
              clear c13
              obtain ⟨y792, hy792⟩ : ∃ y_ : List (S25), y_ = (x7_1 ++ [(⟨wrap64 (t786 + (ji11)), wrap64 (t787 - (ji11))⟩ : S25)]) := ⟨_, rfl⟩
              replace H : (if x1_1 > 0 then (dasdref05_Cut.l0 k1 l0 (wrap64 (x1_1 - (ji11))) y789 y792 (wrap64 (x8_1 + 1))) else (dasdref05_Cut.l0 k1 l0 x1_1 y789 y792 (wrap64 (x8_1 + 1)))) = some (r1, r2) := by first | (rw [hy792]; with_reducible exact H) | (have H2_ := (Option.bind_some _ _).symm.trans H; rw [hy792]; with_reducible exact H2_) | (have H2_ := (Option.bind_some _ _).symm.trans H; with_reducible exact H2_) | with_reducible exact H | (rw [hy792]; exact H) | exact H
              have Ny792 := Aside0.mk hy792
              clear hy792
              by_cases c14 : x1_1 > 0
              · rw [if_pos c14] at H
                have c14b0 : decide (0 < x1_1) = true := decide_eq_true c14
                clear c14
                have H' := Aside0.mk H
                clear H
                have p785 : 0 ≤ (x8_1 : Int) := of_decide_eq_true (by first | (with_reducible assumption) | assumption)
                have q785 : x8_1 < (l0.length : Int) := of_decide_eq_true (by first | (with_reducible assumption) | assumption)
                obtain ⟨ad785, e785, hx785_0, hx785_1⟩ := at_T25 HR0.out x8_1 p785 q785
                cases e785
                replace hx785_0 := (HB.out.cell (World.block_lt_of_cell? w _ hx785_0)).trans hx785_0
                replace hx785_1 := (HB.out.cell (World.block_lt_of_cell? w _ hx785_1)).trans hx785_1
                replace p785 := eq_true p785
                replace q785 := eq_true q785
                go_wp2_with (first | ((with_reducible refine gate_callee (f := 110) rfl ?_); refine goesL_ (some 23) rfl rfl Try.func110 (by kernel_rfl) rfl #[.agg #[.int .i64 ((rd_T25 l0 x8_1).f0), .int .i64 ((rd_T25 l0 x8_1).f1)]] rfl (by (try simp only [List.map_toArray, List.map_cons, List.map_nil]); first | done | rfl | (simp only [List.length_drop, List.length_take]; rfl)) ?_; (with_reducible refine (dasdref05_clip.calls k1 ((rd_T25 l0 x8_1).f0) ((rd_T25 l0 x8_1).f1) t786 t787 _ A9.out).mono ?_); rintro e w15 ⟨rfl, hb⟩; refine ⟨_, rfl, ?_⟩; have n0_ := Aside0.mk (Kd.R_below (by (with_reducible repeat (first | apply Kd.R_alloc | apply Kd.R_drewN | apply Kd.R_drew)); exact HO_6.out) hb); have n1_ := Aside0.mk (Kd.R_below (by (with_reducible repeat (first | apply Kd.R_alloc | apply Kd.R_drewN | apply Kd.R_drew)); exact HO_7.out) hb); have n2_ := Aside0.mk (below_step (by repeat (first | (with_reducible first | exact HB.out | apply below_alloc | apply pw_below_drewN | apply below_drew1) | exact HB.out)) hb); clear HO_6; clear HO_7; clear HB; have HO_6 := n0_; have HO_7 := n1_; have HB := n2_; clear n0_ n1_ n2_; (try clear hb); (try clear hb2); (try clear hk); (try clear hi)) | ((with_reducible refine gate_dst (N := 9) rfl ?_); refine box_event ?hg (N := 9) ?hd (cs := #[.int .i64 0, .int .i64 0]) (t := 25) ?hr ?_; (case hd => rfl); (case hg => rfl); (case hr => first | (go_simp; done) | (go_simp; rfl)); intro gb788 hg w16 hbox hb; have n0_ := Aside0.mk (Kd.R_below (Kd.R_elderB (by (with_reducible repeat (first | apply Kd.R_alloc | apply Kd.R_drewN | apply Kd.R_drew)); exact HO_6.out) gb788 (Nat.le_of_eq hg.symm)) hb); have n1_ := Aside0.mk (Kd.R_below (Kd.R_elderB (by (with_reducible repeat (first | apply Kd.R_alloc | apply Kd.R_drewN | apply Kd.R_drew)); exact HO_7.out) gb788 (Nat.le_of_eq hg.symm)) hb); have n2_ := Aside0.mk (below_step (by repeat (first | (with_reducible first | exact HB.out | apply below_alloc | apply pw_below_drewN | apply below_drew1) | exact HB.out)) hb); have n3_ := Aside0.mk (hbox); have n4_ := Aside0.mk ((by rw [hg]; exact (below_size (by repeat (first | (with_reducible first | exact HB.out | apply below_alloc | apply pw_below_drewN | apply below_drew1) | exact HB.out))) : w.heap.size ≤ gb788)); have n5_ := Aside0.mk ((by rw [hg]; exact (below_size (by repeat (first | (with_reducible first | exact HB.out | apply below_alloc | apply pw_below_drewN | apply below_drew1) | exact HB.out))) : w.heap.size ≤ gb788)); clear HO_6; clear HO_7; clear HB; have HO_6 := n0_; have HO_7 := n1_; have HB := n2_; have BK788 := n3_; have GW788 := n4_; have GE788 := n5_; clear n0_ n1_ n2_ n3_ n4_ n5_; clear hb hbox hg; have hcz17_0 : w16.cell? ⟨gb788, 0, none⟩ = some (.int .i64 0) := (blk_cell BK788.out 0).trans rfl; have hcz17_1 : w16.cell? ⟨gb788, 1, none⟩ = some (.int .i64 0) := (blk_cell BK788.out 1).trans rfl; have hfz17_0 := blk_frozen BK788.out 0; have hfz17_1 := blk_frozen BK788.out 1) | ((with_reducible refine gate_builtin (b := .append) (xs := #[.tmp 29, .tmp 34]) rfl ?_); at_builtin; refine Kd.R_append k25 (w0 := w) w.heap.size rfl (.tmp 29) (.tmp 34) 22 25 (.agg #[(.int .i64 0), (.int .i64 0)]) 16 rfl Try.underlying22 info25 rfl (by decide) (by omega) u6 x6_1 (⟨t786, ji11⟩ : S25) [.int .i64 t786, .int .i64 ji11] (fun k_ => some k_ ≠ (u7 : Value).ownBlock ∧ k_ ≠ gb788) (fun _ => False) rfl (by first | (go_simp; done) | (go_simp; rfl)) ?aP (fun _ hk => hk.elim) ?aF ?aO ?aB ?aS ?aL ?_; (case aP => exact k25_mkM _ _ _ (⟨t786, ji11⟩ : S25)); (case aB => exact (by repeat (first | (with_reducible first | exact HB.out | apply below_alloc | apply pw_below_drewN | apply below_drew1 | refine below_set ?_ GE788.out) | exact HB.out))); (case aF => exact (fun k_ hk => ⟨Kd.fresh' (Kd.R_lt (by (with_reducible repeat (first | apply Kd.R_alloc | apply Kd.R_drewN | apply Kd.R_drew)); exact (Kd.R_mono (Kd.R_far (p := ⟨gb788, 1, none⟩) (Kd.R_far (p := ⟨gb788, 0, none⟩) (Kd.R_mono HO_7.out (fun k_ hk => (⟨hk, hk.2⟩ : _ ∧ k_ ≠ gb788))) (fun _ hk => hk.2) (.int .i64 t786)) (fun _ hk => hk.2) (.int .i64 t787)) (fun _ h_ => h_.1)))) k_ hk, Kd.freshB (g := gb788) (o := .cells #[.int .i64 t786, .int .i64 t787] 25 (0, 0)) (by (with_reducible repeat (first | refine blk_drewN ?_ _ | refine blk_drew ?_ | refine blk_alloc ?_ _)); refine blk_put (cs := #[.int .i64 t786, .int .i64 0]) ?_ 1 _ rfl; (with_reducible repeat (first | refine blk_drewN ?_ _ | refine blk_drew ?_ | refine blk_alloc ?_ _)); refine blk_put (cs := #[.int .i64 0, .int .i64 0]) ?_ 0 _ rfl; (with_reducible repeat (first | refine blk_drewN ?_ _ | refine blk_drew ?_ | refine blk_alloc ?_ _)); exact BK788.out) k_ hk⟩)); (case aO => exact (by (with_reducible repeat (first | apply Kd.R_alloc | apply Kd.R_drewN | apply Kd.R_drew)); exact Kd.R_mono (Kd.R_far (p := ⟨gb788, 1, none⟩) (Kd.R_far (p := ⟨gb788, 0, none⟩) (Kd.R_mono HO_6.out (fun k_ hk => (⟨hk, hk.2⟩ : _ ∧ k_ ≠ gb788))) (fun _ hk => hk.2) (.int .i64 t786)) (fun _ hk => hk.2) (.int .i64 t787)) (fun _ hk => ⟨hk.1.1, hk.1.2⟩))); (case aS => exact (below_size (by repeat (first | (with_reducible first | exact HB.out | apply below_alloc | apply pw_below_drewN | apply below_drew1 | refine below_set ?_ GE788.out) | exact HB.out)))); (case aL => have := LMc12.out; omega); intro v790 w18 ho hb hg hat; rw [← Ny789.out] at ho; have n0_ := Aside0.mk (Kd.R_after (ok := (fun k_ => k_ ≠ gb788)) (by (with_reducible repeat (first | apply Kd.R_alloc | apply Kd.R_drewN | apply Kd.R_drew)); exact Kd.R_mono (Kd.R_far (p := ⟨gb788, 1, none⟩) (Kd.R_far (p := ⟨gb788, 0, none⟩) (Kd.R_mono HO_7.out (fun k_ hk => (⟨hk, hk.2⟩ : _ ∧ k_ ≠ gb788))) (fun _ hk => hk.2) (.int .i64 t786)) (fun _ hk => hk.2) (.int .i64 t787)) (fun _ hk => ⟨hk.1.2, hk.1.1⟩)) hg hat); have n1_ := Aside0.mk (blk_grown (g := gb788) (o := .cells #[.int .i64 t786, .int .i64 t787] 25 (0, 0)) (by (with_reducible repeat (first | refine blk_drewN ?_ _ | refine blk_drew ?_ | refine blk_alloc ?_ _)); refine blk_put (cs := #[.int .i64 t786, .int .i64 0]) ?_ 1 _ rfl; (with_reducible repeat (first | refine blk_drewN ?_ _ | refine blk_drew ?_ | refine blk_alloc ?_ _)); refine blk_put (cs := #[.int .i64 0, .int .i64 0]) ?_ 0 _ rfl; (with_reducible repeat (first | refine blk_drewN ?_ _ | refine blk_drew ?_ | refine blk_alloc ?_ _)); exact BK788.out) hg (Kd.R_away HO_6.out (fun _ hk => hk.2))); have n2_ := Aside0.mk (hb); have n3_ := Aside0.mk (ho); clear HO_7; clear BK788; clear HB; clear HO_6; have HO_7 := n0_; have BK788 := n1_; have HB := n2_; have HO791 := n3_; clear n0_ n1_ n2_ n3_; clear ho hb hg hat; have hcz19_0 : w18.cell? ⟨gb788, 0, none⟩ = some (.int .i64 t786) := (blk_cell BK788.out 0).trans rfl; have hcz19_1 : w18.cell? ⟨gb788, 1, none⟩ = some (.int .i64 t787) := (blk_cell BK788.out 1).trans rfl; have hfz19_0 := blk_frozen BK788.out 0; have hfz19_1 := blk_frozen BK788.out 1) | ((with_reducible refine gate_builtin (b := .append) (xs := #[.tmp 36, .tmp 46]) rfl ?_); at_builtin; refine Kd.R_append k25 (w0 := w) w.heap.size rfl (.tmp 36) (.tmp 46) 22 25 (.agg #[(.int .i64 0), (.int .i64 0)]) 16 rfl Try.underlying22 info25 rfl (by decide) (by omega) u7 x7_1 (⟨wrap64 (t786 + (ji11)), wrap64 (t787 - (ji11))⟩ : S25) [.int .i64 (wrap64 (t786 + (ji11))), .int .i64 (wrap64 (t787 - (ji11)))] (fun k_ => some k_ ≠ (v790 : Value).ownBlock ∧ k_ ≠ gb788) (fun _ => False) rfl rfl ?aP (fun _ hk => hk.elim) ?aF ?aO ?aB ?aS ?aL ?_; (case aP => exact k25_mkM _ _ _ (⟨wrap64 (t786 + (ji11)), wrap64 (t787 - (ji11))⟩ : S25)); (case aB => exact (by repeat (first | (with_reducible first | exact HB.out | apply below_alloc | apply pw_below_drewN | apply below_drew1 | refine below_set ?_ GE788.out) | exact HB.out))); (case aF => exact (fun k_ hk => ⟨Kd.fresh' (Kd.R_lt (by (with_reducible repeat (first | apply Kd.R_alloc | apply Kd.R_drewN | apply Kd.R_drew)); exact HO791.out)) k_ hk, Kd.freshB (g := gb788) (o := .cells #[.int .i64 t786, .int .i64 t787] 25 (0, 0)) (by (with_reducible repeat (first | refine blk_drewN ?_ _ | refine blk_drew ?_ | refine blk_alloc ?_ _)); exact BK788.out) k_ hk⟩)); (case aO => exact (by (with_reducible repeat (first | apply Kd.R_alloc | apply Kd.R_drewN | apply Kd.R_drew)); exact Kd.R_mono HO_7.out (fun _ hk => ⟨hk.2, hk.1⟩))); (case aS => exact (below_size (by repeat (first | (with_reducible first | exact HB.out | apply below_alloc | apply pw_below_drewN | apply below_drew1 | refine below_set ?_ GE788.out) | exact HB.out)))); (case aL => have := LMc13.out; omega); intro v793 w20 ho hb hg hat; rw [← Ny792.out] at ho; have n0_ := Aside0.mk (blk_grown (g := gb788) (o := .cells #[.int .i64 t786, .int .i64 t787] 25 (0, 0)) (by (with_reducible repeat (first | refine blk_drewN ?_ _ | refine blk_drew ?_ | refine blk_alloc ?_ _)); exact BK788.out) hg (Kd.R_away HO_7.out (fun _ hk => hk.1))); have n1_ := Aside0.mk (Kd.R_after (ok := (fun k_ => k_ ≠ gb788)) (by (with_reducible repeat (first | apply Kd.R_alloc | apply Kd.R_drewN | apply Kd.R_drew)); exact Kd.R_mono HO791.out (fun _ hk => ⟨hk.2, hk.1⟩)) hg hat); have n2_ := Aside0.mk (hb); have n3_ := Aside0.mk (ho); clear BK788; clear HO791; clear HB; clear HO_7; have BK788 := n0_; have HO791 := n1_; have HB := n2_; have HO794 := n3_; clear n0_ n1_ n2_ n3_; clear ho hb hg hat))
                go_roundg k1
                case measure => have := HK1.out; omega
                case rel => exact ⟨(wrap64 (x1_1 - (ji11))), (y789), (y792), (wrap64 (x8_1 + 1)), (by first | rfl | (simp; done) | (simp only [← hji11] <;> (first | rfl | simp)) | (simp [*]; done)), (by first | rfl | (simp; done) | (simp [*]; done)), H', ⟨by have := HK1.out; omega⟩, ⟨by (with_reducible repeat (first | apply Kd.R_alloc | apply Kd.R_drewN | apply Kd.R_drew)); exact Kd.R_mono HO791.out (fun _ hk => hk.2)⟩, ⟨by (with_reducible repeat (first | apply Kd.R_alloc | apply Kd.R_drewN | apply Kd.R_drew)); exact Kd.R_mono HO794.out (fun _ hk => hk.1)⟩, ⟨by repeat (first | (with_reducible first | exact HB.out | apply below_alloc | apply pw_below_drewN | apply below_drew1 | refine below_set ?_ GE788.out) | exact HB.out)⟩⟩
              · rw [if_neg c14] at H
                have c14b0 : decide (0 < x1_1) = false := decide_eq_false c14
                clear c14
                have H' := Aside0.mk H
                clear H
                have p785 : 0 ≤ (x8_1 : Int) := of_decide_eq_true (by first | (with_reducible assumption) | assumption)
                have q785 : x8_1 < (l0.length : Int) := of_decide_eq_true (by first | (with_reducible assumption) | assumption)
                obtain ⟨ad785, e785, hx785_0, hx785_1⟩ := at_T25 HR0.out x8_1 p785 q785
                cases e785
                replace hx785_0 := (HB.out.cell (World.block_lt_of_cell? w _ hx785_0)).trans hx785_0
                replace hx785_1 := (HB.out.cell (World.block_lt_of_cell? w _ hx785_1)).trans hx785_1
                replace p785 := eq_true p785
                replace q785 := eq_true q785
                go_wp2_with (first | ((with_reducible refine gate_callee (f := 110) rfl ?_); refine goesL_ (some 23) rfl rfl Try.func110 (by kernel_rfl) rfl #[.agg #[.int .i64 ((rd_T25 l0 x8_1).f0), .int .i64 ((rd_T25 l0 x8_1).f1)]] rfl (by (try simp only [List.map_toArray, List.map_cons, List.map_nil]); first | done | rfl | (simp only [List.length_drop, List.length_take]; rfl)) ?_; (with_reducible refine (dasdref05_clip.calls k1 ((rd_T25 l0 x8_1).f0) ((rd_T25 l0 x8_1).f1) t786 t787 _ A9.out).mono ?_); rintro e w21 ⟨rfl, hb⟩; refine ⟨_, rfl, ?_⟩; have n0_ := Aside0.mk (Kd.R_below (by (with_reducible repeat (first | apply Kd.R_alloc | apply Kd.R_drewN | apply Kd.R_drew)); exact HO_6.out) hb); have n1_ := Aside0.mk (Kd.R_below (by (with_reducible repeat (first | apply Kd.R_alloc | apply Kd.R_drewN | apply Kd.R_drew)); exact HO_7.out) hb); have n2_ := Aside0.mk (below_step (by repeat (first | (with_reducible first | exact HB.out | apply below_alloc | apply pw_below_drewN | apply below_drew1) | exact HB.out)) hb); clear HO_6; clear HO_7; clear HB; have HO_6 := n0_; have HO_7 := n1_; have HB := n2_; clear n0_ n1_ n2_; (try clear hb); (try clear hb2); (try clear hk); (try clear hi)) | ((with_reducible refine gate_dst (N := 9) rfl ?_); refine box_event ?hg (N := 9) ?hd (cs := #[.int .i64 0, .int .i64 0]) (t := 25) ?hr ?_; (case hd => rfl); (case hg => rfl); (case hr => first | (go_simp; done) | (go_simp; rfl)); intro gb788 hg w22 hbox hb; have n0_ := Aside0.mk (Kd.R_below (Kd.R_elderB (by (with_reducible repeat (first | apply Kd.R_alloc | apply Kd.R_drewN | apply Kd.R_drew)); exact HO_6.out) gb788 (Nat.le_of_eq hg.symm)) hb); have n1_ := Aside0.mk (Kd.R_below (Kd.R_elderB (by (with_reducible repeat (first | apply Kd.R_alloc | apply Kd.R_drewN | apply Kd.R_drew)); exact HO_7.out) gb788 (Nat.le_of_eq hg.symm)) hb); have n2_ := Aside0.mk (below_step (by repeat (first | (with_reducible first | exact HB.out | apply below_alloc | apply pw_below_drewN | apply below_drew1) | exact HB.out)) hb); have n3_ := Aside0.mk (hbox); have n4_ := Aside0.mk ((by rw [hg]; exact (below_size (by repeat (first | (with_reducible first | exact HB.out | apply below_alloc | apply pw_below_drewN | apply below_drew1) | exact HB.out))) : w.heap.size ≤ gb788)); have n5_ := Aside0.mk ((by rw [hg]; exact (below_size (by repeat (first | (with_reducible first | exact HB.out | apply below_alloc | apply pw_below_drewN | apply below_drew1) | exact HB.out))) : w.heap.size ≤ gb788)); clear HO_6; clear HO_7; clear HB; have HO_6 := n0_; have HO_7 := n1_; have HB := n2_; have BK788 := n3_; have GW788 := n4_; have GE788 := n5_; clear n0_ n1_ n2_ n3_ n4_ n5_; clear hb hbox hg; have hcz23_0 : w22.cell? ⟨gb788, 0, none⟩ = some (.int .i64 0) := (blk_cell BK788.out 0).trans rfl; have hcz23_1 : w22.cell? ⟨gb788, 1, none⟩ = some (.int .i64 0) := (blk_cell BK788.out 1).trans rfl; have hfz23_0 := blk_frozen BK788.out 0; have hfz23_1 := blk_frozen BK788.out 1) | ((with_reducible refine gate_builtin (b := .append) (xs := #[.tmp 29, .tmp 34]) rfl ?_); at_builtin; refine Kd.R_append k25 (w0 := w) w.heap.size rfl (.tmp 29) (.tmp 34) 22 25 (.agg #[(.int .i64 0), (.int .i64 0)]) 16 rfl Try.underlying22 info25 rfl (by decide) (by omega) u6 x6_1 (⟨t786, ji11⟩ : S25) [.int .i64 t786, .int .i64 ji11] (fun k_ => some k_ ≠ (u7 : Value).ownBlock ∧ k_ ≠ gb788) (fun _ => False) rfl (by first | (go_simp; done) | (go_simp; rfl)) ?aP (fun _ hk => hk.elim) ?aF ?aO ?aB ?aS ?aL ?_; (case aP => exact k25_mkM _ _ _ (⟨t786, ji11⟩ : S25)); (case aB => exact (by repeat (first | (with_reducible first | exact HB.out | apply below_alloc | apply pw_below_drewN | apply below_drew1 | refine below_set ?_ GE788.out) | exact HB.out))); (case aF => exact (fun k_ hk => ⟨Kd.fresh' (Kd.R_lt (by (with_reducible repeat (first | apply Kd.R_alloc | apply Kd.R_drewN | apply Kd.R_drew)); exact (Kd.R_mono (Kd.R_far (p := ⟨gb788, 1, none⟩) (Kd.R_far (p := ⟨gb788, 0, none⟩) (Kd.R_mono HO_7.out (fun k_ hk => (⟨hk, hk.2⟩ : _ ∧ k_ ≠ gb788))) (fun _ hk => hk.2) (.int .i64 t786)) (fun _ hk => hk.2) (.int .i64 t787)) (fun _ h_ => h_.1)))) k_ hk, Kd.freshB (g := gb788) (o := .cells #[.int .i64 t786, .int .i64 t787] 25 (0, 0)) (by (with_reducible repeat (first | refine blk_drewN ?_ _ | refine blk_drew ?_ | refine blk_alloc ?_ _)); refine blk_put (cs := #[.int .i64 t786, .int .i64 0]) ?_ 1 _ rfl; (with_reducible repeat (first | refine blk_drewN ?_ _ | refine blk_drew ?_ | refine blk_alloc ?_ _)); refine blk_put (cs := #[.int .i64 0, .int .i64 0]) ?_ 0 _ rfl; (with_reducible repeat (first | refine blk_drewN ?_ _ | refine blk_drew ?_ | refine blk_alloc ?_ _)); exact BK788.out) k_ hk⟩)); (case aO => exact (by (with_reducible repeat (first | apply Kd.R_alloc | apply Kd.R_drewN | apply Kd.R_drew)); exact Kd.R_mono (Kd.R_far (p := ⟨gb788, 1, none⟩) (Kd.R_far (p := ⟨gb788, 0, none⟩) (Kd.R_mono HO_6.out (fun k_ hk => (⟨hk, hk.2⟩ : _ ∧ k_ ≠ gb788))) (fun _ hk => hk.2) (.int .i64 t786)) (fun _ hk => hk.2) (.int .i64 t787)) (fun _ hk => ⟨hk.1.1, hk.1.2⟩))); (case aS => exact (below_size (by repeat (first | (with_reducible first | exact HB.out | apply below_alloc | apply pw_below_drewN | apply below_drew1 | refine below_set ?_ GE788.out) | exact HB.out)))); (case aL => have := LMc12.out; omega); intro v790 w24 ho hb hg hat; rw [← Ny789.out] at ho; have n0_ := Aside0.mk (Kd.R_after (ok := (fun k_ => k_ ≠ gb788)) (by (with_reducible repeat (first | apply Kd.R_alloc | apply Kd.R_drewN | apply Kd.R_drew)); exact Kd.R_mono (Kd.R_far (p := ⟨gb788, 1, none⟩) (Kd.R_far (p := ⟨gb788, 0, none⟩) (Kd.R_mono HO_7.out (fun k_ hk => (⟨hk, hk.2⟩ : _ ∧ k_ ≠ gb788))) (fun _ hk => hk.2) (.int .i64 t786)) (fun _ hk => hk.2) (.int .i64 t787)) (fun _ hk => ⟨hk.1.2, hk.1.1⟩)) hg hat); have n1_ := Aside0.mk (blk_grown (g := gb788) (o := .cells #[.int .i64 t786, .int .i64 t787] 25 (0, 0)) (by (with_reducible repeat (first | refine blk_drewN ?_ _ | refine blk_drew ?_ | refine blk_alloc ?_ _)); refine blk_put (cs := #[.int .i64 t786, .int .i64 0]) ?_ 1 _ rfl; (with_reducible repeat (first | refine blk_drewN ?_ _ | refine blk_drew ?_ | refine blk_alloc ?_ _)); refine blk_put (cs := #[.int .i64 0, .int .i64 0]) ?_ 0 _ rfl; (with_reducible repeat (first | refine blk_drewN ?_ _ | refine blk_drew ?_ | refine blk_alloc ?_ _)); exact BK788.out) hg (Kd.R_away HO_6.out (fun _ hk => hk.2))); have n2_ := Aside0.mk (hb); have n3_ := Aside0.mk (ho); clear HO_7; clear BK788; clear HB; clear HO_6; have HO_7 := n0_; have BK788 := n1_; have HB := n2_; have HO791 := n3_; clear n0_ n1_ n2_ n3_; clear ho hb hg hat; have hcz25_0 : w24.cell? ⟨gb788, 0, none⟩ = some (.int .i64 t786) := (blk_cell BK788.out 0).trans rfl; have hcz25_1 : w24.cell? ⟨gb788, 1, none⟩ = some (.int .i64 t787) := (blk_cell BK788.out 1).trans rfl; have hfz25_0 := blk_frozen BK788.out 0; have hfz25_1 := blk_frozen BK788.out 1) | ((with_reducible refine gate_builtin (b := .append) (xs := #[.tmp 36, .tmp 46]) rfl ?_); at_builtin; refine Kd.R_append k25 (w0 := w) w.heap.size rfl (.tmp 36) (.tmp 46) 22 25 (.agg #[(.int .i64 0), (.int .i64 0)]) 16 rfl Try.underlying22 info25 rfl (by decide) (by omega) u7 x7_1 (⟨wrap64 (t786 + (ji11)), wrap64 (t787 - (ji11))⟩ : S25) [.int .i64 (wrap64 (t786 + (ji11))), .int .i64 (wrap64 (t787 - (ji11)))] (fun k_ => some k_ ≠ (v790 : Value).ownBlock ∧ k_ ≠ gb788) (fun _ => False) rfl rfl ?aP (fun _ hk => hk.elim) ?aF ?aO ?aB ?aS ?aL ?_; (case aP => exact k25_mkM _ _ _ (⟨wrap64 (t786 + (ji11)), wrap64 (t787 - (ji11))⟩ : S25)); (case aB => exact (by repeat (first | (with_reducible first | exact HB.out | apply below_alloc | apply pw_below_drewN | apply below_drew1 | refine below_set ?_ GE788.out) | exact HB.out))); (case aF => exact (fun k_ hk => ⟨Kd.fresh' (Kd.R_lt (by (with_reducible repeat (first | apply Kd.R_alloc | apply Kd.R_drewN | apply Kd.R_drew)); exact HO791.out)) k_ hk, Kd.freshB (g := gb788) (o := .cells #[.int .i64 t786, .int .i64 t787] 25 (0, 0)) (by (with_reducible repeat (first | refine blk_drewN ?_ _ | refine blk_drew ?_ | refine blk_alloc ?_ _)); exact BK788.out) k_ hk⟩)); (case aO => exact (by (with_reducible repeat (first | apply Kd.R_alloc | apply Kd.R_drewN | apply Kd.R_drew)); exact Kd.R_mono HO_7.out (fun _ hk => ⟨hk.2, hk.1⟩))); (case aS => exact (below_size (by repeat (first | (with_reducible first | exact HB.out | apply below_alloc | apply pw_below_drewN | apply below_drew1 | refine below_set ?_ GE788.out) | exact HB.out)))); (case aL => have := LMc13.out; omega); intro v793 w26 ho hb hg hat; rw [← Ny792.out] at ho; have n0_ := Aside0.mk (blk_grown (g := gb788) (o := .cells #[.int .i64 t786, .int .i64 t787] 25 (0, 0)) (by (with_reducible repeat (first | refine blk_drewN ?_ _ | refine blk_drew ?_ | refine blk_alloc ?_ _)); exact BK788.out) hg (Kd.R_away HO_7.out (fun _ hk => hk.1))); have n1_ := Aside0.mk (Kd.R_after (ok := (fun k_ => k_ ≠ gb788)) (by (with_reducible repeat (first | apply Kd.R_alloc | apply Kd.R_drewN | apply Kd.R_drew)); exact Kd.R_mono HO791.out (fun _ hk => ⟨hk.2, hk.1⟩)) hg hat); have n2_ := Aside0.mk (hb); have n3_ := Aside0.mk (ho); clear BK788; clear HO791; clear HB; clear HO_7; have BK788 := n0_; have HO791 := n1_; have HB := n2_; have HO794 := n3_; clear n0_ n1_ n2_ n3_; clear ho hb hg hat))
                go_roundg k1
                case measure => have := HK1.out; omega
                case rel => exact ⟨(x1_1), (y789), (y792), (wrap64 (x8_1 + 1)), (by first | rfl | (simp; done) | (simp [*]; done)), (by first | rfl | (simp; done) | (simp [*]; done)), H', ⟨by have := HK1.out; omega⟩, ⟨by (with_reducible repeat (first | apply Kd.R_alloc | apply Kd.R_drewN | apply Kd.R_drew)); exact Kd.R_mono HO791.out (fun _ hk => hk.2)⟩, ⟨by (with_reducible repeat (first | apply Kd.R_alloc | apply Kd.R_drewN | apply Kd.R_drew)); exact Kd.R_mono HO794.out (fun _ hk => hk.1)⟩, ⟨by repeat (first | (with_reducible first | exact HB.out | apply below_alloc | apply pw_below_drewN | apply below_drew1 | refine below_set ?_ GE788.out) | exact HB.out)⟩⟩
            · rw [if_neg c13] at H
              exact absurd H (by simp)
          · rw [if_neg c12] at H
            exact absurd H (by simp)
        · rw [if_neg c8] at H
          exact absurd H (by simp)
      · rw [if_neg c7] at H
        have c7b0 : decide (x8_1 < (l0.length : Int)) = false := decide_eq_false c7
        clear c7
        replace H := Option.bind_eq_some_iff.mp H
        obtain ⟨t795, A270, H⟩ := H
        replace H : ((dasdref05_Join.f k1 x7_1).bind fun t798 => (some (t795, t798))) = some (r1, r2) := H
        have A27 := Aside0.mk A270
        clear A270
        replace H := Option.bind_eq_some_iff.mp H
        obtain ⟨t798, A280, H⟩ := H
        replace H : (some (t795, t798)) = some (r1, r2) := H
        have A28 := Aside0.mk A280
        clear A280
        simp only [Option.some.injEq, Prod.mk.injEq] at H
        obtain ⟨rfl, rfl⟩ := H
        obtain ⟨Ao29, co29, eo29⟩ := Kd.R_slice HO_6.out
        subst eo29
        go_wp2_with (first | ((with_reducible refine gate_callee (f := 68) rfl ?_); refine goesL_ (some 54) rfl rfl Try.func68 (by kernel_rfl) rfl #[.slice Ao29 x6_1.length co29] rfl (by (try simp only [List.map_toArray, List.map_cons, List.map_nil]); first | done | rfl | (simp only [List.length_drop, List.length_take]; rfl)) ?_; (with_reducible refine (dasdref05_Join.calls k1 _ _ x6_1 t795 _ ?side1 ?side2 A27.out).mono ?_); (case side1 => repeat (first | exact (Kd.R_reads' HO_6.out).2.2 | (with_reducible refine Kd.C_alloc ?_ _) | (with_reducible refine Kd.C_drewN ?_ _) | (with_reducible refine Kd.C_drew ?_))); (case side2 => exact (Kd.R_reads' HO_6.out).2.1); rintro e w30 ⟨v796, rfl, ho0, hb⟩; refine ⟨_, rfl, ?_⟩; have n0_ := Aside0.mk (Kd.R_elder' (by (with_reducible repeat (first | apply Kd.R_alloc | apply Kd.R_drewN | apply Kd.R_drew)); exact HO_6.out) (Kd.R_base ho0) hb); have n1_ := Aside0.mk (Kd.R_elder' (by (with_reducible repeat (first | apply Kd.R_alloc | apply Kd.R_drewN | apply Kd.R_drew)); exact HO_7.out) (Kd.R_base ho0) hb); have n2_ := Aside0.mk (Kd.R_lower (Kd.R_new' (Kd.R_new' ho0 (Kd.R_lt (by (with_reducible repeat (first | apply Kd.R_alloc | apply Kd.R_drewN | apply Kd.R_drew)); exact HO_6.out))) (Kd.R_lt (by (with_reducible repeat (first | apply Kd.R_alloc | apply Kd.R_drewN | apply Kd.R_drew)); exact HO_7.out))) (below_size (by repeat (first | (with_reducible first | exact HB.out | apply below_alloc | apply pw_below_drewN | apply below_drew1) | exact HB.out)))); have n3_ := Aside0.mk (below_step (by repeat (first | (with_reducible first | exact HB.out | apply below_alloc | apply pw_below_drewN | apply below_drew1) | exact HB.out)) hb); clear HO_6; clear HO_7; clear HB; have HO_6 := n0_; have HO_7 := n1_; have HO797 := n2_; have HB := n3_; clear n0_ n1_ n2_ n3_; (try clear hb); (try clear hb2); (try clear hk); (try clear hi); (try clear ho0); obtain ⟨Ao31, co31, eo31⟩ := Kd.R_slice HO_7.out; subst eo31) | ((with_reducible refine gate_callee (f := 68) rfl ?_); refine goesL_ (some 56) rfl rfl Try.func68 (by kernel_rfl) rfl #[.slice Ao31 x7_1.length co31] rfl (by (try simp only [List.map_toArray, List.map_cons, List.map_nil]); first | done | rfl | (simp only [List.length_drop, List.length_take]; rfl)) ?_; (with_reducible refine (dasdref05_Join.calls k1 _ _ x7_1 t798 _ ?side1 ?side2 A28.out).mono ?_); (case side1 => repeat (first | exact (Kd.R_reads' HO_7.out).2.2 | (with_reducible refine Kd.C_alloc ?_ _) | (with_reducible refine Kd.C_drewN ?_ _) | (with_reducible refine Kd.C_drew ?_))); (case side2 => exact (Kd.R_reads' HO_7.out).2.1); rintro e w32 ⟨v799, rfl, ho0, hb⟩; refine ⟨_, rfl, ?_⟩; have n0_ := Aside0.mk (Kd.R_elder' (by (with_reducible repeat (first | apply Kd.R_alloc | apply Kd.R_drewN | apply Kd.R_drew)); exact HO_6.out) (Kd.R_base ho0) hb); have n1_ := Aside0.mk (Kd.R_elder' (by (with_reducible repeat (first | apply Kd.R_alloc | apply Kd.R_drewN | apply Kd.R_drew)); exact HO_7.out) (Kd.R_base ho0) hb); have n2_ := Aside0.mk (Kd.R_elder' (by (with_reducible repeat (first | apply Kd.R_alloc | apply Kd.R_drewN | apply Kd.R_drew)); exact HO797.out) (Kd.R_base ho0) hb); have n3_ := Aside0.mk (Kd.R_lower (Kd.R_new' (Kd.R_new' (Kd.R_new' ho0 (Kd.R_lt (by (with_reducible repeat (first | apply Kd.R_alloc | apply Kd.R_drewN | apply Kd.R_drew)); exact HO_6.out))) (Kd.R_lt (by (with_reducible repeat (first | apply Kd.R_alloc | apply Kd.R_drewN | apply Kd.R_drew)); exact HO_7.out))) (Kd.R_lt (by (with_reducible repeat (first | apply Kd.R_alloc | apply Kd.R_drewN | apply Kd.R_drew)); exact HO797.out))) (below_size (by repeat (first | (with_reducible first | exact HB.out | apply below_alloc | apply pw_below_drewN | apply below_drew1) | exact HB.out)))); have n4_ := Aside0.mk (below_step (by repeat (first | (with_reducible first | exact HB.out | apply below_alloc | apply pw_below_drewN | apply below_drew1) | exact HB.out)) hb); clear HO_6; clear HO_7; clear HO797; clear HB; have HO_6 := n0_; have HO_7 := n1_; have HO797 := n2_; have HO800 := n3_; have HB := n4_; clear n0_ n1_ n2_ n3_ n4_; (try clear hb); (try clear hb2); (try clear hk); (try clear hi); (try clear ho0)))
        go_ret2
        exact ⟨_, _, by first | rfl | (simp [errW_none, errW_some] <;> rfl) | (simp [*, errW_none, errW_some] <;> rfl), by (with_reducible repeat (first | apply Kd.R_alloc | apply Kd.R_drewN | apply Kd.R_drew)); exact Kd.R_mono HO797.out (fun _ hk => hk.2), by (with_reducible repeat (first | apply Kd.R_alloc | apply Kd.R_drewN | apply Kd.R_drew)); exact Kd.R_mono HO800.out (fun _ hk => hk.2), by repeat (first | (with_reducible first | exact HB.out | apply below_alloc | apply pw_below_drewN | apply below_drew1) | exact HB.out)⟩

end Go.Proofs.Ytghpmenoiimpoaa.P

