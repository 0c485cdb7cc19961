import Derived.Test.YtghpmenoiimpoaaCPx0
import Derived.Test.YtghpmenoiimpoaaCPx9
import Derived.Test.YtghpmenoiimpoaaCPx11
import Derived.Test.YtghpmenoiimpoaaCPx15
import Derived.Test.YtghpmenoiimpoaaCPx17
import Derived.Test.YtghpmenoiimpoaaCPx22
import Derived.Test.YtghpmenoiimpoaaCHAwake8
namespace Go.Proofs.Ytghpmenoiimpoaa.P
open Go.RowKit Go.Proofs.YtghpmenoiimpoaaW.PrintWords Go.Proofs.YtghpmenoiimpoaaW.PrintLast Go.Proofs.YtghpmenoiimpoaaW.PrintMore
attribute [local go_sem] max2_int min2_int max_two min_two max_three min_three max_four min_four   -- for this text's walks alone
set_option linter.unusedVariables false
set_option linter.unusedSimpArgs false
/-! ### dasdlaw08_ContentsSector: function 12 -/
mutual
def dasdlaw08_ContentsSector.j0 : Nat → Int → Int → Bool → Int → Int → ByteArray → ByteArray → List (S25) → Option (Bool)
  | 0, _, _, _, _, _, _, _, _ => none
  | k + 1, x1, x2, x19, x826000, x826001, x826002, x826003, x826004 => if x19 = true then ((dasdlaw08_awake.f).bind fun t828 => (some t828)) else ((contents_Sector.f k x826000 x826001 x826002 x826003 x826004 x1).bind fun bt829 => ((dasdref08_Sector.f k x826000 x826001 x826002 x826003 x826004 x1).bind fun bt831 => ((contents_Sector.f k x826000 x826001 x826002 x826003 x826004 x2).bind fun bt833 => (if bt829.1 = bt831.1 then (dasdlaw08_ContentsSector.j1 k x1 x2 bt829.1 bt829.2 bt833.1 bt833.2 (bt829.2 != bt831.2) x826000 x826001 x826002 x826003 x826004) else (dasdlaw08_ContentsSector.j1 k x1 x2 bt829.1 bt829.2 bt833.1 bt833.2 true x826000 x826001 x826002 x826003 x826004)))))
def dasdlaw08_ContentsSector.j1 : Nat → Int → Int → Int → Bool → Int → Bool → Bool → Int → Int → ByteArray → ByteArray → List (S25) → Option (Bool)
  | 0, _, _, _, _, _, _, _, _, _, _, _, _ => none
  | k + 1, x1, x2, x7, x8, x11, x12, x46, x826000, x826001, x826002, x826003, x826004 => if x46 = true then (some false) else (if x8 = true then (if x12 = true then (if x1 = x2 then (some true) else ((extent_Disjoint.f k x826004).bind fun t835 => (if t835 = true then (if x7 = x11 then (some false) else ((extent_Contains.f k x826004 (wrap64 (Int.tdiv x7 8))).bind fun t836 => (some t836))) else (some true)))) else (some true)) else (some true))
end
def dasdlaw08_ContentsSector.f (k : Nat) (a0_0 : Int) (a0_1 : Int) (a0_2 : ByteArray) (a0_3 : ByteArray) (l0_4 : List (S25)) (a1 : Int) (a2 : Int) : Option (Bool) := (dasdlaw08_awake.f).bind fun t826 => (if t826 = true then ((dasdref07_Few.f a0_0 a0_1 a0_2 a0_3 l0_4).bind fun t827 => (dasdlaw08_ContentsSector.j0 k a1 a2 (!t827) a0_0 a0_1 a0_2 a0_3 l0_4)) else (dasdlaw08_ContentsSector.j0 k a1 a2 true a0_0 a0_1 a0_2 a0_3 l0_4))
theorem dasdlaw08_ContentsSector.mono_l : ∀ k, (∀ y0 y1 y2 y3 y4 y5 y6 y7, LeO (dasdlaw08_ContentsSector.j0 k y0 y1 y2 y3 y4 y5 y6 y7) (dasdlaw08_ContentsSector.j0 (k + 1) y0 y1 y2 y3 y4 y5 y6 y7)) ∧ (∀ y0 y1 y2 y3 y4 y5 y6 y7 y8 y9 y10 y11, LeO (dasdlaw08_ContentsSector.j1 k y0 y1 y2 y3 y4 y5 y6 y7 y8 y9 y10 y11) (dasdlaw08_ContentsSector.j1 (k + 1) y0 y1 y2 y3 y4 y5 y6 y7 y8 y9 y10 y11))
  | 0 => ⟨fun _ _ _ _ _ _ _ _ r h => by simp [dasdlaw08_ContentsSector.j0] at h, fun _ _ _ _ _ _ _ _ _ _ _ _ r h => by simp [dasdlaw08_ContentsSector.j1] at h⟩
  | k + 1 => by
    obtain ⟨ih0, ih1⟩ := dasdlaw08_ContentsSector.mono_l k
    refine ⟨?_, ?_⟩
    · intro y0 y1 y2 y3 y4 y5 y6 y7
      unfold dasdlaw08_ContentsSector.j0
      repeat' first
      | (with_reducible exact ih0 _ _ _ _ _ _ _ _)
      | (with_reducible exact ih1 _ _ _ _ _ _ _ _ _ _ _ _)
      | (with_reducible exact contents_Sector.mono _ _ _ _ _ _ _)
      | (with_reducible exact dasdref08_Sector.mono _ _ _ _ _ _ _)
      | (with_reducible exact extent_Contains.mono _ _ _)
      | (with_reducible exact extent_Disjoint.mono _ _)
      | (with_reducible exact LeO.refl _)
      | (with_reducible exact LeO.none _)
      | (with_reducible refine LeO.ite ?_ ?_)
      | (with_reducible refine LeO.bind ?_ (fun _ => ?_))
      | exact ih0 _ _ _ _ _ _ _ _
      | exact ih1 _ _ _ _ _ _ _ _ _ _ _ _
      | exact contents_Sector.mono _ _ _ _ _ _ _
      | exact dasdref08_Sector.mono _ _ _ _ _ _ _
      | exact extent_Contains.mono _ _ _
      | exact extent_Disjoint.mono _ _
      | exact LeO.none _
      | refine LeO.ite ?_ ?_
      | refine LeO.bind ?_ (fun _ => ?_)
    · intro y0 y1 y2 y3 y4 y5 y6 y7 y8 y9 y10 y11
      unfold dasdlaw08_ContentsSector.j1
      repeat' first
      | (with_reducible exact ih0 _ _ _ _ _ _ _ _)
      | (with_reducible exact ih1 _ _ _ _ _ _ _ _ _ _ _ _)
      | (with_reducible exact contents_Sector.mono _ _ _ _ _ _ _)
      | (with_reducible exact dasdref08_Sector.mono _ _ _ _ _ _ _)
      | (with_reducible exact extent_Contains.mono _ _ _)
      | (with_reducible exact extent_Disjoint.mono _ _)
      | (with_reducible exact LeO.refl _)
      | (with_reducible exact LeO.none _)
      | (with_reducible refine LeO.ite ?_ ?_)
      | (with_reducible refine LeO.bind ?_ (fun _ => ?_))
      | exact ih0 _ _ _ _ _ _ _ _
      | exact ih1 _ _ _ _ _ _ _ _ _ _ _ _
      | exact contents_Sector.mono _ _ _ _ _ _ _
      | exact dasdref08_Sector.mono _ _ _ _ _ _ _
      | exact extent_Contains.mono _ _ _
      | exact extent_Disjoint.mono _ _
      | exact LeO.none _
      | refine LeO.ite ?_ ?_
      | refine LeO.bind ?_ (fun _ => ?_)
theorem dasdlaw08_ContentsSector.mono : ∀ a0 a1 a2 a3 a4 a5 a6 k, LeO (dasdlaw08_ContentsSector.f k a0 a1 a2 a3 a4 a5 a6) (dasdlaw08_ContentsSector.f (k + 1) a0 a1 a2 a3 a4 a5 a6) := by
  intro a0 a1 a2 a3 a4 a5 a6 k
  obtain ⟨ih0, ih1⟩ := dasdlaw08_ContentsSector.mono_l k
  unfold dasdlaw08_ContentsSector.f
  repeat' first
      | (with_reducible exact ih0 _ _ _ _ _ _ _ _)
      | (with_reducible exact ih1 _ _ _ _ _ _ _ _ _ _ _ _)
      | (with_reducible exact contents_Sector.mono _ _ _ _ _ _ _)
      | (with_reducible exact dasdref08_Sector.mono _ _ _ _ _ _ _)
      | (with_reducible exact extent_Contains.mono _ _ _)
      | (with_reducible exact extent_Disjoint.mono _ _)
      | (with_reducible exact LeO.refl _)
      | (with_reducible exact LeO.none _)
      | (with_reducible refine LeO.ite ?_ ?_)
      | (with_reducible refine LeO.bind ?_ (fun _ => ?_))
      | exact ih0 _ _ _ _ _ _ _ _
      | exact ih1 _ _ _ _ _ _ _ _ _ _ _ _
      | exact contents_Sector.mono _ _ _ _ _ _ _
      | exact dasdref08_Sector.mono _ _ _ _ _ _ _
      | exact extent_Contains.mono _ _ _
      | exact extent_Disjoint.mono _ _
      | exact LeO.none _
      | refine LeO.ite ?_ ?_
      | refine LeO.bind ?_ (fun _ => ?_)
set_option maxHeartbeats 8000000 in
set_option maxRecDepth 100000 in
theorem dasdlaw08_ContentsSector.calls (k : Nat) (a0_0 : Int) (a0_1 : Int) (a0_2 : ByteArray) (a0_3 : ByteArray) (A0_4 : Option Addr) (c0_4 : Nat) (l0_4 : List (S25)) (a1 : Int) (a2 : Int) (r : Bool) (w : World) (hr0_4 : Kd.C k25 w A0_4 l0_4.length l0_4) (hc0_4 : l0_4.length ≤ c0_4) (h : dasdlaw08_ContentsSector.f k a0_0 a0_1 a0_2 a0_3 l0_4 a1 a2 = some r) :
    Calls Try.prog 12 #[.agg #[.int .i64 a0_0, .int .i64 a0_1, .string a0_2, .string a0_3, .slice A0_4 l0_4.length c0_4], .int .i64 a1, .int .i64 a2] w fun e w' => e = .returned (.bool r) ∧ Below w.heap.size w w' := by
  have hu66 := Try.underlying66
  have HR0_4 := Aside0.mk hr0_4
  have HC0_4 := Aside0.mk hc0_4
  clear hr0_4 hc0_4
  have HB := Aside0.mk (Below.refl w.heap.size w)
  have H : ((dasdlaw08_awake.f).bind fun t826 => (if t826 = true then ((dasdref07_Few.f a0_0 a0_1 a0_2 a0_3 l0_4).bind fun t827 => (dasdlaw08_ContentsSector.j0 k a1 a2 (!t827) a0_0 a0_1 a0_2 a0_3 l0_4)) else (dasdlaw08_ContentsSector.j0 k a1 a2 true a0_0 a0_1 a0_2 a0_3 l0_4))) = some r := h
  clear h
  have HC4 := Aside0.mk H
  clear H
  go_enter Try.func12, Try.ntmps12
  go_upto_region 1 with (first | ((with_reducible refine gate_dst (N := 3) rfl ?_); refine box_event ?hg (N := 3) ?hd (cs := #[.int .i64 a0_0, .int .i64 a0_1, .string a0_2, .string a0_3, .slice A0_4 l0_4.length c0_4]) (t := 66) ?hr ?_; (case hd => rfl); (case hg => rfl); (case hr => first | (go_simp; done) | (go_simp; rfl)); intro gb825 hg w5 hbox hb; have n0_ := Aside0.mk (below_step (by repeat (first | (with_reducible first | exact HB.out | apply below_alloc | apply pw_below_drewN | apply below_drew1) | exact HB.out)) hb); have n1_ := Aside0.mk (hbox); have n2_ := Aside0.mk ((by rw [hg]; exact (below_size (by repeat (first | (with_reducible first | exact HB.out | apply below_alloc | apply pw_below_drewN | apply below_drew1) | exact HB.out))) : w.heap.size ≤ gb825)); have n3_ := Aside0.mk ((by rw [hg]; exact (below_size (by repeat (first | (with_reducible first | exact HB.out | apply below_alloc | apply pw_below_drewN | apply below_drew1) | exact HB.out))) : w.heap.size ≤ gb825)); clear HB; have HB := n0_; have BK825 := n1_; have GW825 := n2_; have GE825 := n3_; clear n0_ n1_ n2_ n3_; clear hb hbox hg))
  (try simp only [Act.put, List.setIfInBounds_toArray, List.set_cons_zero, List.set_cons_succ])
  go_cut [19] (fun v19 wc => ∃ (kq : Nat) (x19_3 : Bool), v19 = .bool x19_3 ∧ Aside0 (dasdlaw08_ContentsSector.j0 kq a1 a2 x19_3 a0_0 a0_1 a0_2 a0_3 l0_4 = some r) ∧ Aside0 (kq ≤ k) ∧ Aside0 (wc.heap[gb825]? = some (.cells #[.int .i64 a0_0, .int .i64 a0_1, .string a0_2, .string a0_3, (.slice A0_4 l0_4.length c0_4)] 66 (0, 0))) ∧ Aside0 (Below w.heap.size w wc))
  case first =>
    have H := HC4.out
    clear HC4
    replace H := Option.bind_eq_some_iff.mp H
    obtain ⟨t826, A60, H⟩ := H
    replace H : (if t826 = true then ((dasdref07_Few.f a0_0 a0_1 a0_2 a0_3 l0_4).bind fun t827 => (dasdlaw08_ContentsSector.j0 k a1 a2 (!t827) a0_0 a0_1 a0_2 a0_3 l0_4)) else (dasdlaw08_ContentsSector.j0 k a1 a2 true a0_0 a0_1 a0_2 a0_3 l0_4)) = some r := H
    have A6 := Aside0.mk A60
    clear A60
    by_cases c7 : t826 = true
    · subst c7
      have H1 : ((dasdref07_Few.f a0_0 a0_1 a0_2 a0_3 l0_4).bind fun t827 => (dasdlaw08_ContentsSector.j0 k a1 a2 (!t827) a0_0 a0_1 a0_2 a0_3 l0_4)) = some r := by rw [if_pos rfl] at H; exact H
      clear H
      have H := H1
      clear H1
      replace H := Option.bind_eq_some_iff.mp H
      obtain ⟨t827, A80, H⟩ := H
      replace H : (dasdlaw08_ContentsSector.j0 k a1 a2 (!t827) a0_0 a0_1 a0_2 a0_3 l0_4) = some r := H
      have A8 := Aside0.mk A80
      clear A80
      have H' := Aside0.mk H
      clear H
      go_wp2_with (first | ((with_reducible refine gate_callee (f := 27) rfl ?_); refine goesL_ (some 13) rfl rfl Try.func27 (by kernel_rfl) rfl #[] rfl (by (try simp only [List.map_toArray, List.map_cons, List.map_nil]); first | done | rfl | (simp only [List.length_drop, List.length_take]; rfl)) ?_; (with_reducible refine (dasdlaw08_awake.calls  true _ A6.out).mono ?_); rintro e w9 ⟨rfl, hb⟩; refine ⟨_, rfl, ?_⟩; have n0_ := Aside0.mk (blk_below (g := gb825) (o := .cells #[.int .i64 a0_0, .int .i64 a0_1, .string a0_2, .string a0_3, .slice A0_4 l0_4.length c0_4] 66 (0, 0)) (by (with_reducible repeat (first | refine blk_drewN ?_ _ | refine blk_drew ?_ | refine blk_alloc ?_ _)); exact BK825.out) hb); have n1_ := Aside0.mk (below_step (by repeat (first | (with_reducible first | exact HB.out | apply below_alloc | apply pw_below_drewN | apply below_drew1 | refine below_set ?_ GE825.out) | exact HB.out)) hb); clear BK825; clear HB; have BK825 := n0_; have HB := n1_; clear n0_ n1_; (try clear hb); (try clear hb2); (try clear hk); (try clear hi); have hcz10_0 : w9.cell? ⟨gb825, 0, none⟩ = some (.int .i64 a0_0) := (blk_cell BK825.out 0).trans rfl; have hcz10_1 : w9.cell? ⟨gb825, 1, none⟩ = some (.int .i64 a0_1) := (blk_cell BK825.out 1).trans rfl; have hcz10_2 : w9.cell? ⟨gb825, 2, none⟩ = some (.string a0_2) := (blk_cell BK825.out 2).trans rfl; have hcz10_3 : w9.cell? ⟨gb825, 3, none⟩ = some (.string a0_3) := (blk_cell BK825.out 3).trans rfl; have hcz10_4 : w9.cell? ⟨gb825, 4, none⟩ = some (.slice A0_4 l0_4.length c0_4) := (blk_cell BK825.out 4).trans rfl; have hfz10_0 := blk_frozen BK825.out 0; have hfz10_1 := blk_frozen BK825.out 1; have hfz10_2 := blk_frozen BK825.out 2; have hfz10_3 := blk_frozen BK825.out 3; have hfz10_4 := blk_frozen BK825.out 4) | (go_at_call 51; (with_reducible refine (dasdref07_Few.calls a0_0 a0_1 a0_2 a0_3 _ _ l0_4 t827 _ ?side1 ?side2 A8.out).mono ?_); (case side1 => repeat (first | exact (Kd.C_below HR0_4.out HB.out) | (with_reducible refine Kd.C_alloc ?_ _) | (with_reducible refine Kd.C_drewN ?_ _) | (with_reducible refine Kd.C_drew ?_))); (case side2 => exact HC0_4.out); rintro e w11 ⟨rfl, hb⟩; have n0_ := Aside0.mk (blk_below (g := gb825) (o := .cells #[.int .i64 a0_0, .int .i64 a0_1, .string a0_2, .string a0_3, .slice A0_4 l0_4.length c0_4] 66 (0, 0)) (by (with_reducible repeat (first | refine blk_drewN ?_ _ | refine blk_drew ?_ | refine blk_alloc ?_ _)); exact BK825.out) hb); have n1_ := Aside0.mk (below_step (by repeat (first | (with_reducible first | exact HB.out | apply below_alloc | apply pw_below_drewN | apply below_drew1 | refine below_set ?_ GE825.out) | exact HB.out)) hb); clear BK825; clear HB; have BK825 := n0_; have HB := n1_; clear n0_ n1_; (try clear hb); (try clear hb2); (try clear hk); (try clear hi)))
      go_meet
      case rel => exact ⟨_, (!t827), (by first | rfl | (simp; done) | (simp [*]; done)), H', ⟨by first | omega | exact Nat.le_refl _⟩, ⟨by (with_reducible repeat (first | refine blk_drewN ?_ _ | refine blk_drew ?_ | refine blk_alloc ?_ _)); exact BK825.out⟩, ⟨by repeat (first | (with_reducible first | exact HB.out | apply below_alloc | apply pw_below_drewN | apply below_drew1 | refine below_set ?_ GE825.out) | exact HB.out)⟩⟩
    · replace c7 := Bool.eq_false_iff.mpr c7
      subst c7
      have H1 : (dasdlaw08_ContentsSector.j0 k a1 a2 true a0_0 a0_1 a0_2 a0_3 l0_4) = some r := by rw [if_neg (show ¬ (false = true) by decide)] at H; exact H
      clear H
      have H := H1
      clear H1
      have H' := Aside0.mk H
      clear H
      go_wp2_with (first | ((with_reducible refine gate_callee (f := 27) rfl ?_); refine goesL_ (some 13) rfl rfl Try.func27 (by kernel_rfl) rfl #[] rfl (by (try simp only [List.map_toArray, List.map_cons, List.map_nil]); first | done | rfl | (simp only [List.length_drop, List.length_take]; rfl)) ?_; (with_reducible refine (dasdlaw08_awake.calls  false _ A6.out).mono ?_); rintro e w12 ⟨rfl, hb⟩; refine ⟨_, rfl, ?_⟩; have n0_ := Aside0.mk (blk_below (g := gb825) (o := .cells #[.int .i64 a0_0, .int .i64 a0_1, .string a0_2, .string a0_3, .slice A0_4 l0_4.length c0_4] 66 (0, 0)) (by (with_reducible repeat (first | refine blk_drewN ?_ _ | refine blk_drew ?_ | refine blk_alloc ?_ _)); exact BK825.out) hb); have n1_ := Aside0.mk (below_step (by repeat (first | (with_reducible first | exact HB.out | apply below_alloc | apply pw_below_drewN | apply below_drew1 | refine below_set ?_ GE825.out) | exact HB.out)) hb); clear BK825; clear HB; have BK825 := n0_; have HB := n1_; clear n0_ n1_; (try clear hb); (try clear hb2); (try clear hk); (try clear hi)))
      go_meet
      case rel => exact ⟨_, (true), (by first | rfl | (simp; done) | (simp [*]; done)), H', ⟨by first | omega | exact Nat.le_refl _⟩, ⟨by (with_reducible repeat (first | refine blk_drewN ?_ _ | refine blk_drew ?_ | refine blk_alloc ?_ _)); exact BK825.out⟩, ⟨by repeat (first | (with_reducible first | exact HB.out | apply below_alloc | apply pw_below_drewN | apply below_drew1 | refine below_set ?_ GE825.out) | exact HB.out)⟩⟩
  case rest =>
    clear HC4
    try clear c1
    try clear c2
    try clear p2
    try clear c7
    try clear c12
    try clear hcz10_0
    try clear hcz10_1
    try clear hcz10_2
    try clear hcz10_3
    try clear hcz10_4
    try clear hfz10_0
    try clear hfz10_1
    try clear hfz10_2
    try clear hfz10_3
    try clear hfz10_4
    obtain ⟨kq, x19_3, rfl, HA, HJ3, BK825, HB⟩ := hcut
    cases kq with
    | zero => exact absurd HA.out (by simp [dasdlaw08_ContentsSector.j0])
    | succ kj3 =>
      have H := HA.out
      clear HA
      simp only [dasdlaw08_ContentsSector.j0] at H
      by_cases c13 : x19_3 = true
      · subst c13
        have H1 : ((dasdlaw08_awake.f).bind fun t828 => (some t828)) = some r := by rw [if_pos rfl] at H; exact H
        clear H
        have H := H1
        clear H1
        replace H := Option.bind_eq_some_iff.mp H
        obtain ⟨t828, A140, H⟩ := H
        replace H : (some t828) = some r := H
        have A14 := Aside0.mk A140
        clear A140
        obtain rfl := Option.some.inj H
        go_wp2_with (first | ((with_reducible refine gate_callee (f := 27) rfl ?_); refine goesL_ (some 20) rfl rfl Try.func27 (by kernel_rfl) rfl #[] rfl (by (try simp only [List.map_toArray, List.map_cons, List.map_nil]); first | done | rfl | (simp only [List.length_drop, List.length_take]; rfl)) ?_; (with_reducible refine (dasdlaw08_awake.calls  t828 _ A14.out).mono ?_); rintro e w15 ⟨rfl, hb⟩; refine ⟨_, rfl, ?_⟩; have n0_ := Aside0.mk (blk_below (g := gb825) (o := .cells #[.int .i64 a0_0, .int .i64 a0_1, .string a0_2, .string a0_3, .slice A0_4 l0_4.length c0_4] 66 (0, 0)) (by (with_reducible repeat (first | refine blk_drewN ?_ _ | refine blk_drew ?_ | refine blk_alloc ?_ _)); exact BK825.out) hb); have n1_ := Aside0.mk (below_step (by repeat (first | (with_reducible first | exact HB.out | apply below_alloc | apply pw_below_drewN | apply below_drew1 | refine below_set ?_ GE825.out) | exact HB.out)) hb); clear BK825; clear HB; have BK825 := n0_; have HB := n1_; clear n0_ n1_; (try clear hb); (try clear hb2); (try clear hk); (try clear hi)))
        go_ret
        exact ⟨by first | rfl | (simp [errW_none, errW_some] <;> rfl) | (simp [*, errW_none, errW_some] <;> rfl), by repeat (first | (with_reducible first | exact HB.out | apply below_alloc | apply pw_below_drewN | apply below_drew1 | refine below_set ?_ GE825.out) | exact HB.out)⟩
      · replace c13 := Bool.eq_false_iff.mpr c13
        subst c13
        have H1 : ((contents_Sector.f kj3 a0_0 a0_1 a0_2 a0_3 l0_4 a1).bind fun bt829 => ((dasdref08_Sector.f kj3 a0_0 a0_1 a0_2 a0_3 l0_4 a1).bind fun bt831 => ((contents_Sector.f kj3 a0_0 a0_1 a0_2 a0_3 l0_4 a2).bind fun bt833 => (if bt829.1 = bt831.1 then (dasdlaw08_ContentsSector.j1 kj3 a1 a2 bt829.1 bt829.2 bt833.1 bt833.2 (bt829.2 != bt831.2) a0_0 a0_1 a0_2 a0_3 l0_4) else (dasdlaw08_ContentsSector.j1 kj3 a1 a2 bt829.1 bt829.2 bt833.1 bt833.2 true a0_0 a0_1 a0_2 a0_3 l0_4))))) = some r := by rw [if_neg (show ¬ (false = true) by decide)] at H; exact H
        clear H
        have H := H1
        clear H1
        replace H := Option.bind_eq_some_iff.mp H
        obtain ⟨⟨t829, t830⟩, A160, H⟩ := H
        replace H : ((dasdref08_Sector.f kj3 a0_0 a0_1 a0_2 a0_3 l0_4 a1).bind fun bt831 => ((contents_Sector.f kj3 a0_0 a0_1 a0_2 a0_3 l0_4 a2).bind fun bt833 => (if t829 = bt831.1 then (dasdlaw08_ContentsSector.j1 kj3 a1 a2 t829 t830 bt833.1 bt833.2 (t830 != bt831.2) a0_0 a0_1 a0_2 a0_3 l0_4) else (dasdlaw08_ContentsSector.j1 kj3 a1 a2 t829 t830 bt833.1 bt833.2 true a0_0 a0_1 a0_2 a0_3 l0_4)))) = some r := H
        have A16 := Aside0.mk A160
        clear A160
        replace H := Option.bind_eq_some_iff.mp H
        obtain ⟨⟨t831, t832⟩, A170, H⟩ := H
        replace H : ((contents_Sector.f kj3 a0_0 a0_1 a0_2 a0_3 l0_4 a2).bind fun bt833 => (if t829 = t831 then (dasdlaw08_ContentsSector.j1 kj3 a1 a2 t829 t830 bt833.1 bt833.2 (t830 != t832) a0_0 a0_1 a0_2 a0_3 l0_4) else (dasdlaw08_ContentsSector.j1 kj3 a1 a2 t829 t830 bt833.1 bt833.2 true a0_0 a0_1 a0_2 a0_3 l0_4))) = some r := H
        have A17 := Aside0.mk A170
        clear A170
        replace H := Option.bind_eq_some_iff.mp H
        obtain ⟨⟨t833, t834⟩, A180, H⟩ := H
        replace H : (if t829 = t831 then (dasdlaw08_ContentsSector.j1 kj3 a1 a2 t829 t830 t833 t834 (t830 != t832) a0_0 a0_1 a0_2 a0_3 l0_4) else (dasdlaw08_ContentsSector.j1 kj3 a1 a2 t829 t830 t833 t834 true a0_0 a0_1 a0_2 a0_3 l0_4)) = some r := H
        have A18 := Aside0.mk A180
        clear A180
        have HC19 := Aside0.mk H
        clear H
        have hcz20_0 : wc.cell? ⟨gb825, 0, none⟩ = some (.int .i64 a0_0) := (blk_cell BK825.out 0).trans rfl
        have hcz20_1 : wc.cell? ⟨gb825, 1, none⟩ = some (.int .i64 a0_1) := (blk_cell BK825.out 1).trans rfl
        have hcz20_2 : wc.cell? ⟨gb825, 2, none⟩ = some (.string a0_2) := (blk_cell BK825.out 2).trans rfl
        have hcz20_3 : wc.cell? ⟨gb825, 3, none⟩ = some (.string a0_3) := (blk_cell BK825.out 3).trans rfl
        have hcz20_4 : wc.cell? ⟨gb825, 4, none⟩ = some (.slice A0_4 l0_4.length c0_4) := (blk_cell BK825.out 4).trans rfl
        have hfz20_0 := blk_frozen BK825.out 0
        have hfz20_1 := blk_frozen BK825.out 1
        have hfz20_2 := blk_frozen BK825.out 2
        have hfz20_3 := blk_frozen BK825.out 3
        have hfz20_4 := blk_frozen BK825.out 4
        go_upto_region 6 with (first | ((with_reducible refine gate_callee (f := 52) rfl ?_); refine goesL_ (some 24) rfl rfl Try.func52 (by kernel_rfl) rfl #[.agg #[.int .i64 a0_0, .int .i64 a0_1, .string a0_2, .string a0_3, .slice A0_4 l0_4.length c0_4], .int .i64 a1] rfl (by (try simp only [List.map_toArray, List.map_cons, List.map_nil]); first | done | rfl | (simp only [List.length_drop, List.length_take]; rfl)) ?_; (with_reducible refine (contents_Sector.calls kj3 a0_0 a0_1 a0_2 a0_3 _ _ l0_4 a1 t829 t830 _ ?side1 ?side2 A16.out).mono ?_); (case side1 => repeat (first | exact (Kd.C_below HR0_4.out HB.out) | (with_reducible refine Kd.C_alloc ?_ _) | (with_reducible refine Kd.C_drewN ?_ _) | (with_reducible refine Kd.C_drew ?_))); (case side2 => exact HC0_4.out); rintro e w21 ⟨rfl, hb⟩; refine ⟨_, rfl, ?_⟩; have n0_ := Aside0.mk (blk_below (g := gb825) (o := .cells #[.int .i64 a0_0, .int .i64 a0_1, .string a0_2, .string a0_3, .slice A0_4 l0_4.length c0_4] 66 (0, 0)) (by (with_reducible repeat (first | refine blk_drewN ?_ _ | refine blk_drew ?_ | refine blk_alloc ?_ _)); exact BK825.out) hb); have n1_ := Aside0.mk (below_step (by repeat (first | (with_reducible first | exact HB.out | apply below_alloc | apply pw_below_drewN | apply below_drew1 | refine below_set ?_ GE825.out) | exact HB.out)) hb); clear BK825; clear HB; have BK825 := n0_; have HB := n1_; clear n0_ n1_; (try clear hb); (try clear hb2); (try clear hk); (try clear hi); have hcz22_0 : w21.cell? ⟨gb825, 0, none⟩ = some (.int .i64 a0_0) := (blk_cell BK825.out 0).trans rfl; have hcz22_1 : w21.cell? ⟨gb825, 1, none⟩ = some (.int .i64 a0_1) := (blk_cell BK825.out 1).trans rfl; have hcz22_2 : w21.cell? ⟨gb825, 2, none⟩ = some (.string a0_2) := (blk_cell BK825.out 2).trans rfl; have hcz22_3 : w21.cell? ⟨gb825, 3, none⟩ = some (.string a0_3) := (blk_cell BK825.out 3).trans rfl; have hcz22_4 : w21.cell? ⟨gb825, 4, none⟩ = some (.slice A0_4 l0_4.length c0_4) := (blk_cell BK825.out 4).trans rfl; have hfz22_0 := blk_frozen BK825.out 0; have hfz22_1 := blk_frozen BK825.out 1; have hfz22_2 := blk_frozen BK825.out 2; have hfz22_3 := blk_frozen BK825.out 3; have hfz22_4 := blk_frozen BK825.out 4) | ((with_reducible refine gate_callee (f := 53) rfl ?_); refine goesL_ (some 30) rfl rfl Try.func53 (by kernel_rfl) rfl #[.agg #[.int .i64 a0_0, .int .i64 a0_1, .string a0_2, .string a0_3, .slice A0_4 l0_4.length c0_4], .int .i64 a1] rfl (by (try simp only [List.map_toArray, List.map_cons, List.map_nil]); first | done | rfl | (simp only [List.length_drop, List.length_take]; rfl)) ?_; (with_reducible refine (dasdref08_Sector.calls kj3 a0_0 a0_1 a0_2 a0_3 _ _ l0_4 a1 t831 t832 _ ?side1 ?side2 A17.out).mono ?_); (case side1 => repeat (first | exact (Kd.C_below HR0_4.out HB.out) | (with_reducible refine Kd.C_alloc ?_ _) | (with_reducible refine Kd.C_drewN ?_ _) | (with_reducible refine Kd.C_drew ?_))); (case side2 => exact HC0_4.out); rintro e w23 ⟨rfl, hb⟩; refine ⟨_, rfl, ?_⟩; have n0_ := Aside0.mk (blk_below (g := gb825) (o := .cells #[.int .i64 a0_0, .int .i64 a0_1, .string a0_2, .string a0_3, .slice A0_4 l0_4.length c0_4] 66 (0, 0)) (by (with_reducible repeat (first | refine blk_drewN ?_ _ | refine blk_drew ?_ | refine blk_alloc ?_ _)); exact BK825.out) hb); have n1_ := Aside0.mk (below_step (by repeat (first | (with_reducible first | exact HB.out | apply below_alloc | apply pw_below_drewN | apply below_drew1 | refine below_set ?_ GE825.out) | exact HB.out)) hb); clear BK825; clear HB; have BK825 := n0_; have HB := n1_; clear n0_ n1_; (try clear hb); (try clear hb2); (try clear hk); (try clear hi); have hcz24_0 : w23.cell? ⟨gb825, 0, none⟩ = some (.int .i64 a0_0) := (blk_cell BK825.out 0).trans rfl; have hcz24_1 : w23.cell? ⟨gb825, 1, none⟩ = some (.int .i64 a0_1) := (blk_cell BK825.out 1).trans rfl; have hcz24_2 : w23.cell? ⟨gb825, 2, none⟩ = some (.string a0_2) := (blk_cell BK825.out 2).trans rfl; have hcz24_3 : w23.cell? ⟨gb825, 3, none⟩ = some (.string a0_3) := (blk_cell BK825.out 3).trans rfl; have hcz24_4 : w23.cell? ⟨gb825, 4, none⟩ = some (.slice A0_4 l0_4.length c0_4) := (blk_cell BK825.out 4).trans rfl; have hfz24_0 := blk_frozen BK825.out 0; have hfz24_1 := blk_frozen BK825.out 1; have hfz24_2 := blk_frozen BK825.out 2; have hfz24_3 := blk_frozen BK825.out 3; have hfz24_4 := blk_frozen BK825.out 4) | ((with_reducible refine gate_callee (f := 52) rfl ?_); refine goesL_ (some 36) rfl rfl Try.func52 (by kernel_rfl) rfl #[.agg #[.int .i64 a0_0, .int .i64 a0_1, .string a0_2, .string a0_3, .slice A0_4 l0_4.length c0_4], .int .i64 a2] rfl (by (try simp only [List.map_toArray, List.map_cons, List.map_nil]); first | done | rfl | (simp only [List.length_drop, List.length_take]; rfl)) ?_; (with_reducible refine (contents_Sector.calls kj3 a0_0 a0_1 a0_2 a0_3 _ _ l0_4 a2 t833 t834 _ ?side1 ?side2 A18.out).mono ?_); (case side1 => repeat (first | exact (Kd.C_below HR0_4.out HB.out) | (with_reducible refine Kd.C_alloc ?_ _) | (with_reducible refine Kd.C_drewN ?_ _) | (with_reducible refine Kd.C_drew ?_))); (case side2 => exact HC0_4.out); rintro e w25 ⟨rfl, hb⟩; refine ⟨_, rfl, ?_⟩; have n0_ := Aside0.mk (blk_below (g := gb825) (o := .cells #[.int .i64 a0_0, .int .i64 a0_1, .string a0_2, .string a0_3, .slice A0_4 l0_4.length c0_4] 66 (0, 0)) (by (with_reducible repeat (first | refine blk_drewN ?_ _ | refine blk_drew ?_ | refine blk_alloc ?_ _)); exact BK825.out) hb); have n1_ := Aside0.mk (below_step (by repeat (first | (with_reducible first | exact HB.out | apply below_alloc | apply pw_below_drewN | apply below_drew1 | refine below_set ?_ GE825.out) | exact HB.out)) hb); clear BK825; clear HB; have BK825 := n0_; have HB := n1_; clear n0_ n1_; (try clear hb); (try clear hb2); (try clear hk); (try clear hi)))
        (try simp only [Act.put, List.setIfInBounds_toArray, List.set_cons_zero, List.set_cons_succ])
        go_cut [46] (fun v46 wc => ∃ (kq : Nat) (x46_18 : Bool), v46 = .bool x46_18 ∧ Aside0 (dasdlaw08_ContentsSector.j1 kq a1 a2 t829 t830 t833 t834 x46_18 a0_0 a0_1 a0_2 a0_3 l0_4 = some r) ∧ Aside0 (kq ≤ kj3) ∧ Aside0 (wc.heap[gb825]? = some (.cells #[.int .i64 a0_0, .int .i64 a0_1, .string a0_2, .string a0_3, (.slice A0_4 l0_4.length c0_4)] 66 (0, 0))) ∧ Aside0 (Below w.heap.size w wc))
        case first =>
          have H := HC19.out
          clear HC19
          by_cases c26 : t829 = t831
          · rw [if_pos c26] at H
            have c26b0 : (t829 == t831) = true := beq_iff_eq.mpr c26
            have c26b1 : (t829 != t831) = false := bne_eq_false_iff_eq.mpr c26
            clear c26
            (first | rw [c26b0] | (simp only [i64_w, i32_w]; rw [c26b0]) | skip)
            have H' := Aside0.mk H
            clear H
            go_wp2
            go_meet
            case rel => exact ⟨_, ((t830 != t832)), (by first | rfl | (simp; done) | (simp [*]; done)), H', ⟨by have := HJ3.out; first | omega | exact Nat.le_refl _⟩, ⟨by (with_reducible repeat (first | refine blk_drewN ?_ _ | refine blk_drew ?_ | refine blk_alloc ?_ _)); exact BK825.out⟩, ⟨by repeat (first | (with_reducible first | exact HB.out | apply below_alloc | apply pw_below_drewN | apply below_drew1 | refine below_set ?_ GE825.out) | exact HB.out)⟩⟩
          · rw [if_neg c26] at H
            have c26b0 : (t829 == t831) = false := beq_eq_false_iff_ne.mpr c26
            have c26b1 : (t829 != t831) = true := bne_iff_ne.mpr c26
            (first | rw [c26b0] | (simp only [i64_w, i32_w]; rw [c26b0]) | skip)
            have H' := Aside0.mk H
            clear H
            go_wp2
            go_meet
            case rel => exact ⟨_, (true), (by first | rfl | (simp; done) | (simp [*]; done)), H', ⟨by have := HJ3.out; first | omega | exact Nat.le_refl _⟩, ⟨by (with_reducible repeat (first | refine blk_drewN ?_ _ | refine blk_drew ?_ | refine blk_alloc ?_ _)); exact BK825.out⟩, ⟨by repeat (first | (with_reducible first | exact HB.out | apply below_alloc | apply pw_below_drewN | apply below_drew1 | refine below_set ?_ GE825.out) | exact HB.out)⟩⟩
        case rest =>
          clear HC19
          try clear c1
          try clear c2
          try clear p2
          try clear c5
          try clear c7
          try clear c12
          try clear c13
          try clear c26
          try clear c26b0
          try clear c26b1
          try clear hcz10_0
          try clear hcz10_1
          try clear hcz10_2
          try clear hcz10_3
          try clear hcz10_4
          try clear hcz20_0
          try clear hcz20_1
          try clear hcz20_2
          try clear hcz20_3
          try clear hcz20_4
          try clear hcz22_0
          try clear hcz22_1
          try clear hcz22_2
          try clear hcz22_3
          try clear hcz22_4
          try clear hcz24_0
          try clear hcz24_1
          try clear hcz24_2
          try clear hcz24_3
          try clear hcz24_4
          try clear hfz10_0
          try clear hfz10_1
          try clear hfz10_2
          try clear hfz10_3
          try clear hfz10_4
          try clear hfz20_0
          try clear hfz20_1
          try clear hfz20_2
          try clear hfz20_3
          try clear hfz20_4
          try clear hfz22_0
          try clear hfz22_1
          try clear hfz22_2
          try clear hfz22_3
          try clear hfz22_4
          try clear hfz24_0
          try clear hfz24_1
          try clear hfz24_2
          try clear hfz24_3
          try clear hfz24_4
          try clear p2
          obtain ⟨kq, x46_18, rfl, HA, HJ18, BK825, HB⟩ := hcut
          cases kq with
          | zero => exact absurd HA.out (by simp [dasdlaw08_ContentsSector.j1])
          | succ kj18 =>
            have H := HA.out
            clear HA
            simp only [dasdlaw08_ContentsSector.j1] at H
            by_cases c27 : x46_18 = true
            · subst c27
              have H1 : (some false) = some r := by rw [if_pos rfl] at H; exact H
              clear H
              have H := H1
              clear H1
              obtain rfl := Option.some.inj H
              go_wp2
              go_ret
              exact ⟨by first | rfl | (simp [errW_none, errW_some] <;> rfl) | (simp [*, errW_none, errW_some] <;> rfl), by repeat (first | (with_reducible first | exact HB.out | apply below_alloc | apply pw_below_drewN | apply below_drew1 | refine below_set ?_ GE825.out) | exact HB.out)⟩
            · replace c27 := Bool.eq_false_iff.mpr c27
              subst c27
              have H1 : (if t830 = true then (if t834 = true then (if a1 = a2 then (some true) else ((extent_Disjoint.f kj18 l0_4).bind fun t835 => (if t835 = true then (if t829 = t833 then (some false) else ((extent_Contains.f kj18 l0_4 (wrap64 (Int.tdiv t829 8))).bind fun t836 => (some t836))) else (some true)))) else (some true)) else (some true)) = some r := by rw [if_neg (show ¬ (false = true) by decide)] at H; exact H
              clear H
              have H := H1
              clear H1
              by_cases c28 : t830 = true
              · subst c28
                have H1 : (if t834 = true then (if a1 = a2 then (some true) else ((extent_Disjoint.f kj18 l0_4).bind fun t835 => (if t835 = true then (if t829 = t833 then (some false) else ((extent_Contains.f kj18 l0_4 (wrap64 (Int.tdiv t829 8))).bind fun t836 => (some t836))) else (some true)))) else (some true)) = some r := by rw [if_pos rfl] at H; exact H
                clear H
                have H := H1
                clear H1
                by_cases c29 : t834 = true
                · subst c29
                  have H1 : (if a1 = a2 then (some true) else ((extent_Disjoint.f kj18 l0_4).bind fun t835 => (if t835 = true then (if t829 = t833 then (some false) else ((extent_Contains.f kj18 l0_4 (wrap64 (Int.tdiv t829 8))).bind fun t836 => (some t836))) else (some true)))) = some r := by rw [if_pos rfl] at H; exact H
                  clear H
                  have H := H1
                  clear H1
                  by_cases c30 : a1 = a2
                  · rw [if_pos c30] at H
                    have c30b0 : (a1 == a2) = true := beq_iff_eq.mpr c30
                    have c30b1 : (a1 != a2) = false := bne_eq_false_iff_eq.mpr c30
                    clear c30
                    obtain rfl := Option.some.inj H
                    go_wp2
                    go_ret
                    exact ⟨by first | rfl | (simp [errW_none, errW_some] <;> rfl) | (simp [*, errW_none, errW_some] <;> rfl), by repeat (first | (with_reducible first | exact HB.out | apply below_alloc | apply pw_below_drewN | apply below_drew1 | refine below_set ?_ GE825.out) | exact HB.out)⟩
                  · rw [if_neg c30] at H
                    have c30b0 : (a1 == a2) = false := beq_eq_false_iff_ne.mpr c30
                    have c30b1 : (a1 != a2) = true := bne_iff_ne.mpr c30
                    replace H := Option.bind_eq_some_iff.mp H
                    obtain ⟨t835, A310, H⟩ := H
                    replace H : (if t835 = true then (if t829 = t833 then (some false) else ((extent_Contains.f kj18 l0_4 (wrap64 (Int.tdiv t829 8))).bind fun t836 => (some t836))) else (some true)) = some r := H
                    have A31 := Aside0.mk A310
                    clear A310
                    by_cases c32 : t835 = true
                    · subst c32
                      have H1 : (if t829 = t833 then (some false) else ((extent_Contains.f kj18 l0_4 (wrap64 (Int.tdiv t829 8))).bind fun t836 => (some t836))) = some r := by rw [if_pos rfl] at H; exact H
                      clear H
                      have H := H1
                      clear H1
                      by_cases c33 : t829 = t833
                      · rw [if_pos c33] at H
                        have c33b0 : (t829 == t833) = true := beq_iff_eq.mpr c33
                        have c33b1 : (t829 != t833) = false := bne_eq_false_iff_eq.mpr c33
                        clear c33
                        obtain rfl := Option.some.inj H
                        have hcz34_0 : wc.cell? ⟨gb825, 0, none⟩ = some (.int .i64 a0_0) := (blk_cell BK825.out 0).trans rfl
                        have hcz34_1 : wc.cell? ⟨gb825, 1, none⟩ = some (.int .i64 a0_1) := (blk_cell BK825.out 1).trans rfl
                        have hcz34_2 : wc.cell? ⟨gb825, 2, none⟩ = some (.string a0_2) := (blk_cell BK825.out 2).trans rfl
                        have hcz34_3 : wc.cell? ⟨gb825, 3, none⟩ = some (.string a0_3) := (blk_cell BK825.out 3).trans rfl
                        have hcz34_4 : wc.cell? ⟨gb825, 4, none⟩ = some (.slice A0_4 l0_4.length c0_4) := (blk_cell BK825.out 4).trans rfl
                        have hfz34_0 := blk_frozen BK825.out 0
                        have hfz34_1 := blk_frozen BK825.out 1
                        have hfz34_2 := blk_frozen BK825.out 2
                        have hfz34_3 := blk_frozen BK825.out 3
                        have hfz34_4 := blk_frozen BK825.out 4
                        go_wp2_with (first | (go_at_call 25; (with_reducible refine (extent_Disjoint.calls kj18 _ _ l0_4 true _ ?side1 ?side2 A31.out).mono ?_); (case side1 => repeat (first | exact (Kd.C_below HR0_4.out HB.out) | (with_reducible refine Kd.C_alloc ?_ _) | (with_reducible refine Kd.C_drewN ?_ _) | (with_reducible refine Kd.C_drew ?_))); (case side2 => exact HC0_4.out); rintro e w35 ⟨rfl, hb⟩; have n0_ := Aside0.mk (blk_below (g := gb825) (o := .cells #[.int .i64 a0_0, .int .i64 a0_1, .string a0_2, .string a0_3, .slice A0_4 l0_4.length c0_4] 66 (0, 0)) (by (with_reducible repeat (first | refine blk_drewN ?_ _ | refine blk_drew ?_ | refine blk_alloc ?_ _)); exact BK825.out) hb); have n1_ := Aside0.mk (below_step (by repeat (first | (with_reducible first | exact HB.out | apply below_alloc | apply pw_below_drewN | apply below_drew1 | refine below_set ?_ GE825.out) | exact HB.out)) hb); clear BK825; clear HB; have BK825 := n0_; have HB := n1_; clear n0_ n1_; (try clear hb); (try clear hb2); (try clear hk); (try clear hi)))
                        go_ret
                        exact ⟨by first | rfl | (simp [errW_none, errW_some] <;> rfl) | (simp [*, errW_none, errW_some] <;> rfl), by repeat (first | (with_reducible first | exact HB.out | apply below_alloc | apply pw_below_drewN | apply below_drew1 | refine below_set ?_ GE825.out) | exact HB.out)⟩
                      · rw [if_neg c33] at H
                        have c33b0 : (t829 == t833) = false := beq_eq_false_iff_ne.mpr c33
                        have c33b1 : (t829 != t833) = true := bne_iff_ne.mpr c33
                        replace H := Option.bind_eq_some_iff.mp H
                        obtain ⟨t836, A360, H⟩ := H
                        replace H : (some t836) = some r := H
                        have A36 := Aside0.mk A360
                        clear A360
                        obtain rfl := Option.some.inj H
                        have hcz37_0 : wc.cell? ⟨gb825, 0, none⟩ = some (.int .i64 a0_0) := (blk_cell BK825.out 0).trans rfl
                        have hcz37_1 : wc.cell? ⟨gb825, 1, none⟩ = some (.int .i64 a0_1) := (blk_cell BK825.out 1).trans rfl
                        have hcz37_2 : wc.cell? ⟨gb825, 2, none⟩ = some (.string a0_2) := (blk_cell BK825.out 2).trans rfl
                        have hcz37_3 : wc.cell? ⟨gb825, 3, none⟩ = some (.string a0_3) := (blk_cell BK825.out 3).trans rfl
                        have hcz37_4 : wc.cell? ⟨gb825, 4, none⟩ = some (.slice A0_4 l0_4.length c0_4) := (blk_cell BK825.out 4).trans rfl
                        have hfz37_0 := blk_frozen BK825.out 0
                        have hfz37_1 := blk_frozen BK825.out 1
                        have hfz37_2 := blk_frozen BK825.out 2
                        have hfz37_3 := blk_frozen BK825.out 3
                        have hfz37_4 := blk_frozen BK825.out 4
                        go_wp2_with (first | (go_at_call 25; (with_reducible refine (extent_Disjoint.calls kj18 _ _ l0_4 true _ ?side1 ?side2 A31.out).mono ?_); (case side1 => repeat (first | exact (Kd.C_below HR0_4.out HB.out) | (with_reducible refine Kd.C_alloc ?_ _) | (with_reducible refine Kd.C_drewN ?_ _) | (with_reducible refine Kd.C_drew ?_))); (case side2 => exact HC0_4.out); rintro e w38 ⟨rfl, hb⟩; have n0_ := Aside0.mk (blk_below (g := gb825) (o := .cells #[.int .i64 a0_0, .int .i64 a0_1, .string a0_2, .string a0_3, .slice A0_4 l0_4.length c0_4] 66 (0, 0)) (by (with_reducible repeat (first | refine blk_drewN ?_ _ | refine blk_drew ?_ | refine blk_alloc ?_ _)); exact BK825.out) hb); have n1_ := Aside0.mk (below_step (by repeat (first | (with_reducible first | exact HB.out | apply below_alloc | apply pw_below_drewN | apply below_drew1 | refine below_set ?_ GE825.out) | exact HB.out)) hb); clear BK825; clear HB; have BK825 := n0_; have HB := n1_; clear n0_ n1_; (try clear hb); (try clear hb2); (try clear hk); (try clear hi); have hcz39_0 : w38.cell? ⟨gb825, 0, none⟩ = some (.int .i64 a0_0) := (blk_cell BK825.out 0).trans rfl; have hcz39_1 : w38.cell? ⟨gb825, 1, none⟩ = some (.int .i64 a0_1) := (blk_cell BK825.out 1).trans rfl; have hcz39_2 : w38.cell? ⟨gb825, 2, none⟩ = some (.string a0_2) := (blk_cell BK825.out 2).trans rfl; have hcz39_3 : w38.cell? ⟨gb825, 3, none⟩ = some (.string a0_3) := (blk_cell BK825.out 3).trans rfl; have hcz39_4 : w38.cell? ⟨gb825, 4, none⟩ = some (.slice A0_4 l0_4.length c0_4) := (blk_cell BK825.out 4).trans rfl; have hfz39_0 := blk_frozen BK825.out 0; have hfz39_1 := blk_frozen BK825.out 1; have hfz39_2 := blk_frozen BK825.out 2; have hfz39_3 := blk_frozen BK825.out 3; have hfz39_4 := blk_frozen BK825.out 4) | (go_at_call 36; (with_reducible refine (extent_Contains.calls kj18 _ _ l0_4 (wrap64 (Int.tdiv t829 8)) t836 _ ?side1 ?side2 A36.out).mono ?_); (case side1 => repeat (first | exact (Kd.C_below HR0_4.out HB.out) | (with_reducible refine Kd.C_alloc ?_ _) | (with_reducible refine Kd.C_drewN ?_ _) | (with_reducible refine Kd.C_drew ?_))); (case side2 => exact HC0_4.out); rintro e w40 ⟨rfl, hb⟩; have n0_ := Aside0.mk (blk_below (g := gb825) (o := .cells #[.int .i64 a0_0, .int .i64 a0_1, .string a0_2, .string a0_3, .slice A0_4 l0_4.length c0_4] 66 (0, 0)) (by (with_reducible repeat (first | refine blk_drewN ?_ _ | refine blk_drew ?_ | refine blk_alloc ?_ _)); exact BK825.out) hb); have n1_ := Aside0.mk (below_step (by repeat (first | (with_reducible first | exact HB.out | apply below_alloc | apply pw_below_drewN | apply below_drew1 | refine below_set ?_ GE825.out) | exact HB.out)) hb); clear BK825; clear HB; have BK825 := n0_; have HB := n1_; clear n0_ n1_; (try clear hb); (try clear hb2); (try clear hk); (try clear hi)))
                        go_ret
                        exact ⟨by first | rfl | (simp [errW_none, errW_some] <;> rfl) | (simp [*, errW_none, errW_some] <;> rfl), by repeat (first | (with_reducible first | exact HB.out | apply below_alloc | apply pw_below_drewN | apply below_drew1 | refine below_set ?_ GE825.out) | exact HB.out)⟩
                    · replace c32 := Bool.eq_false_iff.mpr c32
                      subst c32
                      have H1 : (some true) = some r := by rw [if_neg (show ¬ (false = true) by decide)] at H; exact H
                      clear H
                      have H := H1
                      clear H1
                      obtain rfl := Option.some.inj H
                      have hcz41_0 : wc.cell? ⟨gb825, 0, none⟩ = some (.int .i64 a0_0) := (blk_cell BK825.out 0).trans rfl
                      have hcz41_1 : wc.cell? ⟨gb825, 1, none⟩ = some (.int .i64 a0_1) := (blk_cell BK825.out 1).trans rfl
                      have hcz41_2 : wc.cell? ⟨gb825, 2, none⟩ = some (.string a0_2) := (blk_cell BK825.out 2).trans rfl
                      have hcz41_3 : wc.cell? ⟨gb825, 3, none⟩ = some (.string a0_3) := (blk_cell BK825.out 3).trans rfl
                      have hcz41_4 : wc.cell? ⟨gb825, 4, none⟩ = some (.slice A0_4 l0_4.length c0_4) := (blk_cell BK825.out 4).trans rfl
                      have hfz41_0 := blk_frozen BK825.out 0
                      have hfz41_1 := blk_frozen BK825.out 1
                      have hfz41_2 := blk_frozen BK825.out 2
                      have hfz41_3 := blk_frozen BK825.out 3
                      have hfz41_4 := blk_frozen BK825.out 4
                      go_wp2_with (first | (go_at_call 25; (with_reducible refine (extent_Disjoint.calls kj18 _ _ l0_4 false _ ?side1 ?side2 A31.out).mono ?_); (case side1 => repeat (first | exact (Kd.C_below HR0_4.out HB.out) | (with_reducible refine Kd.C_alloc ?_ _) | (with_reducible refine Kd.C_drewN ?_ _) | (with_reducible refine Kd.C_drew ?_))); (case side2 => exact HC0_4.out); rintro e w42 ⟨rfl, hb⟩; have n0_ := Aside0.mk (blk_below (g := gb825) (o := .cells #[.int .i64 a0_0, .int .i64 a0_1, .string a0_2, .string a0_3, .slice A0_4 l0_4.length c0_4] 66 (0, 0)) (by (with_reducible repeat (first | refine blk_drewN ?_ _ | refine blk_drew ?_ | refine blk_alloc ?_ _)); exact BK825.out) hb); have n1_ := Aside0.mk (below_step (by repeat (first | (with_reducible first | exact HB.out | apply below_alloc | apply pw_below_drewN | apply below_drew1 | refine below_set ?_ GE825.out) | exact HB.out)) hb); clear BK825; clear HB; have BK825 := n0_; have HB := n1_; clear n0_ n1_; (try clear hb); (try clear hb2); (try clear hk); (try clear hi)))
                      go_ret
                      exact ⟨by first | rfl | (simp [errW_none, errW_some] <;> rfl) | (simp [*, errW_none, errW_some] <;> rfl), by repeat (first | (with_reducible first | exact HB.out | apply below_alloc | apply pw_below_drewN | apply below_drew1 | refine below_set ?_ GE825.out) | exact HB.out)⟩
                · replace c29 := Bool.eq_false_iff.mpr c29
                  subst c29
                  have H1 : (some true) = some r := by rw [if_neg (show ¬ (false = true) by decide)] at H; exact H
                  clear H
                  have H := H1
                  clear H1
                  obtain rfl := Option.some.inj H
                  go_wp2
                  go_ret
                  exact ⟨by first | rfl | (simp [errW_none, errW_some] <;> rfl) | (simp [*, errW_none, errW_some] <;> rfl), by repeat (first | (with_reducible first | exact HB.out | apply below_alloc | apply pw_below_drewN | apply below_drew1 | refine below_set ?_ GE825.out) | exact HB.out)⟩
              · replace c28 := Bool.eq_false_iff.mpr c28
                subst c28
                have H1 : (some true) = some r := by rw [if_neg (show ¬ (false = true) by decide)] at H; exact H
                clear H
                have H := H1
                clear H1
                obtain rfl := Option.some.inj H
                go_wp2
                go_ret
                exact ⟨by first | rfl | (simp [errW_none, errW_some] <;> rfl) | (simp [*, errW_none, errW_some] <;> rfl), by repeat (first | (with_reducible first | exact HB.out | apply below_alloc | apply pw_below_drewN | apply below_drew1 | refine below_set ?_ GE825.out) | exact HB.out)⟩

end Go.Proofs.Ytghpmenoiimpoaa.P

