import Derived.Test.YtghpmenoiimpoaaDPx0
import Derived.Test.YtghpmenoiimpoaaDPx18
import Derived.Test.YtghpmenoiimpoaaDPx23
import Derived.Test.YtghpmenoiimpoaaDHContentsValid
namespace Go.Proofs.Ytghpmenoiimpoaa.P
open Go.RowKit Go.Proofs.YtghpmenoiimpoaaW.PrintWords Go.Proofs.YtghpmenoiimpoaaW.PrintLast Go.Proofs.YtghpmenoiimpoaaW.PrintMore
attribute [local go_sem] max2_int min2_int max_two min_two max_three min_three max_four min_four   -- for this text's walks alone
set_option linter.unusedVariables false
set_option linter.unusedSimpArgs false
/-! ### contents_New: function 59 -/
def contents_New.f (k : Nat) (a0 : ByteArray) (a1 : Int) : Option (ByteArray × Int × (List (S66)) × Int) := (label_TableTracks.f a1).bind fun t393 => (if t393 = 0 then (some ((⟨#[]⟩ : ByteArray), 0, ([] : List (S66)), 1)) else ((label_ValidName.f k a0).bind fun t394 => (if t394 = true then ((label_Slots.f a1).bind fun t395 => (if 0 ≤ t395 then (if (t395 : Int).toNat ≤ 3909374676536 then (some (a0, a1, (List.replicate (t395 : Int).toNat z66), 0)) else (none)) else (none))) else (some ((⟨#[]⟩ : ByteArray), 0, ([] : List (S66)), 1)))))
theorem contents_New.mono : ∀ a0 a1 k, LeO (contents_New.f k a0 a1) (contents_New.f (k + 1) a0 a1) := by
  intro a0 a1 k
  unfold contents_New.f
  repeat' first
      | (with_reducible exact label_ValidName.mono _ _)
      | (with_reducible exact LeO.refl _)
      | (with_reducible exact LeO.none _)
      | (with_reducible refine LeO.ite ?_ ?_)
      | (with_reducible refine LeO.bind ?_ (fun _ => ?_))
      | exact label_ValidName.mono _ _
      | exact LeO.none _
      | refine LeO.ite ?_ ?_
      | refine LeO.bind ?_ (fun _ => ?_)
set_option maxHeartbeats 8000000 in
set_option maxRecDepth 100000 in
theorem contents_New.calls (k : Nat) (a0 : ByteArray) (a1 : Int) (r1 : ByteArray) (r2 : Int) (r3 : List (S66)) (r4 : Int) (w : World) (h : contents_New.f k a0 a1 = some (r1, r2, r3, r4)) :
    Calls Try.prog 59 #[.string a0, .int .i64 a1] w fun e w' => ∃ v2_ : Value, e = .returned (.tuple #[.agg #[.string r1, .int .i64 r2, v2_], .int .i64 r4]) ∧ Kd.S k66 66 w' w.heap.size (fun _ => True) v2_ r3 ∧ Below w.heap.size w w' := by
  have hu41 := Try.underlying41
  have HB := Aside0.mk (Below.refl w.heap.size w)
  have H : ((label_TableTracks.f a1).bind fun t393 => (if t393 = 0 then (some ((⟨#[]⟩ : ByteArray), 0, ([] : List (S66)), 1)) else ((label_ValidName.f k a0).bind fun t394 => (if t394 = true then ((label_Slots.f a1).bind fun t395 => (if 0 ≤ t395 then (if (t395 : Int).toNat ≤ 3909374676536 then (some (a0, a1, (List.replicate (t395 : Int).toNat z66), 0)) else (none)) else (none))) else (some ((⟨#[]⟩ : ByteArray), 0, ([] : List (S66)), 1)))))) = some (r1, r2, r3, r4) := h
  clear h
  replace H := Option.bind_eq_some_iff.mp H
  obtain ⟨t393, A30, H⟩ := H
  replace H : (if t393 = 0 then (some ((⟨#[]⟩ : ByteArray), 0, ([] : List (S66)), 1)) else ((label_ValidName.f k a0).bind fun t394 => (if t394 = true then ((label_Slots.f a1).bind fun t395 => (if 0 ≤ t395 then (if (t395 : Int).toNat ≤ 3909374676536 then (some (a0, a1, (List.replicate (t395 : Int).toNat z66), 0)) else (none)) else (none))) else (some ((⟨#[]⟩ : ByteArray), 0, ([] : List (S66)), 1))))) = some (r1, r2, r3, r4) := H
  have A3 := Aside0.mk A30
  clear A30
  by_cases c4 : t393 = 0
  · rw [if_pos c4] at H
    have c4b0 : (t393 == 0) = true := beq_iff_eq.mpr c4
    have c4b1 : (t393 != 0) = false := bne_eq_false_iff_eq.mpr c4
    clear c4
    simp only [Option.some.injEq, Prod.mk.injEq] at H
    obtain ⟨rfl, rfl, rfl, rfl⟩ := H
    go_enter Try.func59, Try.ntmps59
    go_wp2_with (first | ((with_reducible refine gate_dst (N := 4) rfl ?_); refine box_event ?hg (N := 4) ?hd (cs := #[.string (⟨#[]⟩ : ByteArray), .int .i64 0, .slice none 0 0]) (t := 41) ?hr ?_; (case hd => rfl); (case hg => rfl); (case hr => first | (go_simp; done) | (go_simp; rfl)); intro gb392 hg w5 hbox hb; have n0_ := Aside0.mk (below_step (by repeat (first | (with_reducible first | exact HB.out | apply below_alloc | apply pw_below_drewN | apply below_drew1) | exact HB.out)) hb); have n1_ := Aside0.mk (hbox); have n2_ := Aside0.mk ((by rw [hg]; exact (below_size (by repeat (first | (with_reducible first | exact HB.out | apply below_alloc | apply pw_below_drewN | apply below_drew1) | exact HB.out))) : w.heap.size ≤ gb392)); have n3_ := Aside0.mk ((by rw [hg]; exact (below_size (by repeat (first | (with_reducible first | exact HB.out | apply below_alloc | apply pw_below_drewN | apply below_drew1) | exact HB.out))) : w.heap.size ≤ gb392)); clear HB; have HB := n0_; have BK392 := n1_; have GW392 := n2_; have GE392 := n3_; clear n0_ n1_ n2_ n3_; clear hb hbox hg) | ((with_reducible refine gate_callee (f := 74) rfl ?_); refine goesL_ (some 7) rfl rfl Try.func74 (by kernel_rfl) rfl #[.int .i64 a1] rfl (by (try simp only [List.map_toArray, List.map_cons, List.map_nil]); first | done | rfl | (simp only [List.length_drop, List.length_take]; rfl)) ?_; (with_reducible refine (label_TableTracks.calls a1 t393 _ A3.out).mono ?_); rintro e w' ⟨rfl, ⟨nd, rfl⟩⟩; refine ⟨_, rfl, ?_⟩; (try (rw [drewN_self w5]; generalize hq_ : World.drewN w5 _ = w5; have n0_ : Aside0 (w5.heap[gb392]? = some (.cells #[.string (⟨#[]⟩ : ByteArray), .int .i64 0, .slice none 0 0] 41 (0, 0))) := ⟨by rw [← hq_]; exact (by (with_reducible repeat (first | refine blk_drewN ?_ _ | refine blk_drew ?_ | refine blk_alloc ?_ _)); exact BK392.out)⟩; have n1_ : Aside0 (Below w.heap.size w w5) := ⟨by rw [← hq_]; exact (by repeat (first | (with_reducible first | exact HB.out | apply below_alloc | apply pw_below_drewN | apply below_drew1 | refine below_set ?_ GE392.out) | exact HB.out))⟩; clear BK392 HB hq_; have BK392 := n0_; have HB := n1_; clear n0_ n1_)); have hcz6_0 : w5.cell? ⟨gb392, 0, none⟩ = some (.string (⟨#[]⟩ : ByteArray)) := (blk_cell BK392.out 0).trans rfl; have hcz6_1 : w5.cell? ⟨gb392, 1, none⟩ = some (.int .i64 0) := (blk_cell BK392.out 1).trans rfl; have hcz6_2 : w5.cell? ⟨gb392, 2, none⟩ = some (.slice none 0 0) := (blk_cell BK392.out 2).trans rfl; have hfz6_0 := blk_frozen BK392.out 0; have hfz6_1 := blk_frozen BK392.out 1; have hfz6_2 := blk_frozen BK392.out 2))
    refine bodyPost_ret (results_ct rfl _ _ gb392 41 #[.string (⟨#[]⟩ : ByteArray), .int .i64 0, .slice none 0 0] (0, 0) _ rfl (by (with_reducible repeat (first | refine blk_drewN ?_ _ | refine blk_drew ?_ | refine blk_alloc ?_ _)); refine blk_put (cs := #[.string (⟨#[]⟩ : ByteArray), .int .i64 0, .slice none 0 0]) ?_ 2 _ rfl; (with_reducible repeat (first | refine blk_drewN ?_ _ | refine blk_drew ?_ | refine blk_alloc ?_ _)); refine blk_put (cs := #[.string (⟨#[]⟩ : ByteArray), .int .i64 0, .slice none 0 0]) ?_ 1 _ rfl; (with_reducible repeat (first | refine blk_drewN ?_ _ | refine blk_drew ?_ | refine blk_alloc ?_ _)); refine blk_put (cs := #[.string (⟨#[]⟩ : ByteArray), .int .i64 0, .slice none 0 0]) ?_ 0 _ rfl; (with_reducible repeat (first | refine blk_drewN ?_ _ | refine blk_drew ?_ | refine blk_alloc ?_ _)); exact BK392.out) Try.underlying41 rfl (by kernel_rfl)) rfl ?_
    exact ⟨_, by first | rfl | (simp [errW_none, errW_some] <;> rfl) | (simp [*, errW_none, errW_some] <;> rfl), by first | exact Kd.S_nil _ _ _ _ _ | exact Kd.N_nil _ _ _ _ _ | exact Kd.V_nil _ _ _ _ _ | exact Kd.Q_nil _ _ _ _ _ | exact Kd.R_nil _ _ _ _ _, by repeat (first | (with_reducible first | exact HB.out | apply below_alloc | apply pw_below_drewN | apply below_drew1 | refine below_set ?_ GE392.out) | exact HB.out)⟩
  · rw [if_neg c4] at H
    have c4b0 : (t393 == 0) = false := beq_eq_false_iff_ne.mpr c4
    have c4b1 : (t393 != 0) = true := bne_iff_ne.mpr c4
    replace H := Option.bind_eq_some_iff.mp H
    obtain ⟨t394, A70, H⟩ := H
    replace H : (if t394 = true then ((label_Slots.f a1).bind fun t395 => (if 0 ≤ t395 then (if (t395 : Int).toNat ≤ 3909374676536 then (some (a0, a1, (List.replicate (t395 : Int).toNat z66), 0)) else (none)) else (none))) else (some ((⟨#[]⟩ : ByteArray), 0, ([] : List (S66)), 1))) = some (r1, r2, r3, r4) := H
    have A7 := Aside0.mk A70
    clear A70
    by_cases c8 : t394 = true
    · subst c8
      have H1 : ((label_Slots.f a1).bind fun t395 => (if 0 ≤ t395 then (if (t395 : Int).toNat ≤ 3909374676536 then (some (a0, a1, (List.replicate (t395 : Int).toNat z66), 0)) else (none)) else (none))) = some (r1, r2, r3, r4) := by rw [if_pos rfl] at H; exact H
      clear H
      have H := H1
      clear H1
      replace H := Option.bind_eq_some_iff.mp H
      obtain ⟨t395, A90, H⟩ := H
      replace H : (if 0 ≤ t395 then (if (t395 : Int).toNat ≤ 3909374676536 then (some (a0, a1, (List.replicate (t395 : Int).toNat z66), 0)) else (none)) else (none)) = some (r1, r2, r3, r4) := H
      have A9 := Aside0.mk A90
      clear A90
      by_cases c10 : 0 ≤ t395
      · rw [if_pos c10] at H
        have c10b0 := eq_true c10
        have c10b1 : decide (0 ≤ t395) = true := decide_eq_true c10
        clear c10
        by_cases c11 : (t395 : Int).toNat ≤ 3909374676536
        · rw [if_pos c11] at H
          have c11b0 := eq_true c11
          have c11b1 : decide ((t395 : Int).toNat ≤ 3909374676536) = true := decide_eq_true c11
          clear c11
          obtain ⟨y396, hy396⟩ : ∃ y_ : List (S66), y_ = (List.replicate (t395 : Int).toNat z66) := ⟨_, rfl⟩
          replace H : (some (a0, a1, y396, 0)) = some (r1, r2, r3, r4) := by first | (rw [hy396]; with_reducible exact H) | (have H2_ := (Option.bind_some _ _).symm.trans H; rw [hy396]; with_reducible exact H2_) | (have H2_ := (Option.bind_some _ _).symm.trans H; with_reducible exact H2_) | with_reducible exact H | (rw [hy396]; exact H) | exact H
          have Ny396 := Aside0.mk hy396
          clear hy396
          simp only [Option.some.injEq, Prod.mk.injEq] at H
          obtain ⟨rfl, rfl, rfl, rfl⟩ := H
          go_enter Try.func59, Try.ntmps59
          go_wp2_with (first | ((with_reducible refine gate_dst (N := 4) rfl ?_); refine box_event ?hg (N := 4) ?hd (cs := #[.string (⟨#[]⟩ : ByteArray), .int .i64 0, .slice none 0 0]) (t := 41) ?hr ?_; (case hd => rfl); (case hg => rfl); (case hr => first | (go_simp; done) | (go_simp; rfl)); intro gb392 hg w12 hbox hb; have n0_ := Aside0.mk (below_step (by repeat (first | (with_reducible first | exact HB.out | apply below_alloc | apply pw_below_drewN | apply below_drew1) | exact HB.out)) hb); have n1_ := Aside0.mk (hbox); have n2_ := Aside0.mk ((by rw [hg]; exact (below_size (by repeat (first | (with_reducible first | exact HB.out | apply below_alloc | apply pw_below_drewN | apply below_drew1) | exact HB.out))) : w.heap.size ≤ gb392)); have n3_ := Aside0.mk ((by rw [hg]; exact (below_size (by repeat (first | (with_reducible first | exact HB.out | apply below_alloc | apply pw_below_drewN | apply below_drew1) | exact HB.out))) : w.heap.size ≤ gb392)); clear HB; have HB := n0_; have BK392 := n1_; have GW392 := n2_; have GE392 := n3_; clear n0_ n1_ n2_ n3_; clear hb hbox hg) | ((with_reducible refine gate_callee (f := 74) rfl ?_); refine goesL_ (some 7) rfl rfl Try.func74 (by kernel_rfl) rfl #[.int .i64 a1] rfl (by (try simp only [List.map_toArray, List.map_cons, List.map_nil]); first | done | rfl | (simp only [List.length_drop, List.length_take]; rfl)) ?_; (with_reducible refine (label_TableTracks.calls a1 t393 _ A3.out).mono ?_); rintro e w' ⟨rfl, ⟨nd, rfl⟩⟩; refine ⟨_, rfl, ?_⟩; (try (rw [drewN_self w12]; generalize hq_ : World.drewN w12 _ = w12; have n0_ : Aside0 (w12.heap[gb392]? = some (.cells #[.string (⟨#[]⟩ : ByteArray), .int .i64 0, .slice none 0 0] 41 (0, 0))) := ⟨by rw [← hq_]; exact (by (with_reducible repeat (first | refine blk_drewN ?_ _ | refine blk_drew ?_ | refine blk_alloc ?_ _)); exact BK392.out)⟩; have n1_ : Aside0 (Below w.heap.size w w12) := ⟨by rw [← hq_]; exact (by repeat (first | (with_reducible first | exact HB.out | apply below_alloc | apply pw_below_drewN | apply below_drew1 | refine below_set ?_ GE392.out) | exact HB.out))⟩; clear BK392 HB hq_; have BK392 := n0_; have HB := n1_; clear n0_ n1_))) | (go_at_call 75; (with_reducible refine (label_ValidName.calls k a0 true _ A7.out).mono ?_); rintro e w' ⟨rfl, ⟨nd, rfl⟩⟩; (try (rw [drewN_self w12]; generalize hq_ : World.drewN w12 _ = w12; have n0_ : Aside0 (w12.heap[gb392]? = some (.cells #[.string (⟨#[]⟩ : ByteArray), .int .i64 0, .slice none 0 0] 41 (0, 0))) := ⟨by rw [← hq_]; exact (by (with_reducible repeat (first | refine blk_drewN ?_ _ | refine blk_drew ?_ | refine blk_alloc ?_ _)); exact BK392.out)⟩; have n1_ : Aside0 (Below w.heap.size w w12) := ⟨by rw [← hq_]; exact (by repeat (first | (with_reducible first | exact HB.out | apply below_alloc | apply pw_below_drewN | apply below_drew1 | refine below_set ?_ GE392.out) | exact HB.out))⟩; clear BK392 HB hq_; have BK392 := n0_; have HB := n1_; clear n0_ n1_))) | ((with_reducible refine gate_callee (f := 76) rfl ?_); refine goesL_ (some 18) rfl rfl Try.func76 (by kernel_rfl) rfl #[.int .i64 a1] rfl (by (try simp only [List.map_toArray, List.map_cons, List.map_nil]); first | done | rfl | (simp only [List.length_drop, List.length_take]; rfl)) ?_; (with_reducible refine (label_Slots.calls a1 t395 _ A9.out).mono ?_); rintro e w13 ⟨rfl, hb⟩; refine ⟨_, rfl, ?_⟩; have n0_ := Aside0.mk (blk_below (g := gb392) (o := .cells #[.string (⟨#[]⟩ : ByteArray), .int .i64 0, .slice none 0 0] 41 (0, 0)) (by (with_reducible repeat (first | refine blk_drewN ?_ _ | refine blk_drew ?_ | refine blk_alloc ?_ _)); exact BK392.out) hb); have n1_ := Aside0.mk (below_step (by repeat (first | (with_reducible first | exact HB.out | apply below_alloc | apply pw_below_drewN | apply below_drew1 | refine below_set ?_ GE392.out) | exact HB.out)) hb); clear BK392; clear HB; have BK392 := n0_; have HB := n1_; clear n0_ n1_; (try clear hb); (try clear hb2); (try clear hk); (try clear hi)) | ((with_reducible refine gate_dst (N := 19) rfl ?_); refine Kd.S_make k66 _ 66 rfl (N := 19) rfl 39 _ _ rfl t395 rfl rfl Try.underlying39 (.agg #[(.int .i64 0), (.int .i64 0), (.string ⟨#[]⟩), (.string ⟨#[]⟩), (.slice none 0 0)]) 72 info66 rfl (by decide) (by omega) z66 (ok := fun _ => True) (okp := fun _ => True) (k66_mkM _ _ _ z66 (Kd.R_nil _ _ _ _ _)) (fun _ hk => hk) trivial (of_decide_eq_true (by first | (with_reducible assumption) | assumption)) (Nat.le_trans (Nat.mul_le_mul_right _ (of_decide_eq_true (by first | (with_reducible assumption) | assumption) : t395.toNat ≤ 3909374676536)) (by omega)) (Below.refl _ _) (Nat.le_refl _) ?_; intro v397 w14 ho15 hb hg_ hnew_; clear hg_ hnew_; (first | rw [← Ny396.out] at ho15 | (simp only [Int.reduceToNat] at ho15; rw [← Ny396.out] at ho15)); have n0_ := Aside0.mk (Kd.S_lower ho15 (below_size (by repeat (first | (with_reducible first | exact HB.out | apply below_alloc | apply pw_below_drewN | apply below_drew1 | refine below_set ?_ GE392.out) | exact HB.out)))); have n1_ := Aside0.mk (blk_below (g := gb392) (o := .cells #[.string (⟨#[]⟩ : ByteArray), .int .i64 0, .slice none 0 0] 41 (0, 0)) (by (with_reducible repeat (first | refine blk_drewN ?_ _ | refine blk_drew ?_ | refine blk_alloc ?_ _)); exact BK392.out) hb); have n2_ := Aside0.mk (below_step (by repeat (first | (with_reducible first | exact HB.out | apply below_alloc | apply pw_below_drewN | apply below_drew1 | refine below_set ?_ GE392.out) | exact HB.out)) hb); clear BK392; clear HB; have HO398 := n0_; have BK392 := n1_; have HB := n2_; clear n0_ n1_ n2_; clear hb ho15; obtain ⟨Ao16, co16, eo16⟩ := Kd.S_slice HO398.out; subst eo16; have hcz17_0 : w14.cell? ⟨gb392, 0, none⟩ = some (.string (⟨#[]⟩ : ByteArray)) := (blk_cell BK392.out 0).trans rfl; have hcz17_1 : w14.cell? ⟨gb392, 1, none⟩ = some (.int .i64 0) := (blk_cell BK392.out 1).trans rfl; have hcz17_2 : w14.cell? ⟨gb392, 2, none⟩ = some (.slice none 0 0) := (blk_cell BK392.out 2).trans rfl; have hfz17_0 := blk_frozen BK392.out 0; have hfz17_1 := blk_frozen BK392.out 1; have hfz17_2 := blk_frozen BK392.out 2))
          refine bodyPost_ret (results_ct rfl _ _ gb392 41 #[.string a0, .int .i64 a1, .slice Ao16 y396.length co16] (0, 0) _ rfl (by (with_reducible repeat (first | refine blk_drewN ?_ _ | refine blk_drew ?_ | refine blk_alloc ?_ _)); refine blk_put (cs := #[.string a0, .int .i64 a1, .slice none 0 0]) ?_ 2 _ rfl; (with_reducible repeat (first | refine blk_drewN ?_ _ | refine blk_drew ?_ | refine blk_alloc ?_ _)); refine blk_put (cs := #[.string a0, .int .i64 0, .slice none 0 0]) ?_ 1 _ rfl; (with_reducible repeat (first | refine blk_drewN ?_ _ | refine blk_drew ?_ | refine blk_alloc ?_ _)); refine blk_put (cs := #[.string (⟨#[]⟩ : ByteArray), .int .i64 0, .slice none 0 0]) ?_ 0 _ rfl; (with_reducible repeat (first | refine blk_drewN ?_ _ | refine blk_drew ?_ | refine blk_alloc ?_ _)); exact BK392.out) Try.underlying41 rfl (by kernel_rfl)) rfl ?_
          exact ⟨_, by first | rfl | (simp [errW_none, errW_some] <;> rfl) | (simp [*, errW_none, errW_some] <;> rfl), by (with_reducible repeat (first | apply Kd.S_alloc | apply Kd.S_drewN | apply Kd.S_drew)); exact Kd.S_mono (Kd.S_far (p := ⟨gb392, 2, none⟩) (Kd.S_far (p := ⟨gb392, 1, none⟩) (Kd.S_far (p := ⟨gb392, 0, none⟩) (Kd.S_types HO398.out BK392.out (by decide)) (fun _ hk => hk.2) (.string a0)) (fun _ hk => hk.2) (.int .i64 a1)) (fun _ hk => hk.2) (.slice Ao16 y396.length co16)) (fun _ hk => trivial), by repeat (first | (with_reducible first | exact HB.out | apply below_alloc | apply pw_below_drewN | apply below_drew1 | refine below_set ?_ GE392.out) | exact HB.out)⟩
        · rw [if_neg c11] at H
          exact absurd H (by simp)
      · rw [if_neg c10] at H
        exact absurd H (by simp)
    · replace c8 := Bool.eq_false_iff.mpr c8
      subst c8
      have H1 : (some ((⟨#[]⟩ : ByteArray), 0, ([] : List (S66)), 1)) = some (r1, r2, r3, r4) := by rw [if_neg (show ¬ (false = true) by decide)] at H; exact H
      clear H
      have H := H1
      clear H1
      simp only [Option.some.injEq, Prod.mk.injEq] at H
      obtain ⟨rfl, rfl, rfl, rfl⟩ := H
      go_enter Try.func59, Try.ntmps59
      go_wp2_with (first | ((with_reducible refine gate_dst (N := 4) rfl ?_); refine box_event ?hg (N := 4) ?hd (cs := #[.string (⟨#[]⟩ : ByteArray), .int .i64 0, .slice none 0 0]) (t := 41) ?hr ?_; (case hd => rfl); (case hg => rfl); (case hr => first | (go_simp; done) | (go_simp; rfl)); intro gb392 hg w18 hbox hb; have n0_ := Aside0.mk (below_step (by repeat (first | (with_reducible first | exact HB.out | apply below_alloc | apply pw_below_drewN | apply below_drew1) | exact HB.out)) hb); have n1_ := Aside0.mk (hbox); have n2_ := Aside0.mk ((by rw [hg]; exact (below_size (by repeat (first | (with_reducible first | exact HB.out | apply below_alloc | apply pw_below_drewN | apply below_drew1) | exact HB.out))) : w.heap.size ≤ gb392)); have n3_ := Aside0.mk ((by rw [hg]; exact (below_size (by repeat (first | (with_reducible first | exact HB.out | apply below_alloc | apply pw_below_drewN | apply below_drew1) | exact HB.out))) : w.heap.size ≤ gb392)); clear HB; have HB := n0_; have BK392 := n1_; have GW392 := n2_; have GE392 := n3_; clear n0_ n1_ n2_ n3_; clear hb hbox hg) | ((with_reducible refine gate_callee (f := 74) rfl ?_); refine goesL_ (some 7) rfl rfl Try.func74 (by kernel_rfl) rfl #[.int .i64 a1] rfl (by (try simp only [List.map_toArray, List.map_cons, List.map_nil]); first | done | rfl | (simp only [List.length_drop, List.length_take]; rfl)) ?_; (with_reducible refine (label_TableTracks.calls a1 t393 _ A3.out).mono ?_); rintro e w' ⟨rfl, ⟨nd, rfl⟩⟩; refine ⟨_, rfl, ?_⟩; (try (rw [drewN_self w18]; generalize hq_ : World.drewN w18 _ = w18; have n0_ : Aside0 (w18.heap[gb392]? = some (.cells #[.string (⟨#[]⟩ : ByteArray), .int .i64 0, .slice none 0 0] 41 (0, 0))) := ⟨by rw [← hq_]; exact (by (with_reducible repeat (first | refine blk_drewN ?_ _ | refine blk_drew ?_ | refine blk_alloc ?_ _)); exact BK392.out)⟩; have n1_ : Aside0 (Below w.heap.size w w18) := ⟨by rw [← hq_]; exact (by repeat (first | (with_reducible first | exact HB.out | apply below_alloc | apply pw_below_drewN | apply below_drew1 | refine below_set ?_ GE392.out) | exact HB.out))⟩; clear BK392 HB hq_; have BK392 := n0_; have HB := n1_; clear n0_ n1_))) | (go_at_call 75; (with_reducible refine (label_ValidName.calls k a0 false _ A7.out).mono ?_); rintro e w' ⟨rfl, ⟨nd, rfl⟩⟩; (try (rw [drewN_self w18]; generalize hq_ : World.drewN w18 _ = w18; have n0_ : Aside0 (w18.heap[gb392]? = some (.cells #[.string (⟨#[]⟩ : ByteArray), .int .i64 0, .slice none 0 0] 41 (0, 0))) := ⟨by rw [← hq_]; exact (by (with_reducible repeat (first | refine blk_drewN ?_ _ | refine blk_drew ?_ | refine blk_alloc ?_ _)); exact BK392.out)⟩; have n1_ : Aside0 (Below w.heap.size w w18) := ⟨by rw [← hq_]; exact (by repeat (first | (with_reducible first | exact HB.out | apply below_alloc | apply pw_below_drewN | apply below_drew1 | refine below_set ?_ GE392.out) | exact HB.out))⟩; clear BK392 HB hq_; have BK392 := n0_; have HB := n1_; clear n0_ n1_)); have hcz19_0 : w18.cell? ⟨gb392, 0, none⟩ = some (.string (⟨#[]⟩ : ByteArray)) := (blk_cell BK392.out 0).trans rfl; have hcz19_1 : w18.cell? ⟨gb392, 1, none⟩ = some (.int .i64 0) := (blk_cell BK392.out 1).trans rfl; have hcz19_2 : w18.cell? ⟨gb392, 2, none⟩ = some (.slice none 0 0) := (blk_cell BK392.out 2).trans rfl; have hfz19_0 := blk_frozen BK392.out 0; have hfz19_1 := blk_frozen BK392.out 1; have hfz19_2 := blk_frozen BK392.out 2))
      refine bodyPost_ret (results_ct rfl _ _ gb392 41 #[.string (⟨#[]⟩ : ByteArray), .int .i64 0, .slice none 0 0] (0, 0) _ rfl (by (with_reducible repeat (first | refine blk_drewN ?_ _ | refine blk_drew ?_ | refine blk_alloc ?_ _)); refine blk_put (cs := #[.string (⟨#[]⟩ : ByteArray), .int .i64 0, .slice none 0 0]) ?_ 2 _ rfl; (with_reducible repeat (first | refine blk_drewN ?_ _ | refine blk_drew ?_ | refine blk_alloc ?_ _)); refine blk_put (cs := #[.string (⟨#[]⟩ : ByteArray), .int .i64 0, .slice none 0 0]) ?_ 1 _ rfl; (with_reducible repeat (first | refine blk_drewN ?_ _ | refine blk_drew ?_ | refine blk_alloc ?_ _)); refine blk_put (cs := #[.string (⟨#[]⟩ : ByteArray), .int .i64 0, .slice none 0 0]) ?_ 0 _ rfl; (with_reducible repeat (first | refine blk_drewN ?_ _ | refine blk_drew ?_ | refine blk_alloc ?_ _)); exact BK392.out) Try.underlying41 rfl (by kernel_rfl)) rfl ?_
      exact ⟨_, by first | rfl | (simp [errW_none, errW_some] <;> rfl) | (simp [*, errW_none, errW_some] <;> rfl), by first | exact Kd.S_nil _ _ _ _ _ | exact Kd.N_nil _ _ _ _ _ | exact Kd.V_nil _ _ _ _ _ | exact Kd.Q_nil _ _ _ _ _ | exact Kd.R_nil _ _ _ _ _, by repeat (first | (with_reducible first | exact HB.out | apply below_alloc | apply pw_below_drewN | apply below_drew1 | refine below_set ?_ GE392.out) | exact HB.out)⟩

/-! ### contents_Free: function 61 -/
def contents_Free.l0 : Nat → List (S25) → List (S66) → Int → Int → ByteArray → Int → List (S66) → Option ((List (S25)))
  | 0, _, _, _, _, _, _, _ => none
  | k + 1, x3, x10, x11, x12, x406000, x406001, x406002 => if x12 < x11 then (if 0 ≤ x12 then (if x12 < (x10.length : Int) then (if x3.length + ((rd_T66 x10 x12).f4).length < 8796093022208 then (contents_Free.l0 k (x3 ++ ((rd_T66 x10 x12).f4)) x10 x11 (wrap64 (x12 + 1)) x406000 x406001 x406002) else (none)) else (none)) else (none)) else ((label_TableTracks.f x406001).bind fun t412 => ((space_Free.f t412 x406001 x3).bind fun t413 => (some t413)))
def contents_Free.f (k : Nat) (a0_0 : ByteArray) (a0_1 : Int) (l0_2 : List (S66)) : Option ((List (S25))) := (contents_Valid.f a0_0 a0_1 l0_2).bind fun t406 => (if t406 = true then (contents_Free.l0 k ([] : List (S25)) l0_2 (l0_2.length : Int) 0 a0_0 a0_1 l0_2) else (some ([] : List (S25))))
theorem contents_Free.mono_l : ∀ k, (∀ y0 y1 y2 y3 y4 y5 y6, LeO (contents_Free.l0 k y0 y1 y2 y3 y4 y5 y6) (contents_Free.l0 (k + 1) y0 y1 y2 y3 y4 y5 y6))
  | 0 => fun _ _ _ _ _ _ _ r h => by simp [contents_Free.l0] at h
  | k + 1 => by
    have ih0 := contents_Free.mono_l k
    · intro y0 y1 y2 y3 y4 y5 y6
      unfold contents_Free.l0
      repeat' first
      | (with_reducible exact ih0 _ _ _ _ _ _ _)
      | (with_reducible exact LeO.refl _)
      | (with_reducible exact LeO.none _)
      | (with_reducible refine LeO.ite ?_ ?_)
      | (with_reducible refine LeO.bind ?_ (fun _ => ?_))
      | exact ih0 _ _ _ _ _ _ _
      | exact LeO.none _
      | refine LeO.ite ?_ ?_
      | refine LeO.bind ?_ (fun _ => ?_)
theorem contents_Free.mono : ∀ a0 a1 a2 k, LeO (contents_Free.f k a0 a1 a2) (contents_Free.f (k + 1) a0 a1 a2) := by
  intro a0 a1 a2 k
  have ih0 := contents_Free.mono_l k
  unfold contents_Free.f
  repeat' first
      | (with_reducible exact ih0 _ _ _ _ _ _ _)
      | (with_reducible exact LeO.refl _)
      | (with_reducible exact LeO.none _)
      | (with_reducible refine LeO.ite ?_ ?_)
      | (with_reducible refine LeO.bind ?_ (fun _ => ?_))
      | exact ih0 _ _ _ _ _ _ _
      | exact LeO.none _
      | refine LeO.ite ?_ ?_
      | refine LeO.bind ?_ (fun _ => ?_)
def contents_Free.T9 : Bool × List (List Nat × List Nat) := (true, [([], []), ([0], [0]), ([1], [1]), ([], []), ([3], [3]), ([], []), ([2, 4, 5, 2], [2, 4, 5]), ([6, 6, 0, 1, 2, 3, 4, 5, 6], [6])])
def contents_Free.B9 : List Nat := [0, 1, 3, 0, 8, 0, 63, 127]
theorem contents_Free.tab9 : rtab .any (opsOf Try.f61 9) = contents_Free.T9 := by kernel_rfl
theorem contents_Free.bits9 : waitsOk contents_Free.T9.2 contents_Free.B9 = true := by kernel_rfl
set_option maxHeartbeats 8000000 in
set_option maxRecDepth 100000 in
theorem contents_Free.calls (k : Nat) (a0_0 : ByteArray) (a0_1 : Int) (A0_2 : Option Addr) (c0_2 : Nat) (l0_2 : List (S66)) (r : List (S25)) (w : World) (hr0_2 : Kd.C k66 w A0_2 l0_2.length l0_2) (hc0_2 : l0_2.length ≤ c0_2) (h : contents_Free.f k a0_0 a0_1 l0_2 = some r) :
    Calls Try.prog 61 #[.agg #[.string a0_0, .int .i64 a0_1, .slice A0_2 l0_2.length c0_2]] w fun e w' => ∃ v0_ : Value, e = .returned (v0_) ∧ Kd.R k25 25 w' w.heap.size (fun _ => True) v0_ r ∧ Below w.heap.size w w' := by
  have hu41 := Try.underlying41
  have hu66 := Try.underlying66
  have HR0_2 := Aside0.mk hr0_2
  have HC0_2 := Aside0.mk hc0_2
  clear hr0_2 hc0_2
  have HB := Aside0.mk (Below.refl w.heap.size w)
  have H : ((contents_Valid.f a0_0 a0_1 l0_2).bind fun t406 => (if t406 = true then (contents_Free.l0 k ([] : List (S25)) l0_2 (l0_2.length : Int) 0 a0_0 a0_1 l0_2) else (some ([] : List (S25))))) = some r := h
  clear h
  replace H := Option.bind_eq_some_iff.mp H
  obtain ⟨t406, A20, H⟩ := H
  replace H : (if t406 = true then (contents_Free.l0 k ([] : List (S25)) l0_2 (l0_2.length : Int) 0 a0_0 a0_1 l0_2) else (some ([] : List (S25)))) = some r := H
  have A2 := Aside0.mk A20
  clear A20
  by_cases c3 : t406 = true
  · subst c3
    have H1 : (contents_Free.l0 k ([] : List (S25)) l0_2 (l0_2.length : Int) 0 a0_0 a0_1 l0_2) = some r := by rw [if_pos rfl] at H; exact H
    clear H
    have H := H1
    clear H1
    have H' := Aside0.mk H
    clear H
    go_enter Try.func61, Try.ntmps61
    go_wp2_with (first | ((with_reducible refine gate_dst (N := 1) rfl ?_); refine box_event ?hg (N := 1) ?hd (cs := #[.string a0_0, .int .i64 a0_1, .slice A0_2 l0_2.length c0_2]) (t := 41) ?hr ?_; (case hd => rfl); (case hg => rfl); (case hr => first | (go_simp; done) | (go_simp; rfl)); intro gb405 hg w4 hbox hb; have n0_ := Aside0.mk (below_step (by repeat (first | (with_reducible first | exact HB.out | apply below_alloc | apply pw_below_drewN | apply below_drew1) | exact HB.out)) hb); have n1_ := Aside0.mk (hbox); have n2_ := Aside0.mk ((by rw [hg]; exact (below_size (by repeat (first | (with_reducible first | exact HB.out | apply below_alloc | apply pw_below_drewN | apply below_drew1) | exact HB.out))) : w.heap.size ≤ gb405)); have n3_ := Aside0.mk ((by rw [hg]; exact (below_size (by repeat (first | (with_reducible first | exact HB.out | apply below_alloc | apply pw_below_drewN | apply below_drew1) | exact HB.out))) : w.heap.size ≤ gb405)); clear HB; have HB := n0_; have BK405 := n1_; have GW405 := n2_; have GE405 := n3_; clear n0_ n1_ n2_ n3_; clear hb hbox hg; have hcz5_0 : w4.cell? ⟨gb405, 0, none⟩ = some (.string a0_0) := (blk_cell BK405.out 0).trans rfl; have hcz5_1 : w4.cell? ⟨gb405, 1, none⟩ = some (.int .i64 a0_1) := (blk_cell BK405.out 1).trans rfl; have hcz5_2 : w4.cell? ⟨gb405, 2, none⟩ = some (.slice A0_2 l0_2.length c0_2) := (blk_cell BK405.out 2).trans rfl; have hfz5_0 := blk_frozen BK405.out 0; have hfz5_1 := blk_frozen BK405.out 1; have hfz5_2 := blk_frozen BK405.out 2) | ((with_reducible refine gate_callee (f := 29) rfl ?_); refine goesL_ (some 7) rfl rfl Try.func29 (by kernel_rfl) rfl #[.agg #[.string a0_0, .int .i64 a0_1, .slice A0_2 l0_2.length c0_2]] rfl (by (try simp only [List.map_toArray, List.map_cons, List.map_nil]); first | done | rfl | (simp only [List.length_drop, List.length_take]; rfl)) ?_; (with_reducible refine (contents_Valid.calls a0_0 a0_1 _ _ l0_2 true _ ?side1 ?side2 A2.out).mono ?_); (case side1 => repeat (first | exact (Kd.C_below HR0_2.out HB.out) | (with_reducible refine Kd.C_alloc ?_ _) | (with_reducible refine Kd.C_drewN ?_ _) | (with_reducible refine Kd.C_drew ?_))); (case side2 => exact HC0_2.out); rintro e w6 ⟨rfl, hb⟩; refine ⟨_, rfl, ?_⟩; have n0_ := Aside0.mk (blk_below (g := gb405) (o := .cells #[.string a0_0, .int .i64 a0_1, .slice A0_2 l0_2.length c0_2] 41 (0, 0)) (by (with_reducible repeat (first | refine blk_drewN ?_ _ | refine blk_drew ?_ | refine blk_alloc ?_ _)); exact BK405.out) hb); have n1_ := Aside0.mk (below_step (by repeat (first | (with_reducible first | exact HB.out | apply below_alloc | apply pw_below_drewN | apply below_drew1 | refine below_set ?_ GE405.out) | exact HB.out)) hb); clear BK405; clear HB; have BK405 := n0_; have HB := n1_; clear n0_ n1_; (try clear hb); (try clear hb2); (try clear hk); (try clear hi); have hcz7_0 : w6.cell? ⟨gb405, 0, none⟩ = some (.string a0_0) := (blk_cell BK405.out 0).trans rfl; have hcz7_1 : w6.cell? ⟨gb405, 1, none⟩ = some (.int .i64 a0_1) := (blk_cell BK405.out 1).trans rfl; have hcz7_2 : w6.cell? ⟨gb405, 2, none⟩ = some (.slice A0_2 l0_2.length c0_2) := (blk_cell BK405.out 2).trans rfl; have hfz7_0 := blk_frozen BK405.out 0; have hfz7_1 := blk_frozen BK405.out 1; have hfz7_2 := blk_frozen BK405.out 2))
    go_loopg [3, 12] k (fun kq v3 v12 w' => ∃ (x3_1 : List (S25)) (x12_1 : Int), v12 = .int .i64 x12_1 ∧ Aside0 (contents_Free.l0 kq x3_1 l0_2 (l0_2.length : Int) x12_1 a0_0 a0_1 l0_2 = some r) ∧ Aside0 (kq ≤ k) ∧ Aside0 (Kd.R k25 25 w' w.heap.size (fun _ => True) v3 x3_1) ∧ Aside0 (w'.heap[gb405]? = some (.cells #[.string a0_0, .int .i64 a0_1, (.slice A0_2 l0_2.length c0_2)] 41 (0, 0))) ∧ Aside0 (Below w.heap.size w w'))
    case atStart => exact ⟨(([] : List (S25))), (0), (by first | rfl | (simp; done) | (simp [*]; done)), H', ⟨Nat.le_refl _⟩, ⟨by first | exact Kd.R_nil _ _ _ _ _ | exact Kd.N_nil _ _ _ _ _ | exact Kd.V_nil _ _ _ _ _ | exact Kd.Q_nil _ _ _ _ _ | exact Kd.S_nil _ _ _ _ _⟩, ⟨by (with_reducible repeat (first | refine blk_drewN ?_ _ | refine blk_drew ?_ | refine blk_alloc ?_ _)); exact BK405.out⟩, ⟨by repeat (first | (with_reducible first | exact HB.out | apply below_alloc | apply pw_below_drewN | apply below_drew1 | refine below_set ?_ GE405.out) | exact HB.out)⟩⟩
    case round =>
      clear H'
      try clear c2
      try clear p2
      try clear c3
      try clear c6
      try clear hcz5_0
      try clear hcz5_1
      try clear hcz5_2
      try clear hcz7_0
      try clear hcz7_1
      try clear hcz7_2
      try clear hfz5_0
      try clear hfz5_1
      try clear hfz5_2
      try clear hfz7_0
      try clear hfz7_1
      try clear hfz7_2
      obtain ⟨x3_1, x12_1, rfl, HA, HK1, HO_3, BK405, HB⟩ := hrel
      cases gk with
      | zero => exact absurd HA.out (by simp [contents_Free.l0])
      | succ k1 =>
        have H := HA.out
        clear HA
        simp only [contents_Free.l0] at H
        by_cases c8 : x12_1 < (l0_2.length : Int)
        · rw [if_pos c8] at H
          have c8b0 : decide (x12_1 < (l0_2.length : Int)) = true := decide_eq_true c8
          clear c8
          by_cases c9 : 0 ≤ x12_1
          · rw [if_pos c9] at H
            have c9b0 : decide (0 ≤ x12_1) = true := decide_eq_true c9
            clear c9
            by_cases c10 : x12_1 < (l0_2.length : Int)
            · rw [if_pos c10] at H
              have c10b0 : decide (x12_1 < (l0_2.length : Int)) = true := decide_eq_true c10
              clear c10
              by_cases c11 : x3_1.length + ((rd_T66 l0_2 x12_1).f4).length < 8796093022208
              · rw [if_pos c11] at H
                have LMc11 := Aside0.mk c11
                clear c11
                obtain ⟨y409, hy409⟩ : ∃ y_ : List (S25), y_ = (x3_1 ++ ((rd_T66 l0_2 x12_1).f4)) := ⟨_, rfl⟩
                replace H : (contents_Free.l0 k1 y409 l0_2 (l0_2.length : Int) (wrap64 (x12_1 + 1)) a0_0 a0_1 l0_2) = some r := by first | (rw [hy409]; with_reducible exact H) | (have H2_ := (Option.bind_some _ _).symm.trans H; rw [hy409]; with_reducible exact H2_) | (have H2_ := (Option.bind_some _ _).symm.trans H; with_reducible exact H2_) | with_reducible exact H | (rw [hy409]; exact H) | exact H
                have Ny409 := Aside0.mk hy409
                clear hy409
                have H' := Aside0.mk H
                clear H
                have p407 : 0 ≤ (x12_1 : Int) := of_decide_eq_true (by first | (with_reducible assumption) | assumption)
                have q407 : x12_1 < (l0_2.length : Int) := of_decide_eq_true (by first | (with_reducible assumption) | assumption)
                obtain ⟨ad407, A407_4, c407_4, e407, hx407_0, hx407_1, hx407_2, hx407_3, hx407_4, hl407_4, hi407_4⟩ := at_T66 HR0_2.out x12_1 p407 q407
                cases e407
                replace hx407_0 := (HB.out.cell (World.block_lt_of_cell? w _ hx407_0)).trans hx407_0
                replace hx407_1 := (HB.out.cell (World.block_lt_of_cell? w _ hx407_1)).trans hx407_1
                replace hx407_2 := (HB.out.cell (World.block_lt_of_cell? w _ hx407_2)).trans hx407_2
                replace hx407_3 := (HB.out.cell (World.block_lt_of_cell? w _ hx407_3)).trans hx407_3
                replace hx407_4 := (HB.out.cell (World.block_lt_of_cell? w _ hx407_4)).trans hx407_4
                have HR407_4 := Aside0.mk hi407_4
                have HC407_4 := Aside0.mk hl407_4
                clear hi407_4 hl407_4
                replace p407 := eq_true p407
                replace q407 := eq_true q407
                go_wp2_with (first | ((with_reducible refine gate_dst (N := 5) rfl ?_); refine box_event ?hg (N := 5) ?hd (cs := #[.int .i64 0, .int .i64 0, .string (⟨#[]⟩ : ByteArray), .string (⟨#[]⟩ : ByteArray), .slice none 0 0]) (t := 66) ?hr ?_; (case hd => rfl); (case hg => rfl); (case hr => first | (go_simp; done) | (go_simp; rfl)); intro gb408 hg w12 hbox hb; have n0_ := Aside0.mk (Kd.R_below (by (with_reducible repeat (first | apply Kd.R_alloc | apply Kd.R_drewN | apply Kd.R_drew)); exact HO_3.out) hb); have n1_ := Aside0.mk (blk_below (g := gb405) (o := .cells #[.string a0_0, .int .i64 a0_1, .slice (some ad407) l0_2.length c0_2] 41 (0, 0)) (by (with_reducible repeat (first | refine blk_drewN ?_ _ | refine blk_drew ?_ | refine blk_alloc ?_ _)); exact BK405.out) hb); have n2_ := Aside0.mk (below_step (by repeat (first | (with_reducible first | exact HB.out | apply below_alloc | apply pw_below_drewN | apply below_drew1 | refine below_set ?_ GE405.out) | exact HB.out)) hb); have n3_ := Aside0.mk (hbox); have n4_ := Aside0.mk ((by rw [hg]; exact (below_size (by repeat (first | (with_reducible first | exact HB.out | apply below_alloc | apply pw_below_drewN | apply below_drew1 | refine below_set ?_ GE405.out) | exact HB.out))) : w.heap.size ≤ gb408)); have n5_ := Aside0.mk ((by rw [hg]; exact (below_size (by repeat (first | (with_reducible first | exact HB.out | apply below_alloc | apply pw_below_drewN | apply below_drew1 | refine below_set ?_ GE405.out) | exact HB.out))) : w.heap.size ≤ gb408)); have n6_ := Aside0.mk ((by rw [hg]; exact Nat.ne_of_lt (blk_lt (g := gb405) (o := .cells #[.string a0_0, .int .i64 a0_1, .slice (some ad407) l0_2.length c0_2] 41 (0, 0)) (by (with_reducible repeat (first | refine blk_drewN ?_ _ | refine blk_drew ?_ | refine blk_alloc ?_ _)); exact BK405.out)) : gb405 ≠ gb408)); have n7_ := Aside0.mk ((by rw [hg]; exact Nat.ne_of_gt (blk_lt (g := gb405) (o := .cells #[.string a0_0, .int .i64 a0_1, .slice (some ad407) l0_2.length c0_2] 41 (0, 0)) (by (with_reducible repeat (first | refine blk_drewN ?_ _ | refine blk_drew ?_ | refine blk_alloc ?_ _)); exact BK405.out)) : gb408 ≠ gb405)); clear HO_3; clear BK405; clear HB; have HO_3 := n0_; have BK405 := n1_; have HB := n2_; have BK408 := n3_; have GW408 := n4_; have GE408 := n5_; have NB405_408 := n6_; have NB408_405 := n7_; clear n0_ n1_ n2_ n3_ n4_ n5_ n6_ n7_; clear hb hbox hg; have hnb13 := NB408_405.out; have hnc13 := NB405_408.out; have hcz14_0 : w12.cell? ⟨gb408, 0, none⟩ = some (.int .i64 0) := (blk_cell BK408.out 0).trans rfl; have hcz14_1 : w12.cell? ⟨gb408, 1, none⟩ = some (.int .i64 0) := (blk_cell BK408.out 1).trans rfl; have hcz14_2 : w12.cell? ⟨gb408, 2, none⟩ = some (.string (⟨#[]⟩ : ByteArray)) := (blk_cell BK408.out 2).trans rfl; have hcz14_3 : w12.cell? ⟨gb408, 3, none⟩ = some (.string (⟨#[]⟩ : ByteArray)) := (blk_cell BK408.out 3).trans rfl; have hcz14_4 : w12.cell? ⟨gb408, 4, none⟩ = some (.slice none 0 0) := (blk_cell BK408.out 4).trans rfl; have hfz14_0 := blk_frozen BK408.out 0; have hfz14_1 := blk_frozen BK408.out 1; have hfz14_2 := blk_frozen BK408.out 2; have hfz14_3 := blk_frozen BK408.out 3; have hfz14_4 := blk_frozen BK408.out 4) | ((with_reducible refine gate_builtin (b := .append) (xs := #[.tmp 16, .tmp 18]) rfl ?_); at_builtin; refine Kd.R_append_rows k25 (w0 := w) w.heap.size rfl (.tmp 16) (.tmp 18) 22 25 (.agg #[(.int .i64 0), (.int .i64 0)]) 16 rfl Try.underlying22 info25 rfl (by decide) (by omega) u3 x3_1 ((rd_T66 l0_2 x12_1).f4) _ _ _ (fun _ => True) (fun _ => False) rfl rfl ?aO ?aR (fun _ _ h => h) (fun _ h => h.elim) ?aF ?aB ?aS ?aL ?_; (case aR => exact Kd.C_below HR407_4.out (by repeat (first | (with_reducible first | exact HB.out | apply below_alloc | apply pw_below_drewN | apply below_drew1 | refine below_set ?_ GE405.out | refine below_set ?_ GE408.out) | exact HB.out))); (case aB => exact (by repeat (first | (with_reducible first | exact HB.out | apply below_alloc | apply pw_below_drewN | apply below_drew1 | refine below_set ?_ GE405.out | refine below_set ?_ GE408.out) | exact HB.out))); (case aF => exact (fun _ _ => trivial)); (case aO => exact (by (with_reducible repeat (first | apply Kd.R_alloc | apply Kd.R_drewN | apply Kd.R_drew)); exact Kd.R_mono (Kd.R_far (p := ⟨gb408, 4, none⟩) (Kd.R_far (p := ⟨gb408, 3, none⟩) (Kd.R_far (p := ⟨gb408, 2, none⟩) (Kd.R_far (p := ⟨gb408, 1, none⟩) (Kd.R_far (p := ⟨gb408, 0, none⟩) (Kd.R_types HO_3.out BK408.out (by decide)) (fun _ hk => hk.2) (.int .i64 ((rd_T66 l0_2 x12_1).f0))) (fun _ hk => hk.2) (.int .i64 ((rd_T66 l0_2 x12_1).f1))) (fun _ hk => hk.2) (.string ((rd_T66 l0_2 x12_1).f2))) (fun _ hk => hk.2) (.string ((rd_T66 l0_2 x12_1).f3))) (fun _ hk => hk.2) (.slice A407_4 ((rd_T66 l0_2 x12_1).f4).length c407_4)) (fun _ hk => trivial))); (case aS => exact (below_size (by repeat (first | (with_reducible first | exact HB.out | apply below_alloc | apply pw_below_drewN | apply below_drew1 | refine below_set ?_ GE405.out | refine below_set ?_ GE408.out) | exact HB.out)))); (case aL => have := LMc11.out; omega); intro v410 w15 ho hb hg hat; rw [← Ny409.out] at ho; have n0_ := Aside0.mk (blk_grown (g := gb405) (o := .cells #[.string a0_0, .int .i64 a0_1, .slice (some ad407) l0_2.length c0_2] 41 (0, 0)) (by (with_reducible repeat (first | refine blk_drewN ?_ _ | refine blk_drew ?_ | refine blk_alloc ?_ _)); refine blk_far ?_ NB405_408.out _; (with_reducible repeat (first | refine blk_drewN ?_ _ | refine blk_drew ?_ | refine blk_alloc ?_ _)); refine blk_far ?_ NB405_408.out _; (with_reducible repeat (first | refine blk_drewN ?_ _ | refine blk_drew ?_ | refine blk_alloc ?_ _)); refine blk_far ?_ NB405_408.out _; (with_reducible repeat (first | refine blk_drewN ?_ _ | refine blk_drew ?_ | refine blk_alloc ?_ _)); refine blk_far ?_ NB405_408.out _; (with_reducible repeat (first | refine blk_drewN ?_ _ | refine blk_drew ?_ | refine blk_alloc ?_ _)); refine blk_far ?_ NB405_408.out _; (with_reducible repeat (first | refine blk_drewN ?_ _ | refine blk_drew ?_ | refine blk_alloc ?_ _)); exact BK405.out) hg (Kd.R_ne HO_3.out BK405.out (by decide))); have n1_ := Aside0.mk (blk_grown (g := gb408) (o := .cells #[.int .i64 ((rd_T66 l0_2 x12_1).f0), .int .i64 ((rd_T66 l0_2 x12_1).f1), .string ((rd_T66 l0_2 x12_1).f2), .string ((rd_T66 l0_2 x12_1).f3), .slice A407_4 ((rd_T66 l0_2 x12_1).f4).length c407_4] 66 (0, 0)) (by (with_reducible repeat (first | refine blk_drewN ?_ _ | refine blk_drew ?_ | refine blk_alloc ?_ _)); refine blk_put (cs := #[.int .i64 ((rd_T66 l0_2 x12_1).f0), .int .i64 ((rd_T66 l0_2 x12_1).f1), .string ((rd_T66 l0_2 x12_1).f2), .string ((rd_T66 l0_2 x12_1).f3), .slice none 0 0]) ?_ 4 _ rfl; (with_reducible repeat (first | refine blk_drewN ?_ _ | refine blk_drew ?_ | refine blk_alloc ?_ _)); refine blk_put (cs := #[.int .i64 ((rd_T66 l0_2 x12_1).f0), .int .i64 ((rd_T66 l0_2 x12_1).f1), .string ((rd_T66 l0_2 x12_1).f2), .string (⟨#[]⟩ : ByteArray), .slice none 0 0]) ?_ 3 _ rfl; (with_reducible repeat (first | refine blk_drewN ?_ _ | refine blk_drew ?_ | refine blk_alloc ?_ _)); refine blk_put (cs := #[.int .i64 ((rd_T66 l0_2 x12_1).f0), .int .i64 ((rd_T66 l0_2 x12_1).f1), .string (⟨#[]⟩ : ByteArray), .string (⟨#[]⟩ : ByteArray), .slice none 0 0]) ?_ 2 _ rfl; (with_reducible repeat (first | refine blk_drewN ?_ _ | refine blk_drew ?_ | refine blk_alloc ?_ _)); refine blk_put (cs := #[.int .i64 ((rd_T66 l0_2 x12_1).f0), .int .i64 0, .string (⟨#[]⟩ : ByteArray), .string (⟨#[]⟩ : ByteArray), .slice none 0 0]) ?_ 1 _ rfl; (with_reducible repeat (first | refine blk_drewN ?_ _ | refine blk_drew ?_ | refine blk_alloc ?_ _)); refine blk_put (cs := #[.int .i64 0, .int .i64 0, .string (⟨#[]⟩ : ByteArray), .string (⟨#[]⟩ : ByteArray), .slice none 0 0]) ?_ 0 _ rfl; (with_reducible repeat (first | refine blk_drewN ?_ _ | refine blk_drew ?_ | refine blk_alloc ?_ _)); exact BK408.out) hg (Kd.R_ne HO_3.out BK408.out (by decide))); have n2_ := Aside0.mk (hb); have n3_ := Aside0.mk (ho); clear BK405; clear BK408; clear HB; clear HO_3; have BK405 := n0_; have BK408 := n1_; have HB := n2_; have HO411 := n3_; clear n0_ n1_ n2_ n3_; clear ho hb hg hat))
                go_roundg k1
                case measure => have := HK1.out; omega
                case rel => exact ⟨(y409), (wrap64 (x12_1 + 1)), (by first | rfl | (simp; done) | (simp [*]; done)), H', ⟨by have := HK1.out; omega⟩, ⟨by (with_reducible repeat (first | apply Kd.R_alloc | apply Kd.R_drewN | apply Kd.R_drew)); exact HO411.out⟩, ⟨by (with_reducible repeat (first | refine blk_drewN ?_ _ | refine blk_drew ?_ | refine blk_alloc ?_ _)); exact BK405.out⟩, ⟨by repeat (first | (with_reducible first | exact HB.out | apply below_alloc | apply pw_below_drewN | apply below_drew1 | refine below_set ?_ GE405.out | refine below_set ?_ GE408.out) | exact HB.out)⟩⟩
              · rw [if_neg c11] at H
                exact absurd H (by simp)
            · rw [if_neg c10] at H
              exact absurd H (by simp)
          · rw [if_neg c9] at H
            exact absurd H (by simp)
        · rw [if_neg c8] at H
          have c8b0 : decide (x12_1 < (l0_2.length : Int)) = false := decide_eq_false c8
          clear c8
          replace H := Option.bind_eq_some_iff.mp H
          obtain ⟨t412, A160, H⟩ := H
          replace H : ((space_Free.f t412 a0_1 x3_1).bind fun t413 => (some t413)) = some r := H
          have A16 := Aside0.mk A160
          clear A160
          replace H := Option.bind_eq_some_iff.mp H
          obtain ⟨t413, A170, H⟩ := H
          replace H : (some t413) = some r := H
          have A17 := Aside0.mk A170
          clear A170
          obtain rfl := Option.some.inj H
          try go_wp2
          have n0_ := Aside0.mk (Kd.R_drew HO_3.out)
          have n1_ := Aside0.mk (blk_drew BK405.out)
          have n2_ := Aside0.mk (below_drew1 HB.out)
          clear HO_3
          clear BK405
          clear HB
          have HO_3 := n0_
          have BK405 := n1_
          have HB := n2_
          clear n0_ n1_ n2_
          refine start_ (n := 8) (S := fun w' => w'.cell? ⟨gb405, 0, none⟩ = some (.string a0_0) ∧ w'.cell? ⟨gb405, 1, none⟩ = some (.int .i64 a0_1) ∧ w'.cell? ⟨gb405, 2, none⟩ = some (.slice A0_2 l0_2.length c0_2)) (ds := []) #[false, false, false, false, false, false, false, false] (by kernel_rfl) rfl rfl ⟨(blk_cell BK405.out 0).trans rfl, (blk_cell BK405.out 1).trans rfl, (blk_cell BK405.out 2).trans rfl⟩ (fun hHeld => ?_); refine with_tabW contents_Free.tab9 contents_Free.bits9 (fun HT_ HW_ => ?_)
          generalize wr.drew = w18 at HO_3 BK405 HB hHeld ⊢
          refine pure_ (i := 0) (N := some 21) (v := ?_) (a' := ?_) #[true, false, false, false, false, false, false, false] rfl rfl (any_of HT_.out (by kernel_rfl)) (fun _ _ _ h => h) (Or.inl ⟨by rfl, ?_⟩) ?_ ?_
          rotate_left
          · intro w'
            go_simp
            with_reducible rfl
          rotate_left
          · simp only [Act.put, List.setIfInBounds_toArray, List.set_cons_zero, List.set_cons_succ, i64_w, i32_w]
            rfl
          refine pure_ (i := 3) (N := some 24) (v := ?_) (a' := ?_) #[true, false, false, true, false, false, false, false] rfl rfl (any_of HT_.out (by kernel_rfl)) (fun _ _ _ h => h) (Or.inl ⟨by rfl, ?_⟩) ?_ ?_
          rotate_left
          · intro w'
            go_simp
            with_reducible rfl
          rotate_left
          · simp only [Act.put, List.setIfInBounds_toArray, List.set_cons_zero, List.set_cons_succ, i64_w, i32_w]
            rfl
          refine pure_ (i := 5) (N := some 26) (v := ?_) (a' := ?_) #[true, false, false, true, false, true, false, false] rfl rfl (any_of HT_.out (by kernel_rfl)) (fun _ _ _ h => h) (Or.inl ⟨by rfl, ?_⟩) ?_ ?_
          rotate_left
          · intro w'
            go_simp
            with_reducible rfl
          rotate_left
          · simp only [Act.put, List.setIfInBounds_toArray, List.set_cons_zero, List.set_cons_succ, i64_w, i32_w]
            rfl
          refine take_ (i := 1) (N := some 22) (v := ?_) (a' := ?_) #[true, true, false, true, false, true, false, false] rfl rfl (take_ofW HT_.out HW_.out (by kernel_rfl)) (fun _ _ _ h => h) (Or.inl ⟨by rfl, ?_⟩) hHeld ?_ ?_
          rotate_left
          · rintro w' ⟨s0, s1, s2⟩
            go_simp
            with_reducible rfl
          rotate_left
          · simp only [Act.put, List.setIfInBounds_toArray, List.set_cons_zero, List.set_cons_succ, i64_w, i32_w]
            rfl
          refine take_ (i := 4) (N := some 25) (v := ?_) (a' := ?_) #[true, true, false, true, true, true, false, false] rfl rfl (take_ofW HT_.out HW_.out (by kernel_rfl)) (fun _ _ _ h => h) (Or.inl ⟨by rfl, ?_⟩) hHeld ?_ ?_
          rotate_left
          · rintro w' ⟨s0, s1, s2⟩
            go_simp
            with_reducible rfl
          rotate_left
          · simp only [Act.put, List.setIfInBounds_toArray, List.set_cons_zero, List.set_cons_succ, i64_w, i32_w]
            rfl
          refine one_ (i := 2) (N := some 23) #[true, true, true, true, true, true, false, false] rfl rfl (one_of HT_.out (by kernel_rfl)) (by decide) (fun K hK => ?_)
          refine goes_ Try.func74 (by kernel_rfl) rfl #[.int .i64 a0_1] (by rfl) rfl rfl (by (try simp only [List.map_toArray, List.map_cons, List.map_nil]); first | done | rfl | (simp only [List.length_drop, List.length_take]; rfl)) ?_
          with_reducible refine (label_TableTracks.calls a0_1 t412 _ A16.out).mono ?_
          rintro e w' ⟨rfl, ⟨nd, rfl⟩⟩
          refine ⟨_, rfl, ?_⟩
          obtain ⟨Ao19, co19, eo19⟩ := Kd.R_slice HO_3.out
          (first | subst eo19 | (injection eo19 with f1_ f2_ f3_; have f4_ := f1_.symm; have f5_ := f3_.symm; clear f1_ f2_ f3_; subst f4_; subst f5_))
          refine hK.out _ _ ⟨(blk_cell BK405.out 0).trans rfl, (blk_cell BK405.out 1).trans rfl, (blk_cell BK405.out 2).trans rfl⟩ (fun hHeld => ?_)
          clear hK K
          refine norm_ (a' := ?_) ?_ ?_
          rotate_left
          · show Act.put _ (some 23) _ = _
            simp only [Act.put, List.setIfInBounds_toArray, List.set_cons_zero, List.set_cons_succ, i64_w, i32_w]
            rfl
          refine one_ (i := 6) (N := some 27) #[true, true, true, true, true, true, true, false] rfl rfl (one_of HT_.out (by kernel_rfl)) (by decide) (fun K hK => ?_)
          refine goes_ Try.func34 (by kernel_rfl) rfl #[.int .i64 t412, .int .i64 a0_1, .slice Ao19 x3_1.length co19] (by rfl) rfl rfl (by (try simp only [List.map_toArray, List.map_cons, List.map_nil]); first | done | rfl | (simp only [List.length_drop, List.length_take]; rfl)) ?_
          with_reducible refine (space_Free.calls t412 a0_1 _ _ x3_1 t413 _ ?side1 ?side2 A17.out).mono ?_
          (case side1 => repeat (first | exact (Kd.R_reads' HO_3.out).2.2 | (with_reducible refine Kd.C_alloc ?_ _) | (with_reducible refine Kd.C_drewN ?_ _) | (with_reducible refine Kd.C_drew ?_)))
          (case side2 => exact (Kd.R_reads' HO_3.out).2.1)
          rintro e w20 ⟨v414, rfl, ho0, hb⟩
          refine ⟨_, rfl, ?_⟩
          have n0_ := Aside0.mk (Kd.R_elder' (by (with_reducible repeat (first | apply Kd.R_alloc | apply Kd.R_drewN | apply Kd.R_drew)); exact HO_3.out) (Kd.R_base ho0) hb)
          have n1_ := Aside0.mk (Kd.R_lower (Kd.R_new' ho0 (Kd.R_lt (by (with_reducible repeat (first | apply Kd.R_alloc | apply Kd.R_drewN | apply Kd.R_drew)); exact HO_3.out))) (below_size (by repeat (first | (with_reducible first | exact HB.out | apply below_alloc | apply pw_below_drewN | apply below_drew1 | refine below_set ?_ GE405.out) | exact HB.out))))
          have n2_ := Aside0.mk (blk_below (g := gb405) (o := .cells #[.string a0_0, .int .i64 a0_1, .slice A0_2 l0_2.length c0_2] 41 (0, 0)) (by (with_reducible repeat (first | refine blk_drewN ?_ _ | refine blk_drew ?_ | refine blk_alloc ?_ _)); exact BK405.out) hb)
          have n3_ := Aside0.mk (below_step (by repeat (first | (with_reducible first | exact HB.out | apply below_alloc | apply pw_below_drewN | apply below_drew1 | refine below_set ?_ GE405.out) | exact HB.out)) hb)
          clear HO_3
          clear BK405
          clear HB
          have HO_3 := n0_
          have HO415 := n1_
          have BK405 := n2_
          have HB := n3_
          clear n0_ n1_ n2_ n3_
          (try clear hb)
          (try clear hb2)
          (try clear hk)
          (try clear hi)
          (try clear ho0)
          refine hK.out _ _ ⟨(blk_cell BK405.out 0).trans rfl, (blk_cell BK405.out 1).trans rfl, (blk_cell BK405.out 2).trans rfl⟩ (fun hHeld => ?_)
          clear hK K
          refine norm_ (a' := ?_) ?_ ?_
          rotate_left
          · show Act.put _ (some 27) _ = _
            simp only [Act.put, List.setIfInBounds_toArray, List.set_cons_zero, List.set_cons_succ, i64_w, i32_w]
            rfl
          refine pure_ (i := 7) (N := some 2) (v := ?_) (a' := ?_) #[true, true, true, true, true, true, true, true] rfl rfl (any_of HT_.out (by kernel_rfl)) (fun _ _ _ h => h) (Or.inl ⟨by rfl, ?_⟩) ?_ ?_
          rotate_left
          · intro w'
            go_simp
            with_reducible rfl
          rotate_left
          · simp only [Act.put, List.setIfInBounds_toArray, List.set_cons_zero, List.set_cons_succ, i64_w, i32_w]
            rfl
          refine done_ (done_of HT_.out (by kernel_rfl)) ?_
          try go_wp2
          go_ret
          exact ⟨_, by first | rfl | (simp [errW_none, errW_some] <;> rfl) | (simp [*, errW_none, errW_some] <;> rfl), by (with_reducible repeat (first | apply Kd.R_alloc | apply Kd.R_drewN | apply Kd.R_drew)); exact Kd.R_mono HO415.out (fun _ hk => trivial), by repeat (first | (with_reducible first | exact HB.out | apply below_alloc | apply pw_below_drewN | apply below_drew1 | refine below_set ?_ GE405.out) | exact HB.out)⟩
  · replace c3 := Bool.eq_false_iff.mpr c3
    subst c3
    have H1 : (some ([] : List (S25))) = some r := by rw [if_neg (show ¬ (false = true) by decide)] at H; exact H
    clear H
    have H := H1
    clear H1
    obtain rfl := Option.some.inj H
    go_enter Try.func61, Try.ntmps61
    go_wp2_with (first | ((with_reducible refine gate_dst (N := 1) rfl ?_); refine box_event ?hg (N := 1) ?hd (cs := #[.string a0_0, .int .i64 a0_1, .slice A0_2 l0_2.length c0_2]) (t := 41) ?hr ?_; (case hd => rfl); (case hg => rfl); (case hr => first | (go_simp; done) | (go_simp; rfl)); intro gb405 hg w21 hbox hb; have n0_ := Aside0.mk (below_step (by repeat (first | (with_reducible first | exact HB.out | apply below_alloc | apply pw_below_drewN | apply below_drew1) | exact HB.out)) hb); have n1_ := Aside0.mk (hbox); have n2_ := Aside0.mk ((by rw [hg]; exact (below_size (by repeat (first | (with_reducible first | exact HB.out | apply below_alloc | apply pw_below_drewN | apply below_drew1) | exact HB.out))) : w.heap.size ≤ gb405)); have n3_ := Aside0.mk ((by rw [hg]; exact (below_size (by repeat (first | (with_reducible first | exact HB.out | apply below_alloc | apply pw_below_drewN | apply below_drew1) | exact HB.out))) : w.heap.size ≤ gb405)); clear HB; have HB := n0_; have BK405 := n1_; have GW405 := n2_; have GE405 := n3_; clear n0_ n1_ n2_ n3_; clear hb hbox hg; have hcz22_0 : w21.cell? ⟨gb405, 0, none⟩ = some (.string a0_0) := (blk_cell BK405.out 0).trans rfl; have hcz22_1 : w21.cell? ⟨gb405, 1, none⟩ = some (.int .i64 a0_1) := (blk_cell BK405.out 1).trans rfl; have hcz22_2 : w21.cell? ⟨gb405, 2, none⟩ = some (.slice A0_2 l0_2.length c0_2) := (blk_cell BK405.out 2).trans rfl; have hfz22_0 := blk_frozen BK405.out 0; have hfz22_1 := blk_frozen BK405.out 1; have hfz22_2 := blk_frozen BK405.out 2) | ((with_reducible refine gate_callee (f := 29) rfl ?_); refine goesL_ (some 7) rfl rfl Try.func29 (by kernel_rfl) rfl #[.agg #[.string a0_0, .int .i64 a0_1, .slice A0_2 l0_2.length c0_2]] rfl (by (try simp only [List.map_toArray, List.map_cons, List.map_nil]); first | done | rfl | (simp only [List.length_drop, List.length_take]; rfl)) ?_; (with_reducible refine (contents_Valid.calls a0_0 a0_1 _ _ l0_2 false _ ?side1 ?side2 A2.out).mono ?_); (case side1 => repeat (first | exact (Kd.C_below HR0_2.out HB.out) | (with_reducible refine Kd.C_alloc ?_ _) | (with_reducible refine Kd.C_drewN ?_ _) | (with_reducible refine Kd.C_drew ?_))); (case side2 => exact HC0_2.out); rintro e w23 ⟨rfl, hb⟩; refine ⟨_, rfl, ?_⟩; have n0_ := Aside0.mk (blk_below (g := gb405) (o := .cells #[.string a0_0, .int .i64 a0_1, .slice A0_2 l0_2.length c0_2] 41 (0, 0)) (by (with_reducible repeat (first | refine blk_drewN ?_ _ | refine blk_drew ?_ | refine blk_alloc ?_ _)); exact BK405.out) hb); have n1_ := Aside0.mk (below_step (by repeat (first | (with_reducible first | exact HB.out | apply below_alloc | apply pw_below_drewN | apply below_drew1 | refine below_set ?_ GE405.out) | exact HB.out)) hb); clear BK405; clear HB; have BK405 := n0_; have HB := n1_; clear n0_ n1_; (try clear hb); (try clear hb2); (try clear hk); (try clear hi)))
    go_ret
    exact ⟨_, by first | rfl | (simp [errW_none, errW_some] <;> rfl) | (simp [*, errW_none, errW_some] <;> rfl), by first | exact Kd.R_nil _ _ _ _ _ | exact Kd.N_nil _ _ _ _ _ | exact Kd.V_nil _ _ _ _ _ | exact Kd.Q_nil _ _ _ _ _ | exact Kd.S_nil _ _ _ _ _, by repeat (first | (with_reducible first | exact HB.out | apply below_alloc | apply pw_below_drewN | apply below_drew1 | refine below_set ?_ GE405.out) | exact HB.out)⟩

end Go.Proofs.Ytghpmenoiimpoaa.P

