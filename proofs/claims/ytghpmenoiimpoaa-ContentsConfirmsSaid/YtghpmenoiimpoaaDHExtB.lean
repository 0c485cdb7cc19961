import Derived.Test.YtghpmenoiimpoaaDHExtA
namespace Go.Proofs.Ytghpmenoiimpoaa.P
open Go.RowKit Go.Proofs.YtghpmenoiimpoaaW.PrintWords Go.Proofs.YtghpmenoiimpoaaW.PrintLast Go.Proofs.YtghpmenoiimpoaaW.PrintMore
set_option linter.unusedVariables false
set_option maxHeartbeats 4000000 in
set_option maxRecDepth 100000 in
theorem extent_of.calls (A0 : Option Addr) (c0 : Nat) (l0 : List S25) (w : World) (hr0 : Kd.C k25 w A0 l0.length l0) :
    Calls Try.prog 87 #[.slice A0 l0.length c0] w fun e w' => e = .returned (.agg (arrP (hasT l0))) ∧ Below w.heap.size w w' := by
  have hu25 := Try.underlying25
  have HR0 := Aside0.mk hr0
  clear hr0
  have hlen : l0.length ≤ 9223372036854775807 := HR0.out.2.1
  have HB := Aside0.mk (Below.refl w.heap.size w)
  go_enter Try.func87, Try.ntmps87
  go_wp2_with (first
    | ((with_reducible refine gate_dst (N := 2) rfl ?_); refine box_event ?hg (N := 2) ?hd (cs := arrP fun _ => false) (t := 113) ?hr ?_; (case hd => rfl); (case hg => rfl); (case hr => exact alloc113 _ _ _ rfl); intro g2 hg w1 hbox hb; have n0 := Aside0.mk (below_step HB.out hb); have B2 := Aside0.mk hbox; have G2 := Aside0.mk (by rw [hg]; exact Nat.le_refl _ : w.heap.size ≤ g2); clear HB; have HB := n0; clear n0 hb hbox hg)
    | ((with_reducible refine gate_dst (N := 3) rfl ?_); refine box_event ?hg (N := 3) ?hd (cs := arrP fun _ => false) (t := 113) ?hr ?_; (case hd => rfl); (case hg => rfl); (case hr => exact alloc113 _ _ _ rfl); intro g3 hg w2 hbox hb; have n0 := Aside0.mk (below_step HB.out hb); have B3 := Aside0.mk hbox; have G3 := Aside0.mk (by rw [hg]; exact below_size HB.out : w.heap.size ≤ g3); have N3 := Aside0.mk (by rw [hg]; exact blk_lt B2.out : g2 < g3); have n1 := Aside0.mk (blk_below B2.out hb); clear B2; have B2 := n1; clear HB n1; have HB := n0; clear n0 hb hbox hg))
  go_loopg [9] l0.length (fun kq v9 w' => ∃ j : Nat, v9 = .int .i64 j ∧ Aside0 (kq + j = l0.length) ∧ Aside0 (w'.heap[g2]? = some (.cells (arrP fun _ => false) 113 (0, 0))) ∧ Aside0 (w'.heap[g3]? = some (.cells (arrP (hasT (l0.take j))) 113 (0, 0))) ∧ Aside0 (Below w.heap.size w w'))
  case atStart => exact ⟨0, rfl, ⟨rfl⟩, B2, ⟨by rw [show hasT (l0.take 0) = (fun _ => false) from rfl]; exact B3.out⟩, HB⟩
  case round =>
    clear B2 B3 HB
    obtain ⟨j, rfl, HK, B2, B3, HB⟩ := hrel
    by_cases hj : j < l0.length
    · obtain ⟨ad, e1, hx0, hx1⟩ := at_T25 HR0.out (j : Int) (by omega) (by omega)
      cases e1
      replace hx0 := (HB.out.cell (World.block_lt_of_cell? w _ hx0)).trans hx0
      replace hx1 := (HB.out.cell (World.block_lt_of_cell? w _ hx1)).trans hx1
      have hjj : (j : Int) < (l0.length : Int) := by omega
      have hrd : rd_T25 l0 (j : Int) = l0[j] := by simp [rd_T25, List.getD_eq_getElem?_getD, hj]
      rw [hrd] at hx0 hx1
      rw [Int.toNat_natCast] at hx0 hx1
      clear hrd
      have hcb := cl_bd l0[j].f0 l0[j].f1
      obtain ⟨m0, rfl⟩ : ∃ m, gk = m + 1 := ⟨gk - 1, by have := HK.out; omega⟩
      go_wp2_with (first
        | ((with_reducible refine gate_dst (N := 5) rfl ?_); refine box_event ?hg (N := 5) ?hd (cs := #[.int .i64 0, .int .i64 0]) (t := 25) ?hr ?_; (case hd => rfl); (case hg => rfl); (case hr => first | (go_simp; done) | (go_simp; rfl)); intro g5 hg w3 hbox hb; have n0 := Aside0.mk (below_step HB.out hb); have B5 := Aside0.mk hbox; have G5 := Aside0.mk (by rw [hg]; exact below_size HB.out : w.heap.size ≤ g5); have N5 := Aside0.mk (by rw [hg]; exact blk_lt B2.out : g2 < g5); have M5 := Aside0.mk (by rw [hg]; exact blk_lt B3.out : g3 < g5); have n1 := Aside0.mk (blk_below B2.out hb); have n2 := Aside0.mk (blk_below B3.out hb); clear B2 B3; have B2 := n1; have B3 := n2; clear HB n1 n2; have HB := n0; clear n0 hb hbox hg; have z0 : w3.cell? ⟨g5, 0, none⟩ = some (.int .i64 0) := (blk_cell B5.out 0).trans rfl; have z1 : w3.cell? ⟨g5, 1, none⟩ = some (.int .i64 0) := (blk_cell B5.out 1).trans rfl; have f0 := blk_frozen B5.out 0; have f1 := blk_frozen B5.out 1)
        | (go_at_call 71; (with_reducible refine (extent_clip.calls 2 l0[j].f0 l0[j].f1 _ _ _ (clip_cl 0 _ _)).mono ?_); rintro e w4 ⟨rfl, hb⟩; have n0 := Aside0.mk (blk_below (blk_put (cs := #[.int .i64 l0[j].f0, .int .i64 0]) (blk_put (cs := #[.int .i64 0, .int .i64 0]) B5.out 0 (.int .i64 l0[j].f0) rfl) 1 (.int .i64 l0[j].f1) rfl) hb); have n2 := Aside0.mk (blk_below (blk_far (blk_far B2.out (p := ⟨g5, 0, none⟩) (by have := N5.out; exact Nat.ne_of_lt this) _) (p := ⟨g5, 1, none⟩) (by have := N5.out; exact Nat.ne_of_lt this) _) hb); have n3 := Aside0.mk (blk_below (blk_far (blk_far B3.out (p := ⟨g5, 0, none⟩) (by have := M5.out; exact Nat.ne_of_lt this) _) (p := ⟨g5, 1, none⟩) (by have := M5.out; exact Nat.ne_of_lt this) _) hb); have n4 := Aside0.mk (below_step (below_set (below_set HB.out G5.out) G5.out) hb); clear B2 B3 B5 HB hb z0 z1 f0 f1; have B5 := n0; have B2 := n2; have B3 := n3; have HB := n4; clear n0 n2 n3 n4; have z0 : w4.cell? ⟨g5, 0, none⟩ = some (.int .i64 l0[j].f0) := (blk_cell B5.out 0).trans rfl; have z1 : w4.cell? ⟨g5, 1, none⟩ = some (.int .i64 l0[j].f1) := (blk_cell B5.out 1).trans rfl; have f0 := blk_frozen B5.out 0; have f1 := blk_frozen B5.out 1))
      have n0 := Aside0.mk (blk_put (cs := #[.int .i64 (cl l0[j].f0 l0[j].f1).1, .int .i64 l0[j].f1]) (blk_put (cs := #[.int .i64 l0[j].f0, .int .i64 l0[j].f1]) B5.out 0 (.int .i64 (cl l0[j].f0 l0[j].f1).1) rfl) 1 (.int .i64 (cl l0[j].f0 l0[j].f1).2) rfl)
      have n2 := Aside0.mk (blk_far (blk_far B2.out (p := ⟨g5, 0, none⟩) (by have := N5.out; exact Nat.ne_of_lt this) (.int .i64 (cl l0[j].f0 l0[j].f1).1)) (p := ⟨g5, 1, none⟩) (by have := N5.out; exact Nat.ne_of_lt this) (.int .i64 (cl l0[j].f0 l0[j].f1).2))
      have n3 := Aside0.mk (blk_far (blk_far B3.out (p := ⟨g5, 0, none⟩) (by have := M5.out; exact Nat.ne_of_lt this) (.int .i64 (cl l0[j].f0 l0[j].f1).1)) (p := ⟨g5, 1, none⟩) (by have := M5.out; exact Nat.ne_of_lt this) (.int .i64 (cl l0[j].f0 l0[j].f1).2))
      have n4 := Aside0.mk (below_set (j := 1) (v := .int .i64 (cl l0[j].f0 l0[j].f1).2) (below_set (j := 0) (v := .int .i64 (cl l0[j].f0 l0[j].f1).1) HB.out G5.out) G5.out)
      clear B2 B3 B5 HB z0 z1 f0 f1 hx0 hx1
      generalize (w4.setCell ⟨g5, 0, none⟩ (.int .i64 (cl l0[j].f0 l0[j].f1).1)).setCell ⟨g5, 1, none⟩ (.int .i64 (cl l0[j].f0 l0[j].f1).2) = w5 at n0 n2 n3 n4 ⊢
      have HC0 := fun a b => hasT_snoc l0 j a b hj
      generalize cl l0[j].f0 l0[j].f1 = ca at n0 hcb HC0 ⊢
      obtain ⟨a, b⟩ := ca
      dsimp only at n0 hcb ⊢
      obtain ⟨ha, hb, hab⟩ := hcb
      obtain ⟨a, rfl⟩ := Int.eq_ofNat_of_zero_le ha
      obtain ⟨b, rfl⟩ := Int.eq_ofNat_of_zero_le hb
      have HC := Aside0.mk (HC0 a b rfl)
      clear HC0
      go_loopg [17] b (fun kq v17 w' => ∃ i : Nat, v17 = .int .i64 i ∧ Aside0 (kq + i = b) ∧ Aside0 (w'.heap[g5]? = some (.cells #[.int .i64 a, .int .i64 b] 25 (0, 0))) ∧ Aside0 (w'.heap[g2]? = some (.cells (arrP fun _ => false) 113 (0, 0))) ∧ Aside0 (w'.heap[g3]? = some (.cells (arrP (segP (hasT (l0.take j)) a i)) 113 (0, 0))) ∧ Aside0 (Below w.heap.size w w'))
      case atStart => exact ⟨0, rfl, ⟨rfl⟩, n0, n2, ⟨by rw [n3.out, segP_zero _ a]⟩, n4⟩
      case round =>
        clear n0 n2 n3 n4
        obtain ⟨i, rfl, HK2, B5, B2, B3, HB⟩ := hrel
        by_cases hi : i < b
        · have z0 : wr.cell? ⟨g5, 0, none⟩ = some (.int .i64 a) := (blk_cell B5.out 0).trans rfl
          have z1 : wr.cell? ⟨g5, 1, none⟩ = some (.int .i64 b) := (blk_cell B5.out 1).trans rfl
          have z3 : wr.cell? ⟨g3, a + i, none⟩ = some (.bool (segP (hasT (l0.take j)) a i (a + i))) := (blk_cell B3.out _).trans (arrP_get _ _ (by omega))
          have f3 := blk_frozen B3.out (a + i)
          have hi2 : (i : Int) < b := by omega
          obtain ⟨m, rfl⟩ : ∃ m, gk = m + 1 := ⟨gk - 1, by have := HK2.out; omega⟩
          go_wp2
          go_roundg m
          case measure => omega
          case rel => exact ⟨i + 1, by go_num, ⟨by have := HK2.out; omega⟩, ⟨blk_far B5.out (by have := M5.out; exact Nat.ne_of_gt this) _⟩, ⟨blk_far B2.out (by have := N3.out; exact Nat.ne_of_lt this) _⟩, ⟨blk_put B3.out _ _ (segP_step _ _ _ (by omega))⟩, ⟨below_set HB.out G3.out⟩⟩
        · obtain rfl : i = b := by have := HK2.out; omega
          go_wp2
          go_roundg m0
          case measure => omega
          case rel => exact ⟨j + 1, by go_num, ⟨by have := HK.out; omega⟩, B2, ⟨by rw [HC.out]; exact B3.out⟩, HB⟩
    · obtain rfl : j = l0.length := by have := HK.out; omega
      rw [List.take_length] at B3
      have hs1 : (Try.prog.info? 113).map (·.size) = some (arrP (hasT l0)).size := by rw [arrP_size]; exact size113
      go_wp2_with (first
        | ((with_reducible refine gate_dst (N := 27) rfl ?_); refine wpList_load_row rfl 113 _ rfl g3 rfl 113 (arrP (hasT l0)) (0, 0) _ B3.out Try.underlying113 rfl hs1 ?_)
        | ((with_reducible refine gate_store (t := 113) (p := 2) rfl ?_); refine wpList_store_row rfl 113 _ _ rfl g2 (arrP (hasT l0)) rfl rfl 113 (arrP fun _ => false) B2.out hs1 (by rw [arrP_size, arrP_size]) (arrP_one _) ?_))
      refine bodyPost_ret (v := .agg (arrP (hasT l0))) (results_cell_row rfl _ _ g2 113 _ (0, 0) _ rfl (setRow_heap _ _ _ _ _ _ B2.out) Try.underlying113 rfl hs1) rfl ⟨rfl, ?_⟩
      exact HB.out.trans ⟨rfl, rfl, rfl, by simp [World.setRow], fun k hk => setRow_other _ g2 k _ (by have := G2.out; omega)⟩
set_option maxHeartbeats 4000000 in
set_option maxRecDepth 100000 in
theorem extent_runs.calls (g : Nat) (p : Nat → Bool) (w : World) (hg : w.heap[g]? = some (.cells (arrP p) 113 (0, 0))) :
    Calls Try.prog 88 #[.pointer (some ⟨g, 0, none⟩)] w fun e w' => ∃ v0_ : Value, e = .returned v0_ ∧ Kd.R k25 25 w' w.heap.size (fun _ => True) v0_ (runsOf p) ∧ Below w.heap.size w w' := by
  have hu25 := Try.underlying25
  have HG := Aside0.mk hg
  clear hg
  have HB := Aside0.mk (Below.refl w.heap.size w)
  go_enter Try.func88, Try.ntmps88
  go_wp2
  go_loopg [3, 7] 128 (fun kq v3 v7 w' => ∃ i : Nat, v7 = .int .i64 i ∧ Aside0 (kq + i = 128) ∧ Aside0 (Kd.R k25 25 w' w.heap.size (fun _ => True) v3 (runsN p i)) ∧ Aside0 (Below w.heap.size w w'))
  case atStart => exact ⟨0, rfl, ⟨rfl⟩, ⟨Kd.R_nil _ _ _ _ _⟩, HB⟩
  case round =>
    clear HB
    obtain ⟨i, rfl, HK, HO, HB⟩ := hrel
    by_cases hi : i < 128
    · have HG1 := Aside0.mk (blk_below HG.out HB.out)
      have c4 : wr.cell? ⟨g, i, none⟩ = some (.bool (p i)) := (blk_cell HG1.out i).trans (arrP_get p i hi)
      have hil : (i : Int) < 128 := by omega
      obtain ⟨m, rfl⟩ : ∃ m, gk = m + 1 := ⟨gk - 1, by have := HK.out; omega⟩
      by_cases hp : p i = true
      · rw [hp] at c4
        by_cases h0 : 0 < i
        · have hi0 : decide ((0 : Int) < (i : Int)) = true := by simpa using h0
          have c5 : wr.cell? ⟨g, i - 1, none⟩ = some (.bool (p (i - 1))) := (blk_cell HG1.out (i - 1)).trans (arrP_get p _ (by omega))
          by_cases hp1 : p (i - 1) = true
          · rw [hp1] at c5
            have hlen : (runsN p i).length ≤ i := runsN_length p i
            have hpos : 0 < (runsN p i).length := by
              obtain ⟨q, rfl⟩ : ∃ q, i = q + 1 := ⟨i - 1, by omega⟩
              exact List.length_pos_iff.2 (runsN_ne p q hp1)
            have hstep := Aside0.mk (show runsN p (i + 1) = incL (runsN p i) by rw [runsN, runStep, if_pos hp, if_pos ⟨h0, hp1⟩])
            have hbd := runsN_bd p i ((runsN p i).getD ((runsN p i).length - 1) z25) (by rw [List.getD_eq_getElem?_getD, List.getElem?_eq_getElem (by omega)]; exact List.getElem_mem _)
            have hbd1 := hbd.2.1
            have hbd2 : ((runsN p i).getD ((runsN p i).length - 1) z25).f1 ≤ i := by omega
            clear hbd
            obtain ⟨A, c, rfl⟩ := Kd.R_slice HO.out
            obtain ⟨go, rfl, hbase, -, d0, d1, df, hset⟩ := R_count HO.out ((runsN p i).length - 1) (by omega)
            have HS := Aside0.mk (hset (((runsN p i).getD ((runsN p i).length - 1) z25).f1 + 1))
            have HBs := Aside0.mk hbase
            clear hset hbase
            generalize hlast : (runsN p i).getD ((runsN p i).length - 1) z25 = last at *
            have HL := Aside0.mk hlast
            clear hlast
            generalize hnn : (runsN p i).length = n at *
            have HN := Aside0.mk hnn
            clear hnn
            go_wp2
            go_quiet (fail)
            go_wp2
            go_roundg m
            case measure => omega
            case rel =>
              refine ⟨i + 1, by go_num, ⟨by have := HK.out; omega⟩, ⟨?_⟩, ⟨?_⟩⟩
              · rw [hstep.out, incL, HN.out, HL.out]
                exact Kd.R_drewN HS.out.1 _
              · exact below_set (pw_below_drewN HB.out _) HBs.out
          · have hp1' := Bool.eq_false_iff.mpr hp1
            rw [hp1'] at c5
            have hlen := Aside0.mk (runsN_length p i)
            have hstep := Aside0.mk (show runsN p (i + 1) = runsN p i ++ [⟨i, 1⟩] by rw [runsN, runStep, if_pos hp, if_neg (by simp [hp1'])])
            clear hp1 hp1'
            go_wp2
            go_quiet (fail)
            go_wp2_with ((with_reducible refine gate_builtin (b := .append) (xs := #[.tmp 13, .tmp 16]) rfl ?_); at_builtin; refine Kd.R_append k25 (w0 := w) w.heap.size rfl (.tmp 13) (.tmp 16) 22 25 (.agg #[(.int .i64 0), (.int .i64 0)]) 16 rfl Try.underlying22 info25 rfl (by decide) (by omega) u3 (runsN p i) (⟨i, 1⟩ : S25) [.int .i64 i, .int .i64 1] (fun _ => True) (fun _ => False) rfl rfl (k25_mkM _ _ _ (⟨i, 1⟩ : S25)) (fun _ hk => hk.elim) (fun _ _ => trivial) ?aO ?aB ?aS ?aL ?_; (case aO => exact Kd.R_drewN HO.out _); (case aB => exact pw_below_drewN HB.out _); (case aS => exact HB.out.size); (case aL => have := hlen.out; omega); intro v1 w1 ho hb hg hat; have n0 := Aside0.mk hb; have n1 := Aside0.mk ho; clear HB HO; have HB := n0; have HO := n1; clear n0 n1 ho hb hg hat)
            go_roundg m
            case measure => omega
            case rel => exact ⟨i + 1, by go_num, ⟨by have := HK.out; omega⟩, ⟨by rw [hstep.out]; exact HO.out⟩, HB⟩
        · have hi0 : decide ((0 : Int) < (i : Int)) = false := by simpa using h0
          have hlen := Aside0.mk (runsN_length p i)
          have hstep := Aside0.mk (show runsN p (i + 1) = runsN p i ++ [⟨i, 1⟩] by rw [runsN, runStep, if_pos hp, if_neg (fun h => h0 h.1)])
          go_wp2
          go_quiet (fail)
          go_wp2_with ((with_reducible refine gate_builtin (b := .append) (xs := #[.tmp 13, .tmp 16]) rfl ?_); at_builtin; refine Kd.R_append k25 (w0 := w) w.heap.size rfl (.tmp 13) (.tmp 16) 22 25 (.agg #[(.int .i64 0), (.int .i64 0)]) 16 rfl Try.underlying22 info25 rfl (by decide) (by omega) u3 (runsN p i) (⟨i, 1⟩ : S25) [.int .i64 i, .int .i64 1] (fun _ => True) (fun _ => False) rfl rfl (k25_mkM _ _ _ (⟨i, 1⟩ : S25)) (fun _ hk => hk.elim) (fun _ _ => trivial) ?aO ?aB ?aS ?aL ?_; (case aO => exact Kd.R_drewN HO.out _); (case aB => exact pw_below_drewN HB.out _); (case aS => exact HB.out.size); (case aL => have := hlen.out; omega); intro v1 w1 ho hb hg hat; have n0 := Aside0.mk hb; have n1 := Aside0.mk ho; clear HB HO; have HB := n0; have HO := n1; clear n0 n1 ho hb hg hat)
          go_roundg m
          case measure => omega
          case rel => exact ⟨i + 1, by go_num, ⟨by have := HK.out; omega⟩, ⟨by rw [hstep.out]; exact HO.out⟩, HB⟩
      · have hp' := Bool.eq_false_iff.mpr hp
        rw [hp'] at c4
        have hstep := Aside0.mk (show runsN p (i + 1) = runsN p i by rw [runsN, runStep, if_neg hp])
        clear hp hp'
        go_wp2
        go_quiet (fail)
        go_wp2
        go_roundg m
        case measure => omega
        case rel => exact ⟨i + 1, by go_num, ⟨by have := HK.out; omega⟩, ⟨by rw [hstep.out]; exact Kd.R_drewN HO.out _⟩, ⟨pw_below_drewN HB.out _⟩⟩
    · obtain rfl : i = 128 := by have := HK.out; omega
      go_wp2
      go_ret
      exact ⟨_, rfl, HO.out, HB.out⟩
def extent_Normal.f (l0 : List S25) : Option (List S25) := some (runsOf (hasT l0))
set_option maxHeartbeats 4000000 in
set_option maxRecDepth 100000 in
theorem extent_Normal.calls (A0 : Option Addr) (c0 : Nat) (l0 : List S25) (r : List S25) (w : World) (hr0 : Kd.C k25 w A0 l0.length l0) (hc0 : l0.length ≤ c0) (h : extent_Normal.f l0 = some r) :
    Calls Try.prog 48 #[.slice A0 l0.length c0] w fun e w' => ∃ v0_ : Value, e = .returned v0_ ∧ Kd.R k25 25 w' w.heap.size (fun _ => True) v0_ r ∧ Below w.heap.size w w' := by
  obtain rfl := Option.some.inj h
  clear h
  have HR0 := Aside0.mk hr0
  clear hr0
  have hs1 : (Try.prog.info? 113).map (·.size) = some (arrP (hasT l0)).size := by rw [arrP_size]; exact size113
  go_enter Try.func48, Try.ntmps48
  go_wp2_with (first
    | (go_at_call 87; (with_reducible refine (extent_of.calls A0 c0 l0 _ HR0.out).mono ?_); rintro e w1 ⟨rfl, hb⟩; have HB := Aside0.mk hb; clear hb)
    | ((with_reducible refine gate_dst (N := 3) rfl ?_); refine box_event ?hg (N := 3) ?hd (cs := arrP fun _ => false) (t := 113) ?hr ?_; (case hd => rfl); (case hg => rfl); (case hr => exact alloc113 _ _ _ rfl); intro g3 hg w2 hbox hb; have n0 := Aside0.mk (below_step HB.out hb); have B3 := Aside0.mk hbox; have G3 := Aside0.mk (by rw [hg]; exact below_size HB.out : w.heap.size ≤ g3); clear HB; have HB := n0; clear n0 hb hbox hg)
    | ((with_reducible refine gate_store (t := 113) (p := 3) rfl ?_); refine wpList_store_row rfl 113 _ _ rfl g3 (arrP (hasT l0)) rfl rfl 113 (arrP fun _ => false) B3.out hs1 (by rw [arrP_size, arrP_size]) (arrP_one _) ?_)
    | (go_at_call 88; (with_reducible refine (extent_runs.calls g3 (hasT l0) _ (setRow_heap _ _ _ _ _ _ B3.out)).mono ?_); rintro e w3 ⟨v, rfl, hr, hb⟩; have HR := Aside0.mk (Kd.R_lower hr (below_row HB.out G3.out _).size); have HB2 := Aside0.mk (below_step (below_row HB.out G3.out _) hb); clear hr hb))
  go_ret
  exact ⟨_, rfl, HR.out, HB2.out⟩
end Go.Proofs.Ytghpmenoiimpoaa.P
