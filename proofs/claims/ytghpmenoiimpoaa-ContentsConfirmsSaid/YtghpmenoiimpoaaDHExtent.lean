import Derived.Test.YtghpmenoiimpoaaDHExtB
import Derived.StillTailTactics
namespace Go.Proofs.Ytghpmenoiimpoaa.P
open Go.RowKit Go.Proofs.YtghpmenoiimpoaaW.PrintWords Go.Proofs.YtghpmenoiimpoaaW.PrintLast Go.Proofs.YtghpmenoiimpoaaW.PrintMore
set_option linter.unusedVariables false
theorem mix_bit (b : Bool) (w : World) : Calls Try.prog 111 #[.bool b] w fun e w' => e = .returned (.int .i64 (if b then 1 else 0)) ∧ w' = w := by
  cases b
  · go_enter Try.func111, Try.ntmps111
    go_wp2
    go_ret
    exact ⟨rfl, rfl⟩
  · go_enter Try.func111, Try.ntmps111
    go_wp2
    go_ret
    exact ⟨rfl, rfl⟩
def preP (q : Nat → Bool) (i t : Nat) : Bool := decide (t < i) && q t
theorem preP_zero (q : Nat → Bool) : arrP (fun _ => false) = arrP (preP q 0) := arrP_congr fun t _ => by simp [preP]
theorem preP_step (q : Nat → Bool) (i : Nat) (h : i < 128) : (arrP (preP q i)).setIfInBounds i (.bool (q i)) = arrP (preP q (i + 1)) := by
  rw [arrP_set _ _ _ h]
  refine arrP_congr fun t _ => ?_
  unfold preP
  by_cases e : t = i
  · subst e; simp
  · rw [if_neg e]
    have : decide (t < i) = decide (t < i + 1) := by simp only [decide_eq_decide]; omega
    rw [this]
theorem preP_end (q : Nat → Bool) : arrP (preP q 128) = arrP q := arrP_congr fun t ht => by simp [preP, ht]
def tab (a b c d x y : Bool) : Bool := if x then (if y then d else c) else (if y then b else a)
theorem alloc97 (W : World) (o : Oper) (a : Act) (p q r s : Bool) (x : Operand) (ho : o.op = .box 97 x) (hx : a.eval x = .agg #[.bool p, .bool q, .bool r, .bool s]) : (execOp a.eval o).run Try.prog W = .ok (.value (.pointer (some ⟨W.heap.size, 0, none⟩))) (W.alloc (.cells #[.bool p, .bool q, .bool r, .bool s] 97 (0, 0))) := by
  unfold execOp
  rw [ho]
  dsimp only
  rw [hx]
  kernel_rfl
set_option maxHeartbeats 4000000 in
set_option maxRecDepth 100000 in
theorem extent_mix.calls (A0 : Option Addr) (c0 : Nat) (l0 : List S25) (A1 : Option Addr) (c1 : Nat) (l1 : List S25) (a b c d : Bool) (w : World) (hr0 : Kd.C k25 w A0 l0.length l0) (hr1 : Kd.C k25 w A1 l1.length l1) :
    Calls Try.prog 72 #[.slice A0 l0.length c0, .slice A1 l1.length c1, .agg #[.bool a, .bool b, .bool c, .bool d]] w fun e w' => ∃ v0_ : Value, e = .returned v0_ ∧ Kd.R k25 25 w' w.heap.size (fun _ => True) v0_ (runsOf fun t => tab a b c d (hasT l0 t) (hasT l1 t)) ∧ Below w.heap.size w w' := by
  have HR0 := Aside0.mk hr0
  have HR1 := Aside0.mk hr1
  clear hr0 hr1
  have hs0 : (Try.prog.info? 113).map (·.size) = some (arrP (hasT l0)).size := by rw [arrP_size]; exact size113
  have hs1 : (Try.prog.info? 113).map (·.size) = some (arrP (hasT l1)).size := by rw [arrP_size]; exact size113
  have HB := Aside0.mk (Below.refl w.heap.size w)
  go_enter Try.func72, Try.ntmps72
  go_wp2_with (first
    | ((with_reducible refine gate_dst (N := 5) rfl ?_); refine box_event ?hg (N := 5) ?hd (cs := #[.bool a, .bool b, .bool c, .bool d]) (t := 97) ?hr ?_; (case hd => rfl); (case hg => rfl); (case hr => exact alloc97 _ _ _ _ _ _ _ _ rfl rfl); intro g5 hg w2 hbox hb; have n0 := Aside0.mk (below_step HB.out hb); have B5 := Aside0.mk hbox; have G5 := Aside0.mk (by rw [hg]; exact below_size HB.out : w.heap.size ≤ g5); clear HB; have HB := n0; clear n0 hb hbox hg)
    | (go_at_call 87; (with_reducible refine (extent_of.calls A0 c0 l0 _ (Kd.C_below HR0.out HB.out)).mono ?_); rintro e w3 ⟨rfl, hb⟩; have n0 := Aside0.mk (below_step HB.out hb); have n1 := Aside0.mk (blk_below B5.out hb); clear HB B5; have HB := n0; have B5 := n1; clear n0 n1 hb)
    | (go_at_call 87; (with_reducible refine (extent_of.calls A1 c1 l1 _ (Kd.C_below HR1.out HB.out)).mono ?_); rintro e w4 ⟨rfl, hb⟩; have n0 := Aside0.mk (below_step HB.out hb); have n1 := Aside0.mk (blk_below B5.out hb); clear HB B5; have HB := n0; have B5 := n1; clear n0 n1 hb)
    | ((with_reducible refine gate_dst (N := 7) rfl ?_); refine box_event ?hg (N := 7) ?hd (cs := arrP fun _ => false) (t := 113) ?hr ?_; (case hd => rfl); (case hg => rfl); (case hr => exact alloc113 _ _ _ rfl); intro g7 hg w17 hbox hb; have n0 := Aside0.mk (below_step HB.out hb); have B7 := Aside0.mk hbox; have G7 := Aside0.mk (by rw [hg]; exact below_size HB.out : w.heap.size ≤ g7); have N5_7 := Aside0.mk (by rw [hg]; exact Nat.ne_of_lt (blk_lt B5.out) : g5 ≠ g7); have n5 := Aside0.mk (blk_below B5.out hb); clear B5; have B5 := n5; clear n5; clear HB; have HB := n0; clear n0 hb hbox hg)
    | ((with_reducible refine gate_dst (N := 8) rfl ?_); refine box_event ?hg (N := 8) ?hd (cs := arrP fun _ => false) (t := 113) ?hr ?_; (case hd => rfl); (case hg => rfl); (case hr => exact alloc113 _ _ _ rfl); intro g8 hg w18 hbox hb; have n0 := Aside0.mk (below_step HB.out hb); have B8 := Aside0.mk hbox; have G8 := Aside0.mk (by rw [hg]; exact below_size HB.out : w.heap.size ≤ g8); have N5_8 := Aside0.mk (by rw [hg]; exact Nat.ne_of_lt (blk_lt B5.out) : g5 ≠ g8); have N7_8 := Aside0.mk (by rw [hg]; exact Nat.ne_of_lt (blk_lt B7.out) : g7 ≠ g8); have n5 := Aside0.mk (blk_below B5.out hb); clear B5; have B5 := n5; clear n5; have n7 := Aside0.mk (blk_below B7.out hb); clear B7; have B7 := n7; clear n7; clear HB; have HB := n0; clear n0 hb hbox hg)
    | ((with_reducible refine gate_store (t := 113) (p := 7) rfl ?_); refine wpList_store_row rfl 113 _ _ rfl g7 (arrP (hasT l0)) rfl rfl 113 (arrP fun _ => false) B7.out hs0 (by rw [arrP_size, arrP_size]) (arrP_one _) ?_; have n7 := Aside0.mk (setRow_heap _ _ _ (arrP (hasT l0)) _ _ B7.out); have n5 := Aside0.mk ((setRow_other _ g7 g5 (arrP (hasT l0)) N5_7.out).trans B5.out); have n8 := Aside0.mk ((setRow_other _ g7 g8 (arrP (hasT l0)) (Ne.symm N7_8.out)).trans B8.out); have n0 := Aside0.mk (below_row HB.out G7.out (arrP (hasT l0))); clear B7 B5 B8 HB; have B7 := n7; have B5 := n5; have B8 := n8; have HB := n0; clear n7 n5 n8 n0)
    | ((with_reducible refine gate_store (t := 113) (p := 8) rfl ?_); refine wpList_store_row rfl 113 _ _ rfl g8 (arrP (hasT l1)) rfl rfl 113 (arrP fun _ => false) B8.out hs1 (by rw [arrP_size, arrP_size]) (arrP_one _) ?_; have n8 := Aside0.mk (setRow_heap _ _ _ (arrP (hasT l1)) _ _ B8.out); have n5 := Aside0.mk ((setRow_other _ g8 g5 (arrP (hasT l1)) N5_8.out).trans B5.out); have n7 := Aside0.mk ((setRow_other _ g8 g7 (arrP (hasT l1)) N7_8.out).trans B7.out); have n0 := Aside0.mk (below_row HB.out G8.out (arrP (hasT l1))); clear B7 B5 B8 HB; have B7 := n7; have B5 := n5; have B8 := n8; have HB := n0; clear n7 n5 n8 n0)
    | ((with_reducible refine gate_dst (N := 9) rfl ?_); refine box_event ?hg (N := 9) ?hd (cs := arrP fun _ => false) (t := 113) ?hr ?_; (case hd => rfl); (case hg => rfl); (case hr => exact alloc113 _ _ _ rfl); intro g9 hg w19 hbox hb; have n0 := Aside0.mk (below_step HB.out hb); have B9 := Aside0.mk hbox; have G9 := Aside0.mk (by rw [hg]; exact below_size HB.out : w.heap.size ≤ g9); have N5_9 := Aside0.mk (by rw [hg]; exact Nat.ne_of_lt (blk_lt B5.out) : g5 ≠ g9); have N7_9 := Aside0.mk (by rw [hg]; exact Nat.ne_of_lt (blk_lt B7.out) : g7 ≠ g9); have N8_9 := Aside0.mk (by rw [hg]; exact Nat.ne_of_lt (blk_lt B8.out) : g8 ≠ g9); have n5 := Aside0.mk (blk_below B5.out hb); clear B5; have B5 := n5; clear n5; have n7 := Aside0.mk (blk_below B7.out hb); clear B7; have B7 := n7; clear n7; have n8 := Aside0.mk (blk_below B8.out hb); clear B8; have B8 := n8; clear n8; clear HB; have HB := n0; clear n0 hb hbox hg))
  generalize hq : (fun t => tab a b c d (hasT l0 t) (hasT l1 t)) = q
  have HQ := Aside0.mk hq
  clear hq
  go_loopg [16] 128 (fun kq v16 w' => ∃ i : Nat, v16 = .int .i64 i ∧ Aside0 (kq + i = 128) ∧ Aside0 (w'.heap[g5]? = some (.cells #[.bool a, .bool b, .bool c, .bool d] 97 (0, 0))) ∧ Aside0 (w'.heap[g7]? = some (.cells (arrP (hasT l0)) 113 (0, 0))) ∧ Aside0 (w'.heap[g8]? = some (.cells (arrP (hasT l1)) 113 (0, 0))) ∧ Aside0 (w'.heap[g9]? = some (.cells (arrP (preP q i)) 113 (0, 0))) ∧ Aside0 (Below w.heap.size w w'))
  case atStart => exact ⟨0, rfl, ⟨rfl⟩, B5, B7, B8, ⟨by rw [B9.out, preP_zero q]⟩, HB⟩
  case round =>
    clear B5 B7 B8 B9 HB
    obtain ⟨i, rfl, HK, B5, B7, B8, B9, HB⟩ := hrel
    by_cases hi : i < 128
    · have hil : (i : Int) < 128 := by omega
      obtain ⟨m, rfl⟩ : ∃ m, gk = m + 1 := ⟨gk - 1, by have := HK.out; omega⟩
      have c7 : wr.cell? ⟨g7, i, none⟩ = some (.bool (hasT l0 i)) := (blk_cell B7.out i).trans (arrP_get _ i hi)
      have c8 : wr.cell? ⟨g8, i, none⟩ = some (.bool (hasT l1 i)) := (blk_cell B8.out i).trans (arrP_get _ i hi)
      have t0 : wr.cell? ⟨g5, 0, none⟩ = some (.bool a) := (blk_cell B5.out 0).trans rfl
      have t1 : wr.cell? ⟨g5, 1, none⟩ = some (.bool b) := (blk_cell B5.out 1).trans rfl
      have t2 : wr.cell? ⟨g5, 2, none⟩ = some (.bool c) := (blk_cell B5.out 2).trans rfl
      have t3 : wr.cell? ⟨g5, 3, none⟩ = some (.bool d) := (blk_cell B5.out 3).trans rfl
      have c9 : wr.cell? ⟨g9, i, none⟩ = some (.bool (preP q i i)) := (blk_cell B9.out i).trans (arrP_get _ i hi)
      have f9 := blk_frozen B9.out i
      have hqi : q i = tab a b c d (hasT l0 i) (hasT l1 i) := by rw [← HQ.out]
      have HST := Aside0.mk (preP_step q i hi)
      rw [hqi] at HST
      clear hqi
      generalize hasT l0 i = x at c7 HST
      generalize hasT l1 i = y at c8 HST
      cases x <;> cases y
      all_goals
        go_wp2
        refine wp_region_still_tail 15 (by kernel_rfl) (by kernel_rfl) ?_
        simp only [List.take_succ_cons, List.take_zero, List.drop_succ_cons, List.drop_zero]
        repeat (first | still_step | still_call (mix_bit _ _))
        refine wpStill_nil ?_
        go_wp2
        go_roundg m
        case measure => omega
        case rel => exact ⟨i + 1, by go_num, ⟨by have := HK.out; omega⟩, ⟨blk_far B5.out N5_9.out _⟩, ⟨blk_far B7.out N7_9.out _⟩, ⟨blk_far B8.out N8_9.out _⟩, ⟨blk_put B9.out _ _ HST.out⟩, ⟨below_set (below_drew1 HB.out) G9.out⟩⟩
    · obtain rfl : i = 128 := by have := HK.out; omega
      have B9' := B9.out
      rw [preP_end] at B9'
      have B := Aside0.mk B9'
      clear B9'
      go_wp2_with (go_at_call 88; (with_reducible refine (extent_runs.calls g9 q _ B.out).mono ?_); rintro e w3 ⟨v, rfl, hr, hb⟩; have HR := Aside0.mk (Kd.R_lower hr HB.out.size); have HB2 := Aside0.mk (below_step HB.out hb); clear hr hb)
      go_ret
      exact ⟨_, rfl, by rw [HQ.out]; exact HR.out, HB2.out⟩
def extent_Minus.f (l0 l1 : List S25) : Option (List S25) := some (runsOf fun t => hasT l0 t && !hasT l1 t)
set_option maxHeartbeats 4000000 in
set_option maxRecDepth 100000 in
theorem extent_Minus.calls (A0 : Option Addr) (c0 : Nat) (l0 : List S25) (A1 : Option Addr) (c1 : Nat) (l1 : List S25) (r : List S25) (w : World) (hr0 : Kd.C k25 w A0 l0.length l0) (hc0 : l0.length ≤ c0) (hr1 : Kd.C k25 w A1 l1.length l1) (hc1 : l1.length ≤ c1) (h : extent_Minus.f l0 l1 = some r) :
    Calls Try.prog 26 #[.slice A0 l0.length c0, .slice A1 l1.length c1] w fun e w' => ∃ v0_ : Value, e = .returned v0_ ∧ Kd.R k25 25 w' w.heap.size (fun _ => True) v0_ r ∧ Below w.heap.size w w' := by
  obtain rfl := Option.some.inj h
  clear h
  have e : (fun t => hasT l0 t && !hasT l1 t) = fun t => tab false false true false (hasT l0 t) (hasT l1 t) := by
    funext t
    cases hasT l0 t <;> cases hasT l1 t <;> rfl
  rw [e]
  clear e
  have H := extent_mix.calls A0 c0 l0 A1 c1 l1 false false true false w hr0 hr1
  go_enter Try.func26, Try.ntmps26
  go_wp2_with (go_at_call 72; (with_reducible refine H.mono ?_); rintro e w1 ⟨v, rfl, hr, hb⟩; have HR := Aside0.mk hr; have HB := Aside0.mk hb; clear hr hb)
  go_ret
  exact ⟨_, rfl, HR.out, HB.out⟩
end Go.Proofs.Ytghpmenoiimpoaa.P
