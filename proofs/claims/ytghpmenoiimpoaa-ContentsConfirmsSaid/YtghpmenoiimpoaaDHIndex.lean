import Derived.Test.YtghpmenoiimpoaaDHClone
import Derived.Outline
namespace Go.Proofs.Ytghpmenoiimpoaa.P
open Go.RowKit Go.Proofs.YtghpmenoiimpoaaW.PrintWords Go.Proofs.YtghpmenoiimpoaaW.PrintLast Go.Proofs.YtghpmenoiimpoaaW.PrintMore
set_option linter.unusedVariables false
/-- The first index of an element for which p holds, or -1. -/
def idxP (p : S66 → Bool) : List S66 → Int → Int
  | [], _ => -1
  | x :: l, i => if p x = true then i else idxP p l (i + 1)
set_option maxHeartbeats 4000000 in
set_option maxRecDepth 100000 in
theorem index_func (fid : Nat) (env : Array Value) (p : S66 → Bool) (Hold : World → Prop) (hmono : ∀ W W', Hold W → Below W.heap.size W W' → Hold W')
    (he : ∀ args w, (callFunc fid args).run Try.prog w = .ok (.enter fid args) w)
    (hcall : ∀ W x A c, Hold W → x.f4.length ≤ c → Kd.C k25 W A x.f4.length x.f4 → Calls Try.prog fid (#[.agg #[.int .i64 x.f0, .int .i64 x.f1, .string x.f2, .string x.f3, .slice A x.f4.length c]] ++ env) W fun e w' => e = .returned (.bool (p x)) ∧ Below W.heap.size W w')
    (A0 : Option Addr) (c0 : Nat) (l0 : List S66) (w : World) (hH : Hold w) (hr0 : Kd.C k66 w A0 l0.length l0) (hc0 : l0.length ≤ c0) :
    Calls Try.prog 114 #[.slice A0 l0.length c0, .func (.func fid) #[] env] w fun e w' => e = .returned (.int .i64 (idxP p l0 0)) ∧ Below w.heap.size w w' := by
  have hu25 := Try.underlying25
  have hu66 := Try.underlying66
  have HR0 := Aside0.mk hr0
  have HC0 := Aside0.mk hc0
  have HH := Aside0.mk hH
  have HM := Aside0.mk hmono
  have HCALL := Aside0.mk hcall
  clear hr0 hc0 hH hmono hcall
  generalize hres : idxP p l0 0 = res
  have HB := Aside0.mk (Below.refl w.heap.size w)
  go_enter Try.func114, Try.ntmps114
  go_wp2
  go_loopg [8] l0.length (fun kq v8 w' => ∃ i : Nat, v8 = .int .i64 i ∧ Aside0 (kq + i = l0.length) ∧ Aside0 (idxP p (l0.drop i) (i : Int) = res) ∧ Aside0 (Below w.heap.size w w'))
  case atStart => exact ⟨0, rfl, ⟨rfl⟩, ⟨hres⟩, HB⟩
  case round =>
    clear hres HB
    obtain ⟨i, rfl, HK, HI, HB⟩ := hrel
    by_cases hi : i < l0.length
    · have hib : decide ((i : Int) < (l0.length : Int)) = true := decide_eq_true (by omega)
      have hi0 : decide (0 ≤ (i : Int)) = true := decide_eq_true (by omega)
      have hp1 : (0 ≤ (i : Int)) = True := eq_true (by omega)
      have hp2 : ((i : Int) < (l0.length : Int)) = True := eq_true (by omega)
      obtain ⟨ad, A4, c4, e1, q0, q1, q2, q3, q4, l4, g4⟩ := at_T66 HR0.out (i : Int) (by omega) (by omega)
      subst e1
      have hrd : rd_T66 l0 (i : Int) = l0[i] := by simp [rd_T66, List.getD_eq_getElem?_getD, hi]
      rw [hrd] at q0 q1 q2 q3 q4 l4 g4
      rw [Int.toNat_natCast] at q0 q1 q2 q3 q4
      replace q0 := (HB.out.cell (World.block_lt_of_cell? w _ q0)).trans q0
      replace q1 := (HB.out.cell (World.block_lt_of_cell? w _ q1)).trans q1
      replace q2 := (HB.out.cell (World.block_lt_of_cell? w _ q2)).trans q2
      replace q3 := (HB.out.cell (World.block_lt_of_cell? w _ q3)).trans q3
      replace q4 := (HB.out.cell (World.block_lt_of_cell? w _ q4)).trans q4
      have HI2 := HI.out
      rw [List.drop_eq_getElem_cons hi, idxP] at HI2
      generalize l0[i] = x at q0 q1 q2 q3 q4 l4 g4 HI2
      have HX := Aside0.mk l4
      have HG := Aside0.mk g4
      have HI3 := Aside0.mk HI2
      clear hrd l4 g4 HI HI2
      obtain ⟨m, rfl⟩ : ∃ m, gk = m + 1 := ⟨gk - 1, by have := HK.out; omega⟩
      go_wp2
      refine (HCALL.out _ x A4 c4 (HM.out _ _ HH.out HB.out) HX.out (Kd.C_below HG.out HB.out)).mono ?_
      rintro e w5 ⟨rfl, hb⟩
      have n0 := Aside0.mk (below_step HB.out hb)
      clear HB hb
      have HB := n0
      clear n0
      have HI4 := HI3.out
      clear HI3
      cases hpx : p x with
      | true =>
        rw [if_pos hpx] at HI4
        subst HI4
        go_wp2
        go_ret
        exact ⟨rfl, HB.out⟩
      | false =>
        rw [if_neg (by rw [hpx]; decide)] at HI4
        have HI5 := Aside0.mk HI4
        clear HI4
        have hw1 : wrap64 ((i : Int) + 1) = (i : Int) + 1 := by
          have := HR0.out.2.1
          unfold wrap64; omega
        go_wp2
        go_roundg m
        case measure => omega
        case rel => exact ⟨i + 1, by rw [hw1]; rfl, ⟨by have := HK.out; omega⟩, ⟨by have := HI5.out; rw [show ((i + 1 : Nat) : Int) = (i : Int) + 1 by omega]; exact this⟩, HB⟩
    · have hib : decide ((i : Int) < (l0.length : Int)) = false := decide_eq_false (by omega)
      have HI2 := HI.out
      rw [List.drop_eq_nil_of_le (by omega), idxP] at HI2
      subst HI2
      go_wp2
      go_ret
      exact ⟨rfl, HB.out⟩
def refP (id unit : Int) (x : S66) : Bool := (id != 0) && (x.f0 == id && x.f1 == unit)
set_option maxHeartbeats 4000000 in
set_option maxRecDepth 100000 in
theorem index_closure (id unit : Int) (g : Nat) (W : World) (x : S66) (A : Option Addr) (c : Nat) (hg : W.heap[g]? = some (.cells #[.int .i64 id, .int .i64 unit] 72 (0, 0))) :
    Calls Try.prog 131 (#[.agg #[.int .i64 x.f0, .int .i64 x.f1, .string x.f2, .string x.f3, .slice A x.f4.length c]] ++ #[.pointer (some ⟨g, 0, none⟩)]) W fun e w' => e = .returned (.bool (refP id unit x)) ∧ Below W.heap.size W w' := by
  have hu66 := Try.underlying66
  have hu72 := Try.underlying72
  have HB := Aside0.mk (Below.refl W.heap.size W)
  have BG := Aside0.mk hg
  clear hg
  unfold refP
  generalize x.f4.length = n
  generalize x.f0 = f0
  generalize x.f1 = f1
  generalize x.f2 = f2
  generalize x.f3 = f3
  clear x
  by_cases h1 : id = 0
  · subst h1
    go_enter Try.func131, Try.ntmps131
    go_wp2_with ((with_reducible refine gate_dst (N := 2) rfl ?_); refine box_event ?hg (N := 2) ?hd (cs := #[.int .i64 f0, .int .i64 f1, .string f2, .string f3, .slice A n c]) (t := 66) ?hr ?_; (case hd => rfl); (case hg => rfl); (case hr => first | (go_simp; done) | (go_simp; rfl)); intro g2 hg w2 hbox hb; have n0 := Aside0.mk (below_step HB.out hb); have B2 := Aside0.mk hbox; have n1 := Aside0.mk (blk_below BG.out hb); clear HB BG; have HB := n0; have BG := n1; clear n0 n1 hb hbox hg; have z0 : w2.cell? ⟨g, 0, none⟩ = some (.int .i64 0) := (blk_cell BG.out 0).trans rfl; have z1 : w2.cell? ⟨g, 1, none⟩ = some (.int .i64 unit) := (blk_cell BG.out 1).trans rfl; have y0 : w2.cell? ⟨g2, 0, none⟩ = some (.int .i64 f0) := (blk_cell B2.out 0).trans rfl; have y1 : w2.cell? ⟨g2, 1, none⟩ = some (.int .i64 f1) := (blk_cell B2.out 1).trans rfl)
    go_ret
    exact ⟨rfl, by first | exact HB.out | exact pw_below_drewN HB.out _⟩
  · have h1b : (id == 0) = false := beq_eq_false_iff_ne.mpr h1
    have h1c : (id != 0) = true := by simp [h1]
    rw [h1c, Bool.true_and]
    by_cases h2 : f0 = id
    · subst h2
      rw [show (f0 == f0) = true from by simp, Bool.true_and]
      go_enter Try.func131, Try.ntmps131
      go_wp2_with ((with_reducible refine gate_dst (N := 2) rfl ?_); refine box_event ?hg (N := 2) ?hd (cs := #[.int .i64 f0, .int .i64 f1, .string f2, .string f3, .slice A n c]) (t := 66) ?hr ?_; (case hd => rfl); (case hg => rfl); (case hr => first | (go_simp; done) | (go_simp; rfl)); intro g2 hg w2 hbox hb; have n0 := Aside0.mk (below_step HB.out hb); have B2 := Aside0.mk hbox; have n1 := Aside0.mk (blk_below BG.out hb); clear HB BG; have HB := n0; have BG := n1; clear n0 n1 hb hbox hg; have z0 : w2.cell? ⟨g, 0, none⟩ = some (.int .i64 f0) := (blk_cell BG.out 0).trans rfl; have z1 : w2.cell? ⟨g, 1, none⟩ = some (.int .i64 unit) := (blk_cell BG.out 1).trans rfl; have y0 : w2.cell? ⟨g2, 0, none⟩ = some (.int .i64 f0) := (blk_cell B2.out 0).trans rfl; have y1 : w2.cell? ⟨g2, 1, none⟩ = some (.int .i64 f1) := (blk_cell B2.out 1).trans rfl)
      go_ret
      exact ⟨by simp, by first | exact HB.out | exact pw_below_drewN HB.out _⟩
    · have h2b : (f0 == id) = false := beq_eq_false_iff_ne.mpr h2
      rw [h2b, Bool.false_and]
      go_enter Try.func131, Try.ntmps131
      go_wp2_with ((with_reducible refine gate_dst (N := 2) rfl ?_); refine box_event ?hg (N := 2) ?hd (cs := #[.int .i64 f0, .int .i64 f1, .string f2, .string f3, .slice A n c]) (t := 66) ?hr ?_; (case hd => rfl); (case hg => rfl); (case hr => first | (go_simp; done) | (go_simp; rfl)); intro g2 hg w2 hbox hb; have n0 := Aside0.mk (below_step HB.out hb); have B2 := Aside0.mk hbox; have n1 := Aside0.mk (blk_below BG.out hb); clear HB BG; have HB := n0; have BG := n1; clear n0 n1 hb hbox hg; have z0 : w2.cell? ⟨g, 0, none⟩ = some (.int .i64 id) := (blk_cell BG.out 0).trans rfl; have z1 : w2.cell? ⟨g, 1, none⟩ = some (.int .i64 unit) := (blk_cell BG.out 1).trans rfl; have y0 : w2.cell? ⟨g2, 0, none⟩ = some (.int .i64 f0) := (blk_cell B2.out 0).trans rfl; have y1 : w2.cell? ⟨g2, 1, none⟩ = some (.int .i64 f1) := (blk_cell B2.out 1).trans rfl)
      go_ret
      exact ⟨rfl, by first | exact HB.out | exact pw_below_drewN HB.out _⟩
def idxOf (l : List S66) (id unit : Int) : Int := idxP (refP id unit) l 0
def contents_index.f (a0_0 : ByteArray) (a0_1 : Int) (l0 : List S66) (a1_0 a1_1 : Int) : Option Int := some (idxOf l0 a1_0 a1_1)
set_option maxHeartbeats 4000000 in
set_option maxRecDepth 100000 in
theorem index_walk (a0_0 : ByteArray) (a0_1 : Int) (A0 : Option Addr) (c0 : Nat) (l0 : List S66) (id unit : Int) (w : World) (hr0 : Kd.C k66 w A0 l0.length l0) (hc0 : l0.length ≤ c0) :
    Calls Try.prog 93 #[.agg #[.string a0_0, .int .i64 a0_1, .slice A0 l0.length c0], .agg #[.int .i64 id, .int .i64 unit]] w fun e w' => e = .returned (.int .i64 (idxOf l0 id unit)) ∧ Below w.heap.size w w' := by
  have hu41 := Try.underlying41
  have hu72 := Try.underlying72
  have HB := Aside0.mk (Below.refl w.heap.size w)
  have HR0 := Aside0.mk hr0
  have HC0 := Aside0.mk hc0
  clear hr0 hc0
  have he : ∀ args w, (callFunc 131 args).run Try.prog w = .ok (.enter 131 args) w := enters_ Try.func131 (by kernel_rfl) rfl
  go_enter Try.func93, Try.ntmps93
  go_wp2_with (first
    | ((with_reducible refine gate_dst (N := 2) rfl ?_); refine box_event ?hg (N := 2) ?hd (cs := #[.string a0_0, .int .i64 a0_1, .slice A0 l0.length c0]) (t := 41) ?hr ?_; (case hd => rfl); (case hg => rfl); (case hr => first | (go_simp; done) | (go_simp; rfl)); intro g2 hg w2 hbox hb; have n0 := Aside0.mk (below_step HB.out hb); have B2 := Aside0.mk hbox; clear HB; have HB := n0; clear n0 hb hbox hg)
    | ((with_reducible refine gate_dst (N := 3) rfl ?_); refine box_event ?hg (N := 3) ?hd (cs := #[.int .i64 id, .int .i64 unit]) (t := 72) ?hr ?_; (case hd => rfl); (case hg => rfl); (case hr => first | (go_simp; done) | (go_simp; rfl)); intro g3 hg w3 hbox hb; have n0 := Aside0.mk (below_step HB.out hb); have B3 := Aside0.mk hbox; have n1 := Aside0.mk (blk_below B2.out hb); clear HB B2; have HB := n0; have B2 := n1; clear n0 n1 hb hbox hg; have z2 : w3.cell? ⟨g2, 2, none⟩ = some (.slice A0 l0.length c0) := (blk_cell B2.out 2).trans rfl)
    | (go_at_call 114; (with_reducible refine (index_func 131 #[.pointer (some ⟨g3, 0, none⟩)] (refP id unit) (fun W => W.heap[g3]? = some (.cells #[.int .i64 id, .int .i64 unit] 72 (0, 0))) (fun W W' h hb => blk_below h hb) he (fun W x A c hW _ _ => index_closure id unit g3 W x A c hW) A0 c0 l0 _ B3.out (Kd.C_below HR0.out HB.out) HC0.out).mono ?_); rintro e w4 ⟨rfl, hb⟩; have n0 := Aside0.mk (below_step HB.out hb); clear HB hb; have HB := n0; clear n0))
  go_ret
  exact ⟨rfl, HB.out⟩
theorem contents_index.calls (a0_0 : ByteArray) (a0_1 : Int) (A0 : Option Addr) (c0 : Nat) (l0 : List S66) (a1_0 a1_1 : Int) (r : Int) (w : World) (hr0 : Kd.C k66 w A0 l0.length l0) (hc0 : l0.length ≤ c0) (h : contents_index.f a0_0 a0_1 l0 a1_0 a1_1 = some r) :
    Calls Try.prog 93 #[.agg #[.string a0_0, .int .i64 a0_1, .slice A0 l0.length c0], .agg #[.int .i64 a1_0, .int .i64 a1_1]] w fun e w' => e = .returned (.int .i64 r) ∧ Below w.heap.size w w' := by
  obtain rfl := Option.some.inj h
  exact index_walk a0_0 a0_1 A0 c0 l0 a1_0 a1_1 w hr0 hc0
set_option maxHeartbeats 4000000 in
set_option maxRecDepth 100000 in
theorem contains_func (fid : Nat) (env : Array Value) (p : S66 → Bool) (Hold : World → Prop) (hmono : ∀ W W', Hold W → Below W.heap.size W W' → Hold W')
    (he : ∀ args w, (callFunc fid args).run Try.prog w = .ok (.enter fid args) w)
    (hcall : ∀ W x A c, Hold W → x.f4.length ≤ c → Kd.C k25 W A x.f4.length x.f4 → Calls Try.prog fid (#[.agg #[.int .i64 x.f0, .int .i64 x.f1, .string x.f2, .string x.f3, .slice A x.f4.length c]] ++ env) W fun e w' => e = .returned (.bool (p x)) ∧ Below W.heap.size W w')
    (A0 : Option Addr) (c0 : Nat) (l0 : List S66) (w : World) (hH : Hold w) (hr0 : Kd.C k66 w A0 l0.length l0) (hc0 : l0.length ≤ c0) :
    Calls Try.prog 112 #[.slice A0 l0.length c0, .func (.func fid) #[] env] w fun e w' => e = .returned (.bool (decide (0 ≤ idxP p l0 0))) ∧ Below w.heap.size w w' := by
  have HI := Aside0.mk (index_func fid env p Hold hmono he hcall A0 c0 l0 w hH hr0 hc0)
  clear hmono hcall hH hr0 he
  generalize idxP p l0 0 = r at HI
  go_enter Try.func112, Try.ntmps112
  go_wp2_with (go_at_call 114; (with_reducible refine HI.out.mono ?_); rintro e w4 ⟨rfl, hb⟩; have n0 := Aside0.mk hb; clear hb)
  go_ret
  exact ⟨rfl, n0.out⟩
def newP (id : Int) (x : S66) : Bool := x.f0 == id && decide (0 < x.f1)
set_option maxHeartbeats 4000000 in
set_option maxRecDepth 100000 in
theorem create_closure (id unit : Int) (g : Nat) (W : World) (x : S66) (A : Option Addr) (c : Nat) (hg : W.heap[g]? = some (.cells #[.int .i64 id, .int .i64 unit] 72 (0, 0))) :
    Calls Try.prog 113 (#[.agg #[.int .i64 x.f0, .int .i64 x.f1, .string x.f2, .string x.f3, .slice A x.f4.length c]] ++ #[.pointer (some ⟨g, 0, none⟩)]) W fun e w' => e = .returned (.bool (newP id x)) ∧ Below W.heap.size W w' := by
  have hu66 := Try.underlying66
  have hu72 := Try.underlying72
  have HB := Aside0.mk (Below.refl W.heap.size W)
  have BG := Aside0.mk hg
  clear hg
  unfold newP
  generalize x.f4.length = n
  generalize x.f0 = f0
  generalize x.f1 = f1
  generalize x.f2 = f2
  generalize x.f3 = f3
  clear x
  by_cases h2 : f0 = id
  · subst h2
    rw [show (f0 == f0) = true from by simp, Bool.true_and]
    go_enter Try.func113, Try.ntmps113
    go_wp2_with ((with_reducible refine gate_dst (N := 2) rfl ?_); refine box_event ?hg (N := 2) ?hd (cs := #[.int .i64 f0, .int .i64 f1, .string f2, .string f3, .slice A n c]) (t := 66) ?hr ?_; (case hd => rfl); (case hg => rfl); (case hr => first | (go_simp; done) | (go_simp; rfl)); intro g2 hg w2 hbox hb; have n0 := Aside0.mk (below_step HB.out hb); have B2 := Aside0.mk hbox; have n1 := Aside0.mk (blk_below BG.out hb); clear HB BG; have HB := n0; have BG := n1; clear n0 n1 hb hbox hg; have z0 : w2.cell? ⟨g, 0, none⟩ = some (.int .i64 f0) := (blk_cell BG.out 0).trans rfl; have y0 : w2.cell? ⟨g2, 0, none⟩ = some (.int .i64 f0) := (blk_cell B2.out 0).trans rfl; have y1 : w2.cell? ⟨g2, 1, none⟩ = some (.int .i64 f1) := (blk_cell B2.out 1).trans rfl)
    go_ret
    exact ⟨by simp, HB.out⟩
  · have h2b : (f0 == id) = false := beq_eq_false_iff_ne.mpr h2
    rw [h2b, Bool.false_and]
    go_enter Try.func113, Try.ntmps113
    go_wp2_with ((with_reducible refine gate_dst (N := 2) rfl ?_); refine box_event ?hg (N := 2) ?hd (cs := #[.int .i64 f0, .int .i64 f1, .string f2, .string f3, .slice A n c]) (t := 66) ?hr ?_; (case hd => rfl); (case hg => rfl); (case hr => first | (go_simp; done) | (go_simp; rfl)); intro g2 hg w2 hbox hb; have n0 := Aside0.mk (below_step HB.out hb); have B2 := Aside0.mk hbox; have n1 := Aside0.mk (blk_below BG.out hb); clear HB BG; have HB := n0; have BG := n1; clear n0 n1 hb hbox hg; have z0 : w2.cell? ⟨g, 0, none⟩ = some (.int .i64 id) := (blk_cell BG.out 0).trans rfl; have y0 : w2.cell? ⟨g2, 0, none⟩ = some (.int .i64 f0) := (blk_cell B2.out 0).trans rfl; have y1 : w2.cell? ⟨g2, 1, none⟩ = some (.int .i64 f1) := (blk_cell B2.out 1).trans rfl)
    go_ret
    exact ⟨rfl, HB.out⟩
end Go.Proofs.Ytghpmenoiimpoaa.P
