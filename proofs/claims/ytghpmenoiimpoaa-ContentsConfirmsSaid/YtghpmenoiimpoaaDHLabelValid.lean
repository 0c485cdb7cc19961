import Derived.Test.YtghpmenoiimpoaaDPx23
import Derived.Test.YtghpmenoiimpoaaDPx18
import Derived.Test.YtghpmenoiimpoaaDPx17
import Derived.Test.YtghpmenoiimpoaaDHIndex
import Derived.Test.YtghpmenoiimpoaaDHJoin
import Derived.Test.YtghpmenoiimpoaaDHCount
import Derived.Test.YtghpmenoiimpoaaDHStore
namespace Go.Proofs.Ytghpmenoiimpoaa.P
open Go.RowKit Go.Proofs.YtghpmenoiimpoaaW.PrintWords Go.Proofs.YtghpmenoiimpoaaW.PrintLast Go.Proofs.YtghpmenoiimpoaaW.PrintMore
set_option linter.unusedVariables false
set_option linter.unusedSimpArgs false
def okT (t : Int) : Bool := decide (4 ≤ t) && decide (t ≤ 128)
theorem okT_some (t : Int) : label_tracksOK.f t = some (okT t) := by
  unfold label_tracksOK.f okT
  by_cases h : t ≥ 4
  · rw [if_pos h, decide_eq_true h, Bool.true_and]
  · rw [if_neg h, decide_eq_false h, Bool.false_and]
theorem lv_c1 (tr : Int) (g : Nat) (W : World) (hg : W.heap[g]? = some (.cells #[.int .i64 tr] 3 (0, 0))) :
    Calls Try.prog 117 #[.pointer (some ⟨g, 0, none⟩)] W fun e w' => e = .returned (.bool (okT tr)) ∧ Below W.heap.size W w' := by
  have z0 : W.cell? ⟨g, 0, none⟩ = some (.int .i64 tr) := fcells g W _ _ hg 0 _ rfl
  have HT := Aside0.mk (okT_some tr)
  clear hg
  go_enter Try.func117, Try.ntmps117
  go_wp2_with (go_at_call 116; (with_reducible refine (label_tracksOK.calls tr (okT tr) _ HT.out).mono ?_); rintro e w1 ⟨rfl, hd⟩; have hb := Aside0.mk hd.below; clear hd)
  go_ret
  exact ⟨rfl, hb.out⟩
def idOk (a b : Int) : Bool := decide (1 ≤ a) && decide (a ≤ 1099511627776) && decide (0 ≤ b) && decide (b ≤ 1099511627776)
set_option maxHeartbeats 4000000 in
set_option maxRecDepth 100000 in
theorem lv_c2 (f0 f1 : Int) (f2 f3 : ByteArray) (v4 : Value) (g : Nat) (W : World) (hg : W.heap[g]? = some (.cells #[.int .i64 f0, .int .i64 f1, .string f2, .string f3, v4] 66 (0, 0))) :
    Calls Try.prog 118 #[.pointer (some ⟨g, 0, none⟩)] W fun e w' => e = .returned (.bool (idOk f0 f1)) ∧ Below W.heap.size W w' := by
  have hu66 := Try.underlying66
  have z0 : W.cell? ⟨g, 0, none⟩ = some (.int .i64 f0) := fcells g W _ _ hg 0 _ rfl
  have z1 : W.cell? ⟨g, 1, none⟩ = some (.int .i64 f1) := fcells g W _ _ hg 1 _ rfl
  clear hg
  unfold idOk
  go_enter Try.func118, Try.ntmps118
  go_wp2
  all_goals (go_ret; refine ⟨?_, Below.refl _ _⟩; first | rfl | (simp_all; done) | (simp_all; omega))
def szOk (a b : ByteArray) : Bool := decide ((a.size : Int) ≤ 31) && decide ((b.size : Int) ≤ 400)
set_option maxHeartbeats 4000000 in
set_option maxRecDepth 100000 in
theorem lv_c3 (f0 f1 : Int) (f2 f3 : ByteArray) (v4 : Value) (g : Nat) (W : World) (hg : W.heap[g]? = some (.cells #[.int .i64 f0, .int .i64 f1, .string f2, .string f3, v4] 66 (0, 0))) :
    Calls Try.prog 119 #[.pointer (some ⟨g, 0, none⟩)] W fun e w' => e = .returned (.bool (szOk f2 f3)) ∧ Below W.heap.size W w' := by
  have hu66 := Try.underlying66
  have z0 : W.cell? ⟨g, 2, none⟩ = some (.string f2) := fcells g W _ _ hg 2 _ rfl
  have z1 : W.cell? ⟨g, 3, none⟩ = some (.string f3) := fcells g W _ _ hg 3 _ rfl
  clear hg
  unfold szOk
  go_enter Try.func119, Try.ntmps119
  go_wp2
  all_goals (go_ret; refine ⟨?_, Below.refl _ _⟩; first | rfl | (simp_all; done) | (simp_all; omega))
def lnOk (n : Nat) : Bool := decide (1 ≤ (n : Int)) && decide ((n : Int) ≤ 16)
set_option maxHeartbeats 4000000 in
set_option maxRecDepth 100000 in
theorem lv_c4 (f0 f1 : Int) (f2 f3 : ByteArray) (A : Option Addr) (n c : Nat) (g : Nat) (W : World) (hg : W.heap[g]? = some (.cells #[.int .i64 f0, .int .i64 f1, .string f2, .string f3, .slice A n c] 66 (0, 0))) :
    Calls Try.prog 120 #[.pointer (some ⟨g, 0, none⟩)] W fun e w' => e = .returned (.bool (lnOk n)) ∧ Below W.heap.size W w' := by
  have hu66 := Try.underlying66
  have z0 : W.cell? ⟨g, 4, none⟩ = some (.slice A n c) := fcells g W _ _ hg 4 _ rfl
  clear hg
  unfold lnOk
  go_enter Try.func120, Try.ntmps120
  go_wp2
  all_goals (go_ret; refine ⟨?_, Below.refl _ _⟩; first | rfl | (simp_all; done) | (simp_all; omega))
def outP (first tr : Int) (r : S25) : Bool := decide (r.f0 < first) || decide (wrap64 (r.f0 + r.f1) > tr)
set_option maxHeartbeats 4000000 in
set_option maxRecDepth 100000 in
theorem lv_c61 (first tr : Int) (r : S25) (g1 g2 : Nat) (W : World) (h1 : W.heap[g1]? = some (.cells #[.int .i64 first] 3 (0, 0))) (h2 : W.heap[g2]? = some (.cells #[.int .i64 tr] 3 (0, 0))) :
    Calls Try.prog 124 (#[.agg #[.int .i64 r.f0, .int .i64 r.f1]] ++ #[.pointer (some ⟨g1, 0, none⟩), .pointer (some ⟨g2, 0, none⟩)]) W fun e w' => e = .returned (.bool (outP first tr r)) ∧ Below W.heap.size W w' := by
  have hu25 := Try.underlying25
  have B1 := Aside0.mk h1
  have B2 := Aside0.mk h2
  clear h1 h2
  unfold outP
  generalize r.f0 = f0
  generalize r.f1 = f1
  have HB := Aside0.mk (Below.refl W.heap.size W)
  go_enter Try.func124, Try.ntmps124
  go_wp2_with ((with_reducible refine gate_dst (N := 3) rfl ?_); refine box_event ?hg (N := 3) ?hd (cs := #[.int .i64 f0, .int .i64 f1]) (t := 25) ?hr ?_; (case hd => rfl); (case hg => rfl); (case hr => first | (go_simp; done) | (go_simp; rfl)); intro g3 hg w1 hbox hb; have n0 := Aside0.mk (below_step HB.out hb); have n1 := Aside0.mk (blk_below B1.out hb); have n2 := Aside0.mk (blk_below B2.out hb); clear HB B1 B2 hg hb; have HB := n0; have B1 := n1; have B2 := n2; clear n0 n1 n2; have B3 := Aside0.mk hbox; clear hbox; have z0 := fcells g1 w1 _ _ B1.out 0 _ rfl; have z1 := fcells g2 w1 _ _ B2.out 0 _ rfl; have z2 := fcells g3 w1 _ _ B3.out 0 _ rfl; have z3 := fcells g3 w1 _ _ B3.out 1 _ rfl)
  all_goals (go_ret; refine ⟨?_, HB.out⟩; first | rfl | (simp_all; done) | (simp_all; omega))
/-- The first index of a run for which p holds, or -1. -/
def idxR (p : S25 → Bool) : List S25 → Int → Int
  | [], _ => -1
  | x :: l, i => if p x = true then i else idxR p l (i + 1)
theorem idxR_any (p : S25 → Bool) : ∀ (l : List S25) (i : Int), 0 ≤ i → decide (0 ≤ idxR p l i) = l.any p
  | [], i, h => by simp [idxR]
  | x :: l, i, h => by
    rw [idxR, List.any_cons]
    by_cases hx : p x = true
    · rw [if_pos hx, hx, Bool.true_or]; exact decide_eq_true h
    · rw [if_neg hx, Bool.eq_false_iff.2 hx, Bool.false_or]; exact idxR_any p l (i + 1) (by omega)
set_option maxHeartbeats 4000000 in
set_option maxRecDepth 100000 in
theorem index_runs (fid : Nat) (env : Array Value) (p : S25 → Bool) (Hold : World → Prop) (hmono : ∀ W W', Hold W → Below W.heap.size W W' → Hold W')
    (he : ∀ args w, (callFunc fid args).run Try.prog w = .ok (.enter fid args) w)
    (hcall : ∀ W x, Hold W → Calls Try.prog fid (#[.agg #[.int .i64 x.f0, .int .i64 x.f1]] ++ env) W fun e w' => e = .returned (.bool (p x)) ∧ Below W.heap.size W w')
    (A0 : Option Addr) (c0 : Nat) (l0 : List S25) (w : World) (hH : Hold w) (hr0 : Kd.C k25 w A0 l0.length l0) (hc0 : l0.length ≤ c0) :
    Calls Try.prog 152 #[.slice A0 l0.length c0, .func (.func fid) #[] env] w fun e w' => e = .returned (.int .i64 (idxR p l0 0)) ∧ Below w.heap.size w w' := by
  have hu25 := Try.underlying25
  have HR0 := Aside0.mk hr0
  have HC0 := Aside0.mk hc0
  have HH := Aside0.mk hH
  have HM := Aside0.mk hmono
  have HCALL := Aside0.mk hcall
  clear hr0 hc0 hH hmono hcall
  generalize hres : idxR p l0 0 = res
  have HB := Aside0.mk (Below.refl w.heap.size w)
  go_enter Try.func152, Try.ntmps152
  go_wp2
  go_loopg [8] l0.length (fun kq v8 w' => ∃ i : Nat, v8 = .int .i64 i ∧ Aside0 (kq + i = l0.length) ∧ Aside0 (idxR p (l0.drop i) (i : Int) = res) ∧ Aside0 (Below w.heap.size w w'))
  case atStart => exact ⟨0, rfl, ⟨rfl⟩, ⟨hres⟩, HB⟩
  case round =>
    clear hres HB
    obtain ⟨i, rfl, HK, HI, HB⟩ := hrel
    by_cases hi : i < l0.length
    · have hib : decide ((i : Int) < (l0.length : Int)) = true := decide_eq_true (by omega)
      have hi0 : decide (0 ≤ (i : Int)) = true := decide_eq_true (by omega)
      have hp1 : (0 ≤ (i : Int)) = True := eq_true (by omega)
      have hp2 : ((i : Int) < (l0.length : Int)) = True := eq_true (by omega)
      obtain ⟨ad, e1, q0, q1⟩ := at_T25 HR0.out (i : Int) (by omega) (by omega)
      subst e1
      have hrd : rd_T25 l0 (i : Int) = l0[i] := by simp [rd_T25, List.getD_eq_getElem?_getD, hi]
      rw [hrd] at q0 q1
      rw [Int.toNat_natCast] at q0 q1
      replace q0 := (HB.out.cell (World.block_lt_of_cell? w _ q0)).trans q0
      replace q1 := (HB.out.cell (World.block_lt_of_cell? w _ q1)).trans q1
      have HI2 := HI.out
      rw [List.drop_eq_getElem_cons hi, idxR] at HI2
      generalize l0[i] = x at q0 q1 HI2
      have HI3 := Aside0.mk HI2
      clear hrd HI HI2
      obtain ⟨m, rfl⟩ : ∃ m, gk = m + 1 := ⟨gk - 1, by have := HK.out; omega⟩
      go_wp2
      refine (HCALL.out _ x (HM.out _ _ HH.out HB.out)).mono ?_
      rintro e w5 ⟨rfl, hb⟩
      have n0 := Aside0.mk (below_step HB.out hb)
      clear HB hb
      have HB := n0
      clear n0
      have HI4 := HI3.out
      clear HI3
      cases hpx : p x with
      | true =>
        rw [if_pos hpx] at HI4
        subst HI4
        go_wp2
        go_ret
        exact ⟨rfl, HB.out⟩
      | false =>
        rw [if_neg (by rw [hpx]; decide)] at HI4
        have HI5 := Aside0.mk HI4
        clear HI4
        have hw1 : wrap64 ((i : Int) + 1) = (i : Int) + 1 := by
          have := HR0.out.2.1
          unfold wrap64; omega
        go_wp2
        go_roundg m
        case measure => omega
        case rel => exact ⟨i + 1, by rw [hw1]; rfl, ⟨by have := HK.out; omega⟩, ⟨by have := HI5.out; rw [show ((i + 1 : Nat) : Int) = (i : Int) + 1 by omega]; exact this⟩, HB⟩
    · have hib : decide ((i : Int) < (l0.length : Int)) = false := decide_eq_false (by omega)
      have HI2 := HI.out
      rw [List.drop_eq_nil_of_le (by omega), idxR] at HI2
      subst HI2
      go_wp2
      go_ret
      exact ⟨rfl, HB.out⟩
set_option maxHeartbeats 4000000 in
set_option maxRecDepth 100000 in
theorem contains_runs (fid : Nat) (env : Array Value) (p : S25 → Bool) (Hold : World → Prop) (hmono : ∀ W W', Hold W → Below W.heap.size W W' → Hold W')
    (he : ∀ args w, (callFunc fid args).run Try.prog w = .ok (.enter fid args) w)
    (hcall : ∀ W x, Hold W → Calls Try.prog fid (#[.agg #[.int .i64 x.f0, .int .i64 x.f1]] ++ env) W fun e w' => e = .returned (.bool (p x)) ∧ Below W.heap.size W w')
    (A0 : Option Addr) (c0 : Nat) (l0 : List S25) (w : World) (hH : Hold w) (hr0 : Kd.C k25 w A0 l0.length l0) (hc0 : l0.length ≤ c0) :
    Calls Try.prog 123 #[.slice A0 l0.length c0, .func (.func fid) #[] env] w fun e w' => e = .returned (.bool (l0.any p)) ∧ Below w.heap.size w w' := by
  have HI := Aside0.mk (index_runs fid env p Hold hmono he hcall A0 c0 l0 w hH hr0 hc0)
  have HE := Aside0.mk (idxR_any p l0 0 (by omega))
  clear hmono hcall hH hr0 he
  generalize idxR p l0 0 = r at HI HE
  generalize l0.any p = q at HE
  go_enter Try.func123, Try.ntmps123
  go_wp2_with (go_at_call 152; (with_reducible refine HI.out.mono ?_); rintro e w4 ⟨rfl, hb⟩; have n0 := Aside0.mk hb; clear hb)
  go_ret
  exact ⟨by rw [← HE.out]; rfl, n0.out⟩
set_option maxHeartbeats 4000000 in
set_option maxRecDepth 100000 in
theorem lv_c6 (first tr : Int) (f0 f1 : Int) (f2 f3 : ByteArray) (A : Option Addr) (c : Nat) (l : List S25) (g g1 g2 : Nat) (W : World) (hg : W.heap[g]? = some (.cells #[.int .i64 f0, .int .i64 f1, .string f2, .string f3, .slice A l.length c] 66 (0, 0))) (h1 : W.heap[g1]? = some (.cells #[.int .i64 first] 3 (0, 0))) (h2 : W.heap[g2]? = some (.cells #[.int .i64 tr] 3 (0, 0)))
    (hr : Kd.C k25 W A l.length l) (hc : l.length ≤ c) :
    Calls Try.prog 122 #[.pointer (some ⟨g, 0, none⟩), .pointer (some ⟨g1, 0, none⟩), .pointer (some ⟨g2, 0, none⟩)] W fun e w' => e = .returned (.bool (!l.any (outP first tr))) ∧ Below W.heap.size W w' := by
  have hu66 := Try.underlying66
  have he : ∀ args w, (callFunc 124 args).run Try.prog w = .ok (.enter 124 args) w := enters_ Try.func124 (by kernel_rfl) rfl
  have z0 : W.cell? ⟨g, 4, none⟩ = some (.slice A l.length c) := fcells g W _ _ hg 4 _ rfl
  have HC := Aside0.mk (contains_runs 124 #[.pointer (some ⟨g1, 0, none⟩), .pointer (some ⟨g2, 0, none⟩)] (outP first tr) (fun W => W.heap[g1]? = some (.cells #[.int .i64 first] 3 (0, 0)) ∧ W.heap[g2]? = some (.cells #[.int .i64 tr] 3 (0, 0))) (fun _ _ h hb => ⟨blk_below h.1 hb, blk_below h.2 hb⟩) he (fun W x hW => lv_c61 first tr x g1 g2 W hW.1 hW.2) A c l W ⟨h1, h2⟩ hr hc)
  clear hg h1 h2 hr hc he
  generalize l.any (outP first tr) = q at HC
  generalize l.length = n at HC z0
  go_enter Try.func122, Try.ntmps122
  go_wp2_with (go_at_call 123; (with_reducible refine HC.out.mono ?_); rintro e w4 ⟨rfl, hb⟩; have n0 := Aside0.mk hb; clear hb)
  go_ret
  exact ⟨rfl, n0.out⟩
def eqS (a b : S25) : Bool := (a.f0 == b.f0) && (a.f1 == b.f1)
/-- Two lists of runs are equal. -/
def sameL : List S25 → List S25 → Bool
  | [], [] => true
  | a :: l, b :: m => eqS a b && sameL l m
  | _, _ => false
theorem eqS_iff (a b : S25) : eqS a b = true ↔ a = b := by
  cases a; cases b; simp [eqS]
theorem sameL_iff : ∀ l m : List S25, sameL l m = true ↔ l = m
  | [], [] => by simp [sameL]
  | [], b :: m => by simp [sameL]
  | a :: l, [] => by simp [sameL]
  | a :: l, b :: m => by rw [sameL, Bool.and_eq_true, eqS_iff, sameL_iff l m]; simp
theorem sameL_len {l m : List S25} (h : l.length ≠ m.length) : sameL l m = false := by
  rw [Bool.eq_false_iff, ne_eq, sameL_iff]
  rintro rfl
  exact h rfl
theorem eqr_l0 (l m : List S25) (hl : l.length ≤ 9223372036854775806) (hlm : l.length = m.length) : ∀ (d k i : Nat), i + d = l.length → d < k →
    api_Run_85.l0 k l m (l.length : Int) (i : Int) = some (sameL (l.drop i) (m.drop i)) := by
  intro d
  induction d with
  | zero =>
    intro k i hi hk
    obtain ⟨k, rfl⟩ : ∃ j, k = j + 1 := ⟨k - 1, by omega⟩
    rw [List.drop_eq_nil_of_le (by omega), List.drop_eq_nil_of_le (by omega), api_Run_85.l0, if_neg (by omega)]
    rfl
  | succ d ih =>
    intro k i hi hk
    obtain ⟨k, rfl⟩ : ∃ j, k = j + 1 := ⟨k - 1, by omega⟩
    have h1 : i < l.length := by omega
    have h2 : i < m.length := by omega
    have hw : wrap64 ((i : Int) + 1) = ((i + 1 : Nat) : Int) := by unfold wrap64; omega
    rw [List.drop_eq_getElem_cons h1, List.drop_eq_getElem_cons h2, api_Run_85.l0, if_pos (by omega), if_pos (by omega), if_pos (by omega), if_pos (by omega), rd_at l i h1, rd_at m i h2, hw, ih k (i + 1) (by omega) (by omega), sameL]
    unfold eqS
    cases h3 : (l[i].f0 == m[i].f0) <;> cases h4 : (l[i].f1 == m[i].f1) <;> simp
theorem eqr_some (l m : List S25) (hl : l.length ≤ 9223372036854775806) (k : Nat) (hk : l.length < k) : api_Run_85.f k l m = some (sameL l m) := by
  unfold api_Run_85.f
  by_cases h : l.length = m.length
  · rw [if_pos (by omega)]
    exact eqr_l0 l m hl h l.length k 0 (by omega) hk
  · rw [if_neg (by omega), sameL_len h]
def label_Valid5.T1 : Bool × List (List Nat × List Nat) := (true, [([], []), ([0], [0]), ([1], [1]), ([], []), ([3], [3]), ([2, 4, 2], [2, 4]), ([5, 5], [5]), ([6], [6]), ([7, 6], [6, 7]), ([8, 6, 6], [6, 8]), ([6, 9], [6, 9]), ([10, 9, 0, 1, 2, 3, 4, 5, 6, 7, 8, 9, 10], [10])])
def label_Valid5.B1 : List Nat := [0, 1, 3, 0, 8, 31, 63, 127, 255, 511, 1023, 2047]
theorem label_Valid5.tab1 : rtab .any (opsOf Try.f121 1) = label_Valid5.T1 := by kernel_rfl
theorem label_Valid5.bits1 : waitsOk label_Valid5.T1.2 label_Valid5.B1 = true := by kernel_rfl
set_option maxHeartbeats 4000000 in
set_option maxRecDepth 100000 in
theorem lv_c5 (f0 f1 : Int) (f2 f3 : ByteArray) (A : Option Addr) (c : Nat) (l : List S25) (q : Bool) (kj : Nat) (g : Nat) (W : World) (hg : W.heap[g]? = some (.cells #[.int .i64 f0, .int .i64 f1, .string f2, .string f3, .slice A l.length c] 66 (0, 0)))
    (hr : Kd.C k25 W A l.length l) (hc : l.length ≤ c) (hj : extent_Join.f kj l = some (joinP l)) (hq : api_Run_85.f kj (joinP l) l = some (sameL (joinP l) l)) (hd : extent_Disjoint.f kj l = some q) :
    Calls Try.prog 121 #[.pointer (some ⟨g, 0, none⟩)] W fun e w' => e = .returned (.bool (sameL (joinP l) l && q)) ∧ Below W.heap.size W w' := by
  have hu66 := Try.underlying66
  have z0 : W.cell? ⟨g, 4, none⟩ = some (.slice A l.length c) := fcells g W _ _ hg 4 _ rfl
  have HR := Aside0.mk hr
  have HC := Aside0.mk hc
  have HJ := Aside0.mk hj
  have HD := Aside0.mk hd
  have HB := Aside0.mk (Below.refl W.heap.size W)
  clear hg hr hc hj hd
  generalize sameL (joinP l) l = b at hq ⊢
  cases b with
  | true =>
    have HQ := Aside0.mk hq
    clear hq
    rw [Bool.true_and]
    go_enter Try.func121, Try.ntmps121
    go_wp2
    refine start_ (n := 12) (S := fun w' => w'.cell? ⟨g, 4, none⟩ = some (.slice A l.length c)) (ds := []) #[false, false, false, false, false, false, false, false, false, false, false, false] (by kernel_rfl) rfl rfl (z0) (fun hHeld => ?_)
    refine with_tabW label_Valid5.tab1 label_Valid5.bits1 (fun HT_ HW_ => ?_)
    refine pure_ (i := 0) (N := some 2) (v := ?_) (a' := ?_) #[true, false, false, false, false, false, false, false, false, false, false, false] rfl rfl (any_of HT_.out (by kernel_rfl)) (fun _ _ _ h => h) (Or.inl ⟨by rfl, ?_⟩) ?_ ?_
    rotate_left
    · intro w'
      go_simp
      with_reducible rfl
    rotate_left
    · simp only [Act.put, List.setIfInBounds_toArray, List.set_cons_zero, List.set_cons_succ, i64_w, i32_w]
      rfl
    refine pure_ (i := 3) (N := some 5) (v := ?_) (a' := ?_) #[true, false, false, true, false, false, false, false, false, false, false, false] rfl rfl (any_of HT_.out (by kernel_rfl)) (fun _ _ _ h => h) (Or.inl ⟨by rfl, ?_⟩) ?_ ?_
    rotate_left
    · intro w'
      go_simp
      with_reducible rfl
    rotate_left
    · simp only [Act.put, List.setIfInBounds_toArray, List.set_cons_zero, List.set_cons_succ, i64_w, i32_w]
      rfl
    refine take_ (i := 1) (N := some 3) (v := ?_) (a' := ?_) #[true, true, false, true, false, false, false, false, false, false, false, false] rfl rfl (take_ofW HT_.out HW_.out (by kernel_rfl)) (fun _ _ _ h => h) (Or.inl ⟨by rfl, ?_⟩) hHeld ?_ ?_
    rotate_left
    · intro w' s0
      go_simp
      with_reducible rfl
    rotate_left
    · simp only [Act.put, List.setIfInBounds_toArray, List.set_cons_zero, List.set_cons_succ, i64_w, i32_w]
      rfl
    refine take_ (i := 4) (N := some 6) (v := ?_) (a' := ?_) #[true, true, false, true, true, false, false, false, false, false, false, false] rfl rfl (take_ofW HT_.out HW_.out (by kernel_rfl)) (fun _ _ _ h => h) (Or.inl ⟨by rfl, ?_⟩) hHeld ?_ ?_
    rotate_left
    · intro w' s0
      go_simp
      with_reducible rfl
    rotate_left
    · simp only [Act.put, List.setIfInBounds_toArray, List.set_cons_zero, List.set_cons_succ, i64_w, i32_w]
      rfl
    refine one_ (i := 2) (N := some 4) #[true, true, true, true, true, false, false, false, false, false, false, false] rfl rfl (one_of HT_.out (by kernel_rfl)) (by decide) (fun K hK => ?_)
    refine goes_ Try.func39 (by kernel_rfl) rfl #[.slice A l.length c] (by rfl) rfl rfl (by simp only [List.map_toArray, List.map_cons, List.map_nil]; rfl) ?_
    with_reducible refine (extent_Join.calls kj A c l (joinP l) _ (Kd.C_drew HR.out) HC.out HJ.out).mono ?_
    rintro e w3 ⟨v, rfl, hr, hb⟩
    refine ⟨_, rfl, ?_⟩
    obtain ⟨Av, cv, rfl⟩ := Kd.R_slice hr
    have HV := Aside0.mk hr
    have m0 := Aside0.mk (below_step (below_drew1 HB.out) hb)
    have m1 := Aside0.mk (Kd.C_below (Kd.C_drew HR.out) hb)
    clear HB HR hr
    have HB := m0
    have HR := m1
    clear m0 m1
    refine hK.out _ _ ((hb.cell (World.block_lt_of_cell? _ _ hHeld)).trans hHeld) (fun hHeld => ?_)
    clear hK K
    refine norm_ (a' := ?_) ?_ ?_
    rotate_left
    · show Act.put _ (some 4) _ = _
      simp only [Act.put, List.setIfInBounds_toArray, List.set_cons_zero, List.set_cons_succ, i64_w, i32_w]
      rfl
    refine one_ (i := 5) (N := some 7) #[true, true, true, true, true, true, false, false, false, false, false, false] rfl rfl (one_of HT_.out (by kernel_rfl)) (by decide) (fun K hK => ?_)
    refine goes_ Try.func85 (by kernel_rfl) rfl #[.slice Av (joinP l).length cv, .slice A l.length c] (by rfl) rfl rfl (by simp only [List.map_toArray, List.map_cons, List.map_nil]; rfl) ?_
    with_reducible refine (api_Run_85.calls kj Av cv (joinP l) A c l true _ (Kd.R_reads' HV.out).2.2 (Kd.R_reads' HV.out).2.1 HR.out HC.out HQ.out).mono ?_
    rintro e w4 ⟨rfl, hd⟩
    refine ⟨_, rfl, ?_⟩
    have hb := hd.below
    have m0 := Aside0.mk (below_step HB.out hb)
    have m1 := Aside0.mk (Kd.C_below HR.out hb)
    clear HB HR HV hd
    have HB := m0
    have HR := m1
    clear m0 m1
    refine hK.out _ _ ((hb.cell (World.block_lt_of_cell? _ _ hHeld)).trans hHeld) (fun hHeld => ?_)
    clear hK K
    refine norm_ (a' := ?_) ?_ ?_
    rotate_left
    · show Act.put _ (some 7) _ = _
      simp only [Act.put, List.setIfInBounds_toArray, List.set_cons_zero, List.set_cons_succ, i64_w, i32_w]
      rfl
    refine pure_ (i := 6) (N := some 8) (v := ?_) (a' := ?_) #[true, true, true, true, true, true, true, false, false, false, false, false] rfl rfl (any_of HT_.out (by kernel_rfl)) (fun _ _ _ h => h) (Or.inl ⟨by rfl, ?_⟩) ?_ ?_
    rotate_left
    · intro w'
      go_simp
      with_reducible rfl
    rotate_left
    · simp only [Act.put, List.setIfInBounds_toArray, List.set_cons_zero, List.set_cons_succ, i64_w, i32_w]
      rfl
    refine pure_ (i := 7) (N := some 9) (v := ?_) (a' := ?_) #[true, true, true, true, true, true, true, true, false, false, false, false] rfl rfl (any_of HT_.out (by kernel_rfl)) (fun _ _ _ h => h) (Or.inl ⟨by rfl, ?_⟩) ?_ ?_
    rotate_left
    · intro w'
      go_simp
      with_reducible rfl
    rotate_left
    · simp only [Act.put, List.setIfInBounds_toArray, List.set_cons_zero, List.set_cons_succ, i64_w, i32_w]
      rfl
    refine take_ (i := 8) (N := some 10) (v := ?_) (a' := ?_) #[true, true, true, true, true, true, true, true, true, false, false, false] rfl rfl (take_ofW HT_.out HW_.out (by kernel_rfl)) (fun _ _ _ h => h) (Or.inl ⟨by rfl, ?_⟩) hHeld ?_ ?_
    rotate_left
    · intro w' s0
      go_simp
      with_reducible rfl
    rotate_left
    · simp only [Act.put, List.setIfInBounds_toArray, List.set_cons_zero, List.set_cons_succ, i64_w, i32_w]
      rfl
    refine one_ (i := 9) (N := some 11) #[true, true, true, true, true, true, true, true, true, true, false, false] rfl rfl (one_of HT_.out (by kernel_rfl)) (by decide) (fun K hK => ?_)
    refine goes_ Try.func25 (by kernel_rfl) rfl #[.slice A l.length c] (by rfl) rfl rfl (by simp only [List.map_toArray, List.map_cons, List.map_nil]; rfl) ?_
    with_reducible refine (extent_Disjoint.calls kj A c l q _ HR.out HC.out HD.out).mono ?_
    rintro e w5 ⟨rfl, hb⟩
    refine ⟨_, rfl, ?_⟩
    have m0 := Aside0.mk (below_step HB.out hb)
    clear HB
    have HB := m0
    clear m0
    refine hK.out _ _ ((hb.cell (World.block_lt_of_cell? _ _ hHeld)).trans hHeld) (fun hHeld => ?_)
    clear hK K
    refine norm_ (a' := ?_) ?_ ?_
    rotate_left
    · show Act.put _ (some 11) _ = _
      simp only [Act.put, List.setIfInBounds_toArray, List.set_cons_zero, List.set_cons_succ, i64_w, i32_w]
      rfl
    refine pure_ (i := 10) (N := some 12) (v := ?_) (a' := ?_) #[true, true, true, true, true, true, true, true, true, true, true, false] rfl rfl (any_of HT_.out (by kernel_rfl)) (fun _ _ _ h => h) (Or.inl ⟨by rfl, ?_⟩) ?_ ?_
    rotate_left
    · intro w'
      go_simp
      with_reducible rfl
    rotate_left
    · simp only [Act.put, List.setIfInBounds_toArray, List.set_cons_zero, List.set_cons_succ, i64_w, i32_w]
      rfl
    refine pure_ (i := 11) (N := some 1) (v := ?_) (a' := ?_) #[true, true, true, true, true, true, true, true, true, true, true, true] rfl rfl (any_of HT_.out (by kernel_rfl)) (fun _ _ _ h => h) (Or.inl ⟨by rfl, ?_⟩) ?_ ?_
    rotate_left
    · intro w'
      go_simp
      with_reducible rfl
    rotate_left
    · simp only [Act.put, List.setIfInBounds_toArray, List.set_cons_zero, List.set_cons_succ, i64_w, i32_w]
      rfl
    refine done_ (done_of HT_.out (by kernel_rfl)) ?_
    go_wp2
    go_ret
    exact ⟨rfl, HB.out⟩
  | false =>
    have HQ := Aside0.mk hq
    clear hq
    rw [Bool.false_and]
    go_enter Try.func121, Try.ntmps121
    go_wp2
    refine start_ (n := 12) (S := fun w' => w'.cell? ⟨g, 4, none⟩ = some (.slice A l.length c)) (ds := []) #[false, false, false, false, false, false, false, false, false, false, false, false] (by kernel_rfl) rfl rfl (z0) (fun hHeld => ?_)
    refine with_tabW label_Valid5.tab1 label_Valid5.bits1 (fun HT_ HW_ => ?_)
    refine pure_ (i := 0) (N := some 2) (v := ?_) (a' := ?_) #[true, false, false, false, false, false, false, false, false, false, false, false] rfl rfl (any_of HT_.out (by kernel_rfl)) (fun _ _ _ h => h) (Or.inl ⟨by rfl, ?_⟩) ?_ ?_
    rotate_left
    · intro w'
      go_simp
      with_reducible rfl
    rotate_left
    · simp only [Act.put, List.setIfInBounds_toArray, List.set_cons_zero, List.set_cons_succ, i64_w, i32_w]
      rfl
    refine pure_ (i := 3) (N := some 5) (v := ?_) (a' := ?_) #[true, false, false, true, false, false, false, false, false, false, false, false] rfl rfl (any_of HT_.out (by kernel_rfl)) (fun _ _ _ h => h) (Or.inl ⟨by rfl, ?_⟩) ?_ ?_
    rotate_left
    · intro w'
      go_simp
      with_reducible rfl
    rotate_left
    · simp only [Act.put, List.setIfInBounds_toArray, List.set_cons_zero, List.set_cons_succ, i64_w, i32_w]
      rfl
    refine take_ (i := 1) (N := some 3) (v := ?_) (a' := ?_) #[true, true, false, true, false, false, false, false, false, false, false, false] rfl rfl (take_ofW HT_.out HW_.out (by kernel_rfl)) (fun _ _ _ h => h) (Or.inl ⟨by rfl, ?_⟩) hHeld ?_ ?_
    rotate_left
    · intro w' s0
      go_simp
      with_reducible rfl
    rotate_left
    · simp only [Act.put, List.setIfInBounds_toArray, List.set_cons_zero, List.set_cons_succ, i64_w, i32_w]
      rfl
    refine take_ (i := 4) (N := some 6) (v := ?_) (a' := ?_) #[true, true, false, true, true, false, false, false, false, false, false, false] rfl rfl (take_ofW HT_.out HW_.out (by kernel_rfl)) (fun _ _ _ h => h) (Or.inl ⟨by rfl, ?_⟩) hHeld ?_ ?_
    rotate_left
    · intro w' s0
      go_simp
      with_reducible rfl
    rotate_left
    · simp only [Act.put, List.setIfInBounds_toArray, List.set_cons_zero, List.set_cons_succ, i64_w, i32_w]
      rfl
    refine one_ (i := 2) (N := some 4) #[true, true, true, true, true, false, false, false, false, false, false, false] rfl rfl (one_of HT_.out (by kernel_rfl)) (by decide) (fun K hK => ?_)
    refine goes_ Try.func39 (by kernel_rfl) rfl #[.slice A l.length c] (by rfl) rfl rfl (by simp only [List.map_toArray, List.map_cons, List.map_nil]; rfl) ?_
    with_reducible refine (extent_Join.calls kj A c l (joinP l) _ (Kd.C_drew HR.out) HC.out HJ.out).mono ?_
    rintro e w3 ⟨v, rfl, hr, hb⟩
    refine ⟨_, rfl, ?_⟩
    obtain ⟨Av, cv, rfl⟩ := Kd.R_slice hr
    have HV := Aside0.mk hr
    have m0 := Aside0.mk (below_step (below_drew1 HB.out) hb)
    have m1 := Aside0.mk (Kd.C_below (Kd.C_drew HR.out) hb)
    clear HB HR hr
    have HB := m0
    have HR := m1
    clear m0 m1
    refine hK.out _ _ ((hb.cell (World.block_lt_of_cell? _ _ hHeld)).trans hHeld) (fun hHeld => ?_)
    clear hK K
    refine norm_ (a' := ?_) ?_ ?_
    rotate_left
    · show Act.put _ (some 4) _ = _
      simp only [Act.put, List.setIfInBounds_toArray, List.set_cons_zero, List.set_cons_succ, i64_w, i32_w]
      rfl
    refine one_ (i := 5) (N := some 7) #[true, true, true, true, true, true, false, false, false, false, false, false] rfl rfl (one_of HT_.out (by kernel_rfl)) (by decide) (fun K hK => ?_)
    refine goes_ Try.func85 (by kernel_rfl) rfl #[.slice Av (joinP l).length cv, .slice A l.length c] (by rfl) rfl rfl (by simp only [List.map_toArray, List.map_cons, List.map_nil]; rfl) ?_
    with_reducible refine (api_Run_85.calls kj Av cv (joinP l) A c l false _ (Kd.R_reads' HV.out).2.2 (Kd.R_reads' HV.out).2.1 HR.out HC.out HQ.out).mono ?_
    rintro e w4 ⟨rfl, hd⟩
    refine ⟨_, rfl, ?_⟩
    have hb := hd.below
    have m0 := Aside0.mk (below_step HB.out hb)
    have m1 := Aside0.mk (Kd.C_below HR.out hb)
    clear HB HR HV hd
    have HB := m0
    have HR := m1
    clear m0 m1
    refine hK.out _ _ ((hb.cell (World.block_lt_of_cell? _ _ hHeld)).trans hHeld) (fun hHeld => ?_)
    clear hK K
    refine norm_ (a' := ?_) ?_ ?_
    rotate_left
    · show Act.put _ (some 7) _ = _
      simp only [Act.put, List.setIfInBounds_toArray, List.set_cons_zero, List.set_cons_succ, i64_w, i32_w]
      rfl
    refine pure_ (i := 6) (N := some 8) (v := ?_) (a' := ?_) #[true, true, true, true, true, true, true, false, false, false, false, false] rfl rfl (any_of HT_.out (by kernel_rfl)) (fun _ _ _ h => h) (Or.inl ⟨by rfl, ?_⟩) ?_ ?_
    rotate_left
    · intro w'
      go_simp
      with_reducible rfl
    rotate_left
    · simp only [Act.put, List.setIfInBounds_toArray, List.set_cons_zero, List.set_cons_succ, i64_w, i32_w]
      rfl
    refine pure_ (i := 7) (N := some 9) (v := undef) (a' := ?_) #[true, true, true, true, true, true, true, true, false, false, false, false] rfl rfl (any_of HT_.out (by kernel_rfl)) (fun _ _ _ h => h) (Or.inr ⟨by rfl, rfl⟩) ?_ ?_
    rotate_left
    · simp only [Act.put, List.setIfInBounds_toArray, List.set_cons_zero, List.set_cons_succ, i64_w, i32_w]
      rfl
    refine pure_ (i := 8) (N := some 10) (v := undef) (a' := ?_) #[true, true, true, true, true, true, true, true, true, false, false, false] rfl rfl (any_of HT_.out (by kernel_rfl)) (fun _ _ _ h => h) (Or.inr ⟨by rfl, rfl⟩) ?_ ?_
    rotate_left
    · simp only [Act.put, List.setIfInBounds_toArray, List.set_cons_zero, List.set_cons_succ, i64_w, i32_w]
      rfl
    refine pure_ (i := 9) (N := some 11) (v := undef) (a' := ?_) #[true, true, true, true, true, true, true, true, true, true, false, false] rfl rfl (any_of HT_.out (by kernel_rfl)) (fun _ _ _ h => h) (Or.inr ⟨by rfl, rfl⟩) ?_ ?_
    rotate_left
    · simp only [Act.put, List.setIfInBounds_toArray, List.set_cons_zero, List.set_cons_succ, i64_w, i32_w]
      rfl
    refine pure_ (i := 10) (N := some 12) (v := ?_) (a' := ?_) #[true, true, true, true, true, true, true, true, true, true, true, false] rfl rfl (any_of HT_.out (by kernel_rfl)) (fun _ _ _ h => h) (Or.inl ⟨by rfl, ?_⟩) ?_ ?_
    rotate_left
    · intro w'
      go_simp
      with_reducible rfl
    rotate_left
    · simp only [Act.put, List.setIfInBounds_toArray, List.set_cons_zero, List.set_cons_succ, i64_w, i32_w]
      rfl
    refine pure_ (i := 11) (N := some 1) (v := ?_) (a' := ?_) #[true, true, true, true, true, true, true, true, true, true, true, true] rfl rfl (any_of HT_.out (by kernel_rfl)) (fun _ _ _ h => h) (Or.inl ⟨by rfl, ?_⟩) ?_ ?_
    rotate_left
    · intro w'
      go_simp
      with_reducible rfl
    rotate_left
    · simp only [Act.put, List.setIfInBounds_toArray, List.set_cons_zero, List.set_cons_succ, i64_w, i32_w]
      rfl
    refine done_ (done_of HT_.out (by kernel_rfl)) ?_
    go_wp2
    go_ret
    exact ⟨rfl, HB.out⟩
def ttr (t : Int) : Int := if okT t = true then (t + 3) / 4 else 0
theorem ttr_some (t : Int) : label_TableTracks.f t = some (ttr t) := by
  unfold label_TableTracks.f ttr
  rw [okT_some, Option.bind_some]
  by_cases h : okT t = true
  · rw [if_pos h, if_pos h]
    have h2 : 4 ≤ t ∧ t ≤ 128 := by simpa [okT] using h
    rw [w64 (x := t + 3) (by omega) (by omega), Int.tdiv_eq_ediv_of_nonneg (by omega), w64 (by omega) (by omega)]
  · rw [if_neg h, if_neg h]
def djL (l : List S25) : Bool := sizeP l == cardT (hasT l)
/-- A label is valid on a volume of so many tracks. -/
def labelOk (f0 f1 : Int) (f2 f3 : ByteArray) (l : List S25) (tr : Int) : Bool :=
  okT tr && (idOk f0 f1 && (szOk f2 f3 && (lnOk l.length && ((sameL (joinP l) l && djL l) && !l.any (outP (ttr tr) tr)))))
def label_Valid.f (a0_0 a0_1 : Int) (a0_2 a0_3 : ByteArray) (l0_4 : List S25) (a1 : Int) : Option Bool := some (labelOk a0_0 a0_1 a0_2 a0_3 l0_4 a1)
def condsOf (f0 f1 : Int) (f2 f3 : ByteArray) (l : List S25) (tr : Int) : List Bool := [okT tr, idOk f0 f1, szOk f2 f3, lnOk l.length, sameL (joinP l) l && djL l, !l.any (outP (ttr tr) tr)]
theorem conds_all (f0 f1 : Int) (f2 f3 : ByteArray) (l : List S25) (tr : Int) : (condsOf f0 f1 f2 f3 l tr).all id = labelOk f0 f1 f2 f3 l tr := by
  simp [condsOf, labelOk]
theorem lnOk_le {n : Nat} (h : lnOk n = true) : n ≤ 16 := by
  simp [lnOk] at h
  omega
def fnsOf (g2 g3 g5 : Nat) : Array Value := #[.func (.func 117) #[] #[.pointer (some ⟨g3, 0, none⟩)], .func (.func 118) #[] #[.pointer (some ⟨g2, 0, none⟩)], .func (.func 119) #[] #[.pointer (some ⟨g2, 0, none⟩)], .func (.func 120) #[] #[.pointer (some ⟨g2, 0, none⟩)], .func (.func 121) #[] #[.pointer (some ⟨g2, 0, none⟩)], .func (.func 122) #[] #[.pointer (some ⟨g2, 0, none⟩), .pointer (some ⟨g5, 0, none⟩), .pointer (some ⟨g3, 0, none⟩)]]
set_option maxHeartbeats 4000000 in
set_option maxRecDepth 100000 in
theorem label_Valid.calls (a0_0 a0_1 : Int) (a0_2 a0_3 : ByteArray) (A0_4 : Option Addr) (c0_4 : Nat) (l0_4 : List S25) (a1 : Int) (r : Bool) (w : World) (hr0_4 : Kd.C k25 w A0_4 l0_4.length l0_4) (hc0_4 : l0_4.length ≤ c0_4) (h : label_Valid.f a0_0 a0_1 a0_2 a0_3 l0_4 a1 = some r) :
    Calls Try.prog 78 #[.agg #[.int .i64 a0_0, .int .i64 a0_1, .string a0_2, .string a0_3, .slice A0_4 l0_4.length c0_4], .int .i64 a1] w fun e w' => e = .returned (.bool r) ∧ Below w.heap.size w w' := by
  obtain rfl := Option.some.inj h
  clear h
  have HR := Aside0.mk hr0_4
  have HC := Aside0.mk hc0_4
  have HT := Aside0.mk (ttr_some a1)
  clear hr0_4 hc0_4
  rw [← conds_all]
  generalize hres : (condsOf a0_0 a0_1 a0_2 a0_3 l0_4 a1).all id = res
  have HB := Aside0.mk (Below.refl w.heap.size w)
  go_enter Try.func78, Try.ntmps78
  go_wp2_with (first
    | ((with_reducible refine gate_dst (N := 2) rfl ?_); refine box_event ?hg (N := 2) ?hd (cs := #[.int .i64 a0_0, .int .i64 a0_1, .string a0_2, .string a0_3, .slice A0_4 l0_4.length c0_4]) (t := 66) ?hr ?_; (case hd => rfl); (case hg => rfl); (case hr => first | (go_simp; done) | (go_simp; rfl)); intro g2 hg w1 hbox hb; have n0 := Aside0.mk (below_step HB.out hb); have B2 := Aside0.mk hbox; clear HB hb hbox hg; have HB := n0; clear n0)
    | ((with_reducible refine gate_dst (N := 3) rfl ?_); refine box_event ?hg (N := 3) ?hd (cs := #[.int .i64 a1]) (t := 3) ?hr ?_; (case hd => rfl); (case hg => rfl); (case hr => first | (go_simp; done) | (go_simp; rfl)); intro g3 hg w2 hbox hb; have n0 := Aside0.mk (below_step HB.out hb); have n2 := Aside0.mk (blk_below B2.out hb); have B3 := Aside0.mk hbox; clear HB B2 hb hbox hg; have HB := n0; have B2 := n2; clear n0 n2; have z0 := fcells g3 w2 _ _ B3.out 0 _ rfl)
    | (go_at_call 74; (with_reducible refine (label_TableTracks.calls a1 (ttr a1) _ HT.out).mono ?_); rintro e w3 ⟨rfl, hd⟩; have hb := hd.below; have n0 := Aside0.mk (below_step HB.out hb); have n2 := Aside0.mk (blk_below B2.out hb); have n3 := Aside0.mk (blk_below B3.out hb); clear HB B2 B3 z0 hb hd; have HB := n0; have B2 := n2; have B3 := n3; clear n0 n2 n3)
    | ((with_reducible refine gate_dst (N := 5) rfl ?_); refine box_event ?hg (N := 5) ?hd (cs := #[.int .i64 0]) (t := 3) ?hr ?_; (case hd => rfl); (case hg => rfl); (case hr => first | (go_simp; done) | (go_simp; rfl)); intro g5 hg w4 hbox hb; have n0 := Aside0.mk (below_step HB.out hb); have n2 := Aside0.mk (blk_below B2.out hb); have n3 := Aside0.mk (blk_below B3.out hb); have G5 := Aside0.mk (by rw [hg]; exact below_size HB.out : w.heap.size ≤ g5); have E2 := Aside0.mk (by rw [hg]; exact Nat.ne_of_lt (blk_lt B2.out) : g2 ≠ g5); have E3 := Aside0.mk (by rw [hg]; exact Nat.ne_of_lt (blk_lt B3.out) : g3 ≠ g5); have B5 := Aside0.mk hbox; clear HB B2 B3 hb hbox hg; have HB := n0; have B2 := n2; have B3 := n3; clear n0 n2 n3; have y0 := blk_frozen B5.out 0; have y1 := fcells g5 w4 _ _ B5.out 0 _ rfl))
  have m0 := Aside0.mk (below_alloc (below_set HB.out G5.out : Below w.heap.size w (w4.setCell ⟨g5, 0, none⟩ (.int .i64 (ttr a1)))) (.cells (fnsOf g2 g3 g5) 23))
  have m5 := Aside0.mk (blk_alloc (blk_put (cs := #[.int .i64 0]) B5.out 0 (.int .i64 (ttr a1)) rfl) (.cells (fnsOf g2 g3 g5) 23))
  have m2 := Aside0.mk (blk_alloc (blk_far B2.out (p := ⟨g5, 0, none⟩) E2.out (.int .i64 (ttr a1))) (.cells (fnsOf g2 g3 g5) 23))
  have m3 := Aside0.mk (blk_alloc (blk_far B3.out (p := ⟨g5, 0, none⟩) E3.out (.int .i64 (ttr a1))) (.cells (fnsOf g2 g3 g5) 23))
  have m17 := Aside0.mk (show ((w4.setCell ⟨g5, 0, none⟩ (.int .i64 (ttr a1))).alloc (.cells (fnsOf g2 g3 g5) 23)).heap[w4.heap.size]? = some (.cells (fnsOf g2 g3 g5) 23 (0, 0)) from by have := blk_new (w4.setCell ⟨g5, 0, none⟩ (.int .i64 (ttr a1))) (.cells (fnsOf g2 g3 g5) 23); simpa [World.setCell] using this)
  clear HB B2 B3 B5 y0 y1
  show Code.wp Try.prog _ _ _ ((w4.setCell ⟨g5, 0, none⟩ (.int .i64 (ttr a1))).alloc (.cells (fnsOf g2 g3 g5) 23))
  generalize (w4.setCell ⟨g5, 0, none⟩ (.int .i64 (ttr a1))).alloc (.cells (fnsOf g2 g3 g5) 23) = w6 at m0 m2 m3 m5 m17 ⊢
  generalize w4.heap.size = g17 at m17 ⊢
  have HB := m0
  have B2 := m2
  have B3 := m3
  have B5 := Aside0.mk (show w6.heap[g5]? = some (.cells #[.int .i64 (ttr a1)] 3 (0, 0)) from m5.out)
  have B17 := m17
  clear m0 m2 m3 m5 m17
  go_loopg [20] 6 (fun kq v20 w' => ∃ i : Nat, v20 = .int .i64 i ∧ Aside0 (kq + i = 6) ∧ Aside0 (((condsOf a0_0 a0_1 a0_2 a0_3 l0_4 a1).drop i).all id = res) ∧ Aside0 (4 ≤ i → lnOk l0_4.length = true) ∧ Aside0 (Below w.heap.size w w') ∧ Aside0 (w'.heap[g2]? = some (.cells #[.int .i64 a0_0, .int .i64 a0_1, .string a0_2, .string a0_3, .slice A0_4 l0_4.length c0_4] 66 (0, 0))) ∧ Aside0 (w'.heap[g3]? = some (.cells #[.int .i64 a1] 3 (0, 0))) ∧ Aside0 (w'.heap[g5]? = some (.cells #[.int .i64 (ttr a1)] 3 (0, 0))) ∧ Aside0 (w'.heap[g17]? = some (.cells (fnsOf g2 g3 g5) 23 (0, 0))))
  case atStart => exact ⟨0, rfl, ⟨rfl⟩, ⟨hres⟩, ⟨fun h => absurd h (by omega)⟩, HB, B2, B3, B5, B17⟩
  case round =>
    clear hres HB B2 B3 B5 B17
    obtain ⟨i, rfl, HK, HI, HL, HB, B2, B3, B5, B17⟩ := hrel
    obtain hi | rfl | rfl | rfl | rfl | rfl | rfl : 6 ≤ i ∨ i = 0 ∨ i = 1 ∨ i = 2 ∨ i = 3 ∨ i = 4 ∨ i = 5 := by omega
    · have hib : decide ((i : Int) < 6) = false := decide_eq_false (by omega)
      have h6 : i = 6 := by have := HK.out; omega
      have HI2 : true = res := by have := HI.out; rw [h6] at this; exact this
      subst HI2
      clear h6
      go_wp2
      go_ret
      exact ⟨rfl, HB.out⟩
    · have HI2 := Aside0.mk (show ((okT a1) && ((condsOf a0_0 a0_1 a0_2 a0_3 l0_4 a1).drop 1).all id) = res from HI.out)
      have z0 : wr.cell? ⟨g17, 0, none⟩ = some (.func (.func 117) #[] #[.pointer (some ⟨g3, 0, none⟩)]) := fcells g17 wr _ _ B17.out 0 _ rfl
      obtain ⟨m, rfl⟩ : ∃ m, gk = m + 1 := ⟨gk - 1, by have := HK.out; omega⟩
      have HCT := Aside0.mk (lv_c1 a1 g3 wr B3.out)
      clear HI
      generalize hcb : (okT a1) = b at HI2 HCT
      have HCB := Aside0.mk hcb
      clear hcb
      cases b with
      | true =>
        have HI3 := HI2.out
        rw [Bool.true_and] at HI3
        have HI4 := Aside0.mk HI3
        clear HI2 HI3
        go_wp2_with (go_at_call 117; (with_reducible refine HCT.out.mono ?_); rintro e w7 ⟨rfl, hb⟩; have n0 := Aside0.mk (below_step HB.out hb); have n2 := Aside0.mk (blk_below B2.out hb); have n3 := Aside0.mk (blk_below B3.out hb); have n5 := Aside0.mk (blk_below B5.out hb); have n17 := Aside0.mk (blk_below B17.out hb); clear HB B2 B3 B5 B17 hb z0)
        go_roundg m
        case measure => omega
        case rel => exact ⟨1, by rfl, ⟨by have := HK.out; omega⟩, ⟨HI4.out⟩, ⟨fun h => absurd h (by omega)⟩, n0, n2, n3, n5, n17⟩
      | false =>
        have HI3 : false = res := HI2.out
        subst HI3
        go_wp2_with (go_at_call 117; (with_reducible refine HCT.out.mono ?_); rintro e w7 ⟨rfl, hb⟩; have n0 := Aside0.mk (below_step HB.out hb); have n2 := Aside0.mk (blk_below B2.out hb); have n3 := Aside0.mk (blk_below B3.out hb); have n5 := Aside0.mk (blk_below B5.out hb); have n17 := Aside0.mk (blk_below B17.out hb); clear HB B2 B3 B5 B17 hb z0)
        go_ret
        exact ⟨rfl, n0.out⟩
    · have HI2 := Aside0.mk (show ((idOk a0_0 a0_1) && ((condsOf a0_0 a0_1 a0_2 a0_3 l0_4 a1).drop 2).all id) = res from HI.out)
      have z0 : wr.cell? ⟨g17, 1, none⟩ = some (.func (.func 118) #[] #[.pointer (some ⟨g2, 0, none⟩)]) := fcells g17 wr _ _ B17.out 1 _ rfl
      obtain ⟨m, rfl⟩ : ∃ m, gk = m + 1 := ⟨gk - 1, by have := HK.out; omega⟩
      have HCT := Aside0.mk (lv_c2 a0_0 a0_1 a0_2 a0_3 _ g2 wr B2.out)
      clear HI
      generalize hcb : (idOk a0_0 a0_1) = b at HI2 HCT
      have HCB := Aside0.mk hcb
      clear hcb
      cases b with
      | true =>
        have HI3 := HI2.out
        rw [Bool.true_and] at HI3
        have HI4 := Aside0.mk HI3
        clear HI2 HI3
        go_wp2_with (go_at_call 118; (with_reducible refine HCT.out.mono ?_); rintro e w7 ⟨rfl, hb⟩; have n0 := Aside0.mk (below_step HB.out hb); have n2 := Aside0.mk (blk_below B2.out hb); have n3 := Aside0.mk (blk_below B3.out hb); have n5 := Aside0.mk (blk_below B5.out hb); have n17 := Aside0.mk (blk_below B17.out hb); clear HB B2 B3 B5 B17 hb z0)
        go_roundg m
        case measure => omega
        case rel => exact ⟨2, by rfl, ⟨by have := HK.out; omega⟩, ⟨HI4.out⟩, ⟨fun h => absurd h (by omega)⟩, n0, n2, n3, n5, n17⟩
      | false =>
        have HI3 : false = res := HI2.out
        subst HI3
        go_wp2_with (go_at_call 118; (with_reducible refine HCT.out.mono ?_); rintro e w7 ⟨rfl, hb⟩; have n0 := Aside0.mk (below_step HB.out hb); have n2 := Aside0.mk (blk_below B2.out hb); have n3 := Aside0.mk (blk_below B3.out hb); have n5 := Aside0.mk (blk_below B5.out hb); have n17 := Aside0.mk (blk_below B17.out hb); clear HB B2 B3 B5 B17 hb z0)
        go_ret
        exact ⟨rfl, n0.out⟩
    · have HI2 := Aside0.mk (show ((szOk a0_2 a0_3) && ((condsOf a0_0 a0_1 a0_2 a0_3 l0_4 a1).drop 3).all id) = res from HI.out)
      have z0 : wr.cell? ⟨g17, 2, none⟩ = some (.func (.func 119) #[] #[.pointer (some ⟨g2, 0, none⟩)]) := fcells g17 wr _ _ B17.out 2 _ rfl
      obtain ⟨m, rfl⟩ : ∃ m, gk = m + 1 := ⟨gk - 1, by have := HK.out; omega⟩
      have HCT := Aside0.mk (lv_c3 a0_0 a0_1 a0_2 a0_3 _ g2 wr B2.out)
      clear HI
      generalize hcb : (szOk a0_2 a0_3) = b at HI2 HCT
      have HCB := Aside0.mk hcb
      clear hcb
      cases b with
      | true =>
        have HI3 := HI2.out
        rw [Bool.true_and] at HI3
        have HI4 := Aside0.mk HI3
        clear HI2 HI3
        go_wp2_with (go_at_call 119; (with_reducible refine HCT.out.mono ?_); rintro e w7 ⟨rfl, hb⟩; have n0 := Aside0.mk (below_step HB.out hb); have n2 := Aside0.mk (blk_below B2.out hb); have n3 := Aside0.mk (blk_below B3.out hb); have n5 := Aside0.mk (blk_below B5.out hb); have n17 := Aside0.mk (blk_below B17.out hb); clear HB B2 B3 B5 B17 hb z0)
        go_roundg m
        case measure => omega
        case rel => exact ⟨3, by rfl, ⟨by have := HK.out; omega⟩, ⟨HI4.out⟩, ⟨fun h => absurd h (by omega)⟩, n0, n2, n3, n5, n17⟩
      | false =>
        have HI3 : false = res := HI2.out
        subst HI3
        go_wp2_with (go_at_call 119; (with_reducible refine HCT.out.mono ?_); rintro e w7 ⟨rfl, hb⟩; have n0 := Aside0.mk (below_step HB.out hb); have n2 := Aside0.mk (blk_below B2.out hb); have n3 := Aside0.mk (blk_below B3.out hb); have n5 := Aside0.mk (blk_below B5.out hb); have n17 := Aside0.mk (blk_below B17.out hb); clear HB B2 B3 B5 B17 hb z0)
        go_ret
        exact ⟨rfl, n0.out⟩
    · have HI2 := Aside0.mk (show ((lnOk l0_4.length) && ((condsOf a0_0 a0_1 a0_2 a0_3 l0_4 a1).drop 4).all id) = res from HI.out)
      have z0 : wr.cell? ⟨g17, 3, none⟩ = some (.func (.func 120) #[] #[.pointer (some ⟨g2, 0, none⟩)]) := fcells g17 wr _ _ B17.out 3 _ rfl
      obtain ⟨m, rfl⟩ : ∃ m, gk = m + 1 := ⟨gk - 1, by have := HK.out; omega⟩
      have HCT := Aside0.mk (lv_c4 a0_0 a0_1 a0_2 a0_3 _ _ _ g2 wr B2.out)
      clear HI
      generalize hcb : (lnOk l0_4.length) = b at HI2 HCT
      have HCB := Aside0.mk hcb
      clear hcb
      cases b with
      | true =>
        have HI3 := HI2.out
        rw [Bool.true_and] at HI3
        have HI4 := Aside0.mk HI3
        clear HI2 HI3
        go_wp2_with (go_at_call 120; (with_reducible refine HCT.out.mono ?_); rintro e w7 ⟨rfl, hb⟩; have n0 := Aside0.mk (below_step HB.out hb); have n2 := Aside0.mk (blk_below B2.out hb); have n3 := Aside0.mk (blk_below B3.out hb); have n5 := Aside0.mk (blk_below B5.out hb); have n17 := Aside0.mk (blk_below B17.out hb); clear HB B2 B3 B5 B17 hb z0)
        go_roundg m
        case measure => omega
        case rel => exact ⟨4, by rfl, ⟨by have := HK.out; omega⟩, ⟨HI4.out⟩, ⟨fun _ => HCB.out⟩, n0, n2, n3, n5, n17⟩
      | false =>
        have HI3 : false = res := HI2.out
        subst HI3
        go_wp2_with (go_at_call 120; (with_reducible refine HCT.out.mono ?_); rintro e w7 ⟨rfl, hb⟩; have n0 := Aside0.mk (below_step HB.out hb); have n2 := Aside0.mk (blk_below B2.out hb); have n3 := Aside0.mk (blk_below B3.out hb); have n5 := Aside0.mk (blk_below B5.out hb); have n17 := Aside0.mk (blk_below B17.out hb); clear HB B2 B3 B5 B17 hb z0)
        go_ret
        exact ⟨rfl, n0.out⟩
    · have HI2 := Aside0.mk (show ((sameL (joinP l0_4) l0_4 && djL l0_4) && ((condsOf a0_0 a0_1 a0_2 a0_3 l0_4 a1).drop 5).all id) = res from HI.out)
      have z0 : wr.cell? ⟨g17, 4, none⟩ = some (.func (.func 121) #[] #[.pointer (some ⟨g2, 0, none⟩)]) := fcells g17 wr _ _ B17.out 4 _ rfl
      obtain ⟨m, rfl⟩ : ∃ m, gk = m + 1 := ⟨gk - 1, by have := HK.out; omega⟩
      have hle := lnOk_le (HL.out (by omega))
      have HJ := Aside0.mk (join_some l0_4 (by omega) 300 (by omega))
      have HQ := Aside0.mk (eqr_some (joinP l0_4) l0_4 (by have := joinP_length l0_4; omega) 300 (by have := joinP_length l0_4; omega))
      have HD := Aside0.mk (show extent_Disjoint.f 300 l0_4 = some (djL l0_4) from disjoint_some l0_4 (by omega) 300 (by omega))
      clear hle
      have HCT := Aside0.mk (lv_c5 a0_0 a0_1 a0_2 a0_3 A0_4 c0_4 l0_4 (djL l0_4) 300 g2 wr B2.out (Kd.C_below HR.out HB.out) HC.out HJ.out HQ.out HD.out)
      clear HI
      generalize hcb : (sameL (joinP l0_4) l0_4 && djL l0_4) = b at HI2 HCT
      have HCB := Aside0.mk hcb
      clear hcb
      cases b with
      | true =>
        have HI3 := HI2.out
        rw [Bool.true_and] at HI3
        have HI4 := Aside0.mk HI3
        clear HI2 HI3
        go_wp2_with (go_at_call 121; (with_reducible refine HCT.out.mono ?_); rintro e w7 ⟨rfl, hb⟩; have n0 := Aside0.mk (below_step HB.out hb); have n2 := Aside0.mk (blk_below B2.out hb); have n3 := Aside0.mk (blk_below B3.out hb); have n5 := Aside0.mk (blk_below B5.out hb); have n17 := Aside0.mk (blk_below B17.out hb); clear HB B2 B3 B5 B17 hb z0)
        go_roundg m
        case measure => omega
        case rel => exact ⟨5, by rfl, ⟨by have := HK.out; omega⟩, ⟨HI4.out⟩, ⟨fun _ => HL.out (by omega)⟩, n0, n2, n3, n5, n17⟩
      | false =>
        have HI3 : false = res := HI2.out
        subst HI3
        go_wp2_with (go_at_call 121; (with_reducible refine HCT.out.mono ?_); rintro e w7 ⟨rfl, hb⟩; have n0 := Aside0.mk (below_step HB.out hb); have n2 := Aside0.mk (blk_below B2.out hb); have n3 := Aside0.mk (blk_below B3.out hb); have n5 := Aside0.mk (blk_below B5.out hb); have n17 := Aside0.mk (blk_below B17.out hb); clear HB B2 B3 B5 B17 hb z0)
        go_ret
        exact ⟨rfl, n0.out⟩
    · have HI2 := Aside0.mk (show ((!l0_4.any (outP (ttr a1) a1)) && ((condsOf a0_0 a0_1 a0_2 a0_3 l0_4 a1).drop 6).all id) = res from HI.out)
      have z0 : wr.cell? ⟨g17, 5, none⟩ = some (.func (.func 122) #[] #[.pointer (some ⟨g2, 0, none⟩), .pointer (some ⟨g5, 0, none⟩), .pointer (some ⟨g3, 0, none⟩)]) := fcells g17 wr _ _ B17.out 5 _ rfl
      obtain ⟨m, rfl⟩ : ∃ m, gk = m + 1 := ⟨gk - 1, by have := HK.out; omega⟩
      have HCT := Aside0.mk (lv_c6 (ttr a1) a1 a0_0 a0_1 a0_2 a0_3 A0_4 c0_4 l0_4 g2 g5 g3 wr B2.out B5.out B3.out (Kd.C_below HR.out HB.out) HC.out)
      clear HI
      generalize hcb : (!l0_4.any (outP (ttr a1) a1)) = b at HI2 HCT
      have HCB := Aside0.mk hcb
      clear hcb
      cases b with
      | true =>
        have HI3 := HI2.out
        rw [Bool.true_and] at HI3
        have HI4 := Aside0.mk HI3
        clear HI2 HI3
        go_wp2_with (go_at_call 122; (with_reducible refine HCT.out.mono ?_); rintro e w7 ⟨rfl, hb⟩; have n0 := Aside0.mk (below_step HB.out hb); have n2 := Aside0.mk (blk_below B2.out hb); have n3 := Aside0.mk (blk_below B3.out hb); have n5 := Aside0.mk (blk_below B5.out hb); have n17 := Aside0.mk (blk_below B17.out hb); clear HB B2 B3 B5 B17 hb z0)
        go_roundg m
        case measure => omega
        case rel => exact ⟨6, by rfl, ⟨by have := HK.out; omega⟩, ⟨HI4.out⟩, ⟨fun _ => HL.out (by omega)⟩, n0, n2, n3, n5, n17⟩
      | false =>
        have HI3 : false = res := HI2.out
        subst HI3
        go_wp2_with (go_at_call 122; (with_reducible refine HCT.out.mono ?_); rintro e w7 ⟨rfl, hb⟩; have n0 := Aside0.mk (below_step HB.out hb); have n2 := Aside0.mk (blk_below B2.out hb); have n3 := Aside0.mk (blk_below B3.out hb); have n5 := Aside0.mk (blk_below B5.out hb); have n17 := Aside0.mk (blk_below B17.out hb); clear HB B2 B3 B5 B17 hb z0)
        go_ret
        exact ⟨rfl, n0.out⟩
end Go.Proofs.Ytghpmenoiimpoaa.P
