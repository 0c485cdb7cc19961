import Derived.Test.YtghpmenoiimpoaaDHSortR
import Derived.Test.YtghpmenoiimpoaaDHLay
namespace Go.Proofs.Ytghpmenoiimpoaa.P
open Go.RowKit Go.Proofs.YtghpmenoiimpoaaW.PrintWords Go.Proofs.YtghpmenoiimpoaaW.PrintLast Go.Proofs.YtghpmenoiimpoaaW.PrintMore
set_option linter.unusedVariables false
attribute [local go_sem] max2_int min2_int max_two min_two
def takeGo : Int → List S25 → List S25 → List S25 × Int
  | n, acc, [] => (acc, n)
  | n, acc, r :: rs => if n = 0 then (acc, n) else takeGo (wrap64 (n - mn r.f1 n)) (acc ++ [⟨r.f0, mn r.f1 n⟩]) rs
def allocFin (most : Int) (t : List S25 × Int) : List S25 × Int := if t.2 > 0 ∨ (t.1.length : Int) > most then ([], 14) else (t.1, 0)
def allocP (l : List S25) (n most : Int) : List S25 × Int :=
  if n < 1 ∨ most < 1 then ([], 1) else
  if (bestP l n).2.2 = true then ([⟨(bestP l n).1, (bestP l n).2.1⟩], 0) else allocFin most (takeGo n [] (sortR (runsOf (hasT l))))
def space_Allocate.f (l0 : List S25) (a1 a2 : Int) : Option (List S25 × Int) := some ((allocP l0 a1 a2).1, (allocP l0 a1 a2).2)
theorem runsOf_incr (p : Nat → Bool) : (runsOf p).Pairwise fun r s => r.f0 < s.f0 :=
  (runsOf_chain p).imp_of_mem (fun {a b} ha _ h => by have := runsOf_bd p a ha; omega)
theorem R_lit1 (W : World) (base N : Nat) (ok : Nat → Prop) (hN : N = W.heap.size) (hok : ok N) (hb : base ≤ W.heap.size) (x y : Int) : Kd.R k25 25 (W.alloc (.cells #[.int .i64 x, .int .i64 y] 25)) base ok (.slice (some ⟨N, 0, none⟩) 1 1) [⟨x, y⟩] := by
  subst hN
  refine ⟨fun k hk => ?_, OwnRow.lit W base (ps := [(⟨x, y⟩ : S25)]) (inner := [.int .i64 x, .int .i64 y]) ?_ hb (by simp)⟩
  · have : W.heap.size = k := by simpa [Value.ownBlock] using hk
    exact this ▸ hok
  · refine ⟨rfl, fun j p hj => ?_⟩
    have hj0 : j = 0 := by
      have := (List.getElem?_eq_some_iff.1 hj).1
      simpa using this
    subst hj0
    obtain rfl : p = ⟨x, y⟩ := by simpa using hj.symm
    exact k25_mkM _ _ _ _
def SortRunSaid : Prop := ∀ (W : World) (base : Nat) (v : Value) (xs : List S25), Kd.R k25 25 W base (fun _ => True) v xs → (xs.Pairwise fun r s => r.f0 < s.f0) → xs.length ≤ 128 → (∀ r ∈ xs, 0 ≤ r.f0 ∧ 1 ≤ r.f1 ∧ r.f0 + r.f1 ≤ 128) →
  Calls Try.prog 66 #[v, .func (.func 65) #[] #[]] W fun e w' => e = .returned (.tuple #[]) ∧ Kd.R k25 25 w' base (fun _ => True) v (sortR xs) ∧ ∀ w : World, Below w.heap.size w W → w.heap.size ≤ base → Below w.heap.size w w'
set_option maxHeartbeats 4000000 in
set_option maxRecDepth 100000 in
theorem allocate_walk (hS : SortRunSaid) (A0 : Option Addr) (c0 : Nat) (l0 : List S25) (a1 a2 : Int) (r1 : List S25) (r2 : Int) (w : World) (hr0 : Kd.C k25 w A0 l0.length l0) (hc0 : l0.length ≤ c0) (h : allocP l0 a1 a2 = (r1, r2)) :
    Calls Try.prog 18 #[.slice A0 l0.length c0, .int .i64 a1, .int .i64 a2] w fun e w' => ∃ v0_ : Value, e = .returned (.tuple #[v0_, .int .i64 r2]) ∧ Kd.R k25 25 w' w.heap.size (fun _ => True) v0_ r1 ∧ Below w.heap.size w w' := by
  have hu25 := Try.underlying25
  have HR0 := Aside0.mk hr0
  have HC0 := Aside0.mk hc0
  clear hr0 hc0
  have HB := Aside0.mk (Below.refl w.heap.size w)
  by_cases h1 : a1 < 1
  · have e : allocP l0 a1 a2 = ([], 1) := if_pos (.inl h1)
    rw [e] at h
    injection h with e1 e2
    subst e1; subst e2
    clear e
    have h1b : decide (a1 < 1) = true := decide_eq_true h1
    go_enter Try.func18, Try.ntmps18
    go_wp2
    go_ret2
    exact ⟨_, rfl, Kd.R_nil _ _ _ _ _, HB.out⟩
  · have h1b : decide (a1 < 1) = false := decide_eq_false h1
    by_cases h2 : a2 < 1
    · have e : allocP l0 a1 a2 = ([], 1) := if_pos (.inr h2)
      rw [e] at h
      injection h with e1 e2
      subst e1; subst e2
      clear e
      have h2b : decide (a2 < 1) = true := decide_eq_true h2
      go_enter Try.func18, Try.ntmps18
      go_wp2
      go_ret2
      exact ⟨_, rfl, Kd.R_nil _ _ _ _ _, HB.out⟩
    · have h2b : decide (a2 < 1) = false := decide_eq_false h2
      have e : allocP l0 a1 a2 = if (bestP l0 a1).2.2 = true then ([⟨(bestP l0 a1).1, (bestP l0 a1).2.1⟩], 0) else allocFin a2 (takeGo a1 [] (sortR (runsOf (hasT l0)))) := if_neg (by omega)
      rw [e] at h
      clear e
      have hbest := best_some l0 a1 200 (by decide)
      generalize bestP l0 a1 = bb at hbest h
      obtain ⟨bf, bc, bo⟩ := bb
      dsimp only at hbest h
      have HBest := Aside0.mk hbest
      clear hbest
      cases bo with
      | true =>
        rw [if_pos rfl] at h
        injection h with e1 e2
        subst e1; subst e2
        go_enter Try.func18, Try.ntmps18
        go_wp2_with (first
          | (go_at_call 16; (with_reducible refine (space_Best.calls 200 A0 c0 l0 a1 bf bc true _ (Kd.C_below HR0.out HB.out) HC0.out HBest.out).mono ?_); rintro e w1 ⟨rfl, hb⟩; have n0 := Aside0.mk (below_step HB.out hb); clear HB hb; have HB := n0; clear n0)
          | ((with_reducible refine gate_dst (N := 8) rfl ?_); refine box_event ?hg (N := 8) ?hd (cs := #[.int .i64 0, .int .i64 0]) (t := 25) ?hr ?_; (case hd => rfl); (case hg => rfl); (case hr => first | (go_simp; done) | (go_simp; rfl)); intro g8 hg w2 hbox hb; have n0 := Aside0.mk (below_step HB.out hb); have B8 := Aside0.mk hbox; have G8 := Aside0.mk (by rw [hg]; exact below_size HB.out : w.heap.size ≤ g8); clear HB; have HB := n0; clear n0 hb hbox hg; have z0 : w2.cell? ⟨g8, 0, none⟩ = some (.int .i64 0) := (blk_cell B8.out 0).trans rfl; have z1 : w2.cell? ⟨g8, 1, none⟩ = some (.int .i64 0) := (blk_cell B8.out 1).trans rfl; have f0 := blk_frozen B8.out 0; have f1 := blk_frozen B8.out 1))
        go_ret2
        exact ⟨_, rfl, R_lit1 _ _ _ _ (by simp [World.setCell]) trivial (below_size (below_set (below_set HB.out G8.out) G8.out)) _ _, below_alloc (below_set (below_set HB.out G8.out) G8.out) _⟩
      | false =>
        rw [if_neg (by decide)] at h
        have HFin0 := Aside0.mk h
        clear h
        go_enter Try.func18, Try.ntmps18
        go_wp2_with (first
          | (go_at_call 16; (with_reducible refine (space_Best.calls 200 A0 c0 l0 a1 bf bc false _ (Kd.C_below HR0.out HB.out) HC0.out HBest.out).mono ?_); rintro e w1 ⟨rfl, hb⟩; have n0 := Aside0.mk (below_step HB.out hb); clear HB hb; have HB := n0; clear n0)
          | ((with_reducible refine gate_dst (N := 8) rfl ?_); refine box_event ?hg (N := 8) ?hd (cs := #[.int .i64 0, .int .i64 0]) (t := 25) ?hr ?_; (case hd => rfl); (case hg => rfl); (case hr => first | (go_simp; done) | (go_simp; rfl)); intro g8 hg w2 hbox hb; have n0 := Aside0.mk (below_step HB.out hb); have B8 := Aside0.mk hbox; have G8 := Aside0.mk (by rw [hg]; exact below_size HB.out : w.heap.size ≤ g8); clear HB; have HB := n0; clear n0 hb hbox hg; have z0 : w2.cell? ⟨g8, 0, none⟩ = some (.int .i64 0) := (blk_cell B8.out 0).trans rfl; have z1 : w2.cell? ⟨g8, 1, none⟩ = some (.int .i64 0) := (blk_cell B8.out 1).trans rfl; have f0 := blk_frozen B8.out 0; have f1 := blk_frozen B8.out 1)
          | (go_at_call 48; (with_reducible refine (extent_Normal.calls A0 c0 l0 _ _ (Kd.C_below HR0.out (below_set (below_set HB.out G8.out) G8.out)) HC0.out rfl).mono ?_); rintro e w3 ⟨vl, rfl, hr, hb⟩; have n0 := Aside0.mk (below_step (below_set (below_set HB.out G8.out) G8.out) hb); have HL := Aside0.mk (Kd.R_lower hr (below_size (below_set (below_set HB.out G8.out) G8.out))); clear HB hr hb z0 z1 f0 f1 B8; have HB := n0; clear n0))
        refine (hS _ _ vl _ HL.out (runsOf_incr _) (runsOf_length _) (runsOf_bd _)).mono ?_
        rintro e w4 ⟨rfl, hr, hb⟩
        have n0 := Aside0.mk (hb w HB.out (Nat.le_refl _))
        have n1 := Aside0.mk hr
        clear HB HL hr hb
        have HB := n0
        have HL := n1
        clear n0 n1
        have hsl : (sortR (runsOf (hasT l0))).length ≤ 128 := by rw [(sortR_perm (fun r hr => by have := runsOf_bd _ r hr; omega)).length_eq]; exact runsOf_length _
        have hfin0 := HFin0.out
        clear HFin0
        generalize sortR (runsOf (hasT l0)) = sr at HL hsl hfin0
        obtain ⟨A, c, rfl⟩ := Kd.R_slice HL.out
        have HC := Aside0.mk (Kd.R_reads' HL.out).2.2
        clear HL G8
        have HFin := Aside0.mk hfin0
        clear hfin0
        go_wp2
        go_loopg [1, 12, 37] sr.length (fun kq v1 v12 v37 w' => ∃ (j : Nat) (n : Int) (acc : List S25), v1 = .int .i64 n ∧ v37 = .int .i64 j ∧ Aside0 (kq + j = sr.length) ∧ Aside0 (acc.length = j) ∧ Aside0 (allocFin a2 (takeGo n acc (sr.drop j)) = (r1, r2)) ∧ Aside0 (Kd.R k25 25 w' w4.heap.size (fun _ => True) v12 acc) ∧ Aside0 (Below w4.heap.size w4 w'))
        case atStart => exact ⟨0, a1, [], rfl, rfl, ⟨rfl⟩, ⟨rfl⟩, HFin, ⟨Kd.R_nil _ _ _ _ _⟩, ⟨Below.refl _ _⟩⟩
        case round =>
          clear HFin
          obtain ⟨j, n, acc, rfl, rfl, HK, HA, HF, HO, HB4⟩ := hrel
          by_cases hj : j < sr.length
          · have hjj : (j : Int) < (sr.length : Int) := by omega
            obtain ⟨ad, e1, hx0, hx1⟩ := at_T25 HC.out (j : Int) (by omega) (by omega)
            cases e1
            have hrd : rd_T25 sr (j : Int) = sr[j] := by simp [rd_T25, List.getD_eq_getElem?_getD, hj]
            rw [hrd] at hx0 hx1
            rw [Int.toNat_natCast] at hx0 hx1
            clear hrd
            replace hx0 := (HB4.out.cell (World.block_lt_of_cell? _ _ hx0)).trans hx0
            replace hx1 := (HB4.out.cell (World.block_lt_of_cell? _ _ hx1)).trans hx1
            have HF2 := HF.out
            rw [List.drop_eq_getElem_cons hj, takeGo] at HF2
            clear HF
            by_cases hn : n = 0
            · rw [if_pos hn] at HF2
              subst hn
              obtain ⟨Ao, co, rfl⟩ := Kd.R_slice HO.out
              have hfinc : (r1, r2) = if (acc.length : Int) > a2 then ([], 14) else (acc, 0) := by
                rw [← HF2, allocFin]
                by_cases hq : (acc.length : Int) > a2
                · rw [if_pos hq, if_pos (.inr hq)]
                · rw [if_neg hq, if_neg (fun h => h.elim (fun h => absurd h (by simp)) hq)]
              clear HF2
              by_cases hq : (acc.length : Int) > a2
              · rw [if_pos hq] at hfinc
                have HFc := Aside0.mk hfinc
                clear hfinc
                have hqb : decide (a2 < (acc.length : Int)) = true := decide_eq_true hq
                go_wp2_with ((with_reducible refine gate_dst (N := 14) rfl ?_); refine box_event ?hg (N := 14) ?hd (cs := #[.int .i64 0, .int .i64 0]) (t := 25) ?hr ?_; (case hd => rfl); (case hg => rfl); (case hr => first | (go_simp; done) | (go_simp; rfl)); intro g14 hg w5 hbox hb; have n0 := Aside0.mk (below_step HB4.out hb); have HW := Aside0.mk hb; have B14 := Aside0.mk hbox; have G14 := Aside0.mk (by rw [hg]; exact below_size HB4.out : w4.heap.size ≤ g14); have N14 := Aside0.mk (by rw [hg]; exact Nat.le_refl _ : wr.heap.size ≤ g14); clear HB4; have HB4 := n0; clear n0 hb hbox hg; have z0 : w5.cell? ⟨g14, 0, none⟩ = some (.int .i64 0) := (blk_cell B14.out 0).trans rfl; have z1 : w5.cell? ⟨g14, 1, none⟩ = some (.int .i64 0) := (blk_cell B14.out 1).trans rfl; have f0 := blk_frozen B14.out 0; have f1 := blk_frozen B14.out 1)
                go_ret2
                exact ⟨_, by rw [(Prod.mk.inj HFc.out).2]; rfl, by rw [(Prod.mk.inj HFc.out).1]; exact Kd.R_nil _ _ _ _ _, below_step HB.out (below_set (below_set HB4.out G14.out) G14.out)⟩
              · rw [if_neg hq] at hfinc
                have HFc := Aside0.mk hfinc
                clear hfinc
                have hqb : decide (a2 < (acc.length : Int)) = false := decide_eq_false hq
                go_wp2_with ((with_reducible refine gate_dst (N := 14) rfl ?_); refine box_event ?hg (N := 14) ?hd (cs := #[.int .i64 0, .int .i64 0]) (t := 25) ?hr ?_; (case hd => rfl); (case hg => rfl); (case hr => first | (go_simp; done) | (go_simp; rfl)); intro g14 hg w5 hbox hb; have n0 := Aside0.mk (below_step HB4.out hb); have HW := Aside0.mk hb; have B14 := Aside0.mk hbox; have G14 := Aside0.mk (by rw [hg]; exact below_size HB4.out : w4.heap.size ≤ g14); have N14 := Aside0.mk (by rw [hg]; exact Nat.le_refl _ : wr.heap.size ≤ g14); clear HB4; have HB4 := n0; clear n0 hb hbox hg; have z0 : w5.cell? ⟨g14, 0, none⟩ = some (.int .i64 0) := (blk_cell B14.out 0).trans rfl; have z1 : w5.cell? ⟨g14, 1, none⟩ = some (.int .i64 0) := (blk_cell B14.out 1).trans rfl; have f0 := blk_frozen B14.out 0; have f1 := blk_frozen B14.out 1)
                go_ret2
                exact ⟨_, by rw [(Prod.mk.inj HFc.out).2]; rfl, by rw [(Prod.mk.inj HFc.out).1]; exact Kd.R_lower (Kd.R_below HO.out (below_set (below_set HW.out N14.out) N14.out)) HB.out.size, below_step HB.out (below_set (below_set HB4.out G14.out) G14.out)⟩
            · rw [if_neg hn] at HF2
              have hnb : (n == 0) = false := beq_eq_false_iff_ne.mpr hn
              have HF3 := Aside0.mk HF2
              clear HF2
              obtain ⟨m, rfl⟩ : ∃ m, gk = m + 1 := ⟨gk - 1, by have := HK.out; omega⟩
              go_wp2_with (first
                | ((with_reducible refine gate_dst (N := 14) rfl ?_); refine box_event ?hg (N := 14) ?hd (cs := #[.int .i64 0, .int .i64 0]) (t := 25) ?hr ?_; (case hd => rfl); (case hg => rfl); (case hr => first | (go_simp; done) | (go_simp; rfl)); intro g14 hg w5 hbox hb; have n0 := Aside0.mk (below_step HB4.out hb); have HW := Aside0.mk hb; have B14 := Aside0.mk hbox; have G14 := Aside0.mk (by rw [hg]; exact below_size HB4.out : w4.heap.size ≤ g14); have N14 := Aside0.mk (by rw [hg]; exact Nat.le_refl _ : wr.heap.size ≤ g14); clear HB4; have HB4 := n0; clear n0 hb hbox hg; have z0 : w5.cell? ⟨g14, 0, none⟩ = some (.int .i64 0) := (blk_cell B14.out 0).trans rfl; have z1 : w5.cell? ⟨g14, 1, none⟩ = some (.int .i64 0) := (blk_cell B14.out 1).trans rfl; have f0 := blk_frozen B14.out 0; have f1 := blk_frozen B14.out 1)
                | ((with_reducible refine gate_store (t := 3) (p := 47) rfl ?_); refine store_event (t := 3) (p := 47) (v := ?vo) (w1 := ((w5.setCell ⟨g14, 0, none⟩ (.int .i64 sr[j].f0)).setCell ⟨g14, 1, none⟩ (.int .i64 sr[j].f1)).setCell ⟨g14, 1, none⟩ (.int .i64 (mn sr[j].f1 n))) ?hg ?ho ?hn ?hr ?_; (case ho => rfl); (case hg => rfl); (case hn => rfl); (case hr => first | (go_simp; done) | (go_simp; rfl)); intro w6 hw; have n0 := Aside0.mk (show w6.heap[g14]? = some (.cells #[.int .i64 sr[j].f0, .int .i64 (mn sr[j].f1 n)] 25 (0, 0)) by rw [hw]; exact blk_put (cs := #[.int .i64 sr[j].f0, .int .i64 sr[j].f1]) (blk_put (cs := #[.int .i64 sr[j].f0, .int .i64 0]) (blk_put (cs := #[.int .i64 0, .int .i64 0]) B14.out 0 _ rfl) 1 _ rfl) 1 _ rfl); have n1 := Aside0.mk (show Below wr.heap.size wr w6 by rw [hw]; exact below_set (below_set (below_set HW.out N14.out) N14.out) N14.out); have n2 := Aside0.mk (show Below w4.heap.size w4 w6 by rw [hw]; exact below_set (below_set (below_set HB4.out G14.out) G14.out) G14.out); clear hw B14 HW HB4 z0 z1 f0 f1; have B14 := n0; have HW := n1; have HB4 := n2; clear n0 n1 n2; have z0 : w6.cell? ⟨g14, 0, none⟩ = some (.int .i64 sr[j].f0) := (blk_cell B14.out 0).trans rfl; have z1 : w6.cell? ⟨g14, 1, none⟩ = some (.int .i64 (mn sr[j].f1 n)) := (blk_cell B14.out 1).trans rfl)
                | ((with_reducible refine gate_builtin (b := .append) (xs := #[.tmp 52, .tmp 54]) rfl ?_); at_builtin; refine Kd.R_append k25 (w0 := w4) w4.heap.size rfl (.tmp 52) (.tmp 54) 22 25 (.agg #[(.int .i64 0), (.int .i64 0)]) 16 rfl Try.underlying22 info25 rfl (by decide) (by omega) u12 acc (⟨sr[j].f0, mn sr[j].f1 n⟩ : S25) [.int .i64 sr[j].f0, .int .i64 (mn sr[j].f1 n)] (fun _ => True) (fun _ => False) rfl rfl (k25_mkM _ _ _ (⟨sr[j].f0, mn sr[j].f1 n⟩ : S25)) (fun _ hk => hk.elim) (fun _ _ => trivial) ?aO ?aB ?aS ?aL ?_; (case aO => exact Kd.R_below HO.out HW.out); (case aB => exact HB4.out); (case aS => exact HB4.out.size); (case aL => have := HA.out; omega); intro v1 w7 ho hb hg hat; have n0 := Aside0.mk hb; have n1 := Aside0.mk ho; clear HB4; have HB4 := n0; have HO2 := n1; clear n0 n1 ho hb hg hat))
              all_goals
                go_roundg m
                case measure => omega
                case rel => exact ⟨j + 1, _, _, rfl, by go_num, ⟨by have := HK.out; omega⟩, ⟨by rw [List.length_append, HA.out]; rfl⟩, HF3, HO2, HB4⟩
          · obtain rfl : j = sr.length := by have := HK.out; omega
            have HF2 := HF.out
            rw [List.drop_length, takeGo] at HF2
            clear HF
            obtain ⟨Ao, co, rfl⟩ := Kd.R_slice HO.out
            by_cases hn : n > 0
            · have hfinc : (r1, r2) = ([], 14) := by rw [← HF2, allocFin, if_pos (.inl hn)]
              have HFc := Aside0.mk hfinc
              clear hfinc HF2
              have hnb : decide (0 < n) = true := decide_eq_true hn
              go_wp2
              go_ret2
              exact ⟨_, by rw [(Prod.mk.inj HFc.out).2]; rfl, by rw [(Prod.mk.inj HFc.out).1]; exact Kd.R_nil _ _ _ _ _, below_step HB.out HB4.out⟩
            · have hnb : decide (0 < n) = false := decide_eq_false hn
              by_cases hq : (acc.length : Int) > a2
              · have hfinc : (r1, r2) = ([], 14) := by rw [← HF2, allocFin, if_pos (.inr hq)]
                have HFc := Aside0.mk hfinc
                clear hfinc HF2
                have hqb : decide (a2 < (acc.length : Int)) = true := decide_eq_true hq
                go_wp2
                go_ret2
                exact ⟨_, by rw [(Prod.mk.inj HFc.out).2]; rfl, by rw [(Prod.mk.inj HFc.out).1]; exact Kd.R_nil _ _ _ _ _, below_step HB.out HB4.out⟩
              · have hfinc : (r1, r2) = (acc, 0) := by rw [← HF2, allocFin, if_neg (fun h => h.elim hn hq)]
                have HFc := Aside0.mk hfinc
                clear hfinc HF2
                have hqb : decide (a2 < (acc.length : Int)) = false := decide_eq_false hq
                go_wp2
                go_ret2
                exact ⟨_, by rw [(Prod.mk.inj HFc.out).2]; rfl, by rw [(Prod.mk.inj HFc.out).1]; exact Kd.R_lower HO.out HB.out.size, below_step HB.out HB4.out⟩
open Go.Sort
theorem closure65 (x y : RB) (W : World) : Calls Try.prog 65 #[.agg #[.int .i64 (x.1.val : Int), .int .i64 (x.2.val : Int)], .agg #[.int .i64 (y.1.val : Int), .int .i64 (y.2.val : Int)]] W fun e w' => e = .returned (.int .i64 (cfB x y)) ∧ ∃ q os', w' = grow (W.drewN q) os' := by
  have hx1 := x.1.isLt
  have hx2 := x.2.isLt
  have hy1 := y.1.isLt
  have hy2 := y.2.isLt
  have hc : cfB x y = if x.2.val = y.2.val then (x.1.val : Int) - (y.1.val : Int) else (y.2.val : Int) - (x.2.val : Int) := by
    unfold cfB
    by_cases h : x.2 = y.2
    · rw [if_pos h, if_pos (by rw [h])]
    · rw [if_neg h, if_neg (fun e => h (Fin.ext e))]
  generalize cfB x y = r at hc ⊢
  generalize x.1.val = a at *
  generalize x.2.val = b at *
  generalize y.1.val = c at *
  generalize y.2.val = d at *
  by_cases h : b = d
  · subst h
    rw [if_pos rfl] at hc
    subst hc
    go_enter Try.func65, Try.ntmps65
    go_wp2
    go_ret
    exact ⟨rfl, 0, _, by rw [alloc_eq_grow, alloc_eq_grow, grow_grow]; rfl⟩
  · rw [if_neg h] at hc
    subst hc
    have hb : ((b : Int) != (d : Int)) = true := by rw [bne_iff_ne]; omega
    go_enter Try.func65, Try.ntmps65
    go_wp2
    go_ret
    exact ⟨rfl, 0, _, by rw [alloc_eq_grow, alloc_eq_grow, grow_grow]; rfl⟩
theorem sort_run : SortRunSaid := by
  intro W base v xs HO hch hl128 hbd
  rcases Nat.eq_zero_or_pos xs.length with h0 | hp
  · obtain rfl : xs = [] := List.eq_nil_of_length_eq_zero h0
    obtain ⟨A, c, rfl⟩ := Kd.R_slice HO
    have hcon := AnyF.slices_SortFunc_none Try.sortRun A c (.func (.func 65) #[] #[]) W
    change Calls Try.prog 66 _ _ _ at hcon
    refine hcon.mono ?_
    rintro e w' ⟨rfl, rfl⟩
    have e0 : sortR ([] : List S25) = [] := (sortR_perm (l := []) (fun r hr => by simp at hr)).eq_nil
    exact ⟨rfl, by rw [e0]; exact HO, fun w hb _ => hb⟩
  · obtain ⟨g, cap, rfl, hbg, hgl, _⟩ := Kd.R_form HO hp
    have eg : ∀ args w, (callFunc 65 args).run Try.prog w = .ok (.enter 65 args) w := enters_of Try.func65 (by kernel_rfl) rfl
    have hsize : (xs.map toB).toArray.size = xs.length := by simp
    have hcmp : CmpLays Try.prog 65 #[] encB 2 cfB g 0 (xs.map toB).toArray.size W := by
      intro m os dk _ x y
      have h := closure65 x y (sortWorldK encB 2 W g 0 m dk os)
      exact h
    have hun : ∀ i (hi : i < xs.length), unB (toB xs[i]) = xs[i] := fun i hi => by
      have := hbd xs[i] (List.getElem_mem hi)
      exact unB_toB _ (by omega) (by omega) (by omega) (by omega)
    have hH : HoldsK encB 2 W g 0 (xs.map toB).toArray := by
      refine holdsK_of encB 2 encB_len W g _ ?_
      intro i hi j u hu
      rw [hsize] at hi
      have hi' : i < (xs.map toB).length := by simpa using hi
      obtain ⟨ce, hcl, hM, hcc, hfr⟩ := Kd.R_elem HO z25 (i : Int) (by omega) (by omega)
      obtain rfl := k25_openM hM
      rw [Int.toNat_natCast] at hcc hfr
      refine ⟨hcc j u ?_, hfr j⟩
      rw [← hu]
      have : (xs.map toB).toArray[i]'(by simpa using hi) = toB xs[i] := by simp
      rw [this]
      have h2 := hun i hi
      have h3 : xs.getD i z25 = xs[i] := by simp [List.getD_eq_getElem?_getD, hi]
      rw [h3]
      have h4 : encB (toB xs[i]) = [.int .i64 (unB (toB xs[i])).f0, .int .i64 (unB (toB xs[i])).f1] := rfl
      rw [h4, h2]
    have hlen : xs.length < 4611686018427387904 := by omega
    have hcon := AnyQ.slices_SortFunc_total Try.sortRun 2 Try.isAgg25 Try.sizeOf25 encB encB_len encB_one cfB swoB 65 #[] g 0 cap (xs.map toB).toArray W eg hcmp hH hgl (by rw [hsize]; exact hlen) totB
    rw [hsize] at hcon
    change Calls Try.prog 66 _ _ _ at hcon
    refine hcon.mono ?_
    rintro e w' ⟨rfl, n, os, rfl⟩
    have hms := merge_sortR xs hch hbd
    generalize hM : ((xs.map toB).mergeSort fun x y => !ltOf cfB y x) = M at hms
    have hMl : M.length = xs.length := by rw [← hM, List.length_mergeSort, List.length_map]
    have hsl : (sortR xs).length = xs.length := by rw [← hms, List.length_map, hMl]
    refine ⟨rfl, ⟨fun _ _ => trivial, ?_⟩, fun w hb hw => below_sorted encB 2 hb (Nat.le_trans hw hbg) n _ os⟩
    obtain ⟨_, inner, hown, _⟩ := HO
    refine ⟨(flatK encB 2 M.toArray).toList, ?_, ?_⟩
    · rw [hsl]
      exact own_sorted encB 2 encB_len hown M.toArray (by simpa using hMl) n os
    · refine ⟨by rw [Array.length_toList, size_flatK, hsl]; simp [hMl]; rfl, fun j p hj => ?_⟩
      have hjl := (List.getElem?_eq_some_iff.1 hj).1
      rw [hsl] at hjl
      have hjM : j < M.toArray.size := by simpa [hMl] using hjl
      have hseg := flatK_seg encB 2 encB_len M.toArray j hjM
      have hp : p = unB (M.toArray[j]) := by
        rw [← hms] at hj
        rw [List.getElem?_map] at hj
        simp [show j < M.length by omega] at hj
        simpa using hj.symm
      have : ((flatK encB 2 M.toArray).toList.drop (j * k25.sz)).take k25.sz = encB M.toArray[j] := hseg
      rw [this, hp]
      exact k25_mkM _ _ _ (unB M.toArray[j])
theorem space_Allocate.calls (A0 : Option Addr) (c0 : Nat) (l0 : List S25) (a1 a2 : Int) (r1 : List S25) (r2 : Int) (w : World) (hr0 : Kd.C k25 w A0 l0.length l0) (hc0 : l0.length ≤ c0) (h : space_Allocate.f l0 a1 a2 = some (r1, r2)) :
    Calls Try.prog 18 #[.slice A0 l0.length c0, .int .i64 a1, .int .i64 a2] w fun e w' => ∃ v0_ : Value, e = .returned (.tuple #[v0_, .int .i64 r2]) ∧ Kd.R k25 25 w' w.heap.size (fun _ => True) v0_ r1 ∧ Below w.heap.size w w' :=
  allocate_walk sort_run A0 c0 l0 a1 a2 r1 r2 w hr0 hc0 (Option.some.inj h)
end Go.Proofs.Ytghpmenoiimpoaa.P
