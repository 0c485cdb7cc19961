import Derived.Test.YtghpmenoiimpoaaKHAllocate
import Derived.Test.YtghpmenoiimpoaaKHJoin
import Derived.Deep.RegionWith
import Derived.Outline
namespace Go.Proofs.Ytghpmenoiimpoaa.P
open Go.RowKit Go.Proofs.YtghpmenoiimpoaaW.PrintWords Go.Proofs.YtghpmenoiimpoaaW.PrintLast Go.Proofs.YtghpmenoiimpoaaW.PrintMore
set_option linter.unusedVariables false
set_option linter.unusedSimpArgs false
theorem allocP_length (l : List S25) (n most : Int) (h : 1 ≤ most) : ((allocP l n most).1.length : Int) ≤ most := by
  unfold allocP
  split
  · simp; omega
  · split
    · simp; omega
    · unfold allocFin
      split
      · simp; omega
      · rename_i h2
        dsimp only
        exact Int.not_lt.1 fun h3 => h2 (.inr h3)
def minusP (a b : List S25) : List S25 := runsOf fun t => hasT a t && !hasT b t
/-- What Extend does behind the growing: l1 the extents with the last run grown, m the missing tracks. -/
def extFin (len : Nat) (free l1 : List S25) (m : Int) : List S25 × Int :=
  if m = 0 then (l1, 0) else
  if 16 - (len : Int) < 1 then ([], 14) else
  if (allocP (minusP free l1) m (16 - (len : Int))).2 = 0 then (joinP (l1 ++ (allocP (minusP free l1) m (16 - (len : Int))).1), 0)
  else ([], (allocP (minusP free l1) m (16 - (len : Int))).2)
def extP (ext free : List S25) (n : Int) : List S25 × Int :=
  if n < 1 ∨ joinP ext = [] then ([], 1) else
  let l := joinP ext
  let fr := minusP free l
  let g := growGo fr (lastR l).f0 (128 - ((lastR l).f0 + (lastR l).f1)).toNat (lastR l).f1 n
  extFin l.length fr (l.set (l.length - 1) ⟨(lastR l).f0, g.1⟩) g.2
def space_Extend.f (l0 l1 : List S25) (a2 : Int) : Option (List S25 × Int) := if l0.length < 100000 then some ((extP l0 l1 a2).1, (extP l0 l1 a2).2) else none
def space_Extend.T7 : Bool × List (List Nat × List Nat) := (true, [([], []), ([0], [0]), ([1], [1]), ([2], [2]), ([2], [2]), ([4, 2], [2, 4]), ([5, 2], [2, 5]), ([6, 2], [2, 6]), ([2], [2]), ([8, 2], [2, 8]), ([9, 2], [2, 9]), ([10, 2], [2, 10]), ([7, 11, 2], [2, 7, 11]), ([3, 12, 2, 2], [2, 3, 12]), ([2, 13], [2, 13])])
def space_Extend.B7 : List Nat := [0, 1, 3, 7, 7, 23, 55, 119, 7, 263, 775, 1799, 4087, 8191, 16383]
theorem space_Extend.tab7 : rtab .any (opsOf Try.f21 7) = space_Extend.T7 := by kernel_rfl
theorem space_Extend.bits7 : waitsOk space_Extend.T7.2 space_Extend.B7 = true := by kernel_rfl
set_option maxHeartbeats 4000000 in
set_option maxRecDepth 100000 in
theorem extend_walk (A0 : Option Addr) (c0 : Nat) (l0 : List S25) (A1 : Option Addr) (c1 : Nat) (l1 : List S25) (a2 : Int) (r1 : List S25) (r2 : Int) (w : World) (hr0 : Kd.C k25 w A0 l0.length l0) (hc0 : l0.length ≤ c0) (hr1 : Kd.C k25 w A1 l1.length l1) (hc1 : l1.length ≤ c1) (hl0 : l0.length < 100000) (h : extP l0 l1 a2 = (r1, r2)) :
    Calls Try.prog 21 #[.slice A0 l0.length c0, .slice A1 l1.length c1, .int .i64 a2] w fun e w' => ∃ v0_ : Value, e = .returned (.tuple #[v0_, .int .i64 r2]) ∧ Kd.R k25 25 w' w.heap.size (fun _ => True) v0_ r1 ∧ Below w.heap.size w w' := by
  have hu25 := Try.underlying25
  have HR0 := Aside0.mk hr0
  have HC0 := Aside0.mk hc0
  have HR1 := Aside0.mk hr1
  have HC1 := Aside0.mk hc1
  clear hr0 hc0 hr1 hc1
  have HJ := Aside0.mk (join_some l0 (by omega) (l0.length + 3) (by omega))
  have hex := joinP_ex l0
  have hjl : (joinP l0).length < 100000 := Nat.lt_of_le_of_lt (joinP_length l0) hl0
  unfold extP at h
  generalize joinP l0 = l at HJ hex hjl h
  by_cases h1 : a2 < 1
  · rw [if_pos (.inl h1)] at h
    injection h with e1 e2
    subst e1; subst e2
    have h1b : decide (a2 < 1) = true := decide_eq_true h1
    go_enter Try.func21, Try.ntmps21
    go_wp2_with (go_at_call 39; (with_reducible refine (extent_Join.calls (l0.length + 3) A0 c0 l0 l _ HR0.out HC0.out HJ.out).mono ?_); rintro e w1 ⟨v, rfl, hr, hb⟩; have HB := Aside0.mk hb; clear hr hb)
    go_ret2
    exact ⟨_, rfl, Kd.R_nil _ _ _ _ _, HB.out⟩
  · have h1b : decide (a2 < 1) = false := decide_eq_false h1
    by_cases h2 : l = []
    · rw [if_pos (.inr h2)] at h
      injection h with e1 e2
      subst e1; subst e2
      subst h2
      go_enter Try.func21, Try.ntmps21
      go_wp2_with (go_at_call 39; (with_reducible refine (extent_Join.calls (l0.length + 3) A0 c0 l0 [] _ HR0.out HC0.out HJ.out).mono ?_); rintro e w1 ⟨v, rfl, hr, hb⟩; obtain ⟨A, c, rfl⟩ := Kd.R_slice hr; have HB := Aside0.mk hb; clear hr hb)
      go_ret2
      exact ⟨_, rfl, Kd.R_nil _ _ _ _ _, HB.out⟩
    · rw [if_neg (fun h => h.elim h1 h2)] at h
      dsimp only at h
      have hpos := List.length_pos_iff.2 h2
      have hlast := hex _ (lastR_mem l h2)
      have h2b : ((l.length : Int) == 0) = false := by rw [beq_eq_false_iff_ne]; omega
      have HH := Aside0.mk h
      have HEX := Aside0.mk hex
      clear h hex h2
      go_enter Try.func21, Try.ntmps21
      go_wp2_with (go_at_call 39; (with_reducible refine (extent_Join.calls (l0.length + 3) A0 c0 l0 l _ HR0.out HC0.out HJ.out).mono ?_); rintro e w1 ⟨v, rfl, hr, hb⟩; obtain ⟨A, c, rfl⟩ := Kd.R_slice hr; have HB := Aside0.mk hb; have HL := Aside0.mk hr; clear hr hb)
      refine (extent_Minus.calls A1 c1 l1 A c l _ _ (Kd.C_below HR1.out HB.out) HC1.out (Kd.R_reads' HL.out).2.2 (Kd.R_reads' HL.out).2.1 rfl).mono ?_
      rintro e w2 ⟨vf, rfl, hr, hb⟩
      have hfl : (minusP l1 l).length ≤ 128 := runsOf_length _
      have HF := Aside0.mk (show Kd.R k25 25 w2 w1.heap.size (fun _ => True) vf (minusP l1 l) from hr)
      have n0 := Aside0.mk (below_step HB.out hb)
      have n1 := Aside0.mk (Kd.R_below HL.out hb)
      obtain ⟨g, rfl, hgb, -, d0, d1, df, -⟩ := R_count HL.out (l.length - 1) (by omega)
      have hg1 : g < w1.heap.size := by
        obtain ⟨g', cap, e, _, hlt, _⟩ := Kd.R_form HL.out hpos
        injection e with e _ _
        injection e with e
        injection e with e
        exact e ▸ hlt
      clear HB HL hr d0 d1 df hb
      have HB := n0
      have HL := n1
      clear n0 n1
      have GW := Aside0.mk hgb
      have GL := Aside0.mk hg1
      clear hgb hg1
      generalize hfr : minusP l1 l = fr at HF HH hfl
      have HFR := Aside0.mk hfr
      clear hfr
      have hlr : l.getD (l.length - 1) z25 = lastR l := rfl
      have HLR := Aside0.mk hlr
      clear hlr
      generalize hla : lastR l = la at hlast HH HLR
      have HLA := Aside0.mk hla
      clear hla
      obtain ⟨Af, cf, rfl⟩ := Kd.R_slice HF.out
      go_upto_block 0 with (fail)
      go_cut [2] (fun v2 wc => ∃ (m c' : Int), v2 = .int .i64 m ∧ Aside0 (extFin l.length fr (l.set (l.length - 1) ⟨la.f0, c'⟩) m = (r1, r2)) ∧ Aside0 (1 ≤ c' ∧ la.f0 + c' ≤ 128) ∧ Aside0 (Kd.R k25 25 wc w.heap.size (fun _ => True) (.slice (some ⟨g, 0, none⟩) l.length c) (l.set (l.length - 1) ⟨la.f0, c'⟩)) ∧ Aside0 (Kd.R k25 25 wc w1.heap.size (fun _ => True) (.slice Af fr.length cf) fr) ∧ Aside0 (Below w.heap.size w wc))
      case first =>
        generalize hgg : growGo fr la.f0 (128 - (la.f0 + la.f1)).toNat la.f1 a2 = gg at HH
        go_wp2
        go_loopg [2] (128 - (la.f0 + la.f1)).toNat (fun kq v2 w' => ∃ (m c' : Int), v2 = .int .i64 m ∧ Aside0 ((kq : Int) + (la.f0 + c') = 128) ∧ Aside0 (growGo fr la.f0 kq c' m = gg) ∧ Aside0 (1 ≤ c' ∧ la.f0 + c' ≤ 128) ∧ Aside0 (Kd.R k25 25 w' w.heap.size (fun _ => True) (.slice (some ⟨g, 0, none⟩) l.length c) (l.set (l.length - 1) ⟨la.f0, c'⟩)) ∧ Aside0 (Kd.R k25 25 w' w1.heap.size (fun _ => True) (.slice Af fr.length cf) fr) ∧ Aside0 (Below w.heap.size w w'))
        case atStart =>
          refine ⟨a2, la.f1, rfl, ⟨by omega⟩, ⟨hgg⟩, ⟨by omega⟩, ⟨?_⟩, HF, HB⟩
          have e : l.set (l.length - 1) ⟨la.f0, la.f1⟩ = l := by
            have h3 : l.length - 1 < l.length := by omega
            have h4 : (⟨la.f0, la.f1⟩ : S25) = l[l.length - 1] := by
              rw [← HLR.out, List.getD_eq_getElem?_getD, List.getElem?_eq_getElem h3]
              rfl
            rw [h4, List.set_getElem_self]
          rw [e]
          exact HL.out
        case round =>
          have HGG := Aside0.mk hgg
          clear hgg HB HL HF
          obtain ⟨m, c', rfl, HK, HG, HC', HL, HF, HB⟩ := hrel
          by_cases hm : m > 0
          · have hmb : decide (0 < m) = true := decide_eq_true hm
            have hi : l.length - 1 < (l.set (l.length - 1) ⟨la.f0, c'⟩).length := by rw [List.length_set]; omega
            obtain ⟨g_, eg_, -, -, d0, d1, -, -⟩ := R_count HL.out (l.length - 1) hi
            injection eg_ with eg_
            injection eg_ with eg_ _ _
            subst eg_
            have hgd : (l.set (l.length - 1) ⟨la.f0, c'⟩).getD (l.length - 1) z25 = ⟨la.f0, c'⟩ := by
              rw [List.getD_eq_getElem?_getD, List.getElem?_eq_getElem hi, List.getElem_set_self]; rfl
            rw [hgd] at d0 d1
            have HGD := Aside0.mk hgd
            clear hgd
            have hcs := contains_some fr (la.f0 + c') (by omega) (fr.length + 3) (by omega)
            generalize hha : hasI fr (la.f0 + c') = hb_ at hcs
            have hcs0 := hcs
            have HHA := Aside0.mk hha
            clear hcs hha
            have hw1 : wrap64 (la.f0 + c') = la.f0 + c' := by have := HC'.out; rw [w64 (by omega) (by omega)]
            rw [← hw1] at hcs0
            have HCS := Aside0.mk hcs0
            clear hcs0
            go_wp2
            refine start_ (n := 15) (S := fun w' => w'.cell? ⟨g, (l.length - 1) * 2, none⟩ = some (.int .i64 la.f0) ∧ w'.cell? ⟨g, (l.length - 1) * 2 + 1, none⟩ = some (.int .i64 c')) (ds := []) #[false, false, false, false, false, false, false, false, false, false, false, false, false, false, false] (by kernel_rfl) rfl rfl ⟨d0, d1⟩ (fun hHeld => ?_)
            refine with_tabW space_Extend.tab7 space_Extend.bits7 (fun HT_ HW_ => ?_)
            refine pure_ (i := 0) (N := some 33) (v := ?_) (a' := ?_) #[true, false, false, false, false, false, false, false, false, false, false, false, false, false, false] rfl rfl (any_of HT_.out (by kernel_rfl)) (fun _ _ _ h => h) (Or.inl ⟨by rfl, ?_⟩) ?_ ?_
            rotate_left
            · intro w'
              go_simp
              with_reducible rfl
            rotate_left
            · simp only [Act.put, List.setIfInBounds_toArray, List.set_cons_zero, List.set_cons_succ, i64_w, i32_w]
              rfl
            refine pure_ (i := 1) (N := some 34) (v := ?_) (a' := ?_) #[true, true, false, false, false, false, false, false, false, false, false, false, false, false, false] rfl rfl (any_of HT_.out (by kernel_rfl)) (fun _ _ _ h => h) (Or.inl ⟨by rfl, ?_⟩) ?_ ?_
            rotate_left
            · intro w'
              go_simp
              with_reducible rfl
            rotate_left
            · simp only [Act.put, List.setIfInBounds_toArray, List.set_cons_zero, List.set_cons_succ, i64_w, i32_w]
              rfl
            refine pure_ (i := 2) (N := some 35) (v := ?_) (a' := ?_) #[true, true, true, false, false, false, false, false, false, false, false, false, false, false, false] rfl rfl (any_of HT_.out (by kernel_rfl)) (fun _ _ _ h => h) (Or.inl ⟨by rfl, ?_⟩) ?_ ?_
            rotate_left
            · intro w'
              go_simp
              with_reducible rfl
            rotate_left
            · simp only [Act.put, List.setIfInBounds_toArray, List.set_cons_zero, List.set_cons_succ, i64_w, i32_w]
              rfl
            refine pure_ (i := 3) (N := some 36) (v := ?_) (a' := ?_) #[true, true, true, true, false, false, false, false, false, false, false, false, false, false, false] rfl rfl (any_of HT_.out (by kernel_rfl)) (fun _ _ _ h => h) (Or.inl ⟨by rfl, ?_⟩) ?_ ?_
            rotate_left
            · intro w'
              go_simp
              with_reducible rfl
            rotate_left
            · simp only [Act.put, List.setIfInBounds_toArray, List.set_cons_zero, List.set_cons_succ, i64_w, i32_w]
              rfl
            refine pure_ (i := 4) (N := some 37) (v := ?_) (a' := ?_) #[true, true, true, true, true, false, false, false, false, false, false, false, false, false, false] rfl rfl (any_of HT_.out (by kernel_rfl)) (fun _ _ _ h => h) (Or.inl ⟨by rfl, ?_⟩) ?_ ?_
            rotate_left
            · intro w'
              go_simp
              with_reducible rfl
            rotate_left
            · simp only [Act.put, List.setIfInBounds_toArray, List.set_cons_zero, List.set_cons_succ, i64_w, i32_w]
              rfl
            refine pure_ (i := 5) (N := some 38) (v := ?_) (a' := ?_) #[true, true, true, true, true, true, false, false, false, false, false, false, false, false, false] rfl rfl (any_of HT_.out (by kernel_rfl)) (fun _ _ _ h => h) (Or.inl ⟨by rfl, ?_⟩) ?_ ?_
            rotate_left
            · intro w'
              go_simp
              with_reducible rfl
            rotate_left
            · simp only [Act.put, List.setIfInBounds_toArray, List.set_cons_zero, List.set_cons_succ, i64_w, i32_w]
              rfl
            refine pure_ (i := 6) (N := some 39) (v := ?_) (a' := ?_) #[true, true, true, true, true, true, true, false, false, false, false, false, false, false, false] rfl rfl (any_of HT_.out (by kernel_rfl)) (fun _ _ _ h => h) (Or.inl ⟨by rfl, ?_⟩) ?_ ?_
            rotate_left
            · intro w'
              go_simp
              with_reducible rfl
            rotate_left
            · simp only [Act.put, List.setIfInBounds_toArray, List.set_cons_zero, List.set_cons_succ, i64_w, i32_w]
              rfl
            refine pure_ (i := 8) (N := some 41) (v := ?_) (a' := ?_) #[true, true, true, true, true, true, true, false, true, false, false, false, false, false, false] rfl rfl (any_of HT_.out (by kernel_rfl)) (fun _ _ _ h => h) (Or.inl ⟨by rfl, ?_⟩) ?_ ?_
            rotate_left
            · intro w'
              go_simp
              with_reducible rfl
            rotate_left
            · simp only [Act.put, List.setIfInBounds_toArray, List.set_cons_zero, List.set_cons_succ, i64_w, i32_w]
              rfl
            refine pure_ (i := 9) (N := some 42) (v := ?_) (a' := ?_) #[true, true, true, true, true, true, true, false, true, true, false, false, false, false, false] rfl rfl (any_of HT_.out (by kernel_rfl)) (fun _ _ _ h => h) (Or.inl ⟨by rfl, ?_⟩) ?_ ?_
            rotate_left
            · intro w'
              go_simp
              with_reducible rfl
            rotate_left
            · simp only [Act.put, List.setIfInBounds_toArray, List.set_cons_zero, List.set_cons_succ, i64_w, i32_w]
              rfl
            refine pure_ (i := 10) (N := some 43) (v := ?_) (a' := ?_) #[true, true, true, true, true, true, true, false, true, true, true, false, false, false, false] rfl rfl (any_of HT_.out (by kernel_rfl)) (fun _ _ _ h => h) (Or.inl ⟨by rfl, ?_⟩) ?_ ?_
            rotate_left
            · intro w'
              go_simp
              with_reducible rfl
            rotate_left
            · simp only [Act.put, List.setIfInBounds_toArray, List.set_cons_zero, List.set_cons_succ, i64_w, i32_w]
              rfl
            refine take_ (i := 7) (N := some 40) (v := ?_) (a' := ?_) #[true, true, true, true, true, true, true, true, true, true, true, false, false, false, false] rfl rfl (take_ofW HT_.out HW_.out (by kernel_rfl)) (fun _ _ _ h => h) (Or.inl ⟨by rfl, ?_⟩) hHeld ?_ ?_
            rotate_left
            · rintro w' ⟨s0, s1⟩
              go_simp
              with_reducible rfl
            rotate_left
            · simp only [Act.put, List.setIfInBounds_toArray, List.set_cons_zero, List.set_cons_succ, i64_w, i32_w]
              rfl
            refine take_ (i := 11) (N := some 44) (v := ?_) (a' := ?_) #[true, true, true, true, true, true, true, true, true, true, true, true, false, false, false] rfl rfl (take_ofW HT_.out HW_.out (by kernel_rfl)) (fun _ _ _ h => h) (Or.inl ⟨by rfl, ?_⟩) hHeld ?_ ?_
            rotate_left
            · rintro w' ⟨s0, s1⟩
              go_simp
              with_reducible rfl
            rotate_left
            · simp only [Act.put, List.setIfInBounds_toArray, List.set_cons_zero, List.set_cons_succ, i64_w, i32_w]
              rfl
            refine pure_ (i := 12) (N := some 45) (v := ?_) (a' := ?_) #[true, true, true, true, true, true, true, true, true, true, true, true, true, false, false] rfl rfl (any_of HT_.out (by kernel_rfl)) (fun _ _ _ h => h) (Or.inl ⟨by rfl, ?_⟩) ?_ ?_
            rotate_left
            · intro w'
              go_simp
              with_reducible rfl
            rotate_left
            · simp only [Act.put, List.setIfInBounds_toArray, List.set_cons_zero, List.set_cons_succ, i64_w, i32_w]
              rfl
            refine one_ (i := 13) (N := some 46) #[true, true, true, true, true, true, true, true, true, true, true, true, true, true, false] rfl rfl (one_of HT_.out (by kernel_rfl)) (by decide) (fun K hK => ?_)
            refine goes_ Try.func36 (by kernel_rfl) rfl #[.slice Af fr.length cf, .int .i64 (wrap64 (la.f0 + c'))] (by rfl) rfl rfl (by simp only [List.map_toArray, List.map_cons, List.map_nil]; rfl) ?_
            with_reducible refine (extent_Contains.calls (fr.length + 3) Af cf fr (wrap64 (la.f0 + c')) hb_ _ (Kd.C_drew (Kd.R_reads' HF.out).2.2) (Kd.R_reads' HF.out).2.1 HCS.out).mono ?_
            rintro e w3 ⟨rfl, hb⟩
            refine ⟨_, rfl, ?_⟩
            have m0 := Aside0.mk (Kd.R_below (Kd.R_drew HF.out) hb)
            have m1 := Aside0.mk (Kd.R_below (Kd.R_drew HL.out) hb)
            have m2 := Aside0.mk (below_step (below_drew1 HB.out) hb)
            clear HF HL HB
            have HF := m0
            have HL := m1
            have HB := m2
            clear m0 m1 m2
            refine hK.out _ _ ⟨(hb.cell (World.block_lt_of_cell? _ _ (hHeld.1))).trans (hHeld.1), (hb.cell (World.block_lt_of_cell? _ _ (hHeld.2))).trans (hHeld.2)⟩ (fun hHeld => ?_)
            clear hK K
            refine norm_ (a' := ?_) ?_ ?_
            rotate_left
            · show Act.put _ (some 46) _ = _
              simp only [Act.put, List.setIfInBounds_toArray, List.set_cons_zero, List.set_cons_succ, i64_w, i32_w]
              rfl
            refine pure_ (i := 14) (N := some 47) (v := ?_) (a' := ?_) #[true, true, true, true, true, true, true, true, true, true, true, true, true, true, true] rfl rfl (any_of HT_.out (by kernel_rfl)) (fun _ _ _ h => h) (Or.inl ⟨by rfl, ?_⟩) ?_ ?_
            rotate_left
            · intro w'
              go_simp
              with_reducible rfl
            rotate_left
            · simp only [Act.put, List.setIfInBounds_toArray, List.set_cons_zero, List.set_cons_succ, i64_w, i32_w]
              rfl
            refine done_ (done_of HT_.out (by kernel_rfl)) ?_
            obtain ⟨z0, z1⟩ := hHeld
            obtain ⟨g_, eg_, -, -, -, -, df, dset⟩ := R_count HL.out (l.length - 1) hi
            injection eg_ with eg_
            injection eg_ with eg_ _ _
            subst eg_
            rw [HGD.out] at dset
            have DS := Aside0.mk dset
            clear dset
            cases hb_ with
            | false =>
              go_wp2
              go_meet
              case rel =>
                refine ⟨m, c', rfl, ?_, HC', HL, HF, HB⟩
                have e : growGo fr la.f0 gk c' m = (c', m) := by
                  cases gk with
                  | zero => rfl
                  | succ q => rw [growGo, if_neg (fun h => by rw [HHA.out] at h; exact absurd h.2 (by decide))]
                rw [HG.out] at e
                rw [e] at HH
                exact HH
            | true =>
              have hlt : la.f0 + c' < 128 := Int.not_le.1 fun hge => by
                have := hasI_wide fr (la.f0 + c') hge
                rw [HHA.out] at this
                exact absurd this (by decide)
              have hw2 : wrap64 (c' + 1) = c' + 1 := by have := HC'.out; rw [w64 (by omega) (by omega)]
              obtain ⟨q, rfl⟩ : ∃ q, gk = q + 1 := ⟨gk - 1, by have := HK.out; omega⟩
              have HG2 := HG.out
              rw [growGo, if_pos ⟨hm, HHA.out⟩] at HG2
              have HG3 := Aside0.mk HG2
              clear HG2
              have HF2 := Aside0.mk (Kd.R_far (Kd.R_bound HF.out) (p := ⟨g, (l.length - 1) * 2 + 1, none⟩) (fun k hk => by have := hk.2.1; have := GL.out; dsimp only; omega) (.int .i64 (c' + 1)))
              have HL2 := Aside0.mk (DS.out (c' + 1)).1
              have HB2 := Aside0.mk (show Below w.heap.size w (w3.setCell ⟨g, (l.length - 1) * 2 + 1, none⟩ (.int .i64 (c' + 1))) from below_set HB.out GW.out)
              clear HF HL HB DS
              go_wp2
              go_roundg q
              case measure => omega
              case rel =>
                refine ⟨_, c' + 1, rfl, ⟨by have := HK.out; omega⟩, HG3, ⟨by have := HC'.out; omega⟩, ⟨?_⟩, ⟨Kd.R_mono HF2.out (fun _ _ => trivial)⟩, HB2⟩
                have e := HL2.out
                rw [List.set_set] at e
                exact e
          · have hmb : decide (0 < m) = false := decide_eq_false hm
            go_wp2
            go_quiet (fail)
            go_wp2
            go_meet
            case rel =>
              refine ⟨m, c', rfl, ?_, HC', ⟨Kd.R_drewN HL.out _⟩, ⟨Kd.R_drewN HF.out _⟩, ⟨pw_below_drewN HB.out _⟩⟩
              have e : growGo fr la.f0 gk c' m = (c', m) := by
                cases gk with
                | zero => rfl
                | succ q => rw [growGo, if_neg (fun h => absurd h.1 (by omega))]
              rw [HG.out] at e
              rw [e] at HH
              exact HH
      case rest =>
        clear HB HL HF HH
        obtain ⟨m, c', rfl, HH, HC', HL, HF, HB⟩ := hcut
        have HH0 := HH.out
        clear HH
        unfold extFin at HH0
        by_cases hm : m = 0
        · subst hm
          rw [if_pos rfl] at HH0
          have hf1 := (Prod.mk.inj HH0).1
          have hf2 := (Prod.mk.inj HH0).2
          subst hf1
          subst hf2
          go_wp2
          go_ret2
          exact ⟨_, rfl, HL.out, HB.out⟩
        · rw [if_neg hm] at HH0
          have hmb : (m == 0) = false := beq_eq_false_iff_ne.mpr hm
          by_cases hk : 16 - (l.length : Int) < 1
          · rw [if_pos hk] at HH0
            have hf1 := (Prod.mk.inj HH0).1
            have hf2 := (Prod.mk.inj HH0).2
            subst hf1
            subst hf2
            have hkb : decide (16 - (l.length : Int) < 1) = true := decide_eq_true hk
            go_wp2
            go_ret2
            exact ⟨_, rfl, Kd.R_nil _ _ _ _ _, HB.out⟩
          · rw [if_neg hk] at HH0
            have hkb : decide (16 - (l.length : Int) < 1) = false := decide_eq_false hk
            have HH1 := Aside0.mk HH0
            clear HH0
            generalize hl' : l.set (l.length - 1) (⟨la.f0, c'⟩ : S25) = l' at HL HH1
            have hll : l'.length = l.length := by rw [← hl', List.length_set]
            have HLE := Aside0.mk hl'
            clear hl'
            rw [← hll] at HL hk hkb
            rw [← hll]
            have hjl2 : l'.length < 100000 := by omega
            have HLL := Aside0.mk hll
            generalize hga : allocP (minusP fr l') m (16 - (l.length : Int)) = al at HH1
            obtain ⟨al1, al2⟩ := al
            dsimp only at HH1
            rw [← hll] at hga
            clear hll
            have HGA := Aside0.mk (congrArg (fun x : List S25 × Int => some (x.1, x.2)) hga)
            have hal : (al1.length : Int) ≤ 16 - (l'.length : Int) := by have := allocP_length (minusP fr l') m (16 - (l'.length : Int)) (by omega); rw [hga] at this; exact this
            clear hga
            go_wp2_with (first | (go_at_call 26; (with_reducible refine (extent_Minus.calls Af cf fr (some ⟨g, 0, none⟩) c l' _ _ (Kd.R_reads' HF.out).2.2 (Kd.R_reads' HF.out).2.1 (Kd.R_reads' HL.out).2.2 (Kd.R_reads' HL.out).2.1 rfl).mono ?_); rintro e w4 ⟨vm, rfl, hr, hb⟩; obtain ⟨Am, cm, rfl⟩ := Kd.R_slice hr; have n0 := Aside0.mk (below_step HB.out hb); have n1 := Aside0.mk (Kd.R_below HL.out hb); have HM := Aside0.mk (show Kd.R k25 25 w4 wc.heap.size (fun _ => True) (.slice Am (minusP fr l').length cm) (minusP fr l') from hr); clear HB HL hr hb; have HB := n0; have HL := n1; clear n0 n1))
            refine (space_Allocate.calls Am cm (minusP fr l') m (16 - (l'.length : Int)) al1 al2 _ (Kd.R_reads' HM.out).2.2 (Kd.R_reads' HM.out).2.1 HGA.out).mono ?_
            rintro e w5 ⟨va, rfl, hr, hb⟩
            obtain ⟨Aa, ca, rfl⟩ := Kd.R_slice hr
            have n0 := Aside0.mk (below_step HB.out hb)
            have n1 := Aside0.mk (Kd.R_below HL.out hb)
            have n2 := Aside0.mk hr
            clear HB HL HM HF hr hb
            have HB := n0
            have HL := n1
            have HM := n2
            clear n0 n1 n2
            by_cases he : al2 = 0
            · subst he
              rw [if_pos rfl] at HH1
              have hf1 := (Prod.mk.inj HH1.out).1
              have hf2 := (Prod.mk.inj HH1.out).2
              subst hf2
              clear HH1
              have hlsl : (l' ++ al1).length < 8796093022208 := by rw [List.length_append]; omega
              generalize hls : l' ++ al1 = ls at hf1 hlsl
              subst hf1
              have HJ2 := Aside0.mk (join_some ls hlsl (ls.length + 3) (by omega))
              have HLS := Aside0.mk hls
              clear hls hlsl
              go_wp2_with (first
                | ((with_reducible refine gate_builtin (b := .append) (xs := #[.tmp 74, .tmp 75]) rfl ?_); at_builtin; refine Kd.R_append_rows k25 (w0 := w) w.heap.size rfl (.tmp 74) (.tmp 75) 22 25 (.agg #[(.int .i64 0), (.int .i64 0)]) 16 rfl Try.underlying22 info25 rfl (by decide) (by omega) (.slice (some ⟨g, 0, none⟩) l'.length c) l' al1 _ _ _ (fun _ => True) (fun _ => False) rfl rfl ?aO ?aR (fun _ _ h => h) (fun _ h => h.elim) ?aF ?aB ?aS ?aL ?_; (case aR => exact (Kd.R_reads' HM.out).2.2); (case aB => exact HB.out); (case aF => exact fun _ _ => trivial); (case aO => exact HL.out); (case aS => exact below_size HB.out); (case aL => omega); intro vc w6 ho hb hg hat; rw [HLS.out] at ho; obtain ⟨Ac, cc, rfl⟩ := Kd.R_slice ho; have n0 := Aside0.mk hb; have n1 := Aside0.mk ho; clear HB HL HM ho hb hg hat; have HB := n0; have HL := n1; clear n0 n1)
                | (go_at_call 39; (with_reducible refine (extent_Join.calls (ls.length + 3) Ac cc ls (joinP ls) _ (Kd.R_reads' HL.out).2.2 (Kd.R_reads' HL.out).2.1 HJ2.out).mono ?_); rintro e w7 ⟨vj, rfl, hr, hb⟩; have n0 := Aside0.mk (below_step HB.out hb); have n1 := Aside0.mk (Kd.R_lower hr (below_size HB.out)); clear HB HL hr hb; have HB := n0; have HJR := n1; clear n0 n1))
              go_ret2
              exact ⟨_, rfl, HJR.out, HB.out⟩
            · rw [if_neg he] at HH1
              have hf1 := (Prod.mk.inj HH1.out).1
              have hf2 := (Prod.mk.inj HH1.out).2
              subst hf1
              subst hf2
              have heb : (al2 == 0) = false := beq_eq_false_iff_ne.mpr he
              go_wp2
              go_ret2
              exact ⟨_, rfl, Kd.R_nil _ _ _ _ _, HB.out⟩
theorem space_Extend.calls (A0 : Option Addr) (c0 : Nat) (l0 : List S25) (A1 : Option Addr) (c1 : Nat) (l1 : List S25) (a2 : Int) (r1 : List S25) (r2 : Int) (w : World) (hr0 : Kd.C k25 w A0 l0.length l0) (hc0 : l0.length ≤ c0) (hr1 : Kd.C k25 w A1 l1.length l1) (hc1 : l1.length ≤ c1) (h : space_Extend.f l0 l1 a2 = some (r1, r2)) :
    Calls Try.prog 21 #[.slice A0 l0.length c0, .slice A1 l1.length c1, .int .i64 a2] w fun e w' => ∃ v0_ : Value, e = .returned (.tuple #[v0_, .int .i64 r2]) ∧ Kd.R k25 25 w' w.heap.size (fun _ => True) v0_ r1 ∧ Below w.heap.size w w' := by
  unfold space_Extend.f at h
  split at h
  · rename_i hl
    exact extend_walk A0 c0 l0 A1 c1 l1 a2 r1 r2 w hr0 hc0 hr1 hc1 hl (Option.some.inj h)
  · exact absurd h (by simp)
end Go.Proofs.Ytghpmenoiimpoaa.P
