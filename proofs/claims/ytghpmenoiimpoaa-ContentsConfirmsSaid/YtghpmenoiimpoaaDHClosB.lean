import Derived.Test.YtghpmenoiimpoaaDHClos
namespace Go.Proofs.Ytghpmenoiimpoaa.P
open Go.RowKit Go.Proofs.YtghpmenoiimpoaaW.PrintWords Go.Proofs.YtghpmenoiimpoaaW.PrintLast Go.Proofs.YtghpmenoiimpoaaW.PrintMore
set_option linter.unusedVariables false
set_option linter.unusedSimpArgs false
theorem Labs.drew {W : World} {ok : Nat → Prop} {cs : Array Value} {ls : List S66} (h : Labs W ok cs ls) : Labs W.drew ok cs ls := h.step (fun _ _ _ => rfl) (fun _ hk => hk)
theorem grown_drew {W W1 : World} {g : Nat} (h : W.grownBy W1 (some g)) : W.grownBy W1.drew (some g) := ⟨h.os, h.tape, h.output, h.size, h.block⟩
theorem C_of_labs {W : World} {ok : Nat → Prop} {g : Nat} {cs : Array Value} {ls : List S66} (hn : ls.length ≤ 9223372036854775807) (hg : ok g) (hb : W.heap[g]? = some (.cells cs 66 (0, 0))) (hL : Labs W ok cs ls) : Kd.C k66 W (some ⟨g, 0, none⟩) ls.length ls :=
  (Kd.V_reads' (V_of_labs (base := 0) hn (Nat.le_refl _) hg hb hL)).2.2
theorem idxP_spec (p : S66 → Bool) : ∀ (l : List S66) (k : Int), 0 ≤ k → 0 ≤ idxP p l k → ∃ j : Nat, idxP p l k = k + j ∧ j < l.length ∧ p (l.getD j z66) = true
  | [], k, _, h => by simp [idxP] at h
  | x :: l, k, hk, h => by
    rw [idxP] at h ⊢
    by_cases hx : p x = true
    · rw [if_pos hx]
      exact ⟨0, by omega, by simp, by simpa using hx⟩
    · rw [if_neg hx] at h ⊢
      obtain ⟨j, h1, h2, h3⟩ := idxP_spec p l (k + 1) (by omega) h
      exact ⟨j + 1, by omega, by simp; omega, by simpa using h3⟩
def confirmF (id : Int) (note : ByteArray) (ls : List S66) (i : Nat) : List S66 × Int :=
  if (ls.getD i z66).f1 = 0 then (ls, 9) else if (400 : Int) < note.size then (ls, 1) else
    ((if 0 ≤ idxOf ls id 0 then ls.set (idxOf ls id 0).toNat z66 else ls).set i ⟨(ls.getD i z66).f0, 0, (ls.getD i z66).f2, note, (ls.getD i z66).f4⟩, 0)
def contents_Confirm1.T5 : Bool × List (List Nat × List Nat) := (true, [([], []), ([0], [0]), ([1], [1]), ([], []), ([3], [3]), ([4], [4]), ([2, 5], [2, 5]), ([6, 6, 0, 1, 2, 3, 4, 5, 6], [6])])
def contents_Confirm1.B5 : List Nat := [0, 1, 3, 0, 8, 24, 63, 127]
theorem contents_Confirm1.tab5 : rtab .any (opsOf Try.f96 5) = contents_Confirm1.T5 := by kernel_rfl
theorem contents_Confirm1.bits5 : waitsOk contents_Confirm1.T5.2 contents_Confirm1.B5 = true := by kernel_rfl
def contents_Confirm1.T8 : Bool × List (List Nat × List Nat) := (true, [([], []), ([], []), ([], []), ([0, 0], [0]), ([3, 0], [3]), ([4, 0], [4]), ([1, 0, 1, 2, 3, 4, 5], [1]), ([6, 0, 1, 2, 3, 4, 5], [6]), ([7, 2, 5, 0, 1, 2, 3, 4, 5], [2, 7])])
def contents_Confirm1.B8 : List Nat := [0, 0, 0, 1, 9, 25, 63, 127, 255]
theorem contents_Confirm1.tab8 : rtab .any (opsOf Try.f96 8) = contents_Confirm1.T8 := by kernel_rfl
theorem contents_Confirm1.bits8 : waitsOk contents_Confirm1.T8.2 contents_Confirm1.B8 = true := by kernel_rfl
set_option maxHeartbeats 4000000 in
set_option maxRecDepth 100000 in
theorem confirm_clos {N0 : Nat} (gn gr : Nat) (note : ByteArray) (id unit : Int) (nm : ByteArray) (tr : Int) (ls : List S66) (hl31 : ls.length ≤ 31) : DoesF 96 #[.pointer (some ⟨gn, 0, none⟩), .pointer (some ⟨gr, 0, none⟩)] N0 (fun W => W.heap[gn]? = some (.cells #[.string note] 9 (0, 0)) ∧ W.heap[gr]? = some (.cells #[.int .i64 id, .int .i64 unit] 72 (0, 0))) nm tr ls (confirmF id note) := by
  intro W B g g9 c i cs hH hN0 hBg hBW hb h9 hc hL hi
  have hu66 := Try.underlying66
  have hu41 := Try.underlying41
  have hu72 := Try.underlying72
  have HB := Aside0.mk hb
  have H9 := Aside0.mk h9
  have HN := Aside0.mk hH.1
  have HL := Aside0.mk hL
  have HI := Aside0.mk hi
  have HC9 := Aside0.mk hc
  have HW := Aside0.mk (Below.refl W.heap.size W)
  have HNE := Aside0.mk (blk_ne hH.1 hb (by decide) : gn ≠ g)
  have H31 := Aside0.mk hl31
  have HBG := Aside0.mk hBg
  have zn_0 := fcells gn W _ _ hH.1 0 _ rfl
  have zr_0 := fcells gr W _ _ hH.2 0 _ rfl
  obtain ⟨A, cc, h0, z1, h2, h3, h4, h5, h6⟩ := lab_cells hb hL hi
  generalize hr : confirmF id note ls i = r
  have HR := Aside0.mk hr
  clear hr
  generalize hx : ls.getD i z66 = x at z1
  have HX := Aside0.mk hx
  clear hH hBg hBW hc h0 h2 h3 h4 h5 h6 hi hx hl31
  by_cases hu : x.f1 = 0
  · have hub : (x.f1 == 0) = true := beq_iff_eq.mpr hu
    have HU := Aside0.mk hu
    clear hu hL hb h9
    go_enter Try.func96, Try.ntmps96
    go_wp2
    go_ret
    rw [← HR.out, confirmF, HX.out, if_pos HU.out]
    exact ⟨rfl, grown_refl _ _, fun e => by cases e⟩
  have hub : (x.f1 == 0) = false := beq_eq_false_iff_ne.mpr hu
  have HU := Aside0.mk hu
  by_cases hsz : (400 : Int) < note.size
  · have hd : decide ((400 : Int) < (note.size : Int)) = true := decide_eq_true hsz
    have HS := Aside0.mk hsz
    clear hsz hu hL hb h9
    go_enter Try.func96, Try.ntmps96
    go_wp2
    go_ret
    rw [← HR.out, confirmF, HX.out, if_neg HU.out, if_pos HS.out]
    exact ⟨rfl, grown_refl _ _, fun e => by cases e⟩
  have hd : decide ((400 : Int) < (note.size : Int)) = false := decide_eq_false hsz
  have HTC := Aside0.mk (C_of_labs (by have := H31.out; omega) (ok := fun k => B ≤ k) HBG.out hb (hL.step (fun _ _ _ => rfl) (fun _ hk => hk.1)))
  have z9_0 := fcells g9 W _ _ h9 0 _ rfl
  have z9_1 := fcells g9 W _ _ h9 1 _ rfl
  have z9_2 := fcells g9 W _ _ h9 2 _ rfl
  have HRES := Aside0.mk (show r = ((if 0 ≤ idxOf ls id 0 then ls.set (idxOf ls id 0).toNat z66 else ls).set i ⟨x.f0, 0, x.f2, note, x.f4⟩, 0) from by rw [← HR.out, confirmF, HX.out, if_neg hu, if_neg hsz])
  clear HR hsz hu hL hb h9
  generalize hkx : idxOf ls id 0 = kx at HRES
  have HKX := Aside0.mk hkx
  clear hkx
  by_cases hk : 0 ≤ kx
  · have hdk : decide (0 ≤ kx) = true := decide_eq_true hk
    obtain ⟨k, hk1, hk2, hk3⟩ := idxP_spec (refP id 0) ls 0 (by omega) (show 0 ≤ idxP (refP id 0) ls 0 by rw [show idxP (refP id 0) ls 0 = kx from HKX.out]; exact hk)
    obtain rfl : kx = (k : Int) := by rw [← show idxP (refP id 0) ls 0 = kx from HKX.out, hk1]; omega
    have hki : k ≠ i := by
      rintro rfl
      simp only [refP, Bool.and_eq_true, beq_iff_eq] at hk3
      rw [HX.out] at hk3
      exact HU.out hk3.2.2
    have HK := Aside0.mk hk2
    have HKI := Aside0.mk hki
    have HRES2 := Aside0.mk (show r = ((ls.set k z66).set i ⟨x.f0, 0, x.f2, note, x.f4⟩, 0) from by rw [HRES.out, if_pos hk, Int.toNat_natCast])
    have hi0 : decide (0 ≤ (k : Int)) = true := decide_eq_true (by omega)
    have hp1 : (0 ≤ (k : Int)) = True := eq_true (by omega)
    have hp2 : ((k : Int) < (ls.length : Int)) = True := eq_true (by omega)
    clear HRES hk hk1 hk2 hk3 hki
    go_enter Try.func96, Try.ntmps96
    go_wp2
    refine start_ (n := 8) (S := fun w' => w'.cell? ⟨g9, 0, none⟩ = some (.string nm) ∧ w'.cell? ⟨g9, 1, none⟩ = some (.int .i64 tr) ∧ w'.cell? ⟨g9, 2, none⟩ = some (.slice (some ⟨g, 0, none⟩) ls.length c) ∧ w'.cell? ⟨gr, 0, none⟩ = some (.int .i64 id)) (ds := []) #[false, false, false, false, false, false, false, false] (by kernel_rfl) rfl rfl ⟨z9_0, z9_1, z9_2, zr_0⟩ (fun hHeld => ?_)
    refine with_tabW contents_Confirm1.tab5 contents_Confirm1.bits5 (fun HT_ HW_ => ?_)
    refine pure_ (i := 0) (N := some 16) (v := ?_) (a' := ?_) #[true, false, false, false, false, false, false, false] rfl rfl (any_of HT_.out (by kernel_rfl)) (fun _ _ _ h => h) (Or.inl ⟨by rfl, ?_⟩) ?_ ?_
    rotate_left
    · intro w'
      go_simp
      with_reducible rfl
    rotate_left
    · simp only [Act.put, List.setIfInBounds_toArray, List.set_cons_zero, List.set_cons_succ, i64_w, i32_w]
      rfl
    refine pure_ (i := 1) (N := some 17) (v := ?_) (a' := ?_) #[true, true, false, false, false, false, false, false] rfl rfl (any_of HT_.out (by kernel_rfl)) (fun _ _ _ h => h) (Or.inl ⟨by rfl, ?_⟩) ?_ ?_
    rotate_left
    · intro w'
      go_simp
      with_reducible rfl
    rotate_left
    · simp only [Act.put, List.setIfInBounds_toArray, List.set_cons_zero, List.set_cons_succ, i64_w, i32_w]
      rfl
    refine pure_ (i := 3) (N := some 19) (v := ?_) (a' := ?_) #[true, true, false, true, false, false, false, false] rfl rfl (any_of HT_.out (by kernel_rfl)) (fun _ _ _ h => h) (Or.inl ⟨by rfl, ?_⟩) ?_ ?_
    rotate_left
    · intro w'
      go_simp
      with_reducible rfl
    rotate_left
    · simp only [Act.put, List.setIfInBounds_toArray, List.set_cons_zero, List.set_cons_succ, i64_w, i32_w]
      rfl
    refine take_ (i := 2) (N := some 18) (v := ?_) (a' := ?_) #[true, true, true, true, false, false, false, false] rfl rfl (take_ofW HT_.out HW_.out (by kernel_rfl)) (fun _ _ _ h => h) (Or.inl ⟨by rfl, ?_⟩) hHeld ?_ ?_
    rotate_left
    · rintro w' ⟨s0, s1, s2, s3⟩
      go_simp
      with_reducible rfl
    rotate_left
    · simp only [Act.put, List.setIfInBounds_toArray, List.set_cons_zero, List.set_cons_succ, i64_w, i32_w]
      rfl
    refine take_ (i := 4) (N := some 20) (v := ?_) (a' := ?_) #[true, true, true, true, true, false, false, false] rfl rfl (take_ofW HT_.out HW_.out (by kernel_rfl)) (fun _ _ _ h => h) (Or.inl ⟨by rfl, ?_⟩) hHeld ?_ ?_
    rotate_left
    · rintro w' ⟨s0, s1, s2, s3⟩
      go_simp
      with_reducible rfl
    rotate_left
    · simp only [Act.put, List.setIfInBounds_toArray, List.set_cons_zero, List.set_cons_succ, i64_w, i32_w]
      rfl
    refine pure_ (i := 5) (N := some 21) (v := ?_) (a' := ?_) #[true, true, true, true, true, true, false, false] rfl rfl (any_of HT_.out (by kernel_rfl)) (fun _ _ _ h => h) (Or.inl ⟨by rfl, ?_⟩) ?_ ?_
    rotate_left
    · intro w'
      go_simp
      with_reducible rfl
    rotate_left
    · simp only [Act.put, List.setIfInBounds_toArray, List.set_cons_zero, List.set_cons_succ, i64_w, i32_w]
      rfl
    refine one_ (i := 6) (N := some 22) #[true, true, true, true, true, true, true, false] rfl rfl (one_of HT_.out (by kernel_rfl)) (by decide) (fun K hK => ?_)
    refine goes_ Try.func93 (by kernel_rfl) rfl #[.agg #[.string nm, .int .i64 tr, .slice (some ⟨g, 0, none⟩) ls.length c], .agg #[.int .i64 id, .int .i64 0]] (by rfl) rfl rfl (by simp only [List.map_toArray, List.map_cons, List.map_nil]; rfl) ?_
    with_reducible refine (index_walk nm tr (some ⟨g, 0, none⟩) c ls id 0 _ (Kd.C_drew HTC.out) HC9.out).mono ?_
    rintro e w3 ⟨rfl, hb⟩
    refine ⟨_, rfl, ?_⟩
    rw [HKX.out]
    have m0 := Aside0.mk (below_step (below_drew1 HW.out) hb)
    have m1 := Aside0.mk (blk_below (blk_drew HB.out) hb)
    have m2 := Aside0.mk (blk_below (blk_drew H9.out) hb)
    have m3 := Aside0.mk (blk_below (blk_drew HN.out) hb)
    have m4 := Aside0.mk (HL.out.drew.below hb)
    clear HW HB H9 HN HL
    have HW := m0
    have HB := m1
    have H9 := m2
    have HN := m3
    have HL := m4
    clear m0 m1 m2 m3 m4
    refine hK.out _ _ ⟨(hb.cell (World.block_lt_of_cell? _ _ (hHeld.1))).trans (hHeld.1), (hb.cell (World.block_lt_of_cell? _ _ (hHeld.2.1))).trans (hHeld.2.1), (hb.cell (World.block_lt_of_cell? _ _ (hHeld.2.2.1))).trans (hHeld.2.2.1), (hb.cell (World.block_lt_of_cell? _ _ (hHeld.2.2.2))).trans (hHeld.2.2.2)⟩ (fun hHeld => ?_)
    clear hK K
    refine norm_ (a' := ?_) ?_ ?_
    rotate_left
    · show Act.put _ (some 22) _ = _
      simp only [Act.put, List.setIfInBounds_toArray, List.set_cons_zero, List.set_cons_succ, i64_w, i32_w]
      rfl
    refine pure_ (i := 7) (N := some 7) (v := ?_) (a' := ?_) #[true, true, true, true, true, true, true, true] rfl rfl (any_of HT_.out (by kernel_rfl)) (fun _ _ _ h => h) (Or.inl ⟨by rfl, ?_⟩) ?_ ?_
    rotate_left
    · intro w'
      go_simp
      with_reducible rfl
    rotate_left
    · simp only [Act.put, List.setIfInBounds_toArray, List.set_cons_zero, List.set_cons_succ, i64_w, i32_w]
      rfl
    refine done_ (done_of HT_.out (by kernel_rfl)) ?_
    have z9_2 : w3.cell? ⟨g9, 2, none⟩ = some (.slice (some ⟨g, 0, none⟩) ls.length c) := fcells g9 w3 _ _ H9.out 2 _ rfl
    go_wp2_with ((with_reducible refine gate_store (t := 66) (p := 31) rfl ?_); refine lab_store HB.out HL.out HK.out (fun _ hk => hk.2) rfl _ _ rfl z66 none 0 (Nat.le_refl _) (Kd.F_nil _ _ _) rfl rfl ?_; intro w4 cs4 hb4 hL4 hg4; have m1 := Aside0.mk (grown_trans (grown_of_below HW.out (some g)) hg4); have m2 := Aside0.mk (blk_grown HN.out hg4 (fun e => HNE.out (by injection e))); clear HB HL HN HW H9 z9_2; have HB := Aside0.mk hb4; have HL := Aside0.mk hL4; have HN := m2; have HGW := m1; clear m1 m2 hb4 hL4 hg4)
    have HIq := Aside0.mk (show i < (ls.set k z66).length by rw [List.length_set]; exact HI.out)
    clear HI
    have HI := HIq
    clear HIq
    obtain ⟨A, cc, h0, z1', h2, z3', h4, h5, h6⟩ := lab_cells (blk_drew HB.out) HL.out.drew HI.out
    rw [show (ls.set k z66).getD i z66 = x from by rw [← HX.out, List.getD_eq_getElem?_getD, List.getElem?_set_ne HKI.out, ← List.getD_eq_getElem?_getD]] at z1' z3'
    have z1 := z1'
    have Z3 := Aside0.mk z3'
    have y1 := blk_frozen (blk_drew HB.out) (i * 5 + 1)
    have zn_0 : w4.drew.cell? ⟨gn, 0, none⟩ = some (.string note) := fcells gn w4 _ _ HN.out 0 _ rfl
    clear z1' z3' h0 h2 h4 h5 h6
    go_wp2
    refine start_ (n := 9) (S := fun w' => w'.cell? ⟨gn, 0, none⟩ = some (.string note)) (ds := [8]) #[false, false, false, false, false, false, false, false, false] (by kernel_rfl) rfl rfl (zn_0) (fun hHeld => ?_)
    refine with_tabW contents_Confirm1.tab8 contents_Confirm1.bits8 (fun HT_ HW_ => ?_)
    refine pure_ (i := 0) (N := some 32) (v := ?_) (a' := ?_) #[true, false, false, false, false, false, false, false, false] rfl rfl (any_of HT_.out (by kernel_rfl)) (fun _ _ _ h => h) (Or.inl ⟨by rfl, ?_⟩) ?_ ?_
    rotate_left
    · intro w'
      go_simp
      with_reducible rfl
    rotate_left
    · simp only [Act.put, List.setIfInBounds_toArray, List.set_cons_zero, List.set_cons_succ, i64_w, i32_w]
      rfl
    refine pure_ (i := 1) (N := some 33) (v := ?_) (a' := ?_) #[true, true, false, false, false, false, false, false, false] rfl rfl (any_of HT_.out (by kernel_rfl)) (fun _ _ _ h => h) (Or.inl ⟨by rfl, ?_⟩) ?_ ?_
    rotate_left
    · intro w'
      go_simp
      with_reducible rfl
    rotate_left
    · simp only [Act.put, List.setIfInBounds_toArray, List.set_cons_zero, List.set_cons_succ, i64_w, i32_w]
      rfl
    refine pure_ (i := 3) (N := some 35) (v := ?_) (a' := ?_) #[true, true, false, true, false, false, false, false, false] rfl rfl (any_of HT_.out (by kernel_rfl)) (fun _ _ _ h => h) (Or.inl ⟨by rfl, ?_⟩) ?_ ?_
    rotate_left
    · intro w'
      go_simp
      with_reducible rfl
    rotate_left
    · simp only [Act.put, List.setIfInBounds_toArray, List.set_cons_zero, List.set_cons_succ, i64_w, i32_w]
      rfl
    refine pure_ (i := 4) (N := some 36) (v := ?_) (a' := ?_) #[true, true, false, true, true, false, false, false, false] rfl rfl (any_of HT_.out (by kernel_rfl)) (fun _ _ _ h => h) (Or.inl ⟨by rfl, ?_⟩) ?_ ?_
    rotate_left
    · intro w'
      go_simp
      with_reducible rfl
    rotate_left
    · simp only [Act.put, List.setIfInBounds_toArray, List.set_cons_zero, List.set_cons_succ, i64_w, i32_w]
      rfl
    refine take_ (i := 2) (N := some 34) (v := ?_) (a' := ?_) #[true, true, true, true, true, false, false, false, false] rfl rfl (take_ofW HT_.out HW_.out (by kernel_rfl)) (fun _ _ _ h => h) (Or.inl ⟨by rfl, ?_⟩) hHeld ?_ ?_
    rotate_left
    · intro w' s0
      go_simp
      with_reducible rfl
    rotate_left
    · simp only [Act.put, List.setIfInBounds_toArray, List.set_cons_zero, List.set_cons_succ, i64_w, i32_w]
      rfl
    refine one_ (i := 5) (N := none) #[true, true, true, true, true, true, false, false, false] rfl rfl (one_of HT_.out (by kernel_rfl)) (by decide) (fun K hK => ?_)
    refine skip_ (w1 := w4.drew.setCell ⟨g, i * 5 + 1, none⟩ (.int .i64 0)) (by rfl) rfl ?_ ?_
    · go_simp
    have m0 := Aside0.mk (blk_set (blk_drew HB.out) (i * 5 + 1) (.int .i64 0))
    have m1 := Aside0.mk (HL.out.drew.put1 HI.out (fun _ hk => hk.2) 0)
    have m2 := Aside0.mk (show (w4.drew.setCell ⟨g, i * 5 + 1, none⟩ (.int .i64 0)).cell? ⟨g, i * 5 + 3, none⟩ = some (.string x.f3) from (World.cell?_setCell_other _ _ _ _ (by intro h; injection h; omega)).trans Z3.out)
    have m3 := Aside0.mk (blk_frozen m0.out (i * 5 + 3))
    have m4 := Aside0.mk (grown_trans (grown_drew HGW.out) (grown_set w4.drew g (i * 5 + 1) (.int .i64 0)))
    have hHeld' := (World.cell?_setCell_other w4.drew ⟨g, i * 5 + 1, none⟩ ⟨gn, 0, none⟩ (.int .i64 0) (fun h => HNE.out (by have h1 := congrArg Addr.block h; first | exact h1 | exact h1.symm))).trans hHeld
    clear z1 y1 HB HL HGW
    generalize w4.drew.setCell ⟨g, i * 5 + 1, none⟩ (.int .i64 0) = w5 at m0 m1 m2 m3 m4 hHeld' ⊢
    refine hK.out _ _ (hHeld') (fun hHeld => ?_)
    clear hK K
    refine pure_ (i := 6) (N := some 37) (v := ?_) (a' := ?_) #[true, true, true, true, true, true, true, false, false] rfl rfl (any_of HT_.out (by kernel_rfl)) (fun _ _ _ h => h) (Or.inl ⟨by rfl, ?_⟩) ?_ ?_
    rotate_left
    · intro w'
      go_simp
      with_reducible rfl
    rotate_left
    · simp only [Act.put, List.setIfInBounds_toArray, List.set_cons_zero, List.set_cons_succ, i64_w, i32_w]
      rfl
    refine pure_ (i := 7) (N := some 38) (v := ?_) (a' := ?_) #[true, true, true, true, true, true, true, true, false] rfl rfl (any_of HT_.out (by kernel_rfl)) (fun _ _ _ h => h) (Or.inl ⟨by rfl, ?_⟩) ?_ ?_
    rotate_left
    · intro w'
      go_simp
      with_reducible rfl
    rotate_left
    · simp only [Act.put, List.setIfInBounds_toArray, List.set_cons_zero, List.set_cons_succ, i64_w, i32_w]
      rfl
    refine last_ (i := 8) (N := none) #[true, true, true, true, true, true, true, true, true] rfl rfl (one_of HT_.out (by kernel_rfl)) (by decide) (fun K hK => ?_)
    have z3 := m2.out
    have y3 := m3.out
    refine skip_ (w1 := w5.setCell ⟨g, i * 5 + 3, none⟩ (.string note)) (by rfl) rfl ?_ ?_
    · go_simp
    refine hK.out _ _ ?_
    clear hK K
    refine done_ (done_of HT_.out (by kernel_rfl)) ?_
    go_wp2
    go_ret
    rw [HRES2.out]
    refine ⟨rfl, grown_trans m4.out (grown_set _ _ _ _), fun _ => ⟨by simp, _, blk_set m0.out _ _, ?_⟩⟩
    have hq := m1.out.put3 (i := i) (by rw [List.length_set]; exact HI.out) (fun _ hk => hk.2) note
    rw [List.getElem_set_self, List.set_set] at hq
    have hxx := (show (ls.set k z66).getD i z66 = x from by rw [← HX.out, List.getD_eq_getElem?_getD, List.getElem?_set_ne HKI.out, ← List.getD_eq_getElem?_getD])
    rw [getD66 HI.out] at hxx
    rw [hxx] at hq
    exact hq
  · have hdk : decide (0 ≤ kx) = false := decide_eq_false hk
    have HRES2 := Aside0.mk (show r = (ls.set i ⟨x.f0, 0, x.f2, note, x.f4⟩, 0) from by rw [HRES.out, if_neg hk])
    clear HRES hk
    go_enter Try.func96, Try.ntmps96
    go_wp2
    refine start_ (n := 8) (S := fun w' => w'.cell? ⟨g9, 0, none⟩ = some (.string nm) ∧ w'.cell? ⟨g9, 1, none⟩ = some (.int .i64 tr) ∧ w'.cell? ⟨g9, 2, none⟩ = some (.slice (some ⟨g, 0, none⟩) ls.length c) ∧ w'.cell? ⟨gr, 0, none⟩ = some (.int .i64 id)) (ds := []) #[false, false, false, false, false, false, false, false] (by kernel_rfl) rfl rfl ⟨z9_0, z9_1, z9_2, zr_0⟩ (fun hHeld => ?_)
    refine with_tabW contents_Confirm1.tab5 contents_Confirm1.bits5 (fun HT_ HW_ => ?_)
    refine pure_ (i := 0) (N := some 16) (v := ?_) (a' := ?_) #[true, false, false, false, false, false, false, false] rfl rfl (any_of HT_.out (by kernel_rfl)) (fun _ _ _ h => h) (Or.inl ⟨by rfl, ?_⟩) ?_ ?_
    rotate_left
    · intro w'
      go_simp
      with_reducible rfl
    rotate_left
    · simp only [Act.put, List.setIfInBounds_toArray, List.set_cons_zero, List.set_cons_succ, i64_w, i32_w]
      rfl
    refine pure_ (i := 1) (N := some 17) (v := ?_) (a' := ?_) #[true, true, false, false, false, false, false, false] rfl rfl (any_of HT_.out (by kernel_rfl)) (fun _ _ _ h => h) (Or.inl ⟨by rfl, ?_⟩) ?_ ?_
    rotate_left
    · intro w'
      go_simp
      with_reducible rfl
    rotate_left
    · simp only [Act.put, List.setIfInBounds_toArray, List.set_cons_zero, List.set_cons_succ, i64_w, i32_w]
      rfl
    refine pure_ (i := 3) (N := some 19) (v := ?_) (a' := ?_) #[true, true, false, true, false, false, false, false] rfl rfl (any_of HT_.out (by kernel_rfl)) (fun _ _ _ h => h) (Or.inl ⟨by rfl, ?_⟩) ?_ ?_
    rotate_left
    · intro w'
      go_simp
      with_reducible rfl
    rotate_left
    · simp only [Act.put, List.setIfInBounds_toArray, List.set_cons_zero, List.set_cons_succ, i64_w, i32_w]
      rfl
    refine take_ (i := 2) (N := some 18) (v := ?_) (a' := ?_) #[true, true, true, true, false, false, false, false] rfl rfl (take_ofW HT_.out HW_.out (by kernel_rfl)) (fun _ _ _ h => h) (Or.inl ⟨by rfl, ?_⟩) hHeld ?_ ?_
    rotate_left
    · rintro w' ⟨s0, s1, s2, s3⟩
      go_simp
      with_reducible rfl
    rotate_left
    · simp only [Act.put, List.setIfInBounds_toArray, List.set_cons_zero, List.set_cons_succ, i64_w, i32_w]
      rfl
    refine take_ (i := 4) (N := some 20) (v := ?_) (a' := ?_) #[true, true, true, true, true, false, false, false] rfl rfl (take_ofW HT_.out HW_.out (by kernel_rfl)) (fun _ _ _ h => h) (Or.inl ⟨by rfl, ?_⟩) hHeld ?_ ?_
    rotate_left
    · rintro w' ⟨s0, s1, s2, s3⟩
      go_simp
      with_reducible rfl
    rotate_left
    · simp only [Act.put, List.setIfInBounds_toArray, List.set_cons_zero, List.set_cons_succ, i64_w, i32_w]
      rfl
    refine pure_ (i := 5) (N := some 21) (v := ?_) (a' := ?_) #[true, true, true, true, true, true, false, false] rfl rfl (any_of HT_.out (by kernel_rfl)) (fun _ _ _ h => h) (Or.inl ⟨by rfl, ?_⟩) ?_ ?_
    rotate_left
    · intro w'
      go_simp
      with_reducible rfl
    rotate_left
    · simp only [Act.put, List.setIfInBounds_toArray, List.set_cons_zero, List.set_cons_succ, i64_w, i32_w]
      rfl
    refine one_ (i := 6) (N := some 22) #[true, true, true, true, true, true, true, false] rfl rfl (one_of HT_.out (by kernel_rfl)) (by decide) (fun K hK => ?_)
    refine goes_ Try.func93 (by kernel_rfl) rfl #[.agg #[.string nm, .int .i64 tr, .slice (some ⟨g, 0, none⟩) ls.length c], .agg #[.int .i64 id, .int .i64 0]] (by rfl) rfl rfl (by simp only [List.map_toArray, List.map_cons, List.map_nil]; rfl) ?_
    with_reducible refine (index_walk nm tr (some ⟨g, 0, none⟩) c ls id 0 _ (Kd.C_drew HTC.out) HC9.out).mono ?_
    rintro e w3 ⟨rfl, hb⟩
    refine ⟨_, rfl, ?_⟩
    rw [HKX.out]
    have m0 := Aside0.mk (below_step (below_drew1 HW.out) hb)
    have m1 := Aside0.mk (blk_below (blk_drew HB.out) hb)
    have m2 := Aside0.mk (blk_below (blk_drew H9.out) hb)
    have m3 := Aside0.mk (blk_below (blk_drew HN.out) hb)
    have m4 := Aside0.mk (HL.out.drew.below hb)
    clear HW HB H9 HN HL
    have HW := m0
    have HB := m1
    have H9 := m2
    have HN := m3
    have HL := m4
    clear m0 m1 m2 m3 m4
    refine hK.out _ _ ⟨(hb.cell (World.block_lt_of_cell? _ _ (hHeld.1))).trans (hHeld.1), (hb.cell (World.block_lt_of_cell? _ _ (hHeld.2.1))).trans (hHeld.2.1), (hb.cell (World.block_lt_of_cell? _ _ (hHeld.2.2.1))).trans (hHeld.2.2.1), (hb.cell (World.block_lt_of_cell? _ _ (hHeld.2.2.2))).trans (hHeld.2.2.2)⟩ (fun hHeld => ?_)
    clear hK K
    refine norm_ (a' := ?_) ?_ ?_
    rotate_left
    · show Act.put _ (some 22) _ = _
      simp only [Act.put, List.setIfInBounds_toArray, List.set_cons_zero, List.set_cons_succ, i64_w, i32_w]
      rfl
    refine pure_ (i := 7) (N := some 7) (v := ?_) (a' := ?_) #[true, true, true, true, true, true, true, true] rfl rfl (any_of HT_.out (by kernel_rfl)) (fun _ _ _ h => h) (Or.inl ⟨by rfl, ?_⟩) ?_ ?_
    rotate_left
    · intro w'
      go_simp
      with_reducible rfl
    rotate_left
    · simp only [Act.put, List.setIfInBounds_toArray, List.set_cons_zero, List.set_cons_succ, i64_w, i32_w]
      rfl
    refine done_ (done_of HT_.out (by kernel_rfl)) ?_
    have HGW := Aside0.mk (grown_of_below HW.out (some g))
    obtain ⟨A, cc, h0, z1', h2, z3', h4, h5, h6⟩ := lab_cells (blk_drew HB.out) HL.out.drew HI.out
    rw [HX.out] at z1' z3'
    have z1 := z1'
    have Z3 := Aside0.mk z3'
    have y1 := blk_frozen (blk_drew HB.out) (i * 5 + 1)
    have zn_0 : w3.drew.cell? ⟨gn, 0, none⟩ = some (.string note) := fcells gn w3 _ _ HN.out 0 _ rfl
    clear z1' z3' h0 h2 h4 h5 h6
    go_wp2
    refine start_ (n := 9) (S := fun w' => w'.cell? ⟨gn, 0, none⟩ = some (.string note)) (ds := [8]) #[false, false, false, false, false, false, false, false, false] (by kernel_rfl) rfl rfl (zn_0) (fun hHeld => ?_)
    refine with_tabW contents_Confirm1.tab8 contents_Confirm1.bits8 (fun HT_ HW_ => ?_)
    refine pure_ (i := 0) (N := some 32) (v := ?_) (a' := ?_) #[true, false, false, false, false, false, false, false, false] rfl rfl (any_of HT_.out (by kernel_rfl)) (fun _ _ _ h => h) (Or.inl ⟨by rfl, ?_⟩) ?_ ?_
    rotate_left
    · intro w'
      go_simp
      with_reducible rfl
    rotate_left
    · simp only [Act.put, List.setIfInBounds_toArray, List.set_cons_zero, List.set_cons_succ, i64_w, i32_w]
      rfl
    refine pure_ (i := 1) (N := some 33) (v := ?_) (a' := ?_) #[true, true, false, false, false, false, false, false, false] rfl rfl (any_of HT_.out (by kernel_rfl)) (fun _ _ _ h => h) (Or.inl ⟨by rfl, ?_⟩) ?_ ?_
    rotate_left
    · intro w'
      go_simp
      with_reducible rfl
    rotate_left
    · simp only [Act.put, List.setIfInBounds_toArray, List.set_cons_zero, List.set_cons_succ, i64_w, i32_w]
      rfl
    refine pure_ (i := 3) (N := some 35) (v := ?_) (a' := ?_) #[true, true, false, true, false, false, false, false, false] rfl rfl (any_of HT_.out (by kernel_rfl)) (fun _ _ _ h => h) (Or.inl ⟨by rfl, ?_⟩) ?_ ?_
    rotate_left
    · intro w'
      go_simp
      with_reducible rfl
    rotate_left
    · simp only [Act.put, List.setIfInBounds_toArray, List.set_cons_zero, List.set_cons_succ, i64_w, i32_w]
      rfl
    refine pure_ (i := 4) (N := some 36) (v := ?_) (a' := ?_) #[true, true, false, true, true, false, false, false, false] rfl rfl (any_of HT_.out (by kernel_rfl)) (fun _ _ _ h => h) (Or.inl ⟨by rfl, ?_⟩) ?_ ?_
    rotate_left
    · intro w'
      go_simp
      with_reducible rfl
    rotate_left
    · simp only [Act.put, List.setIfInBounds_toArray, List.set_cons_zero, List.set_cons_succ, i64_w, i32_w]
      rfl
    refine take_ (i := 2) (N := some 34) (v := ?_) (a' := ?_) #[true, true, true, true, true, false, false, false, false] rfl rfl (take_ofW HT_.out HW_.out (by kernel_rfl)) (fun _ _ _ h => h) (Or.inl ⟨by rfl, ?_⟩) hHeld ?_ ?_
    rotate_left
    · intro w' s0
      go_simp
      with_reducible rfl
    rotate_left
    · simp only [Act.put, List.setIfInBounds_toArray, List.set_cons_zero, List.set_cons_succ, i64_w, i32_w]
      rfl
    refine one_ (i := 5) (N := none) #[true, true, true, true, true, true, false, false, false] rfl rfl (one_of HT_.out (by kernel_rfl)) (by decide) (fun K hK => ?_)
    refine skip_ (w1 := w3.drew.setCell ⟨g, i * 5 + 1, none⟩ (.int .i64 0)) (by rfl) rfl ?_ ?_
    · go_simp
    have m0 := Aside0.mk (blk_set (blk_drew HB.out) (i * 5 + 1) (.int .i64 0))
    have m1 := Aside0.mk (HL.out.drew.put1 HI.out (fun _ hk => hk.2) 0)
    have m2 := Aside0.mk (show (w3.drew.setCell ⟨g, i * 5 + 1, none⟩ (.int .i64 0)).cell? ⟨g, i * 5 + 3, none⟩ = some (.string x.f3) from (World.cell?_setCell_other _ _ _ _ (by intro h; injection h; omega)).trans Z3.out)
    have m3 := Aside0.mk (blk_frozen m0.out (i * 5 + 3))
    have m4 := Aside0.mk (grown_trans (grown_drew HGW.out) (grown_set w3.drew g (i * 5 + 1) (.int .i64 0)))
    have hHeld' := (World.cell?_setCell_other w3.drew ⟨g, i * 5 + 1, none⟩ ⟨gn, 0, none⟩ (.int .i64 0) (fun h => HNE.out (by have h1 := congrArg Addr.block h; first | exact h1 | exact h1.symm))).trans hHeld
    clear z1 y1 HB HL HGW
    generalize w3.drew.setCell ⟨g, i * 5 + 1, none⟩ (.int .i64 0) = w5 at m0 m1 m2 m3 m4 hHeld' ⊢
    refine hK.out _ _ (hHeld') (fun hHeld => ?_)
    clear hK K
    refine pure_ (i := 6) (N := some 37) (v := ?_) (a' := ?_) #[true, true, true, true, true, true, true, false, false] rfl rfl (any_of HT_.out (by kernel_rfl)) (fun _ _ _ h => h) (Or.inl ⟨by rfl, ?_⟩) ?_ ?_
    rotate_left
    · intro w'
      go_simp
      with_reducible rfl
    rotate_left
    · simp only [Act.put, List.setIfInBounds_toArray, List.set_cons_zero, List.set_cons_succ, i64_w, i32_w]
      rfl
    refine pure_ (i := 7) (N := some 38) (v := ?_) (a' := ?_) #[true, true, true, true, true, true, true, true, false] rfl rfl (any_of HT_.out (by kernel_rfl)) (fun _ _ _ h => h) (Or.inl ⟨by rfl, ?_⟩) ?_ ?_
    rotate_left
    · intro w'
      go_simp
      with_reducible rfl
    rotate_left
    · simp only [Act.put, List.setIfInBounds_toArray, List.set_cons_zero, List.set_cons_succ, i64_w, i32_w]
      rfl
    refine last_ (i := 8) (N := none) #[true, true, true, true, true, true, true, true, true] rfl rfl (one_of HT_.out (by kernel_rfl)) (by decide) (fun K hK => ?_)
    have z3 := m2.out
    have y3 := m3.out
    refine skip_ (w1 := w5.setCell ⟨g, i * 5 + 3, none⟩ (.string note)) (by rfl) rfl ?_ ?_
    · go_simp
    refine hK.out _ _ ?_
    clear hK K
    refine done_ (done_of HT_.out (by kernel_rfl)) ?_
    go_wp2
    go_ret
    rw [HRES2.out]
    refine ⟨rfl, grown_trans m4.out (grown_set _ _ _ _), fun _ => ⟨by simp, _, blk_set m0.out _ _, ?_⟩⟩
    have hq := m1.out.put3 (i := i) (by rw [List.length_set]; exact HI.out) (fun _ hk => hk.2) note
    rw [List.getElem_set_self, List.set_set] at hq
    have hxx := HX.out
    rw [getD66 HI.out] at hxx
    rw [hxx] at hq
    exact hq
end Go.Proofs.Ytghpmenoiimpoaa.P
