import Derived.Test.YtghpmenoiimpoaaDHKind
import Derived.Test.YtghpmenoiimpoaaDHLabelValid
namespace Go.Proofs.Ytghpmenoiimpoaa.P
open Go.RowKit Go.Proofs.YtghpmenoiimpoaaW.PrintWords Go.Proofs.YtghpmenoiimpoaaW.PrintLast Go.Proofs.YtghpmenoiimpoaaW.PrintMore
set_option linter.unusedVariables false
set_option linter.unusedSimpArgs false
def slotsP (t : Int) : Int := if okT t = true then (t + 3) / 4 - 1 else 0
theorem slots_bd (t : Int) : 0 ≤ slotsP t ∧ slotsP t ≤ 31 := by
  unfold slotsP
  by_cases h : okT t = true
  · rw [if_pos h]
    have h2 : 4 ≤ t ∧ t ≤ 128 := by simpa [okT] using h
    omega
  · rw [if_neg h]; omega
theorem slots_some (t : Int) : label_Slots.f t = some (slotsP t) := by
  unfold label_Slots.f slotsP
  rw [ttr_some, Option.bind_some]
  unfold ttr
  by_cases h : okT t = true
  · rw [if_pos h, if_pos h]
    have h2 : 4 ≤ t ∧ t ≤ 128 := by simpa [okT] using h
    rw [w64 (by omega) (by omega)]
    congr 1
    unfold mx
    split <;> omega
  · rw [if_neg h, if_neg h]
    simp [mx, wrap64]
def chP (c : Int) : Bool := if c < 65 then decide (48 ≤ c) && decide (c ≤ 57) else decide (c ≤ 90)
/-- A name of volumes. -/
def nameP (s : ByteArray) : Bool := decide (1 ≤ s.size) && (decide (s.size ≤ 8) && (decide (65 ≤ bt s 0) && (bytesOf s).all chP))
theorem bytesOf_get (s : ByteArray) (i : Nat) (h : i < (bytesOf s).length) : (bytesOf s)[i] = bt s i := by
  have := rd_bytesOf s (i : Int)
  rw [← this]
  simp [rd, List.getD_eq_getElem?_getD, h]
theorem name_l0 (s : ByteArray) (hs : s.size ≤ 8) : ∀ (d k i : Nat), i + d = s.size → d < k → label_ValidName.l0 k s (s.size : Int) (i : Int) = some (((bytesOf s).drop i).all chP) := by
  intro d
  induction d with
  | zero =>
    intro k i hi hk
    obtain ⟨k, rfl⟩ : ∃ j, k = j + 1 := ⟨k - 1, by omega⟩
    rw [List.drop_eq_nil_of_le (by rw [bytesOf_length]; omega), label_ValidName.l0, if_neg (by omega)]
    rfl
  | succ d ih =>
    intro k i hi hk
    obtain ⟨k, rfl⟩ : ∃ j, k = j + 1 := ⟨k - 1, by omega⟩
    have hl : i < (bytesOf s).length := by rw [bytesOf_length]; omega
    have hw : wrap64 ((i : Int) + 1) = ((i + 1 : Nat) : Int) := by unfold wrap64; omega
    rw [List.drop_eq_getElem_cons hl, bytesOf_get s i hl, label_ValidName.l0, if_pos (by omega), if_pos (by omega), if_pos (by omega), hw, ih k (i + 1) (by omega) (by omega), List.all_cons]
    unfold chP
    generalize bt s (i : Int) = c
    by_cases h1 : c < 65
    · rw [if_pos h1, if_pos h1]
      by_cases h2 : c < 48
      · rw [if_pos h2, decide_eq_false (show ¬ 48 ≤ c by omega)]; rfl
      · rw [if_neg h2, decide_eq_true (show 48 ≤ c by omega), Bool.true_and]
        by_cases h3 : c > 57
        · rw [if_pos h3, decide_eq_false (show ¬ c ≤ 57 by omega)]; rfl
        · rw [if_neg h3, decide_eq_true (show c ≤ 57 by omega), Bool.true_and]
    · rw [if_neg h1, if_neg h1]
      by_cases h2 : c > 90
      · rw [if_pos h2, if_neg (by omega), if_pos (by omega), decide_eq_false (show ¬ c ≤ 90 by omega)]; rfl
      · rw [if_neg h2, decide_eq_true (show c ≤ 90 by omega), Bool.true_and]
theorem name_some (s : ByteArray) : label_ValidName.f 20 s = some (nameP s) := by
  unfold label_ValidName.f nameP
  by_cases h1 : (s.size : Int) < 1
  · rw [if_pos h1, decide_eq_false (show ¬ 1 ≤ s.size by omega)]; rfl
  · rw [if_neg h1, decide_eq_true (show 1 ≤ s.size by omega), Bool.true_and]
    by_cases h2 : (s.size : Int) > 8
    · rw [if_pos h2, decide_eq_false (show ¬ s.size ≤ 8 by omega)]; rfl
    · rw [if_neg h2, if_pos (by omega), decide_eq_true (show s.size ≤ 8 by omega), Bool.true_and, label_ValidName.j0]
      by_cases h3 : bt s 0 < 65
      · rw [if_pos (decide_eq_true h3), decide_eq_false (show ¬ 65 ≤ bt s 0 by omega)]; rfl
      · rw [if_neg (by simpa using h3), decide_eq_true (show 65 ≤ bt s 0 by omega), Bool.true_and]
        exact name_l0 s (by omega) s.size 19 0 (by omega) (by omega)
/-- A label is zero. -/
def emptyP (x : S66) : Bool := (x.f0 == 0) && ((x.f1 == 0) && (decide (x.f2.toList = (⟨#[]⟩ : ByteArray).toList) && (decide (x.f3.toList = (⟨#[]⟩ : ByteArray).toList) && sameL x.f4 [])))
theorem eqr_nil (l : List S25) (k : Nat) (hk : 0 < k) : api_Run_85.f k l [] = some (sameL l []) := by
  cases l with
  | nil => exact eqr_some [] [] (by simp) k hk
  | cons a l =>
    unfold api_Run_85.f
    rw [if_neg (by simp; omega)]
    rfl
theorem empty_some (x : S66) (k : Nat) (hk : 0 < k) : contents_empty.f k x.f0 x.f1 x.f2 x.f3 x.f4 = some (emptyP x) := by
  unfold contents_empty.f label_Equal.f emptyP
  rw [eqr_nil _ _ hk]
  by_cases h0 : x.f0 = 0
  · by_cases h1 : x.f1 = 0
    · rw [if_pos h0, if_pos h1, beq_iff_eq.mpr h0, beq_iff_eq.mpr h1, Bool.true_and, Bool.true_and]
      by_cases h2 : x.f2.toList = (⟨#[]⟩ : ByteArray).toList
      · rw [if_pos h2, decide_eq_true h2, Bool.true_and]
        by_cases h3 : x.f3.toList = (⟨#[]⟩ : ByteArray).toList
        · rw [if_pos h3, decide_eq_true h3, Bool.true_and]
          rfl
        · rw [if_neg h3, decide_eq_false h3, Bool.false_and]
          rfl
      · rw [if_neg h2, decide_eq_false h2, Bool.false_and]
        rfl
    · rw [if_pos h0, if_neg h1, beq_eq_false_iff_ne.mpr h1, Bool.false_and, Bool.and_false]
      rfl
  · rw [if_neg h0, beq_eq_false_iff_ne.mpr h0, Bool.false_and]
    rfl
/-- The loop over the labels: the runs of all, or none where a label is not valid or occurs twice. -/
def vLoop (tr : Int) (seen : List (Int × Bool)) (all : List S25) : List S66 → Option (List S25)
  | [] => some all
  | x :: l => if emptyP x = true then vLoop tr seen all l else if (labelOk x.f0 x.f1 x.f2 x.f3 x.f4 tr && !seen.contains (x.f0, decide (0 < x.f1))) = true then vLoop tr (seen ++ [(x.f0, decide (0 < x.f1))]) (all ++ x.f4) l else none
def loopRes : Option (List S25) → Bool
  | some all => djL all
  | none => false
/-- A table is valid. -/
def tableOk (nm : ByteArray) (tr : Int) (ls : List S66) : Bool := !(ttr tr == 0) && (nameP nm && (((ls.length : Int) == slotsP tr) && loopRes (vLoop tr [] [] ls)))
def contents_Valid.f (a0_0 : ByteArray) (a0_1 : Int) (l0_2 : List S66) : Option Bool := some (tableOk a0_0 a0_1 l0_2)
theorem labelOk_wf {f0 f1 : Int} {f2 f3 : ByteArray} {l : List S25} {tr : Int} (h : labelOk f0 f1 f2 f3 l tr = true) : (Lit.int .i64 f0).wf = true := by
  have : 1 ≤ f0 ∧ f0 ≤ 1099511627776 := by
    simp only [labelOk, Bool.and_eq_true, idOk, decide_eq_true_eq] at h
    omega
  exact WalkArith.wf_i64 (by omega)
theorem labelOk_len {f0 f1 : Int} {f2 f3 : ByteArray} {l : List S25} {tr : Int} (h : labelOk f0 f1 f2 f3 l tr = true) : l.length ≤ 16 := by
  simp only [labelOk, Bool.and_eq_true] at h
  exact lnOk_le h.2.2.2.1
def contents_Valid.T1 : Bool × List (List Nat × List Nat) := (true, [([], []), ([0], [0]), ([1], [1]), ([2], [2]), ([3, 2], [3]), ([4], [4]), ([5, 4], [4, 5]), ([6, 4, 4], [4, 6]), ([7, 4], [4, 7]), ([4, 8], [4, 8]), ([9, 7], [9]), ([10], [10]), ([11, 10], [10, 11]), ([12, 10], [10, 12]), ([10], [10]), ([14, 10], [10, 14]), ([15, 10, 10], [10, 15]), ([13, 16, 10], [10, 13, 16]), ([10, 17], [10, 17])])
def contents_Valid.B1 : List Nat := [0, 1, 3, 7, 15, 31, 63, 127, 255, 511, 1023, 2047, 4095, 8191, 2047, 18431, 51199, 131071, 262143]
theorem contents_Valid.tab1 : rtab .any (opsOf Try.f29 1) = contents_Valid.T1 := by kernel_rfl
theorem contents_Valid.bits1 : waitsOk contents_Valid.T1.2 contents_Valid.B1 = true := by kernel_rfl
def contents_Valid.T12 : Bool × List (List Nat × List Nat) := (true, [([], []), ([], []), ([], []), ([], []), ([3], [3]), ([2, 4], [2, 4]), ([0, 1, 5, 0, 1, 5], [0, 1]), ([5, 6, 0, 1, 2, 3, 4, 5, 6], [2, 5])])
def contents_Valid.B12 : List Nat := [0, 0, 0, 0, 8, 28, 63, 127]
theorem contents_Valid.tab12 : rtab .any (opsOf Try.f29 12) = contents_Valid.T12 := by kernel_rfl
theorem contents_Valid.bits12 : waitsOk contents_Valid.T12.2 contents_Valid.B12 = true := by kernel_rfl
set_option maxHeartbeats 4000000 in
set_option maxRecDepth 100000 in
theorem contents_Valid.calls (a0_0 : ByteArray) (a0_1 : Int) (A0_2 : Option Addr) (c0_2 : Nat) (l0_2 : List S66) (r : Bool) (w : World) (hr0_2 : Kd.C k66 w A0_2 l0_2.length l0_2) (hc0_2 : l0_2.length ≤ c0_2) (h : contents_Valid.f a0_0 a0_1 l0_2 = some r) :
    Calls Try.prog 29 #[.agg #[.string a0_0, .int .i64 a0_1, .slice A0_2 l0_2.length c0_2]] w fun e w' => e = .returned (.bool r) ∧ Below w.heap.size w w' := by
  obtain rfl := Option.some.inj h
  clear h
  have hu41 := Try.underlying41
  have hu66 := Try.underlying66
  have hu102 := Try.underlying102
  have hmm := @run_makeMap Try.prog
  have HR := Aside0.mk hr0_2
  have HC := Aside0.mk hc0_2
  have HT := Aside0.mk (ttr_some a0_1)
  have HS := Aside0.mk (slots_some a0_1)
  have hn0 := name_some a0_0
  clear hr0_2 hc0_2
  have HB := Aside0.mk (Below.refl w.heap.size w)
  unfold tableOk
  generalize nameP a0_0 = nb at hn0 ⊢
  have HN := Aside0.mk hn0
  clear hn0
  by_cases h1 : ttr a0_1 = 0
  · have h1b : (ttr a0_1 == 0) = true := beq_iff_eq.mpr h1
    rw [h1b, Bool.not_true, Bool.false_and]
    clear h1
    go_enter Try.func29, Try.ntmps29
    go_wp2_with ((with_reducible refine gate_dst (N := 1) rfl ?_); refine box_event ?hg (N := 1) ?hd (cs := #[.string a0_0, .int .i64 a0_1, .slice A0_2 l0_2.length c0_2]) (t := 41) ?hr ?_; (case hd => rfl); (case hg => rfl); (case hr => first | (go_simp; done) | (go_simp; rfl)); intro g1 hg_ wx1 hbox_ hb_; have G1 := Aside0.mk (by rw [hg_]; exact below_size HB.out : w.heap.size ≤ g1); have n0_ := Aside0.mk (below_step HB.out hb_); clear HB; have HB := n0_; clear n0_; have B1 := Aside0.mk hbox_; clear hb_ hbox_ hg_; have z1_0 := fcells g1 wx1 _ _ B1.out 0 _ rfl; have z1_1 := fcells g1 wx1 _ _ B1.out 1 _ rfl; have z1_2 := fcells g1 wx1 _ _ B1.out 2 _ rfl; clear z1_0 z1_1 z1_2; have z1_0 : wx1.drew.cell? ⟨g1, 0, none⟩ = some (.string a0_0) := fcells g1 wx1 _ _ B1.out 0 _ rfl; have z1_1 : wx1.drew.cell? ⟨g1, 1, none⟩ = some (.int .i64 a0_1) := fcells g1 wx1 _ _ B1.out 1 _ rfl; have z1_2 : wx1.drew.cell? ⟨g1, 2, none⟩ = some (.slice A0_2 l0_2.length c0_2) := fcells g1 wx1 _ _ B1.out 2 _ rfl)
    refine start_ (n := 19) (S := fun w' => w'.cell? ⟨g1, 0, none⟩ = some (.string a0_0) ∧ w'.cell? ⟨g1, 1, none⟩ = some (.int .i64 a0_1) ∧ w'.cell? ⟨g1, 2, none⟩ = some (.slice A0_2 l0_2.length c0_2)) (ds := []) #[false, false, false, false, false, false, false, false, false, false, false, false, false, false, false, false, false, false, false] (by kernel_rfl) rfl rfl ⟨z1_0, z1_1, z1_2⟩ (fun hHeld => ?_)
    refine with_tabW contents_Valid.tab1 contents_Valid.bits1 (fun HT_ HW_ => ?_)
    refine pure_ (i := 0) (N := some 8) (v := ?_) (a' := ?_) #[true, false, false, false, false, false, false, false, false, false, false, false, false, false, false, false, false, false, false] rfl rfl (any_of HT_.out (by kernel_rfl)) (fun _ _ _ h => h) (Or.inl ⟨by rfl, ?_⟩) ?_ ?_
    rotate_left
    · intro w'
      go_simp
      with_reducible rfl
    rotate_left
    · simp only [Act.put, List.setIfInBounds_toArray, List.set_cons_zero, List.set_cons_succ, i64_w, i32_w]
      rfl
    refine take_ (i := 1) (N := some 9) (v := ?_) (a' := ?_) #[true, true, false, false, false, false, false, false, false, false, false, false, false, false, false, false, false, false, false] rfl rfl (take_ofW HT_.out HW_.out (by kernel_rfl)) (fun _ _ _ h => h) (Or.inl ⟨by rfl, ?_⟩) hHeld ?_ ?_
    rotate_left
    · rintro w' ⟨s0, s1, s2⟩
      go_simp
      with_reducible rfl
    rotate_left
    · simp only [Act.put, List.setIfInBounds_toArray, List.set_cons_zero, List.set_cons_succ, i64_w, i32_w]
      rfl
    refine one_ (i := 2) (N := some 10) #[true, true, true, false, false, false, false, false, false, false, false, false, false, false, false, false, false, false, false] rfl rfl (one_of HT_.out (by kernel_rfl)) (by decide) (fun K hK => ?_)
    refine goes_ Try.func74 (by kernel_rfl) rfl #[.int .i64 a0_1] (by rfl) rfl rfl (by simp only [List.map_toArray, List.map_cons, List.map_nil]; rfl) ?_
    with_reducible refine (label_TableTracks.calls a0_1 (ttr a0_1) _ HT.out).mono ?_
    rintro e w3 ⟨rfl, hd⟩
    refine ⟨_, rfl, ?_⟩
    have hb := hd.below
    have m0 := Aside0.mk (below_step (below_drew1 HB.out) hb)
    have m1 := Aside0.mk (blk_below (blk_drew B1.out) hb)
    clear HB B1 hd
    have HB := m0
    have B1 := m1
    clear m0 m1
    refine hK.out _ _ ⟨(hb.cell (World.block_lt_of_cell? _ _ (hHeld.1))).trans (hHeld.1), (hb.cell (World.block_lt_of_cell? _ _ (hHeld.2.1))).trans (hHeld.2.1), (hb.cell (World.block_lt_of_cell? _ _ (hHeld.2.2))).trans (hHeld.2.2)⟩ (fun hHeld => ?_)
    clear hK K
    refine norm_ (a' := ?_) ?_ ?_
    rotate_left
    · show Act.put _ (some 10) _ = _
      simp only [Act.put, List.setIfInBounds_toArray, List.set_cons_zero, List.set_cons_succ, i64_w, i32_w]
      rfl
    refine pure_ (i := 3) (N := some 11) (v := ?_) (a' := ?_) #[true, true, true, true, false, false, false, false, false, false, false, false, false, false, false, false, false, false, false] rfl rfl (any_of HT_.out (by kernel_rfl)) (fun _ _ _ h => h) (Or.inl ⟨by rfl, ?_⟩) ?_ ?_
    rotate_left
    · intro w'
      go_simp
      with_reducible rfl
    rotate_left
    · simp only [Act.put, List.setIfInBounds_toArray, List.set_cons_zero, List.set_cons_succ, i64_w, i32_w]
      rfl
    refine pure_ (i := 4) (N := some 12) (v := ?_) (a' := ?_) #[true, true, true, true, true, false, false, false, false, false, false, false, false, false, false, false, false, false, false] rfl rfl (any_of HT_.out (by kernel_rfl)) (fun _ _ _ h => h) (Or.inl ⟨by rfl, ?_⟩) ?_ ?_
    rotate_left
    · intro w'
      go_simp
      with_reducible rfl
    rotate_left
    · simp only [Act.put, List.setIfInBounds_toArray, List.set_cons_zero, List.set_cons_succ, i64_w, i32_w]
      rfl
    refine pure_ (i := 5) (N := some 13) (v := undef) (a' := ?_) #[true, true, true, true, true, true, false, false, false, false, false, false, false, false, false, false, false, false, false] rfl rfl (any_of HT_.out (by kernel_rfl)) (fun _ _ _ h => h) (Or.inr ⟨by rfl, rfl⟩) ?_ ?_
    rotate_left
    · simp only [Act.put, List.setIfInBounds_toArray, List.set_cons_zero, List.set_cons_succ, i64_w, i32_w]
      rfl
    refine pure_ (i := 6) (N := some 14) (v := undef) (a' := ?_) #[true, true, true, true, true, true, true, false, false, false, false, false, false, false, false, false, false, false, false] rfl rfl (any_of HT_.out (by kernel_rfl)) (fun _ _ _ h => h) (Or.inr ⟨by rfl, rfl⟩) ?_ ?_
    rotate_left
    · simp only [Act.put, List.setIfInBounds_toArray, List.set_cons_zero, List.set_cons_succ, i64_w, i32_w]
      rfl
    refine pure_ (i := 7) (N := some 15) (v := undef) (a' := ?_) #[true, true, true, true, true, true, true, true, false, false, false, false, false, false, false, false, false, false, false] rfl rfl (any_of HT_.out (by kernel_rfl)) (fun _ _ _ h => h) (Or.inr ⟨by rfl, rfl⟩) ?_ ?_
    rotate_left
    · simp only [Act.put, List.setIfInBounds_toArray, List.set_cons_zero, List.set_cons_succ, i64_w, i32_w]
      rfl
    refine pure_ (i := 8) (N := some 16) (v := undef) (a' := ?_) #[true, true, true, true, true, true, true, true, true, false, false, false, false, false, false, false, false, false, false] rfl rfl (any_of HT_.out (by kernel_rfl)) (fun _ _ _ h => h) (Or.inr ⟨by rfl, rfl⟩) ?_ ?_
    rotate_left
    · simp only [Act.put, List.setIfInBounds_toArray, List.set_cons_zero, List.set_cons_succ, i64_w, i32_w]
      rfl
    refine pure_ (i := 9) (N := some 17) (v := ?_) (a' := ?_) #[true, true, true, true, true, true, true, true, true, true, false, false, false, false, false, false, false, false, false] rfl rfl (any_of HT_.out (by kernel_rfl)) (fun _ _ _ h => h) (Or.inl ⟨by rfl, ?_⟩) ?_ ?_
    rotate_left
    · intro w'
      go_simp
      with_reducible rfl
    rotate_left
    · simp only [Act.put, List.setIfInBounds_toArray, List.set_cons_zero, List.set_cons_succ, i64_w, i32_w]
      rfl
    refine pure_ (i := 10) (N := some 18) (v := ?_) (a' := ?_) #[true, true, true, true, true, true, true, true, true, true, true, false, false, false, false, false, false, false, false] rfl rfl (any_of HT_.out (by kernel_rfl)) (fun _ _ _ h => h) (Or.inl ⟨by rfl, ?_⟩) ?_ ?_
    rotate_left
    · intro w'
      go_simp
      with_reducible rfl
    rotate_left
    · simp only [Act.put, List.setIfInBounds_toArray, List.set_cons_zero, List.set_cons_succ, i64_w, i32_w]
      rfl
    refine pure_ (i := 11) (N := some 19) (v := undef) (a' := ?_) #[true, true, true, true, true, true, true, true, true, true, true, true, false, false, false, false, false, false, false] rfl rfl (any_of HT_.out (by kernel_rfl)) (fun _ _ _ h => h) (Or.inr ⟨by rfl, rfl⟩) ?_ ?_
    rotate_left
    · simp only [Act.put, List.setIfInBounds_toArray, List.set_cons_zero, List.set_cons_succ, i64_w, i32_w]
      rfl
    refine pure_ (i := 12) (N := some 20) (v := undef) (a' := ?_) #[true, true, true, true, true, true, true, true, true, true, true, true, true, false, false, false, false, false, false] rfl rfl (any_of HT_.out (by kernel_rfl)) (fun _ _ _ h => h) (Or.inr ⟨by rfl, rfl⟩) ?_ ?_
    rotate_left
    · simp only [Act.put, List.setIfInBounds_toArray, List.set_cons_zero, List.set_cons_succ, i64_w, i32_w]
      rfl
    refine pure_ (i := 13) (N := some 21) (v := undef) (a' := ?_) #[true, true, true, true, true, true, true, true, true, true, true, true, true, true, false, false, false, false, false] rfl rfl (any_of HT_.out (by kernel_rfl)) (fun _ _ _ h => h) (Or.inr ⟨by rfl, rfl⟩) ?_ ?_
    rotate_left
    · simp only [Act.put, List.setIfInBounds_toArray, List.set_cons_zero, List.set_cons_succ, i64_w, i32_w]
      rfl
    refine pure_ (i := 14) (N := some 22) (v := undef) (a' := ?_) #[true, true, true, true, true, true, true, true, true, true, true, true, true, true, true, false, false, false, false] rfl rfl (any_of HT_.out (by kernel_rfl)) (fun _ _ _ h => h) (Or.inr ⟨by rfl, rfl⟩) ?_ ?_
    rotate_left
    · simp only [Act.put, List.setIfInBounds_toArray, List.set_cons_zero, List.set_cons_succ, i64_w, i32_w]
      rfl
    refine pure_ (i := 15) (N := some 23) (v := undef) (a' := ?_) #[true, true, true, true, true, true, true, true, true, true, true, true, true, true, true, true, false, false, false] rfl rfl (any_of HT_.out (by kernel_rfl)) (fun _ _ _ h => h) (Or.inr ⟨by rfl, rfl⟩) ?_ ?_
    rotate_left
    · simp only [Act.put, List.setIfInBounds_toArray, List.set_cons_zero, List.set_cons_succ, i64_w, i32_w]
      rfl
    refine pure_ (i := 16) (N := some 24) (v := undef) (a' := ?_) #[true, true, true, true, true, true, true, true, true, true, true, true, true, true, true, true, true, false, false] rfl rfl (any_of HT_.out (by kernel_rfl)) (fun _ _ _ h => h) (Or.inr ⟨by rfl, rfl⟩) ?_ ?_
    rotate_left
    · simp only [Act.put, List.setIfInBounds_toArray, List.set_cons_zero, List.set_cons_succ, i64_w, i32_w]
      rfl
    refine pure_ (i := 17) (N := some 25) (v := undef) (a' := ?_) #[true, true, true, true, true, true, true, true, true, true, true, true, true, true, true, true, true, true, false] rfl rfl (any_of HT_.out (by kernel_rfl)) (fun _ _ _ h => h) (Or.inr ⟨by rfl, rfl⟩) ?_ ?_
    rotate_left
    · simp only [Act.put, List.setIfInBounds_toArray, List.set_cons_zero, List.set_cons_succ, i64_w, i32_w]
      rfl
    refine pure_ (i := 18) (N := some 26) (v := ?_) (a' := ?_) #[true, true, true, true, true, true, true, true, true, true, true, true, true, true, true, true, true, true, true] rfl rfl (any_of HT_.out (by kernel_rfl)) (fun _ _ _ h => h) (Or.inl ⟨by rfl, ?_⟩) ?_ ?_
    rotate_left
    · intro w'
      go_simp
      with_reducible rfl
    rotate_left
    · simp only [Act.put, List.setIfInBounds_toArray, List.set_cons_zero, List.set_cons_succ, i64_w, i32_w]
      rfl
    refine done_ (done_of HT_.out (by kernel_rfl)) ?_
    go_wp2
    go_ret
    exact ⟨rfl, HB.out⟩
  have h1b : (ttr a0_1 == 0) = false := beq_eq_false_iff_ne.mpr h1
  rw [h1b, Bool.not_false, Bool.true_and]
  clear h1
  cases nb with
  | false =>
    rw [Bool.false_and]
    go_enter Try.func29, Try.ntmps29
    go_wp2_with ((with_reducible refine gate_dst (N := 1) rfl ?_); refine box_event ?hg (N := 1) ?hd (cs := #[.string a0_0, .int .i64 a0_1, .slice A0_2 l0_2.length c0_2]) (t := 41) ?hr ?_; (case hd => rfl); (case hg => rfl); (case hr => first | (go_simp; done) | (go_simp; rfl)); intro g1 hg_ wx1 hbox_ hb_; have G1 := Aside0.mk (by rw [hg_]; exact below_size HB.out : w.heap.size ≤ g1); have n0_ := Aside0.mk (below_step HB.out hb_); clear HB; have HB := n0_; clear n0_; have B1 := Aside0.mk hbox_; clear hb_ hbox_ hg_; have z1_0 := fcells g1 wx1 _ _ B1.out 0 _ rfl; have z1_1 := fcells g1 wx1 _ _ B1.out 1 _ rfl; have z1_2 := fcells g1 wx1 _ _ B1.out 2 _ rfl; clear z1_0 z1_1 z1_2; have z1_0 : wx1.drew.cell? ⟨g1, 0, none⟩ = some (.string a0_0) := fcells g1 wx1 _ _ B1.out 0 _ rfl; have z1_1 : wx1.drew.cell? ⟨g1, 1, none⟩ = some (.int .i64 a0_1) := fcells g1 wx1 _ _ B1.out 1 _ rfl; have z1_2 : wx1.drew.cell? ⟨g1, 2, none⟩ = some (.slice A0_2 l0_2.length c0_2) := fcells g1 wx1 _ _ B1.out 2 _ rfl)
    refine start_ (n := 19) (S := fun w' => w'.cell? ⟨g1, 0, none⟩ = some (.string a0_0) ∧ w'.cell? ⟨g1, 1, none⟩ = some (.int .i64 a0_1) ∧ w'.cell? ⟨g1, 2, none⟩ = some (.slice A0_2 l0_2.length c0_2)) (ds := []) #[false, false, false, false, false, false, false, false, false, false, false, false, false, false, false, false, false, false, false] (by kernel_rfl) rfl rfl ⟨z1_0, z1_1, z1_2⟩ (fun hHeld => ?_)
    refine with_tabW contents_Valid.tab1 contents_Valid.bits1 (fun HT_ HW_ => ?_)
    refine pure_ (i := 0) (N := some 8) (v := ?_) (a' := ?_) #[true, false, false, false, false, false, false, false, false, false, false, false, false, false, false, false, false, false, false] rfl rfl (any_of HT_.out (by kernel_rfl)) (fun _ _ _ h => h) (Or.inl ⟨by rfl, ?_⟩) ?_ ?_
    rotate_left
    · intro w'
      go_simp
      with_reducible rfl
    rotate_left
    · simp only [Act.put, List.setIfInBounds_toArray, List.set_cons_zero, List.set_cons_succ, i64_w, i32_w]
      rfl
    refine take_ (i := 1) (N := some 9) (v := ?_) (a' := ?_) #[true, true, false, false, false, false, false, false, false, false, false, false, false, false, false, false, false, false, false] rfl rfl (take_ofW HT_.out HW_.out (by kernel_rfl)) (fun _ _ _ h => h) (Or.inl ⟨by rfl, ?_⟩) hHeld ?_ ?_
    rotate_left
    · rintro w' ⟨s0, s1, s2⟩
      go_simp
      with_reducible rfl
    rotate_left
    · simp only [Act.put, List.setIfInBounds_toArray, List.set_cons_zero, List.set_cons_succ, i64_w, i32_w]
      rfl
    refine one_ (i := 2) (N := some 10) #[true, true, true, false, false, false, false, false, false, false, false, false, false, false, false, false, false, false, false] rfl rfl (one_of HT_.out (by kernel_rfl)) (by decide) (fun K hK => ?_)
    refine goes_ Try.func74 (by kernel_rfl) rfl #[.int .i64 a0_1] (by rfl) rfl rfl (by simp only [List.map_toArray, List.map_cons, List.map_nil]; rfl) ?_
    with_reducible refine (label_TableTracks.calls a0_1 (ttr a0_1) _ HT.out).mono ?_
    rintro e w3 ⟨rfl, hd⟩
    refine ⟨_, rfl, ?_⟩
    have hb := hd.below
    have m0 := Aside0.mk (below_step (below_drew1 HB.out) hb)
    have m1 := Aside0.mk (blk_below (blk_drew B1.out) hb)
    clear HB B1 hd
    have HB := m0
    have B1 := m1
    clear m0 m1
    refine hK.out _ _ ⟨(hb.cell (World.block_lt_of_cell? _ _ (hHeld.1))).trans (hHeld.1), (hb.cell (World.block_lt_of_cell? _ _ (hHeld.2.1))).trans (hHeld.2.1), (hb.cell (World.block_lt_of_cell? _ _ (hHeld.2.2))).trans (hHeld.2.2)⟩ (fun hHeld => ?_)
    clear hK K
    refine norm_ (a' := ?_) ?_ ?_
    rotate_left
    · show Act.put _ (some 10) _ = _
      simp only [Act.put, List.setIfInBounds_toArray, List.set_cons_zero, List.set_cons_succ, i64_w, i32_w]
      rfl
    refine pure_ (i := 3) (N := some 11) (v := ?_) (a' := ?_) #[true, true, true, true, false, false, false, false, false, false, false, false, false, false, false, false, false, false, false] rfl rfl (any_of HT_.out (by kernel_rfl)) (fun _ _ _ h => h) (Or.inl ⟨by rfl, ?_⟩) ?_ ?_
    rotate_left
    · intro w'
      go_simp
      with_reducible rfl
    rotate_left
    · simp only [Act.put, List.setIfInBounds_toArray, List.set_cons_zero, List.set_cons_succ, i64_w, i32_w]
      rfl
    refine pure_ (i := 4) (N := some 12) (v := ?_) (a' := ?_) #[true, true, true, true, true, false, false, false, false, false, false, false, false, false, false, false, false, false, false] rfl rfl (any_of HT_.out (by kernel_rfl)) (fun _ _ _ h => h) (Or.inl ⟨by rfl, ?_⟩) ?_ ?_
    rotate_left
    · intro w'
      go_simp
      with_reducible rfl
    rotate_left
    · simp only [Act.put, List.setIfInBounds_toArray, List.set_cons_zero, List.set_cons_succ, i64_w, i32_w]
      rfl
    refine pure_ (i := 5) (N := some 13) (v := ?_) (a' := ?_) #[true, true, true, true, true, true, false, false, false, false, false, false, false, false, false, false, false, false, false] rfl rfl (any_of HT_.out (by kernel_rfl)) (fun _ _ _ h => h) (Or.inl ⟨by rfl, ?_⟩) ?_ ?_
    rotate_left
    · intro w'
      go_simp
      with_reducible rfl
    rotate_left
    · simp only [Act.put, List.setIfInBounds_toArray, List.set_cons_zero, List.set_cons_succ, i64_w, i32_w]
      rfl
    refine take_ (i := 6) (N := some 14) (v := ?_) (a' := ?_) #[true, true, true, true, true, true, true, false, false, false, false, false, false, false, false, false, false, false, false] rfl rfl (take_ofW HT_.out HW_.out (by kernel_rfl)) (fun _ _ _ h => h) (Or.inl ⟨by rfl, ?_⟩) hHeld ?_ ?_
    rotate_left
    · rintro w' ⟨s0, s1, s2⟩
      go_simp
      with_reducible rfl
    rotate_left
    · simp only [Act.put, List.setIfInBounds_toArray, List.set_cons_zero, List.set_cons_succ, i64_w, i32_w]
      rfl
    refine one_ (i := 7) (N := some 15) #[true, true, true, true, true, true, true, true, false, false, false, false, false, false, false, false, false, false, false] rfl rfl (one_of HT_.out (by kernel_rfl)) (by decide) (fun K hK => ?_)
    refine goes_ Try.func75 (by kernel_rfl) rfl #[.string a0_0] (by rfl) rfl rfl (by simp only [List.map_toArray, List.map_cons, List.map_nil]; rfl) ?_
    with_reducible refine (label_ValidName.calls 20 a0_0 false _ HN.out).mono ?_
    rintro e w4 ⟨rfl, hd⟩
    refine ⟨_, rfl, ?_⟩
    have hb := hd.below
    have m0 := Aside0.mk (below_step HB.out hb)
    have m1 := Aside0.mk (blk_below B1.out hb)
    clear HB B1 hd
    have HB := m0
    have B1 := m1
    clear m0 m1
    refine hK.out _ _ ⟨(hb.cell (World.block_lt_of_cell? _ _ (hHeld.1))).trans (hHeld.1), (hb.cell (World.block_lt_of_cell? _ _ (hHeld.2.1))).trans (hHeld.2.1), (hb.cell (World.block_lt_of_cell? _ _ (hHeld.2.2))).trans (hHeld.2.2)⟩ (fun hHeld => ?_)
    clear hK K
    refine norm_ (a' := ?_) ?_ ?_
    rotate_left
    · show Act.put _ (some 15) _ = _
      simp only [Act.put, List.setIfInBounds_toArray, List.set_cons_zero, List.set_cons_succ, i64_w, i32_w]
      rfl
    refine pure_ (i := 8) (N := some 16) (v := ?_) (a' := ?_) #[true, true, true, true, true, true, true, true, true, false, false, false, false, false, false, false, false, false, false] rfl rfl (any_of HT_.out (by kernel_rfl)) (fun _ _ _ h => h) (Or.inl ⟨by rfl, ?_⟩) ?_ ?_
    rotate_left
    · intro w'
      go_simp
      with_reducible rfl
    rotate_left
    · simp only [Act.put, List.setIfInBounds_toArray, List.set_cons_zero, List.set_cons_succ, i64_w, i32_w]
      rfl
    refine pure_ (i := 9) (N := some 17) (v := ?_) (a' := ?_) #[true, true, true, true, true, true, true, true, true, true, false, false, false, false, false, false, false, false, false] rfl rfl (any_of HT_.out (by kernel_rfl)) (fun _ _ _ h => h) (Or.inl ⟨by rfl, ?_⟩) ?_ ?_
    rotate_left
    · intro w'
      go_simp
      with_reducible rfl
    rotate_left
    · simp only [Act.put, List.setIfInBounds_toArray, List.set_cons_zero, List.set_cons_succ, i64_w, i32_w]
      rfl
    refine pure_ (i := 10) (N := some 18) (v := ?_) (a' := ?_) #[true, true, true, true, true, true, true, true, true, true, true, false, false, false, false, false, false, false, false] rfl rfl (any_of HT_.out (by kernel_rfl)) (fun _ _ _ h => h) (Or.inl ⟨by rfl, ?_⟩) ?_ ?_
    rotate_left
    · intro w'
      go_simp
      with_reducible rfl
    rotate_left
    · simp only [Act.put, List.setIfInBounds_toArray, List.set_cons_zero, List.set_cons_succ, i64_w, i32_w]
      rfl
    refine pure_ (i := 11) (N := some 19) (v := undef) (a' := ?_) #[true, true, true, true, true, true, true, true, true, true, true, true, false, false, false, false, false, false, false] rfl rfl (any_of HT_.out (by kernel_rfl)) (fun _ _ _ h => h) (Or.inr ⟨by rfl, rfl⟩) ?_ ?_
    rotate_left
    · simp only [Act.put, List.setIfInBounds_toArray, List.set_cons_zero, List.set_cons_succ, i64_w, i32_w]
      rfl
    refine pure_ (i := 12) (N := some 20) (v := undef) (a' := ?_) #[true, true, true, true, true, true, true, true, true, true, true, true, true, false, false, false, false, false, false] rfl rfl (any_of HT_.out (by kernel_rfl)) (fun _ _ _ h => h) (Or.inr ⟨by rfl, rfl⟩) ?_ ?_
    rotate_left
    · simp only [Act.put, List.setIfInBounds_toArray, List.set_cons_zero, List.set_cons_succ, i64_w, i32_w]
      rfl
    refine pure_ (i := 13) (N := some 21) (v := undef) (a' := ?_) #[true, true, true, true, true, true, true, true, true, true, true, true, true, true, false, false, false, false, false] rfl rfl (any_of HT_.out (by kernel_rfl)) (fun _ _ _ h => h) (Or.inr ⟨by rfl, rfl⟩) ?_ ?_
    rotate_left
    · simp only [Act.put, List.setIfInBounds_toArray, List.set_cons_zero, List.set_cons_succ, i64_w, i32_w]
      rfl
    refine pure_ (i := 14) (N := some 22) (v := undef) (a' := ?_) #[true, true, true, true, true, true, true, true, true, true, true, true, true, true, true, false, false, false, false] rfl rfl (any_of HT_.out (by kernel_rfl)) (fun _ _ _ h => h) (Or.inr ⟨by rfl, rfl⟩) ?_ ?_
    rotate_left
    · simp only [Act.put, List.setIfInBounds_toArray, List.set_cons_zero, List.set_cons_succ, i64_w, i32_w]
      rfl
    refine pure_ (i := 15) (N := some 23) (v := undef) (a' := ?_) #[true, true, true, true, true, true, true, true, true, true, true, true, true, true, true, true, false, false, false] rfl rfl (any_of HT_.out (by kernel_rfl)) (fun _ _ _ h => h) (Or.inr ⟨by rfl, rfl⟩) ?_ ?_
    rotate_left
    · simp only [Act.put, List.setIfInBounds_toArray, List.set_cons_zero, List.set_cons_succ, i64_w, i32_w]
      rfl
    refine pure_ (i := 16) (N := some 24) (v := undef) (a' := ?_) #[true, true, true, true, true, true, true, true, true, true, true, true, true, true, true, true, true, false, false] rfl rfl (any_of HT_.out (by kernel_rfl)) (fun _ _ _ h => h) (Or.inr ⟨by rfl, rfl⟩) ?_ ?_
    rotate_left
    · simp only [Act.put, List.setIfInBounds_toArray, List.set_cons_zero, List.set_cons_succ, i64_w, i32_w]
      rfl
    refine pure_ (i := 17) (N := some 25) (v := undef) (a' := ?_) #[true, true, true, true, true, true, true, true, true, true, true, true, true, true, true, true, true, true, false] rfl rfl (any_of HT_.out (by kernel_rfl)) (fun _ _ _ h => h) (Or.inr ⟨by rfl, rfl⟩) ?_ ?_
    rotate_left
    · simp only [Act.put, List.setIfInBounds_toArray, List.set_cons_zero, List.set_cons_succ, i64_w, i32_w]
      rfl
    refine pure_ (i := 18) (N := some 26) (v := ?_) (a' := ?_) #[true, true, true, true, true, true, true, true, true, true, true, true, true, true, true, true, true, true, true] rfl rfl (any_of HT_.out (by kernel_rfl)) (fun _ _ _ h => h) (Or.inl ⟨by rfl, ?_⟩) ?_ ?_
    rotate_left
    · intro w'
      go_simp
      with_reducible rfl
    rotate_left
    · simp only [Act.put, List.setIfInBounds_toArray, List.set_cons_zero, List.set_cons_succ, i64_w, i32_w]
      rfl
    refine done_ (done_of HT_.out (by kernel_rfl)) ?_
    go_wp2
    go_ret
    exact ⟨rfl, HB.out⟩
  | true =>
  rw [Bool.true_and]
  by_cases h2 : ¬ (l0_2.length : Int) = slotsP a0_1
  · have h2b : ((l0_2.length : Int) == slotsP a0_1) = false := beq_eq_false_iff_ne.mpr h2
    have h2c : ((l0_2.length : Int) != slotsP a0_1) = true := by simp [h2]
    rw [h2b, Bool.false_and]
    clear h2
    go_enter Try.func29, Try.ntmps29
    go_wp2_with ((with_reducible refine gate_dst (N := 1) rfl ?_); refine box_event ?hg (N := 1) ?hd (cs := #[.string a0_0, .int .i64 a0_1, .slice A0_2 l0_2.length c0_2]) (t := 41) ?hr ?_; (case hd => rfl); (case hg => rfl); (case hr => first | (go_simp; done) | (go_simp; rfl)); intro g1 hg_ wx1 hbox_ hb_; have G1 := Aside0.mk (by rw [hg_]; exact below_size HB.out : w.heap.size ≤ g1); have n0_ := Aside0.mk (below_step HB.out hb_); clear HB; have HB := n0_; clear n0_; have B1 := Aside0.mk hbox_; clear hb_ hbox_ hg_; have z1_0 := fcells g1 wx1 _ _ B1.out 0 _ rfl; have z1_1 := fcells g1 wx1 _ _ B1.out 1 _ rfl; have z1_2 := fcells g1 wx1 _ _ B1.out 2 _ rfl; clear z1_0 z1_1 z1_2; have z1_0 : wx1.drew.cell? ⟨g1, 0, none⟩ = some (.string a0_0) := fcells g1 wx1 _ _ B1.out 0 _ rfl; have z1_1 : wx1.drew.cell? ⟨g1, 1, none⟩ = some (.int .i64 a0_1) := fcells g1 wx1 _ _ B1.out 1 _ rfl; have z1_2 : wx1.drew.cell? ⟨g1, 2, none⟩ = some (.slice A0_2 l0_2.length c0_2) := fcells g1 wx1 _ _ B1.out 2 _ rfl)
    refine start_ (n := 19) (S := fun w' => w'.cell? ⟨g1, 0, none⟩ = some (.string a0_0) ∧ w'.cell? ⟨g1, 1, none⟩ = some (.int .i64 a0_1) ∧ w'.cell? ⟨g1, 2, none⟩ = some (.slice A0_2 l0_2.length c0_2)) (ds := []) #[false, false, false, false, false, false, false, false, false, false, false, false, false, false, false, false, false, false, false] (by kernel_rfl) rfl rfl ⟨z1_0, z1_1, z1_2⟩ (fun hHeld => ?_)
    refine with_tabW contents_Valid.tab1 contents_Valid.bits1 (fun HT_ HW_ => ?_)
    refine pure_ (i := 0) (N := some 8) (v := ?_) (a' := ?_) #[true, false, false, false, false, false, false, false, false, false, false, false, false, false, false, false, false, false, false] rfl rfl (any_of HT_.out (by kernel_rfl)) (fun _ _ _ h => h) (Or.inl ⟨by rfl, ?_⟩) ?_ ?_
    rotate_left
    · intro w'
      go_simp
      with_reducible rfl
    rotate_left
    · simp only [Act.put, List.setIfInBounds_toArray, List.set_cons_zero, List.set_cons_succ, i64_w, i32_w]
      rfl
    refine take_ (i := 1) (N := some 9) (v := ?_) (a' := ?_) #[true, true, false, false, false, false, false, false, false, false, false, false, false, false, false, false, false, false, false] rfl rfl (take_ofW HT_.out HW_.out (by kernel_rfl)) (fun _ _ _ h => h) (Or.inl ⟨by rfl, ?_⟩) hHeld ?_ ?_
    rotate_left
    · rintro w' ⟨s0, s1, s2⟩
      go_simp
      with_reducible rfl
    rotate_left
    · simp only [Act.put, List.setIfInBounds_toArray, List.set_cons_zero, List.set_cons_succ, i64_w, i32_w]
      rfl
    refine one_ (i := 2) (N := some 10) #[true, true, true, false, false, false, false, false, false, false, false, false, false, false, false, false, false, false, false] rfl rfl (one_of HT_.out (by kernel_rfl)) (by decide) (fun K hK => ?_)
    refine goes_ Try.func74 (by kernel_rfl) rfl #[.int .i64 a0_1] (by rfl) rfl rfl (by simp only [List.map_toArray, List.map_cons, List.map_nil]; rfl) ?_
    with_reducible refine (label_TableTracks.calls a0_1 (ttr a0_1) _ HT.out).mono ?_
    rintro e w3 ⟨rfl, hd⟩
    refine ⟨_, rfl, ?_⟩
    have hb := hd.below
    have m0 := Aside0.mk (below_step (below_drew1 HB.out) hb)
    have m1 := Aside0.mk (blk_below (blk_drew B1.out) hb)
    clear HB B1 hd
    have HB := m0
    have B1 := m1
    clear m0 m1
    refine hK.out _ _ ⟨(hb.cell (World.block_lt_of_cell? _ _ (hHeld.1))).trans (hHeld.1), (hb.cell (World.block_lt_of_cell? _ _ (hHeld.2.1))).trans (hHeld.2.1), (hb.cell (World.block_lt_of_cell? _ _ (hHeld.2.2))).trans (hHeld.2.2)⟩ (fun hHeld => ?_)
    clear hK K
    refine norm_ (a' := ?_) ?_ ?_
    rotate_left
    · show Act.put _ (some 10) _ = _
      simp only [Act.put, List.setIfInBounds_toArray, List.set_cons_zero, List.set_cons_succ, i64_w, i32_w]
      rfl
    refine pure_ (i := 3) (N := some 11) (v := ?_) (a' := ?_) #[true, true, true, true, false, false, false, false, false, false, false, false, false, false, false, false, false, false, false] rfl rfl (any_of HT_.out (by kernel_rfl)) (fun _ _ _ h => h) (Or.inl ⟨by rfl, ?_⟩) ?_ ?_
    rotate_left
    · intro w'
      go_simp
      with_reducible rfl
    rotate_left
    · simp only [Act.put, List.setIfInBounds_toArray, List.set_cons_zero, List.set_cons_succ, i64_w, i32_w]
      rfl
    refine pure_ (i := 4) (N := some 12) (v := ?_) (a' := ?_) #[true, true, true, true, true, false, false, false, false, false, false, false, false, false, false, false, false, false, false] rfl rfl (any_of HT_.out (by kernel_rfl)) (fun _ _ _ h => h) (Or.inl ⟨by rfl, ?_⟩) ?_ ?_
    rotate_left
    · intro w'
      go_simp
      with_reducible rfl
    rotate_left
    · simp only [Act.put, List.setIfInBounds_toArray, List.set_cons_zero, List.set_cons_succ, i64_w, i32_w]
      rfl
    refine pure_ (i := 5) (N := some 13) (v := ?_) (a' := ?_) #[true, true, true, true, true, true, false, false, false, false, false, false, false, false, false, false, false, false, false] rfl rfl (any_of HT_.out (by kernel_rfl)) (fun _ _ _ h => h) (Or.inl ⟨by rfl, ?_⟩) ?_ ?_
    rotate_left
    · intro w'
      go_simp
      with_reducible rfl
    rotate_left
    · simp only [Act.put, List.setIfInBounds_toArray, List.set_cons_zero, List.set_cons_succ, i64_w, i32_w]
      rfl
    refine take_ (i := 6) (N := some 14) (v := ?_) (a' := ?_) #[true, true, true, true, true, true, true, false, false, false, false, false, false, false, false, false, false, false, false] rfl rfl (take_ofW HT_.out HW_.out (by kernel_rfl)) (fun _ _ _ h => h) (Or.inl ⟨by rfl, ?_⟩) hHeld ?_ ?_
    rotate_left
    · rintro w' ⟨s0, s1, s2⟩
      go_simp
      with_reducible rfl
    rotate_left
    · simp only [Act.put, List.setIfInBounds_toArray, List.set_cons_zero, List.set_cons_succ, i64_w, i32_w]
      rfl
    refine one_ (i := 7) (N := some 15) #[true, true, true, true, true, true, true, true, false, false, false, false, false, false, false, false, false, false, false] rfl rfl (one_of HT_.out (by kernel_rfl)) (by decide) (fun K hK => ?_)
    refine goes_ Try.func75 (by kernel_rfl) rfl #[.string a0_0] (by rfl) rfl rfl (by simp only [List.map_toArray, List.map_cons, List.map_nil]; rfl) ?_
    with_reducible refine (label_ValidName.calls 20 a0_0 true _ HN.out).mono ?_
    rintro e w4 ⟨rfl, hd⟩
    refine ⟨_, rfl, ?_⟩
    have hb := hd.below
    have m0 := Aside0.mk (below_step HB.out hb)
    have m1 := Aside0.mk (blk_below B1.out hb)
    clear HB B1 hd
    have HB := m0
    have B1 := m1
    clear m0 m1
    refine hK.out _ _ ⟨(hb.cell (World.block_lt_of_cell? _ _ (hHeld.1))).trans (hHeld.1), (hb.cell (World.block_lt_of_cell? _ _ (hHeld.2.1))).trans (hHeld.2.1), (hb.cell (World.block_lt_of_cell? _ _ (hHeld.2.2))).trans (hHeld.2.2)⟩ (fun hHeld => ?_)
    clear hK K
    refine norm_ (a' := ?_) ?_ ?_
    rotate_left
    · show Act.put _ (some 15) _ = _
      simp only [Act.put, List.setIfInBounds_toArray, List.set_cons_zero, List.set_cons_succ, i64_w, i32_w]
      rfl
    refine pure_ (i := 8) (N := some 16) (v := ?_) (a' := ?_) #[true, true, true, true, true, true, true, true, true, false, false, false, false, false, false, false, false, false, false] rfl rfl (any_of HT_.out (by kernel_rfl)) (fun _ _ _ h => h) (Or.inl ⟨by rfl, ?_⟩) ?_ ?_
    rotate_left
    · intro w'
      go_simp
      with_reducible rfl
    rotate_left
    · simp only [Act.put, List.setIfInBounds_toArray, List.set_cons_zero, List.set_cons_succ, i64_w, i32_w]
      rfl
    refine pure_ (i := 9) (N := some 17) (v := ?_) (a' := ?_) #[true, true, true, true, true, true, true, true, true, true, false, false, false, false, false, false, false, false, false] rfl rfl (any_of HT_.out (by kernel_rfl)) (fun _ _ _ h => h) (Or.inl ⟨by rfl, ?_⟩) ?_ ?_
    rotate_left
    · intro w'
      go_simp
      with_reducible rfl
    rotate_left
    · simp only [Act.put, List.setIfInBounds_toArray, List.set_cons_zero, List.set_cons_succ, i64_w, i32_w]
      rfl
    refine pure_ (i := 10) (N := some 18) (v := ?_) (a' := ?_) #[true, true, true, true, true, true, true, true, true, true, true, false, false, false, false, false, false, false, false] rfl rfl (any_of HT_.out (by kernel_rfl)) (fun _ _ _ h => h) (Or.inl ⟨by rfl, ?_⟩) ?_ ?_
    rotate_left
    · intro w'
      go_simp
      with_reducible rfl
    rotate_left
    · simp only [Act.put, List.setIfInBounds_toArray, List.set_cons_zero, List.set_cons_succ, i64_w, i32_w]
      rfl
    refine pure_ (i := 11) (N := some 19) (v := ?_) (a' := ?_) #[true, true, true, true, true, true, true, true, true, true, true, true, false, false, false, false, false, false, false] rfl rfl (any_of HT_.out (by kernel_rfl)) (fun _ _ _ h => h) (Or.inl ⟨by rfl, ?_⟩) ?_ ?_
    rotate_left
    · intro w'
      go_simp
      with_reducible rfl
    rotate_left
    · simp only [Act.put, List.setIfInBounds_toArray, List.set_cons_zero, List.set_cons_succ, i64_w, i32_w]
      rfl
    refine pure_ (i := 14) (N := some 22) (v := ?_) (a' := ?_) #[true, true, true, true, true, true, true, true, true, true, true, true, false, false, true, false, false, false, false] rfl rfl (any_of HT_.out (by kernel_rfl)) (fun _ _ _ h => h) (Or.inl ⟨by rfl, ?_⟩) ?_ ?_
    rotate_left
    · intro w'
      go_simp
      with_reducible rfl
    rotate_left
    · simp only [Act.put, List.setIfInBounds_toArray, List.set_cons_zero, List.set_cons_succ, i64_w, i32_w]
      rfl
    refine take_ (i := 12) (N := some 20) (v := ?_) (a' := ?_) #[true, true, true, true, true, true, true, true, true, true, true, true, true, false, true, false, false, false, false] rfl rfl (take_ofW HT_.out HW_.out (by kernel_rfl)) (fun _ _ _ h => h) (Or.inl ⟨by rfl, ?_⟩) hHeld ?_ ?_
    rotate_left
    · rintro w' ⟨s0, s1, s2⟩
      go_simp
      with_reducible rfl
    rotate_left
    · simp only [Act.put, List.setIfInBounds_toArray, List.set_cons_zero, List.set_cons_succ, i64_w, i32_w]
      rfl
    refine pure_ (i := 13) (N := some 21) (v := ?_) (a' := ?_) #[true, true, true, true, true, true, true, true, true, true, true, true, true, true, true, false, false, false, false] rfl rfl (any_of HT_.out (by kernel_rfl)) (fun _ _ _ h => h) (Or.inl ⟨by rfl, ?_⟩) ?_ ?_
    rotate_left
    · intro w'
      go_simp
      with_reducible rfl
    rotate_left
    · simp only [Act.put, List.setIfInBounds_toArray, List.set_cons_zero, List.set_cons_succ, i64_w, i32_w]
      rfl
    refine take_ (i := 15) (N := some 23) (v := ?_) (a' := ?_) #[true, true, true, true, true, true, true, true, true, true, true, true, true, true, true, true, false, false, false] rfl rfl (take_ofW HT_.out HW_.out (by kernel_rfl)) (fun _ _ _ h => h) (Or.inl ⟨by rfl, ?_⟩) hHeld ?_ ?_
    rotate_left
    · rintro w' ⟨s0, s1, s2⟩
      go_simp
      with_reducible rfl
    rotate_left
    · simp only [Act.put, List.setIfInBounds_toArray, List.set_cons_zero, List.set_cons_succ, i64_w, i32_w]
      rfl
    refine one_ (i := 16) (N := some 24) #[true, true, true, true, true, true, true, true, true, true, true, true, true, true, true, true, true, false, false] rfl rfl (one_of HT_.out (by kernel_rfl)) (by decide) (fun K hK => ?_)
    refine goes_ Try.func76 (by kernel_rfl) rfl #[.int .i64 a0_1] (by rfl) rfl rfl (by simp only [List.map_toArray, List.map_cons, List.map_nil]; rfl) ?_
    with_reducible refine (label_Slots.calls a0_1 (slotsP a0_1) _ HS.out).mono ?_
    rintro e w5 ⟨rfl, hb⟩
    refine ⟨_, rfl, ?_⟩
    have m0 := Aside0.mk (below_step HB.out hb)
    have m1 := Aside0.mk (blk_below B1.out hb)
    clear HB B1
    have HB := m0
    have B1 := m1
    clear m0 m1
    refine hK.out _ _ ⟨(hb.cell (World.block_lt_of_cell? _ _ (hHeld.1))).trans (hHeld.1), (hb.cell (World.block_lt_of_cell? _ _ (hHeld.2.1))).trans (hHeld.2.1), (hb.cell (World.block_lt_of_cell? _ _ (hHeld.2.2))).trans (hHeld.2.2)⟩ (fun hHeld => ?_)
    clear hK K
    refine norm_ (a' := ?_) ?_ ?_
    rotate_left
    · show Act.put _ (some 24) _ = _
      simp only [Act.put, List.setIfInBounds_toArray, List.set_cons_zero, List.set_cons_succ, i64_w, i32_w]
      rfl
    refine pure_ (i := 17) (N := some 25) (v := ?_) (a' := ?_) #[true, true, true, true, true, true, true, true, true, true, true, true, true, true, true, true, true, true, false] rfl rfl (any_of HT_.out (by kernel_rfl)) (fun _ _ _ h => h) (Or.inl ⟨by rfl, ?_⟩) ?_ ?_
    rotate_left
    · intro w'
      go_simp
      with_reducible rfl
    rotate_left
    · simp only [Act.put, List.setIfInBounds_toArray, List.set_cons_zero, List.set_cons_succ, i64_w, i32_w]
      rfl
    refine pure_ (i := 18) (N := some 26) (v := ?_) (a' := ?_) #[true, true, true, true, true, true, true, true, true, true, true, true, true, true, true, true, true, true, true] rfl rfl (any_of HT_.out (by kernel_rfl)) (fun _ _ _ h => h) (Or.inl ⟨by rfl, ?_⟩) ?_ ?_
    rotate_left
    · intro w'
      go_simp
      with_reducible rfl
    rotate_left
    · simp only [Act.put, List.setIfInBounds_toArray, List.set_cons_zero, List.set_cons_succ, i64_w, i32_w]
      rfl
    refine done_ (done_of HT_.out (by kernel_rfl)) ?_
    go_wp2
    go_ret
    exact ⟨rfl, HB.out⟩
  replace h2 := Decidable.not_not.mp h2
  have h2b : ((l0_2.length : Int) == slotsP a0_1) = true := beq_iff_eq.mpr h2
  have h2c : ((l0_2.length : Int) != slotsP a0_1) = false := by simp [h2]
  have H31 := Aside0.mk (show l0_2.length ≤ 31 by have := slots_bd a0_1; omega)
  rw [h2b, Bool.true_and]
  clear h2
  generalize hres : loopRes (vLoop a0_1 [] [] l0_2) = res
  have HRES := Aside0.mk hres
  clear hres
  go_enter Try.func29, Try.ntmps29
  go_wp2_with ((with_reducible refine gate_dst (N := 1) rfl ?_); refine box_event ?hg (N := 1) ?hd (cs := #[.string a0_0, .int .i64 a0_1, .slice A0_2 l0_2.length c0_2]) (t := 41) ?hr ?_; (case hd => rfl); (case hg => rfl); (case hr => first | (go_simp; done) | (go_simp; rfl)); intro g1 hg_ wx1 hbox_ hb_; have G1 := Aside0.mk (by rw [hg_]; exact below_size HB.out : w.heap.size ≤ g1); have n0_ := Aside0.mk (below_step HB.out hb_); clear HB; have HB := n0_; clear n0_; have B1 := Aside0.mk hbox_; clear hb_ hbox_ hg_; have z1_0 := fcells g1 wx1 _ _ B1.out 0 _ rfl; have z1_1 := fcells g1 wx1 _ _ B1.out 1 _ rfl; have z1_2 := fcells g1 wx1 _ _ B1.out 2 _ rfl; clear z1_0 z1_1 z1_2; have z1_0 : wx1.drew.cell? ⟨g1, 0, none⟩ = some (.string a0_0) := fcells g1 wx1 _ _ B1.out 0 _ rfl; have z1_1 : wx1.drew.cell? ⟨g1, 1, none⟩ = some (.int .i64 a0_1) := fcells g1 wx1 _ _ B1.out 1 _ rfl; have z1_2 : wx1.drew.cell? ⟨g1, 2, none⟩ = some (.slice A0_2 l0_2.length c0_2) := fcells g1 wx1 _ _ B1.out 2 _ rfl)
  refine start_ (n := 19) (S := fun w' => w'.cell? ⟨g1, 0, none⟩ = some (.string a0_0) ∧ w'.cell? ⟨g1, 1, none⟩ = some (.int .i64 a0_1) ∧ w'.cell? ⟨g1, 2, none⟩ = some (.slice A0_2 l0_2.length c0_2)) (ds := []) #[false, false, false, false, false, false, false, false, false, false, false, false, false, false, false, false, false, false, false] (by kernel_rfl) rfl rfl ⟨z1_0, z1_1, z1_2⟩ (fun hHeld => ?_)
  refine with_tabW contents_Valid.tab1 contents_Valid.bits1 (fun HT_ HW_ => ?_)
  refine pure_ (i := 0) (N := some 8) (v := ?_) (a' := ?_) #[true, false, false, false, false, false, false, false, false, false, false, false, false, false, false, false, false, false, false] rfl rfl (any_of HT_.out (by kernel_rfl)) (fun _ _ _ h => h) (Or.inl ⟨by rfl, ?_⟩) ?_ ?_
  rotate_left
  · intro w'
    go_simp
    with_reducible rfl
  rotate_left
  · simp only [Act.put, List.setIfInBounds_toArray, List.set_cons_zero, List.set_cons_succ, i64_w, i32_w]
    rfl
  refine take_ (i := 1) (N := some 9) (v := ?_) (a' := ?_) #[true, true, false, false, false, false, false, false, false, false, false, false, false, false, false, false, false, false, false] rfl rfl (take_ofW HT_.out HW_.out (by kernel_rfl)) (fun _ _ _ h => h) (Or.inl ⟨by rfl, ?_⟩) hHeld ?_ ?_
  rotate_left
  · rintro w' ⟨s0, s1, s2⟩
    go_simp
    with_reducible rfl
  rotate_left
  · simp only [Act.put, List.setIfInBounds_toArray, List.set_cons_zero, List.set_cons_succ, i64_w, i32_w]
    rfl
  refine one_ (i := 2) (N := some 10) #[true, true, true, false, false, false, false, false, false, false, false, false, false, false, false, false, false, false, false] rfl rfl (one_of HT_.out (by kernel_rfl)) (by decide) (fun K hK => ?_)
  refine goes_ Try.func74 (by kernel_rfl) rfl #[.int .i64 a0_1] (by rfl) rfl rfl (by simp only [List.map_toArray, List.map_cons, List.map_nil]; rfl) ?_
  with_reducible refine (label_TableTracks.calls a0_1 (ttr a0_1) _ HT.out).mono ?_
  rintro e w3 ⟨rfl, hd⟩
  refine ⟨_, rfl, ?_⟩
  have hb := hd.below
  have m0 := Aside0.mk (below_step (below_drew1 HB.out) hb)
  have m1 := Aside0.mk (blk_below (blk_drew B1.out) hb)
  clear HB B1 hd
  have HB := m0
  have B1 := m1
  clear m0 m1
  refine hK.out _ _ ⟨(hb.cell (World.block_lt_of_cell? _ _ (hHeld.1))).trans (hHeld.1), (hb.cell (World.block_lt_of_cell? _ _ (hHeld.2.1))).trans (hHeld.2.1), (hb.cell (World.block_lt_of_cell? _ _ (hHeld.2.2))).trans (hHeld.2.2)⟩ (fun hHeld => ?_)
  clear hK K
  refine norm_ (a' := ?_) ?_ ?_
  rotate_left
  · show Act.put _ (some 10) _ = _
    simp only [Act.put, List.setIfInBounds_toArray, List.set_cons_zero, List.set_cons_succ, i64_w, i32_w]
    rfl
  refine pure_ (i := 3) (N := some 11) (v := ?_) (a' := ?_) #[true, true, true, true, false, false, false, false, false, false, false, false, false, false, false, false, false, false, false] rfl rfl (any_of HT_.out (by kernel_rfl)) (fun _ _ _ h => h) (Or.inl ⟨by rfl, ?_⟩) ?_ ?_
  rotate_left
  · intro w'
    go_simp
    with_reducible rfl
  rotate_left
  · simp only [Act.put, List.setIfInBounds_toArray, List.set_cons_zero, List.set_cons_succ, i64_w, i32_w]
    rfl
  refine pure_ (i := 4) (N := some 12) (v := ?_) (a' := ?_) #[true, true, true, true, true, false, false, false, false, false, false, false, false, false, false, false, false, false, false] rfl rfl (any_of HT_.out (by kernel_rfl)) (fun _ _ _ h => h) (Or.inl ⟨by rfl, ?_⟩) ?_ ?_
  rotate_left
  · intro w'
    go_simp
    with_reducible rfl
  rotate_left
  · simp only [Act.put, List.setIfInBounds_toArray, List.set_cons_zero, List.set_cons_succ, i64_w, i32_w]
    rfl
  refine pure_ (i := 5) (N := some 13) (v := ?_) (a' := ?_) #[true, true, true, true, true, true, false, false, false, false, false, false, false, false, false, false, false, false, false] rfl rfl (any_of HT_.out (by kernel_rfl)) (fun _ _ _ h => h) (Or.inl ⟨by rfl, ?_⟩) ?_ ?_
  rotate_left
  · intro w'
    go_simp
    with_reducible rfl
  rotate_left
  · simp only [Act.put, List.setIfInBounds_toArray, List.set_cons_zero, List.set_cons_succ, i64_w, i32_w]
    rfl
  refine take_ (i := 6) (N := some 14) (v := ?_) (a' := ?_) #[true, true, true, true, true, true, true, false, false, false, false, false, false, false, false, false, false, false, false] rfl rfl (take_ofW HT_.out HW_.out (by kernel_rfl)) (fun _ _ _ h => h) (Or.inl ⟨by rfl, ?_⟩) hHeld ?_ ?_
  rotate_left
  · rintro w' ⟨s0, s1, s2⟩
    go_simp
    with_reducible rfl
  rotate_left
  · simp only [Act.put, List.setIfInBounds_toArray, List.set_cons_zero, List.set_cons_succ, i64_w, i32_w]
    rfl
  refine one_ (i := 7) (N := some 15) #[true, true, true, true, true, true, true, true, false, false, false, false, false, false, false, false, false, false, false] rfl rfl (one_of HT_.out (by kernel_rfl)) (by decide) (fun K hK => ?_)
  refine goes_ Try.func75 (by kernel_rfl) rfl #[.string a0_0] (by rfl) rfl rfl (by simp only [List.map_toArray, List.map_cons, List.map_nil]; rfl) ?_
  with_reducible refine (label_ValidName.calls 20 a0_0 true _ HN.out).mono ?_
  rintro e w4 ⟨rfl, hd⟩
  refine ⟨_, rfl, ?_⟩
  have hb := hd.below
  have m0 := Aside0.mk (below_step HB.out hb)
  have m1 := Aside0.mk (blk_below B1.out hb)
  clear HB B1 hd
  have HB := m0
  have B1 := m1
  clear m0 m1
  refine hK.out _ _ ⟨(hb.cell (World.block_lt_of_cell? _ _ (hHeld.1))).trans (hHeld.1), (hb.cell (World.block_lt_of_cell? _ _ (hHeld.2.1))).trans (hHeld.2.1), (hb.cell (World.block_lt_of_cell? _ _ (hHeld.2.2))).trans (hHeld.2.2)⟩ (fun hHeld => ?_)
  clear hK K
  refine norm_ (a' := ?_) ?_ ?_
  rotate_left
  · show Act.put _ (some 15) _ = _
    simp only [Act.put, List.setIfInBounds_toArray, List.set_cons_zero, List.set_cons_succ, i64_w, i32_w]
    rfl
  refine pure_ (i := 8) (N := some 16) (v := ?_) (a' := ?_) #[true, true, true, true, true, true, true, true, true, false, false, false, false, false, false, false, false, false, false] rfl rfl (any_of HT_.out (by kernel_rfl)) (fun _ _ _ h => h) (Or.inl ⟨by rfl, ?_⟩) ?_ ?_
  rotate_left
  · intro w'
    go_simp
    with_reducible rfl
  rotate_left
  · simp only [Act.put, List.setIfInBounds_toArray, List.set_cons_zero, List.set_cons_succ, i64_w, i32_w]
    rfl
  refine pure_ (i := 9) (N := some 17) (v := ?_) (a' := ?_) #[true, true, true, true, true, true, true, true, true, true, false, false, false, false, false, false, false, false, false] rfl rfl (any_of HT_.out (by kernel_rfl)) (fun _ _ _ h => h) (Or.inl ⟨by rfl, ?_⟩) ?_ ?_
  rotate_left
  · intro w'
    go_simp
    with_reducible rfl
  rotate_left
  · simp only [Act.put, List.setIfInBounds_toArray, List.set_cons_zero, List.set_cons_succ, i64_w, i32_w]
    rfl
  refine pure_ (i := 10) (N := some 18) (v := ?_) (a' := ?_) #[true, true, true, true, true, true, true, true, true, true, true, false, false, false, false, false, false, false, false] rfl rfl (any_of HT_.out (by kernel_rfl)) (fun _ _ _ h => h) (Or.inl ⟨by rfl, ?_⟩) ?_ ?_
  rotate_left
  · intro w'
    go_simp
    with_reducible rfl
  rotate_left
  · simp only [Act.put, List.setIfInBounds_toArray, List.set_cons_zero, List.set_cons_succ, i64_w, i32_w]
    rfl
  refine pure_ (i := 11) (N := some 19) (v := ?_) (a' := ?_) #[true, true, true, true, true, true, true, true, true, true, true, true, false, false, false, false, false, false, false] rfl rfl (any_of HT_.out (by kernel_rfl)) (fun _ _ _ h => h) (Or.inl ⟨by rfl, ?_⟩) ?_ ?_
  rotate_left
  · intro w'
    go_simp
    with_reducible rfl
  rotate_left
  · simp only [Act.put, List.setIfInBounds_toArray, List.set_cons_zero, List.set_cons_succ, i64_w, i32_w]
    rfl
  refine pure_ (i := 14) (N := some 22) (v := ?_) (a' := ?_) #[true, true, true, true, true, true, true, true, true, true, true, true, false, false, true, false, false, false, false] rfl rfl (any_of HT_.out (by kernel_rfl)) (fun _ _ _ h => h) (Or.inl ⟨by rfl, ?_⟩) ?_ ?_
  rotate_left
  · intro w'
    go_simp
    with_reducible rfl
  rotate_left
  · simp only [Act.put, List.setIfInBounds_toArray, List.set_cons_zero, List.set_cons_succ, i64_w, i32_w]
    rfl
  refine take_ (i := 12) (N := some 20) (v := ?_) (a' := ?_) #[true, true, true, true, true, true, true, true, true, true, true, true, true, false, true, false, false, false, false] rfl rfl (take_ofW HT_.out HW_.out (by kernel_rfl)) (fun _ _ _ h => h) (Or.inl ⟨by rfl, ?_⟩) hHeld ?_ ?_
  rotate_left
  · rintro w' ⟨s0, s1, s2⟩
    go_simp
    with_reducible rfl
  rotate_left
  · simp only [Act.put, List.setIfInBounds_toArray, List.set_cons_zero, List.set_cons_succ, i64_w, i32_w]
    rfl
  refine pure_ (i := 13) (N := some 21) (v := ?_) (a' := ?_) #[true, true, true, true, true, true, true, true, true, true, true, true, true, true, true, false, false, false, false] rfl rfl (any_of HT_.out (by kernel_rfl)) (fun _ _ _ h => h) (Or.inl ⟨by rfl, ?_⟩) ?_ ?_
  rotate_left
  · intro w'
    go_simp
    with_reducible rfl
  rotate_left
  · simp only [Act.put, List.setIfInBounds_toArray, List.set_cons_zero, List.set_cons_succ, i64_w, i32_w]
    rfl
  refine take_ (i := 15) (N := some 23) (v := ?_) (a' := ?_) #[true, true, true, true, true, true, true, true, true, true, true, true, true, true, true, true, false, false, false] rfl rfl (take_ofW HT_.out HW_.out (by kernel_rfl)) (fun _ _ _ h => h) (Or.inl ⟨by rfl, ?_⟩) hHeld ?_ ?_
  rotate_left
  · rintro w' ⟨s0, s1, s2⟩
    go_simp
    with_reducible rfl
  rotate_left
  · simp only [Act.put, List.setIfInBounds_toArray, List.set_cons_zero, List.set_cons_succ, i64_w, i32_w]
    rfl
  refine one_ (i := 16) (N := some 24) #[true, true, true, true, true, true, true, true, true, true, true, true, true, true, true, true, true, false, false] rfl rfl (one_of HT_.out (by kernel_rfl)) (by decide) (fun K hK => ?_)
  refine goes_ Try.func76 (by kernel_rfl) rfl #[.int .i64 a0_1] (by rfl) rfl rfl (by simp only [List.map_toArray, List.map_cons, List.map_nil]; rfl) ?_
  with_reducible refine (label_Slots.calls a0_1 (slotsP a0_1) _ HS.out).mono ?_
  rintro e w5 ⟨rfl, hb⟩
  refine ⟨_, rfl, ?_⟩
  have m0 := Aside0.mk (below_step HB.out hb)
  have m1 := Aside0.mk (blk_below B1.out hb)
  clear HB B1
  have HB := m0
  have B1 := m1
  clear m0 m1
  refine hK.out _ _ ⟨(hb.cell (World.block_lt_of_cell? _ _ (hHeld.1))).trans (hHeld.1), (hb.cell (World.block_lt_of_cell? _ _ (hHeld.2.1))).trans (hHeld.2.1), (hb.cell (World.block_lt_of_cell? _ _ (hHeld.2.2))).trans (hHeld.2.2)⟩ (fun hHeld => ?_)
  clear hK K
  refine norm_ (a' := ?_) ?_ ?_
  rotate_left
  · show Act.put _ (some 24) _ = _
    simp only [Act.put, List.setIfInBounds_toArray, List.set_cons_zero, List.set_cons_succ, i64_w, i32_w]
    rfl
  refine pure_ (i := 17) (N := some 25) (v := ?_) (a' := ?_) #[true, true, true, true, true, true, true, true, true, true, true, true, true, true, true, true, true, true, false] rfl rfl (any_of HT_.out (by kernel_rfl)) (fun _ _ _ h => h) (Or.inl ⟨by rfl, ?_⟩) ?_ ?_
  rotate_left
  · intro w'
    go_simp
    with_reducible rfl
  rotate_left
  · simp only [Act.put, List.setIfInBounds_toArray, List.set_cons_zero, List.set_cons_succ, i64_w, i32_w]
    rfl
  refine pure_ (i := 18) (N := some 26) (v := ?_) (a' := ?_) #[true, true, true, true, true, true, true, true, true, true, true, true, true, true, true, true, true, true, true] rfl rfl (any_of HT_.out (by kernel_rfl)) (fun _ _ _ h => h) (Or.inl ⟨by rfl, ?_⟩) ?_ ?_
  rotate_left
  · intro w'
    go_simp
    with_reducible rfl
  rotate_left
  · simp only [Act.put, List.setIfInBounds_toArray, List.set_cons_zero, List.set_cons_succ, i64_w, i32_w]
    rfl
  refine done_ (done_of HT_.out (by kernel_rfl)) ?_
  clear HT_ HW_ hHeld z1_0 z1_1 z1_2
  go_wp2_with ((with_reducible refine gate_dst (N := 27) rfl ?_); refine map_event ?hg (N := 27) ?hd ?hr ?_; (case hd => rfl); (case hg => rfl); (case hr => first | (go_simp; done) | (go_simp; rfl)); intro g27 hg_ w8 hmap hb_; have G27 := Aside0.mk (by rw [hg_]; exact below_size HB.out : w.heap.size ≤ g27); have n0 := Aside0.mk (below_step HB.out hb_); have n1 := Aside0.mk (blk_below B1.out hb_); clear HB B1 hb_ hg_; have HB := n0; have B1 := n1; clear n0 n1; have HM := Aside0.mk hmap; clear hmap; have z1_2 := fcells g1 w8 _ _ B1.out 2 _ rfl)
  go_loopg [3, 31] l0_2.length (fun kq u3 u31 w' => ∃ (i : Nat) (seen : List (Int × Bool)) (all : List S25), u31 = .int .i64 i ∧ Aside0 (kq + i = l0_2.length) ∧ Aside0 (loopRes (vLoop a0_1 seen all (l0_2.drop i)) = res) ∧ Aside0 (all.length ≤ 16 * i) ∧ Aside0 (MapIs w' g27 i seen) ∧ Aside0 (Kd.R k25 25 w' w.heap.size (fun _ => True) u3 all) ∧ Aside0 (w'.heap[g1]? = some (.cells #[.string a0_0, .int .i64 a0_1, .slice A0_2 l0_2.length c0_2] 41 (0, 0))) ∧ Aside0 (Below w.heap.size w w'))
  case atStart => exact ⟨0, [], [], rfl, ⟨rfl⟩, HRES, ⟨Nat.zero_le _⟩, HM, ⟨Kd.R_nil _ _ _ _ _⟩, B1, HB⟩
  case round =>
    clear HRES HM B1 HB z1_2
    obtain ⟨i, seen, all, rfl, HK, HI, HAL, HM, HA, B1, HB⟩ := hrel
    by_cases hi : i < l0_2.length
    · have hib : decide ((i : Int) < (l0_2.length : Int)) = true := decide_eq_true (by omega)
      have hi0 : decide (0 ≤ (i : Int)) = true := decide_eq_true (by omega)
      have hp1 : (0 ≤ (i : Int)) = True := eq_true (by omega)
      have hp2 : ((i : Int) < (l0_2.length : Int)) = True := eq_true (by omega)
      have HI31 := Aside0.mk (show i < 31 by have := H31.out; omega)
      obtain ⟨ad, A4, c4, e1, q0, q1, q2, q3, q4, l4, g4⟩ := at_T66 HR.out (i : Int) (by omega) (by omega)
      subst e1
      have hrd : rd_T66 l0_2 (i : Int) = l0_2[i] := by simp [rd_T66, List.getD_eq_getElem?_getD, hi]
      rw [hrd] at q0 q1 q2 q3 q4 l4 g4
      rw [Int.toNat_natCast] at q0 q1 q2 q3 q4
      replace q0 := (HB.out.cell (World.block_lt_of_cell? w _ q0)).trans q0
      replace q1 := (HB.out.cell (World.block_lt_of_cell? w _ q1)).trans q1
      replace q2 := (HB.out.cell (World.block_lt_of_cell? w _ q2)).trans q2
      replace q3 := (HB.out.cell (World.block_lt_of_cell? w _ q3)).trans q3
      replace q4 := (HB.out.cell (World.block_lt_of_cell? w _ q4)).trans q4
      have HI2 := HI.out
      rw [List.drop_eq_getElem_cons hi, vLoop] at HI2
      generalize l0_2[i] = x at q0 q1 q2 q3 q4 l4 g4 HI2
      have HL4 := Aside0.mk l4
      have HX := Aside0.mk g4
      have hE := empty_some x 3 (by omega)
      clear hrd l4 g4 HI
      obtain ⟨m, rfl⟩ : ∃ m, gk = m + 1 := ⟨gk - 1, by have := HK.out; omega⟩
      have hw1 : wrap64 ((i : Int) + 1) = (i : Int) + 1 := by
        have := HI31.out
        unfold wrap64; omega
      have HW1 := Aside0.mk hw1
      clear hw1 hi
      generalize emptyP x = eb at hE HI2
      have HE := Aside0.mk hE
      clear hE
      cases eb with
      | true =>
        rw [if_pos rfl] at HI2
        have HI3 := Aside0.mk HI2
        clear HI2
        go_wp2_with (first
          | ((with_reducible refine gate_dst (N := 6) rfl ?_); refine box_event ?hg (N := 6) ?hd (cs := #[.int .i64 0, .int .i64 0, .string (⟨#[]⟩ : ByteArray), .string (⟨#[]⟩ : ByteArray), .slice none 0 0]) (t := 66) ?hr ?_; (case hd => rfl); (case hg => rfl); (case hr => first | (go_simp; done) | (go_simp; rfl)); intro g6 hg_ wx1 hbox_ hb_; have G6 := Aside0.mk (by rw [hg_]; exact below_size HB.out : w.heap.size ≤ g6); have E1_6 := Aside0.mk (by rw [hg_]; exact Nat.ne_of_lt (blk_lt B1.out) : g1 ≠ g6); have n0_ := Aside0.mk (below_step HB.out hb_); have nb1_ := Aside0.mk (blk_below B1.out hb_); have ncHM_ := Aside0.mk (HM.out.below hb_); have ncHA_ := Aside0.mk (Kd.R_below HA.out hb_); clear HB B1 HM HA; have HB := n0_; have B1 := nb1_; have HM := ncHM_; have HA := ncHA_; clear n0_ nb1_ ncHM_ ncHA_; have B6 := Aside0.mk hbox_; clear hb_ hbox_ hg_)
          | ((with_reducible refine gate_store (t := 66) (p := 6) rfl ?_); refine row_store (g := g6) (cells := #[.int .i64 x.f0, .int .i64 x.f1, .string x.f2, .string x.f3, .slice A4 x.f4.length c4]) (t := 66) HB.out G6.out B6.out rfl 66 _ _ rfl size66 rfl rfl rfl rfl ?_; intro wx2 hrow_ hoth_ hsz_ hb_; have nb1_ := Aside0.mk ((hoth_ g1 E1_6.out).trans B1.out); have ncHM_ := Aside0.mk ((HM.out).kept (hoth_ g27 (Ne.symm (map_blk HM.out B6.out)))); have ncHA_ := Aside0.mk (R_beside HA.out B6.out (by decide) hoth_); clear HB B6 B1 HM HA; have B1 := nb1_; have HM := ncHM_; have HA := ncHA_; have HB := Aside0.mk hb_; have B6 := Aside0.mk hrow_; clear hrow_ hoth_ hsz_ hb_ nb1_ ncHM_ ncHA_; have z6_0 := fcells g6 wx2 _ _ B6.out 0 _ rfl; have z6_1 := fcells g6 wx2 _ _ B6.out 1 _ rfl; have z6_2 := fcells g6 wx2 _ _ B6.out 2 _ rfl; have z6_3 := fcells g6 wx2 _ _ B6.out 3 _ rfl; have z6_4 := fcells g6 wx2 _ _ B6.out 4 _ rfl; clear q0 q1 q2 q3 q4)
          | (go_at_call 77; (with_reducible refine (contents_empty.calls 3 x.f0 x.f1 x.f2 x.f3 A4 c4 x.f4 true _ (Kd.C_below HX.out HB.out) HL4.out HE.out).mono ?_); rintro e wx3 ⟨rfl, hb_⟩; have n0_ := Aside0.mk (below_step HB.out hb_); have nb1_ := Aside0.mk (blk_below B1.out hb_); have nb6_ := Aside0.mk (blk_below B6.out hb_); have ncHM_ := Aside0.mk (HM.out.below hb_); have ncHA_ := Aside0.mk (Kd.R_below HA.out hb_); clear HB B1 B6 HM HA z6_0 z6_1 z6_2 z6_3 z6_4; have HB := n0_; have B1 := nb1_; have B6 := nb6_; have HM := ncHM_; have HA := ncHA_; clear n0_ nb1_ nb6_ ncHM_ ncHA_; clear hb_; have z6_0 := fcells g6 wx3 _ _ B6.out 0 _ rfl; have z6_1 := fcells g6 wx3 _ _ B6.out 1 _ rfl; have z6_2 := fcells g6 wx3 _ _ B6.out 2 _ rfl; have z6_3 := fcells g6 wx3 _ _ B6.out 3 _ rfl; have z6_4 := fcells g6 wx3 _ _ B6.out 4 _ rfl))
        have hw1 := HW1.out
        go_wp2
        go_roundg m
        case measure => omega
        case rel => exact ⟨i + 1, seen, all, by rw [hw1]; rfl, ⟨by have := HK.out; omega⟩, HI3, ⟨by have := HAL.out; omega⟩, ⟨HM.out.mono (by omega)⟩, HA, B1, HB⟩
      | false =>
      rw [if_neg (by decide)] at HI2
      generalize hpd : decide (0 < x.f1) = pb at HI2
      generalize hlv : labelOk x.f0 x.f1 x.f2 x.f3 x.f4 a0_1 = lb at HI2
      have HLV := Aside0.mk (show label_Valid.f x.f0 x.f1 x.f2 x.f3 x.f4 a0_1 = some lb from congrArg some hlv)
      cases lb with
      | false =>
        rw [Bool.false_and, if_neg (by decide)] at HI2
        clear hlv
        obtain rfl : false = res := HI2
        go_wp2_with (first
          | ((with_reducible refine gate_dst (N := 6) rfl ?_); refine box_event ?hg (N := 6) ?hd (cs := #[.int .i64 0, .int .i64 0, .string (⟨#[]⟩ : ByteArray), .string (⟨#[]⟩ : ByteArray), .slice none 0 0]) (t := 66) ?hr ?_; (case hd => rfl); (case hg => rfl); (case hr => first | (go_simp; done) | (go_simp; rfl)); intro g6 hg_ wx1 hbox_ hb_; have G6 := Aside0.mk (by rw [hg_]; exact below_size HB.out : w.heap.size ≤ g6); have E1_6 := Aside0.mk (by rw [hg_]; exact Nat.ne_of_lt (blk_lt B1.out) : g1 ≠ g6); have n0_ := Aside0.mk (below_step HB.out hb_); have nb1_ := Aside0.mk (blk_below B1.out hb_); have ncHM_ := Aside0.mk (HM.out.below hb_); have ncHA_ := Aside0.mk (Kd.R_below HA.out hb_); clear HB B1 HM HA; have HB := n0_; have B1 := nb1_; have HM := ncHM_; have HA := ncHA_; clear n0_ nb1_ ncHM_ ncHA_; have B6 := Aside0.mk hbox_; clear hb_ hbox_ hg_)
          | ((with_reducible refine gate_store (t := 66) (p := 6) rfl ?_); refine row_store (g := g6) (cells := #[.int .i64 x.f0, .int .i64 x.f1, .string x.f2, .string x.f3, .slice A4 x.f4.length c4]) (t := 66) HB.out G6.out B6.out rfl 66 _ _ rfl size66 rfl rfl rfl rfl ?_; intro wx2 hrow_ hoth_ hsz_ hb_; have nb1_ := Aside0.mk ((hoth_ g1 E1_6.out).trans B1.out); have ncHM_ := Aside0.mk ((HM.out).kept (hoth_ g27 (Ne.symm (map_blk HM.out B6.out)))); have ncHA_ := Aside0.mk (R_beside HA.out B6.out (by decide) hoth_); clear HB B6 B1 HM HA; have B1 := nb1_; have HM := ncHM_; have HA := ncHA_; have HB := Aside0.mk hb_; have B6 := Aside0.mk hrow_; clear hrow_ hoth_ hsz_ hb_ nb1_ ncHM_ ncHA_; have z6_0 := fcells g6 wx2 _ _ B6.out 0 _ rfl; have z6_1 := fcells g6 wx2 _ _ B6.out 1 _ rfl; have z6_2 := fcells g6 wx2 _ _ B6.out 2 _ rfl; have z6_3 := fcells g6 wx2 _ _ B6.out 3 _ rfl; have z6_4 := fcells g6 wx2 _ _ B6.out 4 _ rfl; clear q0 q1 q2 q3 q4)
          | (go_at_call 77; (with_reducible refine (contents_empty.calls 3 x.f0 x.f1 x.f2 x.f3 A4 c4 x.f4 false _ (Kd.C_below HX.out HB.out) HL4.out HE.out).mono ?_); rintro e wx3 ⟨rfl, hb_⟩; have n0_ := Aside0.mk (below_step HB.out hb_); have nb1_ := Aside0.mk (blk_below B1.out hb_); have nb6_ := Aside0.mk (blk_below B6.out hb_); have ncHM_ := Aside0.mk (HM.out.below hb_); have ncHA_ := Aside0.mk (Kd.R_below HA.out hb_); clear HB B1 B6 HM HA z6_0 z6_1 z6_2 z6_3 z6_4; have HB := n0_; have B1 := nb1_; have B6 := nb6_; have HM := ncHM_; have HA := ncHA_; clear n0_ nb1_ nb6_ ncHM_ ncHA_; clear hb_; have z6_0 := fcells g6 wx3 _ _ B6.out 0 _ rfl; have z6_1 := fcells g6 wx3 _ _ B6.out 1 _ rfl; have z6_2 := fcells g6 wx3 _ _ B6.out 2 _ rfl; have z6_3 := fcells g6 wx3 _ _ B6.out 3 _ rfl; have z6_4 := fcells g6 wx3 _ _ B6.out 4 _ rfl)
          | ((with_reducible refine gate_dst (N := 7) rfl ?_); refine box_event ?hg (N := 7) ?hd (cs := #[.int .i64 0, .bool false]) (t := 102) ?hr ?_; (case hd => rfl); (case hg => rfl); (case hr => first | (go_simp; done) | (go_simp; rfl)); intro g7 hg_ wx4 hbox_ hb_; have G7 := Aside0.mk (by rw [hg_]; exact below_size HB.out : w.heap.size ≤ g7); have E1_7 := Aside0.mk (by rw [hg_]; exact Nat.ne_of_lt (blk_lt B1.out) : g1 ≠ g7); have E6_7 := Aside0.mk (by rw [hg_]; exact Nat.ne_of_lt (blk_lt B6.out) : g6 ≠ g7); have n0_ := Aside0.mk (below_step HB.out hb_); have nb1_ := Aside0.mk (blk_below B1.out hb_); have nb6_ := Aside0.mk (blk_below B6.out hb_); have ncHM_ := Aside0.mk (HM.out.below hb_); have ncHA_ := Aside0.mk (Kd.R_below HA.out hb_); clear HB B1 B6 HM HA z6_0 z6_1 z6_2 z6_3 z6_4; have HB := n0_; have B1 := nb1_; have B6 := nb6_; have HM := ncHM_; have HA := ncHA_; clear n0_ nb1_ nb6_ ncHM_ ncHA_; have B7 := Aside0.mk hbox_; clear hb_ hbox_ hg_; have z6_0 := fcells g6 wx4 _ _ B6.out 0 _ rfl; have z6_1 := fcells g6 wx4 _ _ B6.out 1 _ rfl; have z6_2 := fcells g6 wx4 _ _ B6.out 2 _ rfl; have z6_3 := fcells g6 wx4 _ _ B6.out 3 _ rfl; have z6_4 := fcells g6 wx4 _ _ B6.out 4 _ rfl)
          | ((with_reducible refine gate_store (t := 102) (p := 7) rfl ?_); refine row_store (g := g7) (cells := #[.int .i64 x.f0, .bool pb]) (t := 102) HB.out G7.out B7.out rfl 102 _ _ rfl size102 rfl rfl rfl rfl ?_; intro wx5 hrow_ hoth_ hsz_ hb_; have nb1_ := Aside0.mk ((hoth_ g1 E1_7.out).trans B1.out); have nb6_ := Aside0.mk ((hoth_ g6 E6_7.out).trans B6.out); have ncHM_ := Aside0.mk ((HM.out).kept (hoth_ g27 (Ne.symm (map_blk HM.out B7.out)))); have ncHA_ := Aside0.mk (R_beside HA.out B7.out (by decide) hoth_); clear HB B7 B1 B6 HM HA z6_0 z6_1 z6_2 z6_3 z6_4; have B1 := nb1_; have B6 := nb6_; have HM := ncHM_; have HA := ncHA_; have HB := Aside0.mk hb_; have B7 := Aside0.mk hrow_; clear hrow_ hoth_ hsz_ hb_ nb1_ nb6_ ncHM_ ncHA_; have z6_0 := fcells g6 wx5 _ _ B6.out 0 _ rfl; have z6_1 := fcells g6 wx5 _ _ B6.out 1 _ rfl; have z6_2 := fcells g6 wx5 _ _ B6.out 2 _ rfl; have z6_3 := fcells g6 wx5 _ _ B6.out 3 _ rfl; have z6_4 := fcells g6 wx5 _ _ B6.out 4 _ rfl; have z1_1 := fcells g1 wx5 _ _ B1.out 1 _ rfl; have z7_0 := fcells g7 wx5 _ _ B7.out 0 _ rfl; have z7_1 := fcells g7 wx5 _ _ B7.out 1 _ rfl)
          | (go_at_call 78; (with_reducible refine (label_Valid.calls x.f0 x.f1 x.f2 x.f3 A4 c4 x.f4 a0_1 false _ (Kd.C_below HX.out HB.out) HL4.out HLV.out).mono ?_); rintro e wx6 ⟨rfl, hb_⟩; have n0_ := Aside0.mk (below_step HB.out hb_); have nb1_ := Aside0.mk (blk_below B1.out hb_); have nb6_ := Aside0.mk (blk_below B6.out hb_); have nb7_ := Aside0.mk (blk_below B7.out hb_); have ncHM_ := Aside0.mk (HM.out.below hb_); have ncHA_ := Aside0.mk (Kd.R_below HA.out hb_); clear HB B1 B6 B7 HM HA z6_0 z6_1 z6_2 z6_3 z6_4 z1_1 z7_0 z7_1; have HB := n0_; have B1 := nb1_; have B6 := nb6_; have B7 := nb7_; have HM := ncHM_; have HA := ncHA_; clear n0_ nb1_ nb6_ nb7_ ncHM_ ncHA_; clear hb_))
        go_ret
        exact ⟨rfl, HB.out⟩
      | true =>
      rw [Bool.true_and] at HI2
      have hwf := labelOk_wf hlv
      have HXL := Aside0.mk (labelOk_len hlv)
      clear hlv
      generalize hsb : seen.contains (x.f0, pb) = sb at HI2
      have HSB := Aside0.mk hsb
      clear hsb
      cases sb with
      | true =>
        obtain rfl : false = res := HI2
        go_wp2_with (first
          | ((with_reducible refine gate_dst (N := 6) rfl ?_); refine box_event ?hg (N := 6) ?hd (cs := #[.int .i64 0, .int .i64 0, .string (⟨#[]⟩ : ByteArray), .string (⟨#[]⟩ : ByteArray), .slice none 0 0]) (t := 66) ?hr ?_; (case hd => rfl); (case hg => rfl); (case hr => first | (go_simp; done) | (go_simp; rfl)); intro g6 hg_ wx1 hbox_ hb_; have G6 := Aside0.mk (by rw [hg_]; exact below_size HB.out : w.heap.size ≤ g6); have E1_6 := Aside0.mk (by rw [hg_]; exact Nat.ne_of_lt (blk_lt B1.out) : g1 ≠ g6); have n0_ := Aside0.mk (below_step HB.out hb_); have nb1_ := Aside0.mk (blk_below B1.out hb_); have ncHM_ := Aside0.mk (HM.out.below hb_); have ncHA_ := Aside0.mk (Kd.R_below HA.out hb_); clear HB B1 HM HA; have HB := n0_; have B1 := nb1_; have HM := ncHM_; have HA := ncHA_; clear n0_ nb1_ ncHM_ ncHA_; have B6 := Aside0.mk hbox_; clear hb_ hbox_ hg_)
          | ((with_reducible refine gate_store (t := 66) (p := 6) rfl ?_); refine row_store (g := g6) (cells := #[.int .i64 x.f0, .int .i64 x.f1, .string x.f2, .string x.f3, .slice A4 x.f4.length c4]) (t := 66) HB.out G6.out B6.out rfl 66 _ _ rfl size66 rfl rfl rfl rfl ?_; intro wx2 hrow_ hoth_ hsz_ hb_; have nb1_ := Aside0.mk ((hoth_ g1 E1_6.out).trans B1.out); have ncHM_ := Aside0.mk ((HM.out).kept (hoth_ g27 (Ne.symm (map_blk HM.out B6.out)))); have ncHA_ := Aside0.mk (R_beside HA.out B6.out (by decide) hoth_); clear HB B6 B1 HM HA; have B1 := nb1_; have HM := ncHM_; have HA := ncHA_; have HB := Aside0.mk hb_; have B6 := Aside0.mk hrow_; clear hrow_ hoth_ hsz_ hb_ nb1_ ncHM_ ncHA_; have z6_0 := fcells g6 wx2 _ _ B6.out 0 _ rfl; have z6_1 := fcells g6 wx2 _ _ B6.out 1 _ rfl; have z6_2 := fcells g6 wx2 _ _ B6.out 2 _ rfl; have z6_3 := fcells g6 wx2 _ _ B6.out 3 _ rfl; have z6_4 := fcells g6 wx2 _ _ B6.out 4 _ rfl; clear q0 q1 q2 q3 q4)
          | (go_at_call 77; (with_reducible refine (contents_empty.calls 3 x.f0 x.f1 x.f2 x.f3 A4 c4 x.f4 false _ (Kd.C_below HX.out HB.out) HL4.out HE.out).mono ?_); rintro e wx3 ⟨rfl, hb_⟩; have n0_ := Aside0.mk (below_step HB.out hb_); have nb1_ := Aside0.mk (blk_below B1.out hb_); have nb6_ := Aside0.mk (blk_below B6.out hb_); have ncHM_ := Aside0.mk (HM.out.below hb_); have ncHA_ := Aside0.mk (Kd.R_below HA.out hb_); clear HB B1 B6 HM HA z6_0 z6_1 z6_2 z6_3 z6_4; have HB := n0_; have B1 := nb1_; have B6 := nb6_; have HM := ncHM_; have HA := ncHA_; clear n0_ nb1_ nb6_ ncHM_ ncHA_; clear hb_; have z6_0 := fcells g6 wx3 _ _ B6.out 0 _ rfl; have z6_1 := fcells g6 wx3 _ _ B6.out 1 _ rfl; have z6_2 := fcells g6 wx3 _ _ B6.out 2 _ rfl; have z6_3 := fcells g6 wx3 _ _ B6.out 3 _ rfl; have z6_4 := fcells g6 wx3 _ _ B6.out 4 _ rfl)
          | ((with_reducible refine gate_dst (N := 7) rfl ?_); refine box_event ?hg (N := 7) ?hd (cs := #[.int .i64 0, .bool false]) (t := 102) ?hr ?_; (case hd => rfl); (case hg => rfl); (case hr => first | (go_simp; done) | (go_simp; rfl)); intro g7 hg_ wx4 hbox_ hb_; have G7 := Aside0.mk (by rw [hg_]; exact below_size HB.out : w.heap.size ≤ g7); have E1_7 := Aside0.mk (by rw [hg_]; exact Nat.ne_of_lt (blk_lt B1.out) : g1 ≠ g7); have E6_7 := Aside0.mk (by rw [hg_]; exact Nat.ne_of_lt (blk_lt B6.out) : g6 ≠ g7); have n0_ := Aside0.mk (below_step HB.out hb_); have nb1_ := Aside0.mk (blk_below B1.out hb_); have nb6_ := Aside0.mk (blk_below B6.out hb_); have ncHM_ := Aside0.mk (HM.out.below hb_); have ncHA_ := Aside0.mk (Kd.R_below HA.out hb_); clear HB B1 B6 HM HA z6_0 z6_1 z6_2 z6_3 z6_4; have HB := n0_; have B1 := nb1_; have B6 := nb6_; have HM := ncHM_; have HA := ncHA_; clear n0_ nb1_ nb6_ ncHM_ ncHA_; have B7 := Aside0.mk hbox_; clear hb_ hbox_ hg_; have z6_0 := fcells g6 wx4 _ _ B6.out 0 _ rfl; have z6_1 := fcells g6 wx4 _ _ B6.out 1 _ rfl; have z6_2 := fcells g6 wx4 _ _ B6.out 2 _ rfl; have z6_3 := fcells g6 wx4 _ _ B6.out 3 _ rfl; have z6_4 := fcells g6 wx4 _ _ B6.out 4 _ rfl)
          | ((with_reducible refine gate_store (t := 102) (p := 7) rfl ?_); refine row_store (g := g7) (cells := #[.int .i64 x.f0, .bool pb]) (t := 102) HB.out G7.out B7.out rfl 102 _ _ rfl size102 rfl rfl rfl rfl ?_; intro wx5 hrow_ hoth_ hsz_ hb_; have nb1_ := Aside0.mk ((hoth_ g1 E1_7.out).trans B1.out); have nb6_ := Aside0.mk ((hoth_ g6 E6_7.out).trans B6.out); have ncHM_ := Aside0.mk ((HM.out).kept (hoth_ g27 (Ne.symm (map_blk HM.out B7.out)))); have ncHA_ := Aside0.mk (R_beside HA.out B7.out (by decide) hoth_); clear HB B7 B1 B6 HM HA z6_0 z6_1 z6_2 z6_3 z6_4; have B1 := nb1_; have B6 := nb6_; have HM := ncHM_; have HA := ncHA_; have HB := Aside0.mk hb_; have B7 := Aside0.mk hrow_; clear hrow_ hoth_ hsz_ hb_ nb1_ nb6_ ncHM_ ncHA_; have z6_0 := fcells g6 wx5 _ _ B6.out 0 _ rfl; have z6_1 := fcells g6 wx5 _ _ B6.out 1 _ rfl; have z6_2 := fcells g6 wx5 _ _ B6.out 2 _ rfl; have z6_3 := fcells g6 wx5 _ _ B6.out 3 _ rfl; have z6_4 := fcells g6 wx5 _ _ B6.out 4 _ rfl; have z1_1 := fcells g1 wx5 _ _ B1.out 1 _ rfl; have z7_0 := fcells g7 wx5 _ _ B7.out 0 _ rfl; have z7_1 := fcells g7 wx5 _ _ B7.out 1 _ rfl)
          | (go_at_call 78; (with_reducible refine (label_Valid.calls x.f0 x.f1 x.f2 x.f3 A4 c4 x.f4 a0_1 true _ (Kd.C_below HX.out HB.out) HL4.out HLV.out).mono ?_); rintro e wx6 ⟨rfl, hb_⟩; have n0_ := Aside0.mk (below_step HB.out hb_); have nb1_ := Aside0.mk (blk_below B1.out hb_); have nb6_ := Aside0.mk (blk_below B6.out hb_); have nb7_ := Aside0.mk (blk_below B7.out hb_); have ncHM_ := Aside0.mk (HM.out.below hb_); have ncHA_ := Aside0.mk (Kd.R_below HA.out hb_); clear HB B1 B6 B7 HM HA z6_0 z6_1 z6_2 z6_3 z6_4 z1_1 z7_0 z7_1; have HB := n0_; have B1 := nb1_; have B6 := nb6_; have B7 := nb7_; have HM := ncHM_; have HA := ncHA_; clear n0_ nb1_ nb6_ nb7_ ncHM_ ncHA_; clear hb_; have z7_0 := fcells g7 wx6 _ _ B7.out 0 _ rfl; have z7_1 := fcells g7 wx6 _ _ B7.out 1 _ rfl; have hlk := HM.out.look x.f0 pb hwf; rw [HSB.out] at hlk))
        go_ret
        exact ⟨rfl, HB.out⟩
      | false =>
        rw [Bool.not_false, if_pos rfl] at HI2
        have HI3 := Aside0.mk HI2
        clear HI2
        go_wp2_with (first
          | ((with_reducible refine gate_dst (N := 6) rfl ?_); refine box_event ?hg (N := 6) ?hd (cs := #[.int .i64 0, .int .i64 0, .string (⟨#[]⟩ : ByteArray), .string (⟨#[]⟩ : ByteArray), .slice none 0 0]) (t := 66) ?hr ?_; (case hd => rfl); (case hg => rfl); (case hr => first | (go_simp; done) | (go_simp; rfl)); intro g6 hg_ wx1 hbox_ hb_; have G6 := Aside0.mk (by rw [hg_]; exact below_size HB.out : w.heap.size ≤ g6); have E1_6 := Aside0.mk (by rw [hg_]; exact Nat.ne_of_lt (blk_lt B1.out) : g1 ≠ g6); have n0_ := Aside0.mk (below_step HB.out hb_); have nb1_ := Aside0.mk (blk_below B1.out hb_); have ncHM_ := Aside0.mk (HM.out.below hb_); have ncHA_ := Aside0.mk (Kd.R_below HA.out hb_); clear HB B1 HM HA; have HB := n0_; have B1 := nb1_; have HM := ncHM_; have HA := ncHA_; clear n0_ nb1_ ncHM_ ncHA_; have B6 := Aside0.mk hbox_; clear hb_ hbox_ hg_)
          | ((with_reducible refine gate_store (t := 66) (p := 6) rfl ?_); refine row_store (g := g6) (cells := #[.int .i64 x.f0, .int .i64 x.f1, .string x.f2, .string x.f3, .slice A4 x.f4.length c4]) (t := 66) HB.out G6.out B6.out rfl 66 _ _ rfl size66 rfl rfl rfl rfl ?_; intro wx2 hrow_ hoth_ hsz_ hb_; have nb1_ := Aside0.mk ((hoth_ g1 E1_6.out).trans B1.out); have ncHM_ := Aside0.mk ((HM.out).kept (hoth_ g27 (Ne.symm (map_blk HM.out B6.out)))); have ncHA_ := Aside0.mk (R_beside HA.out B6.out (by decide) hoth_); clear HB B6 B1 HM HA; have B1 := nb1_; have HM := ncHM_; have HA := ncHA_; have HB := Aside0.mk hb_; have B6 := Aside0.mk hrow_; clear hrow_ hoth_ hsz_ hb_ nb1_ ncHM_ ncHA_; have z6_0 := fcells g6 wx2 _ _ B6.out 0 _ rfl; have z6_1 := fcells g6 wx2 _ _ B6.out 1 _ rfl; have z6_2 := fcells g6 wx2 _ _ B6.out 2 _ rfl; have z6_3 := fcells g6 wx2 _ _ B6.out 3 _ rfl; have z6_4 := fcells g6 wx2 _ _ B6.out 4 _ rfl; clear q0 q1 q2 q3 q4)
          | (go_at_call 77; (with_reducible refine (contents_empty.calls 3 x.f0 x.f1 x.f2 x.f3 A4 c4 x.f4 false _ (Kd.C_below HX.out HB.out) HL4.out HE.out).mono ?_); rintro e wx3 ⟨rfl, hb_⟩; have n0_ := Aside0.mk (below_step HB.out hb_); have nb1_ := Aside0.mk (blk_below B1.out hb_); have nb6_ := Aside0.mk (blk_below B6.out hb_); have ncHM_ := Aside0.mk (HM.out.below hb_); have ncHA_ := Aside0.mk (Kd.R_below HA.out hb_); clear HB B1 B6 HM HA z6_0 z6_1 z6_2 z6_3 z6_4; have HB := n0_; have B1 := nb1_; have B6 := nb6_; have HM := ncHM_; have HA := ncHA_; clear n0_ nb1_ nb6_ ncHM_ ncHA_; clear hb_; have z6_0 := fcells g6 wx3 _ _ B6.out 0 _ rfl; have z6_1 := fcells g6 wx3 _ _ B6.out 1 _ rfl; have z6_2 := fcells g6 wx3 _ _ B6.out 2 _ rfl; have z6_3 := fcells g6 wx3 _ _ B6.out 3 _ rfl; have z6_4 := fcells g6 wx3 _ _ B6.out 4 _ rfl)
          | ((with_reducible refine gate_dst (N := 7) rfl ?_); refine box_event ?hg (N := 7) ?hd (cs := #[.int .i64 0, .bool false]) (t := 102) ?hr ?_; (case hd => rfl); (case hg => rfl); (case hr => first | (go_simp; done) | (go_simp; rfl)); intro g7 hg_ wx4 hbox_ hb_; have G7 := Aside0.mk (by rw [hg_]; exact below_size HB.out : w.heap.size ≤ g7); have E1_7 := Aside0.mk (by rw [hg_]; exact Nat.ne_of_lt (blk_lt B1.out) : g1 ≠ g7); have E6_7 := Aside0.mk (by rw [hg_]; exact Nat.ne_of_lt (blk_lt B6.out) : g6 ≠ g7); have n0_ := Aside0.mk (below_step HB.out hb_); have nb1_ := Aside0.mk (blk_below B1.out hb_); have nb6_ := Aside0.mk (blk_below B6.out hb_); have ncHM_ := Aside0.mk (HM.out.below hb_); have ncHA_ := Aside0.mk (Kd.R_below HA.out hb_); clear HB B1 B6 HM HA z6_0 z6_1 z6_2 z6_3 z6_4; have HB := n0_; have B1 := nb1_; have B6 := nb6_; have HM := ncHM_; have HA := ncHA_; clear n0_ nb1_ nb6_ ncHM_ ncHA_; have B7 := Aside0.mk hbox_; clear hb_ hbox_ hg_; have z6_0 := fcells g6 wx4 _ _ B6.out 0 _ rfl; have z6_1 := fcells g6 wx4 _ _ B6.out 1 _ rfl; have z6_2 := fcells g6 wx4 _ _ B6.out 2 _ rfl; have z6_3 := fcells g6 wx4 _ _ B6.out 3 _ rfl; have z6_4 := fcells g6 wx4 _ _ B6.out 4 _ rfl)
          | ((with_reducible refine gate_store (t := 102) (p := 7) rfl ?_); refine row_store (g := g7) (cells := #[.int .i64 x.f0, .bool pb]) (t := 102) HB.out G7.out B7.out rfl 102 _ _ rfl size102 rfl rfl rfl rfl ?_; intro wx5 hrow_ hoth_ hsz_ hb_; have nb1_ := Aside0.mk ((hoth_ g1 E1_7.out).trans B1.out); have nb6_ := Aside0.mk ((hoth_ g6 E6_7.out).trans B6.out); have ncHM_ := Aside0.mk ((HM.out).kept (hoth_ g27 (Ne.symm (map_blk HM.out B7.out)))); have ncHA_ := Aside0.mk (R_beside HA.out B7.out (by decide) hoth_); clear HB B7 B1 B6 HM HA z6_0 z6_1 z6_2 z6_3 z6_4; have B1 := nb1_; have B6 := nb6_; have HM := ncHM_; have HA := ncHA_; have HB := Aside0.mk hb_; have B7 := Aside0.mk hrow_; clear hrow_ hoth_ hsz_ hb_ nb1_ nb6_ ncHM_ ncHA_; have z6_0 := fcells g6 wx5 _ _ B6.out 0 _ rfl; have z6_1 := fcells g6 wx5 _ _ B6.out 1 _ rfl; have z6_2 := fcells g6 wx5 _ _ B6.out 2 _ rfl; have z6_3 := fcells g6 wx5 _ _ B6.out 3 _ rfl; have z6_4 := fcells g6 wx5 _ _ B6.out 4 _ rfl; have z1_1 := fcells g1 wx5 _ _ B1.out 1 _ rfl; have z7_0 := fcells g7 wx5 _ _ B7.out 0 _ rfl; have z7_1 := fcells g7 wx5 _ _ B7.out 1 _ rfl)
          | (go_at_call 78; (with_reducible refine (label_Valid.calls x.f0 x.f1 x.f2 x.f3 A4 c4 x.f4 a0_1 true _ (Kd.C_below HX.out HB.out) HL4.out HLV.out).mono ?_); rintro e wx6 ⟨rfl, hb_⟩; have n0_ := Aside0.mk (below_step HB.out hb_); have nb1_ := Aside0.mk (blk_below B1.out hb_); have nb6_ := Aside0.mk (blk_below B6.out hb_); have nb7_ := Aside0.mk (blk_below B7.out hb_); have ncHM_ := Aside0.mk (HM.out.below hb_); have ncHA_ := Aside0.mk (Kd.R_below HA.out hb_); clear HB B1 B6 B7 HM HA z6_0 z6_1 z6_2 z6_3 z6_4 z1_1 z7_0 z7_1; have HB := n0_; have B1 := nb1_; have B6 := nb6_; have B7 := nb7_; have HM := ncHM_; have HA := ncHA_; clear n0_ nb1_ nb6_ nb7_ ncHM_ ncHA_; clear hb_; have z7_0 := fcells g7 wx6 _ _ B7.out 0 _ rfl; have z7_1 := fcells g7 wx6 _ _ B7.out 1 _ rfl; have z6_4 := fcells g6 wx6 _ _ B6.out 4 _ rfl; have hlk := HM.out.look x.f0 pb hwf; rw [HSB.out] at hlk))
        clear z7_0 z7_1 z6_4 hlk
        have z7_0 : wx6.drew.cell? ⟨g7, 0, none⟩ = some (.int .i64 x.f0) := fcells g7 wx6 _ _ B7.out 0 _ rfl
        have z7_1 : wx6.drew.cell? ⟨g7, 1, none⟩ = some (.bool pb) := fcells g7 wx6 _ _ B7.out 1 _ rfl
        have z6_4 : wx6.drew.cell? ⟨g6, 4, none⟩ = some (.slice A4 x.f4.length c4) := fcells g6 wx6 _ _ B6.out 4 _ rfl
        refine start_ (n := 8) (S := fun w' => w'.cell? ⟨g7, 0, none⟩ = some (.int .i64 x.f0) ∧ w'.cell? ⟨g7, 1, none⟩ = some (.bool pb) ∧ w'.cell? ⟨g6, 4, none⟩ = some (.slice A4 x.f4.length c4)) (ds := [6]) #[false, false, false, false, false, false, false, false] (by kernel_rfl) rfl rfl ⟨z7_0, z7_1, z6_4⟩ (fun hHeld => ?_)
        refine with_tabW contents_Valid.tab12 contents_Valid.bits12 (fun HT_ HW_ => ?_)
        refine pure_ (i := 0) (N := some 53) (v := ?_) (a' := ?_) #[true, false, false, false, false, false, false, false] rfl rfl (any_of HT_.out (by kernel_rfl)) (fun _ _ _ h => h) (Or.inl ⟨by rfl, ?_⟩) ?_ ?_
        rotate_left
        · intro w'
          go_simp
          with_reducible rfl
        rotate_left
        · simp only [Act.put, List.setIfInBounds_toArray, List.set_cons_zero, List.set_cons_succ, i64_w, i32_w]
          rfl
        refine pure_ (i := 2) (N := some 55) (v := ?_) (a' := ?_) #[true, false, true, false, false, false, false, false] rfl rfl (any_of HT_.out (by kernel_rfl)) (fun _ _ _ h => h) (Or.inl ⟨by rfl, ?_⟩) ?_ ?_
        rotate_left
        · intro w'
          go_simp
          with_reducible rfl
        rotate_left
        · simp only [Act.put, List.setIfInBounds_toArray, List.set_cons_zero, List.set_cons_succ, i64_w, i32_w]
          rfl
        refine pure_ (i := 3) (N := some 56) (v := ?_) (a' := ?_) #[true, false, true, true, false, false, false, false] rfl rfl (any_of HT_.out (by kernel_rfl)) (fun _ _ _ h => h) (Or.inl ⟨by rfl, ?_⟩) ?_ ?_
        rotate_left
        · intro w'
          go_simp
          with_reducible rfl
        rotate_left
        · simp only [Act.put, List.setIfInBounds_toArray, List.set_cons_zero, List.set_cons_succ, i64_w, i32_w]
          rfl
        refine take_ (i := 1) (N := some 54) (v := ?_) (a' := ?_) #[true, true, true, true, false, false, false, false] rfl rfl (take_ofW HT_.out HW_.out (by kernel_rfl)) (fun _ _ _ h => h) (Or.inl ⟨by rfl, ?_⟩) hHeld ?_ ?_
        rotate_left
        · rintro w' ⟨s0, s1, s2⟩
          go_simp
          with_reducible rfl
        rotate_left
        · simp only [Act.put, List.setIfInBounds_toArray, List.set_cons_zero, List.set_cons_succ, i64_w, i32_w]
          rfl
        refine take_ (i := 4) (N := some 57) (v := ?_) (a' := ?_) #[true, true, true, true, true, false, false, false] rfl rfl (take_ofW HT_.out HW_.out (by kernel_rfl)) (fun _ _ _ h => h) (Or.inl ⟨by rfl, ?_⟩) hHeld ?_ ?_
        rotate_left
        · rintro w' ⟨s0, s1, s2⟩
          go_simp
          with_reducible rfl
        rotate_left
        · simp only [Act.put, List.setIfInBounds_toArray, List.set_cons_zero, List.set_cons_succ, i64_w, i32_w]
          rfl
        refine one_ (i := 5) (N := some 58) #[true, true, true, true, true, true, false, false] rfl rfl (one_of HT_.out (by kernel_rfl)) (by decide) (fun K hK => ?_)
        refine Kd.R_append_rows_step k25 (w0 := w) w.heap.size (by rfl) (.tmp 55) (.tmp 57) 22 25 (.agg #[(.int .i64 0), (.int .i64 0)]) 16 rfl Try.underlying22 info25 rfl (by decide) (by omega) u3 all x.f4 _ _ _ (fun _ => True) (fun _ => False) rfl rfl (Kd.R_drew HA.out) (Kd.C_drew (Kd.C_below HX.out HB.out)) (fun _ _ h => h) (fun _ h => h.elim) (fun _ _ => trivial) (below_drew1 HB.out) (below_size (below_drew1 HB.out)) (by have := HAL.out; have := HXL.out; have := HI31.out; omega) ?_
        intro v3' w9 ho hb hg hat
        have m0 := Aside0.mk (blk_grown (blk_drew B1.out) hg (Kd.R_ne (Kd.R_drew HA.out) (blk_drew B1.out) (by decide)))
        have m3 := Aside0.mk (HM.out.drew.grown hg (map_ne HM.out HA.out))
        have hne6 := Kd.R_ne (Kd.R_drew HA.out) (blk_drew B6.out) (show 25 ≠ 66 by decide)
        have hne7 := Kd.R_ne (Kd.R_drew HA.out) (blk_drew B7.out) (show 25 ≠ 102 by decide)
        have HA' := Aside0.mk ho
        clear HA HM HB B1 ho hat
        have HB := Aside0.mk hb
        have B1 := m0
        have HM := m3
        clear m0 m3
        refine hK.out _ _ ⟨cell_grown hg (hHeld.1) hne7, cell_grown hg (hHeld.2.1) hne7, cell_grown hg (hHeld.2.2) hne6⟩ (fun hHeld => ?_)
        clear hK K
        refine norm_ (a' := ?_) ?_ ?_
        rotate_left
        · show Act.put _ (some 58) _ = _
          simp only [Act.put, List.setIfInBounds_toArray, List.set_cons_zero, List.set_cons_succ, i64_w, i32_w]
          rfl
        refine last_ (i := 6) (N := none) #[true, true, true, true, true, true, true, false] rfl rfl (one_of HT_.out (by kernel_rfl)) (by decide) (fun K hK => ?_)
        obtain ⟨w10, hrun, hmap, hg2⟩ := HM.out.store x.f0 pb hwf (by have := HI31.out; unfold maxLen; omega)
        refine skip_ (w1 := w10) (by rfl) rfl ?_ ?_
        · go_simp
        have m0 := Aside0.mk (blk_grown B1.out hg2 (fun e => by injection e with e; exact (map_blk HM.out B1.out) e))
        have m1 := Aside0.mk (pw_below_grown HB.out (some g27) (below_size HB.out) hg2 (fun k e => by injection e with e; rw [← e]; exact G27.out))
        have m2 := Aside0.mk (Kd.R_grown1 HA'.out rfl hg2 (map_ne HM.out HA'.out))
        clear HM HB B1 HA' hrun
        have HM := Aside0.mk hmap
        have HB := m1
        have B1 := m0
        have HA := m2
        clear m0 m1 m2 hmap
        refine hK.out _ _ ?_
        clear hK K
        refine pure_ (i := 7) (N := some 3) (v := ?_) (a' := ?_) #[true, true, true, true, true, true, true, true] rfl rfl (any_of HT_.out (by kernel_rfl)) (fun _ _ _ h => h) (Or.inl ⟨by rfl, ?_⟩) ?_ ?_
        rotate_left
        · intro w'
          go_simp
          with_reducible rfl
        rotate_left
        · simp only [Act.put, List.setIfInBounds_toArray, List.set_cons_zero, List.set_cons_succ, i64_w, i32_w]
          rfl
        refine done_ (done_of HT_.out (by kernel_rfl)) ?_
        have hw1 := HW1.out
        go_wp2
        go_roundg m
        case measure => omega
        case rel => exact ⟨i + 1, seen ++ [(x.f0, pb)], all ++ x.f4, by rw [hw1]; rfl, ⟨by have := HK.out; omega⟩, HI3, ⟨by have := HAL.out; have := HXL.out; rw [List.length_append]; omega⟩, HM, HA, B1, HB⟩
    · have hib : decide ((i : Int) < (l0_2.length : Int)) = false := decide_eq_false (by omega)
      have HI2 := HI.out
      rw [List.drop_eq_nil_of_le (by omega), vLoop] at HI2
      obtain rfl : djL all = res := HI2
      obtain ⟨A3, c3, rfl⟩ := Kd.R_slice HA.out
      have HD := Aside0.mk (show extent_Disjoint.f 800 all = some (djL all) from disjoint_some all (by have := HAL.out; have := H31.out; have := HK.out; omega) 800 (by have := HAL.out; have := H31.out; have := HK.out; omega))
      go_wp2_with (go_at_call 25; (with_reducible refine (extent_Disjoint.calls 800 A3 c3 all (djL all) _ (Kd.R_reads' HA.out).2.2 (Kd.R_reads' HA.out).2.1 HD.out).mono ?_); rintro e w9 ⟨rfl, hb_⟩; have n0 := Aside0.mk (below_step HB.out hb_); clear HB hb_; have HB := n0; clear n0)
      go_ret
      exact ⟨rfl, HB.out⟩
end Go.Proofs.Ytghpmenoiimpoaa.P
