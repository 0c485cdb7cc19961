import Derived.Test.YtghpmenoiimpoaaDHSortR
import Derived.Test.YtghpmenoiimpoaaDHLay
import Derived.Test.YtghpmenoiimpoaaDHContentsValid
namespace Go.Proofs.Ytghpmenoiimpoaa.P
open Go.RowKit Go.Sort Go.Proofs.YtghpmenoiimpoaaW.PrintWords Go.Proofs.YtghpmenoiimpoaaW.PrintLast Go.Proofs.YtghpmenoiimpoaaW.PrintMore
set_option linter.unusedVariables false
set_option linter.unusedSimpArgs false
def cmpI (a b : Int) : Int := if a < b then -1 else if b < a then 1 else 0
def cfR (x y : Int × Int) : Int := if cmpI x.1 y.1 = 0 then cmpI x.2 y.2 else cmpI x.1 y.1
theorem compare_walk (a b : Int) (W : World) : Calls Try.prog 100 #[.int .i64 a, .int .i64 b] W fun e w' => e = .returned (.int .i64 (cmpI a b)) ∧ w' = W := by
  have hna : (a != a) = false := by simp
  have hnb : (b != b) = false := by simp
  unfold cmpI
  by_cases h1 : a < b
  · rw [if_pos h1]
    have h1b : decide (a < b) = true := decide_eq_true h1
    go_enter Try.func100, Try.ntmps100
    go_wp2
    go_ret
    exact ⟨rfl, rfl⟩
  · rw [if_neg h1]
    have h1b : decide (a < b) = false := decide_eq_false h1
    by_cases h2 : b < a
    · rw [if_pos h2]
      have h2b : decide (b < a) = true := decide_eq_true h2
      go_enter Try.func100, Try.ntmps100
      go_wp2
      go_ret
      exact ⟨rfl, rfl⟩
    · rw [if_neg h2]
      have h2b : decide (b < a) = false := decide_eq_false h2
      go_enter Try.func100, Try.ntmps100
      go_wp2
      go_ret
      exact ⟨rfl, rfl⟩
theorem or_walk (g : Nat) (x y : Int) (W : World) (h0 : W.cell? ⟨g, 0, none⟩ = some (.int .i64 x)) (h1 : W.cell? ⟨g, 1, none⟩ = some (.int .i64 y)) :
    Calls Try.prog 99 #[.slice (some ⟨g, 0, none⟩) 2 2] W fun e w' => e = .returned (.int .i64 (if x = 0 then y else x)) ∧ w' = W := by
  by_cases hx : x = 0
  · rw [if_pos hx]
    subst hx
    by_cases hy : y = 0
    · subst hy
      go_enter Try.func99, Try.ntmps99
      go_wp2
      go_loopg [8] 2 (fun kq v8 w' => ∃ j : Nat, v8 = .int .i64 j ∧ Aside0 (kq + j = 2) ∧ w' = W)
      case atStart => exact ⟨0, rfl, ⟨rfl⟩, rfl⟩
      case round =>
        obtain ⟨j, rfl, HK, rfl⟩ := hrel
        rcases (show j = 0 ∨ j = 1 ∨ j = 2 from by have := HK.out; omega) with rfl | rfl | rfl
        · obtain ⟨m, rfl⟩ : ∃ m, gk = m + 1 := ⟨gk - 1, by have := HK.out; omega⟩
          go_wp2
          all_goals
            go_roundg m
            case measure => omega
            case rel => exact ⟨1, rfl, ⟨by have := HK.out; omega⟩, rfl⟩
        · obtain ⟨m, rfl⟩ : ∃ m, gk = m + 1 := ⟨gk - 1, by have := HK.out; omega⟩
          go_wp2
          all_goals
            go_roundg m
            case measure => omega
            case rel => exact ⟨2, rfl, ⟨by have := HK.out; omega⟩, rfl⟩
        · go_wp2
          go_ret
          exact ⟨rfl, rfl⟩
    · have hyb : (y != 0) = true := by simpa using hy
      go_enter Try.func99, Try.ntmps99
      go_wp2
      go_loopg [8] 2 (fun kq v8 w' => ∃ j : Nat, v8 = .int .i64 j ∧ Aside0 (kq + j = 2) ∧ w' = W ∧ Aside0 (j ≤ 1))
      case atStart => exact ⟨0, rfl, ⟨rfl⟩, rfl, ⟨by omega⟩⟩
      case round =>
        obtain ⟨j, rfl, HK, rfl, HJ⟩ := hrel
        rcases (show j = 0 ∨ j = 1 from by have := HJ.out; omega) with rfl | rfl
        · obtain ⟨m, rfl⟩ : ∃ m, gk = m + 1 := ⟨gk - 1, by have := HK.out; omega⟩
          go_wp2
          all_goals
            go_roundg m
            case measure => omega
            case rel => exact ⟨1, rfl, ⟨by have := HK.out; omega⟩, rfl, ⟨by omega⟩⟩
        · go_wp2
          go_ret
          exact ⟨rfl, rfl⟩
  · rw [if_neg hx]
    have hxb : (x != 0) = true := by simpa using hx
    go_enter Try.func99, Try.ntmps99
    go_wp2
    go_loopg [8] 2 (fun kq v8 w' => ∃ j : Nat, v8 = .int .i64 j ∧ w' = W ∧ Aside0 (j = 0))
    case atStart => exact ⟨0, rfl, rfl, ⟨rfl⟩⟩
    case round =>
      obtain ⟨j, rfl, rfl, HJ⟩ := hrel
      obtain rfl := HJ.out
      go_wp2
      go_ret
      exact ⟨rfl, rfl⟩
def contents_Refs_1.T1 : Bool × List (List Nat × List Nat) := (true, [([], []), ([0], [0]), ([], []), ([2], [2]), ([1, 3], [1, 3]), ([], []), ([5], [5]), ([], []), ([7], [7]), ([6, 8, 4], [6, 8]), ([4, 9], [4, 9]), ([10, 9], [10]), ([11, 11, 0, 1, 2, 3, 4, 5, 6, 7, 8, 9, 10, 11], [11])])
def contents_Refs_1.B1 : List Nat := [0, 1, 0, 4, 15, 0, 32, 0, 128, 511, 1023, 2047, 4095]
theorem contents_Refs_1.tab1 : rtab .any (opsOf Try.f98 1) = contents_Refs_1.T1 := by kernel_rfl
theorem contents_Refs_1.bits1 : waitsOk contents_Refs_1.T1.2 contents_Refs_1.B1 = true := by kernel_rfl
set_option maxHeartbeats 4000000 in
set_option maxRecDepth 100000 in
theorem closure98 (x y : Int × Int) (W : World) : Calls Try.prog 98 #[.agg #[.int .i64 x.1, .int .i64 x.2], .agg #[.int .i64 y.1, .int .i64 y.2]] W fun e w' => e = .returned (.int .i64 (cfR x y)) ∧ ∃ q os', w' = grow (W.drewN q) os' := by
  obtain ⟨a0, a1⟩ := x
  obtain ⟨b0, b1⟩ := y
  show Calls Try.prog 98 #[.agg #[.int .i64 a0, .int .i64 a1], .agg #[.int .i64 b0, .int .i64 b1]] W _
  have hu72 := Try.underlying72
  go_enter Try.func98, Try.ntmps98
  go_wp2
  have hz : ∀ (c1 c2 : Array Value) (t : TypeId), (∀ i, ((W.alloc (.cells c1 t)).alloc (.cells c2 t)).cell? ⟨W.heap.size, i, none⟩ = c1[i]?) ∧ ∀ i, ((W.alloc (.cells c1 t)).alloc (.cells c2 t)).cell? ⟨W.heap.size + 1, i, none⟩ = c2[i]? := by
    intro c1 c2 t
    refine ⟨fun i => ?_, fun i => ?_⟩
    · rw [World.cell?_alloc_old _ _ _ (by rw [World.size_alloc]; exact Nat.ne_of_lt (Nat.lt_succ_self _)), World.cell?_alloc_new]
    · have : W.heap.size + 1 = (W.alloc (.cells c1 t)).heap.size := by rw [World.size_alloc]
      rw [this, World.cell?_alloc_new]
  have za_0 := (hz #[.int .i64 a0, .int .i64 a1] #[.int .i64 b0, .int .i64 b1] 72).1 0
  have za_1 := (hz #[.int .i64 a0, .int .i64 a1] #[.int .i64 b0, .int .i64 b1] 72).1 1
  have zb_0 := (hz #[.int .i64 a0, .int .i64 a1] #[.int .i64 b0, .int .i64 b1] 72).2 0
  have zb_1 := (hz #[.int .i64 a0, .int .i64 a1] #[.int .i64 b0, .int .i64 b1] 72).2 1
  have hq : ∀ i, (((W.alloc (.cells #[.int .i64 a0, .int .i64 a1] 72)).alloc (.cells #[.int .i64 b0, .int .i64 b1] 72)).alloc (.cells #[.int .i64 (cmpI a0 b0), .int .i64 (cmpI a1 b1)] 3)).drew.cell? ⟨W.heap.size + 1 + 1, i, none⟩ = #[Value.int .i64 (cmpI a0 b0), .int .i64 (cmpI a1 b1)][i]? := by
    intro i
    have : W.heap.size + 1 + 1 = ((W.alloc (.cells #[.int .i64 a0, .int .i64 a1] 72)).alloc (.cells #[.int .i64 b0, .int .i64 b1] 72)).heap.size := by rw [World.size_alloc, World.size_alloc]
    rw [this]
    exact World.cell?_alloc_new _ _ _ _
  clear hz
  refine start_ (n := 13) (S := fun w' => w'.cell? ⟨W.heap.size, 0, none⟩ = some (.int .i64 a0) ∧ w'.cell? ⟨W.heap.size, 1, none⟩ = some (.int .i64 a1) ∧ w'.cell? ⟨W.heap.size + 1, 0, none⟩ = some (.int .i64 b0) ∧ w'.cell? ⟨W.heap.size + 1, 1, none⟩ = some (.int .i64 b1)) (ds := []) #[false, false, false, false, false, false, false, false, false, false, false, false, false] (by kernel_rfl) rfl rfl ⟨za_0, za_1, zb_0, zb_1⟩ (fun hHeld => ?_)
  refine with_tabW contents_Refs_1.tab1 contents_Refs_1.bits1 (fun HT_ HW_ => ?_)
  refine pure_ (i := 0) (N := some 5) (v := ?_) (a' := ?_) #[true, false, false, false, false, false, false, false, false, false, false, false, false] rfl rfl (any_of HT_.out (by kernel_rfl)) (fun _ _ _ h => h) (Or.inl ⟨by rfl, ?_⟩) ?_ ?_
  rotate_left
  · intro w'
    go_simp
    with_reducible rfl
  rotate_left
  · simp only [Act.put, List.setIfInBounds_toArray, List.set_cons_zero, List.set_cons_succ, i64_w, i32_w]
    rfl
  refine pure_ (i := 2) (N := some 7) (v := ?_) (a' := ?_) #[true, false, true, false, false, false, false, false, false, false, false, false, false] rfl rfl (any_of HT_.out (by kernel_rfl)) (fun _ _ _ h => h) (Or.inl ⟨by rfl, ?_⟩) ?_ ?_
  rotate_left
  · intro w'
    go_simp
    with_reducible rfl
  rotate_left
  · simp only [Act.put, List.setIfInBounds_toArray, List.set_cons_zero, List.set_cons_succ, i64_w, i32_w]
    rfl
  refine pure_ (i := 5) (N := some 10) (v := ?_) (a' := ?_) #[true, false, true, false, false, true, false, false, false, false, false, false, false] rfl rfl (any_of HT_.out (by kernel_rfl)) (fun _ _ _ h => h) (Or.inl ⟨by rfl, ?_⟩) ?_ ?_
  rotate_left
  · intro w'
    go_simp
    with_reducible rfl
  rotate_left
  · simp only [Act.put, List.setIfInBounds_toArray, List.set_cons_zero, List.set_cons_succ, i64_w, i32_w]
    rfl
  refine pure_ (i := 7) (N := some 12) (v := ?_) (a' := ?_) #[true, false, true, false, false, true, false, true, false, false, false, false, false] rfl rfl (any_of HT_.out (by kernel_rfl)) (fun _ _ _ h => h) (Or.inl ⟨by rfl, ?_⟩) ?_ ?_
  rotate_left
  · intro w'
    go_simp
    with_reducible rfl
  rotate_left
  · simp only [Act.put, List.setIfInBounds_toArray, List.set_cons_zero, List.set_cons_succ, i64_w, i32_w]
    rfl
  refine take_ (i := 1) (N := some 6) (v := ?_) (a' := ?_) #[true, true, true, false, false, true, false, true, false, false, false, false, false] rfl rfl (take_ofW HT_.out HW_.out (by kernel_rfl)) (fun _ _ _ h => h) (Or.inl ⟨by rfl, ?_⟩) hHeld ?_ ?_
  rotate_left
  · rintro w' ⟨s0, s1, s2, s3⟩
    go_simp
    with_reducible rfl
  rotate_left
  · simp only [Act.put, List.setIfInBounds_toArray, List.set_cons_zero, List.set_cons_succ, i64_w, i32_w]
    rfl
  refine take_ (i := 3) (N := some 8) (v := ?_) (a' := ?_) #[true, true, true, true, false, true, false, true, false, false, false, false, false] rfl rfl (take_ofW HT_.out HW_.out (by kernel_rfl)) (fun _ _ _ h => h) (Or.inl ⟨by rfl, ?_⟩) hHeld ?_ ?_
  rotate_left
  · rintro w' ⟨s0, s1, s2, s3⟩
    go_simp
    with_reducible rfl
  rotate_left
  · simp only [Act.put, List.setIfInBounds_toArray, List.set_cons_zero, List.set_cons_succ, i64_w, i32_w]
    rfl
  refine take_ (i := 6) (N := some 11) (v := ?_) (a' := ?_) #[true, true, true, true, false, true, true, true, false, false, false, false, false] rfl rfl (take_ofW HT_.out HW_.out (by kernel_rfl)) (fun _ _ _ h => h) (Or.inl ⟨by rfl, ?_⟩) hHeld ?_ ?_
  rotate_left
  · rintro w' ⟨s0, s1, s2, s3⟩
    go_simp
    with_reducible rfl
  rotate_left
  · simp only [Act.put, List.setIfInBounds_toArray, List.set_cons_zero, List.set_cons_succ, i64_w, i32_w]
    rfl
  refine take_ (i := 8) (N := some 13) (v := ?_) (a' := ?_) #[true, true, true, true, false, true, true, true, true, false, false, false, false] rfl rfl (take_ofW HT_.out HW_.out (by kernel_rfl)) (fun _ _ _ h => h) (Or.inl ⟨by rfl, ?_⟩) hHeld ?_ ?_
  rotate_left
  · rintro w' ⟨s0, s1, s2, s3⟩
    go_simp
    with_reducible rfl
  rotate_left
  · simp only [Act.put, List.setIfInBounds_toArray, List.set_cons_zero, List.set_cons_succ, i64_w, i32_w]
    rfl
  refine one_ (i := 4) (N := some 9) #[true, true, true, true, true, true, true, true, true, false, false, false, false] rfl rfl (one_of HT_.out (by kernel_rfl)) (by decide) (fun K hK => ?_)
  refine goes_ Try.func100 (by kernel_rfl) rfl #[.int .i64 a0, .int .i64 b0] (by rfl) rfl rfl (by simp only [List.map_toArray, List.map_cons, List.map_nil]; rfl) ?_
  with_reducible refine (compare_walk a0 b0 _).mono ?_
  rintro e w3 ⟨rfl, rfl⟩
  refine ⟨_, rfl, ?_⟩
  refine hK.out _ _ ⟨hHeld.1, hHeld.2.1, hHeld.2.2.1, hHeld.2.2.2⟩ (fun hHeld => ?_)
  clear hK K
  refine norm_ (a' := ?_) ?_ ?_
  rotate_left
  · show Act.put _ (some 9) _ = _
    simp only [Act.put, List.setIfInBounds_toArray, List.set_cons_zero, List.set_cons_succ, i64_w, i32_w]
    rfl
  refine one_ (i := 9) (N := some 14) #[true, true, true, true, true, true, true, true, true, true, false, false, false] rfl rfl (one_of HT_.out (by kernel_rfl)) (by decide) (fun K hK => ?_)
  refine goes_ Try.func100 (by kernel_rfl) rfl #[.int .i64 a1, .int .i64 b1] (by rfl) rfl rfl (by simp only [List.map_toArray, List.map_cons, List.map_nil]; rfl) ?_
  with_reducible refine (compare_walk a1 b1 _).mono ?_
  rintro e w3 ⟨rfl, rfl⟩
  refine ⟨_, rfl, ?_⟩
  refine hK.out _ _ ⟨hHeld.1, hHeld.2.1, hHeld.2.2.1, hHeld.2.2.2⟩ (fun hHeld => ?_)
  clear hK K
  refine norm_ (a' := ?_) ?_ ?_
  rotate_left
  · show Act.put _ (some 14) _ = _
    simp only [Act.put, List.setIfInBounds_toArray, List.set_cons_zero, List.set_cons_succ, i64_w, i32_w]
    rfl
  refine one_ (i := 10) (N := some 15) #[true, true, true, true, true, true, true, true, true, true, true, false, false] rfl rfl (one_of HT_.out (by kernel_rfl)) (by decide) (fun K hK => ?_)
  refine value_ (w1 := ?_) (v := ?_) (by rfl) rfl ?_ ?_
  rotate_left 2
  · go_simp
    constructor
    · rfl
    · rfl
  refine hK.out _ _ ⟨(World.cell?_alloc_old _ _ _ (Nat.ne_of_lt (World.block_lt_of_cell? _ _ (hHeld.1)))).trans hHeld.1, (World.cell?_alloc_old _ _ _ (Nat.ne_of_lt (World.block_lt_of_cell? _ _ (hHeld.2.1)))).trans hHeld.2.1, (World.cell?_alloc_old _ _ _ (Nat.ne_of_lt (World.block_lt_of_cell? _ _ (hHeld.2.2.1)))).trans hHeld.2.2.1, (World.cell?_alloc_old _ _ _ (Nat.ne_of_lt (World.block_lt_of_cell? _ _ (hHeld.2.2.2)))).trans hHeld.2.2.2⟩ (fun hHeld => ?_)
  clear hK K
  refine norm_ (a' := ?_) ?_ ?_
  rotate_left
  · show Act.put _ (some 15) _ = _
    simp only [Act.put, List.setIfInBounds_toArray, List.set_cons_zero, List.set_cons_succ, i64_w, i32_w]
    rfl
  refine one_ (i := 11) (N := some 16) #[true, true, true, true, true, true, true, true, true, true, true, true, false] rfl rfl (one_of HT_.out (by kernel_rfl)) (by decide) (fun K hK => ?_)
  refine goes_ Try.func99 (by kernel_rfl) rfl #[.slice (some ⟨_, 0, none⟩) 2 2] (by rfl) rfl rfl (by simp only [List.map_toArray, List.map_cons, List.map_nil]; rfl) ?_
  with_reducible refine (or_walk _ (cmpI a0 b0) (cmpI a1 b1) _ (hq 0) (hq 1)).mono ?_
  rintro e w3 ⟨rfl, rfl⟩
  refine ⟨_, rfl, ?_⟩
  refine hK.out _ _ ⟨hHeld.1, hHeld.2.1, hHeld.2.2.1, hHeld.2.2.2⟩ (fun hHeld => ?_)
  clear hK K
  refine norm_ (a' := ?_) ?_ ?_
  rotate_left
  · show Act.put _ (some 16) _ = _
    simp only [Act.put, List.setIfInBounds_toArray, List.set_cons_zero, List.set_cons_succ, i64_w, i32_w]
    rfl
  refine pure_ (i := 12) (N := some 4) (v := ?_) (a' := ?_) #[true, true, true, true, true, true, true, true, true, true, true, true, true] rfl rfl (any_of HT_.out (by kernel_rfl)) (fun _ _ _ h => h) (Or.inl ⟨by rfl, ?_⟩) ?_ ?_
  rotate_left
  · intro w'
    go_simp
    with_reducible rfl
  rotate_left
  · simp only [Act.put, List.setIfInBounds_toArray, List.set_cons_zero, List.set_cons_succ, i64_w, i32_w]
    rfl
  refine done_ (done_of HT_.out (by kernel_rfl)) ?_
  go_wp2
  all_goals go_ret
  all_goals
    have hcf : cfR (a0, a1) (b0, b1) = if cmpI a0 b0 = 0 then cmpI a1 b1 else cmpI a0 b0 := rfl
    refine ⟨?_, 1, _, by rw [alloc_eq_grow, alloc_eq_grow, alloc_eq_grow, grow_grow, grow_grow]; rfl⟩
    rw [hcf]
    first
      | (rw [if_pos ‹cmpI a0 b0 = 0›]; rfl)
      | (rw [if_neg ‹¬ cmpI a0 b0 = 0›]; rfl)
def encR (x : Int × Int) : List Value := [.int .i64 x.1, .int .i64 x.2]
theorem encR_len (x : Int × Int) : (encR x).length = 2 := rfl
theorem encR_one (x : Int × Int) : ∀ v ∈ encR x, v.oneCell' = true := by
  intro v hv
  simp only [encR, List.mem_cons, List.not_mem_nil, or_false] at hv
  rcases hv with rfl | rfl <;> rfl
theorem ltR_iff (x y : Int × Int) : ltOf cfR x y = true ↔ (x.1 < y.1 ∨ (x.1 = y.1 ∧ x.2 < y.2)) := by
  unfold ltOf cfR cmpI
  rw [decide_eq_true_iff]
  by_cases h1 : x.1 < y.1
  · simp [h1]
  · by_cases h2 : y.1 < x.1
    · simp [h1, h2]; omega
    · by_cases h3 : x.2 < y.2
      · simp [h1, h2, h3]; omega
      · by_cases h4 : y.2 < x.2
        · simp [h1, h2, h3, h4]
        · simp [h1, h2, h3, h4]
theorem ltR_false (x y : Int × Int) : ltOf cfR x y = false ↔ ¬ (x.1 < y.1 ∨ (x.1 = y.1 ∧ x.2 < y.2)) := by
  rw [← ltR_iff, Bool.not_eq_true]
theorem swoR : SWO (ltOf cfR) where
  irrefl x := by rw [ltR_false]; omega
  trans x y z h1 h2 := by rw [ltR_iff] at *; omega
  ntrans x y z h1 h2 := by rw [ltR_false] at *; omega
theorem totR (x y : Int × Int) (h1 : ltOf cfR x y = false) (h2 : ltOf cfR y x = false) : x = y := by
  rw [ltR_false] at h1 h2
  exact Prod.ext (by omega) (by omega)
def toP (r : S72) : Int × Int := (r.f0, r.f1)
def ofP (r : Int × Int) : S72 := ⟨r.1, r.2⟩
def sortP (l : List S72) : List S72 := ((l.map toP).mergeSort fun x y => !ltOf cfR y x).map ofP
theorem sortP_length (l : List S72) : (sortP l).length = l.length := by rw [sortP, List.length_map, List.length_mergeSort, List.length_map]
theorem sortP_perm (l : List S72) : (sortP l).Perm l := by
  refine ((List.mergeSort_perm (l.map toP) _).map ofP).trans ?_
  rw [List.map_map, List.map_congr_left (f := ofP ∘ toP) (g := id) (fun r hr => rfl), List.map_id]
theorem sort_refs (W : World) (base : Nat) (v : Value) (xs : List S72) (HO : Kd.R k72 72 W base (fun _ => True) v xs) (hl : xs.length < 4611686018427387904) :
    Calls Try.prog 97 #[v, .func (.func 98) #[] #[]] W fun e w' => e = .returned (.tuple #[]) ∧ Kd.R k72 72 w' base (fun _ => True) v (sortP xs) ∧ ∀ w : World, Below w.heap.size w W → w.heap.size ≤ base → Below w.heap.size w w' := by
  rcases Nat.eq_zero_or_pos xs.length with h0 | hp
  · obtain rfl : xs = [] := List.eq_nil_of_length_eq_zero h0
    obtain ⟨A, c, rfl⟩ := Kd.R_slice HO
    have hcon := AnyF.slices_SortFunc_none Try.sortRef A c (.func (.func 98) #[] #[]) W
    change Calls Try.prog 97 _ _ _ at hcon
    refine hcon.mono ?_
    rintro e w' ⟨rfl, rfl⟩
    have e0 : sortP ([] : List S72) = [] := (sortP_perm []).eq_nil
    exact ⟨rfl, by rw [e0]; exact HO, fun w hb _ => hb⟩
  · obtain ⟨g, cap, rfl, hbg, hgl, _⟩ := Kd.R_form HO hp
    have eg : ∀ args w, (callFunc 98 args).run Try.prog w = .ok (.enter 98 args) w := enters_of Try.func98 (by kernel_rfl) rfl
    have hsize : (xs.map toP).toArray.size = xs.length := by simp
    have hcmp : CmpLays Try.prog 98 #[] encR 2 cfR g 0 (xs.map toP).toArray.size W := by
      intro m os dk _ x y
      have h := closure98 x y (sortWorldK encR 2 W g 0 m dk os)
      exact h
    have hH : HoldsK encR 2 W g 0 (xs.map toP).toArray := by
      refine holdsK_of encR 2 encR_len W g _ ?_
      intro i hi j u hu
      rw [hsize] at hi
      obtain ⟨ce, hcl, hM, hcc, hfr⟩ := Kd.R_elem HO z72 (i : Int) (by omega) (by omega)
      obtain rfl := k72_openM hM
      rw [Int.toNat_natCast] at hcc hfr
      refine ⟨hcc j u ?_, hfr j⟩
      rw [← hu]
      have : (xs.map toP).toArray[i]'(by simpa using hi) = toP xs[i] := by simp
      rw [this]
      have h3 : xs.getD i z72 = xs[i] := by simp [List.getD_eq_getElem?_getD, hi]
      rw [h3]
      rfl
    have hcon := AnyQ.slices_SortFunc_total Try.sortRef 2 Try.isAgg72 Try.sizeOf72 encR encR_len encR_one cfR swoR 98 #[] g 0 cap (xs.map toP).toArray W eg hcmp hH hgl (by rw [hsize]; exact hl) totR
    rw [hsize] at hcon
    change Calls Try.prog 97 _ _ _ at hcon
    refine hcon.mono ?_
    rintro e w' ⟨rfl, n, os, rfl⟩
    have hsl := sortP_length xs
    have hms : ((xs.map toP).mergeSort fun x y => !ltOf cfR y x).map ofP = sortP xs := rfl
    generalize hM : ((xs.map toP).mergeSort fun x y => !ltOf cfR y x) = M at hms
    have hMl : M.length = xs.length := by rw [← hM, List.length_mergeSort, List.length_map]
    refine ⟨rfl, ⟨fun _ _ => trivial, ?_⟩, fun w hb hw => below_sorted encR 2 hb (Nat.le_trans hw hbg) n _ os⟩
    obtain ⟨_, inner, hown, _⟩ := HO
    refine ⟨(flatK encR 2 M.toArray).toList, ?_, ?_⟩
    · rw [hsl]
      exact own_sorted encR 2 encR_len hown M.toArray (by simpa using hMl) n os
    · refine ⟨by rw [Array.length_toList, size_flatK, hsl]; simp [hMl]; rfl, fun j p hj => ?_⟩
      have hjl := (List.getElem?_eq_some_iff.1 hj).1
      rw [hsl] at hjl
      have hjM : j < M.toArray.size := by simpa [hMl] using hjl
      have hseg := flatK_seg encR 2 encR_len M.toArray j hjM
      have hp : p = ofP (M.toArray[j]) := by
        rw [← hms] at hj
        rw [List.getElem?_map] at hj
        simp [show j < M.length by omega] at hj
        simpa using hj.symm
      have : ((flatK encR 2 M.toArray).toList.drop (j * k72.sz)).take k72.sz = encR M.toArray[j] := hseg
      rw [this, hp]
      exact k72_mkM _ _ _ (ofP M.toArray[j])
def refs0 : List S66 → List S72
  | [] => []
  | x :: xs => if emptyP x = true then refs0 xs else ⟨x.f0, x.f1⟩ :: refs0 xs
theorem refs0_len : ∀ ls : List S66, (refs0 ls).length ≤ ls.length
  | [] => Nat.le_refl _
  | x :: xs => by
    have := refs0_len xs
    rw [refs0]
    by_cases h : emptyP x = true
    · rw [if_pos h, List.length_cons]; omega
    · rw [if_neg h, List.length_cons, List.length_cons]; omega
def contents_Refs.f (a0_0 : ByteArray) (a0_1 : Int) (l0_2 : List S66) : Option (List S72) := some (sortP (refs0 l0_2))
set_option maxHeartbeats 4000000 in
set_option maxRecDepth 100000 in
theorem contents_Refs.calls (a0_0 : ByteArray) (a0_1 : Int) (A0_2 : Option Addr) (c0_2 : Nat) (l0_2 : List S66) (r : List S72) (w : World) (hr0_2 : Kd.C k66 w A0_2 l0_2.length l0_2) (hc0_2 : l0_2.length ≤ c0_2) (hlen : l0_2.length ≤ 1000) (h : contents_Refs.f a0_0 a0_1 l0_2 = some r) :
    Calls Try.prog 56 #[.agg #[.string a0_0, .int .i64 a0_1, .slice A0_2 l0_2.length c0_2]] w fun e w' => ∃ v0_ : Value, e = .returned v0_ ∧ Kd.R k72 72 w' w.heap.size (fun _ => True) v0_ r ∧ Below w.heap.size w w' := by
  have hres := Option.some.inj h
  clear h
  have hu41 := Try.underlying41
  have hu66 := Try.underlying66
  have hu72 := Try.underlying72
  have HR := Aside0.mk hr0_2
  have HC := Aside0.mk hc0_2
  have HLEN := Aside0.mk hlen
  clear hr0_2 hc0_2 hlen
  have HB := Aside0.mk (Below.refl w.heap.size w)
  have HRES := Aside0.mk (show sortP ([] ++ refs0 l0_2) = r from hres)
  clear hres
  go_enter Try.func56, Try.ntmps56
  go_wp2_with ((with_reducible refine gate_dst (N := 1) rfl ?_); refine box_event ?hg (N := 1) ?hd (cs := #[.string a0_0, .int .i64 a0_1, .slice A0_2 l0_2.length c0_2]) (t := 41) ?hr ?_; (case hd => rfl); (case hg => rfl); (case hr => first | (go_simp; done) | (go_simp; rfl)); intro g1 hg_ wx1 hbox_ hb_; have G1 := Aside0.mk (by rw [hg_]; exact below_size HB.out : w.heap.size ≤ g1); have n0_ := Aside0.mk (below_step HB.out hb_); clear HB; have HB := n0_; clear n0_; have B1 := Aside0.mk hbox_; clear hb_ hbox_ hg_; have z1_2 := fcells g1 wx1 _ _ B1.out 2 _ rfl)
  go_loopg [3, 9] l0_2.length (fun kq u3 u9 w' => ∃ (i : Nat) (acc : List S72), u9 = .int .i64 i ∧ Aside0 (kq + i = l0_2.length) ∧ Aside0 (sortP (acc ++ refs0 (l0_2.drop i)) = r) ∧ Aside0 (acc.length ≤ i) ∧ Aside0 (Kd.R k72 72 w' w.heap.size (fun _ => True) u3 acc) ∧ Aside0 (Below w.heap.size w w'))
  case atStart => exact ⟨0, [], rfl, ⟨rfl⟩, HRES, ⟨Nat.zero_le _⟩, ⟨Kd.R_nil _ _ _ _ _⟩, HB⟩
  case round =>
    clear HRES B1 HB z1_2
    obtain ⟨i, acc, rfl, HK, HI, HAL, HA, HB⟩ := hrel
    by_cases hi : i < l0_2.length
    · have hib : decide ((i : Int) < (l0_2.length : Int)) = true := decide_eq_true (by omega)
      have hi0 : decide (0 ≤ (i : Int)) = true := decide_eq_true (by omega)
      have hp1 : (0 ≤ (i : Int)) = True := eq_true (by omega)
      have hp2 : ((i : Int) < (l0_2.length : Int)) = True := eq_true (by omega)
      have HI1000 := Aside0.mk (show i < 1000 by have := HLEN.out; omega)
      obtain ⟨ad, A4, c4, e1, q0, q1, q2, q3, q4, l4, g4⟩ := at_T66 HR.out (i : Int) (by omega) (by omega)
      subst e1
      have hrd : rd_T66 l0_2 (i : Int) = l0_2[i] := by simp [rd_T66, List.getD_eq_getElem?_getD, hi]
      rw [hrd] at q0 q1 q2 q3 q4 l4 g4
      rw [Int.toNat_natCast] at q0 q1 q2 q3 q4
      replace q0 := (HB.out.cell (World.block_lt_of_cell? w _ q0)).trans q0
      replace q1 := (HB.out.cell (World.block_lt_of_cell? w _ q1)).trans q1
      replace q2 := (HB.out.cell (World.block_lt_of_cell? w _ q2)).trans q2
      replace q3 := (HB.out.cell (World.block_lt_of_cell? w _ q3)).trans q3
      replace q4 := (HB.out.cell (World.block_lt_of_cell? w _ q4)).trans q4
      have HI2 := HI.out
      rw [List.drop_eq_getElem_cons hi, refs0] at HI2
      generalize l0_2[i] = x at q0 q1 q2 q3 q4 l4 g4 HI2
      have HL4 := Aside0.mk l4
      have HX := Aside0.mk g4
      have hE := empty_some x 3 (by omega)
      clear hrd l4 g4 HI
      obtain ⟨m, rfl⟩ : ∃ m, gk = m + 1 := ⟨gk - 1, by have := HK.out; omega⟩
      have hw1 : wrap64 ((i : Int) + 1) = (i : Int) + 1 := by
        have := HI1000.out
        unfold wrap64; omega
      have HW1 := Aside0.mk hw1
      clear hw1 hi
      generalize emptyP x = eb at hE HI2
      have HE := Aside0.mk hE
      clear hE
      cases eb with
      | true =>
        rw [if_pos rfl] at HI2
        have HI3 := Aside0.mk HI2
        clear HI2
        go_wp2_with (first
          | ((with_reducible refine gate_dst (N := 5) rfl ?_); refine box_event ?hg (N := 5) ?hd (cs := #[.int .i64 0, .int .i64 0, .string (⟨#[]⟩ : ByteArray), .string (⟨#[]⟩ : ByteArray), .slice none 0 0]) (t := 66) ?hr ?_; (case hd => rfl); (case hg => rfl); (case hr => first | (go_simp; done) | (go_simp; rfl)); intro g5 hg_ wx1 hbox_ hb_; have G5 := Aside0.mk (by rw [hg_]; exact below_size HB.out : w.heap.size ≤ g5); have n0_ := Aside0.mk (below_step HB.out hb_); have ncHA_ := Aside0.mk (Kd.R_below HA.out hb_); clear HB HA; have HB := n0_; have HA := ncHA_; clear n0_ ncHA_; have B5 := Aside0.mk hbox_; clear hb_ hbox_ hg_)
          | ((with_reducible refine gate_store (t := 66) (p := 5) rfl ?_); refine row_store (g := g5) (cells := #[.int .i64 x.f0, .int .i64 x.f1, .string x.f2, .string x.f3, .slice A4 x.f4.length c4]) (t := 66) HB.out G5.out B5.out rfl 66 _ _ rfl size66 rfl rfl rfl rfl ?_; intro wx2 hrow_ hoth_ hsz_ hb_; have ncHA_ := Aside0.mk (R_beside HA.out B5.out (by decide) hoth_); clear HB B5 HA; have HA := ncHA_; have HB := Aside0.mk hb_; have B5 := Aside0.mk hrow_; clear hrow_ hoth_ hsz_ hb_ ncHA_; have z5_0 := fcells g5 wx2 _ _ B5.out 0 _ rfl; have z5_1 := fcells g5 wx2 _ _ B5.out 1 _ rfl; have z5_2 := fcells g5 wx2 _ _ B5.out 2 _ rfl; have z5_3 := fcells g5 wx2 _ _ B5.out 3 _ rfl; have z5_4 := fcells g5 wx2 _ _ B5.out 4 _ rfl; clear q0 q1 q2 q3 q4)
          | (go_at_call 77; (with_reducible refine (contents_empty.calls 3 x.f0 x.f1 x.f2 x.f3 A4 c4 x.f4 true _ (Kd.C_below HX.out HB.out) HL4.out HE.out).mono ?_); rintro e wx3 ⟨rfl, hb_⟩; have n0_ := Aside0.mk (below_step HB.out hb_); have nb5_ := Aside0.mk (blk_below B5.out hb_); have ncHA_ := Aside0.mk (Kd.R_below HA.out hb_); clear HB B5 HA z5_0 z5_1 z5_2 z5_3 z5_4; have HB := n0_; have B5 := nb5_; have HA := ncHA_; clear n0_ nb5_ ncHA_; clear hb_))
        have hw1 := HW1.out
        go_wp2
        go_roundg m
        case measure => omega
        case rel => exact ⟨i + 1, acc, by rw [hw1]; rfl, ⟨by have := HK.out; omega⟩, HI3, ⟨by have := HAL.out; omega⟩, HA, HB⟩
      | false =>
        rw [if_neg (by decide)] at HI2
        have HI3 := Aside0.mk (show sortP ((acc ++ [⟨x.f0, x.f1⟩]) ++ refs0 (l0_2.drop (i + 1))) = r by rw [List.append_assoc]; exact HI2)
        clear HI2
        go_wp2_with (first
          | ((with_reducible refine gate_dst (N := 5) rfl ?_); refine box_event ?hg (N := 5) ?hd (cs := #[.int .i64 0, .int .i64 0, .string (⟨#[]⟩ : ByteArray), .string (⟨#[]⟩ : ByteArray), .slice none 0 0]) (t := 66) ?hr ?_; (case hd => rfl); (case hg => rfl); (case hr => first | (go_simp; done) | (go_simp; rfl)); intro g5 hg_ wx1 hbox_ hb_; have G5 := Aside0.mk (by rw [hg_]; exact below_size HB.out : w.heap.size ≤ g5); have n0_ := Aside0.mk (below_step HB.out hb_); have ncHA_ := Aside0.mk (Kd.R_below HA.out hb_); clear HB HA; have HB := n0_; have HA := ncHA_; clear n0_ ncHA_; have B5 := Aside0.mk hbox_; clear hb_ hbox_ hg_)
          | ((with_reducible refine gate_store (t := 66) (p := 5) rfl ?_); refine row_store (g := g5) (cells := #[.int .i64 x.f0, .int .i64 x.f1, .string x.f2, .string x.f3, .slice A4 x.f4.length c4]) (t := 66) HB.out G5.out B5.out rfl 66 _ _ rfl size66 rfl rfl rfl rfl ?_; intro wx2 hrow_ hoth_ hsz_ hb_; have ncHA_ := Aside0.mk (R_beside HA.out B5.out (by decide) hoth_); clear HB B5 HA; have HA := ncHA_; have HB := Aside0.mk hb_; have B5 := Aside0.mk hrow_; clear hrow_ hoth_ hsz_ hb_ ncHA_; have z5_0 := fcells g5 wx2 _ _ B5.out 0 _ rfl; have z5_1 := fcells g5 wx2 _ _ B5.out 1 _ rfl; have z5_2 := fcells g5 wx2 _ _ B5.out 2 _ rfl; have z5_3 := fcells g5 wx2 _ _ B5.out 3 _ rfl; have z5_4 := fcells g5 wx2 _ _ B5.out 4 _ rfl; clear q0 q1 q2 q3 q4)
          | (go_at_call 77; (with_reducible refine (contents_empty.calls 3 x.f0 x.f1 x.f2 x.f3 A4 c4 x.f4 false _ (Kd.C_below HX.out HB.out) HL4.out HE.out).mono ?_); rintro e wx3 ⟨rfl, hb_⟩; have n0_ := Aside0.mk (below_step HB.out hb_); have nb5_ := Aside0.mk (blk_below B5.out hb_); have ncHA_ := Aside0.mk (Kd.R_below HA.out hb_); clear HB B5 HA z5_0 z5_1 z5_2 z5_3 z5_4; have HB := n0_; have B5 := nb5_; have HA := ncHA_; clear n0_ nb5_ ncHA_; clear hb_; have z5_0 := fcells g5 wx3 _ _ B5.out 0 _ rfl; have z5_1 := fcells g5 wx3 _ _ B5.out 1 _ rfl)
          | ((with_reducible refine gate_builtin (b := .append) (xs := #[.tmp 16, .tmp 22]) rfl ?_); at_builtin; refine Kd.R_append k72 (w0 := w) w.heap.size rfl (.tmp 16) (.tmp 22) 76 72 (.agg #[(.int .i64 0), (.int .i64 0)]) 16 rfl Try.underlying76 info72 rfl (by decide) (by omega) u3 acc (⟨x.f0, x.f1⟩ : S72) [.int .i64 x.f0, .int .i64 x.f1] (fun _ => True) (fun _ => False) rfl rfl (k72_mkM _ _ _ (⟨x.f0, x.f1⟩ : S72)) (fun _ hk => hk.elim) (fun _ _ => trivial) ?aO ?aB ?aS ?aL ?_; (case aO => exact HA.out); (case aB => exact HB.out); (case aS => exact HB.out.size); (case aL => have := HAL.out; have := HI1000.out; omega); intro v1 w7 ho hb hg hat; have n0 := Aside0.mk hb; have n1 := Aside0.mk ho; clear HB HA B5 z5_0 z5_1; have HB := n0; have HA := n1; clear n0 n1 ho hb hg hat))
        have hw1 := HW1.out
        go_wp2
        go_roundg m
        case measure => omega
        case rel => exact ⟨i + 1, acc ++ [⟨x.f0, x.f1⟩], by rw [hw1]; rfl, ⟨by have := HK.out; omega⟩, HI3, ⟨by have := HAL.out; rw [List.length_append]; simp; omega⟩, HA, HB⟩
    · have hib : decide ((i : Int) < (l0_2.length : Int)) = false := decide_eq_false (by omega)
      have HI2 := HI.out
      rw [List.drop_eq_nil_of_le (by omega), refs0, List.append_nil] at HI2
      have HRES := Aside0.mk HI2
      clear HI2 HI
      have HAL2 := Aside0.mk (show acc.length < 4611686018427387904 by have := HAL.out; have := HLEN.out; have := HK.out; omega)
      go_wp2_with (go_at_call 97; (with_reducible refine (sort_refs _ w.heap.size u3 acc HA.out HAL2.out).mono ?_); rintro e w9 ⟨rfl, hs_, hb_⟩; have n0 := Aside0.mk (hb_ w HB.out (Nat.le_refl _)); have n1 := Aside0.mk hs_; clear HB HA hb_ hs_; have HB := n0; have HA := n1; clear n0 n1; rw [HRES.out] at HA)
      go_ret
      exact ⟨_, rfl, HA.out, HB.out⟩
end Go.Proofs.Ytghpmenoiimpoaa.P
