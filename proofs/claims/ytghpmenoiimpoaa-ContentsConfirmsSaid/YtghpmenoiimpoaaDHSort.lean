import Derived.Shelf.SlSortCmp.InsertionK
import Derived.Test.YtghpmenoiimpoaaDW0
namespace Go.Proofs.Ytghpmenoiimpoaa.P
open Go.RowKit Go.Sort Go.Proofs.YtghpmenoiimpoaaW.PrintWords Go.Proofs.YtghpmenoiimpoaaW.PrintLast Go.Proofs.YtghpmenoiimpoaaW.PrintMore
set_option linter.unusedVariables false
theorem flatK_seg {α : Type} [Inhabited α] (enc : α → List Value) (k : Nat) (hk : ∀ x, (enc x).length = k) (D : Array α) (j : Nat) (hj : j < D.size) : ((flatK enc k D).toList.drop (j * k)).take k = enc D[j] := by
  have hfit : j * k + k ≤ D.size * k := by rw [← Nat.succ_mul]; exact Nat.mul_le_mul_right _ hj
  apply List.ext_getElem
  · rw [List.length_take, List.length_drop, Array.length_toList, size_flatK, hk]; omega
  · intro c h1 h2
    rw [hk] at h2
    have hlt : j * k + c < D.size * k := by omega
    rw [List.getElem_take, List.getElem_drop, Array.getElem_toList]
    have := get_flatK enc k D (j * k + c) hlt
    rw [getElem!_pos _ _ (by rw [size_flatK]; exact hlt)] at this
    rw [this]
    have e1 : (j * k + c) / k = j := by
      rw [Nat.mul_comm, Nat.mul_add_div (by omega), Nat.div_eq_of_lt h2, Nat.add_zero]
    have e2 : (j * k + c) % k = c := by
      rw [Nat.mul_comm, Nat.mul_add_mod, Nat.mod_eq_of_lt h2]
    rw [e1, e2, getElem!_pos D j hj, getElem!_pos _ c (by rw [hk]; exact h2)]
theorem holdsK_of {α : Type} [Inhabited α] (enc : α → List Value) (k : Nat) (hk : ∀ x, (enc x).length = k) (W : World) (g : Nat) (D : Array α)
    (h : ∀ i (hi : i < D.size) j u, (enc D[i])[j]? = some u → W.cell? ⟨g, i * k + j, none⟩ = some u ∧ W.frozen? ⟨g, i * k + j, none⟩ = false) : HoldsK enc k W g 0 D := by
  intro t ht
  rw [size_flatK] at ht
  have hk0 : 0 < k := by
    rcases Nat.eq_zero_or_pos k with e | e
    · subst e; simp at ht
    · exact e
  have hi : t / k < D.size := by rwa [Nat.div_lt_iff_lt_mul hk0]
  rw [get_flatK _ _ _ _ ht, getElem!_pos D _ hi, Nat.zero_add]
  have hm : t % k < k := Nat.mod_lt _ hk0
  have := h (t / k) hi (t % k) _ (List.getElem?_eq_getElem (by rw [hk]; exact hm))
  rw [Nat.div_add_mod'] at this
  rw [getElem!_pos _ _ (by rw [hk]; exact hm)]
  exact this
theorem heap_put (W : World) (blk : Nat) (f : Array Value → Array Value) (cur : Array Value) (e : TypeId) (h : W.heap[blk]? = some (.cells cur e (0, 0))) : (mapBlock W blk f).heap[blk]? = some (.cells (f cur) e (0, 0)) := by
  simp [mapBlock, Array.getElem?_modify, h, onCells]
theorem heap_put_far (W : World) (blk k : Nat) (f : Array Value → Array Value) (h : k ≠ blk) : (mapBlock W blk f).heap[k]? = W.heap[k]? := by
  simp [mapBlock, Array.getElem?_modify, Ne.symm h]
theorem heap_grow (W : World) (os : Array Obj) (k : Nat) (h : k < W.heap.size) : (grow W os).heap[k]? = W.heap[k]? := by
  simp [grow, Array.getElem?_append, h]
theorem size_put (W : World) (blk : Nat) (f : Array Value → Array Value) : (mapBlock W blk f).heap.size = W.heap.size := by simp [mapBlock]
/-- The row behind the sort. -/
theorem own_sorted {α : Type} [Inhabited α] (enc : α → List Value) (k : Nat) (hk : ∀ x, (enc x).length = k) {W : World} {base e n cap g : Nat} {inner : List Value} (h : W.ownsRow base e k (.slice (some ⟨g, 0, none⟩) n cap) n inner) (D : Array α) (hD : D.size = n) (m : Nat) (os : Array Obj) :
    (sortWorldK enc k W g 0 m D os).ownsRow base e k (.slice (some ⟨g, 0, none⟩) n cap) n (flatK enc k D).toList := by
  obtain ⟨hl, h2⟩ := h
  refine ⟨by rw [Array.length_toList, size_flatK, hD], ?_⟩
  rcases h2 with ⟨h2, _⟩ | ⟨g', cap', cur, he, hb, hh, hnc, hcm, hcs, htk⟩
  · cases h2
  · injection he with h3 h4 h5
    injection h3 with h3
    injection h3 with h3 _ _
    subst h3; subst h5
    have hlt : g < W.heap.size := (Array.getElem?_eq_some_iff.1 hh).1
    refine .inr ⟨g, cap, putCells id 0 (flatK enc k D) cur, rfl, hb, ?_, hnc, hcm, by simp [putCells, hcs], ?_⟩
    · unfold sortWorldK putRowK putRow
      rw [heap_grow _ _ _ (by rw [size_put]; exact hlt)]
      exact heap_put _ _ _ _ _ hh
    · have hnk : n * k ≤ cap * k := Nat.mul_le_mul_right _ hnc
      apply List.ext_getElem
      · rw [List.length_take, Array.length_toList, Array.length_toList, size_flatK, hD, show (putCells id 0 (flatK enc k D) cur).size = cap * k from by simp [putCells, hcs]]; exact Nat.min_eq_left hnk
      · intro t h6 h7
        rw [Array.length_toList, size_flatK, hD] at h7
        rw [List.getElem_take, Array.getElem_toList, Array.getElem_toList]
        simp only [putCells, Array.getElem_mapIdx, Nat.zero_add, Nat.sub_zero, Nat.zero_le, true_and, id]
        rw [if_pos (by rw [size_flatK, hD]; exact h7), getElem!_pos _ _ (by rw [size_flatK, hD]; exact h7)]
theorem below_sorted {α : Type} [Inhabited α] (enc : α → List Value) (k : Nat) {w W : World} {g : Nat} (h : Below w.heap.size w W) (hg : w.heap.size ≤ g) (m : Nat) (D : Array α) (os : Array Obj) : Below w.heap.size w (sortWorldK enc k W g 0 m D os) := by
  refine h.trans ⟨rfl, rfl, rfl, ?_, fun i hi => ?_⟩
  · unfold sortWorldK putRowK putRow
    simp only [grow, Array.size_append, size_put]
    exact Nat.le_add_right _ _
  · have hiW : i < W.heap.size := Nat.lt_of_lt_of_le hi h.size
    unfold sortWorldK putRowK putRow
    rw [heap_grow _ _ _ (by rw [size_put]; exact hiW), heap_put_far _ _ _ _ (by omega)]
    rfl
end Go.Proofs.Ytghpmenoiimpoaa.P
