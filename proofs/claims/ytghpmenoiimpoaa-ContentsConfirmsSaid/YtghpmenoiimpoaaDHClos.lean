import Derived.Deep.MidRow
import Derived.Test.YtghpmenoiimpoaaDHChg
namespace Go.Proofs.Ytghpmenoiimpoaa.P
open Go.RowKit Go.Proofs.YtghpmenoiimpoaaW.PrintWords Go.Proofs.YtghpmenoiimpoaaW.PrintLast Go.Proofs.YtghpmenoiimpoaaW.PrintMore
set_option linter.unusedVariables false
set_option linter.unusedSimpArgs false
theorem grown_set (W : World) (g o : Nat) (v : Value) : W.grownBy (W.setCell ⟨g, o, none⟩ v) (some g) := ⟨rfl, rfl, rfl, by simp [World.setCell], fun i _ hne => Below.heap_setCell W ⟨g, o, none⟩ v i (fun e => hne (by rw [e]))⟩
theorem grown_trans {W W1 W2 : World} {g : Nat} (h : W.grownBy W1 (some g)) (k : W1.grownBy W2 (some g)) : W.grownBy W2 (some g) := ⟨k.os.trans h.os, k.tape.trans h.tape, k.output.trans h.output, Nat.le_trans h.size k.size, fun i hi hne => (k.block i (Nat.lt_of_lt_of_le hi h.size) hne).trans (h.block i hi hne)⟩
theorem Labs.put {W W' : World} {ok : Nat → Prop} {cs cs' : Array Value} {ls : List S66} {i : Nat} (h : Labs W ok cs ls) (hi : i < ls.length) (hstep : ∀ k, ok k → k < W.heap.size → W'.heap[k]? = W.heap[k]?) (hs : ∀ o, (o < i * 5 ∨ i * 5 + 5 ≤ o) → cs'[o]? = cs[o]?) (x : S66) (hx : Lab W' ok x cs' (i * 5)) : Labs W' ok cs' (ls.set i x) := fun j hj => by
  rw [List.length_set] at hj
  by_cases e : i = j
  · subst e
    rw [List.getElem_set_self]
    exact hx
  · rw [List.getElem_set_ne e]
    obtain ⟨A, c, h0, h1, h2, h3, h4, h5, h6⟩ := h j hj
    refine ⟨A, c, ?_, ?_, ?_, ?_, ?_, h5, Kd.F_step h6 hstep⟩
    · rw [hs _ (by omega)]; exact h0
    · rw [hs _ (by omega)]; exact h1
    · rw [hs _ (by omega)]; exact h2
    · rw [hs _ (by omega)]; exact h3
    · rw [hs _ (by omega)]; exact h4
theorem set_at {cs : Array Value} {o : Nat} {u : Value} (h : cs[o]? = some u) (v : Value) : (cs.setIfInBounds o v)[o]? = some v := by
  rw [Array.getElem?_setIfInBounds, if_pos rfl, if_pos (Array.getElem?_eq_some_iff.1 h).1]
theorem set_off {cs : Array Value} {o j : Nat} (h : o ≠ j) (v : Value) : (cs.setIfInBounds o v)[j]? = cs[j]? := by
  rw [Array.getElem?_setIfInBounds, if_neg h]
/-- A new Unit, Note or list of runs in a label. -/
theorem Labs.put1 {W : World} {ok : Nat → Prop} {g : Nat} {cs : Array Value} {ls : List S66} {i : Nat} (h : Labs W ok cs ls) (hi : i < ls.length) (hok : ∀ k, ok k → k ≠ g) (y : Int) : Labs (W.setCell ⟨g, i * 5 + 1, none⟩ (.int .i64 y)) ok (cs.setIfInBounds (i * 5 + 1) (.int .i64 y)) (ls.set i ⟨ls[i].f0, y, ls[i].f2, ls[i].f3, ls[i].f4⟩) := by
  have hst : ∀ k, ok k → k < W.heap.size → (W.setCell ⟨g, i * 5 + 1, none⟩ (.int .i64 y)).heap[k]? = W.heap[k]? := fun k hk _ => Below.heap_setCell W ⟨g, i * 5 + 1, none⟩ _ k (hok k hk)
  obtain ⟨A, c, h0, h1, h2, h3, h4, h5, h6⟩ := h i hi
  exact h.put hi hst (fun o ho => set_off (by omega) _) _ ⟨A, c, (set_off (by omega) _).trans h0, set_at h1 _, (set_off (by omega) _).trans h2, (set_off (by omega) _).trans h3, (set_off (by omega) _).trans h4, h5, Kd.F_step h6 hst⟩
theorem Labs.put3 {W : World} {ok : Nat → Prop} {g : Nat} {cs : Array Value} {ls : List S66} {i : Nat} (h : Labs W ok cs ls) (hi : i < ls.length) (hok : ∀ k, ok k → k ≠ g) (y : ByteArray) : Labs (W.setCell ⟨g, i * 5 + 3, none⟩ (.string y)) ok (cs.setIfInBounds (i * 5 + 3) (.string y)) (ls.set i ⟨ls[i].f0, ls[i].f1, ls[i].f2, y, ls[i].f4⟩) := by
  have hst : ∀ k, ok k → k < W.heap.size → (W.setCell ⟨g, i * 5 + 3, none⟩ (.string y)).heap[k]? = W.heap[k]? := fun k hk _ => Below.heap_setCell W ⟨g, i * 5 + 3, none⟩ _ k (hok k hk)
  obtain ⟨A, c, h0, h1, h2, h3, h4, h5, h6⟩ := h i hi
  exact h.put hi hst (fun o ho => set_off (by omega) _) _ ⟨A, c, (set_off (by omega) _).trans h0, (set_off (by omega) _).trans h1, (set_off (by omega) _).trans h2, set_at h3 _, (set_off (by omega) _).trans h4, h5, Kd.F_step h6 hst⟩
/-- A whole label, stored into its place. -/
theorem lab_store {ops : Array Oper} {rest : List Oper} {o : Oper} {a : Act} {Q : Exit → Act → World → Prop} {W : World} {ok : Nat → Prop} {g i : Nat} {cs : Array Value} {ls : List S66} (hb : W.heap[g]? = some (.cells cs 66 (0, 0))) (hL : Labs W ok cs ls) (hi : i < ls.length) (hok : ∀ k, ok k → k ≠ g)
    (hgd : o.guard = none) (x y : Operand) (ho : o.op = .store 66 x y) (x' : S66) (A : Option Addr) (c : Nat) (hle : x'.f4.length ≤ c) (hF : Kd.F k25 W ok A x'.f4.length x'.f4) (hx : a.eval x = .pointer (some ⟨g, i * 5, none⟩)) (hy : a.eval y = .agg #[.int .i64 x'.f0, .int .i64 x'.f1, .string x'.f2, .string x'.f3, .slice A x'.f4.length c])
    (h : ∀ W' cs', W'.heap[g]? = some (.cells cs' 66 (0, 0)) → Labs W' ok cs' (ls.set i x') → W.grownBy W' (some g) → wpList Try.prog ops Q rest (a.put o.dst undef) W') : wpList Try.prog ops Q (o :: rest) a W := by
  obtain ⟨A0, c0, h0, h1, h2, h3, h4, h5, h6⟩ := hL i hi
  have hsz := (Array.getElem?_eq_some_iff.1 h4).1
  refine wpList_store_mid hgd 66 x y ho g (i * 5) #[.int .i64 x'.f0, .int .i64 x'.f1, .string x'.f2, .string x'.f3, .slice A x'.f4.length c] hx hy (fun j hj => ⟨?_, blk_frozen hb _⟩) size66 (by simp [Value.oneCell']) ?_
  · have hj5 : j < 5 := hj
    rw [blk_cell hb]
    rw [Array.getElem?_eq_getElem (by omega)]
    rfl
  · obtain ⟨cs', hc1, hc2, hc3⟩ := setCells_row [.int .i64 x'.f0, .int .i64 x'.f1, .string x'.f2, .string x'.f3, .slice A x'.f4.length c] (i * 5) W cs hb (by simp; omega)
    have hst : ∀ k, ok k → k < W.heap.size → (W.setCells g (i * 5) [.int .i64 x'.f0, .int .i64 x'.f1, .string x'.f2, .string x'.f3, .slice A x'.f4.length c]).heap[k]? = W.heap[k]? := fun k hk _ => setCells_far _ _ k (hok k hk)
    obtain ⟨e1, e2, e3, e4⟩ := setCells_same g [.int .i64 x'.f0, .int .i64 x'.f1, .string x'.f2, .string x'.f3, .slice A x'.f4.length c] (i * 5) W
    have hget : ∀ j, cs'[j]? = (cs.toList.take (i * 5) ++ [.int .i64 x'.f0, .int .i64 x'.f1, .string x'.f2, .string x'.f3, .slice A x'.f4.length c] ++ cs.toList.drop (i * 5 + 5))[j]? := fun j => by rw [← Array.getElem?_toList, hc3]; rfl
    have hlt : (cs.toList.take (i * 5)).length = i * 5 := by rw [List.length_take, Array.length_toList]; omega
    refine h _ cs' hc1 (hL.put hi hst (fun o ho => ?_) x' ⟨A, c, ?_, ?_, ?_, ?_, ?_, hle, Kd.F_step hF hst⟩) ⟨e1, e2, e3, by rw [e4]; exact Nat.le_refl _, fun k _ hne => setCells_far _ _ k (fun e => hne (by rw [e]))⟩
    · rw [hget]
      rcases ho with ho | ho
      · rw [List.append_assoc, List.getElem?_append_left (by omega), List.getElem?_take, if_pos ho, Array.getElem?_toList]
      · rw [List.getElem?_append_right (by simp; omega), List.getElem?_drop]
        have : i * 5 + 5 + (o - (List.take (i * 5) cs.toList ++ [Value.int IntKind.i64 x'.f0, Value.int IntKind.i64 x'.f1, Value.string x'.f2, Value.string x'.f3, Value.slice A x'.f4.length c]).length) = o := by
          rw [List.length_append, hlt]; simp; omega
        rw [this, Array.getElem?_toList]
    all_goals
      rw [hget, List.append_assoc, List.getElem?_append_right (by omega), hlt]
      first
        | (rw [show i * 5 - i * 5 = 0 by omega]; rfl)
        | (rw [show i * 5 + 1 - i * 5 = 1 by omega]; rfl)
        | (rw [show i * 5 + 2 - i * 5 = 2 by omega]; rfl)
        | (rw [show i * 5 + 3 - i * 5 = 3 by omega]; rfl)
        | (rw [show i * 5 + 4 - i * 5 = 4 by omega]; rfl)
theorem getD66 {ls : List S66} {i : Nat} (hi : i < ls.length) : ls.getD i z66 = ls[i] := by simp [List.getD_eq_getElem?_getD, hi]
theorem grown_refl (W : World) (g : Nat) : W.grownBy W (some g) := ⟨rfl, rfl, rfl, Nat.le_refl _, fun _ _ _ => rfl⟩
/-- The cells of a label in its block. -/
theorem lab_cells {W : World} {ok : Nat → Prop} {g : Nat} {cs : Array Value} {ls : List S66} {i : Nat} (hb : W.heap[g]? = some (.cells cs 66 (0, 0))) (hL : Labs W ok cs ls) (hi : i < ls.length) : ∃ A c, W.cell? ⟨g, i * 5, none⟩ = some (.int .i64 (ls.getD i z66).f0) ∧ W.cell? ⟨g, i * 5 + 1, none⟩ = some (.int .i64 (ls.getD i z66).f1) ∧ W.cell? ⟨g, i * 5 + 2, none⟩ = some (.string (ls.getD i z66).f2) ∧ W.cell? ⟨g, i * 5 + 3, none⟩ = some (.string (ls.getD i z66).f3) ∧
    W.cell? ⟨g, i * 5 + 4, none⟩ = some (.slice A (ls.getD i z66).f4.length c) ∧ (ls.getD i z66).f4.length ≤ c ∧ Kd.F k25 W ok A (ls.getD i z66).f4.length (ls.getD i z66).f4 := by
  rw [getD66 hi]
  obtain ⟨A, c, h0, h1, h2, h3, h4, h5, h6⟩ := hL i hi
  exact ⟨A, c, (blk_cell hb _).trans h0, (blk_cell hb _).trans h1, (blk_cell hb _).trans h2, (blk_cell hb _).trans h3, (blk_cell hb _).trans h4, h5, h6⟩
end Go.Proofs.Ytghpmenoiimpoaa.P
