import Derived.Test.YtghpmenoiimpoaaDHExtA
namespace Go.Proofs.Ytghpmenoiimpoaa.P
open Go.RowKit Go.Proofs.YtghpmenoiimpoaaW.PrintWords Go.Proofs.YtghpmenoiimpoaaW.PrintLast Go.Proofs.YtghpmenoiimpoaaW.PrintMore
set_option linter.unusedVariables false
theorem fcells (g : Nat) (W : World) (cs : Array Value) (t : Nat) (h : W.heap[g]? = some (.cells cs t (0, 0))) (i : Nat) (v : Value) (hv : cs[i]? = some v) : W.cell? ⟨g, i, none⟩ = some v := (blk_cell h i).trans hv
theorem row_store {w0 W : World} {g t : Nat} {old cells : Array Value} {ops : Array Oper} {rest : List Oper} {o : Oper} {a : Act} {Q : Exit → Act → World → Prop}
    (HB : Below w0.heap.size w0 W) (G : w0.heap.size ≤ g) (hg : W.heap[g]? = some (.cells old t (0, 0))) (hgd : o.guard = none) (ty : TypeId) (x y : Operand) (ho : o.op = .store ty x y)
    (hi : (Try.prog.info? ty).map (·.size) = some cells.size) (hx : a.eval x = .pointer (some ⟨g, 0, none⟩)) (hy : a.eval y = .agg cells) (hold : old.size = cells.size) (h1 : cells.toList.all (·.oneCell') = true)
    (h : ∀ W', W'.heap[g]? = some (.cells cells t (0, 0)) → (∀ k, k ≠ g → W'.heap[k]? = W.heap[k]?) → W'.heap.size = W.heap.size → Below w0.heap.size w0 W' → wpList Try.prog ops Q rest (a.put o.dst undef) W') : wpList Try.prog ops Q (o :: rest) a W :=
  wpList_store_row hgd ty x y ho g cells hx hy t old hg hi hold (by rw [← Array.all_toList]; exact h1) (h _ (setRow_heap _ _ _ cells _ _ hg) (fun k hk => setRow_other _ g k cells hk) (by simp [World.setRow]) (below_row HB G cells))
theorem size66 : (Try.prog.info? 66).map (·.size) = some 5 := by kernel_rfl
theorem size102 : (Try.prog.info? 102).map (·.size) = some 2 := by kernel_rfl
theorem size41 : (Try.prog.info? 41).map (·.size) = some 3 := by kernel_rfl
theorem size72 : (Try.prog.info? 72).map (·.size) = some 2 := by kernel_rfl
/-- A row of one's own beside a store into a block of another type. -/
theorem R_beside {α : Type} {d : Kd α} {e base : Nat} {ok : Nat → Prop} {W W' : World} {v : Value} {xs : List α} {g t : Nat} {cells : Array Value} (h : d.R e W base ok v xs) (hb : W.heap[g]? = some (.cells cells t (0, 0))) (ht : ∀ q, q ∈ e :: d.E → q ≠ t) (ho : ∀ k, k ≠ g → W'.heap[k]? = W.heap[k]?) : d.R e W' base ok v xs :=
  Kd.R_mono (Kd.R_step (Kd.R_types h hb ht) (fun k hk _ => ho k hk.2)) (fun _ hk => hk.1)
end Go.Proofs.Ytghpmenoiimpoaa.P
