import Derived.Test.YtghpmenoiimpoaaDHStore
import Derived.Maps.Views
import Derived.Maps.OwnOps
import Derived.DeepKeys4
namespace Go.Proofs.Ytghpmenoiimpoaa.P
open Go.RowKit Go.Maps Go.Proofs.YtghpmenoiimpoaaW.PrintWords Go.Proofs.YtghpmenoiimpoaaW.PrintLast Go.Proofs.YtghpmenoiimpoaaW.PrintMore
set_option linter.unusedVariables false
theorem laidOut : laidOutB Try.prog = true := by kernel_rfl
theorem row102 : (102 : TypeId) < Try.prog.types.size := of_decide_eq_true (by kernel_rfl)
theorem wide102 : (match Try.prog.underlying 102 with | some (.array _ _) | some (.struct _) => true | _ => false) = true := by kernel_rfl
set_option maxRecDepth 100000 in
theorem kta102 : Try.prog.keyTypeAt 2 102 = true := by kernel_rfl
set_option maxRecDepth 100000 in
theorem keyed102 : Keyed Try.prog 102 := Keyed.of_law (deep_law_laid laidOut (m := 2) (by omega) row102 kta102 wide102)
theorem cells102 : Try.prog.cellsOf 102 = 2 := by kernel_rfl
theorem keyType102 : Try.prog.keyType 102 = true := by kernel_rfl
set_option maxRecDepth 100000 in
theorem types_succ : ∃ m, Try.prog.types.size = m + 1 := ⟨Try.prog.types.size - 1, (Nat.succ_pred_eq_of_pos (Nat.lt_of_le_of_lt (Nat.zero_le _) row102)).symm⟩
theorem cells3 : Try.prog.cellsOf 3 = 1 := by kernel_rfl
theorem cells4 : Try.prog.cellsOf 4 = 1 := by kernel_rfl
def kindL (a : Int) (b : Bool) : Lit := .string (keyBytes [.int .i64 a, .bool b])
set_option maxRecDepth 100000 in
theorem keyOf_kind (a : Int) (b : Bool) (ha : (Lit.int .i64 a).wf = true) : keyOf Try.prog 102 (.agg #[.int .i64 a, .bool b]) = some (kindL a b) := by
  have hu := Try.underlying102
  have hu3 := Try.underlying3
  have hu4 := Try.underlying4
  obtain ⟨m, hm⟩ := types_succ
  have hf : (Value.agg #[.int .i64 a, .bool b]).formed Try.prog 102 = true := by simp [Value.formed, hu, cells102]
  unfold keyOf
  rw [hm]
  simp [hu, keyType102, hf, Program.keyLits, cells102, cells3, cells4, hu3, hu4, ha, Value.cells, kindL]
theorem kindL_inj {a a' : Int} {b b' : Bool} (ha : (Lit.int .i64 a).wf = true) (ha' : (Lit.int .i64 a').wf = true) (h : kindL a b = kindL a' b') : a = a' ∧ b = b' := by
  have h1 := keyOf_kind a b ha
  have h2 := keyOf_kind a' b' ha'
  rw [← h] at h2
  have := keyed102.inj h1 h2
  simpa using this
theorem kindL_key (a : Int) (b : Bool) : WideAt.IsKeyLit (kindL a b) := trivial
set_option maxRecDepth 100000 in
theorem plain_bool_inv {H : Type} {v : Value} {z : DataW H × List MemPlace} (h : plainElem Try.prog 4 v = some z) : ∃ x, v = .bool x ∧ z = (.lit (.bool x), []) := by
  unfold plainElem at h
  rw [Try.underlying4] at h
  cases v <;> simp at h
  exact ⟨_, rfl, h.symm⟩
theorem zero4 (w : World) : (zeroValue 4).run Try.prog w = .ok (.bool false) w := by kernel_rfl
abbrev DU := DataW Unit
/-- Block b is a map of at most n entries that are all true, at the keys of ks. -/
def MapIs (W : World) (b n : Nat) (ks : List (Int × Bool)) : Prop :=
  ∃ D : DU, W.ownsMap Try.prog 102 (plainElem Try.prog 4) b n D ∧ IsMap D ∧ (∀ p ∈ ks, (Lit.int .i64 p.1).wf = true) ∧ ∀ a x, (Lit.int .i64 a).wf = true → D.atKey (kindL a x) (.lit (.bool false)) = .lit (.bool (ks.contains (a, x)))
theorem MapIs.made (W : World) : MapIs (W.alloc (.map #[] 0)) W.heap.size 0 [] :=
  ⟨_, World.ownsMap_made W Try.prog 102 _, isMap_empty, by simp, fun a x _ => by simp [DataW.atKey]⟩
theorem MapIs.kept {W W' : World} {b n : Nat} {ks : List (Int × Bool)} (h : MapIs W b n ks) (hb : W'.heap[b]? = W.heap[b]?) : MapIs W' b n ks := by
  obtain ⟨D, ⟨es, clock, h1, h2⟩, h3⟩ := h
  exact ⟨D, ⟨es, clock, hb.trans h1, h2⟩, h3⟩
theorem MapIs.lt {W : World} {b n : Nat} {ks : List (Int × Bool)} (h : MapIs W b n ks) : b < W.heap.size := by
  obtain ⟨D, h1, _⟩ := h
  exact h1.lt
theorem MapIs.below {W W' : World} {b n : Nat} {ks : List (Int × Bool)} (h : MapIs W b n ks) (hb : Below W.heap.size W W') : MapIs W' b n ks := h.kept (hb.block b h.lt)
set_option maxRecDepth 100000 in
theorem MapIs.look {W : World} {b n : Nat} {ks : List (Int × Bool)} (h : MapIs W b n ks) (a : Int) (x : Bool) (ha : (Lit.int .i64 a).wf = true) : (Instr.lookup 100 (.map (some b)) (.agg #[.int .i64 a, .bool x]) false).run Try.prog W = .ok (.bool (ks.contains (a, x))) W := by
  obtain ⟨D, h1, _, _, h2⟩ := h
  obtain ⟨v, ps, hrun, hv⟩ := h1.lookup keyed102 Try.underlying100 (zero4 W) (plainElem_bool Try.underlying4 false) (keyOf_kind a x ha)
  rw [h2 a x ha] at hv
  obtain ⟨c, rfl, hc⟩ := plain_bool_inv hv
  simp only [Prod.mk.injEq, DataW.lit.injEq, Lit.bool.injEq] at hc
  rw [hrun, hc.1]
set_option maxRecDepth 100000 in
theorem MapIs.store {W : World} {b n : Nat} {ks : List (Int × Bool)} (h : MapIs W b n ks) (a : Int) (x : Bool) (ha : (Lit.int .i64 a).wf = true) (hn : n < maxLen) :
    ∃ W', (Instr.mapUpdate 100 (.map (some b)) (.agg #[.int .i64 a, .bool x]) (.bool true)).run Try.prog W = .ok () W' ∧ MapIs W' b (n + 1) (ks ++ [(a, x)]) ∧ W.grownBy W' (some b) := by
  obtain ⟨D, h1, hm, h3, h2⟩ := h
  obtain ⟨W', hrun, hown, hg⟩ := h1.update keyed102 Try.underlying100 hn (keyOf_kind a x ha) (plainElem_bool Try.underlying4 true)
  refine ⟨W', hrun, ⟨_, hown, hm.put _ _, ?_, fun a' x' ha' => ?_⟩, hg⟩
  · intro p hp
    rcases List.mem_append.1 hp with hp | hp
    · exact h3 p hp
    · rw [List.mem_singleton.1 hp]; exact ha
  · by_cases e : kindL a' x' = kindL a x
    · obtain ⟨rfl, rfl⟩ := kindL_inj ha' ha e
      rw [atKey_put_same hm (kindL_key _ _)]
      simp
    · rw [atKey_put_other e, h2 a' x' ha']
      have hne : ¬ (a' = a ∧ x' = x) := by rintro ⟨rfl, rfl⟩; exact e rfl
      have : (ks ++ [(a, x)]).contains (a', x') = ks.contains (a', x') := by
        rw [Bool.eq_iff_iff]
        simp only [List.contains_iff_mem, List.mem_append, List.mem_singleton, Prod.mk.injEq]
        constructor
        · rintro (h | h)
          · exact h
          · exact absurd h hne
        · exact .inl
      rw [this]
theorem map_event {ops : Array Oper} {rest : List Oper} {o : Oper} {a : Act} {Q : Exit → Act → World → Prop} {W : World} (hgd : o.guard = none) {N : Tmp} (_hd : o.dst = some N)
    (hrun : (execOp a.eval o).run Try.prog W = .ok (.value (.map (some W.heap.size))) (W.alloc (.map #[] 0)))
    (h : ∀ g, g = W.heap.size → ∀ w1, MapIs w1 g 0 [] → Below W.heap.size W w1 → wpList Try.prog ops Q rest (a.put o.dst (.map (some g))) w1) : wpList Try.prog ops Q (o :: rest) a W :=
  Kd.event_run hgd hrun (h _ rfl _ (MapIs.made W) (below_alloc (Below.refl _ _) _))
theorem MapIs.drew {W : World} {b n : Nat} {ks : List (Int × Bool)} (h : MapIs W b n ks) : MapIs W.drew b n ks := h.kept rfl
theorem MapIs.grown {W W' : World} {b n : Nat} {ks : List (Int × Bool)} {row : Option Nat} (h : MapIs W b n ks) (hg : W.grownBy W' row) (hne : some b ≠ row) : MapIs W' b n ks := h.kept (hg.block b h.lt hne)
theorem MapIs.mono {W : World} {b n n' : Nat} {ks : List (Int × Bool)} (h : MapIs W b n ks) (hn : n ≤ n') : MapIs W b n' ks := by
  obtain ⟨D, h1, h2⟩ := h
  exact ⟨D, h1.mono hn, h2⟩
theorem map_blk {W : World} {b n g t : Nat} {ks : List (Int × Bool)} {cs : Array Value} (h : MapIs W b n ks) (hb : W.heap[g]? = some (.cells cs t (0, 0))) : g ≠ b := by
  obtain ⟨D, ⟨es, clock, h1, _⟩, _⟩ := h
  rintro rfl
  rw [hb] at h1
  cases h1
theorem map_ne {W : World} {b n base : Nat} {ok : Nat → Prop} {v : Value} {xs : List S25} {ks : List (Int × Bool)} (h : MapIs W b n ks) (hr : Kd.R k25 25 W base ok v xs) : some b ≠ v.ownBlock := by
  intro e
  obtain ⟨inner, ho⟩ := Kd.R_own hr
  obtain ⟨cells, hc⟩ := own_typed ho b e.symm
  exact map_blk h hc rfl
end Go.Proofs.Ytghpmenoiimpoaa.P
