import Derived.Test.YtghpmenoiimpoaaDPx0
import Derived.Test.YtghpmenoiimpoaaRows
import Derived.WalkKit
import Derived.ProofKit
import Derived.Deep.SlicePairs
namespace Go.Proofs.Ytghpmenoiimpoaa.P
open Go.RowKit Go.ChangeShapes Go.WideShapes Go.Proofs.YtghpmenoiimpoaaW.PrintWords Go.Proofs.YtghpmenoiimpoaaW.PrintLast Go.Proofs.YtghpmenoiimpoaaW.PrintMore
set_option linter.unusedVariables false
/-- Numbers and runs of 64 bits. -/
def InI (x : Int) : Prop := -9223372036854775808 ≤ x ∧ x ≤ 9223372036854775807
def InR (l : List S25) : Prop := ∀ r ∈ l, InI r.f0 ∧ InI r.f1
theorem InI_wf {x : Int} (h : (Lit.int .i64 x).wf = true) : InI x := by
  simp only [Lit.wf, Bool.and_eq_true, decide_eq_true_eq] at h
  exact h
theorem open_runs {H : Type} {enc : TypeId × Value → H} {W : World} {sp : Nat → Bool} {hd : Bool} {a : Option Addr} {len cap : Nat} {x : DataW H × List MemPlace}
    (h : ∃ n, DataW.trod enc Try.prog W 0 sp hd n 22 [.slice a len cap] = some x) : ∃ l : List S25, len = l.length ∧ l.length ≤ cap ∧ Kd.C k25 W a l.length l ∧ InR l := by
  obtain ⟨fuel, hf⟩ := h
  rcases Go.Deep.open_slice_pairs Try.underlying22 Try.underlying25 (by kernel_rfl) rfl rfl (by kernel_rfl) (by kernel_rfl) hf with ⟨hcs, _⟩ | ⟨a', len', cap', m, n, V0, V1, D0, D1, P0, P1, hcs, hb, hl, hm, hmm, hx, hcell⟩
  · injection hcs with h1 h2
    injection h1 with h3 h4 h5
    subst h3; subst h4; subst h5
    exact ⟨[], rfl, Nat.le_refl _, ⟨rfl, by decide, fun h => absurd h (by decide)⟩, fun r hr => by simp at hr⟩
  · injection hcs with h1 h2
    injection h1 with h3 h4 h5
    subst h3; subst h4; subst h5
    have hlm : len ≤ m := by rw [hmm]; split <;> omega
    have each : ∀ i, i < len → ∃ r : S25, W.cell? (a'.add (i * 2)) = some (.int .i64 r.f0) ∧ W.cell? (a'.add (i * 2 + 1)) = some (.int .i64 r.f1) ∧ InI r.f0 ∧ InI r.f1 := by
      intro i hi
      obtain ⟨c0, c1, t0, t1⟩ := hcell i (by omega)
      obtain ⟨x0, e0, _, w0⟩ := DataW.trod_int Try.underlying3 t0
      obtain ⟨x1, e1, _, w1⟩ := DataW.trod_int Try.underlying3 t1
      injection e0 with e0
      injection e1 with e1
      exact ⟨⟨x0, x1⟩, by rw [c0, e0], by rw [c1, e1], InI_wf w0, InI_wf w1⟩
    have hch : ∃ f : Nat → S25, ∀ i, i < len → W.cell? (a'.add (i * 2)) = some (.int .i64 (f i).f0) ∧ W.cell? (a'.add (i * 2 + 1)) = some (.int .i64 (f i).f1) ∧ InI (f i).f0 ∧ InI (f i).f1 := by
      refine ⟨fun i => if hi : i < len then (each i hi).choose else ⟨0, 0⟩, fun i hi => ?_⟩
      simp only [dif_pos hi]
      exact (each i hi).choose_spec
    obtain ⟨f, hf⟩ := hch
    have hml : len ≤ 9223372036854775807 := Nat.le_trans hl (Nat.le_trans hm (by decide))
    refine ⟨(List.range len).map f, by simp, by simpa using hl, ⟨rfl, by simpa using hml, fun _ => ⟨a', rfl, fun j p hj => ?_⟩⟩, fun r hr => ?_⟩
    · have hjl : j < len := by have := (List.getElem?_eq_some_iff.1 hj).1; simpa using this
      obtain rfl : p = f j := by
        rw [List.getElem?_map, List.getElem?_range hjl] at hj
        exact (Option.some.inj hj).symm
      obtain ⟨c0, c1, _⟩ := hf j hjl
      refine ⟨[.int .i64 (f j).f0, .int .i64 (f j).f1], rfl, k25_mk _ _, fun i u hu => ?_⟩
      match i, hu with
      | 0, hu => obtain rfl := Option.some.inj hu; exact c0
      | 1, hu => obtain rfl := Option.some.inj hu; exact c1
    · obtain ⟨i, hi, rfl⟩ := List.mem_map.1 hr
      exact (hf i (by simpa using hi)).2.2
end Go.Proofs.Ytghpmenoiimpoaa.P
