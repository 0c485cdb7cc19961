import Derived.Test.YtghpmenoiimpoaaCHRow
import Derived.Lib.SmallJoins
import Derived.Deep.Slices
import Derived.ChangeSame
namespace Go.Proofs.Ytghpmenoiimpoaa.P
open Go.RowKit Go.ChangeShapes Go.WideShapes Go.Deep Go.Proofs.YtghpmenoiimpoaaW.PrintWords Go.Proofs.YtghpmenoiimpoaaW.PrintLast Go.Proofs.YtghpmenoiimpoaaW.PrintMore
set_option linter.unusedVariables false
/-- Labels and tables of 64 bits. -/
def InL (x : S66) : Prop := InI x.f0 ∧ InI x.f1 ∧ x.f2.size ≤ 9223372036854775807 ∧ x.f3.size ≤ 9223372036854775807 ∧ InR x.f4
theorem cells3' : Try.prog.cellsOf 3 = 1 := by kernel_rfl
theorem cells9' : Try.prog.cellsOf 9 = 1 := by kernel_rfl
theorem cells22' : Try.prog.cellsOf 22 = 1 := by kernel_rfl
theorem cells66' : Try.prog.cellsOf 66 = 5 := by kernel_rfl
section
variable {H : Type} {enc : TypeId × Value → H} {W : World} {sp : Nat → Bool} {hd : Bool}
theorem slice_of {t e : TypeId} (ht : Try.prog.underlying t = some (.slice e)) {n : Nat} {v : Value} {x : DataW H × List MemPlace} (h : DataW.trod enc Try.prog W 0 sp hd n t [v] = some x) : ∃ a len cap, v = .slice a len cap := by
  rcases open_slice ht h with ⟨h0, _⟩ | ⟨a, len, cap, m, n, D, Pl, hcs, _⟩
  · injection h0 with h0 _; exact ⟨none, 0, 0, h0⟩
  · injection hcs with h0 _; exact ⟨_, _, _, h0⟩
set_option maxRecDepth 100000 in
theorem lab_of {n : Nat} {cs : List Value} {x : DataW H × List MemPlace} (h : DataW.trod enc Try.prog W 0 sp hd n 66 cs = some x) :
    ∃ (y : S66) (A : Option Addr) (c : Nat), cs = [.int .i64 y.f0, .int .i64 y.f1, .string y.f2, .string y.f3, .slice A y.f4.length c] ∧ y.f4.length ≤ c ∧ Kd.C k25 W A y.f4.length y.f4 ∧ InL y := by
  obtain ⟨xs, m, _, _, hl, hlen, hf⟩ := DataW.trod_struct Try.underlying66 h
  rw [cells66'] at hl
  match cs, hl with
  | [c0, c1, c2, c3, c4], _ =>
    match xs, hlen with
    | [y0, y1, y2, y3, y4], _ =>
      have g0 : DataW.trod enc Try.prog W 0 sp hd m 3 (([c0, c1, c2, c3, c4].drop 0).take (Try.prog.cellsOf 3)) = some y0 := hf 0 _ rfl
      have g1 : DataW.trod enc Try.prog W 0 sp hd m 3 (([c0, c1, c2, c3, c4].drop 1).take (Try.prog.cellsOf 3)) = some y1 := hf 1 _ rfl
      have g2 : DataW.trod enc Try.prog W 0 sp hd m 9 (([c0, c1, c2, c3, c4].drop 2).take (Try.prog.cellsOf 9)) = some y2 := hf 2 _ rfl
      have g3 : DataW.trod enc Try.prog W 0 sp hd m 9 (([c0, c1, c2, c3, c4].drop 3).take (Try.prog.cellsOf 9)) = some y3 := hf 3 _ rfl
      have g4 : DataW.trod enc Try.prog W 0 sp hd m 22 (([c0, c1, c2, c3, c4].drop 4).take (Try.prog.cellsOf 22)) = some y4 := hf 4 _ rfl
      rw [cells3'] at g0 g1
      rw [cells9'] at g2 g3
      rw [cells22'] at g4
      obtain ⟨x0, e0, _, w0⟩ := DataW.trod_int Try.underlying3 (show DataW.trod enc Try.prog W 0 sp hd m 3 [c0] = some y0 from g0)
      obtain ⟨x1, e1, _, w1⟩ := DataW.trod_int Try.underlying3 (show DataW.trod enc Try.prog W 0 sp hd m 3 [c1] = some y1 from g1)
      obtain ⟨x2, e2, _, w2⟩ := DataW.trod_string Try.underlying9 (show DataW.trod enc Try.prog W 0 sp hd m 9 [c2] = some y2 from g2)
      obtain ⟨x3, e3, _, w3⟩ := DataW.trod_string Try.underlying9 (show DataW.trod enc Try.prog W 0 sp hd m 9 [c3] = some y3 from g3)
      have g5 : DataW.trod enc Try.prog W 0 sp hd m 22 [c4] = some y4 := g4
      obtain ⟨a, len, cap, rfl⟩ := slice_of Try.underlying22 g5
      obtain ⟨l, rfl, lc, lk, lr⟩ := open_runs ⟨m, g5⟩
      injection e0 with e0; injection e1 with e1; injection e2 with e2; injection e3 with e3
      subst e0; subst e1; subst e2; subst e3
      unfold maxLen at w2 w3
      exact ⟨⟨x0, x1, x2, x3, l⟩, a, cap, rfl, lc, lk, InI_wf w0, InI_wf w1, w2, w3, lr⟩
set_option maxRecDepth 100000 in
theorem open_label {r : Reach} {b0 : Nat} {v : Value} {d : DataW H} {p : List MemPlace} (hv : Value.okWide Try.prog W r b0 66 v) (h : DataW.Trod enc Try.prog W 0 sp hd 66 v d p) :
    ∃ (y : S66) (A : Option Addr) (c : Nat), v = .agg #[.int .i64 y.f0, .int .i64 y.f1, .string y.f2, .string y.f3, .slice A y.f4.length c] ∧ y.f4.length ≤ c ∧ Kd.C k25 W A y.f4.length y.f4 ∧ InL y := by
  obtain ⟨cs, rfl, hsz⟩ := okWide_struct Try.underlying66 hv
  obtain ⟨l⟩ := cs
  obtain ⟨fuel, hf⟩ := h
  obtain ⟨y, A, c, e, h1, h2, h3⟩ := lab_of hf
  exact ⟨y, A, c, by rw [show l = _ from e], h1, h2, h3⟩
end
end Go.Proofs.Ytghpmenoiimpoaa.P
