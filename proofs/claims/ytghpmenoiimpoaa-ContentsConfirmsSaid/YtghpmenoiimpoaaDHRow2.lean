import Derived.Test.YtghpmenoiimpoaaDHRow
import Derived.Lib.SmallJoins
import Derived.Deep.Slices
import Derived.ChangeSame
namespace Go.Proofs.Ytghpmenoiimpoaa.P
open Go.RowKit Go.ChangeShapes Go.WideShapes Go.Deep Go.Proofs.YtghpmenoiimpoaaW.PrintWords Go.Proofs.YtghpmenoiimpoaaW.PrintLast Go.Proofs.YtghpmenoiimpoaaW.PrintMore
set_option linter.unusedVariables false
/-- Labels and tables of 64 bits. -/
def InL (x : S66) : Prop := InI x.f0 ∧ InI x.f1 ∧ x.f2.size ≤ 9223372036854775807 ∧ x.f3.size ≤ 9223372036854775807 ∧ InR x.f4
def InLs (l : List S66) : Prop := ∀ x ∈ l, InL x
theorem cells3' : Try.prog.cellsOf 3 = 1 := by kernel_rfl
theorem cells9' : Try.prog.cellsOf 9 = 1 := by kernel_rfl
theorem cells22' : Try.prog.cellsOf 22 = 1 := by kernel_rfl
theorem cells39' : Try.prog.cellsOf 39 = 1 := by kernel_rfl
theorem cells66' : Try.prog.cellsOf 66 = 5 := by kernel_rfl
theorem cells41' : Try.prog.cellsOf 41 = 3 := by kernel_rfl
section
variable {H : Type} {enc : TypeId × Value → H} {W : World} {sp : Nat → Bool} {hd : Bool}
theorem slice_of {t e : TypeId} (ht : Try.prog.underlying t = some (.slice e)) {n : Nat} {v : Value} {x : DataW H × List MemPlace} (h : DataW.trod enc Try.prog W 0 sp hd n t [v] = some x) : ∃ a len cap, v = .slice a len cap := by
  rcases open_slice ht h with ⟨h0, _⟩ | ⟨a, len, cap, m, n, D, Pl, hcs, _⟩
  · injection h0 with h0 _; exact ⟨none, 0, 0, h0⟩
  · injection hcs with h0 _; exact ⟨_, _, _, h0⟩
set_option maxRecDepth 100000 in
theorem lab_of {n : Nat} {cs : List Value} {x : DataW H × List MemPlace} (h : DataW.trod enc Try.prog W 0 sp hd n 66 cs = some x) :
    ∃ (y : S66) (A : Option Addr) (c : Nat), cs = [.int .i64 y.f0, .int .i64 y.f1, .string y.f2, .string y.f3, .slice A y.f4.length c] ∧ y.f4.length ≤ c ∧ Kd.C k25 W A y.f4.length y.f4 ∧ InL y := by
  obtain ⟨xs, m, _, _, hl, hlen, hf⟩ := DataW.trod_struct Try.underlying66 h
  rw [cells66'] at hl
  match cs, hl with
  | [c0, c1, c2, c3, c4], _ =>
    match xs, hlen with
    | [y0, y1, y2, y3, y4], _ =>
      have g0 : DataW.trod enc Try.prog W 0 sp hd m 3 (([c0, c1, c2, c3, c4].drop 0).take (Try.prog.cellsOf 3)) = some y0 := hf 0 _ rfl
      have g1 : DataW.trod enc Try.prog W 0 sp hd m 3 (([c0, c1, c2, c3, c4].drop 1).take (Try.prog.cellsOf 3)) = some y1 := hf 1 _ rfl
      have g2 : DataW.trod enc Try.prog W 0 sp hd m 9 (([c0, c1, c2, c3, c4].drop 2).take (Try.prog.cellsOf 9)) = some y2 := hf 2 _ rfl
      have g3 : DataW.trod enc Try.prog W 0 sp hd m 9 (([c0, c1, c2, c3, c4].drop 3).take (Try.prog.cellsOf 9)) = some y3 := hf 3 _ rfl
      have g4 : DataW.trod enc Try.prog W 0 sp hd m 22 (([c0, c1, c2, c3, c4].drop 4).take (Try.prog.cellsOf 22)) = some y4 := hf 4 _ rfl
      rw [cells3'] at g0 g1
      rw [cells9'] at g2 g3
      rw [cells22'] at g4
      obtain ⟨x0, e0, _, w0⟩ := DataW.trod_int Try.underlying3 (show DataW.trod enc Try.prog W 0 sp hd m 3 [c0] = some y0 from g0)
      obtain ⟨x1, e1, _, w1⟩ := DataW.trod_int Try.underlying3 (show DataW.trod enc Try.prog W 0 sp hd m 3 [c1] = some y1 from g1)
      obtain ⟨x2, e2, _, w2⟩ := DataW.trod_string Try.underlying9 (show DataW.trod enc Try.prog W 0 sp hd m 9 [c2] = some y2 from g2)
      obtain ⟨x3, e3, _, w3⟩ := DataW.trod_string Try.underlying9 (show DataW.trod enc Try.prog W 0 sp hd m 9 [c3] = some y3 from g3)
      have g5 : DataW.trod enc Try.prog W 0 sp hd m 22 [c4] = some y4 := g4
      obtain ⟨a, len, cap, rfl⟩ := slice_of Try.underlying22 g5
      obtain ⟨l, rfl, lc, lk, lr⟩ := open_runs ⟨m, g5⟩
      injection e0 with e0; injection e1 with e1; injection e2 with e2; injection e3 with e3
      subst e0; subst e1; subst e2; subst e3
      unfold maxLen at w2 w3
      exact ⟨⟨x0, x1, x2, x3, l⟩, a, cap, rfl, lc, lk, InI_wf w0, InI_wf w1, w2, w3, lr⟩
set_option maxRecDepth 100000 in
theorem open_labels {a : Option Addr} {len cap : Nat} {x : DataW H × List MemPlace} (h : ∃ n, DataW.trod enc Try.prog W 0 sp hd n 39 [.slice a len cap] = some x) :
    ∃ l : List S66, len = l.length ∧ l.length ≤ cap ∧ Kd.C k66 W a l.length l ∧ InLs l := by
  obtain ⟨fuel, hf⟩ := h
  rcases open_slice Try.underlying39 hf with ⟨h0, _⟩ | ⟨a', len', cap', m, n, D, Pl, hcs, hb, hl, hm, hmm, hx, hi⟩
  · injection h0 with h1 _
    injection h1 with h3 h4 h5
    subst h3; subst h4; subst h5
    exact ⟨[], rfl, Nat.le_refl _, ⟨rfl, by decide, fun h => absurd h (by decide)⟩, fun r hr => by simp at hr⟩
  · injection hcs with h1 _
    injection h1 with h3 h4 h5
    subst h3; subst h4; subst h5
    have hlm : len ≤ m := by rw [hmm]; split <;> omega
    have each : ∀ i, i < len → ∃ (y : S66), (∃ (A : Option Addr) (c : Nat), y.f4.length ≤ c ∧ Kd.C k25 W A y.f4.length y.f4 ∧ ∀ j u, ([.int .i64 y.f0, .int .i64 y.f1, .string y.f2, .string y.f3, .slice A y.f4.length c] : List Value)[j]? = some u → W.cell? (a'.add (i * 5 + j)) = some u) ∧ InL y := by
      intro i hil
      obtain ⟨cs', hc, ht'⟩ := hi i (by omega)
      rw [cells66'] at hc
      obtain ⟨y, A, c, rfl, hle, hC, hL⟩ := lab_of ht'
      obtain ⟨_, hcl, hat⟩ := World.cells?_some hc
      refine ⟨y, ⟨A, c, hle, hC, fun j u hu => ?_⟩, hL⟩
      have hj : j < 5 := (List.getElem?_eq_some_iff.1 hu).1
      have h2 := hat j hj
      rw [Go.Deep.add_add] at h2
      exact h2.trans hu
    have hch : ∃ f : Nat → S66, ∀ i, i < len → (∃ (A : Option Addr) (c : Nat), (f i).f4.length ≤ c ∧ Kd.C k25 W A (f i).f4.length (f i).f4 ∧ ∀ j u, ([.int .i64 (f i).f0, .int .i64 (f i).f1, .string (f i).f2, .string (f i).f3, .slice A (f i).f4.length c] : List Value)[j]? = some u → W.cell? (a'.add (i * 5 + j)) = some u) ∧ InL (f i) := by
      refine ⟨fun i => if hi : i < len then (each i hi).choose else z66, fun i hi => ?_⟩
      simp only [dif_pos hi]
      exact (each i hi).choose_spec
    obtain ⟨f, hf⟩ := hch
    have hml : len ≤ 9223372036854775807 := Nat.le_trans hl (Nat.le_trans hm (by decide))
    refine ⟨(List.range len).map f, by simp, by simpa using hl, ⟨rfl, by simpa using hml, fun _ => ⟨a', rfl, fun j p hj => ?_⟩⟩, fun r hr => ?_⟩
    · have hjl : j < len := by have := (List.getElem?_eq_some_iff.1 hj).1; simpa using this
      obtain rfl : p = f j := by
        rw [List.getElem?_map, List.getElem?_range hjl] at hj
        exact (Option.some.inj hj).symm
      obtain ⟨⟨A, c, hle, hC, hcells⟩, _⟩ := hf j hjl
      exact ⟨_, rfl, k66_mk _ _ hle hC, hcells⟩
    · obtain ⟨i, hi, rfl⟩ := List.mem_map.1 hr
      exact (hf i (by simpa using hi)).2
set_option maxRecDepth 100000 in
theorem open_table {r : Reach} {b0 : Nat} {v : Value} {d : DataW H} {p : List MemPlace} (hv : Value.okWide Try.prog W r b0 41 v) (h : DataW.Trod enc Try.prog W 0 sp hd 41 v d p) :
    ∃ (nm : ByteArray) (tr : Int) (A : Option Addr) (c : Nat) (l : List S66), v = .agg #[.string nm, .int .i64 tr, .slice A l.length c] ∧ nm.size ≤ 9223372036854775807 ∧ InI tr ∧ l.length ≤ c ∧ Kd.C k66 W A l.length l ∧ InLs l := by
  obtain ⟨cs, rfl, hsz⟩ := okWide_struct Try.underlying41 hv
  obtain ⟨l⟩ := cs
  obtain ⟨fuel, hf⟩ := h
  obtain ⟨xs, m, _, _, hl, hlen, hg⟩ := DataW.trod_struct Try.underlying41 hf
  rw [cells41'] at hl
  match l, hl with
  | [c0, c1, c2], _ =>
    match xs, hlen with
    | [y0, y1, y2], _ =>
      have g0 : DataW.trod enc Try.prog W 0 sp hd m 9 (([c0, c1, c2].drop 0).take (Try.prog.cellsOf 9)) = some y0 := hg 0 _ rfl
      have g1 : DataW.trod enc Try.prog W 0 sp hd m 3 (([c0, c1, c2].drop 1).take (Try.prog.cellsOf 3)) = some y1 := hg 1 _ rfl
      have g2 : DataW.trod enc Try.prog W 0 sp hd m 39 (([c0, c1, c2].drop 2).take (Try.prog.cellsOf 39)) = some y2 := hg 2 _ rfl
      rw [cells9'] at g0
      rw [cells3'] at g1
      rw [cells39'] at g2
      obtain ⟨x0, e0, _, w0⟩ := DataW.trod_string Try.underlying9 (show DataW.trod enc Try.prog W 0 sp hd m 9 [c0] = some y0 from g0)
      obtain ⟨x1, e1, _, w1⟩ := DataW.trod_int Try.underlying3 (show DataW.trod enc Try.prog W 0 sp hd m 3 [c1] = some y1 from g1)
      have g5 : DataW.trod enc Try.prog W 0 sp hd m 39 [c2] = some y2 := g2
      obtain ⟨a, len, cap, rfl⟩ := slice_of Try.underlying39 g5
      obtain ⟨ls, rfl, lc, lk, lr⟩ := open_labels ⟨m, g5⟩
      injection e0 with e0; injection e1 with e1
      subst e0; subst e1
      unfold maxLen at w0
      exact ⟨x0, x1, a, cap, ls, rfl, w0, InI_wf w1, lc, lk, lr⟩
end
end Go.Proofs.Ytghpmenoiimpoaa.P
