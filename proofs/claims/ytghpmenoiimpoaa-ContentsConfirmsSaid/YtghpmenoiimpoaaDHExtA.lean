import Derived.Test.YtghpmenoiimpoaaDPx13
namespace Go.Proofs.Ytghpmenoiimpoaa.P
open Go.RowKit Go.Proofs.YtghpmenoiimpoaaW.PrintWords Go.Proofs.YtghpmenoiimpoaaW.PrintLast Go.Proofs.YtghpmenoiimpoaaW.PrintMore
set_option linter.unusedVariables false
/-- The existing tracks of a run. -/
def cl (a b : Int) : Int × Int :=
  if b < 1 ∨ a ≥ 128 then (0, 0)
  else if a < 0 ∨ b < wrap64 (128 - a) then
    (if mn 128 (wrap64 (a + b)) ≤ mx 0 a then (0, 0) else (mx 0 a, wrap64 (mn 128 (wrap64 (a + b)) - mx 0 a)))
  else (if (128 : Int) ≤ mx 0 a then (0, 0) else (mx 0 a, wrap64 (128 - mx 0 a)))
theorem clip_cl (k : Nat) (a b : Int) : extent_clip.f (k + 2) a b = some ((cl a b).1, (cl a b).2) := by
  unfold extent_clip.f cl
  by_cases h1 : b < 1
  · simp [h1, extent_clip.j0]
  · by_cases h2 : a ≥ 128
    · simp [h1, h2, extent_clip.j0]
    · by_cases h3 : a < 0
      · simp [h1, h2, h3, extent_clip.j0, extent_clip.j1]
        split <;> rfl
      · by_cases h4 : b < wrap64 (128 - a)
        · simp [h1, h2, h3, h4, extent_clip.j0, extent_clip.j1]
          split <;> rfl
        · simp [h1, h2, h3, h4, extent_clip.j0, extent_clip.j1]
          split <;> rfl
theorem cl_bd (a b : Int) : 0 ≤ (cl a b).1 ∧ 0 ≤ (cl a b).2 ∧ (cl a b).1 + (cl a b).2 ≤ 128 := by
  unfold cl mn mx wrap64
  repeat' split
  all_goals (refine ⟨?_, ?_, ?_⟩ <;> dsimp only <;> omega)
def hasT (l : List S25) (t : Nat) : Bool := l.any fun r => decide ((cl r.f0 r.f1).1 ≤ t) && decide ((t : Int) < (cl r.f0 r.f1).1 + (cl r.f0 r.f1).2)
def arrP (p : Nat → Bool) : Array Value := ((List.range 128).map fun t => Value.bool (p t)).toArray
theorem arrP_size (p : Nat → Bool) : (arrP p).size = 128 := by simp [arrP]
theorem arrP_get (p : Nat → Bool) (i : Nat) (h : i < 128) : (arrP p)[i]? = some (.bool (p i)) := by simp [arrP, h]
theorem arrP_congr {p q : Nat → Bool} (h : ∀ t, t < 128 → p t = q t) : arrP p = arrP q := by
  unfold arrP
  congr 1
  exact List.map_congr_left fun t ht => by rw [h t (by simpa using ht)]
theorem arrP_set (p : Nat → Bool) (i : Nat) (b : Bool) (h : i < 128) : (arrP p).setIfInBounds i (.bool b) = arrP (fun t => if t = i then b else p t) := by
  apply Array.ext_getElem?
  intro j
  by_cases hj : j < 128
  · rw [arrP_get _ _ hj, Array.getElem?_setIfInBounds, arrP_size, arrP_get _ _ hj]
    by_cases hij : i = j
    · subst hij; simp [h]
    · simp [hij, Ne.symm hij]
  · rw [Array.getElem?_eq_none (by rw [Array.size_setIfInBounds, arrP_size]; omega), Array.getElem?_eq_none (by rw [arrP_size]; omega)]
def segP (p : Nat → Bool) (a i t : Nat) : Bool := p t || (decide (a ≤ t) && decide (t < a + i))
theorem segP_zero (p : Nat → Bool) (a : Nat) : arrP p = arrP (segP p a 0) := arrP_congr fun t _ => by
  have : ¬ (a ≤ t ∧ t < a + 0) := by omega
  rw [segP, ← Bool.decide_and, decide_eq_false this, Bool.or_false]
theorem segP_step (p : Nat → Bool) (a i : Nat) (h : a + i < 128) : (arrP (segP p a i)).setIfInBounds (a + i) (.bool true) = arrP (segP p a (i + 1)) := by
  rw [arrP_set _ _ _ h]
  refine arrP_congr fun t _ => ?_
  unfold segP
  by_cases e : t = a + i
  · subst e; simp
  · rw [if_neg e]
    have : decide (t < a + i) = decide (t < a + (i + 1)) := by simp only [decide_eq_decide]; omega
    rw [this]
theorem hasT_snoc (l : List S25) (j a b : Nat) (hj : j < l.length) (h : cl (l[j]).f0 (l[j]).f1 = ((a : Int), (b : Int))) : hasT (l.take (j + 1)) = segP (hasT (l.take j)) a b := by
  funext t
  rw [List.take_succ_eq_append_getElem hj]
  have h1 : decide ((a : Int) ≤ (t : Int)) = decide (a ≤ t) := by simp
  have h2 : decide ((t : Int) < (a : Int) + (b : Int)) = decide (t < a + b) := by simp only [decide_eq_decide]; omega
  unfold hasT segP
  rw [List.any_append, List.any_cons, List.any_nil, Bool.or_false, h]
  dsimp only
  rw [h1, h2]
theorem arrP_one (p : Nat → Bool) : (arrP p).all (·.oneCell') = true := by
  rw [Array.all_eq_true_iff_forall_mem]
  intro x hx
  simp only [arrP, List.mem_toArray, List.mem_map] at hx
  obtain ⟨t, _, rfl⟩ := hx
  rfl
theorem size113 : (Try.prog.info? 113).map (·.size) = some 128 := by kernel_rfl
theorem alloc113 (W : World) (o : Oper) (a : Act) (ho : o.op = .alloc 113) : (execOp a.eval o).run Try.prog W = .ok (.value (.pointer (some ⟨W.heap.size, 0, none⟩))) (W.alloc (.cells (arrP fun _ => false) 113 (0, 0))) := by
  unfold execOp
  rw [ho]
  kernel_rfl
/-- The cells of element i of a row of runs of the call's own; what a store into its Count leaves. -/
theorem R_count {W : World} {base n c : Nat} {ok : Nat → Prop} {A : Option Addr} {xs : List S25} (HO : Kd.R k25 25 W base ok (.slice A n c) xs) (i : Nat) (hi : i < xs.length) :
    ∃ g, A = some ⟨g, 0, none⟩ ∧ base ≤ g ∧ n = xs.length ∧ W.cell? ⟨g, i * 2, none⟩ = some (.int .i64 (xs.getD i z25).f0) ∧ W.cell? ⟨g, i * 2 + 1, none⟩ = some (.int .i64 (xs.getD i z25).f1) ∧ W.frozen? ⟨g, i * 2 + 1, none⟩ = false ∧
      ∀ x, Kd.R k25 25 (W.setCell ⟨g, i * 2 + 1, none⟩ (.int .i64 x)) base ok (.slice A n c) (xs.set i ⟨(xs.getD i z25).f0, x⟩) ∧ W.grownBy (W.setCell ⟨g, i * 2 + 1, none⟩ (.int .i64 x)) (some g) := by
  obtain ⟨g, cap, e, hb, _, _, _⟩ := Kd.R_form HO (by omega)
  injection e with e1 e2 e3
  subst e1; subst e2; subst e3
  obtain ⟨ce, hcl, hM, hcc, hfr⟩ := Kd.R_elem HO z25 (i : Int) (by omega) (by omega)
  obtain rfl := k25_openM hM
  rw [Int.toNat_natCast] at hcc hfr
  refine ⟨g, rfl, hb, rfl, hcc 0 _ rfl, hcc 1 _ rfl, hfr 1, fun x => ?_⟩
  have HP := Kd.R_seg HO (i : Int) (by omega) (by omega) (seg := [.int .i64 x]) (j := 1) hcl (by rw [Int.toNat_natCast]; exact hcc) (show 2 ≤ 2 from by decide) (x' := (⟨(xs.getD i z25).f0, x⟩ : S25)) (k25_mkM _ _ _ (⟨(xs.getD i z25).f0, x⟩ : S25)) (fun _ hk => hk)
  rw [Int.toNat_natCast] at HP
  exact HP
theorem below_row {w W : World} {g : Nat} (h : Below w.heap.size w W) (hg : w.heap.size ≤ g) (cs : Array Value) : Below w.heap.size w (W.setRow g cs) :=
  h.trans ⟨rfl, rfl, rfl, by simp [World.setRow], fun k hk => setRow_other _ g k _ (by omega)⟩
def incL (acc : List S25) : List S25 := acc.set (acc.length - 1) ⟨(acc.getD (acc.length - 1) z25).f0, (acc.getD (acc.length - 1) z25).f1 + 1⟩
def runStep (p : Nat → Bool) (acc : List S25) (i : Nat) : List S25 := if p i = true then (if 0 < i ∧ p (i - 1) = true then incL acc else acc ++ [⟨i, 1⟩]) else acc
def runsN (p : Nat → Bool) : Nat → List S25
  | 0 => []
  | n + 1 => runStep p (runsN p n) n
def runsOf (p : Nat → Bool) : List S25 := runsN p 128
theorem incL_length (acc : List S25) : (incL acc).length = acc.length := by simp [incL]
theorem mem_incL {acc : List S25} {r : S25} (h : r ∈ incL acc) : r ∈ acc ∨ (acc ≠ [] ∧ ∃ q, q ∈ acc ∧ r = ⟨q.f0, q.f1 + 1⟩) := by
  rw [incL] at h
  rcases List.mem_or_eq_of_mem_set h with h | h
  · exact .inl h
  · by_cases e : acc = []
    · subst e; simp at *
    · refine .inr ⟨e, acc.getD (acc.length - 1) z25, ?_, h⟩
      have hl : acc.length - 1 < acc.length := by have := List.length_pos_iff.2 e; omega
      rw [List.getD_eq_getElem?_getD, List.getElem?_eq_getElem hl]
      exact List.getElem_mem hl
theorem runsN_bd (p : Nat → Bool) : ∀ n, ∀ r ∈ runsN p n, 0 ≤ r.f0 ∧ 1 ≤ r.f1 ∧ r.f0 + r.f1 ≤ n
  | 0 => by simp [runsN]
  | n + 1 => by
    intro r hr
    have ih := runsN_bd p n
    rw [runsN, runStep] at hr
    split at hr
    · split at hr
      · rcases mem_incL hr with h | ⟨_, q, hq, rfl⟩
        · have := ih r h; omega
        · have := ih q hq; dsimp only; omega
      · rcases List.mem_append.1 hr with h | h
        · have := ih r h; omega
        · rw [List.mem_singleton.1 h]; dsimp only; omega
    · have := ih r hr; omega
theorem runsN_length (p : Nat → Bool) : ∀ n, (runsN p n).length ≤ n
  | 0 => by simp [runsN]
  | n + 1 => by
    have ih := runsN_length p n
    rw [runsN, runStep]
    split
    · split
      · rw [incL_length]; omega
      · simp; omega
    · omega
theorem runsN_ne (p : Nat → Bool) (n : Nat) (h : p n = true) : runsN p (n + 1) ≠ [] := by
  rw [runsN, runStep, if_pos h]
  split
  · rename_i h2
    obtain ⟨m, rfl⟩ : ∃ m, n = m + 1 := ⟨n - 1, by omega⟩
    have := runsN_ne p m h2.2
    intro e
    have := congrArg List.length e
    rw [incL_length] at this
    exact absurd (List.eq_nil_of_length_eq_zero this) (by assumption)
  · simp
end Go.Proofs.Ytghpmenoiimpoaa.P
