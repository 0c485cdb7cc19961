import Derived.Test.YtghpmenoiimpoaaRHJoin
import Derived.Test.YtghpmenoiimpoaaRHRow
import Derived.Test.YtghpmenoiimpoaaRPx3
namespace Go.Proofs.Ytghpmenoiimpoaa.P
open Go.RowKit Go.Proofs.YtghpmenoiimpoaaW.PrintWords Go.Proofs.YtghpmenoiimpoaaW.PrintLast Go.Proofs.YtghpmenoiimpoaaW.PrintMore
set_option linter.unusedVariables false
theorem cl_spec (a b : Int) (ha : InI a) (hb : InI b) : ((cl a b).2 = 0 → (cl a b).1 = 0) ∧ ∀ t : Int, 0 ≤ t → t < 128 → (((cl a b).1 ≤ t ∧ t < (cl a b).1 + (cl a b).2) ↔ (a ≤ t ∧ t < a + b)) := by
  obtain ⟨ha1, ha2⟩ := ha
  obtain ⟨hb1, hb2⟩ := hb
  unfold cl mn mx wrap64
  repeat' split
  all_goals (refine ⟨?_, ?_⟩ <;> dsimp only <;> intros <;> omega)
theorem holds_some (a b t : Int) (ha : InI a) (hb : InI b) (h0 : 0 ≤ t) (h1 : t < 128) : dasdref05_holds.f a b t = some (decide ((cl a b).1 ≤ t) && decide (t < (cl a b).1 + (cl a b).2)) := by
  have hc := (cl_spec a b ha hb).2 t h0 h1
  rw [← Bool.decide_and, decide_eq_decide.2 hc]
  obtain ⟨ha1, ha2⟩ := ha
  obtain ⟨hb1, hb2⟩ := hb
  unfold dasdref05_holds.f
  by_cases c1 : a < 0
  · rw [if_pos c1]
    by_cases c2 : b ≥ 1
    · rw [if_pos c2, w64 (x := a + b) (by omega) (by omega)]
      exact congrArg some (decide_eq_decide.2 (by omega))
    · rw [if_neg c2, decide_eq_false (by omega)]
  · rw [if_neg c1]
    by_cases c2 : b ≥ 1
    · rw [if_pos c2]
      by_cases c3 : t ≥ a
      · rw [if_pos c3, w64 (x := t - a) (by omega) (by omega)]
        exact congrArg some (decide_eq_decide.2 (by omega))
      · rw [if_neg c3, decide_eq_false (by omega)]
    · rw [if_neg c2, decide_eq_false (by omega)]
theorem rclip_l0 (a b : Int) (ha : InI a) (hb : InI b) : ∀ (d k : Nat) (x f c : Int), x + d = 128 → 0 ≤ x → d < k →
    c = (if x ≤ (cl a b).1 then 0 else if x ≤ (cl a b).1 + (cl a b).2 then x - (cl a b).1 else (cl a b).2) → f = (if c = 0 then 0 else (cl a b).1) →
    dasdref05_clip.l0 k x a b f c = some ((cl a b).1, (cl a b).2) := by
  have hbd := cl_bd a b
  have hz := (cl_spec a b ha hb).1
  intro d
  induction d with
  | zero =>
    intro k x f c hx h0 hk hc hf
    obtain ⟨k, rfl⟩ : ∃ m, k = m + 1 := ⟨k - 1, by omega⟩
    simp only [dasdref05_clip.l0]
    rw [if_neg (by omega)]
    have hcc : c = (cl a b).2 := by rw [hc]; split <;> (try split) <;> omega
    have hff : f = (cl a b).1 := by
      rw [hf]
      split
      · rename_i h; rw [hz (by omega)]
      · rfl
    rw [hcc, hff]
  | succ d ih =>
    intro k x f c hx h0 hk hc hf
    obtain ⟨k, rfl⟩ : ∃ m, k = m + 1 := ⟨k - 1, by omega⟩
    simp only [dasdref05_clip.l0]
    rw [if_pos (by omega), holds_some a b x ha hb h0 (by omega), Option.bind_some, w64 (x := x + 1) (by omega) (by omega)]
    by_cases h : (cl a b).1 ≤ x ∧ x < (cl a b).1 + (cl a b).2
    · rw [← Bool.decide_and, decide_eq_true h, if_pos rfl]
      have hc2 : c = x - (cl a b).1 := by rw [hc]; split <;> (try split) <;> omega
      rw [w64 (x := c + 1) (by omega) (by omega)]
      by_cases hc0 : c = 0
      · rw [if_pos hc0]
        refine ih k _ _ _ (by omega) (by omega) (by omega) ?_ ?_
        · split <;> (try split) <;> omega
        · rw [if_neg (by omega)]; omega
      · rw [if_neg hc0]
        refine ih k _ _ _ (by omega) (by omega) (by omega) ?_ ?_
        · split <;> (try split) <;> omega
        · rw [if_neg (by omega), hf, if_neg hc0]
    · rw [← Bool.decide_and, decide_eq_false h, if_neg (by simp)]
      refine ih k _ _ _ (by omega) (by omega) (by omega) ?_ hf
      rw [hc]; split <;> (try split) <;> (try split) <;> (try split) <;> omega
theorem rclip_some (a b : Int) (ha : InI a) (hb : InI b) (k : Nat) (hk : 128 < k) : dasdref05_clip.f k a b = some ((cl a b).1, (cl a b).2) := by
  have hbd := cl_bd a b
  exact rclip_l0 a b ha hb 128 k 0 0 0 (by omega) (by omega) hk (by rw [if_pos (by omega)]) (by simp)
theorem rin_l0 (xs : List S25) (hr : InR xs) (t : Int) (hl : xs.length ≤ 9223372036854775806) : ∀ (d k i : Nat), i + d = xs.length → d + 129 < k →
    dasdref05_In.l0 k xs t (i : Int) = some (hasI (xs.drop i) t) := by
  intro d
  induction d with
  | zero =>
    intro k i hi hk
    obtain ⟨k, rfl⟩ : ∃ m, k = m + 1 := ⟨k - 1, by omega⟩
    rw [List.drop_eq_nil_of_le (by omega)]
    simp only [dasdref05_In.l0]
    rw [if_neg (by omega)]
    rfl
  | succ d ih =>
    intro k i hi hk
    obtain ⟨k, rfl⟩ : ∃ m, k = m + 1 := ⟨k - 1, by omega⟩
    have hlt : i < xs.length := by omega
    have hw : wrap64 ((i : Int) + 1) = ((i + 1 : Nat) : Int) := by rw [w64 (by omega) (by omega)]; omega
    have hb := cl_bd xs[i].f0 xs[i].f1
    have hri := hr xs[i] (List.getElem_mem hlt)
    rw [List.drop_eq_getElem_cons hlt]
    simp only [dasdref05_In.l0]
    rw [if_pos (by omega), if_pos (by omega), rd_at xs i hlt, rclip_some _ _ hri.1 hri.2 k (by omega), Option.bind_some, hw]
    dsimp only
    rw [w64 (x := (cl xs[i].f0 xs[i].f1).1 + (cl xs[i].f0 xs[i].f1).2) (by omega) (by omega), ih k (i + 1) (by omega) (by omega)]
    have e : hasI (xs[i] :: xs.drop (i + 1)) t = ((decide ((cl xs[i].f0 xs[i].f1).1 ≤ t) && decide (t < (cl xs[i].f0 xs[i].f1).1 + (cl xs[i].f0 xs[i].f1).2)) || hasI (xs.drop (i + 1)) t) := rfl
    rw [e]
    by_cases h1 : t ≥ (cl xs[i].f0 xs[i].f1).1
    · rw [if_pos h1, decide_eq_true h1]
      by_cases h2 : t < (cl xs[i].f0 xs[i].f1).1 + (cl xs[i].f0 xs[i].f1).2
      · rw [if_pos h2, decide_eq_true h2]; rfl
      · rw [if_neg h2, decide_eq_false h2]; rfl
    · rw [if_neg h1, decide_eq_false h1]; rfl
theorem rin_some (xs : List S25) (hr : InR xs) (t : Int) (hl : xs.length ≤ 9223372036854775806) (k : Nat) (hk : xs.length + 129 < k) : dasdref05_In.f k xs t = some (hasI xs t) := by
  have := rin_l0 xs hr t hl xs.length k 0 (by omega) hk
  rw [List.drop_zero] at this
  exact this
theorem rset_l0 (bs : List Bool) (hl : bs.length ≤ 128) (p : Nat → Bool) (hp : ∀ i, i < bs.length → bs.getD i false = p i) : ∀ (d k i : Nat), i + d = bs.length → d < k →
    dasdref05_set.l0 k bs (runsN p i) (i : Int) = some (runsN p bs.length) := by
  intro d
  induction d with
  | zero =>
    intro k i hi hk
    obtain ⟨k, rfl⟩ : ∃ m, k = m + 1 := ⟨k - 1, by omega⟩
    obtain rfl : i = bs.length := by omega
    simp only [dasdref05_set.l0]
    rw [if_neg (by omega)]
  | succ d ih =>
    intro k i hi hk
    obtain ⟨k, rfl⟩ : ∃ m, k = m + 1 := ⟨k - 1, by omega⟩
    have hlt : i < bs.length := by omega
    have hw : wrap64 ((i : Int) + 1) = ((i + 1 : Nat) : Int) := by rw [w64 (by omega) (by omega)]; omega
    have hr : rdOf false bs (i : Int) = p i := by rw [← hp i hlt]; simp [rdOf]
    have hlen := runsN_length p i
    have ih' := ih k (i + 1) (by omega) (by omega)
    simp only [dasdref05_set.l0]
    rw [if_pos (by omega), if_pos (by omega), hr, hw]
    rw [runsN, runStep] at ih'
    by_cases h1 : p i = true
    · rw [if_pos h1] at ih' ⊢
      by_cases h0 : 0 < i
      · have hw2 : wrap64 ((i : Int) - 1) = ((i - 1 : Nat) : Int) := by rw [w64 (by omega) (by omega)]; omega
        have hr2 : rdOf false bs ((i - 1 : Nat) : Int) = p (i - 1) := by rw [← hp (i - 1) (by omega)]; simp [rdOf]
        rw [if_pos (by omega), hw2, if_pos (by omega), if_pos (by omega), hr2]
        by_cases h2 : p (i - 1) = true
        · rw [if_pos ⟨h0, h2⟩] at ih'
          obtain ⟨m, rfl⟩ : ∃ m, i = m + 1 := ⟨i - 1, by omega⟩
          have hne := runsN_ne p m (by simpa using h2)
          have hpos := List.length_pos_iff.2 hne
          have hw3 : wrap64 (((runsN p (m + 1)).length : Int) - 1) = (((runsN p (m + 1)).length - 1 : Nat) : Int) := by rw [w64 (by omega) (by omega)]; omega
          have hmem : (runsN p (m + 1)).getD ((runsN p (m + 1)).length - 1) z25 ∈ runsN p (m + 1) := lastR_mem _ hne
          have hb := runsN_bd p (m + 1) _ hmem
          rw [if_pos h2, hw3, if_pos (by omega), if_pos (by omega), Int.toNat_natCast]
          rw [incL] at ih'
          have hrd : rd_T25 (runsN p (m + 1)) (((runsN p (m + 1)).length - 1 : Nat) : Int) = (runsN p (m + 1)).getD ((runsN p (m + 1)).length - 1) z25 := by simp [rd_T25]
          rw [hrd, w64 (x := _ + 1) (by omega) (by omega)]
          exact ih'
        · rw [if_neg (fun h => h2 h.2)] at ih'
          rw [if_neg h2, if_pos (by omega)]
          exact ih'
      · rw [if_neg (fun h => h0 h.1)] at ih'
        rw [if_neg (by omega), if_pos (by omega)]
        exact ih'
    · rw [if_neg h1] at ih' ⊢
      exact ih'
theorem rset_some (bs : List Bool) (hl : bs.length ≤ 128) (p : Nat → Bool) (hp : ∀ i, i < bs.length → bs.getD i false = p i) (k : Nat) (hk : bs.length < k) : dasdref05_set.f k bs = some (runsN p bs.length) :=
  rset_l0 bs hl p hp bs.length k 0 (by omega) hk
def comb (o1 o2 o3 x y : Bool) : Bool := if x = true then (if y = true then o3 else o1) else (if y = true then o2 else false)
theorem rSet_l0 (xs ys : List S25) (hx : InR xs) (hy : InR ys) (o1 o2 o3 : Bool) (n : Nat) (hn : n ≤ 1000000000) (hxl : xs.length ≤ n) (hyl : ys.length ≤ n) : ∀ (d k i : Nat), i + d = 128 → d + n + 260 < k →
    dasdref05_Set.l0 k xs ys o1 o2 o3 ((List.range i).map fun t => comb o1 o2 o3 (hasT xs t) (hasT ys t)) (i : Int) = some (runsOf fun t => comb o1 o2 o3 (hasT xs t) (hasT ys t)) := by
  intro d
  induction d with
  | zero =>
    intro k i hi hk
    obtain ⟨k, rfl⟩ : ∃ m, k = m + 1 := ⟨k - 1, by omega⟩
    obtain rfl : i = 128 := by omega
    simp only [dasdref05_Set.l0]
    rw [if_neg (by omega), rset_some _ (by simp) (fun t => comb o1 o2 o3 (hasT xs t) (hasT ys t)) (fun i hi => ?_) k (by simp; omega)]
    · simp [runsOf]
    · simp at hi
      simp [hi]
  | succ d ih =>
    intro k i hi hk
    obtain ⟨k, rfl⟩ : ∃ m, k = m + 1 := ⟨k - 1, by omega⟩
    have hw : wrap64 ((i : Int) + 1) = ((i + 1 : Nat) : Int) := by rw [w64 (by omega) (by omega)]; omega
    have ih' := ih k (i + 1) (by omega) (by omega)
    rw [List.range_succ, List.map_append, List.map_cons, List.map_nil] at ih'
    simp only [dasdref05_Set.l0]
    rw [if_pos (by omega), rin_some xs hx i (by omega) k (by omega), Option.bind_some, rin_some ys hy i (by omega) k (by omega), Option.bind_some, hw, hasI_nat, hasI_nat]
    have hlen : ((List.range i).map fun t => comb o1 o2 o3 (hasT xs t) (hasT ys t)).length < 140737488355328 := by simp; omega
    rw [if_pos hlen, if_pos hlen, if_pos hlen]
    generalize ((List.range i).map fun t => comb o1 o2 o3 (hasT xs t) (hasT ys t)) = L at ih' ⊢
    generalize (runsOf fun t => comb o1 o2 o3 (hasT xs t) (hasT ys t)) = R at ih' ⊢
    generalize hasT xs i = x at ih' ⊢
    generalize hasT ys i = y at ih' ⊢
    unfold comb at ih'
    cases x <;> cases y <;> cases o1 <;> cases o2 <;> simpa using ih'
theorem rSet_some (xs ys : List S25) (hx : InR xs) (hy : InR ys) (o1 o2 o3 : Bool) (n : Nat) (hn : n ≤ 1000000000) (hxl : xs.length ≤ n) (hyl : ys.length ≤ n) (k : Nat) (hk : n + 400 < k) :
    dasdref05_Set.f k xs ys o1 o2 o3 = some (runsOf fun t => comb o1 o2 o3 (hasT xs t) (hasT ys t)) :=
  rSet_l0 xs ys hx hy o1 o2 o3 n hn hxl hyl 128 k 0 (by omega) (by omega)
theorem InR_nil : InR [] := fun r h => by simp at h
theorem rNormal_some (xs : List S25) (hx : InR xs) (n : Nat) (hn : n ≤ 1000000000) (hxl : xs.length ≤ n) (k : Nat) (hk : n + 400 < k) : dasdref05_Normal.f k xs = some (runsOf (hasT xs)) := by
  unfold dasdref05_Normal.f
  rw [rSet_some xs [] hx InR_nil true false false n hn hxl (by simp) k hk, Option.bind_some]
  refine congrArg some (runsOf_congr fun t _ => ?_)
  unfold comb
  cases hasT xs t <;> rfl
end Go.Proofs.Ytghpmenoiimpoaa.P
