import Derived.Test.YtghpmenoiimpoaaSHRefB
import Derived.Test.YtghpmenoiimpoaaSHExtend
import Derived.Test.YtghpmenoiimpoaaSPx8
namespace Go.Proofs.Ytghpmenoiimpoaa.P
open Go.RowKit Go.Proofs.YtghpmenoiimpoaaW.PrintWords Go.Proofs.YtghpmenoiimpoaaW.PrintLast Go.Proofs.YtghpmenoiimpoaaW.PrintMore
set_option linter.unusedVariables false
theorem rjoin_l0 (xs : List S25) (hl : xs.length < 8796093022208) (hr : InR xs) : ∀ (d k i : Nat) (acc : List S25), i + d = xs.length → d + 129 < k → Ex acc → acc.length ≤ i →
    dasdref05_Join.l0 k xs acc (i : Int) = some ((xs.drop i).foldl joinStep acc) := by
  intro d
  induction d with
  | zero =>
    intro k i acc hi hk _ _
    obtain ⟨k, rfl⟩ : ∃ m, k = m + 1 := ⟨k - 1, by omega⟩
    rw [List.drop_eq_nil_of_le (by omega), dasdref05_Join.l0, if_neg (by omega)]
    rfl
  | succ d ih =>
    intro k i acc hi hk hex hal
    obtain ⟨k, rfl⟩ : ∃ m, k = m + 1 := ⟨k - 1, by omega⟩
    have hlt : i < xs.length := by omega
    have hw : wrap64 ((i : Int) + 1) = ((i + 1 : Nat) : Int) := by rw [w64 (by omega) (by omega)]; omega
    have hb := cl_bd xs[i].f0 xs[i].f1
    have hri := hr xs[i] (List.getElem_mem hlt)
    rw [List.drop_eq_getElem_cons hlt, List.foldl_cons]
    have ih' := ih k (i + 1) (joinStep acc xs[i]) (by omega) (by omega) (joinStep_ex hex _) (by have := joinStep_length acc xs[i]; omega)
    rw [← ih', dasdref05_Join.l0, if_pos (by omega), if_pos (by omega), rd_at xs i hlt, rclip_some _ _ hri.1 hri.2 k (by omega), Option.bind_some, hw]
    dsimp only
    by_cases h1 : (cl xs[i].f0 xs[i].f1).2 = 0
    · rw [if_pos h1, show joinStep acc xs[i] = acc from if_pos h1]
    · rw [if_neg h1]
      by_cases h2 : acc = []
      · subst h2
        have e : joinStep [] xs[i] = [] ++ [⟨(cl xs[i].f0 xs[i].f1).1, (cl xs[i].f0 xs[i].f1).2⟩] := by rw [joinStep, if_neg h1, if_neg (by simp)]
        rw [e, if_neg (by simp), if_pos (by simp)]
      · have hp := List.length_pos_iff.2 h2
        have hw2 : wrap64 ((acc.length : Int) - 1) = ((acc.length - 1 : Nat) : Int) := by rw [w64 (by omega) (by omega)]; omega
        have hm := hex _ (lastR_mem acc h2)
        rw [hw2, if_pos (by omega), if_pos (by omega), if_pos (by omega), Int.toNat_natCast, show rd_T25 acc ((acc.length - 1 : Nat) : Int) = lastR acc from by simp [rd_T25, lastR]]
        rw [w64 (x := (lastR acc).f0 + (lastR acc).f1) (by omega) (by omega)]
        by_cases h3 : (lastR acc).f0 + (lastR acc).f1 = (cl xs[i].f0 xs[i].f1).1
        · rw [if_pos h3, show joinStep acc xs[i] = addL acc (cl xs[i].f0 xs[i].f1).2 from by rw [joinStep, if_neg h1, if_pos ⟨h2, h3⟩], w64 (by omega) (by omega)]
          rfl
        · rw [if_neg h3, show joinStep acc xs[i] = acc ++ [⟨(cl xs[i].f0 xs[i].f1).1, (cl xs[i].f0 xs[i].f1).2⟩] from by rw [joinStep, if_neg h1, if_neg (fun h => h3 h.2)], if_pos (by omega)]
theorem rjoin_some (l : List S25) (hl : l.length < 8796093022208) (hr : InR l) (k : Nat) (hk : l.length + 129 < k) : dasdref05_Join.f k l = some (joinP l) := by
  unfold dasdref05_Join.f joinP
  have := rjoin_l0 l hl hr l.length k 0 [] (by omega) (by omega) (fun r hr => by simp at hr) (by simp)
  rw [List.drop_zero] at this
  exact this
theorem rminus_some (xs ys : List S25) (hx : InR xs) (hy : InR ys) (n : Nat) (hn : n ≤ 1000000000) (hxl : xs.length ≤ n) (hyl : ys.length ≤ n) (k : Nat) (hk : n + 400 < k) :
    dasdref06_minus.f k xs ys = some (minusP xs ys) := by
  unfold dasdref06_minus.f minusP
  rw [rSet_some xs ys hx hy true false false n hn hxl hyl k hk, Option.bind_some]
  refine congrArg some (runsOf_congr fun t _ => ?_)
  unfold comb
  cases hasT xs t <;> cases hasT ys t <;> rfl
theorem Ex_InR {l : List S25} (h : Ex l) : InR l := fun r hr => by have := h r hr; unfold InI; omega
theorem runsOf_Ex (p : Nat → Bool) : Ex (runsOf p) := runsOf_bd p
theorem hasT_append (a b : List S25) (t : Nat) : hasT (a ++ b) t = (hasT a t || hasT b t) := by simp [hasT, List.any_append]
theorem hasT_one (f c : Int) (h0 : 0 ≤ f) (h1 : 1 ≤ c) (h2 : f + c ≤ 128) (t : Nat) : hasT [⟨f, c⟩] t = (decide (f ≤ t) && decide ((t : Int) < f + c)) := by
  simp only [hasT, List.any_cons, List.any_nil, Bool.or_false]
  rw [cl_id f c h0 h1 h2]
theorem set_last (i : List S25) (x y : S25) : (i ++ [x]).set ((i ++ [x]).length - 1) y = i ++ [y] := by
  rw [show (i ++ [x]).length - 1 = i.length by simp, List.set_append]
  simp
theorem hasT_grown (l : List S25) (hne : l ≠ []) (hex : Ex l) (c : Int) (h1 : (lastR l).f1 ≤ c) (h2 : (lastR l).f0 + c ≤ 128) (t : Nat) :
    hasT (l.set (l.length - 1) ⟨(lastR l).f0, c⟩) t = (hasT l t || (decide ((lastR l).f0 + (lastR l).f1 ≤ t) && decide ((t : Int) < (lastR l).f0 + c))) := by
  obtain ⟨i, x, rfl⟩ := list_snoc l hne
  have hx := hex x (by simp)
  rw [lastR_snoc] at *
  rw [set_last, hasT_append, hasT_append, hasT_one x.f0 c (by omega) (by omega) (by omega)]
  have := hasT_one x.f0 x.f1 (by omega) (by omega) (by omega) t
  rw [show ([x] : List S25) = [⟨x.f0, x.f1⟩] from rfl, this, Bool.or_assoc]
  congr 1
  rw [← Bool.decide_and, ← Bool.decide_and, ← Bool.decide_and, ← Bool.decide_or]
  exact decide_eq_decide.2 (by omega)
theorem allocP_congr {a b : List S25} (h : ∀ t, t < 128 → hasT a t = hasT b t) (n most : Int) : allocP a n most = allocP b n most := by
  unfold allocP bestP
  rw [runsOf_congr h]
theorem allocP_err (l : List S25) (n most : Int) (h1 : 1 ≤ n) (h2 : 1 ≤ most) (h : (allocP l n most).2 ≠ 0) : (allocP l n most).2 = 14 := by
  unfold allocP at h ⊢
  rw [if_neg (by omega)] at h ⊢
  split
  · rename_i h3
    rw [if_pos h3] at h
    exact absurd rfl h
  · rename_i h3
    rw [if_neg h3] at h
    unfold allocFin at h ⊢
    split
    · rfl
    · rename_i h4
      rw [if_neg h4] at h
      exact absurd rfl h
theorem takeGo_InR : ∀ (l : List S25) (n : Int) (acc : List S25), (∀ r ∈ l, 0 ≤ r.f0 ∧ 1 ≤ r.f1 ∧ r.f0 + r.f1 ≤ 128) → 0 ≤ n → n ≤ 9223372036854775807 → InR acc → InR (takeGo n acc l).1
  | [], n, acc, _, _, _, ha => ha
  | r :: rs, n, acc, hb, h0, h1, ha => by
    rw [takeGo]
    split
    · exact ha
    · have hr := hb r (by simp)
      have hm : 0 ≤ mn r.f1 n ∧ mn r.f1 n ≤ 128 ∧ mn r.f1 n ≤ n := by unfold mn; split <;> omega
      rw [w64 (by omega) (by omega)]
      refine takeGo_InR rs _ _ (fun q hq => hb q (by simp [hq])) (by omega) (by omega) fun q hq => ?_
      rcases List.mem_append.1 hq with hq | hq
      · exact ha q hq
      · obtain rfl := List.mem_singleton.1 hq
        unfold InI
        dsimp only
        omega
theorem bestGo_mem (n : Int) : ∀ (l : List S25) (b : S25), bestGo n b l = b ∨ bestGo n b l ∈ l
  | [], b => .inl rfl
  | r :: rs, b => by
    rw [bestGo]
    rcases bestGo_mem n rs (if r.f1 ≥ n ∧ (b.f1 = 0 ∨ r.f1 < b.f1) then r else b) with h | h
    · rw [h]
      split
      · exact .inr (by simp)
      · exact .inl rfl
    · exact .inr (List.mem_cons_of_mem _ h)
theorem allocP_InR (l : List S25) (n most : Int) (hn : InI n) : InR (allocP l n most).1 := by
  unfold allocP
  split
  · exact InR_nil
  · rename_i h
    split
    · intro r hr
      obtain rfl := List.mem_singleton.1 hr
      unfold bestP bestFin
      rcases bestGo_mem n (runsOf (hasT l)) ⟨0, 0⟩ with hb | hb
      · rw [if_neg (by omega), hb, if_pos rfl]
        exact ⟨⟨by decide, by decide⟩, ⟨by decide, by decide⟩⟩
      · have := runsOf_bd _ _ hb
        rw [if_neg (by omega)]
        split
        · exact ⟨⟨by decide, by decide⟩, ⟨by decide, by decide⟩⟩
        · exact ⟨by unfold InI; dsimp only; omega, hn⟩
    · unfold allocFin
      split
      · exact InR_nil
      · have hp := sortR_perm (l := runsOf (hasT l)) (fun r hr => by have := runsOf_bd _ r hr; omega)
        exact takeGo_InR _ _ _ (fun r hr => runsOf_bd _ r (hp.mem_iff.1 hr)) (by omega) hn.2 InR_nil
section
variable (l fr : List S25) (hne : l ≠ []) (hex : Ex l) (hll : l.length ≤ 100000) (hfd : ∀ t, hasT fr t = true → hasT l t = false)
include hne hex hll hfd
theorem rext_j2 (k : Nat) (hk : 200000 < k) (c m : Int) (left : List S25) (hlx : Ex left) (hl0 : left.length ≤ 128) (h1 : (lastR l).f1 ≤ c) (h2 : (lastR l).f0 + c ≤ 128) (hm0 : 0 ≤ m) (hm : InI m)
    (hs : ∀ t, t < 128 → hasT left t = (hasT fr t && !(decide ((lastR l).f0 + (lastR l).f1 ≤ t) && decide ((t : Int) < (lastR l).f0 + c)))) :
    dasdref06_Extend.j2 k m (l.set (l.length - 1) ⟨(lastR l).f0, c⟩) left = some ((extFin l.length fr (l.set (l.length - 1) ⟨(lastR l).f0, c⟩) m).1, (extFin l.length fr (l.set (l.length - 1) ⟨(lastR l).f0, c⟩) m).2) := by
  obtain ⟨k, rfl⟩ : ∃ q, k = q + 1 := ⟨k - 1, by omega⟩
  have hgr := fun t => hasT_grown l hne hex c h1 h2 t
  have hlast := hex _ (lastR_mem l hne)
  have hex2 : Ex (l.set (l.length - 1) ⟨(lastR l).f0, c⟩) := fun r hr => by
    rcases List.mem_or_eq_of_mem_set hr with hr | rfl
    · exact hex r hr
    · dsimp only; omega
  have hlen : (l.set (l.length - 1) (⟨(lastR l).f0, c⟩ : S25)).length = l.length := List.length_set ..
  generalize l.set (l.length - 1) (⟨(lastR l).f0, c⟩ : S25) = l2 at *
  have hcong : ∀ t, t < 128 → hasT left t = hasT (minusP fr l2) t := by
    intro t ht
    rw [hs t ht, minusP, hasT_runsOf _ t ht, hgr t]
    cases e : hasT fr t with
    | false => rfl
    | true => rw [hfd t e, Bool.false_or]
  rw [dasdref06_Extend.j2]
  unfold extFin
  by_cases hz : m = 0
  · rw [if_pos hz, if_pos hz]
  · rw [if_neg hz, if_neg hz, hlen, w64 (by omega) (by omega), ralloc_some left (Ex_InR hlx) 128 (by decide) hl0 m (16 - (l.length : Int)) hm k (by omega), Option.bind_some]
    dsimp only
    by_cases hk2 : 16 - (l.length : Int) < 1
    · have e : allocP left m (16 - (l.length : Int)) = ([], 1) := by unfold allocP; rw [if_pos (.inr hk2)]
      rw [if_pos hk2, e, if_neg (by decide)]
    · rw [if_neg hk2, allocP_congr hcong]
      have hal := allocP_length' (minusP fr l2) m (16 - (l.length : Int))
      have har := allocP_InR (minusP fr l2) m (16 - (l.length : Int)) hm
      by_cases he : (allocP (minusP fr l2) m (16 - (l.length : Int))).2 = 0
      · rw [if_pos he, if_pos he, if_pos (by omega), rjoin_some _ (by rw [List.length_append]; omega) (fun r hr => ?_) k (by rw [List.length_append]; omega)]
        · rfl
        · rcases List.mem_append.1 hr with hr | hr
          · exact Ex_InR hex2 r hr
          · exact har r hr
      · rw [if_neg he, if_neg he, allocP_err _ _ _ (by omega) (by omega) he]
theorem rext_l0 : ∀ (d k : Nat) (c n : Int) (left : List S25), (d : Int) + ((lastR l).f0 + c) = 128 → 200001 + d < k → Ex left → left.length ≤ 128 → (lastR l).f1 ≤ c → 0 ≤ n → InI n →
    (∀ t, t < 128 → hasT left t = (hasT fr t && !(decide ((lastR l).f0 + (lastR l).f1 ≤ t) && decide ((t : Int) < (lastR l).f0 + c)))) →
    dasdref06_Extend.l0 k n (l.set (l.length - 1) ⟨(lastR l).f0, c⟩) left ((l.length - 1 : Nat) : Int) =
      some ((extFin l.length fr (l.set (l.length - 1) ⟨(lastR l).f0, (growGo fr (lastR l).f0 d c n).1⟩) (growGo fr (lastR l).f0 d c n).2).1, (extFin l.length fr (l.set (l.length - 1) ⟨(lastR l).f0, (growGo fr (lastR l).f0 d c n).1⟩) (growGo fr (lastR l).f0 d c n).2).2) := by
  have hlast := hex _ (lastR_mem l hne)
  have hpos := List.length_pos_iff.2 hne
  intro d
  induction d with
  | zero =>
    intro k c n left hd hk hlx hl0 h1 hn0 hn hs
    obtain ⟨k, rfl⟩ : ∃ q, k = q + 1 := ⟨k - 1, by omega⟩
    have hj := rext_j2 l fr hne hex hll hfd k (by omega) c n left hlx hl0 h1 (by omega) hn0 hn hs
    rw [dasdref06_Extend.l0, growGo]
    by_cases hp : n > 0
    · have hrd : rd_T25 (l.set (l.length - 1) (⟨(lastR l).f0, c⟩ : S25)) ((l.length - 1 : Nat) : Int) = ⟨(lastR l).f0, c⟩ := by rw [rd_at _ _ (by rw [List.length_set]; omega), List.getElem_set_self]
      rw [if_pos hp, if_pos (by omega), if_pos (by rw [List.length_set]; omega), hrd]
      dsimp only
      rw [w64 (x := (lastR l).f0 + c) (by omega) (by omega), rin_some left (Ex_InR hlx) _ (by omega) k (by omega), Option.bind_some, hasI_wide _ _ (by omega), if_neg (by decide)]
      exact hj
    · rw [if_neg hp]
      exact hj
  | succ d ih =>
    intro k c n left hd hk hlx hl0 h1 hn0 hn hs
    obtain ⟨k, rfl⟩ : ∃ q, k = q + 1 := ⟨k - 1, by omega⟩
    have hj := rext_j2 l fr hne hex hll hfd k (by omega) c n left hlx hl0 h1 (by omega) hn0 hn hs
    obtain ⟨t0, ht0⟩ : ∃ t0 : Nat, (t0 : Int) = (lastR l).f0 + c := ⟨((lastR l).f0 + c).toNat, by omega⟩
    have ht0l : t0 < 128 := by omega
    have hsame : hasI left ((lastR l).f0 + c) = hasI fr ((lastR l).f0 + c) := by
      rw [← ht0, hasI_nat, hasI_nat, hs t0 ht0l]
      rw [show (decide ((t0 : Int) < (lastR l).f0 + c)) = false from decide_eq_false (by omega), Bool.and_false, Bool.not_false, Bool.and_true]
    rw [dasdref06_Extend.l0, growGo]
    by_cases hp : n > 0
    · have hrd : rd_T25 (l.set (l.length - 1) (⟨(lastR l).f0, c⟩ : S25)) ((l.length - 1 : Nat) : Int) = ⟨(lastR l).f0, c⟩ := by rw [rd_at _ _ (by rw [List.length_set]; omega), List.getElem_set_self]
      rw [if_pos hp, if_pos (by omega), if_pos (by rw [List.length_set]; omega), hrd]
      dsimp only
      rw [w64 (x := (lastR l).f0 + c) (by omega) (by omega), rin_some left (Ex_InR hlx) _ (by omega) k (by omega), Option.bind_some, hsame]
      by_cases hh : hasI fr ((lastR l).f0 + c) = true
      · have hone : Ex [⟨(lastR l).f0 + c, 1⟩] := fun r hr => by obtain rfl := List.mem_singleton.1 hr; dsimp only; omega
        rw [if_pos hh, if_pos ⟨hp, hh⟩, rminus_some left _ (Ex_InR hlx) (Ex_InR hone) 128 (by decide) hl0 (by simp) k (by omega), Option.bind_some, w64 (x := c + 1) (by omega) (by omega), Int.toNat_natCast, List.set_set]
        have hu := hn.2
        refine ih k (c + 1) _ _ (by omega) (by omega) (runsOf_Ex _) (runsOf_length _) (by omega) (by rw [w64 (by omega) (by omega)]; omega) (by rw [w64 (by omega) (by omega)]; unfold InI; omega) fun t ht => ?_
        rw [minusP, hasT_runsOf _ t ht, hs t ht, hasT_one _ _ (by omega) (by omega) (by omega)]
        cases hasT fr t with
        | false => rfl
        | true =>
          rw [Bool.true_and, Bool.true_and, ← Bool.decide_and, ← Bool.decide_and, ← Bool.decide_and, ← decide_not, ← decide_not, ← decide_not, ← Bool.decide_and]
          exact decide_eq_decide.2 (by omega)
      · rw [if_neg hh, if_neg (fun h => hh h.2)]
        exact hj
    · rw [if_neg hp, if_neg (fun h => hp h.1)]
      exact hj
end
theorem rext_some (ext free : List S25) (he : InR ext) (hf : InR free) (hel : ext.length ≤ 1000) (hfl : free.length ≤ 1000) (n : Int) (hn : InI n) (k : Nat) (hk : 300000 < k) :
    dasdref06_Extend.f k ext free n = some ((extP ext free n).1, (extP ext free n).2) := by
  obtain ⟨k, rfl⟩ : ∃ q, k = q + 1 := ⟨k - 1, by omega⟩
  have hjl := joinP_length ext
  have hex := joinP_ex ext
  unfold dasdref06_Extend.f extP
  rw [rjoin_some ext (by omega) he _ (by omega), Option.bind_some]
  generalize joinP ext = l at *
  by_cases h1 : n < 1
  · rw [if_pos h1, if_pos (.inl h1), dasdref06_Extend.j0, if_pos rfl]
  · rw [if_neg h1]
    by_cases h2 : l = []
    · subst h2
      rw [if_pos (.inr rfl), dasdref06_Extend.j0, if_pos (by decide)]
    · have hpos := List.length_pos_iff.2 h2
      have hlast := hex _ (lastR_mem l h2)
      rw [if_neg (fun h => h.elim h1 h2), dasdref06_Extend.j0, if_neg (by simp; omega), rminus_some free l hf (Ex_InR hex) 1000 (by decide) hfl (by omega) k (by omega), Option.bind_some, show wrap64 ((l.length : Int) - 1) = ((l.length - 1 : Nat) : Int) by rw [w64 (by omega) (by omega)]; omega]
      have hfd : ∀ t, hasT (minusP free l) t = true → hasT l t = false := by
        intro t ht
        by_cases h128 : t < 128
        · rw [minusP, hasT_runsOf _ t h128] at ht
          cases e : hasT l t with
          | false => rfl
          | true => rw [e] at ht; simp at ht
        · exact hasT_wide l t (by omega)
      have hset : l.set (l.length - 1) ⟨(lastR l).f0, (lastR l).f1⟩ = l := by
        obtain ⟨i, x, rfl⟩ := list_snoc l h2
        rw [lastR_snoc, set_last]
      have := rext_l0 l (minusP free l) h2 hex (by omega) hfd (128 - ((lastR l).f0 + (lastR l).f1)).toNat k (lastR l).f1 n (minusP free l) (by omega) (by omega) (runsOf_Ex _) (runsOf_length _) (by omega) (by omega) hn (fun t ht => by
        rw [show (decide ((lastR l).f0 + (lastR l).f1 ≤ (t : Int)) && decide ((t : Int) < (lastR l).f0 + (lastR l).f1)) = false from by rw [← Bool.decide_and]; exact decide_eq_false (by omega), Bool.not_false, Bool.and_true])
      rw [hset] at this
      exact this
end Go.Proofs.Ytghpmenoiimpoaa.P
