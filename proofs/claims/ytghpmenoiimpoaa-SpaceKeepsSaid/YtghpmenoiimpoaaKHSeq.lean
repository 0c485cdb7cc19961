import Derived.Test.YtghpmenoiimpoaaKHCut
namespace Go.Proofs.Ytghpmenoiimpoaa.P
open Go.RowKit Go.Proofs.YtghpmenoiimpoaaW.PrintWords Go.Proofs.YtghpmenoiimpoaaW.PrintLast Go.Proofs.YtghpmenoiimpoaaW.PrintMore
set_option linter.unusedVariables false
def segI (p : Int) (k : Nat) : List Int := (List.range k).map fun i : Nat => p + (i : Int)
def seqR (r : S25) : List Int := segI (cl r.f0 r.f1).1 (cl r.f0 r.f1).2.toNat
def seqP : List S25 → List Int
  | [] => []
  | r :: l => seqR r ++ seqP l
theorem segI_length (p : Int) (k : Nat) : (segI p k).length = k := by simp [segI]
theorem segI_succ (p : Int) (k : Nat) : segI p (k + 1) = segI p k ++ [p + (k : Int)] := by simp [segI, List.range_succ]
theorem segI_add (p : Int) (a : Nat) : ∀ b, segI p (a + b) = segI p a ++ segI (p + (a : Int)) b
  | 0 => by simp [segI]
  | b + 1 => by
    rw [show a + (b + 1) = (a + b) + 1 by omega, segI_succ, segI_add p a b, segI_succ, List.append_assoc]
    congr 3
    omega
theorem seqP_append (a b : List S25) : seqP (a ++ b) = seqP a ++ seqP b := by
  induction a with
  | nil => rfl
  | cons r a ih => simp only [List.cons_append, seqP, ih, List.append_assoc]
theorem seqR_of (p q : Int) (h0 : 0 ≤ p) (h1 : 0 ≤ q) (h2 : p + q ≤ 128) : seqR ⟨p, q⟩ = segI p q.toNat := by
  unfold seqR
  by_cases h : q = 0
  · subst h
    have : cl p 0 = (0, 0) := by unfold cl; rw [if_pos (by omega)]
    dsimp only
    rw [this]
    rfl
  · dsimp only
    rw [cl_id p q h0 (by omega) h2]
theorem seqP_one (p q : Int) (h0 : 0 ≤ p) (h1 : 0 ≤ q) (h2 : p + q ≤ 128) : seqP [⟨p, q⟩] = segI p q.toNat := by
  simp only [seqP, List.append_nil]
  exact seqR_of p q h0 h1 h2
theorem segI_mem {p : Int} {k : Nat} {t : Int} : t ∈ segI p k ↔ p ≤ t ∧ t < p + k := by
  unfold segI
  rw [List.mem_map]
  constructor
  · rintro ⟨i, hi, rfl⟩
    have := List.mem_range.1 hi
    omega
  · rintro ⟨h1, h2⟩
    exact ⟨(t - p).toNat, List.mem_range.2 (by omega), by omega⟩
theorem seqP_bd : ∀ (l : List S25) (t : Int), t ∈ seqP l → 0 ≤ t ∧ t < 128
  | [], t, h => by simp [seqP] at h
  | r :: l, t, h => by
    have hc := cl_bd r.f0 r.f1
    simp only [seqP] at h
    rcases List.mem_append.1 h with h | h
    · have := segI_mem.1 h
      omega
    · exact seqP_bd l t h
theorem sizeP_seq : ∀ l, sizeP l = ((seqP l).length : Int)
  | [] => rfl
  | r :: l => by
    have hc := cl_bd r.f0 r.f1
    simp only [sizeP, seqP, List.length_append, seqR, segI_length]
    rw [sizeP_seq l]
    omega
theorem segI_count (p t : Int) : ∀ k, ((segI p k).count t : Int) = if p ≤ t ∧ t < p + (k : Int) then 1 else 0
  | 0 => by
    rw [if_neg (by omega)]; rfl
  | k + 1 => by
    rw [segI_succ, List.count_append, List.count_singleton]
    have ih := segI_count p t k
    by_cases h : p + (k : Int) = t
    · rw [if_neg (by omega)] at ih
      rw [if_pos (by simpa using h), if_pos (by omega)]
      omega
    · rw [if_neg (by simpa using h)]
      by_cases h2 : p ≤ t ∧ t < p + (k : Int)
      · rw [if_pos h2] at ih
        rw [if_pos (by omega)]
        omega
      · rw [if_neg h2] at ih
        rw [if_neg (by omega)]
        omega
theorem mult_count (t : Nat) : ∀ l, mult l t = ((seqP l).count (t : Int) : Int)
  | [] => rfl
  | r :: l => by
    have hc := cl_bd r.f0 r.f1
    simp only [mult, seqP, List.count_append]
    rw [mult_count t l]
    have := segI_count (cl r.f0 r.f1).1 (t : Int) (cl r.f0 r.f1).2.toNat
    unfold seqR
    rw [show (((cl r.f0 r.f1).2.toNat : Nat) : Int) = (cl r.f0 r.f1).2 by omega] at this
    unfold cntR
    omega
def canonStep (acc : List S25) (t : Int) : List S25 := if acc ≠ [] ∧ (lastR acc).f0 + (lastR acc).f1 = t then addL acc 1 else acc ++ [⟨t, 1⟩]
theorem canon_seg (acc : List S25) (p : Int) : ∀ k : Nat, (segI p (k + 1)).foldl canonStep acc = if acc ≠ [] ∧ (lastR acc).f0 + (lastR acc).f1 = p then addL acc ((k + 1 : Nat) : Int) else acc ++ [⟨p, ((k + 1 : Nat) : Int)⟩]
  | 0 => by
    rw [segI_succ]
    simp only [segI, List.range_zero, List.map_nil, List.nil_append, List.foldl_cons, List.foldl_nil]
    rw [show p + ((0 : Nat) : Int) = p by omega]
    rfl
  | k + 1 => by
    rw [segI_succ, List.foldl_append, canon_seg acc p k]
    simp only [List.foldl_cons, List.foldl_nil]
    by_cases h : acc ≠ [] ∧ (lastR acc).f0 + (lastR acc).f1 = p
    · rw [if_pos h, if_pos h]
      obtain ⟨i, x, rfl⟩ := list_snoc acc h.1
      have h2 := h.2
      rw [lastR_snoc] at h2
      rw [addL_snoc, addL_snoc, canonStep, lastR_snoc, if_pos ⟨by simp, by dsimp only; omega⟩, addL_snoc]
      congr 3
      dsimp only
      omega
    · rw [if_neg h, if_neg h, canonStep, lastR_snoc, if_pos ⟨by simp, by dsimp only⟩, addL_snoc]
      rfl
theorem joinStep_canon (acc : List S25) (r : S25) : joinStep acc r = (seqR r).foldl canonStep acc := by
  have hc := cl_bd r.f0 r.f1
  unfold joinStep seqR
  by_cases h : (cl r.f0 r.f1).2 = 0
  · rw [if_pos h, h]
    rfl
  · obtain ⟨k, hk⟩ : ∃ k, (cl r.f0 r.f1).2.toNat = k + 1 := ⟨(cl r.f0 r.f1).2.toNat - 1, by omega⟩
    rw [if_neg h, hk, canon_seg, show ((k + 1 : Nat) : Int) = (cl r.f0 r.f1).2 by omega]
theorem join_canon : ∀ (l acc : List S25), l.foldl joinStep acc = (seqP l).foldl canonStep acc
  | [], _ => rfl
  | r :: l, acc => by
    simp only [List.foldl_cons, seqP, List.foldl_append]
    rw [joinStep_canon, join_canon l]
theorem joinP_canon (l : List S25) : joinP l = (seqP l).foldl canonStep [] := join_canon l []
theorem seq_canonStep (acc : List S25) (hex : Ex acc) (t : Int) (h0 : 0 ≤ t) (h1 : t < 128) : Ex (canonStep acc t) ∧ seqP (canonStep acc t) = seqP acc ++ [t] := by
  unfold canonStep
  by_cases h : acc ≠ [] ∧ (lastR acc).f0 + (lastR acc).f1 = t
  · rw [if_pos h]
    obtain ⟨i, x, rfl⟩ := list_snoc acc h.1
    have h2 := h.2
    rw [lastR_snoc] at h2
    have hx := hex x (by simp)
    rw [addL_snoc]
    refine ⟨fun q hq => ?_, ?_⟩
    · rcases List.mem_append.1 hq with hq | hq
      · exact hex q (by simp [hq])
      · obtain rfl := List.mem_singleton.1 hq
        dsimp only; omega
    · rw [seqP_append, seqP_append, seqP_one _ _ hx.1 (by omega) (by omega), show ([x] : List S25) = [⟨x.f0, x.f1⟩] from rfl, seqP_one _ _ hx.1 (by omega) (by omega), show (x.f1 + 1).toNat = x.f1.toNat + 1 by omega, segI_succ, List.append_assoc]
      congr 3
      omega
  · rw [if_neg h]
    refine ⟨fun q hq => ?_, ?_⟩
    · rcases List.mem_append.1 hq with hq | hq
      · exact hex q hq
      · obtain rfl := List.mem_singleton.1 hq
        dsimp only; omega
    · rw [seqP_append, seqP_one _ _ h0 (by omega) (by omega)]
      congr 1
      simp [segI]
theorem seq_canon : ∀ (s : List Int) (acc : List S25), Ex acc → (∀ t ∈ s, 0 ≤ t ∧ t < 128) → seqP (s.foldl canonStep acc) = seqP acc ++ s
  | [], acc, _, _ => by simp
  | t :: s, acc, hex, hs => by
    have h := seq_canonStep acc hex t (hs t (by simp)).1 (hs t (by simp)).2
    simp only [List.foldl_cons]
    rw [seq_canon s _ h.1 (fun q hq => hs q (by simp [hq])), h.2, List.append_assoc]
    rfl
theorem seq_joinP (l : List S25) : seqP (joinP l) = seqP l := by
  rw [joinP_canon, seq_canon _ _ (fun r hr => by simp at hr) (seqP_bd l)]
  rfl
theorem joinP_of_seq {a b : List S25} (h : seqP a = seqP b) : joinP a = joinP b := by rw [joinP_canon, joinP_canon, h]
theorem segI_take (p : Int) (a b : Nat) (h : a ≤ b) : (segI p b).take a = segI p a := by
  obtain ⟨c, rfl⟩ : ∃ c, b = a + c := ⟨b - a, by omega⟩
  rw [segI_add, List.take_append_of_le_length (by rw [segI_length]; omega), List.take_of_length_le (by rw [segI_length]; omega)]
theorem segI_drop (p : Int) (a b : Nat) (h : a ≤ b) : (segI p b).drop a = segI (p + (a : Int)) (b - a) := by
  obtain ⟨c, rfl⟩ : ∃ c, b = a + c := ⟨b - a, by omega⟩
  rw [segI_add, List.drop_append_of_le_length (by rw [segI_length]; omega), List.drop_of_length_le (by rw [segI_length]; omega), List.nil_append, show a + c - a = c by omega]
theorem seq_cutK : ∀ (l : List S25) (n : Int), 0 ≤ n → seqP (cutK n l) = (seqP l).take n.toNat
  | [], n, _ => by simp [cutK, seqP]
  | r :: l, n, h => by
    have hc := cl_bd r.f0 r.f1
    have hn := cutN_bd n r h
    simp only [cutK, seqP]
    rw [seqR_of _ _ hc.1 hn.1 (by omega), seq_cutK l _ (by omega), List.take_append]
    unfold seqR
    rw [segI_length]
    rcases hn.2.2.2 with e | e
    · rw [e, segI_take _ _ _ (by omega), show (n - n).toNat = 0 by omega, show n.toNat - (cl r.f0 r.f1).2.toNat = 0 by omega]
    · rw [e, List.take_of_length_le (l := segI (cl r.f0 r.f1).1 (cl r.f0 r.f1).2.toNat) (by rw [segI_length]; omega), show (n - (cl r.f0 r.f1).2).toNat = n.toNat - (cl r.f0 r.f1).2.toNat by omega]
theorem seq_cutRest : ∀ (l : List S25) (n : Int), 0 ≤ n → seqP (cutRest n l) = (seqP l).drop n.toNat
  | [], n, _ => by simp [cutRest, seqP]
  | r :: l, n, h => by
    have hc := cl_bd r.f0 r.f1
    have hn := cutN_bd n r h
    simp only [cutRest, seqP]
    rw [seqR_of _ _ (by omega) (by omega) (by omega), seq_cutRest l _ (by omega), List.drop_append]
    unfold seqR
    rw [segI_length]
    rcases hn.2.2.2 with e | e
    · rw [e, segI_drop _ _ _ (by omega), show (n - n).toNat = 0 by omega, show n.toNat - (cl r.f0 r.f1).2.toNat = 0 by omega, show ((n.toNat : Nat) : Int) = n by omega, show ((cl r.f0 r.f1).2 - n).toNat = (cl r.f0 r.f1).2.toNat - n.toNat by omega]
    · rw [e, show ((cl r.f0 r.f1).2 - (cl r.f0 r.f1).2).toNat = 0 by omega, List.drop_of_length_le (l := segI (cl r.f0 r.f1).1 (cl r.f0 r.f1).2.toNat) (by rw [segI_length]; omega), show (n - (cl r.f0 r.f1).2).toNat = n.toNat - (cl r.f0 r.f1).2.toNat by omega]
      rfl
theorem hasT_seq (l : List S25) (t : Nat) : hasT l t = decide ((t : Int) ∈ seqP l) := by
  rw [hasT_mult, mult_count]
  refine decide_eq_decide.2 ?_
  rw [← List.count_pos_iff]
  omega
theorem hasT_joinP (l : List S25) (t : Nat) : hasT (joinP l) t = hasT l t := by rw [hasT_seq, hasT_seq, seq_joinP]
end Go.Proofs.Ytghpmenoiimpoaa.P
