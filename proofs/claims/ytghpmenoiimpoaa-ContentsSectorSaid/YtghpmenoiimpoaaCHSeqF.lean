import Derived.Test.YtghpmenoiimpoaaCHSeq
import Derived.Test.YtghpmenoiimpoaaCHRefA
import Derived.Test.YtghpmenoiimpoaaCPx11
import Derived.Test.YtghpmenoiimpoaaCPx17
namespace Go.Proofs.Ytghpmenoiimpoaa.P
open Go.RowKit Go.Proofs.YtghpmenoiimpoaaW.PrintWords Go.Proofs.YtghpmenoiimpoaaW.PrintLast Go.Proofs.YtghpmenoiimpoaaW.PrintMore
set_option linter.unusedVariables false
theorem fseq_l1 (xs : List S25) (i : Nat) (p q : Int) (hp : 0 ≤ p) (hq : p + q ≤ 128) : ∀ (d k j : Nat) (acc : List Int), (j : Int) + d = q → acc.length + d ≤ 1000000000 →
    dasdref05_Sequence.l1 (k + d + 1) xs acc (i : Int) (j : Int) p q = dasdref05_Sequence.l0 k xs (acc ++ segI (p + j) d) (wrap64 ((i : Int) + 1)) := by
  intro d
  induction d with
  | zero =>
    intro k j acc hj ha
    rw [show k + 0 + 1 = k + 1 from rfl, dasdref05_Sequence.l1, if_neg (by omega), show segI (p + j) 0 = [] from rfl, List.append_nil]
  | succ d ih =>
    intro k j acc hj ha
    have hw : wrap64 ((j : Int) + 1) = ((j + 1 : Nat) : Int) := by rw [w64 (by omega) (by omega)]; omega
    have e := ih k (j + 1) (acc ++ [p + j]) (by omega) (by rw [List.length_append]; simp; omega)
    rw [show k + (d + 1) + 1 = (k + d + 1) + 1 by omega, dasdref05_Sequence.l1, if_pos (by omega), if_pos (by omega), hw, w64 (x := p + j) (by omega) (by omega), e, List.append_assoc]
    congr 2
    have h1 := segI_add (p + j) 1 d
    rw [show 1 + d = d + 1 by omega] at h1
    rw [h1, show segI (p + j) 1 = [p + j] from by simp [segI], List.singleton_append, List.singleton_append]
    congr 2
    omega
theorem fseq_l0 (xs : List S25) (hl : xs.length ≤ 1000000) (hx : InR xs) : ∀ (d k i : Nat) (acc : List Int), i + d = xs.length → 300 * d + 300 < k → acc.length ≤ 128 * i →
    dasdref05_Sequence.l0 k xs acc (i : Int) = some (acc ++ seqP (xs.drop i)) := by
  intro d
  induction d with
  | zero =>
    intro k i acc hi hk ha
    obtain ⟨k, rfl⟩ : ∃ m, k = m + 1 := ⟨k - 1, by omega⟩
    rw [List.drop_eq_nil_of_le (by omega), dasdref05_Sequence.l0, if_neg (by omega), seqP, List.append_nil]
  | succ d ih =>
    intro k i acc hi hk ha
    have hlt : i < xs.length := by omega
    have hw : wrap64 ((i : Int) + 1) = ((i + 1 : Nat) : Int) := by rw [w64 (by omega) (by omega)]; omega
    have hc := cl_bd xs[i].f0 xs[i].f1
    have hri := hx xs[i] (List.getElem_mem hlt)
    obtain ⟨q, hq⟩ : ∃ q : Nat, (q : Int) = (cl xs[i].f0 xs[i].f1).2 := ⟨(cl xs[i].f0 xs[i].f1).2.toNat, by omega⟩
    obtain ⟨k, rfl⟩ : ∃ m, k = m + q + 1 + 1 := ⟨k - q - 2, by omega⟩
    have e := fseq_l1 xs i (cl xs[i].f0 xs[i].f1).1 (cl xs[i].f0 xs[i].f1).2 hc.1 hc.2.2 q k 0 acc (by omega) (by omega)
    rw [show ((0 : Nat) : Int) = 0 from rfl, Int.add_zero] at e
    rw [dasdref05_Sequence.l0, if_pos (by omega), if_pos (by omega), rd_at xs i hlt, rclip_some _ _ hri.1 hri.2 _ (by omega), Option.bind_some, e, hw, ih k (i + 1) _ (by omega) (by omega) (by rw [List.length_append, segI_length]; omega), List.drop_eq_getElem_cons hlt, seqP, List.append_assoc, seqR, show (cl xs[i].f0 xs[i].f1).2.toNat = q by omega]
theorem fseq_some (l : List S25) (hl : l.length ≤ 1000000) (hx : InR l) (k : Nat) (hk : 300 * l.length + 300 < k) : dasdref05_Sequence.f k l = some (seqP l) := fseq_l0 l hl hx l.length k 0 [] (by omega) hk (by simp)
/-- The element of a list at a place, if there is one. -/
def atL (s : List Int) (i : Int) : Int × Bool := if i < (s.length : Int) then (rd s i, true) else (0, false)
theorem rat_some (l : List S25) (hl : l.length ≤ 1000000) (hx : InR l) (i : Int) (h0 : 0 ≤ i) (k : Nat) (hk : 300 * l.length + 300 < k) : dasdref05_At.f k l i = some (atL (seqP l) i) := by
  unfold dasdref05_At.f atL
  rw [fseq_some l hl hx k hk, Option.bind_some, if_neg (by omega)]
  by_cases h : i < ((seqP l).length : Int)
  · rw [if_neg (by omega), if_pos h0, if_pos h, if_pos h]
  · rw [if_pos (by omega), if_neg h]
theorem rd_left {a b : List Int} {i : Int} (h0 : 0 ≤ i) (h : i < a.length) : rd (a ++ b) i = rd a i := by
  unfold rd
  rw [List.getD_eq_getElem?_getD, List.getD_eq_getElem?_getD, List.getElem?_append_left (by omega)]
theorem rd_right {a b : List Int} {i : Int} (h : (a.length : Int) ≤ i) : rd (a ++ b) i = rd b (i - a.length) := by
  unfold rd
  rw [List.getD_eq_getElem?_getD, List.getD_eq_getElem?_getD, List.getElem?_append_right (by omega)]
  congr 2
  omega
theorem rd_segI (p : Int) (q : Nat) (i : Int) (h0 : 0 ≤ i) (h : i < q) : rd (segI p q) i = p + i := by
  obtain ⟨j, rfl⟩ : ∃ j : Nat, i = j := ⟨i.toNat, by omega⟩
  unfold rd segI
  rw [Int.toNat_natCast, List.getD_eq_getElem?_getD, List.getElem?_map, List.getElem?_range (by omega)]
  rfl
theorem at_l0 (xs : List S25) (hl : xs.length ≤ 1000000) : ∀ (d k i : Nat) (x : Int), i + d = xs.length → d + 4 < k → 0 ≤ x → x ≤ 9223372036854775807 →
    extent_At.l0 k x xs (xs.length : Int) (i : Int) = some (atL (seqP (xs.drop i)) x) := by
  intro d
  induction d with
  | zero =>
    intro k i x hi hk h0 h1
    obtain ⟨k, rfl⟩ : ∃ m, k = m + 1 := ⟨k - 1, by omega⟩
    rw [List.drop_eq_nil_of_le (by omega), extent_At.l0, if_neg (by omega), seqP, atL, if_neg (by simp; omega)]
  | succ d ih =>
    intro k i x hi hk h0 h1
    obtain ⟨k, rfl⟩ : ∃ m, k = m + 1 := ⟨k - 1, by omega⟩
    have hlt : i < xs.length := by omega
    have hw : wrap64 ((i : Int) + 1) = ((i + 1 : Nat) : Int) := by rw [w64 (by omega) (by omega)]; omega
    have hc := cl_bd xs[i].f0 xs[i].f1
    have hlen : ((seqR xs[i]).length : Int) = (cl xs[i].f0 xs[i].f1).2 := by rw [seqR, segI_length]; omega
    rw [extent_At.l0, if_pos (by omega), if_pos (by omega), if_pos (by omega), rd_at xs i hlt, clip_ge k _ _ (by omega), Option.bind_some, hw, List.drop_eq_getElem_cons hlt, seqP]
    dsimp only
    by_cases h : x < (cl xs[i].f0 xs[i].f1).2
    · rw [if_pos h, w64 (by omega) (by omega), atL, if_pos (by rw [List.length_append]; omega), rd_left h0 (by omega), seqR, rd_segI _ _ _ h0 (by omega)]
    · rw [if_neg h, w64 (by omega) (by omega), ih k (i + 1) _ (by omega) (by omega) (by omega) (by omega)]
      unfold atL
      rw [List.length_append]
      by_cases h2 : x - (cl xs[i].f0 xs[i].f1).2 < ((seqP (xs.drop (i + 1))).length : Int)
      · rw [if_pos h2, if_pos (by omega), rd_right (by omega), hlen]
      · rw [if_neg h2, if_neg (by omega)]
theorem at_some (l : List S25) (hl : l.length ≤ 1000000) (x : Int) (h0 : 0 ≤ x) (h1 : x ≤ 9223372036854775807) (k : Nat) (hk : l.length + 4 < k) : extent_At.f k l x = some (atL (seqP l) x) := by
  unfold extent_At.f
  rw [if_neg (by omega)]
  exact at_l0 l hl l.length k 0 x (by omega) hk h0 h1
/-- Of disjoint runs, no track occurs twice. -/
theorem dj_mult {l : List S25} (h : (sizeP l == cardT (hasT l)) = true) (t : Nat) (ht : t < 128) : mult l t ≤ 1 := by
  have h1 := beq_iff_eq.1 h
  rw [sizeP_mult] at h1
  have h2 := sumN_eq 128 (f := fun t => if hasT l t = true then 1 else 0) (g := mult l) (fun t _ => by
    have := mult_nonneg l t
    rw [hasT_mult]
    split
    · rename_i h3; exact of_decide_eq_true h3
    · exact this) h1.symm t ht
  rw [← h2]
  split <;> omega
theorem seqP_nodup {l : List S25} (h : (sizeP l == cardT (hasT l)) = true) : (seqP l).Nodup := by
  rw [List.nodup_iff_count]
  intro a
  by_cases ha : a ∈ seqP l
  · have hb := seqP_bd l a ha
    obtain ⟨t, rfl⟩ : ∃ t : Nat, a = t := ⟨a.toNat, by omega⟩
    have := dj_mult h t (by omega)
    rw [mult_count] at this
    omega
  · rw [List.count_eq_zero_of_not_mem ha]; omega
end Go.Proofs.Ytghpmenoiimpoaa.P
