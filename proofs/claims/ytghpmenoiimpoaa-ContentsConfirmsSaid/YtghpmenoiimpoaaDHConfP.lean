import Derived.Test.YtghpmenoiimpoaaDHChange
import Derived.Test.YtghpmenoiimpoaaDHRefs
import Derived.Test.YtghpmenoiimpoaaDHLawSector
import Derived.Test.YtghpmenoiimpoaaDPx23
import Derived.Test.YtghpmenoiimpoaaDPx2
import Derived.Test.YtghpmenoiimpoaaDPx9
import Derived.Test.YtghpmenoiimpoaaDPx11
namespace Go.Proofs.Ytghpmenoiimpoaa.P
open Go.RowKit Go.Proofs.YtghpmenoiimpoaaW.PrintWords Go.Proofs.YtghpmenoiimpoaaW.PrintLast Go.Proofs.YtghpmenoiimpoaaW.PrintMore
set_option linter.unusedVariables false
def keyP (x : S66) : Int × Bool := (x.f0, decide (0 < x.f1))
def apartP (x y : S66) : Prop := emptyP x = false → emptyP y = false → keyP x ≠ keyP y
theorem vLoop_apart (tr : Int) : ∀ (l : List S66) (seen : List (Int × Bool)) (all out : List S25), vLoop tr seen all l = some out → l.Pairwise apartP ∧ ∀ x ∈ l, emptyP x = false → keyP x ∉ seen
  | [], _, _, _, _ => ⟨List.Pairwise.nil, fun x hx => by cases hx⟩
  | x :: l, seen, all, out, h => by
    rw [vLoop] at h
    by_cases he : emptyP x = true
    · rw [if_pos he] at h
      obtain ⟨h1, h2⟩ := vLoop_apart tr l seen all out h
      refine ⟨List.Pairwise.cons (fun y hy hx => by rw [he] at hx; cases hx) h1, fun y hy hye => ?_⟩
      rcases List.mem_cons.1 hy with rfl | hy
      · rw [he] at hye; cases hye
      · exact h2 y hy hye
    · rw [if_neg he] at h
      by_cases hc : (labelOk x.f0 x.f1 x.f2 x.f3 x.f4 tr && !seen.contains (x.f0, decide (0 < x.f1))) = true
      · rw [if_pos hc] at h
        obtain ⟨h1, h2⟩ := vLoop_apart tr l _ _ out h
        have h3 : keyP x ∉ seen := fun hm => by
          rw [Bool.and_eq_true] at hc
          have h4 := hc.2
          rw [show seen.contains (x.f0, decide (0 < x.f1)) = true from List.contains_iff_mem.2 hm] at h4
          cases h4
        refine ⟨List.Pairwise.cons (fun y hy _ hye e => h2 y hy hye (by rw [← e]; exact List.mem_append_right _ (List.mem_singleton.2 rfl))) h1, fun y hy hye => ?_⟩
        rcases List.mem_cons.1 hy with rfl | hy
        · exact h3
        · exact fun hm => h2 y hy hye (List.mem_append_left _ hm)
      · rw [if_neg hc] at h
        cases h
theorem tableOk_apart {nm : ByteArray} {tr : Int} {ls : List S66} (h : tableOk nm tr ls = true) : ls.Pairwise apartP := by
  obtain ⟨out, h1, _⟩ := tableOk_loop h
  exact (vLoop_apart tr ls _ _ _ h1).1
theorem refP_iff {id u : Int} {x : S66} : refP id u x = true ↔ id ≠ 0 ∧ x.f0 = id ∧ x.f1 = u := by
  simp [refP]
theorem refP_no {id u : Int} {x : S66} (h : x.f0 ≠ id) : refP id u x = false := by
  rw [← Bool.not_eq_true, refP_iff]
  exact fun hx => h hx.2.1
theorem refP_z (id u : Int) : refP id u z66 = false := by
  rw [← Bool.not_eq_true, refP_iff]
  exact fun hx => hx.1 hx.2.1.symm
theorem emptyP_id {x : S66} (h : x.f0 ≠ 0) : emptyP x = false := by
  unfold emptyP
  rw [beq_eq_false_iff_ne.2 h]
  rfl
theorem getD_out {ls : List S66} {m : Nat} (h : ls.length ≤ m) : ls.getD m z66 = z66 := by
  rw [List.getD_eq_getElem?_getD, List.getElem?_eq_none h]
  rfl
theorem lt_of_id {ls : List S66} {m : Nat} {id : Int} (h0 : id ≠ 0) (h : (ls.getD m z66).f0 = id) : m < ls.length := by
  apply Decidable.byContradiction
  intro hn
  rw [getD_out (by omega)] at h
  exact h0 h.symm
theorem getD_in {ls : List S66} {m : Nat} (h : m < ls.length) : ls.getD m z66 = ls[m] := by
  rw [List.getD_eq_getElem?_getD, List.getElem?_eq_getElem h]
  rfl
theorem apart_at {ls : List S66} (h : ls.Pairwise apartP) {j k : Nat} {id : Int} (h0 : id ≠ 0) (hj : (ls.getD j z66).f0 = id) (hk : (ls.getD k z66).f0 = id) (e : decide (0 < (ls.getD j z66).f1) = decide (0 < (ls.getD k z66).f1)) (hlt : j < k) : False := by
  have l1 := lt_of_id h0 hj
  have l2 := lt_of_id h0 hk
  rw [getD_in l1] at hj e
  rw [getD_in l2] at hk e
  refine List.pairwise_iff_getElem.1 h j k l1 l2 hlt (emptyP_id (by rw [hj]; exact h0)) (emptyP_id (by rw [hk]; exact h0)) ?_
  unfold keyP
  rw [hj, hk, e]
theorem uniqP {ls : List S66} (h : ls.Pairwise apartP) {j k : Nat} {id : Int} (h0 : id ≠ 0) (hj : (ls.getD j z66).f0 = id) (hk : (ls.getD k z66).f0 = id) (e : decide (0 < (ls.getD j z66).f1) = decide (0 < (ls.getD k z66).f1)) : j = k := by
  rcases Nat.lt_trichotomy j k with hlt | rfl | hlt
  · exact (apart_at h h0 hj hk e hlt).elim
  · rfl
  · exact (apart_at h h0 hk hj e.symm hlt).elim
theorem idxP_first (p : S66 → Bool) : ∀ (l : List S66) (k : Int), (idxP p l k = -1 ∧ ∀ j, j < l.length → p (l.getD j z66) = false) ∨ ∃ j : Nat, idxP p l k = k + j ∧ j < l.length ∧ p (l.getD j z66) = true ∧ ∀ m, m < j → p (l.getD m z66) = false
  | [], k => .inl ⟨rfl, fun j hj => by cases hj⟩
  | x :: l, k => by
    rw [idxP]
    by_cases hx : p x = true
    · rw [if_pos hx]
      exact .inr ⟨0, by omega, by simp, by simpa using hx, fun m hm => by omega⟩
    · rw [if_neg hx]
      rcases idxP_first p l (k + 1) with ⟨h1, h2⟩ | ⟨j, h1, h2, h3, h4⟩
      · refine .inl ⟨h1, fun j hj => ?_⟩
        cases j with
        | zero => simpa using hx
        | succ j => simpa using h2 j (by simpa using hj)
      · refine .inr ⟨j + 1, by omega, by simp; omega, by simpa using h3, fun m hm => ?_⟩
        cases m with
        | zero => simpa using hx
        | succ m => simpa using h4 m (by omega)
/-- The label of a reference. -/
def findP (ls : List S66) (id u : Int) : S66 × Bool := if idxOf ls id u < 0 then (z66, false) else (ls.getD (idxOf ls id u).toNat z66, true)
theorem findP_cases (ls : List S66) (id u : Int) : (findP ls id u = (z66, false) ∧ idxOf ls id u = -1 ∧ ∀ j, refP id u (ls.getD j z66) = false) ∨
    ∃ j : Nat, findP ls id u = (ls.getD j z66, true) ∧ idxOf ls id u = j ∧ j < ls.length ∧ refP id u (ls.getD j z66) = true ∧ ∀ m, m < j → refP id u (ls.getD m z66) = false := by
  unfold findP idxOf
  rcases idxP_first (refP id u) ls 0 with ⟨h1, h2⟩ | ⟨j, h1, h2, h3, h4⟩
  · refine .inl ⟨by rw [h1]; rfl, h1, fun j => ?_⟩
    by_cases hj : j < ls.length
    · exact h2 j hj
    · rw [getD_out (by omega)]
      exact refP_z id u
  · rw [Int.zero_add] at h1
    refine .inr ⟨j, ?_, h1, h2, h3, h4⟩
    rw [h1, if_neg (by omega), Int.toNat_natCast]
theorem findP_none {ls : List S66} {id u : Int} (h : ∀ j, refP id u (ls.getD j z66) = false) : findP ls id u = (z66, false) := by
  rcases findP_cases ls id u with ⟨h1, _⟩ | ⟨j, _, _, _, h2, _⟩
  · exact h1
  · rw [h j] at h2; cases h2
theorem findP_is {ls : List S66} {id u : Int} {i : Nat} (hi : refP id u (ls.getD i z66) = true) (hm : ∀ m, m ≠ i → refP id u (ls.getD m z66) = false) : findP ls id u = (ls.getD i z66, true) := by
  rcases findP_cases ls id u with ⟨_, _, h⟩ | ⟨j, h1, _, _, h2, _⟩
  · rw [h i] at hi; cases hi
  · by_cases e : j = i
    · rw [h1, e]
    · rw [hm j e] at h2; cases h2
theorem findP_congr {ls us : List S66} {id u : Int} (h : ∀ j, refP id u (us.getD j z66) = refP id u (ls.getD j z66)) (he : ∀ j, refP id u (ls.getD j z66) = true → us.getD j z66 = ls.getD j z66) : findP us id u = findP ls id u := by
  rcases findP_cases ls id u with ⟨h1, _, h2⟩ | ⟨j, h1, _, _, h2, h3⟩
  · rw [h1]
    exact findP_none (fun j => (h j).trans (h2 j))
  · rw [h1]
    rcases findP_cases us id u with ⟨_, _, h4⟩ | ⟨k, h4, _, _, h5, h6⟩
    · rw [← h j, h4 j] at h2; cases h2
    · have : k = j := by
        rcases Nat.lt_trichotomy k j with hlt | e | hlt
        · rw [h k, h3 k hlt] at h5; cases h5
        · exact e
        · have := h6 j hlt
          rw [h j, h2] at this; cases this
      rw [h4, this, he j h2]
theorem findP_ext {ls : List S66} {n : Nat} (h : ∀ x ∈ ls, x.f4.length ≤ n) (id u : Int) : (findP ls id u).1.f4.length ≤ n := by
  rcases findP_cases ls id u with ⟨h1, _⟩ | ⟨j, h1, _, h2, _⟩
  · rw [h1]; exact Nat.zero_le _
  · rw [h1, getD_in h2]
    exact h _ (List.getElem_mem h2)
theorem find_some (nm : ByteArray) (tr : Int) (ls : List S66) (id u : Int) (h : ∀ x ∈ ls, x.f4.length ≤ 30) :
    contents_Find.f nm tr ls id u = some ((findP ls id u).1.f0, (findP ls id u).1.f1, (findP ls id u).1.f2, (findP ls id u).1.f3, (findP ls id u).1.f4, (findP ls id u).2) := by
  unfold contents_Find.f contents_index.f
  rw [Option.bind_some]
  have hx := findP_ext h id u
  rcases findP_cases ls id u with ⟨h1, h2, _⟩ | ⟨j, h1, h2, h3, _⟩
  · rw [h1, h2]; rfl
  · rw [h1] at hx
    replace hx : (ls.getD j z66).f4.length ≤ 30 := hx
    have hr : rd_T66 ls (j : Int) = ls.getD j z66 := by rw [rd_T66, Int.toNat_natCast]
    rw [h1, h2, if_neg (by omega), if_pos (by omega), if_pos (by omega), hr]
    unfold api_Run_94.f
    rw [if_pos (by omega)]
    rfl
theorem getD_set {l : List S66} {i : Nat} (v : S66) (hi : i < l.length) (j : Nat) : (l.set i v).getD j z66 = if j = i then v else l.getD j z66 := by
  rw [List.getD_eq_getElem?_getD]
  by_cases h : j = i
  · subst h
    rw [if_pos rfl, List.getElem?_set_self hi]
    rfl
  · rw [if_neg h, List.getElem?_set_ne (Ne.symm h), ← List.getD_eq_getElem?_getD]
/-- What Confirm leaves. -/
theorem conf_cases (nm : ByteArray) (tr : Int) (ls : List S66) (id unit : Int) (note : ByteArray) :
    ((changeP nm tr ls id unit (confirmF id note)).2.2.2 ≠ 0 ∧ (changeP nm tr ls id unit (confirmF id note)).2.2.1 = [] ∧ (tableOk nm tr ls = false ∨ (findP ls id unit).2 = false ∨ unit = 0 ∨ (400 : Int) < note.size)) ∨
    ∃ us : List S66, changeP nm tr ls id unit (confirmF id note) = (nm, tr, us, 0) ∧ (findP ls id unit).2 = true ∧
      findP us id 0 = (⟨(findP ls id unit).1.f0, 0, (findP ls id unit).1.f2, note, (findP ls id unit).1.f4⟩, true) ∧ findP us id unit = (z66, false) ∧ (∀ a b, a ≠ id → findP us a b = findP ls a b) ∧ (∀ x ∈ us, x.f4.length ≤ 16) := by
  cases ht : tableOk nm tr ls with
  | false => exact .inl ⟨by rw [changeP_bad ht]; decide, by rw [changeP_bad ht]; rfl, .inl rfl⟩
  | true =>
  rcases findP_cases ls id unit with ⟨hf, hidx, _⟩ | ⟨i, hf, hidx, hi, hp, _⟩
  · exact .inl ⟨by rw [changeP_none ht (by omega)]; decide, by rw [changeP_none ht (by omega)]; rfl, .inr (.inl (by rw [hf]))⟩
  obtain ⟨h0, hx0, hx1⟩ := refP_iff.1 hp
  by_cases hu : (ls.getD i z66).f1 = 0
  · have hF : confirmF id note ls i = (ls, 9) := by unfold confirmF; rw [if_pos hu]
    have hc := changeP_err ht hidx hF (by show ¬ (9 : Int) = 0; decide)
    exact .inl ⟨by rw [hc]; show (9 : Int) ≠ 0; decide, by rw [hc]; rfl, .inr (.inr (.inl (by rw [← hx1]; exact hu)))⟩
  by_cases hn : (400 : Int) < note.size
  · have hF : confirmF id note ls i = (ls, 1) := by unfold confirmF; rw [if_neg hu, if_pos hn]
    have hc := changeP_err ht hidx hF (by show ¬ (1 : Int) = 0; decide)
    exact .inl ⟨by rw [hc]; show (1 : Int) ≠ 0; decide, by rw [hc]; rfl, .inr (.inr (.inr hn))⟩
  have hF : ∃ us : List S66, confirmF id note ls i = (us, 0) ∧ us.length = ls.length ∧ ∀ j, us.getD j z66 = if j = i then ⟨(ls.getD i z66).f0, 0, (ls.getD i z66).f2, note, (ls.getD i z66).f4⟩ else if idxOf ls id 0 = (j : Int) then z66 else ls.getD j z66 := by
    unfold confirmF
    rw [if_neg hu, if_neg hn]
    refine ⟨_, rfl, ?_⟩
    rcases findP_cases ls id 0 with ⟨_, e, _⟩ | ⟨k, _, e, hk, _⟩
    · rw [e, if_neg (by decide)]
      refine ⟨List.length_set, fun j => ?_⟩
      rw [getD_set _ hi, if_neg (c := (-1 : Int) = (j : Int)) (by omega)]
    · rw [e, if_pos (by omega), Int.toNat_natCast]
      refine ⟨by rw [List.length_set, List.length_set], fun j => ?_⟩
      rw [getD_set _ (by rw [List.length_set]; exact hi)]
      by_cases hj : j = i
      · rw [if_pos hj, if_pos hj]
      · rw [if_neg hj, if_neg hj, getD_set _ hk]
        by_cases hjk : j = k
        · rw [if_pos hjk, if_pos (by omega)]
        · rw [if_neg hjk, if_neg (by omega)]
  obtain ⟨us, hF, hlen, hg⟩ := hF
  have hap := tableOk_apart ht
  refine .inr ⟨us, changeP_ok ht hidx hF rfl, by rw [hf], ?_, ?_, ?_, ?_⟩
  · have hgi := hg i
    rw [if_pos rfl] at hgi
    rw [hf]
    rw [findP_is (i := i) (by rw [hgi, refP_iff]; exact ⟨h0, hx0, rfl⟩) (fun m hm => ?_), hgi]
    rw [hg m, if_neg hm]
    by_cases hmk : idxOf ls id 0 = (m : Int)
    · rw [if_pos hmk]; exact refP_z id 0
    · rw [if_neg hmk, ← Bool.not_eq_true]
      intro hr
      obtain ⟨_, e0, e1⟩ := refP_iff.1 hr
      rcases findP_cases ls id 0 with ⟨_, _, e⟩ | ⟨k, _, e, _, hk, _⟩
      · rw [e m] at hr; cases hr
      · obtain ⟨_, k0, k1⟩ := refP_iff.1 hk
        have := uniqP hap h0 k0 e0 (by rw [k1, e1])
        subst this
        exact hmk e
  · refine findP_none (fun j => ?_)
    rw [hg j]
    by_cases hj : j = i
    · rw [if_pos hj, ← Bool.not_eq_true, refP_iff]
      exact fun h => hu (hx1.trans h.2.2.symm)
    · rw [if_neg hj]
      by_cases hjk : idxOf ls id 0 = (j : Int)
      · rw [if_pos hjk]; exact refP_z id unit
      · rw [if_neg hjk, ← Bool.not_eq_true]
        intro hr
        obtain ⟨_, e0, e1⟩ := refP_iff.1 hr
        exact hj (uniqP hap h0 e0 hx0 (by rw [e1, hx1]))
  · intro a b hab
    refine findP_congr (fun j => ?_) (fun j hr => ?_)
    · rw [hg j]
      by_cases hj : j = i
      · subst hj
        rw [if_pos rfl, refP_no (x := ls.getD j z66) (by rw [hx0]; exact Ne.symm hab), refP_no (by show (ls.getD j z66).f0 ≠ a; rw [hx0]; exact Ne.symm hab)]
      · rw [if_neg hj]
        by_cases hjk : idxOf ls id 0 = (j : Int)
        · rw [if_pos hjk, refP_z]
          rcases findP_cases ls id 0 with ⟨_, e, _⟩ | ⟨k, _, e, _, hk, _⟩
          · omega
          · obtain rfl : k = j := by omega
            rw [refP_no (by rw [(refP_iff.1 hk).2.1]; exact Ne.symm hab)]
        · rw [if_neg hjk]
    · obtain ⟨_, e0, _⟩ := refP_iff.1 hr
      rw [hg j]
      by_cases hj : j = i
      · subst hj
        exact absurd (e0.symm.trans hx0) hab
      · rw [if_neg hj]
        by_cases hjk : idxOf ls id 0 = (j : Int)
        · rcases findP_cases ls id 0 with ⟨_, e, _⟩ | ⟨k, _, e, _, hk, _⟩
          · omega
          · obtain rfl : k = j := by omega
            exact absurd (e0.symm.trans (refP_iff.1 hk).2.1) hab
        · rw [if_neg hjk]
  · intro x hx
    obtain ⟨j, hj, rfl⟩ := List.mem_iff_getElem.1 hx
    have hl : ∀ m, (ls.getD m z66).f4.length ≤ 16 := fun m => by
      by_cases hm : m < ls.length
      · rw [getD_in hm]
        exact tableOk_ext ht _ (List.getElem_mem hm)
      · rw [getD_out (by omega)]; exact Nat.zero_le _
    rw [← getD_in hj, hg j]
    by_cases e : j = i
    · rw [if_pos e]; exact hl i
    · rw [if_neg e]
      by_cases e2 : idxOf ls id 0 = (j : Int)
      · rw [if_pos e2]; exact Nat.zero_le _
      · rw [if_neg e2]; exact hl j
theorem fewT_loop (nm : ByteArray) (tr : Int) (ls : List S66) (hl : ls.length ≤ 9223372036854775807) : ∀ (d i : Nat), i + d = ls.length → ∃ b, dasdref08_Few.l0 (d + 1) (i : Int) nm tr ls = some b ∧ (b = true → ls.length ≤ 40 ∧ ∀ j, i ≤ j → j < ls.length → (ls.getD j z66).f4.length ≤ 30)
  | 0, i, h => by
    rw [dasdref08_Few.l0, if_neg (by omega)]
    by_cases hn : (nm.size : Int) ≤ 100
    · rw [if_pos hn]
      exact ⟨_, rfl, fun h40 => ⟨by have := of_decide_eq_true h40; omega, fun j h1 h2 => by omega⟩⟩
    · rw [if_neg hn]
      exact ⟨_, rfl, fun h => by cases h⟩
  | d + 1, i, h => by
    rw [dasdref08_Few.l0, if_pos (by omega), if_pos (by omega), few_some, Option.bind_some]
    have hr : rd_T66 ls (i : Int) = ls.getD i z66 := by rw [rd_T66, Int.toNat_natCast]
    rw [hr]
    cases hf : (decide ((ls.getD i z66).f2.size ≤ 100) && (decide ((ls.getD i z66).f3.size ≤ 500) && decide ((ls.getD i z66).f4.length ≤ 30))) with
    | false => exact ⟨_, rfl, fun h => by cases h⟩
    | true =>
      have hw : wrap64 ((i : Int) + 1) = ((i + 1 : Nat) : Int) := by
        unfold wrap64
        omega
      rw [if_pos rfl, hw]
      obtain ⟨b, h1, h2⟩ := fewT_loop nm tr ls hl d (i + 1) (by omega)
      refine ⟨b, h1, fun hb => ⟨(h2 hb).1, fun j hj1 hj2 => ?_⟩⟩
      by_cases e : j = i
      · subst e
        simp only [Bool.and_eq_true, decide_eq_true_eq] at hf
        exact hf.2.2
      · exact (h2 hb).2 j (by omega) hj2
theorem fewT_some (nm : ByteArray) (tr : Int) (ls : List S66) (hl : ls.length ≤ 9223372036854775807) : ∃ b, dasdref08_Few.f (ls.length + 1) nm tr ls = some b ∧ (b = true → ls.length ≤ 40 ∧ ∀ x ∈ ls, x.f4.length ≤ 30) := by
  obtain ⟨b, h1, h2⟩ := fewT_loop nm tr ls hl ls.length 0 (by omega)
  refine ⟨b, h1, fun hb => ⟨(h2 hb).1, fun x hx => ?_⟩⟩
  obtain ⟨j, hj, rfl⟩ := List.mem_iff_getElem.1 hx
  have := (h2 hb).2 j (by omega) hj
  rw [getD_in hj] at this
  exact this
theorem fself_l0 (xs : List S25) (hl : xs.length ≤ 9223372036854775806) : ∀ (d k i : Nat), i + d = xs.length → d < k → dasdref05_Same.l0 k xs xs (i : Int) = some true := by
  intro d
  induction d with
  | zero =>
    intro k i hi hk
    obtain ⟨k, rfl⟩ : ∃ m, k = m + 1 := ⟨k - 1, by omega⟩
    rw [dasdref05_Same.l0, if_neg (by omega)]
  | succ d ih =>
    intro k i hi hk
    obtain ⟨k, rfl⟩ : ∃ m, k = m + 1 := ⟨k - 1, by omega⟩
    have hw : wrap64 ((i : Int) + 1) = ((i + 1 : Nat) : Int) := by rw [w64 (by omega) (by omega)]; omega
    rw [dasdref05_Same.l0, if_pos (by omega), if_pos (by omega), if_pos (by omega), hw, if_neg (by simp)]
    exact ih k (i + 1) (by omega) (by omega)
theorem fself_some (xs : List S25) (hl : xs.length ≤ 9223372036854775806) (k : Nat) (hk : xs.length < k) : dasdref05_Same.f k xs xs = some true := by
  unfold dasdref05_Same.f
  rw [if_pos rfl]
  exact fself_l0 xs hl xs.length k 0 (by omega) hk
theorem equal_self (x : S66) (h : x.f4.length ≤ 30) : dasdref07_Equal.f 100 x.f0 x.f1 x.f2 x.f3 x.f4 x.f0 x.f1 x.f2 x.f3 x.f4 = some true := by
  unfold dasdref07_Equal.f
  rw [if_pos rfl, if_pos rfl, if_pos rfl, if_pos rfl, fself_some _ (by omega) _ (by omega)]
  rfl
end Go.Proofs.Ytghpmenoiimpoaa.P
