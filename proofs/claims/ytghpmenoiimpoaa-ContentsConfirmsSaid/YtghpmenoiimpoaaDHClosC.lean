import Derived.Test.YtghpmenoiimpoaaDHClosB
import Derived.Test.YtghpmenoiimpoaaDHExtend
import Derived.Test.YtghpmenoiimpoaaDHCount
import Derived.Test.YtghpmenoiimpoaaDPx0
import Derived.Test.YtghpmenoiimpoaaDPx13
import Derived.Test.YtghpmenoiimpoaaDPx16
import Derived.Test.YtghpmenoiimpoaaDPx17
import Derived.Test.YtghpmenoiimpoaaDHExtent
import Derived.Test.YtghpmenoiimpoaaDHFreeP
import Derived.Test.YtghpmenoiimpoaaDPx24
namespace Go.Proofs.Ytghpmenoiimpoaa.P
open Go.RowKit Go.Proofs.YtghpmenoiimpoaaW.PrintWords Go.Proofs.YtghpmenoiimpoaaW.PrintLast Go.Proofs.YtghpmenoiimpoaaW.PrintMore
set_option linter.unusedVariables false
set_option linter.unusedSimpArgs false
/-- The runs of all labels. -/
def allRuns : List S66 → List S25
  | [] => []
  | x :: l => x.f4 ++ allRuns l
/-- The free tracks of a table. -/
def freeT (tr : Int) (ls : List S66) : List S25 := freeP (ttr tr) tr (allRuns ls)
theorem cfree_l0 (nm : ByteArray) (tr : Int) (ls : List S66) (h31 : ls.length ≤ 31) (hx : ∀ x ∈ ls, x.f4.length ≤ 16) : ∀ (d k i : Nat) (acc : List S25), i + d = ls.length → d + 2 < k → acc.length ≤ 16 * i →
    contents_Free.l0 k acc ls (ls.length : Int) (i : Int) nm tr ls = some (freeP (ttr tr) tr (acc ++ allRuns (ls.drop i))) := by
  intro d
  induction d with
  | zero =>
    intro k i acc hi hk ha
    obtain ⟨k, rfl⟩ : ∃ j, k = j + 1 := ⟨k - 1, by omega⟩
    rw [List.drop_eq_nil_of_le (by omega), contents_Free.l0, if_neg (by omega), ttr_some, Option.bind_some, free_some, Option.bind_some, allRuns, List.append_nil]
  | succ d ih =>
    intro k i acc hi hk ha
    obtain ⟨k, rfl⟩ : ∃ j, k = j + 1 := ⟨k - 1, by omega⟩
    have h1 : i < ls.length := by omega
    have hw : wrap64 ((i : Int) + 1) = ((i + 1 : Nat) : Int) := by unfold wrap64; omega
    have hr : rd_T66 ls (i : Int) = ls[i] := by simp [rd_T66, List.getD_eq_getElem?_getD, h1]
    have hl := hx ls[i] (List.getElem_mem h1)
    rw [List.drop_eq_getElem_cons h1, contents_Free.l0, if_pos (by omega), if_pos (by omega), if_pos (by omega), hr, if_pos (by omega), hw, ih k (i + 1) _ (by omega) (by omega) (by rw [List.length_append]; omega), allRuns, List.append_assoc]
theorem cfree_some {nm : ByteArray} {tr : Int} {ls : List S66} (h : tableOk nm tr ls = true) : contents_Free.f 100 nm tr ls = some (freeT tr ls) := by
  have h31 := tableOk_len h
  unfold contents_Free.f
  rw [show contents_Valid.f nm tr ls = some true from congrArg some h, Option.bind_some, if_pos rfl]
  exact cfree_l0 nm tr ls h31 (tableOk_ext h) ls.length 100 0 [] (by omega) (by omega) (by simp)
def contents_Extend1.T1 : Bool × List (List Nat × List Nat) := (true, [([], []), ([0], [0]), ([1], [1]), ([2], [2]), ([], []), ([4], [4]), ([], []), ([3, 5, 6, 5], [3, 5, 6]), ([7], [7]), ([8], [8]), ([8], [8]), ([9, 7, 0, 1, 2, 3, 4, 5, 6, 7, 8, 9], [9]), ([10, 11, 0, 1, 2, 3, 4, 5, 6, 7, 8, 9, 10, 11], [10])])
def contents_Extend1.B1 : List Nat := [0, 1, 3, 7, 0, 16, 0, 127, 255, 511, 511, 1023, 4095]
theorem contents_Extend1.tab1 : rtab .any (opsOf Try.f134 1) = contents_Extend1.T1 := by kernel_rfl
theorem contents_Extend1.bits1 : waitsOk contents_Extend1.T1.2 contents_Extend1.B1 = true := by kernel_rfl
def contents_Release1.T1 : Bool × List (List Nat × List Nat) := (true, [([], []), ([0], [0]), ([1], [1]), ([2], [2]), ([], []), ([3, 4], [3, 4]), ([5], [5]), ([6], [6]), ([6], [6]), ([6], [6]), ([7, 5, 0, 1, 2, 3, 4, 5, 6, 7], [7]), ([8, 10, 0, 1, 2, 3, 4, 5, 6, 7, 8, 10], [8]), ([9, 11, 0, 1, 2, 3, 4, 5, 6, 7, 8, 9, 10, 11], [9])])
def contents_Release1.B1 : List Nat := [0, 1, 3, 7, 0, 31, 63, 127, 127, 127, 255, 1535, 4095]
theorem contents_Release1.tab1 : rtab .any (opsOf Try.f135 1) = contents_Release1.T1 := by kernel_rfl
theorem contents_Release1.bits1 : waitsOk contents_Release1.T1.2 contents_Release1.B1 = true := by kernel_rfl
end Go.Proofs.Ytghpmenoiimpoaa.P
