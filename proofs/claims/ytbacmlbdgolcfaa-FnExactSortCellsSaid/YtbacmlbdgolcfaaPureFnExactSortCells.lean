/- What the law 'FnExactSortCells' computes is true for every input; no condition. -/
import Derived.Test.YtbacmlbdgolcfaaMathC
import Derived.Test.YtbacmlbdgolcfaaPFnExactSortCellsx1
namespace Go.Proofs.Ytbacmlbdgolcfaa.Pure
open Go Go.RowKit Go.Proofs.Ytbacmlbdgolcfaa.PFnExactSortCells Go.Proofs.YtbacmlbdgolcfaaW.PrintWords Go.Proofs.YtbacmlbdgolcfaaW.PrintLast LeadWord
set_option linter.unusedSimpArgs false
set_option linter.unusedVariables false

theorem spec_l1In_eq (a b c : Int) : spec_l1In.f a b c = some (decide (b ≤ a ∧ a ≤ c)) := by
  unfold spec_l1In.f
  by_cases h : a ≥ b
  · rw [if_pos h]; congr 1; simp [show b ≤ a from h]
  · rw [if_neg h]; simp [show ¬ b ≤ a from h]
theorem impl_in_eq (a b c : Int) : impl_in.f a b c = some (decide (b ≤ a ∧ a ≤ c)) := by
  unfold impl_in.f
  by_cases h : b ≤ a
  · rw [if_pos h]; congr 1; simp [h]
  · rw [if_neg h]; simp [h]
theorem spec_l1Width_eq (w : Int) : spec_l1Width.f w = some (decide (1 ≤ w ∧ w ≤ 16)) := by
  unfold spec_l1Width.f; rw [spec_l1In_eq]; rfl
theorem impl_isWidth_eq (w : Int) : impl_isWidth.f w = some (decide (1 ≤ w ∧ w ≤ 16)) := by
  unfold impl_isWidth.f; rw [impl_in_eq]; rfl
def sortok (i w : Int) : Bool := decide (0 ≤ i ∧ i ≤ 2 ∧ 1 ≤ w ∧ w ≤ 16)
theorem spec_SortOk_eq (i w : Int) : spec_SortOk.f i w = some (sortok i w) := by
  unfold spec_SortOk.f sortok
  rw [spec_l1In_eq, spec_l1Width_eq]
  simp -implicitDefEqProofs only [Option.bind_some]
  by_cases h : 0 ≤ i ∧ i ≤ 2
  · rw [if_pos (decide_eq_true h)]; congr 1; rw [decide_eq_decide]; omega
  · rw [if_neg (by rw [decide_eq_true_iff]; exact h)]; congr 1; symm; rw [decide_eq_false_iff_not]; omega
theorem impl_SortOk_eq (i w : Int) : impl_SortOk.f i w = some (sortok i w) := by
  unfold impl_SortOk.f sortok
  rw [impl_in_eq, impl_isWidth_eq]
  simp -implicitDefEqProofs only [Option.bind_some]
  by_cases h : 0 ≤ i ∧ i ≤ 2
  · rw [if_pos (decide_eq_true h)]; congr 1; rw [decide_eq_decide]; omega
  · rw [if_neg (by rw [decide_eq_true_iff]; exact h)]; congr 1; symm; rw [decide_eq_false_iff_not]; omega
def sortcells (i w : Int) : Int := if sortok i w = true then 2 ^ i.toNat else 0
theorem sortok_iff {i w : Int} : sortok i w = true ↔ (0 ≤ i ∧ i ≤ 2 ∧ 1 ≤ w ∧ w ≤ 16) := by unfold sortok; exact decide_eq_true_iff
theorem spec_SortCells_eq (i w : Int) : spec_SortCells.f i w = some (sortcells i w) := by
  unfold spec_SortCells.f sortcells
  rw [spec_SortOk_eq]
  simp -implicitDefEqProofs only [Option.bind_some]
  by_cases h : sortok i w = true
  · have := sortok_iff.1 h
    rw [if_pos h, if_pos h, wrap_u64_id (by omega) (by omega), if_pos (by omega), shl_one i (by omega) (by omega)]
  · rw [if_neg h, if_neg h]
theorem impl_SortCells_eq (i w : Int) : impl_SortCells.f i w = some (sortcells i w) := by
  unfold impl_SortCells.f sortcells
  rw [impl_SortOk_eq]
  simp -implicitDefEqProofs only [Option.bind_some]
  by_cases h : sortok i w = true
  · have := sortok_iff.1 h
    rw [if_pos h, if_pos h, if_pos (by omega), shl_one i (by omega) (by omega)]
  · rw [if_neg h, if_neg h]
theorem FnExactSortCells (i w : Int) : laws_FnExactSortCells.f i w = some true := by
  unfold laws_FnExactSortCells.f laws_toSort.f
  simp -implicitDefEqProofs only [Option.bind_some]
  rw [spec_SortCells_eq, impl_SortCells_eq]; simp

end Go.Proofs.Ytbacmlbdgolcfaa.Pure
