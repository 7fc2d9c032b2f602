/- What the law 'FnExactSortBits' computes is true for every input; no condition. -/
import Derived.Test.YtbacmlbdgolcfaaMathC
import Derived.Test.YtbacmlbdgolcfaaPFnExactSortBitsx1
namespace Go.Proofs.Ytbacmlbdgolcfaa.Pure
open Go Go.RowKit Go.Proofs.Ytbacmlbdgolcfaa.PFnExactSortBits Go.Proofs.YtbacmlbdgolcfaaW.PrintWords Go.Proofs.YtbacmlbdgolcfaaW.PrintLast LeadWord
set_option linter.unusedSimpArgs false
set_option linter.unusedVariables false

theorem spec_l1In_eq (a b c : Int) : spec_l1In.f a b c = some (decide (b ≤ a ∧ a ≤ c)) := by
  unfold spec_l1In.f
  by_cases h : a ≥ b
  · rw [if_pos h]; congr 1; simp [show b ≤ a from h]
  · rw [if_neg h]; simp [show ¬ b ≤ a from h]
theorem impl_in_eq (a b c : Int) : impl_in.f a b c = some (decide (b ≤ a ∧ a ≤ c)) := by
  unfold impl_in.f
  by_cases h : b ≤ a
  · rw [if_pos h]; congr 1; simp [h]
  · rw [if_neg h]; simp [h]
theorem spec_l1Width_eq (w : Int) : spec_l1Width.f w = some (decide (1 ≤ w ∧ w ≤ 16)) := by
  unfold spec_l1Width.f; rw [spec_l1In_eq]; rfl
theorem impl_isWidth_eq (w : Int) : impl_isWidth.f w = some (decide (1 ≤ w ∧ w ≤ 16)) := by
  unfold impl_isWidth.f; rw [impl_in_eq]; rfl
def sortok (i w : Int) : Bool := decide (0 ≤ i ∧ i ≤ 2 ∧ 1 ≤ w ∧ w ≤ 16)
theorem spec_SortOk_eq (i w : Int) : spec_SortOk.f i w = some (sortok i w) := by
  unfold spec_SortOk.f sortok
  rw [spec_l1In_eq, spec_l1Width_eq]
  simp -implicitDefEqProofs only [Option.bind_some]
  by_cases h : 0 ≤ i ∧ i ≤ 2
  · rw [if_pos (decide_eq_true h)]; congr 1; rw [decide_eq_decide]; omega
  · rw [if_neg (by rw [decide_eq_true_iff]; exact h)]; congr 1; symm; rw [decide_eq_false_iff_not]; omega
theorem impl_SortOk_eq (i w : Int) : impl_SortOk.f i w = some (sortok i w) := by
  unfold impl_SortOk.f sortok
  rw [impl_in_eq, impl_isWidth_eq]
  simp -implicitDefEqProofs only [Option.bind_some]
  by_cases h : 0 ≤ i ∧ i ≤ 2
  · rw [if_pos (decide_eq_true h)]; congr 1; rw [decide_eq_decide]; omega
  · rw [if_neg (by rw [decide_eq_true_iff]; exact h)]; congr 1; symm; rw [decide_eq_false_iff_not]; omega
def sortcells (i w : Int) : Int := if sortok i w = true then 2 ^ i.toNat else 0
theorem sortok_iff {i w : Int} : sortok i w = true ↔ (0 ≤ i ∧ i ≤ 2 ∧ 1 ≤ w ∧ w ≤ 16) := by unfold sortok; exact decide_eq_true_iff
theorem spec_SortCells_eq (i w : Int) : spec_SortCells.f i w = some (sortcells i w) := by
  unfold spec_SortCells.f sortcells
  rw [spec_SortOk_eq]
  simp -implicitDefEqProofs only [Option.bind_some]
  by_cases h : sortok i w = true
  · have := sortok_iff.1 h
    rw [if_pos h, if_pos h, wrap_u64_id (by omega) (by omega), if_pos (by omega), shl_one i (by omega) (by omega)]
  · rw [if_neg h, if_neg h]
theorem impl_SortCells_eq (i w : Int) : impl_SortCells.f i w = some (sortcells i w) := by
  unfold impl_SortCells.f sortcells
  rw [impl_SortOk_eq]
  simp -implicitDefEqProofs only [Option.bind_some]
  by_cases h : sortok i w = true
  · have := sortok_iff.1 h
    rw [if_pos h, if_pos h, if_pos (by omega), shl_one i (by omega) (by omega)]
  · rw [if_neg h, if_neg h]
def sortbits (i w : Int) : Int := if sortok i w = true then 2 ^ i.toNat * w else 0
theorem sortbits_le {i w : Int} (h : sortok i w = true) : 0 ≤ 2 ^ i.toNat * w ∧ (2 : Int) ^ i.toNat * w ≤ 64 := by
  have := sortok_iff.1 h
  have h1 := two_pow_le (i := i.toNat) (j := 2) (by omega)
  have h0 := two_pow_pos i.toNat
  have h2 : (2 : Int) ^ i.toNat * w ≤ 4 * 16 := Int.mul_le_mul (by omega) (by omega) (by omega) (by omega)
  have h3 : 0 ≤ (2 : Int) ^ i.toNat * w := Int.mul_nonneg (by omega) (by omega)
  omega
theorem spec_SortBits_eq (i w : Int) : spec_SortBits.f i w = some (sortbits i w) := by
  unfold spec_SortBits.f sortbits
  rw [spec_SortCells_eq]
  simp -implicitDefEqProofs only [Option.bind_some]
  unfold sortcells
  by_cases h : sortok i w = true
  · have := sortbits_le h
    rw [if_pos h, if_pos h, wrap64_id (by omega) (by omega)]
  · rw [if_neg h, if_neg h, Int.zero_mul, wrap64_id (by omega) (by omega)]
theorem impl_SortBits_eq (i w : Int) : impl_SortBits.f i w = some (sortbits i w) := by
  unfold impl_SortBits.f sortbits
  rw [impl_SortCells_eq]
  simp -implicitDefEqProofs only [Option.bind_some]
  unfold sortcells
  by_cases h : sortok i w = true
  · have := sortbits_le h
    have g := sortok_iff.1 h
    have e : mx 0 (mn 16 w) = w := by unfold mx mn; (repeat' split) <;> omega
    rw [if_pos h, if_pos h, e, wrap64_id (by omega) (by omega)]
  · rw [if_neg h, if_neg h, Int.zero_mul, wrap64_id (by omega) (by omega)]
theorem FnExactSortBits (i w : Int) : laws_FnExactSortBits.f i w = some true := by
  unfold laws_FnExactSortBits.f laws_toSort.f
  simp -implicitDefEqProofs only [Option.bind_some]
  rw [spec_SortBits_eq, impl_SortBits_eq]; simp

end Go.Proofs.Ytbacmlbdgolcfaa.Pure
