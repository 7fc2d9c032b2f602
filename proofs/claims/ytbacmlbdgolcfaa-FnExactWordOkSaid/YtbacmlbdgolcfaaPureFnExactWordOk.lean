/- What the law 'FnExactWordOk' computes is true for every input; no condition. -/
import Derived.Test.YtbacmlbdgolcfaaMathB
import Derived.Test.YtbacmlbdgolcfaaPFnExactWordOkx1
namespace Go.Proofs.Ytbacmlbdgolcfaa.Pure
open Go Go.RowKit Go.Proofs.Ytbacmlbdgolcfaa.PFnExactWordOk Go.Proofs.YtbacmlbdgolcfaaW.PrintWords Go.Proofs.YtbacmlbdgolcfaaW.PrintLast LeadWord

theorem spec_l1In_eq (a b c : Int) : spec_l1In.f a b c = some (decide (b ≤ a ∧ a ≤ c)) := by
  unfold spec_l1In.f
  by_cases h : a ≥ b
  · rw [if_pos h]; congr 1; simp [show b ≤ a from h]
  · rw [if_neg h]; simp [show ¬ b ≤ a from h]
theorem impl_in_eq (a b c : Int) : impl_in.f a b c = some (decide (b ≤ a ∧ a ≤ c)) := by
  unfold impl_in.f
  by_cases h : b ≤ a
  · rw [if_pos h]; congr 1; simp [h]
  · rw [if_neg h]; simp [h]
theorem spec_l1Width_eq (w : Int) : spec_l1Width.f w = some (decide (1 ≤ w ∧ w ≤ 16)) := by
  unfold spec_l1Width.f; rw [spec_l1In_eq]; rfl
theorem impl_isWidth_eq (w : Int) : impl_isWidth.f w = some (decide (1 ≤ w ∧ w ≤ 16)) := by
  unfold impl_isWidth.f; rw [impl_in_eq]; rfl
theorem impl_mask_eq (w : Int) (h0 : 0 ≤ w) (h1 : w ≤ 62) : impl_mask.f w = some (2 ^ w.toNat - 1) := by
  have h := two_pow_le (i := w.toNat) (j := 62) (by omega)
  have p := two_pow_pos w.toNat
  unfold impl_mask.f; rw [if_pos h0, shl_one w h0 h1, wrap64_id (by omega) (by omega)]
theorem impl_mask_w {w : Int} (h : Wd w) : impl_mask.f w = some (2 ^ w.toNat - 1) := impl_mask_eq w (by have := h.lo; omega) (by have := h.hi; omega)
theorem spec_WordOk_eq (w v : Int) : spec_WordOk.f w v = some (wok w v) := by
  unfold spec_WordOk.f; rw [spec_l1Width_eq]; simp only [Option.bind_some]
  by_cases h : 1 ≤ w ∧ w ≤ 16
  · have hd : Wd w := ⟨h.1, h.2⟩
    have := hd.le; have := hd.pos; have := hd.lo
    rw [if_pos (decide_eq_true h), hd.u64, if_pos (by omega), spec_l1In_eq, hd.shl1, wrap64_id (by omega) (by omega)]
    simp only [Option.bind_some, wok]
    congr 1
    rw [decide_eq_decide]; omega
  · rw [if_neg (by rw [decide_eq_true_iff]; exact h)]
    congr 1
    symm
    unfold wok
    rw [decide_eq_false_iff_not]; omega
theorem impl_WordOk_eq (w v : Int) : impl_WordOk.f w v = some (wok w v) := by
  unfold impl_WordOk.f; rw [impl_isWidth_eq]; simp only [Option.bind_some]
  by_cases h : 1 ≤ w ∧ w ≤ 16
  · have hd : Wd w := ⟨h.1, h.2⟩
    rw [if_pos (decide_eq_true h), impl_mask_w hd]
    simp only [Option.bind_some]
    rw [impl_in_eq]
    simp only [Option.bind_some, wok]
    congr 1
    rw [decide_eq_decide]; omega
  · rw [if_neg (by rw [decide_eq_true_iff]; exact h)]
    congr 1
    symm
    unfold wok
    rw [decide_eq_false_iff_not]; omega
theorem FnExactWordOk : laws_FnExactWordOk.Pure := by
  intro a0 a1 _ _
  unfold laws_FnExactWordOk.f; rw [spec_WordOk_eq, impl_WordOk_eq]; simp

end Go.Proofs.Ytbacmlbdgolcfaa.Pure
