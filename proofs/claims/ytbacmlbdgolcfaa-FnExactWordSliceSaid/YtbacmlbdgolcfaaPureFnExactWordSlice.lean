/- What the law 'FnExactWordSlice' computes is true for every input; no condition. -/
import Derived.Test.YtbacmlbdgolcfaaMathB
import Derived.Test.YtbacmlbdgolcfaaPFnExactWordSlicex1
namespace Go.Proofs.Ytbacmlbdgolcfaa.Pure
open Go Go.RowKit Go.Proofs.Ytbacmlbdgolcfaa.PFnExactWordSlice Go.Proofs.YtbacmlbdgolcfaaW.PrintWords Go.Proofs.YtbacmlbdgolcfaaW.PrintLast LeadWord

theorem spec_l1In_eq (a b c : Int) : spec_l1In.f a b c = some (decide (b ≤ a ∧ a ≤ c)) := by
  unfold spec_l1In.f
  by_cases h : a ≥ b
  · rw [if_pos h]; congr 1; simp [show b ≤ a from h]
  · rw [if_neg h]; simp [show ¬ b ≤ a from h]
theorem impl_in_eq (a b c : Int) : impl_in.f a b c = some (decide (b ≤ a ∧ a ≤ c)) := by
  unfold impl_in.f
  by_cases h : b ≤ a
  · rw [if_pos h]; congr 1; simp [h]
  · rw [if_neg h]; simp [h]
theorem spec_l1Width_eq (w : Int) : spec_l1Width.f w = some (decide (1 ≤ w ∧ w ≤ 16)) := by
  unfold spec_l1Width.f; rw [spec_l1In_eq]; rfl
theorem impl_isWidth_eq (w : Int) : impl_isWidth.f w = some (decide (1 ≤ w ∧ w ≤ 16)) := by
  unfold impl_isWidth.f; rw [impl_in_eq]; rfl
theorem impl_mask_eq (w : Int) (h0 : 0 ≤ w) (h1 : w ≤ 62) : impl_mask.f w = some (2 ^ w.toNat - 1) := by
  have h := two_pow_le (i := w.toNat) (j := 62) (by omega)
  have p := two_pow_pos w.toNat
  unfold impl_mask.f; rw [if_pos h0, shl_one w h0 h1, wrap64_id (by omega) (by omega)]
theorem impl_mask_w {w : Int} (h : Wd w) : impl_mask.f w = some (2 ^ w.toNat - 1) := impl_mask_eq w (by have := h.lo; omega) (by have := h.hi; omega)
theorem spec_WordOk_eq (w v : Int) : spec_WordOk.f w v = some (wok w v) := by
  unfold spec_WordOk.f; rw [spec_l1Width_eq]; simp only [Option.bind_some]
  by_cases h : 1 ≤ w ∧ w ≤ 16
  · have hd : Wd w := ⟨h.1, h.2⟩
    have := hd.le; have := hd.pos; have := hd.lo
    rw [if_pos (decide_eq_true h), hd.u64, if_pos (by omega), spec_l1In_eq, hd.shl1, wrap64_id (by omega) (by omega)]
    simp only [Option.bind_some, wok]
    congr 1
    rw [decide_eq_decide]; omega
  · rw [if_neg (by rw [decide_eq_true_iff]; exact h)]
    congr 1
    symm
    unfold wok
    rw [decide_eq_false_iff_not]; omega
theorem impl_WordOk_eq (w v : Int) : impl_WordOk.f w v = some (wok w v) := by
  unfold impl_WordOk.f; rw [impl_isWidth_eq]; simp only [Option.bind_some]
  by_cases h : 1 ≤ w ∧ w ≤ 16
  · have hd : Wd w := ⟨h.1, h.2⟩
    rw [if_pos (decide_eq_true h), impl_mask_w hd]
    simp only [Option.bind_some]
    rw [impl_in_eq]
    simp only [Option.bind_some, wok]
    congr 1
    rw [decide_eq_decide]; omega
  · rw [if_neg (by rw [decide_eq_true_iff]; exact h)]
    congr 1
    symm
    unfold wok
    rw [decide_eq_false_iff_not]; omega
theorem spec_WordSlice_eq (w a hi lo : Int) : spec_WordSlice.f w a hi lo = some (wslice w a hi lo) := by
  unfold spec_WordSlice.f wslice; rw [spec_WordOk_eq]; simp only [Option.bind_some]
  by_cases h : wok w a = true
  · have ho := wok_iff.1 h
    have := ho.wd.lo; have := ho.wd.hi; have := ho.lo
    rw [if_pos h]
    by_cases c : 0 ≤ lo ∧ lo ≤ hi ∧ hi < w
    · have hz : 0 ≤ a / 2 ^ lo.toNat := Int.ediv_nonneg ho.lo (by have := two_pow_pos lo.toNat; omega)
      have hp := two_pow_pos (hi - lo + 1).toNat
      rw [if_neg (by omega), if_neg (by omega), if_neg (by omega), wrap64_id (x := hi - lo) (by omega) (by omega), wrap64_id (x := hi - lo + 1) (by omega) (by omega), wrap_u64_id (x := lo) (by omega) (by omega), wrap_u64_id (x := hi - lo + 1) (by omega) (by omega)]
      rw [if_pos (by omega), if_pos (by omega), shl_one _ (by omega) (by omega), if_neg (by omega), shr_val _ _ (by omega) (by omega), Int.tmod_eq_emod_of_nonneg hz, if_pos ⟨h, c⟩]
    · rw [if_neg (show ¬ (wok w a = true ∧ 0 ≤ lo ∧ lo ≤ hi ∧ hi < w) from fun k => c k.2)]
      by_cases c1 : lo < 0
      · rw [if_pos c1]
      · rw [if_neg c1]
        by_cases c2 : hi < lo
        · rw [if_pos c2]
        · rw [if_neg c2, if_pos (by omega)]
  · rw [if_neg h, if_neg (fun c => h c.1)]
theorem impl_WordSlice_eq (w a hi lo : Int) : impl_WordSlice.f w a hi lo = some (wslice w a hi lo) := by
  unfold impl_WordSlice.f wslice; rw [impl_WordOk_eq, impl_in_eq, impl_in_eq]; simp only [Option.bind_some]
  by_cases h : wok w a = true
  · have ho := wok_iff.1 h
    have := ho.wd.lo; have := ho.wd.hi; have := ho.lo
    rw [if_pos h, ho.wd.pred]
    by_cases c : 0 ≤ lo ∧ lo ≤ hi ∧ hi < w
    · rw [if_pos (decide_eq_true (by omega)), if_pos (decide_eq_true (by omega)), if_pos (by omega), wrap64_id (x := hi - lo) (by omega) (by omega), wrap64_id (x := hi - lo + 1) (by omega) (by omega), impl_mask_eq _ (by omega) (by omega), if_pos ⟨h, c⟩]
      simp only [Option.bind_some]
      rw [and_mask _ _ (by omega), shr_val _ _ (by omega) (by omega)]
    · rw [if_neg (show ¬ (wok w a = true ∧ 0 ≤ lo ∧ lo ≤ hi ∧ hi < w) from fun k => c k.2)]
      by_cases c1 : 0 ≤ hi ∧ hi ≤ w - 1
      · rw [if_pos (decide_eq_true c1), if_neg (by rw [decide_eq_true_iff]; omega)]
      · rw [if_neg (by rw [decide_eq_true_iff]; exact c1)]
  · rw [if_neg h, if_neg (fun c => h c.1)]
theorem FnExactWordSlice : laws_FnExactWordSlice.Pure := by
  intro a0 a1 a2 a3 _ _ _ _
  unfold laws_FnExactWordSlice.f; rw [spec_WordSlice_eq, impl_WordSlice_eq]; simp

end Go.Proofs.Ytbacmlbdgolcfaa.Pure
