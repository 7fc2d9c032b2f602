/- What the law 'FnExactWordFrom' computes is true for every input; no condition. -/
import Derived.Test.YtbacmlbdgolcfaaMathB
import Derived.Test.YtbacmlbdgolcfaaPFnExactWordFromx1
namespace Go.Proofs.Ytbacmlbdgolcfaa.Pure
open Go Go.RowKit Go.Proofs.Ytbacmlbdgolcfaa.PFnExactWordFrom Go.Proofs.YtbacmlbdgolcfaaW.PrintWords Go.Proofs.YtbacmlbdgolcfaaW.PrintLast LeadWord

theorem spec_l1In_eq (a b c : Int) : spec_l1In.f a b c = some (decide (b ≤ a ∧ a ≤ c)) := by
  unfold spec_l1In.f
  by_cases h : a ≥ b
  · rw [if_pos h]; congr 1; simp [show b ≤ a from h]
  · rw [if_neg h]; simp [show ¬ b ≤ a from h]
theorem impl_in_eq (a b c : Int) : impl_in.f a b c = some (decide (b ≤ a ∧ a ≤ c)) := by
  unfold impl_in.f
  by_cases h : b ≤ a
  · rw [if_pos h]; congr 1; simp [h]
  · rw [if_neg h]; simp [h]
theorem spec_l1Width_eq (w : Int) : spec_l1Width.f w = some (decide (1 ≤ w ∧ w ≤ 16)) := by
  unfold spec_l1Width.f; rw [spec_l1In_eq]; rfl
theorem impl_isWidth_eq (w : Int) : impl_isWidth.f w = some (decide (1 ≤ w ∧ w ≤ 16)) := by
  unfold impl_isWidth.f; rw [impl_in_eq]; rfl
theorem impl_mask_eq (w : Int) (h0 : 0 ≤ w) (h1 : w ≤ 62) : impl_mask.f w = some (2 ^ w.toNat - 1) := by
  have h := two_pow_le (i := w.toNat) (j := 62) (by omega)
  have p := two_pow_pos w.toNat
  unfold impl_mask.f; rw [if_pos h0, shl_one w h0 h1, wrap64_id (by omega) (by omega)]
theorem impl_mask_w {w : Int} (h : Wd w) : impl_mask.f w = some (2 ^ w.toNat - 1) := impl_mask_eq w (by have := h.lo; omega) (by have := h.hi; omega)
theorem spec_WordFrom_eq (w n : Int) : spec_WordFrom.f w n = some (wfrom w n) := by
  unfold spec_WordFrom.f wfrom; rw [spec_l1Width_eq]; simp only [Option.bind_some]
  by_cases h : 1 ≤ w ∧ w ≤ 16
  · have hd : Wd w := ⟨h.1, h.2⟩
    have := hd.le; have := hd.pos; have := hd.lo
    have hb := tmod_bound n (2 ^ w.toNat) (by omega)
    have hf := tmod_fix n (2 ^ w.toNat) (by omega)
    rw [if_pos (decide_eq_true h), if_pos h, hd.u64, if_pos (by omega), hd.shl1, if_neg (by omega)]
    by_cases hn : Int.tmod n (2 ^ w.toNat) < 0
    · rw [if_pos hn] at hf ⊢; rw [wrap64_id (by omega) (by omega), hf]
    · rw [if_neg hn] at hf ⊢; rw [hf]
  · rw [if_neg (by rw [decide_eq_true_iff]; exact h), if_neg h]
theorem spec_WordFrom_w {w : Int} (h : Wd w) (n : Int) : spec_WordFrom.f w n = some (n % 2 ^ w.toNat) := by
  rw [spec_WordFrom_eq]; unfold wfrom; rw [if_pos ⟨h.lo, h.hi⟩]
theorem impl_WordFrom_eq (w n : Int) : impl_WordFrom.f w n = some (wfrom w n) := by
  unfold impl_WordFrom.f wfrom; rw [impl_isWidth_eq]; simp only [Option.bind_some]
  by_cases h : 1 ≤ w ∧ w ≤ 16
  · have hd : Wd w := ⟨h.1, h.2⟩
    rw [if_pos (decide_eq_true h), if_pos h, impl_mask_w hd]; simp only [Option.bind_some]
    rw [and_mask n _ (by omega)]
  · rw [if_neg (by rw [decide_eq_true_iff]; exact h), if_neg h]
theorem FnExactWordFrom : laws_FnExactWordFrom.Pure := by
  intro a0 a1 _ _
  unfold laws_FnExactWordFrom.f; rw [spec_WordFrom_eq, impl_WordFrom_eq]; simp

end Go.Proofs.Ytbacmlbdgolcfaa.Pure
