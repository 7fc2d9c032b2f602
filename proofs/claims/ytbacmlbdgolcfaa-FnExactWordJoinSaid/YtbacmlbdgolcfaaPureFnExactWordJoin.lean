/- What the law 'FnExactWordJoin' computes is true for every input; no condition. -/
import Derived.Test.YtbacmlbdgolcfaaMathB
import Derived.Test.YtbacmlbdgolcfaaPFnExactWordJoinx1
namespace Go.Proofs.Ytbacmlbdgolcfaa.Pure
open Go Go.RowKit Go.Proofs.Ytbacmlbdgolcfaa.PFnExactWordJoin Go.Proofs.YtbacmlbdgolcfaaW.PrintWords Go.Proofs.YtbacmlbdgolcfaaW.PrintLast LeadWord

theorem spec_l1In_eq (a b c : Int) : spec_l1In.f a b c = some (decide (b ≤ a ∧ a ≤ c)) := by
  unfold spec_l1In.f
  by_cases h : a ≥ b
  · rw [if_pos h]; congr 1; simp [show b ≤ a from h]
  · rw [if_neg h]; simp [show ¬ b ≤ a from h]
theorem impl_in_eq (a b c : Int) : impl_in.f a b c = some (decide (b ≤ a ∧ a ≤ c)) := by
  unfold impl_in.f
  by_cases h : b ≤ a
  · rw [if_pos h]; congr 1; simp [h]
  · rw [if_neg h]; simp [h]
theorem spec_l1Width_eq (w : Int) : spec_l1Width.f w = some (decide (1 ≤ w ∧ w ≤ 16)) := by
  unfold spec_l1Width.f; rw [spec_l1In_eq]; rfl
theorem impl_isWidth_eq (w : Int) : impl_isWidth.f w = some (decide (1 ≤ w ∧ w ≤ 16)) := by
  unfold impl_isWidth.f; rw [impl_in_eq]; rfl
theorem impl_mask_eq (w : Int) (h0 : 0 ≤ w) (h1 : w ≤ 62) : impl_mask.f w = some (2 ^ w.toNat - 1) := by
  have h := two_pow_le (i := w.toNat) (j := 62) (by omega)
  have p := two_pow_pos w.toNat
  unfold impl_mask.f; rw [if_pos h0, shl_one w h0 h1, wrap64_id (by omega) (by omega)]
theorem impl_mask_w {w : Int} (h : Wd w) : impl_mask.f w = some (2 ^ w.toNat - 1) := impl_mask_eq w (by have := h.lo; omega) (by have := h.hi; omega)
theorem spec_WordOk_eq (w v : Int) : spec_WordOk.f w v = some (wok w v) := by
  unfold spec_WordOk.f; rw [spec_l1Width_eq]; simp only [Option.bind_some]
  by_cases h : 1 ≤ w ∧ w ≤ 16
  · have hd : Wd w := ⟨h.1, h.2⟩
    have := hd.le; have := hd.pos; have := hd.lo
    rw [if_pos (decide_eq_true h), hd.u64, if_pos (by omega), spec_l1In_eq, hd.shl1, wrap64_id (by omega) (by omega)]
    simp only [Option.bind_some, wok]
    congr 1
    rw [decide_eq_decide]; omega
  · rw [if_neg (by rw [decide_eq_true_iff]; exact h)]
    congr 1
    symm
    unfold wok
    rw [decide_eq_false_iff_not]; omega
theorem impl_WordOk_eq (w v : Int) : impl_WordOk.f w v = some (wok w v) := by
  unfold impl_WordOk.f; rw [impl_isWidth_eq]; simp only [Option.bind_some]
  by_cases h : 1 ≤ w ∧ w ≤ 16
  · have hd : Wd w := ⟨h.1, h.2⟩
    rw [if_pos (decide_eq_true h), impl_mask_w hd]
    simp only [Option.bind_some]
    rw [impl_in_eq]
    simp only [Option.bind_some, wok]
    congr 1
    rw [decide_eq_decide]; omega
  · rw [if_neg (by rw [decide_eq_true_iff]; exact h)]
    congr 1
    symm
    unfold wok
    rw [decide_eq_false_iff_not]; omega
theorem spec_WordJoin_eq (w a u b : Int) : spec_WordJoin.f w a u b = some (wjoin w a u b) := by
  unfold spec_WordJoin.f wjoin; rw [spec_WordOk_eq, spec_WordOk_eq]; simp only [Option.bind_some]
  by_cases h : wok w a = true
  · by_cases g : wok u b = true
    · have ho := wok_iff.1 h
      have go := wok_iff.1 g
      have := ho.wd.lo; have := ho.wd.hi; have hu := go.wd.lo; have := go.wd.hi; have := go.top; have := go.lo; have := ho.lo; have := ho.hi; have := go.hi
      rw [if_pos h, if_pos g, wrap64_id (by omega) (by omega)]
      by_cases k : w + u ≤ 16
      · have e : (2 : Int) ^ w.toNat * 2 ^ u.toNat = 2 ^ (w + u).toNat := by rw [← Int.pow_add]; congr 1; omega
        have le := two_pow_le (i := (w + u).toNat) (j := 16) (by omega)
        have hm : a * 2 ^ u.toNat ≤ 2 ^ w.toNat * 2 ^ u.toNat := Int.mul_le_mul_of_nonneg_right (by omega) (by have := go.wd.pos; omega)
        have hz : 0 ≤ a * 2 ^ u.toNat := Int.mul_nonneg ho.lo (by have := go.wd.pos; omega)
        rw [if_neg (by omega), go.wd.u64, if_pos (by omega), shl_val _ _ (by omega) (by omega) (by omega) (by omega), wrap64_id (by omega) (by omega), if_pos ⟨h, g, k⟩]
      · rw [if_pos (by omega), if_neg (fun c => k c.2.2)]
    · rw [if_pos h, if_neg g, if_neg (fun c => g c.2.1)]
  · rw [if_neg h, if_neg (fun c => h c.1)]
theorem impl_WordJoin_eq (w a u b : Int) : impl_WordJoin.f w a u b = some (wjoin w a u b) := by
  unfold impl_WordJoin.f wjoin; rw [impl_WordOk_eq, impl_WordOk_eq]; simp only [Option.bind_some]
  by_cases h : wok w a = true
  · by_cases g : wok u b = true
    · have ho := wok_iff.1 h
      have go := wok_iff.1 g
      have := ho.wd.lo; have := ho.wd.hi; have hu := go.wd.lo; have := go.wd.hi; have := go.top; have := go.lo; have := ho.lo; have := ho.hi; have := go.hi
      rw [if_pos h, if_pos g, wrap64_id (by omega) (by omega)]
      by_cases k : w + u ≤ 16
      · have e : (2 : Int) ^ w.toNat * 2 ^ u.toNat = 2 ^ (w + u).toNat := by rw [← Int.pow_add]; congr 1; omega
        have le := two_pow_le (i := (w + u).toNat) (j := 16) (by omega)
        have hm : a * 2 ^ u.toNat ≤ 2 ^ w.toNat * 2 ^ u.toNat := Int.mul_le_mul_of_nonneg_right (by omega) (by have := go.wd.pos; omega)
        have hz : 0 ≤ a * 2 ^ u.toNat := Int.mul_nonneg ho.lo (by have := go.wd.pos; omega)
        rw [if_neg (by omega), if_pos (by omega), shl_val _ _ (by omega) (by omega) (by omega) (by omega), wrap64_id (by omega) (by omega), if_pos ⟨h, g, k⟩]
      · rw [if_pos (by omega), if_neg (fun c => k c.2.2)]
    · rw [if_pos h, if_neg g, if_neg (fun c => g c.2.1)]
  · rw [if_neg h, if_neg (fun c => h c.1)]
theorem FnExactWordJoin : laws_FnExactWordJoin.Pure := by
  intro a0 a1 a2 a3 _ _ _ _
  unfold laws_FnExactWordJoin.f; rw [spec_WordJoin_eq, impl_WordJoin_eq]; simp

end Go.Proofs.Ytbacmlbdgolcfaa.Pure
