/- What the law 'FnExactWordGrow' computes is true for every input; no condition. -/
import Derived.Test.YtbacmlbdgolcfaaMathB
import Derived.Test.YtbacmlbdgolcfaaPFnExactWordGrowx1
namespace Go.Proofs.Ytbacmlbdgolcfaa.Pure
open Go Go.RowKit Go.Proofs.Ytbacmlbdgolcfaa.PFnExactWordGrow Go.Proofs.YtbacmlbdgolcfaaW.PrintWords Go.Proofs.YtbacmlbdgolcfaaW.PrintLast LeadWord

theorem spec_l1In_eq (a b c : Int) : spec_l1In.f a b c = some (decide (b ≤ a ∧ a ≤ c)) := by
  unfold spec_l1In.f
  by_cases h : a ≥ b
  · rw [if_pos h]; congr 1; simp [show b ≤ a from h]
  · rw [if_neg h]; simp [show ¬ b ≤ a from h]
theorem impl_in_eq (a b c : Int) : impl_in.f a b c = some (decide (b ≤ a ∧ a ≤ c)) := by
  unfold impl_in.f
  by_cases h : b ≤ a
  · rw [if_pos h]; congr 1; simp [h]
  · rw [if_neg h]; simp [h]
theorem spec_l1Width_eq (w : Int) : spec_l1Width.f w = some (decide (1 ≤ w ∧ w ≤ 16)) := by
  unfold spec_l1Width.f; rw [spec_l1In_eq]; rfl
theorem impl_isWidth_eq (w : Int) : impl_isWidth.f w = some (decide (1 ≤ w ∧ w ≤ 16)) := by
  unfold impl_isWidth.f; rw [impl_in_eq]; rfl
theorem impl_mask_eq (w : Int) (h0 : 0 ≤ w) (h1 : w ≤ 62) : impl_mask.f w = some (2 ^ w.toNat - 1) := by
  have h := two_pow_le (i := w.toNat) (j := 62) (by omega)
  have p := two_pow_pos w.toNat
  unfold impl_mask.f; rw [if_pos h0, shl_one w h0 h1, wrap64_id (by omega) (by omega)]
theorem impl_mask_w {w : Int} (h : Wd w) : impl_mask.f w = some (2 ^ w.toNat - 1) := impl_mask_eq w (by have := h.lo; omega) (by have := h.hi; omega)
theorem spec_WordOk_eq (w v : Int) : spec_WordOk.f w v = some (wok w v) := by
  unfold spec_WordOk.f; rw [spec_l1Width_eq]; simp only [Option.bind_some]
  by_cases h : 1 ≤ w ∧ w ≤ 16
  · have hd : Wd w := ⟨h.1, h.2⟩
    have := hd.le; have := hd.pos; have := hd.lo
    rw [if_pos (decide_eq_true h), hd.u64, if_pos (by omega), spec_l1In_eq, hd.shl1, wrap64_id (by omega) (by omega)]
    simp only [Option.bind_some, wok]
    congr 1
    rw [decide_eq_decide]; omega
  · rw [if_neg (by rw [decide_eq_true_iff]; exact h)]
    congr 1
    symm
    unfold wok
    rw [decide_eq_false_iff_not]; omega
theorem impl_WordOk_eq (w v : Int) : impl_WordOk.f w v = some (wok w v) := by
  unfold impl_WordOk.f; rw [impl_isWidth_eq]; simp only [Option.bind_some]
  by_cases h : 1 ≤ w ∧ w ≤ 16
  · have hd : Wd w := ⟨h.1, h.2⟩
    rw [if_pos (decide_eq_true h), impl_mask_w hd]
    simp only [Option.bind_some]
    rw [impl_in_eq]
    simp only [Option.bind_some, wok]
    congr 1
    rw [decide_eq_decide]; omega
  · rw [if_neg (by rw [decide_eq_true_iff]; exact h)]
    congr 1
    symm
    unfold wok
    rw [decide_eq_false_iff_not]; omega
theorem spec_WordSigned_eq (w v : Int) : spec_WordSigned.f w v = some (wsg w v) := by
  unfold spec_WordSigned.f wsg; rw [spec_WordOk_eq]; simp only [Option.bind_some]
  by_cases h : wok w v = true
  · have ho := wok_iff.1 h
    have hd := ho.wd
    have := hd.lo; have := hd.hi; have := hd.le; have := hd.pos; have := ho.lo; have := ho.hi
    rw [if_pos h, if_pos h, hd.pred, wrap_u64_id (by omega) (by omega), if_pos (by omega), hd.shlh]
    unfold sg
    by_cases hv : v < 2 ^ (w - 1).toNat
    · rw [if_neg (by omega), if_pos hv]
    · rw [if_pos (by omega), if_neg hv, hd.u64, if_pos (by omega), hd.shl1, wrap64_id (by omega) (by omega)]
  · rw [if_neg h, if_neg h]
theorem impl_signed_eq {w v : Int} (ho : Wo w v) : impl_signed.f w v = some (sg w v) := by
  have hd := ho.wd
  have := hd.lo; have := hd.hi; have := hd.le; have hp := hd.pos; have := ho.lo; have := ho.hi; have hh := hd.half; have := hd.hpos
  unfold impl_signed.f
  rw [hd.pred, if_pos (by omega), if_pos (by omega), shr_val _ _ (by omega) (by omega)]
  unfold sg
  by_cases hv : v < 2 ^ (w - 1).toNat
  · rw [Int.ediv_eq_zero_of_lt ho.lo hv, if_pos hv, shl_val _ _ (by omega) (by omega) (by omega) (by omega), Int.zero_mul, wrap64_id (by omega) (by omega)]
    congr 1; omega
  · have e : v / 2 ^ (w - 1).toNat = 1 := by
      rw [show v = (v - 2 ^ (w - 1).toNat) + 2 ^ (w - 1).toNat by omega, Int.add_ediv_of_dvd_right ⟨1, by omega⟩, Int.ediv_self (by omega), Int.ediv_eq_zero_of_lt (by omega) (by omega)]; rfl
    rw [e, if_neg hv, hd.shl1, wrap64_id (by omega) (by omega)]
theorem spec_WordFrom_eq (w n : Int) : spec_WordFrom.f w n = some (wfrom w n) := by
  unfold spec_WordFrom.f wfrom; rw [spec_l1Width_eq]; simp only [Option.bind_some]
  by_cases h : 1 ≤ w ∧ w ≤ 16
  · have hd : Wd w := ⟨h.1, h.2⟩
    have := hd.le; have := hd.pos; have := hd.lo
    have hb := tmod_bound n (2 ^ w.toNat) (by omega)
    have hf := tmod_fix n (2 ^ w.toNat) (by omega)
    rw [if_pos (decide_eq_true h), if_pos h, hd.u64, if_pos (by omega), hd.shl1, if_neg (by omega)]
    by_cases hn : Int.tmod n (2 ^ w.toNat) < 0
    · rw [if_pos hn] at hf ⊢; rw [wrap64_id (by omega) (by omega), hf]
    · rw [if_neg hn] at hf ⊢; rw [hf]
  · rw [if_neg (by rw [decide_eq_true_iff]; exact h), if_neg h]
theorem spec_WordFrom_w {w : Int} (h : Wd w) (n : Int) : spec_WordFrom.f w n = some (n % 2 ^ w.toNat) := by
  rw [spec_WordFrom_eq]; unfold wfrom; rw [if_pos ⟨h.lo, h.hi⟩]
theorem spec_WordGrow_eq (k : Nat) (hk : 1 ≤ k) (w a more : Int) (s : Bool) : spec_WordGrow.f k w a more s = some (wgrow w a more s) := by
  obtain ⟨k, rfl⟩ : ∃ m, k = m + 1 := ⟨k - 1, by omega⟩
  unfold spec_WordGrow.f wgrow; rw [spec_WordOk_eq]; simp only [Option.bind_some, spec_WordGrow.j0]
  by_cases h : wok w a = true
  · have ho := wok_iff.1 h
    have hd := ho.wd
    have := ho.wd.lo; have := ho.wd.hi; have := ho.lo
    rw [if_pos h, wrap64_id (x := 16 - w) (by omega) (by omega)]
    by_cases c : 0 ≤ more ∧ w + more ≤ 16
    · rw [if_neg (by omega), if_neg (by rw [decide_eq_true_iff]; omega), wrap64_id (x := w + more) (by omega) (by omega), if_pos (show wok w a = true ∧ 0 ≤ more ∧ w + more ≤ 16 from ⟨h, c⟩)]
      cases s
      · simp
      · have hd2 : Wd (w + more) := ⟨by omega, by omega⟩
        simp only [if_true]
        rw [spec_WordSigned_eq]; simp only [Option.bind_some]
        rw [spec_WordFrom_w hd2]; simp only [Option.bind_some, wsg]
        rw [if_pos h]
    · rw [if_neg (show ¬ (wok w a = true ∧ 0 ≤ more ∧ w + more ≤ 16) from fun k => c k.2)]
      by_cases c1 : more < 0
      · rw [if_pos c1, if_pos trivial]
      · rw [if_neg c1, if_pos (by rw [decide_eq_true_iff]; omega)]
  · rw [if_neg h, if_pos trivial, if_neg (fun c => h c.1)]
theorem impl_grow_eq {w a more : Int} (s : Bool) (ho : Wo w a) (h0 : 0 ≤ more) (h1 : w + more ≤ 16) : impl_grow.f w a more s = some (if s = true then sg w a % 2 ^ (w + more).toNat else a) := by
  have := ho.wd.lo
  unfold impl_grow.f
  cases s
  · simp
  · simp only [if_true]
    rw [impl_signed_eq ho, wrap64_id (by omega) (by omega), impl_mask_eq _ (by omega) (by omega)]; simp only [Option.bind_some]
    rw [and_mask _ _ (by omega)]
theorem impl_WordGrow_eq (w a more : Int) (s : Bool) : impl_WordGrow.f w a more s = some (wgrow w a more s) := by
  unfold impl_WordGrow.f wgrow; rw [impl_WordOk_eq]; simp only [Option.bind_some]
  by_cases h : wok w a = true
  · have ho := wok_iff.1 h
    have := ho.wd.lo; have := ho.wd.hi
    rw [if_pos h, wrap64_id (x := 16 - w) (by omega) (by omega), impl_in_eq]; simp only [Option.bind_some]
    by_cases c : 0 ≤ more ∧ w + more ≤ 16
    · rw [if_pos (decide_eq_true (by omega)), impl_grow_eq s ho c.1 c.2, wrap64_id (x := w + more) (by omega) (by omega), if_pos (show wok w a = true ∧ 0 ≤ more ∧ w + more ≤ 16 from ⟨h, c⟩)]; rfl
    · rw [if_neg (by rw [decide_eq_true_iff]; omega), if_neg (show ¬ (wok w a = true ∧ 0 ≤ more ∧ w + more ≤ 16) from fun k => c k.2)]
  · rw [if_neg h, if_neg (fun c => h c.1)]
theorem FnExactWordGrow : laws_FnExactWordGrow.Pure := by
  intro a0 a1 a2 a3 _ _ _
  refine ⟨1, ?_⟩
  unfold laws_FnExactWordGrow.f; rw [spec_WordGrow_eq 1 (by omega), impl_WordGrow_eq]; simp

end Go.Proofs.Ytbacmlbdgolcfaa.Pure
