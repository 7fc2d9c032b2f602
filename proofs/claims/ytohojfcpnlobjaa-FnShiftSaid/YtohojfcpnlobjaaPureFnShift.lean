/- What the law 'FnShift' computes is true for every input; no condition. -/
import Derived.Test.YtohojfcpnlobjaaMathC
import Derived.Test.YtohojfcpnlobjaaPFnShiftx4
namespace Go.Proofs.Ytohojfcpnlobjaa.Pure
open Go Go.RowKit Go.Proofs.Ytohojfcpnlobjaa.PFnShift Go.Proofs.YtohojfcpnlobjaaW Go.Proofs.YtohojfcpnlobjaaW.PrintWords Go.Proofs.YtohojfcpnlobjaaW.PrintLast LeadWord
set_option linter.unusedSimpArgs false
set_option linter.unusedVariables false

theorem spec_l1In_eq (a b c : Int) : spec_l1In.f a b c = some (decide (b ≤ a ∧ a ≤ c)) := by
  unfold spec_l1In.f
  by_cases h : a ≥ b
  · rw [if_pos h]; congr 1; simp [show b ≤ a from h]
  · rw [if_neg h]; simp [show ¬ b ≤ a from h]
theorem impl_in_eq (a b c : Int) : impl_in.f a b c = some (decide (b ≤ a ∧ a ≤ c)) := by
  unfold impl_in.f
  by_cases h : b ≤ a
  · rw [if_pos h]; congr 1; simp [h]
  · rw [if_neg h]; simp [h]
theorem spec_l1Width_eq (w : Int) : spec_l1Width.f w = some (decide (1 ≤ w ∧ w ≤ 16)) := by
  unfold spec_l1Width.f; rw [spec_l1In_eq]; rfl
theorem impl_isWidth_eq (w : Int) : impl_isWidth.f w = some (decide (1 ≤ w ∧ w ≤ 16)) := by
  unfold impl_isWidth.f; rw [impl_in_eq]; rfl
theorem impl_mask_eq (w : Int) (h0 : 0 ≤ w) (h1 : w ≤ 62) : impl_mask.f w = some (2 ^ w.toNat - 1) := by
  have h := two_pow_le (i := w.toNat) (j := 62) (by omega)
  have p := two_pow_pos w.toNat
  unfold impl_mask.f; rw [if_pos h0, shl_one w h0 h1, wrap64_id (by omega) (by omega)]
theorem impl_mask_w {w : Int} (h : Wd w) : impl_mask.f w = some (2 ^ w.toNat - 1) := impl_mask_eq w (by have := h.lo; omega) (by have := h.hi; omega)
theorem spec_WordOk_eq (w v : Int) : spec_WordOk.f w v = some (wok w v) := by
  unfold spec_WordOk.f; rw [spec_l1Width_eq]; simp -implicitDefEqProofs only [Option.bind_some]
  by_cases h : 1 ≤ w ∧ w ≤ 16
  · have hd : Wd w := ⟨h.1, h.2⟩
    have := hd.le; have := hd.pos; have := hd.lo
    rw [if_pos (decide_eq_true h), hd.u64, if_pos (by omega), spec_l1In_eq, hd.shl1, wrap64_id (by omega) (by omega)]
    simp -implicitDefEqProofs only [Option.bind_some, wok]
    congr 1
    rw [decide_eq_decide]; omega
  · rw [if_neg (by rw [decide_eq_true_iff]; exact h)]
    congr 1
    symm
    unfold wok
    rw [decide_eq_false_iff_not]; omega
theorem impl_WordOk_eq (w v : Int) : impl_WordOk.f w v = some (wok w v) := by
  unfold impl_WordOk.f; rw [impl_isWidth_eq]; simp -implicitDefEqProofs only [Option.bind_some]
  by_cases h : 1 ≤ w ∧ w ≤ 16
  · have hd : Wd w := ⟨h.1, h.2⟩
    rw [if_pos (decide_eq_true h), impl_mask_w hd]
    simp -implicitDefEqProofs only [Option.bind_some]
    rw [impl_in_eq]
    simp -implicitDefEqProofs only [Option.bind_some, wok]
    congr 1
    rw [decide_eq_decide]; omega
  · rw [if_neg (by rw [decide_eq_true_iff]; exact h)]
    congr 1
    symm
    unfold wok
    rw [decide_eq_false_iff_not]; omega
theorem spec_WordSigned_eq (w v : Int) : spec_WordSigned.f w v = some (wsg w v) := by
  unfold spec_WordSigned.f wsg; rw [spec_WordOk_eq]; simp -implicitDefEqProofs only [Option.bind_some]
  by_cases h : wok w v = true
  · have ho := wok_iff.1 h
    have hd := ho.wd
    have := hd.lo; have := hd.hi; have := hd.le; have := hd.pos; have := ho.lo; have := ho.hi
    rw [if_pos h, if_pos h, hd.pred, wrap_u64_id (by omega) (by omega), if_pos (by omega), hd.shlh]
    unfold sg
    by_cases hv : v < 2 ^ (w - 1).toNat
    · rw [if_neg (by omega), if_pos hv]
    · rw [if_pos (by omega), if_neg hv, hd.u64, if_pos (by omega), hd.shl1, wrap64_id (by omega) (by omega)]
  · rw [if_neg h, if_neg h]
theorem impl_signed_eq {w v : Int} (ho : Wo w v) : impl_signed.f w v = some (sg w v) := by
  have hd := ho.wd
  have := hd.lo; have := hd.hi; have := hd.le; have hp := hd.pos; have := ho.lo; have := ho.hi; have hh := hd.half; have := hd.hpos
  unfold impl_signed.f
  rw [hd.pred, if_pos (by omega), if_pos (by omega), shr_val _ _ (by omega) (by omega)]
  unfold sg
  by_cases hv : v < 2 ^ (w - 1).toNat
  · rw [Int.ediv_eq_zero_of_lt ho.lo hv, if_pos hv, shl_val _ _ (by omega) (by omega) (by omega) (by omega), Int.zero_mul, wrap64_id (by omega) (by omega)]
    congr 1; omega
  · have e : v / 2 ^ (w - 1).toNat = 1 := by
      rw [show v = (v - 2 ^ (w - 1).toNat) + 2 ^ (w - 1).toNat by omega, Int.add_ediv_of_dvd_right ⟨1, by omega⟩, Int.ediv_self (by omega), Int.ediv_eq_zero_of_lt (by omega) (by omega)]; rfl
    rw [e, if_neg hv, hd.shl1, wrap64_id (by omega) (by omega)]
theorem spec_WordFrom_eq (w n : Int) : spec_WordFrom.f w n = some (wfrom w n) := by
  unfold spec_WordFrom.f wfrom; rw [spec_l1Width_eq]; simp -implicitDefEqProofs only [Option.bind_some]
  by_cases h : 1 ≤ w ∧ w ≤ 16
  · have hd : Wd w := ⟨h.1, h.2⟩
    have := hd.le; have := hd.pos; have := hd.lo
    have hb := tmod_bound n (2 ^ w.toNat) (by omega)
    have hf := tmod_fix n (2 ^ w.toNat) (by omega)
    rw [if_pos (decide_eq_true h), if_pos h, hd.u64, if_pos (by omega), hd.shl1, if_neg (by omega)]
    by_cases hn : Int.tmod n (2 ^ w.toNat) < 0
    · rw [if_pos hn] at hf ⊢; rw [wrap64_id (by omega) (by omega), hf]
    · rw [if_neg hn] at hf ⊢; rw [hf]
  · rw [if_neg (by rw [decide_eq_true_iff]; exact h), if_neg h]
theorem spec_WordFrom_w {w : Int} (h : Wd w) (n : Int) : spec_WordFrom.f w n = some (n % 2 ^ w.toNat) := by
  rw [spec_WordFrom_eq]; unfold wfrom; rw [if_pos ⟨h.lo, h.hi⟩]
theorem impl_bit_eq (b : Bool) : impl_bit.f b = some (yes b) := by
  unfold impl_bit.f yes; cases b <;> rfl
theorem impl_divided_eq (kind w a b : Int) (hk : kind = 14 ∨ kind = 15) (ha : Wo w a) (hb : Wo w b) (k : Nat) (hf : 2 ≤ k) : impl_divided.f k kind w a b = some (if kind = 15 then srm w a b else sdv w a b) := by
  have hd := ha.wd
  have := hd.lo; have := hd.le; have := hd.pos; have := sg_small ha; have := sg_small hb
  obtain ⟨k, rfl⟩ : ∃ m, k = m + 1 + 1 := ⟨k - 2, by omega⟩
  unfold impl_divided.f
  rw [impl_signed_eq ha, impl_signed_eq hb]
  simp -implicitDefEqProofs only [Option.bind_some, impl_divided.j0, impl_divided.j1]
  rw [impl_mask_w hd]
  simp -implicitDefEqProofs only [Option.bind_some]
  rw [and_mask _ _ (by have := hd.hi; omega), and_mask _ _ (by have := hd.hi; omega)]
  have hq : (Int.tdiv (sg w a) (sg w b)).natAbs ≤ (sg w a).natAbs := by rw [Int.natAbs_tdiv]; exact Nat.div_le_self _ _
  rw [wrap64_id (x := Int.tdiv _ _) (by omega) (by omega)]
  unfold sdv srm
  rcases hk with rfl | rfl
  · simp -implicitDefEqProofs only [show ¬ ((14 : Int) = 15) by decide, if_false]
    by_cases h : sg w b = 0
    · by_cases hn : sg w a < 0
      · simp [h, hn]
      · simp [h, hn]
    · simp [h]
  · by_cases h : sg w b = 0
    · simp [h]
    · simp [h]
theorem impl_shifted_eq (kind : Int) (hkind : kind = 16 ∨ kind = 17 ∨ kind = 18) (w a b : Int) (ha : Wo w a) (hb : Wo w b) : impl_shifted.f kind w a b = some (op2 kind w a b) := by
  have hd := ha.wd
  have := hd.lo; have := hd.hi; have := hd.pos; have := ha.top; have := ha.lo; have := hb.lo; have := hd.le
  have e : mn b w = lw w b := by unfold mn lw; split <;> rfl
  have hl : 0 ≤ lw w b ∧ lw w b ≤ 16 := by unfold lw; split <;> omega
  unfold impl_shifted.f
  rw [e]
  simp -implicitDefEqProofs only [if_pos hl.1]
  rw [impl_mask_w hd, impl_signed_eq ha]
  simp -implicitDefEqProofs only [Option.bind_some]
  rw [and_mask _ _ (by omega), and_mask _ _ (by omega), shr_val _ _ (by omega) (by omega), shr_val _ _ (by omega) (by omega)]
  have hp := two_pow_le (i := (lw w b).toNat) (j := 16) (by omega)
  have hp0 := two_pow_pos (lw w b).toNat
  have hm : a * 2 ^ (lw w b).toNat ≤ 65536 * 2 ^ 16 := Int.mul_le_mul (by omega) hp (by omega) (by omega)
  have hz : 0 ≤ a * 2 ^ (lw w b).toNat := Int.mul_nonneg ha.lo (by omega)
  rw [shl_val _ _ (by omega) (by omega) (by omega) (by omega)]
  rcases hkind with rfl | rfl | rfl <;> simp -implicitDefEqProofs only [op2] <;> simp -implicitDefEqProofs only [Int.reduceEq, Int.reduceLE, Int.reduceLT, Int.reduceBEq, reduceIte, if_true, if_false, decide_true, decide_false, Bool.false_eq_true]
theorem impl_rotate_eq (w a b : Int) (ha : Wo w a) (hb : 0 ≤ b) : impl_rotate.f w a b = some (rolv w a (Int.tmod b w)) := by
  have hd := ha.wd
  have hl := rolc_lt hd hb
  have := hd.lo; have := hd.hi
  unfold rolc at hl
  unfold impl_rotate.f
  rw [if_neg (by omega), if_pos hl.1, wrap64_id (by omega) (by omega), if_pos (by omega), impl_mask_w hd]
  simp -implicitDefEqProofs only [Option.bind_some]
  rw [and_mask _ _ (by omega)]
  obtain ⟨c, hc⟩ := Int.eq_ofNat_of_zero_le hl.1
  rw [hc] at hl ⊢
  obtain ⟨W, A, rfl, rfl, h1, h2, h3⟩ := word_nat ha
  have hcW : c < W := by omega
  have h65 : 2 ^ W ≤ 2 ^ 16 := pow_nat_le h2
  have hc16 : 2 ^ c ≤ 2 ^ 16 := pow_nat_le (by omega)
  have hm : A * 2 ^ c ≤ 2 ^ 16 * 2 ^ 16 := Nat.mul_le_mul (by omega) hc16
  have hcast : (A : Int) * 2 ^ c = ((A * 2 ^ c : Nat) : Int) := by push_cast; rfl
  have hcast2 : (A : Int) / 2 ^ (W - c) = ((A / 2 ^ (W - c) : Nat) : Int) := by push_cast; rfl
  rw [← rolN_end W c A hcW h3, ← rol_or W c A hcW h3, shl_val _ _ (by omega) (by omega) (by rw [Int.toNat_natCast, hcast]; omega) (by rw [Int.toNat_natCast, hcast]; omega), shr_val _ _ (by omega) (by omega)]
  rw [show ((W : Int) - (c : Int)).toNat = W - c by omega, Int.toNat_natCast, Int.toNat_natCast, hcast, hcast2, bits_or_nat _ _ (by omega) (by have := Nat.div_le_self A (2 ^ (W - c)); omega)]
  push_cast
  rfl
theorem impl_compared_eq (kind w a b : Int) (hk : 21 ≤ kind ∧ kind ≤ 28) (ha : Wo w a) (hb : Wo w b) : impl_compared.f kind w a b = some (says kind w a b) := by
  have hd := ha.wd
  have hs1 := sg_small ha; have hs2 := sg_small hb; have h1 := ha.top; have h2 := hb.top; have := ha.lo; have := hb.lo; have := hd.lo; have := hd.hi; have hh := hd.half; have := hd.le; have := hd.hpos
  have hm : a * b ≤ 65536 * 65536 := Int.mul_le_mul (by omega) (by omega) (by omega) (by omega)
  have hz : 0 ≤ a * b := Int.mul_nonneg ha.lo hb.lo
  unfold impl_compared.f
  rw [impl_signed_eq ha, impl_signed_eq hb, impl_mask_w hd]
  simp -implicitDefEqProofs only [Option.bind_some]
  have e1 : shl .i64 (-1) (w - 1) = -2 ^ (w - 1).toNat := by rw [shl_val _ _ (by omega) (by omega) (by omega) (by omega)]; omega
  rw [hd.pred, if_pos (show 0 ≤ w - 1 by omega), wrap64_id (x := a + b) (by omega) (by omega), wrap64_id (x := a * b) (by omega) (by omega), wrap64_id (x := sg w a + sg w b) (by omega) (by omega), e1, hd.shlh, wrap64_id (by omega) (by omega), impl_in_eq]
  simp -implicitDefEqProofs only [Option.bind_some]
  have hc : kind = 21 ∨ kind = 22 ∨ kind = 23 ∨ kind = 24 ∨ kind = 25 ∨ kind = 26 ∨ kind = 27 ∨ kind = 28 := by omega
  rcases hc with rfl | rfl | rfl | rfl | rfl | rfl | rfl | rfl <;> simp -implicitDefEqProofs only [says] <;> simp -implicitDefEqProofs only [Int.reduceEq, Int.reduceLE, Int.reduceLT, Int.reduceBEq, reduceIte, if_true, if_false, decide_true, decide_false, Bool.false_eq_true]
  · rw [show (a == b) = decide (a = b) from rfl]
  · congr 1; rw [decide_eq_decide]; omega
  · congr 2; rw [decide_eq_decide]; omega
  · congr 1; rw [decide_eq_decide]; omega
theorem impl_two_eq (kind w a b : Int) (h0 : 6 ≤ kind) (h1 : kind ≤ 28) (ha : Wo w a) (hb : Wo w b) (k : Nat) (hk : 4 ≤ k) : impl_two.f k kind w a b = some (if kind ≤ 20 then (op2 kind w a b, w) else (yes (says kind w a b), 1)) := by
  obtain ⟨k, rfl⟩ : ∃ m, k = m + 1 + 1 + 1 + 1 := ⟨k - 4, by omega⟩
  have hd := ha.wd
  have := ha.lo; have := hb.lo; have g1 := ha.top; have g2 := hb.top; have := hd.lo; have := hd.hi
  have hm : a * b ≤ 65536 * 65536 := Int.mul_le_mul (by omega) (by omega) (by omega) (by omega)
  have hz : 0 ≤ a * b := Int.mul_nonneg ha.lo hb.lo
  obtain ⟨A, hA⟩ := Int.eq_ofNat_of_zero_le ha.lo
  obtain ⟨B, hB⟩ := Int.eq_ofNat_of_zero_le hb.lo
  have hdiv := impl_divided_eq kind w a b
  have hshift := impl_shifted_eq kind
  have hcmp := impl_compared_eq kind w a b
  have hrot := impl_rotate_eq w a b ha hb.lo
  have hl := rolc_lt hd hb.lo
  unfold rolc at hl
  have hror := impl_rotate_eq w a (w - Int.tmod b w) ha (by omega)
  have hw0 : ¬ (w = 0) := by omega
  have hwr : wrap64 (w - Int.tmod b w) = w - Int.tmod b w := wrap64_id (by omega) (by omega)
  unfold impl_two.f
  rw [impl_mask_w hd]
  simp -implicitDefEqProofs only [Option.bind_some]
  rw [and_mask _ _ (by omega), and_mask _ _ (by omega), and_mask _ _ (by omega), wrap64_id (x := a + b) (by omega) (by omega), wrap64_id (x := a - b) (by omega) (by omega), wrap64_id (x := a * b) (by omega) (by omega)]
  rcases two_cases h0 h1 with rfl | rfl | rfl | rfl | rfl | rfl | rfl | rfl | rfl | rfl | rfl | rfl | rfl | rfl | rfl | rfl | rfl | rfl | rfl | rfl | rfl | rfl | rfl
  · simp -implicitDefEqProofs only [op2]; simp -implicitDefEqProofs only [Int.reduceEq, Int.reduceLE, Int.reduceLT, Int.reduceBEq, reduceIte, if_true, if_false, decide_true, decide_false, Bool.false_eq_true]; rw [hA, hB, bits_and_nat _ _ (by omega) (by omega)]; rfl
  · simp -implicitDefEqProofs only [op2]; simp -implicitDefEqProofs only [Int.reduceEq, Int.reduceLE, Int.reduceLT, Int.reduceBEq, reduceIte, if_true, if_false, decide_true, decide_false, Bool.false_eq_true]; rw [hA, hB, bits_or_nat _ _ (by omega) (by omega)]; rfl
  · simp -implicitDefEqProofs only [op2]; simp -implicitDefEqProofs only [Int.reduceEq, Int.reduceLE, Int.reduceLT, Int.reduceBEq, reduceIte, if_true, if_false, decide_true, decide_false, Bool.false_eq_true]; rw [hA, hB, bits_xor_nat _ _ (by omega) (by omega)]; rfl
  · simp -implicitDefEqProofs only [op2]; simp -implicitDefEqProofs only [Int.reduceEq, Int.reduceLE, Int.reduceLT, Int.reduceBEq, reduceIte, if_true, if_false, decide_true, decide_false, Bool.false_eq_true]
  · simp -implicitDefEqProofs only [op2]; simp -implicitDefEqProofs only [Int.reduceEq, Int.reduceLE, Int.reduceLT, Int.reduceBEq, reduceIte, if_true, if_false, decide_true, decide_false, Bool.false_eq_true]
  · simp -implicitDefEqProofs only [op2]; simp -implicitDefEqProofs only [Int.reduceEq, Int.reduceLE, Int.reduceLT, Int.reduceBEq, reduceIte, if_true, if_false, decide_true, decide_false, Bool.false_eq_true]
  · simp -implicitDefEqProofs only [op2]; simp -implicitDefEqProofs only [Int.reduceEq, Int.reduceLE, Int.reduceLT, Int.reduceBEq, reduceIte, if_true, if_false, decide_true, decide_false, Bool.false_eq_true]
    have h3 := Int.ediv_le_self b ha.lo
    have h4 := Int.ediv_nonneg ha.lo hb.lo
    by_cases h : b = 0
    · rw [if_neg (by omega), if_pos h]
    · rw [if_pos (by omega), if_neg h, if_neg h, Int.tdiv_eq_ediv_of_nonneg ha.lo, wrap64_id (by omega) (by omega)]
  · simp -implicitDefEqProofs only [op2]; simp -implicitDefEqProofs only [Int.reduceEq, Int.reduceLE, Int.reduceLT, Int.reduceBEq, reduceIte, if_true, if_false, decide_true, decide_false, Bool.false_eq_true]
    by_cases h : b = 0
    · rw [if_neg (by omega), if_pos h]
    · rw [if_pos (by omega), if_neg h, if_neg h, Int.tmod_eq_emod_of_nonneg ha.lo]
  · simp -implicitDefEqProofs only [op2, impl_two.j0]; simp -implicitDefEqProofs only [Int.reduceEq, Int.reduceLE, Int.reduceLT, Int.reduceBEq, reduceIte, if_true, if_false, decide_true, decide_false, Bool.false_eq_true]; rw [hdiv (.inl rfl) ha hb _ (by omega)]; rfl
  · simp -implicitDefEqProofs only [op2, impl_two.j0]; simp -implicitDefEqProofs only [Int.reduceEq, Int.reduceLE, Int.reduceLT, Int.reduceBEq, reduceIte, if_true, if_false, decide_true, decide_false, Bool.false_eq_true]; rw [hdiv (.inr rfl) ha hb _ (by omega)]; rfl
  · simp -implicitDefEqProofs only [impl_two.j0, impl_two.j1]; simp -implicitDefEqProofs only [Int.reduceEq, Int.reduceLE, Int.reduceLT, Int.reduceBEq, reduceIte, if_true, if_false, decide_true, decide_false, Bool.false_eq_true]; rw [hshift (.inl rfl) w a b ha hb]; rfl
  · simp -implicitDefEqProofs only [impl_two.j0, impl_two.j1]; simp -implicitDefEqProofs only [Int.reduceEq, Int.reduceLE, Int.reduceLT, Int.reduceBEq, reduceIte, if_true, if_false, decide_true, decide_false, Bool.false_eq_true]; rw [hshift (.inr (.inl rfl)) w a b ha hb]; rfl
  · simp -implicitDefEqProofs only [impl_two.j0, impl_two.j1]; simp -implicitDefEqProofs only [Int.reduceEq, Int.reduceLE, Int.reduceLT, Int.reduceBEq, reduceIte, if_true, if_false, decide_true, decide_false, Bool.false_eq_true]; rw [hshift (.inr (.inr rfl)) w a b ha hb]; rfl
  · simp -implicitDefEqProofs only [op2, impl_two.j0, impl_two.j1]; simp -implicitDefEqProofs only [Int.reduceEq, Int.reduceLE, Int.reduceLT, Int.reduceBEq, reduceIte, if_true, if_false, decide_true, decide_false, Bool.false_eq_true]; rw [hrot]; rfl
  · simp -implicitDefEqProofs only [op2, impl_two.j0, impl_two.j1]; simp -implicitDefEqProofs only [Int.reduceEq, Int.reduceLE, Int.reduceLT, Int.reduceBEq, reduceIte, if_true, if_false, decide_true, decide_false, Bool.false_eq_true]; rw [if_neg hw0, hwr, hror]; rfl
  all_goals
    simp -implicitDefEqProofs only [impl_two.j0, impl_two.j1]; simp -implicitDefEqProofs only [Int.reduceEq, Int.reduceLE, Int.reduceLT, Int.reduceBEq, reduceIte, if_true, if_false, decide_true, decide_false, Bool.false_eq_true]; rw [hcmp ⟨by decide, by decide⟩ ha hb]; simp -implicitDefEqProofs only [Option.bind_some]; rw [impl_bit_eq]; rfl
theorem impl_WordTwo_eq (kind w a b : Int) (k : Nat) (hk : 4 ≤ k) : impl_WordTwo.f k kind w a b = some (wtwo kind w a b) := by
  unfold impl_WordTwo.f wtwo
  rw [impl_WordOk_eq, impl_WordOk_eq, impl_in_eq]
  simp -implicitDefEqProofs only [Option.bind_some]
  by_cases h : 6 ≤ kind ∧ kind ≤ 28
  · rw [if_pos (decide_eq_true h)]
    by_cases ha : wok w a = true
    · by_cases hb : wok w b = true
      · rw [if_pos ha, if_pos hb, if_pos ⟨h.1, h.2, ha, hb⟩, impl_two_eq kind w a b h.1 h.2 (wok_iff.1 ha) (wok_iff.1 hb) k hk]
        simp -implicitDefEqProofs only [Option.bind_some]
        split <;> rfl
      · rw [if_pos ha, if_neg hb, if_neg (fun c => hb c.2.2.2)]
    · rw [if_neg ha, if_neg (fun c => ha c.2.2.1)]
  · rw [if_neg (by rw [decide_eq_true_iff]; exact h), if_neg (fun c => h ⟨c.1, c.2.1⟩)]
structure Rd (l : List Int) : Prop where
  len : l.length ≤ 2000
  byte : ∀ x ∈ l, 0 ≤ x ∧ x ≤ 255
theorem u8_wf {x : Int} (h : (Lit.int .u8 x).wf = true) : 0 ≤ x ∧ x ≤ 255 := by
  simp [Lit.wf, IntKind.min, IntKind.max, IntKind.bits, IntKind.signed] at h
  omega
theorem spec_l17Open_eq (l : List Int) (h : ∀ x ∈ l, (Lit.int .u8 x).wf = true) : ∃ l', spec_l17Open.f l = some (l', 0) ∧ Rd l' := by
  unfold spec_l17Open.f
  by_cases g : (l.length : Int) > 2000
  · rw [if_pos g, if_pos (by omega)]
    refine ⟨_, rfl, ⟨?_, fun x hx => u8_wf (h x (List.mem_of_mem_take hx))⟩⟩
    rw [List.length_take]; omega
  · rw [if_neg g]
    exact ⟨_, rfl, ⟨by omega, fun x hx => u8_wf (h x hx)⟩⟩
theorem Rd.rd {l : List Int} (h : Rd l) (i : Int) : 0 ≤ rd l i ∧ rd l i ≤ 255 := by
  unfold PrintWords.rd
  rw [List.getD_eq_getElem?_getD]
  by_cases g : i.toNat < l.length
  · rw [List.getElem?_eq_getElem g]
    exact h.byte _ (List.getElem_mem g)
  · rw [List.getElem?_eq_none (by omega)]
    exact ⟨by decide, by decide⟩
theorem xor_nonneg {x y : Int} (hx : 0 ≤ x) (hx1 : x < 4611686018427387904) (hy : 0 ≤ y) (hy1 : y < 4611686018427387904) : 0 ≤ Go.bits .xor .i64 x y := by
  obtain ⟨a, rfl⟩ := Int.eq_ofNat_of_zero_le hx
  obtain ⟨b, rfl⟩ := Int.eq_ofNat_of_zero_le hy
  rw [bits_xor_nat a b (by omega) (by omega)]
  omega
theorem spec_l17Rd_pick_eq {l : List Int} (hl : Rd l) (p n : Int) (h0 : 0 ≤ p) (h1 : p ≤ 1000000000) (hn : n ≤ 1000000000) :
    ∃ v, (∀ k, 1 ≤ k → spec_l17Rd_pick.f k l p n = some (v, p + 1)) ∧ (1 ≤ n → 0 ≤ v ∧ v < n) ∧ (n < 1 → v = 0) := by
  have hp1 : wrap64 (p + 1) = p + 1 := wrap64_id (by omega) (by omega)
  have hp2 : wrap64 (p + 1 - 1) = p := by rw [wrap64_id (by omega) (by omega)]; omega
  by_cases hn1 : n < 1
  · refine ⟨0, fun k hk => ?_, fun h => by omega, fun _ => rfl⟩
    obtain ⟨k, rfl⟩ : ∃ m, k = m + 1 := ⟨k - 1, by omega⟩
    unfold spec_l17Rd_pick.f
    rw [if_pos hn1, hp1]
    simp -implicitDefEqProofs only [spec_l17Rd_pick.j0, if_true]
  · by_cases hz : (l.length : Int) = 0
    · refine ⟨0, fun k hk => ?_, fun h => ⟨by omega, by omega⟩, fun _ => rfl⟩
      obtain ⟨k, rfl⟩ : ∃ m, k = m + 1 := ⟨k - 1, by omega⟩
      unfold spec_l17Rd_pick.f
      rw [if_neg hn1, hp1, beq_iff_eq.2 hz]
      simp -implicitDefEqProofs only [spec_l17Rd_pick.j0, if_true]
    · have hlen := hl.len
      by_cases hlt : p < (l.length : Int)
      · have hb := hl.rd p
        refine ⟨Int.tmod (rd l p) n, fun k hk => ?_, fun h => ⟨Int.tmod_nonneg _ hb.1, Int.tmod_lt_of_pos _ (by omega)⟩, fun h => by omega⟩
        obtain ⟨k, rfl⟩ : ∃ m, k = m + 1 := ⟨k - 1, by omega⟩
        have hbw : wrap64 (rd l p) = rd l p := wrap64_id (by omega) (by omega)
        unfold spec_l17Rd_pick.f
        rw [if_neg hn1, hp1, beq_eq_false_iff_ne.2 hz]
        simp -implicitDefEqProofs only [spec_l17Rd_pick.j0]
        rw [if_neg (by simp), hp2, if_pos hlt, if_pos h0, if_neg (by omega), hbw]
      · have hk7 : wrap64 (wrap64 (p * 7) + 3) = p * 7 + 3 := by rw [wrap64_id (x := p * 7) (by omega) (by omega), wrap64_id (by omega) (by omega)]
        have ha0 := Int.tmod_nonneg (l.length : Int) h0
        have ha1 := Int.tmod_lt_of_pos p (show (0 : Int) < l.length by omega)
        have hb0 := Int.tmod_nonneg (l.length : Int) (show 0 ≤ p * 7 + 3 by omega)
        have hb1 := Int.tmod_lt_of_pos (p * 7 + 3) (show (0 : Int) < l.length by omega)
        have r1 := hl.rd (Int.tmod p (l.length : Int))
        have r2 := hl.rd (Int.tmod (p * 7 + 3) (l.length : Int))
        have hd : 0 ≤ Int.tdiv p (l.length : Int) ∧ Int.tdiv p (l.length : Int) ≤ p := by
          rw [Int.tdiv_eq_ediv_of_nonneg h0]
          exact ⟨Int.ediv_nonneg h0 (by omega), Int.ediv_le_self _ h0⟩
        have key : ∃ v, Int.tmod (Go.bits .xor .i64 (wrap64 (wrap64 (wrap64 (wrap64 (wrap64 (rd l (Int.tmod p (l.length : Int))) * 131) + wrap64 (wrap64 (rd l (Int.tmod (p * 7 + 3) (l.length : Int))) * 1117)) + wrap64 (p * 29)) + wrap64 (wrap64 (Int.tdiv p (l.length : Int)) * 53)))
            (wrap64 (Int.tdiv (wrap64 (wrap64 (wrap64 (wrap64 (wrap64 (rd l (Int.tmod p (l.length : Int))) * 131) + wrap64 (wrap64 (rd l (Int.tmod (p * 7 + 3) (l.length : Int))) * 1117)) + wrap64 (p * 29)) + wrap64 (wrap64 (Int.tdiv p (l.length : Int)) * 53))) 64))) n = v ∧ 0 ≤ v ∧ v < n := by
          generalize rd l (Int.tmod p (l.length : Int)) = x at *
          generalize rd l (Int.tmod (p * 7 + 3) (l.length : Int)) = y at *
          generalize Int.tdiv p (l.length : Int) = q at *
          clear hk7 hp1 hp2
          rw [wrap64_id (x := x) (by omega) (by omega), wrap64_id (x := y) (by omega) (by omega), wrap64_id (x := q) (by omega) (by omega), wrap64_id (x := x * 131) (by omega) (by omega), wrap64_id (x := y * 1117) (by omega) (by omega), wrap64_id (x := p * 29) (by omega) (by omega), wrap64_id (x := q * 53) (by omega) (by omega), wrap64_id (x := x * 131 + y * 1117) (by omega) (by omega), wrap64_id (x := x * 131 + y * 1117 + p * 29) (by omega) (by omega), wrap64_id (x := x * 131 + y * 1117 + p * 29 + q * 53) (by omega) (by omega)]
          have hX : 0 ≤ x * 131 + y * 1117 + p * 29 + q * 53 ∧ x * 131 + y * 1117 + p * 29 + q * 53 < 4611686018427387904 := by omega
          generalize x * 131 + y * 1117 + p * 29 + q * 53 = X at *
          rw [Int.tdiv_eq_ediv_of_nonneg hX.1, wrap64_id (by omega) (by omega)]
          exact ⟨_, rfl, Int.tmod_nonneg _ (xor_nonneg hX.1 hX.2 (by omega) (by omega)), Int.tmod_lt_of_pos _ (by omega)⟩
        obtain ⟨v, hv, hv0, hv1⟩ := key
        refine ⟨v, fun k hk => ?_, fun _ => ⟨hv0, hv1⟩, fun h => by omega⟩
        obtain ⟨k, rfl⟩ : ∃ m, k = m + 1 := ⟨k - 1, by omega⟩
        unfold spec_l17Rd_pick.f
        rw [if_neg hn1, hp1, beq_eq_false_iff_ne.2 hz]
        simp -implicitDefEqProofs only [spec_l17Rd_pick.j0]
        rw [if_neg (by simp), hp2, hk7, if_neg hlt, if_neg hz, if_pos ha0, if_pos ha1, if_pos hb0, if_pos hb1, if_neg (show ¬ n = 0 by omega), hv]
theorem spec_l17Rd_width_eq {l : List Int} (hl : Rd l) (p : Int) (h0 : 0 ≤ p) (h1 : p ≤ 900000000) :
    ∃ v p', (∀ k, 1 ≤ k → spec_l17Rd_width.f k l p = some (v, p')) ∧ p < p' ∧ p' ≤ p + 2 := by
  obtain ⟨a, ha, _, _⟩ := spec_l17Rd_pick_eq hl p 24 h0 (by omega) (by omega)
  obtain ⟨b, hb, hb1, _⟩ := spec_l17Rd_pick_eq hl (p + 1) 4 (by omega) (by omega) (by omega)
  obtain ⟨c, hc, _, _⟩ := spec_l17Rd_pick_eq hl (p + 1) 6 (by omega) (by omega) (by omega)
  have hb2 := hb1 (by omega)
  by_cases ha0 : a = 0
  · refine ⟨rd [0, 16, 17, -1] b, p + 1 + 1, fun k hk => ?_, by omega, by omega⟩
    unfold spec_l17Rd_width.f
    rw [ha k hk]
    simp -implicitDefEqProofs only [Option.bind_some]
    rw [if_pos ha0, hb k hk]
    simp -implicitDefEqProofs only [Option.bind_some]
    rw [if_pos hb2.1, if_pos (show b < (([0, 16, 17, -1] : List Int).length : Int) from by simp; omega)]
  · refine ⟨wrap64 (1 + c), p + 1 + 1, fun k hk => ?_, by omega, by omega⟩
    unfold spec_l17Rd_width.f
    rw [ha k hk]
    simp -implicitDefEqProofs only [Option.bind_some]
    rw [if_neg ha0, hc k hk]
    rfl
theorem spec_l17Rd_word_eq {l : List Int} (hl : Rd l) (p w : Int) (h0 : 0 ≤ p) (h1 : p ≤ 900000000) :
    ∃ v p', (∀ k, 1 ≤ k → spec_l17Rd_word.f k l p w = some (v, p')) ∧ p < p' ∧ p' ≤ p + 4 := by
  by_cases h : 1 ≤ w ∧ w ≤ 16
  · have hd : Wd w := ⟨h.1, h.2⟩
    have := hd.lo; have := hd.le; have := hd.pos
    obtain ⟨a, ha, _, _⟩ := spec_l17Rd_pick_eq hl p 8 h0 (by omega) (by omega)
    obtain ⟨b, hb, _, _⟩ := spec_l17Rd_pick_eq hl (p + 1) 40 (by omega) (by omega) (by omega)
    obtain ⟨c, hc, hc1, _⟩ := spec_l17Rd_pick_eq hl (p + 1 + 1) 2 (by omega) (by omega) (by omega)
    obtain ⟨d, hd', _, _⟩ := spec_l17Rd_pick_eq hl (p + 1 + 1) 256 (by omega) (by omega) (by omega)
    obtain ⟨e, he, _, _⟩ := spec_l17Rd_pick_eq hl (p + 1 + 1 + 1) 256 (by omega) (by omega) (by omega)
    have hc2 := hc1 (by omega)
    have hM : wrap64 (2 ^ w.toNat - 1) = 2 ^ w.toNat - 1 := wrap64_id (by omega) (by omega)
    have hT : wrap64 (2 ^ w.toNat - 1 + 1) = 2 ^ w.toNat := by rw [wrap64_id (by omega) (by omega)]; omega
    have hu : IntKind.u64.wrap (w - 1) = w - 1 := wrap_u64_id (by omega) (by omega)
    have hs : shl .i64 1 (w - 1) = 2 ^ (w - 1).toNat := hd.shlh
    have h0p : 0 ≤ w - 1 := by omega
    have h0w : 0 ≤ w := by omega
    by_cases a0 : a = 0
    · exact ⟨0, p + 1, fun k hk => by unfold spec_l17Rd_word.f; rw [spec_l1Width_eq]; simp -implicitDefEqProofs only [Option.bind_some]; rw [if_pos (decide_eq_true h), hd.u64, if_pos h0w, hd.shl1, hd.pred]; simp -implicitDefEqProofs only [hu, hM, hT, hs, if_pos h0p]; rw [ha k hk]; simp -implicitDefEqProofs only [Option.bind_some]; rw [if_pos a0], by omega, by omega⟩
    · by_cases a1 : a = 1
      · exact ⟨2 ^ w.toNat - 1, p + 1, fun k hk => by unfold spec_l17Rd_word.f; rw [spec_l1Width_eq]; simp -implicitDefEqProofs only [Option.bind_some]; rw [if_pos (decide_eq_true h), hd.u64, if_pos h0w, hd.shl1, hd.pred]; simp -implicitDefEqProofs only [hu, hM, hT, hs, if_pos h0p]; rw [ha k hk]; simp -implicitDefEqProofs only [Option.bind_some]; rw [if_neg a0, if_pos a1], by omega, by omega⟩
      · by_cases a2 : a = 2
        · exact ⟨2 ^ (w - 1).toNat, p + 1, fun k hk => by unfold spec_l17Rd_word.f; rw [spec_l1Width_eq]; simp -implicitDefEqProofs only [Option.bind_some]; rw [if_pos (decide_eq_true h), hd.u64, if_pos h0w, hd.shl1, hd.pred]; simp -implicitDefEqProofs only [hu, hM, hT, hs, if_pos h0p]; rw [ha k hk]; simp -implicitDefEqProofs only [Option.bind_some]; rw [if_neg a0, if_neg a1, if_pos a2], by omega, by omega⟩
        · by_cases a3 : a = 3
          · exact ⟨(2 ^ w.toNat - 1) / 2, p + 1, fun k hk => by unfold spec_l17Rd_word.f; rw [spec_l1Width_eq]; simp -implicitDefEqProofs only [Option.bind_some]; rw [if_pos (decide_eq_true h), hd.u64, if_pos h0w, hd.shl1, hd.pred]; simp -implicitDefEqProofs only [hu, hM, hT, hs, if_pos h0p]; rw [ha k hk]; simp -implicitDefEqProofs only [Option.bind_some]; rw [if_neg a0, if_neg a1, if_neg a2, if_pos a3], by omega, by omega⟩
          · by_cases b0 : b = 0
            · exact ⟨rd [-1, 2 ^ w.toNat] c, p + 1 + 1 + 1, fun k hk => by
                unfold spec_l17Rd_word.f; rw [spec_l1Width_eq]; simp -implicitDefEqProofs only [Option.bind_some]; rw [if_pos (decide_eq_true h), hd.u64, if_pos h0w, hd.shl1, hd.pred]; simp -implicitDefEqProofs only [hu, hM, hT, hs, if_pos h0p]; 
                rw [ha k hk]; simp -implicitDefEqProofs only [Option.bind_some]
                rw [if_neg a0, if_neg a1, if_neg a2, if_neg a3, hb k hk]; simp -implicitDefEqProofs only [Option.bind_some]
                rw [if_pos b0, hc k hk]; simp -implicitDefEqProofs only [Option.bind_some]
                rw [if_pos hc2.1, if_pos (show c < (([-1, 2 ^ w.toNat] : List Int).length : Int) from by simp; omega)], by omega, by omega⟩
            · exact ⟨Int.tmod (wrap64 (wrap64 (d * 256) + e)) (2 ^ w.toNat), p + 1 + 1 + 1 + 1, fun k hk => by
                unfold spec_l17Rd_word.f; rw [spec_l1Width_eq]; simp -implicitDefEqProofs only [Option.bind_some]; rw [if_pos (decide_eq_true h), hd.u64, if_pos h0w, hd.shl1, hd.pred]; simp -implicitDefEqProofs only [hu, hM, hT, hs, if_pos h0p]; 
                rw [ha k hk]; simp -implicitDefEqProofs only [Option.bind_some]
                rw [if_neg a0, if_neg a1, if_neg a2, if_neg a3, hb k hk]; simp -implicitDefEqProofs only [Option.bind_some]
                rw [if_neg b0, hd' k hk]; simp -implicitDefEqProofs only [Option.bind_some]
                rw [he k hk]; simp -implicitDefEqProofs only [Option.bind_some]
                rw [if_neg (show ¬ (2 : Int) ^ w.toNat = 0 by omega)], by omega, by omega⟩
  · obtain ⟨a, ha, _, _⟩ := spec_l17Rd_pick_eq hl p 3 h0 (by omega) (by omega)
    exact ⟨a, p + 1, fun k hk => by unfold spec_l17Rd_word.f; rw [spec_l1Width_eq]; simp -implicitDefEqProofs only [Option.bind_some]; rw [if_neg (by rw [decide_eq_true_iff]; exact h), ha k hk]; rfl, by omega, by omega⟩
theorem spec_DrawWordTwo_eq (l : List Int) (h : ∀ x ∈ l, (Lit.int .u8 x).wf = true) : ∃ q, ∀ k, 1 ≤ k → spec_DrawWordTwo.f k l = some q := by
  obtain ⟨l', hl', hr⟩ := spec_l17Open_eq l h
  obtain ⟨w, p1, hw, g1, g2⟩ := spec_l17Rd_width_eq hr 0 (by omega) (by omega)
  obtain ⟨a, p2, ha, g3, g4⟩ := spec_l17Rd_word_eq hr p1 w (by omega) (by omega)
  obtain ⟨b, p3, hb, g5, g6⟩ := spec_l17Rd_word_eq hr p2 w (by omega) (by omega)
  obtain ⟨c, hc, _, _⟩ := spec_l17Rd_pick_eq hr p3 8 (by omega) (by omega) (by omega)
  obtain ⟨d, hd, _, _⟩ := spec_l17Rd_pick_eq hr (p3 + 1) 25 (by omega) (by omega) (by omega)
  by_cases c0 : c = 0
  · refine ⟨(wrap64 (5 + d), w, a, a), fun k hk => ?_⟩
    unfold spec_DrawWordTwo.f
    rw [hl']; simp -implicitDefEqProofs only [Option.bind_some]
    rw [hw k hk]; simp -implicitDefEqProofs only [Option.bind_some]
    rw [ha k hk]; simp -implicitDefEqProofs only [Option.bind_some]
    rw [hb k hk]; simp -implicitDefEqProofs only [Option.bind_some]
    rw [hc k hk]; simp -implicitDefEqProofs only [Option.bind_some]
    rw [if_pos c0, hd k hk]; rfl
  · refine ⟨(wrap64 (5 + d), w, a, b), fun k hk => ?_⟩
    unfold spec_DrawWordTwo.f
    rw [hl']; simp -implicitDefEqProofs only [Option.bind_some]
    rw [hw k hk]; simp -implicitDefEqProofs only [Option.bind_some]
    rw [ha k hk]; simp -implicitDefEqProofs only [Option.bind_some]
    rw [hb k hk]; simp -implicitDefEqProofs only [Option.bind_some]
    rw [hc k hk]; simp -implicitDefEqProofs only [Option.bind_some]
    rw [if_neg c0, hd k hk]; rfl
theorem laws_ldTwo_eq (kind w a b : Int) (k : Nat) (hk : 4 ≤ k) : laws_ldTwo.f k kind w a b = some (wtwo kind w a b).1 := by
  unfold laws_ldTwo.f; rw [impl_WordTwo_eq _ _ _ _ k hk]; rfl
theorem ld_op {kind w a b : Int} (h0 : 6 ≤ kind) (h1 : kind ≤ 20) (ha : Wo w a) (hb : Wo w b) (k : Nat) (hk : 4 ≤ k) : laws_ldTwo.f k kind w a b = some (op2 kind w a b) := by
  rw [laws_ldTwo_eq kind w a b k hk]
  unfold wtwo
  rw [if_pos ⟨h0, by omega, ha.is, hb.is⟩, if_pos h1]
theorem rolv_nat {w A c : Nat} (hc : c < w) (ha : A < 2 ^ w) : rolv (w : Int) (A : Int) (c : Int) = ((rolN (w - c) c A w : Nat) : Int) := (rolN_end w c A hc ha).symm
theorem rolN_form (w c A : Nat) (hc : c < w) (ha : A < 2 ^ w) : rolN (w - c) c A w = A % 2 ^ (w - c) * 2 ^ c + A / 2 ^ (w - c) := by
  unfold rolN
  rw [Nat.min_eq_right (by omega), Nat.mod_eq_of_lt (a := A) ha]
theorem rolN_lt (w c A : Nat) (hc : c < w) (ha : A < 2 ^ w) : rolN (w - c) c A w < 2 ^ w := by
  rw [rolN_form w c A hc ha]
  have e : 2 ^ w = 2 ^ (w - c) * 2 ^ c := by rw [← Nat.pow_add]; congr 1; omega
  have h1 : A % 2 ^ (w - c) < 2 ^ (w - c) := Nat.mod_lt _ (Nat.two_pow_pos _)
  have h2 : A / 2 ^ (w - c) < 2 ^ c := by have := div_pow_lt (m := w - c) (by omega) ha; rwa [show w - (w - c) = c by omega] at this
  have h3 : (A % 2 ^ (w - c) + 1) * 2 ^ c ≤ 2 ^ (w - c) * 2 ^ c := Nat.mul_le_mul_right _ h1
  rw [Nat.add_mul] at h3
  omega
theorem rolN_back (w c d A : Nat) (hc : c < w) (hd : d = (w - c) % w) (ha : A < 2 ^ w) : rolN (w - d) d (rolN (w - c) c A w) w = A := by
  have hdw : d < w := by rw [hd]; exact Nat.mod_lt _ (by omega)
  rw [rolN_form w d _ hdw (rolN_lt w c A hc ha), rolN_form w c A hc ha]
  by_cases h0 : c = 0
  · subst h0
    have : d = 0 := by rw [hd, Nat.sub_zero, Nat.mod_self]
    subst this
    rw [Nat.sub_zero, Nat.mod_eq_of_lt ha, Nat.div_eq_of_lt ha, Nat.pow_zero, Nat.mul_one, Nat.mul_one, Nat.add_zero, Nat.mod_eq_of_lt ha, Nat.div_eq_of_lt ha]; omega
  · have hd2 : d = w - c := by rw [hd, Nat.mod_eq_of_lt (by omega)]
    have hwd : w - d = c := by omega
    have h2 : A / 2 ^ (w - c) < 2 ^ c := by have := div_pow_lt (m := w - c) (by omega) ha; rwa [show w - (w - c) = c by omega] at this
    rw [hwd, hd2, Nat.mul_comm (A % 2 ^ (w - c)) (2 ^ c), Nat.mul_add_mod, Nat.mod_eq_of_lt h2, Nat.mul_add_div (Nat.two_pow_pos _), Nat.div_eq_of_lt h2, Nat.add_zero, Nat.mul_comm]
    exact Nat.div_add_mod A (2 ^ (w - c))
theorem op2_19 (w a b : Int) : op2 19 w a b = rolv w a (rolc w b) := by unfold op2; rfl
theorem op2_20 (w a b : Int) : op2 20 w a b = rolv w a (rorc w b) := by unfold op2; rfl
theorem rc_nat {w : Nat} {b : Int} (hw : 1 ≤ w) (hb : 0 ≤ b) : ∃ c d : Nat, rolc (w : Int) b = c ∧ rorc (w : Int) b = d ∧ c < w ∧ d < w ∧ d = (w - c) % w ∧ c = (w - d) % w := by
  obtain ⟨B, rfl⟩ := Int.eq_ofNat_of_zero_le hb
  have h1 : rolc (w : Int) (B : Int) = ((B % w : Nat) : Int) := by unfold rolc; rw [Int.tmod_eq_emod_of_nonneg (by omega)]; push_cast; rfl
  have hlt : B % w < w := Nat.mod_lt _ (by omega)
  have h2 : rorc (w : Int) (B : Int) = (((w - B % w) % w : Nat) : Int) := by
    unfold rorc
    rw [show Int.tmod (B : Int) (w : Int) = ((B % w : Nat) : Int) from h1, Int.tmod_eq_emod_of_nonneg (by omega), show (w : Int) - ((B % w : Nat) : Int) = ((w - B % w : Nat) : Int) by omega]
    push_cast; rfl
  refine ⟨B % w, (w - B % w) % w, h1, h2, hlt, Nat.mod_lt _ (by omega), rfl, ?_⟩
  by_cases h0 : B % w = 0
  · rw [h0]; simp
  · rw [Nat.mod_eq_of_lt (a := w - B % w) (by omega), show w - (w - B % w) = B % w by omega, Nat.mod_eq_of_lt hlt]
theorem turn_back {w a b : Int} (ha : Wo w a) (hb : 0 ≤ b) : Wo w (op2 19 w a b) ∧ Wo w (op2 20 w a b) ∧ op2 20 w (op2 19 w a b) b = a ∧ op2 19 w (op2 20 w a b) b = a := by
  have hwd := ha.wd
  obtain ⟨W, A, rfl, rfl, h1, h2, h3⟩ := word_nat ha
  obtain ⟨c, d, hc, hd, g1, g2, g3, g4⟩ := rc_nat h1 hb
  have hcast := nat_two_pow_cast W
  have l1 := rolN_lt W c A g1 h3
  have l2 := rolN_lt W d A g2 h3
  rw [op2_19, op2_20, hc, hd, rolv_nat g1 h3, rolv_nat g2 h3, op2_19, op2_20, hc, hd, rolv_nat g2 l1, rolv_nat g1 l2, rolN_back W c d A g1 g3 h3, rolN_back W d c A g2 g4 h3]
  exact ⟨⟨hwd, by omega, by rw [Int.toNat_natCast]; omega⟩, ⟨hwd, by omega, by rw [Int.toNat_natCast]; omega⟩, rfl, rfl⟩
theorem half_step (s : Int) (h0 : -100000 ≤ s) (h1 : s ≤ 100000) : wrap64 (Int.tdiv (wrap64 (s - Int.tmod (wrap64 (Int.tmod s 2 + 2)) 2)) 2) = s / 2 := by
  have hb := tmod_bound s 2 (by omega)
  have hf := tmod_fix s 2 (by omega)
  have hm := Int.emod_add_mul_ediv s 2
  have h2 : Int.tmod (wrap64 (Int.tmod s 2 + 2)) 2 = s % 2 := by
    rw [wrap64_id (by omega) (by omega), Int.tmod_eq_emod_of_nonneg (by omega)]
    split at hf <;> omega
  rw [h2, wrap64_id (x := s - s % 2) (by omega) (by omega)]
  have h3 : s - s % 2 = 2 * (s / 2) := by omega
  rw [h3, Int.mul_tdiv_cancel_left _ (by decide), wrap64_id (by omega) (by omega)]
theorem FnShift_l0 (w a b x y : Int) (ha : Wo w a) (hb : Wo w b) (hlt : b < w) (hx : x = a * 2 ^ b.toNat % 2 ^ w.toNat) (hy : y = a / 2 ^ b.toNat) (d : Nat) :
    ∀ (i k : Nat), (i : Int) + d = b → d + 5 < k → laws_FnShift.l0 k w a b x y (sg w a / 2 ^ i) (i : Int) = some true := by
  have hd := ha.wd
  have hlw : lw w b = b := by unfold lw; rw [if_neg (by omega)]
  have := hd.lo; have := hd.hi; have h0 := hb.lo; have hle := hd.le; have hp := hd.pos; have htop := ha.top; have ha0 := ha.lo
  have hss := sg_small ha
  induction d with
  | zero =>
    intro i k hi hk
    obtain ⟨k, rfl⟩ : ∃ m, k = m + 1 := ⟨k - 1, by omega⟩
    have hib : i = b.toNat := by omega
    have hb16 := two_pow_le (i := b.toNat) (j := 16) (by omega)
    have hb0 := two_pow_pos b.toNat
    have hm : a * 2 ^ b.toNat ≤ 65536 * 2 ^ 16 := Int.mul_le_mul (by omega) hb16 (by omega) (by omega)
    have hz : 0 ≤ a * 2 ^ b.toNat := Int.mul_nonneg ha.lo (by omega)
    simp -implicitDefEqProofs only [laws_FnShift.l0]
    rw [if_neg (by omega), wrap_u64_id (x := b) (by omega) (by omega), if_pos h0, shl_val _ _ (by omega) (by omega) (by omega) (by omega), shr_val _ _ (by omega) (by omega), spec_WordFrom_w hd]
    simp -implicitDefEqProofs only [Option.bind_some]
    rw [if_pos hx, if_pos hy, ld_op (by decide) (by decide) ha hb _ (by omega)]
    simp -implicitDefEqProofs only [Option.bind_some]
    rw [spec_WordFrom_w hd]
    simp -implicitDefEqProofs only [Option.bind_some]
    have e : op2 18 w a b = sg w a / 2 ^ i % 2 ^ w.toNat := by
      rw [hib, show op2 18 w a b = sg w a / 2 ^ (lw w b).toNat % 2 ^ w.toNat from by unfold op2; rfl, hlw]
    rw [e]; simp
  | succ d ih =>
    intro i k hi hk
    obtain ⟨k, rfl⟩ : ∃ m, k = m + 1 := ⟨k - 1, by omega⟩
    have step := ih (i + 1) k (by omega) (by omega)
    have hi0 := two_pow_pos i
    have hbd : -100000 ≤ sg w a / 2 ^ i ∧ sg w a / 2 ^ i ≤ 100000 := by
      constructor
      · have : (-100000 : Int) * 2 ^ i ≤ sg w a := by
          omega
        exact Int.le_ediv_of_mul_le (by omega) this
      · have : sg w a / 2 ^ i < 100000 := by
          exact Int.ediv_lt_of_lt_mul (by omega) (by omega)
        omega
    simp -implicitDefEqProofs only [laws_FnShift.l0]
    rw [if_pos (by omega), half_step _ hbd.1 hbd.2, inc i (by omega)]
    have e : sg w a / 2 ^ i / 2 = sg w a / 2 ^ (i + 1) := by rw [Int.ediv_ediv_of_nonneg (by omega), ← Int.pow_succ]
    rw [e]
    exact step
theorem FnShift : laws_FnShift.Pure := by
  intro l0 _ _ h0
  refine ⟨97 + 1 + 1 + 1, ?_⟩
  obtain ⟨⟨kd, w, a, b⟩, hq⟩ := spec_DrawWordTwo_eq l0 h0
  unfold laws_FnShift.f
  by_cases g0 : (l0.length : Int) > 1048576
  · rw [if_pos g0]
  · rw [if_neg g0, hq _ (by omega)]
    simp -implicitDefEqProofs only [Option.bind_some]
    rw [spec_WordOk_eq, spec_WordOk_eq]
    simp -implicitDefEqProofs only [Option.bind_some]
    have bad : ¬ (wok w a = true ∧ wok w b = true) → (impl_WordTwo.f (97 + 1 + 1) 16 w a b).bind (fun bt => some (!bt.2.2)) = some true := by
      intro hc
      rw [impl_WordTwo_eq _ _ _ _ _ (by omega)]
      unfold wtwo
      rw [if_neg (fun h => hc ⟨h.2.2.1, h.2.2.2⟩)]
      rfl
    by_cases ha' : wok w a = true
    · by_cases hb' : wok w b = true
      · have ha := wok_iff.1 ha'
        have hb := wok_iff.1 hb'
        have hd := ha.wd
        have hw1 := hd.lo; have hw16 := hd.hi
        obtain ⟨o1, o2, t1, t2⟩ := turn_back ha hb.lo
        rw [if_pos ha', hb']
        simp -implicitDefEqProofs only [Bool.not_true, laws_FnShift.j0, Bool.false_eq_true, if_false]
        rw [ld_op (by decide) (by decide) ha hb _ (by omega), ld_op (by decide) (by decide) ha hb _ (by omega), ld_op (by decide) (by decide) ha hb _ (by omega)]
        simp -implicitDefEqProofs only [Option.bind_some]
        rw [ld_op (by decide) (by decide) o1 hb _ (by omega), t1, ld_op (by decide) (by decide) ha hb _ (by omega)]
        simp -implicitDefEqProofs only [Option.bind_some, if_true]
        rw [ld_op (by decide) (by decide) o2 hb _ (by omega), t2]
        simp -implicitDefEqProofs only [Option.bind_some, bne_self_eq_false, laws_FnShift.j1, Bool.false_eq_true, if_false]
        have e16 : op2 16 w a b = a * 2 ^ (lw w b).toNat % 2 ^ w.toNat := by unfold op2; rfl
        have e17 : op2 17 w a b = a / 2 ^ (lw w b).toNat := by unfold op2; rfl
        by_cases hge : b ≥ w
        · have hl : lw w b = w := by unfold lw; split <;> omega
          rw [if_pos hge, e16, e17, hl, Int.mul_emod_left, if_pos rfl, Int.ediv_eq_zero_of_lt ha.lo ha.hi]
          rfl
        · have hl : lw w b = b := by unfold lw; split <;> omega
          have h := FnShift_l0 w a b (op2 16 w a b) (op2 17 w a b) ha hb (by omega) (by rw [e16, hl]) (by rw [e17, hl]) b.toNat 0 98 (by have := hb.lo; omega) (by omega)
          rw [if_neg hge, spec_WordSigned_eq]
          simp -implicitDefEqProofs only [Option.bind_some, wsg, ha', if_true]
          rw [Int.pow_zero, Int.ediv_one] at h
          exact h
      · rw [if_pos ha']
        have hbf : wok w b = false := by simpa using hb'
        rw [hbf]
        simp -implicitDefEqProofs only [Bool.not_false, laws_FnShift.j0, if_true]
        exact bad (fun c => hb' c.2)
    · rw [if_neg ha']
      simp -implicitDefEqProofs only [laws_FnShift.j0, if_true]
      exact bad (fun c => ha' c.1)

end Go.Proofs.Ytohojfcpnlobjaa.Pure
