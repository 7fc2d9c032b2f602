/- What the law 'FnRing' computes is true for every input; no condition. -/
import Derived.Test.YtohojfcpnlobjaaMathC
import Derived.Test.YtohojfcpnlobjaaPFnRingx4
namespace Go.Proofs.Ytohojfcpnlobjaa.Pure
open Go Go.RowKit Go.Proofs.Ytohojfcpnlobjaa.PFnRing Go.Proofs.YtohojfcpnlobjaaW Go.Proofs.YtohojfcpnlobjaaW.PrintWords Go.Proofs.YtohojfcpnlobjaaW.PrintLast LeadWord
set_option linter.unusedSimpArgs false
set_option linter.unusedVariables false

theorem spec_l1In_eq (a b c : Int) : spec_l1In.f a b c = some (decide (b ≤ a ∧ a ≤ c)) := by
  unfold spec_l1In.f
  by_cases h : a ≥ b
  · rw [if_pos h]; congr 1; simp [show b ≤ a from h]
  · rw [if_neg h]; simp [show ¬ b ≤ a from h]
theorem impl_in_eq (a b c : Int) : impl_in.f a b c = some (decide (b ≤ a ∧ a ≤ c)) := by
  unfold impl_in.f
  by_cases h : b ≤ a
  · rw [if_pos h]; congr 1; simp [h]
  · rw [if_neg h]; simp [h]
theorem spec_l1Width_eq (w : Int) : spec_l1Width.f w = some (decide (1 ≤ w ∧ w ≤ 16)) := by
  unfold spec_l1Width.f; rw [spec_l1In_eq]; rfl
theorem impl_isWidth_eq (w : Int) : impl_isWidth.f w = some (decide (1 ≤ w ∧ w ≤ 16)) := by
  unfold impl_isWidth.f; rw [impl_in_eq]; rfl
theorem impl_mask_eq (w : Int) (h0 : 0 ≤ w) (h1 : w ≤ 62) : impl_mask.f w = some (2 ^ w.toNat - 1) := by
  have h := two_pow_le (i := w.toNat) (j := 62) (by omega)
  have p := two_pow_pos w.toNat
  unfold impl_mask.f; rw [if_pos h0, shl_one w h0 h1, wrap64_id (by omega) (by omega)]
theorem impl_mask_w {w : Int} (h : Wd w) : impl_mask.f w = some (2 ^ w.toNat - 1) := impl_mask_eq w (by have := h.lo; omega) (by have := h.hi; omega)
theorem spec_WordOk_eq (w v : Int) : spec_WordOk.f w v = some (wok w v) := by
  unfold spec_WordOk.f; rw [spec_l1Width_eq]; simp -implicitDefEqProofs only [Option.bind_some]
  by_cases h : 1 ≤ w ∧ w ≤ 16
  · have hd : Wd w := ⟨h.1, h.2⟩
    have := hd.le; have := hd.pos; have := hd.lo
    rw [if_pos (decide_eq_true h), hd.u64, if_pos (by omega), spec_l1In_eq, hd.shl1, wrap64_id (by omega) (by omega)]
    simp -implicitDefEqProofs only [Option.bind_some, wok]
    congr 1
    rw [decide_eq_decide]; omega
  · rw [if_neg (by rw [decide_eq_true_iff]; exact h)]
    congr 1
    symm
    unfold wok
    rw [decide_eq_false_iff_not]; omega
theorem impl_WordOk_eq (w v : Int) : impl_WordOk.f w v = some (wok w v) := by
  unfold impl_WordOk.f; rw [impl_isWidth_eq]; simp -implicitDefEqProofs only [Option.bind_some]
  by_cases h : 1 ≤ w ∧ w ≤ 16
  · have hd : Wd w := ⟨h.1, h.2⟩
    rw [if_pos (decide_eq_true h), impl_mask_w hd]
    simp -implicitDefEqProofs only [Option.bind_some]
    rw [impl_in_eq]
    simp -implicitDefEqProofs only [Option.bind_some, wok]
    congr 1
    rw [decide_eq_decide]; omega
  · rw [if_neg (by rw [decide_eq_true_iff]; exact h)]
    congr 1
    symm
    unfold wok
    rw [decide_eq_false_iff_not]; omega
theorem impl_signed_eq {w v : Int} (ho : Wo w v) : impl_signed.f w v = some (sg w v) := by
  have hd := ho.wd
  have := hd.lo; have := hd.hi; have := hd.le; have hp := hd.pos; have := ho.lo; have := ho.hi; have hh := hd.half; have := hd.hpos
  unfold impl_signed.f
  rw [hd.pred, if_pos (by omega), if_pos (by omega), shr_val _ _ (by omega) (by omega)]
  unfold sg
  by_cases hv : v < 2 ^ (w - 1).toNat
  · rw [Int.ediv_eq_zero_of_lt ho.lo hv, if_pos hv, shl_val _ _ (by omega) (by omega) (by omega) (by omega), Int.zero_mul, wrap64_id (by omega) (by omega)]
    congr 1; omega
  · have e : v / 2 ^ (w - 1).toNat = 1 := by
      rw [show v = (v - 2 ^ (w - 1).toNat) + 2 ^ (w - 1).toNat by omega, Int.add_ediv_of_dvd_right ⟨1, by omega⟩, Int.ediv_self (by omega), Int.ediv_eq_zero_of_lt (by omega) (by omega)]; rfl
    rw [e, if_neg hv, hd.shl1, wrap64_id (by omega) (by omega)]
theorem spec_WordFrom_eq (w n : Int) : spec_WordFrom.f w n = some (wfrom w n) := by
  unfold spec_WordFrom.f wfrom; rw [spec_l1Width_eq]; simp -implicitDefEqProofs only [Option.bind_some]
  by_cases h : 1 ≤ w ∧ w ≤ 16
  · have hd : Wd w := ⟨h.1, h.2⟩
    have := hd.le; have := hd.pos; have := hd.lo
    have hb := tmod_bound n (2 ^ w.toNat) (by omega)
    have hf := tmod_fix n (2 ^ w.toNat) (by omega)
    rw [if_pos (decide_eq_true h), if_pos h, hd.u64, if_pos (by omega), hd.shl1, if_neg (by omega)]
    by_cases hn : Int.tmod n (2 ^ w.toNat) < 0
    · rw [if_pos hn] at hf ⊢; rw [wrap64_id (by omega) (by omega), hf]
    · rw [if_neg hn] at hf ⊢; rw [hf]
  · rw [if_neg (by rw [decide_eq_true_iff]; exact h), if_neg h]
theorem spec_WordFrom_w {w : Int} (h : Wd w) (n : Int) : spec_WordFrom.f w n = some (n % 2 ^ w.toNat) := by
  rw [spec_WordFrom_eq]; unfold wfrom; rw [if_pos ⟨h.lo, h.hi⟩]
theorem impl_bit_eq (b : Bool) : impl_bit.f b = some (yes b) := by
  unfold impl_bit.f yes; cases b <;> rfl
theorem impl_divided_eq (kind w a b : Int) (hk : kind = 14 ∨ kind = 15) (ha : Wo w a) (hb : Wo w b) (k : Nat) (hf : 2 ≤ k) : impl_divided.f k kind w a b = some (if kind = 15 then srm w a b else sdv w a b) := by
  have hd := ha.wd
  have := hd.lo; have := hd.le; have := hd.pos; have := sg_small ha; have := sg_small hb
  obtain ⟨k, rfl⟩ : ∃ m, k = m + 1 + 1 := ⟨k - 2, by omega⟩
  unfold impl_divided.f
  rw [impl_signed_eq ha, impl_signed_eq hb]
  simp -implicitDefEqProofs only [Option.bind_some, impl_divided.j0, impl_divided.j1]
  rw [impl_mask_w hd]
  simp -implicitDefEqProofs only [Option.bind_some]
  rw [and_mask _ _ (by have := hd.hi; omega), and_mask _ _ (by have := hd.hi; omega)]
  have hq : (Int.tdiv (sg w a) (sg w b)).natAbs ≤ (sg w a).natAbs := by rw [Int.natAbs_tdiv]; exact Nat.div_le_self _ _
  rw [wrap64_id (x := Int.tdiv _ _) (by omega) (by omega)]
  unfold sdv srm
  rcases hk with rfl | rfl
  · simp -implicitDefEqProofs only [show ¬ ((14 : Int) = 15) by decide, if_false]
    by_cases h : sg w b = 0
    · by_cases hn : sg w a < 0
      · simp [h, hn]
      · simp [h, hn]
    · simp [h]
  · by_cases h : sg w b = 0
    · simp [h]
    · simp [h]
theorem impl_shifted_eq (kind : Int) (hkind : kind = 16 ∨ kind = 17 ∨ kind = 18) (w a b : Int) (ha : Wo w a) (hb : Wo w b) : impl_shifted.f kind w a b = some (op2 kind w a b) := by
  have hd := ha.wd
  have := hd.lo; have := hd.hi; have := hd.pos; have := ha.top; have := ha.lo; have := hb.lo; have := hd.le
  have e : mn b w = lw w b := by unfold mn lw; split <;> rfl
  have hl : 0 ≤ lw w b ∧ lw w b ≤ 16 := by unfold lw; split <;> omega
  unfold impl_shifted.f
  rw [e]
  simp -implicitDefEqProofs only [if_pos hl.1]
  rw [impl_mask_w hd, impl_signed_eq ha]
  simp -implicitDefEqProofs only [Option.bind_some]
  rw [and_mask _ _ (by omega), and_mask _ _ (by omega), shr_val _ _ (by omega) (by omega), shr_val _ _ (by omega) (by omega)]
  have hp := two_pow_le (i := (lw w b).toNat) (j := 16) (by omega)
  have hp0 := two_pow_pos (lw w b).toNat
  have hm : a * 2 ^ (lw w b).toNat ≤ 65536 * 2 ^ 16 := Int.mul_le_mul (by omega) hp (by omega) (by omega)
  have hz : 0 ≤ a * 2 ^ (lw w b).toNat := Int.mul_nonneg ha.lo (by omega)
  rw [shl_val _ _ (by omega) (by omega) (by omega) (by omega)]
  rcases hkind with rfl | rfl | rfl <;> simp -implicitDefEqProofs only [op2] <;> simp -implicitDefEqProofs only [Int.reduceEq, Int.reduceLE, Int.reduceLT, Int.reduceBEq, reduceIte, if_true, if_false, decide_true, decide_false, Bool.false_eq_true]
theorem impl_rotate_eq (w a b : Int) (ha : Wo w a) (hb : 0 ≤ b) : impl_rotate.f w a b = some (rolv w a (Int.tmod b w)) := by
  have hd := ha.wd
  have hl := rolc_lt hd hb
  have := hd.lo; have := hd.hi
  unfold rolc at hl
  unfold impl_rotate.f
  rw [if_neg (by omega), if_pos hl.1, wrap64_id (by omega) (by omega), if_pos (by omega), impl_mask_w hd]
  simp -implicitDefEqProofs only [Option.bind_some]
  rw [and_mask _ _ (by omega)]
  obtain ⟨c, hc⟩ := Int.eq_ofNat_of_zero_le hl.1
  rw [hc] at hl ⊢
  obtain ⟨W, A, rfl, rfl, h1, h2, h3⟩ := word_nat ha
  have hcW : c < W := by omega
  have h65 : 2 ^ W ≤ 2 ^ 16 := pow_nat_le h2
  have hc16 : 2 ^ c ≤ 2 ^ 16 := pow_nat_le (by omega)
  have hm : A * 2 ^ c ≤ 2 ^ 16 * 2 ^ 16 := Nat.mul_le_mul (by omega) hc16
  have hcast : (A : Int) * 2 ^ c = ((A * 2 ^ c : Nat) : Int) := by push_cast; rfl
  have hcast2 : (A : Int) / 2 ^ (W - c) = ((A / 2 ^ (W - c) : Nat) : Int) := by push_cast; rfl
  rw [← rolN_end W c A hcW h3, ← rol_or W c A hcW h3, shl_val _ _ (by omega) (by omega) (by rw [Int.toNat_natCast, hcast]; omega) (by rw [Int.toNat_natCast, hcast]; omega), shr_val _ _ (by omega) (by omega)]
  rw [show ((W : Int) - (c : Int)).toNat = W - c by omega, Int.toNat_natCast, Int.toNat_natCast, hcast, hcast2, bits_or_nat _ _ (by omega) (by have := Nat.div_le_self A (2 ^ (W - c)); omega)]
  push_cast
  rfl
theorem impl_compared_eq (kind w a b : Int) (hk : 21 ≤ kind ∧ kind ≤ 28) (ha : Wo w a) (hb : Wo w b) : impl_compared.f kind w a b = some (says kind w a b) := by
  have hd := ha.wd
  have hs1 := sg_small ha; have hs2 := sg_small hb; have h1 := ha.top; have h2 := hb.top; have := ha.lo; have := hb.lo; have := hd.lo; have := hd.hi; have hh := hd.half; have := hd.le; have := hd.hpos
  have hm : a * b ≤ 65536 * 65536 := Int.mul_le_mul (by omega) (by omega) (by omega) (by omega)
  have hz : 0 ≤ a * b := Int.mul_nonneg ha.lo hb.lo
  unfold impl_compared.f
  rw [impl_signed_eq ha, impl_signed_eq hb, impl_mask_w hd]
  simp -implicitDefEqProofs only [Option.bind_some]
  have e1 : shl .i64 (-1) (w - 1) = -2 ^ (w - 1).toNat := by rw [shl_val _ _ (by omega) (by omega) (by omega) (by omega)]; omega
  rw [hd.pred, if_pos (show 0 ≤ w - 1 by omega), wrap64_id (x := a + b) (by omega) (by omega), wrap64_id (x := a * b) (by omega) (by omega), wrap64_id (x := sg w a + sg w b) (by omega) (by omega), e1, hd.shlh, wrap64_id (by omega) (by omega), impl_in_eq]
  simp -implicitDefEqProofs only [Option.bind_some]
  have hc : kind = 21 ∨ kind = 22 ∨ kind = 23 ∨ kind = 24 ∨ kind = 25 ∨ kind = 26 ∨ kind = 27 ∨ kind = 28 := by omega
  rcases hc with rfl | rfl | rfl | rfl | rfl | rfl | rfl | rfl <;> simp -implicitDefEqProofs only [says] <;> simp -implicitDefEqProofs only [Int.reduceEq, Int.reduceLE, Int.reduceLT, Int.reduceBEq, reduceIte, if_true, if_false, decide_true, decide_false, Bool.false_eq_true]
  · rw [show (a == b) = decide (a = b) from rfl]
  · congr 1; rw [decide_eq_decide]; omega
  · congr 2; rw [decide_eq_decide]; omega
  · congr 1; rw [decide_eq_decide]; omega
theorem impl_two_eq (kind w a b : Int) (h0 : 6 ≤ kind) (h1 : kind ≤ 28) (ha : Wo w a) (hb : Wo w b) (k : Nat) (hk : 4 ≤ k) : impl_two.f k kind w a b = some (if kind ≤ 20 then (op2 kind w a b, w) else (yes (says kind w a b), 1)) := by
  obtain ⟨k, rfl⟩ : ∃ m, k = m + 1 + 1 + 1 + 1 := ⟨k - 4, by omega⟩
  have hd := ha.wd
  have := ha.lo; have := hb.lo; have g1 := ha.top; have g2 := hb.top; have := hd.lo; have := hd.hi
  have hm : a * b ≤ 65536 * 65536 := Int.mul_le_mul (by omega) (by omega) (by omega) (by omega)
  have hz : 0 ≤ a * b := Int.mul_nonneg ha.lo hb.lo
  obtain ⟨A, hA⟩ := Int.eq_ofNat_of_zero_le ha.lo
  obtain ⟨B, hB⟩ := Int.eq_ofNat_of_zero_le hb.lo
  have hdiv := impl_divided_eq kind w a b
  have hshift := impl_shifted_eq kind
  have hcmp := impl_compared_eq kind w a b
  have hrot := impl_rotate_eq w a b ha hb.lo
  have hl := rolc_lt hd hb.lo
  unfold rolc at hl
  have hror := impl_rotate_eq w a (w - Int.tmod b w) ha (by omega)
  have hw0 : ¬ (w = 0) := by omega
  have hwr : wrap64 (w - Int.tmod b w) = w - Int.tmod b w := wrap64_id (by omega) (by omega)
  unfold impl_two.f
  rw [impl_mask_w hd]
  simp -implicitDefEqProofs only [Option.bind_some]
  rw [and_mask _ _ (by omega), and_mask _ _ (by omega), and_mask _ _ (by omega), wrap64_id (x := a + b) (by omega) (by omega), wrap64_id (x := a - b) (by omega) (by omega), wrap64_id (x := a * b) (by omega) (by omega)]
  rcases two_cases h0 h1 with rfl | rfl | rfl | rfl | rfl | rfl | rfl | rfl | rfl | rfl | rfl | rfl | rfl | rfl | rfl | rfl | rfl | rfl | rfl | rfl | rfl | rfl | rfl
  · simp -implicitDefEqProofs only [op2]; simp -implicitDefEqProofs only [Int.reduceEq, Int.reduceLE, Int.reduceLT, Int.reduceBEq, reduceIte, if_true, if_false, decide_true, decide_false, Bool.false_eq_true]; rw [hA, hB, bits_and_nat _ _ (by omega) (by omega)]; rfl
  · simp -implicitDefEqProofs only [op2]; simp -implicitDefEqProofs only [Int.reduceEq, Int.reduceLE, Int.reduceLT, Int.reduceBEq, reduceIte, if_true, if_false, decide_true, decide_false, Bool.false_eq_true]; rw [hA, hB, bits_or_nat _ _ (by omega) (by omega)]; rfl
  · simp -implicitDefEqProofs only [op2]; simp -implicitDefEqProofs only [Int.reduceEq, Int.reduceLE, Int.reduceLT, Int.reduceBEq, reduceIte, if_true, if_false, decide_true, decide_false, Bool.false_eq_true]; rw [hA, hB, bits_xor_nat _ _ (by omega) (by omega)]; rfl
  · simp -implicitDefEqProofs only [op2]; simp -implicitDefEqProofs only [Int.reduceEq, Int.reduceLE, Int.reduceLT, Int.reduceBEq, reduceIte, if_true, if_false, decide_true, decide_false, Bool.false_eq_true]
  · simp -implicitDefEqProofs only [op2]; simp -implicitDefEqProofs only [Int.reduceEq, Int.reduceLE, Int.reduceLT, Int.reduceBEq, reduceIte, if_true, if_false, decide_true, decide_false, Bool.false_eq_true]
  · simp -implicitDefEqProofs only [op2]; simp -implicitDefEqProofs only [Int.reduceEq, Int.reduceLE, Int.reduceLT, Int.reduceBEq, reduceIte, if_true, if_false, decide_true, decide_false, Bool.false_eq_true]
  · simp -implicitDefEqProofs only [op2]; simp -implicitDefEqProofs only [Int.reduceEq, Int.reduceLE, Int.reduceLT, Int.reduceBEq, reduceIte, if_true, if_false, decide_true, decide_false, Bool.false_eq_true]
    have h3 := Int.ediv_le_self b ha.lo
    have h4 := Int.ediv_nonneg ha.lo hb.lo
    by_cases h : b = 0
    · rw [if_neg (by omega), if_pos h]
    · rw [if_pos (by omega), if_neg h, if_neg h, Int.tdiv_eq_ediv_of_nonneg ha.lo, wrap64_id (by omega) (by omega)]
  · simp -implicitDefEqProofs only [op2]; simp -implicitDefEqProofs only [Int.reduceEq, Int.reduceLE, Int.reduceLT, Int.reduceBEq, reduceIte, if_true, if_false, decide_true, decide_false, Bool.false_eq_true]
    by_cases h : b = 0
    · rw [if_neg (by omega), if_pos h]
    · rw [if_pos (by omega), if_neg h, if_neg h, Int.tmod_eq_emod_of_nonneg ha.lo]
  · simp -implicitDefEqProofs only [op2, impl_two.j0]; simp -implicitDefEqProofs only [Int.reduceEq, Int.reduceLE, Int.reduceLT, Int.reduceBEq, reduceIte, if_true, if_false, decide_true, decide_false, Bool.false_eq_true]; rw [hdiv (.inl rfl) ha hb _ (by omega)]; rfl
  · simp -implicitDefEqProofs only [op2, impl_two.j0]; simp -implicitDefEqProofs only [Int.reduceEq, Int.reduceLE, Int.reduceLT, Int.reduceBEq, reduceIte, if_true, if_false, decide_true, decide_false, Bool.false_eq_true]; rw [hdiv (.inr rfl) ha hb _ (by omega)]; rfl
  · simp -implicitDefEqProofs only [impl_two.j0, impl_two.j1]; simp -implicitDefEqProofs only [Int.reduceEq, Int.reduceLE, Int.reduceLT, Int.reduceBEq, reduceIte, if_true, if_false, decide_true, decide_false, Bool.false_eq_true]; rw [hshift (.inl rfl) w a b ha hb]; rfl
  · simp -implicitDefEqProofs only [impl_two.j0, impl_two.j1]; simp -implicitDefEqProofs only [Int.reduceEq, Int.reduceLE, Int.reduceLT, Int.reduceBEq, reduceIte, if_true, if_false, decide_true, decide_false, Bool.false_eq_true]; rw [hshift (.inr (.inl rfl)) w a b ha hb]; rfl
  · simp -implicitDefEqProofs only [impl_two.j0, impl_two.j1]; simp -implicitDefEqProofs only [Int.reduceEq, Int.reduceLE, Int.reduceLT, Int.reduceBEq, reduceIte, if_true, if_false, decide_true, decide_false, Bool.false_eq_true]; rw [hshift (.inr (.inr rfl)) w a b ha hb]; rfl
  · simp -implicitDefEqProofs only [op2, impl_two.j0, impl_two.j1]; simp -implicitDefEqProofs only [Int.reduceEq, Int.reduceLE, Int.reduceLT, Int.reduceBEq, reduceIte, if_true, if_false, decide_true, decide_false, Bool.false_eq_true]; rw [hrot]; rfl
  · simp -implicitDefEqProofs only [op2, impl_two.j0, impl_two.j1]; simp -implicitDefEqProofs only [Int.reduceEq, Int.reduceLE, Int.reduceLT, Int.reduceBEq, reduceIte, if_true, if_false, decide_true, decide_false, Bool.false_eq_true]; rw [if_neg hw0, hwr, hror]; rfl
  all_goals
    simp -implicitDefEqProofs only [impl_two.j0, impl_two.j1]; simp -implicitDefEqProofs only [Int.reduceEq, Int.reduceLE, Int.reduceLT, Int.reduceBEq, reduceIte, if_true, if_false, decide_true, decide_false, Bool.false_eq_true]; rw [hcmp ⟨by decide, by decide⟩ ha hb]; simp -implicitDefEqProofs only [Option.bind_some]; rw [impl_bit_eq]; rfl
theorem impl_WordTwo_eq (kind w a b : Int) (k : Nat) (hk : 4 ≤ k) : impl_WordTwo.f k kind w a b = some (wtwo kind w a b) := by
  unfold impl_WordTwo.f wtwo
  rw [impl_WordOk_eq, impl_WordOk_eq, impl_in_eq]
  simp -implicitDefEqProofs only [Option.bind_some]
  by_cases h : 6 ≤ kind ∧ kind ≤ 28
  · rw [if_pos (decide_eq_true h)]
    by_cases ha : wok w a = true
    · by_cases hb : wok w b = true
      · rw [if_pos ha, if_pos hb, if_pos ⟨h.1, h.2, ha, hb⟩, impl_two_eq kind w a b h.1 h.2 (wok_iff.1 ha) (wok_iff.1 hb) k hk]
        simp -implicitDefEqProofs only [Option.bind_some]
        split <;> rfl
      · rw [if_pos ha, if_neg hb, if_neg (fun c => hb c.2.2.2)]
    · rw [if_neg ha, if_neg (fun c => ha c.2.2.1)]
  · rw [if_neg (by rw [decide_eq_true_iff]; exact h), if_neg (fun c => h ⟨c.1, c.2.1⟩)]
structure Rd (l : List Int) : Prop where
  len : l.length ≤ 2000
  byte : ∀ x ∈ l, 0 ≤ x ∧ x ≤ 255
theorem u8_wf {x : Int} (h : (Lit.int .u8 x).wf = true) : 0 ≤ x ∧ x ≤ 255 := by
  simp [Lit.wf, IntKind.min, IntKind.max, IntKind.bits, IntKind.signed] at h
  omega
theorem spec_l17Open_eq (l : List Int) (h : ∀ x ∈ l, (Lit.int .u8 x).wf = true) : ∃ l', spec_l17Open.f l = some (l', 0) ∧ Rd l' := by
  unfold spec_l17Open.f
  by_cases g : (l.length : Int) > 2000
  · rw [if_pos g, if_pos (by omega)]
    refine ⟨_, rfl, ⟨?_, fun x hx => u8_wf (h x (List.mem_of_mem_take hx))⟩⟩
    rw [List.length_take]; omega
  · rw [if_neg g]
    exact ⟨_, rfl, ⟨by omega, fun x hx => u8_wf (h x hx)⟩⟩
theorem Rd.rd {l : List Int} (h : Rd l) (i : Int) : 0 ≤ rd l i ∧ rd l i ≤ 255 := by
  unfold PrintWords.rd
  rw [List.getD_eq_getElem?_getD]
  by_cases g : i.toNat < l.length
  · rw [List.getElem?_eq_getElem g]
    exact h.byte _ (List.getElem_mem g)
  · rw [List.getElem?_eq_none (by omega)]
    exact ⟨by decide, by decide⟩
theorem xor_nonneg {x y : Int} (hx : 0 ≤ x) (hx1 : x < 4611686018427387904) (hy : 0 ≤ y) (hy1 : y < 4611686018427387904) : 0 ≤ Go.bits .xor .i64 x y := by
  obtain ⟨a, rfl⟩ := Int.eq_ofNat_of_zero_le hx
  obtain ⟨b, rfl⟩ := Int.eq_ofNat_of_zero_le hy
  rw [bits_xor_nat a b (by omega) (by omega)]
  omega
theorem spec_l17Rd_pick_eq {l : List Int} (hl : Rd l) (p n : Int) (h0 : 0 ≤ p) (h1 : p ≤ 1000000000) (hn : n ≤ 1000000000) :
    ∃ v, (∀ k, 1 ≤ k → spec_l17Rd_pick.f k l p n = some (v, p + 1)) ∧ (1 ≤ n → 0 ≤ v ∧ v < n) ∧ (n < 1 → v = 0) := by
  have hp1 : wrap64 (p + 1) = p + 1 := wrap64_id (by omega) (by omega)
  have hp2 : wrap64 (p + 1 - 1) = p := by rw [wrap64_id (by omega) (by omega)]; omega
  by_cases hn1 : n < 1
  · refine ⟨0, fun k hk => ?_, fun h => by omega, fun _ => rfl⟩
    obtain ⟨k, rfl⟩ : ∃ m, k = m + 1 := ⟨k - 1, by omega⟩
    unfold spec_l17Rd_pick.f
    rw [if_pos hn1, hp1]
    simp -implicitDefEqProofs only [spec_l17Rd_pick.j0, if_true]
  · by_cases hz : (l.length : Int) = 0
    · refine ⟨0, fun k hk => ?_, fun h => ⟨by omega, by omega⟩, fun _ => rfl⟩
      obtain ⟨k, rfl⟩ : ∃ m, k = m + 1 := ⟨k - 1, by omega⟩
      unfold spec_l17Rd_pick.f
      rw [if_neg hn1, hp1, beq_iff_eq.2 hz]
      simp -implicitDefEqProofs only [spec_l17Rd_pick.j0, if_true]
    · have hlen := hl.len
      by_cases hlt : p < (l.length : Int)
      · have hb := hl.rd p
        refine ⟨Int.tmod (rd l p) n, fun k hk => ?_, fun h => ⟨Int.tmod_nonneg _ hb.1, Int.tmod_lt_of_pos _ (by omega)⟩, fun h => by omega⟩
        obtain ⟨k, rfl⟩ : ∃ m, k = m + 1 := ⟨k - 1, by omega⟩
        have hbw : wrap64 (rd l p) = rd l p := wrap64_id (by omega) (by omega)
        unfold spec_l17Rd_pick.f
        rw [if_neg hn1, hp1, beq_eq_false_iff_ne.2 hz]
        simp -implicitDefEqProofs only [spec_l17Rd_pick.j0]
        rw [if_neg (by simp), hp2, if_pos hlt, if_pos h0, if_neg (by omega), hbw]
      · have hk7 : wrap64 (wrap64 (p * 7) + 3) = p * 7 + 3 := by rw [wrap64_id (x := p * 7) (by omega) (by omega), wrap64_id (by omega) (by omega)]
        have ha0 := Int.tmod_nonneg (l.length : Int) h0
        have ha1 := Int.tmod_lt_of_pos p (show (0 : Int) < l.length by omega)
        have hb0 := Int.tmod_nonneg (l.length : Int) (show 0 ≤ p * 7 + 3 by omega)
        have hb1 := Int.tmod_lt_of_pos (p * 7 + 3) (show (0 : Int) < l.length by omega)
        have r1 := hl.rd (Int.tmod p (l.length : Int))
        have r2 := hl.rd (Int.tmod (p * 7 + 3) (l.length : Int))
        have hd : 0 ≤ Int.tdiv p (l.length : Int) ∧ Int.tdiv p (l.length : Int) ≤ p := by
          rw [Int.tdiv_eq_ediv_of_nonneg h0]
          exact ⟨Int.ediv_nonneg h0 (by omega), Int.ediv_le_self _ h0⟩
        have key : ∃ v, Int.tmod (Go.bits .xor .i64 (wrap64 (wrap64 (wrap64 (wrap64 (wrap64 (rd l (Int.tmod p (l.length : Int))) * 131) + wrap64 (wrap64 (rd l (Int.tmod (p * 7 + 3) (l.length : Int))) * 1117)) + wrap64 (p * 29)) + wrap64 (wrap64 (Int.tdiv p (l.length : Int)) * 53)))
            (wrap64 (Int.tdiv (wrap64 (wrap64 (wrap64 (wrap64 (wrap64 (rd l (Int.tmod p (l.length : Int))) * 131) + wrap64 (wrap64 (rd l (Int.tmod (p * 7 + 3) (l.length : Int))) * 1117)) + wrap64 (p * 29)) + wrap64 (wrap64 (Int.tdiv p (l.length : Int)) * 53))) 64))) n = v ∧ 0 ≤ v ∧ v < n := by
          generalize rd l (Int.tmod p (l.length : Int)) = x at *
          generalize rd l (Int.tmod (p * 7 + 3) (l.length : Int)) = y at *
          generalize Int.tdiv p (l.length : Int) = q at *
          clear hk7 hp1 hp2
          rw [wrap64_id (x := x) (by omega) (by omega), wrap64_id (x := y) (by omega) (by omega), wrap64_id (x := q) (by omega) (by omega), wrap64_id (x := x * 131) (by omega) (by omega), wrap64_id (x := y * 1117) (by omega) (by omega), wrap64_id (x := p * 29) (by omega) (by omega), wrap64_id (x := q * 53) (by omega) (by omega), wrap64_id (x := x * 131 + y * 1117) (by omega) (by omega), wrap64_id (x := x * 131 + y * 1117 + p * 29) (by omega) (by omega), wrap64_id (x := x * 131 + y * 1117 + p * 29 + q * 53) (by omega) (by omega)]
          have hX : 0 ≤ x * 131 + y * 1117 + p * 29 + q * 53 ∧ x * 131 + y * 1117 + p * 29 + q * 53 < 4611686018427387904 := by omega
          generalize x * 131 + y * 1117 + p * 29 + q * 53 = X at *
          rw [Int.tdiv_eq_ediv_of_nonneg hX.1, wrap64_id (by omega) (by omega)]
          exact ⟨_, rfl, Int.tmod_nonneg _ (xor_nonneg hX.1 hX.2 (by omega) (by omega)), Int.tmod_lt_of_pos _ (by omega)⟩
        obtain ⟨v, hv, hv0, hv1⟩ := key
        refine ⟨v, fun k hk => ?_, fun _ => ⟨hv0, hv1⟩, fun h => by omega⟩
        obtain ⟨k, rfl⟩ : ∃ m, k = m + 1 := ⟨k - 1, by omega⟩
        unfold spec_l17Rd_pick.f
        rw [if_neg hn1, hp1, beq_eq_false_iff_ne.2 hz]
        simp -implicitDefEqProofs only [spec_l17Rd_pick.j0]
        rw [if_neg (by simp), hp2, hk7, if_neg hlt, if_neg hz, if_pos ha0, if_pos ha1, if_pos hb0, if_pos hb1, if_neg (show ¬ n = 0 by omega), hv]
theorem spec_l17Rd_width_eq {l : List Int} (hl : Rd l) (p : Int) (h0 : 0 ≤ p) (h1 : p ≤ 900000000) :
    ∃ v p', (∀ k, 1 ≤ k → spec_l17Rd_width.f k l p = some (v, p')) ∧ p < p' ∧ p' ≤ p + 2 := by
  obtain ⟨a, ha, _, _⟩ := spec_l17Rd_pick_eq hl p 24 h0 (by omega) (by omega)
  obtain ⟨b, hb, hb1, _⟩ := spec_l17Rd_pick_eq hl (p + 1) 4 (by omega) (by omega) (by omega)
  obtain ⟨c, hc, _, _⟩ := spec_l17Rd_pick_eq hl (p + 1) 6 (by omega) (by omega) (by omega)
  have hb2 := hb1 (by omega)
  by_cases ha0 : a = 0
  · refine ⟨rd [0, 16, 17, -1] b, p + 1 + 1, fun k hk => ?_, by omega, by omega⟩
    unfold spec_l17Rd_width.f
    rw [ha k hk]
    simp -implicitDefEqProofs only [Option.bind_some]
    rw [if_pos ha0, hb k hk]
    simp -implicitDefEqProofs only [Option.bind_some]
    rw [if_pos hb2.1, if_pos (show b < (([0, 16, 17, -1] : List Int).length : Int) from by simp; omega)]
  · refine ⟨wrap64 (1 + c), p + 1 + 1, fun k hk => ?_, by omega, by omega⟩
    unfold spec_l17Rd_width.f
    rw [ha k hk]
    simp -implicitDefEqProofs only [Option.bind_some]
    rw [if_neg ha0, hc k hk]
    rfl
theorem spec_l17Rd_word_eq {l : List Int} (hl : Rd l) (p w : Int) (h0 : 0 ≤ p) (h1 : p ≤ 900000000) :
    ∃ v p', (∀ k, 1 ≤ k → spec_l17Rd_word.f k l p w = some (v, p')) ∧ p < p' ∧ p' ≤ p + 4 := by
  by_cases h : 1 ≤ w ∧ w ≤ 16
  · have hd : Wd w := ⟨h.1, h.2⟩
    have := hd.lo; have := hd.le; have := hd.pos
    obtain ⟨a, ha, _, _⟩ := spec_l17Rd_pick_eq hl p 8 h0 (by omega) (by omega)
    obtain ⟨b, hb, _, _⟩ := spec_l17Rd_pick_eq hl (p + 1) 40 (by omega) (by omega) (by omega)
    obtain ⟨c, hc, hc1, _⟩ := spec_l17Rd_pick_eq hl (p + 1 + 1) 2 (by omega) (by omega) (by omega)
    obtain ⟨d, hd', _, _⟩ := spec_l17Rd_pick_eq hl (p + 1 + 1) 256 (by omega) (by omega) (by omega)
    obtain ⟨e, he, _, _⟩ := spec_l17Rd_pick_eq hl (p + 1 + 1 + 1) 256 (by omega) (by omega) (by omega)
    have hc2 := hc1 (by omega)
    have hM : wrap64 (2 ^ w.toNat - 1) = 2 ^ w.toNat - 1 := wrap64_id (by omega) (by omega)
    have hT : wrap64 (2 ^ w.toNat - 1 + 1) = 2 ^ w.toNat := by rw [wrap64_id (by omega) (by omega)]; omega
    have hu : IntKind.u64.wrap (w - 1) = w - 1 := wrap_u64_id (by omega) (by omega)
    have hs : shl .i64 1 (w - 1) = 2 ^ (w - 1).toNat := hd.shlh
    have h0p : 0 ≤ w - 1 := by omega
    have h0w : 0 ≤ w := by omega
    by_cases a0 : a = 0
    · exact ⟨0, p + 1, fun k hk => by unfold spec_l17Rd_word.f; rw [spec_l1Width_eq]; simp -implicitDefEqProofs only [Option.bind_some]; rw [if_pos (decide_eq_true h), hd.u64, if_pos h0w, hd.shl1, hd.pred]; simp -implicitDefEqProofs only [hu, hM, hT, hs, if_pos h0p]; rw [ha k hk]; simp -implicitDefEqProofs only [Option.bind_some]; rw [if_pos a0], by omega, by omega⟩
    · by_cases a1 : a = 1
      · exact ⟨2 ^ w.toNat - 1, p + 1, fun k hk => by unfold spec_l17Rd_word.f; rw [spec_l1Width_eq]; simp -implicitDefEqProofs only [Option.bind_some]; rw [if_pos (decide_eq_true h), hd.u64, if_pos h0w, hd.shl1, hd.pred]; simp -implicitDefEqProofs only [hu, hM, hT, hs, if_pos h0p]; rw [ha k hk]; simp -implicitDefEqProofs only [Option.bind_some]; rw [if_neg a0, if_pos a1], by omega, by omega⟩
      · by_cases a2 : a = 2
        · exact ⟨2 ^ (w - 1).toNat, p + 1, fun k hk => by unfold spec_l17Rd_word.f; rw [spec_l1Width_eq]; simp -implicitDefEqProofs only [Option.bind_some]; rw [if_pos (decide_eq_true h), hd.u64, if_pos h0w, hd.shl1, hd.pred]; simp -implicitDefEqProofs only [hu, hM, hT, hs, if_pos h0p]; rw [ha k hk]; simp -implicitDefEqProofs only [Option.bind_some]; rw [if_neg a0, if_neg a1, if_pos a2], by omega, by omega⟩
        · by_cases a3 : a = 3
          · exact ⟨(2 ^ w.toNat - 1) / 2, p + 1, fun k hk => by unfold spec_l17Rd_word.f; rw [spec_l1Width_eq]; simp -implicitDefEqProofs only [Option.bind_some]; rw [if_pos (decide_eq_true h), hd.u64, if_pos h0w, hd.shl1, hd.pred]; simp -implicitDefEqProofs only [hu, hM, hT, hs, if_pos h0p]; rw [ha k hk]; simp -implicitDefEqProofs only [Option.bind_some]; rw [if_neg a0, if_neg a1, if_neg a2, if_pos a3], by omega, by omega⟩
          · by_cases b0 : b = 0
            · exact ⟨rd [-1, 2 ^ w.toNat] c, p + 1 + 1 + 1, fun k hk => by
                unfold spec_l17Rd_word.f; rw [spec_l1Width_eq]; simp -implicitDefEqProofs only [Option.bind_some]; rw [if_pos (decide_eq_true h), hd.u64, if_pos h0w, hd.shl1, hd.pred]; simp -implicitDefEqProofs only [hu, hM, hT, hs, if_pos h0p]; 
                rw [ha k hk]; simp -implicitDefEqProofs only [Option.bind_some]
                rw [if_neg a0, if_neg a1, if_neg a2, if_neg a3, hb k hk]; simp -implicitDefEqProofs only [Option.bind_some]
                rw [if_pos b0, hc k hk]; simp -implicitDefEqProofs only [Option.bind_some]
                rw [if_pos hc2.1, if_pos (show c < (([-1, 2 ^ w.toNat] : List Int).length : Int) from by simp; omega)], by omega, by omega⟩
            · exact ⟨Int.tmod (wrap64 (wrap64 (d * 256) + e)) (2 ^ w.toNat), p + 1 + 1 + 1 + 1, fun k hk => by
                unfold spec_l17Rd_word.f; rw [spec_l1Width_eq]; simp -implicitDefEqProofs only [Option.bind_some]; rw [if_pos (decide_eq_true h), hd.u64, if_pos h0w, hd.shl1, hd.pred]; simp -implicitDefEqProofs only [hu, hM, hT, hs, if_pos h0p]; 
                rw [ha k hk]; simp -implicitDefEqProofs only [Option.bind_some]
                rw [if_neg a0, if_neg a1, if_neg a2, if_neg a3, hb k hk]; simp -implicitDefEqProofs only [Option.bind_some]
                rw [if_neg b0, hd' k hk]; simp -implicitDefEqProofs only [Option.bind_some]
                rw [he k hk]; simp -implicitDefEqProofs only [Option.bind_some]
                rw [if_neg (show ¬ (2 : Int) ^ w.toNat = 0 by omega)], by omega, by omega⟩
  · obtain ⟨a, ha, _, _⟩ := spec_l17Rd_pick_eq hl p 3 h0 (by omega) (by omega)
    exact ⟨a, p + 1, fun k hk => by unfold spec_l17Rd_word.f; rw [spec_l1Width_eq]; simp -implicitDefEqProofs only [Option.bind_some]; rw [if_neg (by rw [decide_eq_true_iff]; exact h), ha k hk]; rfl, by omega, by omega⟩
theorem spec_DrawWordTwo_eq (l : List Int) (h : ∀ x ∈ l, (Lit.int .u8 x).wf = true) : ∃ q, ∀ k, 1 ≤ k → spec_DrawWordTwo.f k l = some q := by
  obtain ⟨l', hl', hr⟩ := spec_l17Open_eq l h
  obtain ⟨w, p1, hw, g1, g2⟩ := spec_l17Rd_width_eq hr 0 (by omega) (by omega)
  obtain ⟨a, p2, ha, g3, g4⟩ := spec_l17Rd_word_eq hr p1 w (by omega) (by omega)
  obtain ⟨b, p3, hb, g5, g6⟩ := spec_l17Rd_word_eq hr p2 w (by omega) (by omega)
  obtain ⟨c, hc, _, _⟩ := spec_l17Rd_pick_eq hr p3 8 (by omega) (by omega) (by omega)
  obtain ⟨d, hd, _, _⟩ := spec_l17Rd_pick_eq hr (p3 + 1) 25 (by omega) (by omega) (by omega)
  by_cases c0 : c = 0
  · refine ⟨(wrap64 (5 + d), w, a, a), fun k hk => ?_⟩
    unfold spec_DrawWordTwo.f
    rw [hl']; simp -implicitDefEqProofs only [Option.bind_some]
    rw [hw k hk]; simp -implicitDefEqProofs only [Option.bind_some]
    rw [ha k hk]; simp -implicitDefEqProofs only [Option.bind_some]
    rw [hb k hk]; simp -implicitDefEqProofs only [Option.bind_some]
    rw [hc k hk]; simp -implicitDefEqProofs only [Option.bind_some]
    rw [if_pos c0, hd k hk]; rfl
  · refine ⟨(wrap64 (5 + d), w, a, b), fun k hk => ?_⟩
    unfold spec_DrawWordTwo.f
    rw [hl']; simp -implicitDefEqProofs only [Option.bind_some]
    rw [hw k hk]; simp -implicitDefEqProofs only [Option.bind_some]
    rw [ha k hk]; simp -implicitDefEqProofs only [Option.bind_some]
    rw [hb k hk]; simp -implicitDefEqProofs only [Option.bind_some]
    rw [hc k hk]; simp -implicitDefEqProofs only [Option.bind_some]
    rw [if_neg c0, hd k hk]; rfl
theorem laws_ldTwo_eq (kind w a b : Int) (k : Nat) (hk : 4 ≤ k) : laws_ldTwo.f k kind w a b = some (wtwo kind w a b).1 := by
  unfold laws_ldTwo.f; rw [impl_WordTwo_eq _ _ _ _ k hk]; rfl
theorem ld_op {kind w a b : Int} (h0 : 6 ≤ kind) (h1 : kind ≤ 20) (ha : Wo w a) (hb : Wo w b) (k : Nat) (hk : 4 ≤ k) : laws_ldTwo.f k kind w a b = some (op2 kind w a b) := by
  rw [laws_ldTwo_eq kind w a b k hk]
  unfold wtwo
  rw [if_pos ⟨h0, by omega, ha.is, hb.is⟩, if_pos h1]
theorem impl_WordOne_not {w a : Int} (ha : Wo w a) : impl_WordOne.f 1 w a = some (2 ^ w.toNat - 1 - a, w, true) := by
  have := ha.wd.le; have := ha.lo; have := ha.hi
  unfold impl_WordOne.f impl_one.f
  rw [impl_in_eq, impl_WordOk_eq, impl_mask_w ha.wd]
  simp -implicitDefEqProofs only [Option.bind_some]
  rw [if_pos (by decide), if_pos ha.is, if_pos trivial]
  simp -implicitDefEqProofs only [Option.bind_some]
  rw [wrap64_id (by omega) (by omega)]
theorem impl_WordOne_neg {w a : Int} (ha : Wo w a) : impl_WordOne.f 2 w a = some (-a % 2 ^ w.toNat, w, true) := by
  have := ha.top; have := ha.lo; have := ha.hi; have := ha.wd.hi
  unfold impl_WordOne.f impl_one.f
  rw [impl_in_eq, impl_WordOk_eq, impl_mask_w ha.wd]
  simp -implicitDefEqProofs only [Option.bind_some]
  rw [if_pos (by decide), if_pos ha.is, if_neg (by decide), if_pos trivial]
  simp -implicitDefEqProofs only [Option.bind_some]
  rw [wrap64_id (by omega) (by omega), and_mask _ _ (by omega)]
theorem r9 (w a b : Int) : op2 9 w a b = (a + b) % 2 ^ w.toNat := by unfold op2; rfl
theorem r10 (w a b : Int) : op2 10 w a b = (a - b) % 2 ^ w.toNat := by unfold op2; rfl
theorem r11 (w a b : Int) : op2 11 w a b = a * b % 2 ^ w.toNat := by unfold op2; rfl
theorem FnRing : laws_FnRing.Pure := by
  intro l0 l1 _ _ h0 _ _ h1
  refine ⟨97 + 1 + 1 + 1, ?_⟩
  obtain ⟨⟨kd, w, a, b⟩, hq⟩ := spec_DrawWordTwo_eq l0 h0
  obtain ⟨⟨kd2, w2, c0, b2⟩, hq2⟩ := spec_DrawWordTwo_eq l1 h1
  unfold laws_FnRing.f
  by_cases g0 : (l0.length : Int) > 1048576
  · rw [if_pos g0]
    simp -implicitDefEqProofs only [laws_FnRing.j0, if_true]
  · rw [if_neg g0]
    by_cases g1 : (l1.length : Int) > 1048576
    · rw [decide_eq_true g1]
      simp -implicitDefEqProofs only [laws_FnRing.j0, if_true]
    · rw [decide_eq_false g1]
      simp -implicitDefEqProofs only [laws_FnRing.j0, if_false, Bool.false_eq_true]
      rw [hq _ (by omega)]
      simp -implicitDefEqProofs only [Option.bind_some]
      rw [hq2 _ (by omega)]
      simp -implicitDefEqProofs only [Option.bind_some]
      rw [spec_WordFrom_eq, spec_WordOk_eq, spec_WordOk_eq]
      simp -implicitDefEqProofs only [Option.bind_some]
      have bad : ¬ (wok w a = true ∧ wok w b = true) → (impl_WordTwo.f (97 + 1) 9 w a b).bind (fun bt => some (!bt.2.2)) = some true := by
        intro hc
        rw [impl_WordTwo_eq _ _ _ _ _ (by omega)]
        unfold wtwo
        rw [if_neg (fun h => hc ⟨h.2.2.1, h.2.2.2⟩)]
        rfl
      by_cases ha' : wok w a = true
      · by_cases hb' : wok w b = true
        · have ha := wok_iff.1 ha'
          have hb := wok_iff.1 hb'
          have hd := ha.wd
          have hw1 := hd.lo; have hw16 := hd.hi; have t1 := ha.top; have t2 := hb.top; have ha0 := ha.lo; have hb0 := hb.lo; have hge := hd.ge; have hah := ha.hi
          have hc : Wo w (wfrom w c0) := by
            unfold wfrom; rw [if_pos ⟨hw1, hw16⟩]; exact mod_wo hd c0
          generalize wfrom w c0 = c at *
          have o1 := mod_wo hd (a + b)
          have o2 := mod_wo hd (b + c)
          have o3 := mod_wo hd (a * b)
          have o4 := mod_wo hd (a * c)
          have o5 := mod_wo hd (-a)
          have o6 : Wo w (2 ^ w.toNat - 1 - a) := ⟨hd, by omega, by omega⟩
          have o7 : Wo w 1 := ⟨hd, by omega, by omega⟩
          have e1 : (b + a) % 2 ^ w.toNat = (a + b) % 2 ^ w.toNat := by rw [Int.add_comm]
          have e2 : b * a % 2 ^ w.toNat = a * b % 2 ^ w.toNat := by rw [Int.mul_comm]
          have e3 : ((a + b) % 2 ^ w.toNat - b) % 2 ^ w.toNat = a := by
            rw [Int.emod_sub_emod, Int.add_sub_cancel]; exact Int.emod_eq_of_lt ha.lo ha.hi
          have e4 : a * ((b + c) % 2 ^ w.toNat) % 2 ^ w.toNat = (a * b % 2 ^ w.toNat + a * c % 2 ^ w.toNat) % 2 ^ w.toNat := by
            rw [Int.mul_emod, Int.emod_emod, ← Int.mul_emod, Int.mul_add, Int.add_emod]
          have e5 : (a + -a % 2 ^ w.toNat) % 2 ^ w.toNat = 0 := by
            rw [Int.add_emod, Int.emod_emod, ← Int.add_emod, Int.add_right_neg]; simp
          have e6 : (2 ^ w.toNat - 1 - a + 1) % 2 ^ w.toNat = -a % 2 ^ w.toNat := by
            rw [show (2 : Int) ^ w.toNat - 1 - a + 1 = -a + 2 ^ w.toNat by omega, Int.add_emod_right]
          rw [if_pos ha', hb']
          simp -implicitDefEqProofs only [Bool.not_true, laws_FnRing.j1, Bool.false_eq_true, if_false]
          rw [ld_op (by decide) (by decide) ha hb _ (by omega), ld_op (by decide) (by decide) ha hb _ (by omega), ld_op (by decide) (by decide) ha hc _ (by omega), spec_WordFrom_w hd, wrap64_id (x := a + b) (by omega) (by omega), r9, r11, r11]
          simp -implicitDefEqProofs only [Option.bind_some, if_true]
          rw [ld_op (by decide) (by decide) hb ha _ (by omega), r9, e1]
          simp -implicitDefEqProofs only [Option.bind_some, if_true]
          rw [ld_op (by decide) (by decide) hb ha _ (by omega), r11, e2]
          simp -implicitDefEqProofs only [Option.bind_some, if_true]
          rw [ld_op (by decide) (by decide) o1 hb _ (by omega), r10, e3]
          simp -implicitDefEqProofs only [Option.bind_some, bne_self_eq_false, laws_FnRing.j2, Bool.false_eq_true, if_false]
          rw [impl_WordOne_neg ha, impl_WordOne_not ha]
          simp -implicitDefEqProofs only [Option.bind_some, if_true]
          rw [ld_op (by decide) (by decide) hb hc _ (by omega), r9]
          simp -implicitDefEqProofs only [Option.bind_some]
          rw [ld_op (by decide) (by decide) ha o2 _ (by omega), r11, e4]
          simp -implicitDefEqProofs only [Option.bind_some]
          rw [ld_op (by decide) (by decide) o3 o4 _ (by omega), r9]
          simp -implicitDefEqProofs only [Option.bind_some, if_true]
          rw [ld_op (by decide) (by decide) ha o5 _ (by omega), r9, e5]
          simp -implicitDefEqProofs only [Option.bind_some, if_true]
          rw [ld_op (by decide) (by decide) o6 o7 _ (by omega), r9, e6]
          simp
        · rw [if_pos ha']
          have hbf : wok w b = false := by simpa using hb'
          rw [hbf]
          simp -implicitDefEqProofs only [Bool.not_false, laws_FnRing.j1, if_true]
          exact bad (fun c => hb' c.2)
      · rw [if_neg ha']
        simp -implicitDefEqProofs only [laws_FnRing.j1, if_true]
        exact bad (fun c => ha' c.1)

end Go.Proofs.Ytohojfcpnlobjaa.Pure
