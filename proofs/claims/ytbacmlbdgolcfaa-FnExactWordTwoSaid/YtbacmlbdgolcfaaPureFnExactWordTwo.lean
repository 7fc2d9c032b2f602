/- What the law 'FnExactWordTwo' computes is true for every input; no condition. -/
import Derived.Test.YtbacmlbdgolcfaaMathC
import Derived.Test.YtbacmlbdgolcfaaPFnExactWordTwox5
namespace Go.Proofs.Ytbacmlbdgolcfaa.Pure
open Go Go.RowKit Go.Proofs.Ytbacmlbdgolcfaa.PFnExactWordTwo Go.Proofs.YtbacmlbdgolcfaaW.PrintWords Go.Proofs.YtbacmlbdgolcfaaW.PrintLast LeadWord
set_option linter.unusedSimpArgs false
set_option linter.unusedVariables false

theorem spec_l1In_eq (a b c : Int) : spec_l1In.f a b c = some (decide (b ≤ a ∧ a ≤ c)) := by
  unfold spec_l1In.f
  by_cases h : a ≥ b
  · rw [if_pos h]; congr 1; simp [show b ≤ a from h]
  · rw [if_neg h]; simp [show ¬ b ≤ a from h]
theorem impl_in_eq (a b c : Int) : impl_in.f a b c = some (decide (b ≤ a ∧ a ≤ c)) := by
  unfold impl_in.f
  by_cases h : b ≤ a
  · rw [if_pos h]; congr 1; simp [h]
  · rw [if_neg h]; simp [h]
theorem spec_l1Width_eq (w : Int) : spec_l1Width.f w = some (decide (1 ≤ w ∧ w ≤ 16)) := by
  unfold spec_l1Width.f; rw [spec_l1In_eq]; rfl
theorem impl_isWidth_eq (w : Int) : impl_isWidth.f w = some (decide (1 ≤ w ∧ w ≤ 16)) := by
  unfold impl_isWidth.f; rw [impl_in_eq]; rfl
theorem impl_mask_eq (w : Int) (h0 : 0 ≤ w) (h1 : w ≤ 62) : impl_mask.f w = some (2 ^ w.toNat - 1) := by
  have h := two_pow_le (i := w.toNat) (j := 62) (by omega)
  have p := two_pow_pos w.toNat
  unfold impl_mask.f; rw [if_pos h0, shl_one w h0 h1, wrap64_id (by omega) (by omega)]
theorem impl_mask_w {w : Int} (h : Wd w) : impl_mask.f w = some (2 ^ w.toNat - 1) := impl_mask_eq w (by have := h.lo; omega) (by have := h.hi; omega)
theorem spec_WordOk_eq (w v : Int) : spec_WordOk.f w v = some (wok w v) := by
  unfold spec_WordOk.f; rw [spec_l1Width_eq]; simp -implicitDefEqProofs only [Option.bind_some]
  by_cases h : 1 ≤ w ∧ w ≤ 16
  · have hd : Wd w := ⟨h.1, h.2⟩
    have := hd.le; have := hd.pos; have := hd.lo
    rw [if_pos (decide_eq_true h), hd.u64, if_pos (by omega), spec_l1In_eq, hd.shl1, wrap64_id (by omega) (by omega)]
    simp -implicitDefEqProofs only [Option.bind_some, wok]
    congr 1
    rw [decide_eq_decide]; omega
  · rw [if_neg (by rw [decide_eq_true_iff]; exact h)]
    congr 1
    symm
    unfold wok
    rw [decide_eq_false_iff_not]; omega
theorem impl_WordOk_eq (w v : Int) : impl_WordOk.f w v = some (wok w v) := by
  unfold impl_WordOk.f; rw [impl_isWidth_eq]; simp -implicitDefEqProofs only [Option.bind_some]
  by_cases h : 1 ≤ w ∧ w ≤ 16
  · have hd : Wd w := ⟨h.1, h.2⟩
    rw [if_pos (decide_eq_true h), impl_mask_w hd]
    simp -implicitDefEqProofs only [Option.bind_some]
    rw [impl_in_eq]
    simp -implicitDefEqProofs only [Option.bind_some, wok]
    congr 1
    rw [decide_eq_decide]; omega
  · rw [if_neg (by rw [decide_eq_true_iff]; exact h)]
    congr 1
    symm
    unfold wok
    rw [decide_eq_false_iff_not]; omega
theorem spec_WordSigned_eq (w v : Int) : spec_WordSigned.f w v = some (wsg w v) := by
  unfold spec_WordSigned.f wsg; rw [spec_WordOk_eq]; simp -implicitDefEqProofs only [Option.bind_some]
  by_cases h : wok w v = true
  · have ho := wok_iff.1 h
    have hd := ho.wd
    have := hd.lo; have := hd.hi; have := hd.le; have := hd.pos; have := ho.lo; have := ho.hi
    rw [if_pos h, if_pos h, hd.pred, wrap_u64_id (by omega) (by omega), if_pos (by omega), hd.shlh]
    unfold sg
    by_cases hv : v < 2 ^ (w - 1).toNat
    · rw [if_neg (by omega), if_pos hv]
    · rw [if_pos (by omega), if_neg hv, hd.u64, if_pos (by omega), hd.shl1, wrap64_id (by omega) (by omega)]
  · rw [if_neg h, if_neg h]
theorem impl_signed_eq {w v : Int} (ho : Wo w v) : impl_signed.f w v = some (sg w v) := by
  have hd := ho.wd
  have := hd.lo; have := hd.hi; have := hd.le; have hp := hd.pos; have := ho.lo; have := ho.hi; have hh := hd.half; have := hd.hpos
  unfold impl_signed.f
  rw [hd.pred, if_pos (by omega), if_pos (by omega), shr_val _ _ (by omega) (by omega)]
  unfold sg
  by_cases hv : v < 2 ^ (w - 1).toNat
  · rw [Int.ediv_eq_zero_of_lt ho.lo hv, if_pos hv, shl_val _ _ (by omega) (by omega) (by omega) (by omega), Int.zero_mul, wrap64_id (by omega) (by omega)]
    congr 1; omega
  · have e : v / 2 ^ (w - 1).toNat = 1 := by
      rw [show v = (v - 2 ^ (w - 1).toNat) + 2 ^ (w - 1).toNat by omega, Int.add_ediv_of_dvd_right ⟨1, by omega⟩, Int.ediv_self (by omega), Int.ediv_eq_zero_of_lt (by omega) (by omega)]; rfl
    rw [e, if_neg hv, hd.shl1, wrap64_id (by omega) (by omega)]
theorem spec_WordFrom_eq (w n : Int) : spec_WordFrom.f w n = some (wfrom w n) := by
  unfold spec_WordFrom.f wfrom; rw [spec_l1Width_eq]; simp -implicitDefEqProofs only [Option.bind_some]
  by_cases h : 1 ≤ w ∧ w ≤ 16
  · have hd : Wd w := ⟨h.1, h.2⟩
    have := hd.le; have := hd.pos; have := hd.lo
    have hb := tmod_bound n (2 ^ w.toNat) (by omega)
    have hf := tmod_fix n (2 ^ w.toNat) (by omega)
    rw [if_pos (decide_eq_true h), if_pos h, hd.u64, if_pos (by omega), hd.shl1, if_neg (by omega)]
    by_cases hn : Int.tmod n (2 ^ w.toNat) < 0
    · rw [if_pos hn] at hf ⊢; rw [wrap64_id (by omega) (by omega), hf]
    · rw [if_neg hn] at hf ⊢; rw [hf]
  · rw [if_neg (by rw [decide_eq_true_iff]; exact h), if_neg h]
theorem spec_WordFrom_w {w : Int} (h : Wd w) (n : Int) : spec_WordFrom.f w n = some (n % 2 ^ w.toNat) := by
  rw [spec_WordFrom_eq]; unfold wfrom; rw [if_pos ⟨h.lo, h.hi⟩]
theorem spec_l1Yes_eq (b : Bool) : spec_l1Yes.f b = some (yes b) := by
  unfold spec_l1Yes.f yes; cases b <;> rfl
theorem impl_bit_eq (b : Bool) : impl_bit.f b = some (yes b) := by
  unfold impl_bit.f yes; cases b <;> rfl
theorem spec_l1Bit_eq (A i : Nat) (hi : i ≤ 60) : spec_l1Bit.f (A : Int) (i : Int) = some ((LeadWord.bt A i : Nat) : Int) := by
  unfold spec_l1Bit.f
  have hc := nat_two_pow_cast i
  have hz : (0 : Int) ≤ (A : Int) / 2 ^ i := Int.ediv_nonneg (by omega) (by have := two_pow_pos i; omega)
  rw [u64_nat i (by omega), if_pos (by omega), shr_val _ _ (by omega) (by omega), Int.toNat_natCast, Int.tmod_eq_emod_of_nonneg hz]
  unfold LeadWord.bt
  push_cast
  rfl
theorem spec_l1Each_l0 (kind : Int) (hkind : kind = 6 ∨ kind = 7 ∨ kind = 8) (w A B X : Nat) (hw : w ≤ 16)
    (hX : ∀ i, LeadWord.bt X i = if kind = 7 then LeadWord.bt A i + LeadWord.bt B i - LeadWord.bt A i * LeadWord.bt B i else if kind = 8 then (LeadWord.bt A i + LeadWord.bt B i) % 2 else LeadWord.bt A i * LeadWord.bt B i) (d : Nat) :
    ∀ (i k : Nat), i + d = w → d < k → spec_l1Each.l0 k kind (w : Int) (A : Int) (B : Int) ((X % 2 ^ i : Nat) : Int) (i : Int) = some ((X % 2 ^ w : Nat) : Int) := by
  induction d with
  | zero =>
    intro i k hd hk
    obtain ⟨k, rfl⟩ : ∃ m, k = m + 1 := ⟨k - 1, by omega⟩
    obtain rfl : i = w := by omega
    simp -implicitDefEqProofs only [spec_l1Each.l0]
    rw [if_neg (by omega)]
  | succ d ih =>
    intro i k hd hk
    obtain ⟨k, rfl⟩ : ∃ m, k = m + 1 := ⟨k - 1, by omega⟩
    have step := ih (i + 1) k (by omega) (by omega)
    have hx := hX i
    have ha := add_step X i (by omega)
    have b1 := bt_lt A i
    have b2 := bt_lt B i
    simp -implicitDefEqProofs only [spec_l1Each.l0]
    rw [if_pos (by omega), spec_l1Bit_eq A i (by omega), spec_l1Bit_eq B i (by omega)]
    simp -implicitDefEqProofs only [Option.bind_some]
    rw [inc i (by omega)]
    generalize LeadWord.bt A i = x at *
    generalize LeadWord.bt B i = y at *
    have hu : 0 ≤ IntKind.u64.wrap (i : Int) := by rw [u64_nat i (by omega)]; omega
    rcases hkind with rfl | rfl | rfl
    · have e : wrap64 ((x : Int) * (y : Int)) = ((LeadWord.bt X i : Nat) : Int) := by
        rw [hx, if_neg (by decide), if_neg (by decide)]
        rcases (show x = 0 ∨ x = 1 by omega) with rfl | rfl <;> rcases (show y = 0 ∨ y = 1 by omega) with rfl | rfl <;> simp [wrap64]
      rw [if_neg (by decide), if_neg (by decide), if_pos hu, e, ha]; exact step
    · have e : wrap64 (wrap64 ((x : Int) + (y : Int)) - wrap64 ((x : Int) * (y : Int))) = ((LeadWord.bt X i : Nat) : Int) := by
        rw [hx, if_pos rfl]
        rcases (show x = 0 ∨ x = 1 by omega) with rfl | rfl <;> rcases (show y = 0 ∨ y = 1 by omega) with rfl | rfl <;> simp [wrap64]
      rw [if_pos rfl, if_neg (by decide), if_pos hu, e, ha]; exact step
    · have e : Int.tmod (wrap64 ((x : Int) + (y : Int))) 2 = ((LeadWord.bt X i : Nat) : Int) := by
        rw [hx, if_neg (by decide), if_pos rfl]
        rcases (show x = 0 ∨ x = 1 by omega) with rfl | rfl <;> rcases (show y = 0 ∨ y = 1 by omega) with rfl | rfl <;> simp [wrap64]
      rw [if_neg (by decide), if_pos rfl, if_pos hu, e, ha]; exact step
theorem spec_l1Each_eq (kind : Int) (w A B X : Nat) (hkind : kind = 6 ∧ X = A &&& B ∨ kind = 7 ∧ X = A ||| B ∨ kind = 8 ∧ X = A ^^^ B) (hw : w ≤ 16) (ha : A < 2 ^ w) (hb : B < 2 ^ w) (k : Nat) (hk : 20 ≤ k) :
    spec_l1Each.f k kind (w : Int) (A : Int) (B : Int) = some (X : Int) := by
  have hX : X < 2 ^ w := by
    rcases hkind with ⟨_, rfl⟩ | ⟨_, rfl⟩ | ⟨_, rfl⟩
    · exact Nat.and_lt_two_pow _ hb
    · exact Nat.or_lt_two_pow ha hb
    · exact Nat.xor_lt_two_pow ha hb
  have h := spec_l1Each_l0 kind (by rcases hkind with h | h | h <;> simp [h.1]) w A B X hw (by
    intro i
    rcases hkind with ⟨rfl, rfl⟩ | ⟨rfl, rfl⟩ | ⟨rfl, rfl⟩
    · rw [if_neg (by decide), if_neg (by decide), bt_and]
    · rw [if_pos rfl, bt_or]
    · rw [if_neg (by decide), if_pos rfl, bt_xor]) w 0 k (by omega) (by omega)
  unfold spec_l1Each.f
  rw [Nat.mod_eq_of_lt hX] at h
  simpa using h
theorem spec_l1Div_eq (kind w a b : Int) (hk : kind = 12 ∨ kind = 13) (ha : Wo w a) (hb : Wo w b) : spec_l1Div.f kind w a b = some (op2 kind w a b) := by
  have hd := ha.wd
  have := hd.lo; have := hd.le; have := hd.pos; have ht := ha.top; have := ha.lo; have := hb.lo
  unfold spec_l1Div.f op2
  rcases hk with rfl | rfl
  · rw [if_pos rfl]
    simp -implicitDefEqProofs only [show ¬ ((12 : Int) = 6) by decide, show ¬ ((12 : Int) = 7) by decide, show ¬ ((12 : Int) = 8) by decide, show ¬ ((12 : Int) = 9) by decide, show ¬ ((12 : Int) = 10) by decide, show ¬ ((12 : Int) = 11) by decide, if_false, if_true]
    by_cases h : b = 0
    · rw [if_pos h, if_pos h, hd.u64, if_pos (by omega), hd.shl1, wrap64_id (by omega) (by omega)]
    · have h1 := Int.ediv_le_self b ha.lo
      have h2 := Int.ediv_nonneg ha.lo hb.lo
      rw [if_neg h, if_neg h, Int.tdiv_eq_ediv_of_nonneg ha.lo, wrap64_id (by omega) (by omega)]
  · rw [if_neg (by decide)]
    simp -implicitDefEqProofs only [show ¬ ((13 : Int) = 6) by decide, show ¬ ((13 : Int) = 7) by decide, show ¬ ((13 : Int) = 8) by decide, show ¬ ((13 : Int) = 9) by decide, show ¬ ((13 : Int) = 10) by decide, show ¬ ((13 : Int) = 11) by decide, show ¬ ((13 : Int) = 12) by decide, if_false, if_true]
    by_cases h : b = 0
    · rw [if_pos h, if_pos h]
    · rw [if_neg h, if_neg h, Int.tmod_eq_emod_of_nonneg ha.lo]
theorem spec_l1Sdiv_eq (kind w a b : Int) (hk : kind = 14 ∨ kind = 15) (ha : Wo w a) (hb : Wo w b) (k : Nat) (hf : 1 ≤ k) : spec_l1Sdiv.f k kind w a b = some (if kind = 15 then srm w a b else sdv w a b) := by
  have hd := ha.wd
  have := hd.lo; have := hd.le; have := hd.pos; have := sg_small ha; have := sg_small hb
  obtain ⟨k, rfl⟩ : ∃ m, k = m + 1 := ⟨k - 1, by omega⟩
  unfold spec_l1Sdiv.f
  rw [spec_WordSigned_eq, spec_WordSigned_eq]
  simp -implicitDefEqProofs only [Option.bind_some, wsg, ha.is, hb.is, if_true, spec_l1Sdiv.j0]
  have hq : (Int.tdiv (sg w a) (sg w b)).natAbs ≤ (sg w a).natAbs := by rw [Int.natAbs_tdiv]; exact Nat.div_le_self _ _
  rw [hd.u64, if_pos (show 0 ≤ w by omega), hd.shl1, wrap64_id (x := 2 ^ w.toNat - 1) (by omega) (by omega), wrap64_id (x := Int.tdiv _ _) (by omega) (by omega), spec_WordFrom_w hd, spec_WordFrom_w hd]
  unfold sdv srm
  rcases hk with rfl | rfl
  · simp -implicitDefEqProofs only [Int.reduceEq, Int.reduceLE, Int.reduceLT, Int.reduceBEq, reduceIte, if_true, if_false, decide_true, decide_false, Bool.false_eq_true]
    by_cases h : sg w b = 0
    · by_cases hn : sg w a < 0
      · simp [h, hn]
      · simp [h, hn]
    · simp [h]
  · simp -implicitDefEqProofs only [Int.reduceEq, Int.reduceLE, Int.reduceLT, Int.reduceBEq, reduceIte, if_true, if_false, decide_true, decide_false, Bool.false_eq_true]
    by_cases h : sg w b = 0
    · simp [h]
    · simp [h]
theorem impl_divided_eq (kind w a b : Int) (hk : kind = 14 ∨ kind = 15) (ha : Wo w a) (hb : Wo w b) (k : Nat) (hf : 2 ≤ k) : impl_divided.f k kind w a b = some (if kind = 15 then srm w a b else sdv w a b) := by
  have hd := ha.wd
  have := hd.lo; have := hd.le; have := hd.pos; have := sg_small ha; have := sg_small hb
  obtain ⟨k, rfl⟩ : ∃ m, k = m + 1 + 1 := ⟨k - 2, by omega⟩
  unfold impl_divided.f
  rw [impl_signed_eq ha, impl_signed_eq hb]
  simp -implicitDefEqProofs only [Option.bind_some, impl_divided.j0, impl_divided.j1]
  rw [impl_mask_w hd]
  simp -implicitDefEqProofs only [Option.bind_some]
  rw [and_mask _ _ (by have := hd.hi; omega), and_mask _ _ (by have := hd.hi; omega)]
  have hq : (Int.tdiv (sg w a) (sg w b)).natAbs ≤ (sg w a).natAbs := by rw [Int.natAbs_tdiv]; exact Nat.div_le_self _ _
  rw [wrap64_id (x := Int.tdiv _ _) (by omega) (by omega)]
  unfold sdv srm
  rcases hk with rfl | rfl
  · simp -implicitDefEqProofs only [show ¬ ((14 : Int) = 15) by decide, if_false]
    by_cases h : sg w b = 0
    · by_cases hn : sg w a < 0
      · simp [h, hn]
      · simp [h, hn]
    · simp [h]
  · by_cases h : sg w b = 0
    · simp [h]
    · simp [h]
theorem spec_l1Shift_l0 (kind : Int) (w A b X : Nat) (hw1 : 1 ≤ w) (hw : w ≤ 16) (hA : A < 2 ^ w) (hb : b < 65536)
    (hX : ∀ i, i < w → LeadWord.bt X i = if kind = 16 then (if b ≤ i ∧ i - b < w then LeadWord.bt A (i - b) else 0) else if i + b < w then LeadWord.bt A (i + b) else if kind = 18 then LeadWord.bt A (w - 1) else 0) (d : Nat) :
    ∀ (i k : Nat), i + d = w → 3 * d < k → spec_l1Shift.l0 k kind (w : Int) (A : Int) (b : Int) ((X % 2 ^ i : Nat) : Int) (i : Int) = some ((X % 2 ^ w : Nat) : Int) := by
  induction d with
  | zero =>
    intro i k hd hk
    obtain ⟨k, rfl⟩ : ∃ m, k = m + 1 := ⟨k - 1, by omega⟩
    obtain rfl : i = w := by omega
    simp -implicitDefEqProofs only [spec_l1Shift.l0]
    rw [if_neg (by omega)]
  | succ d ih =>
    intro i k hd hk
    obtain ⟨k, rfl⟩ : ∃ m, k = m + 1 + 1 + 1 := ⟨k - 3, by omega⟩
    have step := ih (i + 1) k (by omega) (by omega)
    have hx := hX i (by omega)
    have hw' : True → wrap64 ((w : Int) - 1) = ((w - 1 : Nat) : Int) := fun _ => by rw [wrap64_id (by omega) (by omega)]; omega
    have hi1 : True → wrap64 ((i : Int) + 1) = ((i + 1 : Nat) : Int) := fun _ => inc i (by omega)
    have hu : True → 0 ≤ IntKind.u64.wrap (i : Int) := fun _ => by rw [u64_nat i (by omega)]; omega
    have ha : True → _ := fun _ => add_step X i (by omega)
    simp -implicitDefEqProofs only [spec_l1Shift.l0]
    simp -implicitDefEqProofs only [spec_l1Shift.j1]
    simp -implicitDefEqProofs only [spec_l1Shift.j2]
    rw [if_pos (by omega), wrap64_id (x := (i : Int) - b) (by omega) (by omega), wrap64_id (x := (i : Int) + b) (by omega) (by omega), hi1 trivial, hw' trivial, spec_l1Bit_eq A (w - 1) (by omega)]
    simp -implicitDefEqProofs only [Option.bind_some]
    by_cases hk16 : kind = 16
    · rw [if_pos hk16] at hx ⊢
      by_cases hbi : b ≤ i ∧ i - b < w
      · rw [if_pos hbi] at hx
        rw [if_pos (by omega), if_pos (decide_eq_true (by omega)), show (i : Int) - b = ((i - b : Nat) : Int) by omega, spec_l1Bit_eq A (i - b) (by omega)]
        simp -implicitDefEqProofs only [Option.bind_some]
        rw [if_pos (hu trivial), ← hx, ha trivial]; exact step
      · rw [if_neg hbi] at hx
        have hk18 : ¬ kind = 18 := by omega
        have e : shl .i64 0 (IntKind.u64.wrap (i : Int)) = shl .i64 ((LeadWord.bt X i : Nat) : Int) (IntKind.u64.wrap (i : Int)) := by rw [hx]; rfl
        by_cases hge : (i : Int) - b ≥ 0
        · rw [if_pos hge, if_neg (by rw [decide_eq_true_iff]; omega), if_neg hk18, if_pos (hu trivial), e, ha trivial]; exact step
        · rw [if_neg hge, if_neg (by simp), if_neg hk18, if_pos (hu trivial), e, ha trivial]; exact step
    · rw [if_neg hk16] at hx ⊢
      rw [if_pos (by omega)]
      by_cases hbi : i + b < w
      · rw [if_pos hbi] at hx
        rw [if_pos (decide_eq_true (by omega)), show (i : Int) + b = ((i + b : Nat) : Int) by omega, spec_l1Bit_eq A (i + b) (by omega)]
        simp -implicitDefEqProofs only [Option.bind_some]
        rw [if_pos (hu trivial), ← hx, ha trivial]; exact step
      · rw [if_neg hbi] at hx
        rw [if_neg (by rw [decide_eq_true_iff]; omega)]
        by_cases hk18 : kind = 18
        · rw [if_pos hk18] at hx
          rw [if_pos hk18, if_pos (hu trivial), ← hx, ha trivial]; exact step
        · rw [if_neg hk18] at hx
          have e : shl .i64 0 (IntKind.u64.wrap (i : Int)) = shl .i64 ((LeadWord.bt X i : Nat) : Int) (IntKind.u64.wrap (i : Int)) := by rw [hx]; rfl
          rw [if_neg hk18, if_pos (hu trivial), e, ha trivial]; exact step
theorem lw_nat (w b : Nat) : lw (w : Int) (b : Int) = ((min w b : Nat) : Int) := by
  unfold lw; split <;> omega
theorem shl_lw (w A b : Nat) : A * 2 ^ b % 2 ^ w = A * 2 ^ min w b % 2 ^ w := by
  by_cases h : b ≤ w
  · rw [Nat.min_eq_right h]
  · rw [Nat.min_eq_left (by omega), show b = w + (b - w) by omega, Nat.pow_add, Nat.mul_left_comm, Nat.mul_mod_right, Nat.mul_mod_left]
theorem shr_lw (w A b : Nat) (hA : A < 2 ^ w) : A / 2 ^ b = A / 2 ^ min w b := by
  by_cases h : b ≤ w
  · rw [Nat.min_eq_right h]
  · rw [Nat.min_eq_left (by omega), Nat.div_eq_of_lt hA, Nat.div_eq_of_lt (Nat.lt_of_lt_of_le hA (pow_nat_le (by omega)))]
theorem sar_lw (w A m : Nat) (hw : 1 ≤ w) (hA : A < 2 ^ w) (hm : m ≤ w) : sg (w : Int) (A : Int) / 2 ^ m % 2 ^ w = ((sarN w m A (LeadWord.bt A (w - 1)) : Nat) : Int) := by
  have hc := nat_two_pow_cast (w - 1)
  have e : 2 ^ w = 2 * 2 ^ (w - 1) := by rw [← Nat.pow_succ']; congr 1; omega
  unfold sg
  rw [show ((w : Int) - 1).toNat = w - 1 by omega, Int.toNat_natCast]
  have hq : LeadWord.bt A (w - 1) = if A < 2 ^ (w - 1) then 0 else 1 := by
    unfold LeadWord.bt
    by_cases h : A < 2 ^ (w - 1)
    · rw [if_pos h, Nat.div_eq_of_lt h]
    · rw [if_neg h]
      have h1 : A / 2 ^ (w - 1) = 1 := by
        have := Nat.div_lt_of_lt_mul (m := A) (n := 2 ^ (w - 1)) (k := 2) (by omega)
        have := Nat.div_pos (a := A) (b := 2 ^ (w - 1)) (by omega) (Nat.two_pow_pos _)
        omega
      rw [h1]
  by_cases h : A < 2 ^ (w - 1)
  · rw [if_pos h] at hq
    rw [if_pos (by omega), hq, sarN_zero]
    have h2 : A / 2 ^ m < 2 ^ w := Nat.lt_of_le_of_lt (Nat.div_le_self _ _) hA
    have c1 : ((A / 2 ^ m : Nat) : Int) = (A : Int) / 2 ^ m := by rw [Int.natCast_ediv, nat_two_pow_cast]
    rw [← c1]
    exact Int.emod_eq_of_lt (Int.natCast_nonneg _) (by rw [← nat_two_pow_cast w]; exact Int.ofNat_lt.2 h2)
  · rw [if_neg h] at hq
    rw [if_neg (by omega), hq, sarN_one w m A hm]
    exact sar_nat w m A hm hA
theorem spec_l1Shift_eq (kind : Int) (hkind : kind = 16 ∨ kind = 17 ∨ kind = 18) (w a b : Int) (ha : Wo w a) (hb : Wo w b) (k : Nat) (hk : 60 ≤ k) : spec_l1Shift.f k kind w a b = some (op2 kind w a b) := by
  obtain ⟨W, A, rfl, rfl, h1, h2, h3⟩ := word_nat ha
  have hbt := hb.top
  obtain ⟨B, rfl⟩ := Int.eq_ofNat_of_zero_le hb.lo
  unfold spec_l1Shift.f
  have key : ∀ X : Nat, X % 2 ^ W = X % 2 ^ W → (∀ i, i < W → LeadWord.bt X i = if kind = 16 then (if B ≤ i ∧ i - B < W then LeadWord.bt A (i - B) else 0) else if i + B < W then LeadWord.bt A (i + B) else if kind = 18 then LeadWord.bt A (W - 1) else 0) → spec_l1Shift.l0 k kind (W : Int) (A : Int) (B : Int) 0 0 = some ((X % 2 ^ W : Nat) : Int) := by
    intro X _ hX
    have := spec_l1Shift_l0 kind W A B X h1 h2 h3 (by omega) hX W 0 k (by omega) (by omega)
    simpa using this
  rcases hkind with rfl | rfl | rfl
  · rw [key (A * 2 ^ B) rfl ?_]
    · simp -implicitDefEqProofs only [op2, lw_nat, Int.toNat_natCast]
      rw [shl_lw]
      simp -implicitDefEqProofs only [Int.reduceEq, Int.reduceLE, Int.reduceLT, Int.reduceBEq, reduceIte, if_true, if_false, decide_true, decide_false, Bool.false_eq_true]
      push_cast
      rfl
    · intro i hi
      rw [if_pos rfl, bt_shl]
      by_cases h : i < B
      · rw [if_pos h, if_neg (by omega)]
      · rw [if_neg h, if_pos (by omega)]
  · rw [key (A / 2 ^ B) rfl ?_]
    · simp -implicitDefEqProofs only [op2, lw_nat, Int.toNat_natCast]
      rw [Nat.mod_eq_of_lt (Nat.lt_of_le_of_lt (Nat.div_le_self _ _) h3), shr_lw W A B h3]
      simp -implicitDefEqProofs only [Int.reduceEq, Int.reduceLE, Int.reduceLT, Int.reduceBEq, reduceIte, if_true, if_false, decide_true, decide_false, Bool.false_eq_true]
      push_cast
      rfl
    · intro i hi
      rw [if_neg (by decide), bt_shr]
      by_cases h : i + B < W
      · rw [if_pos h]
      · rw [if_neg h, if_neg (by decide), bt_big h3 (by omega)]
  · have hm : min W B ≤ W := Nat.min_le_left _ _
    have hs := bt_lt A (W - 1)
    rw [key (sarN W (min W B) A (LeadWord.bt A (W - 1))) rfl ?_]
    · simp -implicitDefEqProofs only [op2, lw_nat, Int.toNat_natCast]
      rw [Nat.mod_eq_of_lt (sarN_lt hm h3 hs)]
      simp -implicitDefEqProofs only [Int.reduceEq, Int.reduceLE, Int.reduceLT, Int.reduceBEq, reduceIte, if_true, if_false, decide_true, decide_false, Bool.false_eq_true]
      rw [sar_lw W A _ h1 h3 hm]
    · intro i hi
      rw [if_neg (by decide), bt_sarN hm h3 hs hi, if_pos rfl]
      by_cases h : i + B < W
      · rw [if_pos h, if_pos (by omega), Nat.min_eq_right (by omega)]
      · rw [if_neg h, if_neg (by omega)]
theorem impl_shifted_eq (kind : Int) (hkind : kind = 16 ∨ kind = 17 ∨ kind = 18) (w a b : Int) (ha : Wo w a) (hb : Wo w b) : impl_shifted.f kind w a b = some (op2 kind w a b) := by
  have hd := ha.wd
  have := hd.lo; have := hd.hi; have := hd.pos; have := ha.top; have := ha.lo; have := hb.lo; have := hd.le
  have e : mn b w = lw w b := by unfold mn lw; split <;> rfl
  have hl : 0 ≤ lw w b ∧ lw w b ≤ 16 := by unfold lw; split <;> omega
  unfold impl_shifted.f
  rw [e]
  simp -implicitDefEqProofs only [if_pos hl.1]
  rw [impl_mask_w hd, impl_signed_eq ha]
  simp -implicitDefEqProofs only [Option.bind_some]
  rw [and_mask _ _ (by omega), and_mask _ _ (by omega), shr_val _ _ (by omega) (by omega), shr_val _ _ (by omega) (by omega)]
  have hp := two_pow_le (i := (lw w b).toNat) (j := 16) (by omega)
  have hp0 := two_pow_pos (lw w b).toNat
  have hm : a * 2 ^ (lw w b).toNat ≤ 65536 * 2 ^ 16 := Int.mul_le_mul (by omega) hp (by omega) (by omega)
  have hz : 0 ≤ a * 2 ^ (lw w b).toNat := Int.mul_nonneg ha.lo (by omega)
  rw [shl_val _ _ (by omega) (by omega) (by omega) (by omega)]
  rcases hkind with rfl | rfl | rfl <;> simp -implicitDefEqProofs only [op2] <;> simp -implicitDefEqProofs only [Int.reduceEq, Int.reduceLE, Int.reduceLT, Int.reduceBEq, reduceIte, if_true, if_false, decide_true, decide_false, Bool.false_eq_true]
theorem spec_l1Turn_l0 (kind b : Int) (w A c : Nat) (hw1 : 1 ≤ w) (hw : w ≤ 16) (hA : A < 2 ^ w) (hb0 : 0 ≤ b)
    (hc : (kind = 20 ∧ (c : Int) = Int.tmod ((w : Int) - Int.tmod b w) w) ∨ (kind = 19 ∧ (c : Int) = Int.tmod b w)) (d : Nat) :
    ∀ (i k : Nat), i + d = w → d < k → spec_l1Turn.l0 k kind (w : Int) (A : Int) b ((rolN (w - c) c A i : Nat) : Int) (i : Int) = some ((rolN (w - c) c A w : Nat) : Int) := by
  have hr0 : 0 ≤ Int.tmod b w := Int.tmod_nonneg _ hb0
  have hr1 : Int.tmod b w < w := Int.tmod_lt_of_pos _ (by omega)
  have hcw : c < w := by
    rcases hc with ⟨_, h⟩ | ⟨_, h⟩
    · have := Int.tmod_lt_of_pos ((w : Int) - Int.tmod b w) (show (0 : Int) < w by omega); omega
    · omega
  induction d with
  | zero =>
    intro i k hd hk
    obtain ⟨k, rfl⟩ : ∃ m, k = m + 1 := ⟨k - 1, by omega⟩
    obtain rfl : i = w := by omega
    simp -implicitDefEqProofs only [spec_l1Turn.l0]
    rw [if_neg (by omega)]
  | succ d ih =>
    intro i k hd hk
    obtain ⟨k, rfl⟩ : ∃ m, k = m + 1 := ⟨k - 1, by omega⟩
    have step := ih (i + 1) k (by omega) (by omega)
    have hiw : i < w := by omega
    have b1 := spec_l1Bit_eq A i (by omega)
    simp -implicitDefEqProofs only [spec_l1Turn.l0]
    rw [if_pos (show (i : Int) < w by omega), if_neg (show ¬ ((w : Int) = 0) by omega), b1]
    simp -implicitDefEqProofs only [Option.bind_some]
    rw [inc i (by omega)]
    rcases hc with ⟨rfl, h⟩ | ⟨rfl, h⟩
    · have et := turn_down w i c b hw hiw hr0 hr1 h
      rw [if_pos rfl, if_pos (turn_ge w c i hw hcw _ et), turn_add w c A i hw hcw hiw hA _ et]; exact step
    · have et := turn_up w i c b hw hiw hr0 hr1 h
      rw [if_neg (by decide), if_pos (turn_ge w c i hw hcw _ et), turn_add w c A i hw hcw hiw hA _ et]; exact step
theorem spec_l1Turn_eq (kind : Int) (hkind : kind = 19 ∨ kind = 20) (w a b : Int) (ha : Wo w a) (hb : Wo w b) (k : Nat) (hk : 20 ≤ k) : spec_l1Turn.f k kind w a b = some (op2 kind w a b) := by
  have hr := rorc_lt ha.wd hb.lo
  have hl := rolc_lt ha.wd hb.lo
  obtain ⟨W, A, rfl, rfl, h1, h2, h3⟩ := word_nat ha
  unfold spec_l1Turn.f
  rcases hkind with rfl | rfl
  · obtain ⟨c, hc⟩ := Int.eq_ofNat_of_zero_le hl.1
    have h := spec_l1Turn_l0 19 b W A c h1 h2 h3 hb.lo (.inr ⟨rfl, hc.symm⟩) W 0 k (by omega) (by omega)
    have hz : rolN (W - c) c A 0 = 0 := by simp [rolN, Nat.mod_one]
    rw [hz] at h
    simp -implicitDefEqProofs only [op2]; simp -implicitDefEqProofs only [Int.reduceEq, Int.reduceLE, Int.reduceLT, Int.reduceBEq, reduceIte, if_true, if_false, decide_true, decide_false, Bool.false_eq_true]
    rw [hc, ← rolN_end W c A (by omega) h3]
    simpa using h
  · obtain ⟨c, hc⟩ := Int.eq_ofNat_of_zero_le hr.1
    have h := spec_l1Turn_l0 20 b W A c h1 h2 h3 hb.lo (.inl ⟨rfl, hc.symm⟩) W 0 k (by omega) (by omega)
    have hz : rolN (W - c) c A 0 = 0 := by simp [rolN, Nat.mod_one]
    rw [hz] at h
    simp -implicitDefEqProofs only [op2]; simp -implicitDefEqProofs only [Int.reduceEq, Int.reduceLE, Int.reduceLT, Int.reduceBEq, reduceIte, if_true, if_false, decide_true, decide_false, Bool.false_eq_true]
    rw [hc, ← rolN_end W c A (by omega) h3]
    simpa using h
theorem impl_rotate_eq (w a b : Int) (ha : Wo w a) (hb : 0 ≤ b) : impl_rotate.f w a b = some (rolv w a (Int.tmod b w)) := by
  have hd := ha.wd
  have hl := rolc_lt hd hb
  have := hd.lo; have := hd.hi
  unfold rolc at hl
  unfold impl_rotate.f
  rw [if_neg (by omega), if_pos hl.1, wrap64_id (by omega) (by omega), if_pos (by omega), impl_mask_w hd]
  simp -implicitDefEqProofs only [Option.bind_some]
  rw [and_mask _ _ (by omega)]
  obtain ⟨c, hc⟩ := Int.eq_ofNat_of_zero_le hl.1
  rw [hc] at hl ⊢
  obtain ⟨W, A, rfl, rfl, h1, h2, h3⟩ := word_nat ha
  have hcW : c < W := by omega
  have h65 : 2 ^ W ≤ 2 ^ 16 := pow_nat_le h2
  have hc16 : 2 ^ c ≤ 2 ^ 16 := pow_nat_le (by omega)
  have hm : A * 2 ^ c ≤ 2 ^ 16 * 2 ^ 16 := Nat.mul_le_mul (by omega) hc16
  have hcast : (A : Int) * 2 ^ c = ((A * 2 ^ c : Nat) : Int) := by push_cast; rfl
  have hcast2 : (A : Int) / 2 ^ (W - c) = ((A / 2 ^ (W - c) : Nat) : Int) := by push_cast; rfl
  rw [← rolN_end W c A hcW h3, ← rol_or W c A hcW h3, shl_val _ _ (by omega) (by omega) (by rw [Int.toNat_natCast, hcast]; omega) (by rw [Int.toNat_natCast, hcast]; omega), shr_val _ _ (by omega) (by omega)]
  rw [show ((W : Int) - (c : Int)).toNat = W - c by omega, Int.toNat_natCast, Int.toNat_natCast, hcast, hcast2, bits_or_nat _ _ (by omega) (by have := Nat.div_le_self A (2 ^ (W - c)); omega)]
  push_cast
  rfl
theorem spec_l1Says_eq (kind w a b : Int) (ha : Wo w a) (hb : Wo w b) : spec_l1Says.f kind w a b = some (if 21 ≤ kind ∧ kind ≤ 28 then (says kind w a b, true) else (false, false)) := by
  have hd := ha.wd
  have hs1 := sg_small ha; have hs2 := sg_small hb; have h1 := ha.top; have h2 := hb.top; have := ha.lo; have := hb.lo
  have hm : a * b ≤ 65536 * 65536 := Int.mul_le_mul (by omega) (by omega) (by omega) (by omega)
  have hz : 0 ≤ a * b := Int.mul_nonneg ha.lo hb.lo
  unfold spec_l1Says.f
  rw [spec_WordSigned_eq, spec_WordSigned_eq, spec_WordOk_eq, spec_WordOk_eq]
  simp -implicitDefEqProofs only [Option.bind_some, wsg, ha.is, hb.is, if_true]
  rw [wrap64_id (x := a + b) (by omega) (by omega), wrap64_id (x := a * b) (by omega) (by omega), wrap64_id (x := sg w a + sg w b) (by omega) (by omega), spec_WordFrom_w hd]
  simp -implicitDefEqProofs only [Option.bind_some]
  rw [spec_WordSigned_eq]
  simp -implicitDefEqProofs only [Option.bind_some, wsg, (mod_wo hd _).is, if_true]
  by_cases h : 21 ≤ kind ∧ kind ≤ 28
  · rw [if_pos h]
    have hc : kind = 21 ∨ kind = 22 ∨ kind = 23 ∨ kind = 24 ∨ kind = 25 ∨ kind = 26 ∨ kind = 27 ∨ kind = 28 := by omega
    rcases hc with rfl | rfl | rfl | rfl | rfl | rfl | rfl | rfl <;> simp -implicitDefEqProofs only [says] <;> simp -implicitDefEqProofs only [Int.reduceEq, Int.reduceLE, Int.reduceLT, Int.reduceBEq, reduceIte, if_true, if_false, decide_true, decide_false, Bool.false_eq_true]
    · rw [show (a == b) = decide (a = b) from rfl]
    · congr 2
      unfold wok
      rw [← decide_not, decide_eq_decide]
      have := hd.lo; have := hd.hi
      omega
    · congr 2
      by_cases hr : -2 ^ (w - 1).toNat ≤ sg w a + sg w b ∧ sg w a + sg w b < 2 ^ (w - 1).toNat
      · rw [sg_of_mod hd hr.1 hr.2, decide_eq_true hr]; exact bne_self_eq_false _
      · have hn : ¬ sg w ((sg w a + sg w b) % 2 ^ w.toNat) = sg w a + sg w b := by
          intro e
          have := sg_bounds (mod_wo hd (sg w a + sg w b))
          rw [e] at this
          exact hr this
        rw [decide_eq_false hr, bne_iff_ne.2 hn]; rfl
    · congr 2
      unfold wok
      rw [← decide_not, decide_eq_decide]
      have := hd.lo; have := hd.hi
      omega
  · rw [if_neg h, if_neg (by omega), if_neg (by omega), if_neg (by omega), if_neg (by omega), if_neg (by omega), if_neg (by omega), if_neg (by omega), if_neg (by omega)]
theorem impl_compared_eq (kind w a b : Int) (hk : 21 ≤ kind ∧ kind ≤ 28) (ha : Wo w a) (hb : Wo w b) : impl_compared.f kind w a b = some (says kind w a b) := by
  have hd := ha.wd
  have hs1 := sg_small ha; have hs2 := sg_small hb; have h1 := ha.top; have h2 := hb.top; have := ha.lo; have := hb.lo; have := hd.lo; have := hd.hi; have hh := hd.half; have := hd.le; have := hd.hpos
  have hm : a * b ≤ 65536 * 65536 := Int.mul_le_mul (by omega) (by omega) (by omega) (by omega)
  have hz : 0 ≤ a * b := Int.mul_nonneg ha.lo hb.lo
  unfold impl_compared.f
  rw [impl_signed_eq ha, impl_signed_eq hb, impl_mask_w hd]
  simp -implicitDefEqProofs only [Option.bind_some]
  have e1 : shl .i64 (-1) (w - 1) = -2 ^ (w - 1).toNat := by rw [shl_val _ _ (by omega) (by omega) (by omega) (by omega)]; omega
  rw [hd.pred, if_pos (show 0 ≤ w - 1 by omega), wrap64_id (x := a + b) (by omega) (by omega), wrap64_id (x := a * b) (by omega) (by omega), wrap64_id (x := sg w a + sg w b) (by omega) (by omega), e1, hd.shlh, wrap64_id (by omega) (by omega), impl_in_eq]
  simp -implicitDefEqProofs only [Option.bind_some]
  have hc : kind = 21 ∨ kind = 22 ∨ kind = 23 ∨ kind = 24 ∨ kind = 25 ∨ kind = 26 ∨ kind = 27 ∨ kind = 28 := by omega
  rcases hc with rfl | rfl | rfl | rfl | rfl | rfl | rfl | rfl <;> simp -implicitDefEqProofs only [says] <;> simp -implicitDefEqProofs only [Int.reduceEq, Int.reduceLE, Int.reduceLT, Int.reduceBEq, reduceIte, if_true, if_false, decide_true, decide_false, Bool.false_eq_true]
  · rw [show (a == b) = decide (a = b) from rfl]
  · congr 1; rw [decide_eq_decide]; omega
  · congr 2; rw [decide_eq_decide]; omega
  · congr 1; rw [decide_eq_decide]; omega
theorem spec_WordTwo_eq (kind w a b : Int) (k : Nat) (hk : 100 ≤ k) : spec_WordTwo.f k kind w a b = some (wtwo kind w a b) := by
  obtain ⟨k, rfl⟩ : ∃ m, k = m + 1 + 1 + 1 + 1 + 1 := ⟨k - 5, by omega⟩
  have e1 : 6 ≤ kind → kind ≤ 20 → wok w a = true → wok w b = true → wtwo kind w a b = (op2 kind w a b, w, true) := fun p q r s => by
    unfold wtwo; rw [if_pos ⟨p, by omega, r, s⟩, if_pos q]
  have e2 : 21 ≤ kind → kind ≤ 28 → wok w a = true → wok w b = true → wtwo kind w a b = (yes (says kind w a b), 1, true) := fun p q r s => by
    unfold wtwo; rw [if_pos ⟨by omega, q, r, s⟩, if_neg (by omega)]
  have e3 : ¬ (6 ≤ kind ∧ kind ≤ 28 ∧ wok w a = true ∧ wok w b = true) → wtwo kind w a b = (0, 0, false) := fun p => by
    unfold wtwo; rw [if_neg p]
  unfold spec_WordTwo.f
  rw [spec_WordOk_eq, spec_WordOk_eq]
  simp -implicitDefEqProofs only [Option.bind_some]
  by_cases ha' : wok w a = true
  · by_cases hb' : wok w b = true
    · have ha := wok_iff.1 ha'
      have hb := wok_iff.1 hb'
      have hd := ha.wd
      have := ha.lo; have := hb.lo; have h1 := ha.top; have h2 := hb.top
      have hm : a * b ≤ 65536 * 65536 := Int.mul_le_mul (by omega) (by omega) (by omega) (by omega)
      have hz : 0 ≤ a * b := Int.mul_nonneg ha.lo hb.lo
      rw [if_pos ha', hb']
      simp -implicitDefEqProofs only [Bool.not_true, spec_WordTwo.j0]
      rw [if_neg (by simp), spec_l1Says_eq kind w a b ha hb]
      simp -implicitDefEqProofs only [Option.bind_some]
      by_cases h21 : 21 ≤ kind ∧ kind ≤ 28
      · rw [if_pos h21]
        simp -implicitDefEqProofs only [if_true]
        rw [spec_l1Yes_eq, e2 h21.1 h21.2 ha' hb']; rfl
      · rw [if_neg h21]
        by_cases h6 : 6 ≤ kind ∧ kind ≤ 28
        · have h20 : kind ≤ 20 := by omega
          rw [e1 h6.1 h20 ha' hb']
          clear e1 e2 e3
          have hdiv := spec_l1Div_eq kind w a b
          have hsdiv := spec_l1Sdiv_eq kind w a b
          have hshift := spec_l1Shift_eq kind
          have hturn := spec_l1Turn_eq kind
          have hc : kind = 6 ∨ kind = 7 ∨ kind = 8 ∨ kind = 9 ∨ kind = 10 ∨ kind = 11 ∨ kind = 12 ∨ kind = 13 ∨ kind = 14 ∨ kind = 15 ∨ kind = 16 ∨ kind = 17 ∨ kind = 18 ∨ kind = 19 ∨ kind = 20 := by omega
          have each : ∀ X : Nat, (kind = 6 ∧ X = a.toNat &&& b.toNat ∨ kind = 7 ∧ X = a.toNat ||| b.toNat ∨ kind = 8 ∧ X = a.toNat ^^^ b.toNat) → spec_l1Each.f (k + 1 + 1 + 1) kind w a b = some (X : Int) := by
            intro X hX
            obtain ⟨W, A, rfl, rfl, g1, g2, g3⟩ := word_nat ha
            obtain ⟨B, rfl⟩ := Int.eq_ofNat_of_zero_le hb.lo
            have g4 : B < 2 ^ W := by have := hb.hi; have := nat_two_pow_cast W; rw [Int.toNat_natCast] at *; omega
            exact spec_l1Each_eq kind W A B X (by simpa using hX) g2 g3 g4 (k + 1 + 1 + 1) (by omega)
          rcases hc with rfl | rfl | rfl | rfl | rfl | rfl | rfl | rfl | rfl | rfl | rfl | rfl | rfl | rfl | rfl
          · simp -implicitDefEqProofs only [spec_WordTwo.j1, spec_WordTwo.j2, spec_WordTwo.j3, spec_WordTwo.j4, op2]; simp -implicitDefEqProofs only [Int.reduceEq, Int.reduceLE, Int.reduceLT, Int.reduceBEq, reduceIte, if_true, if_false, decide_true, decide_false, Bool.false_eq_true]; rw [each (a.toNat &&& b.toNat) (.inl ⟨rfl, rfl⟩)]; rfl
          · simp -implicitDefEqProofs only [spec_WordTwo.j1, spec_WordTwo.j2, spec_WordTwo.j3, spec_WordTwo.j4, op2]; simp -implicitDefEqProofs only [Int.reduceEq, Int.reduceLE, Int.reduceLT, Int.reduceBEq, reduceIte, if_true, if_false, decide_true, decide_false, Bool.false_eq_true]; rw [each (a.toNat ||| b.toNat) (.inr (.inl ⟨rfl, rfl⟩))]; rfl
          · simp -implicitDefEqProofs only [spec_WordTwo.j1, spec_WordTwo.j2, spec_WordTwo.j3, spec_WordTwo.j4, op2]; simp -implicitDefEqProofs only [Int.reduceEq, Int.reduceLE, Int.reduceLT, Int.reduceBEq, reduceIte, if_true, if_false, decide_true, decide_false, Bool.false_eq_true]; rw [each (a.toNat ^^^ b.toNat) (.inr (.inr ⟨rfl, rfl⟩))]; rfl
          · simp -implicitDefEqProofs only [spec_WordTwo.j1, spec_WordTwo.j2, spec_WordTwo.j3, spec_WordTwo.j4, op2]; simp -implicitDefEqProofs only [Int.reduceEq, Int.reduceLE, Int.reduceLT, Int.reduceBEq, reduceIte, if_true, if_false, decide_true, decide_false, Bool.false_eq_true]; rw [spec_WordFrom_w hd, wrap64_id (by omega) (by omega)]; rfl
          · simp -implicitDefEqProofs only [spec_WordTwo.j1, spec_WordTwo.j2, spec_WordTwo.j3, spec_WordTwo.j4, op2]; simp -implicitDefEqProofs only [Int.reduceEq, Int.reduceLE, Int.reduceLT, Int.reduceBEq, reduceIte, if_true, if_false, decide_true, decide_false, Bool.false_eq_true]; rw [spec_WordFrom_w hd, wrap64_id (by omega) (by omega)]; rfl
          · simp -implicitDefEqProofs only [spec_WordTwo.j1, spec_WordTwo.j2, spec_WordTwo.j3, spec_WordTwo.j4, op2]; simp -implicitDefEqProofs only [Int.reduceEq, Int.reduceLE, Int.reduceLT, Int.reduceBEq, reduceIte, if_true, if_false, decide_true, decide_false, Bool.false_eq_true]; rw [spec_WordFrom_w hd, wrap64_id (by omega) (by omega)]; rfl
          · simp -implicitDefEqProofs only [spec_WordTwo.j1, spec_WordTwo.j2, spec_WordTwo.j3, spec_WordTwo.j4]; simp -implicitDefEqProofs only [Int.reduceEq, Int.reduceLE, Int.reduceLT, Int.reduceBEq, reduceIte, if_true, if_false, decide_true, decide_false, Bool.false_eq_true]; rw [hdiv (.inl rfl) ha hb]; rfl
          · simp -implicitDefEqProofs only [spec_WordTwo.j1, spec_WordTwo.j2, spec_WordTwo.j3, spec_WordTwo.j4]; simp -implicitDefEqProofs only [Int.reduceEq, Int.reduceLE, Int.reduceLT, Int.reduceBEq, reduceIte, if_true, if_false, decide_true, decide_false, Bool.false_eq_true]; rw [hdiv (.inr rfl) ha hb]; rfl
          · simp -implicitDefEqProofs only [spec_WordTwo.j1, spec_WordTwo.j2, spec_WordTwo.j3, spec_WordTwo.j4, op2]; simp -implicitDefEqProofs only [Int.reduceEq, Int.reduceLE, Int.reduceLT, Int.reduceBEq, reduceIte, if_true, if_false, decide_true, decide_false, Bool.false_eq_true]; rw [hsdiv (.inl rfl) ha hb _ (by omega)]; rfl
          · simp -implicitDefEqProofs only [spec_WordTwo.j1, spec_WordTwo.j2, spec_WordTwo.j3, spec_WordTwo.j4, op2]; simp -implicitDefEqProofs only [Int.reduceEq, Int.reduceLE, Int.reduceLT, Int.reduceBEq, reduceIte, if_true, if_false, decide_true, decide_false, Bool.false_eq_true]; rw [hsdiv (.inr rfl) ha hb _ (by omega)]; rfl
          · simp -implicitDefEqProofs only [spec_WordTwo.j1, spec_WordTwo.j2, spec_WordTwo.j3, spec_WordTwo.j4]; simp -implicitDefEqProofs only [Int.reduceEq, Int.reduceLE, Int.reduceLT, Int.reduceBEq, reduceIte, if_true, if_false, decide_true, decide_false, Bool.false_eq_true]; rw [hshift (.inl rfl) w a b ha hb _ (by omega)]; rfl
          · simp -implicitDefEqProofs only [spec_WordTwo.j1, spec_WordTwo.j2, spec_WordTwo.j3, spec_WordTwo.j4]; simp -implicitDefEqProofs only [Int.reduceEq, Int.reduceLE, Int.reduceLT, Int.reduceBEq, reduceIte, if_true, if_false, decide_true, decide_false, Bool.false_eq_true]; rw [hshift (.inr (.inl rfl)) w a b ha hb _ (by omega)]; rfl
          · simp -implicitDefEqProofs only [spec_WordTwo.j1, spec_WordTwo.j2, spec_WordTwo.j3, spec_WordTwo.j4]; simp -implicitDefEqProofs only [Int.reduceEq, Int.reduceLE, Int.reduceLT, Int.reduceBEq, reduceIte, if_true, if_false, decide_true, decide_false, Bool.false_eq_true]; rw [hshift (.inr (.inr rfl)) w a b ha hb _ (by omega)]; rfl
          · simp -implicitDefEqProofs only [spec_WordTwo.j1, spec_WordTwo.j2, spec_WordTwo.j3, spec_WordTwo.j4]; simp -implicitDefEqProofs only [Int.reduceEq, Int.reduceLE, Int.reduceLT, Int.reduceBEq, reduceIte, if_true, if_false, decide_true, decide_false, Bool.false_eq_true]; rw [hturn (.inl rfl) w a b ha hb _ (by omega)]; rfl
          · simp -implicitDefEqProofs only [spec_WordTwo.j1, spec_WordTwo.j2, spec_WordTwo.j3, spec_WordTwo.j4]; simp -implicitDefEqProofs only [Int.reduceEq, Int.reduceLE, Int.reduceLT, Int.reduceBEq, reduceIte, if_true, if_false, decide_true, decide_false, Bool.false_eq_true]; rw [hturn (.inr rfl) w a b ha hb _ (by omega)]; rfl
        · rw [e3 (fun c => h6 ⟨c.1, c.2.1⟩)]
          have e : ∀ n : Int, 6 ≤ n → n ≤ 28 → kind ≠ n := fun n p q r => h6 (by omega)
          simp -implicitDefEqProofs only [spec_WordTwo.j1, spec_WordTwo.j2, spec_WordTwo.j3, spec_WordTwo.j4, e 6 (by omega) (by omega), e 7 (by omega) (by omega), e 8 (by omega) (by omega), e 9 (by omega) (by omega), e 10 (by omega) (by omega), e 11 (by omega) (by omega), e 12 (by omega) (by omega), e 13 (by omega) (by omega), e 14 (by omega) (by omega), e 15 (by omega) (by omega), e 16 (by omega) (by omega), e 17 (by omega) (by omega), e 18 (by omega) (by omega), e 19 (by omega) (by omega), e 20 (by omega) (by omega), beq_eq_false_iff_ne.2 (e 8 (by omega) (by omega)), beq_eq_false_iff_ne.2 (e 13 (by omega) (by omega)), beq_eq_false_iff_ne.2 (e 15 (by omega) (by omega)), beq_eq_false_iff_ne.2 (e 18 (by omega) (by omega)), if_false, Bool.false_eq_true]
    · rw [if_pos ha', e3 (fun c => hb' c.2.2.2)]
      have : wok w b = false := by simpa using hb'
      rw [this]
      simp -implicitDefEqProofs only [Bool.not_false, spec_WordTwo.j0, if_true]
  · rw [if_neg ha', e3 (fun c => ha' c.2.2.1)]
    simp -implicitDefEqProofs only [spec_WordTwo.j0, if_true]
theorem impl_two_eq (kind w a b : Int) (h0 : 6 ≤ kind) (h1 : kind ≤ 28) (ha : Wo w a) (hb : Wo w b) (k : Nat) (hk : 4 ≤ k) : impl_two.f k kind w a b = some (if kind ≤ 20 then (op2 kind w a b, w) else (yes (says kind w a b), 1)) := by
  obtain ⟨k, rfl⟩ : ∃ m, k = m + 1 + 1 + 1 + 1 := ⟨k - 4, by omega⟩
  have hd := ha.wd
  have := ha.lo; have := hb.lo; have g1 := ha.top; have g2 := hb.top; have := hd.lo; have := hd.hi
  have hm : a * b ≤ 65536 * 65536 := Int.mul_le_mul (by omega) (by omega) (by omega) (by omega)
  have hz : 0 ≤ a * b := Int.mul_nonneg ha.lo hb.lo
  obtain ⟨A, hA⟩ := Int.eq_ofNat_of_zero_le ha.lo
  obtain ⟨B, hB⟩ := Int.eq_ofNat_of_zero_le hb.lo
  have hdiv := impl_divided_eq kind w a b
  have hshift := impl_shifted_eq kind
  have hcmp := impl_compared_eq kind w a b
  have hrot := impl_rotate_eq w a b ha hb.lo
  have hl := rolc_lt hd hb.lo
  unfold rolc at hl
  have hror := impl_rotate_eq w a (w - Int.tmod b w) ha (by omega)
  have hw0 : ¬ (w = 0) := by omega
  have hwr : wrap64 (w - Int.tmod b w) = w - Int.tmod b w := wrap64_id (by omega) (by omega)
  unfold impl_two.f
  rw [impl_mask_w hd]
  simp -implicitDefEqProofs only [Option.bind_some]
  rw [and_mask _ _ (by omega), and_mask _ _ (by omega), and_mask _ _ (by omega), wrap64_id (x := a + b) (by omega) (by omega), wrap64_id (x := a - b) (by omega) (by omega), wrap64_id (x := a * b) (by omega) (by omega)]
  rcases two_cases h0 h1 with rfl | rfl | rfl | rfl | rfl | rfl | rfl | rfl | rfl | rfl | rfl | rfl | rfl | rfl | rfl | rfl | rfl | rfl | rfl | rfl | rfl | rfl | rfl
  · simp -implicitDefEqProofs only [op2]; simp -implicitDefEqProofs only [Int.reduceEq, Int.reduceLE, Int.reduceLT, Int.reduceBEq, reduceIte, if_true, if_false, decide_true, decide_false, Bool.false_eq_true]; rw [hA, hB, bits_and_nat _ _ (by omega) (by omega)]; rfl
  · simp -implicitDefEqProofs only [op2]; simp -implicitDefEqProofs only [Int.reduceEq, Int.reduceLE, Int.reduceLT, Int.reduceBEq, reduceIte, if_true, if_false, decide_true, decide_false, Bool.false_eq_true]; rw [hA, hB, bits_or_nat _ _ (by omega) (by omega)]; rfl
  · simp -implicitDefEqProofs only [op2]; simp -implicitDefEqProofs only [Int.reduceEq, Int.reduceLE, Int.reduceLT, Int.reduceBEq, reduceIte, if_true, if_false, decide_true, decide_false, Bool.false_eq_true]; rw [hA, hB, bits_xor_nat _ _ (by omega) (by omega)]; rfl
  · simp -implicitDefEqProofs only [op2]; simp -implicitDefEqProofs only [Int.reduceEq, Int.reduceLE, Int.reduceLT, Int.reduceBEq, reduceIte, if_true, if_false, decide_true, decide_false, Bool.false_eq_true]
  · simp -implicitDefEqProofs only [op2]; simp -implicitDefEqProofs only [Int.reduceEq, Int.reduceLE, Int.reduceLT, Int.reduceBEq, reduceIte, if_true, if_false, decide_true, decide_false, Bool.false_eq_true]
  · simp -implicitDefEqProofs only [op2]; simp -implicitDefEqProofs only [Int.reduceEq, Int.reduceLE, Int.reduceLT, Int.reduceBEq, reduceIte, if_true, if_false, decide_true, decide_false, Bool.false_eq_true]
  · simp -implicitDefEqProofs only [op2]; simp -implicitDefEqProofs only [Int.reduceEq, Int.reduceLE, Int.reduceLT, Int.reduceBEq, reduceIte, if_true, if_false, decide_true, decide_false, Bool.false_eq_true]
    have h3 := Int.ediv_le_self b ha.lo
    have h4 := Int.ediv_nonneg ha.lo hb.lo
    by_cases h : b = 0
    · rw [if_neg (by omega), if_pos h]
    · rw [if_pos (by omega), if_neg h, if_neg h, Int.tdiv_eq_ediv_of_nonneg ha.lo, wrap64_id (by omega) (by omega)]
  · simp -implicitDefEqProofs only [op2]; simp -implicitDefEqProofs only [Int.reduceEq, Int.reduceLE, Int.reduceLT, Int.reduceBEq, reduceIte, if_true, if_false, decide_true, decide_false, Bool.false_eq_true]
    by_cases h : b = 0
    · rw [if_neg (by omega), if_pos h]
    · rw [if_pos (by omega), if_neg h, if_neg h, Int.tmod_eq_emod_of_nonneg ha.lo]
  · simp -implicitDefEqProofs only [op2, impl_two.j0]; simp -implicitDefEqProofs only [Int.reduceEq, Int.reduceLE, Int.reduceLT, Int.reduceBEq, reduceIte, if_true, if_false, decide_true, decide_false, Bool.false_eq_true]; rw [hdiv (.inl rfl) ha hb _ (by omega)]; rfl
  · simp -implicitDefEqProofs only [op2, impl_two.j0]; simp -implicitDefEqProofs only [Int.reduceEq, Int.reduceLE, Int.reduceLT, Int.reduceBEq, reduceIte, if_true, if_false, decide_true, decide_false, Bool.false_eq_true]; rw [hdiv (.inr rfl) ha hb _ (by omega)]; rfl
  · simp -implicitDefEqProofs only [impl_two.j0, impl_two.j1]; simp -implicitDefEqProofs only [Int.reduceEq, Int.reduceLE, Int.reduceLT, Int.reduceBEq, reduceIte, if_true, if_false, decide_true, decide_false, Bool.false_eq_true]; rw [hshift (.inl rfl) w a b ha hb]; rfl
  · simp -implicitDefEqProofs only [impl_two.j0, impl_two.j1]; simp -implicitDefEqProofs only [Int.reduceEq, Int.reduceLE, Int.reduceLT, Int.reduceBEq, reduceIte, if_true, if_false, decide_true, decide_false, Bool.false_eq_true]; rw [hshift (.inr (.inl rfl)) w a b ha hb]; rfl
  · simp -implicitDefEqProofs only [impl_two.j0, impl_two.j1]; simp -implicitDefEqProofs only [Int.reduceEq, Int.reduceLE, Int.reduceLT, Int.reduceBEq, reduceIte, if_true, if_false, decide_true, decide_false, Bool.false_eq_true]; rw [hshift (.inr (.inr rfl)) w a b ha hb]; rfl
  · simp -implicitDefEqProofs only [op2, impl_two.j0, impl_two.j1]; simp -implicitDefEqProofs only [Int.reduceEq, Int.reduceLE, Int.reduceLT, Int.reduceBEq, reduceIte, if_true, if_false, decide_true, decide_false, Bool.false_eq_true]; rw [hrot]; rfl
  · simp -implicitDefEqProofs only [op2, impl_two.j0, impl_two.j1]; simp -implicitDefEqProofs only [Int.reduceEq, Int.reduceLE, Int.reduceLT, Int.reduceBEq, reduceIte, if_true, if_false, decide_true, decide_false, Bool.false_eq_true]; rw [if_neg hw0, hwr, hror]; rfl
  all_goals
    simp -implicitDefEqProofs only [impl_two.j0, impl_two.j1]; simp -implicitDefEqProofs only [Int.reduceEq, Int.reduceLE, Int.reduceLT, Int.reduceBEq, reduceIte, if_true, if_false, decide_true, decide_false, Bool.false_eq_true]; rw [hcmp ⟨by decide, by decide⟩ ha hb]; simp -implicitDefEqProofs only [Option.bind_some]; rw [impl_bit_eq]; rfl
theorem impl_WordTwo_eq (kind w a b : Int) (k : Nat) (hk : 4 ≤ k) : impl_WordTwo.f k kind w a b = some (wtwo kind w a b) := by
  unfold impl_WordTwo.f wtwo
  rw [impl_WordOk_eq, impl_WordOk_eq, impl_in_eq]
  simp -implicitDefEqProofs only [Option.bind_some]
  by_cases h : 6 ≤ kind ∧ kind ≤ 28
  · rw [if_pos (decide_eq_true h)]
    by_cases ha : wok w a = true
    · by_cases hb : wok w b = true
      · rw [if_pos ha, if_pos hb, if_pos ⟨h.1, h.2, ha, hb⟩, impl_two_eq kind w a b h.1 h.2 (wok_iff.1 ha) (wok_iff.1 hb) k hk]
        simp -implicitDefEqProofs only [Option.bind_some]
        split <;> rfl
      · rw [if_pos ha, if_neg hb, if_neg (fun c => hb c.2.2.2)]
    · rw [if_neg ha, if_neg (fun c => ha c.2.2.1)]
  · rw [if_neg (by rw [decide_eq_true_iff]; exact h), if_neg (fun c => h ⟨c.1, c.2.1⟩)]
theorem FnExactWordTwo : laws_FnExactWordTwo.Pure := by
  intro a0 a1 a2 a3 _ _ _ _
  refine ⟨100, ?_⟩
  unfold laws_FnExactWordTwo.f; rw [spec_WordTwo_eq _ _ _ _ 100 (by omega), impl_WordTwo_eq _ _ _ _ 100 (by omega)]; simp

end Go.Proofs.Ytbacmlbdgolcfaa.Pure
