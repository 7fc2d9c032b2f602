import Derived.Test.YtbacmlbdgolcfaaMathB
namespace LeadWord
open Go Go.RowKit Go.Proofs.YtbacmlbdgolcfaaW.PrintWords

theorem pow_nat_le {i j : Nat} (h : i ≤ j) : 2 ^ i ≤ 2 ^ j := Nat.pow_le_pow_right (by decide) h
theorem mod_le62 (X i : Nat) (hi : i ≤ 40) : X % 2 ^ i < 2 ^ 40 := Nat.lt_of_lt_of_le (Nat.mod_lt _ (Nat.two_pow_pos i)) (pow_nat_le hi)
theorem u64_nat (i : Nat) (hi : i ≤ 1000) : IntKind.u64.wrap (i : Int) = (i : Int) := wrap_u64_id (by omega) (by omega)
theorem shl_nat (z i : Nat) (hz : z < 2) (hi : i ≤ 40) : shl .i64 (z : Int) (IntKind.u64.wrap (i : Int)) = ((z * 2 ^ i : Nat) : Int) := by
  have hp : 2 ^ i ≤ 2 ^ 40 := pow_nat_le hi
  have hc := nat_two_pow_cast i
  have hm : z * 2 ^ i ≤ 1 * 2 ^ i := Nat.mul_le_mul_right _ (by omega)
  have hcast : (z : Int) * 2 ^ i = ((z * 2 ^ i : Nat) : Int) := by rw [Int.natCast_mul, hc]
  rw [u64_nat i (by omega), shl_val _ _ (by omega) (by omega)]
  · rw [Int.toNat_natCast, hcast]
  · rw [Int.toNat_natCast, hcast]; omega
  · rw [Int.toNat_natCast, hcast]; omega
theorem add_step (X i : Nat) (hi : i ≤ 39) : wrap64 (((X % 2 ^ i : Nat) : Int) + shl .i64 ((bt X i : Nat) : Int) (IntKind.u64.wrap (i : Int))) = ((X % 2 ^ (i + 1) : Nat) : Int) := by
  have h1 := mod_le62 X (i + 1) (by omega)
  rw [shl_nat _ i (bt_lt X i) (by omega), ← Int.natCast_add, ← mod_step]
  exact wrap64_id (by omega) (by omega)
theorem inc (i : Nat) (hi : i ≤ 1000000) : wrap64 ((i : Int) + 1) = ((i + 1 : Nat) : Int) := by
  rw [wrap64_id (by omega) (by omega)]; omega
theorem word_nat {w v : Int} (h : Wo w v) : ∃ W V : Nat, w = W ∧ v = V ∧ 1 ≤ W ∧ W ≤ 16 ∧ V < 2 ^ W := by
  have := h.wd.lo; have := h.wd.hi; have h0 := h.lo
  refine ⟨w.toNat, v.toNat, by omega, by omega, by omega, by omega, ?_⟩
  have := h.hi
  have hc := nat_two_pow_cast w.toNat
  omega

/-! The bits of what is shifted. -/
theorem bt_shl (A b i : Nat) : bt (A * 2 ^ b) i = if i < b then 0 else bt A (i - b) := by
  rw [bt_test, bt_test, Nat.mul_comm, Nat.testBit_two_pow_mul]
  by_cases h : i < b
  · simp [h, show ¬ b ≤ i by omega]
  · simp [h, show b ≤ i by omega]
/-- What is shifted down, the sign in front. -/
def sarN (w m A s : Nat) : Nat := 2 ^ (w - m) * (s * (2 ^ m - 1)) + A / 2 ^ m
theorem div_pow_lt {w m A : Nat} (hm : m ≤ w) (ha : A < 2 ^ w) : A / 2 ^ m < 2 ^ (w - m) := by
  rw [Nat.div_lt_iff_lt_mul (Nat.two_pow_pos m), ← Nat.pow_add]
  rwa [show w - m + m = w by omega]
theorem bt_sarN {w m A s i : Nat} (hm : m ≤ w) (ha : A < 2 ^ w) (hs : s < 2) (hi : i < w) : bt (sarN w m A s) i = if i + m < w then bt A (i + m) else s := by
  unfold sarN
  rw [bt_test, Nat.testBit_two_pow_mul_add _ (div_pow_lt hm ha)]
  by_cases h : i + m < w
  · rw [if_pos (by omega), if_pos h, ← bt_test, bt_shr]
  · rw [if_neg (by omega), if_neg h]
    rcases (show s = 0 ∨ s = 1 by omega) with rfl | rfl
    · simp
    · rw [Nat.one_mul, Nat.testBit_two_pow_sub_one]
      simp [show i - (w - m) < m by omega]
theorem sarN_lt {w m A s : Nat} (hm : m ≤ w) (ha : A < 2 ^ w) (hs : s < 2) : sarN w m A s < 2 ^ w := by
  unfold sarN
  have h1 := div_pow_lt hm ha
  have h2 : 2 ^ (w - m) * (s * (2 ^ m - 1)) + 2 ^ (w - m) ≤ 2 ^ w := by
    have e : 2 ^ w = 2 ^ (w - m) * 2 ^ m := by rw [← Nat.pow_add]; congr 1; omega
    rw [e, ← Nat.mul_succ]
    refine Nat.mul_le_mul_left _ ?_
    have hp := Nat.two_pow_pos m
    rcases (show s = 0 ∨ s = 1 by omega) with rfl | rfl <;> omega
  omega
theorem sarN_zero (w m A : Nat) : sarN w m A 0 = A / 2 ^ m := by simp [sarN]
theorem sarN_one (w m A : Nat) (hm : m ≤ w) : sarN w m A 1 = A / 2 ^ m + (2 ^ w - 2 ^ (w - m)) := by
  unfold sarN
  have e : 2 ^ w = 2 ^ (w - m) * 2 ^ m := by rw [← Nat.pow_add]; congr 1; omega
  rw [e, Nat.one_mul, Nat.mul_sub, Nat.mul_one]
  omega

/-! Turning round: the word so far. -/
def rolN (h c A i : Nat) : Nat := A % 2 ^ min i h * 2 ^ c + A % 2 ^ i / 2 ^ h
theorem rolN_step (w c A i : Nat) (hc : c < w) (hi : i < w) : rolN (w - c) c A (i + 1) = rolN (w - c) c A i + bt A i * 2 ^ ((i + c) % w) := by
  unfold rolN
  by_cases h : i < w - c
  · rw [Nat.min_eq_left (by omega), Nat.min_eq_left (by omega), Nat.mod_eq_of_lt (a := i + c) (by omega), mod_step, Nat.add_mul, Nat.mul_assoc, ← Nat.pow_add]
    have h1 : (A % 2 ^ i + bt A i * 2 ^ i) / 2 ^ (w - c) = 0 := by
      rw [← mod_step]
      exact Nat.div_eq_of_lt (Nat.lt_of_lt_of_le (Nat.mod_lt _ (Nat.two_pow_pos _)) (pow_nat_le (by omega)))
    have h2 : A % 2 ^ i / 2 ^ (w - c) = 0 := Nat.div_eq_of_lt (Nat.lt_of_lt_of_le (Nat.mod_lt _ (Nat.two_pow_pos _)) (pow_nat_le (by omega)))
    rw [h1, h2]; omega
  · rw [Nat.min_eq_right (by omega), Nat.min_eq_right (by omega), mod_step]
    have e1 : (i + c) % w = i - (w - c) := by
      rw [show i + c = (i - (w - c)) + w by omega, Nat.add_mod_right, Nat.mod_eq_of_lt (by omega)]
    have e2 : 2 ^ i = 2 ^ (w - c) * 2 ^ (i - (w - c)) := by rw [← Nat.pow_add]; congr 1; omega
    have e3 : A % 2 ^ i + bt A i * 2 ^ i = A % 2 ^ i + 2 ^ (w - c) * (bt A i * 2 ^ (i - (w - c))) := by
      congr 1
      conv => lhs; rw [e2]
      rw [Nat.mul_left_comm]
    rw [e1, e3, Nat.add_mul_div_left _ _ (Nat.two_pow_pos _)]
    omega
theorem rolN_le (w c A i : Nat) (hc : c < w) (hi : i ≤ w) (_ha : A < 2 ^ w) : rolN (w - c) c A i < 2 ^ w + 2 ^ w := by
  unfold rolN
  have h1 : A % 2 ^ min i (w - c) * 2 ^ c < 2 ^ w := by
    have h2 : A % 2 ^ min i (w - c) < 2 ^ (w - c) := Nat.lt_of_lt_of_le (Nat.mod_lt _ (Nat.two_pow_pos _)) (pow_nat_le (Nat.min_le_right _ _))
    have e : 2 ^ w = 2 ^ (w - c) * 2 ^ c := by rw [← Nat.pow_add]; congr 1; omega
    rw [e]
    exact Nat.mul_lt_mul_of_pos_right h2 (Nat.two_pow_pos c)
  have h3 : A % 2 ^ i / 2 ^ (w - c) < 2 ^ w := Nat.lt_of_le_of_lt (Nat.div_le_self _ _) (Nat.lt_of_lt_of_le (Nat.mod_lt _ (Nat.two_pow_pos _)) (pow_nat_le hi))
  omega
theorem rolN_end (w c A : Nat) (hc : c < w) (ha : A < 2 ^ w) : ((rolN (w - c) c A w : Nat) : Int) = rolv (w : Int) (A : Int) (c : Int) := by
  unfold rolN rolv
  have e1 : ((w : Int) - (c : Int)).toNat = w - c := by omega
  have e : 2 ^ w = 2 ^ (w - c) * 2 ^ c := by rw [← Nat.pow_add]; congr 1; omega
  rw [e1, Int.toNat_natCast, Int.toNat_natCast, Nat.min_eq_right (by omega), Nat.mod_eq_of_lt ha, ← Nat.mul_mod_mul_right, ← e]
  push_cast
  rfl
/-- The same out of two shifts and an or. -/
theorem rol_or (w c A : Nat) (hc : c < w) (ha : A < 2 ^ w) : (A * 2 ^ c ||| A / 2 ^ (w - c)) % 2 ^ w = rolN (w - c) c A w := by
  have hy : A / 2 ^ (w - c) < 2 ^ c := by have := div_pow_lt (m := w - c) (by omega) ha; rwa [show w - (w - c) = c by omega] at this
  have hyw : A / 2 ^ (w - c) < 2 ^ w := Nat.lt_of_lt_of_le hy (pow_nat_le (by omega))
  have e : 2 ^ w = 2 ^ (w - c) * 2 ^ c := by rw [← Nat.pow_add]; congr 1; omega
  rw [Nat.or_mod_two_pow, Nat.mod_eq_of_lt hyw]
  unfold rolN
  rw [Nat.min_eq_right (by omega), Nat.mod_eq_of_lt (a := A) ha]
  conv => lhs; lhs; rw [e]
  rw [Nat.mul_mod_mul_right, Nat.mul_comm _ (2 ^ c), ← Nat.two_pow_add_eq_or_of_lt hy]
theorem turn_up (w i c : Nat) (b : Int) (hw : w ≤ 16) (hi : i < w) (r0 : 0 ≤ Int.tmod b w) (r1 : Int.tmod b w < w) (h : (c : Int) = Int.tmod b w) : Int.tmod (wrap64 ((i : Int) + Int.tmod b w)) w = (((i + c) % w : Nat) : Int) := by
  rw [wrap64_id (by omega) (by omega), Int.tmod_eq_emod_of_nonneg (by omega), Int.natCast_emod, Int.natCast_add, h]
theorem turn_down (w i c : Nat) (b : Int) (hw : w ≤ 16) (hi : i < w) (r0 : 0 ≤ Int.tmod b w) (r1 : Int.tmod b w < w) (h : (c : Int) = Int.tmod ((w : Int) - Int.tmod b w) w) : Int.tmod (wrap64 (wrap64 ((i : Int) + w) - Int.tmod b w)) w = (((i + c) % w : Nat) : Int) := by
  rw [wrap64_id (x := (i : Int) + w) (by omega) (by omega), wrap64_id (by omega) (by omega), Int.tmod_eq_emod_of_nonneg (by omega)]
  rw [Int.tmod_eq_emod_of_nonneg (by omega)] at h
  rw [Int.natCast_emod, Int.natCast_add, h, Int.add_emod_emod]
  congr 1; omega
theorem turn_add (w c A i : Nat) (hw : w ≤ 16) (hcw : c < w) (hi : i < w) (hA : A < 2 ^ w) (t : Int) (ht : t = (((i + c) % w : Nat) : Int)) :
    wrap64 (((rolN (w - c) c A i : Nat) : Int) + shl .i64 ((bt A i : Nat) : Int) (IntKind.u64.wrap t)) = ((rolN (w - c) c A (i + 1) : Nat) : Int) := by
  have hle := rolN_le w c A (i + 1) hcw (by omega) hA
  have h65 : 2 ^ w ≤ 2 ^ 16 := pow_nat_le hw
  have hlt : (i + c) % w < w := Nat.mod_lt _ (by omega)
  have hs := rolN_step w c A i hcw (by omega)
  rw [ht, shl_nat _ _ (bt_lt A i) (by omega), ← Int.natCast_add, ← hs]
  exact wrap64_id (by omega) (by omega)
theorem turn_ge (w c i : Nat) (hw : w ≤ 16) (hcw : c < w) (t : Int) (ht : t = (((i + c) % w : Nat) : Int)) : 0 ≤ IntKind.u64.wrap t := by
  have hlt : (i + c) % w < w := Nat.mod_lt _ (by omega)
  rw [ht, u64_nat _ (by omega)]; omega
end LeadWord
