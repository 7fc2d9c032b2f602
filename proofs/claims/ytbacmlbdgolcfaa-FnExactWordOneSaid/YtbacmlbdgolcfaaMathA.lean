import Derived.Laws.BitsLemmas
import Derived.RowKit
namespace LeadWord
open Go Go.RowKit

theorem wrap64_id {x : Int} (h0 : -9223372036854775808 ≤ x) (h1 : x ≤ 9223372036854775807) : wrap64 x = x := by
  unfold wrap64; omega

theorem wrap_i64_id {x : Int} (h0 : -9223372036854775808 ≤ x) (h1 : x ≤ 9223372036854775807) : IntKind.i64.wrap x = x := by
  rw [IntKind.wrap_i64]; omega

theorem wrap_u64_id {x : Int} (h0 : 0 ≤ x) (h1 : x ≤ 18446744073709551615) : IntKind.u64.wrap x = x := by
  simp [IntKind.wrap, IntKind.bits, IntKind.signed]; omega

theorem two_pow_le {i j : Nat} (h : i ≤ j) : (2 : Int) ^ i ≤ 2 ^ j := by
  have := Nat.pow_le_pow_right (n := 2) (by decide) h
  exact_mod_cast this
theorem two_pow_pos (i : Nat) : (0 : Int) < 2 ^ i := by
  have := Nat.two_pow_pos i
  exact_mod_cast this

/-- A mask keeps the rest by a power of two, whatever the sign. -/
theorem and_mask (x : Int) (i : Nat) (hi : i ≤ 62) : Go.bits .and .i64 x (2 ^ i - 1) = x % 2 ^ i := by
  have hpos : 0 < 2 ^ i := Nat.two_pow_pos i
  have hle : 2 ^ i ≤ 2 ^ 62 := Nat.pow_le_pow_right (by decide) hi
  have hc : ((2 : Int) ^ i - 1) = ((2 ^ i - 1 : Nat) : Int) := by
    rw [Int.natCast_sub hpos]; simp
  have e : (BitVec.ofInt 64 x &&& BitVec.ofInt 64 (2 ^ i - 1)).toNat = (x % 2 ^ i).toNat := by
    rw [hc, BitVec.ofInt_natCast, BitVec.toNat_and, BitVec.toNat_ofNat, BitVec.toNat_ofInt]
    rw [Nat.mod_eq_of_lt (a := 2 ^ i - 1) (by omega), Nat.and_two_pow_sub_one_eq_mod]
    have hdvd : (2 : Int) ^ i ∣ 2 ^ 64 := ⟨2 ^ (64 - i), by rw [← Int.pow_add]; congr 1; omega⟩
    have h1 : (x % (2 ^ 64 : Int)) % 2 ^ i = x % 2 ^ i := Int.emod_emod_of_dvd x hdvd
    have h64 : (0 : Int) ≤ x % 2 ^ 64 := Int.emod_nonneg _ (by decide)
    have h2 : (0 : Int) ≤ x % 2 ^ i := Int.emod_nonneg _ (by have := two_pow_pos i; omega)
    have h3 : (((x % ((2 ^ 64 : Nat) : Int)).toNat % 2 ^ i : Nat) : Int) = x % 2 ^ i := by
      rw [Int.natCast_emod]
      have : ((2 ^ 64 : Nat) : Int) = 2 ^ 64 := by simp
      rw [this, Int.toNat_of_nonneg h64]
      push_cast
      exact h1
    omega
  have h2 : (0 : Int) ≤ x % 2 ^ i := Int.emod_nonneg _ (by have := two_pow_pos i; omega)
  have h3 : x % 2 ^ i < 2 ^ i := Int.emod_lt_of_pos _ (two_pow_pos i)
  have h4 : (2 : Int) ^ i ≤ 2 ^ 62 := two_pow_le hi
  show IntKind.i64.wrap ((BitVec.ofInt 64 x &&& BitVec.ofInt 64 (2 ^ i - 1)).toNat : Int) = _
  rw [e, Int.toNat_of_nonneg h2]
  exact wrap_i64_id (by omega) (by omega)

theorem bits_and_nat (a b : Nat) (ha : a < 2 ^ 62) (hb : b < 2 ^ 62) : Go.bits .and .i64 a b = ((a &&& b : Nat) : Int) :=
  (bits_nat .i64 62 (by decide) (fun n h0 h1 => wrap_i64_id (by omega) (by omega)) a b ha hb).1
theorem bits_or_nat (a b : Nat) (ha : a < 2 ^ 62) (hb : b < 2 ^ 62) : Go.bits .or .i64 a b = ((a ||| b : Nat) : Int) :=
  (bits_nat .i64 62 (by decide) (fun n h0 h1 => wrap_i64_id (by omega) (by omega)) a b ha hb).2
theorem bits_xor_nat (a b : Nat) (ha : a < 2 ^ 62) (hb : b < 2 ^ 62) : Go.bits .xor .i64 a b = ((a ^^^ b : Nat) : Int) := by
  have ha' : a % 2 ^ 64 = a := Nat.mod_eq_of_lt (by omega)
  have hb' : b % 2 ^ 64 = b := Nat.mod_eq_of_lt (by omega)
  have hx : a ^^^ b < 2 ^ 62 := Nat.xor_lt_two_pow ha hb
  show IntKind.i64.wrap ((BitVec.ofInt 64 (a : Int) ^^^ BitVec.ofInt 64 (b : Int)).toNat : Int) = _
  rw [BitVec.ofInt_natCast, BitVec.ofInt_natCast, BitVec.toNat_xor, BitVec.toNat_ofNat, BitVec.toNat_ofNat, ha', hb']
  exact wrap_i64_id (by omega) (by omega)

/-! Bits of naturals. -/
def bt (n i : Nat) : Nat := n / 2 ^ i % 2
theorem bt_lt (n i : Nat) : bt n i < 2 := Nat.mod_lt _ (by decide)
theorem bt_test (n i : Nat) : bt n i = (n.testBit i).toNat := by
  rw [Nat.testBit_eq_decide_div_mod_eq]
  unfold bt
  have := Nat.mod_lt (n / 2 ^ i) (show 0 < 2 by decide)
  by_cases h : n / 2 ^ i % 2 = 1
  · simp [h]
  · have : n / 2 ^ i % 2 = 0 := by omega
    simp [this]
theorem mod_step (n i : Nat) : n % 2 ^ (i + 1) = n % 2 ^ i + bt n i * 2 ^ i := by
  rw [Nat.pow_succ, Nat.mod_mul, Nat.mul_comm]; rfl
theorem bt_and (a b i : Nat) : bt (a &&& b) i = bt a i * bt b i := by
  simp only [bt_test, Nat.testBit_and]
  cases a.testBit i <;> cases b.testBit i <;> rfl
theorem bt_or (a b i : Nat) : bt (a ||| b) i = bt a i + bt b i - bt a i * bt b i := by
  simp only [bt_test, Nat.testBit_or]
  cases a.testBit i <;> cases b.testBit i <;> rfl
theorem bt_xor (a b i : Nat) : bt (a ^^^ b) i = (bt a i + bt b i) % 2 := by
  simp only [bt_test, Nat.testBit_xor]
  cases a.testBit i <;> cases b.testBit i <;> rfl
theorem bt_shr (a b i : Nat) : bt (a / 2 ^ b) i = bt a (i + b) := by
  unfold bt
  rw [Nat.div_div_eq_div_mul, ← Nat.pow_add, Nat.add_comm b i]
theorem bt_big {a w i : Nat} (h : a < 2 ^ w) (hi : w ≤ i) : bt a i = 0 := by
  unfold bt
  rw [Nat.div_eq_of_lt (Nat.lt_of_lt_of_le h (Nat.pow_le_pow_right (by decide) hi))]

end LeadWord
