import Derived.Test.YtbacmlbdgolcfaaMathC
namespace LeadWord
open Go Go.RowKit
def p1 (a : Nat) : Nat := (a / 2 &&& 6148914691236517205) + (a &&& 6148914691236517205)
def p2 (a : Nat) : Nat := (a / 4 &&& 3689348814741910323) + (a &&& 3689348814741910323)
def p3 (a : Nat) : Nat := (a / 16 + a) &&& 1085102592571150095
def p4 (a : Nat) : Nat := a + a / 256
def p5 (a : Nat) : Nat := a + a / 65536
def p6 (a : Nat) : Nat := a + a / 4294967296
def pc (a : Nat) : Nat := p6 (p5 (p4 (p3 (p2 (p1 a))))) &&& 127
/-- How many bits are 1, the lowest n. -/
def ones : Nat → Nat → Nat
  | 0, _ => 0
  | n + 1, a => a % 2 + ones n (a / 2)
def same (a : Nat) : Bool := pc a % 2 == ones 16 a % 2
def allTo : Nat → (Nat → Bool) → Bool
  | 0, _ => true
  | n + 1, f => f n && allTo n f
theorem allTo_at {f : Nat → Bool} {n : Nat} (h : allTo n f = true) : ∀ i, i < n → f i = true := by
  induction n with
  | zero => intro i hi; omega
  | succ n ih =>
    intro i hi
    simp only [allTo, Bool.and_eq_true] at h
    rcases Nat.lt_or_ge i n with g | g
    · exact ih h.2 i g
    · obtain rfl : i = n := by omega
      exact h.1
theorem same_all : allTo 256 (fun h => allTo 256 fun l => same (256 * h + l)) = true := by decide +kernel
theorem pc_parity (a : Nat) (h : a < 65536) : pc a % 2 = ones 16 a % 2 := by
  have h1 := allTo_at (allTo_at same_all (a / 256) (by omega)) (a % 256) (by omega)
  rw [show 256 * (a / 256) + a % 256 = a by omega] at h1
  exact eq_of_beq h1
theorem ones_succ (n : Nat) : ∀ a, ones (n + 1) a = ones n a + bt a n := by
  induction n with
  | zero => intro a; simp [ones, bt]
  | succ n ih =>
    intro a
    have := ih (a / 2)
    rw [ones, this, ones]
    have e : bt (a / 2) n = bt a (n + 1) := by
      unfold bt; rw [Nat.div_div_eq_div_mul, ← Nat.pow_succ']
    omega
theorem ones_le (n : Nat) : ∀ a, ones n a ≤ n := by
  induction n with
  | zero => intro a; simp [ones]
  | succ n ih => intro a; have := ih (a / 2); have := Nat.mod_lt a (show 0 < 2 by decide); rw [ones]; omega
theorem ones_big {w : Nat} {a : Nat} (h : a < 2 ^ w) : ∀ d, ones (w + d) a = ones w a := by
  intro d
  induction d with
  | zero => rfl
  | succ d ih => rw [show w + (d + 1) = (w + d) + 1 by omega, ones_succ, ih, bt_big h (by omega)]; rfl
theorem ones_all (n : Nat) : ∀ a, ones n a = n ↔ a % 2 ^ n = 2 ^ n - 1 := by
  induction n with
  | zero => intro a; simp [ones, Nat.mod_one]
  | succ n ih =>
    intro a
    have h1 := ones_le n a
    have h2 := bt_lt a n
    have h3 := Nat.mod_lt a (Nat.two_pow_pos n)
    rw [ones_succ, mod_step, Nat.pow_succ]
    have h4 := ih a
    have hp := Nat.two_pow_pos n
    generalize a % 2 ^ n = r at *
    generalize 2 ^ n = T at *
    rcases (show bt a n = 0 ∨ bt a n = 1 by omega) with h | h <;> rw [h]
    · constructor
      · omega
      · intro g; omega
    · constructor
      · intro g; have := h4.1 (by omega); omega
      · intro g; have := h4.2 (by omega); omega
theorem and_u64 (a b : Nat) (ha : a < 2 ^ 64) (hb : b < 2 ^ 64) : Go.bits .and .u64 (a : Int) (b : Int) = ((a &&& b : Nat) : Int) := by
  show IntKind.u64.wrap ((BitVec.ofInt 64 (a : Int) &&& BitVec.ofInt 64 (b : Int)).toNat : Int) = _
  rw [BitVec.ofInt_natCast, BitVec.ofInt_natCast, BitVec.toNat_and, BitVec.toNat_ofNat, BitVec.toNat_ofNat, Nat.mod_eq_of_lt ha, Nat.mod_eq_of_lt hb]
  have := Nat.and_lt_two_pow (x := a) (y := b) (n := 64) hb
  exact wrap_u64_id (by omega) (by omega)
theorem and_le_left (a b : Nat) : a &&& b ≤ a := Nat.and_le_left
end LeadWord
