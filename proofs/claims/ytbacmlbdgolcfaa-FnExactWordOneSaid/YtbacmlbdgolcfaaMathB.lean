import Derived.Test.YtbacmlbdgolcfaaMathA
import Derived.Test.YtbacmlbdgolcfaaWMore
namespace LeadWord
open Go Go.RowKit Go.Proofs.YtbacmlbdgolcfaaW.PrintWords

theorem shl_val (x y : Int) (h0 : 0 ≤ y) (h1 : y ≤ 62) (l : -9223372036854775808 ≤ x * 2 ^ y.toNat) (u : x * 2 ^ y.toNat ≤ 9223372036854775807) : shl .i64 x y = x * 2 ^ y.toNat := by
  unfold shl
  have : min y.toNat IntKind.i64.bits = y.toNat := by simp [IntKind.bits]; omega
  rw [this]
  exact wrap_i64_id l u
theorem shl_one (y : Int) (h0 : 0 ≤ y) (h1 : y ≤ 62) : shl .i64 1 y = 2 ^ y.toNat := by
  have h := two_pow_le (i := y.toNat) (j := 62) (by omega)
  have p := two_pow_pos y.toNat
  rw [shl_val 1 y h0 h1 (by omega) (by omega)]; omega
theorem shr_val (x y : Int) (h0 : 0 ≤ y) (h1 : y ≤ 64) : shr .i64 x y = x / 2 ^ y.toNat := by
  unfold shr
  have : min y.toNat IntKind.i64.bits = y.toNat := by simp [IntKind.bits]; omega
  rw [this]

/-- A width's facts. -/
structure Wd (w : Int) : Prop where
  lo : 1 ≤ w
  hi : w ≤ 16
theorem Wd.pos {w : Int} (_h : Wd w) : (0 : Int) < 2 ^ w.toNat := two_pow_pos _
theorem Wd.le {w : Int} (h : Wd w) : (2 : Int) ^ w.toNat ≤ 65536 := by
  have := two_pow_le (i := w.toNat) (j := 16) (by have := h.hi; omega)
  omega
theorem Wd.ge {w : Int} (h : Wd w) : (2 : Int) ≤ 2 ^ w.toNat := by
  have := two_pow_le (i := 1) (j := w.toNat) (by have := h.lo; omega)
  omega
theorem Wd.half {w : Int} (h : Wd w) : (2 : Int) ^ w.toNat = 2 * 2 ^ (w - 1).toNat := by
  have e : w.toNat = (w - 1).toNat + 1 := by have := h.lo; omega
  rw [e, Int.pow_succ, Int.mul_comm]
theorem Wd.hpos {w : Int} (_h : Wd w) : (1 : Int) ≤ 2 ^ (w - 1).toNat := by have := two_pow_pos (w - 1).toNat; omega
theorem Wd.shl1 {w : Int} (h : Wd w) : shl .i64 1 w = 2 ^ w.toNat := shl_one w (by have := h.lo; omega) (by have := h.hi; omega)
theorem Wd.shlh {w : Int} (h : Wd w) : shl .i64 1 (w - 1) = 2 ^ (w - 1).toNat := shl_one _ (by have := h.lo; omega) (by have := h.hi; omega)
theorem Wd.u64 {w : Int} (h : Wd w) : IntKind.u64.wrap w = w := wrap_u64_id (by have := h.lo; omega) (by have := h.hi; omega)
theorem Wd.pred {w : Int} (h : Wd w) : wrap64 (w - 1) = w - 1 := wrap64_id (by have := h.lo; omega) (by have := h.hi; omega)

/-- A word of a width. -/
def wok (w v : Int) : Bool := decide (1 ≤ w ∧ w ≤ 16 ∧ 0 ≤ v ∧ v < 2 ^ w.toNat)
structure Wo (w v : Int) : Prop where
  wd : Wd w
  lo : 0 ≤ v
  hi : v < 2 ^ w.toNat
theorem wok_iff {w v : Int} : wok w v = true ↔ Wo w v := by
  unfold wok
  rw [decide_eq_true_iff]
  exact ⟨fun h => ⟨⟨h.1, h.2.1⟩, h.2.2.1, h.2.2.2⟩, fun h => ⟨h.wd.lo, h.wd.hi, h.lo, h.hi⟩⟩
theorem Wo.is {w v : Int} (h : Wo w v) : wok w v = true := wok_iff.2 h
theorem Wo.top {w v : Int} (h : Wo w v) : v < 65536 := by have := h.wd.le; have := h.hi; omega

def sg (w v : Int) : Int := if v < 2 ^ (w - 1).toNat then v else v - 2 ^ w.toNat
theorem sg_bounds {w v : Int} (h : Wo w v) : -2 ^ (w - 1).toNat ≤ sg w v ∧ sg w v < 2 ^ (w - 1).toNat := by
  have := h.lo; have := h.hi; have := h.wd.half
  unfold sg; split <;> omega
theorem sg_mod {w v : Int} (h : Wo w v) : sg w v % 2 ^ w.toNat = v := by
  unfold sg
  split
  · exact Int.emod_eq_of_lt h.lo h.hi
  · rw [Int.sub_emod_right]
    exact Int.emod_eq_of_lt h.lo h.hi
theorem sg_small {w v : Int} (h : Wo w v) : -32768 ≤ sg w v ∧ sg w v ≤ 32767 := by
  have := sg_bounds h; have := h.wd.half; have := h.wd.le; omega
theorem sg_inj {w x y : Int} (hx : Wo w x) (hy : Wo w y) (e : sg w x = sg w y) : x = y := by
  rw [← sg_mod hx, ← sg_mod hy, e]
theorem sg_zero {w v : Int} (h : Wo w v) : sg w v = 0 ↔ v = 0 := by
  have := h.lo; have := h.hi; have := h.wd.half; have := h.wd.hpos
  unfold sg; split <;> omega
/-- What is in the signed range is the sign of its word. -/
theorem sg_of_mod {w n : Int} (h : Wd w) (h0 : -2 ^ (w - 1).toNat ≤ n) (h1 : n < 2 ^ (w - 1).toNat) : sg w (n % 2 ^ w.toNat) = n := by
  have e := h.half
  have p := h.pos
  unfold sg
  by_cases hn : 0 ≤ n
  · have : n % 2 ^ w.toNat = n := Int.emod_eq_of_lt hn (by omega)
    rw [this, if_pos h1]
  · have : n % 2 ^ w.toNat = n + 2 ^ w.toNat := by
      rw [← Int.add_emod_right]
      exact Int.emod_eq_of_lt (by omega) (by omega)
    rw [this, if_neg (by omega)]; omega
theorem mod_wo {w : Int} (h : Wd w) (n : Int) : Wo w (n % 2 ^ w.toNat) :=
  ⟨h, Int.emod_nonneg _ (by have := h.pos; omega), Int.emod_lt_of_pos _ h.pos⟩
/-- Go's rest, made positive, is the rest. -/
theorem tmod_fix (n T : Int) (h : 0 < T) : (if Int.tmod n T < 0 then Int.tmod n T + T else Int.tmod n T) = n % T := by
  by_cases hn : 0 ≤ n
  · rw [Int.tmod_eq_emod_of_nonneg hn, if_neg]
    have := Int.emod_nonneg n (show T ≠ 0 by omega); omega
  · have h1 := Int.tmod_eq_emod (a := n) (b := T)
    have h2 := Int.emod_nonneg n (show T ≠ 0 by omega)
    have h3 := Int.emod_lt_of_pos n h
    have habs : (T.natAbs : Int) = T := by omega
    by_cases hd : T ∣ n
    · have hz : n % T = 0 := Int.emod_eq_zero_of_dvd hd
      rw [if_pos (show 0 ≤ n ∨ T ∣ n from .inr hd)] at h1
      rw [h1, hz]; simp
    · rw [if_neg (show ¬ (0 ≤ n ∨ T ∣ n) by rintro (h | h) <;> contradiction), habs] at h1
      rw [h1, if_pos (by omega)]; omega
theorem tmod_bound (n T : Int) (h : 0 < T) : -T < Int.tmod n T ∧ Int.tmod n T < T := ⟨Int.lt_tmod_of_pos n h, Int.tmod_lt_of_pos n h⟩

def wsg (w v : Int) : Int := if wok w v = true then sg w v else 0
def wfrom (w n : Int) : Int := if 1 ≤ w ∧ w ≤ 16 then n % 2 ^ w.toNat else 0
def wjoin (w a u b : Int) : Int × Int × Bool := if wok w a = true ∧ wok u b = true ∧ w + u ≤ 16 then (a * 2 ^ u.toNat + b, w + u, true) else (0, 0, false)
def wslice (w a hi lo : Int) : Int × Int × Bool := if wok w a = true ∧ 0 ≤ lo ∧ lo ≤ hi ∧ hi < w then (a / 2 ^ lo.toNat % 2 ^ (hi - lo + 1).toNat, hi - lo + 1, true) else (0, 0, false)
def wgrow (w a more : Int) (s : Bool) : Int × Int × Bool := if wok w a = true ∧ 0 ≤ more ∧ w + more ≤ 16 then (if s = true then sg w a % 2 ^ (w + more).toNat else a, w + more, true) else (0, 0, false)

/-! Two words. -/
def T2 (w : Int) : Int := 2 ^ w.toNat
def sdv (w a b : Int) : Int := if sg w b = 0 then (if sg w a < 0 then 1 else 2 ^ w.toNat - 1) else Int.tdiv (sg w a) (sg w b) % 2 ^ w.toNat
def srm (w a b : Int) : Int := if sg w b = 0 then a else Int.tmod (sg w a) (sg w b) % 2 ^ w.toNat
def lw (w b : Int) : Int := if w < b then w else b
def rolv (w a c : Int) : Int := a * 2 ^ c.toNat % 2 ^ w.toNat + a / 2 ^ (w - c).toNat
def rolc (w b : Int) : Int := Int.tmod b w
def rorc (w b : Int) : Int := Int.tmod (w - Int.tmod b w) w
def op2 (kind w a b : Int) : Int :=
  if kind = 6 then ((a.toNat &&& b.toNat : Nat) : Int) else if kind = 7 then ((a.toNat ||| b.toNat : Nat) : Int) else if kind = 8 then ((a.toNat ^^^ b.toNat : Nat) : Int)
  else if kind = 9 then (a + b) % 2 ^ w.toNat else if kind = 10 then (a - b) % 2 ^ w.toNat else if kind = 11 then a * b % 2 ^ w.toNat
  else if kind = 12 then (if b = 0 then 2 ^ w.toNat - 1 else a / b) else if kind = 13 then (if b = 0 then a else a % b)
  else if kind = 14 then sdv w a b else if kind = 15 then srm w a b
  else if kind = 16 then a * 2 ^ (lw w b).toNat % 2 ^ w.toNat else if kind = 17 then a / 2 ^ (lw w b).toNat else if kind = 18 then sg w a / 2 ^ (lw w b).toNat % 2 ^ w.toNat
  else if kind = 19 then rolv w a (rolc w b) else rolv w a (rorc w b)
def says (kind w a b : Int) : Bool :=
  if kind = 21 then decide (a = b) else if kind = 22 then decide (a < b) else if kind = 23 then decide (sg w a < sg w b) else if kind = 24 then decide (a ≤ b) else if kind = 25 then decide (sg w a ≤ sg w b)
  else if kind = 26 then decide (2 ^ w.toNat ≤ a + b) else if kind = 27 then !decide (-2 ^ (w - 1).toNat ≤ sg w a + sg w b ∧ sg w a + sg w b < 2 ^ (w - 1).toNat) else decide (2 ^ w.toNat ≤ a * b)
def yes (b : Bool) : Int := if b = true then 1 else 0
def wtwo (kind w a b : Int) : Int × Int × Bool :=
  if 6 ≤ kind ∧ kind ≤ 28 ∧ wok w a = true ∧ wok w b = true then (if kind ≤ 20 then (op2 kind w a b, w, true) else (yes (says kind w a b), 1, true)) else (0, 0, false)
theorem two_cases {kind : Int} (h0 : 6 ≤ kind) (h1 : kind ≤ 28) : kind = 6 ∨ kind = 7 ∨ kind = 8 ∨ kind = 9 ∨ kind = 10 ∨ kind = 11 ∨ kind = 12 ∨ kind = 13 ∨ kind = 14 ∨ kind = 15 ∨ kind = 16 ∨ kind = 17 ∨ kind = 18 ∨ kind = 19 ∨ kind = 20 ∨ kind = 21 ∨ kind = 22 ∨ kind = 23 ∨ kind = 24 ∨ kind = 25 ∨ kind = 26 ∨ kind = 27 ∨ kind = 28 := by omega

theorem rolc_lt {w b : Int} (h : Wd w) (hb : 0 ≤ b) : 0 ≤ rolc w b ∧ rolc w b < w := by
  unfold rolc
  exact ⟨Int.tmod_nonneg _ hb, Int.tmod_lt_of_pos _ (by have := h.lo; omega)⟩
theorem rorc_lt {w b : Int} (h : Wd w) (hb : 0 ≤ b) : 0 ≤ rorc w b ∧ rorc w b < w := by
  have := rolc_lt h hb
  unfold rolc at this; unfold rorc
  exact ⟨Int.tmod_nonneg _ (by omega), Int.tmod_lt_of_pos _ (by have := h.lo; omega)⟩

/-- Rounds of bits: the word so far. -/
theorem nat_two_pow_cast (n : Nat) : (((2 ^ n : Nat)) : Int) = 2 ^ n := by simp
theorem sar_nat (w m a : Nat) (hm : m ≤ w) (ha : a < 2 ^ w) : (((a : Int) - 2 ^ w) / 2 ^ m) % 2 ^ w = ((a / 2 ^ m + (2 ^ w - 2 ^ (w - m)) : Nat) : Int) := by
  have e : (2 : Int) ^ w = 2 ^ m * 2 ^ (w - m) := by rw [← Int.pow_add]; congr 1; omega
  have e1 : ((a : Int) - 2 ^ w) / 2 ^ m = (a : Int) / 2 ^ m - 2 ^ (w - m) := by
    rw [e]
    have := Int.sub_mul_ediv_left (a : Int) (2 ^ (w - m)) (show (2 : Int) ^ m ≠ 0 by have := two_pow_pos m; omega)
    rw [← this]
  have hy : a / 2 ^ m < 2 ^ (w - m) := by
    rw [Nat.div_lt_iff_lt_mul (Nat.two_pow_pos m), ← Nat.pow_add]
    rwa [show w - m + m = w by omega]
  have hle : 2 ^ (w - m) ≤ 2 ^ w := Nat.pow_le_pow_right (by decide) (by omega)
  have c1 : ((a / 2 ^ m : Nat) : Int) = (a : Int) / 2 ^ m := by rw [Int.natCast_ediv, nat_two_pow_cast]
  rw [e1, ← c1, ← Int.add_emod_right]
  have c2 := nat_two_pow_cast (w - m)
  have c3 := nat_two_pow_cast w
  rw [← c2, ← c3]
  clear e e1 c1 c2 c3
  generalize 2 ^ (w - m) = h at *
  generalize 2 ^ w = T at *
  generalize a / 2 ^ m = q at *
  rw [Int.emod_eq_of_lt (by omega) (by omega)]
  omega
end LeadWord
