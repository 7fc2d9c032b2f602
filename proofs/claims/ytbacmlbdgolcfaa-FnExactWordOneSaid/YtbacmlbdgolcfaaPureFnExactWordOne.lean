/- What the law 'FnExactWordOne' computes is true for every input; no condition. -/
import Derived.Test.YtbacmlbdgolcfaaMathP
import Derived.Test.YtbacmlbdgolcfaaPFnExactWordOnex2
namespace Go.Proofs.Ytbacmlbdgolcfaa.Pure
open Go Go.RowKit Go.Proofs.Ytbacmlbdgolcfaa.PFnExactWordOne Go.Proofs.YtbacmlbdgolcfaaW Go.Proofs.YtbacmlbdgolcfaaW.PrintWords Go.Proofs.YtbacmlbdgolcfaaW.PrintLast LeadWord
set_option linter.unusedSimpArgs false
set_option linter.unusedVariables false

theorem spec_l1In_eq (a b c : Int) : spec_l1In.f a b c = some (decide (b ≤ a ∧ a ≤ c)) := by
  unfold spec_l1In.f
  by_cases h : a ≥ b
  · rw [if_pos h]; congr 1; simp [show b ≤ a from h]
  · rw [if_neg h]; simp [show ¬ b ≤ a from h]
theorem impl_in_eq (a b c : Int) : impl_in.f a b c = some (decide (b ≤ a ∧ a ≤ c)) := by
  unfold impl_in.f
  by_cases h : b ≤ a
  · rw [if_pos h]; congr 1; simp [h]
  · rw [if_neg h]; simp [h]
theorem spec_l1Width_eq (w : Int) : spec_l1Width.f w = some (decide (1 ≤ w ∧ w ≤ 16)) := by
  unfold spec_l1Width.f; rw [spec_l1In_eq]; rfl
theorem impl_isWidth_eq (w : Int) : impl_isWidth.f w = some (decide (1 ≤ w ∧ w ≤ 16)) := by
  unfold impl_isWidth.f; rw [impl_in_eq]; rfl
theorem impl_mask_eq (w : Int) (h0 : 0 ≤ w) (h1 : w ≤ 62) : impl_mask.f w = some (2 ^ w.toNat - 1) := by
  have h := two_pow_le (i := w.toNat) (j := 62) (by omega)
  have p := two_pow_pos w.toNat
  unfold impl_mask.f; rw [if_pos h0, shl_one w h0 h1, wrap64_id (by omega) (by omega)]
theorem impl_mask_w {w : Int} (h : Wd w) : impl_mask.f w = some (2 ^ w.toNat - 1) := impl_mask_eq w (by have := h.lo; omega) (by have := h.hi; omega)
theorem spec_WordOk_eq (w v : Int) : spec_WordOk.f w v = some (wok w v) := by
  unfold spec_WordOk.f; rw [spec_l1Width_eq]; simp -implicitDefEqProofs only [Option.bind_some]
  by_cases h : 1 ≤ w ∧ w ≤ 16
  · have hd : Wd w := ⟨h.1, h.2⟩
    have := hd.le; have := hd.pos; have := hd.lo
    rw [if_pos (decide_eq_true h), hd.u64, if_pos (by omega), spec_l1In_eq, hd.shl1, wrap64_id (by omega) (by omega)]
    simp -implicitDefEqProofs only [Option.bind_some, wok]
    congr 1
    rw [decide_eq_decide]; omega
  · rw [if_neg (by rw [decide_eq_true_iff]; exact h)]
    congr 1
    symm
    unfold wok
    rw [decide_eq_false_iff_not]; omega
theorem impl_WordOk_eq (w v : Int) : impl_WordOk.f w v = some (wok w v) := by
  unfold impl_WordOk.f; rw [impl_isWidth_eq]; simp -implicitDefEqProofs only [Option.bind_some]
  by_cases h : 1 ≤ w ∧ w ≤ 16
  · have hd : Wd w := ⟨h.1, h.2⟩
    rw [if_pos (decide_eq_true h), impl_mask_w hd]
    simp -implicitDefEqProofs only [Option.bind_some]
    rw [impl_in_eq]
    simp -implicitDefEqProofs only [Option.bind_some, wok]
    congr 1
    rw [decide_eq_decide]; omega
  · rw [if_neg (by rw [decide_eq_true_iff]; exact h)]
    congr 1
    symm
    unfold wok
    rw [decide_eq_false_iff_not]; omega
theorem spec_WordFrom_eq (w n : Int) : spec_WordFrom.f w n = some (wfrom w n) := by
  unfold spec_WordFrom.f wfrom; rw [spec_l1Width_eq]; simp -implicitDefEqProofs only [Option.bind_some]
  by_cases h : 1 ≤ w ∧ w ≤ 16
  · have hd : Wd w := ⟨h.1, h.2⟩
    have := hd.le; have := hd.pos; have := hd.lo
    have hb := tmod_bound n (2 ^ w.toNat) (by omega)
    have hf := tmod_fix n (2 ^ w.toNat) (by omega)
    rw [if_pos (decide_eq_true h), if_pos h, hd.u64, if_pos (by omega), hd.shl1, if_neg (by omega)]
    by_cases hn : Int.tmod n (2 ^ w.toNat) < 0
    · rw [if_pos hn] at hf ⊢; rw [wrap64_id (by omega) (by omega), hf]
    · rw [if_neg hn] at hf ⊢; rw [hf]
  · rw [if_neg (by rw [decide_eq_true_iff]; exact h), if_neg h]
theorem spec_WordFrom_w {w : Int} (h : Wd w) (n : Int) : spec_WordFrom.f w n = some (n % 2 ^ w.toNat) := by
  rw [spec_WordFrom_eq]; unfold wfrom; rw [if_pos ⟨h.lo, h.hi⟩]
theorem spec_l1Yes_eq (b : Bool) : spec_l1Yes.f b = some (yes b) := by
  unfold spec_l1Yes.f yes; cases b <;> rfl
theorem impl_bit_eq (b : Bool) : impl_bit.f b = some (yes b) := by
  unfold impl_bit.f yes; cases b <;> rfl
theorem spec_l1Bit_eq (A i : Nat) (hi : i ≤ 60) : spec_l1Bit.f (A : Int) (i : Int) = some ((LeadWord.bt A i : Nat) : Int) := by
  unfold spec_l1Bit.f
  have hc := nat_two_pow_cast i
  have hz : (0 : Int) ≤ (A : Int) / 2 ^ i := Int.ediv_nonneg (by omega) (by have := two_pow_pos i; omega)
  rw [u64_nat i (by omega), if_pos (by omega), shr_val _ _ (by omega) (by omega), Int.toNat_natCast, Int.tmod_eq_emod_of_nonneg hz]
  unfold LeadWord.bt
  push_cast
  rfl
theorem st1 (a : Nat) (h : a < 1000000) : IntKind.u64.wrap (Go.bits .and .u64 ((a : Int) / 2) 6148914691236517205 + Go.bits .and .u64 (a : Int) 6148914691236517205) = ((p1 a : Nat) : Int) ∧ p1 a ≤ 2 * a := by
  have e : (a : Int) / 2 = ((a / 2 : Nat) : Int) := by push_cast; rfl
  have h1 := and_le_left (a / 2) 6148914691236517205
  have h2 := and_le_left a 6148914691236517205
  unfold p1
  refine ⟨?_, by omega⟩
  rw [e, show (6148914691236517205 : Int) = ((6148914691236517205 : Nat) : Int) from rfl, and_u64 _ _ (by omega) (by decide), and_u64 _ _ (by omega) (by decide), wrap_u64_id (by omega) (by omega)]
  omega
theorem st2 (a : Nat) (h : a < 1000000) : IntKind.u64.wrap (Go.bits .and .u64 ((a : Int) / 4) 3689348814741910323 + Go.bits .and .u64 (a : Int) 3689348814741910323) = ((p2 a : Nat) : Int) ∧ p2 a ≤ 2 * a := by
  have e : (a : Int) / 4 = ((a / 4 : Nat) : Int) := by push_cast; rfl
  have h1 := and_le_left (a / 4) 3689348814741910323
  have h2 := and_le_left a 3689348814741910323
  unfold p2
  refine ⟨?_, by omega⟩
  rw [e, show (3689348814741910323 : Int) = ((3689348814741910323 : Nat) : Int) from rfl, and_u64 _ _ (by omega) (by decide), and_u64 _ _ (by omega) (by decide), wrap_u64_id (by omega) (by omega)]
  omega
theorem st3 (a : Nat) (h : a < 1000000) : Go.bits .and .u64 (IntKind.u64.wrap ((a : Int) / 16 + (a : Int))) 1085102592571150095 = ((p3 a : Nat) : Int) ∧ p3 a ≤ 2 * a := by
  have h1 := and_le_left (a / 16 + a) 1085102592571150095
  have e : (a : Int) / 16 + (a : Int) = ((a / 16 + a : Nat) : Int) := by push_cast; rfl
  unfold p3
  refine ⟨?_, by omega⟩
  rw [e, wrap_u64_id (by omega) (by omega), show (1085102592571150095 : Int) = ((1085102592571150095 : Nat) : Int) from rfl, and_u64 _ _ (by omega) (by decide)]
theorem st4 (a : Nat) (h : a < 1000000) : IntKind.u64.wrap ((a : Int) + (a : Int) / 256) = ((p4 a : Nat) : Int) ∧ p4 a ≤ 2 * a := by
  unfold p4
  refine ⟨?_, by omega⟩
  rw [wrap_u64_id (by omega) (by omega)]; omega
theorem st5 (a : Nat) (h : a < 1000000) : IntKind.u64.wrap ((a : Int) + (a : Int) / 65536) = ((p5 a : Nat) : Int) ∧ p5 a ≤ 2 * a := by
  unfold p5
  refine ⟨?_, by omega⟩
  rw [wrap_u64_id (by omega) (by omega)]; omega
theorem st6 (a : Nat) (h : a < 5000000) : IntKind.u64.wrap ((a : Int) + (a : Int) / 4294967296) = ((p6 a : Nat) : Int) ∧ p6 a ≤ 2 * a := by
  unfold p6
  refine ⟨?_, by omega⟩
  rw [wrap_u64_id (by omega) (by omega)]; omega
theorem st1' (a : Nat) (h : a < 65536) : IntKind.u64.wrap (Go.bits .and .u64 ((a : Int) / 2) 6148914691236517205 + Go.bits .and .u64 (a : Int) 6148914691236517205) = ((p1 a : Nat) : Int) ∧ p1 a ≤ 131072 := by
  have := st1 a (by omega); omega
theorem bits_OnesCount64_eq (a : Nat) (h : a < 65536) : bits_OnesCount64.f (a : Int) = some ((pc a : Nat) : Int) := by
  obtain ⟨e1, b1⟩ := st1 a (by omega)
  obtain ⟨e2, b2⟩ := st2 (p1 a) (by omega)
  obtain ⟨e3, b3⟩ := st3 (p2 (p1 a)) (by omega)
  have b3' : p3 (p2 (p1 a)) < 1000000 := by omega
  obtain ⟨e4, b4⟩ := st4 (p3 (p2 (p1 a))) b3'
  have big : p4 (p3 (p2 (p1 a))) < 2000000 := by omega
  have e5 : IntKind.u64.wrap (((p4 (p3 (p2 (p1 a))) : Nat) : Int) + ((p4 (p3 (p2 (p1 a))) : Nat) : Int) / 65536) = ((p5 (p4 (p3 (p2 (p1 a)))) : Nat) : Int) := by
    unfold p5; rw [wrap_u64_id (by omega) (by omega)]; omega
  have b5 : p5 (p4 (p3 (p2 (p1 a)))) < 5000000 := by unfold p5; omega
  obtain ⟨e6, b6⟩ := st6 (p5 (p4 (p3 (p2 (p1 a))))) b5
  unfold bits_OnesCount64.f
  rw [e1, e2]
  have e3' : Go.bits .and .u64 (IntKind.u64.wrap (((p2 (p1 a) : Nat) : Int) / 16 + ((p2 (p1 a) : Nat) : Int))) 1085102592571150095 = ((p3 (p2 (p1 a)) : Nat) : Int) := e3
  rw [e3', e4, e5, e6, wrap64_id (by omega) (by omega), show (127 : Int) = ((127 : Nat) : Int) from rfl, bits_and_nat _ _ (by omega) (by decide)]
  rfl
theorem bits_OnesCount_eq (a : Nat) (h : a < 65536) : bits_OnesCount.f (a : Int) = some ((pc a : Nat) : Int) := by
  unfold bits_OnesCount.f; rw [bits_OnesCount64_eq a h]; rfl
theorem spec_l1Ones_l0 (w A : Nat) (hw : w ≤ 16) (d : Nat) : ∀ (i k : Nat), i + d = w → d < k → spec_l1Ones.l0 k (w : Int) (A : Int) ((ones i A : Nat) : Int) (i : Int) = some ((ones w A : Nat) : Int) := by
  induction d with
  | zero =>
    intro i k hd hk
    obtain ⟨k, rfl⟩ : ∃ m, k = m + 1 := ⟨k - 1, by omega⟩
    obtain rfl : i = w := by omega
    simp -implicitDefEqProofs only [spec_l1Ones.l0]
    rw [if_neg (by omega)]
  | succ d ih =>
    intro i k hd hk
    obtain ⟨k, rfl⟩ : ∃ m, k = m + 1 := ⟨k - 1, by omega⟩
    have step := ih (i + 1) k (by omega) (by omega)
    have h1 := ones_le (i + 1) A
    have h2 := ones_succ i A
    simp -implicitDefEqProofs only [spec_l1Ones.l0]
    rw [if_pos (by omega), spec_l1Bit_eq A i (by omega)]
    simp -implicitDefEqProofs only [Option.bind_some]
    rw [inc i (by omega), ← Int.natCast_add, ← h2, wrap64_id (by omega) (by omega)]
    exact step
theorem spec_l1Ones_eq (w A : Nat) (hw : w ≤ 16) (k : Nat) (hk : 20 ≤ k) : spec_l1Ones.f k (w : Int) (A : Int) = some ((ones w A : Nat) : Int) :=
  spec_l1Ones_l0 w A hw w 0 k (by omega) (by omega)
def wone (kind w a : Int) : Int × Int × Bool :=
  if 1 ≤ kind ∧ kind ≤ 5 ∧ wok w a = true then (if kind = 1 then (2 ^ w.toNat - 1 - a, w, true) else if kind = 2 then (-a % 2 ^ w.toNat, w, true) else if kind = 3 then (yes (decide (a ≠ 0)), 1, true) else if kind = 4 then (yes (decide (a = 2 ^ w.toNat - 1)), 1, true) else (((ones 16 a.toNat % 2 : Nat) : Int), 1, true)) else (0, 0, false)
theorem tmod2_nat (n : Nat) : Int.tmod (n : Int) 2 = ((n % 2 : Nat) : Int) := by
  rw [Int.tmod_eq_emod_of_nonneg (by omega)]; push_cast; rfl
theorem spec_WordOne_eq (kind w a : Int) (k : Nat) (hk : 20 ≤ k) : spec_WordOne.f k kind w a = some (wone kind w a) := by
  unfold spec_WordOne.f
  rw [spec_WordOk_eq]
  simp -implicitDefEqProofs only [Option.bind_some]
  by_cases h : wok w a = true
  · have ha := wok_iff.1 h
    have hd := ha.wd
    have hw1 := hd.lo; have hw16 := hd.hi; have hle := hd.le; have hp := hd.pos; have ht := ha.top; have ha0 := ha.lo; have hah := ha.hi
    rw [if_pos h, hd.u64, if_pos (show 0 ≤ w by omega), hd.shl1, wrap64_id (x := (2 : Int) ^ w.toNat - 1) (by omega) (by omega), wrap64_id (x := (2 : Int) ^ w.toNat - 1 - a) (by omega) (by omega), wrap64_id (x := -a) (by omega) (by omega), spec_WordFrom_w hd, spec_l1Yes_eq]
    simp -implicitDefEqProofs only [Option.bind_some]
    unfold wone
    by_cases hkd : 1 ≤ kind ∧ kind ≤ 5
    · rw [if_pos (show 1 ≤ kind ∧ kind ≤ 5 ∧ wok w a = true from ⟨hkd.1, hkd.2, h⟩)]
      have hones : ∀ A W : Nat, w = W → a = A → A < 2 ^ W → W ≤ 16 → spec_l1Ones.f k w a = some ((ones W A : Nat) : Int) := by
        intro A W e1 e2 _ hW
        rw [e1, e2]; exact spec_l1Ones_eq W A hW k hk
      obtain ⟨W, A, hW, hA, g1, g2, g3⟩ := word_nat ha
      rw [hones A W hW hA g3 g2]
      simp -implicitDefEqProofs only [Option.bind_some]
      rw [spec_l1Yes_eq]
      simp -implicitDefEqProofs only [Option.bind_some]
      by_cases k1 : kind = 1
      · rw [if_pos k1, if_pos k1]
      · rw [if_neg k1, if_neg k1]
        by_cases k2 : kind = 2
        · rw [if_pos k2, if_pos k2]
        · rw [if_neg k2, if_neg k2]
          by_cases k3 : kind = 3
          · rw [if_pos k3, if_pos k3]
            congr 3; rw [decide_eq_decide]; omega
          · rw [if_neg k3, if_neg k3]
            by_cases k4 : kind = 4
            · rw [if_pos k4, if_pos k4]
              congr 3
              have hall := ones_all W A
              rw [Nat.mod_eq_of_lt g3] at hall
              have hc := nat_two_pow_cast W
              have hWt : w.toNat = W := by omega
              rw [show (((ones W A : Nat) : Int) == w) = decide (((ones W A : Nat) : Int) = w) from rfl, decide_eq_decide, hWt, ← hc, hW, hA]
              have := Nat.two_pow_pos W
              constructor
              · intro q; have := hall.1 (by omega); omega
              · intro q; have := hall.2 (by omega); omega
            · rw [if_neg k4, if_neg k4, if_pos (show kind = 5 by omega), tmod2_nat]
              have ho := ones_big g3 (16 - W)
              rw [show W + (16 - W) = 16 by omega] at ho
              rw [hA, Int.toNat_natCast, ho]
    · rw [if_neg (show ¬ (1 ≤ kind ∧ kind ≤ 5 ∧ wok w a = true) from fun c => hkd ⟨c.1, c.2.1⟩), if_neg (by omega), if_neg (by omega), if_neg (by omega), if_neg (by omega), if_neg (by omega)]
  · unfold wone
    rw [if_neg h, if_neg (show ¬ (1 ≤ kind ∧ kind ≤ 5 ∧ wok w a = true) from fun c => h c.2.2)]
theorem impl_WordOne_eq (kind w a : Int) : impl_WordOne.f kind w a = some (wone kind w a) := by
  unfold impl_WordOne.f wone
  rw [impl_in_eq, impl_WordOk_eq]
  simp -implicitDefEqProofs only [Option.bind_some]
  by_cases hkd : 1 ≤ kind ∧ kind ≤ 5
  · rw [if_pos (decide_eq_true hkd)]
    by_cases h : wok w a = true
    · have ha := wok_iff.1 h
      have hd := ha.wd
      have hw1 := hd.lo; have hw16 := hd.hi; have hle := hd.le; have hp := hd.pos; have ht := ha.top; have ha0 := ha.lo; have hah := ha.hi
      rw [if_pos h, if_pos ⟨hkd.1, hkd.2, h⟩]
      obtain ⟨A, hA⟩ := Int.eq_ofNat_of_zero_le ha0
      have hcnt : bits_OnesCount.f (IntKind.u64.wrap a) = some ((pc A : Nat) : Int) := by
        rw [wrap_u64_id (by omega) (by omega), hA]; exact bits_OnesCount_eq A (by omega)
      have hpar := pc_parity A (by omega)
      unfold impl_one.f
      rw [impl_mask_w hd, hcnt, impl_bit_eq]
      simp -implicitDefEqProofs only [Option.bind_some]
      rw [impl_bit_eq, wrap64_id (x := (2 : Int) ^ w.toNat - 1 - a) (by omega) (by omega), wrap64_id (x := -a) (by omega) (by omega), and_mask _ _ (by omega)]
      simp -implicitDefEqProofs only [Option.bind_some]
      by_cases k1 : kind = 1
      · rw [if_pos k1, if_pos k1]; rfl
      · rw [if_neg k1, if_neg k1]
        by_cases k2 : kind = 2
        · rw [if_pos k2, if_pos k2]; rfl
        · rw [if_neg k2, if_neg k2]
          by_cases k3 : kind = 3
          · rw [if_pos k3, if_pos k3]
            simp -implicitDefEqProofs only [Option.bind_some]
            congr 3
            rw [bne, show (a == 0) = decide (a = 0) from rfl, ← decide_not]
          · rw [if_neg k3, if_neg k3]
            by_cases k4 : kind = 4
            · rw [if_pos k4, if_pos k4]; rfl
            · rw [if_neg k4, if_neg k4, tmod2_nat, hpar, hA, Int.toNat_natCast]; rfl
    · rw [if_neg h, if_neg (fun c => h c.2.2)]
  · rw [if_neg (by rw [decide_eq_true_iff]; exact hkd), if_neg (fun c => hkd ⟨c.1, c.2.1⟩)]
theorem FnExactWordOne : laws_FnExactWordOne.Pure := by
  intro a0 a1 a2 _ _ _
  refine ⟨20, ?_⟩
  unfold laws_FnExactWordOne.f; rw [spec_WordOne_eq _ _ _ 20 (by omega), impl_WordOne_eq]; simp

end Go.Proofs.Ytbacmlbdgolcfaa.Pure
