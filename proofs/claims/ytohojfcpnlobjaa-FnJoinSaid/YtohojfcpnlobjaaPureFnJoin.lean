/- What the law 'FnJoin' computes is true for every input; no condition. -/
import Derived.Test.YtohojfcpnlobjaaMathC
import Derived.Test.YtohojfcpnlobjaaPFnJoinx4
namespace Go.Proofs.Ytohojfcpnlobjaa.Pure
open Go Go.RowKit Go.Proofs.Ytohojfcpnlobjaa.PFnJoin Go.Proofs.YtohojfcpnlobjaaW Go.Proofs.YtohojfcpnlobjaaW.PrintWords Go.Proofs.YtohojfcpnlobjaaW.PrintLast LeadWord
set_option linter.unusedSimpArgs false
set_option linter.unusedVariables false

theorem spec_l1In_eq (a b c : Int) : spec_l1In.f a b c = some (decide (b ≤ a ∧ a ≤ c)) := by
  unfold spec_l1In.f
  by_cases h : a ≥ b
  · rw [if_pos h]; congr 1; simp [show b ≤ a from h]
  · rw [if_neg h]; simp [show ¬ b ≤ a from h]
theorem impl_in_eq (a b c : Int) : impl_in.f a b c = some (decide (b ≤ a ∧ a ≤ c)) := by
  unfold impl_in.f
  by_cases h : b ≤ a
  · rw [if_pos h]; congr 1; simp [h]
  · rw [if_neg h]; simp [h]
theorem spec_l1Width_eq (w : Int) : spec_l1Width.f w = some (decide (1 ≤ w ∧ w ≤ 16)) := by
  unfold spec_l1Width.f; rw [spec_l1In_eq]; rfl
theorem impl_isWidth_eq (w : Int) : impl_isWidth.f w = some (decide (1 ≤ w ∧ w ≤ 16)) := by
  unfold impl_isWidth.f; rw [impl_in_eq]; rfl
theorem impl_mask_eq (w : Int) (h0 : 0 ≤ w) (h1 : w ≤ 62) : impl_mask.f w = some (2 ^ w.toNat - 1) := by
  have h := two_pow_le (i := w.toNat) (j := 62) (by omega)
  have p := two_pow_pos w.toNat
  unfold impl_mask.f; rw [if_pos h0, shl_one w h0 h1, wrap64_id (by omega) (by omega)]
theorem impl_mask_w {w : Int} (h : Wd w) : impl_mask.f w = some (2 ^ w.toNat - 1) := impl_mask_eq w (by have := h.lo; omega) (by have := h.hi; omega)
theorem spec_WordOk_eq (w v : Int) : spec_WordOk.f w v = some (wok w v) := by
  unfold spec_WordOk.f; rw [spec_l1Width_eq]; simp -implicitDefEqProofs only [Option.bind_some]
  by_cases h : 1 ≤ w ∧ w ≤ 16
  · have hd : Wd w := ⟨h.1, h.2⟩
    have := hd.le; have := hd.pos; have := hd.lo
    rw [if_pos (decide_eq_true h), hd.u64, if_pos (by omega), spec_l1In_eq, hd.shl1, wrap64_id (by omega) (by omega)]
    simp -implicitDefEqProofs only [Option.bind_some, wok]
    congr 1
    rw [decide_eq_decide]; omega
  · rw [if_neg (by rw [decide_eq_true_iff]; exact h)]
    congr 1
    symm
    unfold wok
    rw [decide_eq_false_iff_not]; omega
theorem impl_WordOk_eq (w v : Int) : impl_WordOk.f w v = some (wok w v) := by
  unfold impl_WordOk.f; rw [impl_isWidth_eq]; simp -implicitDefEqProofs only [Option.bind_some]
  by_cases h : 1 ≤ w ∧ w ≤ 16
  · have hd : Wd w := ⟨h.1, h.2⟩
    rw [if_pos (decide_eq_true h), impl_mask_w hd]
    simp -implicitDefEqProofs only [Option.bind_some]
    rw [impl_in_eq]
    simp -implicitDefEqProofs only [Option.bind_some, wok]
    congr 1
    rw [decide_eq_decide]; omega
  · rw [if_neg (by rw [decide_eq_true_iff]; exact h)]
    congr 1
    symm
    unfold wok
    rw [decide_eq_false_iff_not]; omega
theorem spec_WordSigned_eq (w v : Int) : spec_WordSigned.f w v = some (wsg w v) := by
  unfold spec_WordSigned.f wsg; rw [spec_WordOk_eq]; simp -implicitDefEqProofs only [Option.bind_some]
  by_cases h : wok w v = true
  · have ho := wok_iff.1 h
    have hd := ho.wd
    have := hd.lo; have := hd.hi; have := hd.le; have := hd.pos; have := ho.lo; have := ho.hi
    rw [if_pos h, if_pos h, hd.pred, wrap_u64_id (by omega) (by omega), if_pos (by omega), hd.shlh]
    unfold sg
    by_cases hv : v < 2 ^ (w - 1).toNat
    · rw [if_neg (by omega), if_pos hv]
    · rw [if_pos (by omega), if_neg hv, hd.u64, if_pos (by omega), hd.shl1, wrap64_id (by omega) (by omega)]
  · rw [if_neg h, if_neg h]
theorem impl_signed_eq {w v : Int} (ho : Wo w v) : impl_signed.f w v = some (sg w v) := by
  have hd := ho.wd
  have := hd.lo; have := hd.hi; have := hd.le; have hp := hd.pos; have := ho.lo; have := ho.hi; have hh := hd.half; have := hd.hpos
  unfold impl_signed.f
  rw [hd.pred, if_pos (by omega), if_pos (by omega), shr_val _ _ (by omega) (by omega)]
  unfold sg
  by_cases hv : v < 2 ^ (w - 1).toNat
  · rw [Int.ediv_eq_zero_of_lt ho.lo hv, if_pos hv, shl_val _ _ (by omega) (by omega) (by omega) (by omega), Int.zero_mul, wrap64_id (by omega) (by omega)]
    congr 1; omega
  · have e : v / 2 ^ (w - 1).toNat = 1 := by
      rw [show v = (v - 2 ^ (w - 1).toNat) + 2 ^ (w - 1).toNat by omega, Int.add_ediv_of_dvd_right ⟨1, by omega⟩, Int.ediv_self (by omega), Int.ediv_eq_zero_of_lt (by omega) (by omega)]; rfl
    rw [e, if_neg hv, hd.shl1, wrap64_id (by omega) (by omega)]
theorem impl_WordSigned_eq (w v : Int) : impl_WordSigned.f w v = some (wsg w v) := by
  unfold impl_WordSigned.f wsg; rw [impl_WordOk_eq]; simp -implicitDefEqProofs only [Option.bind_some]
  by_cases h : wok w v = true
  · rw [if_pos h, if_pos h, impl_signed_eq (wok_iff.1 h)]; rfl
  · rw [if_neg h, if_neg h]
theorem spec_WordFrom_eq (w n : Int) : spec_WordFrom.f w n = some (wfrom w n) := by
  unfold spec_WordFrom.f wfrom; rw [spec_l1Width_eq]; simp -implicitDefEqProofs only [Option.bind_some]
  by_cases h : 1 ≤ w ∧ w ≤ 16
  · have hd : Wd w := ⟨h.1, h.2⟩
    have := hd.le; have := hd.pos; have := hd.lo
    have hb := tmod_bound n (2 ^ w.toNat) (by omega)
    have hf := tmod_fix n (2 ^ w.toNat) (by omega)
    rw [if_pos (decide_eq_true h), if_pos h, hd.u64, if_pos (by omega), hd.shl1, if_neg (by omega)]
    by_cases hn : Int.tmod n (2 ^ w.toNat) < 0
    · rw [if_pos hn] at hf ⊢; rw [wrap64_id (by omega) (by omega), hf]
    · rw [if_neg hn] at hf ⊢; rw [hf]
  · rw [if_neg (by rw [decide_eq_true_iff]; exact h), if_neg h]
theorem spec_WordFrom_w {w : Int} (h : Wd w) (n : Int) : spec_WordFrom.f w n = some (n % 2 ^ w.toNat) := by
  rw [spec_WordFrom_eq]; unfold wfrom; rw [if_pos ⟨h.lo, h.hi⟩]
theorem spec_WordJoin_eq (w a u b : Int) : spec_WordJoin.f w a u b = some (wjoin w a u b) := by
  unfold spec_WordJoin.f wjoin; rw [spec_WordOk_eq, spec_WordOk_eq]; simp -implicitDefEqProofs only [Option.bind_some]
  by_cases h : wok w a = true
  · by_cases g : wok u b = true
    · have ho := wok_iff.1 h
      have go := wok_iff.1 g
      have := ho.wd.lo; have := ho.wd.hi; have hu := go.wd.lo; have := go.wd.hi; have := go.top; have := go.lo; have := ho.lo; have := ho.hi; have := go.hi
      rw [if_pos h, if_pos g, wrap64_id (by omega) (by omega)]
      by_cases k : w + u ≤ 16
      · have e : (2 : Int) ^ w.toNat * 2 ^ u.toNat = 2 ^ (w + u).toNat := by rw [← Int.pow_add]; congr 1; omega
        have le := two_pow_le (i := (w + u).toNat) (j := 16) (by omega)
        have hm : a * 2 ^ u.toNat ≤ 2 ^ w.toNat * 2 ^ u.toNat := Int.mul_le_mul_of_nonneg_right (by omega) (by have := go.wd.pos; omega)
        have hz : 0 ≤ a * 2 ^ u.toNat := Int.mul_nonneg ho.lo (by have := go.wd.pos; omega)
        rw [if_neg (by omega), go.wd.u64, if_pos (by omega), shl_val _ _ (by omega) (by omega) (by omega) (by omega), wrap64_id (by omega) (by omega), if_pos ⟨h, g, k⟩]
      · rw [if_pos (by omega), if_neg (fun c => k c.2.2)]
    · rw [if_pos h, if_neg g, if_neg (fun c => g c.2.1)]
  · rw [if_neg h, if_neg (fun c => h c.1)]
theorem impl_WordJoin_eq (w a u b : Int) : impl_WordJoin.f w a u b = some (wjoin w a u b) := by
  unfold impl_WordJoin.f wjoin; rw [impl_WordOk_eq, impl_WordOk_eq]; simp -implicitDefEqProofs only [Option.bind_some]
  by_cases h : wok w a = true
  · by_cases g : wok u b = true
    · have ho := wok_iff.1 h
      have go := wok_iff.1 g
      have := ho.wd.lo; have := ho.wd.hi; have hu := go.wd.lo; have := go.wd.hi; have := go.top; have := go.lo; have := ho.lo; have := ho.hi; have := go.hi
      rw [if_pos h, if_pos g, wrap64_id (by omega) (by omega)]
      by_cases k : w + u ≤ 16
      · have e : (2 : Int) ^ w.toNat * 2 ^ u.toNat = 2 ^ (w + u).toNat := by rw [← Int.pow_add]; congr 1; omega
        have le := two_pow_le (i := (w + u).toNat) (j := 16) (by omega)
        have hm : a * 2 ^ u.toNat ≤ 2 ^ w.toNat * 2 ^ u.toNat := Int.mul_le_mul_of_nonneg_right (by omega) (by have := go.wd.pos; omega)
        have hz : 0 ≤ a * 2 ^ u.toNat := Int.mul_nonneg ho.lo (by have := go.wd.pos; omega)
        rw [if_neg (by omega), if_pos (by omega), shl_val _ _ (by omega) (by omega) (by omega) (by omega), wrap64_id (by omega) (by omega), if_pos ⟨h, g, k⟩]
      · rw [if_pos (by omega), if_neg (fun c => k c.2.2)]
    · rw [if_pos h, if_neg g, if_neg (fun c => g c.2.1)]
  · rw [if_neg h, if_neg (fun c => h c.1)]
theorem impl_WordSlice_eq (w a hi lo : Int) : impl_WordSlice.f w a hi lo = some (wslice w a hi lo) := by
  unfold impl_WordSlice.f wslice; rw [impl_WordOk_eq, impl_in_eq, impl_in_eq]; simp -implicitDefEqProofs only [Option.bind_some]
  by_cases h : wok w a = true
  · have ho := wok_iff.1 h
    have := ho.wd.lo; have := ho.wd.hi; have := ho.lo
    rw [if_pos h, ho.wd.pred]
    by_cases c : 0 ≤ lo ∧ lo ≤ hi ∧ hi < w
    · rw [if_pos (decide_eq_true (by omega)), if_pos (decide_eq_true (by omega)), if_pos (by omega), wrap64_id (x := hi - lo) (by omega) (by omega), wrap64_id (x := hi - lo + 1) (by omega) (by omega), impl_mask_eq _ (by omega) (by omega), if_pos ⟨h, c⟩]
      simp -implicitDefEqProofs only [Option.bind_some]
      rw [and_mask _ _ (by omega), shr_val _ _ (by omega) (by omega)]
    · rw [if_neg (show ¬ (wok w a = true ∧ 0 ≤ lo ∧ lo ≤ hi ∧ hi < w) from fun k => c k.2)]
      by_cases c1 : 0 ≤ hi ∧ hi ≤ w - 1
      · rw [if_pos (decide_eq_true c1), if_neg (by rw [decide_eq_true_iff]; omega)]
      · rw [if_neg (by rw [decide_eq_true_iff]; exact c1)]
  · rw [if_neg h, if_neg (fun c => h c.1)]
theorem spec_WordGrow_eq (k : Nat) (hk : 1 ≤ k) (w a more : Int) (s : Bool) : spec_WordGrow.f k w a more s = some (wgrow w a more s) := by
  obtain ⟨k, rfl⟩ : ∃ m, k = m + 1 := ⟨k - 1, by omega⟩
  unfold spec_WordGrow.f wgrow; rw [spec_WordOk_eq]; simp -implicitDefEqProofs only [Option.bind_some, spec_WordGrow.j0]
  by_cases h : wok w a = true
  · have ho := wok_iff.1 h
    have hd := ho.wd
    have := ho.wd.lo; have := ho.wd.hi; have := ho.lo
    rw [if_pos h, wrap64_id (x := 16 - w) (by omega) (by omega)]
    by_cases c : 0 ≤ more ∧ w + more ≤ 16
    · rw [if_neg (by omega), if_neg (by rw [decide_eq_true_iff]; omega), wrap64_id (x := w + more) (by omega) (by omega), if_pos (show wok w a = true ∧ 0 ≤ more ∧ w + more ≤ 16 from ⟨h, c⟩)]
      cases s
      · simp
      · have hd2 : Wd (w + more) := ⟨by omega, by omega⟩
        simp -implicitDefEqProofs only [if_true]
        rw [spec_WordSigned_eq]; simp -implicitDefEqProofs only [Option.bind_some]
        rw [spec_WordFrom_w hd2]; simp -implicitDefEqProofs only [Option.bind_some, wsg]
        rw [if_pos h]
    · rw [if_neg (show ¬ (wok w a = true ∧ 0 ≤ more ∧ w + more ≤ 16) from fun k => c k.2)]
      by_cases c1 : more < 0
      · rw [if_pos c1, if_pos trivial]
      · rw [if_neg c1, if_pos (by rw [decide_eq_true_iff]; omega)]
  · rw [if_neg h, if_pos trivial, if_neg (fun c => h c.1)]
theorem impl_grow_eq {w a more : Int} (s : Bool) (ho : Wo w a) (h0 : 0 ≤ more) (h1 : w + more ≤ 16) : impl_grow.f w a more s = some (if s = true then sg w a % 2 ^ (w + more).toNat else a) := by
  have := ho.wd.lo
  unfold impl_grow.f
  cases s
  · simp
  · simp -implicitDefEqProofs only [if_true]
    rw [impl_signed_eq ho, wrap64_id (by omega) (by omega), impl_mask_eq _ (by omega) (by omega)]; simp -implicitDefEqProofs only [Option.bind_some]
    rw [and_mask _ _ (by omega)]
theorem impl_WordGrow_eq (w a more : Int) (s : Bool) : impl_WordGrow.f w a more s = some (wgrow w a more s) := by
  unfold impl_WordGrow.f wgrow; rw [impl_WordOk_eq]; simp -implicitDefEqProofs only [Option.bind_some]
  by_cases h : wok w a = true
  · have ho := wok_iff.1 h
    have := ho.wd.lo; have := ho.wd.hi
    rw [if_pos h, wrap64_id (x := 16 - w) (by omega) (by omega), impl_in_eq]; simp -implicitDefEqProofs only [Option.bind_some]
    by_cases c : 0 ≤ more ∧ w + more ≤ 16
    · rw [if_pos (decide_eq_true (by omega)), impl_grow_eq s ho c.1 c.2, wrap64_id (x := w + more) (by omega) (by omega), if_pos (show wok w a = true ∧ 0 ≤ more ∧ w + more ≤ 16 from ⟨h, c⟩)]; rfl
    · rw [if_neg (by rw [decide_eq_true_iff]; omega), if_neg (show ¬ (wok w a = true ∧ 0 ≤ more ∧ w + more ≤ 16) from fun k => c k.2)]
  · rw [if_neg h, if_neg (fun c => h c.1)]
structure Rd (l : List Int) : Prop where
  len : l.length ≤ 2000
  byte : ∀ x ∈ l, 0 ≤ x ∧ x ≤ 255
theorem u8_wf {x : Int} (h : (Lit.int .u8 x).wf = true) : 0 ≤ x ∧ x ≤ 255 := by
  simp [Lit.wf, IntKind.min, IntKind.max, IntKind.bits, IntKind.signed] at h
  omega
theorem spec_l17Open_eq (l : List Int) (h : ∀ x ∈ l, (Lit.int .u8 x).wf = true) : ∃ l', spec_l17Open.f l = some (l', 0) ∧ Rd l' := by
  unfold spec_l17Open.f
  by_cases g : (l.length : Int) > 2000
  · rw [if_pos g, if_pos (by omega)]
    refine ⟨_, rfl, ⟨?_, fun x hx => u8_wf (h x (List.mem_of_mem_take hx))⟩⟩
    rw [List.length_take]; omega
  · rw [if_neg g]
    exact ⟨_, rfl, ⟨by omega, fun x hx => u8_wf (h x hx)⟩⟩
theorem Rd.rd {l : List Int} (h : Rd l) (i : Int) : 0 ≤ rd l i ∧ rd l i ≤ 255 := by
  unfold PrintWords.rd
  rw [List.getD_eq_getElem?_getD]
  by_cases g : i.toNat < l.length
  · rw [List.getElem?_eq_getElem g]
    exact h.byte _ (List.getElem_mem g)
  · rw [List.getElem?_eq_none (by omega)]
    exact ⟨by decide, by decide⟩
theorem xor_nonneg {x y : Int} (hx : 0 ≤ x) (hx1 : x < 4611686018427387904) (hy : 0 ≤ y) (hy1 : y < 4611686018427387904) : 0 ≤ Go.bits .xor .i64 x y := by
  obtain ⟨a, rfl⟩ := Int.eq_ofNat_of_zero_le hx
  obtain ⟨b, rfl⟩ := Int.eq_ofNat_of_zero_le hy
  rw [bits_xor_nat a b (by omega) (by omega)]
  omega
theorem spec_l17Rd_pick_eq {l : List Int} (hl : Rd l) (p n : Int) (h0 : 0 ≤ p) (h1 : p ≤ 1000000000) (hn : n ≤ 1000000000) :
    ∃ v, (∀ k, 1 ≤ k → spec_l17Rd_pick.f k l p n = some (v, p + 1)) ∧ (1 ≤ n → 0 ≤ v ∧ v < n) ∧ (n < 1 → v = 0) := by
  have hp1 : wrap64 (p + 1) = p + 1 := wrap64_id (by omega) (by omega)
  have hp2 : wrap64 (p + 1 - 1) = p := by rw [wrap64_id (by omega) (by omega)]; omega
  by_cases hn1 : n < 1
  · refine ⟨0, fun k hk => ?_, fun h => by omega, fun _ => rfl⟩
    obtain ⟨k, rfl⟩ : ∃ m, k = m + 1 := ⟨k - 1, by omega⟩
    unfold spec_l17Rd_pick.f
    rw [if_pos hn1, hp1]
    simp -implicitDefEqProofs only [spec_l17Rd_pick.j0, if_true]
  · by_cases hz : (l.length : Int) = 0
    · refine ⟨0, fun k hk => ?_, fun h => ⟨by omega, by omega⟩, fun _ => rfl⟩
      obtain ⟨k, rfl⟩ : ∃ m, k = m + 1 := ⟨k - 1, by omega⟩
      unfold spec_l17Rd_pick.f
      rw [if_neg hn1, hp1, beq_iff_eq.2 hz]
      simp -implicitDefEqProofs only [spec_l17Rd_pick.j0, if_true]
    · have hlen := hl.len
      by_cases hlt : p < (l.length : Int)
      · have hb := hl.rd p
        refine ⟨Int.tmod (rd l p) n, fun k hk => ?_, fun h => ⟨Int.tmod_nonneg _ hb.1, Int.tmod_lt_of_pos _ (by omega)⟩, fun h => by omega⟩
        obtain ⟨k, rfl⟩ : ∃ m, k = m + 1 := ⟨k - 1, by omega⟩
        have hbw : wrap64 (rd l p) = rd l p := wrap64_id (by omega) (by omega)
        unfold spec_l17Rd_pick.f
        rw [if_neg hn1, hp1, beq_eq_false_iff_ne.2 hz]
        simp -implicitDefEqProofs only [spec_l17Rd_pick.j0]
        rw [if_neg (by simp), hp2, if_pos hlt, if_pos h0, if_neg (by omega), hbw]
      · have hk7 : wrap64 (wrap64 (p * 7) + 3) = p * 7 + 3 := by rw [wrap64_id (x := p * 7) (by omega) (by omega), wrap64_id (by omega) (by omega)]
        have ha0 := Int.tmod_nonneg (l.length : Int) h0
        have ha1 := Int.tmod_lt_of_pos p (show (0 : Int) < l.length by omega)
        have hb0 := Int.tmod_nonneg (l.length : Int) (show 0 ≤ p * 7 + 3 by omega)
        have hb1 := Int.tmod_lt_of_pos (p * 7 + 3) (show (0 : Int) < l.length by omega)
        have r1 := hl.rd (Int.tmod p (l.length : Int))
        have r2 := hl.rd (Int.tmod (p * 7 + 3) (l.length : Int))
        have hd : 0 ≤ Int.tdiv p (l.length : Int) ∧ Int.tdiv p (l.length : Int) ≤ p := by
          rw [Int.tdiv_eq_ediv_of_nonneg h0]
          exact ⟨Int.ediv_nonneg h0 (by omega), Int.ediv_le_self _ h0⟩
        have key : ∃ v, Int.tmod (Go.bits .xor .i64 (wrap64 (wrap64 (wrap64 (wrap64 (wrap64 (rd l (Int.tmod p (l.length : Int))) * 131) + wrap64 (wrap64 (rd l (Int.tmod (p * 7 + 3) (l.length : Int))) * 1117)) + wrap64 (p * 29)) + wrap64 (wrap64 (Int.tdiv p (l.length : Int)) * 53)))
            (wrap64 (Int.tdiv (wrap64 (wrap64 (wrap64 (wrap64 (wrap64 (rd l (Int.tmod p (l.length : Int))) * 131) + wrap64 (wrap64 (rd l (Int.tmod (p * 7 + 3) (l.length : Int))) * 1117)) + wrap64 (p * 29)) + wrap64 (wrap64 (Int.tdiv p (l.length : Int)) * 53))) 64))) n = v ∧ 0 ≤ v ∧ v < n := by
          generalize rd l (Int.tmod p (l.length : Int)) = x at *
          generalize rd l (Int.tmod (p * 7 + 3) (l.length : Int)) = y at *
          generalize Int.tdiv p (l.length : Int) = q at *
          clear hk7 hp1 hp2
          rw [wrap64_id (x := x) (by omega) (by omega), wrap64_id (x := y) (by omega) (by omega), wrap64_id (x := q) (by omega) (by omega), wrap64_id (x := x * 131) (by omega) (by omega), wrap64_id (x := y * 1117) (by omega) (by omega), wrap64_id (x := p * 29) (by omega) (by omega), wrap64_id (x := q * 53) (by omega) (by omega), wrap64_id (x := x * 131 + y * 1117) (by omega) (by omega), wrap64_id (x := x * 131 + y * 1117 + p * 29) (by omega) (by omega), wrap64_id (x := x * 131 + y * 1117 + p * 29 + q * 53) (by omega) (by omega)]
          have hX : 0 ≤ x * 131 + y * 1117 + p * 29 + q * 53 ∧ x * 131 + y * 1117 + p * 29 + q * 53 < 4611686018427387904 := by omega
          generalize x * 131 + y * 1117 + p * 29 + q * 53 = X at *
          rw [Int.tdiv_eq_ediv_of_nonneg hX.1, wrap64_id (by omega) (by omega)]
          exact ⟨_, rfl, Int.tmod_nonneg _ (xor_nonneg hX.1 hX.2 (by omega) (by omega)), Int.tmod_lt_of_pos _ (by omega)⟩
        obtain ⟨v, hv, hv0, hv1⟩ := key
        refine ⟨v, fun k hk => ?_, fun _ => ⟨hv0, hv1⟩, fun h => by omega⟩
        obtain ⟨k, rfl⟩ : ∃ m, k = m + 1 := ⟨k - 1, by omega⟩
        unfold spec_l17Rd_pick.f
        rw [if_neg hn1, hp1, beq_eq_false_iff_ne.2 hz]
        simp -implicitDefEqProofs only [spec_l17Rd_pick.j0]
        rw [if_neg (by simp), hp2, hk7, if_neg hlt, if_neg hz, if_pos ha0, if_pos ha1, if_pos hb0, if_pos hb1, if_neg (show ¬ n = 0 by omega), hv]
theorem spec_l17Rd_width_eq {l : List Int} (hl : Rd l) (p : Int) (h0 : 0 ≤ p) (h1 : p ≤ 900000000) :
    ∃ v p', (∀ k, 1 ≤ k → spec_l17Rd_width.f k l p = some (v, p')) ∧ p < p' ∧ p' ≤ p + 2 := by
  obtain ⟨a, ha, _, _⟩ := spec_l17Rd_pick_eq hl p 24 h0 (by omega) (by omega)
  obtain ⟨b, hb, hb1, _⟩ := spec_l17Rd_pick_eq hl (p + 1) 4 (by omega) (by omega) (by omega)
  obtain ⟨c, hc, _, _⟩ := spec_l17Rd_pick_eq hl (p + 1) 6 (by omega) (by omega) (by omega)
  have hb2 := hb1 (by omega)
  by_cases ha0 : a = 0
  · refine ⟨rd [0, 16, 17, -1] b, p + 1 + 1, fun k hk => ?_, by omega, by omega⟩
    unfold spec_l17Rd_width.f
    rw [ha k hk]
    simp -implicitDefEqProofs only [Option.bind_some]
    rw [if_pos ha0, hb k hk]
    simp -implicitDefEqProofs only [Option.bind_some]
    rw [if_pos hb2.1, if_pos (show b < (([0, 16, 17, -1] : List Int).length : Int) from by simp; omega)]
  · refine ⟨wrap64 (1 + c), p + 1 + 1, fun k hk => ?_, by omega, by omega⟩
    unfold spec_l17Rd_width.f
    rw [ha k hk]
    simp -implicitDefEqProofs only [Option.bind_some]
    rw [if_neg ha0, hc k hk]
    rfl
theorem spec_l17Rd_word_eq {l : List Int} (hl : Rd l) (p w : Int) (h0 : 0 ≤ p) (h1 : p ≤ 900000000) :
    ∃ v p', (∀ k, 1 ≤ k → spec_l17Rd_word.f k l p w = some (v, p')) ∧ p < p' ∧ p' ≤ p + 4 := by
  by_cases h : 1 ≤ w ∧ w ≤ 16
  · have hd : Wd w := ⟨h.1, h.2⟩
    have := hd.lo; have := hd.le; have := hd.pos
    obtain ⟨a, ha, _, _⟩ := spec_l17Rd_pick_eq hl p 8 h0 (by omega) (by omega)
    obtain ⟨b, hb, _, _⟩ := spec_l17Rd_pick_eq hl (p + 1) 40 (by omega) (by omega) (by omega)
    obtain ⟨c, hc, hc1, _⟩ := spec_l17Rd_pick_eq hl (p + 1 + 1) 2 (by omega) (by omega) (by omega)
    obtain ⟨d, hd', _, _⟩ := spec_l17Rd_pick_eq hl (p + 1 + 1) 256 (by omega) (by omega) (by omega)
    obtain ⟨e, he, _, _⟩ := spec_l17Rd_pick_eq hl (p + 1 + 1 + 1) 256 (by omega) (by omega) (by omega)
    have hc2 := hc1 (by omega)
    have hM : wrap64 (2 ^ w.toNat - 1) = 2 ^ w.toNat - 1 := wrap64_id (by omega) (by omega)
    have hT : wrap64 (2 ^ w.toNat - 1 + 1) = 2 ^ w.toNat := by rw [wrap64_id (by omega) (by omega)]; omega
    have hu : IntKind.u64.wrap (w - 1) = w - 1 := wrap_u64_id (by omega) (by omega)
    have hs : shl .i64 1 (w - 1) = 2 ^ (w - 1).toNat := hd.shlh
    have h0p : 0 ≤ w - 1 := by omega
    have h0w : 0 ≤ w := by omega
    by_cases a0 : a = 0
    · exact ⟨0, p + 1, fun k hk => by unfold spec_l17Rd_word.f; rw [spec_l1Width_eq]; simp -implicitDefEqProofs only [Option.bind_some]; rw [if_pos (decide_eq_true h), hd.u64, if_pos h0w, hd.shl1, hd.pred]; simp -implicitDefEqProofs only [hu, hM, hT, hs, if_pos h0p]; rw [ha k hk]; simp -implicitDefEqProofs only [Option.bind_some]; rw [if_pos a0], by omega, by omega⟩
    · by_cases a1 : a = 1
      · exact ⟨2 ^ w.toNat - 1, p + 1, fun k hk => by unfold spec_l17Rd_word.f; rw [spec_l1Width_eq]; simp -implicitDefEqProofs only [Option.bind_some]; rw [if_pos (decide_eq_true h), hd.u64, if_pos h0w, hd.shl1, hd.pred]; simp -implicitDefEqProofs only [hu, hM, hT, hs, if_pos h0p]; rw [ha k hk]; simp -implicitDefEqProofs only [Option.bind_some]; rw [if_neg a0, if_pos a1], by omega, by omega⟩
      · by_cases a2 : a = 2
        · exact ⟨2 ^ (w - 1).toNat, p + 1, fun k hk => by unfold spec_l17Rd_word.f; rw [spec_l1Width_eq]; simp -implicitDefEqProofs only [Option.bind_some]; rw [if_pos (decide_eq_true h), hd.u64, if_pos h0w, hd.shl1, hd.pred]; simp -implicitDefEqProofs only [hu, hM, hT, hs, if_pos h0p]; rw [ha k hk]; simp -implicitDefEqProofs only [Option.bind_some]; rw [if_neg a0, if_neg a1, if_pos a2], by omega, by omega⟩
        · by_cases a3 : a = 3
          · exact ⟨(2 ^ w.toNat - 1) / 2, p + 1, fun k hk => by unfold spec_l17Rd_word.f; rw [spec_l1Width_eq]; simp -implicitDefEqProofs only [Option.bind_some]; rw [if_pos (decide_eq_true h), hd.u64, if_pos h0w, hd.shl1, hd.pred]; simp -implicitDefEqProofs only [hu, hM, hT, hs, if_pos h0p]; rw [ha k hk]; simp -implicitDefEqProofs only [Option.bind_some]; rw [if_neg a0, if_neg a1, if_neg a2, if_pos a3], by omega, by omega⟩
          · by_cases b0 : b = 0
            · exact ⟨rd [-1, 2 ^ w.toNat] c, p + 1 + 1 + 1, fun k hk => by
                unfold spec_l17Rd_word.f; rw [spec_l1Width_eq]; simp -implicitDefEqProofs only [Option.bind_some]; rw [if_pos (decide_eq_true h), hd.u64, if_pos h0w, hd.shl1, hd.pred]; simp -implicitDefEqProofs only [hu, hM, hT, hs, if_pos h0p]; 
                rw [ha k hk]; simp -implicitDefEqProofs only [Option.bind_some]
                rw [if_neg a0, if_neg a1, if_neg a2, if_neg a3, hb k hk]; simp -implicitDefEqProofs only [Option.bind_some]
                rw [if_pos b0, hc k hk]; simp -implicitDefEqProofs only [Option.bind_some]
                rw [if_pos hc2.1, if_pos (show c < (([-1, 2 ^ w.toNat] : List Int).length : Int) from by simp; omega)], by omega, by omega⟩
            · exact ⟨Int.tmod (wrap64 (wrap64 (d * 256) + e)) (2 ^ w.toNat), p + 1 + 1 + 1 + 1, fun k hk => by
                unfold spec_l17Rd_word.f; rw [spec_l1Width_eq]; simp -implicitDefEqProofs only [Option.bind_some]; rw [if_pos (decide_eq_true h), hd.u64, if_pos h0w, hd.shl1, hd.pred]; simp -implicitDefEqProofs only [hu, hM, hT, hs, if_pos h0p]; 
                rw [ha k hk]; simp -implicitDefEqProofs only [Option.bind_some]
                rw [if_neg a0, if_neg a1, if_neg a2, if_neg a3, hb k hk]; simp -implicitDefEqProofs only [Option.bind_some]
                rw [if_neg b0, hd' k hk]; simp -implicitDefEqProofs only [Option.bind_some]
                rw [he k hk]; simp -implicitDefEqProofs only [Option.bind_some]
                rw [if_neg (show ¬ (2 : Int) ^ w.toNat = 0 by omega)], by omega, by omega⟩
  · obtain ⟨a, ha, _, _⟩ := spec_l17Rd_pick_eq hl p 3 h0 (by omega) (by omega)
    exact ⟨a, p + 1, fun k hk => by unfold spec_l17Rd_word.f; rw [spec_l1Width_eq]; simp -implicitDefEqProofs only [Option.bind_some]; rw [if_neg (by rw [decide_eq_true_iff]; exact h), ha k hk]; rfl, by omega, by omega⟩
theorem spec_DrawWordJoin_eq (l : List Int) (h : ∀ x ∈ l, (Lit.int .u8 x).wf = true) : ∃ q, ∀ k, 1 ≤ k → spec_DrawWordJoin.f k l = some q := by
  obtain ⟨l', hl', hr⟩ := spec_l17Open_eq l h
  obtain ⟨w, p1, hw, g1, g2⟩ := spec_l17Rd_width_eq hr 0 (by omega) (by omega)
  obtain ⟨u, p2, hu, g3, g4⟩ := spec_l17Rd_width_eq hr p1 (by omega) (by omega)
  obtain ⟨c, hc, _, _⟩ := spec_l17Rd_pick_eq hr p2 8 (by omega) (by omega) (by omega)
  by_cases c0 : c = 0
  · obtain ⟨d, hd, _, _⟩ := spec_l17Rd_pick_eq hr (p2 + 1) 2 (by omega) (by omega) (by omega)
    obtain ⟨a, p3, ha, g5, g6⟩ := spec_l17Rd_word_eq hr (p2 + 1 + 1) w (by omega) (by omega)
    obtain ⟨b, p4, hb, g7, g8⟩ := spec_l17Rd_word_eq hr p3 (wrap64 (wrap64 (16 - w) + d)) (by omega) (by omega)
    refine ⟨(w, a, wrap64 (wrap64 (16 - w) + d), b), fun k hk => ?_⟩
    unfold spec_DrawWordJoin.f
    rw [hl']; simp -implicitDefEqProofs only [Option.bind_some]
    rw [hw k hk]; simp -implicitDefEqProofs only [Option.bind_some]
    rw [hu k hk]; simp -implicitDefEqProofs only [Option.bind_some]
    rw [hc k hk]; simp -implicitDefEqProofs only [Option.bind_some]
    rw [if_pos c0, hd k hk]; simp -implicitDefEqProofs only [Option.bind_some]
    rw [ha k hk]; simp -implicitDefEqProofs only [Option.bind_some]
    rw [hb k hk]; simp -implicitDefEqProofs only [Option.bind_some]
  · obtain ⟨a, p3, ha, g5, g6⟩ := spec_l17Rd_word_eq hr (p2 + 1) w (by omega) (by omega)
    obtain ⟨b, p4, hb, g7, g8⟩ := spec_l17Rd_word_eq hr p3 u (by omega) (by omega)
    refine ⟨(w, a, u, b), fun k hk => ?_⟩
    unfold spec_DrawWordJoin.f
    rw [hl']; simp -implicitDefEqProofs only [Option.bind_some]
    rw [hw k hk]; simp -implicitDefEqProofs only [Option.bind_some]
    rw [hu k hk]; simp -implicitDefEqProofs only [Option.bind_some]
    rw [hc k hk]; simp -implicitDefEqProofs only [Option.bind_some]
    rw [if_neg c0, ha k hk]; simp -implicitDefEqProofs only [Option.bind_some]
    rw [hb k hk]; simp -implicitDefEqProofs only [Option.bind_some]
theorem spec_DrawWordGrow_eq (l : List Int) (h : ∀ x ∈ l, (Lit.int .u8 x).wf = true) : ∃ q, ∀ k, 1 ≤ k → spec_DrawWordGrow.f k l = some q := by
  obtain ⟨l', hl', hr⟩ := spec_l17Open_eq l h
  obtain ⟨w, p1, hw, g1, g2⟩ := spec_l17Rd_width_eq hr 0 (by omega) (by omega)
  obtain ⟨a, p2, ha, g3, g4⟩ := spec_l17Rd_word_eq hr p1 w (by omega) (by omega)
  obtain ⟨c, hc, hc1, _⟩ := spec_l17Rd_pick_eq hr p2 6 (by omega) (by omega) (by omega)
  obtain ⟨d, hd, _, _⟩ := spec_l17Rd_pick_eq hr (p2 + 1) 2 (by omega) (by omega) (by omega)
  have hc2 := hc1 (by omega)
  refine ⟨(w, a, rd [0, 1, 3, wrap64 (16 - w), wrap64 (17 - w), -1] c, d == 0), fun k hk => ?_⟩
  unfold spec_DrawWordGrow.f
  rw [hl']; simp -implicitDefEqProofs only [Option.bind_some]
  rw [hw k hk]; simp -implicitDefEqProofs only [Option.bind_some]
  rw [ha k hk]; simp -implicitDefEqProofs only [Option.bind_some]
  rw [hc k hk]; simp -implicitDefEqProofs only [Option.bind_some]
  rw [if_pos hc2.1, if_pos (show c < (([0, 1, 3, wrap64 (16 - w), wrap64 (17 - w), -1] : List Int).length : Int) from by simp; omega), hd k hk]
  simp -implicitDefEqProofs only [Option.bind_some]
theorem wslice_low {m g x : Int} (hg : Wo m g) (h1 : 1 ≤ x) (h2 : x ≤ m) : wslice m g (wrap64 (x - 1)) 0 = (g % 2 ^ x.toNat, x, true) := by
  have := hg.wd.hi
  unfold wslice
  rw [wrap64_id (by omega) (by omega), if_pos ⟨hg.is, by omega, by omega, by omega⟩]
  rw [show x - 1 - 0 + 1 = x by omega, show (0 : Int).toNat = 0 from rfl, Int.pow_zero, Int.ediv_one]
theorem mod_sub {g : Int} {i j : Nat} (h : i ≤ j) : g % 2 ^ j % 2 ^ i = g % 2 ^ i :=
  Int.emod_emod_of_dvd g ⟨2 ^ (j - i), by rw [← Int.pow_add]; congr 1; omega⟩
theorem sg_wide {x m c : Int} (h : Wo x c) (hm : Wd m) (hle : x ≤ m) : sg m (sg x c % 2 ^ m.toNat) = sg x c := by
  have hb := sg_bounds h
  have h1 := two_pow_le (i := (x - 1).toNat) (j := (m - 1).toNat) (by have := h.wd.lo; omega)
  exact sg_of_mod hm (by omega) (by omega)
theorem FnJoin_j2 (l : List Int) (h : ∀ x ∈ l, (Lit.int .u8 x).wf = true) (k : Nat) : laws_FnJoin.j2 (k + 1 + 1 + 1 + 1) l = some true := by
  obtain ⟨⟨x, c, more, s⟩, hq⟩ := spec_DrawWordGrow_eq l h
  simp -implicitDefEqProofs only [laws_FnJoin.j2]
  rw [hq _ (by omega)]
  simp -implicitDefEqProofs only [Option.bind_some]
  rw [impl_WordGrow_eq, spec_WordGrow_eq _ (by omega)]
  simp -implicitDefEqProofs only [Option.bind_some, bne_self_eq_false, Bool.false_eq_true, if_false, if_true, laws_FnJoin.j3]
  unfold wgrow
  by_cases hc : wok x c = true ∧ 0 ≤ more ∧ x + more ≤ 16
  · have ho := wok_iff.1 hc.1
    have := ho.wd.lo; have := ho.wd.hi
    rw [if_pos hc]
    simp -implicitDefEqProofs only [if_true]
    have hm : Wd (x + more) := ⟨by omega, by omega⟩
    cases s
    · have h2 := two_pow_le (i := x.toNat) (j := (x + more).toNat) (by omega)
      have hg : Wo (x + more) c := ⟨hm, ho.lo, by have := ho.hi; omega⟩
      simp -implicitDefEqProofs only [Bool.false_eq_true, if_false]
      rw [impl_WordSlice_eq, wslice_low hg (by omega) (by omega)]
      simp -implicitDefEqProofs only [Option.bind_some, if_true]
      rw [Int.emod_eq_of_lt ho.lo ho.hi]
      simp -implicitDefEqProofs only [if_true]
    · have hg := mod_wo hm (sg x c)
      simp -implicitDefEqProofs only [if_true]
      rw [impl_WordSlice_eq, wslice_low hg (by omega) (by omega)]
      simp -implicitDefEqProofs only [Option.bind_some, if_true]
      rw [mod_sub (by omega), sg_mod ho, impl_WordSigned_eq, impl_WordSigned_eq]
      simp -implicitDefEqProofs only [Option.bind_some, if_true, wsg, ho.is, hg.is]
      rw [sg_wide ho hm (by omega)]
      simp
  · rw [if_neg hc]
    simp -implicitDefEqProofs only [Bool.false_eq_true, if_false]
theorem FnJoin : laws_FnJoin.Pure := by
  intro l0 l1 _ _ h0 _ _ h1
  refine ⟨0 + 1 + 1 + 1 + 1 + 1 + 1, ?_⟩
  obtain ⟨⟨w, a, u, b⟩, hq⟩ := spec_DrawWordJoin_eq l0 h0
  have hj := FnJoin_j2 l1 h1 0
  unfold laws_FnJoin.f
  by_cases g0 : (l0.length : Int) > 1048576
  · rw [if_pos g0]
    simp -implicitDefEqProofs only [laws_FnJoin.j0, if_true]
  · rw [if_neg g0]
    by_cases g1 : (l1.length : Int) > 1048576
    · rw [decide_eq_true g1]
      simp -implicitDefEqProofs only [laws_FnJoin.j0, if_true]
    · rw [decide_eq_false g1]
      simp -implicitDefEqProofs only [laws_FnJoin.j0, if_false, Bool.false_eq_true]
      rw [hq _ (by omega)]
      simp -implicitDefEqProofs only [Option.bind_some]
      rw [impl_WordJoin_eq, spec_WordJoin_eq]
      simp -implicitDefEqProofs only [Option.bind_some, bne_self_eq_false, Bool.false_eq_true, if_false, if_true, laws_FnJoin.j1]
      rw [hj]
      unfold wjoin
      by_cases hc : wok w a = true ∧ wok u b = true ∧ w + u ≤ 16
      · have ho := wok_iff.1 hc.1
        have go := wok_iff.1 hc.2.1
        have := ho.wd.lo; have := ho.wd.hi; have hu1 := go.wd.lo; have := go.wd.hi; have := go.top; have := go.lo; have := ho.lo; have := ho.hi; have := go.hi; have hup := go.wd.pos
        rw [if_pos hc]
        simp -implicitDefEqProofs only [if_true]
        have e : (2 : Int) ^ w.toNat * 2 ^ u.toNat = 2 ^ (w + u).toNat := by rw [← Int.pow_add]; congr 1; omega
        have hm : a * 2 ^ u.toNat ≤ (2 ^ w.toNat - 1) * 2 ^ u.toNat := Int.mul_le_mul_of_nonneg_right (by omega) (by omega)
        have hz : 0 ≤ a * 2 ^ u.toNat := Int.mul_nonneg ho.lo (by omega)
        have hn : Wo (w + u) (a * 2 ^ u.toNat + b) := ⟨⟨by omega, by omega⟩, by omega, by rw [Int.sub_mul, e] at hm; omega⟩
        have hlow := wslice_low (x := u) hn (by omega) (by omega)
        have hhi : wslice (w + u) (a * 2 ^ u.toNat + b) (wrap64 (w + u - 1)) u = (a, w, true) := by
          unfold wslice
          rw [wrap64_id (by omega) (by omega), if_pos ⟨hn.is, by omega, by omega, by omega⟩]
          rw [show w + u - 1 - u + 1 = w by omega, Int.add_comm (a * 2 ^ u.toNat) b, Int.add_mul_ediv_right _ _ (by omega), Int.ediv_eq_zero_of_lt go.lo go.hi, Int.zero_add, Int.emod_eq_of_lt ho.lo ho.hi]
        rw [impl_WordSlice_eq, impl_WordSlice_eq, hlow, hhi]
        simp -implicitDefEqProofs only [Option.bind_some, if_true]
        rw [Int.add_comm (a * 2 ^ u.toNat) b, Int.add_mul_emod_self_right, Int.emod_eq_of_lt go.lo go.hi]
        simp -implicitDefEqProofs only [if_true]
      · rw [if_neg hc]
        simp -implicitDefEqProofs only [Bool.false_eq_true, if_false]

end Go.Proofs.Ytohojfcpnlobjaa.Pure
