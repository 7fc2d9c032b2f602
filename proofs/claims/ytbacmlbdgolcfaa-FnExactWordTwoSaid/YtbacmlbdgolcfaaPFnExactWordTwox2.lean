-- Written by a program of this session (wip/pp).
import Derived.Test.YtbacmlbdgolcfaaPFnExactWordTwox0
import Derived.Test.YtbacmlbdgolcfaaPFnExactWordTwox1
namespace Go.Proofs.Ytbacmlbdgolcfaa.PFnExactWordTwo
open Go.RowKit Go.Proofs.YtbacmlbdgolcfaaW.PrintWords Go.Proofs.YtbacmlbdgolcfaaW.PrintLast Go.Proofs.YtbacmlbdgolcfaaW.PrintMore
attribute [local go_sem] max2_int min2_int max_two min_two max_three min_three max_four min_four   -- for this text's walks alone
set_option linter.unusedVariables false
set_option linter.unusedSimpArgs false

/-! ### spec_l1Sdiv: function 51 -/
def spec_l1Sdiv.j0 : Nat → Int → Int → Int → Bool → Option (Int)
  | 0, _, _, _, _ => none
  | k + 1, x1, x9, x10, x32 => if x32 = true then (some 1) else (if x10 = 0 then (if 0 ≤ (IntKind.u64.wrap (x1)) then (some (wrap64 ((shl .i64 1 (IntKind.u64.wrap (x1))) - 1))) else (none)) else ((spec_WordFrom.f x1 (wrap64 (Int.tdiv x9 x10))).bind fun t117 => (some t117)))
def spec_l1Sdiv.f (k : Nat) (a0 : Int) (a1 : Int) (a2 : Int) (a3 : Int) : Option (Int) := (spec_WordSigned.f a1 a2).bind fun t114 => ((spec_WordSigned.f a1 a3).bind fun t115 => (if a0 = 15 then (if t115 = 0 then (some a2) else ((spec_WordFrom.f a1 (Int.tmod t114 t115)).bind fun t116 => (some t116))) else (if t115 = 0 then (spec_l1Sdiv.j0 k a1 t114 t115 (decide (t114 < 0))) else (spec_l1Sdiv.j0 k a1 t114 t115 false))))
theorem spec_l1Sdiv.mono_l : ∀ k, (∀ y0 y1 y2 y3, LeO (spec_l1Sdiv.j0 k y0 y1 y2 y3) (spec_l1Sdiv.j0 (k + 1) y0 y1 y2 y3))
  | 0 => fun _ _ _ _ r h => by simp [spec_l1Sdiv.j0] at h
  | k + 1 => by
    have ih0 := spec_l1Sdiv.mono_l k
    · intro y0 y1 y2 y3
      unfold spec_l1Sdiv.j0
      repeat' first
      | (with_reducible exact ih0 _ _ _ _)
      | (with_reducible exact LeO.refl _)
      | (with_reducible exact LeO.none _)
      | (with_reducible refine LeO.ite ?_ ?_)
      | (with_reducible refine LeO.bind ?_ (fun _ => ?_))
      | exact ih0 _ _ _ _
      | exact LeO.none _
      | refine LeO.ite ?_ ?_
      | refine LeO.bind ?_ (fun _ => ?_)
theorem spec_l1Sdiv.mono : ∀ a0 a1 a2 a3 k, LeO (spec_l1Sdiv.f k a0 a1 a2 a3) (spec_l1Sdiv.f (k + 1) a0 a1 a2 a3) := by
  intro a0 a1 a2 a3 k
  have ih0 := spec_l1Sdiv.mono_l k
  unfold spec_l1Sdiv.f
  repeat' first
      | (with_reducible exact ih0 _ _ _ _)
      | (with_reducible exact LeO.refl _)
      | (with_reducible exact LeO.none _)
      | (with_reducible refine LeO.ite ?_ ?_)
      | (with_reducible refine LeO.bind ?_ (fun _ => ?_))
      | exact ih0 _ _ _ _
      | exact LeO.none _
      | refine LeO.ite ?_ ?_
      | refine LeO.bind ?_ (fun _ => ?_)
set_option maxHeartbeats 8000000 in
set_option maxRecDepth 100000 in
theorem spec_l1Sdiv.calls (k : Nat) (a0 : Int) (a1 : Int) (a2 : Int) (a3 : Int) (r : Int) (w : World) (h : spec_l1Sdiv.f k a0 a1 a2 a3 = some r) :
    Calls Try.prog 51 #[.int .i64 a0, .int .i64 a1, .int .i64 a2, .int .i64 a3] w fun e w' => e = .returned (.int .i64 r) ∧ Drawn0 w w' := by
  have H : ((spec_WordSigned.f a1 a2).bind fun t114 => ((spec_WordSigned.f a1 a3).bind fun t115 => (if a0 = 15 then (if t115 = 0 then (some a2) else ((spec_WordFrom.f a1 (Int.tmod t114 t115)).bind fun t116 => (some t116))) else (if t115 = 0 then (spec_l1Sdiv.j0 k a1 t114 t115 (decide (t114 < 0))) else (spec_l1Sdiv.j0 k a1 t114 t115 false))))) = some r := h
  clear h
  replace H := Option.bind_eq_some_iff.mp H
  obtain ⟨t114, A50, H⟩ := H
  replace H : ((spec_WordSigned.f a1 a3).bind fun t115 => (if a0 = 15 then (if t115 = 0 then (some a2) else ((spec_WordFrom.f a1 (Int.tmod t114 t115)).bind fun t116 => (some t116))) else (if t115 = 0 then (spec_l1Sdiv.j0 k a1 t114 t115 (decide (t114 < 0))) else (spec_l1Sdiv.j0 k a1 t114 t115 false)))) = some r := H
  have A5 := Aside0.mk A50
  clear A50
  replace H := Option.bind_eq_some_iff.mp H
  obtain ⟨t115, A60, H⟩ := H
  replace H : (if a0 = 15 then (if t115 = 0 then (some a2) else ((spec_WordFrom.f a1 (Int.tmod t114 t115)).bind fun t116 => (some t116))) else (if t115 = 0 then (spec_l1Sdiv.j0 k a1 t114 t115 (decide (t114 < 0))) else (spec_l1Sdiv.j0 k a1 t114 t115 false))) = some r := H
  have A6 := Aside0.mk A60
  clear A60
  by_cases c7 : a0 = 15
  · rw [if_pos c7] at H
    have c7b0 : (a0 == 15) = true := beq_iff_eq.mpr c7
    have c7b1 : (a0 != 15) = false := bne_eq_false_iff_eq.mpr c7
    clear c7
    by_cases c8 : t115 = 0
    · rw [if_pos c8] at H
      have c8b0 : (t115 == 0) = true := beq_iff_eq.mpr c8
      have c8b1 : (t115 != 0) = false := bne_eq_false_iff_eq.mpr c8
      clear c8
      obtain rfl := Option.some.inj H
      go_enter Try.func51, Try.ntmps51
      go_wp2_with (first | ((with_reducible refine gate_callee (f := 26) rfl ?_); refine goesL_ (some 13) rfl rfl Try.func26 (by kernel_rfl) rfl #[.int .i64 a1, .int .i64 a2] rfl (by (try simp only [List.map_toArray, List.map_cons, List.map_nil]); first | done | rfl | (simp only [List.length_drop, List.length_take]; rfl)) ?_; (with_reducible refine (spec_WordSigned.calls a1 a2 t114 _ A5.out).mono ?_); rintro e w' ⟨rfl, ⟨nd, rfl⟩⟩; refine ⟨_, rfl, ?_⟩) | ((with_reducible refine gate_callee (f := 26) rfl ?_); refine goesL_ (some 16) rfl rfl Try.func26 (by kernel_rfl) rfl #[.int .i64 a1, .int .i64 a3] rfl (by (try simp only [List.map_toArray, List.map_cons, List.map_nil]); first | done | rfl | (simp only [List.length_drop, List.length_take]; rfl)) ?_; (with_reducible refine (spec_WordSigned.calls a1 a3 t115 _ A6.out).mono ?_); rintro e w' ⟨rfl, ⟨nd, rfl⟩⟩; refine ⟨_, rfl, ?_⟩))
      go_ret
      exact ⟨by first | rfl | (simp; done) | (simp [*]; done) | (exfalso; simp only [beq_iff_eq] at *; omega), by repeat (first | exact Drawn0.refl _ | apply Drawn0.step)⟩
    · rw [if_neg c8] at H
      have c8b0 : (t115 == 0) = false := beq_eq_false_iff_ne.mpr c8
      have c8b1 : (t115 != 0) = true := bne_iff_ne.mpr c8
      replace H := Option.bind_eq_some_iff.mp H
      obtain ⟨t116, A90, H⟩ := H
      replace H : (some t116) = some r := H
      have A9 := Aside0.mk A90
      clear A90
      obtain rfl := Option.some.inj H
      go_enter Try.func51, Try.ntmps51
      go_wp2_with (first | ((with_reducible refine gate_callee (f := 26) rfl ?_); refine goesL_ (some 13) rfl rfl Try.func26 (by kernel_rfl) rfl #[.int .i64 a1, .int .i64 a2] rfl (by (try simp only [List.map_toArray, List.map_cons, List.map_nil]); first | done | rfl | (simp only [List.length_drop, List.length_take]; rfl)) ?_; (with_reducible refine (spec_WordSigned.calls a1 a2 t114 _ A5.out).mono ?_); rintro e w' ⟨rfl, ⟨nd, rfl⟩⟩; refine ⟨_, rfl, ?_⟩) | ((with_reducible refine gate_callee (f := 26) rfl ?_); refine goesL_ (some 16) rfl rfl Try.func26 (by kernel_rfl) rfl #[.int .i64 a1, .int .i64 a3] rfl (by (try simp only [List.map_toArray, List.map_cons, List.map_nil]); first | done | rfl | (simp only [List.length_drop, List.length_take]; rfl)) ?_; (with_reducible refine (spec_WordSigned.calls a1 a3 t115 _ A6.out).mono ?_); rintro e w' ⟨rfl, ⟨nd, rfl⟩⟩; refine ⟨_, rfl, ?_⟩) | ((with_reducible refine gate_callee (f := 24) rfl ?_); refine goesL_ (some 26) rfl rfl Try.func24 (by kernel_rfl) rfl #[.int .i64 a1, .int .i64 (Int.tmod t114 t115)] rfl (by (try simp only [List.map_toArray, List.map_cons, List.map_nil]); first | done | rfl | (simp only [List.length_drop, List.length_take]; rfl)) ?_; (with_reducible refine (spec_WordFrom.calls a1 (Int.tmod t114 t115) t116 _ A9.out).mono ?_); rintro e w' ⟨rfl, ⟨nd, rfl⟩⟩; refine ⟨_, rfl, ?_⟩))
      go_ret
      exact ⟨by first | rfl | (simp; done) | (simp [*]; done) | (exfalso; simp only [beq_iff_eq] at *; omega), by repeat (first | exact Drawn0.refl _ | apply Drawn0.step)⟩
  · rw [if_neg c7] at H
    have c7b0 : (a0 == 15) = false := beq_eq_false_iff_ne.mpr c7
    have c7b1 : (a0 != 15) = true := bne_iff_ne.mpr c7
    have HC10 := Aside0.mk H
    clear H
    go_enter Try.func51, Try.ntmps51
    go_upto_region 7 with (first | ((with_reducible refine gate_callee (f := 26) rfl ?_); refine goesL_ (some 13) rfl rfl Try.func26 (by kernel_rfl) rfl #[.int .i64 a1, .int .i64 a2] rfl (by (try simp only [List.map_toArray, List.map_cons, List.map_nil]); first | done | rfl | (simp only [List.length_drop, List.length_take]; rfl)) ?_; (with_reducible refine (spec_WordSigned.calls a1 a2 t114 _ A5.out).mono ?_); rintro e w' ⟨rfl, ⟨nd, rfl⟩⟩; refine ⟨_, rfl, ?_⟩) | ((with_reducible refine gate_callee (f := 26) rfl ?_); refine goesL_ (some 16) rfl rfl Try.func26 (by kernel_rfl) rfl #[.int .i64 a1, .int .i64 a3] rfl (by (try simp only [List.map_toArray, List.map_cons, List.map_nil]); first | done | rfl | (simp only [List.length_drop, List.length_take]; rfl)) ?_; (with_reducible refine (spec_WordSigned.calls a1 a3 t115 _ A6.out).mono ?_); rintro e w' ⟨rfl, ⟨nd, rfl⟩⟩; refine ⟨_, rfl, ?_⟩))
    (try simp only [Act.put, List.setIfInBounds_toArray, List.set_cons_zero, List.set_cons_succ])
    go_cut [32] (fun v32 wc => ∃ (kq : Nat) (x32_9 : Bool), v32 = .bool x32_9 ∧ Aside0 (spec_l1Sdiv.j0 kq a1 t114 t115 x32_9 = some r) ∧ Aside0 (kq ≤ k) ∧ Drawn0 w wc)
    case first =>
      have H := HC10.out
      clear HC10
      by_cases c11 : t115 = 0
      · rw [if_pos c11] at H
        have c11b0 : (t115 == 0) = true := beq_iff_eq.mpr c11
        have c11b1 : (t115 != 0) = false := bne_eq_false_iff_eq.mpr c11
        clear c11
        (first | rw [c11b0] | (simp only [i64_w, i32_w]; rw [c11b0]) | skip)
        have H' := Aside0.mk H
        clear H
        go_wp2
        go_meet
        case rel => exact ⟨_, (decide (t114 < 0)), (by first | rfl | (simp; done) | (simp [*]; done) | (exfalso; simp only [beq_iff_eq] at *; omega)), H', ⟨by first | omega | exact Nat.le_refl _⟩, by repeat (first | exact Drawn0.refl _ | apply Drawn0.step)⟩
      · rw [if_neg c11] at H
        have c11b0 : (t115 == 0) = false := beq_eq_false_iff_ne.mpr c11
        have c11b1 : (t115 != 0) = true := bne_iff_ne.mpr c11
        (first | rw [c11b0] | (simp only [i64_w, i32_w]; rw [c11b0]) | skip)
        have H' := Aside0.mk H
        clear H
        go_wp2
        go_meet
        case rel => exact ⟨_, (false), (by first | rfl | (simp; done) | (simp [*]; done) | (exfalso; simp only [beq_iff_eq] at *; omega)), H', ⟨by first | omega | exact Nat.le_refl _⟩, by repeat (first | exact Drawn0.refl _ | apply Drawn0.step)⟩
    case rest =>
      clear HC10
      try clear c1
      try clear c2
      try clear p2
      try clear c5
      try clear c7
      try clear c7b0
      try clear c7b1
      try clear c8
      try clear c8b0
      try clear c8b1
      try clear c11
      try clear c11b0
      try clear c11b1
      obtain ⟨kq, x32_9, rfl, HA, HJ9, ⟨mc9, rfl⟩⟩ := hcut
      cases kq with
      | zero => exact absurd HA.out (by simp [spec_l1Sdiv.j0])
      | succ kj9 =>
        have H := HA.out
        clear HA
        simp only [spec_l1Sdiv.j0] at H
        by_cases c12 : x32_9 = true
        · subst c12
          have H1 : (some 1) = some r := by rw [if_pos rfl] at H; exact H
          clear H
          have H := H1
          clear H1
          obtain rfl := Option.some.inj H
          go_wp2
          go_ret
          exact ⟨by first | rfl | (simp; done) | (simp [*]; done) | (exfalso; simp only [beq_iff_eq] at *; omega), by repeat (first | exact Drawn0.refl _ | apply Drawn0.step)⟩
        · replace c12 := Bool.eq_false_iff.mpr c12
          subst c12
          have H1 : (if t115 = 0 then (if 0 ≤ (IntKind.u64.wrap (a1)) then (some (wrap64 ((shl .i64 1 (IntKind.u64.wrap (a1))) - 1))) else (none)) else ((spec_WordFrom.f a1 (wrap64 (Int.tdiv t114 t115))).bind fun t117 => (some t117))) = some r := by rw [if_neg (show ¬ (false = true) by decide)] at H; exact H
          clear H
          have H := H1
          clear H1
          by_cases c13 : t115 = 0
          · rw [if_pos c13] at H
            have c13b0 : (t115 == 0) = true := beq_iff_eq.mpr c13
            have c13b1 : (t115 != 0) = false := bne_eq_false_iff_eq.mpr c13
            clear c13
            obtain ⟨ji14, hji14⟩ : ∃ j_ : Int, (IntKind.u64.wrap (a1)) = j_ := ⟨_, rfl⟩
            replace H : (if 0 ≤ (ji14) then (some (wrap64 ((shl .i64 1 (ji14)) - 1))) else (none)) = some r := by first | (rw [hji14] at H; exact H) | (simp only [hji14] at H ⊢; exact H)
            by_cases c15 : 0 ≤ (ji14)
            · rw [if_pos c15] at H
              have c15b0 := eq_true c15
              have c15b1 : decide (0 ≤ (ji14)) = true := decide_eq_true c15
              clear c15
              obtain ⟨ji16, hji16⟩ : ∃ j_ : Int, (shl .i64 1 (ji14)) = j_ := ⟨_, rfl⟩
              replace H : (some (wrap64 ((ji16) - 1))) = some r := by first | (rw [hji16] at H; exact H) | (simp only [hji16] at H ⊢; exact H)
              have hji16_ : (IntKind.i64.wrap (1 * 2 ^ min (ji14).toNat 64)) = ji16 := hji16
              have hji16z : (ji14) ≤ 64 → (IntKind.i64.wrap (1 * 2 ^ (ji14).toNat)) = ji16 := shl_small hji16
              have hji16u : (IntKind.i64.wrap (2 ^ min (ji14).toNat 64)) = ji16 := by have h_ := hji16_; rw [Int.one_mul] at h_; exact h_
              have hji16v : (ji14) ≤ 64 → (IntKind.i64.wrap (2 ^ (ji14).toNat)) = ji16 := fun hle_ => by have h_ := hji16z hle_; rw [Int.one_mul] at h_; exact h_
              have hji16y : (wrap64 (1 * 2 ^ min (ji14).toNat 64)) = ji16 := (i64_w _).symm.trans hji16_
              have hji16x : (ji14) ≤ 64 → (wrap64 (1 * 2 ^ (ji14).toNat)) = ji16 := fun h_ => (i64_w _).symm.trans (hji16z h_)
              obtain rfl := Option.some.inj H
              go_wp2
              go_ret
              exact ⟨by first | rfl | (simp; done) | (simp only [← hji14, ← hji16] <;> (first | rfl | (simp; done) | (simp [shl, IntKind.wrap, IntKind.bits, IntKind.signed, wrap64]; done))) | (simp [*]; done) | (exfalso; simp only [beq_iff_eq] at *; omega), by repeat (first | exact Drawn0.refl _ | apply Drawn0.step)⟩
            · rw [if_neg c15] at H
              exact absurd H (by simp)
          · rw [if_neg c13] at H
            have c13b0 : (t115 == 0) = false := beq_eq_false_iff_ne.mpr c13
            have c13b1 : (t115 != 0) = true := bne_iff_ne.mpr c13
            replace H := Option.bind_eq_some_iff.mp H
            obtain ⟨t117, A170, H⟩ := H
            replace H : (some t117) = some r := H
            have A17 := Aside0.mk A170
            clear A170
            obtain rfl := Option.some.inj H
            go_wp2_with (first | ((with_reducible refine gate_callee (f := 24) rfl ?_); refine goesL_ (some 43) rfl rfl Try.func24 (by kernel_rfl) rfl #[.int .i64 a1, .int .i64 (wrap64 (Int.tdiv t114 t115))] rfl (by (try simp only [List.map_toArray, List.map_cons, List.map_nil]); first | done | rfl | (simp only [List.length_drop, List.length_take]; rfl)) ?_; (with_reducible refine (spec_WordFrom.calls a1 (wrap64 (Int.tdiv t114 t115)) t117 _ A17.out).mono ?_); rintro e w' ⟨rfl, ⟨nd, rfl⟩⟩; refine ⟨_, rfl, ?_⟩))
            go_ret
            exact ⟨by first | rfl | (simp; done) | (simp [*]; done) | (exfalso; simp only [beq_iff_eq] at *; omega), by repeat (first | exact Drawn0.refl _ | apply Drawn0.step)⟩

/-! ### spec_l1Shift: function 52 -/
mutual
def spec_l1Shift.l0 : Nat → Int → Int → Int → Int → Int → Int → Option (Int)
  | 0, _, _, _, _, _, _ => none
  | k + 1, x0, x1, x2, x3, x9, x10 => if x10 < x1 then (if x0 = 16 then (spec_l1Shift.j1 k x0 x1 x2 x3 x9 x10 (wrap64 (x10 - x3))) else (spec_l1Shift.j1 k x0 x1 x2 x3 x9 x10 (wrap64 (x10 + x3)))) else (some x9)
def spec_l1Shift.j1 : Nat → Int → Int → Int → Int → Int → Int → Int → Option (Int)
  | 0, _, _, _, _, _, _, _ => none
  | k + 1, x0, x1, x2, x3, x9, x10, x11 => if x11 ≥ 0 then (spec_l1Shift.j2 k x0 x1 x2 x3 x9 x10 x11 0 (decide (x11 < x1))) else (spec_l1Shift.j2 k x0 x1 x2 x3 x9 x10 x11 0 false)
def spec_l1Shift.j2 : Nat → Int → Int → Int → Int → Int → Int → Int → Int → Bool → Option (Int)
  | 0, _, _, _, _, _, _, _, _, _ => none
  | k + 1, x0, x1, x2, x3, x9, x10, x11, x12, x32 => if x32 = true then ((spec_l1Bit.f x2 x11).bind fun t118 => (if 0 ≤ (IntKind.u64.wrap (x10)) then (spec_l1Shift.l0 k x0 x1 x2 x3 (wrap64 (x9 + (shl .i64 t118 (IntKind.u64.wrap (x10))))) (wrap64 (x10 + 1))) else (none))) else (if x0 = 18 then ((spec_l1Bit.f x2 (wrap64 (x1 - 1))).bind fun t119 => (if 0 ≤ (IntKind.u64.wrap (x10)) then (spec_l1Shift.l0 k x0 x1 x2 x3 (wrap64 (x9 + (shl .i64 t119 (IntKind.u64.wrap (x10))))) (wrap64 (x10 + 1))) else (none))) else (if 0 ≤ (IntKind.u64.wrap (x10)) then (spec_l1Shift.l0 k x0 x1 x2 x3 (wrap64 (x9 + (shl .i64 x12 (IntKind.u64.wrap (x10))))) (wrap64 (x10 + 1))) else (none)))
end
def spec_l1Shift.f (k : Nat) (a0 : Int) (a1 : Int) (a2 : Int) (a3 : Int) : Option (Int) := spec_l1Shift.l0 k a0 a1 a2 a3 0 0
theorem spec_l1Shift.mono_l : ∀ k, (∀ y0 y1 y2 y3 y4 y5, LeO (spec_l1Shift.l0 k y0 y1 y2 y3 y4 y5) (spec_l1Shift.l0 (k + 1) y0 y1 y2 y3 y4 y5)) ∧ (∀ y0 y1 y2 y3 y4 y5 y6, LeO (spec_l1Shift.j1 k y0 y1 y2 y3 y4 y5 y6) (spec_l1Shift.j1 (k + 1) y0 y1 y2 y3 y4 y5 y6)) ∧ (∀ y0 y1 y2 y3 y4 y5 y6 y7 y8, LeO (spec_l1Shift.j2 k y0 y1 y2 y3 y4 y5 y6 y7 y8) (spec_l1Shift.j2 (k + 1) y0 y1 y2 y3 y4 y5 y6 y7 y8))
  | 0 => ⟨fun _ _ _ _ _ _ r h => by simp [spec_l1Shift.l0] at h, fun _ _ _ _ _ _ _ r h => by simp [spec_l1Shift.j1] at h, fun _ _ _ _ _ _ _ _ _ r h => by simp [spec_l1Shift.j2] at h⟩
  | k + 1 => by
    obtain ⟨ih0, ih1, ih2⟩ := spec_l1Shift.mono_l k
    refine ⟨?_, ?_, ?_⟩
    · intro y0 y1 y2 y3 y4 y5
      unfold spec_l1Shift.l0
      repeat' first
      | (with_reducible exact ih0 _ _ _ _ _ _)
      | (with_reducible exact ih1 _ _ _ _ _ _ _)
      | (with_reducible exact ih2 _ _ _ _ _ _ _ _ _)
      | (with_reducible exact LeO.refl _)
      | (with_reducible exact LeO.none _)
      | (with_reducible refine LeO.ite ?_ ?_)
      | (with_reducible refine LeO.bind ?_ (fun _ => ?_))
      | exact ih0 _ _ _ _ _ _
      | exact ih1 _ _ _ _ _ _ _
      | exact ih2 _ _ _ _ _ _ _ _ _
      | exact LeO.none _
      | refine LeO.ite ?_ ?_
      | refine LeO.bind ?_ (fun _ => ?_)
    · intro y0 y1 y2 y3 y4 y5 y6
      unfold spec_l1Shift.j1
      repeat' first
      | (with_reducible exact ih0 _ _ _ _ _ _)
      | (with_reducible exact ih1 _ _ _ _ _ _ _)
      | (with_reducible exact ih2 _ _ _ _ _ _ _ _ _)
      | (with_reducible exact LeO.refl _)
      | (with_reducible exact LeO.none _)
      | (with_reducible refine LeO.ite ?_ ?_)
      | (with_reducible refine LeO.bind ?_ (fun _ => ?_))
      | exact ih0 _ _ _ _ _ _
      | exact ih1 _ _ _ _ _ _ _
      | exact ih2 _ _ _ _ _ _ _ _ _
      | exact LeO.none _
      | refine LeO.ite ?_ ?_
      | refine LeO.bind ?_ (fun _ => ?_)
    · intro y0 y1 y2 y3 y4 y5 y6 y7 y8
      unfold spec_l1Shift.j2
      repeat' first
      | (with_reducible exact ih0 _ _ _ _ _ _)
      | (with_reducible exact ih1 _ _ _ _ _ _ _)
      | (with_reducible exact ih2 _ _ _ _ _ _ _ _ _)
      | (with_reducible exact LeO.refl _)
      | (with_reducible exact LeO.none _)
      | (with_reducible refine LeO.ite ?_ ?_)
      | (with_reducible refine LeO.bind ?_ (fun _ => ?_))
      | exact ih0 _ _ _ _ _ _
      | exact ih1 _ _ _ _ _ _ _
      | exact ih2 _ _ _ _ _ _ _ _ _
      | exact LeO.none _
      | refine LeO.ite ?_ ?_
      | refine LeO.bind ?_ (fun _ => ?_)
theorem spec_l1Shift.mono : ∀ a0 a1 a2 a3 k, LeO (spec_l1Shift.f k a0 a1 a2 a3) (spec_l1Shift.f (k + 1) a0 a1 a2 a3) := by
  intro a0 a1 a2 a3 k
  obtain ⟨ih0, ih1, ih2⟩ := spec_l1Shift.mono_l k
  unfold spec_l1Shift.f
  repeat' first
      | (with_reducible exact ih0 _ _ _ _ _ _)
      | (with_reducible exact ih1 _ _ _ _ _ _ _)
      | (with_reducible exact ih2 _ _ _ _ _ _ _ _ _)
      | (with_reducible exact LeO.refl _)
      | (with_reducible exact LeO.none _)
      | (with_reducible refine LeO.ite ?_ ?_)
      | (with_reducible refine LeO.bind ?_ (fun _ => ?_))
      | exact ih0 _ _ _ _ _ _
      | exact ih1 _ _ _ _ _ _ _
      | exact ih2 _ _ _ _ _ _ _ _ _
      | exact LeO.none _
      | refine LeO.ite ?_ ?_
      | refine LeO.bind ?_ (fun _ => ?_)
set_option maxHeartbeats 8000000 in
set_option maxRecDepth 100000 in
theorem spec_l1Shift.calls (k : Nat) (a0 : Int) (a1 : Int) (a2 : Int) (a3 : Int) (r : Int) (w : World) (h : spec_l1Shift.f k a0 a1 a2 a3 = some r) :
    Calls Try.prog 52 #[.int .i64 a0, .int .i64 a1, .int .i64 a2, .int .i64 a3] w fun e w' => e = .returned (.int .i64 r) ∧ Drawn0 w w' := by
  have H : (spec_l1Shift.l0 k a0 a1 a2 a3 0 0) = some r := h
  clear h
  have H' := Aside0.mk H
  clear H
  go_enter Try.func52, Try.ntmps52
  go_wp2
  go_loopg [9, 10] k (fun kq v9 v10 w' => ∃ (x9_1 : Int) (x10_1 : Int), v9 = .int .i64 x9_1 ∧ v10 = .int .i64 x10_1 ∧ Aside0 (spec_l1Shift.l0 kq a0 a1 a2 a3 x9_1 x10_1 = some r) ∧ Aside0 (kq ≤ k) ∧ Drawn0 w w')
  case atStart => exact ⟨(0), (0), (by first | rfl | (simp; done) | (simp [*]; done) | (exfalso; simp only [beq_iff_eq] at *; omega)), (by first | rfl | (simp; done) | (simp [*]; done) | (exfalso; simp only [beq_iff_eq] at *; omega)), H', ⟨Nat.le_refl _⟩, by repeat (first | exact Drawn0.refl _ | apply Drawn0.step)⟩
  case round =>
    clear H'
    try clear p2
    obtain ⟨x9_1, x10_1, rfl, rfl, HA, HK1, ⟨m1, rfl⟩⟩ := hrel
    cases gk with
    | zero => exact absurd HA.out (by simp [spec_l1Shift.l0])
    | succ k1 =>
      have H := HA.out
      clear HA
      simp only [spec_l1Shift.l0] at H
      by_cases c5 : x10_1 < a1
      · rw [if_pos c5] at H
        have c5b0 : decide (x10_1 < a1) = true := decide_eq_true c5
        clear c5
        have HC6 := Aside0.mk H
        clear H
        go_upto_if 22 with (fail)
        go_cut [11] (fun v11 wc => ∃ (kq : Nat) (x11_5 : Int), v11 = .int .i64 x11_5 ∧ Aside0 (spec_l1Shift.j1 kq a0 a1 a2 a3 x9_1 x10_1 x11_5 = some r) ∧ Aside0 (kq ≤ k1) ∧ Drawn0 w wc)
        case first =>
          have H := HC6.out
          clear HC6
          by_cases c7 : a0 = 16
          · rw [if_pos c7] at H
            have c7b0 : (a0 == 16) = true := beq_iff_eq.mpr c7
            have c7b1 : (a0 != 16) = false := bne_eq_false_iff_eq.mpr c7
            clear c7
            (first | rw [c7b0] | (simp only [i64_w, i32_w]; rw [c7b0]) | skip)
            have H' := Aside0.mk H
            clear H
            go_wp2
            go_meet
            case rel => exact ⟨_, (wrap64 (x10_1 - a3)), (by first | rfl | (simp; done) | (simp [*]; done) | (exfalso; simp only [beq_iff_eq] at *; omega)), H', ⟨by have := HK1.out; first | omega | exact Nat.le_refl _⟩, by repeat (first | exact Drawn0.refl _ | apply Drawn0.step)⟩
          · rw [if_neg c7] at H
            have c7b0 : (a0 == 16) = false := beq_eq_false_iff_ne.mpr c7
            have c7b1 : (a0 != 16) = true := bne_iff_ne.mpr c7
            (first | rw [c7b0] | (simp only [i64_w, i32_w]; rw [c7b0]) | skip)
            have H' := Aside0.mk H
            clear H
            go_wp2
            go_meet
            case rel => exact ⟨_, (wrap64 (x10_1 + a3)), (by first | rfl | (simp; done) | (simp [*]; done) | (exfalso; simp only [beq_iff_eq] at *; omega)), H', ⟨by have := HK1.out; first | omega | exact Nat.le_refl _⟩, by repeat (first | exact Drawn0.refl _ | apply Drawn0.step)⟩
        case rest =>
          clear HC6
          try clear p2
          try clear c5
          try clear c5b0
          try clear p6
          try clear c7
          try clear c7b0
          try clear c7b1
          try clear p2
          obtain ⟨kq, x11_5, rfl, HA, HJ5, ⟨mc5, rfl⟩⟩ := hcut
          cases kq with
          | zero => exact absurd HA.out (by simp [spec_l1Shift.j1])
          | succ kj5 =>
            have H := HA.out
            clear HA
            simp only [spec_l1Shift.j1] at H
            have HC8 := Aside0.mk H
            clear H
            go_upto_region 9 with (fail)
            go_cut [32] (fun v32 wc => ∃ (kq : Nat) (x32_7 : Bool), v32 = .bool x32_7 ∧ Aside0 (spec_l1Shift.j2 kq a0 a1 a2 a3 x9_1 x10_1 x11_5 0 x32_7 = some r) ∧ Aside0 (kq ≤ kj5) ∧ Drawn0 w wc)
            case first =>
              have H := HC8.out
              clear HC8
              by_cases c9 : x11_5 ≥ 0
              · rw [if_pos c9] at H
                have c9b0 : decide (0 ≤ x11_5) = true := decide_eq_true c9
                clear c9
                (first | rw [c9b0] | (simp only [i64_w, i32_w]; rw [c9b0]) | skip)
                have H' := Aside0.mk H
                clear H
                go_wp2
                go_meet
                case rel => exact ⟨_, (decide (x11_5 < a1)), (by first | rfl | (simp; done) | (simp [*]; done) | (exfalso; simp only [beq_iff_eq] at *; omega)), H', ⟨by have := HK1.out; have := HJ5.out; first | omega | exact Nat.le_refl _⟩, by repeat (first | exact Drawn0.refl _ | apply Drawn0.step)⟩
              · rw [if_neg c9] at H
                have c9b0 : decide (0 ≤ x11_5) = false := decide_eq_false c9
                clear c9
                (first | rw [c9b0] | (simp only [i64_w, i32_w]; rw [c9b0]) | skip)
                have H' := Aside0.mk H
                clear H
                go_wp2
                go_meet
                case rel => exact ⟨_, (false), (by first | rfl | (simp; done) | (simp [*]; done) | (exfalso; simp only [beq_iff_eq] at *; omega)), H', ⟨by have := HK1.out; have := HJ5.out; first | omega | exact Nat.le_refl _⟩, by repeat (first | exact Drawn0.refl _ | apply Drawn0.step)⟩
            case rest =>
              clear HC8
              try clear p2
              try clear c5
              try clear c5b0
              try clear p6
              try clear c7
              try clear c7b0
              try clear c7b1
              try clear c9
              try clear c9b0
              try clear p2
              try clear p6
              obtain ⟨kq, x32_7, rfl, HA, HJ7, ⟨mc7, rfl⟩⟩ := hcut
              cases kq with
              | zero => exact absurd HA.out (by simp [spec_l1Shift.j2])
              | succ kj7 =>
                have H := HA.out
                clear HA
                simp only [spec_l1Shift.j2] at H
                by_cases c10 : x32_7 = true
                · subst c10
                  have H1 : ((spec_l1Bit.f a2 x11_5).bind fun t118 => (if 0 ≤ (IntKind.u64.wrap (x10_1)) then (spec_l1Shift.l0 kj7 a0 a1 a2 a3 (wrap64 (x9_1 + (shl .i64 t118 (IntKind.u64.wrap (x10_1))))) (wrap64 (x10_1 + 1))) else (none))) = some r := by rw [if_pos rfl] at H; exact H
                  clear H
                  have H := H1
                  clear H1
                  replace H := Option.bind_eq_some_iff.mp H
                  obtain ⟨t118, A110, H⟩ := H
                  replace H : (if 0 ≤ (IntKind.u64.wrap (x10_1)) then (spec_l1Shift.l0 kj7 a0 a1 a2 a3 (wrap64 (x9_1 + (shl .i64 t118 (IntKind.u64.wrap (x10_1))))) (wrap64 (x10_1 + 1))) else (none)) = some r := H
                  have A11 := Aside0.mk A110
                  clear A110
                  obtain ⟨ji12, hji12⟩ : ∃ j_ : Int, (IntKind.u64.wrap (x10_1)) = j_ := ⟨_, rfl⟩
                  replace H : (if 0 ≤ (ji12) then (spec_l1Shift.l0 kj7 a0 a1 a2 a3 (wrap64 (x9_1 + (shl .i64 t118 (ji12)))) (wrap64 (x10_1 + 1))) else (none)) = some r := by first | (rw [hji12] at H; exact H) | (simp only [hji12] at H ⊢; exact H)
                  (try rw [hji12] at A11)
                  by_cases c13 : 0 ≤ (ji12)
                  · rw [if_pos c13] at H
                    have c13b0 := eq_true c13
                    have c13b1 : decide (0 ≤ (ji12)) = true := decide_eq_true c13
                    clear c13
                    obtain ⟨ji14, hji14⟩ : ∃ j_ : Int, (shl .i64 t118 (ji12)) = j_ := ⟨_, rfl⟩
                    replace H : (spec_l1Shift.l0 kj7 a0 a1 a2 a3 (wrap64 (x9_1 + (ji14))) (wrap64 (x10_1 + 1))) = some r := by first | (rw [hji14] at H; exact H) | (simp only [hji14] at H ⊢; exact H)
                    (try rw [hji14] at A11)
                    have hji14_ : (IntKind.i64.wrap (t118 * 2 ^ min (ji12).toNat 64)) = ji14 := hji14
                    have hji14z : (ji12) ≤ 64 → (IntKind.i64.wrap (t118 * 2 ^ (ji12).toNat)) = ji14 := shl_small hji14
                    have hji14y : (wrap64 (t118 * 2 ^ min (ji12).toNat 64)) = ji14 := (i64_w _).symm.trans hji14_
                    have hji14x : (ji12) ≤ 64 → (wrap64 (t118 * 2 ^ (ji12).toNat)) = ji14 := fun h_ => (i64_w _).symm.trans (hji14z h_)
                    have H' := Aside0.mk H
                    clear H
                    go_wp2_with (first | ((with_reducible refine gate_callee (f := 55) rfl ?_); refine goesL_ (some 35) rfl rfl Try.func55 (by kernel_rfl) rfl #[.int .i64 a2, .int .i64 x11_5] rfl (by (try simp only [List.map_toArray, List.map_cons, List.map_nil]); first | done | rfl | (simp only [List.length_drop, List.length_take]; rfl)) ?_; (with_reducible refine (spec_l1Bit.calls a2 x11_5 t118 _ A11.out).mono ?_); rintro e w' ⟨rfl, ⟨nd, rfl⟩⟩; refine ⟨_, rfl, ?_⟩))
                    go_roundg kj7
                    case measure => have := HK1.out; have := HJ5.out; have := HJ7.out; omega
                    case rel => exact ⟨(wrap64 (x9_1 + (ji14))), (wrap64 (x10_1 + 1)), (by first | rfl | (simp; done) | (simp only [← hji14] <;> (first | rfl | (simp; done) | (simp [shl, IntKind.wrap, IntKind.bits, IntKind.signed, wrap64]; done))) | (simp [*]; done) | (exfalso; simp only [beq_iff_eq] at *; omega)), (by first | rfl | (simp; done) | (simp [*]; done) | (exfalso; simp only [beq_iff_eq] at *; omega)), H', ⟨by have := HK1.out; have := HJ5.out; have := HJ7.out; omega⟩, by repeat (first | exact Drawn0.refl _ | apply Drawn0.step)⟩
                  · rw [if_neg c13] at H
                    exact absurd H (by simp)
                · replace c10 := Bool.eq_false_iff.mpr c10
                  subst c10
                  have H1 : (if a0 = 18 then ((spec_l1Bit.f a2 (wrap64 (a1 - 1))).bind fun t119 => (if 0 ≤ (IntKind.u64.wrap (x10_1)) then (spec_l1Shift.l0 kj7 a0 a1 a2 a3 (wrap64 (x9_1 + (shl .i64 t119 (IntKind.u64.wrap (x10_1))))) (wrap64 (x10_1 + 1))) else (none))) else (if 0 ≤ (IntKind.u64.wrap (x10_1)) then (spec_l1Shift.l0 kj7 a0 a1 a2 a3 (wrap64 (x9_1 + (shl .i64 0 (IntKind.u64.wrap (x10_1))))) (wrap64 (x10_1 + 1))) else (none))) = some r := by rw [if_neg (show ¬ (false = true) by decide)] at H; exact H
                  clear H
                  have H := H1
                  clear H1
                  by_cases c15 : a0 = 18
                  · rw [if_pos c15] at H
                    have c15b0 : (a0 == 18) = true := beq_iff_eq.mpr c15
                    have c15b1 : (a0 != 18) = false := bne_eq_false_iff_eq.mpr c15
                    clear c15
                    replace H := Option.bind_eq_some_iff.mp H
                    obtain ⟨t119, A160, H⟩ := H
                    replace H : (if 0 ≤ (IntKind.u64.wrap (x10_1)) then (spec_l1Shift.l0 kj7 a0 a1 a2 a3 (wrap64 (x9_1 + (shl .i64 t119 (IntKind.u64.wrap (x10_1))))) (wrap64 (x10_1 + 1))) else (none)) = some r := H
                    have A16 := Aside0.mk A160
                    clear A160
                    obtain ⟨ji17, hji17⟩ : ∃ j_ : Int, (IntKind.u64.wrap (x10_1)) = j_ := ⟨_, rfl⟩
                    replace H : (if 0 ≤ (ji17) then (spec_l1Shift.l0 kj7 a0 a1 a2 a3 (wrap64 (x9_1 + (shl .i64 t119 (ji17)))) (wrap64 (x10_1 + 1))) else (none)) = some r := by first | (rw [hji17] at H; exact H) | (simp only [hji17] at H ⊢; exact H)
                    (try rw [hji17] at A16)
                    by_cases c18 : 0 ≤ (ji17)
                    · rw [if_pos c18] at H
                      have c18b0 := eq_true c18
                      have c18b1 : decide (0 ≤ (ji17)) = true := decide_eq_true c18
                      clear c18
                      obtain ⟨ji19, hji19⟩ : ∃ j_ : Int, (shl .i64 t119 (ji17)) = j_ := ⟨_, rfl⟩
                      replace H : (spec_l1Shift.l0 kj7 a0 a1 a2 a3 (wrap64 (x9_1 + (ji19))) (wrap64 (x10_1 + 1))) = some r := by first | (rw [hji19] at H; exact H) | (simp only [hji19] at H ⊢; exact H)
                      (try rw [hji19] at A16)
                      have hji19_ : (IntKind.i64.wrap (t119 * 2 ^ min (ji17).toNat 64)) = ji19 := hji19
                      have hji19z : (ji17) ≤ 64 → (IntKind.i64.wrap (t119 * 2 ^ (ji17).toNat)) = ji19 := shl_small hji19
                      have hji19y : (wrap64 (t119 * 2 ^ min (ji17).toNat 64)) = ji19 := (i64_w _).symm.trans hji19_
                      have hji19x : (ji17) ≤ 64 → (wrap64 (t119 * 2 ^ (ji17).toNat)) = ji19 := fun h_ => (i64_w _).symm.trans (hji19z h_)
                      have H' := Aside0.mk H
                      clear H
                      go_wp2_with (first | ((with_reducible refine gate_callee (f := 55) rfl ?_); refine goesL_ (some 41) rfl rfl Try.func55 (by kernel_rfl) rfl #[.int .i64 a2, .int .i64 (wrap64 (a1 - 1))] rfl (by (try simp only [List.map_toArray, List.map_cons, List.map_nil]); first | done | rfl | (simp only [List.length_drop, List.length_take]; rfl)) ?_; (with_reducible refine (spec_l1Bit.calls a2 (wrap64 (a1 - 1)) t119 _ A16.out).mono ?_); rintro e w' ⟨rfl, ⟨nd, rfl⟩⟩; refine ⟨_, rfl, ?_⟩))
                      go_roundg kj7
                      case measure => have := HK1.out; have := HJ5.out; have := HJ7.out; omega
                      case rel => exact ⟨(wrap64 (x9_1 + (ji19))), (wrap64 (x10_1 + 1)), (by first | rfl | (simp; done) | (simp only [← hji19] <;> (first | rfl | (simp; done) | (simp [shl, IntKind.wrap, IntKind.bits, IntKind.signed, wrap64]; done))) | (simp [*]; done) | (exfalso; simp only [beq_iff_eq] at *; omega)), (by first | rfl | (simp; done) | (simp [*]; done) | (exfalso; simp only [beq_iff_eq] at *; omega)), H', ⟨by have := HK1.out; have := HJ5.out; have := HJ7.out; omega⟩, by repeat (first | exact Drawn0.refl _ | apply Drawn0.step)⟩
                    · rw [if_neg c18] at H
                      exact absurd H (by simp)
                  · rw [if_neg c15] at H
                    have c15b0 : (a0 == 18) = false := beq_eq_false_iff_ne.mpr c15
                    have c15b1 : (a0 != 18) = true := bne_iff_ne.mpr c15
                    obtain ⟨ji20, hji20⟩ : ∃ j_ : Int, (IntKind.u64.wrap (x10_1)) = j_ := ⟨_, rfl⟩
                    replace H : (if 0 ≤ (ji20) then (spec_l1Shift.l0 kj7 a0 a1 a2 a3 (wrap64 (x9_1 + (shl .i64 0 (ji20)))) (wrap64 (x10_1 + 1))) else (none)) = some r := by first | (rw [hji20] at H; exact H) | (simp only [hji20] at H ⊢; exact H)
                    by_cases c21 : 0 ≤ (ji20)
                    · rw [if_pos c21] at H
                      have c21b0 := eq_true c21
                      have c21b1 : decide (0 ≤ (ji20)) = true := decide_eq_true c21
                      clear c21
                      obtain ⟨ji22, hji22⟩ : ∃ j_ : Int, (shl .i64 0 (ji20)) = j_ := ⟨_, rfl⟩
                      replace H : (spec_l1Shift.l0 kj7 a0 a1 a2 a3 (wrap64 (x9_1 + (ji22))) (wrap64 (x10_1 + 1))) = some r := by first | (rw [hji22] at H; exact H) | (simp only [hji22] at H ⊢; exact H)
                      have hji22_ : (IntKind.i64.wrap (0 * 2 ^ min (ji20).toNat 64)) = ji22 := hji22
                      have hji22z : (ji20) ≤ 64 → (IntKind.i64.wrap (0 * 2 ^ (ji20).toNat)) = ji22 := shl_small hji22
                      have hji22y : (wrap64 (0 * 2 ^ min (ji20).toNat 64)) = ji22 := (i64_w _).symm.trans hji22_
                      have hji22x : (ji20) ≤ 64 → (wrap64 (0 * 2 ^ (ji20).toNat)) = ji22 := fun h_ => (i64_w _).symm.trans (hji22z h_)
                      have H' := Aside0.mk H
                      clear H
                      go_wp2
                      go_roundg kj7
                      case measure => have := HK1.out; have := HJ5.out; have := HJ7.out; omega
                      case rel => exact ⟨(wrap64 (x9_1 + (ji22))), (wrap64 (x10_1 + 1)), (by first | rfl | (simp; done) | (simp only [← hji22] <;> (first | rfl | (simp; done) | (simp [shl, IntKind.wrap, IntKind.bits, IntKind.signed, wrap64]; done))) | (simp [*]; done) | (exfalso; simp only [beq_iff_eq] at *; omega)), (by first | rfl | (simp; done) | (simp [*]; done) | (exfalso; simp only [beq_iff_eq] at *; omega)), H', ⟨by have := HK1.out; have := HJ5.out; have := HJ7.out; omega⟩, by repeat (first | exact Drawn0.refl _ | apply Drawn0.step)⟩
                    · rw [if_neg c21] at H
                      exact absurd H (by simp)
      · rw [if_neg c5] at H
        have c5b0 : decide (x10_1 < a1) = false := decide_eq_false c5
        clear c5
        obtain rfl := Option.some.inj H
        go_wp2
        go_ret
        exact ⟨by first | rfl | (simp; done) | (simp [*]; done) | (exfalso; simp only [beq_iff_eq] at *; omega), by repeat (first | exact Drawn0.refl _ | apply Drawn0.step)⟩

/-! ### spec_l1Turn: function 53 -/
def spec_l1Turn.l0 : Nat → Int → Int → Int → Int → Int → Int → Option (Int)
  | 0, _, _, _, _, _, _ => none
  | k + 1, x0, x1, x2, x3, x9, x10 => if x10 < x1 then (if x1 = 0 then (none) else (if x0 = 20 then ((spec_l1Bit.f x2 x10).bind fun t120 => (if 0 ≤ (IntKind.u64.wrap (Int.tmod (wrap64 ((wrap64 (x10 + x1)) - (Int.tmod x3 x1))) x1)) then (spec_l1Turn.l0 k x0 x1 x2 x3 (wrap64 (x9 + (shl .i64 t120 (IntKind.u64.wrap (Int.tmod (wrap64 ((wrap64 (x10 + x1)) - (Int.tmod x3 x1))) x1))))) (wrap64 (x10 + 1))) else (none))) else ((spec_l1Bit.f x2 x10).bind fun t121 => (if 0 ≤ (IntKind.u64.wrap (Int.tmod (wrap64 (x10 + (Int.tmod x3 x1))) x1)) then (spec_l1Turn.l0 k x0 x1 x2 x3 (wrap64 (x9 + (shl .i64 t121 (IntKind.u64.wrap (Int.tmod (wrap64 (x10 + (Int.tmod x3 x1))) x1))))) (wrap64 (x10 + 1))) else (none))))) else (some x9)
def spec_l1Turn.f (k : Nat) (a0 : Int) (a1 : Int) (a2 : Int) (a3 : Int) : Option (Int) := spec_l1Turn.l0 k a0 a1 a2 a3 0 0
theorem spec_l1Turn.mono_l : ∀ k, (∀ y0 y1 y2 y3 y4 y5, LeO (spec_l1Turn.l0 k y0 y1 y2 y3 y4 y5) (spec_l1Turn.l0 (k + 1) y0 y1 y2 y3 y4 y5))
  | 0 => fun _ _ _ _ _ _ r h => by simp [spec_l1Turn.l0] at h
  | k + 1 => by
    have ih0 := spec_l1Turn.mono_l k
    · intro y0 y1 y2 y3 y4 y5
      unfold spec_l1Turn.l0
      repeat' first
      | (with_reducible exact ih0 _ _ _ _ _ _)
      | (with_reducible exact LeO.refl _)
      | (with_reducible exact LeO.none _)
      | (with_reducible refine LeO.ite ?_ ?_)
      | (with_reducible refine LeO.bind ?_ (fun _ => ?_))
      | exact ih0 _ _ _ _ _ _
      | exact LeO.none _
      | refine LeO.ite ?_ ?_
      | refine LeO.bind ?_ (fun _ => ?_)
theorem spec_l1Turn.mono : ∀ a0 a1 a2 a3 k, LeO (spec_l1Turn.f k a0 a1 a2 a3) (spec_l1Turn.f (k + 1) a0 a1 a2 a3) := by
  intro a0 a1 a2 a3 k
  have ih0 := spec_l1Turn.mono_l k
  unfold spec_l1Turn.f
  repeat' first
      | (with_reducible exact ih0 _ _ _ _ _ _)
      | (with_reducible exact LeO.refl _)
      | (with_reducible exact LeO.none _)
      | (with_reducible refine LeO.ite ?_ ?_)
      | (with_reducible refine LeO.bind ?_ (fun _ => ?_))
      | exact ih0 _ _ _ _ _ _
      | exact LeO.none _
      | refine LeO.ite ?_ ?_
      | refine LeO.bind ?_ (fun _ => ?_)
set_option maxHeartbeats 8000000 in
set_option maxRecDepth 100000 in
theorem spec_l1Turn.calls (k : Nat) (a0 : Int) (a1 : Int) (a2 : Int) (a3 : Int) (r : Int) (w : World) (h : spec_l1Turn.f k a0 a1 a2 a3 = some r) :
    Calls Try.prog 53 #[.int .i64 a0, .int .i64 a1, .int .i64 a2, .int .i64 a3] w fun e w' => e = .returned (.int .i64 r) ∧ Drawn0 w w' := by
  have H : (spec_l1Turn.l0 k a0 a1 a2 a3 0 0) = some r := h
  clear h
  have H' := Aside0.mk H
  clear H
  go_enter Try.func53, Try.ntmps53
  go_wp2
  repeat (go_quiet (fail); try go_wp2)
  go_loopg [9, 10] k (fun kq v9 v10 w' => ∃ (x9_1 : Int) (x10_1 : Int), v9 = .int .i64 x9_1 ∧ v10 = .int .i64 x10_1 ∧ Aside0 (spec_l1Turn.l0 kq a0 a1 a2 a3 x9_1 x10_1 = some r) ∧ Aside0 (kq ≤ k) ∧ Drawn0 w w')
  case atStart => exact ⟨(0), (0), (by first | rfl | (simp; done) | (simp [*]; done) | (exfalso; simp only [beq_iff_eq] at *; omega)), (by first | rfl | (simp; done) | (simp [*]; done) | (exfalso; simp only [beq_iff_eq] at *; omega)), H', ⟨Nat.le_refl _⟩, by repeat (first | exact Drawn0.refl _ | apply Drawn0.step)⟩
  case round =>
    clear H'
    try clear p2
    obtain ⟨x9_1, x10_1, rfl, rfl, HA, HK1, ⟨m1, rfl⟩⟩ := hrel
    cases gk with
    | zero => exact absurd HA.out (by simp [spec_l1Turn.l0])
    | succ k1 =>
      have H := HA.out
      clear HA
      simp only [spec_l1Turn.l0] at H
      by_cases c5 : x10_1 < a1
      · rw [if_pos c5] at H
        have c5b0 : decide (x10_1 < a1) = true := decide_eq_true c5
        clear c5
        by_cases c6 : a1 = 0
        · rw [if_pos c6] at H
          exact absurd H (by simp)
        · rw [if_neg c6] at H
          have c6b0 : (a1 == 0) = false := beq_eq_false_iff_ne.mpr c6
          have c6b1 : (a1 != 0) = true := bne_iff_ne.mpr c6
          by_cases c7 : a0 = 20
          · rw [if_pos c7] at H
            have c7b0 : (a0 == 20) = true := beq_iff_eq.mpr c7
            have c7b1 : (a0 != 20) = false := bne_eq_false_iff_eq.mpr c7
            clear c7
            replace H := Option.bind_eq_some_iff.mp H
            obtain ⟨t120, A80, H⟩ := H
            replace H : (if 0 ≤ (IntKind.u64.wrap (Int.tmod (wrap64 ((wrap64 (x10_1 + a1)) - (Int.tmod a3 a1))) a1)) then (spec_l1Turn.l0 k1 a0 a1 a2 a3 (wrap64 (x9_1 + (shl .i64 t120 (IntKind.u64.wrap (Int.tmod (wrap64 ((wrap64 (x10_1 + a1)) - (Int.tmod a3 a1))) a1))))) (wrap64 (x10_1 + 1))) else (none)) = some r := H
            have A8 := Aside0.mk A80
            clear A80
            obtain ⟨ji9, hji9⟩ : ∃ j_ : Int, (IntKind.u64.wrap (Int.tmod (wrap64 ((wrap64 (x10_1 + a1)) - (Int.tmod a3 a1))) a1)) = j_ := ⟨_, rfl⟩
            replace H : (if 0 ≤ (ji9) then (spec_l1Turn.l0 k1 a0 a1 a2 a3 (wrap64 (x9_1 + (shl .i64 t120 (ji9)))) (wrap64 (x10_1 + 1))) else (none)) = some r := by first | (rw [hji9] at H; exact H) | (simp only [hji9] at H ⊢; exact H)
            (try rw [hji9] at A8)
            by_cases c10 : 0 ≤ (ji9)
            · rw [if_pos c10] at H
              have c10b0 := eq_true c10
              have c10b1 : decide (0 ≤ (ji9)) = true := decide_eq_true c10
              clear c10
              obtain ⟨ji11, hji11⟩ : ∃ j_ : Int, (shl .i64 t120 (ji9)) = j_ := ⟨_, rfl⟩
              replace H : (spec_l1Turn.l0 k1 a0 a1 a2 a3 (wrap64 (x9_1 + (ji11))) (wrap64 (x10_1 + 1))) = some r := by first | (rw [hji11] at H; exact H) | (simp only [hji11] at H ⊢; exact H)
              (try rw [hji11] at A8)
              have hji11_ : (IntKind.i64.wrap (t120 * 2 ^ min (ji9).toNat 64)) = ji11 := hji11
              have hji11z : (ji9) ≤ 64 → (IntKind.i64.wrap (t120 * 2 ^ (ji9).toNat)) = ji11 := shl_small hji11
              have hji11y : (wrap64 (t120 * 2 ^ min (ji9).toNat 64)) = ji11 := (i64_w _).symm.trans hji11_
              have hji11x : (ji9) ≤ 64 → (wrap64 (t120 * 2 ^ (ji9).toNat)) = ji11 := fun h_ => (i64_w _).symm.trans (hji11z h_)
              have H' := Aside0.mk H
              clear H
              go_wp2_with (first | (go_at_call 55; (with_reducible refine (spec_l1Bit.calls a2 x10_1 t120 _ A8.out).mono ?_); rintro e w' ⟨rfl, ⟨nd, rfl⟩⟩; (try first | exact ⟨rfl, _, World.drewN_drewN _ _ _⟩ | exact ⟨rfl, _, Eq.trans (World.drewN_drewN _ _ _) (congrArg (World.drewN _) (Nat.add_assoc _ _ _))⟩)))
              repeat (go_quiet (first | (go_at_call 55; (with_reducible refine (spec_l1Bit.calls a2 x10_1 t120 _ A8.out).mono ?_); rintro e w' ⟨rfl, ⟨nd, rfl⟩⟩; (try first | exact ⟨rfl, _, World.drewN_drewN _ _ _⟩ | exact ⟨rfl, _, Eq.trans (World.drewN_drewN _ _ _) (congrArg (World.drewN _) (Nat.add_assoc _ _ _))⟩))); try go_wp2_with (first | (go_at_call 55; (with_reducible refine (spec_l1Bit.calls a2 x10_1 t120 _ A8.out).mono ?_); rintro e w' ⟨rfl, ⟨nd, rfl⟩⟩; (try first | exact ⟨rfl, _, World.drewN_drewN _ _ _⟩ | exact ⟨rfl, _, Eq.trans (World.drewN_drewN _ _ _) (congrArg (World.drewN _) (Nat.add_assoc _ _ _))⟩))))
              go_roundg k1
              case measure => have := HK1.out; omega
              case rel => exact ⟨(wrap64 (x9_1 + (ji11))), (wrap64 (x10_1 + 1)), (by first | rfl | (simp; done) | (simp only [← hji11] <;> (first | rfl | (simp; done) | (simp [shl, IntKind.wrap, IntKind.bits, IntKind.signed, wrap64]; done))) | (simp [*]; done) | (exfalso; simp only [beq_iff_eq] at *; omega)), (by first | rfl | (simp; done) | (simp [*]; done) | (exfalso; simp only [beq_iff_eq] at *; omega)), H', ⟨by have := HK1.out; omega⟩, by repeat (first | exact Drawn0.refl _ | apply Drawn0.step)⟩
            · rw [if_neg c10] at H
              exact absurd H (by simp)
          · rw [if_neg c7] at H
            have c7b0 : (a0 == 20) = false := beq_eq_false_iff_ne.mpr c7
            have c7b1 : (a0 != 20) = true := bne_iff_ne.mpr c7
            replace H := Option.bind_eq_some_iff.mp H
            obtain ⟨t121, A120, H⟩ := H
            replace H : (if 0 ≤ (IntKind.u64.wrap (Int.tmod (wrap64 (x10_1 + (Int.tmod a3 a1))) a1)) then (spec_l1Turn.l0 k1 a0 a1 a2 a3 (wrap64 (x9_1 + (shl .i64 t121 (IntKind.u64.wrap (Int.tmod (wrap64 (x10_1 + (Int.tmod a3 a1))) a1))))) (wrap64 (x10_1 + 1))) else (none)) = some r := H
            have A12 := Aside0.mk A120
            clear A120
            obtain ⟨ji13, hji13⟩ : ∃ j_ : Int, (IntKind.u64.wrap (Int.tmod (wrap64 (x10_1 + (Int.tmod a3 a1))) a1)) = j_ := ⟨_, rfl⟩
            replace H : (if 0 ≤ (ji13) then (spec_l1Turn.l0 k1 a0 a1 a2 a3 (wrap64 (x9_1 + (shl .i64 t121 (ji13)))) (wrap64 (x10_1 + 1))) else (none)) = some r := by first | (rw [hji13] at H; exact H) | (simp only [hji13] at H ⊢; exact H)
            (try rw [hji13] at A12)
            by_cases c14 : 0 ≤ (ji13)
            · rw [if_pos c14] at H
              have c14b0 := eq_true c14
              have c14b1 : decide (0 ≤ (ji13)) = true := decide_eq_true c14
              clear c14
              obtain ⟨ji15, hji15⟩ : ∃ j_ : Int, (shl .i64 t121 (ji13)) = j_ := ⟨_, rfl⟩
              replace H : (spec_l1Turn.l0 k1 a0 a1 a2 a3 (wrap64 (x9_1 + (ji15))) (wrap64 (x10_1 + 1))) = some r := by first | (rw [hji15] at H; exact H) | (simp only [hji15] at H ⊢; exact H)
              (try rw [hji15] at A12)
              have hji15_ : (IntKind.i64.wrap (t121 * 2 ^ min (ji13).toNat 64)) = ji15 := hji15
              have hji15z : (ji13) ≤ 64 → (IntKind.i64.wrap (t121 * 2 ^ (ji13).toNat)) = ji15 := shl_small hji15
              have hji15y : (wrap64 (t121 * 2 ^ min (ji13).toNat 64)) = ji15 := (i64_w _).symm.trans hji15_
              have hji15x : (ji13) ≤ 64 → (wrap64 (t121 * 2 ^ (ji13).toNat)) = ji15 := fun h_ => (i64_w _).symm.trans (hji15z h_)
              have H' := Aside0.mk H
              clear H
              go_wp2_with (first | (go_at_call 55; (with_reducible refine (spec_l1Bit.calls a2 x10_1 t121 _ A12.out).mono ?_); rintro e w' ⟨rfl, ⟨nd, rfl⟩⟩; (try first | exact ⟨rfl, _, World.drewN_drewN _ _ _⟩ | exact ⟨rfl, _, Eq.trans (World.drewN_drewN _ _ _) (congrArg (World.drewN _) (Nat.add_assoc _ _ _))⟩)))
              repeat (go_quiet (first | (go_at_call 55; (with_reducible refine (spec_l1Bit.calls a2 x10_1 t121 _ A12.out).mono ?_); rintro e w' ⟨rfl, ⟨nd, rfl⟩⟩; (try first | exact ⟨rfl, _, World.drewN_drewN _ _ _⟩ | exact ⟨rfl, _, Eq.trans (World.drewN_drewN _ _ _) (congrArg (World.drewN _) (Nat.add_assoc _ _ _))⟩))); try go_wp2_with (first | (go_at_call 55; (with_reducible refine (spec_l1Bit.calls a2 x10_1 t121 _ A12.out).mono ?_); rintro e w' ⟨rfl, ⟨nd, rfl⟩⟩; (try first | exact ⟨rfl, _, World.drewN_drewN _ _ _⟩ | exact ⟨rfl, _, Eq.trans (World.drewN_drewN _ _ _) (congrArg (World.drewN _) (Nat.add_assoc _ _ _))⟩))))
              go_roundg k1
              case measure => have := HK1.out; omega
              case rel => exact ⟨(wrap64 (x9_1 + (ji15))), (wrap64 (x10_1 + 1)), (by first | rfl | (simp; done) | (simp only [← hji15] <;> (first | rfl | (simp; done) | (simp [shl, IntKind.wrap, IntKind.bits, IntKind.signed, wrap64]; done))) | (simp [*]; done) | (exfalso; simp only [beq_iff_eq] at *; omega)), (by first | rfl | (simp; done) | (simp [*]; done) | (exfalso; simp only [beq_iff_eq] at *; omega)), H', ⟨by have := HK1.out; omega⟩, by repeat (first | exact Drawn0.refl _ | apply Drawn0.step)⟩
            · rw [if_neg c14] at H
              exact absurd H (by simp)
      · rw [if_neg c5] at H
        have c5b0 : decide (x10_1 < a1) = false := decide_eq_false c5
        clear c5
        obtain rfl := Option.some.inj H
        go_wp2
        repeat (go_quiet (fail); try go_wp2)
        go_ret
        exact ⟨by first | rfl | (simp; done) | (simp [*]; done) | (exfalso; simp only [beq_iff_eq] at *; omega), by repeat (first | exact Drawn0.refl _ | apply Drawn0.step)⟩

end Go.Proofs.Ytbacmlbdgolcfaa.PFnExactWordTwo
