-- Written by a program of this session (wip/pp).
import Derived.Test.YtohojfcpnlobjaaPFnRingx0
import Derived.Test.YtohojfcpnlobjaaPFnRingx1
namespace Go.Proofs.Ytohojfcpnlobjaa.PFnRing
open Go.RowKit Go.Proofs.YtohojfcpnlobjaaW.PrintWords Go.Proofs.YtohojfcpnlobjaaW.PrintLast Go.Proofs.YtohojfcpnlobjaaW.PrintMore
attribute [local go_sem] max2_int min2_int max_two min_two max_three min_three max_four min_four   -- for this text's walks alone
set_option linter.unusedVariables false
set_option linter.unusedSimpArgs false

/-! ### impl_WordOk: function 27 -/
def impl_WordOk.f (a0 : Int) (a1 : Int) : Option (Bool) := (impl_isWidth.f a0).bind fun t153 => (if t153 = true then ((impl_mask.f a0).bind fun t154 => ((impl_in.f a1 0 t154).bind fun t155 => (some t155))) else (some false))
set_option maxHeartbeats 8000000 in
set_option maxRecDepth 100000 in
theorem impl_WordOk.calls (a0 : Int) (a1 : Int) (r : Bool) (w : World) (h : impl_WordOk.f a0 a1 = some r) :
    Calls Try.prog 27 #[.int .i64 a0, .int .i64 a1] w fun e w' => e = .returned (.bool r) ∧ Drawn0 w w' := by
  have H : ((impl_isWidth.f a0).bind fun t153 => (if t153 = true then ((impl_mask.f a0).bind fun t154 => ((impl_in.f a1 0 t154).bind fun t155 => (some t155))) else (some false))) = some r := h
  clear h
  replace H := Option.bind_eq_some_iff.mp H
  obtain ⟨t153, A30, H⟩ := H
  replace H : (if t153 = true then ((impl_mask.f a0).bind fun t154 => ((impl_in.f a1 0 t154).bind fun t155 => (some t155))) else (some false)) = some r := H
  have A3 := Aside0.mk A30
  clear A30
  by_cases c4 : t153 = true
  · subst c4
    have H1 : ((impl_mask.f a0).bind fun t154 => ((impl_in.f a1 0 t154).bind fun t155 => (some t155))) = some r := by rw [if_pos rfl] at H; exact H
    clear H
    have H := H1
    clear H1
    replace H := Option.bind_eq_some_iff.mp H
    obtain ⟨t154, A50, H⟩ := H
    replace H : ((impl_in.f a1 0 t154).bind fun t155 => (some t155)) = some r := H
    have A5 := Aside0.mk A50
    clear A50
    replace H := Option.bind_eq_some_iff.mp H
    obtain ⟨t155, A60, H⟩ := H
    replace H : (some t155) = some r := H
    have A6 := Aside0.mk A60
    clear A60
    obtain rfl := Option.some.inj H
    go_enter Try.func27, Try.ntmps27
    go_wp2_with (first | ((with_reducible refine gate_callee (f := 36) rfl ?_); refine goesL_ (some 6) rfl rfl Try.func36 (by kernel_rfl) rfl #[.int .i64 a0] rfl (by (try simp only [List.map_toArray, List.map_cons, List.map_nil]); first | done | rfl | (simp only [List.length_drop, List.length_take]; rfl)) ?_; (with_reducible refine (impl_isWidth.calls a0 true _ A3.out).mono ?_); rintro e w' ⟨rfl, ⟨nd, rfl⟩⟩; refine ⟨_, rfl, ?_⟩) | (go_at_call 29; (with_reducible refine (impl_mask.calls a0 t154 _ A5.out).mono ?_); rintro e w' ⟨rfl, ⟨nd, rfl⟩⟩) | (go_at_call 28; (with_reducible refine (impl_in.calls a1 0 t154 t155 _ A6.out).mono ?_); rintro e w' ⟨rfl, ⟨nd, rfl⟩⟩))
    go_ret
    exact ⟨by first | rfl | (simp; done) | (simp [*]; done) | (exfalso; simp only [beq_iff_eq] at *; omega), by repeat (first | exact Drawn0.refl _ | apply Drawn0.step)⟩
  · replace c4 := Bool.eq_false_iff.mpr c4
    subst c4
    have H1 : (some false) = some r := by rw [if_neg (show ¬ (false = true) by decide)] at H; exact H
    clear H
    have H := H1
    clear H1
    obtain rfl := Option.some.inj H
    go_enter Try.func27, Try.ntmps27
    go_wp2_with (first | ((with_reducible refine gate_callee (f := 36) rfl ?_); refine goesL_ (some 6) rfl rfl Try.func36 (by kernel_rfl) rfl #[.int .i64 a0] rfl (by (try simp only [List.map_toArray, List.map_cons, List.map_nil]); first | done | rfl | (simp only [List.length_drop, List.length_take]; rfl)) ?_; (with_reducible refine (impl_isWidth.calls a0 false _ A3.out).mono ?_); rintro e w' ⟨rfl, ⟨nd, rfl⟩⟩; refine ⟨_, rfl, ?_⟩))
    go_ret
    exact ⟨by first | rfl | (simp; done) | (simp [*]; done) | (exfalso; simp only [beq_iff_eq] at *; omega), by repeat (first | exact Drawn0.refl _ | apply Drawn0.step)⟩

/-! ### impl_signed: function 31 -/
def impl_signed.f (a0 : Int) (a1 : Int) : Option (Int) := if 0 ≤ (wrap64 (a0 - 1)) then (if 0 ≤ a0 then (some (wrap64 (a1 - (shl .i64 (shr .i64 a1 (wrap64 (a0 - 1))) a0)))) else (none)) else (none)
set_option maxHeartbeats 8000000 in
set_option maxRecDepth 100000 in
theorem impl_signed.calls (a0 : Int) (a1 : Int) (r : Int) (w : World) (h : impl_signed.f a0 a1 = some r) :
    Calls Try.prog 31 #[.int .i64 a0, .int .i64 a1] w fun e w' => e = .returned (.int .i64 r) ∧ Drawn0 w w' := by
  have H : (if 0 ≤ (wrap64 (a0 - 1)) then (if 0 ≤ a0 then (some (wrap64 (a1 - (shl .i64 (shr .i64 a1 (wrap64 (a0 - 1))) a0)))) else (none)) else (none)) = some r := h
  clear h
  obtain ⟨ji3, hji3⟩ : ∃ j_ : Int, (wrap64 (a0 - 1)) = j_ := ⟨_, rfl⟩
  replace H : (if 0 ≤ (ji3) then (if 0 ≤ a0 then (some (wrap64 (a1 - (shl .i64 (shr .i64 a1 (ji3)) a0)))) else (none)) else (none)) = some r := by first | (rw [hji3] at H; exact H) | (simp only [hji3] at H ⊢; exact H)
  have hji3w : (IntKind.i64.wrap (a0 - 1)) = ji3 := (i64_w _).trans hji3
  by_cases c4 : 0 ≤ (ji3)
  · rw [if_pos c4] at H
    have c4b0 := eq_true c4
    have c4b1 : decide (0 ≤ (ji3)) = true := decide_eq_true c4
    clear c4
    obtain ⟨ji5, hji5⟩ : ∃ j_ : Int, (shr .i64 a1 (ji3)) = j_ := ⟨_, rfl⟩
    replace H : (if 0 ≤ a0 then (some (wrap64 (a1 - (shl .i64 (ji5) a0)))) else (none)) = some r := by first | (rw [hji5] at H; exact H) | (simp only [hji5] at H ⊢; exact H)
    have hji5_ : (a1 / 2 ^ min (ji3).toNat 64) = ji5 := hji5
    have hji5z : (ji3) ≤ 64 → (a1 / 2 ^ (ji3).toNat) = ji5 := shr_small hji5
    by_cases c6 : 0 ≤ a0
    · rw [if_pos c6] at H
      have c6b0 := eq_true c6
      have c6b1 : decide (0 ≤ a0) = true := decide_eq_true c6
      clear c6
      obtain ⟨ji7, hji7⟩ : ∃ j_ : Int, (shl .i64 (ji5) a0) = j_ := ⟨_, rfl⟩
      replace H : (some (wrap64 (a1 - (ji7)))) = some r := by first | (rw [hji7] at H; exact H) | (simp only [hji7] at H ⊢; exact H)
      have hji7_ : (IntKind.i64.wrap ((ji5) * 2 ^ min a0.toNat 64)) = ji7 := hji7
      have hji7z : a0 ≤ 64 → (IntKind.i64.wrap ((ji5) * 2 ^ a0.toNat)) = ji7 := shl_small hji7
      have hji7y : (wrap64 ((ji5) * 2 ^ min a0.toNat 64)) = ji7 := (i64_w _).symm.trans hji7_
      have hji7x : a0 ≤ 64 → (wrap64 ((ji5) * 2 ^ a0.toNat)) = ji7 := fun h_ => (i64_w _).symm.trans (hji7z h_)
      obtain rfl := Option.some.inj H
      go_enter Try.func31, Try.ntmps31
      go_wp2
      go_ret
      exact ⟨by first | rfl | (simp; done) | (simp only [← hji3, ← hji5, ← hji7] <;> (first | rfl | (simp; done) | (simp [shl, IntKind.wrap, IntKind.bits, IntKind.signed, wrap64]; done))) | (simp [*]; done) | (exfalso; simp only [beq_iff_eq] at *; omega), by repeat (first | exact Drawn0.refl _ | apply Drawn0.step)⟩
    · rw [if_neg c6] at H
      exact absurd H (by simp)
  · rw [if_neg c4] at H
    exact absurd H (by simp)

/-! ### impl_divided: function 37 -/
mutual
def impl_divided.j0 : Nat → Int → Int → Int → Int → Int → Bool → Option (Int)
  | 0, _, _, _, _, _, _ => none
  | k + 1, x0, x1, x2, x9, x10, x17 => if x17 = true then (some x2) else (if x10 = 0 then (impl_divided.j1 k x0 x1 x9 x10 (decide (x9 < 0))) else (impl_divided.j1 k x0 x1 x9 x10 false))
def impl_divided.j1 : Nat → Int → Int → Int → Int → Bool → Option (Int)
  | 0, _, _, _, _, _ => none
  | k + 1, x0, x1, x9, x10, x25 => if x25 = true then (some 1) else (if x10 = 0 then ((impl_mask.f x1).bind fun t158 => (some t158)) else (if x0 = 14 then ((impl_mask.f x1).bind fun t159 => (some (Go.bits .and .i64 (wrap64 (Int.tdiv x9 x10)) t159))) else ((impl_mask.f x1).bind fun t160 => (some (Go.bits .and .i64 (Int.tmod x9 x10) t160)))))
end
def impl_divided.f (k : Nat) (a0 : Int) (a1 : Int) (a2 : Int) (a3 : Int) : Option (Int) := (impl_signed.f a1 a2).bind fun t156 => ((impl_signed.f a1 a3).bind fun t157 => (if t157 = 0 then (impl_divided.j0 k a0 a1 a2 t156 t157 (a0 == 15)) else (impl_divided.j0 k a0 a1 a2 t156 t157 false)))
theorem impl_divided.mono_l : ∀ k, (∀ y0 y1 y2 y3 y4 y5, LeO (impl_divided.j0 k y0 y1 y2 y3 y4 y5) (impl_divided.j0 (k + 1) y0 y1 y2 y3 y4 y5)) ∧ (∀ y0 y1 y2 y3 y4, LeO (impl_divided.j1 k y0 y1 y2 y3 y4) (impl_divided.j1 (k + 1) y0 y1 y2 y3 y4))
  | 0 => ⟨fun _ _ _ _ _ _ r h => by simp [impl_divided.j0] at h, fun _ _ _ _ _ r h => by simp [impl_divided.j1] at h⟩
  | k + 1 => by
    obtain ⟨ih0, ih1⟩ := impl_divided.mono_l k
    refine ⟨?_, ?_⟩
    · intro y0 y1 y2 y3 y4 y5
      unfold impl_divided.j0
      repeat' first
      | (with_reducible exact ih0 _ _ _ _ _ _)
      | (with_reducible exact ih1 _ _ _ _ _)
      | (with_reducible exact LeO.refl _)
      | (with_reducible exact LeO.none _)
      | (with_reducible refine LeO.ite ?_ ?_)
      | (with_reducible refine LeO.bind ?_ (fun _ => ?_))
      | exact ih0 _ _ _ _ _ _
      | exact ih1 _ _ _ _ _
      | exact LeO.none _
      | refine LeO.ite ?_ ?_
      | refine LeO.bind ?_ (fun _ => ?_)
    · intro y0 y1 y2 y3 y4
      unfold impl_divided.j1
      repeat' first
      | (with_reducible exact ih0 _ _ _ _ _ _)
      | (with_reducible exact ih1 _ _ _ _ _)
      | (with_reducible exact LeO.refl _)
      | (with_reducible exact LeO.none _)
      | (with_reducible refine LeO.ite ?_ ?_)
      | (with_reducible refine LeO.bind ?_ (fun _ => ?_))
      | exact ih0 _ _ _ _ _ _
      | exact ih1 _ _ _ _ _
      | exact LeO.none _
      | refine LeO.ite ?_ ?_
      | refine LeO.bind ?_ (fun _ => ?_)
theorem impl_divided.mono : ∀ a0 a1 a2 a3 k, LeO (impl_divided.f k a0 a1 a2 a3) (impl_divided.f (k + 1) a0 a1 a2 a3) := by
  intro a0 a1 a2 a3 k
  obtain ⟨ih0, ih1⟩ := impl_divided.mono_l k
  unfold impl_divided.f
  repeat' first
      | (with_reducible exact ih0 _ _ _ _ _ _)
      | (with_reducible exact ih1 _ _ _ _ _)
      | (with_reducible exact LeO.refl _)
      | (with_reducible exact LeO.none _)
      | (with_reducible refine LeO.ite ?_ ?_)
      | (with_reducible refine LeO.bind ?_ (fun _ => ?_))
      | exact ih0 _ _ _ _ _ _
      | exact ih1 _ _ _ _ _
      | exact LeO.none _
      | refine LeO.ite ?_ ?_
      | refine LeO.bind ?_ (fun _ => ?_)
set_option maxHeartbeats 8000000 in
set_option maxRecDepth 100000 in
theorem impl_divided.calls (k : Nat) (a0 : Int) (a1 : Int) (a2 : Int) (a3 : Int) (r : Int) (w : World) (h : impl_divided.f k a0 a1 a2 a3 = some r) :
    Calls Try.prog 37 #[.int .i64 a0, .int .i64 a1, .int .i64 a2, .int .i64 a3] w fun e w' => e = .returned (.int .i64 r) ∧ Drawn0 w w' := by
  have H : ((impl_signed.f a1 a2).bind fun t156 => ((impl_signed.f a1 a3).bind fun t157 => (if t157 = 0 then (impl_divided.j0 k a0 a1 a2 t156 t157 (a0 == 15)) else (impl_divided.j0 k a0 a1 a2 t156 t157 false)))) = some r := h
  clear h
  replace H := Option.bind_eq_some_iff.mp H
  obtain ⟨t156, A50, H⟩ := H
  replace H : ((impl_signed.f a1 a3).bind fun t157 => (if t157 = 0 then (impl_divided.j0 k a0 a1 a2 t156 t157 (a0 == 15)) else (impl_divided.j0 k a0 a1 a2 t156 t157 false))) = some r := H
  have A5 := Aside0.mk A50
  clear A50
  replace H := Option.bind_eq_some_iff.mp H
  obtain ⟨t157, A60, H⟩ := H
  replace H : (if t157 = 0 then (impl_divided.j0 k a0 a1 a2 t156 t157 (a0 == 15)) else (impl_divided.j0 k a0 a1 a2 t156 t157 false)) = some r := H
  have A6 := Aside0.mk A60
  clear A60
  have HC7 := Aside0.mk H
  clear H
  go_enter Try.func37, Try.ntmps37
  go_upto_region 2 with (first | (go_at_call 31; (with_reducible refine (impl_signed.calls a1 a2 t156 _ A5.out).mono ?_); rintro e w' ⟨rfl, ⟨nd, rfl⟩⟩; (try first | exact ⟨rfl, _, World.drewN_drewN _ _ _⟩ | exact ⟨rfl, _, Eq.trans (World.drewN_drewN _ _ _) (congrArg (World.drewN _) (Nat.add_assoc _ _ _))⟩)) | (go_at_call 31; (with_reducible refine (impl_signed.calls a1 a3 t157 _ A6.out).mono ?_); rintro e w' ⟨rfl, ⟨nd, rfl⟩⟩; (try first | exact ⟨rfl, _, World.drewN_drewN _ _ _⟩ | exact ⟨rfl, _, Eq.trans (World.drewN_drewN _ _ _) (congrArg (World.drewN _) (Nat.add_assoc _ _ _))⟩)))
  repeat (go_quiet (first | (go_at_call 31; (with_reducible refine (impl_signed.calls a1 a2 t156 _ A5.out).mono ?_); rintro e w' ⟨rfl, ⟨nd, rfl⟩⟩; (try first | exact ⟨rfl, _, World.drewN_drewN _ _ _⟩ | exact ⟨rfl, _, Eq.trans (World.drewN_drewN _ _ _) (congrArg (World.drewN _) (Nat.add_assoc _ _ _))⟩)) | (go_at_call 31; (with_reducible refine (impl_signed.calls a1 a3 t157 _ A6.out).mono ?_); rintro e w' ⟨rfl, ⟨nd, rfl⟩⟩; (try first | exact ⟨rfl, _, World.drewN_drewN _ _ _⟩ | exact ⟨rfl, _, Eq.trans (World.drewN_drewN _ _ _) (congrArg (World.drewN _) (Nat.add_assoc _ _ _))⟩))); go_upto_region 2 with (first | (go_at_call 31; (with_reducible refine (impl_signed.calls a1 a2 t156 _ A5.out).mono ?_); rintro e w' ⟨rfl, ⟨nd, rfl⟩⟩; (try first | exact ⟨rfl, _, World.drewN_drewN _ _ _⟩ | exact ⟨rfl, _, Eq.trans (World.drewN_drewN _ _ _) (congrArg (World.drewN _) (Nat.add_assoc _ _ _))⟩)) | (go_at_call 31; (with_reducible refine (impl_signed.calls a1 a3 t157 _ A6.out).mono ?_); rintro e w' ⟨rfl, ⟨nd, rfl⟩⟩; (try first | exact ⟨rfl, _, World.drewN_drewN _ _ _⟩ | exact ⟨rfl, _, Eq.trans (World.drewN_drewN _ _ _) (congrArg (World.drewN _) (Nat.add_assoc _ _ _))⟩))))
  (try simp only [Act.put, List.setIfInBounds_toArray, List.set_cons_zero, List.set_cons_succ])
  go_cut [17] (fun v17 wc => ∃ (kq : Nat) (x17_6 : Bool), v17 = .bool x17_6 ∧ Aside0 (impl_divided.j0 kq a0 a1 a2 t156 t157 x17_6 = some r) ∧ Aside0 (kq ≤ k) ∧ Drawn0 w wc)
  case first =>
    have H := HC7.out
    clear HC7
    by_cases c8 : t157 = 0
    · rw [if_pos c8] at H
      have c8b0 : (t157 == 0) = true := beq_iff_eq.mpr c8
      have c8b1 : (t157 != 0) = false := bne_eq_false_iff_eq.mpr c8
      clear c8
      (first | rw [c8b0] | (simp only [i64_w, i32_w]; rw [c8b0]) | skip)
      have H' := Aside0.mk H
      clear H
      go_wp2
      repeat (go_quiet (fail); try go_wp2)
      go_meet
      case rel => exact ⟨_, ((a0 == 15)), (by first | rfl | (simp; done) | (simp [*]; done) | (exfalso; simp only [beq_iff_eq] at *; omega)), H', ⟨by first | omega | exact Nat.le_refl _⟩, by repeat (first | exact Drawn0.refl _ | apply Drawn0.step)⟩
    · rw [if_neg c8] at H
      have c8b0 : (t157 == 0) = false := beq_eq_false_iff_ne.mpr c8
      have c8b1 : (t157 != 0) = true := bne_iff_ne.mpr c8
      (first | rw [c8b0] | (simp only [i64_w, i32_w]; rw [c8b0]) | skip)
      have H' := Aside0.mk H
      clear H
      go_wp2
      repeat (go_quiet (fail); try go_wp2)
      go_meet
      case rel => exact ⟨_, (false), (by first | rfl | (simp; done) | (simp [*]; done) | (exfalso; simp only [beq_iff_eq] at *; omega)), H', ⟨by first | omega | exact Nat.le_refl _⟩, by repeat (first | exact Drawn0.refl _ | apply Drawn0.step)⟩
  case rest =>
    clear HC7
    try clear p2
    try clear c3
    try clear c8
    try clear c8b0
    try clear c8b1
    obtain ⟨kq, x17_6, rfl, HA, HJ6, ⟨mc6, rfl⟩⟩ := hcut
    cases kq with
    | zero => exact absurd HA.out (by simp [impl_divided.j0])
    | succ kj6 =>
      have H := HA.out
      clear HA
      simp only [impl_divided.j0] at H
      by_cases c9 : x17_6 = true
      · subst c9
        have H1 : (some a2) = some r := by rw [if_pos rfl] at H; exact H
        clear H
        have H := H1
        clear H1
        obtain rfl := Option.some.inj H
        go_wp2
        repeat (go_quiet (fail); try go_wp2)
        go_ret
        exact ⟨by first | rfl | (simp; done) | (simp [*]; done) | (exfalso; simp only [beq_iff_eq] at *; omega), by repeat (first | exact Drawn0.refl _ | apply Drawn0.step)⟩
      · replace c9 := Bool.eq_false_iff.mpr c9
        subst c9
        have H1 : (if t157 = 0 then (impl_divided.j1 kj6 a0 a1 t156 t157 (decide (t156 < 0))) else (impl_divided.j1 kj6 a0 a1 t156 t157 false)) = some r := by rw [if_neg (show ¬ (false = true) by decide)] at H; exact H
        clear H
        have H := H1
        clear H1
        have HC10 := Aside0.mk H
        clear H
        go_upto_region 4 with (fail)
        repeat (go_quiet (fail); go_upto_region 4 with (fail))
        go_cut [25] (fun v25 wc => ∃ (kq : Nat) (x25_9 : Bool), v25 = .bool x25_9 ∧ Aside0 (impl_divided.j1 kq a0 a1 t156 t157 x25_9 = some r) ∧ Aside0 (kq ≤ kj6) ∧ Drawn0 w wc)
        case first =>
          have H := HC10.out
          clear HC10
          by_cases c11 : t157 = 0
          · rw [if_pos c11] at H
            have c11b0 : (t157 == 0) = true := beq_iff_eq.mpr c11
            have c11b1 : (t157 != 0) = false := bne_eq_false_iff_eq.mpr c11
            clear c11
            (first | rw [c11b0] | (simp only [i64_w, i32_w]; rw [c11b0]) | skip)
            have H' := Aside0.mk H
            clear H
            go_wp2
            repeat (go_quiet (fail); try go_wp2)
            go_meet
            case rel => exact ⟨_, (decide (t156 < 0)), (by first | rfl | (simp; done) | (simp [*]; done) | (exfalso; simp only [beq_iff_eq] at *; omega)), H', ⟨by have := HJ6.out; first | omega | exact Nat.le_refl _⟩, by repeat (first | exact Drawn0.refl _ | apply Drawn0.step)⟩
          · rw [if_neg c11] at H
            have c11b0 : (t157 == 0) = false := beq_eq_false_iff_ne.mpr c11
            have c11b1 : (t157 != 0) = true := bne_iff_ne.mpr c11
            (first | rw [c11b0] | (simp only [i64_w, i32_w]; rw [c11b0]) | skip)
            have H' := Aside0.mk H
            clear H
            go_wp2
            repeat (go_quiet (fail); try go_wp2)
            go_meet
            case rel => exact ⟨_, (false), (by first | rfl | (simp; done) | (simp [*]; done) | (exfalso; simp only [beq_iff_eq] at *; omega)), H', ⟨by have := HJ6.out; first | omega | exact Nat.le_refl _⟩, by repeat (first | exact Drawn0.refl _ | apply Drawn0.step)⟩
        case rest =>
          clear HC10
          try clear c1
          try clear p2
          try clear c3
          try clear c6
          try clear c8
          try clear c8b0
          try clear c8b1
          try clear c9
          try clear c11
          try clear c11b0
          try clear c11b1
          try clear p2
          obtain ⟨kq, x25_9, rfl, HA, HJ9, ⟨mc9, rfl⟩⟩ := hcut
          cases kq with
          | zero => exact absurd HA.out (by simp [impl_divided.j1])
          | succ kj9 =>
            have H := HA.out
            clear HA
            simp only [impl_divided.j1] at H
            by_cases c12 : x25_9 = true
            · subst c12
              have H1 : (some 1) = some r := by rw [if_pos rfl] at H; exact H
              clear H
              have H := H1
              clear H1
              obtain rfl := Option.some.inj H
              go_wp2
              repeat (go_quiet (fail); try go_wp2)
              go_ret
              exact ⟨by first | rfl | (simp; done) | (simp [*]; done) | (exfalso; simp only [beq_iff_eq] at *; omega), by repeat (first | exact Drawn0.refl _ | apply Drawn0.step)⟩
            · replace c12 := Bool.eq_false_iff.mpr c12
              subst c12
              have H1 : (if t157 = 0 then ((impl_mask.f a1).bind fun t158 => (some t158)) else (if a0 = 14 then ((impl_mask.f a1).bind fun t159 => (some (Go.bits .and .i64 (wrap64 (Int.tdiv t156 t157)) t159))) else ((impl_mask.f a1).bind fun t160 => (some (Go.bits .and .i64 (Int.tmod t156 t157) t160))))) = some r := by rw [if_neg (show ¬ (false = true) by decide)] at H; exact H
              clear H
              have H := H1
              clear H1
              by_cases c13 : t157 = 0
              · rw [if_pos c13] at H
                have c13b0 : (t157 == 0) = true := beq_iff_eq.mpr c13
                have c13b1 : (t157 != 0) = false := bne_eq_false_iff_eq.mpr c13
                clear c13
                replace H := Option.bind_eq_some_iff.mp H
                obtain ⟨t158, A140, H⟩ := H
                replace H : (some t158) = some r := H
                have A14 := Aside0.mk A140
                clear A140
                obtain rfl := Option.some.inj H
                go_wp2_with (first | (go_at_call 29; (with_reducible refine (impl_mask.calls a1 t158 _ A14.out).mono ?_); rintro e w' ⟨rfl, ⟨nd, rfl⟩⟩; (try first | exact ⟨rfl, _, World.drewN_drewN _ _ _⟩ | exact ⟨rfl, _, Eq.trans (World.drewN_drewN _ _ _) (congrArg (World.drewN _) (Nat.add_assoc _ _ _))⟩)))
                repeat (go_quiet (first | (go_at_call 29; (with_reducible refine (impl_mask.calls a1 t158 _ A14.out).mono ?_); rintro e w' ⟨rfl, ⟨nd, rfl⟩⟩; (try first | exact ⟨rfl, _, World.drewN_drewN _ _ _⟩ | exact ⟨rfl, _, Eq.trans (World.drewN_drewN _ _ _) (congrArg (World.drewN _) (Nat.add_assoc _ _ _))⟩))); try go_wp2_with (first | (go_at_call 29; (with_reducible refine (impl_mask.calls a1 t158 _ A14.out).mono ?_); rintro e w' ⟨rfl, ⟨nd, rfl⟩⟩; (try first | exact ⟨rfl, _, World.drewN_drewN _ _ _⟩ | exact ⟨rfl, _, Eq.trans (World.drewN_drewN _ _ _) (congrArg (World.drewN _) (Nat.add_assoc _ _ _))⟩))))
                go_ret
                exact ⟨by first | rfl | (simp; done) | (simp [*]; done) | (exfalso; simp only [beq_iff_eq] at *; omega), by repeat (first | exact Drawn0.refl _ | apply Drawn0.step)⟩
              · rw [if_neg c13] at H
                have c13b0 : (t157 == 0) = false := beq_eq_false_iff_ne.mpr c13
                have c13b1 : (t157 != 0) = true := bne_iff_ne.mpr c13
                by_cases c15 : a0 = 14
                · rw [if_pos c15] at H
                  have c15b0 : (a0 == 14) = true := beq_iff_eq.mpr c15
                  have c15b1 : (a0 != 14) = false := bne_eq_false_iff_eq.mpr c15
                  clear c15
                  replace H := Option.bind_eq_some_iff.mp H
                  obtain ⟨t159, A160, H⟩ := H
                  replace H : (some (Go.bits .and .i64 (wrap64 (Int.tdiv t156 t157)) t159)) = some r := H
                  have A16 := Aside0.mk A160
                  clear A160
                  obtain rfl := Option.some.inj H
                  go_wp2_with (first | (go_at_call 29; (with_reducible refine (impl_mask.calls a1 t159 _ A16.out).mono ?_); rintro e w' ⟨rfl, ⟨nd, rfl⟩⟩; (try first | exact ⟨rfl, _, World.drewN_drewN _ _ _⟩ | exact ⟨rfl, _, Eq.trans (World.drewN_drewN _ _ _) (congrArg (World.drewN _) (Nat.add_assoc _ _ _))⟩)))
                  repeat (go_quiet (first | (go_at_call 29; (with_reducible refine (impl_mask.calls a1 t159 _ A16.out).mono ?_); rintro e w' ⟨rfl, ⟨nd, rfl⟩⟩; (try first | exact ⟨rfl, _, World.drewN_drewN _ _ _⟩ | exact ⟨rfl, _, Eq.trans (World.drewN_drewN _ _ _) (congrArg (World.drewN _) (Nat.add_assoc _ _ _))⟩))); try go_wp2_with (first | (go_at_call 29; (with_reducible refine (impl_mask.calls a1 t159 _ A16.out).mono ?_); rintro e w' ⟨rfl, ⟨nd, rfl⟩⟩; (try first | exact ⟨rfl, _, World.drewN_drewN _ _ _⟩ | exact ⟨rfl, _, Eq.trans (World.drewN_drewN _ _ _) (congrArg (World.drewN _) (Nat.add_assoc _ _ _))⟩))))
                  go_ret
                  exact ⟨by first | rfl | (simp; done) | (simp [*]; done) | (exfalso; simp only [beq_iff_eq] at *; omega), by repeat (first | exact Drawn0.refl _ | apply Drawn0.step)⟩
                · rw [if_neg c15] at H
                  have c15b0 : (a0 == 14) = false := beq_eq_false_iff_ne.mpr c15
                  have c15b1 : (a0 != 14) = true := bne_iff_ne.mpr c15
                  replace H := Option.bind_eq_some_iff.mp H
                  obtain ⟨t160, A170, H⟩ := H
                  replace H : (some (Go.bits .and .i64 (Int.tmod t156 t157) t160)) = some r := H
                  have A17 := Aside0.mk A170
                  clear A170
                  obtain rfl := Option.some.inj H
                  go_wp2_with (first | (go_at_call 29; (with_reducible refine (impl_mask.calls a1 t160 _ A17.out).mono ?_); rintro e w' ⟨rfl, ⟨nd, rfl⟩⟩; (try first | exact ⟨rfl, _, World.drewN_drewN _ _ _⟩ | exact ⟨rfl, _, Eq.trans (World.drewN_drewN _ _ _) (congrArg (World.drewN _) (Nat.add_assoc _ _ _))⟩)))
                  repeat (go_quiet (first | (go_at_call 29; (with_reducible refine (impl_mask.calls a1 t160 _ A17.out).mono ?_); rintro e w' ⟨rfl, ⟨nd, rfl⟩⟩; (try first | exact ⟨rfl, _, World.drewN_drewN _ _ _⟩ | exact ⟨rfl, _, Eq.trans (World.drewN_drewN _ _ _) (congrArg (World.drewN _) (Nat.add_assoc _ _ _))⟩))); try go_wp2_with (first | (go_at_call 29; (with_reducible refine (impl_mask.calls a1 t160 _ A17.out).mono ?_); rintro e w' ⟨rfl, ⟨nd, rfl⟩⟩; (try first | exact ⟨rfl, _, World.drewN_drewN _ _ _⟩ | exact ⟨rfl, _, Eq.trans (World.drewN_drewN _ _ _) (congrArg (World.drewN _) (Nat.add_assoc _ _ _))⟩))))
                  go_ret
                  exact ⟨by first | rfl | (simp; done) | (simp [*]; done) | (exfalso; simp only [beq_iff_eq] at *; omega), by repeat (first | exact Drawn0.refl _ | apply Drawn0.step)⟩

/-! ### impl_shifted: function 38 -/
def impl_shifted.f (a0 : Int) (a1 : Int) (a2 : Int) (a3 : Int) : Option (Int) := if a0 = 16 then (if 0 ≤ (mn a3 a1) then ((impl_mask.f a1).bind fun t161 => (some (Go.bits .and .i64 (shl .i64 a2 (mn a3 a1)) t161))) else (none)) else (if a0 = 17 then (if 0 ≤ (mn a3 a1) then (some (shr .i64 a2 (mn a3 a1))) else (none)) else ((impl_signed.f a1 a2).bind fun t162 => (if 0 ≤ (mn a3 a1) then ((impl_mask.f a1).bind fun t163 => (some (Go.bits .and .i64 (shr .i64 t162 (mn a3 a1)) t163))) else (none))))
set_option maxHeartbeats 8000000 in
set_option maxRecDepth 100000 in
theorem impl_shifted.calls (a0 : Int) (a1 : Int) (a2 : Int) (a3 : Int) (r : Int) (w : World) (h : impl_shifted.f a0 a1 a2 a3 = some r) :
    Calls Try.prog 38 #[.int .i64 a0, .int .i64 a1, .int .i64 a2, .int .i64 a3] w fun e w' => e = .returned (.int .i64 r) ∧ Below w.heap.size w w' := by
  have HB := Aside0.mk (Below.refl w.heap.size w)
  have H : (if a0 = 16 then (if 0 ≤ (mn a3 a1) then ((impl_mask.f a1).bind fun t161 => (some (Go.bits .and .i64 (shl .i64 a2 (mn a3 a1)) t161))) else (none)) else (if a0 = 17 then (if 0 ≤ (mn a3 a1) then (some (shr .i64 a2 (mn a3 a1))) else (none)) else ((impl_signed.f a1 a2).bind fun t162 => (if 0 ≤ (mn a3 a1) then ((impl_mask.f a1).bind fun t163 => (some (Go.bits .and .i64 (shr .i64 t162 (mn a3 a1)) t163))) else (none))))) = some r := h
  clear h
  obtain ⟨ji5, hji5⟩ : ∃ j_ : Int, (mn a3 a1) = j_ := ⟨_, rfl⟩
  replace H : (if a0 = 16 then (if 0 ≤ (ji5) then ((impl_mask.f a1).bind fun t161 => (some (Go.bits .and .i64 (shl .i64 a2 (ji5)) t161))) else (none)) else (if a0 = 17 then (if 0 ≤ (ji5) then (some (shr .i64 a2 (ji5))) else (none)) else ((impl_signed.f a1 a2).bind fun t162 => (if 0 ≤ (ji5) then ((impl_mask.f a1).bind fun t163 => (some (Go.bits .and .i64 (shr .i64 t162 (ji5)) t163))) else (none))))) = some r := by first | (rw [hji5] at H; exact H) | (simp only [hji5] at H ⊢; exact H)
  have hji5_ : (if a1 < a3 then a1 else a3) = ji5 := hji5
  by_cases c6 : a0 = 16
  · rw [if_pos c6] at H
    have c6b0 : (a0 == 16) = true := beq_iff_eq.mpr c6
    have c6b1 : (a0 != 16) = false := bne_eq_false_iff_eq.mpr c6
    clear c6
    by_cases c7 : 0 ≤ (ji5)
    · rw [if_pos c7] at H
      have c7b0 := eq_true c7
      have c7b1 : decide (0 ≤ (ji5)) = true := decide_eq_true c7
      clear c7
      obtain ⟨ji8, hji8⟩ : ∃ j_ : Int, (shl .i64 a2 (ji5)) = j_ := ⟨_, rfl⟩
      replace H : ((impl_mask.f a1).bind fun t161 => (some (Go.bits .and .i64 (ji8) t161))) = some r := by first | (rw [hji8] at H; exact H) | (simp only [hji8] at H ⊢; exact H)
      have hji8_ : (IntKind.i64.wrap (a2 * 2 ^ min (ji5).toNat 64)) = ji8 := hji8
      have hji8z : (ji5) ≤ 64 → (IntKind.i64.wrap (a2 * 2 ^ (ji5).toNat)) = ji8 := shl_small hji8
      have hji8y : (wrap64 (a2 * 2 ^ min (ji5).toNat 64)) = ji8 := (i64_w _).symm.trans hji8_
      have hji8x : (ji5) ≤ 64 → (wrap64 (a2 * 2 ^ (ji5).toNat)) = ji8 := fun h_ => (i64_w _).symm.trans (hji8z h_)
      replace H := Option.bind_eq_some_iff.mp H
      obtain ⟨t161, A90, H⟩ := H
      replace H : (some (Go.bits .and .i64 (ji8) t161)) = some r := H
      have A9 := Aside0.mk A90
      clear A90
      obtain rfl := Option.some.inj H
      go_enter Try.func38, Try.ntmps38
      go_wp2_with (first | (go_at_call 29; (with_reducible refine (impl_mask.calls a1 t161 _ A9.out).mono ?_); rintro e w' ⟨rfl, ⟨nd, rfl⟩⟩; (try first | exact ⟨rfl, _, World.drewN_drewN _ _ _⟩ | exact ⟨rfl, _, Eq.trans (World.drewN_drewN _ _ _) (congrArg (World.drewN _) (Nat.add_assoc _ _ _))⟩)))
      repeat (go_quiet (first | (go_at_call 29; (with_reducible refine (impl_mask.calls a1 t161 _ A9.out).mono ?_); rintro e w' ⟨rfl, ⟨nd, rfl⟩⟩; (try first | exact ⟨rfl, _, World.drewN_drewN _ _ _⟩ | exact ⟨rfl, _, Eq.trans (World.drewN_drewN _ _ _) (congrArg (World.drewN _) (Nat.add_assoc _ _ _))⟩))); try go_wp2_with (first | (go_at_call 29; (with_reducible refine (impl_mask.calls a1 t161 _ A9.out).mono ?_); rintro e w' ⟨rfl, ⟨nd, rfl⟩⟩; (try first | exact ⟨rfl, _, World.drewN_drewN _ _ _⟩ | exact ⟨rfl, _, Eq.trans (World.drewN_drewN _ _ _) (congrArg (World.drewN _) (Nat.add_assoc _ _ _))⟩))))
      go_ret
      exact ⟨by first | rfl | (simp [errW_none, errW_some] <;> rfl) | (simp only [← hji5, ← hji8]; first | rfl | (simp [errW_none, errW_some] <;> rfl)) | (simp [*, errW_none, errW_some] <;> rfl), by repeat (first | (with_reducible first | exact HB.out | apply below_alloc | apply pw_below_drewN | apply below_drew1) | exact HB.out)⟩
    · rw [if_neg c7] at H
      exact absurd H (by simp)
  · rw [if_neg c6] at H
    have c6b0 : (a0 == 16) = false := beq_eq_false_iff_ne.mpr c6
    have c6b1 : (a0 != 16) = true := bne_iff_ne.mpr c6
    by_cases c10 : a0 = 17
    · rw [if_pos c10] at H
      have c10b0 : (a0 == 17) = true := beq_iff_eq.mpr c10
      have c10b1 : (a0 != 17) = false := bne_eq_false_iff_eq.mpr c10
      clear c10
      by_cases c11 : 0 ≤ (ji5)
      · rw [if_pos c11] at H
        have c11b0 := eq_true c11
        have c11b1 : decide (0 ≤ (ji5)) = true := decide_eq_true c11
        clear c11
        obtain ⟨ji12, hji12⟩ : ∃ j_ : Int, (shr .i64 a2 (ji5)) = j_ := ⟨_, rfl⟩
        replace H : (some ji12) = some r := by first | (rw [hji12] at H; exact H) | (simp only [hji12] at H ⊢; exact H)
        have hji12_ : (a2 / 2 ^ min (ji5).toNat 64) = ji12 := hji12
        have hji12z : (ji5) ≤ 64 → (a2 / 2 ^ (ji5).toNat) = ji12 := shr_small hji12
        obtain rfl := Option.some.inj H
        go_enter Try.func38, Try.ntmps38
        go_wp2
        repeat (go_quiet (fail); try go_wp2)
        go_ret
        exact ⟨by first | rfl | (simp [errW_none, errW_some] <;> rfl) | (simp only [← hji5, ← hji12]; first | rfl | (simp [errW_none, errW_some] <;> rfl)) | (simp [*, errW_none, errW_some] <;> rfl), by repeat (first | (with_reducible first | exact HB.out | apply below_alloc | apply pw_below_drewN | apply below_drew1) | exact HB.out)⟩
      · rw [if_neg c11] at H
        exact absurd H (by simp)
    · rw [if_neg c10] at H
      have c10b0 : (a0 == 17) = false := beq_eq_false_iff_ne.mpr c10
      have c10b1 : (a0 != 17) = true := bne_iff_ne.mpr c10
      replace H := Option.bind_eq_some_iff.mp H
      obtain ⟨t162, A130, H⟩ := H
      replace H : (if 0 ≤ (ji5) then ((impl_mask.f a1).bind fun t163 => (some (Go.bits .and .i64 (shr .i64 t162 (ji5)) t163))) else (none)) = some r := H
      have A13 := Aside0.mk A130
      clear A130
      by_cases c14 : 0 ≤ (ji5)
      · rw [if_pos c14] at H
        have c14b0 := eq_true c14
        have c14b1 : decide (0 ≤ (ji5)) = true := decide_eq_true c14
        clear c14
        obtain ⟨ji15, hji15⟩ : ∃ j_ : Int, (shr .i64 t162 (ji5)) = j_ := ⟨_, rfl⟩
        replace H : ((impl_mask.f a1).bind fun t163 => (some (Go.bits .and .i64 (ji15) t163))) = some r := by first | (rw [hji15] at H; exact H) | (simp only [hji15] at H ⊢; exact H)
        (try rw [hji15] at A13)
        have hji15_ : (t162 / 2 ^ min (ji5).toNat 64) = ji15 := hji15
        have hji15z : (ji5) ≤ 64 → (t162 / 2 ^ (ji5).toNat) = ji15 := shr_small hji15
        replace H := Option.bind_eq_some_iff.mp H
        obtain ⟨t163, A160, H⟩ := H
        replace H : (some (Go.bits .and .i64 (ji15) t163)) = some r := H
        have A16 := Aside0.mk A160
        clear A160
        obtain rfl := Option.some.inj H
        go_enter Try.func38, Try.ntmps38
        go_wp2_with (first | (go_at_call 31; (with_reducible refine (impl_signed.calls a1 a2 t162 _ A13.out).mono ?_); rintro e w' ⟨rfl, ⟨nd, rfl⟩⟩; (try first | exact ⟨rfl, _, World.drewN_drewN _ _ _⟩ | exact ⟨rfl, _, Eq.trans (World.drewN_drewN _ _ _) (congrArg (World.drewN _) (Nat.add_assoc _ _ _))⟩)) | (go_at_call 29; (with_reducible refine (impl_mask.calls a1 t163 _ A16.out).mono ?_); rintro e w' ⟨rfl, ⟨nd, rfl⟩⟩; (try first | exact ⟨rfl, _, World.drewN_drewN _ _ _⟩ | exact ⟨rfl, _, Eq.trans (World.drewN_drewN _ _ _) (congrArg (World.drewN _) (Nat.add_assoc _ _ _))⟩)))
        repeat (go_quiet (first | (go_at_call 31; (with_reducible refine (impl_signed.calls a1 a2 t162 _ A13.out).mono ?_); rintro e w' ⟨rfl, ⟨nd, rfl⟩⟩; (try first | exact ⟨rfl, _, World.drewN_drewN _ _ _⟩ | exact ⟨rfl, _, Eq.trans (World.drewN_drewN _ _ _) (congrArg (World.drewN _) (Nat.add_assoc _ _ _))⟩)) | (go_at_call 29; (with_reducible refine (impl_mask.calls a1 t163 _ A16.out).mono ?_); rintro e w' ⟨rfl, ⟨nd, rfl⟩⟩; (try first | exact ⟨rfl, _, World.drewN_drewN _ _ _⟩ | exact ⟨rfl, _, Eq.trans (World.drewN_drewN _ _ _) (congrArg (World.drewN _) (Nat.add_assoc _ _ _))⟩))); try go_wp2_with (first | (go_at_call 31; (with_reducible refine (impl_signed.calls a1 a2 t162 _ A13.out).mono ?_); rintro e w' ⟨rfl, ⟨nd, rfl⟩⟩; (try first | exact ⟨rfl, _, World.drewN_drewN _ _ _⟩ | exact ⟨rfl, _, Eq.trans (World.drewN_drewN _ _ _) (congrArg (World.drewN _) (Nat.add_assoc _ _ _))⟩)) | (go_at_call 29; (with_reducible refine (impl_mask.calls a1 t163 _ A16.out).mono ?_); rintro e w' ⟨rfl, ⟨nd, rfl⟩⟩; (try first | exact ⟨rfl, _, World.drewN_drewN _ _ _⟩ | exact ⟨rfl, _, Eq.trans (World.drewN_drewN _ _ _) (congrArg (World.drewN _) (Nat.add_assoc _ _ _))⟩))))
        go_ret
        exact ⟨by first | rfl | (simp [errW_none, errW_some] <;> rfl) | (simp only [← hji5, ← hji15]; first | rfl | (simp [errW_none, errW_some] <;> rfl)) | (simp [*, errW_none, errW_some] <;> rfl), by repeat (first | (with_reducible first | exact HB.out | apply below_alloc | apply pw_below_drewN | apply below_drew1) | exact HB.out)⟩
      · rw [if_neg c14] at H
        exact absurd H (by simp)

/-! ### impl_rotate: function 39 -/
def impl_rotate.f (a0 : Int) (a1 : Int) (a2 : Int) : Option (Int) := if a0 = 0 then (none) else (if 0 ≤ (Int.tmod a2 a0) then (if 0 ≤ (wrap64 (a0 - (Int.tmod a2 a0))) then ((impl_mask.f a0).bind fun t164 => (some (Go.bits .and .i64 (Go.bits .or .i64 (shl .i64 a1 (Int.tmod a2 a0)) (shr .i64 a1 (wrap64 (a0 - (Int.tmod a2 a0))))) t164))) else (none)) else (none))
set_option maxHeartbeats 8000000 in
set_option maxRecDepth 100000 in
theorem impl_rotate.calls (a0 : Int) (a1 : Int) (a2 : Int) (r : Int) (w : World) (h : impl_rotate.f a0 a1 a2 = some r) :
    Calls Try.prog 39 #[.int .i64 a0, .int .i64 a1, .int .i64 a2] w fun e w' => e = .returned (.int .i64 r) ∧ Drawn0 w w' := by
  have H : (if a0 = 0 then (none) else (if 0 ≤ (Int.tmod a2 a0) then (if 0 ≤ (wrap64 (a0 - (Int.tmod a2 a0))) then ((impl_mask.f a0).bind fun t164 => (some (Go.bits .and .i64 (Go.bits .or .i64 (shl .i64 a1 (Int.tmod a2 a0)) (shr .i64 a1 (wrap64 (a0 - (Int.tmod a2 a0))))) t164))) else (none)) else (none))) = some r := h
  clear h
  by_cases c4 : a0 = 0
  · rw [if_pos c4] at H
    exact absurd H (by simp)
  · rw [if_neg c4] at H
    have c4b0 : (a0 == 0) = false := beq_eq_false_iff_ne.mpr c4
    have c4b1 : (a0 != 0) = true := bne_iff_ne.mpr c4
    obtain ⟨ji5, hji5⟩ : ∃ j_ : Int, (Int.tmod a2 a0) = j_ := ⟨_, rfl⟩
    replace H : (if 0 ≤ (ji5) then (if 0 ≤ (wrap64 (a0 - (ji5))) then ((impl_mask.f a0).bind fun t164 => (some (Go.bits .and .i64 (Go.bits .or .i64 (shl .i64 a1 (ji5)) (shr .i64 a1 (wrap64 (a0 - (ji5))))) t164))) else (none)) else (none)) = some r := by first | (rw [hji5] at H; exact H) | (simp only [hji5] at H ⊢; exact H)
    by_cases c6 : 0 ≤ (ji5)
    · rw [if_pos c6] at H
      have c6b0 := eq_true c6
      have c6b1 : decide (0 ≤ (ji5)) = true := decide_eq_true c6
      clear c6
      obtain ⟨ji7, hji7⟩ : ∃ j_ : Int, (shl .i64 a1 (ji5)) = j_ := ⟨_, rfl⟩
      replace H : (if 0 ≤ (wrap64 (a0 - (ji5))) then ((impl_mask.f a0).bind fun t164 => (some (Go.bits .and .i64 (Go.bits .or .i64 (ji7) (shr .i64 a1 (wrap64 (a0 - (ji5))))) t164))) else (none)) = some r := by first | (rw [hji7] at H; exact H) | (simp only [hji7] at H ⊢; exact H)
      have hji7_ : (IntKind.i64.wrap (a1 * 2 ^ min (ji5).toNat 64)) = ji7 := hji7
      have hji7z : (ji5) ≤ 64 → (IntKind.i64.wrap (a1 * 2 ^ (ji5).toNat)) = ji7 := shl_small hji7
      have hji7y : (wrap64 (a1 * 2 ^ min (ji5).toNat 64)) = ji7 := (i64_w _).symm.trans hji7_
      have hji7x : (ji5) ≤ 64 → (wrap64 (a1 * 2 ^ (ji5).toNat)) = ji7 := fun h_ => (i64_w _).symm.trans (hji7z h_)
      obtain ⟨ji8, hji8⟩ : ∃ j_ : Int, (wrap64 (a0 - (ji5))) = j_ := ⟨_, rfl⟩
      replace H : (if 0 ≤ (ji8) then ((impl_mask.f a0).bind fun t164 => (some (Go.bits .and .i64 (Go.bits .or .i64 (ji7) (shr .i64 a1 (ji8))) t164))) else (none)) = some r := by first | (rw [hji8] at H; exact H) | (simp only [hji8] at H ⊢; exact H)
      have hji8w : (IntKind.i64.wrap (a0 - (ji5))) = ji8 := (i64_w _).trans hji8
      by_cases c9 : 0 ≤ (ji8)
      · rw [if_pos c9] at H
        have c9b0 := eq_true c9
        have c9b1 : decide (0 ≤ (ji8)) = true := decide_eq_true c9
        clear c9
        obtain ⟨ji10, hji10⟩ : ∃ j_ : Int, (shr .i64 a1 (ji8)) = j_ := ⟨_, rfl⟩
        replace H : ((impl_mask.f a0).bind fun t164 => (some (Go.bits .and .i64 (Go.bits .or .i64 (ji7) (ji10)) t164))) = some r := by first | (rw [hji10] at H; exact H) | (simp only [hji10] at H ⊢; exact H)
        have hji10_ : (a1 / 2 ^ min (ji8).toNat 64) = ji10 := hji10
        have hji10z : (ji8) ≤ 64 → (a1 / 2 ^ (ji8).toNat) = ji10 := shr_small hji10
        replace H := Option.bind_eq_some_iff.mp H
        obtain ⟨t164, A110, H⟩ := H
        replace H : (some (Go.bits .and .i64 (Go.bits .or .i64 (ji7) (ji10)) t164)) = some r := H
        have A11 := Aside0.mk A110
        clear A110
        obtain rfl := Option.some.inj H
        go_enter Try.func39, Try.ntmps39
        go_wp2_with (first | (go_at_call 29; (with_reducible refine (impl_mask.calls a0 t164 _ A11.out).mono ?_); rintro e w' ⟨rfl, ⟨nd, rfl⟩⟩; (try first | exact ⟨rfl, _, World.drewN_drewN _ _ _⟩ | exact ⟨rfl, _, Eq.trans (World.drewN_drewN _ _ _) (congrArg (World.drewN _) (Nat.add_assoc _ _ _))⟩)))
        repeat (go_quiet (first | (go_at_call 29; (with_reducible refine (impl_mask.calls a0 t164 _ A11.out).mono ?_); rintro e w' ⟨rfl, ⟨nd, rfl⟩⟩; (try first | exact ⟨rfl, _, World.drewN_drewN _ _ _⟩ | exact ⟨rfl, _, Eq.trans (World.drewN_drewN _ _ _) (congrArg (World.drewN _) (Nat.add_assoc _ _ _))⟩))); try go_wp2_with (first | (go_at_call 29; (with_reducible refine (impl_mask.calls a0 t164 _ A11.out).mono ?_); rintro e w' ⟨rfl, ⟨nd, rfl⟩⟩; (try first | exact ⟨rfl, _, World.drewN_drewN _ _ _⟩ | exact ⟨rfl, _, Eq.trans (World.drewN_drewN _ _ _) (congrArg (World.drewN _) (Nat.add_assoc _ _ _))⟩))))
        go_ret
        exact ⟨by first | rfl | (simp; done) | (simp only [← hji5, ← hji7, ← hji8, ← hji10] <;> (first | rfl | (simp; done) | (simp [shl, IntKind.wrap, IntKind.bits, IntKind.signed, wrap64]; done))) | (simp [*]; done) | (exfalso; simp only [beq_iff_eq] at *; omega), by repeat (first | exact Drawn0.refl _ | apply Drawn0.step)⟩
      · rw [if_neg c9] at H
        exact absurd H (by simp)
    · rw [if_neg c6] at H
      exact absurd H (by simp)

/-! ### impl_bit: function 40 -/
def impl_bit.f (a0 : Bool) : Option (Int) := if a0 = true then (some 1) else (some 0)
set_option maxHeartbeats 8000000 in
set_option maxRecDepth 100000 in
theorem impl_bit.calls (a0 : Bool) (r : Int) (w : World) (h : impl_bit.f a0 = some r) :
    Calls Try.prog 40 #[.bool a0] w fun e w' => e = .returned (.int .i64 r) ∧ Drawn0 w w' := by
  have H : (if a0 = true then (some 1) else (some 0)) = some r := h
  clear h
  by_cases c2 : a0 = true
  · subst c2
    have H1 : (some 1) = some r := by rw [if_pos rfl] at H; exact H
    clear H
    have H := H1
    clear H1
    obtain rfl := Option.some.inj H
    go_enter Try.func40, Try.ntmps40
    go_wp2
    go_ret
    exact ⟨by first | rfl | (simp; done) | (simp [*]; done) | (exfalso; simp only [beq_iff_eq] at *; omega), by repeat (first | exact Drawn0.refl _ | apply Drawn0.step)⟩
  · replace c2 := Bool.eq_false_iff.mpr c2
    subst c2
    have H1 : (some 0) = some r := by rw [if_neg (show ¬ (false = true) by decide)] at H; exact H
    clear H
    have H := H1
    clear H1
    obtain rfl := Option.some.inj H
    go_enter Try.func40, Try.ntmps40
    go_wp2
    go_ret
    exact ⟨by first | rfl | (simp; done) | (simp [*]; done) | (exfalso; simp only [beq_iff_eq] at *; omega), by repeat (first | exact Drawn0.refl _ | apply Drawn0.step)⟩

/-! ### impl_compared: function 41 -/
def impl_compared.f (a0 : Int) (a1 : Int) (a2 : Int) (a3 : Int) : Option (Bool) := (impl_signed.f a1 a2).bind fun t165 => ((impl_signed.f a1 a3).bind fun t166 => (if a0 = 21 then (some (a2 == a3)) else (if a0 = 22 then (some (decide (a2 < a3))) else (if a0 = 23 then (some (decide (t165 < t166))) else (if a0 = 24 then (some (decide (a2 ≤ a3))) else (if a0 = 25 then (some (decide (t165 ≤ t166))) else (if a0 = 26 then ((impl_mask.f a1).bind fun t167 => (some (decide ((wrap64 (a2 + a3)) > t167)))) else (if a0 = 27 then (if 0 ≤ (wrap64 (a1 - 1)) then ((impl_in.f (wrap64 (t165 + t166)) (shl .i64 (-1) (wrap64 (a1 - 1))) (wrap64 ((shl .i64 1 (wrap64 (a1 - 1))) - 1))).bind fun t168 => (some (!t168))) else (none)) else ((impl_mask.f a1).bind fun t169 => (some (decide ((wrap64 (a2 * a3)) > t169))))))))))))
set_option maxHeartbeats 8000000 in
set_option maxRecDepth 100000 in
theorem impl_compared.calls (a0 : Int) (a1 : Int) (a2 : Int) (a3 : Int) (r : Bool) (w : World) (h : impl_compared.f a0 a1 a2 a3 = some r) :
    Calls Try.prog 41 #[.int .i64 a0, .int .i64 a1, .int .i64 a2, .int .i64 a3] w fun e w' => e = .returned (.bool r) ∧ Drawn0 w w' := by
  have H : ((impl_signed.f a1 a2).bind fun t165 => ((impl_signed.f a1 a3).bind fun t166 => (if a0 = 21 then (some (a2 == a3)) else (if a0 = 22 then (some (decide (a2 < a3))) else (if a0 = 23 then (some (decide (t165 < t166))) else (if a0 = 24 then (some (decide (a2 ≤ a3))) else (if a0 = 25 then (some (decide (t165 ≤ t166))) else (if a0 = 26 then ((impl_mask.f a1).bind fun t167 => (some (decide ((wrap64 (a2 + a3)) > t167)))) else (if a0 = 27 then (if 0 ≤ (wrap64 (a1 - 1)) then ((impl_in.f (wrap64 (t165 + t166)) (shl .i64 (-1) (wrap64 (a1 - 1))) (wrap64 ((shl .i64 1 (wrap64 (a1 - 1))) - 1))).bind fun t168 => (some (!t168))) else (none)) else ((impl_mask.f a1).bind fun t169 => (some (decide ((wrap64 (a2 * a3)) > t169))))))))))))) = some r := h
  clear h
  replace H := Option.bind_eq_some_iff.mp H
  obtain ⟨t165, A50, H⟩ := H
  replace H : ((impl_signed.f a1 a3).bind fun t166 => (if a0 = 21 then (some (a2 == a3)) else (if a0 = 22 then (some (decide (a2 < a3))) else (if a0 = 23 then (some (decide (t165 < t166))) else (if a0 = 24 then (some (decide (a2 ≤ a3))) else (if a0 = 25 then (some (decide (t165 ≤ t166))) else (if a0 = 26 then ((impl_mask.f a1).bind fun t167 => (some (decide ((wrap64 (a2 + a3)) > t167)))) else (if a0 = 27 then (if 0 ≤ (wrap64 (a1 - 1)) then ((impl_in.f (wrap64 (t165 + t166)) (shl .i64 (-1) (wrap64 (a1 - 1))) (wrap64 ((shl .i64 1 (wrap64 (a1 - 1))) - 1))).bind fun t168 => (some (!t168))) else (none)) else ((impl_mask.f a1).bind fun t169 => (some (decide ((wrap64 (a2 * a3)) > t169)))))))))))) = some r := H
  have A5 := Aside0.mk A50
  clear A50
  replace H := Option.bind_eq_some_iff.mp H
  obtain ⟨t166, A60, H⟩ := H
  replace H : (if a0 = 21 then (some (a2 == a3)) else (if a0 = 22 then (some (decide (a2 < a3))) else (if a0 = 23 then (some (decide (t165 < t166))) else (if a0 = 24 then (some (decide (a2 ≤ a3))) else (if a0 = 25 then (some (decide (t165 ≤ t166))) else (if a0 = 26 then ((impl_mask.f a1).bind fun t167 => (some (decide ((wrap64 (a2 + a3)) > t167)))) else (if a0 = 27 then (if 0 ≤ (wrap64 (a1 - 1)) then ((impl_in.f (wrap64 (t165 + t166)) (shl .i64 (-1) (wrap64 (a1 - 1))) (wrap64 ((shl .i64 1 (wrap64 (a1 - 1))) - 1))).bind fun t168 => (some (!t168))) else (none)) else ((impl_mask.f a1).bind fun t169 => (some (decide ((wrap64 (a2 * a3)) > t169))))))))))) = some r := H
  have A6 := Aside0.mk A60
  clear A60
  by_cases c7 : a0 = 21
  · rw [if_pos c7] at H
    have c7b0 : (a0 == 21) = true := beq_iff_eq.mpr c7
    have c7b1 : (a0 != 21) = false := bne_eq_false_iff_eq.mpr c7
    clear c7
    obtain rfl := Option.some.inj H
    go_enter Try.func41, Try.ntmps41
    go_wp2_with (first | (go_at_call 31; (with_reducible refine (impl_signed.calls a1 a2 t165 _ A5.out).mono ?_); rintro e w' ⟨rfl, ⟨nd, rfl⟩⟩; (try first | exact ⟨rfl, _, World.drewN_drewN _ _ _⟩ | exact ⟨rfl, _, Eq.trans (World.drewN_drewN _ _ _) (congrArg (World.drewN _) (Nat.add_assoc _ _ _))⟩)) | (go_at_call 31; (with_reducible refine (impl_signed.calls a1 a3 t166 _ A6.out).mono ?_); rintro e w' ⟨rfl, ⟨nd, rfl⟩⟩; (try first | exact ⟨rfl, _, World.drewN_drewN _ _ _⟩ | exact ⟨rfl, _, Eq.trans (World.drewN_drewN _ _ _) (congrArg (World.drewN _) (Nat.add_assoc _ _ _))⟩)))
    repeat (go_quiet (first | (go_at_call 31; (with_reducible refine (impl_signed.calls a1 a2 t165 _ A5.out).mono ?_); rintro e w' ⟨rfl, ⟨nd, rfl⟩⟩; (try first | exact ⟨rfl, _, World.drewN_drewN _ _ _⟩ | exact ⟨rfl, _, Eq.trans (World.drewN_drewN _ _ _) (congrArg (World.drewN _) (Nat.add_assoc _ _ _))⟩)) | (go_at_call 31; (with_reducible refine (impl_signed.calls a1 a3 t166 _ A6.out).mono ?_); rintro e w' ⟨rfl, ⟨nd, rfl⟩⟩; (try first | exact ⟨rfl, _, World.drewN_drewN _ _ _⟩ | exact ⟨rfl, _, Eq.trans (World.drewN_drewN _ _ _) (congrArg (World.drewN _) (Nat.add_assoc _ _ _))⟩))); try go_wp2_with (first | (go_at_call 31; (with_reducible refine (impl_signed.calls a1 a2 t165 _ A5.out).mono ?_); rintro e w' ⟨rfl, ⟨nd, rfl⟩⟩; (try first | exact ⟨rfl, _, World.drewN_drewN _ _ _⟩ | exact ⟨rfl, _, Eq.trans (World.drewN_drewN _ _ _) (congrArg (World.drewN _) (Nat.add_assoc _ _ _))⟩)) | (go_at_call 31; (with_reducible refine (impl_signed.calls a1 a3 t166 _ A6.out).mono ?_); rintro e w' ⟨rfl, ⟨nd, rfl⟩⟩; (try first | exact ⟨rfl, _, World.drewN_drewN _ _ _⟩ | exact ⟨rfl, _, Eq.trans (World.drewN_drewN _ _ _) (congrArg (World.drewN _) (Nat.add_assoc _ _ _))⟩))))
    go_ret
    exact ⟨by first | rfl | (simp; done) | (simp [*]; done) | (exfalso; simp only [beq_iff_eq] at *; omega), by repeat (first | exact Drawn0.refl _ | apply Drawn0.step)⟩
  · rw [if_neg c7] at H
    have c7b0 : (a0 == 21) = false := beq_eq_false_iff_ne.mpr c7
    have c7b1 : (a0 != 21) = true := bne_iff_ne.mpr c7
    by_cases c8 : a0 = 22
    · rw [if_pos c8] at H
      have c8b0 : (a0 == 22) = true := beq_iff_eq.mpr c8
      have c8b1 : (a0 != 22) = false := bne_eq_false_iff_eq.mpr c8
      clear c8
      obtain rfl := Option.some.inj H
      go_enter Try.func41, Try.ntmps41
      go_wp2_with (first | (go_at_call 31; (with_reducible refine (impl_signed.calls a1 a2 t165 _ A5.out).mono ?_); rintro e w' ⟨rfl, ⟨nd, rfl⟩⟩; (try first | exact ⟨rfl, _, World.drewN_drewN _ _ _⟩ | exact ⟨rfl, _, Eq.trans (World.drewN_drewN _ _ _) (congrArg (World.drewN _) (Nat.add_assoc _ _ _))⟩)) | (go_at_call 31; (with_reducible refine (impl_signed.calls a1 a3 t166 _ A6.out).mono ?_); rintro e w' ⟨rfl, ⟨nd, rfl⟩⟩; (try first | exact ⟨rfl, _, World.drewN_drewN _ _ _⟩ | exact ⟨rfl, _, Eq.trans (World.drewN_drewN _ _ _) (congrArg (World.drewN _) (Nat.add_assoc _ _ _))⟩)))
      repeat (go_quiet (first | (go_at_call 31; (with_reducible refine (impl_signed.calls a1 a2 t165 _ A5.out).mono ?_); rintro e w' ⟨rfl, ⟨nd, rfl⟩⟩; (try first | exact ⟨rfl, _, World.drewN_drewN _ _ _⟩ | exact ⟨rfl, _, Eq.trans (World.drewN_drewN _ _ _) (congrArg (World.drewN _) (Nat.add_assoc _ _ _))⟩)) | (go_at_call 31; (with_reducible refine (impl_signed.calls a1 a3 t166 _ A6.out).mono ?_); rintro e w' ⟨rfl, ⟨nd, rfl⟩⟩; (try first | exact ⟨rfl, _, World.drewN_drewN _ _ _⟩ | exact ⟨rfl, _, Eq.trans (World.drewN_drewN _ _ _) (congrArg (World.drewN _) (Nat.add_assoc _ _ _))⟩))); try go_wp2_with (first | (go_at_call 31; (with_reducible refine (impl_signed.calls a1 a2 t165 _ A5.out).mono ?_); rintro e w' ⟨rfl, ⟨nd, rfl⟩⟩; (try first | exact ⟨rfl, _, World.drewN_drewN _ _ _⟩ | exact ⟨rfl, _, Eq.trans (World.drewN_drewN _ _ _) (congrArg (World.drewN _) (Nat.add_assoc _ _ _))⟩)) | (go_at_call 31; (with_reducible refine (impl_signed.calls a1 a3 t166 _ A6.out).mono ?_); rintro e w' ⟨rfl, ⟨nd, rfl⟩⟩; (try first | exact ⟨rfl, _, World.drewN_drewN _ _ _⟩ | exact ⟨rfl, _, Eq.trans (World.drewN_drewN _ _ _) (congrArg (World.drewN _) (Nat.add_assoc _ _ _))⟩))))
      go_ret
      exact ⟨by first | rfl | (simp; done) | (simp [*]; done) | (exfalso; simp only [beq_iff_eq] at *; omega), by repeat (first | exact Drawn0.refl _ | apply Drawn0.step)⟩
    · rw [if_neg c8] at H
      have c8b0 : (a0 == 22) = false := beq_eq_false_iff_ne.mpr c8
      have c8b1 : (a0 != 22) = true := bne_iff_ne.mpr c8
      by_cases c9 : a0 = 23
      · rw [if_pos c9] at H
        have c9b0 : (a0 == 23) = true := beq_iff_eq.mpr c9
        have c9b1 : (a0 != 23) = false := bne_eq_false_iff_eq.mpr c9
        clear c9
        obtain rfl := Option.some.inj H
        go_enter Try.func41, Try.ntmps41
        go_wp2_with (first | (go_at_call 31; (with_reducible refine (impl_signed.calls a1 a2 t165 _ A5.out).mono ?_); rintro e w' ⟨rfl, ⟨nd, rfl⟩⟩; (try first | exact ⟨rfl, _, World.drewN_drewN _ _ _⟩ | exact ⟨rfl, _, Eq.trans (World.drewN_drewN _ _ _) (congrArg (World.drewN _) (Nat.add_assoc _ _ _))⟩)) | (go_at_call 31; (with_reducible refine (impl_signed.calls a1 a3 t166 _ A6.out).mono ?_); rintro e w' ⟨rfl, ⟨nd, rfl⟩⟩; (try first | exact ⟨rfl, _, World.drewN_drewN _ _ _⟩ | exact ⟨rfl, _, Eq.trans (World.drewN_drewN _ _ _) (congrArg (World.drewN _) (Nat.add_assoc _ _ _))⟩)))
        repeat (go_quiet (first | (go_at_call 31; (with_reducible refine (impl_signed.calls a1 a2 t165 _ A5.out).mono ?_); rintro e w' ⟨rfl, ⟨nd, rfl⟩⟩; (try first | exact ⟨rfl, _, World.drewN_drewN _ _ _⟩ | exact ⟨rfl, _, Eq.trans (World.drewN_drewN _ _ _) (congrArg (World.drewN _) (Nat.add_assoc _ _ _))⟩)) | (go_at_call 31; (with_reducible refine (impl_signed.calls a1 a3 t166 _ A6.out).mono ?_); rintro e w' ⟨rfl, ⟨nd, rfl⟩⟩; (try first | exact ⟨rfl, _, World.drewN_drewN _ _ _⟩ | exact ⟨rfl, _, Eq.trans (World.drewN_drewN _ _ _) (congrArg (World.drewN _) (Nat.add_assoc _ _ _))⟩))); try go_wp2_with (first | (go_at_call 31; (with_reducible refine (impl_signed.calls a1 a2 t165 _ A5.out).mono ?_); rintro e w' ⟨rfl, ⟨nd, rfl⟩⟩; (try first | exact ⟨rfl, _, World.drewN_drewN _ _ _⟩ | exact ⟨rfl, _, Eq.trans (World.drewN_drewN _ _ _) (congrArg (World.drewN _) (Nat.add_assoc _ _ _))⟩)) | (go_at_call 31; (with_reducible refine (impl_signed.calls a1 a3 t166 _ A6.out).mono ?_); rintro e w' ⟨rfl, ⟨nd, rfl⟩⟩; (try first | exact ⟨rfl, _, World.drewN_drewN _ _ _⟩ | exact ⟨rfl, _, Eq.trans (World.drewN_drewN _ _ _) (congrArg (World.drewN _) (Nat.add_assoc _ _ _))⟩))))
        go_ret
        exact ⟨by first | rfl | (simp; done) | (simp [*]; done) | (exfalso; simp only [beq_iff_eq] at *; omega), by repeat (first | exact Drawn0.refl _ | apply Drawn0.step)⟩
      · rw [if_neg c9] at H
        have c9b0 : (a0 == 23) = false := beq_eq_false_iff_ne.mpr c9
        have c9b1 : (a0 != 23) = true := bne_iff_ne.mpr c9
        by_cases c10 : a0 = 24
        · rw [if_pos c10] at H
          have c10b0 : (a0 == 24) = true := beq_iff_eq.mpr c10
          have c10b1 : (a0 != 24) = false := bne_eq_false_iff_eq.mpr c10
          clear c10
          obtain rfl := Option.some.inj H
          go_enter Try.func41, Try.ntmps41
          go_wp2_with (first | (go_at_call 31; (with_reducible refine (impl_signed.calls a1 a2 t165 _ A5.out).mono ?_); rintro e w' ⟨rfl, ⟨nd, rfl⟩⟩; (try first | exact ⟨rfl, _, World.drewN_drewN _ _ _⟩ | exact ⟨rfl, _, Eq.trans (World.drewN_drewN _ _ _) (congrArg (World.drewN _) (Nat.add_assoc _ _ _))⟩)) | (go_at_call 31; (with_reducible refine (impl_signed.calls a1 a3 t166 _ A6.out).mono ?_); rintro e w' ⟨rfl, ⟨nd, rfl⟩⟩; (try first | exact ⟨rfl, _, World.drewN_drewN _ _ _⟩ | exact ⟨rfl, _, Eq.trans (World.drewN_drewN _ _ _) (congrArg (World.drewN _) (Nat.add_assoc _ _ _))⟩)))
          repeat (go_quiet (first | (go_at_call 31; (with_reducible refine (impl_signed.calls a1 a2 t165 _ A5.out).mono ?_); rintro e w' ⟨rfl, ⟨nd, rfl⟩⟩; (try first | exact ⟨rfl, _, World.drewN_drewN _ _ _⟩ | exact ⟨rfl, _, Eq.trans (World.drewN_drewN _ _ _) (congrArg (World.drewN _) (Nat.add_assoc _ _ _))⟩)) | (go_at_call 31; (with_reducible refine (impl_signed.calls a1 a3 t166 _ A6.out).mono ?_); rintro e w' ⟨rfl, ⟨nd, rfl⟩⟩; (try first | exact ⟨rfl, _, World.drewN_drewN _ _ _⟩ | exact ⟨rfl, _, Eq.trans (World.drewN_drewN _ _ _) (congrArg (World.drewN _) (Nat.add_assoc _ _ _))⟩))); try go_wp2_with (first | (go_at_call 31; (with_reducible refine (impl_signed.calls a1 a2 t165 _ A5.out).mono ?_); rintro e w' ⟨rfl, ⟨nd, rfl⟩⟩; (try first | exact ⟨rfl, _, World.drewN_drewN _ _ _⟩ | exact ⟨rfl, _, Eq.trans (World.drewN_drewN _ _ _) (congrArg (World.drewN _) (Nat.add_assoc _ _ _))⟩)) | (go_at_call 31; (with_reducible refine (impl_signed.calls a1 a3 t166 _ A6.out).mono ?_); rintro e w' ⟨rfl, ⟨nd, rfl⟩⟩; (try first | exact ⟨rfl, _, World.drewN_drewN _ _ _⟩ | exact ⟨rfl, _, Eq.trans (World.drewN_drewN _ _ _) (congrArg (World.drewN _) (Nat.add_assoc _ _ _))⟩))))
          go_ret
          exact ⟨by first | rfl | (simp; done) | (simp [*]; done) | (exfalso; simp only [beq_iff_eq] at *; omega), by repeat (first | exact Drawn0.refl _ | apply Drawn0.step)⟩
        · rw [if_neg c10] at H
          have c10b0 : (a0 == 24) = false := beq_eq_false_iff_ne.mpr c10
          have c10b1 : (a0 != 24) = true := bne_iff_ne.mpr c10
          by_cases c11 : a0 = 25
          · rw [if_pos c11] at H
            have c11b0 : (a0 == 25) = true := beq_iff_eq.mpr c11
            have c11b1 : (a0 != 25) = false := bne_eq_false_iff_eq.mpr c11
            clear c11
            obtain rfl := Option.some.inj H
            go_enter Try.func41, Try.ntmps41
            go_wp2_with (first | (go_at_call 31; (with_reducible refine (impl_signed.calls a1 a2 t165 _ A5.out).mono ?_); rintro e w' ⟨rfl, ⟨nd, rfl⟩⟩; (try first | exact ⟨rfl, _, World.drewN_drewN _ _ _⟩ | exact ⟨rfl, _, Eq.trans (World.drewN_drewN _ _ _) (congrArg (World.drewN _) (Nat.add_assoc _ _ _))⟩)) | (go_at_call 31; (with_reducible refine (impl_signed.calls a1 a3 t166 _ A6.out).mono ?_); rintro e w' ⟨rfl, ⟨nd, rfl⟩⟩; (try first | exact ⟨rfl, _, World.drewN_drewN _ _ _⟩ | exact ⟨rfl, _, Eq.trans (World.drewN_drewN _ _ _) (congrArg (World.drewN _) (Nat.add_assoc _ _ _))⟩)))
            repeat (go_quiet (first | (go_at_call 31; (with_reducible refine (impl_signed.calls a1 a2 t165 _ A5.out).mono ?_); rintro e w' ⟨rfl, ⟨nd, rfl⟩⟩; (try first | exact ⟨rfl, _, World.drewN_drewN _ _ _⟩ | exact ⟨rfl, _, Eq.trans (World.drewN_drewN _ _ _) (congrArg (World.drewN _) (Nat.add_assoc _ _ _))⟩)) | (go_at_call 31; (with_reducible refine (impl_signed.calls a1 a3 t166 _ A6.out).mono ?_); rintro e w' ⟨rfl, ⟨nd, rfl⟩⟩; (try first | exact ⟨rfl, _, World.drewN_drewN _ _ _⟩ | exact ⟨rfl, _, Eq.trans (World.drewN_drewN _ _ _) (congrArg (World.drewN _) (Nat.add_assoc _ _ _))⟩))); try go_wp2_with (first | (go_at_call 31; (with_reducible refine (impl_signed.calls a1 a2 t165 _ A5.out).mono ?_); rintro e w' ⟨rfl, ⟨nd, rfl⟩⟩; (try first | exact ⟨rfl, _, World.drewN_drewN _ _ _⟩ | exact ⟨rfl, _, Eq.trans (World.drewN_drewN _ _ _) (congrArg (World.drewN _) (Nat.add_assoc _ _ _))⟩)) | (go_at_call 31; (with_reducible refine (impl_signed.calls a1 a3 t166 _ A6.out).mono ?_); rintro e w' ⟨rfl, ⟨nd, rfl⟩⟩; (try first | exact ⟨rfl, _, World.drewN_drewN _ _ _⟩ | exact ⟨rfl, _, Eq.trans (World.drewN_drewN _ _ _) (congrArg (World.drewN _) (Nat.add_assoc _ _ _))⟩))))
            go_ret
            exact ⟨by first | rfl | (simp; done) | (simp [*]; done) | (exfalso; simp only [beq_iff_eq] at *; omega), by repeat (first | exact Drawn0.refl _ | apply Drawn0.step)⟩
          · rw [if_neg c11] at H
            have c11b0 : (a0 == 25) = false := beq_eq_false_iff_ne.mpr c11
            have c11b1 : (a0 != 25) = true := bne_iff_ne.mpr c11
            by_cases c12 : a0 = 26
            · rw [if_pos c12] at H
              have c12b0 : (a0 == 26) = true := beq_iff_eq.mpr c12
              have c12b1 : (a0 != 26) = false := bne_eq_false_iff_eq.mpr c12
              clear c12
              replace H := Option.bind_eq_some_iff.mp H
              obtain ⟨t167, A130, H⟩ := H
              replace H : (some (decide ((wrap64 (a2 + a3)) > t167))) = some r := H
              have A13 := Aside0.mk A130
              clear A130
              obtain rfl := Option.some.inj H
              go_enter Try.func41, Try.ntmps41
              go_wp2_with (first | (go_at_call 31; (with_reducible refine (impl_signed.calls a1 a2 t165 _ A5.out).mono ?_); rintro e w' ⟨rfl, ⟨nd, rfl⟩⟩; (try first | exact ⟨rfl, _, World.drewN_drewN _ _ _⟩ | exact ⟨rfl, _, Eq.trans (World.drewN_drewN _ _ _) (congrArg (World.drewN _) (Nat.add_assoc _ _ _))⟩)) | (go_at_call 31; (with_reducible refine (impl_signed.calls a1 a3 t166 _ A6.out).mono ?_); rintro e w' ⟨rfl, ⟨nd, rfl⟩⟩; (try first | exact ⟨rfl, _, World.drewN_drewN _ _ _⟩ | exact ⟨rfl, _, Eq.trans (World.drewN_drewN _ _ _) (congrArg (World.drewN _) (Nat.add_assoc _ _ _))⟩)) | (go_at_call 29; (with_reducible refine (impl_mask.calls a1 t167 _ A13.out).mono ?_); rintro e w' ⟨rfl, ⟨nd, rfl⟩⟩; (try first | exact ⟨rfl, _, World.drewN_drewN _ _ _⟩ | exact ⟨rfl, _, Eq.trans (World.drewN_drewN _ _ _) (congrArg (World.drewN _) (Nat.add_assoc _ _ _))⟩)))
              repeat (go_quiet (first | (go_at_call 31; (with_reducible refine (impl_signed.calls a1 a2 t165 _ A5.out).mono ?_); rintro e w' ⟨rfl, ⟨nd, rfl⟩⟩; (try first | exact ⟨rfl, _, World.drewN_drewN _ _ _⟩ | exact ⟨rfl, _, Eq.trans (World.drewN_drewN _ _ _) (congrArg (World.drewN _) (Nat.add_assoc _ _ _))⟩)) | (go_at_call 31; (with_reducible refine (impl_signed.calls a1 a3 t166 _ A6.out).mono ?_); rintro e w' ⟨rfl, ⟨nd, rfl⟩⟩; (try first | exact ⟨rfl, _, World.drewN_drewN _ _ _⟩ | exact ⟨rfl, _, Eq.trans (World.drewN_drewN _ _ _) (congrArg (World.drewN _) (Nat.add_assoc _ _ _))⟩)) | (go_at_call 29; (with_reducible refine (impl_mask.calls a1 t167 _ A13.out).mono ?_); rintro e w' ⟨rfl, ⟨nd, rfl⟩⟩; (try first | exact ⟨rfl, _, World.drewN_drewN _ _ _⟩ | exact ⟨rfl, _, Eq.trans (World.drewN_drewN _ _ _) (congrArg (World.drewN _) (Nat.add_assoc _ _ _))⟩))); try go_wp2_with (first | (go_at_call 31; (with_reducible refine (impl_signed.calls a1 a2 t165 _ A5.out).mono ?_); rintro e w' ⟨rfl, ⟨nd, rfl⟩⟩; (try first | exact ⟨rfl, _, World.drewN_drewN _ _ _⟩ | exact ⟨rfl, _, Eq.trans (World.drewN_drewN _ _ _) (congrArg (World.drewN _) (Nat.add_assoc _ _ _))⟩)) | (go_at_call 31; (with_reducible refine (impl_signed.calls a1 a3 t166 _ A6.out).mono ?_); rintro e w' ⟨rfl, ⟨nd, rfl⟩⟩; (try first | exact ⟨rfl, _, World.drewN_drewN _ _ _⟩ | exact ⟨rfl, _, Eq.trans (World.drewN_drewN _ _ _) (congrArg (World.drewN _) (Nat.add_assoc _ _ _))⟩)) | (go_at_call 29; (with_reducible refine (impl_mask.calls a1 t167 _ A13.out).mono ?_); rintro e w' ⟨rfl, ⟨nd, rfl⟩⟩; (try first | exact ⟨rfl, _, World.drewN_drewN _ _ _⟩ | exact ⟨rfl, _, Eq.trans (World.drewN_drewN _ _ _) (congrArg (World.drewN _) (Nat.add_assoc _ _ _))⟩))))
              go_ret
              exact ⟨by first | rfl | (simp; done) | (simp [*]; done) | (exfalso; simp only [beq_iff_eq] at *; omega), by repeat (first | exact Drawn0.refl _ | apply Drawn0.step)⟩
            · rw [if_neg c12] at H
              have c12b0 : (a0 == 26) = false := beq_eq_false_iff_ne.mpr c12
              have c12b1 : (a0 != 26) = true := bne_iff_ne.mpr c12
              by_cases c14 : a0 = 27
              · rw [if_pos c14] at H
                have c14b0 : (a0 == 27) = true := beq_iff_eq.mpr c14
                have c14b1 : (a0 != 27) = false := bne_eq_false_iff_eq.mpr c14
                clear c14
                obtain ⟨ji15, hji15⟩ : ∃ j_ : Int, (wrap64 (a1 - 1)) = j_ := ⟨_, rfl⟩
                replace H : (if 0 ≤ (ji15) then ((impl_in.f (wrap64 (t165 + t166)) (shl .i64 (-1) (ji15)) (wrap64 ((shl .i64 1 (ji15)) - 1))).bind fun t168 => (some (!t168))) else (none)) = some r := by first | (rw [hji15] at H; exact H) | (simp only [hji15] at H ⊢; exact H)
                (try rw [hji15] at A5)
                (try rw [hji15] at A6)
                have hji15w : (IntKind.i64.wrap (a1 - 1)) = ji15 := (i64_w _).trans hji15
                by_cases c16 : 0 ≤ (ji15)
                · rw [if_pos c16] at H
                  have c16b0 := eq_true c16
                  have c16b1 : decide (0 ≤ (ji15)) = true := decide_eq_true c16
                  clear c16
                  obtain ⟨ji17, hji17⟩ : ∃ j_ : Int, (shl .i64 (-1) (ji15)) = j_ := ⟨_, rfl⟩
                  replace H : ((impl_in.f (wrap64 (t165 + t166)) (ji17) (wrap64 ((shl .i64 1 (ji15)) - 1))).bind fun t168 => (some (!t168))) = some r := by first | (rw [hji17] at H; exact H) | (simp only [hji17] at H ⊢; exact H)
                  (try rw [hji17] at A5)
                  (try rw [hji17] at A6)
                  have hji17_ : (IntKind.i64.wrap ((-1) * 2 ^ min (ji15).toNat 64)) = ji17 := hji17
                  have hji17z : (ji15) ≤ 64 → (IntKind.i64.wrap ((-1) * 2 ^ (ji15).toNat)) = ji17 := shl_small hji17
                  have hji17m : (IntKind.i64.wrap (-2 ^ min (ji15).toNat 64)) = ji17 := by have h_ := hji17_; rw [Int.neg_mul, Int.one_mul] at h_; exact h_
                  have hji17m1 : (ji15) ≤ 64 → (IntKind.i64.wrap (-2 ^ (ji15).toNat)) = ji17 := fun hle_ => by have h_ := hji17z hle_; rw [Int.neg_mul, Int.one_mul] at h_; exact h_
                  have hji17o : (wrap64 (-2 ^ min (ji15).toNat 64)) = ji17 := by have h_ := (i64_w _).symm.trans hji17_; rw [Int.neg_mul, Int.one_mul] at h_; exact h_
                  have hji17o1 : (ji15) ≤ 64 → (wrap64 (-2 ^ (ji15).toNat)) = ji17 := fun hle_ => by have h_ := (i64_w _).symm.trans (hji17z hle_); rw [Int.neg_mul, Int.one_mul] at h_; exact h_
                  have hji17y : (wrap64 ((-1) * 2 ^ min (ji15).toNat 64)) = ji17 := (i64_w _).symm.trans hji17_
                  have hji17x : (ji15) ≤ 64 → (wrap64 ((-1) * 2 ^ (ji15).toNat)) = ji17 := fun h_ => (i64_w _).symm.trans (hji17z h_)
                  (try have c18b0 := eq_true (of_decide_eq_true (by first | (with_reducible assumption) | assumption) : 0 ≤ (ji15)))
                  obtain ⟨ji19, hji19⟩ : ∃ j_ : Int, (shl .i64 1 (ji15)) = j_ := ⟨_, rfl⟩
                  replace H : ((impl_in.f (wrap64 (t165 + t166)) (ji17) (wrap64 ((ji19) - 1))).bind fun t168 => (some (!t168))) = some r := by first | (rw [hji19] at H; exact H) | (simp only [hji19] at H ⊢; exact H)
                  (try rw [hji19] at A5)
                  (try rw [hji19] at A6)
                  have hji19_ : (IntKind.i64.wrap (1 * 2 ^ min (ji15).toNat 64)) = ji19 := hji19
                  have hji19z : (ji15) ≤ 64 → (IntKind.i64.wrap (1 * 2 ^ (ji15).toNat)) = ji19 := shl_small hji19
                  have hji19u : (IntKind.i64.wrap (2 ^ min (ji15).toNat 64)) = ji19 := by have h_ := hji19_; rw [Int.one_mul] at h_; exact h_
                  have hji19v : (ji15) ≤ 64 → (IntKind.i64.wrap (2 ^ (ji15).toNat)) = ji19 := fun hle_ => by have h_ := hji19z hle_; rw [Int.one_mul] at h_; exact h_
                  have hji19y : (wrap64 (1 * 2 ^ min (ji15).toNat 64)) = ji19 := (i64_w _).symm.trans hji19_
                  have hji19x : (ji15) ≤ 64 → (wrap64 (1 * 2 ^ (ji15).toNat)) = ji19 := fun h_ => (i64_w _).symm.trans (hji19z h_)
                  replace H := Option.bind_eq_some_iff.mp H
                  obtain ⟨t168, A200, H⟩ := H
                  replace H : (some (!t168)) = some r := H
                  have A20 := Aside0.mk A200
                  clear A200
                  obtain rfl := Option.some.inj H
                  go_enter Try.func41, Try.ntmps41
                  go_wp2_with (first | (go_at_call 31; (with_reducible refine (impl_signed.calls a1 a2 t165 _ A5.out).mono ?_); rintro e w' ⟨rfl, ⟨nd, rfl⟩⟩; (try first | exact ⟨rfl, _, World.drewN_drewN _ _ _⟩ | exact ⟨rfl, _, Eq.trans (World.drewN_drewN _ _ _) (congrArg (World.drewN _) (Nat.add_assoc _ _ _))⟩)) | (go_at_call 31; (with_reducible refine (impl_signed.calls a1 a3 t166 _ A6.out).mono ?_); rintro e w' ⟨rfl, ⟨nd, rfl⟩⟩; (try first | exact ⟨rfl, _, World.drewN_drewN _ _ _⟩ | exact ⟨rfl, _, Eq.trans (World.drewN_drewN _ _ _) (congrArg (World.drewN _) (Nat.add_assoc _ _ _))⟩)) | (go_at_call 28; (with_reducible refine (impl_in.calls (wrap64 (t165 + t166)) ji17 (wrap64 ((ji19) - 1)) t168 _ A20.out).mono ?_); rintro e w' ⟨rfl, ⟨nd, rfl⟩⟩; (try first | exact ⟨rfl, _, World.drewN_drewN _ _ _⟩ | exact ⟨rfl, _, Eq.trans (World.drewN_drewN _ _ _) (congrArg (World.drewN _) (Nat.add_assoc _ _ _))⟩)))
                  repeat (go_quiet (first | (go_at_call 31; (with_reducible refine (impl_signed.calls a1 a2 t165 _ A5.out).mono ?_); rintro e w' ⟨rfl, ⟨nd, rfl⟩⟩; (try first | exact ⟨rfl, _, World.drewN_drewN _ _ _⟩ | exact ⟨rfl, _, Eq.trans (World.drewN_drewN _ _ _) (congrArg (World.drewN _) (Nat.add_assoc _ _ _))⟩)) | (go_at_call 31; (with_reducible refine (impl_signed.calls a1 a3 t166 _ A6.out).mono ?_); rintro e w' ⟨rfl, ⟨nd, rfl⟩⟩; (try first | exact ⟨rfl, _, World.drewN_drewN _ _ _⟩ | exact ⟨rfl, _, Eq.trans (World.drewN_drewN _ _ _) (congrArg (World.drewN _) (Nat.add_assoc _ _ _))⟩)) | (go_at_call 28; (with_reducible refine (impl_in.calls (wrap64 (t165 + t166)) ji17 (wrap64 ((ji19) - 1)) t168 _ A20.out).mono ?_); rintro e w' ⟨rfl, ⟨nd, rfl⟩⟩; (try first | exact ⟨rfl, _, World.drewN_drewN _ _ _⟩ | exact ⟨rfl, _, Eq.trans (World.drewN_drewN _ _ _) (congrArg (World.drewN _) (Nat.add_assoc _ _ _))⟩))); try go_wp2_with (first | (go_at_call 31; (with_reducible refine (impl_signed.calls a1 a2 t165 _ A5.out).mono ?_); rintro e w' ⟨rfl, ⟨nd, rfl⟩⟩; (try first | exact ⟨rfl, _, World.drewN_drewN _ _ _⟩ | exact ⟨rfl, _, Eq.trans (World.drewN_drewN _ _ _) (congrArg (World.drewN _) (Nat.add_assoc _ _ _))⟩)) | (go_at_call 31; (with_reducible refine (impl_signed.calls a1 a3 t166 _ A6.out).mono ?_); rintro e w' ⟨rfl, ⟨nd, rfl⟩⟩; (try first | exact ⟨rfl, _, World.drewN_drewN _ _ _⟩ | exact ⟨rfl, _, Eq.trans (World.drewN_drewN _ _ _) (congrArg (World.drewN _) (Nat.add_assoc _ _ _))⟩)) | (go_at_call 28; (with_reducible refine (impl_in.calls (wrap64 (t165 + t166)) ji17 (wrap64 ((ji19) - 1)) t168 _ A20.out).mono ?_); rintro e w' ⟨rfl, ⟨nd, rfl⟩⟩; (try first | exact ⟨rfl, _, World.drewN_drewN _ _ _⟩ | exact ⟨rfl, _, Eq.trans (World.drewN_drewN _ _ _) (congrArg (World.drewN _) (Nat.add_assoc _ _ _))⟩))))
                  go_ret
                  exact ⟨by first | rfl | (simp; done) | (simp only [← hji15, ← hji17, ← hji19] <;> (first | rfl | (simp; done) | (simp [shl, IntKind.wrap, IntKind.bits, IntKind.signed, wrap64]; done))) | (simp [*]; done) | (exfalso; simp only [beq_iff_eq] at *; omega), by repeat (first | exact Drawn0.refl _ | apply Drawn0.step)⟩
                · rw [if_neg c16] at H
                  exact absurd H (by simp)
              · rw [if_neg c14] at H
                have c14b0 : (a0 == 27) = false := beq_eq_false_iff_ne.mpr c14
                have c14b1 : (a0 != 27) = true := bne_iff_ne.mpr c14
                replace H := Option.bind_eq_some_iff.mp H
                obtain ⟨t169, A210, H⟩ := H
                replace H : (some (decide ((wrap64 (a2 * a3)) > t169))) = some r := H
                have A21 := Aside0.mk A210
                clear A210
                obtain rfl := Option.some.inj H
                go_enter Try.func41, Try.ntmps41
                go_wp2_with (first | (go_at_call 31; (with_reducible refine (impl_signed.calls a1 a2 t165 _ A5.out).mono ?_); rintro e w' ⟨rfl, ⟨nd, rfl⟩⟩; (try first | exact ⟨rfl, _, World.drewN_drewN _ _ _⟩ | exact ⟨rfl, _, Eq.trans (World.drewN_drewN _ _ _) (congrArg (World.drewN _) (Nat.add_assoc _ _ _))⟩)) | (go_at_call 31; (with_reducible refine (impl_signed.calls a1 a3 t166 _ A6.out).mono ?_); rintro e w' ⟨rfl, ⟨nd, rfl⟩⟩; (try first | exact ⟨rfl, _, World.drewN_drewN _ _ _⟩ | exact ⟨rfl, _, Eq.trans (World.drewN_drewN _ _ _) (congrArg (World.drewN _) (Nat.add_assoc _ _ _))⟩)) | (go_at_call 29; (with_reducible refine (impl_mask.calls a1 t169 _ A21.out).mono ?_); rintro e w' ⟨rfl, ⟨nd, rfl⟩⟩; (try first | exact ⟨rfl, _, World.drewN_drewN _ _ _⟩ | exact ⟨rfl, _, Eq.trans (World.drewN_drewN _ _ _) (congrArg (World.drewN _) (Nat.add_assoc _ _ _))⟩)))
                repeat (go_quiet (first | (go_at_call 31; (with_reducible refine (impl_signed.calls a1 a2 t165 _ A5.out).mono ?_); rintro e w' ⟨rfl, ⟨nd, rfl⟩⟩; (try first | exact ⟨rfl, _, World.drewN_drewN _ _ _⟩ | exact ⟨rfl, _, Eq.trans (World.drewN_drewN _ _ _) (congrArg (World.drewN _) (Nat.add_assoc _ _ _))⟩)) | (go_at_call 31; (with_reducible refine (impl_signed.calls a1 a3 t166 _ A6.out).mono ?_); rintro e w' ⟨rfl, ⟨nd, rfl⟩⟩; (try first | exact ⟨rfl, _, World.drewN_drewN _ _ _⟩ | exact ⟨rfl, _, Eq.trans (World.drewN_drewN _ _ _) (congrArg (World.drewN _) (Nat.add_assoc _ _ _))⟩)) | (go_at_call 29; (with_reducible refine (impl_mask.calls a1 t169 _ A21.out).mono ?_); rintro e w' ⟨rfl, ⟨nd, rfl⟩⟩; (try first | exact ⟨rfl, _, World.drewN_drewN _ _ _⟩ | exact ⟨rfl, _, Eq.trans (World.drewN_drewN _ _ _) (congrArg (World.drewN _) (Nat.add_assoc _ _ _))⟩))); try go_wp2_with (first | (go_at_call 31; (with_reducible refine (impl_signed.calls a1 a2 t165 _ A5.out).mono ?_); rintro e w' ⟨rfl, ⟨nd, rfl⟩⟩; (try first | exact ⟨rfl, _, World.drewN_drewN _ _ _⟩ | exact ⟨rfl, _, Eq.trans (World.drewN_drewN _ _ _) (congrArg (World.drewN _) (Nat.add_assoc _ _ _))⟩)) | (go_at_call 31; (with_reducible refine (impl_signed.calls a1 a3 t166 _ A6.out).mono ?_); rintro e w' ⟨rfl, ⟨nd, rfl⟩⟩; (try first | exact ⟨rfl, _, World.drewN_drewN _ _ _⟩ | exact ⟨rfl, _, Eq.trans (World.drewN_drewN _ _ _) (congrArg (World.drewN _) (Nat.add_assoc _ _ _))⟩)) | (go_at_call 29; (with_reducible refine (impl_mask.calls a1 t169 _ A21.out).mono ?_); rintro e w' ⟨rfl, ⟨nd, rfl⟩⟩; (try first | exact ⟨rfl, _, World.drewN_drewN _ _ _⟩ | exact ⟨rfl, _, Eq.trans (World.drewN_drewN _ _ _) (congrArg (World.drewN _) (Nat.add_assoc _ _ _))⟩))))
                go_ret
                exact ⟨by first | rfl | (simp; done) | (simp [*]; done) | (exfalso; simp only [beq_iff_eq] at *; omega), by repeat (first | exact Drawn0.refl _ | apply Drawn0.step)⟩

end Go.Proofs.Ytohojfcpnlobjaa.PFnRing
