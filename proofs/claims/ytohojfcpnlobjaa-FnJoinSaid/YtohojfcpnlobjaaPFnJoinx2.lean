-- Written by a program of this session (wip/pp).
import Derived.Test.YtohojfcpnlobjaaPFnJoinx0
import Derived.Test.YtohojfcpnlobjaaPFnJoinx1
namespace Go.Proofs.Ytohojfcpnlobjaa.PFnJoin
open Go.RowKit Go.Proofs.YtohojfcpnlobjaaW.PrintWords Go.Proofs.YtohojfcpnlobjaaW.PrintLast Go.Proofs.YtohojfcpnlobjaaW.PrintMore
attribute [local go_sem] max2_int min2_int max_two min_two max_three min_three max_four min_four   -- for this text's walks alone
set_option linter.unusedVariables false
set_option linter.unusedSimpArgs false

/-! ### impl_WordJoin: function 9 -/
def impl_WordJoin.f (a0 : Int) (a1 : Int) (a2 : Int) (a3 : Int) : Option (Int × Int × Bool) := (impl_WordOk.f a0 a1).bind fun t158 => (if t158 = true then ((impl_WordOk.f a2 a3).bind fun t159 => (if t159 = true then (if (wrap64 (a0 + a2)) > 16 then (some (0, 0, false)) else (if 0 ≤ a2 then (some (wrap64 ((shl .i64 a1 a2) + a3), wrap64 (a0 + a2), true)) else (none))) else (some (0, 0, false)))) else (some (0, 0, false)))
set_option maxHeartbeats 8000000 in
set_option maxRecDepth 100000 in
theorem impl_WordJoin.calls (a0 : Int) (a1 : Int) (a2 : Int) (a3 : Int) (r1 : Int) (r2 : Int) (r3 : Bool) (w : World) (h : impl_WordJoin.f a0 a1 a2 a3 = some (r1, r2, r3)) :
    Calls Try.prog 9 #[.int .i64 a0, .int .i64 a1, .int .i64 a2, .int .i64 a3] w fun e w' => e = .returned (.tuple #[.int .i64 r1, .int .i64 r2, .bool r3]) ∧ Drawn0 w w' := by
  have H : ((impl_WordOk.f a0 a1).bind fun t158 => (if t158 = true then ((impl_WordOk.f a2 a3).bind fun t159 => (if t159 = true then (if (wrap64 (a0 + a2)) > 16 then (some (0, 0, false)) else (if 0 ≤ a2 then (some (wrap64 ((shl .i64 a1 a2) + a3), wrap64 (a0 + a2), true)) else (none))) else (some (0, 0, false)))) else (some (0, 0, false)))) = some (r1, r2, r3) := h
  clear h
  replace H := Option.bind_eq_some_iff.mp H
  obtain ⟨t158, A50, H⟩ := H
  replace H : (if t158 = true then ((impl_WordOk.f a2 a3).bind fun t159 => (if t159 = true then (if (wrap64 (a0 + a2)) > 16 then (some (0, 0, false)) else (if 0 ≤ a2 then (some (wrap64 ((shl .i64 a1 a2) + a3), wrap64 (a0 + a2), true)) else (none))) else (some (0, 0, false)))) else (some (0, 0, false))) = some (r1, r2, r3) := H
  have A5 := Aside0.mk A50
  clear A50
  by_cases c6 : t158 = true
  · subst c6
    have H1 : ((impl_WordOk.f a2 a3).bind fun t159 => (if t159 = true then (if (wrap64 (a0 + a2)) > 16 then (some (0, 0, false)) else (if 0 ≤ a2 then (some (wrap64 ((shl .i64 a1 a2) + a3), wrap64 (a0 + a2), true)) else (none))) else (some (0, 0, false)))) = some (r1, r2, r3) := by rw [if_pos rfl] at H; exact H
    clear H
    have H := H1
    clear H1
    replace H := Option.bind_eq_some_iff.mp H
    obtain ⟨t159, A70, H⟩ := H
    replace H : (if t159 = true then (if (wrap64 (a0 + a2)) > 16 then (some (0, 0, false)) else (if 0 ≤ a2 then (some (wrap64 ((shl .i64 a1 a2) + a3), wrap64 (a0 + a2), true)) else (none))) else (some (0, 0, false))) = some (r1, r2, r3) := H
    have A7 := Aside0.mk A70
    clear A70
    by_cases c8 : t159 = true
    · subst c8
      have H1 : (if (wrap64 (a0 + a2)) > 16 then (some (0, 0, false)) else (if 0 ≤ a2 then (some (wrap64 ((shl .i64 a1 a2) + a3), wrap64 (a0 + a2), true)) else (none))) = some (r1, r2, r3) := by rw [if_pos rfl] at H; exact H
      clear H
      have H := H1
      clear H1
      by_cases c9 : (wrap64 (a0 + a2)) > 16
      · rw [if_pos c9] at H
        have c9b0 : decide (16 < (wrap64 (a0 + a2))) = true := decide_eq_true c9
        clear c9
        simp only [Option.some.injEq, Prod.mk.injEq] at H
        obtain ⟨rfl, rfl, rfl⟩ := H
        go_enter Try.func9, Try.ntmps9
        go_wp2_with (first | ((with_reducible refine gate_callee (f := 27) rfl ?_); refine goesL_ (some 13) rfl rfl Try.func27 (by kernel_rfl) rfl #[.int .i64 a0, .int .i64 a1] rfl (by (try simp only [List.map_toArray, List.map_cons, List.map_nil]); first | done | rfl | (simp only [List.length_drop, List.length_take]; rfl)) ?_; (with_reducible refine (impl_WordOk.calls a0 a1 true _ A5.out).mono ?_); rintro e w' ⟨rfl, ⟨nd, rfl⟩⟩; refine ⟨_, rfl, ?_⟩) | (go_at_call 27; (with_reducible refine (impl_WordOk.calls a2 a3 true _ A7.out).mono ?_); rintro e w' ⟨rfl, ⟨nd, rfl⟩⟩))
        go_ret3
        exact ⟨by first | rfl | (simp; done) | (simp [*]; done) | (exfalso; simp only [beq_iff_eq] at *; omega), by repeat (first | exact Drawn0.refl _ | apply Drawn0.step)⟩
      · rw [if_neg c9] at H
        have c9b0 : decide (16 < (wrap64 (a0 + a2))) = false := decide_eq_false c9
        clear c9
        by_cases c10 : 0 ≤ a2
        · rw [if_pos c10] at H
          have c10b0 := eq_true c10
          have c10b1 : decide (0 ≤ a2) = true := decide_eq_true c10
          clear c10
          obtain ⟨ji11, hji11⟩ : ∃ j_ : Int, (shl .i64 a1 a2) = j_ := ⟨_, rfl⟩
          replace H : (some (wrap64 ((ji11) + a3), wrap64 (a0 + a2), true)) = some (r1, r2, r3) := by first | (rw [hji11] at H; exact H) | (simp only [hji11] at H ⊢; exact H)
          (try rw [hji11] at A5)
          (try rw [hji11] at A7)
          have hji11_ : (IntKind.i64.wrap (a1 * 2 ^ min a2.toNat 64)) = ji11 := hji11
          have hji11z : a2 ≤ 64 → (IntKind.i64.wrap (a1 * 2 ^ a2.toNat)) = ji11 := shl_small hji11
          have hji11y : (wrap64 (a1 * 2 ^ min a2.toNat 64)) = ji11 := (i64_w _).symm.trans hji11_
          have hji11x : a2 ≤ 64 → (wrap64 (a1 * 2 ^ a2.toNat)) = ji11 := fun h_ => (i64_w _).symm.trans (hji11z h_)
          simp only [Option.some.injEq, Prod.mk.injEq] at H
          obtain ⟨rfl, rfl, rfl⟩ := H
          go_enter Try.func9, Try.ntmps9
          go_wp2_with (first | ((with_reducible refine gate_callee (f := 27) rfl ?_); refine goesL_ (some 13) rfl rfl Try.func27 (by kernel_rfl) rfl #[.int .i64 a0, .int .i64 a1] rfl (by (try simp only [List.map_toArray, List.map_cons, List.map_nil]); first | done | rfl | (simp only [List.length_drop, List.length_take]; rfl)) ?_; (with_reducible refine (impl_WordOk.calls a0 a1 true _ A5.out).mono ?_); rintro e w' ⟨rfl, ⟨nd, rfl⟩⟩; refine ⟨_, rfl, ?_⟩) | (go_at_call 27; (with_reducible refine (impl_WordOk.calls a2 a3 true _ A7.out).mono ?_); rintro e w' ⟨rfl, ⟨nd, rfl⟩⟩))
          go_ret3
          exact ⟨by first | rfl | (simp; done) | (simp only [← hji11] <;> (first | rfl | (simp; done) | (simp [shl, IntKind.wrap, IntKind.bits, IntKind.signed, wrap64]; done))) | (simp [*]; done) | (exfalso; simp only [beq_iff_eq] at *; omega), by repeat (first | exact Drawn0.refl _ | apply Drawn0.step)⟩
        · rw [if_neg c10] at H
          exact absurd H (by simp)
    · replace c8 := Bool.eq_false_iff.mpr c8
      subst c8
      have H1 : (some (0, 0, false)) = some (r1, r2, r3) := by rw [if_neg (show ¬ (false = true) by decide)] at H; exact H
      clear H
      have H := H1
      clear H1
      simp only [Option.some.injEq, Prod.mk.injEq] at H
      obtain ⟨rfl, rfl, rfl⟩ := H
      go_enter Try.func9, Try.ntmps9
      go_wp2_with (first | ((with_reducible refine gate_callee (f := 27) rfl ?_); refine goesL_ (some 13) rfl rfl Try.func27 (by kernel_rfl) rfl #[.int .i64 a0, .int .i64 a1] rfl (by (try simp only [List.map_toArray, List.map_cons, List.map_nil]); first | done | rfl | (simp only [List.length_drop, List.length_take]; rfl)) ?_; (with_reducible refine (impl_WordOk.calls a0 a1 true _ A5.out).mono ?_); rintro e w' ⟨rfl, ⟨nd, rfl⟩⟩; refine ⟨_, rfl, ?_⟩) | (go_at_call 27; (with_reducible refine (impl_WordOk.calls a2 a3 false _ A7.out).mono ?_); rintro e w' ⟨rfl, ⟨nd, rfl⟩⟩))
      go_ret3
      exact ⟨by first | rfl | (simp; done) | (simp [*]; done) | (exfalso; simp only [beq_iff_eq] at *; omega), by repeat (first | exact Drawn0.refl _ | apply Drawn0.step)⟩
  · replace c6 := Bool.eq_false_iff.mpr c6
    subst c6
    have H1 : (some (0, 0, false)) = some (r1, r2, r3) := by rw [if_neg (show ¬ (false = true) by decide)] at H; exact H
    clear H
    have H := H1
    clear H1
    simp only [Option.some.injEq, Prod.mk.injEq] at H
    obtain ⟨rfl, rfl, rfl⟩ := H
    go_enter Try.func9, Try.ntmps9
    go_wp2_with (first | ((with_reducible refine gate_callee (f := 27) rfl ?_); refine goesL_ (some 13) rfl rfl Try.func27 (by kernel_rfl) rfl #[.int .i64 a0, .int .i64 a1] rfl (by (try simp only [List.map_toArray, List.map_cons, List.map_nil]); first | done | rfl | (simp only [List.length_drop, List.length_take]; rfl)) ?_; (with_reducible refine (impl_WordOk.calls a0 a1 false _ A5.out).mono ?_); rintro e w' ⟨rfl, ⟨nd, rfl⟩⟩; refine ⟨_, rfl, ?_⟩))
    go_ret3
    exact ⟨by first | rfl | (simp; done) | (simp [*]; done) | (exfalso; simp only [beq_iff_eq] at *; omega), by repeat (first | exact Drawn0.refl _ | apply Drawn0.step)⟩

/-! ### spec_WordOk: function 17 -/
def spec_WordOk.f (a0 : Int) (a1 : Int) : Option (Bool) := (spec_l1Width.f a0).bind fun t160 => (if t160 = true then (if 0 ≤ (IntKind.u64.wrap (a0)) then ((spec_l1In.f a1 0 (wrap64 ((shl .i64 1 (IntKind.u64.wrap (a0))) - 1))).bind fun t161 => (some t161)) else (none)) else (some false))
set_option maxHeartbeats 8000000 in
set_option maxRecDepth 100000 in
theorem spec_WordOk.calls (a0 : Int) (a1 : Int) (r : Bool) (w : World) (h : spec_WordOk.f a0 a1 = some r) :
    Calls Try.prog 17 #[.int .i64 a0, .int .i64 a1] w fun e w' => e = .returned (.bool r) ∧ Drawn0 w w' := by
  have H : ((spec_l1Width.f a0).bind fun t160 => (if t160 = true then (if 0 ≤ (IntKind.u64.wrap (a0)) then ((spec_l1In.f a1 0 (wrap64 ((shl .i64 1 (IntKind.u64.wrap (a0))) - 1))).bind fun t161 => (some t161)) else (none)) else (some false))) = some r := h
  clear h
  replace H := Option.bind_eq_some_iff.mp H
  obtain ⟨t160, A30, H⟩ := H
  replace H : (if t160 = true then (if 0 ≤ (IntKind.u64.wrap (a0)) then ((spec_l1In.f a1 0 (wrap64 ((shl .i64 1 (IntKind.u64.wrap (a0))) - 1))).bind fun t161 => (some t161)) else (none)) else (some false)) = some r := H
  have A3 := Aside0.mk A30
  clear A30
  by_cases c4 : t160 = true
  · subst c4
    have H1 : (if 0 ≤ (IntKind.u64.wrap (a0)) then ((spec_l1In.f a1 0 (wrap64 ((shl .i64 1 (IntKind.u64.wrap (a0))) - 1))).bind fun t161 => (some t161)) else (none)) = some r := by rw [if_pos rfl] at H; exact H
    clear H
    have H := H1
    clear H1
    obtain ⟨ji5, hji5⟩ : ∃ j_ : Int, (IntKind.u64.wrap (a0)) = j_ := ⟨_, rfl⟩
    replace H : (if 0 ≤ (ji5) then ((spec_l1In.f a1 0 (wrap64 ((shl .i64 1 (ji5)) - 1))).bind fun t161 => (some t161)) else (none)) = some r := by first | (rw [hji5] at H; exact H) | (simp only [hji5] at H ⊢; exact H)
    (try rw [hji5] at A3)
    by_cases c6 : 0 ≤ (ji5)
    · rw [if_pos c6] at H
      have c6b0 := eq_true c6
      have c6b1 : decide (0 ≤ (ji5)) = true := decide_eq_true c6
      clear c6
      obtain ⟨ji7, hji7⟩ : ∃ j_ : Int, (shl .i64 1 (ji5)) = j_ := ⟨_, rfl⟩
      replace H : ((spec_l1In.f a1 0 (wrap64 ((ji7) - 1))).bind fun t161 => (some t161)) = some r := by first | (rw [hji7] at H; exact H) | (simp only [hji7] at H ⊢; exact H)
      (try rw [hji7] at A3)
      have hji7_ : (IntKind.i64.wrap (1 * 2 ^ min (ji5).toNat 64)) = ji7 := hji7
      have hji7z : (ji5) ≤ 64 → (IntKind.i64.wrap (1 * 2 ^ (ji5).toNat)) = ji7 := shl_small hji7
      have hji7u : (IntKind.i64.wrap (2 ^ min (ji5).toNat 64)) = ji7 := by have h_ := hji7_; rw [Int.one_mul] at h_; exact h_
      have hji7v : (ji5) ≤ 64 → (IntKind.i64.wrap (2 ^ (ji5).toNat)) = ji7 := fun hle_ => by have h_ := hji7z hle_; rw [Int.one_mul] at h_; exact h_
      have hji7y : (wrap64 (1 * 2 ^ min (ji5).toNat 64)) = ji7 := (i64_w _).symm.trans hji7_
      have hji7x : (ji5) ≤ 64 → (wrap64 (1 * 2 ^ (ji5).toNat)) = ji7 := fun h_ => (i64_w _).symm.trans (hji7z h_)
      replace H := Option.bind_eq_some_iff.mp H
      obtain ⟨t161, A80, H⟩ := H
      replace H : (some t161) = some r := H
      have A8 := Aside0.mk A80
      clear A80
      obtain rfl := Option.some.inj H
      go_enter Try.func17, Try.ntmps17
      go_wp2_with (first | ((with_reducible refine gate_callee (f := 32) rfl ?_); refine goesL_ (some 6) rfl rfl Try.func32 (by kernel_rfl) rfl #[.int .i64 a0] rfl (by (try simp only [List.map_toArray, List.map_cons, List.map_nil]); first | done | rfl | (simp only [List.length_drop, List.length_take]; rfl)) ?_; (with_reducible refine (spec_l1Width.calls a0 true _ A3.out).mono ?_); rintro e w' ⟨rfl, ⟨nd, rfl⟩⟩; refine ⟨_, rfl, ?_⟩) | (go_at_call 33; (with_reducible refine (spec_l1In.calls a1 0 (wrap64 ((ji7) - 1)) t161 _ A8.out).mono ?_); rintro e w' ⟨rfl, ⟨nd, rfl⟩⟩))
      go_ret
      exact ⟨by first | rfl | (simp; done) | (simp only [← hji5, ← hji7] <;> (first | rfl | (simp; done) | (simp [shl, IntKind.wrap, IntKind.bits, IntKind.signed, wrap64]; done))) | (simp [*]; done) | (exfalso; simp only [beq_iff_eq] at *; omega), by repeat (first | exact Drawn0.refl _ | apply Drawn0.step)⟩
    · rw [if_neg c6] at H
      exact absurd H (by simp)
  · replace c4 := Bool.eq_false_iff.mpr c4
    subst c4
    have H1 : (some false) = some r := by rw [if_neg (show ¬ (false = true) by decide)] at H; exact H
    clear H
    have H := H1
    clear H1
    obtain rfl := Option.some.inj H
    go_enter Try.func17, Try.ntmps17
    go_wp2_with (first | ((with_reducible refine gate_callee (f := 32) rfl ?_); refine goesL_ (some 6) rfl rfl Try.func32 (by kernel_rfl) rfl #[.int .i64 a0] rfl (by (try simp only [List.map_toArray, List.map_cons, List.map_nil]); first | done | rfl | (simp only [List.length_drop, List.length_take]; rfl)) ?_; (with_reducible refine (spec_l1Width.calls a0 false _ A3.out).mono ?_); rintro e w' ⟨rfl, ⟨nd, rfl⟩⟩; refine ⟨_, rfl, ?_⟩))
    go_ret
    exact ⟨by first | rfl | (simp; done) | (simp [*]; done) | (exfalso; simp only [beq_iff_eq] at *; omega), by repeat (first | exact Drawn0.refl _ | apply Drawn0.step)⟩

/-! ### spec_WordJoin: function 10 -/
def spec_WordJoin.f (a0 : Int) (a1 : Int) (a2 : Int) (a3 : Int) : Option (Int × Int × Bool) := (spec_WordOk.f a0 a1).bind fun t162 => (if t162 = true then ((spec_WordOk.f a2 a3).bind fun t163 => (if t163 = true then (if (wrap64 (a0 + a2)) > 16 then (some (0, 0, false)) else (if 0 ≤ (IntKind.u64.wrap (a2)) then (some (wrap64 ((shl .i64 a1 (IntKind.u64.wrap (a2))) + a3), wrap64 (a0 + a2), true)) else (none))) else (some (0, 0, false)))) else (some (0, 0, false)))
set_option maxHeartbeats 8000000 in
set_option maxRecDepth 100000 in
theorem spec_WordJoin.calls (a0 : Int) (a1 : Int) (a2 : Int) (a3 : Int) (r1 : Int) (r2 : Int) (r3 : Bool) (w : World) (h : spec_WordJoin.f a0 a1 a2 a3 = some (r1, r2, r3)) :
    Calls Try.prog 10 #[.int .i64 a0, .int .i64 a1, .int .i64 a2, .int .i64 a3] w fun e w' => e = .returned (.tuple #[.int .i64 r1, .int .i64 r2, .bool r3]) ∧ Drawn0 w w' := by
  have H : ((spec_WordOk.f a0 a1).bind fun t162 => (if t162 = true then ((spec_WordOk.f a2 a3).bind fun t163 => (if t163 = true then (if (wrap64 (a0 + a2)) > 16 then (some (0, 0, false)) else (if 0 ≤ (IntKind.u64.wrap (a2)) then (some (wrap64 ((shl .i64 a1 (IntKind.u64.wrap (a2))) + a3), wrap64 (a0 + a2), true)) else (none))) else (some (0, 0, false)))) else (some (0, 0, false)))) = some (r1, r2, r3) := h
  clear h
  replace H := Option.bind_eq_some_iff.mp H
  obtain ⟨t162, A50, H⟩ := H
  replace H : (if t162 = true then ((spec_WordOk.f a2 a3).bind fun t163 => (if t163 = true then (if (wrap64 (a0 + a2)) > 16 then (some (0, 0, false)) else (if 0 ≤ (IntKind.u64.wrap (a2)) then (some (wrap64 ((shl .i64 a1 (IntKind.u64.wrap (a2))) + a3), wrap64 (a0 + a2), true)) else (none))) else (some (0, 0, false)))) else (some (0, 0, false))) = some (r1, r2, r3) := H
  have A5 := Aside0.mk A50
  clear A50
  by_cases c6 : t162 = true
  · subst c6
    have H1 : ((spec_WordOk.f a2 a3).bind fun t163 => (if t163 = true then (if (wrap64 (a0 + a2)) > 16 then (some (0, 0, false)) else (if 0 ≤ (IntKind.u64.wrap (a2)) then (some (wrap64 ((shl .i64 a1 (IntKind.u64.wrap (a2))) + a3), wrap64 (a0 + a2), true)) else (none))) else (some (0, 0, false)))) = some (r1, r2, r3) := by rw [if_pos rfl] at H; exact H
    clear H
    have H := H1
    clear H1
    replace H := Option.bind_eq_some_iff.mp H
    obtain ⟨t163, A70, H⟩ := H
    replace H : (if t163 = true then (if (wrap64 (a0 + a2)) > 16 then (some (0, 0, false)) else (if 0 ≤ (IntKind.u64.wrap (a2)) then (some (wrap64 ((shl .i64 a1 (IntKind.u64.wrap (a2))) + a3), wrap64 (a0 + a2), true)) else (none))) else (some (0, 0, false))) = some (r1, r2, r3) := H
    have A7 := Aside0.mk A70
    clear A70
    by_cases c8 : t163 = true
    · subst c8
      have H1 : (if (wrap64 (a0 + a2)) > 16 then (some (0, 0, false)) else (if 0 ≤ (IntKind.u64.wrap (a2)) then (some (wrap64 ((shl .i64 a1 (IntKind.u64.wrap (a2))) + a3), wrap64 (a0 + a2), true)) else (none))) = some (r1, r2, r3) := by rw [if_pos rfl] at H; exact H
      clear H
      have H := H1
      clear H1
      by_cases c9 : (wrap64 (a0 + a2)) > 16
      · rw [if_pos c9] at H
        have c9b0 : decide (16 < (wrap64 (a0 + a2))) = true := decide_eq_true c9
        clear c9
        simp only [Option.some.injEq, Prod.mk.injEq] at H
        obtain ⟨rfl, rfl, rfl⟩ := H
        go_enter Try.func10, Try.ntmps10
        go_wp2_with (first | ((with_reducible refine gate_callee (f := 17) rfl ?_); refine goesL_ (some 13) rfl rfl Try.func17 (by kernel_rfl) rfl #[.int .i64 a0, .int .i64 a1] rfl (by (try simp only [List.map_toArray, List.map_cons, List.map_nil]); first | done | rfl | (simp only [List.length_drop, List.length_take]; rfl)) ?_; (with_reducible refine (spec_WordOk.calls a0 a1 true _ A5.out).mono ?_); rintro e w' ⟨rfl, ⟨nd, rfl⟩⟩; refine ⟨_, rfl, ?_⟩) | (go_at_call 17; (with_reducible refine (spec_WordOk.calls a2 a3 true _ A7.out).mono ?_); rintro e w' ⟨rfl, ⟨nd, rfl⟩⟩))
        go_ret3
        exact ⟨by first | rfl | (simp; done) | (simp [*]; done) | (exfalso; simp only [beq_iff_eq] at *; omega), by repeat (first | exact Drawn0.refl _ | apply Drawn0.step)⟩
      · rw [if_neg c9] at H
        have c9b0 : decide (16 < (wrap64 (a0 + a2))) = false := decide_eq_false c9
        clear c9
        obtain ⟨ji10, hji10⟩ : ∃ j_ : Int, (IntKind.u64.wrap (a2)) = j_ := ⟨_, rfl⟩
        replace H : (if 0 ≤ (ji10) then (some (wrap64 ((shl .i64 a1 (ji10)) + a3), wrap64 (a0 + a2), true)) else (none)) = some (r1, r2, r3) := by first | (rw [hji10] at H; exact H) | (simp only [hji10] at H ⊢; exact H)
        (try rw [hji10] at A5)
        (try rw [hji10] at A7)
        by_cases c11 : 0 ≤ (ji10)
        · rw [if_pos c11] at H
          have c11b0 := eq_true c11
          have c11b1 : decide (0 ≤ (ji10)) = true := decide_eq_true c11
          clear c11
          obtain ⟨ji12, hji12⟩ : ∃ j_ : Int, (shl .i64 a1 (ji10)) = j_ := ⟨_, rfl⟩
          replace H : (some (wrap64 ((ji12) + a3), wrap64 (a0 + a2), true)) = some (r1, r2, r3) := by first | (rw [hji12] at H; exact H) | (simp only [hji12] at H ⊢; exact H)
          (try rw [hji12] at A5)
          (try rw [hji12] at A7)
          have hji12_ : (IntKind.i64.wrap (a1 * 2 ^ min (ji10).toNat 64)) = ji12 := hji12
          have hji12z : (ji10) ≤ 64 → (IntKind.i64.wrap (a1 * 2 ^ (ji10).toNat)) = ji12 := shl_small hji12
          have hji12y : (wrap64 (a1 * 2 ^ min (ji10).toNat 64)) = ji12 := (i64_w _).symm.trans hji12_
          have hji12x : (ji10) ≤ 64 → (wrap64 (a1 * 2 ^ (ji10).toNat)) = ji12 := fun h_ => (i64_w _).symm.trans (hji12z h_)
          simp only [Option.some.injEq, Prod.mk.injEq] at H
          obtain ⟨rfl, rfl, rfl⟩ := H
          go_enter Try.func10, Try.ntmps10
          go_wp2_with (first | ((with_reducible refine gate_callee (f := 17) rfl ?_); refine goesL_ (some 13) rfl rfl Try.func17 (by kernel_rfl) rfl #[.int .i64 a0, .int .i64 a1] rfl (by (try simp only [List.map_toArray, List.map_cons, List.map_nil]); first | done | rfl | (simp only [List.length_drop, List.length_take]; rfl)) ?_; (with_reducible refine (spec_WordOk.calls a0 a1 true _ A5.out).mono ?_); rintro e w' ⟨rfl, ⟨nd, rfl⟩⟩; refine ⟨_, rfl, ?_⟩) | (go_at_call 17; (with_reducible refine (spec_WordOk.calls a2 a3 true _ A7.out).mono ?_); rintro e w' ⟨rfl, ⟨nd, rfl⟩⟩))
          go_ret3
          exact ⟨by first | rfl | (simp; done) | (simp only [← hji10, ← hji12] <;> (first | rfl | (simp; done) | (simp [shl, IntKind.wrap, IntKind.bits, IntKind.signed, wrap64]; done))) | (simp [*]; done) | (exfalso; simp only [beq_iff_eq] at *; omega), by repeat (first | exact Drawn0.refl _ | apply Drawn0.step)⟩
        · rw [if_neg c11] at H
          exact absurd H (by simp)
    · replace c8 := Bool.eq_false_iff.mpr c8
      subst c8
      have H1 : (some (0, 0, false)) = some (r1, r2, r3) := by rw [if_neg (show ¬ (false = true) by decide)] at H; exact H
      clear H
      have H := H1
      clear H1
      simp only [Option.some.injEq, Prod.mk.injEq] at H
      obtain ⟨rfl, rfl, rfl⟩ := H
      go_enter Try.func10, Try.ntmps10
      go_wp2_with (first | ((with_reducible refine gate_callee (f := 17) rfl ?_); refine goesL_ (some 13) rfl rfl Try.func17 (by kernel_rfl) rfl #[.int .i64 a0, .int .i64 a1] rfl (by (try simp only [List.map_toArray, List.map_cons, List.map_nil]); first | done | rfl | (simp only [List.length_drop, List.length_take]; rfl)) ?_; (with_reducible refine (spec_WordOk.calls a0 a1 true _ A5.out).mono ?_); rintro e w' ⟨rfl, ⟨nd, rfl⟩⟩; refine ⟨_, rfl, ?_⟩) | (go_at_call 17; (with_reducible refine (spec_WordOk.calls a2 a3 false _ A7.out).mono ?_); rintro e w' ⟨rfl, ⟨nd, rfl⟩⟩))
      go_ret3
      exact ⟨by first | rfl | (simp; done) | (simp [*]; done) | (exfalso; simp only [beq_iff_eq] at *; omega), by repeat (first | exact Drawn0.refl _ | apply Drawn0.step)⟩
  · replace c6 := Bool.eq_false_iff.mpr c6
    subst c6
    have H1 : (some (0, 0, false)) = some (r1, r2, r3) := by rw [if_neg (show ¬ (false = true) by decide)] at H; exact H
    clear H
    have H := H1
    clear H1
    simp only [Option.some.injEq, Prod.mk.injEq] at H
    obtain ⟨rfl, rfl, rfl⟩ := H
    go_enter Try.func10, Try.ntmps10
    go_wp2_with (first | ((with_reducible refine gate_callee (f := 17) rfl ?_); refine goesL_ (some 13) rfl rfl Try.func17 (by kernel_rfl) rfl #[.int .i64 a0, .int .i64 a1] rfl (by (try simp only [List.map_toArray, List.map_cons, List.map_nil]); first | done | rfl | (simp only [List.length_drop, List.length_take]; rfl)) ?_; (with_reducible refine (spec_WordOk.calls a0 a1 false _ A5.out).mono ?_); rintro e w' ⟨rfl, ⟨nd, rfl⟩⟩; refine ⟨_, rfl, ?_⟩))
    go_ret3
    exact ⟨by first | rfl | (simp; done) | (simp [*]; done) | (exfalso; simp only [beq_iff_eq] at *; omega), by repeat (first | exact Drawn0.refl _ | apply Drawn0.step)⟩

/-! ### impl_WordSlice: function 11 -/
def impl_WordSlice.f (a0 : Int) (a1 : Int) (a2 : Int) (a3 : Int) : Option (Int × Int × Bool) := (impl_WordOk.f a0 a1).bind fun t164 => (if t164 = true then ((impl_in.f a2 0 (wrap64 (a0 - 1))).bind fun t165 => (if t165 = true then ((impl_in.f a3 0 a2).bind fun t166 => (if t166 = true then (if 0 ≤ a3 then ((impl_mask.f (wrap64 ((wrap64 (a2 - a3)) + 1))).bind fun t167 => (some (Go.bits .and .i64 (shr .i64 a1 a3) t167, wrap64 ((wrap64 (a2 - a3)) + 1), true))) else (none)) else (some (0, 0, false)))) else (some (0, 0, false)))) else (some (0, 0, false)))
set_option maxHeartbeats 8000000 in
set_option maxRecDepth 100000 in
theorem impl_WordSlice.calls (a0 : Int) (a1 : Int) (a2 : Int) (a3 : Int) (r1 : Int) (r2 : Int) (r3 : Bool) (w : World) (h : impl_WordSlice.f a0 a1 a2 a3 = some (r1, r2, r3)) :
    Calls Try.prog 11 #[.int .i64 a0, .int .i64 a1, .int .i64 a2, .int .i64 a3] w fun e w' => e = .returned (.tuple #[.int .i64 r1, .int .i64 r2, .bool r3]) ∧ Drawn0 w w' := by
  have H : ((impl_WordOk.f a0 a1).bind fun t164 => (if t164 = true then ((impl_in.f a2 0 (wrap64 (a0 - 1))).bind fun t165 => (if t165 = true then ((impl_in.f a3 0 a2).bind fun t166 => (if t166 = true then (if 0 ≤ a3 then ((impl_mask.f (wrap64 ((wrap64 (a2 - a3)) + 1))).bind fun t167 => (some (Go.bits .and .i64 (shr .i64 a1 a3) t167, wrap64 ((wrap64 (a2 - a3)) + 1), true))) else (none)) else (some (0, 0, false)))) else (some (0, 0, false)))) else (some (0, 0, false)))) = some (r1, r2, r3) := h
  clear h
  replace H := Option.bind_eq_some_iff.mp H
  obtain ⟨t164, A50, H⟩ := H
  replace H : (if t164 = true then ((impl_in.f a2 0 (wrap64 (a0 - 1))).bind fun t165 => (if t165 = true then ((impl_in.f a3 0 a2).bind fun t166 => (if t166 = true then (if 0 ≤ a3 then ((impl_mask.f (wrap64 ((wrap64 (a2 - a3)) + 1))).bind fun t167 => (some (Go.bits .and .i64 (shr .i64 a1 a3) t167, wrap64 ((wrap64 (a2 - a3)) + 1), true))) else (none)) else (some (0, 0, false)))) else (some (0, 0, false)))) else (some (0, 0, false))) = some (r1, r2, r3) := H
  have A5 := Aside0.mk A50
  clear A50
  by_cases c6 : t164 = true
  · subst c6
    have H1 : ((impl_in.f a2 0 (wrap64 (a0 - 1))).bind fun t165 => (if t165 = true then ((impl_in.f a3 0 a2).bind fun t166 => (if t166 = true then (if 0 ≤ a3 then ((impl_mask.f (wrap64 ((wrap64 (a2 - a3)) + 1))).bind fun t167 => (some (Go.bits .and .i64 (shr .i64 a1 a3) t167, wrap64 ((wrap64 (a2 - a3)) + 1), true))) else (none)) else (some (0, 0, false)))) else (some (0, 0, false)))) = some (r1, r2, r3) := by rw [if_pos rfl] at H; exact H
    clear H
    have H := H1
    clear H1
    replace H := Option.bind_eq_some_iff.mp H
    obtain ⟨t165, A70, H⟩ := H
    replace H : (if t165 = true then ((impl_in.f a3 0 a2).bind fun t166 => (if t166 = true then (if 0 ≤ a3 then ((impl_mask.f (wrap64 ((wrap64 (a2 - a3)) + 1))).bind fun t167 => (some (Go.bits .and .i64 (shr .i64 a1 a3) t167, wrap64 ((wrap64 (a2 - a3)) + 1), true))) else (none)) else (some (0, 0, false)))) else (some (0, 0, false))) = some (r1, r2, r3) := H
    have A7 := Aside0.mk A70
    clear A70
    by_cases c8 : t165 = true
    · subst c8
      have H1 : ((impl_in.f a3 0 a2).bind fun t166 => (if t166 = true then (if 0 ≤ a3 then ((impl_mask.f (wrap64 ((wrap64 (a2 - a3)) + 1))).bind fun t167 => (some (Go.bits .and .i64 (shr .i64 a1 a3) t167, wrap64 ((wrap64 (a2 - a3)) + 1), true))) else (none)) else (some (0, 0, false)))) = some (r1, r2, r3) := by rw [if_pos rfl] at H; exact H
      clear H
      have H := H1
      clear H1
      replace H := Option.bind_eq_some_iff.mp H
      obtain ⟨t166, A90, H⟩ := H
      replace H : (if t166 = true then (if 0 ≤ a3 then ((impl_mask.f (wrap64 ((wrap64 (a2 - a3)) + 1))).bind fun t167 => (some (Go.bits .and .i64 (shr .i64 a1 a3) t167, wrap64 ((wrap64 (a2 - a3)) + 1), true))) else (none)) else (some (0, 0, false))) = some (r1, r2, r3) := H
      have A9 := Aside0.mk A90
      clear A90
      by_cases c10 : t166 = true
      · subst c10
        have H1 : (if 0 ≤ a3 then ((impl_mask.f (wrap64 ((wrap64 (a2 - a3)) + 1))).bind fun t167 => (some (Go.bits .and .i64 (shr .i64 a1 a3) t167, wrap64 ((wrap64 (a2 - a3)) + 1), true))) else (none)) = some (r1, r2, r3) := by rw [if_pos rfl] at H; exact H
        clear H
        have H := H1
        clear H1
        by_cases c11 : 0 ≤ a3
        · rw [if_pos c11] at H
          have c11b0 := eq_true c11
          have c11b1 : decide (0 ≤ a3) = true := decide_eq_true c11
          clear c11
          obtain ⟨ji12, hji12⟩ : ∃ j_ : Int, (shr .i64 a1 a3) = j_ := ⟨_, rfl⟩
          replace H : ((impl_mask.f (wrap64 ((wrap64 (a2 - a3)) + 1))).bind fun t167 => (some (Go.bits .and .i64 (ji12) t167, wrap64 ((wrap64 (a2 - a3)) + 1), true))) = some (r1, r2, r3) := by first | (rw [hji12] at H; exact H) | (simp only [hji12] at H ⊢; exact H)
          (try rw [hji12] at A5)
          (try rw [hji12] at A7)
          (try rw [hji12] at A9)
          have hji12_ : (a1 / 2 ^ min a3.toNat 64) = ji12 := hji12
          have hji12z : a3 ≤ 64 → (a1 / 2 ^ a3.toNat) = ji12 := shr_small hji12
          replace H := Option.bind_eq_some_iff.mp H
          obtain ⟨t167, A130, H⟩ := H
          replace H : (some (Go.bits .and .i64 (ji12) t167, wrap64 ((wrap64 (a2 - a3)) + 1), true)) = some (r1, r2, r3) := H
          have A13 := Aside0.mk A130
          clear A130
          simp only [Option.some.injEq, Prod.mk.injEq] at H
          obtain ⟨rfl, rfl, rfl⟩ := H
          go_enter Try.func11, Try.ntmps11
          go_wp2_with (first | (go_at_call 27; (with_reducible refine (impl_WordOk.calls a0 a1 true _ A5.out).mono ?_); rintro e w' ⟨rfl, ⟨nd, rfl⟩⟩; (try first | exact ⟨rfl, _, World.drewN_drewN _ _ _⟩ | exact ⟨rfl, _, Eq.trans (World.drewN_drewN _ _ _) (congrArg (World.drewN _) (Nat.add_assoc _ _ _))⟩)) | (go_at_call 28; (with_reducible refine (impl_in.calls a2 0 (wrap64 (a0 - 1)) true _ A7.out).mono ?_); rintro e w' ⟨rfl, ⟨nd, rfl⟩⟩; (try first | exact ⟨rfl, _, World.drewN_drewN _ _ _⟩ | exact ⟨rfl, _, Eq.trans (World.drewN_drewN _ _ _) (congrArg (World.drewN _) (Nat.add_assoc _ _ _))⟩)) | (go_at_call 28; (with_reducible refine (impl_in.calls a3 0 a2 true _ A9.out).mono ?_); rintro e w' ⟨rfl, ⟨nd, rfl⟩⟩; (try first | exact ⟨rfl, _, World.drewN_drewN _ _ _⟩ | exact ⟨rfl, _, Eq.trans (World.drewN_drewN _ _ _) (congrArg (World.drewN _) (Nat.add_assoc _ _ _))⟩)) | (go_at_call 29; (with_reducible refine (impl_mask.calls (wrap64 ((wrap64 (a2 - a3)) + 1)) t167 _ A13.out).mono ?_); rintro e w' ⟨rfl, ⟨nd, rfl⟩⟩; (try first | exact ⟨rfl, _, World.drewN_drewN _ _ _⟩ | exact ⟨rfl, _, Eq.trans (World.drewN_drewN _ _ _) (congrArg (World.drewN _) (Nat.add_assoc _ _ _))⟩)))
          repeat (go_quiet (first | (go_at_call 27; (with_reducible refine (impl_WordOk.calls a0 a1 true _ A5.out).mono ?_); rintro e w' ⟨rfl, ⟨nd, rfl⟩⟩; (try first | exact ⟨rfl, _, World.drewN_drewN _ _ _⟩ | exact ⟨rfl, _, Eq.trans (World.drewN_drewN _ _ _) (congrArg (World.drewN _) (Nat.add_assoc _ _ _))⟩)) | (go_at_call 28; (with_reducible refine (impl_in.calls a2 0 (wrap64 (a0 - 1)) true _ A7.out).mono ?_); rintro e w' ⟨rfl, ⟨nd, rfl⟩⟩; (try first | exact ⟨rfl, _, World.drewN_drewN _ _ _⟩ | exact ⟨rfl, _, Eq.trans (World.drewN_drewN _ _ _) (congrArg (World.drewN _) (Nat.add_assoc _ _ _))⟩)) | (go_at_call 28; (with_reducible refine (impl_in.calls a3 0 a2 true _ A9.out).mono ?_); rintro e w' ⟨rfl, ⟨nd, rfl⟩⟩; (try first | exact ⟨rfl, _, World.drewN_drewN _ _ _⟩ | exact ⟨rfl, _, Eq.trans (World.drewN_drewN _ _ _) (congrArg (World.drewN _) (Nat.add_assoc _ _ _))⟩)) | (go_at_call 29; (with_reducible refine (impl_mask.calls (wrap64 ((wrap64 (a2 - a3)) + 1)) t167 _ A13.out).mono ?_); rintro e w' ⟨rfl, ⟨nd, rfl⟩⟩; (try first | exact ⟨rfl, _, World.drewN_drewN _ _ _⟩ | exact ⟨rfl, _, Eq.trans (World.drewN_drewN _ _ _) (congrArg (World.drewN _) (Nat.add_assoc _ _ _))⟩))); try go_wp2_with (first | (go_at_call 27; (with_reducible refine (impl_WordOk.calls a0 a1 true _ A5.out).mono ?_); rintro e w' ⟨rfl, ⟨nd, rfl⟩⟩; (try first | exact ⟨rfl, _, World.drewN_drewN _ _ _⟩ | exact ⟨rfl, _, Eq.trans (World.drewN_drewN _ _ _) (congrArg (World.drewN _) (Nat.add_assoc _ _ _))⟩)) | (go_at_call 28; (with_reducible refine (impl_in.calls a2 0 (wrap64 (a0 - 1)) true _ A7.out).mono ?_); rintro e w' ⟨rfl, ⟨nd, rfl⟩⟩; (try first | exact ⟨rfl, _, World.drewN_drewN _ _ _⟩ | exact ⟨rfl, _, Eq.trans (World.drewN_drewN _ _ _) (congrArg (World.drewN _) (Nat.add_assoc _ _ _))⟩)) | (go_at_call 28; (with_reducible refine (impl_in.calls a3 0 a2 true _ A9.out).mono ?_); rintro e w' ⟨rfl, ⟨nd, rfl⟩⟩; (try first | exact ⟨rfl, _, World.drewN_drewN _ _ _⟩ | exact ⟨rfl, _, Eq.trans (World.drewN_drewN _ _ _) (congrArg (World.drewN _) (Nat.add_assoc _ _ _))⟩)) | (go_at_call 29; (with_reducible refine (impl_mask.calls (wrap64 ((wrap64 (a2 - a3)) + 1)) t167 _ A13.out).mono ?_); rintro e w' ⟨rfl, ⟨nd, rfl⟩⟩; (try first | exact ⟨rfl, _, World.drewN_drewN _ _ _⟩ | exact ⟨rfl, _, Eq.trans (World.drewN_drewN _ _ _) (congrArg (World.drewN _) (Nat.add_assoc _ _ _))⟩))))
          go_ret3
          exact ⟨by first | rfl | (simp; done) | (simp only [← hji12] <;> (first | rfl | (simp; done) | (simp [shl, IntKind.wrap, IntKind.bits, IntKind.signed, wrap64]; done))) | (simp [*]; done) | (exfalso; simp only [beq_iff_eq] at *; omega), by repeat (first | exact Drawn0.refl _ | apply Drawn0.step)⟩
        · rw [if_neg c11] at H
          exact absurd H (by simp)
      · replace c10 := Bool.eq_false_iff.mpr c10
        subst c10
        have H1 : (some (0, 0, false)) = some (r1, r2, r3) := by rw [if_neg (show ¬ (false = true) by decide)] at H; exact H
        clear H
        have H := H1
        clear H1
        simp only [Option.some.injEq, Prod.mk.injEq] at H
        obtain ⟨rfl, rfl, rfl⟩ := H
        go_enter Try.func11, Try.ntmps11
        go_wp2_with (first | (go_at_call 27; (with_reducible refine (impl_WordOk.calls a0 a1 true _ A5.out).mono ?_); rintro e w' ⟨rfl, ⟨nd, rfl⟩⟩; (try first | exact ⟨rfl, _, World.drewN_drewN _ _ _⟩ | exact ⟨rfl, _, Eq.trans (World.drewN_drewN _ _ _) (congrArg (World.drewN _) (Nat.add_assoc _ _ _))⟩)) | (go_at_call 28; (with_reducible refine (impl_in.calls a2 0 (wrap64 (a0 - 1)) true _ A7.out).mono ?_); rintro e w' ⟨rfl, ⟨nd, rfl⟩⟩; (try first | exact ⟨rfl, _, World.drewN_drewN _ _ _⟩ | exact ⟨rfl, _, Eq.trans (World.drewN_drewN _ _ _) (congrArg (World.drewN _) (Nat.add_assoc _ _ _))⟩)) | (go_at_call 28; (with_reducible refine (impl_in.calls a3 0 a2 false _ A9.out).mono ?_); rintro e w' ⟨rfl, ⟨nd, rfl⟩⟩; (try first | exact ⟨rfl, _, World.drewN_drewN _ _ _⟩ | exact ⟨rfl, _, Eq.trans (World.drewN_drewN _ _ _) (congrArg (World.drewN _) (Nat.add_assoc _ _ _))⟩)))
        repeat (go_quiet (first | (go_at_call 27; (with_reducible refine (impl_WordOk.calls a0 a1 true _ A5.out).mono ?_); rintro e w' ⟨rfl, ⟨nd, rfl⟩⟩; (try first | exact ⟨rfl, _, World.drewN_drewN _ _ _⟩ | exact ⟨rfl, _, Eq.trans (World.drewN_drewN _ _ _) (congrArg (World.drewN _) (Nat.add_assoc _ _ _))⟩)) | (go_at_call 28; (with_reducible refine (impl_in.calls a2 0 (wrap64 (a0 - 1)) true _ A7.out).mono ?_); rintro e w' ⟨rfl, ⟨nd, rfl⟩⟩; (try first | exact ⟨rfl, _, World.drewN_drewN _ _ _⟩ | exact ⟨rfl, _, Eq.trans (World.drewN_drewN _ _ _) (congrArg (World.drewN _) (Nat.add_assoc _ _ _))⟩)) | (go_at_call 28; (with_reducible refine (impl_in.calls a3 0 a2 false _ A9.out).mono ?_); rintro e w' ⟨rfl, ⟨nd, rfl⟩⟩; (try first | exact ⟨rfl, _, World.drewN_drewN _ _ _⟩ | exact ⟨rfl, _, Eq.trans (World.drewN_drewN _ _ _) (congrArg (World.drewN _) (Nat.add_assoc _ _ _))⟩))); try go_wp2_with (first | (go_at_call 27; (with_reducible refine (impl_WordOk.calls a0 a1 true _ A5.out).mono ?_); rintro e w' ⟨rfl, ⟨nd, rfl⟩⟩; (try first | exact ⟨rfl, _, World.drewN_drewN _ _ _⟩ | exact ⟨rfl, _, Eq.trans (World.drewN_drewN _ _ _) (congrArg (World.drewN _) (Nat.add_assoc _ _ _))⟩)) | (go_at_call 28; (with_reducible refine (impl_in.calls a2 0 (wrap64 (a0 - 1)) true _ A7.out).mono ?_); rintro e w' ⟨rfl, ⟨nd, rfl⟩⟩; (try first | exact ⟨rfl, _, World.drewN_drewN _ _ _⟩ | exact ⟨rfl, _, Eq.trans (World.drewN_drewN _ _ _) (congrArg (World.drewN _) (Nat.add_assoc _ _ _))⟩)) | (go_at_call 28; (with_reducible refine (impl_in.calls a3 0 a2 false _ A9.out).mono ?_); rintro e w' ⟨rfl, ⟨nd, rfl⟩⟩; (try first | exact ⟨rfl, _, World.drewN_drewN _ _ _⟩ | exact ⟨rfl, _, Eq.trans (World.drewN_drewN _ _ _) (congrArg (World.drewN _) (Nat.add_assoc _ _ _))⟩))))
        go_ret3
        exact ⟨by first | rfl | (simp; done) | (simp [*]; done) | (exfalso; simp only [beq_iff_eq] at *; omega), by repeat (first | exact Drawn0.refl _ | apply Drawn0.step)⟩
    · replace c8 := Bool.eq_false_iff.mpr c8
      subst c8
      have H1 : (some (0, 0, false)) = some (r1, r2, r3) := by rw [if_neg (show ¬ (false = true) by decide)] at H; exact H
      clear H
      have H := H1
      clear H1
      simp only [Option.some.injEq, Prod.mk.injEq] at H
      obtain ⟨rfl, rfl, rfl⟩ := H
      go_enter Try.func11, Try.ntmps11
      go_wp2_with (first | (go_at_call 27; (with_reducible refine (impl_WordOk.calls a0 a1 true _ A5.out).mono ?_); rintro e w' ⟨rfl, ⟨nd, rfl⟩⟩; (try first | exact ⟨rfl, _, World.drewN_drewN _ _ _⟩ | exact ⟨rfl, _, Eq.trans (World.drewN_drewN _ _ _) (congrArg (World.drewN _) (Nat.add_assoc _ _ _))⟩)) | (go_at_call 28; (with_reducible refine (impl_in.calls a2 0 (wrap64 (a0 - 1)) false _ A7.out).mono ?_); rintro e w' ⟨rfl, ⟨nd, rfl⟩⟩; (try first | exact ⟨rfl, _, World.drewN_drewN _ _ _⟩ | exact ⟨rfl, _, Eq.trans (World.drewN_drewN _ _ _) (congrArg (World.drewN _) (Nat.add_assoc _ _ _))⟩)))
      repeat (go_quiet (first | (go_at_call 27; (with_reducible refine (impl_WordOk.calls a0 a1 true _ A5.out).mono ?_); rintro e w' ⟨rfl, ⟨nd, rfl⟩⟩; (try first | exact ⟨rfl, _, World.drewN_drewN _ _ _⟩ | exact ⟨rfl, _, Eq.trans (World.drewN_drewN _ _ _) (congrArg (World.drewN _) (Nat.add_assoc _ _ _))⟩)) | (go_at_call 28; (with_reducible refine (impl_in.calls a2 0 (wrap64 (a0 - 1)) false _ A7.out).mono ?_); rintro e w' ⟨rfl, ⟨nd, rfl⟩⟩; (try first | exact ⟨rfl, _, World.drewN_drewN _ _ _⟩ | exact ⟨rfl, _, Eq.trans (World.drewN_drewN _ _ _) (congrArg (World.drewN _) (Nat.add_assoc _ _ _))⟩))); try go_wp2_with (first | (go_at_call 27; (with_reducible refine (impl_WordOk.calls a0 a1 true _ A5.out).mono ?_); rintro e w' ⟨rfl, ⟨nd, rfl⟩⟩; (try first | exact ⟨rfl, _, World.drewN_drewN _ _ _⟩ | exact ⟨rfl, _, Eq.trans (World.drewN_drewN _ _ _) (congrArg (World.drewN _) (Nat.add_assoc _ _ _))⟩)) | (go_at_call 28; (with_reducible refine (impl_in.calls a2 0 (wrap64 (a0 - 1)) false _ A7.out).mono ?_); rintro e w' ⟨rfl, ⟨nd, rfl⟩⟩; (try first | exact ⟨rfl, _, World.drewN_drewN _ _ _⟩ | exact ⟨rfl, _, Eq.trans (World.drewN_drewN _ _ _) (congrArg (World.drewN _) (Nat.add_assoc _ _ _))⟩))))
      go_ret3
      exact ⟨by first | rfl | (simp; done) | (simp [*]; done) | (exfalso; simp only [beq_iff_eq] at *; omega), by repeat (first | exact Drawn0.refl _ | apply Drawn0.step)⟩
  · replace c6 := Bool.eq_false_iff.mpr c6
    subst c6
    have H1 : (some (0, 0, false)) = some (r1, r2, r3) := by rw [if_neg (show ¬ (false = true) by decide)] at H; exact H
    clear H
    have H := H1
    clear H1
    simp only [Option.some.injEq, Prod.mk.injEq] at H
    obtain ⟨rfl, rfl, rfl⟩ := H
    go_enter Try.func11, Try.ntmps11
    go_wp2_with (first | (go_at_call 27; (with_reducible refine (impl_WordOk.calls a0 a1 false _ A5.out).mono ?_); rintro e w' ⟨rfl, ⟨nd, rfl⟩⟩; (try first | exact ⟨rfl, _, World.drewN_drewN _ _ _⟩ | exact ⟨rfl, _, Eq.trans (World.drewN_drewN _ _ _) (congrArg (World.drewN _) (Nat.add_assoc _ _ _))⟩)))
    repeat (go_quiet (first | (go_at_call 27; (with_reducible refine (impl_WordOk.calls a0 a1 false _ A5.out).mono ?_); rintro e w' ⟨rfl, ⟨nd, rfl⟩⟩; (try first | exact ⟨rfl, _, World.drewN_drewN _ _ _⟩ | exact ⟨rfl, _, Eq.trans (World.drewN_drewN _ _ _) (congrArg (World.drewN _) (Nat.add_assoc _ _ _))⟩))); try go_wp2_with (first | (go_at_call 27; (with_reducible refine (impl_WordOk.calls a0 a1 false _ A5.out).mono ?_); rintro e w' ⟨rfl, ⟨nd, rfl⟩⟩; (try first | exact ⟨rfl, _, World.drewN_drewN _ _ _⟩ | exact ⟨rfl, _, Eq.trans (World.drewN_drewN _ _ _) (congrArg (World.drewN _) (Nat.add_assoc _ _ _))⟩))))
    go_ret3
    exact ⟨by first | rfl | (simp; done) | (simp [*]; done) | (exfalso; simp only [beq_iff_eq] at *; omega), by repeat (first | exact Drawn0.refl _ | apply Drawn0.step)⟩

/-! ### spec_DrawWordGrow: function 12 -/
def spec_DrawWordGrow.f (k : Nat) (l0 : List Int) : Option (Int × Int × Int × Bool) := (spec_l17Open.f l0).bind fun bt168 => ((spec_l17Rd_width.f k bt168.1 bt168.2).bind fun bt171 => ((spec_l17Rd_word.f k bt168.1 bt171.2 bt171.1).bind fun bt173 => ((some (([0, 1, 3, wrap64 (16 - bt171.1), wrap64 (17 - bt171.1), (-1)] : List Int) : List Int)).bind fun y175 => ((spec_l17Rd_pick.f k bt168.1 bt173.2 6).bind fun bt178 => (if 0 ≤ bt178.1 then (if bt178.1 < (y175.length : Int) then ((spec_l17Rd_pick.f k bt168.1 bt178.2 2).bind fun bt181 => (some (bt171.1, bt173.1, rd y175 bt178.1, (bt181.1 == 0)))) else (none)) else (none))))))
theorem spec_DrawWordGrow.mono : ∀ a0 k, LeO (spec_DrawWordGrow.f k a0) (spec_DrawWordGrow.f (k + 1) a0) := by
  intro a0 k
  unfold spec_DrawWordGrow.f
  repeat' first
      | (with_reducible exact spec_l17Rd_pick.mono _ _ _ _)
      | (with_reducible exact spec_l17Rd_width.mono _ _ _)
      | (with_reducible exact spec_l17Rd_word.mono _ _ _ _)
      | (with_reducible exact LeO.refl _)
      | (with_reducible exact LeO.none _)
      | (with_reducible refine LeO.ite ?_ ?_)
      | (with_reducible refine LeO.bind ?_ (fun _ => ?_))
      | exact spec_l17Rd_pick.mono _ _ _ _
      | exact spec_l17Rd_width.mono _ _ _
      | exact spec_l17Rd_word.mono _ _ _ _
      | exact LeO.none _
      | refine LeO.ite ?_ ?_
      | refine LeO.bind ?_ (fun _ => ?_)
def spec_DrawWordGrow.T3 : Bool × List (List Nat × List Nat) := (true, [([], []), ([], []), ([], []), ([1, 2], [1, 2]), ([], []), ([4], [4]), ([], []), ([6], [6]), ([5, 7], [5, 7]), ([], []), ([9, 3], [9]), ([8, 10], [8, 10]), ([11], [11]), ([], []), ([13, 10], [13]), ([14], [14]), ([0, 14, 0], [0]), ([3, 16, 0, 1, 2, 3, 16], [3]), ([12, 17, 0, 1, 2, 3, 4, 5, 6, 7, 8, 9, 10, 11, 12, 16, 17], [12]), ([15, 18, 0, 1, 2, 3, 4, 5, 6, 7, 8, 9, 10, 11, 12, 13, 14, 15, 16, 17, 18], [15])])
def spec_DrawWordGrow.B3 : List Nat := [0, 0, 0, 6, 0, 16, 0, 64, 240, 0, 526, 2046, 4094, 0, 9742, 26126, 26127, 91663, 229375, 524287]
theorem spec_DrawWordGrow.tab3 : rtab .any (opsOf Try.f12 3) = spec_DrawWordGrow.T3 := by kernel_rfl
theorem spec_DrawWordGrow.bits3 : waitsOk spec_DrawWordGrow.T3.2 spec_DrawWordGrow.B3 = true := by kernel_rfl
set_option maxHeartbeats 8000000 in
set_option maxRecDepth 100000 in
theorem spec_DrawWordGrow.calls (k : Nat) (A0 : Option Addr) (c0 : Nat) (l0 : List Int) (r1 : Int) (r2 : Int) (r3 : Int) (r4 : Bool) (w : World) (hr0 : Kd.C (Kd.int .u8) w A0 l0.length l0) (hc0 : l0.length ≤ c0) (h : spec_DrawWordGrow.f k l0 = some (r1, r2, r3, r4)) :
    Calls Try.prog 12 #[.slice A0 l0.length c0] w fun e w' => e = .returned (.tuple #[.int .i64 r1, .int .i64 r2, .int .i64 r3, .bool r4]) ∧ Below w.heap.size w w' := by
  have HR0 := Aside0.mk hr0
  have HC0 := Aside0.mk hc0
  clear hr0 hc0
  have HB := Aside0.mk (Below.refl w.heap.size w)
  have H : ((spec_l17Open.f l0).bind fun bt168 => ((spec_l17Rd_width.f k bt168.1 bt168.2).bind fun bt171 => ((spec_l17Rd_word.f k bt168.1 bt171.2 bt171.1).bind fun bt173 => ((some (([0, 1, 3, wrap64 (16 - bt171.1), wrap64 (17 - bt171.1), (-1)] : List Int) : List Int)).bind fun y175 => ((spec_l17Rd_pick.f k bt168.1 bt173.2 6).bind fun bt178 => (if 0 ≤ bt178.1 then (if bt178.1 < (y175.length : Int) then ((spec_l17Rd_pick.f k bt168.1 bt178.2 2).bind fun bt181 => (some (bt171.1, bt173.1, rd y175 bt178.1, (bt181.1 == 0)))) else (none)) else (none))))))) = some (r1, r2, r3, r4) := h
  clear h
  replace H := Option.bind_eq_some_iff.mp H
  obtain ⟨⟨t168, t169⟩, A20, H⟩ := H
  replace H : ((spec_l17Rd_width.f k t168 t169).bind fun bt171 => ((spec_l17Rd_word.f k t168 bt171.2 bt171.1).bind fun bt173 => ((some (([0, 1, 3, wrap64 (16 - bt171.1), wrap64 (17 - bt171.1), (-1)] : List Int) : List Int)).bind fun y175 => ((spec_l17Rd_pick.f k t168 bt173.2 6).bind fun bt178 => (if 0 ≤ bt178.1 then (if bt178.1 < (y175.length : Int) then ((spec_l17Rd_pick.f k t168 bt178.2 2).bind fun bt181 => (some (bt171.1, bt173.1, rd y175 bt178.1, (bt181.1 == 0)))) else (none)) else (none)))))) = some (r1, r2, r3, r4) := H
  have A2 := Aside0.mk A20
  clear A20
  replace H := Option.bind_eq_some_iff.mp H
  obtain ⟨⟨t171, t172⟩, A30, H⟩ := H
  replace H : ((spec_l17Rd_word.f k t168 t172 t171).bind fun bt173 => ((some (([0, 1, 3, wrap64 (16 - t171), wrap64 (17 - t171), (-1)] : List Int) : List Int)).bind fun y175 => ((spec_l17Rd_pick.f k t168 bt173.2 6).bind fun bt178 => (if 0 ≤ bt178.1 then (if bt178.1 < (y175.length : Int) then ((spec_l17Rd_pick.f k t168 bt178.2 2).bind fun bt181 => (some (t171, bt173.1, rd y175 bt178.1, (bt181.1 == 0)))) else (none)) else (none))))) = some (r1, r2, r3, r4) := H
  have A3 := Aside0.mk A30
  clear A30
  replace H := Option.bind_eq_some_iff.mp H
  obtain ⟨⟨t173, t174⟩, A40, H⟩ := H
  replace H : ((some (([0, 1, 3, wrap64 (16 - t171), wrap64 (17 - t171), (-1)] : List Int) : List Int)).bind fun y175 => ((spec_l17Rd_pick.f k t168 t174 6).bind fun bt178 => (if 0 ≤ bt178.1 then (if bt178.1 < (y175.length : Int) then ((spec_l17Rd_pick.f k t168 bt178.2 2).bind fun bt181 => (some (t171, t173, rd y175 bt178.1, (bt181.1 == 0)))) else (none)) else (none)))) = some (r1, r2, r3, r4) := H
  have A4 := Aside0.mk A40
  clear A40
  obtain ⟨y175, hy175⟩ : ∃ y_ : List Int, y_ = (([0, 1, 3, wrap64 (16 - t171), wrap64 (17 - t171), (-1)] : List Int)) := ⟨_, rfl⟩
  replace H : ((spec_l17Rd_pick.f k t168 t174 6).bind fun bt178 => (if 0 ≤ bt178.1 then (if bt178.1 < (y175.length : Int) then ((spec_l17Rd_pick.f k t168 bt178.2 2).bind fun bt181 => (some (t171, t173, rd y175 bt178.1, (bt181.1 == 0)))) else (none)) else (none))) = some (r1, r2, r3, r4) := by first | (rw [hy175]; with_reducible exact H) | (have H2_ := (Option.bind_some _ _).symm.trans H; rw [hy175]; with_reducible exact H2_) | (have H2_ := (Option.bind_some _ _).symm.trans H; with_reducible exact H2_) | with_reducible exact H | (rw [hy175]; exact H) | exact H
  have Ny175 := Aside0.mk hy175
  clear hy175
  replace H := Option.bind_eq_some_iff.mp H
  obtain ⟨⟨t178, t179⟩, A50, H⟩ := H
  replace H : (if 0 ≤ t178 then (if t178 < (y175.length : Int) then ((spec_l17Rd_pick.f k t168 t179 2).bind fun bt181 => (some (t171, t173, rd y175 t178, (bt181.1 == 0)))) else (none)) else (none)) = some (r1, r2, r3, r4) := H
  have A5 := Aside0.mk A50
  clear A50
  by_cases c6 : 0 ≤ t178
  · rw [if_pos c6] at H
    have c6b0 : decide (0 ≤ t178) = true := decide_eq_true c6
    clear c6
    by_cases c7 : t178 < (y175.length : Int)
    · rw [if_pos c7] at H
      have c7b0 : decide (t178 < (y175.length : Int)) = true := decide_eq_true c7
      clear c7
      replace H := Option.bind_eq_some_iff.mp H
      obtain ⟨⟨t181, t182⟩, A80, H⟩ := H
      replace H : (some (t171, t173, rd y175 t178, (t181 == 0))) = some (r1, r2, r3, r4) := H
      have A8 := Aside0.mk A80
      clear A80
      simp only [Option.some.injEq, Prod.mk.injEq] at H
      obtain ⟨rfl, rfl, rfl, rfl⟩ := H
      go_enter Try.func12, Try.ntmps12
      try go_wp2_with (first | ((with_reducible refine gate_callee (f := 23) rfl ?_); refine goesL_ (some 9) rfl rfl Try.func23 (by kernel_rfl) rfl #[.slice A0 l0.length c0] rfl (by (try simp only [List.map_toArray, List.map_cons, List.map_nil]); first | done | rfl | (simp only [List.length_drop, List.length_take]; rfl)) ?_; (with_reducible refine (spec_l17Open.calls _ _ l0 t168 t169 w _ ?side1 ?side2 ?side3 A2.out).mono ?_); (case side1 => repeat (first | (with_reducible first | exact HB.out | apply below_alloc | apply pw_below_drewN | apply below_drew1) | exact HB.out)); (case side2 => exact HR0.out); (case side3 => exact HC0.out); rintro e w9 ⟨g170, rfl, hi, hb, hb2⟩; refine ⟨_, rfl, ?_⟩; have n0_ := Aside0.mk (hb); have n1_ := Aside0.mk (hi); clear HB; have HB := n0_; have HI170 := n1_; clear n0_ n1_; (try clear hb); (try clear hb2); (try clear hk); (try clear hi)) | ((with_reducible refine gate_callee (f := 24) rfl ?_); refine goesL_ (some 11) rfl rfl Try.func24 (by kernel_rfl) rfl #[.pointer (some ⟨g170, 0, none⟩)] rfl (by (try simp only [List.map_toArray, List.map_cons, List.map_nil]); first | done | rfl | (simp only [List.length_drop, List.length_take]; rfl)) ?_; (with_reducible refine (spec_l17Rd_width.calls k g170 t168 t169 t171 t172 w _ ?side1 ?side2 A3.out).mono ?_); (case side1 => repeat (first | (with_reducible first | exact HI170.out | apply IsS50.alloc | apply IsS50.drewN | apply IsS50.drew | apply IsS50.set_1) | exact HI170.out)); (case side2 => repeat (first | (with_reducible first | exact HB.out | apply below_alloc | apply pw_below_drewN | apply below_drew1 | refine below_set ?_ (IsS50.ge HI170.out)) | exact HB.out)); rintro e w10 ⟨rfl, hi, hb, hk⟩; refine ⟨_, rfl, ?_⟩; have n0_ := Aside0.mk (hb); have n1_ := Aside0.mk (hi); clear HB; clear HI170; have HB := n0_; have HI170 := n1_; clear n0_ n1_; (try clear hb); (try clear hb2); (try clear hk); (try clear hi)))
      have pi180 : (0 ≤ (t178 : Int)) = True := eq_true (of_decide_eq_true (by first | (with_reducible assumption) | assumption))
      have qi180 : (t178 < (y175.length : Int)) = True := eq_true (of_decide_eq_true (by first | (with_reducible assumption) | assumption))
      have n0_ := Aside0.mk (IsS50.drew HI170.out)
      have n1_ := Aside0.mk (below_drew1 HB.out)
      clear HI170
      clear HB
      have HI170 := n0_
      have HB := n1_
      clear n0_ n1_
      refine start_ (n := 20) (S := fun w' => True) (ds := []) #[false, false, false, false, false, false, false, false, false, false, false, false, false, false, false, false, false, false, false, false] (by kernel_rfl) rfl rfl trivial (fun hHeld => ?_); refine with_tabW spec_DrawWordGrow.tab3 spec_DrawWordGrow.bits3 (fun HT_ HW_ => ?_)
      generalize w10.drew = w11 at HI170 HB hHeld ⊢
      refine pure_ (i := 0) (N := some 12) (v := ?_) (a' := ?_) #[true, false, false, false, false, false, false, false, false, false, false, false, false, false, false, false, false, false, false, false] rfl rfl (any_of HT_.out (by kernel_rfl)) (fun _ _ _ h => h) (Or.inl ⟨by rfl, ?_⟩) ?_ ?_
      rotate_left
      · intro w'
        go_simp
        with_reducible rfl
      rotate_left
      · simp only [Act.put, List.setIfInBounds_toArray, List.set_cons_zero, List.set_cons_succ, i64_w, i32_w]
        rfl
      refine pure_ (i := 1) (N := some 13) (v := ?_) (a' := ?_) #[true, true, false, false, false, false, false, false, false, false, false, false, false, false, false, false, false, false, false, false] rfl rfl (any_of HT_.out (by kernel_rfl)) (fun _ _ _ h => h) (Or.inl ⟨by rfl, ?_⟩) ?_ ?_
      rotate_left
      · intro w'
        go_simp
        with_reducible rfl
      rotate_left
      · simp only [Act.put, List.setIfInBounds_toArray, List.set_cons_zero, List.set_cons_succ, i64_w, i32_w]
        rfl
      refine pure_ (i := 2) (N := some 14) (v := ?_) (a' := ?_) #[true, true, true, false, false, false, false, false, false, false, false, false, false, false, false, false, false, false, false, false] rfl rfl (any_of HT_.out (by kernel_rfl)) (fun _ _ _ h => h) (Or.inl ⟨by rfl, ?_⟩) ?_ ?_
      rotate_left
      · intro w'
        go_simp
        with_reducible rfl
      rotate_left
      · simp only [Act.put, List.setIfInBounds_toArray, List.set_cons_zero, List.set_cons_succ, i64_w, i32_w]
        rfl
      refine pure_ (i := 4) (N := some 16) (v := ?_) (a' := ?_) #[true, true, true, false, true, false, false, false, false, false, false, false, false, false, false, false, false, false, false, false] rfl rfl (any_of HT_.out (by kernel_rfl)) (fun _ _ _ h => h) (Or.inl ⟨by rfl, ?_⟩) ?_ ?_
      rotate_left
      · intro w'
        go_simp
        with_reducible rfl
      rotate_left
      · simp only [Act.put, List.setIfInBounds_toArray, List.set_cons_zero, List.set_cons_succ, i64_w, i32_w]
        rfl
      refine pure_ (i := 6) (N := some 18) (v := ?_) (a' := ?_) #[true, true, true, false, true, false, true, false, false, false, false, false, false, false, false, false, false, false, false, false] rfl rfl (any_of HT_.out (by kernel_rfl)) (fun _ _ _ h => h) (Or.inl ⟨by rfl, ?_⟩) ?_ ?_
      rotate_left
      · intro w'
        go_simp
        with_reducible rfl
      rotate_left
      · simp only [Act.put, List.setIfInBounds_toArray, List.set_cons_zero, List.set_cons_succ, i64_w, i32_w]
        rfl
      refine pure_ (i := 9) (N := some 21) (v := ?_) (a' := ?_) #[true, true, true, false, true, false, true, false, false, true, false, false, false, false, false, false, false, false, false, false] rfl rfl (any_of HT_.out (by kernel_rfl)) (fun _ _ _ h => h) (Or.inl ⟨by rfl, ?_⟩) ?_ ?_
      rotate_left
      · intro w'
        go_simp
        with_reducible rfl
      rotate_left
      · simp only [Act.put, List.setIfInBounds_toArray, List.set_cons_zero, List.set_cons_succ, i64_w, i32_w]
        rfl
      refine pure_ (i := 13) (N := some 25) (v := ?_) (a' := ?_) #[true, true, true, false, true, false, true, false, false, true, false, false, false, true, false, false, false, false, false, false] rfl rfl (any_of HT_.out (by kernel_rfl)) (fun _ _ _ h => h) (Or.inl ⟨by rfl, ?_⟩) ?_ ?_
      rotate_left
      · intro w'
        go_simp
        with_reducible rfl
      rotate_left
      · simp only [Act.put, List.setIfInBounds_toArray, List.set_cons_zero, List.set_cons_succ, i64_w, i32_w]
        rfl
      refine inv_at [3, 5, 7, 8, 10, 11, 12, 14, 15, 16, 17, 18, 19] (fun a0_ b a w' => ∃ (v176 : Value) (adz_v176 : Addr) (m11_ : Value), a = putSel a0_ b [(3, 15, .int .i64 t173), (5, 17, .int .i64 (wrap64 (16 - t171))), (7, 19, .int .i64 (wrap64 (17 - t171))), (8, 20, v176), (10, 22, .int .i64 t178), (11, 23, m11_), (12, 24, .int .i64 (rd y175 t178)), (14, 26, .int .i64 t181), (15, 27, .bool (t181 == 0)), (16, 2, .int .i64 t171), (17, 3, .int .i64 t173), (18, 4, .int .i64 (rd y175 t178)), (19, 5, .bool (t181 == 0))] ∧ (b 3 = false → IsS50 w w' g170 t168 t172) ∧ (Below w.heap.size w w') ∧ (b 3 = true → b 10 = false → IsS50 w w' g170 t168 t174) ∧ (b 8 = true → Kd.R (Kd.int .i64) 3 w' w.heap.size (fun _ => True) v176 y175) ∧ (b 8 = true → ∃ c_, (v176 : Value) = .slice (some adz_v176) y175.length c_) ∧ (b 10 = true → b 14 = false → IsS50 w w' g170 t168 t179) ∧ (b 14 = true → IsS50 w w' g170 t168 t182) ∧ (b 11 = true → (m11_ : Value) = .pointer (some (adz_v176.add (t178).toNat)))) HT_.out HW_.out (by kernel_rfl) (by kernel_rfl) ?_ ?_ ?_
      · exact ⟨.bool false, ⟨0, 0, none⟩, .bool false, by simp only [putSel, Bool.false_eq_true, if_false], fun _ => HI170.out, HB.out, fun h_ => absurd h_ (by decide), fun h_ => absurd h_ (by decide), fun h_ => absurd h_ (by decide), fun h_ => absurd h_ (by decide), fun h_ => absurd h_ (by decide), fun h_ => absurd h_ (by decide)⟩
      · skip
        clear HB HI170
        refine steps_cons ?_ ?_
        · rintro b a w' ⟨v176, adz_v176, m11_, ha, Q_HI170, Q_HB, Q_HI170_e3, Q_HO177, Q_HA_HO177, Q_HI170_e10, Q_HI170_e14, Q_X11_⟩ hb_ hon hoff
          refine ⟨_, rfl, fun K hK => ?_⟩
          have e13 : a.tmps[13]? = some (.pointer (some ⟨g170, 0, none⟩)) := by rw [ha]; exact (putSel_off rfl).trans rfl
          have e14 : a.tmps[14]? = some (.int .i64 t171) := by rw [ha]; exact (putSel_off rfl).trans rfl
          replace ha := Aside0.mk ha
          have HI170 := Aside0.mk (Q_HI170 hb_)
          have HB := Aside0.mk Q_HB
          refine goes_ Try.func26 (by kernel_rfl) rfl #[.pointer (some ⟨g170, 0, none⟩), .int .i64 t171] (by rfl) rfl rfl (by first | (simp only [List.map_toArray, List.map_cons, List.map_nil, Act.eval, Array.getD_eq_getD_getElem?, Option.getD_some, e13, e14]; done) | (simp only [List.map_toArray, List.map_cons, List.map_nil, Act.eval, Array.getD_eq_getD_getElem?, Option.getD_some, e13, e14]; rfl)) ?_
          with_reducible refine (spec_l17Rd_word.calls k g170 t168 t172 t171 t173 t174 w _ ?side1 ?side2 A4.out).mono ?_
          (case side1 => repeat (first | (with_reducible first | exact HI170.out | apply IsS50.alloc | apply IsS50.drewN | apply IsS50.drew | apply IsS50.set_1) | exact HI170.out))
          (case side2 => repeat (first | (with_reducible first | exact HB.out | apply below_alloc | apply pw_below_drewN | apply below_drew1 | refine below_set ?_ (IsS50.ge HI170.out)) | exact HB.out))
          rintro e w12 ⟨rfl, hi, hb, hk⟩
          refine ⟨_, rfl, ?_⟩
          have n0_ := Aside0.mk (hb)
          have n1_ := Aside0.mk (hi)
          have z_HO177 := fun (h0_ : b 8 = true) => (show Kd.R (Kd.int .i64) 3 w12 w.heap.size (fun _ => True) v176 y175 from by first | exact (Kd.R_mono (Kd.R_keep (IsS50.apart (show IsS50 w _ g170 t168 t172 from by repeat (first | (with_reducible first | exact HI170.out | apply IsS50.alloc | apply IsS50.drewN | apply IsS50.drew | apply IsS50.set_1) | exact HI170.out)) (by (with_reducible repeat (first | apply Kd.R_alloc | apply Kd.R_drewN | apply Kd.R_drew)); exact (Q_HO177 h0_)) (by decide)) hk (fun _ h => h.2)) (fun _ h => h.1)) | exact Kd.R_mono (Kd.R_mono (Kd.R_keep (IsS50.apart (show IsS50 w _ g170 t168 t172 from by repeat (first | (with_reducible first | exact HI170.out | apply IsS50.alloc | apply IsS50.drewN | apply IsS50.drew | apply IsS50.set_1) | exact HI170.out)) (by (with_reducible repeat (first | apply Kd.R_alloc | apply Kd.R_drewN | apply Kd.R_drew)); exact (Q_HO177 h0_)) (by decide)) hk (fun _ h => h.2)) (fun _ h => h.1)) (fun _ h_ => by first | trivial | exact h_ | exact h_.1))
          clear HB
          clear HI170
          have HB := n0_
          have HI170 := n1_
          clear n0_ n1_
          (try clear hb)
          (try clear hb2)
          (try clear hk)
          (try clear hi)
          refine hK.out _ _ ⟨v176, adz_v176, m11_, (by rw [ha.out]; exact putSel_upk 0 hb_ rfl rfl rfl), fun h0_ => absurd ((up_self b 3).symm.trans h0_) (by decide), (by repeat (first | (with_reducible first | exact HB.out | apply below_alloc | apply pw_below_drewN | apply below_drew1 | refine below_set ?_ (IsS50.ge HI170.out)) | exact HB.out)), fun _ _ => (by repeat (first | (with_reducible first | exact HI170.out | apply IsS50.alloc | apply IsS50.drewN | apply IsS50.drew | apply IsS50.set_1) | exact HI170.out)), z_HO177, Q_HA_HO177, fun h0_ _ => absurd ((hoff 10 (by kernel_rfl)).symm.trans h0_) (by decide), fun h0_ => absurd ((hoff 14 (by kernel_rfl)).symm.trans h0_) (by decide), fun h0_ => absurd ((hoff 11 (by kernel_rfl)).symm.trans h0_) (by decide)⟩
        refine steps_cons ?_ ?_
        · rintro b a w' ⟨v176, adz_v176, m11_, ha, Q_HI170, Q_HB, Q_HI170_e3, Q_HO177, Q_HA_HO177, Q_HI170_e10, Q_HI170_e14, Q_X11_⟩ hb_ hon hoff
          refine ⟨_, rfl, fun K hK => ?_⟩
          have e16 : a.tmps[16]? = some (.int .i64 t171) := by rw [ha]; exact (putSel_off rfl).trans rfl
          replace ha := Aside0.mk ha
          have HB := Aside0.mk Q_HB
          refine value_ (w1 := w') (v := .int .i64 (wrap64 (16 - t171))) (by rfl) rfl ?_ ?_
          · go_simp
            (try simp only [i64_w])
            try rfl
          refine hK.out _ _ ⟨v176, adz_v176, m11_, (by rw [ha.out]; exact putSel_upk 1 hb_ rfl rfl rfl), Q_HI170, Q_HB, Q_HI170_e3, fun h0_ => absurd ((hoff 8 (by kernel_rfl)).symm.trans h0_) (by decide), fun h0_ => absurd ((hoff 8 (by kernel_rfl)).symm.trans h0_) (by decide), Q_HI170_e10, Q_HI170_e14, fun h0_ => absurd ((hoff 11 (by kernel_rfl)).symm.trans h0_) (by decide)⟩
        refine steps_cons ?_ ?_
        · rintro b a w' ⟨v176, adz_v176, m11_, ha, Q_HI170, Q_HB, Q_HI170_e3, Q_HO177, Q_HA_HO177, Q_HI170_e10, Q_HI170_e14, Q_X11_⟩ hb_ hon hoff
          refine ⟨_, rfl, fun K hK => ?_⟩
          have e18 : a.tmps[18]? = some (.int .i64 t171) := by rw [ha]; exact (putSel_off rfl).trans rfl
          replace ha := Aside0.mk ha
          have HB := Aside0.mk Q_HB
          refine value_ (w1 := w') (v := .int .i64 (wrap64 (17 - t171))) (by rfl) rfl ?_ ?_
          · go_simp
            (try simp only [i64_w])
            try rfl
          refine hK.out _ _ ⟨v176, adz_v176, m11_, (by rw [ha.out]; exact putSel_upk 2 hb_ rfl rfl rfl), Q_HI170, Q_HB, Q_HI170_e3, fun h0_ => absurd ((hoff 8 (by kernel_rfl)).symm.trans h0_) (by decide), fun h0_ => absurd ((hoff 8 (by kernel_rfl)).symm.trans h0_) (by decide), Q_HI170_e10, Q_HI170_e14, fun h0_ => absurd ((hoff 11 (by kernel_rfl)).symm.trans h0_) (by decide)⟩
        refine steps_cons ?_ ?_
        · rintro b a w' ⟨v176, adz_v176, m11_, ha, Q_HI170, Q_HB, Q_HI170_e3, Q_HO177, Q_HA_HO177, Q_HI170_e10, Q_HI170_e14, Q_X11_⟩ hb_ hon hoff
          refine ⟨_, rfl, fun K hK => ?_⟩
          have e17 : a.tmps[17]? = some (.int .i64 (wrap64 (16 - t171))) := by rw [ha]; exact putSel_on (e := (5, 17, .int .i64 (wrap64 (16 - t171)))) 1 rfl rfl (hon 5 (by kernel_rfl)) rfl
          have e19 : a.tmps[19]? = some (.int .i64 (wrap64 (17 - t171))) := by rw [ha]; exact putSel_on (e := (7, 19, .int .i64 (wrap64 (17 - t171)))) 2 rfl rfl (hon 7 (by kernel_rfl)) rfl
          replace ha := Aside0.mk ha
          have HB := Aside0.mk Q_HB
          refine Kd.R_lit_step (Kd.int .i64) _ 3 ?hg (N := 20) ?hd (xs := ([0, 1, 3, wrap64 (16 - t171), wrap64 (17 - t171), (-1)] : List Int)) (inner := [.int .i64 0, .int .i64 1, .int .i64 3, .int .i64 (wrap64 (16 - t171)), .int .i64 (wrap64 (17 - t171)), .int .i64 (-1)]) (ok := fun _ => True) (okp := fun _ => True) ?hr ?hp (fun _ hk => hk) trivial (Below.refl _ _) (Nat.le_refl _) (by simp) ?_; (case hd => rfl); (case hg => rfl); (case hr => first | (go_simp; done) | (go_simp; rfl)); (case hp => exact (Reps.one (show Kd.M (Kd.int .i64) _ _ _ 0 [.int .i64 0] from rfl) (Reps.one (show Kd.M (Kd.int .i64) _ _ _ 1 [.int .i64 1] from rfl) (Reps.one (show Kd.M (Kd.int .i64) _ _ _ 3 [.int .i64 3] from rfl) (Reps.one (show Kd.M (Kd.int .i64) _ _ _ (wrap64 (16 - t171)) [.int .i64 (wrap64 (16 - t171))] from rfl) (Reps.one (show Kd.M (Kd.int .i64) _ _ _ (wrap64 (17 - t171)) [.int .i64 (wrap64 (17 - t171))] from rfl) (Reps.one (show Kd.M (Kd.int .i64) _ _ _ (-1) [.int .i64 (-1)] from rfl) (Reps.none _ _))))))))
          intro v176 w12 ho13 hb hg_ hnew_
          clear hg_ hnew_
          (first | rw [← Ny175.out] at ho13 | (simp only [Int.reduceToNat] at ho13; rw [← Ny175.out] at ho13))
          have n0_ := Aside0.mk (Kd.R_lower ho13 (below_size (by repeat (first | (with_reducible first | exact HB.out | apply below_alloc | apply pw_below_drewN | apply below_drew1) | exact HB.out))))
          have n2_ := Aside0.mk (below_step (by repeat (first | (with_reducible first | exact HB.out | apply below_alloc | apply pw_below_drewN | apply below_drew1) | exact HB.out)) hb)
          have z_HI170 := fun (h0_ : b 3 = false) => (show IsS50 w w12 g170 t168 t172 from by first | exact (IsS50.below (by repeat (first | (with_reducible first | exact (Q_HI170 h0_) | apply IsS50.alloc | apply IsS50.drewN | apply IsS50.drew | apply IsS50.set_1) | exact (Q_HI170 h0_))) hb))
          have z_HI170_e3 := fun (h0_ : b 3 = true) (h1_ : b 10 = false) => (show IsS50 w w12 g170 t168 t174 from by first | exact (IsS50.below (by repeat (first | (with_reducible first | exact (Q_HI170_e3 h0_ h1_) | apply IsS50.alloc | apply IsS50.drewN | apply IsS50.drew | apply IsS50.set_1) | exact (Q_HI170_e3 h0_ h1_))) hb))
          have z_HI170_e10 := fun (h0_ : b 10 = true) (h1_ : b 14 = false) => (show IsS50 w w12 g170 t168 t179 from by first | exact (IsS50.below (by repeat (first | (with_reducible first | exact (Q_HI170_e10 h0_ h1_) | apply IsS50.alloc | apply IsS50.drewN | apply IsS50.drew | apply IsS50.set_1) | exact (Q_HI170_e10 h0_ h1_))) hb))
          have z_HI170_e14 := fun (h0_ : b 14 = true) => (show IsS50 w w12 g170 t168 t182 from by first | exact (IsS50.below (by repeat (first | (with_reducible first | exact (Q_HI170_e14 h0_) | apply IsS50.alloc | apply IsS50.drewN | apply IsS50.drew | apply IsS50.set_1) | exact (Q_HI170_e14 h0_))) hb))
          clear HB
          have HO177 := n0_
          have HB := n2_
          clear n0_ n2_
          clear hb ho13
          obtain ⟨Ao14, co14, eo14⟩ := Kd.R_slice HO177.out
          subst eo14
          obtain ⟨ado14, fo14, _⟩ := Kd.at_int (Kd.R_reads' HO177.out).2.2 0 (by decide) (by rw [Ny175.out]; simp)
          cases fo14
          refine hK.out _ _ ⟨.slice (some ado14) y175.length co14, ado14, m11_, (by rw [ha.out]; exact putSel_upk 3 hb_ rfl rfl rfl), z_HI170, (by repeat (first | (with_reducible first | exact HB.out | apply below_alloc | apply pw_below_drewN | apply below_drew1) | exact HB.out)), z_HI170_e3, fun _ => (by (with_reducible repeat (first | apply Kd.R_alloc | apply Kd.R_drewN | apply Kd.R_drew)); exact HO177.out), fun _ => ⟨_, rfl⟩, z_HI170_e10, z_HI170_e14, fun h0_ => absurd ((hoff 11 (by kernel_rfl)).symm.trans h0_) (by decide)⟩
        refine steps_cons ?_ ?_
        · rintro b a w' ⟨v176, adz_v176, m11_, ha, Q_HI170, Q_HB, Q_HI170_e3, Q_HO177, Q_HA_HO177, Q_HI170_e10, Q_HI170_e14, Q_X11_⟩ hb_ hon hoff
          refine ⟨_, rfl, fun K hK => ?_⟩
          have e21 : a.tmps[21]? = some (.pointer (some ⟨g170, 0, none⟩)) := by rw [ha]; exact (putSel_off rfl).trans rfl
          replace ha := Aside0.mk ha
          have HB := Aside0.mk Q_HB
          have HI170 := Aside0.mk (Q_HI170_e3 (hon 3 (by kernel_rfl)) hb_)
          refine goes_ Try.func25 (by kernel_rfl) rfl #[.pointer (some ⟨g170, 0, none⟩), .int .i64 6] (by rfl) rfl rfl (by first | (simp only [List.map_toArray, List.map_cons, List.map_nil, Act.eval, Array.getD_eq_getD_getElem?, Option.getD_some, e21]; done) | (simp only [List.map_toArray, List.map_cons, List.map_nil, Act.eval, Array.getD_eq_getD_getElem?, Option.getD_some, e21]; rfl)) ?_
          with_reducible refine (spec_l17Rd_pick.calls k g170 t168 t174 6 t178 t179 w _ ?side1 ?side2 A5.out).mono ?_
          (case side1 => repeat (first | (with_reducible first | exact HI170.out | apply IsS50.alloc | apply IsS50.drewN | apply IsS50.drew | apply IsS50.set_1) | exact HI170.out))
          (case side2 => repeat (first | (with_reducible first | exact HB.out | apply below_alloc | apply pw_below_drewN | apply below_drew1 | refine below_set ?_ (IsS50.ge HI170.out)) | exact HB.out))
          rintro e w14 ⟨rfl, hi, hb, hk⟩
          refine ⟨_, rfl, ?_⟩
          have n0_ := Aside0.mk (hb)
          have n1_ := Aside0.mk (hi)
          have z_HO177 := fun (h0_ : b 8 = true) => (show Kd.R (Kd.int .i64) 3 w14 w.heap.size (fun _ => True) v176 y175 from by first | exact (Kd.R_mono (Kd.R_keep (IsS50.apart (show IsS50 w _ g170 t168 t174 from by repeat (first | (with_reducible first | exact HI170.out | apply IsS50.alloc | apply IsS50.drewN | apply IsS50.drew | apply IsS50.set_1) | exact HI170.out)) (by (with_reducible repeat (first | apply Kd.R_alloc | apply Kd.R_drewN | apply Kd.R_drew)); exact (Q_HO177 h0_)) (by decide)) hk (fun _ h => h.2)) (fun _ h => h.1)) | exact Kd.R_mono (Kd.R_mono (Kd.R_keep (IsS50.apart (show IsS50 w _ g170 t168 t174 from by repeat (first | (with_reducible first | exact HI170.out | apply IsS50.alloc | apply IsS50.drewN | apply IsS50.drew | apply IsS50.set_1) | exact HI170.out)) (by (with_reducible repeat (first | apply Kd.R_alloc | apply Kd.R_drewN | apply Kd.R_drew)); exact (Q_HO177 h0_)) (by decide)) hk (fun _ h => h.2)) (fun _ h => h.1)) (fun _ h_ => by first | trivial | exact h_ | exact h_.1))
          clear HB
          clear HI170
          have HB := n0_
          have HI170 := n1_
          clear n0_ n1_
          (try clear hb)
          (try clear hb2)
          (try clear hk)
          (try clear hi)
          refine hK.out _ _ ⟨v176, adz_v176, m11_, (by rw [ha.out]; exact putSel_upk 4 hb_ rfl rfl rfl), fun h0_ => absurd ((hon 3 (by kernel_rfl)).symm.trans h0_) (by decide), (by repeat (first | (with_reducible first | exact HB.out | apply below_alloc | apply pw_below_drewN | apply below_drew1 | refine below_set ?_ (IsS50.ge HI170.out)) | exact HB.out)), fun _ h1_ => absurd ((up_self b 10).symm.trans h1_) (by decide), z_HO177, Q_HA_HO177, fun _ _ => (by repeat (first | (with_reducible first | exact HI170.out | apply IsS50.alloc | apply IsS50.drewN | apply IsS50.drew | apply IsS50.set_1) | exact HI170.out)), fun h0_ => absurd ((hoff 14 (by kernel_rfl)).symm.trans h0_) (by decide), fun h0_ => absurd ((hoff 11 (by kernel_rfl)).symm.trans h0_) (by decide)⟩
        refine steps_cons ?_ ?_
        · rintro b a w' ⟨v176, adz_v176, m11_, ha, Q_HI170, Q_HB, Q_HI170_e3, Q_HO177, Q_HA_HO177, Q_HI170_e10, Q_HI170_e14, Q_X11_⟩ hb_ hon hoff
          refine ⟨_, rfl, fun K hK => ?_⟩
          have e20 : a.tmps[20]? = some (v176) := by rw [ha]; exact putSel_on (e := (8, 20, v176)) 3 rfl rfl (hon 8 (by kernel_rfl)) rfl
          have e22 : a.tmps[22]? = some (.int .i64 t178) := by rw [ha]; exact putSel_on (e := (10, 22, .int .i64 t178)) 4 rfl rfl (hon 10 (by kernel_rfl)) rfl
          replace ha := Aside0.mk ha
          have HB := Aside0.mk Q_HB
          have HO177 := Aside0.mk (Q_HO177 (hon 8 (by kernel_rfl)))
          have HA_HO177 := Aside0.mk (Q_HA_HO177 (hon 8 (by kernel_rfl)))
          obtain ⟨c_, hv_⟩ := HA_HO177.out
          rw [hv_] at e20
          refine value_ (w1 := w') (v := .pointer (some (adz_v176.add (t178).toNat))) (by rfl) rfl ?_ ?_
          · go_simp
            (try simp only [i64_w])
            try rfl
          refine hK.out _ _ ⟨v176, adz_v176, (.pointer (some (adz_v176.add (t178).toNat))), (by rw [ha.out]; exact putSel_upk 5 hb_ rfl rfl rfl), fun h0_ => absurd ((hon 3 (by kernel_rfl)).symm.trans h0_) (by decide), Q_HB, fun _ h1_ => absurd ((hon 10 (by kernel_rfl)).symm.trans h1_) (by decide), Q_HO177, Q_HA_HO177, Q_HI170_e10, Q_HI170_e14, fun _ => rfl⟩
        refine steps_cons ?_ ?_
        · rintro b a w' ⟨v176, adz_v176, m11_, ha, Q_HI170, Q_HB, Q_HI170_e3, Q_HO177, Q_HA_HO177, Q_HI170_e10, Q_HI170_e14, Q_X11_⟩ hb_ hon hoff
          refine ⟨_, rfl, fun K hK => ?_⟩
          have e23 : a.tmps[23]? = some (m11_) := by rw [ha]; exact putSel_on (e := (11, 23, m11_)) 5 rfl rfl (hon 11 (by kernel_rfl)) rfl
          rw [Q_X11_ (hon 11 (by kernel_rfl))] at e23
          replace ha := Aside0.mk ha
          have HB := Aside0.mk Q_HB
          have HO177 := Aside0.mk (Q_HO177 (hon 8 (by kernel_rfl)))
          have HA_HO177 := Aside0.mk (Q_HA_HO177 (hon 8 (by kernel_rfl)))
          obtain ⟨c_, hv_⟩ := HA_HO177.out
          have hF_ := HO177.out
          rw [hv_] at hF_
          obtain ⟨ad_, ea_, hx_⟩ := Kd.at_int (Kd.R_reads' hF_).2.2 t178 (of_eq_true pi180) (of_eq_true qi180)
          cases ea_
          refine value_ (w1 := w') (v := .int .i64 (rd y175 t178)) (by rfl) rfl ?_ ?_
          · go_simp
            (try simp only [i64_w])
            try rfl
          refine hK.out _ _ ⟨v176, adz_v176, m11_, (by rw [ha.out]; exact putSel_upk 6 hb_ rfl rfl rfl), fun h0_ => absurd ((hon 3 (by kernel_rfl)).symm.trans h0_) (by decide), Q_HB, fun _ h1_ => absurd ((hon 10 (by kernel_rfl)).symm.trans h1_) (by decide), Q_HO177, Q_HA_HO177, Q_HI170_e10, Q_HI170_e14, Q_X11_⟩
        refine steps_cons ?_ ?_
        · rintro b a w' ⟨v176, adz_v176, m11_, ha, Q_HI170, Q_HB, Q_HI170_e3, Q_HO177, Q_HA_HO177, Q_HI170_e10, Q_HI170_e14, Q_X11_⟩ hb_ hon hoff
          refine ⟨_, rfl, fun K hK => ?_⟩
          have e25 : a.tmps[25]? = some (.pointer (some ⟨g170, 0, none⟩)) := by rw [ha]; exact (putSel_off rfl).trans rfl
          replace ha := Aside0.mk ha
          have HB := Aside0.mk Q_HB
          have HI170 := Aside0.mk (Q_HI170_e10 (hon 10 (by kernel_rfl)) hb_)
          refine goes_ Try.func25 (by kernel_rfl) rfl #[.pointer (some ⟨g170, 0, none⟩), .int .i64 2] (by rfl) rfl rfl (by first | (simp only [List.map_toArray, List.map_cons, List.map_nil, Act.eval, Array.getD_eq_getD_getElem?, Option.getD_some, e25]; done) | (simp only [List.map_toArray, List.map_cons, List.map_nil, Act.eval, Array.getD_eq_getD_getElem?, Option.getD_some, e25]; rfl)) ?_
          with_reducible refine (spec_l17Rd_pick.calls k g170 t168 t179 2 t181 t182 w _ ?side1 ?side2 A8.out).mono ?_
          (case side1 => repeat (first | (with_reducible first | exact HI170.out | apply IsS50.alloc | apply IsS50.drewN | apply IsS50.drew | apply IsS50.set_1) | exact HI170.out))
          (case side2 => repeat (first | (with_reducible first | exact HB.out | apply below_alloc | apply pw_below_drewN | apply below_drew1 | refine below_set ?_ (IsS50.ge HI170.out)) | exact HB.out))
          rintro e w15 ⟨rfl, hi, hb, hk⟩
          refine ⟨_, rfl, ?_⟩
          have n0_ := Aside0.mk (hb)
          have n1_ := Aside0.mk (hi)
          have z_HO177 := fun (h0_ : b 8 = true) => (show Kd.R (Kd.int .i64) 3 w15 w.heap.size (fun _ => True) v176 y175 from by first | exact (Kd.R_mono (Kd.R_keep (IsS50.apart (show IsS50 w _ g170 t168 t179 from by repeat (first | (with_reducible first | exact HI170.out | apply IsS50.alloc | apply IsS50.drewN | apply IsS50.drew | apply IsS50.set_1) | exact HI170.out)) (by (with_reducible repeat (first | apply Kd.R_alloc | apply Kd.R_drewN | apply Kd.R_drew)); exact (Q_HO177 h0_)) (by decide)) hk (fun _ h => h.2)) (fun _ h => h.1)) | exact Kd.R_mono (Kd.R_mono (Kd.R_keep (IsS50.apart (show IsS50 w _ g170 t168 t179 from by repeat (first | (with_reducible first | exact HI170.out | apply IsS50.alloc | apply IsS50.drewN | apply IsS50.drew | apply IsS50.set_1) | exact HI170.out)) (by (with_reducible repeat (first | apply Kd.R_alloc | apply Kd.R_drewN | apply Kd.R_drew)); exact (Q_HO177 h0_)) (by decide)) hk (fun _ h => h.2)) (fun _ h => h.1)) (fun _ h_ => by first | trivial | exact h_ | exact h_.1))
          clear HB
          clear HI170
          have HB := n0_
          have HI170 := n1_
          clear n0_ n1_
          (try clear hb)
          (try clear hb2)
          (try clear hk)
          (try clear hi)
          refine hK.out _ _ ⟨v176, adz_v176, m11_, (by rw [ha.out]; exact putSel_upk 7 hb_ rfl rfl rfl), fun h0_ => absurd ((hon 3 (by kernel_rfl)).symm.trans h0_) (by decide), (by repeat (first | (with_reducible first | exact HB.out | apply below_alloc | apply pw_below_drewN | apply below_drew1 | refine below_set ?_ (IsS50.ge HI170.out)) | exact HB.out)), fun _ h1_ => absurd ((hon 10 (by kernel_rfl)).symm.trans h1_) (by decide), z_HO177, Q_HA_HO177, fun _ h1_ => absurd ((up_self b 14).symm.trans h1_) (by decide), fun _ => (by repeat (first | (with_reducible first | exact HI170.out | apply IsS50.alloc | apply IsS50.drewN | apply IsS50.drew | apply IsS50.set_1) | exact HI170.out)), Q_X11_⟩
        refine steps_cons ?_ ?_
        · rintro b a w' ⟨v176, adz_v176, m11_, ha, Q_HI170, Q_HB, Q_HI170_e3, Q_HO177, Q_HA_HO177, Q_HI170_e10, Q_HI170_e14, Q_X11_⟩ hb_ hon hoff
          refine ⟨_, rfl, fun K hK => ?_⟩
          have e26 : a.tmps[26]? = some (.int .i64 t181) := by rw [ha]; exact putSel_on (e := (14, 26, .int .i64 t181)) 7 rfl rfl (hon 14 (by kernel_rfl)) rfl
          replace ha := Aside0.mk ha
          have HB := Aside0.mk Q_HB
          have HI170 := Aside0.mk (Q_HI170_e14 (hon 14 (by kernel_rfl)))
          refine value_ (w1 := w') (v := .bool (t181 == 0)) (by rfl) rfl ?_ ?_
          · go_simp
            (try simp only [i64_w])
            try rfl
          refine hK.out _ _ ⟨v176, adz_v176, m11_, (by rw [ha.out]; exact putSel_upk 8 hb_ rfl rfl rfl), fun h0_ => absurd ((hon 3 (by kernel_rfl)).symm.trans h0_) (by decide), Q_HB, fun _ h1_ => absurd ((hon 10 (by kernel_rfl)).symm.trans h1_) (by decide), Q_HO177, Q_HA_HO177, fun _ h1_ => absurd ((hon 14 (by kernel_rfl)).symm.trans h1_) (by decide), Q_HI170_e14, Q_X11_⟩
        refine steps_cons ?_ ?_
        · rintro b a w' ⟨v176, adz_v176, m11_, ha, Q_HI170, Q_HB, Q_HI170_e3, Q_HO177, Q_HA_HO177, Q_HI170_e10, Q_HI170_e14, Q_X11_⟩ hb_ hon hoff
          refine ⟨_, rfl, fun K hK => ?_⟩
          have e12 : a.tmps[12]? = some (.int .i64 t171) := by rw [ha]; exact (putSel_off rfl).trans rfl
          replace ha := Aside0.mk ha
          have HB := Aside0.mk Q_HB
          have HI170 := Aside0.mk (Q_HI170_e14 (hon 14 (by kernel_rfl)))
          refine value_ (w1 := w') (v := .int .i64 t171) (by rfl) rfl ?_ ?_
          · go_simp
            (try simp only [i64_w])
            try rfl
          refine hK.out _ _ ⟨v176, adz_v176, m11_, (by rw [ha.out]; exact putSel_upk 9 hb_ rfl rfl rfl), fun h0_ => absurd ((hon 3 (by kernel_rfl)).symm.trans h0_) (by decide), Q_HB, fun _ h1_ => absurd ((hon 10 (by kernel_rfl)).symm.trans h1_) (by decide), Q_HO177, Q_HA_HO177, fun _ h1_ => absurd ((hon 14 (by kernel_rfl)).symm.trans h1_) (by decide), Q_HI170_e14, Q_X11_⟩
        refine steps_cons ?_ ?_
        · rintro b a w' ⟨v176, adz_v176, m11_, ha, Q_HI170, Q_HB, Q_HI170_e3, Q_HO177, Q_HA_HO177, Q_HI170_e10, Q_HI170_e14, Q_X11_⟩ hb_ hon hoff
          refine ⟨_, rfl, fun K hK => ?_⟩
          have e15 : a.tmps[15]? = some (.int .i64 t173) := by rw [ha]; exact putSel_on (e := (3, 15, .int .i64 t173)) 0 rfl rfl (hon 3 (by kernel_rfl)) rfl
          replace ha := Aside0.mk ha
          have HB := Aside0.mk Q_HB
          have HI170 := Aside0.mk (Q_HI170_e14 (hon 14 (by kernel_rfl)))
          refine value_ (w1 := w') (v := .int .i64 t173) (by rfl) rfl ?_ ?_
          · go_simp
            (try simp only [i64_w])
            try rfl
          refine hK.out _ _ ⟨v176, adz_v176, m11_, (by rw [ha.out]; exact putSel_upk 10 hb_ rfl rfl rfl), fun h0_ => absurd ((hon 3 (by kernel_rfl)).symm.trans h0_) (by decide), Q_HB, fun _ h1_ => absurd ((hon 10 (by kernel_rfl)).symm.trans h1_) (by decide), Q_HO177, Q_HA_HO177, fun _ h1_ => absurd ((hon 14 (by kernel_rfl)).symm.trans h1_) (by decide), Q_HI170_e14, Q_X11_⟩
        refine steps_cons ?_ ?_
        · rintro b a w' ⟨v176, adz_v176, m11_, ha, Q_HI170, Q_HB, Q_HI170_e3, Q_HO177, Q_HA_HO177, Q_HI170_e10, Q_HI170_e14, Q_X11_⟩ hb_ hon hoff
          refine ⟨_, rfl, fun K hK => ?_⟩
          have e24 : a.tmps[24]? = some (.int .i64 (rd y175 t178)) := by rw [ha]; exact putSel_on (e := (12, 24, .int .i64 (rd y175 t178))) 6 rfl rfl (hon 12 (by kernel_rfl)) rfl
          replace ha := Aside0.mk ha
          have HB := Aside0.mk Q_HB
          have HO177 := Aside0.mk (Q_HO177 (hon 8 (by kernel_rfl)))
          have HA_HO177 := Aside0.mk (Q_HA_HO177 (hon 8 (by kernel_rfl)))
          have HI170 := Aside0.mk (Q_HI170_e14 (hon 14 (by kernel_rfl)))
          refine value_ (w1 := w') (v := .int .i64 (rd y175 t178)) (by rfl) rfl ?_ ?_
          · go_simp
            (try simp only [i64_w])
            try rfl
          refine hK.out _ _ ⟨v176, adz_v176, m11_, (by rw [ha.out]; exact putSel_upk 11 hb_ rfl rfl rfl), fun h0_ => absurd ((hon 3 (by kernel_rfl)).symm.trans h0_) (by decide), Q_HB, fun _ h1_ => absurd ((hon 10 (by kernel_rfl)).symm.trans h1_) (by decide), Q_HO177, Q_HA_HO177, fun _ h1_ => absurd ((hon 14 (by kernel_rfl)).symm.trans h1_) (by decide), Q_HI170_e14, Q_X11_⟩
        refine steps_cons ?_ ?_
        · rintro b a w' ⟨v176, adz_v176, m11_, ha, Q_HI170, Q_HB, Q_HI170_e3, Q_HO177, Q_HA_HO177, Q_HI170_e10, Q_HI170_e14, Q_X11_⟩ hb_ hon hoff
          refine ⟨_, rfl, fun K hK => ?_⟩
          have e27 : a.tmps[27]? = some (.bool (t181 == 0)) := by rw [ha]; exact putSel_on (e := (15, 27, .bool (t181 == 0))) 8 rfl rfl (hon 15 (by kernel_rfl)) rfl
          replace ha := Aside0.mk ha
          have HB := Aside0.mk Q_HB
          have HO177 := Aside0.mk (Q_HO177 (hon 8 (by kernel_rfl)))
          have HA_HO177 := Aside0.mk (Q_HA_HO177 (hon 8 (by kernel_rfl)))
          have HI170 := Aside0.mk (Q_HI170_e14 (hon 14 (by kernel_rfl)))
          refine value_ (w1 := w') (v := .bool (t181 == 0)) (by rfl) rfl ?_ ?_
          · go_simp
            (try simp only [i64_w])
            try rfl
          refine hK.out _ _ ⟨v176, adz_v176, m11_, (by rw [ha.out]; exact putSel_upk 12 hb_ rfl rfl rfl), fun h0_ => absurd ((hon 3 (by kernel_rfl)).symm.trans h0_) (by decide), Q_HB, fun _ h1_ => absurd ((hon 10 (by kernel_rfl)).symm.trans h1_) (by decide), Q_HO177, Q_HA_HO177, fun _ h1_ => absurd ((hon 14 (by kernel_rfl)).symm.trans h1_) (by decide), Q_HI170_e14, Q_X11_⟩
        exact steps_nil
      rintro b a w18 hall ⟨v176, adz_v176, m11_, ha, Q_HI170, Q_HB, Q_HI170_e3, Q_HO177, Q_HA_HO177, Q_HI170_e10, Q_HI170_e14, Q_X11_⟩
      clear HB HI170
      have hb3_ := hall 3 (by kernel_rfl)
      have hb5_ := hall 5 (by kernel_rfl)
      have hb7_ := hall 7 (by kernel_rfl)
      have hb8_ := hall 8 (by kernel_rfl)
      have hb10_ := hall 10 (by kernel_rfl)
      have hb11_ := hall 11 (by kernel_rfl)
      have hb12_ := hall 12 (by kernel_rfl)
      have hb14_ := hall 14 (by kernel_rfl)
      have hb15_ := hall 15 (by kernel_rfl)
      have hb16_ := hall 16 (by kernel_rfl)
      have hb17_ := hall 17 (by kernel_rfl)
      have hb18_ := hall 18 (by kernel_rfl)
      have hb19_ := hall 19 (by kernel_rfl)
      subst ha
      obtain rfl := Q_X11_ hb11_
      simp only [putSel, hb3_, hb5_, hb7_, hb8_, hb10_, hb11_, hb12_, hb14_, hb15_, hb16_, hb17_, hb18_, hb19_, if_true, Act.put, List.setIfInBounds_toArray, List.set_cons_zero, List.set_cons_succ]
      clear Q_HI170
      have HB := Aside0.mk Q_HB
      clear Q_HB
      clear Q_HI170_e3
      have HO177 := Aside0.mk (Q_HO177 hb8_)
      clear Q_HO177
      have HA_HO177 := Aside0.mk (Q_HA_HO177 hb8_)
      clear Q_HA_HO177
      clear Q_HI170_e10
      have HI170 := Aside0.mk (Q_HI170_e14 hb14_)
      clear Q_HI170_e14
      clear hall hb3_ hb5_ hb7_ hb8_ hb10_ hb11_ hb12_ hb14_ hb15_ hb16_ hb17_ hb18_ hb19_
      obtain ⟨co19, eo19⟩ := HA_HO177.out
      clear HA_HO177
      subst eo19
      try go_wp2
      refine bodyPost_ret (results_list (rs := [.tmp 2, .tmp 3, .tmp 4, .tmp 5]) rfl (by simp) (.tmp (.tmp (.tmp (.tmp .nil))))) rfl ?_
      exact ⟨by first | rfl | (simp [errW_none, errW_some] <;> rfl) | (simp [*, errW_none, errW_some] <;> rfl), by repeat (first | (with_reducible first | exact HB.out | apply below_alloc | apply pw_below_drewN | apply below_drew1 | refine below_set ?_ (IsS50.ge HI170.out)) | exact HB.out)⟩
    · rw [if_neg c7] at H
      exact absurd H (by simp)
  · rw [if_neg c6] at H
    exact absurd H (by simp)

/-! ### impl_signed: function 31 -/
def impl_signed.f (a0 : Int) (a1 : Int) : Option (Int) := if 0 ≤ (wrap64 (a0 - 1)) then (if 0 ≤ a0 then (some (wrap64 (a1 - (shl .i64 (shr .i64 a1 (wrap64 (a0 - 1))) a0)))) else (none)) else (none)
set_option maxHeartbeats 8000000 in
set_option maxRecDepth 100000 in
theorem impl_signed.calls (a0 : Int) (a1 : Int) (r : Int) (w : World) (h : impl_signed.f a0 a1 = some r) :
    Calls Try.prog 31 #[.int .i64 a0, .int .i64 a1] w fun e w' => e = .returned (.int .i64 r) ∧ Drawn0 w w' := by
  have H : (if 0 ≤ (wrap64 (a0 - 1)) then (if 0 ≤ a0 then (some (wrap64 (a1 - (shl .i64 (shr .i64 a1 (wrap64 (a0 - 1))) a0)))) else (none)) else (none)) = some r := h
  clear h
  obtain ⟨ji3, hji3⟩ : ∃ j_ : Int, (wrap64 (a0 - 1)) = j_ := ⟨_, rfl⟩
  replace H : (if 0 ≤ (ji3) then (if 0 ≤ a0 then (some (wrap64 (a1 - (shl .i64 (shr .i64 a1 (ji3)) a0)))) else (none)) else (none)) = some r := by first | (rw [hji3] at H; exact H) | (simp only [hji3] at H ⊢; exact H)
  have hji3w : (IntKind.i64.wrap (a0 - 1)) = ji3 := (i64_w _).trans hji3
  by_cases c4 : 0 ≤ (ji3)
  · rw [if_pos c4] at H
    have c4b0 := eq_true c4
    have c4b1 : decide (0 ≤ (ji3)) = true := decide_eq_true c4
    clear c4
    obtain ⟨ji5, hji5⟩ : ∃ j_ : Int, (shr .i64 a1 (ji3)) = j_ := ⟨_, rfl⟩
    replace H : (if 0 ≤ a0 then (some (wrap64 (a1 - (shl .i64 (ji5) a0)))) else (none)) = some r := by first | (rw [hji5] at H; exact H) | (simp only [hji5] at H ⊢; exact H)
    have hji5_ : (a1 / 2 ^ min (ji3).toNat 64) = ji5 := hji5
    have hji5z : (ji3) ≤ 64 → (a1 / 2 ^ (ji3).toNat) = ji5 := shr_small hji5
    by_cases c6 : 0 ≤ a0
    · rw [if_pos c6] at H
      have c6b0 := eq_true c6
      have c6b1 : decide (0 ≤ a0) = true := decide_eq_true c6
      clear c6
      obtain ⟨ji7, hji7⟩ : ∃ j_ : Int, (shl .i64 (ji5) a0) = j_ := ⟨_, rfl⟩
      replace H : (some (wrap64 (a1 - (ji7)))) = some r := by first | (rw [hji7] at H; exact H) | (simp only [hji7] at H ⊢; exact H)
      have hji7_ : (IntKind.i64.wrap ((ji5) * 2 ^ min a0.toNat 64)) = ji7 := hji7
      have hji7z : a0 ≤ 64 → (IntKind.i64.wrap ((ji5) * 2 ^ a0.toNat)) = ji7 := shl_small hji7
      have hji7y : (wrap64 ((ji5) * 2 ^ min a0.toNat 64)) = ji7 := (i64_w _).symm.trans hji7_
      have hji7x : a0 ≤ 64 → (wrap64 ((ji5) * 2 ^ a0.toNat)) = ji7 := fun h_ => (i64_w _).symm.trans (hji7z h_)
      obtain rfl := Option.some.inj H
      go_enter Try.func31, Try.ntmps31
      go_wp2
      go_ret
      exact ⟨by first | rfl | (simp; done) | (simp only [← hji3, ← hji5, ← hji7] <;> (first | rfl | (simp; done) | (simp [shl, IntKind.wrap, IntKind.bits, IntKind.signed, wrap64]; done))) | (simp [*]; done) | (exfalso; simp only [beq_iff_eq] at *; omega), by repeat (first | exact Drawn0.refl _ | apply Drawn0.step)⟩
    · rw [if_neg c6] at H
      exact absurd H (by simp)
  · rw [if_neg c4] at H
    exact absurd H (by simp)

/-! ### impl_grow: function 30 -/
def impl_grow.f (a0 : Int) (a1 : Int) (a2 : Int) (a3 : Bool) : Option (Int) := if a3 = true then ((impl_signed.f a0 a1).bind fun t183 => ((impl_mask.f (wrap64 (a0 + a2))).bind fun t184 => (some (Go.bits .and .i64 t183 t184)))) else (some a1)
set_option maxHeartbeats 8000000 in
set_option maxRecDepth 100000 in
theorem impl_grow.calls (a0 : Int) (a1 : Int) (a2 : Int) (a3 : Bool) (r : Int) (w : World) (h : impl_grow.f a0 a1 a2 a3 = some r) :
    Calls Try.prog 30 #[.int .i64 a0, .int .i64 a1, .int .i64 a2, .bool a3] w fun e w' => e = .returned (.int .i64 r) ∧ Drawn0 w w' := by
  have H : (if a3 = true then ((impl_signed.f a0 a1).bind fun t183 => ((impl_mask.f (wrap64 (a0 + a2))).bind fun t184 => (some (Go.bits .and .i64 t183 t184)))) else (some a1)) = some r := h
  clear h
  by_cases c5 : a3 = true
  · subst c5
    have H1 : ((impl_signed.f a0 a1).bind fun t183 => ((impl_mask.f (wrap64 (a0 + a2))).bind fun t184 => (some (Go.bits .and .i64 t183 t184)))) = some r := by rw [if_pos rfl] at H; exact H
    clear H
    have H := H1
    clear H1
    replace H := Option.bind_eq_some_iff.mp H
    obtain ⟨t183, A60, H⟩ := H
    replace H : ((impl_mask.f (wrap64 (a0 + a2))).bind fun t184 => (some (Go.bits .and .i64 t183 t184))) = some r := H
    have A6 := Aside0.mk A60
    clear A60
    replace H := Option.bind_eq_some_iff.mp H
    obtain ⟨t184, A70, H⟩ := H
    replace H : (some (Go.bits .and .i64 t183 t184)) = some r := H
    have A7 := Aside0.mk A70
    clear A70
    obtain rfl := Option.some.inj H
    go_enter Try.func30, Try.ntmps30
    go_wp2_with (first | ((with_reducible refine gate_callee (f := 31) rfl ?_); refine goesL_ (some 12) rfl rfl Try.func31 (by kernel_rfl) rfl #[.int .i64 a0, .int .i64 a1] rfl (by (try simp only [List.map_toArray, List.map_cons, List.map_nil]); first | done | rfl | (simp only [List.length_drop, List.length_take]; rfl)) ?_; (with_reducible refine (impl_signed.calls a0 a1 t183 _ A6.out).mono ?_); rintro e w' ⟨rfl, ⟨nd, rfl⟩⟩; refine ⟨_, rfl, ?_⟩) | ((with_reducible refine gate_callee (f := 29) rfl ?_); refine goesL_ (some 16) rfl rfl Try.func29 (by kernel_rfl) rfl #[.int .i64 (wrap64 (a0 + a2))] rfl (by (try simp only [List.map_toArray, List.map_cons, List.map_nil]); first | done | rfl | (simp only [List.length_drop, List.length_take]; rfl)) ?_; (with_reducible refine (impl_mask.calls (wrap64 (a0 + a2)) t184 _ A7.out).mono ?_); rintro e w' ⟨rfl, ⟨nd, rfl⟩⟩; refine ⟨_, rfl, ?_⟩))
    go_ret
    exact ⟨by first | rfl | (simp; done) | (simp [*]; done) | (exfalso; simp only [beq_iff_eq] at *; omega), by repeat (first | exact Drawn0.refl _ | apply Drawn0.step)⟩
  · replace c5 := Bool.eq_false_iff.mpr c5
    subst c5
    have H1 : (some a1) = some r := by rw [if_neg (show ¬ (false = true) by decide)] at H; exact H
    clear H
    have H := H1
    clear H1
    obtain rfl := Option.some.inj H
    go_enter Try.func30, Try.ntmps30
    go_wp2
    go_ret
    exact ⟨by first | rfl | (simp; done) | (simp [*]; done) | (exfalso; simp only [beq_iff_eq] at *; omega), by repeat (first | exact Drawn0.refl _ | apply Drawn0.step)⟩

end Go.Proofs.Ytohojfcpnlobjaa.PFnJoin
