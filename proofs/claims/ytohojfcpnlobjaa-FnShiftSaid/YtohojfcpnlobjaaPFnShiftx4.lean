-- Written by a program of this session (wip/pp).
import Derived.Test.YtohojfcpnlobjaaPFnShiftx0
import Derived.Test.YtohojfcpnlobjaaPFnShiftx1
import Derived.Test.YtohojfcpnlobjaaPFnShiftx3
namespace Go.Proofs.Ytohojfcpnlobjaa.PFnShift
open Go.RowKit Go.Proofs.YtohojfcpnlobjaaW.PrintWords Go.Proofs.YtohojfcpnlobjaaW.PrintLast Go.Proofs.YtohojfcpnlobjaaW.PrintMore
attribute [local go_sem] max2_int min2_int max_two min_two max_three min_three max_four min_four   -- for this text's walks alone
set_option linter.unusedVariables false
set_option linter.unusedSimpArgs false

/-! ### laws_FnShift: function 6 -/
mutual
def laws_FnShift.j0 : Nat → Int → Int → Int → Bool → Option (Bool)
  | 0, _, _, _, _ => none
  | k + 1, x4, x5, x6, x34 => if x34 = true then ((impl_WordTwo.f k 16 x4 x5 x6).bind fun bt196 => (some (!bt196.2.2))) else ((laws_ldTwo.f k 16 x4 x5 x6).bind fun t199 => ((laws_ldTwo.f k 17 x4 x5 x6).bind fun t200 => ((laws_ldTwo.f k 19 x4 x5 x6).bind fun t201 => ((laws_ldTwo.f k 20 x4 t201 x6).bind fun t202 => (if t202 = x5 then ((laws_ldTwo.f k 20 x4 x5 x6).bind fun t203 => ((laws_ldTwo.f k 19 x4 t203 x6).bind fun t204 => (laws_FnShift.j1 k x4 x5 x6 t199 t200 (t204 != x5)))) else (laws_FnShift.j1 k x4 x5 x6 t199 t200 true))))))
def laws_FnShift.j1 : Nat → Int → Int → Int → Int → Int → Bool → Option (Bool)
  | 0, _, _, _, _, _, _ => none
  | k + 1, x4, x5, x6, x10, x11, x73 => if x73 = true then (some false) else (if x6 ≥ x4 then (if x10 = 0 then (some (x11 == 0)) else (some false)) else ((spec_WordSigned.f x4 x5).bind fun t205 => (laws_FnShift.l0 k x4 x5 x6 x10 x11 t205 0)))
def laws_FnShift.l0 : Nat → Int → Int → Int → Int → Int → Int → Int → Option (Bool)
  | 0, _, _, _, _, _, _, _ => none
  | k + 1, x4, x5, x6, x10, x11, x13, x14 => if x14 < x6 then (laws_FnShift.l0 k x4 x5 x6 x10 x11 (wrap64 (Int.tdiv (wrap64 (x13 - (Int.tmod (wrap64 ((Int.tmod x13 2) + 2)) 2))) 2)) (wrap64 (x14 + 1))) else (if 0 ≤ (IntKind.u64.wrap (x6)) then ((spec_WordFrom.f x4 (shl .i64 x5 (IntKind.u64.wrap (x6)))).bind fun t206 => (if x10 = t206 then (if x11 = (shr .i64 x5 (IntKind.u64.wrap (x6))) then ((laws_ldTwo.f k 18 x4 x5 x6).bind fun t207 => ((spec_WordFrom.f x4 x13).bind fun t208 => (some (t207 == t208)))) else (some false)) else (some false))) else (none))
end
def laws_FnShift.f (k : Nat) (l0 : List Int) : Option (Bool) := if (l0.length : Int) > 1048576 then (some true) else ((spec_DrawWordTwo.f k l0).bind fun bt190 => ((spec_WordOk.f bt190.2.1 bt190.2.2.1).bind fun t194 => (if t194 = true then ((spec_WordOk.f bt190.2.1 bt190.2.2.2).bind fun t195 => (laws_FnShift.j0 k bt190.2.1 bt190.2.2.1 bt190.2.2.2 (!t195))) else (laws_FnShift.j0 k bt190.2.1 bt190.2.2.1 bt190.2.2.2 true))))
theorem laws_FnShift.mono_l : ∀ k, (∀ y0 y1 y2 y3, LeO (laws_FnShift.j0 k y0 y1 y2 y3) (laws_FnShift.j0 (k + 1) y0 y1 y2 y3)) ∧ (∀ y0 y1 y2 y3 y4 y5, LeO (laws_FnShift.j1 k y0 y1 y2 y3 y4 y5) (laws_FnShift.j1 (k + 1) y0 y1 y2 y3 y4 y5)) ∧ (∀ y0 y1 y2 y3 y4 y5 y6, LeO (laws_FnShift.l0 k y0 y1 y2 y3 y4 y5 y6) (laws_FnShift.l0 (k + 1) y0 y1 y2 y3 y4 y5 y6))
  | 0 => ⟨fun _ _ _ _ r h => by simp [laws_FnShift.j0] at h, fun _ _ _ _ _ _ r h => by simp [laws_FnShift.j1] at h, fun _ _ _ _ _ _ _ r h => by simp [laws_FnShift.l0] at h⟩
  | k + 1 => by
    obtain ⟨ih0, ih1, ih2⟩ := laws_FnShift.mono_l k
    refine ⟨?_, ?_, ?_⟩
    · intro y0 y1 y2 y3
      unfold laws_FnShift.j0
      repeat' first
      | (with_reducible exact ih0 _ _ _ _)
      | (with_reducible exact ih1 _ _ _ _ _ _)
      | (with_reducible exact ih2 _ _ _ _ _ _ _)
      | (with_reducible exact impl_WordTwo.mono _ _ _ _ _)
      | (with_reducible exact laws_ldTwo.mono _ _ _ _ _)
      | (with_reducible exact spec_DrawWordTwo.mono _ _)
      | (with_reducible exact LeO.refl _)
      | (with_reducible exact LeO.none _)
      | (with_reducible refine LeO.ite ?_ ?_)
      | (with_reducible refine LeO.bind ?_ (fun _ => ?_))
      | exact ih0 _ _ _ _
      | exact ih1 _ _ _ _ _ _
      | exact ih2 _ _ _ _ _ _ _
      | exact impl_WordTwo.mono _ _ _ _ _
      | exact laws_ldTwo.mono _ _ _ _ _
      | exact spec_DrawWordTwo.mono _ _
      | exact LeO.none _
      | refine LeO.ite ?_ ?_
      | refine LeO.bind ?_ (fun _ => ?_)
    · intro y0 y1 y2 y3 y4 y5
      unfold laws_FnShift.j1
      repeat' first
      | (with_reducible exact ih0 _ _ _ _)
      | (with_reducible exact ih1 _ _ _ _ _ _)
      | (with_reducible exact ih2 _ _ _ _ _ _ _)
      | (with_reducible exact impl_WordTwo.mono _ _ _ _ _)
      | (with_reducible exact laws_ldTwo.mono _ _ _ _ _)
      | (with_reducible exact spec_DrawWordTwo.mono _ _)
      | (with_reducible exact LeO.refl _)
      | (with_reducible exact LeO.none _)
      | (with_reducible refine LeO.ite ?_ ?_)
      | (with_reducible refine LeO.bind ?_ (fun _ => ?_))
      | exact ih0 _ _ _ _
      | exact ih1 _ _ _ _ _ _
      | exact ih2 _ _ _ _ _ _ _
      | exact impl_WordTwo.mono _ _ _ _ _
      | exact laws_ldTwo.mono _ _ _ _ _
      | exact spec_DrawWordTwo.mono _ _
      | exact LeO.none _
      | refine LeO.ite ?_ ?_
      | refine LeO.bind ?_ (fun _ => ?_)
    · intro y0 y1 y2 y3 y4 y5 y6
      unfold laws_FnShift.l0
      repeat' first
      | (with_reducible exact ih0 _ _ _ _)
      | (with_reducible exact ih1 _ _ _ _ _ _)
      | (with_reducible exact ih2 _ _ _ _ _ _ _)
      | (with_reducible exact impl_WordTwo.mono _ _ _ _ _)
      | (with_reducible exact laws_ldTwo.mono _ _ _ _ _)
      | (with_reducible exact spec_DrawWordTwo.mono _ _)
      | (with_reducible exact LeO.refl _)
      | (with_reducible exact LeO.none _)
      | (with_reducible refine LeO.ite ?_ ?_)
      | (with_reducible refine LeO.bind ?_ (fun _ => ?_))
      | exact ih0 _ _ _ _
      | exact ih1 _ _ _ _ _ _
      | exact ih2 _ _ _ _ _ _ _
      | exact impl_WordTwo.mono _ _ _ _ _
      | exact laws_ldTwo.mono _ _ _ _ _
      | exact spec_DrawWordTwo.mono _ _
      | exact LeO.none _
      | refine LeO.ite ?_ ?_
      | refine LeO.bind ?_ (fun _ => ?_)
theorem laws_FnShift.mono : ∀ a0 k, LeO (laws_FnShift.f k a0) (laws_FnShift.f (k + 1) a0) := by
  intro a0 k
  obtain ⟨ih0, ih1, ih2⟩ := laws_FnShift.mono_l k
  unfold laws_FnShift.f
  repeat' first
      | (with_reducible exact ih0 _ _ _ _)
      | (with_reducible exact ih1 _ _ _ _ _ _)
      | (with_reducible exact ih2 _ _ _ _ _ _ _)
      | (with_reducible exact impl_WordTwo.mono _ _ _ _ _)
      | (with_reducible exact laws_ldTwo.mono _ _ _ _ _)
      | (with_reducible exact spec_DrawWordTwo.mono _ _)
      | (with_reducible exact LeO.refl _)
      | (with_reducible exact LeO.none _)
      | (with_reducible refine LeO.ite ?_ ?_)
      | (with_reducible refine LeO.bind ?_ (fun _ => ?_))
      | exact ih0 _ _ _ _
      | exact ih1 _ _ _ _ _ _
      | exact ih2 _ _ _ _ _ _ _
      | exact impl_WordTwo.mono _ _ _ _ _
      | exact laws_ldTwo.mono _ _ _ _ _
      | exact spec_DrawWordTwo.mono _ _
      | exact LeO.none _
      | refine LeO.ite ?_ ?_
      | refine LeO.bind ?_ (fun _ => ?_)
set_option maxHeartbeats 8000000 in
set_option maxRecDepth 100000 in
theorem laws_FnShift.calls (k : Nat) (A0 : Option Addr) (c0 : Nat) (l0 : List Int) (r : Bool) (w : World) (hr0 : Kd.C (Kd.int .u8) w A0 l0.length l0) (hc0 : l0.length ≤ c0) (h : laws_FnShift.f k l0 = some r) :
    Calls Try.prog 6 #[.slice A0 l0.length c0] w fun e w' => e = .returned (.bool r) ∧ Below w.heap.size w w' := by
  have HR0 := Aside0.mk hr0
  have HC0 := Aside0.mk hc0
  clear hr0 hc0
  have HB := Aside0.mk (Below.refl w.heap.size w)
  have H : (if (l0.length : Int) > 1048576 then (some true) else ((spec_DrawWordTwo.f k l0).bind fun bt190 => ((spec_WordOk.f bt190.2.1 bt190.2.2.1).bind fun t194 => (if t194 = true then ((spec_WordOk.f bt190.2.1 bt190.2.2.2).bind fun t195 => (laws_FnShift.j0 k bt190.2.1 bt190.2.2.1 bt190.2.2.2 (!t195))) else (laws_FnShift.j0 k bt190.2.1 bt190.2.2.1 bt190.2.2.2 true))))) = some r := h
  clear h
  by_cases c2 : (l0.length : Int) > 1048576
  · rw [if_pos c2] at H
    have c2b0 : decide (1048576 < (l0.length : Int)) = true := decide_eq_true c2
    have c2b1 : decide (1048576 < l0.length) = true := decide_eq_true (by omega)
    clear c2
    obtain rfl := Option.some.inj H
    go_enter Try.func6, Try.ntmps6
    go_wp2
    go_ret
    exact ⟨by first | rfl | (simp [errW_none, errW_some] <;> rfl) | (simp [*, errW_none, errW_some] <;> rfl), by repeat (first | (with_reducible first | exact HB.out | apply below_alloc | apply pw_below_drewN | apply below_drew1) | exact HB.out)⟩
  · rw [if_neg c2] at H
    have c2b0 : decide (1048576 < (l0.length : Int)) = false := decide_eq_false c2
    have c2b1 : decide (1048576 < l0.length) = false := decide_eq_false (by omega)
    clear c2
    replace H := Option.bind_eq_some_iff.mp H
    obtain ⟨⟨t190, t191, t192, t193⟩, A30, H⟩ := H
    replace H : ((spec_WordOk.f t191 t192).bind fun t194 => (if t194 = true then ((spec_WordOk.f t191 t193).bind fun t195 => (laws_FnShift.j0 k t191 t192 t193 (!t195))) else (laws_FnShift.j0 k t191 t192 t193 true))) = some r := H
    have A3 := Aside0.mk A30
    clear A30
    have HC4 := Aside0.mk H
    clear H
    go_enter Try.func6, Try.ntmps6
    go_upto_region 4 with (first | ((with_reducible refine gate_callee (f := 16) rfl ?_); refine goesL_ (some 20) rfl rfl Try.func16 (by kernel_rfl) rfl #[.slice A0 l0.length c0] rfl (by (try simp only [List.map_toArray, List.map_cons, List.map_nil]); first | done | rfl | (simp only [List.length_drop, List.length_take]; rfl)) ?_; (with_reducible refine (spec_DrawWordTwo.calls k _ _ l0 t190 t191 t192 t193 _ ?side1 ?side2 A3.out).mono ?_); (case side1 => repeat (first | exact HR0.out | (with_reducible refine Kd.C_alloc ?_ _) | (with_reducible refine Kd.C_drewN ?_ _) | (with_reducible refine Kd.C_drew ?_))); (case side2 => exact HC0.out); rintro e w5 ⟨rfl, hb⟩; refine ⟨_, rfl, ?_⟩; have n0_ := Aside0.mk (below_step (by repeat (first | (with_reducible first | exact HB.out | apply below_alloc | apply pw_below_drewN | apply below_drew1) | exact HB.out)) hb); clear HB; have HB := n0_; clear n0_; (try clear hb); (try clear hb2); (try clear hk); (try clear hi)))
    (try simp only [Act.put, List.setIfInBounds_toArray, List.set_cons_zero, List.set_cons_succ])
    go_cut [34] (fun v34 wc => ∃ (kq : Nat) (x34_3 : Bool), v34 = .bool x34_3 ∧ Aside0 (laws_FnShift.j0 kq t191 t192 t193 x34_3 = some r) ∧ Aside0 (kq ≤ k) ∧ Aside0 (Below w.heap.size w wc))
    case first =>
      have H := HC4.out
      clear HC4
      replace H := Option.bind_eq_some_iff.mp H
      obtain ⟨t194, A60, H⟩ := H
      replace H : (if t194 = true then ((spec_WordOk.f t191 t193).bind fun t195 => (laws_FnShift.j0 k t191 t192 t193 (!t195))) else (laws_FnShift.j0 k t191 t192 t193 true)) = some r := H
      have A6 := Aside0.mk A60
      clear A60
      by_cases c7 : t194 = true
      · subst c7
        have H1 : ((spec_WordOk.f t191 t193).bind fun t195 => (laws_FnShift.j0 k t191 t192 t193 (!t195))) = some r := by rw [if_pos rfl] at H; exact H
        clear H
        have H := H1
        clear H1
        replace H := Option.bind_eq_some_iff.mp H
        obtain ⟨t195, A80, H⟩ := H
        replace H : (laws_FnShift.j0 k t191 t192 t193 (!t195)) = some r := H
        have A8 := Aside0.mk A80
        clear A80
        have H' := Aside0.mk H
        clear H
        go_wp2_with (first | ((with_reducible refine gate_callee (f := 17) rfl ?_); refine goesL_ (some 27) rfl rfl Try.func17 (by kernel_rfl) rfl #[.int .i64 t191, .int .i64 t192] rfl (by (try simp only [List.map_toArray, List.map_cons, List.map_nil]); first | done | rfl | (simp only [List.length_drop, List.length_take]; rfl)) ?_; (with_reducible refine (spec_WordOk.calls t191 t192 true _ A6.out).mono ?_); rintro e w' ⟨rfl, ⟨nd, rfl⟩⟩; refine ⟨_, rfl, ?_⟩) | (go_at_call 17; (with_reducible refine (spec_WordOk.calls t191 t193 t195 _ A8.out).mono ?_); rintro e w' ⟨rfl, ⟨nd, rfl⟩⟩))
        go_meet
        case rel => exact ⟨_, (!t195), (by first | rfl | (simp; done) | (simp [*]; done) | (exfalso; simp only [beq_iff_eq] at *; omega)), H', ⟨by first | omega | exact Nat.le_refl _⟩, ⟨by repeat (first | (with_reducible first | exact HB.out | apply below_alloc | apply pw_below_drewN | apply below_drew1) | exact HB.out)⟩⟩
      · replace c7 := Bool.eq_false_iff.mpr c7
        subst c7
        have H1 : (laws_FnShift.j0 k t191 t192 t193 true) = some r := by rw [if_neg (show ¬ (false = true) by decide)] at H; exact H
        clear H
        have H := H1
        clear H1
        have H' := Aside0.mk H
        clear H
        go_wp2_with (first | ((with_reducible refine gate_callee (f := 17) rfl ?_); refine goesL_ (some 27) rfl rfl Try.func17 (by kernel_rfl) rfl #[.int .i64 t191, .int .i64 t192] rfl (by (try simp only [List.map_toArray, List.map_cons, List.map_nil]); first | done | rfl | (simp only [List.length_drop, List.length_take]; rfl)) ?_; (with_reducible refine (spec_WordOk.calls t191 t192 false _ A6.out).mono ?_); rintro e w' ⟨rfl, ⟨nd, rfl⟩⟩; refine ⟨_, rfl, ?_⟩))
        go_meet
        case rel => exact ⟨_, (true), (by first | rfl | (simp; done) | (simp [*]; done) | (exfalso; simp only [beq_iff_eq] at *; omega)), H', ⟨by first | omega | exact Nat.le_refl _⟩, ⟨by repeat (first | (with_reducible first | exact HB.out | apply below_alloc | apply pw_below_drewN | apply below_drew1) | exact HB.out)⟩⟩
    case rest =>
      clear HC4
      try clear c1
      try clear c2
      try clear c2b0
      try clear c2b1
      try clear p2
      try clear c6
      try clear c7
      obtain ⟨kq, x34_3, rfl, HA, HJ3, HB⟩ := hcut
      cases kq with
      | zero => exact absurd HA.out (by simp [laws_FnShift.j0])
      | succ kj3 =>
        have H := HA.out
        clear HA
        simp only [laws_FnShift.j0] at H
        by_cases c9 : x34_3 = true
        · subst c9
          have H1 : ((impl_WordTwo.f kj3 16 t191 t192 t193).bind fun bt196 => (some (!bt196.2.2))) = some r := by rw [if_pos rfl] at H; exact H
          clear H
          have H := H1
          clear H1
          replace H := Option.bind_eq_some_iff.mp H
          obtain ⟨⟨t196, t197, t198⟩, A100, H⟩ := H
          replace H : (some (!t198)) = some r := H
          have A10 := Aside0.mk A100
          clear A100
          obtain rfl := Option.some.inj H
          go_wp2_with (first | ((with_reducible refine gate_callee (f := 18) rfl ?_); refine goesL_ (some 39) rfl rfl Try.func18 (by kernel_rfl) rfl #[.int .i64 16, .int .i64 t191, .int .i64 t192, .int .i64 t193] rfl (by (try simp only [List.map_toArray, List.map_cons, List.map_nil]); first | done | rfl | (simp only [List.length_drop, List.length_take]; rfl)) ?_; (with_reducible refine (impl_WordTwo.calls kj3 16 t191 t192 t193 t196 t197 t198 _ A10.out).mono ?_); rintro e w11 ⟨rfl, hb⟩; refine ⟨_, rfl, ?_⟩; have n0_ := Aside0.mk (below_step (by repeat (first | (with_reducible first | exact HB.out | apply below_alloc | apply pw_below_drewN | apply below_drew1) | exact HB.out)) hb); clear HB; have HB := n0_; clear n0_; (try clear hb); (try clear hb2); (try clear hk); (try clear hi)))
          go_ret
          exact ⟨by first | rfl | (simp [errW_none, errW_some] <;> rfl) | (simp [*, errW_none, errW_some] <;> rfl), by repeat (first | (with_reducible first | exact HB.out | apply below_alloc | apply pw_below_drewN | apply below_drew1) | exact HB.out)⟩
        · replace c9 := Bool.eq_false_iff.mpr c9
          subst c9
          have H1 : ((laws_ldTwo.f kj3 16 t191 t192 t193).bind fun t199 => ((laws_ldTwo.f kj3 17 t191 t192 t193).bind fun t200 => ((laws_ldTwo.f kj3 19 t191 t192 t193).bind fun t201 => ((laws_ldTwo.f kj3 20 t191 t201 t193).bind fun t202 => (if t202 = t192 then ((laws_ldTwo.f kj3 20 t191 t192 t193).bind fun t203 => ((laws_ldTwo.f kj3 19 t191 t203 t193).bind fun t204 => (laws_FnShift.j1 kj3 t191 t192 t193 t199 t200 (t204 != t192)))) else (laws_FnShift.j1 kj3 t191 t192 t193 t199 t200 true)))))) = some r := by rw [if_neg (show ¬ (false = true) by decide)] at H; exact H
          clear H
          have H := H1
          clear H1
          replace H := Option.bind_eq_some_iff.mp H
          obtain ⟨t199, A120, H⟩ := H
          replace H : ((laws_ldTwo.f kj3 17 t191 t192 t193).bind fun t200 => ((laws_ldTwo.f kj3 19 t191 t192 t193).bind fun t201 => ((laws_ldTwo.f kj3 20 t191 t201 t193).bind fun t202 => (if t202 = t192 then ((laws_ldTwo.f kj3 20 t191 t192 t193).bind fun t203 => ((laws_ldTwo.f kj3 19 t191 t203 t193).bind fun t204 => (laws_FnShift.j1 kj3 t191 t192 t193 t199 t200 (t204 != t192)))) else (laws_FnShift.j1 kj3 t191 t192 t193 t199 t200 true))))) = some r := H
          have A12 := Aside0.mk A120
          clear A120
          replace H := Option.bind_eq_some_iff.mp H
          obtain ⟨t200, A130, H⟩ := H
          replace H : ((laws_ldTwo.f kj3 19 t191 t192 t193).bind fun t201 => ((laws_ldTwo.f kj3 20 t191 t201 t193).bind fun t202 => (if t202 = t192 then ((laws_ldTwo.f kj3 20 t191 t192 t193).bind fun t203 => ((laws_ldTwo.f kj3 19 t191 t203 t193).bind fun t204 => (laws_FnShift.j1 kj3 t191 t192 t193 t199 t200 (t204 != t192)))) else (laws_FnShift.j1 kj3 t191 t192 t193 t199 t200 true)))) = some r := H
          have A13 := Aside0.mk A130
          clear A130
          replace H := Option.bind_eq_some_iff.mp H
          obtain ⟨t201, A140, H⟩ := H
          replace H : ((laws_ldTwo.f kj3 20 t191 t201 t193).bind fun t202 => (if t202 = t192 then ((laws_ldTwo.f kj3 20 t191 t192 t193).bind fun t203 => ((laws_ldTwo.f kj3 19 t191 t203 t193).bind fun t204 => (laws_FnShift.j1 kj3 t191 t192 t193 t199 t200 (t204 != t192)))) else (laws_FnShift.j1 kj3 t191 t192 t193 t199 t200 true))) = some r := H
          have A14 := Aside0.mk A140
          clear A140
          have HC15 := Aside0.mk H
          clear H
          go_upto_region 10 with (first | ((with_reducible refine gate_callee (f := 19) rfl ?_); refine goesL_ (some 48) rfl rfl Try.func19 (by kernel_rfl) rfl #[.int .i64 16, .int .i64 t191, .int .i64 t192, .int .i64 t193] rfl (by (try simp only [List.map_toArray, List.map_cons, List.map_nil]); first | done | rfl | (simp only [List.length_drop, List.length_take]; rfl)) ?_; (with_reducible refine (laws_ldTwo.calls kj3 16 t191 t192 t193 t199 _ A12.out).mono ?_); rintro e w16 ⟨rfl, hb⟩; refine ⟨_, rfl, ?_⟩; have n0_ := Aside0.mk (below_step (by repeat (first | (with_reducible first | exact HB.out | apply below_alloc | apply pw_below_drewN | apply below_drew1) | exact HB.out)) hb); clear HB; have HB := n0_; clear n0_; (try clear hb); (try clear hb2); (try clear hk); (try clear hi)) | ((with_reducible refine gate_callee (f := 19) rfl ?_); refine goesL_ (some 52) rfl rfl Try.func19 (by kernel_rfl) rfl #[.int .i64 17, .int .i64 t191, .int .i64 t192, .int .i64 t193] rfl (by (try simp only [List.map_toArray, List.map_cons, List.map_nil]); first | done | rfl | (simp only [List.length_drop, List.length_take]; rfl)) ?_; (with_reducible refine (laws_ldTwo.calls kj3 17 t191 t192 t193 t200 _ A13.out).mono ?_); rintro e w17 ⟨rfl, hb⟩; refine ⟨_, rfl, ?_⟩; have n0_ := Aside0.mk (below_step (by repeat (first | (with_reducible first | exact HB.out | apply below_alloc | apply pw_below_drewN | apply below_drew1) | exact HB.out)) hb); clear HB; have HB := n0_; clear n0_; (try clear hb); (try clear hb2); (try clear hk); (try clear hi)) | ((with_reducible refine gate_callee (f := 19) rfl ?_); refine goesL_ (some 56) rfl rfl Try.func19 (by kernel_rfl) rfl #[.int .i64 19, .int .i64 t191, .int .i64 t192, .int .i64 t193] rfl (by (try simp only [List.map_toArray, List.map_cons, List.map_nil]); first | done | rfl | (simp only [List.length_drop, List.length_take]; rfl)) ?_; (with_reducible refine (laws_ldTwo.calls kj3 19 t191 t192 t193 t201 _ A14.out).mono ?_); rintro e w18 ⟨rfl, hb⟩; refine ⟨_, rfl, ?_⟩; have n0_ := Aside0.mk (below_step (by repeat (first | (with_reducible first | exact HB.out | apply below_alloc | apply pw_below_drewN | apply below_drew1) | exact HB.out)) hb); clear HB; have HB := n0_; clear n0_; (try clear hb); (try clear hb2); (try clear hk); (try clear hi)))
          (try simp only [Act.put, List.setIfInBounds_toArray, List.set_cons_zero, List.set_cons_succ])
          go_cut [73] (fun v73 wc => ∃ (kq : Nat) (x73_14 : Bool), v73 = .bool x73_14 ∧ Aside0 (laws_FnShift.j1 kq t191 t192 t193 t199 t200 x73_14 = some r) ∧ Aside0 (kq ≤ kj3) ∧ Aside0 (Below w.heap.size w wc))
          case first =>
            have H := HC15.out
            clear HC15
            replace H := Option.bind_eq_some_iff.mp H
            obtain ⟨t202, A190, H⟩ := H
            replace H : (if t202 = t192 then ((laws_ldTwo.f kj3 20 t191 t192 t193).bind fun t203 => ((laws_ldTwo.f kj3 19 t191 t203 t193).bind fun t204 => (laws_FnShift.j1 kj3 t191 t192 t193 t199 t200 (t204 != t192)))) else (laws_FnShift.j1 kj3 t191 t192 t193 t199 t200 true)) = some r := H
            have A19 := Aside0.mk A190
            clear A190
            by_cases c20 : t202 = t192
            · rw [if_pos c20] at H
              have c20b0 : (t202 == t192) = true := beq_iff_eq.mpr c20
              have c20b1 : (t202 != t192) = false := bne_eq_false_iff_eq.mpr c20
              clear c20
              (first | rw [c20b0] | (simp only [i64_w, i32_w]; rw [c20b0]) | skip)
              replace H := Option.bind_eq_some_iff.mp H
              obtain ⟨t203, A210, H⟩ := H
              replace H : ((laws_ldTwo.f kj3 19 t191 t203 t193).bind fun t204 => (laws_FnShift.j1 kj3 t191 t192 t193 t199 t200 (t204 != t192))) = some r := H
              have A21 := Aside0.mk A210
              clear A210
              replace H := Option.bind_eq_some_iff.mp H
              obtain ⟨t204, A220, H⟩ := H
              replace H : (laws_FnShift.j1 kj3 t191 t192 t193 t199 t200 (t204 != t192)) = some r := H
              have A22 := Aside0.mk A220
              clear A220
              have H' := Aside0.mk H
              clear H
              go_wp2_with (first | ((with_reducible refine gate_callee (f := 19) rfl ?_); refine goesL_ (some 60) rfl rfl Try.func19 (by kernel_rfl) rfl #[.int .i64 20, .int .i64 t191, .int .i64 t201, .int .i64 t193] rfl (by (try simp only [List.map_toArray, List.map_cons, List.map_nil]); first | done | rfl | (simp only [List.length_drop, List.length_take]; rfl)) ?_; (with_reducible refine (laws_ldTwo.calls kj3 20 t191 t201 t193 t202 _ A19.out).mono ?_); rintro e w23 ⟨rfl, hb⟩; refine ⟨_, rfl, ?_⟩; have n0_ := Aside0.mk (below_step (by repeat (first | (with_reducible first | exact HB.out | apply below_alloc | apply pw_below_drewN | apply below_drew1) | exact HB.out)) hb); clear HB; have HB := n0_; clear n0_; (try clear hb); (try clear hb2); (try clear hk); (try clear hi)) | (go_at_call 19; (with_reducible refine (laws_ldTwo.calls kj3 20 t191 t192 t193 t203 _ A21.out).mono ?_); rintro e w24 ⟨rfl, hb⟩; have n0_ := Aside0.mk (below_step (by repeat (first | (with_reducible first | exact HB.out | apply below_alloc | apply pw_below_drewN | apply below_drew1) | exact HB.out)) hb); clear HB; have HB := n0_; clear n0_; (try clear hb); (try clear hb2); (try clear hk); (try clear hi)) | (go_at_call 19; (with_reducible refine (laws_ldTwo.calls kj3 19 t191 t203 t193 t204 _ A22.out).mono ?_); rintro e w25 ⟨rfl, hb⟩; have n0_ := Aside0.mk (below_step (by repeat (first | (with_reducible first | exact HB.out | apply below_alloc | apply pw_below_drewN | apply below_drew1) | exact HB.out)) hb); clear HB; have HB := n0_; clear n0_; (try clear hb); (try clear hb2); (try clear hk); (try clear hi)))
              go_meet
              case rel => exact ⟨_, ((t204 != t192)), (by first | rfl | (simp; done) | (simp [*]; done) | (exfalso; simp only [beq_iff_eq] at *; omega)), H', ⟨by have := HJ3.out; first | omega | exact Nat.le_refl _⟩, ⟨by repeat (first | (with_reducible first | exact HB.out | apply below_alloc | apply pw_below_drewN | apply below_drew1) | exact HB.out)⟩⟩
            · rw [if_neg c20] at H
              have c20b0 : (t202 == t192) = false := beq_eq_false_iff_ne.mpr c20
              have c20b1 : (t202 != t192) = true := bne_iff_ne.mpr c20
              (first | rw [c20b0] | (simp only [i64_w, i32_w]; rw [c20b0]) | skip)
              have H' := Aside0.mk H
              clear H
              go_wp2_with (first | ((with_reducible refine gate_callee (f := 19) rfl ?_); refine goesL_ (some 60) rfl rfl Try.func19 (by kernel_rfl) rfl #[.int .i64 20, .int .i64 t191, .int .i64 t201, .int .i64 t193] rfl (by (try simp only [List.map_toArray, List.map_cons, List.map_nil]); first | done | rfl | (simp only [List.length_drop, List.length_take]; rfl)) ?_; (with_reducible refine (laws_ldTwo.calls kj3 20 t191 t201 t193 t202 _ A19.out).mono ?_); rintro e w26 ⟨rfl, hb⟩; refine ⟨_, rfl, ?_⟩; have n0_ := Aside0.mk (below_step (by repeat (first | (with_reducible first | exact HB.out | apply below_alloc | apply pw_below_drewN | apply below_drew1) | exact HB.out)) hb); clear HB; have HB := n0_; clear n0_; (try clear hb); (try clear hb2); (try clear hk); (try clear hi)))
              go_meet
              case rel => exact ⟨_, (true), (by first | rfl | (simp; done) | (simp [*]; done) | (exfalso; simp only [beq_iff_eq] at *; omega)), H', ⟨by have := HJ3.out; first | omega | exact Nat.le_refl _⟩, ⟨by repeat (first | (with_reducible first | exact HB.out | apply below_alloc | apply pw_below_drewN | apply below_drew1) | exact HB.out)⟩⟩
          case rest =>
            clear HC15
            try clear c1
            try clear c2
            try clear c2b0
            try clear c2b1
            try clear p2
            try clear c6
            try clear c7
            try clear c9
            try clear c16
            try clear c17
            try clear c18
            try clear c19
            try clear c20
            try clear c20b0
            try clear c20b1
            try clear p2
            obtain ⟨kq, x73_14, rfl, HA, HJ14, HB⟩ := hcut
            cases kq with
            | zero => exact absurd HA.out (by simp [laws_FnShift.j1])
            | succ kj14 =>
              have H := HA.out
              clear HA
              simp only [laws_FnShift.j1] at H
              by_cases c27 : x73_14 = true
              · subst c27
                have H1 : (some false) = some r := by rw [if_pos rfl] at H; exact H
                clear H
                have H := H1
                clear H1
                obtain rfl := Option.some.inj H
                go_wp2
                go_ret
                exact ⟨by first | rfl | (simp [errW_none, errW_some] <;> rfl) | (simp [*, errW_none, errW_some] <;> rfl), by repeat (first | (with_reducible first | exact HB.out | apply below_alloc | apply pw_below_drewN | apply below_drew1) | exact HB.out)⟩
              · replace c27 := Bool.eq_false_iff.mpr c27
                subst c27
                have H1 : (if t193 ≥ t191 then (if t199 = 0 then (some (t200 == 0)) else (some false)) else ((spec_WordSigned.f t191 t192).bind fun t205 => (laws_FnShift.l0 kj14 t191 t192 t193 t199 t200 t205 0))) = some r := by rw [if_neg (show ¬ (false = true) by decide)] at H; exact H
                clear H
                have H := H1
                clear H1
                by_cases c28 : t193 ≥ t191
                · rw [if_pos c28] at H
                  have c28b0 : decide (t191 ≤ t193) = true := decide_eq_true c28
                  clear c28
                  by_cases c29 : t199 = 0
                  · rw [if_pos c29] at H
                    have c29b0 : (t199 == 0) = true := beq_iff_eq.mpr c29
                    have c29b1 : (t199 != 0) = false := bne_eq_false_iff_eq.mpr c29
                    clear c29
                    obtain rfl := Option.some.inj H
                    go_wp2
                    go_ret
                    exact ⟨by first | rfl | (simp [errW_none, errW_some] <;> rfl) | (simp [*, errW_none, errW_some] <;> rfl), by repeat (first | (with_reducible first | exact HB.out | apply below_alloc | apply pw_below_drewN | apply below_drew1) | exact HB.out)⟩
                  · rw [if_neg c29] at H
                    have c29b0 : (t199 == 0) = false := beq_eq_false_iff_ne.mpr c29
                    have c29b1 : (t199 != 0) = true := bne_iff_ne.mpr c29
                    obtain rfl := Option.some.inj H
                    go_wp2
                    go_ret
                    exact ⟨by first | rfl | (simp [errW_none, errW_some] <;> rfl) | (simp [*, errW_none, errW_some] <;> rfl), by repeat (first | (with_reducible first | exact HB.out | apply below_alloc | apply pw_below_drewN | apply below_drew1) | exact HB.out)⟩
                · rw [if_neg c28] at H
                  have c28b0 : decide (t191 ≤ t193) = false := decide_eq_false c28
                  clear c28
                  replace H := Option.bind_eq_some_iff.mp H
                  obtain ⟨t205, A300, H⟩ := H
                  replace H : (laws_FnShift.l0 kj14 t191 t192 t193 t199 t200 t205 0) = some r := H
                  have A30 := Aside0.mk A300
                  clear A300
                  have H' := Aside0.mk H
                  clear H
                  go_wp2_with (first | ((with_reducible refine gate_callee (f := 20) rfl ?_); refine goesL_ (some 85) rfl rfl Try.func20 (by kernel_rfl) rfl #[.int .i64 t191, .int .i64 t192] rfl (by (try simp only [List.map_toArray, List.map_cons, List.map_nil]); first | done | rfl | (simp only [List.length_drop, List.length_take]; rfl)) ?_; (with_reducible refine (spec_WordSigned.calls t191 t192 t205 _ A30.out).mono ?_); rintro e w' ⟨rfl, ⟨nd, rfl⟩⟩; refine ⟨_, rfl, ?_⟩))
                  go_loopg [13, 14] kj14 (fun kq v13 v14 w' => ∃ (x13_3 : Int) (x14_3 : Int), v13 = .int .i64 x13_3 ∧ v14 = .int .i64 x14_3 ∧ Aside0 (laws_FnShift.l0 kq t191 t192 t193 t199 t200 x13_3 x14_3 = some r) ∧ Aside0 (kq ≤ kj14) ∧ Aside0 (Below w.heap.size w w'))
                  case atStart => exact ⟨(t205), (0), (by first | rfl | (simp; done) | (simp [*]; done) | (exfalso; simp only [beq_iff_eq] at *; omega)), (by first | rfl | (simp; done) | (simp [*]; done) | (exfalso; simp only [beq_iff_eq] at *; omega)), H', ⟨Nat.le_refl _⟩, ⟨by repeat (first | (with_reducible first | exact HB.out | apply below_alloc | apply pw_below_drewN | apply below_drew1) | exact HB.out)⟩⟩
                  case round =>
                    clear H'
                    try clear c1
                    try clear c2
                    try clear c2b0
                    try clear c2b1
                    try clear p2
                    try clear c6
                    try clear c7
                    try clear c9
                    try clear c16
                    try clear c17
                    try clear c18
                    try clear c19
                    try clear c20
                    try clear c20b0
                    try clear c20b1
                    try clear c27
                    try clear c28
                    try clear c28b0
                    try clear c29
                    try clear c29b0
                    try clear c29b1
                    try clear p2
                    obtain ⟨x13_3, x14_3, rfl, rfl, HA, HK3, HB⟩ := hrel
                    cases gk with
                    | zero => exact absurd HA.out (by simp [laws_FnShift.l0])
                    | succ k3 =>
                      have H := HA.out
                      clear HA
                      simp only [laws_FnShift.l0] at H
                      by_cases c31 : x14_3 < t193
                      · rw [if_pos c31] at H
                        have c31b0 : decide (x14_3 < t193) = true := decide_eq_true c31
                        clear c31
                        have H' := Aside0.mk H
                        clear H
                        go_wp2
                        go_roundg k3
                        case measure => have := HJ3.out; have := HJ14.out; have := HK3.out; omega
                        case rel => exact ⟨(wrap64 (Int.tdiv (wrap64 (x13_3 - (Int.tmod (wrap64 ((Int.tmod x13_3 2) + 2)) 2))) 2)), (wrap64 (x14_3 + 1)), (by first | rfl | (simp; done) | (simp [*]; done) | (exfalso; simp only [beq_iff_eq] at *; omega)), (by first | rfl | (simp; done) | (simp [*]; done) | (exfalso; simp only [beq_iff_eq] at *; omega)), H', ⟨by have := HJ3.out; have := HJ14.out; have := HK3.out; omega⟩, ⟨by repeat (first | (with_reducible first | exact HB.out | apply below_alloc | apply pw_below_drewN | apply below_drew1) | exact HB.out)⟩⟩
                      · rw [if_neg c31] at H
                        have c31b0 : decide (x14_3 < t193) = false := decide_eq_false c31
                        clear c31
                        obtain ⟨ji32, hji32⟩ : ∃ j_ : Int, (IntKind.u64.wrap (t193)) = j_ := ⟨_, rfl⟩
                        replace H : (if 0 ≤ (ji32) then ((spec_WordFrom.f t191 (shl .i64 t192 (ji32))).bind fun t206 => (if t199 = t206 then (if t200 = (shr .i64 t192 (ji32)) then ((laws_ldTwo.f k3 18 t191 t192 t193).bind fun t207 => ((spec_WordFrom.f t191 x13_3).bind fun t208 => (some (t207 == t208)))) else (some false)) else (some false))) else (none)) = some r := by first | (rw [hji32] at H; exact H) | (simp only [hji32] at H ⊢; exact H)
                        by_cases c33 : 0 ≤ (ji32)
                        · rw [if_pos c33] at H
                          have c33b0 := eq_true c33
                          have c33b1 : decide (0 ≤ (ji32)) = true := decide_eq_true c33
                          clear c33
                          obtain ⟨ji34, hji34⟩ : ∃ j_ : Int, (shl .i64 t192 (ji32)) = j_ := ⟨_, rfl⟩
                          replace H : ((spec_WordFrom.f t191 (ji34)).bind fun t206 => (if t199 = t206 then (if t200 = (shr .i64 t192 (ji32)) then ((laws_ldTwo.f k3 18 t191 t192 t193).bind fun t207 => ((spec_WordFrom.f t191 x13_3).bind fun t208 => (some (t207 == t208)))) else (some false)) else (some false))) = some r := by first | (rw [hji34] at H; exact H) | (simp only [hji34] at H ⊢; exact H)
                          have hji34_ : (IntKind.i64.wrap (t192 * 2 ^ min (ji32).toNat 64)) = ji34 := hji34
                          have hji34z : (ji32) ≤ 64 → (IntKind.i64.wrap (t192 * 2 ^ (ji32).toNat)) = ji34 := shl_small hji34
                          have hji34y : (wrap64 (t192 * 2 ^ min (ji32).toNat 64)) = ji34 := (i64_w _).symm.trans hji34_
                          have hji34x : (ji32) ≤ 64 → (wrap64 (t192 * 2 ^ (ji32).toNat)) = ji34 := fun h_ => (i64_w _).symm.trans (hji34z h_)
                          replace H := Option.bind_eq_some_iff.mp H
                          obtain ⟨t206, A350, H⟩ := H
                          replace H : (if t199 = t206 then (if t200 = (shr .i64 t192 (ji32)) then ((laws_ldTwo.f k3 18 t191 t192 t193).bind fun t207 => ((spec_WordFrom.f t191 x13_3).bind fun t208 => (some (t207 == t208)))) else (some false)) else (some false)) = some r := H
                          have A35 := Aside0.mk A350
                          clear A350
                          by_cases c36 : t199 = t206
                          · rw [if_pos c36] at H
                            have c36b0 : (t199 == t206) = true := beq_iff_eq.mpr c36
                            have c36b1 : (t199 != t206) = false := bne_eq_false_iff_eq.mpr c36
                            clear c36
                            (try have c37b0 := eq_true (of_decide_eq_true (by first | (with_reducible assumption) | assumption) : 0 ≤ (ji32)))
                            obtain ⟨ji38, hji38⟩ : ∃ j_ : Int, (shr .i64 t192 (ji32)) = j_ := ⟨_, rfl⟩
                            replace H : (if t200 = (ji38) then ((laws_ldTwo.f k3 18 t191 t192 t193).bind fun t207 => ((spec_WordFrom.f t191 x13_3).bind fun t208 => (some (t207 == t208)))) else (some false)) = some r := by first | (rw [hji38] at H; exact H) | (simp only [hji38] at H ⊢; exact H)
                            (try rw [hji38] at A35)
                            have hji38_ : (t192 / 2 ^ min (ji32).toNat 64) = ji38 := hji38
                            have hji38z : (ji32) ≤ 64 → (t192 / 2 ^ (ji32).toNat) = ji38 := shr_small hji38
                            by_cases c39 : t200 = (ji38)
                            · rw [if_pos c39] at H
                              have c39b0 : (t200 == (ji38)) = true := beq_iff_eq.mpr c39
                              have c39b1 : (t200 != (ji38)) = false := bne_eq_false_iff_eq.mpr c39
                              clear c39
                              replace H := Option.bind_eq_some_iff.mp H
                              obtain ⟨t207, A400, H⟩ := H
                              replace H : ((spec_WordFrom.f t191 x13_3).bind fun t208 => (some (t207 == t208))) = some r := H
                              have A40 := Aside0.mk A400
                              clear A400
                              replace H := Option.bind_eq_some_iff.mp H
                              obtain ⟨t208, A410, H⟩ := H
                              replace H : (some (t207 == t208)) = some r := H
                              have A41 := Aside0.mk A410
                              clear A410
                              obtain rfl := Option.some.inj H
                              go_wp2_with (first | ((with_reducible refine gate_callee (f := 21) rfl ?_); refine goesL_ (some 104) rfl rfl Try.func21 (by kernel_rfl) rfl #[.int .i64 t191, .int .i64 ji34] rfl (by (try simp only [List.map_toArray, List.map_cons, List.map_nil]); first | done | (simp only [hji34]; rfl) | rfl | (simp only [List.length_drop, List.length_take]; rfl)) ?_; (with_reducible refine (spec_WordFrom.calls t191 ji34 t206 _ A35.out).mono ?_); rintro e w' ⟨rfl, ⟨nd, rfl⟩⟩; refine ⟨_, rfl, ?_⟩) | (go_at_call 19; (with_reducible refine (laws_ldTwo.calls k3 18 t191 t192 t193 t207 _ A40.out).mono ?_); rintro e w42 ⟨rfl, hb⟩; have n0_ := Aside0.mk (below_step (by repeat (first | (with_reducible first | exact HB.out | apply below_alloc | apply pw_below_drewN | apply below_drew1) | exact HB.out)) hb); clear HB; have HB := n0_; clear n0_; (try clear hb); (try clear hb2); (try clear hk); (try clear hi)) | (go_at_call 21; (with_reducible refine (spec_WordFrom.calls t191 x13_3 t208 _ A41.out).mono ?_); rintro e w' ⟨rfl, ⟨nd, rfl⟩⟩))
                              go_ret
                              exact ⟨by first | rfl | (simp [errW_none, errW_some] <;> rfl) | (simp only [← hji32, ← hji34, ← hji38]; first | rfl | (simp [errW_none, errW_some] <;> rfl)) | (simp [*, errW_none, errW_some] <;> rfl), by repeat (first | (with_reducible first | exact HB.out | apply below_alloc | apply pw_below_drewN | apply below_drew1) | exact HB.out)⟩
                            · rw [if_neg c39] at H
                              have c39b0 : (t200 == (ji38)) = false := beq_eq_false_iff_ne.mpr c39
                              have c39b1 : (t200 != (ji38)) = true := bne_iff_ne.mpr c39
                              obtain rfl := Option.some.inj H
                              go_wp2_with (first | ((with_reducible refine gate_callee (f := 21) rfl ?_); refine goesL_ (some 104) rfl rfl Try.func21 (by kernel_rfl) rfl #[.int .i64 t191, .int .i64 ji34] rfl (by (try simp only [List.map_toArray, List.map_cons, List.map_nil]); first | done | (simp only [hji34]; rfl) | rfl | (simp only [List.length_drop, List.length_take]; rfl)) ?_; (with_reducible refine (spec_WordFrom.calls t191 ji34 t206 _ A35.out).mono ?_); rintro e w' ⟨rfl, ⟨nd, rfl⟩⟩; refine ⟨_, rfl, ?_⟩))
                              go_ret
                              exact ⟨by first | rfl | (simp [errW_none, errW_some] <;> rfl) | (simp only [← hji32, ← hji34, ← hji38]; first | rfl | (simp [errW_none, errW_some] <;> rfl)) | (simp [*, errW_none, errW_some] <;> rfl), by repeat (first | (with_reducible first | exact HB.out | apply below_alloc | apply pw_below_drewN | apply below_drew1) | exact HB.out)⟩
                          · rw [if_neg c36] at H
                            have c36b0 : (t199 == t206) = false := beq_eq_false_iff_ne.mpr c36
                            have c36b1 : (t199 != t206) = true := bne_iff_ne.mpr c36
                            obtain rfl := Option.some.inj H
                            go_wp2_with (first | ((with_reducible refine gate_callee (f := 21) rfl ?_); refine goesL_ (some 104) rfl rfl Try.func21 (by kernel_rfl) rfl #[.int .i64 t191, .int .i64 ji34] rfl (by (try simp only [List.map_toArray, List.map_cons, List.map_nil]); first | done | (simp only [hji34]; rfl) | rfl | (simp only [List.length_drop, List.length_take]; rfl)) ?_; (with_reducible refine (spec_WordFrom.calls t191 ji34 t206 _ A35.out).mono ?_); rintro e w' ⟨rfl, ⟨nd, rfl⟩⟩; refine ⟨_, rfl, ?_⟩))
                            go_ret
                            exact ⟨by first | rfl | (simp [errW_none, errW_some] <;> rfl) | (simp only [← hji32, ← hji34]; first | rfl | (simp [errW_none, errW_some] <;> rfl)) | (simp [*, errW_none, errW_some] <;> rfl), by repeat (first | (with_reducible first | exact HB.out | apply below_alloc | apply pw_below_drewN | apply below_drew1) | exact HB.out)⟩
                        · rw [if_neg c33] at H
                          exact absurd H (by simp)

/-- THE ONE PURE STATEMENT of laws_FnShift: yours. -/
def laws_FnShift.Pure : Prop := ∀ (l0 : List Int), l0.length ≤ maxLen → l0.length * 1 ≤ 140737488351232 → (∀ x ∈ l0, (Lit.int .u8 x).wf = true) → ∃ k, laws_FnShift.f k l0 = some true
theorem laws_FnShift.walk (P : laws_FnShift.Pure) (a0 : Option Addr) (len0 cap0 : Nat) (z0 : List Int) (w : World) (w0 : (a0 = none ∧ len0 = 0 ∧ cap0 = 0 ∧ z0 = []) ∨ ∃ x, a0 = some x ∧ len0 ≤ cap0 ∧ cap0 ≤ maxLen ∧ z0.length = cap0 ∧ (∀ i, i < z0.length → w.cell? (x.add i) = some (.int .u8 (z0.getD i 0))) ∧ ∀ n ∈ z0, (Lit.int .u8 n).wf = true) (y0 : len0 * 1 ≤ 140737488351232) :
    Calls Try.prog 6 #[.slice a0 len0 cap0] w fun e w' => e = .returned (.bool true) ∧ Below w.heap.size w w' := by
  obtain ⟨l0, rfl, hr0, hm0, hw0, hc0⟩ := ReadsInt.ofRowC w0
  obtain ⟨k, h⟩ := P l0 hm0 y0 hw0
  refine (laws_FnShift.calls k _ _ l0 true w (Kd.C_of_reads (d := (0 : Int)) (h1 := fun _ => rfl) hr0) hc0 h).mono ?_
  rintro e w' ⟨rfl, hd⟩
  exact ⟨rfl, hd⟩

end Go.Proofs.Ytohojfcpnlobjaa.PFnShift
