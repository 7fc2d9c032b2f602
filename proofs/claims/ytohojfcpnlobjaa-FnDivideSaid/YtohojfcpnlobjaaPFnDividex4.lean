-- Written by a program of this session (wip/pp).
import Derived.Test.YtohojfcpnlobjaaPFnDividex0
import Derived.Test.YtohojfcpnlobjaaPFnDividex1
import Derived.Test.YtohojfcpnlobjaaPFnDividex2
import Derived.Test.YtohojfcpnlobjaaPFnDividex3
namespace Go.Proofs.Ytohojfcpnlobjaa.PFnDivide
open Go.RowKit Go.Proofs.YtohojfcpnlobjaaW.PrintWords Go.Proofs.YtohojfcpnlobjaaW.PrintLast Go.Proofs.YtohojfcpnlobjaaW.PrintMore
attribute [local go_sem] max2_int min2_int max_two min_two max_three min_three max_four min_four   -- for this text's walks alone
set_option linter.unusedVariables false
set_option linter.unusedSimpArgs false

/-! ### laws_FnDivide: function 4 -/
mutual
def laws_FnDivide.j0 : Nat → Int → Int → Int → Bool → Option (Bool)
  | 0, _, _, _, _ => none
  | k + 1, x4, x5, x6, x35 => if x35 = true then ((impl_WordTwo.f k 12 x4 x5 x6).bind fun bt196 => (some (!bt196.2.2))) else ((laws_ldTwo.f k 12 x4 x5 x6).bind fun t199 => ((laws_ldTwo.f k 13 x4 x5 x6).bind fun t200 => ((laws_ldTwo.f k 14 x4 x5 x6).bind fun t201 => ((laws_ldTwo.f k 15 x4 x5 x6).bind fun t202 => (if x6 = 0 then (if 0 ≤ (IntKind.u64.wrap (x4)) then (if t199 = (wrap64 ((shl .i64 1 (IntKind.u64.wrap (x4))) - 1)) then (if t200 = x5 then (some (t202 == x5)) else (some false)) else (some false)) else (none)) else ((impl_WordSigned.f x4 t202).bind fun t203 => ((impl_WordSigned.f x4 x6).bind fun t204 => (if t203 < 0 then (laws_FnDivide.j1 k x4 x5 x6 t199 t200 t201 t202 (wrap64 (-t203)) t204) else (laws_FnDivide.j1 k x4 x5 x6 t199 t200 t201 t202 t203 t204)))))))))
def laws_FnDivide.j1 : Nat → Int → Int → Int → Int → Int → Int → Int → Int → Int → Option (Bool)
  | 0, _, _, _, _, _, _, _, _, _ => none
  | k + 1, x4, x5, x6, x10, x11, x12, x13, x14, x15 => if x15 < 0 then (if (wrap64 ((wrap64 (x10 * x6)) + x11)) = x5 then (if x11 < x6 then ((laws_ldTwo.f k 11 x4 x12 x6).bind fun t205 => ((laws_ldTwo.f k 9 x4 t205 x13).bind fun t206 => (if t206 = x5 then (some (decide (x14 < (wrap64 (-x15))))) else (some false)))) else (some false)) else (some false)) else (if (wrap64 ((wrap64 (x10 * x6)) + x11)) = x5 then (if x11 < x6 then ((laws_ldTwo.f k 11 x4 x12 x6).bind fun t207 => ((laws_ldTwo.f k 9 x4 t207 x13).bind fun t208 => (if t208 = x5 then (some (decide (x14 < x15))) else (some false)))) else (some false)) else (some false))
end
def laws_FnDivide.f (k : Nat) (l0 : List Int) : Option (Bool) := if (l0.length : Int) > 1048576 then (some true) else ((spec_DrawWordTwo.f k l0).bind fun bt190 => ((spec_WordOk.f bt190.2.1 bt190.2.2.1).bind fun t194 => (if t194 = true then ((spec_WordOk.f bt190.2.1 bt190.2.2.2).bind fun t195 => (laws_FnDivide.j0 k bt190.2.1 bt190.2.2.1 bt190.2.2.2 (!t195))) else (laws_FnDivide.j0 k bt190.2.1 bt190.2.2.1 bt190.2.2.2 true))))
theorem laws_FnDivide.mono_l : ∀ k, (∀ y0 y1 y2 y3, LeO (laws_FnDivide.j0 k y0 y1 y2 y3) (laws_FnDivide.j0 (k + 1) y0 y1 y2 y3)) ∧ (∀ y0 y1 y2 y3 y4 y5 y6 y7 y8, LeO (laws_FnDivide.j1 k y0 y1 y2 y3 y4 y5 y6 y7 y8) (laws_FnDivide.j1 (k + 1) y0 y1 y2 y3 y4 y5 y6 y7 y8))
  | 0 => ⟨fun _ _ _ _ r h => by simp [laws_FnDivide.j0] at h, fun _ _ _ _ _ _ _ _ _ r h => by simp [laws_FnDivide.j1] at h⟩
  | k + 1 => by
    obtain ⟨ih0, ih1⟩ := laws_FnDivide.mono_l k
    refine ⟨?_, ?_⟩
    · intro y0 y1 y2 y3
      unfold laws_FnDivide.j0
      repeat' first
      | (with_reducible exact ih0 _ _ _ _)
      | (with_reducible exact ih1 _ _ _ _ _ _ _ _ _)
      | (with_reducible exact impl_WordTwo.mono _ _ _ _ _)
      | (with_reducible exact laws_ldTwo.mono _ _ _ _ _)
      | (with_reducible exact spec_DrawWordTwo.mono _ _)
      | (with_reducible exact LeO.refl _)
      | (with_reducible exact LeO.none _)
      | (with_reducible refine LeO.ite ?_ ?_)
      | (with_reducible refine LeO.bind ?_ (fun _ => ?_))
      | exact ih0 _ _ _ _
      | exact ih1 _ _ _ _ _ _ _ _ _
      | exact impl_WordTwo.mono _ _ _ _ _
      | exact laws_ldTwo.mono _ _ _ _ _
      | exact spec_DrawWordTwo.mono _ _
      | exact LeO.none _
      | refine LeO.ite ?_ ?_
      | refine LeO.bind ?_ (fun _ => ?_)
    · intro y0 y1 y2 y3 y4 y5 y6 y7 y8
      unfold laws_FnDivide.j1
      repeat' first
      | (with_reducible exact ih0 _ _ _ _)
      | (with_reducible exact ih1 _ _ _ _ _ _ _ _ _)
      | (with_reducible exact impl_WordTwo.mono _ _ _ _ _)
      | (with_reducible exact laws_ldTwo.mono _ _ _ _ _)
      | (with_reducible exact spec_DrawWordTwo.mono _ _)
      | (with_reducible exact LeO.refl _)
      | (with_reducible exact LeO.none _)
      | (with_reducible refine LeO.ite ?_ ?_)
      | (with_reducible refine LeO.bind ?_ (fun _ => ?_))
      | exact ih0 _ _ _ _
      | exact ih1 _ _ _ _ _ _ _ _ _
      | exact impl_WordTwo.mono _ _ _ _ _
      | exact laws_ldTwo.mono _ _ _ _ _
      | exact spec_DrawWordTwo.mono _ _
      | exact LeO.none _
      | refine LeO.ite ?_ ?_
      | refine LeO.bind ?_ (fun _ => ?_)
theorem laws_FnDivide.mono : ∀ a0 k, LeO (laws_FnDivide.f k a0) (laws_FnDivide.f (k + 1) a0) := by
  intro a0 k
  obtain ⟨ih0, ih1⟩ := laws_FnDivide.mono_l k
  unfold laws_FnDivide.f
  repeat' first
      | (with_reducible exact ih0 _ _ _ _)
      | (with_reducible exact ih1 _ _ _ _ _ _ _ _ _)
      | (with_reducible exact impl_WordTwo.mono _ _ _ _ _)
      | (with_reducible exact laws_ldTwo.mono _ _ _ _ _)
      | (with_reducible exact spec_DrawWordTwo.mono _ _)
      | (with_reducible exact LeO.refl _)
      | (with_reducible exact LeO.none _)
      | (with_reducible refine LeO.ite ?_ ?_)
      | (with_reducible refine LeO.bind ?_ (fun _ => ?_))
      | exact ih0 _ _ _ _
      | exact ih1 _ _ _ _ _ _ _ _ _
      | exact impl_WordTwo.mono _ _ _ _ _
      | exact laws_ldTwo.mono _ _ _ _ _
      | exact spec_DrawWordTwo.mono _ _
      | exact LeO.none _
      | refine LeO.ite ?_ ?_
      | refine LeO.bind ?_ (fun _ => ?_)
set_option maxHeartbeats 8000000 in
set_option maxRecDepth 100000 in
theorem laws_FnDivide.calls (k : Nat) (A0 : Option Addr) (c0 : Nat) (l0 : List Int) (r : Bool) (w : World) (hr0 : Kd.C (Kd.int .u8) w A0 l0.length l0) (hc0 : l0.length ≤ c0) (h : laws_FnDivide.f k l0 = some r) :
    Calls Try.prog 4 #[.slice A0 l0.length c0] w fun e w' => e = .returned (.bool r) ∧ Below w.heap.size w w' := by
  have HR0 := Aside0.mk hr0
  have HC0 := Aside0.mk hc0
  clear hr0 hc0
  have HB := Aside0.mk (Below.refl w.heap.size w)
  have H : (if (l0.length : Int) > 1048576 then (some true) else ((spec_DrawWordTwo.f k l0).bind fun bt190 => ((spec_WordOk.f bt190.2.1 bt190.2.2.1).bind fun t194 => (if t194 = true then ((spec_WordOk.f bt190.2.1 bt190.2.2.2).bind fun t195 => (laws_FnDivide.j0 k bt190.2.1 bt190.2.2.1 bt190.2.2.2 (!t195))) else (laws_FnDivide.j0 k bt190.2.1 bt190.2.2.1 bt190.2.2.2 true))))) = some r := h
  clear h
  by_cases c2 : (l0.length : Int) > 1048576
  · rw [if_pos c2] at H
    have c2b0 : decide (1048576 < (l0.length : Int)) = true := decide_eq_true c2
    have c2b1 : decide (1048576 < l0.length) = true := decide_eq_true (by omega)
    clear c2
    obtain rfl := Option.some.inj H
    go_enter Try.func4, Try.ntmps4
    go_wp2
    go_ret
    exact ⟨by first | rfl | (simp [errW_none, errW_some] <;> rfl) | (simp [*, errW_none, errW_some] <;> rfl), by repeat (first | (with_reducible first | exact HB.out | apply below_alloc | apply pw_below_drewN | apply below_drew1) | exact HB.out)⟩
  · rw [if_neg c2] at H
    have c2b0 : decide (1048576 < (l0.length : Int)) = false := decide_eq_false c2
    have c2b1 : decide (1048576 < l0.length) = false := decide_eq_false (by omega)
    clear c2
    replace H := Option.bind_eq_some_iff.mp H
    obtain ⟨⟨t190, t191, t192, t193⟩, A30, H⟩ := H
    replace H : ((spec_WordOk.f t191 t192).bind fun t194 => (if t194 = true then ((spec_WordOk.f t191 t193).bind fun t195 => (laws_FnDivide.j0 k t191 t192 t193 (!t195))) else (laws_FnDivide.j0 k t191 t192 t193 true))) = some r := H
    have A3 := Aside0.mk A30
    clear A30
    have HC4 := Aside0.mk H
    clear H
    go_enter Try.func4, Try.ntmps4
    go_upto_region 4 with (first | ((with_reducible refine gate_callee (f := 16) rfl ?_); refine goesL_ (some 21) rfl rfl Try.func16 (by kernel_rfl) rfl #[.slice A0 l0.length c0] rfl (by (try simp only [List.map_toArray, List.map_cons, List.map_nil]); first | done | rfl | (simp only [List.length_drop, List.length_take]; rfl)) ?_; (with_reducible refine (spec_DrawWordTwo.calls k _ _ l0 t190 t191 t192 t193 _ ?side1 ?side2 A3.out).mono ?_); (case side1 => repeat (first | exact HR0.out | (with_reducible refine Kd.C_alloc ?_ _) | (with_reducible refine Kd.C_drewN ?_ _) | (with_reducible refine Kd.C_drew ?_))); (case side2 => exact HC0.out); rintro e w5 ⟨rfl, hb⟩; refine ⟨_, rfl, ?_⟩; have n0_ := Aside0.mk (below_step (by repeat (first | (with_reducible first | exact HB.out | apply below_alloc | apply pw_below_drewN | apply below_drew1) | exact HB.out)) hb); clear HB; have HB := n0_; clear n0_; (try clear hb); (try clear hb2); (try clear hk); (try clear hi)))
    (try simp only [Act.put, List.setIfInBounds_toArray, List.set_cons_zero, List.set_cons_succ])
    go_cut [35] (fun v35 wc => ∃ (kq : Nat) (x35_3 : Bool), v35 = .bool x35_3 ∧ Aside0 (laws_FnDivide.j0 kq t191 t192 t193 x35_3 = some r) ∧ Aside0 (kq ≤ k) ∧ Aside0 (Below w.heap.size w wc))
    case first =>
      have H := HC4.out
      clear HC4
      replace H := Option.bind_eq_some_iff.mp H
      obtain ⟨t194, A60, H⟩ := H
      replace H : (if t194 = true then ((spec_WordOk.f t191 t193).bind fun t195 => (laws_FnDivide.j0 k t191 t192 t193 (!t195))) else (laws_FnDivide.j0 k t191 t192 t193 true)) = some r := H
      have A6 := Aside0.mk A60
      clear A60
      by_cases c7 : t194 = true
      · subst c7
        have H1 : ((spec_WordOk.f t191 t193).bind fun t195 => (laws_FnDivide.j0 k t191 t192 t193 (!t195))) = some r := by rw [if_pos rfl] at H; exact H
        clear H
        have H := H1
        clear H1
        replace H := Option.bind_eq_some_iff.mp H
        obtain ⟨t195, A80, H⟩ := H
        replace H : (laws_FnDivide.j0 k t191 t192 t193 (!t195)) = some r := H
        have A8 := Aside0.mk A80
        clear A80
        have H' := Aside0.mk H
        clear H
        go_wp2_with (first | ((with_reducible refine gate_callee (f := 17) rfl ?_); refine goesL_ (some 28) rfl rfl Try.func17 (by kernel_rfl) rfl #[.int .i64 t191, .int .i64 t192] rfl (by (try simp only [List.map_toArray, List.map_cons, List.map_nil]); first | done | rfl | (simp only [List.length_drop, List.length_take]; rfl)) ?_; (with_reducible refine (spec_WordOk.calls t191 t192 true _ A6.out).mono ?_); rintro e w' ⟨rfl, ⟨nd, rfl⟩⟩; refine ⟨_, rfl, ?_⟩) | (go_at_call 17; (with_reducible refine (spec_WordOk.calls t191 t193 t195 _ A8.out).mono ?_); rintro e w' ⟨rfl, ⟨nd, rfl⟩⟩))
        go_meet
        case rel => exact ⟨_, (!t195), (by first | rfl | (simp; done) | (simp [*]; done) | (exfalso; simp only [beq_iff_eq] at *; omega)), H', ⟨by first | omega | exact Nat.le_refl _⟩, ⟨by repeat (first | (with_reducible first | exact HB.out | apply below_alloc | apply pw_below_drewN | apply below_drew1) | exact HB.out)⟩⟩
      · replace c7 := Bool.eq_false_iff.mpr c7
        subst c7
        have H1 : (laws_FnDivide.j0 k t191 t192 t193 true) = some r := by rw [if_neg (show ¬ (false = true) by decide)] at H; exact H
        clear H
        have H := H1
        clear H1
        have H' := Aside0.mk H
        clear H
        go_wp2_with (first | ((with_reducible refine gate_callee (f := 17) rfl ?_); refine goesL_ (some 28) rfl rfl Try.func17 (by kernel_rfl) rfl #[.int .i64 t191, .int .i64 t192] rfl (by (try simp only [List.map_toArray, List.map_cons, List.map_nil]); first | done | rfl | (simp only [List.length_drop, List.length_take]; rfl)) ?_; (with_reducible refine (spec_WordOk.calls t191 t192 false _ A6.out).mono ?_); rintro e w' ⟨rfl, ⟨nd, rfl⟩⟩; refine ⟨_, rfl, ?_⟩))
        go_meet
        case rel => exact ⟨_, (true), (by first | rfl | (simp; done) | (simp [*]; done) | (exfalso; simp only [beq_iff_eq] at *; omega)), H', ⟨by first | omega | exact Nat.le_refl _⟩, ⟨by repeat (first | (with_reducible first | exact HB.out | apply below_alloc | apply pw_below_drewN | apply below_drew1) | exact HB.out)⟩⟩
    case rest =>
      clear HC4
      try clear c1
      try clear c2
      try clear c2b0
      try clear c2b1
      try clear p2
      try clear c4
      try clear c7
      obtain ⟨kq, x35_3, rfl, HA, HJ3, HB⟩ := hcut
      cases kq with
      | zero => exact absurd HA.out (by simp [laws_FnDivide.j0])
      | succ kj3 =>
        have H := HA.out
        clear HA
        simp only [laws_FnDivide.j0] at H
        by_cases c9 : x35_3 = true
        · subst c9
          have H1 : ((impl_WordTwo.f kj3 12 t191 t192 t193).bind fun bt196 => (some (!bt196.2.2))) = some r := by rw [if_pos rfl] at H; exact H
          clear H
          have H := H1
          clear H1
          replace H := Option.bind_eq_some_iff.mp H
          obtain ⟨⟨t196, t197, t198⟩, A100, H⟩ := H
          replace H : (some (!t198)) = some r := H
          have A10 := Aside0.mk A100
          clear A100
          obtain rfl := Option.some.inj H
          go_wp2_with (first | ((with_reducible refine gate_callee (f := 18) rfl ?_); refine goesL_ (some 40) rfl rfl Try.func18 (by kernel_rfl) rfl #[.int .i64 12, .int .i64 t191, .int .i64 t192, .int .i64 t193] rfl (by (try simp only [List.map_toArray, List.map_cons, List.map_nil]); first | done | rfl | (simp only [List.length_drop, List.length_take]; rfl)) ?_; (with_reducible refine (impl_WordTwo.calls kj3 12 t191 t192 t193 t196 t197 t198 _ A10.out).mono ?_); rintro e w11 ⟨rfl, hb⟩; refine ⟨_, rfl, ?_⟩; have n0_ := Aside0.mk (below_step (by repeat (first | (with_reducible first | exact HB.out | apply below_alloc | apply pw_below_drewN | apply below_drew1) | exact HB.out)) hb); clear HB; have HB := n0_; clear n0_; (try clear hb); (try clear hb2); (try clear hk); (try clear hi)))
          go_ret
          exact ⟨by first | rfl | (simp [errW_none, errW_some] <;> rfl) | (simp [*, errW_none, errW_some] <;> rfl), by repeat (first | (with_reducible first | exact HB.out | apply below_alloc | apply pw_below_drewN | apply below_drew1) | exact HB.out)⟩
        · replace c9 := Bool.eq_false_iff.mpr c9
          subst c9
          have H1 : ((laws_ldTwo.f kj3 12 t191 t192 t193).bind fun t199 => ((laws_ldTwo.f kj3 13 t191 t192 t193).bind fun t200 => ((laws_ldTwo.f kj3 14 t191 t192 t193).bind fun t201 => ((laws_ldTwo.f kj3 15 t191 t192 t193).bind fun t202 => (if t193 = 0 then (if 0 ≤ (IntKind.u64.wrap (t191)) then (if t199 = (wrap64 ((shl .i64 1 (IntKind.u64.wrap (t191))) - 1)) then (if t200 = t192 then (some (t202 == t192)) else (some false)) else (some false)) else (none)) else ((impl_WordSigned.f t191 t202).bind fun t203 => ((impl_WordSigned.f t191 t193).bind fun t204 => (if t203 < 0 then (laws_FnDivide.j1 kj3 t191 t192 t193 t199 t200 t201 t202 (wrap64 (-t203)) t204) else (laws_FnDivide.j1 kj3 t191 t192 t193 t199 t200 t201 t202 t203 t204))))))))) = some r := by rw [if_neg (show ¬ (false = true) by decide)] at H; exact H
          clear H
          have H := H1
          clear H1
          replace H := Option.bind_eq_some_iff.mp H
          obtain ⟨t199, A120, H⟩ := H
          replace H : ((laws_ldTwo.f kj3 13 t191 t192 t193).bind fun t200 => ((laws_ldTwo.f kj3 14 t191 t192 t193).bind fun t201 => ((laws_ldTwo.f kj3 15 t191 t192 t193).bind fun t202 => (if t193 = 0 then (if 0 ≤ (IntKind.u64.wrap (t191)) then (if t199 = (wrap64 ((shl .i64 1 (IntKind.u64.wrap (t191))) - 1)) then (if t200 = t192 then (some (t202 == t192)) else (some false)) else (some false)) else (none)) else ((impl_WordSigned.f t191 t202).bind fun t203 => ((impl_WordSigned.f t191 t193).bind fun t204 => (if t203 < 0 then (laws_FnDivide.j1 kj3 t191 t192 t193 t199 t200 t201 t202 (wrap64 (-t203)) t204) else (laws_FnDivide.j1 kj3 t191 t192 t193 t199 t200 t201 t202 t203 t204)))))))) = some r := H
          have A12 := Aside0.mk A120
          clear A120
          replace H := Option.bind_eq_some_iff.mp H
          obtain ⟨t200, A130, H⟩ := H
          replace H : ((laws_ldTwo.f kj3 14 t191 t192 t193).bind fun t201 => ((laws_ldTwo.f kj3 15 t191 t192 t193).bind fun t202 => (if t193 = 0 then (if 0 ≤ (IntKind.u64.wrap (t191)) then (if t199 = (wrap64 ((shl .i64 1 (IntKind.u64.wrap (t191))) - 1)) then (if t200 = t192 then (some (t202 == t192)) else (some false)) else (some false)) else (none)) else ((impl_WordSigned.f t191 t202).bind fun t203 => ((impl_WordSigned.f t191 t193).bind fun t204 => (if t203 < 0 then (laws_FnDivide.j1 kj3 t191 t192 t193 t199 t200 t201 t202 (wrap64 (-t203)) t204) else (laws_FnDivide.j1 kj3 t191 t192 t193 t199 t200 t201 t202 t203 t204))))))) = some r := H
          have A13 := Aside0.mk A130
          clear A130
          replace H := Option.bind_eq_some_iff.mp H
          obtain ⟨t201, A140, H⟩ := H
          replace H : ((laws_ldTwo.f kj3 15 t191 t192 t193).bind fun t202 => (if t193 = 0 then (if 0 ≤ (IntKind.u64.wrap (t191)) then (if t199 = (wrap64 ((shl .i64 1 (IntKind.u64.wrap (t191))) - 1)) then (if t200 = t192 then (some (t202 == t192)) else (some false)) else (some false)) else (none)) else ((impl_WordSigned.f t191 t202).bind fun t203 => ((impl_WordSigned.f t191 t193).bind fun t204 => (if t203 < 0 then (laws_FnDivide.j1 kj3 t191 t192 t193 t199 t200 t201 t202 (wrap64 (-t203)) t204) else (laws_FnDivide.j1 kj3 t191 t192 t193 t199 t200 t201 t202 t203 t204)))))) = some r := H
          have A14 := Aside0.mk A140
          clear A140
          replace H := Option.bind_eq_some_iff.mp H
          obtain ⟨t202, A150, H⟩ := H
          replace H : (if t193 = 0 then (if 0 ≤ (IntKind.u64.wrap (t191)) then (if t199 = (wrap64 ((shl .i64 1 (IntKind.u64.wrap (t191))) - 1)) then (if t200 = t192 then (some (t202 == t192)) else (some false)) else (some false)) else (none)) else ((impl_WordSigned.f t191 t202).bind fun t203 => ((impl_WordSigned.f t191 t193).bind fun t204 => (if t203 < 0 then (laws_FnDivide.j1 kj3 t191 t192 t193 t199 t200 t201 t202 (wrap64 (-t203)) t204) else (laws_FnDivide.j1 kj3 t191 t192 t193 t199 t200 t201 t202 t203 t204))))) = some r := H
          have A15 := Aside0.mk A150
          clear A150
          by_cases c16 : t193 = 0
          · rw [if_pos c16] at H
            have c16b0 : (t193 == 0) = true := beq_iff_eq.mpr c16
            have c16b1 : (t193 != 0) = false := bne_eq_false_iff_eq.mpr c16
            clear c16
            obtain ⟨ji17, hji17⟩ : ∃ j_ : Int, (IntKind.u64.wrap (t191)) = j_ := ⟨_, rfl⟩
            replace H : (if 0 ≤ (ji17) then (if t199 = (wrap64 ((shl .i64 1 (ji17)) - 1)) then (if t200 = t192 then (some (t202 == t192)) else (some false)) else (some false)) else (none)) = some r := by first | (rw [hji17] at H; exact H) | (simp only [hji17] at H ⊢; exact H)
            (try rw [hji17] at A12)
            (try rw [hji17] at A13)
            (try rw [hji17] at A14)
            (try rw [hji17] at A15)
            by_cases c18 : 0 ≤ (ji17)
            · rw [if_pos c18] at H
              have c18b0 := eq_true c18
              have c18b1 : decide (0 ≤ (ji17)) = true := decide_eq_true c18
              clear c18
              obtain ⟨ji19, hji19⟩ : ∃ j_ : Int, (shl .i64 1 (ji17)) = j_ := ⟨_, rfl⟩
              replace H : (if t199 = (wrap64 ((ji19) - 1)) then (if t200 = t192 then (some (t202 == t192)) else (some false)) else (some false)) = some r := by first | (rw [hji19] at H; exact H) | (simp only [hji19] at H ⊢; exact H)
              (try rw [hji19] at A12)
              (try rw [hji19] at A13)
              (try rw [hji19] at A14)
              (try rw [hji19] at A15)
              have hji19_ : (IntKind.i64.wrap (1 * 2 ^ min (ji17).toNat 64)) = ji19 := hji19
              have hji19z : (ji17) ≤ 64 → (IntKind.i64.wrap (1 * 2 ^ (ji17).toNat)) = ji19 := shl_small hji19
              have hji19u : (IntKind.i64.wrap (2 ^ min (ji17).toNat 64)) = ji19 := by have h_ := hji19_; rw [Int.one_mul] at h_; exact h_
              have hji19v : (ji17) ≤ 64 → (IntKind.i64.wrap (2 ^ (ji17).toNat)) = ji19 := fun hle_ => by have h_ := hji19z hle_; rw [Int.one_mul] at h_; exact h_
              have hji19y : (wrap64 (1 * 2 ^ min (ji17).toNat 64)) = ji19 := (i64_w _).symm.trans hji19_
              have hji19x : (ji17) ≤ 64 → (wrap64 (1 * 2 ^ (ji17).toNat)) = ji19 := fun h_ => (i64_w _).symm.trans (hji19z h_)
              by_cases c20 : t199 = (wrap64 ((ji19) - 1))
              · rw [if_pos c20] at H
                have c20b0 : (t199 == (wrap64 ((ji19) - 1))) = true := beq_iff_eq.mpr c20
                have c20b1 : (t199 != (wrap64 ((ji19) - 1))) = false := bne_eq_false_iff_eq.mpr c20
                clear c20
                by_cases c21 : t200 = t192
                · rw [if_pos c21] at H
                  have c21b0 : (t200 == t192) = true := beq_iff_eq.mpr c21
                  have c21b1 : (t200 != t192) = false := bne_eq_false_iff_eq.mpr c21
                  clear c21
                  obtain rfl := Option.some.inj H
                  go_wp2_with (first | ((with_reducible refine gate_callee (f := 19) rfl ?_); refine goesL_ (some 49) rfl rfl Try.func19 (by kernel_rfl) rfl #[.int .i64 12, .int .i64 t191, .int .i64 t192, .int .i64 t193] rfl (by (try simp only [List.map_toArray, List.map_cons, List.map_nil]); first | done | rfl | (simp only [List.length_drop, List.length_take]; rfl)) ?_; (with_reducible refine (laws_ldTwo.calls kj3 12 t191 t192 t193 t199 _ A12.out).mono ?_); rintro e w22 ⟨rfl, hb⟩; refine ⟨_, rfl, ?_⟩; have n0_ := Aside0.mk (below_step (by repeat (first | (with_reducible first | exact HB.out | apply below_alloc | apply pw_below_drewN | apply below_drew1) | exact HB.out)) hb); clear HB; have HB := n0_; clear n0_; (try clear hb); (try clear hb2); (try clear hk); (try clear hi)) | ((with_reducible refine gate_callee (f := 19) rfl ?_); refine goesL_ (some 53) rfl rfl Try.func19 (by kernel_rfl) rfl #[.int .i64 13, .int .i64 t191, .int .i64 t192, .int .i64 t193] rfl (by (try simp only [List.map_toArray, List.map_cons, List.map_nil]); first | done | rfl | (simp only [List.length_drop, List.length_take]; rfl)) ?_; (with_reducible refine (laws_ldTwo.calls kj3 13 t191 t192 t193 t200 _ A13.out).mono ?_); rintro e w23 ⟨rfl, hb⟩; refine ⟨_, rfl, ?_⟩; have n0_ := Aside0.mk (below_step (by repeat (first | (with_reducible first | exact HB.out | apply below_alloc | apply pw_below_drewN | apply below_drew1) | exact HB.out)) hb); clear HB; have HB := n0_; clear n0_; (try clear hb); (try clear hb2); (try clear hk); (try clear hi)) | ((with_reducible refine gate_callee (f := 19) rfl ?_); refine goesL_ (some 57) rfl rfl Try.func19 (by kernel_rfl) rfl #[.int .i64 14, .int .i64 t191, .int .i64 t192, .int .i64 t193] rfl (by (try simp only [List.map_toArray, List.map_cons, List.map_nil]); first | done | rfl | (simp only [List.length_drop, List.length_take]; rfl)) ?_; (with_reducible refine (laws_ldTwo.calls kj3 14 t191 t192 t193 t201 _ A14.out).mono ?_); rintro e w24 ⟨rfl, hb⟩; refine ⟨_, rfl, ?_⟩; have n0_ := Aside0.mk (below_step (by repeat (first | (with_reducible first | exact HB.out | apply below_alloc | apply pw_below_drewN | apply below_drew1) | exact HB.out)) hb); clear HB; have HB := n0_; clear n0_; (try clear hb); (try clear hb2); (try clear hk); (try clear hi)) | ((with_reducible refine gate_callee (f := 19) rfl ?_); refine goesL_ (some 61) rfl rfl Try.func19 (by kernel_rfl) rfl #[.int .i64 15, .int .i64 t191, .int .i64 t192, .int .i64 t193] rfl (by (try simp only [List.map_toArray, List.map_cons, List.map_nil]); first | done | rfl | (simp only [List.length_drop, List.length_take]; rfl)) ?_; (with_reducible refine (laws_ldTwo.calls kj3 15 t191 t192 t193 t202 _ A15.out).mono ?_); rintro e w25 ⟨rfl, hb⟩; refine ⟨_, rfl, ?_⟩; have n0_ := Aside0.mk (below_step (by repeat (first | (with_reducible first | exact HB.out | apply below_alloc | apply pw_below_drewN | apply below_drew1) | exact HB.out)) hb); clear HB; have HB := n0_; clear n0_; (try clear hb); (try clear hb2); (try clear hk); (try clear hi)))
                  go_ret
                  exact ⟨by first | rfl | (simp [errW_none, errW_some] <;> rfl) | (simp only [← hji17, ← hji19]; first | rfl | (simp [errW_none, errW_some] <;> rfl)) | (simp [*, errW_none, errW_some] <;> rfl), by repeat (first | (with_reducible first | exact HB.out | apply below_alloc | apply pw_below_drewN | apply below_drew1) | exact HB.out)⟩
                · rw [if_neg c21] at H
                  have c21b0 : (t200 == t192) = false := beq_eq_false_iff_ne.mpr c21
                  have c21b1 : (t200 != t192) = true := bne_iff_ne.mpr c21
                  obtain rfl := Option.some.inj H
                  go_wp2_with (first | ((with_reducible refine gate_callee (f := 19) rfl ?_); refine goesL_ (some 49) rfl rfl Try.func19 (by kernel_rfl) rfl #[.int .i64 12, .int .i64 t191, .int .i64 t192, .int .i64 t193] rfl (by (try simp only [List.map_toArray, List.map_cons, List.map_nil]); first | done | rfl | (simp only [List.length_drop, List.length_take]; rfl)) ?_; (with_reducible refine (laws_ldTwo.calls kj3 12 t191 t192 t193 t199 _ A12.out).mono ?_); rintro e w26 ⟨rfl, hb⟩; refine ⟨_, rfl, ?_⟩; have n0_ := Aside0.mk (below_step (by repeat (first | (with_reducible first | exact HB.out | apply below_alloc | apply pw_below_drewN | apply below_drew1) | exact HB.out)) hb); clear HB; have HB := n0_; clear n0_; (try clear hb); (try clear hb2); (try clear hk); (try clear hi)) | ((with_reducible refine gate_callee (f := 19) rfl ?_); refine goesL_ (some 53) rfl rfl Try.func19 (by kernel_rfl) rfl #[.int .i64 13, .int .i64 t191, .int .i64 t192, .int .i64 t193] rfl (by (try simp only [List.map_toArray, List.map_cons, List.map_nil]); first | done | rfl | (simp only [List.length_drop, List.length_take]; rfl)) ?_; (with_reducible refine (laws_ldTwo.calls kj3 13 t191 t192 t193 t200 _ A13.out).mono ?_); rintro e w27 ⟨rfl, hb⟩; refine ⟨_, rfl, ?_⟩; have n0_ := Aside0.mk (below_step (by repeat (first | (with_reducible first | exact HB.out | apply below_alloc | apply pw_below_drewN | apply below_drew1) | exact HB.out)) hb); clear HB; have HB := n0_; clear n0_; (try clear hb); (try clear hb2); (try clear hk); (try clear hi)) | ((with_reducible refine gate_callee (f := 19) rfl ?_); refine goesL_ (some 57) rfl rfl Try.func19 (by kernel_rfl) rfl #[.int .i64 14, .int .i64 t191, .int .i64 t192, .int .i64 t193] rfl (by (try simp only [List.map_toArray, List.map_cons, List.map_nil]); first | done | rfl | (simp only [List.length_drop, List.length_take]; rfl)) ?_; (with_reducible refine (laws_ldTwo.calls kj3 14 t191 t192 t193 t201 _ A14.out).mono ?_); rintro e w28 ⟨rfl, hb⟩; refine ⟨_, rfl, ?_⟩; have n0_ := Aside0.mk (below_step (by repeat (first | (with_reducible first | exact HB.out | apply below_alloc | apply pw_below_drewN | apply below_drew1) | exact HB.out)) hb); clear HB; have HB := n0_; clear n0_; (try clear hb); (try clear hb2); (try clear hk); (try clear hi)) | ((with_reducible refine gate_callee (f := 19) rfl ?_); refine goesL_ (some 61) rfl rfl Try.func19 (by kernel_rfl) rfl #[.int .i64 15, .int .i64 t191, .int .i64 t192, .int .i64 t193] rfl (by (try simp only [List.map_toArray, List.map_cons, List.map_nil]); first | done | rfl | (simp only [List.length_drop, List.length_take]; rfl)) ?_; (with_reducible refine (laws_ldTwo.calls kj3 15 t191 t192 t193 t202 _ A15.out).mono ?_); rintro e w29 ⟨rfl, hb⟩; refine ⟨_, rfl, ?_⟩; have n0_ := Aside0.mk (below_step (by repeat (first | (with_reducible first | exact HB.out | apply below_alloc | apply pw_below_drewN | apply below_drew1) | exact HB.out)) hb); clear HB; have HB := n0_; clear n0_; (try clear hb); (try clear hb2); (try clear hk); (try clear hi)))
                  go_ret
                  exact ⟨by first | rfl | (simp [errW_none, errW_some] <;> rfl) | (simp only [← hji17, ← hji19]; first | rfl | (simp [errW_none, errW_some] <;> rfl)) | (simp [*, errW_none, errW_some] <;> rfl), by repeat (first | (with_reducible first | exact HB.out | apply below_alloc | apply pw_below_drewN | apply below_drew1) | exact HB.out)⟩
              · rw [if_neg c20] at H
                have c20b0 : (t199 == (wrap64 ((ji19) - 1))) = false := beq_eq_false_iff_ne.mpr c20
                have c20b1 : (t199 != (wrap64 ((ji19) - 1))) = true := bne_iff_ne.mpr c20
                obtain rfl := Option.some.inj H
                go_wp2_with (first | ((with_reducible refine gate_callee (f := 19) rfl ?_); refine goesL_ (some 49) rfl rfl Try.func19 (by kernel_rfl) rfl #[.int .i64 12, .int .i64 t191, .int .i64 t192, .int .i64 t193] rfl (by (try simp only [List.map_toArray, List.map_cons, List.map_nil]); first | done | rfl | (simp only [List.length_drop, List.length_take]; rfl)) ?_; (with_reducible refine (laws_ldTwo.calls kj3 12 t191 t192 t193 t199 _ A12.out).mono ?_); rintro e w30 ⟨rfl, hb⟩; refine ⟨_, rfl, ?_⟩; have n0_ := Aside0.mk (below_step (by repeat (first | (with_reducible first | exact HB.out | apply below_alloc | apply pw_below_drewN | apply below_drew1) | exact HB.out)) hb); clear HB; have HB := n0_; clear n0_; (try clear hb); (try clear hb2); (try clear hk); (try clear hi)) | ((with_reducible refine gate_callee (f := 19) rfl ?_); refine goesL_ (some 53) rfl rfl Try.func19 (by kernel_rfl) rfl #[.int .i64 13, .int .i64 t191, .int .i64 t192, .int .i64 t193] rfl (by (try simp only [List.map_toArray, List.map_cons, List.map_nil]); first | done | rfl | (simp only [List.length_drop, List.length_take]; rfl)) ?_; (with_reducible refine (laws_ldTwo.calls kj3 13 t191 t192 t193 t200 _ A13.out).mono ?_); rintro e w31 ⟨rfl, hb⟩; refine ⟨_, rfl, ?_⟩; have n0_ := Aside0.mk (below_step (by repeat (first | (with_reducible first | exact HB.out | apply below_alloc | apply pw_below_drewN | apply below_drew1) | exact HB.out)) hb); clear HB; have HB := n0_; clear n0_; (try clear hb); (try clear hb2); (try clear hk); (try clear hi)) | ((with_reducible refine gate_callee (f := 19) rfl ?_); refine goesL_ (some 57) rfl rfl Try.func19 (by kernel_rfl) rfl #[.int .i64 14, .int .i64 t191, .int .i64 t192, .int .i64 t193] rfl (by (try simp only [List.map_toArray, List.map_cons, List.map_nil]); first | done | rfl | (simp only [List.length_drop, List.length_take]; rfl)) ?_; (with_reducible refine (laws_ldTwo.calls kj3 14 t191 t192 t193 t201 _ A14.out).mono ?_); rintro e w32 ⟨rfl, hb⟩; refine ⟨_, rfl, ?_⟩; have n0_ := Aside0.mk (below_step (by repeat (first | (with_reducible first | exact HB.out | apply below_alloc | apply pw_below_drewN | apply below_drew1) | exact HB.out)) hb); clear HB; have HB := n0_; clear n0_; (try clear hb); (try clear hb2); (try clear hk); (try clear hi)) | ((with_reducible refine gate_callee (f := 19) rfl ?_); refine goesL_ (some 61) rfl rfl Try.func19 (by kernel_rfl) rfl #[.int .i64 15, .int .i64 t191, .int .i64 t192, .int .i64 t193] rfl (by (try simp only [List.map_toArray, List.map_cons, List.map_nil]); first | done | rfl | (simp only [List.length_drop, List.length_take]; rfl)) ?_; (with_reducible refine (laws_ldTwo.calls kj3 15 t191 t192 t193 t202 _ A15.out).mono ?_); rintro e w33 ⟨rfl, hb⟩; refine ⟨_, rfl, ?_⟩; have n0_ := Aside0.mk (below_step (by repeat (first | (with_reducible first | exact HB.out | apply below_alloc | apply pw_below_drewN | apply below_drew1) | exact HB.out)) hb); clear HB; have HB := n0_; clear n0_; (try clear hb); (try clear hb2); (try clear hk); (try clear hi)))
                go_ret
                exact ⟨by first | rfl | (simp [errW_none, errW_some] <;> rfl) | (simp only [← hji17, ← hji19]; first | rfl | (simp [errW_none, errW_some] <;> rfl)) | (simp [*, errW_none, errW_some] <;> rfl), by repeat (first | (with_reducible first | exact HB.out | apply below_alloc | apply pw_below_drewN | apply below_drew1) | exact HB.out)⟩
            · rw [if_neg c18] at H
              exact absurd H (by simp)
          · rw [if_neg c16] at H
            have c16b0 : (t193 == 0) = false := beq_eq_false_iff_ne.mpr c16
            have c16b1 : (t193 != 0) = true := bne_iff_ne.mpr c16
            replace H := Option.bind_eq_some_iff.mp H
            obtain ⟨t203, A340, H⟩ := H
            replace H : ((impl_WordSigned.f t191 t193).bind fun t204 => (if t203 < 0 then (laws_FnDivide.j1 kj3 t191 t192 t193 t199 t200 t201 t202 (wrap64 (-t203)) t204) else (laws_FnDivide.j1 kj3 t191 t192 t193 t199 t200 t201 t202 t203 t204))) = some r := H
            have A34 := Aside0.mk A340
            clear A340
            replace H := Option.bind_eq_some_iff.mp H
            obtain ⟨t204, A350, H⟩ := H
            replace H : (if t203 < 0 then (laws_FnDivide.j1 kj3 t191 t192 t193 t199 t200 t201 t202 (wrap64 (-t203)) t204) else (laws_FnDivide.j1 kj3 t191 t192 t193 t199 t200 t201 t202 t203 t204)) = some r := H
            have A35 := Aside0.mk A350
            clear A350
            have HC36 := Aside0.mk H
            clear H
            go_upto_if 87 with (first | ((with_reducible refine gate_callee (f := 19) rfl ?_); refine goesL_ (some 49) rfl rfl Try.func19 (by kernel_rfl) rfl #[.int .i64 12, .int .i64 t191, .int .i64 t192, .int .i64 t193] rfl (by (try simp only [List.map_toArray, List.map_cons, List.map_nil]); first | done | rfl | (simp only [List.length_drop, List.length_take]; rfl)) ?_; (with_reducible refine (laws_ldTwo.calls kj3 12 t191 t192 t193 t199 _ A12.out).mono ?_); rintro e w37 ⟨rfl, hb⟩; refine ⟨_, rfl, ?_⟩; have n0_ := Aside0.mk (below_step (by repeat (first | (with_reducible first | exact HB.out | apply below_alloc | apply pw_below_drewN | apply below_drew1) | exact HB.out)) hb); clear HB; have HB := n0_; clear n0_; (try clear hb); (try clear hb2); (try clear hk); (try clear hi)) | ((with_reducible refine gate_callee (f := 19) rfl ?_); refine goesL_ (some 53) rfl rfl Try.func19 (by kernel_rfl) rfl #[.int .i64 13, .int .i64 t191, .int .i64 t192, .int .i64 t193] rfl (by (try simp only [List.map_toArray, List.map_cons, List.map_nil]); first | done | rfl | (simp only [List.length_drop, List.length_take]; rfl)) ?_; (with_reducible refine (laws_ldTwo.calls kj3 13 t191 t192 t193 t200 _ A13.out).mono ?_); rintro e w38 ⟨rfl, hb⟩; refine ⟨_, rfl, ?_⟩; have n0_ := Aside0.mk (below_step (by repeat (first | (with_reducible first | exact HB.out | apply below_alloc | apply pw_below_drewN | apply below_drew1) | exact HB.out)) hb); clear HB; have HB := n0_; clear n0_; (try clear hb); (try clear hb2); (try clear hk); (try clear hi)) | ((with_reducible refine gate_callee (f := 19) rfl ?_); refine goesL_ (some 57) rfl rfl Try.func19 (by kernel_rfl) rfl #[.int .i64 14, .int .i64 t191, .int .i64 t192, .int .i64 t193] rfl (by (try simp only [List.map_toArray, List.map_cons, List.map_nil]); first | done | rfl | (simp only [List.length_drop, List.length_take]; rfl)) ?_; (with_reducible refine (laws_ldTwo.calls kj3 14 t191 t192 t193 t201 _ A14.out).mono ?_); rintro e w39 ⟨rfl, hb⟩; refine ⟨_, rfl, ?_⟩; have n0_ := Aside0.mk (below_step (by repeat (first | (with_reducible first | exact HB.out | apply below_alloc | apply pw_below_drewN | apply below_drew1) | exact HB.out)) hb); clear HB; have HB := n0_; clear n0_; (try clear hb); (try clear hb2); (try clear hk); (try clear hi)) | ((with_reducible refine gate_callee (f := 19) rfl ?_); refine goesL_ (some 61) rfl rfl Try.func19 (by kernel_rfl) rfl #[.int .i64 15, .int .i64 t191, .int .i64 t192, .int .i64 t193] rfl (by (try simp only [List.map_toArray, List.map_cons, List.map_nil]); first | done | rfl | (simp only [List.length_drop, List.length_take]; rfl)) ?_; (with_reducible refine (laws_ldTwo.calls kj3 15 t191 t192 t193 t202 _ A15.out).mono ?_); rintro e w40 ⟨rfl, hb⟩; refine ⟨_, rfl, ?_⟩; have n0_ := Aside0.mk (below_step (by repeat (first | (with_reducible first | exact HB.out | apply below_alloc | apply pw_below_drewN | apply below_drew1) | exact HB.out)) hb); clear HB; have HB := n0_; clear n0_; (try clear hb); (try clear hb2); (try clear hk); (try clear hi)) | ((with_reducible refine gate_callee (f := 15) rfl ?_); refine goesL_ (some 82) rfl rfl Try.func15 (by kernel_rfl) rfl #[.int .i64 t191, .int .i64 t202] rfl (by (try simp only [List.map_toArray, List.map_cons, List.map_nil]); first | done | rfl | (simp only [List.length_drop, List.length_take]; rfl)) ?_; (with_reducible refine (impl_WordSigned.calls t191 t202 t203 _ A34.out).mono ?_); rintro e w' ⟨rfl, ⟨nd, rfl⟩⟩; refine ⟨_, rfl, ?_⟩) | ((with_reducible refine gate_callee (f := 15) rfl ?_); refine goesL_ (some 85) rfl rfl Try.func15 (by kernel_rfl) rfl #[.int .i64 t191, .int .i64 t193] rfl (by (try simp only [List.map_toArray, List.map_cons, List.map_nil]); first | done | rfl | (simp only [List.length_drop, List.length_take]; rfl)) ?_; (with_reducible refine (impl_WordSigned.calls t191 t193 t204 _ A35.out).mono ?_); rintro e w' ⟨rfl, ⟨nd, rfl⟩⟩; refine ⟨_, rfl, ?_⟩))
            (try simp only [Act.put, List.setIfInBounds_toArray, List.set_cons_zero, List.set_cons_succ])
            go_cut [14] (fun v14 wc => ∃ (kq : Nat) (x14_35 : Int), v14 = .int .i64 x14_35 ∧ Aside0 (laws_FnDivide.j1 kq t191 t192 t193 t199 t200 t201 t202 x14_35 t204 = some r) ∧ Aside0 (kq ≤ kj3) ∧ Aside0 (Below w.heap.size w wc))
            case first =>
              have H := HC36.out
              clear HC36
              by_cases c41 : t203 < 0
              · rw [if_pos c41] at H
                have c41b0 : decide (t203 < 0) = true := decide_eq_true c41
                clear c41
                (first | rw [c41b0] | (simp only [i64_w, i32_w]; rw [c41b0]) | skip)
                have H' := Aside0.mk H
                clear H
                go_wp2
                go_meet
                case rel => exact ⟨_, (wrap64 (-t203)), (by first | rfl | (simp; done) | (simp [*]; done) | (exfalso; simp only [beq_iff_eq] at *; omega)), H', ⟨by have := HJ3.out; first | omega | exact Nat.le_refl _⟩, ⟨by repeat (first | (with_reducible first | exact HB.out | apply below_alloc | apply pw_below_drewN | apply below_drew1) | exact HB.out)⟩⟩
              · rw [if_neg c41] at H
                have c41b0 : decide (t203 < 0) = false := decide_eq_false c41
                clear c41
                (first | rw [c41b0] | (simp only [i64_w, i32_w]; rw [c41b0]) | skip)
                have H' := Aside0.mk H
                clear H
                go_wp2
                go_meet
                case rel => exact ⟨_, (t203), (by first | rfl | (simp; done) | (simp [*]; done) | (exfalso; simp only [beq_iff_eq] at *; omega)), H', ⟨by have := HJ3.out; first | omega | exact Nat.le_refl _⟩, ⟨by repeat (first | (with_reducible first | exact HB.out | apply below_alloc | apply pw_below_drewN | apply below_drew1) | exact HB.out)⟩⟩
            case rest =>
              clear HC36
              try clear c1
              try clear c2
              try clear c2b0
              try clear c2b1
              try clear p2
              try clear c4
              try clear p6
              try clear c7
              try clear c9
              try clear c15
              try clear c16
              try clear c16b0
              try clear c16b1
              try clear c17
              try clear c18
              try clear c18b0
              try clear c18b1
              try clear c19
              try clear c20
              try clear c20b0
              try clear c20b1
              try clear c21
              try clear c21b0
              try clear c21b1
              try clear c41
              try clear c41b0
              try clear p2
              obtain ⟨kq, x14_35, rfl, HA, HJ35, HB⟩ := hcut
              cases kq with
              | zero => exact absurd HA.out (by simp [laws_FnDivide.j1])
              | succ kj35 =>
                have H := HA.out
                clear HA
                simp only [laws_FnDivide.j1] at H
                by_cases c42 : t204 < 0
                · rw [if_pos c42] at H
                  have c42b0 : decide (t204 < 0) = true := decide_eq_true c42
                  clear c42
                  by_cases c43 : (wrap64 ((wrap64 (t199 * t193)) + t200)) = t192
                  · rw [if_pos c43] at H
                    have c43b0 : ((wrap64 ((wrap64 (t199 * t193)) + t200)) == t192) = true := beq_iff_eq.mpr c43
                    have c43b1 : ((wrap64 ((wrap64 (t199 * t193)) + t200)) != t192) = false := bne_eq_false_iff_eq.mpr c43
                    clear c43
                    by_cases c44 : t200 < t193
                    · rw [if_pos c44] at H
                      have c44b0 : decide (t200 < t193) = true := decide_eq_true c44
                      clear c44
                      replace H := Option.bind_eq_some_iff.mp H
                      obtain ⟨t205, A450, H⟩ := H
                      replace H : ((laws_ldTwo.f kj35 9 t191 t205 t202).bind fun t206 => (if t206 = t192 then (some (decide (x14_35 < (wrap64 (-t204))))) else (some false))) = some r := H
                      have A45 := Aside0.mk A450
                      clear A450
                      replace H := Option.bind_eq_some_iff.mp H
                      obtain ⟨t206, A460, H⟩ := H
                      replace H : (if t206 = t192 then (some (decide (x14_35 < (wrap64 (-t204))))) else (some false)) = some r := H
                      have A46 := Aside0.mk A460
                      clear A460
                      by_cases c47 : t206 = t192
                      · rw [if_pos c47] at H
                        have c47b0 : (t206 == t192) = true := beq_iff_eq.mpr c47
                        have c47b1 : (t206 != t192) = false := bne_eq_false_iff_eq.mpr c47
                        clear c47
                        obtain rfl := Option.some.inj H
                        go_wp2_with (first | (go_at_call 19; (with_reducible refine (laws_ldTwo.calls kj35 11 t191 t201 t193 t205 _ A45.out).mono ?_); rintro e w48 ⟨rfl, hb⟩; have n0_ := Aside0.mk (below_step (by repeat (first | (with_reducible first | exact HB.out | apply below_alloc | apply pw_below_drewN | apply below_drew1) | exact HB.out)) hb); clear HB; have HB := n0_; clear n0_; (try clear hb); (try clear hb2); (try clear hk); (try clear hi)) | (go_at_call 19; (with_reducible refine (laws_ldTwo.calls kj35 9 t191 t205 t202 t206 _ A46.out).mono ?_); rintro e w49 ⟨rfl, hb⟩; have n0_ := Aside0.mk (below_step (by repeat (first | (with_reducible first | exact HB.out | apply below_alloc | apply pw_below_drewN | apply below_drew1) | exact HB.out)) hb); clear HB; have HB := n0_; clear n0_; (try clear hb); (try clear hb2); (try clear hk); (try clear hi)))
                        go_ret
                        exact ⟨by first | rfl | (simp [errW_none, errW_some] <;> rfl) | (simp [*, errW_none, errW_some] <;> rfl), by repeat (first | (with_reducible first | exact HB.out | apply below_alloc | apply pw_below_drewN | apply below_drew1) | exact HB.out)⟩
                      · rw [if_neg c47] at H
                        have c47b0 : (t206 == t192) = false := beq_eq_false_iff_ne.mpr c47
                        have c47b1 : (t206 != t192) = true := bne_iff_ne.mpr c47
                        obtain rfl := Option.some.inj H
                        go_wp2_with (first | (go_at_call 19; (with_reducible refine (laws_ldTwo.calls kj35 11 t191 t201 t193 t205 _ A45.out).mono ?_); rintro e w50 ⟨rfl, hb⟩; have n0_ := Aside0.mk (below_step (by repeat (first | (with_reducible first | exact HB.out | apply below_alloc | apply pw_below_drewN | apply below_drew1) | exact HB.out)) hb); clear HB; have HB := n0_; clear n0_; (try clear hb); (try clear hb2); (try clear hk); (try clear hi)) | (go_at_call 19; (with_reducible refine (laws_ldTwo.calls kj35 9 t191 t205 t202 t206 _ A46.out).mono ?_); rintro e w51 ⟨rfl, hb⟩; have n0_ := Aside0.mk (below_step (by repeat (first | (with_reducible first | exact HB.out | apply below_alloc | apply pw_below_drewN | apply below_drew1) | exact HB.out)) hb); clear HB; have HB := n0_; clear n0_; (try clear hb); (try clear hb2); (try clear hk); (try clear hi)))
                        go_ret
                        exact ⟨by first | rfl | (simp [errW_none, errW_some] <;> rfl) | (simp [*, errW_none, errW_some] <;> rfl), by repeat (first | (with_reducible first | exact HB.out | apply below_alloc | apply pw_below_drewN | apply below_drew1) | exact HB.out)⟩
                    · rw [if_neg c44] at H
                      have c44b0 : decide (t200 < t193) = false := decide_eq_false c44
                      clear c44
                      obtain rfl := Option.some.inj H
                      go_wp2
                      go_ret
                      exact ⟨by first | rfl | (simp [errW_none, errW_some] <;> rfl) | (simp [*, errW_none, errW_some] <;> rfl), by repeat (first | (with_reducible first | exact HB.out | apply below_alloc | apply pw_below_drewN | apply below_drew1) | exact HB.out)⟩
                  · rw [if_neg c43] at H
                    have c43b0 : ((wrap64 ((wrap64 (t199 * t193)) + t200)) == t192) = false := beq_eq_false_iff_ne.mpr c43
                    have c43b1 : ((wrap64 ((wrap64 (t199 * t193)) + t200)) != t192) = true := bne_iff_ne.mpr c43
                    obtain rfl := Option.some.inj H
                    go_wp2
                    go_ret
                    exact ⟨by first | rfl | (simp [errW_none, errW_some] <;> rfl) | (simp [*, errW_none, errW_some] <;> rfl), by repeat (first | (with_reducible first | exact HB.out | apply below_alloc | apply pw_below_drewN | apply below_drew1) | exact HB.out)⟩
                · rw [if_neg c42] at H
                  have c42b0 : decide (t204 < 0) = false := decide_eq_false c42
                  clear c42
                  by_cases c52 : (wrap64 ((wrap64 (t199 * t193)) + t200)) = t192
                  · rw [if_pos c52] at H
                    have c52b0 : ((wrap64 ((wrap64 (t199 * t193)) + t200)) == t192) = true := beq_iff_eq.mpr c52
                    have c52b1 : ((wrap64 ((wrap64 (t199 * t193)) + t200)) != t192) = false := bne_eq_false_iff_eq.mpr c52
                    clear c52
                    by_cases c53 : t200 < t193
                    · rw [if_pos c53] at H
                      have c53b0 : decide (t200 < t193) = true := decide_eq_true c53
                      clear c53
                      replace H := Option.bind_eq_some_iff.mp H
                      obtain ⟨t207, A540, H⟩ := H
                      replace H : ((laws_ldTwo.f kj35 9 t191 t207 t202).bind fun t208 => (if t208 = t192 then (some (decide (x14_35 < t204))) else (some false))) = some r := H
                      have A54 := Aside0.mk A540
                      clear A540
                      replace H := Option.bind_eq_some_iff.mp H
                      obtain ⟨t208, A550, H⟩ := H
                      replace H : (if t208 = t192 then (some (decide (x14_35 < t204))) else (some false)) = some r := H
                      have A55 := Aside0.mk A550
                      clear A550
                      by_cases c56 : t208 = t192
                      · rw [if_pos c56] at H
                        have c56b0 : (t208 == t192) = true := beq_iff_eq.mpr c56
                        have c56b1 : (t208 != t192) = false := bne_eq_false_iff_eq.mpr c56
                        clear c56
                        obtain rfl := Option.some.inj H
                        go_wp2_with (first | (go_at_call 19; (with_reducible refine (laws_ldTwo.calls kj35 11 t191 t201 t193 t207 _ A54.out).mono ?_); rintro e w57 ⟨rfl, hb⟩; have n0_ := Aside0.mk (below_step (by repeat (first | (with_reducible first | exact HB.out | apply below_alloc | apply pw_below_drewN | apply below_drew1) | exact HB.out)) hb); clear HB; have HB := n0_; clear n0_; (try clear hb); (try clear hb2); (try clear hk); (try clear hi)) | (go_at_call 19; (with_reducible refine (laws_ldTwo.calls kj35 9 t191 t207 t202 t208 _ A55.out).mono ?_); rintro e w58 ⟨rfl, hb⟩; have n0_ := Aside0.mk (below_step (by repeat (first | (with_reducible first | exact HB.out | apply below_alloc | apply pw_below_drewN | apply below_drew1) | exact HB.out)) hb); clear HB; have HB := n0_; clear n0_; (try clear hb); (try clear hb2); (try clear hk); (try clear hi)))
                        go_ret
                        exact ⟨by first | rfl | (simp [errW_none, errW_some] <;> rfl) | (simp [*, errW_none, errW_some] <;> rfl), by repeat (first | (with_reducible first | exact HB.out | apply below_alloc | apply pw_below_drewN | apply below_drew1) | exact HB.out)⟩
                      · rw [if_neg c56] at H
                        have c56b0 : (t208 == t192) = false := beq_eq_false_iff_ne.mpr c56
                        have c56b1 : (t208 != t192) = true := bne_iff_ne.mpr c56
                        obtain rfl := Option.some.inj H
                        go_wp2_with (first | (go_at_call 19; (with_reducible refine (laws_ldTwo.calls kj35 11 t191 t201 t193 t207 _ A54.out).mono ?_); rintro e w59 ⟨rfl, hb⟩; have n0_ := Aside0.mk (below_step (by repeat (first | (with_reducible first | exact HB.out | apply below_alloc | apply pw_below_drewN | apply below_drew1) | exact HB.out)) hb); clear HB; have HB := n0_; clear n0_; (try clear hb); (try clear hb2); (try clear hk); (try clear hi)) | (go_at_call 19; (with_reducible refine (laws_ldTwo.calls kj35 9 t191 t207 t202 t208 _ A55.out).mono ?_); rintro e w60 ⟨rfl, hb⟩; have n0_ := Aside0.mk (below_step (by repeat (first | (with_reducible first | exact HB.out | apply below_alloc | apply pw_below_drewN | apply below_drew1) | exact HB.out)) hb); clear HB; have HB := n0_; clear n0_; (try clear hb); (try clear hb2); (try clear hk); (try clear hi)))
                        go_ret
                        exact ⟨by first | rfl | (simp [errW_none, errW_some] <;> rfl) | (simp [*, errW_none, errW_some] <;> rfl), by repeat (first | (with_reducible first | exact HB.out | apply below_alloc | apply pw_below_drewN | apply below_drew1) | exact HB.out)⟩
                    · rw [if_neg c53] at H
                      have c53b0 : decide (t200 < t193) = false := decide_eq_false c53
                      clear c53
                      obtain rfl := Option.some.inj H
                      go_wp2
                      go_ret
                      exact ⟨by first | rfl | (simp [errW_none, errW_some] <;> rfl) | (simp [*, errW_none, errW_some] <;> rfl), by repeat (first | (with_reducible first | exact HB.out | apply below_alloc | apply pw_below_drewN | apply below_drew1) | exact HB.out)⟩
                  · rw [if_neg c52] at H
                    have c52b0 : ((wrap64 ((wrap64 (t199 * t193)) + t200)) == t192) = false := beq_eq_false_iff_ne.mpr c52
                    have c52b1 : ((wrap64 ((wrap64 (t199 * t193)) + t200)) != t192) = true := bne_iff_ne.mpr c52
                    obtain rfl := Option.some.inj H
                    go_wp2
                    go_ret
                    exact ⟨by first | rfl | (simp [errW_none, errW_some] <;> rfl) | (simp [*, errW_none, errW_some] <;> rfl), by repeat (first | (with_reducible first | exact HB.out | apply below_alloc | apply pw_below_drewN | apply below_drew1) | exact HB.out)⟩

/-- THE ONE PURE STATEMENT of laws_FnDivide: yours. -/
def laws_FnDivide.Pure : Prop := ∀ (l0 : List Int), l0.length ≤ maxLen → l0.length * 1 ≤ 140737488351232 → (∀ x ∈ l0, (Lit.int .u8 x).wf = true) → ∃ k, laws_FnDivide.f k l0 = some true
theorem laws_FnDivide.walk (P : laws_FnDivide.Pure) (a0 : Option Addr) (len0 cap0 : Nat) (z0 : List Int) (w : World) (w0 : (a0 = none ∧ len0 = 0 ∧ cap0 = 0 ∧ z0 = []) ∨ ∃ x, a0 = some x ∧ len0 ≤ cap0 ∧ cap0 ≤ maxLen ∧ z0.length = cap0 ∧ (∀ i, i < z0.length → w.cell? (x.add i) = some (.int .u8 (z0.getD i 0))) ∧ ∀ n ∈ z0, (Lit.int .u8 n).wf = true) (y0 : len0 * 1 ≤ 140737488351232) :
    Calls Try.prog 4 #[.slice a0 len0 cap0] w fun e w' => e = .returned (.bool true) ∧ Below w.heap.size w w' := by
  obtain ⟨l0, rfl, hr0, hm0, hw0, hc0⟩ := ReadsInt.ofRowC w0
  obtain ⟨k, h⟩ := P l0 hm0 y0 hw0
  refine (laws_FnDivide.calls k _ _ l0 true w (Kd.C_of_reads (d := (0 : Int)) (h1 := fun _ => rfl) hr0) hc0 h).mono ?_
  rintro e w' ⟨rfl, hd⟩
  exact ⟨rfl, hd⟩

end Go.Proofs.Ytohojfcpnlobjaa.PFnDivide
