-- Written by a program of this session (wip/pp).
import Derived.Test.YtohojfcpnlobjaaPFnRingx0
import Derived.Test.YtohojfcpnlobjaaPFnRingx1
import Derived.Test.YtohojfcpnlobjaaPFnRingx2
import Derived.Test.YtohojfcpnlobjaaPFnRingx3
namespace Go.Proofs.Ytohojfcpnlobjaa.PFnRing
open Go.RowKit Go.Proofs.YtohojfcpnlobjaaW.PrintWords Go.Proofs.YtohojfcpnlobjaaW.PrintLast Go.Proofs.YtohojfcpnlobjaaW.PrintMore
attribute [local go_sem] max2_int min2_int max_two min_two max_three min_three max_four min_four   -- for this text's walks alone
set_option linter.unusedVariables false
set_option linter.unusedSimpArgs false

/-! ### impl_WordOne: function 22 -/
def impl_WordOne.f (a0 : Int) (a1 : Int) (a2 : Int) : Option (Int × Int × Bool) := (impl_in.f a0 1 5).bind fun t196 => (if t196 = true then ((impl_WordOk.f a1 a2).bind fun t197 => (if t197 = true then ((impl_one.f a0 a1 a2).bind fun bt198 => (some (bt198.1, bt198.2, true))) else (some (0, 0, false)))) else (some (0, 0, false)))
set_option maxHeartbeats 8000000 in
set_option maxRecDepth 100000 in
theorem impl_WordOne.calls (a0 : Int) (a1 : Int) (a2 : Int) (r1 : Int) (r2 : Int) (r3 : Bool) (w : World) (h : impl_WordOne.f a0 a1 a2 = some (r1, r2, r3)) :
    Calls Try.prog 22 #[.int .i64 a0, .int .i64 a1, .int .i64 a2] w fun e w' => e = .returned (.tuple #[.int .i64 r1, .int .i64 r2, .bool r3]) ∧ Drawn0 w w' := by
  have H : ((impl_in.f a0 1 5).bind fun t196 => (if t196 = true then ((impl_WordOk.f a1 a2).bind fun t197 => (if t197 = true then ((impl_one.f a0 a1 a2).bind fun bt198 => (some (bt198.1, bt198.2, true))) else (some (0, 0, false)))) else (some (0, 0, false)))) = some (r1, r2, r3) := h
  clear h
  replace H := Option.bind_eq_some_iff.mp H
  obtain ⟨t196, A40, H⟩ := H
  replace H : (if t196 = true then ((impl_WordOk.f a1 a2).bind fun t197 => (if t197 = true then ((impl_one.f a0 a1 a2).bind fun bt198 => (some (bt198.1, bt198.2, true))) else (some (0, 0, false)))) else (some (0, 0, false))) = some (r1, r2, r3) := H
  have A4 := Aside0.mk A40
  clear A40
  by_cases c5 : t196 = true
  · subst c5
    have H1 : ((impl_WordOk.f a1 a2).bind fun t197 => (if t197 = true then ((impl_one.f a0 a1 a2).bind fun bt198 => (some (bt198.1, bt198.2, true))) else (some (0, 0, false)))) = some (r1, r2, r3) := by rw [if_pos rfl] at H; exact H
    clear H
    have H := H1
    clear H1
    replace H := Option.bind_eq_some_iff.mp H
    obtain ⟨t197, A60, H⟩ := H
    replace H : (if t197 = true then ((impl_one.f a0 a1 a2).bind fun bt198 => (some (bt198.1, bt198.2, true))) else (some (0, 0, false))) = some (r1, r2, r3) := H
    have A6 := Aside0.mk A60
    clear A60
    by_cases c7 : t197 = true
    · subst c7
      have H1 : ((impl_one.f a0 a1 a2).bind fun bt198 => (some (bt198.1, bt198.2, true))) = some (r1, r2, r3) := by rw [if_pos rfl] at H; exact H
      clear H
      have H := H1
      clear H1
      replace H := Option.bind_eq_some_iff.mp H
      obtain ⟨⟨t198, t199⟩, A80, H⟩ := H
      replace H : (some (t198, t199, true)) = some (r1, r2, r3) := H
      have A8 := Aside0.mk A80
      clear A80
      simp only [Option.some.injEq, Prod.mk.injEq] at H
      obtain ⟨rfl, rfl, rfl⟩ := H
      go_enter Try.func22, Try.ntmps22
      go_wp2_with (first | ((with_reducible refine gate_callee (f := 28) rfl ?_); refine goesL_ (some 12) rfl rfl Try.func28 (by kernel_rfl) rfl #[.int .i64 a0, .int .i64 1, .int .i64 5] rfl (by (try simp only [List.map_toArray, List.map_cons, List.map_nil]); first | done | rfl | (simp only [List.length_drop, List.length_take]; rfl)) ?_; (with_reducible refine (impl_in.calls a0 1 5 true _ A4.out).mono ?_); rintro e w' ⟨rfl, ⟨nd, rfl⟩⟩; refine ⟨_, rfl, ?_⟩) | (go_at_call 27; (with_reducible refine (impl_WordOk.calls a1 a2 true _ A6.out).mono ?_); rintro e w' ⟨rfl, ⟨nd, rfl⟩⟩) | ((with_reducible refine gate_callee (f := 35) rfl ?_); refine goesL_ (some 24) rfl rfl Try.func35 (by kernel_rfl) rfl #[.int .i64 a0, .int .i64 a1, .int .i64 a2] rfl (by (try simp only [List.map_toArray, List.map_cons, List.map_nil]); first | done | rfl | (simp only [List.length_drop, List.length_take]; rfl)) ?_; (with_reducible refine (impl_one.calls a0 a1 a2 t198 t199 _ A8.out).mono ?_); rintro e w' ⟨rfl, ⟨nd, rfl⟩⟩; refine ⟨_, rfl, ?_⟩))
      go_ret3
      exact ⟨by first | rfl | (simp; done) | (simp [*]; done) | (exfalso; simp only [beq_iff_eq] at *; omega), by repeat (first | exact Drawn0.refl _ | apply Drawn0.step)⟩
    · replace c7 := Bool.eq_false_iff.mpr c7
      subst c7
      have H1 : (some (0, 0, false)) = some (r1, r2, r3) := by rw [if_neg (show ¬ (false = true) by decide)] at H; exact H
      clear H
      have H := H1
      clear H1
      simp only [Option.some.injEq, Prod.mk.injEq] at H
      obtain ⟨rfl, rfl, rfl⟩ := H
      go_enter Try.func22, Try.ntmps22
      go_wp2_with (first | ((with_reducible refine gate_callee (f := 28) rfl ?_); refine goesL_ (some 12) rfl rfl Try.func28 (by kernel_rfl) rfl #[.int .i64 a0, .int .i64 1, .int .i64 5] rfl (by (try simp only [List.map_toArray, List.map_cons, List.map_nil]); first | done | rfl | (simp only [List.length_drop, List.length_take]; rfl)) ?_; (with_reducible refine (impl_in.calls a0 1 5 true _ A4.out).mono ?_); rintro e w' ⟨rfl, ⟨nd, rfl⟩⟩; refine ⟨_, rfl, ?_⟩) | (go_at_call 27; (with_reducible refine (impl_WordOk.calls a1 a2 false _ A6.out).mono ?_); rintro e w' ⟨rfl, ⟨nd, rfl⟩⟩))
      go_ret3
      exact ⟨by first | rfl | (simp; done) | (simp [*]; done) | (exfalso; simp only [beq_iff_eq] at *; omega), by repeat (first | exact Drawn0.refl _ | apply Drawn0.step)⟩
  · replace c5 := Bool.eq_false_iff.mpr c5
    subst c5
    have H1 : (some (0, 0, false)) = some (r1, r2, r3) := by rw [if_neg (show ¬ (false = true) by decide)] at H; exact H
    clear H
    have H := H1
    clear H1
    simp only [Option.some.injEq, Prod.mk.injEq] at H
    obtain ⟨rfl, rfl, rfl⟩ := H
    go_enter Try.func22, Try.ntmps22
    go_wp2_with (first | ((with_reducible refine gate_callee (f := 28) rfl ?_); refine goesL_ (some 12) rfl rfl Try.func28 (by kernel_rfl) rfl #[.int .i64 a0, .int .i64 1, .int .i64 5] rfl (by (try simp only [List.map_toArray, List.map_cons, List.map_nil]); first | done | rfl | (simp only [List.length_drop, List.length_take]; rfl)) ?_; (with_reducible refine (impl_in.calls a0 1 5 false _ A4.out).mono ?_); rintro e w' ⟨rfl, ⟨nd, rfl⟩⟩; refine ⟨_, rfl, ?_⟩))
    go_ret3
    exact ⟨by first | rfl | (simp; done) | (simp [*]; done) | (exfalso; simp only [beq_iff_eq] at *; omega), by repeat (first | exact Drawn0.refl _ | apply Drawn0.step)⟩

/-! ### laws_FnRing: function 7 -/
mutual
def laws_FnRing.j0 : Nat → List Int → List Int → Bool → Option (Bool)
  | 0, _, _, _ => none
  | k + 1, x0, x1, x32 => if x32 = true then (some true) else ((spec_DrawWordTwo.f k x0).bind fun bt200 => ((spec_DrawWordTwo.f k x1).bind fun bt204 => ((spec_WordFrom.f bt200.2.1 bt204.2.2.1).bind fun t208 => ((spec_WordOk.f bt200.2.1 bt200.2.2.1).bind fun t209 => (if t209 = true then ((spec_WordOk.f bt200.2.1 bt200.2.2.2).bind fun t210 => (laws_FnRing.j1 k bt200.2.1 bt200.2.2.1 bt200.2.2.2 t208 (!t210))) else (laws_FnRing.j1 k bt200.2.1 bt200.2.2.1 bt200.2.2.2 t208 true))))))
def laws_FnRing.j1 : Nat → Int → Int → Int → Int → Bool → Option (Bool)
  | 0, _, _, _, _, _ => none
  | k + 1, x6, x7, x8, x11, x59 => if x59 = true then ((impl_WordTwo.f k 9 x6 x7 x8).bind fun bt211 => (some (!bt211.2.2))) else ((laws_ldTwo.f k 9 x6 x7 x8).bind fun t214 => ((laws_ldTwo.f k 11 x6 x7 x8).bind fun t215 => ((laws_ldTwo.f k 11 x6 x7 x11).bind fun t216 => ((spec_WordFrom.f x6 (wrap64 (x7 + x8))).bind fun t217 => (if t214 = t217 then ((laws_ldTwo.f k 9 x6 x8 x7).bind fun t218 => (if t214 = t218 then ((laws_ldTwo.f k 11 x6 x8 x7).bind fun t219 => (if t215 = t219 then ((laws_ldTwo.f k 10 x6 t214 x8).bind fun t220 => (laws_FnRing.j2 k x6 x7 x8 x11 t215 t216 (t220 != x7))) else (laws_FnRing.j2 k x6 x7 x8 x11 t215 t216 true))) else (laws_FnRing.j2 k x6 x7 x8 x11 t215 t216 true))) else (laws_FnRing.j2 k x6 x7 x8 x11 t215 t216 true))))))
def laws_FnRing.j2 : Nat → Int → Int → Int → Int → Int → Int → Bool → Option (Bool)
  | 0, _, _, _, _, _, _, _ => none
  | k + 1, x6, x7, x8, x11, x17, x18, x112 => if x112 = true then (some false) else ((impl_WordOne.f 2 x6 x7).bind fun bt221 => ((impl_WordOne.f 1 x6 x7).bind fun bt224 => (if bt221.2.2 = true then (if bt224.2.2 = true then ((laws_ldTwo.f k 9 x6 x8 x11).bind fun t227 => ((laws_ldTwo.f k 11 x6 x7 t227).bind fun t228 => ((laws_ldTwo.f k 9 x6 x17 x18).bind fun t229 => (if t228 = t229 then ((laws_ldTwo.f k 9 x6 x7 bt221.1).bind fun t230 => (if t230 = 0 then ((laws_ldTwo.f k 9 x6 bt224.1 1).bind fun t231 => (some (t231 == bt221.1))) else (some false))) else (some false))))) else (some false)) else (some false))))
end
def laws_FnRing.f (k : Nat) (l0 : List Int) (l1 : List Int) : Option (Bool) := if (l0.length : Int) > 1048576 then (laws_FnRing.j0 k l0 l1 true) else (laws_FnRing.j0 k l0 l1 (decide ((l1.length : Int) > 1048576)))
theorem laws_FnRing.mono_l : ∀ k, (∀ y0 y1 y2, LeO (laws_FnRing.j0 k y0 y1 y2) (laws_FnRing.j0 (k + 1) y0 y1 y2)) ∧ (∀ y0 y1 y2 y3 y4, LeO (laws_FnRing.j1 k y0 y1 y2 y3 y4) (laws_FnRing.j1 (k + 1) y0 y1 y2 y3 y4)) ∧ (∀ y0 y1 y2 y3 y4 y5 y6, LeO (laws_FnRing.j2 k y0 y1 y2 y3 y4 y5 y6) (laws_FnRing.j2 (k + 1) y0 y1 y2 y3 y4 y5 y6))
  | 0 => ⟨fun _ _ _ r h => by simp [laws_FnRing.j0] at h, fun _ _ _ _ _ r h => by simp [laws_FnRing.j1] at h, fun _ _ _ _ _ _ _ r h => by simp [laws_FnRing.j2] at h⟩
  | k + 1 => by
    obtain ⟨ih0, ih1, ih2⟩ := laws_FnRing.mono_l k
    refine ⟨?_, ?_, ?_⟩
    · intro y0 y1 y2
      unfold laws_FnRing.j0
      repeat' first
      | (with_reducible exact ih0 _ _ _)
      | (with_reducible exact ih1 _ _ _ _ _)
      | (with_reducible exact ih2 _ _ _ _ _ _ _)
      | (with_reducible exact impl_WordTwo.mono _ _ _ _ _)
      | (with_reducible exact laws_ldTwo.mono _ _ _ _ _)
      | (with_reducible exact spec_DrawWordTwo.mono _ _)
      | (with_reducible exact LeO.refl _)
      | (with_reducible exact LeO.none _)
      | (with_reducible refine LeO.ite ?_ ?_)
      | (with_reducible refine LeO.bind ?_ (fun _ => ?_))
      | exact ih0 _ _ _
      | exact ih1 _ _ _ _ _
      | exact ih2 _ _ _ _ _ _ _
      | exact impl_WordTwo.mono _ _ _ _ _
      | exact laws_ldTwo.mono _ _ _ _ _
      | exact spec_DrawWordTwo.mono _ _
      | exact LeO.none _
      | refine LeO.ite ?_ ?_
      | refine LeO.bind ?_ (fun _ => ?_)
    · intro y0 y1 y2 y3 y4
      unfold laws_FnRing.j1
      repeat' first
      | (with_reducible exact ih0 _ _ _)
      | (with_reducible exact ih1 _ _ _ _ _)
      | (with_reducible exact ih2 _ _ _ _ _ _ _)
      | (with_reducible exact impl_WordTwo.mono _ _ _ _ _)
      | (with_reducible exact laws_ldTwo.mono _ _ _ _ _)
      | (with_reducible exact spec_DrawWordTwo.mono _ _)
      | (with_reducible exact LeO.refl _)
      | (with_reducible exact LeO.none _)
      | (with_reducible refine LeO.ite ?_ ?_)
      | (with_reducible refine LeO.bind ?_ (fun _ => ?_))
      | exact ih0 _ _ _
      | exact ih1 _ _ _ _ _
      | exact ih2 _ _ _ _ _ _ _
      | exact impl_WordTwo.mono _ _ _ _ _
      | exact laws_ldTwo.mono _ _ _ _ _
      | exact spec_DrawWordTwo.mono _ _
      | exact LeO.none _
      | refine LeO.ite ?_ ?_
      | refine LeO.bind ?_ (fun _ => ?_)
    · intro y0 y1 y2 y3 y4 y5 y6
      unfold laws_FnRing.j2
      repeat' first
      | (with_reducible exact ih0 _ _ _)
      | (with_reducible exact ih1 _ _ _ _ _)
      | (with_reducible exact ih2 _ _ _ _ _ _ _)
      | (with_reducible exact impl_WordTwo.mono _ _ _ _ _)
      | (with_reducible exact laws_ldTwo.mono _ _ _ _ _)
      | (with_reducible exact spec_DrawWordTwo.mono _ _)
      | (with_reducible exact LeO.refl _)
      | (with_reducible exact LeO.none _)
      | (with_reducible refine LeO.ite ?_ ?_)
      | (with_reducible refine LeO.bind ?_ (fun _ => ?_))
      | exact ih0 _ _ _
      | exact ih1 _ _ _ _ _
      | exact ih2 _ _ _ _ _ _ _
      | exact impl_WordTwo.mono _ _ _ _ _
      | exact laws_ldTwo.mono _ _ _ _ _
      | exact spec_DrawWordTwo.mono _ _
      | exact LeO.none _
      | refine LeO.ite ?_ ?_
      | refine LeO.bind ?_ (fun _ => ?_)
theorem laws_FnRing.mono : ∀ a0 a1 k, LeO (laws_FnRing.f k a0 a1) (laws_FnRing.f (k + 1) a0 a1) := by
  intro a0 a1 k
  obtain ⟨ih0, ih1, ih2⟩ := laws_FnRing.mono_l k
  unfold laws_FnRing.f
  repeat' first
      | (with_reducible exact ih0 _ _ _)
      | (with_reducible exact ih1 _ _ _ _ _)
      | (with_reducible exact ih2 _ _ _ _ _ _ _)
      | (with_reducible exact impl_WordTwo.mono _ _ _ _ _)
      | (with_reducible exact laws_ldTwo.mono _ _ _ _ _)
      | (with_reducible exact spec_DrawWordTwo.mono _ _)
      | (with_reducible exact LeO.refl _)
      | (with_reducible exact LeO.none _)
      | (with_reducible refine LeO.ite ?_ ?_)
      | (with_reducible refine LeO.bind ?_ (fun _ => ?_))
      | exact ih0 _ _ _
      | exact ih1 _ _ _ _ _
      | exact ih2 _ _ _ _ _ _ _
      | exact impl_WordTwo.mono _ _ _ _ _
      | exact laws_ldTwo.mono _ _ _ _ _
      | exact spec_DrawWordTwo.mono _ _
      | exact LeO.none _
      | refine LeO.ite ?_ ?_
      | refine LeO.bind ?_ (fun _ => ?_)
set_option maxHeartbeats 8000000 in
set_option maxRecDepth 100000 in
theorem laws_FnRing.calls (k : Nat) (A0 : Option Addr) (c0 : Nat) (l0 : List Int) (A1 : Option Addr) (c1 : Nat) (l1 : List Int) (r : Bool) (w : World) (hr0 : Kd.C (Kd.int .u8) w A0 l0.length l0) (hc0 : l0.length ≤ c0) (hr1 : Kd.C (Kd.int .u8) w A1 l1.length l1) (hc1 : l1.length ≤ c1) (h : laws_FnRing.f k l0 l1 = some r) :
    Calls Try.prog 7 #[.slice A0 l0.length c0, .slice A1 l1.length c1] w fun e w' => e = .returned (.bool r) ∧ Below w.heap.size w w' := by
  have HR0 := Aside0.mk hr0
  have HC0 := Aside0.mk hc0
  clear hr0 hc0
  have HR1 := Aside0.mk hr1
  have HC1 := Aside0.mk hc1
  clear hr1 hc1
  have HB := Aside0.mk (Below.refl w.heap.size w)
  have H : (if (l0.length : Int) > 1048576 then (laws_FnRing.j0 k l0 l1 true) else (laws_FnRing.j0 k l0 l1 (decide ((l1.length : Int) > 1048576)))) = some r := h
  clear h
  have HC3 := Aside0.mk H
  clear H
  go_enter Try.func7, Try.ntmps7
  go_upto_region 1 with (fail)
  go_cut [32] (fun v32 wc => ∃ (kq : Nat) (x32_2 : Bool), v32 = .bool x32_2 ∧ Aside0 (laws_FnRing.j0 kq l0 l1 x32_2 = some r) ∧ Aside0 (kq ≤ k) ∧ Aside0 (Below w.heap.size w wc))
  case first =>
    have H := HC3.out
    clear HC3
    by_cases c4 : (l0.length : Int) > 1048576
    · rw [if_pos c4] at H
      have c4b0 : decide (1048576 < (l0.length : Int)) = true := decide_eq_true c4
      have c4b1 : decide (1048576 < l0.length) = true := decide_eq_true (by omega)
      clear c4
      (first | rw [c4b0] | (simp only [i64_w, i32_w]; rw [c4b0]) | skip)
      have H' := Aside0.mk H
      clear H
      go_wp2
      go_meet
      case rel => exact ⟨_, (true), (by first | rfl | (simp; done) | (simp [*]; done) | (exfalso; simp only [beq_iff_eq] at *; omega)), H', ⟨by first | omega | exact Nat.le_refl _⟩, ⟨by repeat (first | (with_reducible first | exact HB.out | apply below_alloc | apply pw_below_drewN | apply below_drew1) | exact HB.out)⟩⟩
    · rw [if_neg c4] at H
      have c4b0 : decide (1048576 < (l0.length : Int)) = false := decide_eq_false c4
      have c4b1 : decide (1048576 < l0.length) = false := decide_eq_false (by omega)
      clear c4
      (first | rw [c4b0] | (simp only [i64_w, i32_w]; rw [c4b0]) | skip)
      have H' := Aside0.mk H
      clear H
      go_wp2
      go_meet
      case rel => exact ⟨_, (decide ((l1.length : Int) > 1048576)), (by first | rfl | (simp; done) | (simp [*]; done) | (exfalso; simp only [beq_iff_eq] at *; omega)), H', ⟨by first | omega | exact Nat.le_refl _⟩, ⟨by repeat (first | (with_reducible first | exact HB.out | apply below_alloc | apply pw_below_drewN | apply below_drew1) | exact HB.out)⟩⟩
  case rest =>
    clear HC3
    try clear c1
    try clear p2
    try clear c4
    try clear c4b0
    try clear c4b1
    obtain ⟨kq, x32_2, rfl, HA, HJ2, HB⟩ := hcut
    cases kq with
    | zero => exact absurd HA.out (by simp [laws_FnRing.j0])
    | succ kj2 =>
      have H := HA.out
      clear HA
      simp only [laws_FnRing.j0] at H
      by_cases c5 : x32_2 = true
      · subst c5
        have H1 : (some true) = some r := by rw [if_pos rfl] at H; exact H
        clear H
        have H := H1
        clear H1
        obtain rfl := Option.some.inj H
        go_wp2
        go_ret
        exact ⟨by first | rfl | (simp [errW_none, errW_some] <;> rfl) | (simp [*, errW_none, errW_some] <;> rfl), by repeat (first | (with_reducible first | exact HB.out | apply below_alloc | apply pw_below_drewN | apply below_drew1) | exact HB.out)⟩
      · replace c5 := Bool.eq_false_iff.mpr c5
        subst c5
        have H1 : ((spec_DrawWordTwo.f kj2 l0).bind fun bt200 => ((spec_DrawWordTwo.f kj2 l1).bind fun bt204 => ((spec_WordFrom.f bt200.2.1 bt204.2.2.1).bind fun t208 => ((spec_WordOk.f bt200.2.1 bt200.2.2.1).bind fun t209 => (if t209 = true then ((spec_WordOk.f bt200.2.1 bt200.2.2.2).bind fun t210 => (laws_FnRing.j1 kj2 bt200.2.1 bt200.2.2.1 bt200.2.2.2 t208 (!t210))) else (laws_FnRing.j1 kj2 bt200.2.1 bt200.2.2.1 bt200.2.2.2 t208 true)))))) = some r := by rw [if_neg (show ¬ (false = true) by decide)] at H; exact H
        clear H
        have H := H1
        clear H1
        replace H := Option.bind_eq_some_iff.mp H
        obtain ⟨⟨t200, t201, t202, t203⟩, A60, H⟩ := H
        replace H : ((spec_DrawWordTwo.f kj2 l1).bind fun bt204 => ((spec_WordFrom.f t201 bt204.2.2.1).bind fun t208 => ((spec_WordOk.f t201 t202).bind fun t209 => (if t209 = true then ((spec_WordOk.f t201 t203).bind fun t210 => (laws_FnRing.j1 kj2 t201 t202 t203 t208 (!t210))) else (laws_FnRing.j1 kj2 t201 t202 t203 t208 true))))) = some r := H
        have A6 := Aside0.mk A60
        clear A60
        replace H := Option.bind_eq_some_iff.mp H
        obtain ⟨⟨t204, t205, t206, t207⟩, A70, H⟩ := H
        replace H : ((spec_WordFrom.f t201 t206).bind fun t208 => ((spec_WordOk.f t201 t202).bind fun t209 => (if t209 = true then ((spec_WordOk.f t201 t203).bind fun t210 => (laws_FnRing.j1 kj2 t201 t202 t203 t208 (!t210))) else (laws_FnRing.j1 kj2 t201 t202 t203 t208 true)))) = some r := H
        have A7 := Aside0.mk A70
        clear A70
        replace H := Option.bind_eq_some_iff.mp H
        obtain ⟨t208, A80, H⟩ := H
        replace H : ((spec_WordOk.f t201 t202).bind fun t209 => (if t209 = true then ((spec_WordOk.f t201 t203).bind fun t210 => (laws_FnRing.j1 kj2 t201 t202 t203 t208 (!t210))) else (laws_FnRing.j1 kj2 t201 t202 t203 t208 true))) = some r := H
        have A8 := Aside0.mk A80
        clear A80
        have HC9 := Aside0.mk H
        clear H
        go_upto_region 6 with (first | ((with_reducible refine gate_callee (f := 16) rfl ?_); refine goesL_ (some 35) rfl rfl Try.func16 (by kernel_rfl) rfl #[.slice A0 l0.length c0] rfl (by (try simp only [List.map_toArray, List.map_cons, List.map_nil]); first | done | rfl | (simp only [List.length_drop, List.length_take]; rfl)) ?_; (with_reducible refine (spec_DrawWordTwo.calls kj2 _ _ l0 t200 t201 t202 t203 _ ?side1 ?side2 A6.out).mono ?_); (case side1 => repeat (first | exact (Kd.C_below HR0.out HB.out) | (with_reducible refine Kd.C_alloc ?_ _) | (with_reducible refine Kd.C_drewN ?_ _) | (with_reducible refine Kd.C_drew ?_))); (case side2 => exact HC0.out); rintro e w10 ⟨rfl, hb⟩; refine ⟨_, rfl, ?_⟩; have n0_ := Aside0.mk (below_step (by repeat (first | (with_reducible first | exact HB.out | apply below_alloc | apply pw_below_drewN | apply below_drew1) | exact HB.out)) hb); clear HB; have HB := n0_; clear n0_; (try clear hb); (try clear hb2); (try clear hk); (try clear hi)) | ((with_reducible refine gate_callee (f := 16) rfl ?_); refine goesL_ (some 42) rfl rfl Try.func16 (by kernel_rfl) rfl #[.slice A1 l1.length c1] rfl (by (try simp only [List.map_toArray, List.map_cons, List.map_nil]); first | done | rfl | (simp only [List.length_drop, List.length_take]; rfl)) ?_; (with_reducible refine (spec_DrawWordTwo.calls kj2 _ _ l1 t204 t205 t206 t207 _ ?side1 ?side2 A7.out).mono ?_); (case side1 => repeat (first | exact (Kd.C_below HR1.out HB.out) | (with_reducible refine Kd.C_alloc ?_ _) | (with_reducible refine Kd.C_drewN ?_ _) | (with_reducible refine Kd.C_drew ?_))); (case side2 => exact HC1.out); rintro e w11 ⟨rfl, hb⟩; refine ⟨_, rfl, ?_⟩; have n0_ := Aside0.mk (below_step (by repeat (first | (with_reducible first | exact HB.out | apply below_alloc | apply pw_below_drewN | apply below_drew1) | exact HB.out)) hb); clear HB; have HB := n0_; clear n0_; (try clear hb); (try clear hb2); (try clear hk); (try clear hi)) | ((with_reducible refine gate_callee (f := 21) rfl ?_); refine goesL_ (some 49) rfl rfl Try.func21 (by kernel_rfl) rfl #[.int .i64 t201, .int .i64 t206] rfl (by (try simp only [List.map_toArray, List.map_cons, List.map_nil]); first | done | rfl | (simp only [List.length_drop, List.length_take]; rfl)) ?_; (with_reducible refine (spec_WordFrom.calls t201 t206 t208 _ A8.out).mono ?_); rintro e w' ⟨rfl, ⟨nd, rfl⟩⟩; refine ⟨_, rfl, ?_⟩))
        (try simp only [Act.put, List.setIfInBounds_toArray, List.set_cons_zero, List.set_cons_succ])
        go_cut [59] (fun v59 wc => ∃ (kq : Nat) (x59_8 : Bool), v59 = .bool x59_8 ∧ Aside0 (laws_FnRing.j1 kq t201 t202 t203 t208 x59_8 = some r) ∧ Aside0 (kq ≤ kj2) ∧ Aside0 (Below w.heap.size w wc))
        case first =>
          have H := HC9.out
          clear HC9
          replace H := Option.bind_eq_some_iff.mp H
          obtain ⟨t209, A120, H⟩ := H
          replace H : (if t209 = true then ((spec_WordOk.f t201 t203).bind fun t210 => (laws_FnRing.j1 kj2 t201 t202 t203 t208 (!t210))) else (laws_FnRing.j1 kj2 t201 t202 t203 t208 true)) = some r := H
          have A12 := Aside0.mk A120
          clear A120
          by_cases c13 : t209 = true
          · subst c13
            have H1 : ((spec_WordOk.f t201 t203).bind fun t210 => (laws_FnRing.j1 kj2 t201 t202 t203 t208 (!t210))) = some r := by rw [if_pos rfl] at H; exact H
            clear H
            have H := H1
            clear H1
            replace H := Option.bind_eq_some_iff.mp H
            obtain ⟨t210, A140, H⟩ := H
            replace H : (laws_FnRing.j1 kj2 t201 t202 t203 t208 (!t210)) = some r := H
            have A14 := Aside0.mk A140
            clear A140
            have H' := Aside0.mk H
            clear H
            go_wp2_with (first | ((with_reducible refine gate_callee (f := 17) rfl ?_); refine goesL_ (some 52) rfl rfl Try.func17 (by kernel_rfl) rfl #[.int .i64 t201, .int .i64 t202] rfl (by (try simp only [List.map_toArray, List.map_cons, List.map_nil]); first | done | rfl | (simp only [List.length_drop, List.length_take]; rfl)) ?_; (with_reducible refine (spec_WordOk.calls t201 t202 true _ A12.out).mono ?_); rintro e w' ⟨rfl, ⟨nd, rfl⟩⟩; refine ⟨_, rfl, ?_⟩) | (go_at_call 17; (with_reducible refine (spec_WordOk.calls t201 t203 t210 _ A14.out).mono ?_); rintro e w' ⟨rfl, ⟨nd, rfl⟩⟩))
            go_meet
            case rel => exact ⟨_, (!t210), (by first | rfl | (simp; done) | (simp [*]; done) | (exfalso; simp only [beq_iff_eq] at *; omega)), H', ⟨by have := HJ2.out; first | omega | exact Nat.le_refl _⟩, ⟨by repeat (first | (with_reducible first | exact HB.out | apply below_alloc | apply pw_below_drewN | apply below_drew1) | exact HB.out)⟩⟩
          · replace c13 := Bool.eq_false_iff.mpr c13
            subst c13
            have H1 : (laws_FnRing.j1 kj2 t201 t202 t203 t208 true) = some r := by rw [if_neg (show ¬ (false = true) by decide)] at H; exact H
            clear H
            have H := H1
            clear H1
            have H' := Aside0.mk H
            clear H
            go_wp2_with (first | ((with_reducible refine gate_callee (f := 17) rfl ?_); refine goesL_ (some 52) rfl rfl Try.func17 (by kernel_rfl) rfl #[.int .i64 t201, .int .i64 t202] rfl (by (try simp only [List.map_toArray, List.map_cons, List.map_nil]); first | done | rfl | (simp only [List.length_drop, List.length_take]; rfl)) ?_; (with_reducible refine (spec_WordOk.calls t201 t202 false _ A12.out).mono ?_); rintro e w' ⟨rfl, ⟨nd, rfl⟩⟩; refine ⟨_, rfl, ?_⟩))
            go_meet
            case rel => exact ⟨_, (true), (by first | rfl | (simp; done) | (simp [*]; done) | (exfalso; simp only [beq_iff_eq] at *; omega)), H', ⟨by have := HJ2.out; first | omega | exact Nat.le_refl _⟩, ⟨by repeat (first | (with_reducible first | exact HB.out | apply below_alloc | apply pw_below_drewN | apply below_drew1) | exact HB.out)⟩⟩
        case rest =>
          clear HC9
          try clear c1
          try clear c2
          try clear p2
          try clear c4
          try clear c4b0
          try clear c4b1
          try clear c5
          try clear c7
          try clear c13
          try clear p2
          obtain ⟨kq, x59_8, rfl, HA, HJ8, HB⟩ := hcut
          cases kq with
          | zero => exact absurd HA.out (by simp [laws_FnRing.j1])
          | succ kj8 =>
            have H := HA.out
            clear HA
            simp only [laws_FnRing.j1] at H
            by_cases c15 : x59_8 = true
            · subst c15
              have H1 : ((impl_WordTwo.f kj8 9 t201 t202 t203).bind fun bt211 => (some (!bt211.2.2))) = some r := by rw [if_pos rfl] at H; exact H
              clear H
              have H := H1
              clear H1
              replace H := Option.bind_eq_some_iff.mp H
              obtain ⟨⟨t211, t212, t213⟩, A160, H⟩ := H
              replace H : (some (!t213)) = some r := H
              have A16 := Aside0.mk A160
              clear A160
              obtain rfl := Option.some.inj H
              go_wp2_with (first | ((with_reducible refine gate_callee (f := 18) rfl ?_); refine goesL_ (some 64) rfl rfl Try.func18 (by kernel_rfl) rfl #[.int .i64 9, .int .i64 t201, .int .i64 t202, .int .i64 t203] rfl (by (try simp only [List.map_toArray, List.map_cons, List.map_nil]); first | done | rfl | (simp only [List.length_drop, List.length_take]; rfl)) ?_; (with_reducible refine (impl_WordTwo.calls kj8 9 t201 t202 t203 t211 t212 t213 _ A16.out).mono ?_); rintro e w17 ⟨rfl, hb⟩; refine ⟨_, rfl, ?_⟩; have n0_ := Aside0.mk (below_step (by repeat (first | (with_reducible first | exact HB.out | apply below_alloc | apply pw_below_drewN | apply below_drew1) | exact HB.out)) hb); clear HB; have HB := n0_; clear n0_; (try clear hb); (try clear hb2); (try clear hk); (try clear hi)))
              go_ret
              exact ⟨by first | rfl | (simp [errW_none, errW_some] <;> rfl) | (simp [*, errW_none, errW_some] <;> rfl), by repeat (first | (with_reducible first | exact HB.out | apply below_alloc | apply pw_below_drewN | apply below_drew1) | exact HB.out)⟩
            · replace c15 := Bool.eq_false_iff.mpr c15
              subst c15
              have H1 : ((laws_ldTwo.f kj8 9 t201 t202 t203).bind fun t214 => ((laws_ldTwo.f kj8 11 t201 t202 t203).bind fun t215 => ((laws_ldTwo.f kj8 11 t201 t202 t208).bind fun t216 => ((spec_WordFrom.f t201 (wrap64 (t202 + t203))).bind fun t217 => (if t214 = t217 then ((laws_ldTwo.f kj8 9 t201 t203 t202).bind fun t218 => (if t214 = t218 then ((laws_ldTwo.f kj8 11 t201 t203 t202).bind fun t219 => (if t215 = t219 then ((laws_ldTwo.f kj8 10 t201 t214 t203).bind fun t220 => (laws_FnRing.j2 kj8 t201 t202 t203 t208 t215 t216 (t220 != t202))) else (laws_FnRing.j2 kj8 t201 t202 t203 t208 t215 t216 true))) else (laws_FnRing.j2 kj8 t201 t202 t203 t208 t215 t216 true))) else (laws_FnRing.j2 kj8 t201 t202 t203 t208 t215 t216 true)))))) = some r := by rw [if_neg (show ¬ (false = true) by decide)] at H; exact H
              clear H
              have H := H1
              clear H1
              replace H := Option.bind_eq_some_iff.mp H
              obtain ⟨t214, A180, H⟩ := H
              replace H : ((laws_ldTwo.f kj8 11 t201 t202 t203).bind fun t215 => ((laws_ldTwo.f kj8 11 t201 t202 t208).bind fun t216 => ((spec_WordFrom.f t201 (wrap64 (t202 + t203))).bind fun t217 => (if t214 = t217 then ((laws_ldTwo.f kj8 9 t201 t203 t202).bind fun t218 => (if t214 = t218 then ((laws_ldTwo.f kj8 11 t201 t203 t202).bind fun t219 => (if t215 = t219 then ((laws_ldTwo.f kj8 10 t201 t214 t203).bind fun t220 => (laws_FnRing.j2 kj8 t201 t202 t203 t208 t215 t216 (t220 != t202))) else (laws_FnRing.j2 kj8 t201 t202 t203 t208 t215 t216 true))) else (laws_FnRing.j2 kj8 t201 t202 t203 t208 t215 t216 true))) else (laws_FnRing.j2 kj8 t201 t202 t203 t208 t215 t216 true))))) = some r := H
              have A18 := Aside0.mk A180
              clear A180
              replace H := Option.bind_eq_some_iff.mp H
              obtain ⟨t215, A190, H⟩ := H
              replace H : ((laws_ldTwo.f kj8 11 t201 t202 t208).bind fun t216 => ((spec_WordFrom.f t201 (wrap64 (t202 + t203))).bind fun t217 => (if t214 = t217 then ((laws_ldTwo.f kj8 9 t201 t203 t202).bind fun t218 => (if t214 = t218 then ((laws_ldTwo.f kj8 11 t201 t203 t202).bind fun t219 => (if t215 = t219 then ((laws_ldTwo.f kj8 10 t201 t214 t203).bind fun t220 => (laws_FnRing.j2 kj8 t201 t202 t203 t208 t215 t216 (t220 != t202))) else (laws_FnRing.j2 kj8 t201 t202 t203 t208 t215 t216 true))) else (laws_FnRing.j2 kj8 t201 t202 t203 t208 t215 t216 true))) else (laws_FnRing.j2 kj8 t201 t202 t203 t208 t215 t216 true)))) = some r := H
              have A19 := Aside0.mk A190
              clear A190
              replace H := Option.bind_eq_some_iff.mp H
              obtain ⟨t216, A200, H⟩ := H
              replace H : ((spec_WordFrom.f t201 (wrap64 (t202 + t203))).bind fun t217 => (if t214 = t217 then ((laws_ldTwo.f kj8 9 t201 t203 t202).bind fun t218 => (if t214 = t218 then ((laws_ldTwo.f kj8 11 t201 t203 t202).bind fun t219 => (if t215 = t219 then ((laws_ldTwo.f kj8 10 t201 t214 t203).bind fun t220 => (laws_FnRing.j2 kj8 t201 t202 t203 t208 t215 t216 (t220 != t202))) else (laws_FnRing.j2 kj8 t201 t202 t203 t208 t215 t216 true))) else (laws_FnRing.j2 kj8 t201 t202 t203 t208 t215 t216 true))) else (laws_FnRing.j2 kj8 t201 t202 t203 t208 t215 t216 true))) = some r := H
              have A20 := Aside0.mk A200
              clear A200
              have HC21 := Aside0.mk H
              clear H
              go_upto_region 12 with (first | ((with_reducible refine gate_callee (f := 19) rfl ?_); refine goesL_ (some 73) rfl rfl Try.func19 (by kernel_rfl) rfl #[.int .i64 9, .int .i64 t201, .int .i64 t202, .int .i64 t203] rfl (by (try simp only [List.map_toArray, List.map_cons, List.map_nil]); first | done | rfl | (simp only [List.length_drop, List.length_take]; rfl)) ?_; (with_reducible refine (laws_ldTwo.calls kj8 9 t201 t202 t203 t214 _ A18.out).mono ?_); rintro e w22 ⟨rfl, hb⟩; refine ⟨_, rfl, ?_⟩; have n0_ := Aside0.mk (below_step (by repeat (first | (with_reducible first | exact HB.out | apply below_alloc | apply pw_below_drewN | apply below_drew1) | exact HB.out)) hb); clear HB; have HB := n0_; clear n0_; (try clear hb); (try clear hb2); (try clear hk); (try clear hi)) | ((with_reducible refine gate_callee (f := 19) rfl ?_); refine goesL_ (some 77) rfl rfl Try.func19 (by kernel_rfl) rfl #[.int .i64 11, .int .i64 t201, .int .i64 t202, .int .i64 t203] rfl (by (try simp only [List.map_toArray, List.map_cons, List.map_nil]); first | done | rfl | (simp only [List.length_drop, List.length_take]; rfl)) ?_; (with_reducible refine (laws_ldTwo.calls kj8 11 t201 t202 t203 t215 _ A19.out).mono ?_); rintro e w23 ⟨rfl, hb⟩; refine ⟨_, rfl, ?_⟩; have n0_ := Aside0.mk (below_step (by repeat (first | (with_reducible first | exact HB.out | apply below_alloc | apply pw_below_drewN | apply below_drew1) | exact HB.out)) hb); clear HB; have HB := n0_; clear n0_; (try clear hb); (try clear hb2); (try clear hk); (try clear hi)) | ((with_reducible refine gate_callee (f := 19) rfl ?_); refine goesL_ (some 81) rfl rfl Try.func19 (by kernel_rfl) rfl #[.int .i64 11, .int .i64 t201, .int .i64 t202, .int .i64 t208] rfl (by (try simp only [List.map_toArray, List.map_cons, List.map_nil]); first | done | rfl | (simp only [List.length_drop, List.length_take]; rfl)) ?_; (with_reducible refine (laws_ldTwo.calls kj8 11 t201 t202 t208 t216 _ A20.out).mono ?_); rintro e w24 ⟨rfl, hb⟩; refine ⟨_, rfl, ?_⟩; have n0_ := Aside0.mk (below_step (by repeat (first | (with_reducible first | exact HB.out | apply below_alloc | apply pw_below_drewN | apply below_drew1) | exact HB.out)) hb); clear HB; have HB := n0_; clear n0_; (try clear hb); (try clear hb2); (try clear hk); (try clear hi)))
              (try simp only [Act.put, List.setIfInBounds_toArray, List.set_cons_zero, List.set_cons_succ])
              go_cut [112] (fun v112 wc => ∃ (kq : Nat) (x112_20 : Bool), v112 = .bool x112_20 ∧ Aside0 (laws_FnRing.j2 kq t201 t202 t203 t208 t215 t216 x112_20 = some r) ∧ Aside0 (kq ≤ kj8) ∧ Aside0 (Below w.heap.size w wc))
              case first =>
                have H := HC21.out
                clear HC21
                replace H := Option.bind_eq_some_iff.mp H
                obtain ⟨t217, A250, H⟩ := H
                replace H : (if t214 = t217 then ((laws_ldTwo.f kj8 9 t201 t203 t202).bind fun t218 => (if t214 = t218 then ((laws_ldTwo.f kj8 11 t201 t203 t202).bind fun t219 => (if t215 = t219 then ((laws_ldTwo.f kj8 10 t201 t214 t203).bind fun t220 => (laws_FnRing.j2 kj8 t201 t202 t203 t208 t215 t216 (t220 != t202))) else (laws_FnRing.j2 kj8 t201 t202 t203 t208 t215 t216 true))) else (laws_FnRing.j2 kj8 t201 t202 t203 t208 t215 t216 true))) else (laws_FnRing.j2 kj8 t201 t202 t203 t208 t215 t216 true)) = some r := H
                have A25 := Aside0.mk A250
                clear A250
                by_cases c26 : t214 = t217
                · rw [if_pos c26] at H
                  have c26b0 : (t214 == t217) = true := beq_iff_eq.mpr c26
                  have c26b1 : (t214 != t217) = false := bne_eq_false_iff_eq.mpr c26
                  clear c26
                  (first | rw [c26b0] | (simp only [i64_w, i32_w]; rw [c26b0]) | skip)
                  replace H := Option.bind_eq_some_iff.mp H
                  obtain ⟨t218, A270, H⟩ := H
                  replace H : (if t214 = t218 then ((laws_ldTwo.f kj8 11 t201 t203 t202).bind fun t219 => (if t215 = t219 then ((laws_ldTwo.f kj8 10 t201 t214 t203).bind fun t220 => (laws_FnRing.j2 kj8 t201 t202 t203 t208 t215 t216 (t220 != t202))) else (laws_FnRing.j2 kj8 t201 t202 t203 t208 t215 t216 true))) else (laws_FnRing.j2 kj8 t201 t202 t203 t208 t215 t216 true)) = some r := H
                  have A27 := Aside0.mk A270
                  clear A270
                  by_cases c28 : t214 = t218
                  · rw [if_pos c28] at H
                    have c28b0 : (t214 == t218) = true := beq_iff_eq.mpr c28
                    have c28b1 : (t214 != t218) = false := bne_eq_false_iff_eq.mpr c28
                    clear c28
                    replace H := Option.bind_eq_some_iff.mp H
                    obtain ⟨t219, A290, H⟩ := H
                    replace H : (if t215 = t219 then ((laws_ldTwo.f kj8 10 t201 t214 t203).bind fun t220 => (laws_FnRing.j2 kj8 t201 t202 t203 t208 t215 t216 (t220 != t202))) else (laws_FnRing.j2 kj8 t201 t202 t203 t208 t215 t216 true)) = some r := H
                    have A29 := Aside0.mk A290
                    clear A290
                    by_cases c30 : t215 = t219
                    · rw [if_pos c30] at H
                      have c30b0 : (t215 == t219) = true := beq_iff_eq.mpr c30
                      have c30b1 : (t215 != t219) = false := bne_eq_false_iff_eq.mpr c30
                      clear c30
                      replace H := Option.bind_eq_some_iff.mp H
                      obtain ⟨t220, A310, H⟩ := H
                      replace H : (laws_FnRing.j2 kj8 t201 t202 t203 t208 t215 t216 (t220 != t202)) = some r := H
                      have A31 := Aside0.mk A310
                      clear A310
                      have H' := Aside0.mk H
                      clear H
                      go_wp2_with (first | ((with_reducible refine gate_callee (f := 21) rfl ?_); refine goesL_ (some 87) rfl rfl Try.func21 (by kernel_rfl) rfl #[.int .i64 t201, .int .i64 (wrap64 (t202 + t203))] rfl (by (try simp only [List.map_toArray, List.map_cons, List.map_nil]); first | done | rfl | (simp only [List.length_drop, List.length_take]; rfl)) ?_; (with_reducible refine (spec_WordFrom.calls t201 (wrap64 (t202 + t203)) t217 _ A25.out).mono ?_); rintro e w' ⟨rfl, ⟨nd, rfl⟩⟩; refine ⟨_, rfl, ?_⟩) | (go_at_call 19; (with_reducible refine (laws_ldTwo.calls kj8 9 t201 t203 t202 t218 _ A27.out).mono ?_); rintro e w32 ⟨rfl, hb⟩; have n0_ := Aside0.mk (below_step (by repeat (first | (with_reducible first | exact HB.out | apply below_alloc | apply pw_below_drewN | apply below_drew1) | exact HB.out)) hb); clear HB; have HB := n0_; clear n0_; (try clear hb); (try clear hb2); (try clear hk); (try clear hi)) | (go_at_call 19; (with_reducible refine (laws_ldTwo.calls kj8 11 t201 t203 t202 t219 _ A29.out).mono ?_); rintro e w33 ⟨rfl, hb⟩; have n0_ := Aside0.mk (below_step (by repeat (first | (with_reducible first | exact HB.out | apply below_alloc | apply pw_below_drewN | apply below_drew1) | exact HB.out)) hb); clear HB; have HB := n0_; clear n0_; (try clear hb); (try clear hb2); (try clear hk); (try clear hi)) | (go_at_call 19; (with_reducible refine (laws_ldTwo.calls kj8 10 t201 t214 t203 t220 _ A31.out).mono ?_); rintro e w34 ⟨rfl, hb⟩; have n0_ := Aside0.mk (below_step (by repeat (first | (with_reducible first | exact HB.out | apply below_alloc | apply pw_below_drewN | apply below_drew1) | exact HB.out)) hb); clear HB; have HB := n0_; clear n0_; (try clear hb); (try clear hb2); (try clear hk); (try clear hi)))
                      go_meet
                      case rel => exact ⟨_, ((t220 != t202)), (by first | rfl | (simp; done) | (simp [*]; done) | (exfalso; simp only [beq_iff_eq] at *; omega)), H', ⟨by have := HJ2.out; have := HJ8.out; first | omega | exact Nat.le_refl _⟩, ⟨by repeat (first | (with_reducible first | exact HB.out | apply below_alloc | apply pw_below_drewN | apply below_drew1) | exact HB.out)⟩⟩
                    · rw [if_neg c30] at H
                      have c30b0 : (t215 == t219) = false := beq_eq_false_iff_ne.mpr c30
                      have c30b1 : (t215 != t219) = true := bne_iff_ne.mpr c30
                      have H' := Aside0.mk H
                      clear H
                      go_wp2_with (first | ((with_reducible refine gate_callee (f := 21) rfl ?_); refine goesL_ (some 87) rfl rfl Try.func21 (by kernel_rfl) rfl #[.int .i64 t201, .int .i64 (wrap64 (t202 + t203))] rfl (by (try simp only [List.map_toArray, List.map_cons, List.map_nil]); first | done | rfl | (simp only [List.length_drop, List.length_take]; rfl)) ?_; (with_reducible refine (spec_WordFrom.calls t201 (wrap64 (t202 + t203)) t217 _ A25.out).mono ?_); rintro e w' ⟨rfl, ⟨nd, rfl⟩⟩; refine ⟨_, rfl, ?_⟩) | (go_at_call 19; (with_reducible refine (laws_ldTwo.calls kj8 9 t201 t203 t202 t218 _ A27.out).mono ?_); rintro e w35 ⟨rfl, hb⟩; have n0_ := Aside0.mk (below_step (by repeat (first | (with_reducible first | exact HB.out | apply below_alloc | apply pw_below_drewN | apply below_drew1) | exact HB.out)) hb); clear HB; have HB := n0_; clear n0_; (try clear hb); (try clear hb2); (try clear hk); (try clear hi)) | (go_at_call 19; (with_reducible refine (laws_ldTwo.calls kj8 11 t201 t203 t202 t219 _ A29.out).mono ?_); rintro e w36 ⟨rfl, hb⟩; have n0_ := Aside0.mk (below_step (by repeat (first | (with_reducible first | exact HB.out | apply below_alloc | apply pw_below_drewN | apply below_drew1) | exact HB.out)) hb); clear HB; have HB := n0_; clear n0_; (try clear hb); (try clear hb2); (try clear hk); (try clear hi)))
                      go_meet
                      case rel => exact ⟨_, (true), (by first | rfl | (simp; done) | (simp [*]; done) | (exfalso; simp only [beq_iff_eq] at *; omega)), H', ⟨by have := HJ2.out; have := HJ8.out; first | omega | exact Nat.le_refl _⟩, ⟨by repeat (first | (with_reducible first | exact HB.out | apply below_alloc | apply pw_below_drewN | apply below_drew1) | exact HB.out)⟩⟩
                  · rw [if_neg c28] at H
                    have c28b0 : (t214 == t218) = false := beq_eq_false_iff_ne.mpr c28
                    have c28b1 : (t214 != t218) = true := bne_iff_ne.mpr c28
                    have H' := Aside0.mk H
                    clear H
                    go_wp2_with (first | ((with_reducible refine gate_callee (f := 21) rfl ?_); refine goesL_ (some 87) rfl rfl Try.func21 (by kernel_rfl) rfl #[.int .i64 t201, .int .i64 (wrap64 (t202 + t203))] rfl (by (try simp only [List.map_toArray, List.map_cons, List.map_nil]); first | done | rfl | (simp only [List.length_drop, List.length_take]; rfl)) ?_; (with_reducible refine (spec_WordFrom.calls t201 (wrap64 (t202 + t203)) t217 _ A25.out).mono ?_); rintro e w' ⟨rfl, ⟨nd, rfl⟩⟩; refine ⟨_, rfl, ?_⟩) | (go_at_call 19; (with_reducible refine (laws_ldTwo.calls kj8 9 t201 t203 t202 t218 _ A27.out).mono ?_); rintro e w37 ⟨rfl, hb⟩; have n0_ := Aside0.mk (below_step (by repeat (first | (with_reducible first | exact HB.out | apply below_alloc | apply pw_below_drewN | apply below_drew1) | exact HB.out)) hb); clear HB; have HB := n0_; clear n0_; (try clear hb); (try clear hb2); (try clear hk); (try clear hi)))
                    go_meet
                    case rel => exact ⟨_, (true), (by first | rfl | (simp; done) | (simp [*]; done) | (exfalso; simp only [beq_iff_eq] at *; omega)), H', ⟨by have := HJ2.out; have := HJ8.out; first | omega | exact Nat.le_refl _⟩, ⟨by repeat (first | (with_reducible first | exact HB.out | apply below_alloc | apply pw_below_drewN | apply below_drew1) | exact HB.out)⟩⟩
                · rw [if_neg c26] at H
                  have c26b0 : (t214 == t217) = false := beq_eq_false_iff_ne.mpr c26
                  have c26b1 : (t214 != t217) = true := bne_iff_ne.mpr c26
                  (first | rw [c26b0] | (simp only [i64_w, i32_w]; rw [c26b0]) | skip)
                  have H' := Aside0.mk H
                  clear H
                  go_wp2_with (first | ((with_reducible refine gate_callee (f := 21) rfl ?_); refine goesL_ (some 87) rfl rfl Try.func21 (by kernel_rfl) rfl #[.int .i64 t201, .int .i64 (wrap64 (t202 + t203))] rfl (by (try simp only [List.map_toArray, List.map_cons, List.map_nil]); first | done | rfl | (simp only [List.length_drop, List.length_take]; rfl)) ?_; (with_reducible refine (spec_WordFrom.calls t201 (wrap64 (t202 + t203)) t217 _ A25.out).mono ?_); rintro e w' ⟨rfl, ⟨nd, rfl⟩⟩; refine ⟨_, rfl, ?_⟩))
                  go_meet
                  case rel => exact ⟨_, (true), (by first | rfl | (simp; done) | (simp [*]; done) | (exfalso; simp only [beq_iff_eq] at *; omega)), H', ⟨by have := HJ2.out; have := HJ8.out; first | omega | exact Nat.le_refl _⟩, ⟨by repeat (first | (with_reducible first | exact HB.out | apply below_alloc | apply pw_below_drewN | apply below_drew1) | exact HB.out)⟩⟩
              case rest =>
                clear HC21
                try clear c1
                try clear c2
                try clear p2
                try clear c3
                try clear c4
                try clear c4b0
                try clear c4b1
                try clear c5
                try clear p6
                try clear c7
                try clear c13
                try clear c15
                try clear c16
                try clear c17
                try clear c18
                try clear c19
                try clear c21
                try clear c26
                try clear c26b0
                try clear c26b1
                try clear c28
                try clear c28b0
                try clear c28b1
                try clear c30
                try clear c30b0
                try clear c30b1
                try clear p2
                obtain ⟨kq, x112_20, rfl, HA, HJ20, HB⟩ := hcut
                cases kq with
                | zero => exact absurd HA.out (by simp [laws_FnRing.j2])
                | succ kj20 =>
                  have H := HA.out
                  clear HA
                  simp only [laws_FnRing.j2] at H
                  by_cases c38 : x112_20 = true
                  · subst c38
                    have H1 : (some false) = some r := by rw [if_pos rfl] at H; exact H
                    clear H
                    have H := H1
                    clear H1
                    obtain rfl := Option.some.inj H
                    go_wp2
                    go_ret
                    exact ⟨by first | rfl | (simp [errW_none, errW_some] <;> rfl) | (simp [*, errW_none, errW_some] <;> rfl), by repeat (first | (with_reducible first | exact HB.out | apply below_alloc | apply pw_below_drewN | apply below_drew1) | exact HB.out)⟩
                  · replace c38 := Bool.eq_false_iff.mpr c38
                    subst c38
                    have H1 : ((impl_WordOne.f 2 t201 t202).bind fun bt221 => ((impl_WordOne.f 1 t201 t202).bind fun bt224 => (if bt221.2.2 = true then (if bt224.2.2 = true then ((laws_ldTwo.f kj20 9 t201 t203 t208).bind fun t227 => ((laws_ldTwo.f kj20 11 t201 t202 t227).bind fun t228 => ((laws_ldTwo.f kj20 9 t201 t215 t216).bind fun t229 => (if t228 = t229 then ((laws_ldTwo.f kj20 9 t201 t202 bt221.1).bind fun t230 => (if t230 = 0 then ((laws_ldTwo.f kj20 9 t201 bt224.1 1).bind fun t231 => (some (t231 == bt221.1))) else (some false))) else (some false))))) else (some false)) else (some false)))) = some r := by rw [if_neg (show ¬ (false = true) by decide)] at H; exact H
                    clear H
                    have H := H1
                    clear H1
                    replace H := Option.bind_eq_some_iff.mp H
                    obtain ⟨⟨t221, t222, t223⟩, A390, H⟩ := H
                    replace H : ((impl_WordOne.f 1 t201 t202).bind fun bt224 => (if t223 = true then (if bt224.2.2 = true then ((laws_ldTwo.f kj20 9 t201 t203 t208).bind fun t227 => ((laws_ldTwo.f kj20 11 t201 t202 t227).bind fun t228 => ((laws_ldTwo.f kj20 9 t201 t215 t216).bind fun t229 => (if t228 = t229 then ((laws_ldTwo.f kj20 9 t201 t202 t221).bind fun t230 => (if t230 = 0 then ((laws_ldTwo.f kj20 9 t201 bt224.1 1).bind fun t231 => (some (t231 == t221))) else (some false))) else (some false))))) else (some false)) else (some false))) = some r := H
                    have A39 := Aside0.mk A390
                    clear A390
                    replace H := Option.bind_eq_some_iff.mp H
                    obtain ⟨⟨t224, t225, t226⟩, A400, H⟩ := H
                    replace H : (if t223 = true then (if t226 = true then ((laws_ldTwo.f kj20 9 t201 t203 t208).bind fun t227 => ((laws_ldTwo.f kj20 11 t201 t202 t227).bind fun t228 => ((laws_ldTwo.f kj20 9 t201 t215 t216).bind fun t229 => (if t228 = t229 then ((laws_ldTwo.f kj20 9 t201 t202 t221).bind fun t230 => (if t230 = 0 then ((laws_ldTwo.f kj20 9 t201 t224 1).bind fun t231 => (some (t231 == t221))) else (some false))) else (some false))))) else (some false)) else (some false)) = some r := H
                    have A40 := Aside0.mk A400
                    clear A400
                    by_cases c41 : t223 = true
                    · subst c41
                      have H1 : (if t226 = true then ((laws_ldTwo.f kj20 9 t201 t203 t208).bind fun t227 => ((laws_ldTwo.f kj20 11 t201 t202 t227).bind fun t228 => ((laws_ldTwo.f kj20 9 t201 t215 t216).bind fun t229 => (if t228 = t229 then ((laws_ldTwo.f kj20 9 t201 t202 t221).bind fun t230 => (if t230 = 0 then ((laws_ldTwo.f kj20 9 t201 t224 1).bind fun t231 => (some (t231 == t221))) else (some false))) else (some false))))) else (some false)) = some r := by rw [if_pos rfl] at H; exact H
                      clear H
                      have H := H1
                      clear H1
                      by_cases c42 : t226 = true
                      · subst c42
                        have H1 : ((laws_ldTwo.f kj20 9 t201 t203 t208).bind fun t227 => ((laws_ldTwo.f kj20 11 t201 t202 t227).bind fun t228 => ((laws_ldTwo.f kj20 9 t201 t215 t216).bind fun t229 => (if t228 = t229 then ((laws_ldTwo.f kj20 9 t201 t202 t221).bind fun t230 => (if t230 = 0 then ((laws_ldTwo.f kj20 9 t201 t224 1).bind fun t231 => (some (t231 == t221))) else (some false))) else (some false))))) = some r := by rw [if_pos rfl] at H; exact H
                        clear H
                        have H := H1
                        clear H1
                        replace H := Option.bind_eq_some_iff.mp H
                        obtain ⟨t227, A430, H⟩ := H
                        replace H : ((laws_ldTwo.f kj20 11 t201 t202 t227).bind fun t228 => ((laws_ldTwo.f kj20 9 t201 t215 t216).bind fun t229 => (if t228 = t229 then ((laws_ldTwo.f kj20 9 t201 t202 t221).bind fun t230 => (if t230 = 0 then ((laws_ldTwo.f kj20 9 t201 t224 1).bind fun t231 => (some (t231 == t221))) else (some false))) else (some false)))) = some r := H
                        have A43 := Aside0.mk A430
                        clear A430
                        replace H := Option.bind_eq_some_iff.mp H
                        obtain ⟨t228, A440, H⟩ := H
                        replace H : ((laws_ldTwo.f kj20 9 t201 t215 t216).bind fun t229 => (if t228 = t229 then ((laws_ldTwo.f kj20 9 t201 t202 t221).bind fun t230 => (if t230 = 0 then ((laws_ldTwo.f kj20 9 t201 t224 1).bind fun t231 => (some (t231 == t221))) else (some false))) else (some false))) = some r := H
                        have A44 := Aside0.mk A440
                        clear A440
                        replace H := Option.bind_eq_some_iff.mp H
                        obtain ⟨t229, A450, H⟩ := H
                        replace H : (if t228 = t229 then ((laws_ldTwo.f kj20 9 t201 t202 t221).bind fun t230 => (if t230 = 0 then ((laws_ldTwo.f kj20 9 t201 t224 1).bind fun t231 => (some (t231 == t221))) else (some false))) else (some false)) = some r := H
                        have A45 := Aside0.mk A450
                        clear A450
                        by_cases c46 : t228 = t229
                        · rw [if_pos c46] at H
                          have c46b0 : (t228 == t229) = true := beq_iff_eq.mpr c46
                          have c46b1 : (t228 != t229) = false := bne_eq_false_iff_eq.mpr c46
                          clear c46
                          replace H := Option.bind_eq_some_iff.mp H
                          obtain ⟨t230, A470, H⟩ := H
                          replace H : (if t230 = 0 then ((laws_ldTwo.f kj20 9 t201 t224 1).bind fun t231 => (some (t231 == t221))) else (some false)) = some r := H
                          have A47 := Aside0.mk A470
                          clear A470
                          by_cases c48 : t230 = 0
                          · rw [if_pos c48] at H
                            have c48b0 : (t230 == 0) = true := beq_iff_eq.mpr c48
                            have c48b1 : (t230 != 0) = false := bne_eq_false_iff_eq.mpr c48
                            clear c48
                            replace H := Option.bind_eq_some_iff.mp H
                            obtain ⟨t231, A490, H⟩ := H
                            replace H : (some (t231 == t221)) = some r := H
                            have A49 := Aside0.mk A490
                            clear A490
                            obtain rfl := Option.some.inj H
                            go_wp2_with (first | ((with_reducible refine gate_callee (f := 22) rfl ?_); refine goesL_ (some 116) rfl rfl Try.func22 (by kernel_rfl) rfl #[.int .i64 2, .int .i64 t201, .int .i64 t202] rfl (by (try simp only [List.map_toArray, List.map_cons, List.map_nil]); first | done | rfl | (simp only [List.length_drop, List.length_take]; rfl)) ?_; (with_reducible refine (impl_WordOne.calls 2 t201 t202 t221 t222 true _ A39.out).mono ?_); rintro e w' ⟨rfl, ⟨nd, rfl⟩⟩; refine ⟨_, rfl, ?_⟩) | ((with_reducible refine gate_callee (f := 22) rfl ?_); refine goesL_ (some 123) rfl rfl Try.func22 (by kernel_rfl) rfl #[.int .i64 1, .int .i64 t201, .int .i64 t202] rfl (by (try simp only [List.map_toArray, List.map_cons, List.map_nil]); first | done | rfl | (simp only [List.length_drop, List.length_take]; rfl)) ?_; (with_reducible refine (impl_WordOne.calls 1 t201 t202 t224 t225 true _ A40.out).mono ?_); rintro e w' ⟨rfl, ⟨nd, rfl⟩⟩; refine ⟨_, rfl, ?_⟩) | (go_at_call 19; (with_reducible refine (laws_ldTwo.calls kj20 9 t201 t203 t208 t227 _ A43.out).mono ?_); rintro e w50 ⟨rfl, hb⟩; have n0_ := Aside0.mk (below_step (by repeat (first | (with_reducible first | exact HB.out | apply below_alloc | apply pw_below_drewN | apply below_drew1) | exact HB.out)) hb); clear HB; have HB := n0_; clear n0_; (try clear hb); (try clear hb2); (try clear hk); (try clear hi)) | (go_at_call 19; (with_reducible refine (laws_ldTwo.calls kj20 11 t201 t202 t227 t228 _ A44.out).mono ?_); rintro e w51 ⟨rfl, hb⟩; have n0_ := Aside0.mk (below_step (by repeat (first | (with_reducible first | exact HB.out | apply below_alloc | apply pw_below_drewN | apply below_drew1) | exact HB.out)) hb); clear HB; have HB := n0_; clear n0_; (try clear hb); (try clear hb2); (try clear hk); (try clear hi)) | (go_at_call 19; (with_reducible refine (laws_ldTwo.calls kj20 9 t201 t215 t216 t229 _ A45.out).mono ?_); rintro e w52 ⟨rfl, hb⟩; have n0_ := Aside0.mk (below_step (by repeat (first | (with_reducible first | exact HB.out | apply below_alloc | apply pw_below_drewN | apply below_drew1) | exact HB.out)) hb); clear HB; have HB := n0_; clear n0_; (try clear hb); (try clear hb2); (try clear hk); (try clear hi)) | (go_at_call 19; (with_reducible refine (laws_ldTwo.calls kj20 9 t201 t202 t221 t230 _ A47.out).mono ?_); rintro e w53 ⟨rfl, hb⟩; have n0_ := Aside0.mk (below_step (by repeat (first | (with_reducible first | exact HB.out | apply below_alloc | apply pw_below_drewN | apply below_drew1) | exact HB.out)) hb); clear HB; have HB := n0_; clear n0_; (try clear hb); (try clear hb2); (try clear hk); (try clear hi)) | (go_at_call 19; (with_reducible refine (laws_ldTwo.calls kj20 9 t201 t224 1 t231 _ A49.out).mono ?_); rintro e w54 ⟨rfl, hb⟩; have n0_ := Aside0.mk (below_step (by repeat (first | (with_reducible first | exact HB.out | apply below_alloc | apply pw_below_drewN | apply below_drew1) | exact HB.out)) hb); clear HB; have HB := n0_; clear n0_; (try clear hb); (try clear hb2); (try clear hk); (try clear hi)))
                            go_ret
                            exact ⟨by first | rfl | (simp [errW_none, errW_some] <;> rfl) | (simp [*, errW_none, errW_some] <;> rfl), by repeat (first | (with_reducible first | exact HB.out | apply below_alloc | apply pw_below_drewN | apply below_drew1) | exact HB.out)⟩
                          · rw [if_neg c48] at H
                            have c48b0 : (t230 == 0) = false := beq_eq_false_iff_ne.mpr c48
                            have c48b1 : (t230 != 0) = true := bne_iff_ne.mpr c48
                            obtain rfl := Option.some.inj H
                            go_wp2_with (first | ((with_reducible refine gate_callee (f := 22) rfl ?_); refine goesL_ (some 116) rfl rfl Try.func22 (by kernel_rfl) rfl #[.int .i64 2, .int .i64 t201, .int .i64 t202] rfl (by (try simp only [List.map_toArray, List.map_cons, List.map_nil]); first | done | rfl | (simp only [List.length_drop, List.length_take]; rfl)) ?_; (with_reducible refine (impl_WordOne.calls 2 t201 t202 t221 t222 true _ A39.out).mono ?_); rintro e w' ⟨rfl, ⟨nd, rfl⟩⟩; refine ⟨_, rfl, ?_⟩) | ((with_reducible refine gate_callee (f := 22) rfl ?_); refine goesL_ (some 123) rfl rfl Try.func22 (by kernel_rfl) rfl #[.int .i64 1, .int .i64 t201, .int .i64 t202] rfl (by (try simp only [List.map_toArray, List.map_cons, List.map_nil]); first | done | rfl | (simp only [List.length_drop, List.length_take]; rfl)) ?_; (with_reducible refine (impl_WordOne.calls 1 t201 t202 t224 t225 true _ A40.out).mono ?_); rintro e w' ⟨rfl, ⟨nd, rfl⟩⟩; refine ⟨_, rfl, ?_⟩) | (go_at_call 19; (with_reducible refine (laws_ldTwo.calls kj20 9 t201 t203 t208 t227 _ A43.out).mono ?_); rintro e w55 ⟨rfl, hb⟩; have n0_ := Aside0.mk (below_step (by repeat (first | (with_reducible first | exact HB.out | apply below_alloc | apply pw_below_drewN | apply below_drew1) | exact HB.out)) hb); clear HB; have HB := n0_; clear n0_; (try clear hb); (try clear hb2); (try clear hk); (try clear hi)) | (go_at_call 19; (with_reducible refine (laws_ldTwo.calls kj20 11 t201 t202 t227 t228 _ A44.out).mono ?_); rintro e w56 ⟨rfl, hb⟩; have n0_ := Aside0.mk (below_step (by repeat (first | (with_reducible first | exact HB.out | apply below_alloc | apply pw_below_drewN | apply below_drew1) | exact HB.out)) hb); clear HB; have HB := n0_; clear n0_; (try clear hb); (try clear hb2); (try clear hk); (try clear hi)) | (go_at_call 19; (with_reducible refine (laws_ldTwo.calls kj20 9 t201 t215 t216 t229 _ A45.out).mono ?_); rintro e w57 ⟨rfl, hb⟩; have n0_ := Aside0.mk (below_step (by repeat (first | (with_reducible first | exact HB.out | apply below_alloc | apply pw_below_drewN | apply below_drew1) | exact HB.out)) hb); clear HB; have HB := n0_; clear n0_; (try clear hb); (try clear hb2); (try clear hk); (try clear hi)) | (go_at_call 19; (with_reducible refine (laws_ldTwo.calls kj20 9 t201 t202 t221 t230 _ A47.out).mono ?_); rintro e w58 ⟨rfl, hb⟩; have n0_ := Aside0.mk (below_step (by repeat (first | (with_reducible first | exact HB.out | apply below_alloc | apply pw_below_drewN | apply below_drew1) | exact HB.out)) hb); clear HB; have HB := n0_; clear n0_; (try clear hb); (try clear hb2); (try clear hk); (try clear hi)))
                            go_ret
                            exact ⟨by first | rfl | (simp [errW_none, errW_some] <;> rfl) | (simp [*, errW_none, errW_some] <;> rfl), by repeat (first | (with_reducible first | exact HB.out | apply below_alloc | apply pw_below_drewN | apply below_drew1) | exact HB.out)⟩
                        · rw [if_neg c46] at H
                          have c46b0 : (t228 == t229) = false := beq_eq_false_iff_ne.mpr c46
                          have c46b1 : (t228 != t229) = true := bne_iff_ne.mpr c46
                          obtain rfl := Option.some.inj H
                          go_wp2_with (first | ((with_reducible refine gate_callee (f := 22) rfl ?_); refine goesL_ (some 116) rfl rfl Try.func22 (by kernel_rfl) rfl #[.int .i64 2, .int .i64 t201, .int .i64 t202] rfl (by (try simp only [List.map_toArray, List.map_cons, List.map_nil]); first | done | rfl | (simp only [List.length_drop, List.length_take]; rfl)) ?_; (with_reducible refine (impl_WordOne.calls 2 t201 t202 t221 t222 true _ A39.out).mono ?_); rintro e w' ⟨rfl, ⟨nd, rfl⟩⟩; refine ⟨_, rfl, ?_⟩) | ((with_reducible refine gate_callee (f := 22) rfl ?_); refine goesL_ (some 123) rfl rfl Try.func22 (by kernel_rfl) rfl #[.int .i64 1, .int .i64 t201, .int .i64 t202] rfl (by (try simp only [List.map_toArray, List.map_cons, List.map_nil]); first | done | rfl | (simp only [List.length_drop, List.length_take]; rfl)) ?_; (with_reducible refine (impl_WordOne.calls 1 t201 t202 t224 t225 true _ A40.out).mono ?_); rintro e w' ⟨rfl, ⟨nd, rfl⟩⟩; refine ⟨_, rfl, ?_⟩) | (go_at_call 19; (with_reducible refine (laws_ldTwo.calls kj20 9 t201 t203 t208 t227 _ A43.out).mono ?_); rintro e w59 ⟨rfl, hb⟩; have n0_ := Aside0.mk (below_step (by repeat (first | (with_reducible first | exact HB.out | apply below_alloc | apply pw_below_drewN | apply below_drew1) | exact HB.out)) hb); clear HB; have HB := n0_; clear n0_; (try clear hb); (try clear hb2); (try clear hk); (try clear hi)) | (go_at_call 19; (with_reducible refine (laws_ldTwo.calls kj20 11 t201 t202 t227 t228 _ A44.out).mono ?_); rintro e w60 ⟨rfl, hb⟩; have n0_ := Aside0.mk (below_step (by repeat (first | (with_reducible first | exact HB.out | apply below_alloc | apply pw_below_drewN | apply below_drew1) | exact HB.out)) hb); clear HB; have HB := n0_; clear n0_; (try clear hb); (try clear hb2); (try clear hk); (try clear hi)) | (go_at_call 19; (with_reducible refine (laws_ldTwo.calls kj20 9 t201 t215 t216 t229 _ A45.out).mono ?_); rintro e w61 ⟨rfl, hb⟩; have n0_ := Aside0.mk (below_step (by repeat (first | (with_reducible first | exact HB.out | apply below_alloc | apply pw_below_drewN | apply below_drew1) | exact HB.out)) hb); clear HB; have HB := n0_; clear n0_; (try clear hb); (try clear hb2); (try clear hk); (try clear hi)))
                          go_ret
                          exact ⟨by first | rfl | (simp [errW_none, errW_some] <;> rfl) | (simp [*, errW_none, errW_some] <;> rfl), by repeat (first | (with_reducible first | exact HB.out | apply below_alloc | apply pw_below_drewN | apply below_drew1) | exact HB.out)⟩
                      · replace c42 := Bool.eq_false_iff.mpr c42
                        subst c42
                        have H1 : (some false) = some r := by rw [if_neg (show ¬ (false = true) by decide)] at H; exact H
                        clear H
                        have H := H1
                        clear H1
                        obtain rfl := Option.some.inj H
                        go_wp2_with (first | ((with_reducible refine gate_callee (f := 22) rfl ?_); refine goesL_ (some 116) rfl rfl Try.func22 (by kernel_rfl) rfl #[.int .i64 2, .int .i64 t201, .int .i64 t202] rfl (by (try simp only [List.map_toArray, List.map_cons, List.map_nil]); first | done | rfl | (simp only [List.length_drop, List.length_take]; rfl)) ?_; (with_reducible refine (impl_WordOne.calls 2 t201 t202 t221 t222 true _ A39.out).mono ?_); rintro e w' ⟨rfl, ⟨nd, rfl⟩⟩; refine ⟨_, rfl, ?_⟩) | ((with_reducible refine gate_callee (f := 22) rfl ?_); refine goesL_ (some 123) rfl rfl Try.func22 (by kernel_rfl) rfl #[.int .i64 1, .int .i64 t201, .int .i64 t202] rfl (by (try simp only [List.map_toArray, List.map_cons, List.map_nil]); first | done | rfl | (simp only [List.length_drop, List.length_take]; rfl)) ?_; (with_reducible refine (impl_WordOne.calls 1 t201 t202 t224 t225 false _ A40.out).mono ?_); rintro e w' ⟨rfl, ⟨nd, rfl⟩⟩; refine ⟨_, rfl, ?_⟩))
                        go_ret
                        exact ⟨by first | rfl | (simp [errW_none, errW_some] <;> rfl) | (simp [*, errW_none, errW_some] <;> rfl), by repeat (first | (with_reducible first | exact HB.out | apply below_alloc | apply pw_below_drewN | apply below_drew1) | exact HB.out)⟩
                    · replace c41 := Bool.eq_false_iff.mpr c41
                      subst c41
                      have H1 : (some false) = some r := by rw [if_neg (show ¬ (false = true) by decide)] at H; exact H
                      clear H
                      have H := H1
                      clear H1
                      obtain rfl := Option.some.inj H
                      go_wp2_with (first | ((with_reducible refine gate_callee (f := 22) rfl ?_); refine goesL_ (some 116) rfl rfl Try.func22 (by kernel_rfl) rfl #[.int .i64 2, .int .i64 t201, .int .i64 t202] rfl (by (try simp only [List.map_toArray, List.map_cons, List.map_nil]); first | done | rfl | (simp only [List.length_drop, List.length_take]; rfl)) ?_; (with_reducible refine (impl_WordOne.calls 2 t201 t202 t221 t222 false _ A39.out).mono ?_); rintro e w' ⟨rfl, ⟨nd, rfl⟩⟩; refine ⟨_, rfl, ?_⟩) | ((with_reducible refine gate_callee (f := 22) rfl ?_); refine goesL_ (some 123) rfl rfl Try.func22 (by kernel_rfl) rfl #[.int .i64 1, .int .i64 t201, .int .i64 t202] rfl (by (try simp only [List.map_toArray, List.map_cons, List.map_nil]); first | done | rfl | (simp only [List.length_drop, List.length_take]; rfl)) ?_; (with_reducible refine (impl_WordOne.calls 1 t201 t202 t224 t225 t226 _ A40.out).mono ?_); rintro e w' ⟨rfl, ⟨nd, rfl⟩⟩; refine ⟨_, rfl, ?_⟩))
                      go_ret
                      exact ⟨by first | rfl | (simp [errW_none, errW_some] <;> rfl) | (simp [*, errW_none, errW_some] <;> rfl), by repeat (first | (with_reducible first | exact HB.out | apply below_alloc | apply pw_below_drewN | apply below_drew1) | exact HB.out)⟩

/-- THE ONE PURE STATEMENT of laws_FnRing: yours. -/
def laws_FnRing.Pure : Prop := ∀ (l0 : List Int) (l1 : List Int), l0.length ≤ maxLen → l0.length * 1 ≤ 140737488351232 → (∀ x ∈ l0, (Lit.int .u8 x).wf = true) → l1.length ≤ maxLen → l1.length * 1 ≤ 140737488351232 → (∀ x ∈ l1, (Lit.int .u8 x).wf = true) → ∃ k, laws_FnRing.f k l0 l1 = some true
theorem laws_FnRing.walk (P : laws_FnRing.Pure) (a0 : Option Addr) (len0 cap0 : Nat) (z0 : List Int) (a1 : Option Addr) (len1 cap1 : Nat) (z1 : List Int) (w : World) (w0 : (a0 = none ∧ len0 = 0 ∧ cap0 = 0 ∧ z0 = []) ∨ ∃ x, a0 = some x ∧ len0 ≤ cap0 ∧ cap0 ≤ maxLen ∧ z0.length = cap0 ∧ (∀ i, i < z0.length → w.cell? (x.add i) = some (.int .u8 (z0.getD i 0))) ∧ ∀ n ∈ z0, (Lit.int .u8 n).wf = true) (y0 : len0 * 1 ≤ 140737488351232) (w1 : (a1 = none ∧ len1 = 0 ∧ cap1 = 0 ∧ z1 = []) ∨ ∃ x, a1 = some x ∧ len1 ≤ cap1 ∧ cap1 ≤ maxLen ∧ z1.length = cap1 ∧ (∀ i, i < z1.length → w.cell? (x.add i) = some (.int .u8 (z1.getD i 0))) ∧ ∀ n ∈ z1, (Lit.int .u8 n).wf = true) (y1 : len1 * 1 ≤ 140737488351232) :
    Calls Try.prog 7 #[.slice a0 len0 cap0, .slice a1 len1 cap1] w fun e w' => e = .returned (.bool true) ∧ Below w.heap.size w w' := by
  obtain ⟨l0, rfl, hr0, hm0, hw0, hc0⟩ := ReadsInt.ofRowC w0
  obtain ⟨l1, rfl, hr1, hm1, hw1, hc1⟩ := ReadsInt.ofRowC w1
  obtain ⟨k, h⟩ := P l0 l1 hm0 y0 hw0 hm1 y1 hw1
  refine (laws_FnRing.calls k _ _ l0 _ _ l1 true w (Kd.C_of_reads (d := (0 : Int)) (h1 := fun _ => rfl) hr0) hc0 (Kd.C_of_reads (d := (0 : Int)) (h1 := fun _ => rfl) hr1) hc1 h).mono ?_
  rintro e w' ⟨rfl, hd⟩
  exact ⟨rfl, hd⟩

end Go.Proofs.Ytohojfcpnlobjaa.PFnRing
