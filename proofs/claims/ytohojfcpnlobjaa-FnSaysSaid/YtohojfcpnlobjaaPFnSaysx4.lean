-- Written by a program of this session (wip/pp).
import Derived.Test.YtohojfcpnlobjaaPFnSaysx0
import Derived.Test.YtohojfcpnlobjaaPFnSaysx1
import Derived.Test.YtohojfcpnlobjaaPFnSaysx2
import Derived.Test.YtohojfcpnlobjaaPFnSaysx3
namespace Go.Proofs.Ytohojfcpnlobjaa.PFnSays
open Go.RowKit Go.Proofs.YtohojfcpnlobjaaW.PrintWords Go.Proofs.YtohojfcpnlobjaaW.PrintLast Go.Proofs.YtohojfcpnlobjaaW.PrintMore
attribute [local go_sem] max2_int min2_int max_two min_two max_three min_three max_four min_four   -- for this text's walks alone
set_option linter.unusedVariables false
set_option linter.unusedSimpArgs false

/-! ### laws_FnSays: function 5 -/
mutual
def laws_FnSays.j0 : Nat → Int → Int → Int → Bool → Option (Bool)
  | 0, _, _, _, _ => none
  | k + 1, x4, x5, x6, x37 => if x37 = true then ((impl_WordTwo.f k 22 x4 x5 x6).bind fun bt194 => (some (!bt194.2.2))) else ((impl_WordSigned.f x4 x5).bind fun t197 => ((impl_WordSigned.f x4 x6).bind fun t198 => (if 0 ≤ (IntKind.u64.wrap (x4)) then ((spec_WordSigned.f x4 x5).bind fun t199 => (if t197 = t199 then ((spec_WordSigned.f x4 x6).bind fun t200 => (laws_FnSays.j1 k x4 x5 x6 t197 t198 (shl .i64 1 (IntKind.u64.wrap (x4))) (t198 != t200))) else (laws_FnSays.j1 k x4 x5 x6 t197 t198 (shl .i64 1 (IntKind.u64.wrap (x4))) true))) else (none))))
def laws_FnSays.j1 : Nat → Int → Int → Int → Int → Int → Int → Bool → Option (Bool)
  | 0, _, _, _, _, _, _, _ => none
  | k + 1, x4, x5, x6, x10, x11, x12, x68 => if x68 = true then (some false) else (if (wrap64 (x10 + x11)) ≥ (wrap64 (Int.tdiv x12 2)) then (laws_FnSays.j2 k x4 x5 x6 (([(x5 == x6), decide (x5 < x6), decide (x10 < x11), decide (x5 ≤ x6), decide (x10 ≤ x11), decide ((wrap64 (x5 + x6)) ≥ x12), true, decide ((wrap64 (x5 * x6)) ≥ x12)] : List Bool))) else (laws_FnSays.j2 k x4 x5 x6 (([(x5 == x6), decide (x5 < x6), decide (x10 < x11), decide (x5 ≤ x6), decide (x10 ≤ x11), decide ((wrap64 (x5 + x6)) ≥ x12), decide ((wrap64 (x10 + x11)) < (wrap64 (Int.tdiv (wrap64 (-x12)) 2))), decide ((wrap64 (x5 * x6)) ≥ x12)] : List Bool))))
def laws_FnSays.j2 : Nat → Int → Int → Int → List Bool → Option (Bool)
  | 0, _, _, _, _ => none
  | k + 1, x4, x5, x6, x13 => laws_FnSays.l0 k x4 x5 x6 x13 0
def laws_FnSays.l0 : Nat → Int → Int → Int → List Bool → Int → Option (Bool)
  | 0, _, _, _, _, _ => none
  | k + 1, x4, x5, x6, x13, x14 => if x14 < (x13.length : Int) then ((impl_WordTwo.f k (wrap64 (21 + x14)) x4 x5 x6).bind fun bt207 => (if bt207.2.2 = true then (if bt207.2.1 = 1 then (if 0 ≤ x14 then (if ((bt207.1 == 1) != (rdOf false x13 x14)) = true then (some false) else (laws_FnSays.l0 k x4 x5 x6 x13 (wrap64 (x14 + 1)))) else (none)) else (some false)) else (some false))) else (some true)
end
def laws_FnSays.f (k : Nat) (l0 : List Int) : Option (Bool) := if (l0.length : Int) > 1048576 then (some true) else ((spec_DrawWordTwo.f k l0).bind fun bt188 => ((spec_WordOk.f bt188.2.1 bt188.2.2.1).bind fun t192 => (if t192 = true then ((spec_WordOk.f bt188.2.1 bt188.2.2.2).bind fun t193 => (laws_FnSays.j0 k bt188.2.1 bt188.2.2.1 bt188.2.2.2 (!t193))) else (laws_FnSays.j0 k bt188.2.1 bt188.2.2.1 bt188.2.2.2 true))))
theorem laws_FnSays.mono_l : ∀ k, (∀ y0 y1 y2 y3, LeO (laws_FnSays.j0 k y0 y1 y2 y3) (laws_FnSays.j0 (k + 1) y0 y1 y2 y3)) ∧ (∀ y0 y1 y2 y3 y4 y5 y6, LeO (laws_FnSays.j1 k y0 y1 y2 y3 y4 y5 y6) (laws_FnSays.j1 (k + 1) y0 y1 y2 y3 y4 y5 y6)) ∧ (∀ y0 y1 y2 y3, LeO (laws_FnSays.j2 k y0 y1 y2 y3) (laws_FnSays.j2 (k + 1) y0 y1 y2 y3)) ∧ (∀ y0 y1 y2 y3 y4, LeO (laws_FnSays.l0 k y0 y1 y2 y3 y4) (laws_FnSays.l0 (k + 1) y0 y1 y2 y3 y4))
  | 0 => ⟨fun _ _ _ _ r h => by simp [laws_FnSays.j0] at h, fun _ _ _ _ _ _ _ r h => by simp [laws_FnSays.j1] at h, fun _ _ _ _ r h => by simp [laws_FnSays.j2] at h, fun _ _ _ _ _ r h => by simp [laws_FnSays.l0] at h⟩
  | k + 1 => by
    obtain ⟨ih0, ih1, ih2, ih3⟩ := laws_FnSays.mono_l k
    refine ⟨?_, ?_, ?_, ?_⟩
    · intro y0 y1 y2 y3
      unfold laws_FnSays.j0
      repeat' first
      | (with_reducible exact ih0 _ _ _ _)
      | (with_reducible exact ih1 _ _ _ _ _ _ _)
      | (with_reducible exact ih2 _ _ _ _)
      | (with_reducible exact ih3 _ _ _ _ _)
      | (with_reducible exact impl_WordTwo.mono _ _ _ _ _)
      | (with_reducible exact spec_DrawWordTwo.mono _ _)
      | (with_reducible exact LeO.refl _)
      | (with_reducible exact LeO.none _)
      | (with_reducible refine LeO.ite ?_ ?_)
      | (with_reducible refine LeO.bind ?_ (fun _ => ?_))
      | exact ih0 _ _ _ _
      | exact ih1 _ _ _ _ _ _ _
      | exact ih2 _ _ _ _
      | exact ih3 _ _ _ _ _
      | exact impl_WordTwo.mono _ _ _ _ _
      | exact spec_DrawWordTwo.mono _ _
      | exact LeO.none _
      | refine LeO.ite ?_ ?_
      | refine LeO.bind ?_ (fun _ => ?_)
    · intro y0 y1 y2 y3 y4 y5 y6
      unfold laws_FnSays.j1
      repeat' first
      | (with_reducible exact ih0 _ _ _ _)
      | (with_reducible exact ih1 _ _ _ _ _ _ _)
      | (with_reducible exact ih2 _ _ _ _)
      | (with_reducible exact ih3 _ _ _ _ _)
      | (with_reducible exact impl_WordTwo.mono _ _ _ _ _)
      | (with_reducible exact spec_DrawWordTwo.mono _ _)
      | (with_reducible exact LeO.refl _)
      | (with_reducible exact LeO.none _)
      | (with_reducible refine LeO.ite ?_ ?_)
      | (with_reducible refine LeO.bind ?_ (fun _ => ?_))
      | exact ih0 _ _ _ _
      | exact ih1 _ _ _ _ _ _ _
      | exact ih2 _ _ _ _
      | exact ih3 _ _ _ _ _
      | exact impl_WordTwo.mono _ _ _ _ _
      | exact spec_DrawWordTwo.mono _ _
      | exact LeO.none _
      | refine LeO.ite ?_ ?_
      | refine LeO.bind ?_ (fun _ => ?_)
    · intro y0 y1 y2 y3
      unfold laws_FnSays.j2
      repeat' first
      | (with_reducible exact ih0 _ _ _ _)
      | (with_reducible exact ih1 _ _ _ _ _ _ _)
      | (with_reducible exact ih2 _ _ _ _)
      | (with_reducible exact ih3 _ _ _ _ _)
      | (with_reducible exact impl_WordTwo.mono _ _ _ _ _)
      | (with_reducible exact spec_DrawWordTwo.mono _ _)
      | (with_reducible exact LeO.refl _)
      | (with_reducible exact LeO.none _)
      | (with_reducible refine LeO.ite ?_ ?_)
      | (with_reducible refine LeO.bind ?_ (fun _ => ?_))
      | exact ih0 _ _ _ _
      | exact ih1 _ _ _ _ _ _ _
      | exact ih2 _ _ _ _
      | exact ih3 _ _ _ _ _
      | exact impl_WordTwo.mono _ _ _ _ _
      | exact spec_DrawWordTwo.mono _ _
      | exact LeO.none _
      | refine LeO.ite ?_ ?_
      | refine LeO.bind ?_ (fun _ => ?_)
    · intro y0 y1 y2 y3 y4
      unfold laws_FnSays.l0
      repeat' first
      | (with_reducible exact ih0 _ _ _ _)
      | (with_reducible exact ih1 _ _ _ _ _ _ _)
      | (with_reducible exact ih2 _ _ _ _)
      | (with_reducible exact ih3 _ _ _ _ _)
      | (with_reducible exact impl_WordTwo.mono _ _ _ _ _)
      | (with_reducible exact spec_DrawWordTwo.mono _ _)
      | (with_reducible exact LeO.refl _)
      | (with_reducible exact LeO.none _)
      | (with_reducible refine LeO.ite ?_ ?_)
      | (with_reducible refine LeO.bind ?_ (fun _ => ?_))
      | exact ih0 _ _ _ _
      | exact ih1 _ _ _ _ _ _ _
      | exact ih2 _ _ _ _
      | exact ih3 _ _ _ _ _
      | exact impl_WordTwo.mono _ _ _ _ _
      | exact spec_DrawWordTwo.mono _ _
      | exact LeO.none _
      | refine LeO.ite ?_ ?_
      | refine LeO.bind ?_ (fun _ => ?_)
theorem laws_FnSays.mono : ∀ a0 k, LeO (laws_FnSays.f k a0) (laws_FnSays.f (k + 1) a0) := by
  intro a0 k
  obtain ⟨ih0, ih1, ih2, ih3⟩ := laws_FnSays.mono_l k
  unfold laws_FnSays.f
  repeat' first
      | (with_reducible exact ih0 _ _ _ _)
      | (with_reducible exact ih1 _ _ _ _ _ _ _)
      | (with_reducible exact ih2 _ _ _ _)
      | (with_reducible exact ih3 _ _ _ _ _)
      | (with_reducible exact impl_WordTwo.mono _ _ _ _ _)
      | (with_reducible exact spec_DrawWordTwo.mono _ _)
      | (with_reducible exact LeO.refl _)
      | (with_reducible exact LeO.none _)
      | (with_reducible refine LeO.ite ?_ ?_)
      | (with_reducible refine LeO.bind ?_ (fun _ => ?_))
      | exact ih0 _ _ _ _
      | exact ih1 _ _ _ _ _ _ _
      | exact ih2 _ _ _ _
      | exact ih3 _ _ _ _ _
      | exact impl_WordTwo.mono _ _ _ _ _
      | exact spec_DrawWordTwo.mono _ _
      | exact LeO.none _
      | refine LeO.ite ?_ ?_
      | refine LeO.bind ?_ (fun _ => ?_)
set_option maxHeartbeats 8000000 in
set_option maxRecDepth 100000 in
theorem laws_FnSays.calls (k : Nat) (A0 : Option Addr) (c0 : Nat) (l0 : List Int) (r : Bool) (w : World) (hr0 : Kd.C (Kd.int .u8) w A0 l0.length l0) (hc0 : l0.length ≤ c0) (h : laws_FnSays.f k l0 = some r) :
    Calls Try.prog 5 #[.slice A0 l0.length c0] w fun e w' => e = .returned (.bool r) ∧ Below w.heap.size w w' := by
  have HR0 := Aside0.mk hr0
  have HC0 := Aside0.mk hc0
  clear hr0 hc0
  have HB := Aside0.mk (Below.refl w.heap.size w)
  have H : (if (l0.length : Int) > 1048576 then (some true) else ((spec_DrawWordTwo.f k l0).bind fun bt188 => ((spec_WordOk.f bt188.2.1 bt188.2.2.1).bind fun t192 => (if t192 = true then ((spec_WordOk.f bt188.2.1 bt188.2.2.2).bind fun t193 => (laws_FnSays.j0 k bt188.2.1 bt188.2.2.1 bt188.2.2.2 (!t193))) else (laws_FnSays.j0 k bt188.2.1 bt188.2.2.1 bt188.2.2.2 true))))) = some r := h
  clear h
  by_cases c2 : (l0.length : Int) > 1048576
  · rw [if_pos c2] at H
    have c2b0 : decide (1048576 < (l0.length : Int)) = true := decide_eq_true c2
    have c2b1 : decide (1048576 < l0.length) = true := decide_eq_true (by omega)
    clear c2
    obtain rfl := Option.some.inj H
    go_enter Try.func5, Try.ntmps5
    go_wp2
    go_ret
    exact ⟨by first | rfl | (simp [errW_none, errW_some] <;> rfl) | (simp [*, errW_none, errW_some] <;> rfl), by repeat (first | (with_reducible first | exact HB.out | apply below_alloc | apply pw_below_drewN | apply below_drew1) | exact HB.out)⟩
  · rw [if_neg c2] at H
    have c2b0 : decide (1048576 < (l0.length : Int)) = false := decide_eq_false c2
    have c2b1 : decide (1048576 < l0.length) = false := decide_eq_false (by omega)
    clear c2
    replace H := Option.bind_eq_some_iff.mp H
    obtain ⟨⟨t188, t189, t190, t191⟩, A30, H⟩ := H
    replace H : ((spec_WordOk.f t189 t190).bind fun t192 => (if t192 = true then ((spec_WordOk.f t189 t191).bind fun t193 => (laws_FnSays.j0 k t189 t190 t191 (!t193))) else (laws_FnSays.j0 k t189 t190 t191 true))) = some r := H
    have A3 := Aside0.mk A30
    clear A30
    have HC4 := Aside0.mk H
    clear H
    go_enter Try.func5, Try.ntmps5
    go_upto_region 4 with (first | ((with_reducible refine gate_callee (f := 16) rfl ?_); refine goesL_ (some 23) rfl rfl Try.func16 (by kernel_rfl) rfl #[.slice A0 l0.length c0] rfl (by (try simp only [List.map_toArray, List.map_cons, List.map_nil]); first | done | rfl | (simp only [List.length_drop, List.length_take]; rfl)) ?_; (with_reducible refine (spec_DrawWordTwo.calls k _ _ l0 t188 t189 t190 t191 _ ?side1 ?side2 A3.out).mono ?_); (case side1 => repeat (first | exact HR0.out | (with_reducible refine Kd.C_alloc ?_ _) | (with_reducible refine Kd.C_drewN ?_ _) | (with_reducible refine Kd.C_drew ?_))); (case side2 => exact HC0.out); rintro e w5 ⟨rfl, hb⟩; refine ⟨_, rfl, ?_⟩; have n0_ := Aside0.mk (below_step (by repeat (first | (with_reducible first | exact HB.out | apply below_alloc | apply pw_below_drewN | apply below_drew1) | exact HB.out)) hb); clear HB; have HB := n0_; clear n0_; (try clear hb); (try clear hb2); (try clear hk); (try clear hi)))
    (try simp only [Act.put, List.setIfInBounds_toArray, List.set_cons_zero, List.set_cons_succ])
    go_cut [37] (fun v37 wc => ∃ (kq : Nat) (x37_3 : Bool), v37 = .bool x37_3 ∧ Aside0 (laws_FnSays.j0 kq t189 t190 t191 x37_3 = some r) ∧ Aside0 (kq ≤ k) ∧ Aside0 (Below w.heap.size w wc))
    case first =>
      have H := HC4.out
      clear HC4
      replace H := Option.bind_eq_some_iff.mp H
      obtain ⟨t192, A60, H⟩ := H
      replace H : (if t192 = true then ((spec_WordOk.f t189 t191).bind fun t193 => (laws_FnSays.j0 k t189 t190 t191 (!t193))) else (laws_FnSays.j0 k t189 t190 t191 true)) = some r := H
      have A6 := Aside0.mk A60
      clear A60
      by_cases c7 : t192 = true
      · subst c7
        have H1 : ((spec_WordOk.f t189 t191).bind fun t193 => (laws_FnSays.j0 k t189 t190 t191 (!t193))) = some r := by rw [if_pos rfl] at H; exact H
        clear H
        have H := H1
        clear H1
        replace H := Option.bind_eq_some_iff.mp H
        obtain ⟨t193, A80, H⟩ := H
        replace H : (laws_FnSays.j0 k t189 t190 t191 (!t193)) = some r := H
        have A8 := Aside0.mk A80
        clear A80
        have H' := Aside0.mk H
        clear H
        go_wp2_with (first | ((with_reducible refine gate_callee (f := 17) rfl ?_); refine goesL_ (some 30) rfl rfl Try.func17 (by kernel_rfl) rfl #[.int .i64 t189, .int .i64 t190] rfl (by (try simp only [List.map_toArray, List.map_cons, List.map_nil]); first | done | rfl | (simp only [List.length_drop, List.length_take]; rfl)) ?_; (with_reducible refine (spec_WordOk.calls t189 t190 true _ A6.out).mono ?_); rintro e w' ⟨rfl, ⟨nd, rfl⟩⟩; refine ⟨_, rfl, ?_⟩) | (go_at_call 17; (with_reducible refine (spec_WordOk.calls t189 t191 t193 _ A8.out).mono ?_); rintro e w' ⟨rfl, ⟨nd, rfl⟩⟩))
        go_meet
        case rel => exact ⟨_, (!t193), (by first | rfl | (simp; done) | (simp [*]; done) | (exfalso; simp only [beq_iff_eq] at *; omega)), H', ⟨by first | omega | exact Nat.le_refl _⟩, ⟨by repeat (first | (with_reducible first | exact HB.out | apply below_alloc | apply pw_below_drewN | apply below_drew1) | exact HB.out)⟩⟩
      · replace c7 := Bool.eq_false_iff.mpr c7
        subst c7
        have H1 : (laws_FnSays.j0 k t189 t190 t191 true) = some r := by rw [if_neg (show ¬ (false = true) by decide)] at H; exact H
        clear H
        have H := H1
        clear H1
        have H' := Aside0.mk H
        clear H
        go_wp2_with (first | ((with_reducible refine gate_callee (f := 17) rfl ?_); refine goesL_ (some 30) rfl rfl Try.func17 (by kernel_rfl) rfl #[.int .i64 t189, .int .i64 t190] rfl (by (try simp only [List.map_toArray, List.map_cons, List.map_nil]); first | done | rfl | (simp only [List.length_drop, List.length_take]; rfl)) ?_; (with_reducible refine (spec_WordOk.calls t189 t190 false _ A6.out).mono ?_); rintro e w' ⟨rfl, ⟨nd, rfl⟩⟩; refine ⟨_, rfl, ?_⟩))
        go_meet
        case rel => exact ⟨_, (true), (by first | rfl | (simp; done) | (simp [*]; done) | (exfalso; simp only [beq_iff_eq] at *; omega)), H', ⟨by first | omega | exact Nat.le_refl _⟩, ⟨by repeat (first | (with_reducible first | exact HB.out | apply below_alloc | apply pw_below_drewN | apply below_drew1) | exact HB.out)⟩⟩
    case rest =>
      clear HC4
      try clear c1
      try clear c2
      try clear c2b0
      try clear c2b1
      try clear p2
      try clear c5
      try clear c7
      obtain ⟨kq, x37_3, rfl, HA, HJ3, HB⟩ := hcut
      cases kq with
      | zero => exact absurd HA.out (by simp [laws_FnSays.j0])
      | succ kj3 =>
        have H := HA.out
        clear HA
        simp only [laws_FnSays.j0] at H
        by_cases c9 : x37_3 = true
        · subst c9
          have H1 : ((impl_WordTwo.f kj3 22 t189 t190 t191).bind fun bt194 => (some (!bt194.2.2))) = some r := by rw [if_pos rfl] at H; exact H
          clear H
          have H := H1
          clear H1
          replace H := Option.bind_eq_some_iff.mp H
          obtain ⟨⟨t194, t195, t196⟩, A100, H⟩ := H
          replace H : (some (!t196)) = some r := H
          have A10 := Aside0.mk A100
          clear A100
          obtain rfl := Option.some.inj H
          go_wp2_with (first | ((with_reducible refine gate_callee (f := 18) rfl ?_); refine goesL_ (some 42) rfl rfl Try.func18 (by kernel_rfl) rfl #[.int .i64 22, .int .i64 t189, .int .i64 t190, .int .i64 t191] rfl (by (try simp only [List.map_toArray, List.map_cons, List.map_nil]); first | done | rfl | (simp only [List.length_drop, List.length_take]; rfl)) ?_; (with_reducible refine (impl_WordTwo.calls kj3 22 t189 t190 t191 t194 t195 t196 _ A10.out).mono ?_); rintro e w11 ⟨rfl, hb⟩; refine ⟨_, rfl, ?_⟩; have n0_ := Aside0.mk (below_step (by repeat (first | (with_reducible first | exact HB.out | apply below_alloc | apply pw_below_drewN | apply below_drew1) | exact HB.out)) hb); clear HB; have HB := n0_; clear n0_; (try clear hb); (try clear hb2); (try clear hk); (try clear hi)))
          go_ret
          exact ⟨by first | rfl | (simp [errW_none, errW_some] <;> rfl) | (simp [*, errW_none, errW_some] <;> rfl), by repeat (first | (with_reducible first | exact HB.out | apply below_alloc | apply pw_below_drewN | apply below_drew1) | exact HB.out)⟩
        · replace c9 := Bool.eq_false_iff.mpr c9
          subst c9
          have H1 : ((impl_WordSigned.f t189 t190).bind fun t197 => ((impl_WordSigned.f t189 t191).bind fun t198 => (if 0 ≤ (IntKind.u64.wrap (t189)) then ((spec_WordSigned.f t189 t190).bind fun t199 => (if t197 = t199 then ((spec_WordSigned.f t189 t191).bind fun t200 => (laws_FnSays.j1 kj3 t189 t190 t191 t197 t198 (shl .i64 1 (IntKind.u64.wrap (t189))) (t198 != t200))) else (laws_FnSays.j1 kj3 t189 t190 t191 t197 t198 (shl .i64 1 (IntKind.u64.wrap (t189))) true))) else (none)))) = some r := by rw [if_neg (show ¬ (false = true) by decide)] at H; exact H
          clear H
          have H := H1
          clear H1
          replace H := Option.bind_eq_some_iff.mp H
          obtain ⟨t197, A120, H⟩ := H
          replace H : ((impl_WordSigned.f t189 t191).bind fun t198 => (if 0 ≤ (IntKind.u64.wrap (t189)) then ((spec_WordSigned.f t189 t190).bind fun t199 => (if t197 = t199 then ((spec_WordSigned.f t189 t191).bind fun t200 => (laws_FnSays.j1 kj3 t189 t190 t191 t197 t198 (shl .i64 1 (IntKind.u64.wrap (t189))) (t198 != t200))) else (laws_FnSays.j1 kj3 t189 t190 t191 t197 t198 (shl .i64 1 (IntKind.u64.wrap (t189))) true))) else (none))) = some r := H
          have A12 := Aside0.mk A120
          clear A120
          replace H := Option.bind_eq_some_iff.mp H
          obtain ⟨t198, A130, H⟩ := H
          replace H : (if 0 ≤ (IntKind.u64.wrap (t189)) then ((spec_WordSigned.f t189 t190).bind fun t199 => (if t197 = t199 then ((spec_WordSigned.f t189 t191).bind fun t200 => (laws_FnSays.j1 kj3 t189 t190 t191 t197 t198 (shl .i64 1 (IntKind.u64.wrap (t189))) (t198 != t200))) else (laws_FnSays.j1 kj3 t189 t190 t191 t197 t198 (shl .i64 1 (IntKind.u64.wrap (t189))) true))) else (none)) = some r := H
          have A13 := Aside0.mk A130
          clear A130
          obtain ⟨ji14, hji14⟩ : ∃ j_ : Int, (IntKind.u64.wrap (t189)) = j_ := ⟨_, rfl⟩
          replace H : (if 0 ≤ (ji14) then ((spec_WordSigned.f t189 t190).bind fun t199 => (if t197 = t199 then ((spec_WordSigned.f t189 t191).bind fun t200 => (laws_FnSays.j1 kj3 t189 t190 t191 t197 t198 (shl .i64 1 (ji14)) (t198 != t200))) else (laws_FnSays.j1 kj3 t189 t190 t191 t197 t198 (shl .i64 1 (ji14)) true))) else (none)) = some r := by first | (rw [hji14] at H; exact H) | (simp only [hji14] at H ⊢; exact H)
          (try rw [hji14] at A12)
          (try rw [hji14] at A13)
          by_cases c15 : 0 ≤ (ji14)
          · rw [if_pos c15] at H
            have c15b0 := eq_true c15
            have c15b1 : decide (0 ≤ (ji14)) = true := decide_eq_true c15
            clear c15
            obtain ⟨ji16, hji16⟩ : ∃ j_ : Int, (shl .i64 1 (ji14)) = j_ := ⟨_, rfl⟩
            replace H : ((spec_WordSigned.f t189 t190).bind fun t199 => (if t197 = t199 then ((spec_WordSigned.f t189 t191).bind fun t200 => (laws_FnSays.j1 kj3 t189 t190 t191 t197 t198 ji16 (t198 != t200))) else (laws_FnSays.j1 kj3 t189 t190 t191 t197 t198 ji16 true))) = some r := by first | (rw [hji16] at H; exact H) | (simp only [hji16] at H ⊢; exact H)
            (try rw [hji16] at A12)
            (try rw [hji16] at A13)
            have hji16_ : (IntKind.i64.wrap (1 * 2 ^ min (ji14).toNat 64)) = ji16 := hji16
            have hji16z : (ji14) ≤ 64 → (IntKind.i64.wrap (1 * 2 ^ (ji14).toNat)) = ji16 := shl_small hji16
            have hji16u : (IntKind.i64.wrap (2 ^ min (ji14).toNat 64)) = ji16 := by have h_ := hji16_; rw [Int.one_mul] at h_; exact h_
            have hji16v : (ji14) ≤ 64 → (IntKind.i64.wrap (2 ^ (ji14).toNat)) = ji16 := fun hle_ => by have h_ := hji16z hle_; rw [Int.one_mul] at h_; exact h_
            have hji16y : (wrap64 (1 * 2 ^ min (ji14).toNat 64)) = ji16 := (i64_w _).symm.trans hji16_
            have hji16x : (ji14) ≤ 64 → (wrap64 (1 * 2 ^ (ji14).toNat)) = ji16 := fun h_ => (i64_w _).symm.trans (hji16z h_)
            have HC17 := Aside0.mk H
            clear H
            go_upto_region 10 with (first | ((with_reducible refine gate_callee (f := 15) rfl ?_); refine goesL_ (some 50) rfl rfl Try.func15 (by kernel_rfl) rfl #[.int .i64 t189, .int .i64 t190] rfl (by (try simp only [List.map_toArray, List.map_cons, List.map_nil]); first | done | rfl | (simp only [List.length_drop, List.length_take]; rfl)) ?_; (with_reducible refine (impl_WordSigned.calls t189 t190 t197 _ A12.out).mono ?_); rintro e w' ⟨rfl, ⟨nd, rfl⟩⟩; refine ⟨_, rfl, ?_⟩) | ((with_reducible refine gate_callee (f := 15) rfl ?_); refine goesL_ (some 53) rfl rfl Try.func15 (by kernel_rfl) rfl #[.int .i64 t189, .int .i64 t191] rfl (by (try simp only [List.map_toArray, List.map_cons, List.map_nil]); first | done | rfl | (simp only [List.length_drop, List.length_take]; rfl)) ?_; (with_reducible refine (impl_WordSigned.calls t189 t191 t198 _ A13.out).mono ?_); rintro e w' ⟨rfl, ⟨nd, rfl⟩⟩; refine ⟨_, rfl, ?_⟩))
            (try simp only [Act.put, List.setIfInBounds_toArray, List.set_cons_zero, List.set_cons_succ])
            go_cut [68] (fun v68 wc => ∃ (kq : Nat) (x68_16 : Bool), v68 = .bool x68_16 ∧ Aside0 (laws_FnSays.j1 kq t189 t190 t191 t197 t198 ji16 x68_16 = some r) ∧ Aside0 (kq ≤ kj3) ∧ Aside0 (Below w.heap.size w wc))
            case first =>
              have H := HC17.out
              clear HC17
              replace H := Option.bind_eq_some_iff.mp H
              obtain ⟨t199, A180, H⟩ := H
              replace H : (if t197 = t199 then ((spec_WordSigned.f t189 t191).bind fun t200 => (laws_FnSays.j1 kj3 t189 t190 t191 t197 t198 ji16 (t198 != t200))) else (laws_FnSays.j1 kj3 t189 t190 t191 t197 t198 ji16 true)) = some r := H
              have A18 := Aside0.mk A180
              clear A180
              by_cases c19 : t197 = t199
              · rw [if_pos c19] at H
                have c19b0 : (t197 == t199) = true := beq_iff_eq.mpr c19
                have c19b1 : (t197 != t199) = false := bne_eq_false_iff_eq.mpr c19
                clear c19
                (first | rw [c19b0] | (simp only [i64_w, i32_w]; rw [c19b0]) | skip)
                replace H := Option.bind_eq_some_iff.mp H
                obtain ⟨t200, A200, H⟩ := H
                replace H : (laws_FnSays.j1 kj3 t189 t190 t191 t197 t198 ji16 (t198 != t200)) = some r := H
                have A20 := Aside0.mk A200
                clear A200
                have H' := Aside0.mk H
                clear H
                go_wp2_with (first | ((with_reducible refine gate_callee (f := 20) rfl ?_); refine goesL_ (some 60) rfl rfl Try.func20 (by kernel_rfl) rfl #[.int .i64 t189, .int .i64 t190] rfl (by (try simp only [List.map_toArray, List.map_cons, List.map_nil]); first | done | rfl | (simp only [List.length_drop, List.length_take]; rfl)) ?_; (with_reducible refine (spec_WordSigned.calls t189 t190 t199 _ A18.out).mono ?_); rintro e w' ⟨rfl, ⟨nd, rfl⟩⟩; refine ⟨_, rfl, ?_⟩) | (go_at_call 20; (with_reducible refine (spec_WordSigned.calls t189 t191 t200 _ A20.out).mono ?_); rintro e w' ⟨rfl, ⟨nd, rfl⟩⟩))
                go_meet
                case rel => exact ⟨_, ((t198 != t200)), (by first | rfl | (simp; done) | (simp [*]; done) | (exfalso; simp only [beq_iff_eq] at *; omega)), H', ⟨by have := HJ3.out; first | omega | exact Nat.le_refl _⟩, ⟨by repeat (first | (with_reducible first | exact HB.out | apply below_alloc | apply pw_below_drewN | apply below_drew1) | exact HB.out)⟩⟩
              · rw [if_neg c19] at H
                have c19b0 : (t197 == t199) = false := beq_eq_false_iff_ne.mpr c19
                have c19b1 : (t197 != t199) = true := bne_iff_ne.mpr c19
                (first | rw [c19b0] | (simp only [i64_w, i32_w]; rw [c19b0]) | skip)
                have H' := Aside0.mk H
                clear H
                go_wp2_with (first | ((with_reducible refine gate_callee (f := 20) rfl ?_); refine goesL_ (some 60) rfl rfl Try.func20 (by kernel_rfl) rfl #[.int .i64 t189, .int .i64 t190] rfl (by (try simp only [List.map_toArray, List.map_cons, List.map_nil]); first | done | rfl | (simp only [List.length_drop, List.length_take]; rfl)) ?_; (with_reducible refine (spec_WordSigned.calls t189 t190 t199 _ A18.out).mono ?_); rintro e w' ⟨rfl, ⟨nd, rfl⟩⟩; refine ⟨_, rfl, ?_⟩))
                go_meet
                case rel => exact ⟨_, (true), (by first | rfl | (simp; done) | (simp [*]; done) | (exfalso; simp only [beq_iff_eq] at *; omega)), H', ⟨by have := HJ3.out; first | omega | exact Nat.le_refl _⟩, ⟨by repeat (first | (with_reducible first | exact HB.out | apply below_alloc | apply pw_below_drewN | apply below_drew1) | exact HB.out)⟩⟩
            case rest =>
              clear HC17
              try clear c1
              try clear c2
              try clear c2b0
              try clear c2b1
              try clear p2
              try clear c5
              try clear p6
              try clear c7
              try clear c9
              try clear c15
              try clear c15b0
              try clear c15b1
              try clear c16
              try clear c17
              try clear c18
              try clear c19
              try clear c19b0
              try clear c19b1
              try clear c20
              try clear p2
              obtain ⟨kq, x68_16, rfl, HA, HJ16, HB⟩ := hcut
              cases kq with
              | zero => exact absurd HA.out (by simp [laws_FnSays.j1])
              | succ kj16 =>
                have H := HA.out
                clear HA
                simp only [laws_FnSays.j1] at H
                by_cases c21 : x68_16 = true
                · subst c21
                  have H1 : (some false) = some r := by rw [if_pos rfl] at H; exact H
                  clear H
                  have H := H1
                  clear H1
                  obtain rfl := Option.some.inj H
                  go_wp2
                  go_ret
                  exact ⟨by first | rfl | (simp [errW_none, errW_some] <;> rfl) | (simp only [← hji14, ← hji16]; first | rfl | (simp [errW_none, errW_some] <;> rfl)) | (simp [*, errW_none, errW_some] <;> rfl), by repeat (first | (with_reducible first | exact HB.out | apply below_alloc | apply pw_below_drewN | apply below_drew1) | exact HB.out)⟩
                · replace c21 := Bool.eq_false_iff.mpr c21
                  subst c21
                  have H1 : (if (wrap64 (t197 + t198)) ≥ (wrap64 (Int.tdiv ji16 2)) then (laws_FnSays.j2 kj16 t189 t190 t191 (([(t190 == t191), decide (t190 < t191), decide (t197 < t198), decide (t190 ≤ t191), decide (t197 ≤ t198), decide ((wrap64 (t190 + t191)) ≥ ji16), true, decide ((wrap64 (t190 * t191)) ≥ ji16)] : List Bool))) else (laws_FnSays.j2 kj16 t189 t190 t191 (([(t190 == t191), decide (t190 < t191), decide (t197 < t198), decide (t190 ≤ t191), decide (t197 ≤ t198), decide ((wrap64 (t190 + t191)) ≥ ji16), decide ((wrap64 (t197 + t198)) < (wrap64 (Int.tdiv (wrap64 (-ji16)) 2))), decide ((wrap64 (t190 * t191)) ≥ ji16)] : List Bool)))) = some r := by rw [if_neg (show ¬ (false = true) by decide)] at H; exact H
                  clear H
                  have H := H1
                  clear H1
                  have HC22 := Aside0.mk H
                  clear H
                  go_upto_region 12 with (fail)
                  go_cut [13] (fun v13 wc => ∃ (kq : Nat) (x13_21 : List Bool), Aside0 (laws_FnSays.j2 kq t189 t190 t191 x13_21 = some r) ∧ Aside0 (kq ≤ kj16) ∧ Aside0 (Kd.R Kd.bool 4 wc w.heap.size (fun _ => True) v13 x13_21) ∧ Aside0 (Below w.heap.size w wc))
                  case first =>
                    have H := HC22.out
                    clear HC22
                    by_cases c23 : (wrap64 (t197 + t198)) ≥ (wrap64 (Int.tdiv ji16 2))
                    · rw [if_pos c23] at H
                      have c23b0 : decide ((wrap64 (Int.tdiv ji16 2)) ≤ (wrap64 (t197 + t198))) = true := decide_eq_true c23
                      clear c23
                      (first | rw [c23b0] | (simp only [i64_w, i32_w]; rw [c23b0]) | skip)
                      obtain ⟨y201, hy201⟩ : ∃ y_ : List Bool, y_ = (([(t190 == t191), decide (t190 < t191), decide (t197 < t198), decide (t190 ≤ t191), decide (t197 ≤ t198), decide ((wrap64 (t190 + t191)) ≥ ji16), true, decide ((wrap64 (t190 * t191)) ≥ ji16)] : List Bool)) := ⟨_, rfl⟩
                      replace H : (laws_FnSays.j2 kj16 t189 t190 t191 y201) = some r := by first | (rw [hy201]; with_reducible exact H) | (have H2_ := (Option.bind_some _ _).symm.trans H; rw [hy201]; with_reducible exact H2_) | (have H2_ := (Option.bind_some _ _).symm.trans H; with_reducible exact H2_) | with_reducible exact H | (rw [hy201]; exact H) | exact H
                      have Ny201 := Aside0.mk hy201
                      clear hy201
                      have H' := Aside0.mk H
                      clear H
                      go_wp2_with (first | ((with_reducible refine gate_dst (N := 109) rfl ?_); refine Kd.R_lit Kd.bool _ 4 ?hg (N := 109) ?hd (xs := ([(t190 == t191), decide (t190 < t191), decide (t197 < t198), decide (t190 ≤ t191), decide (t197 ≤ t198), decide ((wrap64 (t190 + t191)) ≥ ji16), true, decide ((wrap64 (t190 * t191)) ≥ ji16)] : List Bool)) (inner := [.bool (t190 == t191), .bool (decide (t190 < t191)), .bool (decide (t197 < t198)), .bool (decide (t190 ≤ t191)), .bool (decide (t197 ≤ t198)), .bool (decide ((wrap64 (t190 + t191)) ≥ ji16)), .bool true, .bool (decide ((wrap64 (t190 * t191)) ≥ ji16))]) (ok := fun _ => True) (okp := fun _ => True) ?hr ?hp (fun _ hk => hk) trivial (Below.refl _ _) (Nat.le_refl _) (by simp) ?_; (case hd => rfl); (case hg => rfl); (case hr => first | (go_simp; done) | (go_simp; rfl)); (case hp => exact (Reps.one (show Kd.M Kd.bool _ _ _ (t190 == t191) [.bool (t190 == t191)] from rfl) (Reps.one (show Kd.M Kd.bool _ _ _ (decide (t190 < t191)) [.bool (decide (t190 < t191))] from rfl) (Reps.one (show Kd.M Kd.bool _ _ _ (decide (t197 < t198)) [.bool (decide (t197 < t198))] from rfl) (Reps.one (show Kd.M Kd.bool _ _ _ (decide (t190 ≤ t191)) [.bool (decide (t190 ≤ t191))] from rfl) (Reps.one (show Kd.M Kd.bool _ _ _ (decide (t197 ≤ t198)) [.bool (decide (t197 ≤ t198))] from rfl) (Reps.one (show Kd.M Kd.bool _ _ _ (decide ((wrap64 (t190 + t191)) ≥ ji16)) [.bool (decide ((wrap64 (t190 + t191)) ≥ ji16))] from rfl) (Reps.one (show Kd.M Kd.bool _ _ _ true [.bool true] from rfl) (Reps.one (show Kd.M Kd.bool _ _ _ (decide ((wrap64 (t190 * t191)) ≥ ji16)) [.bool (decide ((wrap64 (t190 * t191)) ≥ ji16))] from rfl) (Reps.none _ _)))))))))); intro v202 w24 ho25 hb hg_ hnew_; clear hg_ hnew_; (first | rw [← Ny201.out] at ho25 | (simp only [Int.reduceToNat] at ho25; rw [← Ny201.out] at ho25)); have n0_ := Aside0.mk (Kd.R_lower ho25 (below_size (by repeat (first | (with_reducible first | exact HB.out | apply below_alloc | apply pw_below_drewN | apply below_drew1) | exact HB.out)))); have n1_ := Aside0.mk (below_step (by repeat (first | (with_reducible first | exact HB.out | apply below_alloc | apply pw_below_drewN | apply below_drew1) | exact HB.out)) hb); clear HB; have HO203 := n0_; have HB := n1_; clear n0_ n1_; clear hb ho25))
                      go_meet
                      case rel => exact ⟨_, (y201), H', ⟨by have := HJ3.out; have := HJ16.out; first | omega | exact Nat.le_refl _⟩, ⟨by (with_reducible repeat (first | apply Kd.R_alloc | apply Kd.R_drewN | apply Kd.R_drew)); exact HO203.out⟩, ⟨by repeat (first | (with_reducible first | exact HB.out | apply below_alloc | apply pw_below_drewN | apply below_drew1) | exact HB.out)⟩⟩
                    · rw [if_neg c23] at H
                      have c23b0 : decide ((wrap64 (Int.tdiv ji16 2)) ≤ (wrap64 (t197 + t198))) = false := decide_eq_false c23
                      clear c23
                      (first | rw [c23b0] | (simp only [i64_w, i32_w]; rw [c23b0]) | skip)
                      obtain ⟨y204, hy204⟩ : ∃ y_ : List Bool, y_ = (([(t190 == t191), decide (t190 < t191), decide (t197 < t198), decide (t190 ≤ t191), decide (t197 ≤ t198), decide ((wrap64 (t190 + t191)) ≥ ji16), decide ((wrap64 (t197 + t198)) < (wrap64 (Int.tdiv (wrap64 (-ji16)) 2))), decide ((wrap64 (t190 * t191)) ≥ ji16)] : List Bool)) := ⟨_, rfl⟩
                      replace H : (laws_FnSays.j2 kj16 t189 t190 t191 y204) = some r := by first | (rw [hy204]; with_reducible exact H) | (have H2_ := (Option.bind_some _ _).symm.trans H; rw [hy204]; with_reducible exact H2_) | (have H2_ := (Option.bind_some _ _).symm.trans H; with_reducible exact H2_) | with_reducible exact H | (rw [hy204]; exact H) | exact H
                      have Ny204 := Aside0.mk hy204
                      clear hy204
                      have H' := Aside0.mk H
                      clear H
                      go_wp2_with (first | ((with_reducible refine gate_dst (N := 109) rfl ?_); refine Kd.R_lit Kd.bool _ 4 ?hg (N := 109) ?hd (xs := ([(t190 == t191), decide (t190 < t191), decide (t197 < t198), decide (t190 ≤ t191), decide (t197 ≤ t198), decide ((wrap64 (t190 + t191)) ≥ ji16), decide ((wrap64 (t197 + t198)) < (wrap64 (Int.tdiv (wrap64 (-ji16)) 2))), decide ((wrap64 (t190 * t191)) ≥ ji16)] : List Bool)) (inner := [.bool (t190 == t191), .bool (decide (t190 < t191)), .bool (decide (t197 < t198)), .bool (decide (t190 ≤ t191)), .bool (decide (t197 ≤ t198)), .bool (decide ((wrap64 (t190 + t191)) ≥ ji16)), .bool (decide ((wrap64 (t197 + t198)) < (wrap64 (Int.tdiv (wrap64 (-ji16)) 2)))), .bool (decide ((wrap64 (t190 * t191)) ≥ ji16))]) (ok := fun _ => True) (okp := fun _ => True) ?hr ?hp (fun _ hk => hk) trivial (Below.refl _ _) (Nat.le_refl _) (by simp) ?_; (case hd => rfl); (case hg => rfl); (case hr => first | (go_simp; done) | (go_simp; rfl)); (case hp => exact (Reps.one (show Kd.M Kd.bool _ _ _ (t190 == t191) [.bool (t190 == t191)] from rfl) (Reps.one (show Kd.M Kd.bool _ _ _ (decide (t190 < t191)) [.bool (decide (t190 < t191))] from rfl) (Reps.one (show Kd.M Kd.bool _ _ _ (decide (t197 < t198)) [.bool (decide (t197 < t198))] from rfl) (Reps.one (show Kd.M Kd.bool _ _ _ (decide (t190 ≤ t191)) [.bool (decide (t190 ≤ t191))] from rfl) (Reps.one (show Kd.M Kd.bool _ _ _ (decide (t197 ≤ t198)) [.bool (decide (t197 ≤ t198))] from rfl) (Reps.one (show Kd.M Kd.bool _ _ _ (decide ((wrap64 (t190 + t191)) ≥ ji16)) [.bool (decide ((wrap64 (t190 + t191)) ≥ ji16))] from rfl) (Reps.one (show Kd.M Kd.bool _ _ _ (decide ((wrap64 (t197 + t198)) < (wrap64 (Int.tdiv (wrap64 (-ji16)) 2)))) [.bool (decide ((wrap64 (t197 + t198)) < (wrap64 (Int.tdiv (wrap64 (-ji16)) 2))))] from rfl) (Reps.one (show Kd.M Kd.bool _ _ _ (decide ((wrap64 (t190 * t191)) ≥ ji16)) [.bool (decide ((wrap64 (t190 * t191)) ≥ ji16))] from rfl) (Reps.none _ _)))))))))); intro v205 w26 ho27 hb hg_ hnew_; clear hg_ hnew_; (first | rw [← Ny204.out] at ho27 | (simp only [Int.reduceToNat] at ho27; rw [← Ny204.out] at ho27)); have n0_ := Aside0.mk (Kd.R_lower ho27 (below_size (by repeat (first | (with_reducible first | exact HB.out | apply below_alloc | apply pw_below_drewN | apply below_drew1) | exact HB.out)))); have n1_ := Aside0.mk (below_step (by repeat (first | (with_reducible first | exact HB.out | apply below_alloc | apply pw_below_drewN | apply below_drew1) | exact HB.out)) hb); clear HB; have HO206 := n0_; have HB := n1_; clear n0_ n1_; clear hb ho27))
                      go_meet
                      case rel => exact ⟨_, (y204), H', ⟨by have := HJ3.out; have := HJ16.out; first | omega | exact Nat.le_refl _⟩, ⟨by (with_reducible repeat (first | apply Kd.R_alloc | apply Kd.R_drewN | apply Kd.R_drew)); exact HO206.out⟩, ⟨by repeat (first | (with_reducible first | exact HB.out | apply below_alloc | apply pw_below_drewN | apply below_drew1) | exact HB.out)⟩⟩
                  case rest =>
                    clear HC22
                    try clear c1
                    try clear c2
                    try clear c2b0
                    try clear c2b1
                    try clear p2
                    try clear c5
                    try clear p6
                    try clear c7
                    try clear c9
                    try clear c15
                    try clear c15b0
                    try clear c15b1
                    try clear c16
                    try clear c17
                    try clear c18
                    try clear c19
                    try clear c19b0
                    try clear c19b1
                    try clear c20
                    try clear c21
                    try clear c23
                    try clear c23b0
                    try clear p2
                    try clear p6
                    obtain ⟨kq, x13_21, HA, HJ21, HO_13, HB⟩ := hcut
                    cases kq with
                    | zero => exact absurd HA.out (by simp [laws_FnSays.j2])
                    | succ kj21 =>
                      have H := HA.out
                      clear HA
                      simp only [laws_FnSays.j2] at H
                      have H' := Aside0.mk H
                      clear H
                      go_wp2
                      go_loopg [14] kj21 (fun kq v14 w' => ∃ (x14_4 : Int), v14 = .int .i64 x14_4 ∧ Aside0 (laws_FnSays.l0 kq t189 t190 t191 x13_21 x14_4 = some r) ∧ Aside0 (kq ≤ kj21) ∧ Aside0 (Kd.R Kd.bool 4 w' w.heap.size (fun _ => True) u13 x13_21) ∧ Aside0 (Below w.heap.size w w'))
                      case atStart => exact ⟨(0), (by first | rfl | (simp; done) | (simp [*]; done) | (exfalso; simp only [beq_iff_eq] at *; omega)), H', ⟨Nat.le_refl _⟩, ⟨by (with_reducible repeat (first | apply Kd.R_alloc | apply Kd.R_drewN | apply Kd.R_drew)); exact HO_13.out⟩, ⟨by repeat (first | (with_reducible first | exact HB.out | apply below_alloc | apply pw_below_drewN | apply below_drew1) | exact HB.out)⟩⟩
                      case round =>
                        clear H'
                        try clear c1
                        try clear c2
                        try clear c2b0
                        try clear c2b1
                        try clear p2
                        try clear c5
                        try clear p6
                        try clear c7
                        try clear c9
                        try clear c15
                        try clear c15b0
                        try clear c15b1
                        try clear c16
                        try clear c17
                        try clear c18
                        try clear c19
                        try clear c19b0
                        try clear c19b1
                        try clear c20
                        try clear c21
                        try clear c23
                        try clear c23b0
                        try clear p2
                        try clear p6
                        obtain ⟨x14_4, rfl, HA, HK4, HO_13, HB⟩ := hrel
                        cases gk with
                        | zero => exact absurd HA.out (by simp [laws_FnSays.l0])
                        | succ k4 =>
                          have H := HA.out
                          clear HA
                          simp only [laws_FnSays.l0] at H
                          by_cases c28 : x14_4 < (x13_21.length : Int)
                          · rw [if_pos c28] at H
                            have c28b0 : decide (x14_4 < (x13_21.length : Int)) = true := decide_eq_true c28
                            clear c28
                            replace H := Option.bind_eq_some_iff.mp H
                            obtain ⟨⟨t207, t208, t209⟩, A290, H⟩ := H
                            replace H : (if t209 = true then (if t208 = 1 then (if 0 ≤ x14_4 then (if ((t207 == 1) != (rdOf false x13_21 x14_4)) = true then (some false) else (laws_FnSays.l0 k4 t189 t190 t191 x13_21 (wrap64 (x14_4 + 1)))) else (none)) else (some false)) else (some false)) = some r := H
                            have A29 := Aside0.mk A290
                            clear A290
                            by_cases c30 : t209 = true
                            · subst c30
                              have H1 : (if t208 = 1 then (if 0 ≤ x14_4 then (if ((t207 == 1) != (rdOf false x13_21 x14_4)) = true then (some false) else (laws_FnSays.l0 k4 t189 t190 t191 x13_21 (wrap64 (x14_4 + 1)))) else (none)) else (some false)) = some r := by rw [if_pos rfl] at H; exact H
                              clear H
                              have H := H1
                              clear H1
                              by_cases c31 : t208 = 1
                              · rw [if_pos c31] at H
                                have c31b0 : (t208 == 1) = true := beq_iff_eq.mpr c31
                                have c31b1 : (t208 != 1) = false := bne_eq_false_iff_eq.mpr c31
                                clear c31
                                by_cases c32 : 0 ≤ x14_4
                                · rw [if_pos c32] at H
                                  have c32b0 : decide (0 ≤ x14_4) = true := decide_eq_true c32
                                  clear c32
                                  by_cases c33 : ((t207 == 1) != (rdOf false x13_21 x14_4)) = true
                                  · rw [if_pos c33] at H
                                    have c33b0 : ((t207 == 1) != (rdOf false x13_21 x14_4)) = true := c33
                                    (try (have c33b1 : decide ((t207 == 1) = (rdOf false x13_21 x14_4)) = false := by simpa using c33))
                                    (try (have c33b2 : ((t207 == 1) == (rdOf false x13_21 x14_4)) = false := by simpa using c33))
                                    (try (have c33b3 : ¬ ((t207 == 1) = (rdOf false x13_21 x14_4)) := by simpa using c33))
                                    clear c33
                                    obtain rfl := Option.some.inj H
                                    obtain ⟨Ao34, co34, eo34⟩ := Kd.R_slice HO_13.out
                                    subst eo34
                                    go_wp2_with (first | ((with_reducible refine gate_callee (f := 18) rfl ?_); refine goesL_ (some 122) rfl rfl Try.func18 (by kernel_rfl) rfl #[.int .i64 (wrap64 (21 + x14_4)), .int .i64 t189, .int .i64 t190, .int .i64 t191] rfl (by (try simp only [List.map_toArray, List.map_cons, List.map_nil]); first | done | rfl | (simp only [List.length_drop, List.length_take]; rfl)) ?_; (with_reducible refine (impl_WordTwo.calls k4 (wrap64 (21 + x14_4)) t189 t190 t191 t207 t208 true _ A29.out).mono ?_); rintro e w35 ⟨rfl, hb⟩; refine ⟨_, rfl, ?_⟩; have n0_ := Aside0.mk (Kd.R_below (by (with_reducible repeat (first | apply Kd.R_alloc | apply Kd.R_drewN | apply Kd.R_drew)); exact HO_13.out) hb); have n1_ := Aside0.mk (below_step (by repeat (first | (with_reducible first | exact HB.out | apply below_alloc | apply pw_below_drewN | apply below_drew1) | exact HB.out)) hb); clear HO_13; clear HB; have HO_13 := n0_; have HB := n1_; clear n0_ n1_; (try clear hb); (try clear hb2); (try clear hk); (try clear hi); have p210 : 0 ≤ (x14_4 : Int) := of_decide_eq_true (by first | (with_reducible assumption) | assumption); have q210 : x14_4 < (x13_21.length : Int) := of_decide_eq_true (by first | (with_reducible assumption) | assumption); obtain ⟨ad210, e210, hx210_0⟩ := Kd.at_bool (Kd.R_reads' HO_13.out).2.2 x14_4 p210 q210; cases e210; replace p210 := eq_true p210; replace q210 := eq_true q210))
                                    go_ret
                                    exact ⟨by first | rfl | (simp [errW_none, errW_some] <;> rfl) | (simp only [← hji14, ← hji16]; first | rfl | (simp [errW_none, errW_some] <;> rfl)) | (simp [*, errW_none, errW_some] <;> rfl), by repeat (first | (with_reducible first | exact HB.out | apply below_alloc | apply pw_below_drewN | apply below_drew1) | exact HB.out)⟩
                                  · rw [if_neg c33] at H
                                    have c33b0 : ((t207 == 1) != (rdOf false x13_21 x14_4)) = false := by simpa using c33
                                    (try (have c33b1 : decide ((t207 == 1) = (rdOf false x13_21 x14_4)) = true := by simpa using c33))
                                    (try (have c33b2 : ((t207 == 1) == (rdOf false x13_21 x14_4)) = true := by simpa using c33))
                                    clear c33
                                    have H' := Aside0.mk H
                                    clear H
                                    obtain ⟨Ao36, co36, eo36⟩ := Kd.R_slice HO_13.out
                                    subst eo36
                                    go_wp2_with (first | ((with_reducible refine gate_callee (f := 18) rfl ?_); refine goesL_ (some 122) rfl rfl Try.func18 (by kernel_rfl) rfl #[.int .i64 (wrap64 (21 + x14_4)), .int .i64 t189, .int .i64 t190, .int .i64 t191] rfl (by (try simp only [List.map_toArray, List.map_cons, List.map_nil]); first | done | rfl | (simp only [List.length_drop, List.length_take]; rfl)) ?_; (with_reducible refine (impl_WordTwo.calls k4 (wrap64 (21 + x14_4)) t189 t190 t191 t207 t208 true _ A29.out).mono ?_); rintro e w37 ⟨rfl, hb⟩; refine ⟨_, rfl, ?_⟩; have n0_ := Aside0.mk (Kd.R_below (by (with_reducible repeat (first | apply Kd.R_alloc | apply Kd.R_drewN | apply Kd.R_drew)); exact HO_13.out) hb); have n1_ := Aside0.mk (below_step (by repeat (first | (with_reducible first | exact HB.out | apply below_alloc | apply pw_below_drewN | apply below_drew1) | exact HB.out)) hb); clear HO_13; clear HB; have HO_13 := n0_; have HB := n1_; clear n0_ n1_; (try clear hb); (try clear hb2); (try clear hk); (try clear hi); have p210 : 0 ≤ (x14_4 : Int) := of_decide_eq_true (by first | (with_reducible assumption) | assumption); have q210 : x14_4 < (x13_21.length : Int) := of_decide_eq_true (by first | (with_reducible assumption) | assumption); obtain ⟨ad210, e210, hx210_0⟩ := Kd.at_bool (Kd.R_reads' HO_13.out).2.2 x14_4 p210 q210; cases e210; replace p210 := eq_true p210; replace q210 := eq_true q210))
                                    go_roundg k4
                                    case measure => have := HJ3.out; have := HJ16.out; have := HJ21.out; have := HK4.out; omega
                                    case rel => exact ⟨(wrap64 (x14_4 + 1)), (by first | rfl | (simp; done) | (simp [*]; done) | (exfalso; simp only [beq_iff_eq] at *; omega)), H', ⟨by have := HJ3.out; have := HJ16.out; have := HJ21.out; have := HK4.out; omega⟩, ⟨by (with_reducible repeat (first | apply Kd.R_alloc | apply Kd.R_drewN | apply Kd.R_drew)); exact HO_13.out⟩, ⟨by repeat (first | (with_reducible first | exact HB.out | apply below_alloc | apply pw_below_drewN | apply below_drew1) | exact HB.out)⟩⟩
                                · rw [if_neg c32] at H
                                  exact absurd H (by simp)
                              · rw [if_neg c31] at H
                                have c31b0 : (t208 == 1) = false := beq_eq_false_iff_ne.mpr c31
                                have c31b1 : (t208 != 1) = true := bne_iff_ne.mpr c31
                                obtain rfl := Option.some.inj H
                                obtain ⟨Ao38, co38, eo38⟩ := Kd.R_slice HO_13.out
                                subst eo38
                                go_wp2_with (first | ((with_reducible refine gate_callee (f := 18) rfl ?_); refine goesL_ (some 122) rfl rfl Try.func18 (by kernel_rfl) rfl #[.int .i64 (wrap64 (21 + x14_4)), .int .i64 t189, .int .i64 t190, .int .i64 t191] rfl (by (try simp only [List.map_toArray, List.map_cons, List.map_nil]); first | done | rfl | (simp only [List.length_drop, List.length_take]; rfl)) ?_; (with_reducible refine (impl_WordTwo.calls k4 (wrap64 (21 + x14_4)) t189 t190 t191 t207 t208 true _ A29.out).mono ?_); rintro e w39 ⟨rfl, hb⟩; refine ⟨_, rfl, ?_⟩; have n0_ := Aside0.mk (Kd.R_below (by (with_reducible repeat (first | apply Kd.R_alloc | apply Kd.R_drewN | apply Kd.R_drew)); exact HO_13.out) hb); have n1_ := Aside0.mk (below_step (by repeat (first | (with_reducible first | exact HB.out | apply below_alloc | apply pw_below_drewN | apply below_drew1) | exact HB.out)) hb); clear HO_13; clear HB; have HO_13 := n0_; have HB := n1_; clear n0_ n1_; (try clear hb); (try clear hb2); (try clear hk); (try clear hi)))
                                go_ret
                                exact ⟨by first | rfl | (simp [errW_none, errW_some] <;> rfl) | (simp only [← hji14, ← hji16]; first | rfl | (simp [errW_none, errW_some] <;> rfl)) | (simp [*, errW_none, errW_some] <;> rfl), by repeat (first | (with_reducible first | exact HB.out | apply below_alloc | apply pw_below_drewN | apply below_drew1) | exact HB.out)⟩
                            · replace c30 := Bool.eq_false_iff.mpr c30
                              subst c30
                              have H1 : (some false) = some r := by rw [if_neg (show ¬ (false = true) by decide)] at H; exact H
                              clear H
                              have H := H1
                              clear H1
                              obtain rfl := Option.some.inj H
                              obtain ⟨Ao40, co40, eo40⟩ := Kd.R_slice HO_13.out
                              subst eo40
                              go_wp2_with (first | ((with_reducible refine gate_callee (f := 18) rfl ?_); refine goesL_ (some 122) rfl rfl Try.func18 (by kernel_rfl) rfl #[.int .i64 (wrap64 (21 + x14_4)), .int .i64 t189, .int .i64 t190, .int .i64 t191] rfl (by (try simp only [List.map_toArray, List.map_cons, List.map_nil]); first | done | rfl | (simp only [List.length_drop, List.length_take]; rfl)) ?_; (with_reducible refine (impl_WordTwo.calls k4 (wrap64 (21 + x14_4)) t189 t190 t191 t207 t208 false _ A29.out).mono ?_); rintro e w41 ⟨rfl, hb⟩; refine ⟨_, rfl, ?_⟩; have n0_ := Aside0.mk (Kd.R_below (by (with_reducible repeat (first | apply Kd.R_alloc | apply Kd.R_drewN | apply Kd.R_drew)); exact HO_13.out) hb); have n1_ := Aside0.mk (below_step (by repeat (first | (with_reducible first | exact HB.out | apply below_alloc | apply pw_below_drewN | apply below_drew1) | exact HB.out)) hb); clear HO_13; clear HB; have HO_13 := n0_; have HB := n1_; clear n0_ n1_; (try clear hb); (try clear hb2); (try clear hk); (try clear hi)))
                              go_ret
                              exact ⟨by first | rfl | (simp [errW_none, errW_some] <;> rfl) | (simp only [← hji14, ← hji16]; first | rfl | (simp [errW_none, errW_some] <;> rfl)) | (simp [*, errW_none, errW_some] <;> rfl), by repeat (first | (with_reducible first | exact HB.out | apply below_alloc | apply pw_below_drewN | apply below_drew1) | exact HB.out)⟩
                          · rw [if_neg c28] at H
                            have c28b0 : decide (x14_4 < (x13_21.length : Int)) = false := decide_eq_false c28
                            clear c28
                            obtain rfl := Option.some.inj H
                            obtain ⟨Ao42, co42, eo42⟩ := Kd.R_slice HO_13.out
                            subst eo42
                            go_wp2
                            go_ret
                            exact ⟨by first | rfl | (simp [errW_none, errW_some] <;> rfl) | (simp only [← hji14, ← hji16]; first | rfl | (simp [errW_none, errW_some] <;> rfl)) | (simp [*, errW_none, errW_some] <;> rfl), by repeat (first | (with_reducible first | exact HB.out | apply below_alloc | apply pw_below_drewN | apply below_drew1) | exact HB.out)⟩
          · rw [if_neg c15] at H
            exact absurd H (by simp)

/-- THE ONE PURE STATEMENT of laws_FnSays: yours. -/
def laws_FnSays.Pure : Prop := ∀ (l0 : List Int), l0.length ≤ maxLen → l0.length * 1 ≤ 140737488351232 → (∀ x ∈ l0, (Lit.int .u8 x).wf = true) → ∃ k, laws_FnSays.f k l0 = some true
theorem laws_FnSays.walk (P : laws_FnSays.Pure) (a0 : Option Addr) (len0 cap0 : Nat) (z0 : List Int) (w : World) (w0 : (a0 = none ∧ len0 = 0 ∧ cap0 = 0 ∧ z0 = []) ∨ ∃ x, a0 = some x ∧ len0 ≤ cap0 ∧ cap0 ≤ maxLen ∧ z0.length = cap0 ∧ (∀ i, i < z0.length → w.cell? (x.add i) = some (.int .u8 (z0.getD i 0))) ∧ ∀ n ∈ z0, (Lit.int .u8 n).wf = true) (y0 : len0 * 1 ≤ 140737488351232) :
    Calls Try.prog 5 #[.slice a0 len0 cap0] w fun e w' => e = .returned (.bool true) ∧ Below w.heap.size w w' := by
  obtain ⟨l0, rfl, hr0, hm0, hw0, hc0⟩ := ReadsInt.ofRowC w0
  obtain ⟨k, h⟩ := P l0 hm0 y0 hw0
  refine (laws_FnSays.calls k _ _ l0 true w (Kd.C_of_reads (d := (0 : Int)) (h1 := fun _ => rfl) hr0) hc0 h).mono ?_
  rintro e w' ⟨rfl, hd⟩
  exact ⟨rfl, hd⟩

end Go.Proofs.Ytohojfcpnlobjaa.PFnSays
