-- Written by a program of this session (wip/pp).
import Derived.Test.YtohojfcpnlobjaaPFnJoinx0
import Derived.Test.YtohojfcpnlobjaaPFnJoinx1
import Derived.Test.YtohojfcpnlobjaaPFnJoinx2
import Derived.Test.YtohojfcpnlobjaaPFnJoinx3
namespace Go.Proofs.Ytohojfcpnlobjaa.PFnJoin
open Go.RowKit Go.Proofs.YtohojfcpnlobjaaW.PrintWords Go.Proofs.YtohojfcpnlobjaaW.PrintLast Go.Proofs.YtohojfcpnlobjaaW.PrintMore
attribute [local go_sem] max2_int min2_int max_two min_two max_three min_three max_four min_four   -- for this text's walks alone
set_option linter.unusedVariables false
set_option linter.unusedSimpArgs false

/-! ### laws_FnJoin: function 3 -/
mutual
def laws_FnJoin.j0 : Nat → List Int → List Int → Bool → Option (Bool)
  | 0, _, _, _ => none
  | k + 1, x0, x1, x40 => if x40 = true then (some true) else ((spec_DrawWordJoin.f k x0).bind fun bt195 => ((impl_WordJoin.f bt195.1 bt195.2.1 bt195.2.2.1 bt195.2.2.2).bind fun bt199 => ((spec_WordJoin.f bt195.1 bt195.2.1 bt195.2.2.1 bt195.2.2.2).bind fun bt202 => (if (bt199.2.2 != bt202.2.2) = true then (laws_FnJoin.j1 k x1 bt195.1 bt195.2.1 bt195.2.2.1 bt195.2.2.2 bt199.1 bt199.2.1 bt199.2.2 true) else (if bt199.1 = bt202.1 then (laws_FnJoin.j1 k x1 bt195.1 bt195.2.1 bt195.2.2.1 bt195.2.2.2 bt199.1 bt199.2.1 bt199.2.2 (bt199.2.1 != bt202.2.1)) else (laws_FnJoin.j1 k x1 bt195.1 bt195.2.1 bt195.2.2.1 bt195.2.2.2 bt199.1 bt199.2.1 bt199.2.2 true))))))
def laws_FnJoin.j1 : Nat → List Int → Int → Int → Int → Int → Int → Int → Bool → Bool → Option (Bool)
  | 0, _, _, _, _, _, _, _, _, _ => none
  | k + 1, x1, x5, x6, x7, x8, x9, x10, x11, x78 => if x78 = true then (some false) else (if x11 = true then ((impl_WordSlice.f x10 x9 (wrap64 (x10 - 1)) x7).bind fun bt205 => ((impl_WordSlice.f x10 x9 (wrap64 (x7 - 1)) 0).bind fun bt208 => (if bt205.2.2 = true then (if bt208.2.2 = true then (if bt205.1 = x6 then (if bt208.1 = x8 then (if bt205.2.1 = x5 then (if bt208.2.1 = x7 then (laws_FnJoin.j2 k x1) else (some false)) else (some false)) else (some false)) else (some false)) else (some false)) else (some false)))) else (laws_FnJoin.j2 k x1))
def laws_FnJoin.j2 : Nat → List Int → Option (Bool)
  | 0, _ => none
  | k + 1, x1 => (spec_DrawWordGrow.f k x1).bind fun bt211 => ((impl_WordGrow.f bt211.1 bt211.2.1 bt211.2.2.1 bt211.2.2.2).bind fun bt215 => ((spec_WordGrow.f k bt211.1 bt211.2.1 bt211.2.2.1 bt211.2.2.2).bind fun bt218 => (if (bt215.2.2 != bt218.2.2) = true then (laws_FnJoin.j3 k bt215.2.2 bt211.1 bt211.2.1 bt211.2.2.2 bt215.1 bt215.2.1 true) else (if bt215.1 = bt218.1 then (laws_FnJoin.j3 k bt215.2.2 bt211.1 bt211.2.1 bt211.2.2.2 bt215.1 bt215.2.1 (bt215.2.1 != bt218.2.1)) else (laws_FnJoin.j3 k bt215.2.2 bt211.1 bt211.2.1 bt211.2.2.2 bt215.1 bt215.2.1 true)))))
def laws_FnJoin.j3 : Nat → Bool → Int → Int → Bool → Int → Int → Bool → Option (Bool)
  | 0, _, _, _, _, _, _, _ => none
  | k + 1, x11, x21, x22, x24, x25, x26, x162 => if x162 = true then (some false) else (if x11 = true then ((impl_WordSlice.f x26 x25 (wrap64 (x21 - 1)) 0).bind fun bt221 => (if bt221.2.2 = true then (if bt221.1 = x22 then (if x24 = true then ((impl_WordSigned.f x26 x25).bind fun t224 => ((impl_WordSigned.f x21 x22).bind fun t225 => (some (t224 == t225)))) else (if x25 = x22 then (some true) else (some false))) else (some false)) else (some false))) else (some true))
end
def laws_FnJoin.f (k : Nat) (l0 : List Int) (l1 : List Int) : Option (Bool) := if (l0.length : Int) > 1048576 then (laws_FnJoin.j0 k l0 l1 true) else (laws_FnJoin.j0 k l0 l1 (decide ((l1.length : Int) > 1048576)))
theorem laws_FnJoin.mono_l : ∀ k, (∀ y0 y1 y2, LeO (laws_FnJoin.j0 k y0 y1 y2) (laws_FnJoin.j0 (k + 1) y0 y1 y2)) ∧ (∀ y0 y1 y2 y3 y4 y5 y6 y7 y8, LeO (laws_FnJoin.j1 k y0 y1 y2 y3 y4 y5 y6 y7 y8) (laws_FnJoin.j1 (k + 1) y0 y1 y2 y3 y4 y5 y6 y7 y8)) ∧ (∀ y0, LeO (laws_FnJoin.j2 k y0) (laws_FnJoin.j2 (k + 1) y0)) ∧ (∀ y0 y1 y2 y3 y4 y5 y6, LeO (laws_FnJoin.j3 k y0 y1 y2 y3 y4 y5 y6) (laws_FnJoin.j3 (k + 1) y0 y1 y2 y3 y4 y5 y6))
  | 0 => ⟨fun _ _ _ r h => by simp [laws_FnJoin.j0] at h, fun _ _ _ _ _ _ _ _ _ r h => by simp [laws_FnJoin.j1] at h, fun _ r h => by simp [laws_FnJoin.j2] at h, fun _ _ _ _ _ _ _ r h => by simp [laws_FnJoin.j3] at h⟩
  | k + 1 => by
    obtain ⟨ih0, ih1, ih2, ih3⟩ := laws_FnJoin.mono_l k
    refine ⟨?_, ?_, ?_, ?_⟩
    · intro y0 y1 y2
      unfold laws_FnJoin.j0
      repeat' first
      | (with_reducible exact ih0 _ _ _)
      | (with_reducible exact ih1 _ _ _ _ _ _ _ _ _)
      | (with_reducible exact ih2 _)
      | (with_reducible exact ih3 _ _ _ _ _ _ _)
      | (with_reducible exact spec_DrawWordGrow.mono _ _)
      | (with_reducible exact spec_DrawWordJoin.mono _ _)
      | (with_reducible exact spec_WordGrow.mono _ _ _ _ _)
      | (with_reducible exact LeO.refl _)
      | (with_reducible exact LeO.none _)
      | (with_reducible refine LeO.ite ?_ ?_)
      | (with_reducible refine LeO.bind ?_ (fun _ => ?_))
      | exact ih0 _ _ _
      | exact ih1 _ _ _ _ _ _ _ _ _
      | exact ih2 _
      | exact ih3 _ _ _ _ _ _ _
      | exact spec_DrawWordGrow.mono _ _
      | exact spec_DrawWordJoin.mono _ _
      | exact spec_WordGrow.mono _ _ _ _ _
      | exact LeO.none _
      | refine LeO.ite ?_ ?_
      | refine LeO.bind ?_ (fun _ => ?_)
    · intro y0 y1 y2 y3 y4 y5 y6 y7 y8
      unfold laws_FnJoin.j1
      repeat' first
      | (with_reducible exact ih0 _ _ _)
      | (with_reducible exact ih1 _ _ _ _ _ _ _ _ _)
      | (with_reducible exact ih2 _)
      | (with_reducible exact ih3 _ _ _ _ _ _ _)
      | (with_reducible exact spec_DrawWordGrow.mono _ _)
      | (with_reducible exact spec_DrawWordJoin.mono _ _)
      | (with_reducible exact spec_WordGrow.mono _ _ _ _ _)
      | (with_reducible exact LeO.refl _)
      | (with_reducible exact LeO.none _)
      | (with_reducible refine LeO.ite ?_ ?_)
      | (with_reducible refine LeO.bind ?_ (fun _ => ?_))
      | exact ih0 _ _ _
      | exact ih1 _ _ _ _ _ _ _ _ _
      | exact ih2 _
      | exact ih3 _ _ _ _ _ _ _
      | exact spec_DrawWordGrow.mono _ _
      | exact spec_DrawWordJoin.mono _ _
      | exact spec_WordGrow.mono _ _ _ _ _
      | exact LeO.none _
      | refine LeO.ite ?_ ?_
      | refine LeO.bind ?_ (fun _ => ?_)
    · intro y0
      unfold laws_FnJoin.j2
      repeat' first
      | (with_reducible exact ih0 _ _ _)
      | (with_reducible exact ih1 _ _ _ _ _ _ _ _ _)
      | (with_reducible exact ih2 _)
      | (with_reducible exact ih3 _ _ _ _ _ _ _)
      | (with_reducible exact spec_DrawWordGrow.mono _ _)
      | (with_reducible exact spec_DrawWordJoin.mono _ _)
      | (with_reducible exact spec_WordGrow.mono _ _ _ _ _)
      | (with_reducible exact LeO.refl _)
      | (with_reducible exact LeO.none _)
      | (with_reducible refine LeO.ite ?_ ?_)
      | (with_reducible refine LeO.bind ?_ (fun _ => ?_))
      | exact ih0 _ _ _
      | exact ih1 _ _ _ _ _ _ _ _ _
      | exact ih2 _
      | exact ih3 _ _ _ _ _ _ _
      | exact spec_DrawWordGrow.mono _ _
      | exact spec_DrawWordJoin.mono _ _
      | exact spec_WordGrow.mono _ _ _ _ _
      | exact LeO.none _
      | refine LeO.ite ?_ ?_
      | refine LeO.bind ?_ (fun _ => ?_)
    · intro y0 y1 y2 y3 y4 y5 y6
      unfold laws_FnJoin.j3
      repeat' first
      | (with_reducible exact ih0 _ _ _)
      | (with_reducible exact ih1 _ _ _ _ _ _ _ _ _)
      | (with_reducible exact ih2 _)
      | (with_reducible exact ih3 _ _ _ _ _ _ _)
      | (with_reducible exact spec_DrawWordGrow.mono _ _)
      | (with_reducible exact spec_DrawWordJoin.mono _ _)
      | (with_reducible exact spec_WordGrow.mono _ _ _ _ _)
      | (with_reducible exact LeO.refl _)
      | (with_reducible exact LeO.none _)
      | (with_reducible refine LeO.ite ?_ ?_)
      | (with_reducible refine LeO.bind ?_ (fun _ => ?_))
      | exact ih0 _ _ _
      | exact ih1 _ _ _ _ _ _ _ _ _
      | exact ih2 _
      | exact ih3 _ _ _ _ _ _ _
      | exact spec_DrawWordGrow.mono _ _
      | exact spec_DrawWordJoin.mono _ _
      | exact spec_WordGrow.mono _ _ _ _ _
      | exact LeO.none _
      | refine LeO.ite ?_ ?_
      | refine LeO.bind ?_ (fun _ => ?_)
theorem laws_FnJoin.mono : ∀ a0 a1 k, LeO (laws_FnJoin.f k a0 a1) (laws_FnJoin.f (k + 1) a0 a1) := by
  intro a0 a1 k
  obtain ⟨ih0, ih1, ih2, ih3⟩ := laws_FnJoin.mono_l k
  unfold laws_FnJoin.f
  repeat' first
      | (with_reducible exact ih0 _ _ _)
      | (with_reducible exact ih1 _ _ _ _ _ _ _ _ _)
      | (with_reducible exact ih2 _)
      | (with_reducible exact ih3 _ _ _ _ _ _ _)
      | (with_reducible exact spec_DrawWordGrow.mono _ _)
      | (with_reducible exact spec_DrawWordJoin.mono _ _)
      | (with_reducible exact spec_WordGrow.mono _ _ _ _ _)
      | (with_reducible exact LeO.refl _)
      | (with_reducible exact LeO.none _)
      | (with_reducible refine LeO.ite ?_ ?_)
      | (with_reducible refine LeO.bind ?_ (fun _ => ?_))
      | exact ih0 _ _ _
      | exact ih1 _ _ _ _ _ _ _ _ _
      | exact ih2 _
      | exact ih3 _ _ _ _ _ _ _
      | exact spec_DrawWordGrow.mono _ _
      | exact spec_DrawWordJoin.mono _ _
      | exact spec_WordGrow.mono _ _ _ _ _
      | exact LeO.none _
      | refine LeO.ite ?_ ?_
      | refine LeO.bind ?_ (fun _ => ?_)
set_option maxHeartbeats 8000000 in
set_option maxRecDepth 100000 in
theorem laws_FnJoin.calls (k : Nat) (A0 : Option Addr) (c0 : Nat) (l0 : List Int) (A1 : Option Addr) (c1 : Nat) (l1 : List Int) (r : Bool) (w : World) (hr0 : Kd.C (Kd.int .u8) w A0 l0.length l0) (hc0 : l0.length ≤ c0) (hr1 : Kd.C (Kd.int .u8) w A1 l1.length l1) (hc1 : l1.length ≤ c1) (h : laws_FnJoin.f k l0 l1 = some r) :
    Calls Try.prog 3 #[.slice A0 l0.length c0, .slice A1 l1.length c1] w fun e w' => e = .returned (.bool r) ∧ Below w.heap.size w w' := by
  have HR0 := Aside0.mk hr0
  have HC0 := Aside0.mk hc0
  clear hr0 hc0
  have HR1 := Aside0.mk hr1
  have HC1 := Aside0.mk hc1
  clear hr1 hc1
  have HB := Aside0.mk (Below.refl w.heap.size w)
  have H : (if (l0.length : Int) > 1048576 then (laws_FnJoin.j0 k l0 l1 true) else (laws_FnJoin.j0 k l0 l1 (decide ((l1.length : Int) > 1048576)))) = some r := h
  clear h
  have HC3 := Aside0.mk H
  clear H
  go_enter Try.func3, Try.ntmps3
  go_upto_region 1 with (fail)
  go_cut [40] (fun v40 wc => ∃ (kq : Nat) (x40_2 : Bool), v40 = .bool x40_2 ∧ Aside0 (laws_FnJoin.j0 kq l0 l1 x40_2 = some r) ∧ Aside0 (kq ≤ k) ∧ Aside0 (Below w.heap.size w wc))
  case first =>
    have H := HC3.out
    clear HC3
    by_cases c4 : (l0.length : Int) > 1048576
    · rw [if_pos c4] at H
      have c4b0 : decide (1048576 < (l0.length : Int)) = true := decide_eq_true c4
      have c4b1 : decide (1048576 < l0.length) = true := decide_eq_true (by omega)
      clear c4
      (first | rw [c4b0] | (simp only [i64_w, i32_w]; rw [c4b0]) | skip)
      have H' := Aside0.mk H
      clear H
      go_wp2
      go_meet
      case rel => exact ⟨_, (true), (by first | rfl | (simp; done) | (simp [*]; done) | (exfalso; simp only [beq_iff_eq] at *; omega)), H', ⟨by first | omega | exact Nat.le_refl _⟩, ⟨by repeat (first | (with_reducible first | exact HB.out | apply below_alloc | apply pw_below_drewN | apply below_drew1) | exact HB.out)⟩⟩
    · rw [if_neg c4] at H
      have c4b0 : decide (1048576 < (l0.length : Int)) = false := decide_eq_false c4
      have c4b1 : decide (1048576 < l0.length) = false := decide_eq_false (by omega)
      clear c4
      (first | rw [c4b0] | (simp only [i64_w, i32_w]; rw [c4b0]) | skip)
      have H' := Aside0.mk H
      clear H
      go_wp2
      go_meet
      case rel => exact ⟨_, (decide ((l1.length : Int) > 1048576)), (by first | rfl | (simp; done) | (simp [*]; done) | (exfalso; simp only [beq_iff_eq] at *; omega)), H', ⟨by first | omega | exact Nat.le_refl _⟩, ⟨by repeat (first | (with_reducible first | exact HB.out | apply below_alloc | apply pw_below_drewN | apply below_drew1) | exact HB.out)⟩⟩
  case rest =>
    clear HC3
    try clear c1
    try clear p2
    try clear c3
    try clear c4
    try clear c4b0
    try clear c4b1
    obtain ⟨kq, x40_2, rfl, HA, HJ2, HB⟩ := hcut
    cases kq with
    | zero => exact absurd HA.out (by simp [laws_FnJoin.j0])
    | succ kj2 =>
      have H := HA.out
      clear HA
      simp only [laws_FnJoin.j0] at H
      by_cases c5 : x40_2 = true
      · subst c5
        have H1 : (some true) = some r := by rw [if_pos rfl] at H; exact H
        clear H
        have H := H1
        clear H1
        obtain rfl := Option.some.inj H
        go_wp2
        go_ret
        exact ⟨by first | rfl | (simp [errW_none, errW_some] <;> rfl) | (simp [*, errW_none, errW_some] <;> rfl), by repeat (first | (with_reducible first | exact HB.out | apply below_alloc | apply pw_below_drewN | apply below_drew1) | exact HB.out)⟩
      · replace c5 := Bool.eq_false_iff.mpr c5
        subst c5
        have H1 : ((spec_DrawWordJoin.f kj2 l0).bind fun bt195 => ((impl_WordJoin.f bt195.1 bt195.2.1 bt195.2.2.1 bt195.2.2.2).bind fun bt199 => ((spec_WordJoin.f bt195.1 bt195.2.1 bt195.2.2.1 bt195.2.2.2).bind fun bt202 => (if (bt199.2.2 != bt202.2.2) = true then (laws_FnJoin.j1 kj2 l1 bt195.1 bt195.2.1 bt195.2.2.1 bt195.2.2.2 bt199.1 bt199.2.1 bt199.2.2 true) else (if bt199.1 = bt202.1 then (laws_FnJoin.j1 kj2 l1 bt195.1 bt195.2.1 bt195.2.2.1 bt195.2.2.2 bt199.1 bt199.2.1 bt199.2.2 (bt199.2.1 != bt202.2.1)) else (laws_FnJoin.j1 kj2 l1 bt195.1 bt195.2.1 bt195.2.2.1 bt195.2.2.2 bt199.1 bt199.2.1 bt199.2.2 true)))))) = some r := by rw [if_neg (show ¬ (false = true) by decide)] at H; exact H
        clear H
        have H := H1
        clear H1
        replace H := Option.bind_eq_some_iff.mp H
        obtain ⟨⟨t195, t196, t197, t198⟩, A60, H⟩ := H
        replace H : ((impl_WordJoin.f t195 t196 t197 t198).bind fun bt199 => ((spec_WordJoin.f t195 t196 t197 t198).bind fun bt202 => (if (bt199.2.2 != bt202.2.2) = true then (laws_FnJoin.j1 kj2 l1 t195 t196 t197 t198 bt199.1 bt199.2.1 bt199.2.2 true) else (if bt199.1 = bt202.1 then (laws_FnJoin.j1 kj2 l1 t195 t196 t197 t198 bt199.1 bt199.2.1 bt199.2.2 (bt199.2.1 != bt202.2.1)) else (laws_FnJoin.j1 kj2 l1 t195 t196 t197 t198 bt199.1 bt199.2.1 bt199.2.2 true))))) = some r := H
        have A6 := Aside0.mk A60
        clear A60
        replace H := Option.bind_eq_some_iff.mp H
        obtain ⟨⟨t199, t200, t201⟩, A70, H⟩ := H
        replace H : ((spec_WordJoin.f t195 t196 t197 t198).bind fun bt202 => (if (t201 != bt202.2.2) = true then (laws_FnJoin.j1 kj2 l1 t195 t196 t197 t198 t199 t200 t201 true) else (if t199 = bt202.1 then (laws_FnJoin.j1 kj2 l1 t195 t196 t197 t198 t199 t200 t201 (t200 != bt202.2.1)) else (laws_FnJoin.j1 kj2 l1 t195 t196 t197 t198 t199 t200 t201 true)))) = some r := H
        have A7 := Aside0.mk A70
        clear A70
        replace H := Option.bind_eq_some_iff.mp H
        obtain ⟨⟨t202, t203, t204⟩, A80, H⟩ := H
        replace H : (if (t201 != t204) = true then (laws_FnJoin.j1 kj2 l1 t195 t196 t197 t198 t199 t200 t201 true) else (if t199 = t202 then (laws_FnJoin.j1 kj2 l1 t195 t196 t197 t198 t199 t200 t201 (t200 != t203)) else (laws_FnJoin.j1 kj2 l1 t195 t196 t197 t198 t199 t200 t201 true))) = some r := H
        have A8 := Aside0.mk A80
        clear A80
        have HC9 := Aside0.mk H
        clear H
        go_upto_region 6 with (first | ((with_reducible refine gate_callee (f := 8) rfl ?_); refine goesL_ (some 43) rfl rfl Try.func8 (by kernel_rfl) rfl #[.slice A0 l0.length c0] rfl (by (try simp only [List.map_toArray, List.map_cons, List.map_nil]); first | done | rfl | (simp only [List.length_drop, List.length_take]; rfl)) ?_; (with_reducible refine (spec_DrawWordJoin.calls kj2 _ _ l0 t195 t196 t197 t198 _ ?side1 ?side2 A6.out).mono ?_); (case side1 => repeat (first | exact (Kd.C_below HR0.out HB.out) | (with_reducible refine Kd.C_alloc ?_ _) | (with_reducible refine Kd.C_drewN ?_ _) | (with_reducible refine Kd.C_drew ?_))); (case side2 => exact HC0.out); rintro e w10 ⟨rfl, hb⟩; refine ⟨_, rfl, ?_⟩; have n0_ := Aside0.mk (below_step (by repeat (first | (with_reducible first | exact HB.out | apply below_alloc | apply pw_below_drewN | apply below_drew1) | exact HB.out)) hb); clear HB; have HB := n0_; clear n0_; (try clear hb); (try clear hb2); (try clear hk); (try clear hi)) | ((with_reducible refine gate_callee (f := 9) rfl ?_); refine goesL_ (some 53) rfl rfl Try.func9 (by kernel_rfl) rfl #[.int .i64 t195, .int .i64 t196, .int .i64 t197, .int .i64 t198] rfl (by (try simp only [List.map_toArray, List.map_cons, List.map_nil]); first | done | rfl | (simp only [List.length_drop, List.length_take]; rfl)) ?_; (with_reducible refine (impl_WordJoin.calls t195 t196 t197 t198 t199 t200 t201 _ A7.out).mono ?_); rintro e w' ⟨rfl, ⟨nd, rfl⟩⟩; refine ⟨_, rfl, ?_⟩) | ((with_reducible refine gate_callee (f := 10) rfl ?_); refine goesL_ (some 62) rfl rfl Try.func10 (by kernel_rfl) rfl #[.int .i64 t195, .int .i64 t196, .int .i64 t197, .int .i64 t198] rfl (by (try simp only [List.map_toArray, List.map_cons, List.map_nil]); first | done | rfl | (simp only [List.length_drop, List.length_take]; rfl)) ?_; (with_reducible refine (spec_WordJoin.calls t195 t196 t197 t198 t202 t203 t204 _ A8.out).mono ?_); rintro e w' ⟨rfl, ⟨nd, rfl⟩⟩; refine ⟨_, rfl, ?_⟩))
        (try simp only [Act.put, List.setIfInBounds_toArray, List.set_cons_zero, List.set_cons_succ])
        go_cut [78] (fun v78 wc => ∃ (kq : Nat) (x78_8 : Bool), v78 = .bool x78_8 ∧ Aside0 (laws_FnJoin.j1 kq l1 t195 t196 t197 t198 t199 t200 t201 x78_8 = some r) ∧ Aside0 (kq ≤ kj2) ∧ Aside0 (Below w.heap.size w wc))
        case first =>
          have H := HC9.out
          clear HC9
          by_cases c11 : (t201 != t204) = true
          · rw [if_pos c11] at H
            have c11b0 : (t201 != t204) = true := c11
            (try (have c11b1 : decide (t201 = t204) = false := by simpa using c11))
            (try (have c11b2 : (t201 == t204) = false := by simpa using c11))
            (try (have c11b3 : ¬ (t201 = t204) := by simpa using c11))
            clear c11
            (first | rw [c11b0] | (simp only [i64_w, i32_w]; rw [c11b0]) | skip)
            have H' := Aside0.mk H
            clear H
            go_wp2
            go_meet
            case rel => exact ⟨_, (true), (by first | rfl | (simp; done) | (simp [*]; done) | (exfalso; simp only [beq_iff_eq] at *; omega)), H', ⟨by have := HJ2.out; first | omega | exact Nat.le_refl _⟩, ⟨by repeat (first | (with_reducible first | exact HB.out | apply below_alloc | apply pw_below_drewN | apply below_drew1) | exact HB.out)⟩⟩
          · rw [if_neg c11] at H
            have c11b0 : (t201 != t204) = false := by simpa using c11
            (try (have c11b1 : decide (t201 = t204) = true := by simpa using c11))
            (try (have c11b2 : (t201 == t204) = true := by simpa using c11))
            clear c11
            (first | rw [c11b0] | (simp only [i64_w, i32_w]; rw [c11b0]) | skip)
            by_cases c12 : t199 = t202
            · rw [if_pos c12] at H
              have c12b0 : (t199 == t202) = true := beq_iff_eq.mpr c12
              have c12b1 : (t199 != t202) = false := bne_eq_false_iff_eq.mpr c12
              clear c12
              have H' := Aside0.mk H
              clear H
              go_wp2
              go_meet
              case rel => exact ⟨_, ((t200 != t203)), (by first | rfl | (simp; done) | (simp [*]; done) | (exfalso; simp only [beq_iff_eq] at *; omega)), H', ⟨by have := HJ2.out; first | omega | exact Nat.le_refl _⟩, ⟨by repeat (first | (with_reducible first | exact HB.out | apply below_alloc | apply pw_below_drewN | apply below_drew1) | exact HB.out)⟩⟩
            · rw [if_neg c12] at H
              have c12b0 : (t199 == t202) = false := beq_eq_false_iff_ne.mpr c12
              have c12b1 : (t199 != t202) = true := bne_iff_ne.mpr c12
              have H' := Aside0.mk H
              clear H
              go_wp2
              go_meet
              case rel => exact ⟨_, (true), (by first | rfl | (simp; done) | (simp [*]; done) | (exfalso; simp only [beq_iff_eq] at *; omega)), H', ⟨by have := HJ2.out; first | omega | exact Nat.le_refl _⟩, ⟨by repeat (first | (with_reducible first | exact HB.out | apply below_alloc | apply pw_below_drewN | apply below_drew1) | exact HB.out)⟩⟩
        case rest =>
          clear HC9
          try clear c1
          try clear p2
          try clear c3
          try clear c4
          try clear c4b0
          try clear c4b1
          try clear c5
          try clear c8
          try clear c9
          try clear c10
          try clear c11
          try clear c11b0
          try clear c11b1
          try clear c11b2
          try clear c12
          try clear c12b0
          try clear c12b1
          try clear p2
          obtain ⟨kq, x78_8, rfl, HA, HJ8, HB⟩ := hcut
          cases kq with
          | zero => exact absurd HA.out (by simp [laws_FnJoin.j1])
          | succ kj8 =>
            have H := HA.out
            clear HA
            simp only [laws_FnJoin.j1] at H
            by_cases c13 : x78_8 = true
            · subst c13
              have H1 : (some false) = some r := by rw [if_pos rfl] at H; exact H
              clear H
              have H := H1
              clear H1
              obtain rfl := Option.some.inj H
              go_wp2
              go_ret
              exact ⟨by first | rfl | (simp [errW_none, errW_some] <;> rfl) | (simp [*, errW_none, errW_some] <;> rfl), by repeat (first | (with_reducible first | exact HB.out | apply below_alloc | apply pw_below_drewN | apply below_drew1) | exact HB.out)⟩
            · replace c13 := Bool.eq_false_iff.mpr c13
              subst c13
              have H1 : (if t201 = true then ((impl_WordSlice.f t200 t199 (wrap64 (t200 - 1)) t197).bind fun bt205 => ((impl_WordSlice.f t200 t199 (wrap64 (t197 - 1)) 0).bind fun bt208 => (if bt205.2.2 = true then (if bt208.2.2 = true then (if bt205.1 = t196 then (if bt208.1 = t198 then (if bt205.2.1 = t195 then (if bt208.2.1 = t197 then (laws_FnJoin.j2 kj8 l1) else (some false)) else (some false)) else (some false)) else (some false)) else (some false)) else (some false)))) else (laws_FnJoin.j2 kj8 l1)) = some r := by rw [if_neg (show ¬ (false = true) by decide)] at H; exact H
              clear H
              have H := H1
              clear H1
              have HC14 := Aside0.mk H
              clear H
              go_upto_if 79 with (fail)
              go_cut [] (fun wc => ∃ (kq : Nat), Aside0 (laws_FnJoin.j2 kq l1 = some r) ∧ Aside0 (kq ≤ kj8) ∧ Aside0 (Below w.heap.size w wc))
              case first =>
                have H := HC14.out
                clear HC14
                by_cases c15 : t201 = true
                · subst c15
                  have H1 : ((impl_WordSlice.f t200 t199 (wrap64 (t200 - 1)) t197).bind fun bt205 => ((impl_WordSlice.f t200 t199 (wrap64 (t197 - 1)) 0).bind fun bt208 => (if bt205.2.2 = true then (if bt208.2.2 = true then (if bt205.1 = t196 then (if bt208.1 = t198 then (if bt205.2.1 = t195 then (if bt208.2.1 = t197 then (laws_FnJoin.j2 kj8 l1) else (some false)) else (some false)) else (some false)) else (some false)) else (some false)) else (some false)))) = some r := by rw [if_pos rfl] at H; exact H
                  clear H
                  have H := H1
                  clear H1
                  replace H := Option.bind_eq_some_iff.mp H
                  obtain ⟨⟨t205, t206, t207⟩, A160, H⟩ := H
                  replace H : ((impl_WordSlice.f t200 t199 (wrap64 (t197 - 1)) 0).bind fun bt208 => (if t207 = true then (if bt208.2.2 = true then (if t205 = t196 then (if bt208.1 = t198 then (if t206 = t195 then (if bt208.2.1 = t197 then (laws_FnJoin.j2 kj8 l1) else (some false)) else (some false)) else (some false)) else (some false)) else (some false)) else (some false))) = some r := H
                  have A16 := Aside0.mk A160
                  clear A160
                  replace H := Option.bind_eq_some_iff.mp H
                  obtain ⟨⟨t208, t209, t210⟩, A170, H⟩ := H
                  replace H : (if t207 = true then (if t210 = true then (if t205 = t196 then (if t208 = t198 then (if t206 = t195 then (if t209 = t197 then (laws_FnJoin.j2 kj8 l1) else (some false)) else (some false)) else (some false)) else (some false)) else (some false)) else (some false)) = some r := H
                  have A17 := Aside0.mk A170
                  clear A170
                  by_cases c18 : t207 = true
                  · subst c18
                    have H1 : (if t210 = true then (if t205 = t196 then (if t208 = t198 then (if t206 = t195 then (if t209 = t197 then (laws_FnJoin.j2 kj8 l1) else (some false)) else (some false)) else (some false)) else (some false)) else (some false)) = some r := by rw [if_pos rfl] at H; exact H
                    clear H
                    have H := H1
                    clear H1
                    by_cases c19 : t210 = true
                    · subst c19
                      have H1 : (if t205 = t196 then (if t208 = t198 then (if t206 = t195 then (if t209 = t197 then (laws_FnJoin.j2 kj8 l1) else (some false)) else (some false)) else (some false)) else (some false)) = some r := by rw [if_pos rfl] at H; exact H
                      clear H
                      have H := H1
                      clear H1
                      by_cases c20 : t205 = t196
                      · rw [if_pos c20] at H
                        have c20b0 : (t205 == t196) = true := beq_iff_eq.mpr c20
                        have c20b1 : (t205 != t196) = false := bne_eq_false_iff_eq.mpr c20
                        clear c20
                        (first | rw [c20b0] | (simp only [i64_w, i32_w]; rw [c20b0]) | skip)
                        by_cases c21 : t208 = t198
                        · rw [if_pos c21] at H
                          have c21b0 : (t208 == t198) = true := beq_iff_eq.mpr c21
                          have c21b1 : (t208 != t198) = false := bne_eq_false_iff_eq.mpr c21
                          clear c21
                          by_cases c22 : t206 = t195
                          · rw [if_pos c22] at H
                            have c22b0 : (t206 == t195) = true := beq_iff_eq.mpr c22
                            have c22b1 : (t206 != t195) = false := bne_eq_false_iff_eq.mpr c22
                            clear c22
                            by_cases c23 : t209 = t197
                            · rw [if_pos c23] at H
                              have c23b0 : (t209 == t197) = true := beq_iff_eq.mpr c23
                              have c23b1 : (t209 != t197) = false := bne_eq_false_iff_eq.mpr c23
                              clear c23
                              have H' := Aside0.mk H
                              clear H
                              go_wp2_with (first | ((with_reducible refine gate_callee (f := 11) rfl ?_); refine goesL_ (some 86) rfl rfl Try.func11 (by kernel_rfl) rfl #[.int .i64 t200, .int .i64 t199, .int .i64 (wrap64 (t200 - 1)), .int .i64 t197] rfl (by (try simp only [List.map_toArray, List.map_cons, List.map_nil]); first | done | rfl | (simp only [List.length_drop, List.length_take]; rfl)) ?_; (with_reducible refine (impl_WordSlice.calls t200 t199 (wrap64 (t200 - 1)) t197 t205 t206 true _ A16.out).mono ?_); rintro e w' ⟨rfl, ⟨nd, rfl⟩⟩; refine ⟨_, rfl, ?_⟩) | ((with_reducible refine gate_callee (f := 11) rfl ?_); refine goesL_ (some 95) rfl rfl Try.func11 (by kernel_rfl) rfl #[.int .i64 t200, .int .i64 t199, .int .i64 (wrap64 (t197 - 1)), .int .i64 0] rfl (by (try simp only [List.map_toArray, List.map_cons, List.map_nil]); first | done | rfl | (simp only [List.length_drop, List.length_take]; rfl)) ?_; (with_reducible refine (impl_WordSlice.calls t200 t199 (wrap64 (t197 - 1)) 0 t208 t209 true _ A17.out).mono ?_); rintro e w' ⟨rfl, ⟨nd, rfl⟩⟩; refine ⟨_, rfl, ?_⟩))
                              go_meet
                              case rel => exact ⟨_, H', ⟨by have := HJ2.out; have := HJ8.out; first | omega | exact Nat.le_refl _⟩, ⟨by repeat (first | (with_reducible first | exact HB.out | apply below_alloc | apply pw_below_drewN | apply below_drew1) | exact HB.out)⟩⟩
                            · rw [if_neg c23] at H
                              have c23b0 : (t209 == t197) = false := beq_eq_false_iff_ne.mpr c23
                              have c23b1 : (t209 != t197) = true := bne_iff_ne.mpr c23
                              obtain rfl := Option.some.inj H
                              go_wp2_with (first | ((with_reducible refine gate_callee (f := 11) rfl ?_); refine goesL_ (some 86) rfl rfl Try.func11 (by kernel_rfl) rfl #[.int .i64 t200, .int .i64 t199, .int .i64 (wrap64 (t200 - 1)), .int .i64 t197] rfl (by (try simp only [List.map_toArray, List.map_cons, List.map_nil]); first | done | rfl | (simp only [List.length_drop, List.length_take]; rfl)) ?_; (with_reducible refine (impl_WordSlice.calls t200 t199 (wrap64 (t200 - 1)) t197 t205 t206 true _ A16.out).mono ?_); rintro e w' ⟨rfl, ⟨nd, rfl⟩⟩; refine ⟨_, rfl, ?_⟩) | ((with_reducible refine gate_callee (f := 11) rfl ?_); refine goesL_ (some 95) rfl rfl Try.func11 (by kernel_rfl) rfl #[.int .i64 t200, .int .i64 t199, .int .i64 (wrap64 (t197 - 1)), .int .i64 0] rfl (by (try simp only [List.map_toArray, List.map_cons, List.map_nil]); first | done | rfl | (simp only [List.length_drop, List.length_take]; rfl)) ?_; (with_reducible refine (impl_WordSlice.calls t200 t199 (wrap64 (t197 - 1)) 0 t208 t209 true _ A17.out).mono ?_); rintro e w' ⟨rfl, ⟨nd, rfl⟩⟩; refine ⟨_, rfl, ?_⟩))
                              go_ret
                              exact ⟨by first | rfl | (simp [errW_none, errW_some] <;> rfl) | (simp [*, errW_none, errW_some] <;> rfl), by repeat (first | (with_reducible first | exact HB.out | apply below_alloc | apply pw_below_drewN | apply below_drew1) | exact HB.out)⟩
                          · rw [if_neg c22] at H
                            have c22b0 : (t206 == t195) = false := beq_eq_false_iff_ne.mpr c22
                            have c22b1 : (t206 != t195) = true := bne_iff_ne.mpr c22
                            obtain rfl := Option.some.inj H
                            go_wp2_with (first | ((with_reducible refine gate_callee (f := 11) rfl ?_); refine goesL_ (some 86) rfl rfl Try.func11 (by kernel_rfl) rfl #[.int .i64 t200, .int .i64 t199, .int .i64 (wrap64 (t200 - 1)), .int .i64 t197] rfl (by (try simp only [List.map_toArray, List.map_cons, List.map_nil]); first | done | rfl | (simp only [List.length_drop, List.length_take]; rfl)) ?_; (with_reducible refine (impl_WordSlice.calls t200 t199 (wrap64 (t200 - 1)) t197 t205 t206 true _ A16.out).mono ?_); rintro e w' ⟨rfl, ⟨nd, rfl⟩⟩; refine ⟨_, rfl, ?_⟩) | ((with_reducible refine gate_callee (f := 11) rfl ?_); refine goesL_ (some 95) rfl rfl Try.func11 (by kernel_rfl) rfl #[.int .i64 t200, .int .i64 t199, .int .i64 (wrap64 (t197 - 1)), .int .i64 0] rfl (by (try simp only [List.map_toArray, List.map_cons, List.map_nil]); first | done | rfl | (simp only [List.length_drop, List.length_take]; rfl)) ?_; (with_reducible refine (impl_WordSlice.calls t200 t199 (wrap64 (t197 - 1)) 0 t208 t209 true _ A17.out).mono ?_); rintro e w' ⟨rfl, ⟨nd, rfl⟩⟩; refine ⟨_, rfl, ?_⟩))
                            go_ret
                            exact ⟨by first | rfl | (simp [errW_none, errW_some] <;> rfl) | (simp [*, errW_none, errW_some] <;> rfl), by repeat (first | (with_reducible first | exact HB.out | apply below_alloc | apply pw_below_drewN | apply below_drew1) | exact HB.out)⟩
                        · rw [if_neg c21] at H
                          have c21b0 : (t208 == t198) = false := beq_eq_false_iff_ne.mpr c21
                          have c21b1 : (t208 != t198) = true := bne_iff_ne.mpr c21
                          obtain rfl := Option.some.inj H
                          go_wp2_with (first | ((with_reducible refine gate_callee (f := 11) rfl ?_); refine goesL_ (some 86) rfl rfl Try.func11 (by kernel_rfl) rfl #[.int .i64 t200, .int .i64 t199, .int .i64 (wrap64 (t200 - 1)), .int .i64 t197] rfl (by (try simp only [List.map_toArray, List.map_cons, List.map_nil]); first | done | rfl | (simp only [List.length_drop, List.length_take]; rfl)) ?_; (with_reducible refine (impl_WordSlice.calls t200 t199 (wrap64 (t200 - 1)) t197 t205 t206 true _ A16.out).mono ?_); rintro e w' ⟨rfl, ⟨nd, rfl⟩⟩; refine ⟨_, rfl, ?_⟩) | ((with_reducible refine gate_callee (f := 11) rfl ?_); refine goesL_ (some 95) rfl rfl Try.func11 (by kernel_rfl) rfl #[.int .i64 t200, .int .i64 t199, .int .i64 (wrap64 (t197 - 1)), .int .i64 0] rfl (by (try simp only [List.map_toArray, List.map_cons, List.map_nil]); first | done | rfl | (simp only [List.length_drop, List.length_take]; rfl)) ?_; (with_reducible refine (impl_WordSlice.calls t200 t199 (wrap64 (t197 - 1)) 0 t208 t209 true _ A17.out).mono ?_); rintro e w' ⟨rfl, ⟨nd, rfl⟩⟩; refine ⟨_, rfl, ?_⟩))
                          go_ret
                          exact ⟨by first | rfl | (simp [errW_none, errW_some] <;> rfl) | (simp [*, errW_none, errW_some] <;> rfl), by repeat (first | (with_reducible first | exact HB.out | apply below_alloc | apply pw_below_drewN | apply below_drew1) | exact HB.out)⟩
                      · rw [if_neg c20] at H
                        have c20b0 : (t205 == t196) = false := beq_eq_false_iff_ne.mpr c20
                        have c20b1 : (t205 != t196) = true := bne_iff_ne.mpr c20
                        (first | rw [c20b0] | (simp only [i64_w, i32_w]; rw [c20b0]) | skip)
                        obtain rfl := Option.some.inj H
                        go_wp2_with (first | ((with_reducible refine gate_callee (f := 11) rfl ?_); refine goesL_ (some 86) rfl rfl Try.func11 (by kernel_rfl) rfl #[.int .i64 t200, .int .i64 t199, .int .i64 (wrap64 (t200 - 1)), .int .i64 t197] rfl (by (try simp only [List.map_toArray, List.map_cons, List.map_nil]); first | done | rfl | (simp only [List.length_drop, List.length_take]; rfl)) ?_; (with_reducible refine (impl_WordSlice.calls t200 t199 (wrap64 (t200 - 1)) t197 t205 t206 true _ A16.out).mono ?_); rintro e w' ⟨rfl, ⟨nd, rfl⟩⟩; refine ⟨_, rfl, ?_⟩) | ((with_reducible refine gate_callee (f := 11) rfl ?_); refine goesL_ (some 95) rfl rfl Try.func11 (by kernel_rfl) rfl #[.int .i64 t200, .int .i64 t199, .int .i64 (wrap64 (t197 - 1)), .int .i64 0] rfl (by (try simp only [List.map_toArray, List.map_cons, List.map_nil]); first | done | rfl | (simp only [List.length_drop, List.length_take]; rfl)) ?_; (with_reducible refine (impl_WordSlice.calls t200 t199 (wrap64 (t197 - 1)) 0 t208 t209 true _ A17.out).mono ?_); rintro e w' ⟨rfl, ⟨nd, rfl⟩⟩; refine ⟨_, rfl, ?_⟩))
                        go_ret
                        exact ⟨by first | rfl | (simp [errW_none, errW_some] <;> rfl) | (simp [*, errW_none, errW_some] <;> rfl), by repeat (first | (with_reducible first | exact HB.out | apply below_alloc | apply pw_below_drewN | apply below_drew1) | exact HB.out)⟩
                    · replace c19 := Bool.eq_false_iff.mpr c19
                      subst c19
                      have H1 : (some false) = some r := by rw [if_neg (show ¬ (false = true) by decide)] at H; exact H
                      clear H
                      have H := H1
                      clear H1
                      obtain rfl := Option.some.inj H
                      go_wp2_with (first | ((with_reducible refine gate_callee (f := 11) rfl ?_); refine goesL_ (some 86) rfl rfl Try.func11 (by kernel_rfl) rfl #[.int .i64 t200, .int .i64 t199, .int .i64 (wrap64 (t200 - 1)), .int .i64 t197] rfl (by (try simp only [List.map_toArray, List.map_cons, List.map_nil]); first | done | rfl | (simp only [List.length_drop, List.length_take]; rfl)) ?_; (with_reducible refine (impl_WordSlice.calls t200 t199 (wrap64 (t200 - 1)) t197 t205 t206 true _ A16.out).mono ?_); rintro e w' ⟨rfl, ⟨nd, rfl⟩⟩; refine ⟨_, rfl, ?_⟩) | ((with_reducible refine gate_callee (f := 11) rfl ?_); refine goesL_ (some 95) rfl rfl Try.func11 (by kernel_rfl) rfl #[.int .i64 t200, .int .i64 t199, .int .i64 (wrap64 (t197 - 1)), .int .i64 0] rfl (by (try simp only [List.map_toArray, List.map_cons, List.map_nil]); first | done | rfl | (simp only [List.length_drop, List.length_take]; rfl)) ?_; (with_reducible refine (impl_WordSlice.calls t200 t199 (wrap64 (t197 - 1)) 0 t208 t209 false _ A17.out).mono ?_); rintro e w' ⟨rfl, ⟨nd, rfl⟩⟩; refine ⟨_, rfl, ?_⟩))
                      go_ret
                      exact ⟨by first | rfl | (simp [errW_none, errW_some] <;> rfl) | (simp [*, errW_none, errW_some] <;> rfl), by repeat (first | (with_reducible first | exact HB.out | apply below_alloc | apply pw_below_drewN | apply below_drew1) | exact HB.out)⟩
                  · replace c18 := Bool.eq_false_iff.mpr c18
                    subst c18
                    have H1 : (some false) = some r := by rw [if_neg (show ¬ (false = true) by decide)] at H; exact H
                    clear H
                    have H := H1
                    clear H1
                    obtain rfl := Option.some.inj H
                    go_wp2_with (first | ((with_reducible refine gate_callee (f := 11) rfl ?_); refine goesL_ (some 86) rfl rfl Try.func11 (by kernel_rfl) rfl #[.int .i64 t200, .int .i64 t199, .int .i64 (wrap64 (t200 - 1)), .int .i64 t197] rfl (by (try simp only [List.map_toArray, List.map_cons, List.map_nil]); first | done | rfl | (simp only [List.length_drop, List.length_take]; rfl)) ?_; (with_reducible refine (impl_WordSlice.calls t200 t199 (wrap64 (t200 - 1)) t197 t205 t206 false _ A16.out).mono ?_); rintro e w' ⟨rfl, ⟨nd, rfl⟩⟩; refine ⟨_, rfl, ?_⟩) | ((with_reducible refine gate_callee (f := 11) rfl ?_); refine goesL_ (some 95) rfl rfl Try.func11 (by kernel_rfl) rfl #[.int .i64 t200, .int .i64 t199, .int .i64 (wrap64 (t197 - 1)), .int .i64 0] rfl (by (try simp only [List.map_toArray, List.map_cons, List.map_nil]); first | done | rfl | (simp only [List.length_drop, List.length_take]; rfl)) ?_; (with_reducible refine (impl_WordSlice.calls t200 t199 (wrap64 (t197 - 1)) 0 t208 t209 t210 _ A17.out).mono ?_); rintro e w' ⟨rfl, ⟨nd, rfl⟩⟩; refine ⟨_, rfl, ?_⟩))
                    go_ret
                    exact ⟨by first | rfl | (simp [errW_none, errW_some] <;> rfl) | (simp [*, errW_none, errW_some] <;> rfl), by repeat (first | (with_reducible first | exact HB.out | apply below_alloc | apply pw_below_drewN | apply below_drew1) | exact HB.out)⟩
                · replace c15 := Bool.eq_false_iff.mpr c15
                  subst c15
                  have H1 : (laws_FnJoin.j2 kj8 l1) = some r := by rw [if_neg (show ¬ (false = true) by decide)] at H; exact H
                  clear H
                  have H := H1
                  clear H1
                  have H' := Aside0.mk H
                  clear H
                  go_wp2
                  go_meet
                  case rel => exact ⟨_, H', ⟨by have := HJ2.out; have := HJ8.out; first | omega | exact Nat.le_refl _⟩, ⟨by repeat (first | (with_reducible first | exact HB.out | apply below_alloc | apply pw_below_drewN | apply below_drew1) | exact HB.out)⟩⟩
              case rest =>
                clear HC14
                try clear c1
                try clear c2
                try clear p2
                try clear c3
                try clear c4
                try clear c4b0
                try clear c4b1
                try clear c5
                try clear p6
                try clear c8
                try clear c9
                try clear c10
                try clear c11
                try clear c11b0
                try clear c11b1
                try clear c11b2
                try clear c12
                try clear c12b0
                try clear c12b1
                try clear c13
                try clear c15
                try clear c18
                try clear c19
                try clear c20
                try clear c20b0
                try clear c20b1
                try clear c21
                try clear c21b0
                try clear c21b1
                try clear c22
                try clear c22b0
                try clear c22b1
                try clear c23
                try clear c23b0
                try clear c23b1
                try clear p2
                obtain ⟨kq, HA, HJ13, HB⟩ := hcut
                cases kq with
                | zero => exact absurd HA.out (by simp [laws_FnJoin.j2])
                | succ kj13 =>
                  have H := HA.out
                  clear HA
                  simp only [laws_FnJoin.j2] at H
                  replace H := Option.bind_eq_some_iff.mp H
                  obtain ⟨⟨t211, t212, t213, t214⟩, A240, H⟩ := H
                  replace H : ((impl_WordGrow.f t211 t212 t213 t214).bind fun bt215 => ((spec_WordGrow.f kj13 t211 t212 t213 t214).bind fun bt218 => (if (bt215.2.2 != bt218.2.2) = true then (laws_FnJoin.j3 kj13 bt215.2.2 t211 t212 t214 bt215.1 bt215.2.1 true) else (if bt215.1 = bt218.1 then (laws_FnJoin.j3 kj13 bt215.2.2 t211 t212 t214 bt215.1 bt215.2.1 (bt215.2.1 != bt218.2.1)) else (laws_FnJoin.j3 kj13 bt215.2.2 t211 t212 t214 bt215.1 bt215.2.1 true))))) = some r := H
                  have A24 := Aside0.mk A240
                  clear A240
                  replace H := Option.bind_eq_some_iff.mp H
                  obtain ⟨⟨t215, t216, t217⟩, A250, H⟩ := H
                  replace H : ((spec_WordGrow.f kj13 t211 t212 t213 t214).bind fun bt218 => (if (t217 != bt218.2.2) = true then (laws_FnJoin.j3 kj13 t217 t211 t212 t214 t215 t216 true) else (if t215 = bt218.1 then (laws_FnJoin.j3 kj13 t217 t211 t212 t214 t215 t216 (t216 != bt218.2.1)) else (laws_FnJoin.j3 kj13 t217 t211 t212 t214 t215 t216 true)))) = some r := H
                  have A25 := Aside0.mk A250
                  clear A250
                  replace H := Option.bind_eq_some_iff.mp H
                  obtain ⟨⟨t218, t219, t220⟩, A260, H⟩ := H
                  replace H : (if (t217 != t220) = true then (laws_FnJoin.j3 kj13 t217 t211 t212 t214 t215 t216 true) else (if t215 = t218 then (laws_FnJoin.j3 kj13 t217 t211 t212 t214 t215 t216 (t216 != t219)) else (laws_FnJoin.j3 kj13 t217 t211 t212 t214 t215 t216 true))) = some r := H
                  have A26 := Aside0.mk A260
                  clear A260
                  have HC27 := Aside0.mk H
                  clear H
                  go_upto_region 16 with (first | ((with_reducible refine gate_callee (f := 12) rfl ?_); refine goesL_ (some 127) rfl rfl Try.func12 (by kernel_rfl) rfl #[.slice A1 l1.length c1] rfl (by (try simp only [List.map_toArray, List.map_cons, List.map_nil]); first | done | rfl | (simp only [List.length_drop, List.length_take]; rfl)) ?_; (with_reducible refine (spec_DrawWordGrow.calls kj13 _ _ l1 t211 t212 t213 t214 _ ?side1 ?side2 A24.out).mono ?_); (case side1 => repeat (first | exact (Kd.C_below HR1.out HB.out) | (with_reducible refine Kd.C_alloc ?_ _) | (with_reducible refine Kd.C_drewN ?_ _) | (with_reducible refine Kd.C_drew ?_))); (case side2 => exact HC1.out); rintro e w28 ⟨rfl, hb⟩; refine ⟨_, rfl, ?_⟩; have n0_ := Aside0.mk (below_step (by repeat (first | (with_reducible first | exact HB.out | apply below_alloc | apply pw_below_drewN | apply below_drew1) | exact HB.out)) hb); clear HB; have HB := n0_; clear n0_; (try clear hb); (try clear hb2); (try clear hk); (try clear hi)) | ((with_reducible refine gate_callee (f := 13) rfl ?_); refine goesL_ (some 137) rfl rfl Try.func13 (by kernel_rfl) rfl #[.int .i64 t211, .int .i64 t212, .int .i64 t213, .bool t214] rfl (by (try simp only [List.map_toArray, List.map_cons, List.map_nil]); first | done | rfl | (simp only [List.length_drop, List.length_take]; rfl)) ?_; (with_reducible refine (impl_WordGrow.calls t211 t212 t213 t214 t215 t216 t217 _ A25.out).mono ?_); rintro e w' ⟨rfl, ⟨nd, rfl⟩⟩; refine ⟨_, rfl, ?_⟩) | ((with_reducible refine gate_callee (f := 14) rfl ?_); refine goesL_ (some 146) rfl rfl Try.func14 (by kernel_rfl) rfl #[.int .i64 t211, .int .i64 t212, .int .i64 t213, .bool t214] rfl (by (try simp only [List.map_toArray, List.map_cons, List.map_nil]); first | done | rfl | (simp only [List.length_drop, List.length_take]; rfl)) ?_; (with_reducible refine (spec_WordGrow.calls kj13 t211 t212 t213 t214 t218 t219 t220 _ A26.out).mono ?_); rintro e w' ⟨rfl, ⟨nd, rfl⟩⟩; refine ⟨_, rfl, ?_⟩))
                  (try simp only [Act.put, List.setIfInBounds_toArray, List.set_cons_zero, List.set_cons_succ])
                  go_cut [162] (fun v162 wc => ∃ (kq : Nat) (x162_26 : Bool), v162 = .bool x162_26 ∧ Aside0 (laws_FnJoin.j3 kq t217 t211 t212 t214 t215 t216 x162_26 = some r) ∧ Aside0 (kq ≤ kj13) ∧ Aside0 (Below w.heap.size w wc))
                  case first =>
                    have H := HC27.out
                    clear HC27
                    by_cases c29 : (t217 != t220) = true
                    · rw [if_pos c29] at H
                      have c29b0 : (t217 != t220) = true := c29
                      (try (have c29b1 : decide (t217 = t220) = false := by simpa using c29))
                      (try (have c29b2 : (t217 == t220) = false := by simpa using c29))
                      (try (have c29b3 : ¬ (t217 = t220) := by simpa using c29))
                      clear c29
                      (first | rw [c29b0] | (simp only [i64_w, i32_w]; rw [c29b0]) | skip)
                      have H' := Aside0.mk H
                      clear H
                      go_wp2
                      go_meet
                      case rel => exact ⟨_, (true), (by first | rfl | (simp; done) | (simp [*]; done) | (exfalso; simp only [beq_iff_eq] at *; omega)), H', ⟨by have := HJ2.out; have := HJ8.out; have := HJ13.out; first | omega | exact Nat.le_refl _⟩, ⟨by repeat (first | (with_reducible first | exact HB.out | apply below_alloc | apply pw_below_drewN | apply below_drew1) | exact HB.out)⟩⟩
                    · rw [if_neg c29] at H
                      have c29b0 : (t217 != t220) = false := by simpa using c29
                      (try (have c29b1 : decide (t217 = t220) = true := by simpa using c29))
                      (try (have c29b2 : (t217 == t220) = true := by simpa using c29))
                      clear c29
                      (first | rw [c29b0] | (simp only [i64_w, i32_w]; rw [c29b0]) | skip)
                      by_cases c30 : t215 = t218
                      · rw [if_pos c30] at H
                        have c30b0 : (t215 == t218) = true := beq_iff_eq.mpr c30
                        have c30b1 : (t215 != t218) = false := bne_eq_false_iff_eq.mpr c30
                        clear c30
                        have H' := Aside0.mk H
                        clear H
                        go_wp2
                        go_meet
                        case rel => exact ⟨_, ((t216 != t219)), (by first | rfl | (simp; done) | (simp [*]; done) | (exfalso; simp only [beq_iff_eq] at *; omega)), H', ⟨by have := HJ2.out; have := HJ8.out; have := HJ13.out; first | omega | exact Nat.le_refl _⟩, ⟨by repeat (first | (with_reducible first | exact HB.out | apply below_alloc | apply pw_below_drewN | apply below_drew1) | exact HB.out)⟩⟩
                      · rw [if_neg c30] at H
                        have c30b0 : (t215 == t218) = false := beq_eq_false_iff_ne.mpr c30
                        have c30b1 : (t215 != t218) = true := bne_iff_ne.mpr c30
                        have H' := Aside0.mk H
                        clear H
                        go_wp2
                        go_meet
                        case rel => exact ⟨_, (true), (by first | rfl | (simp; done) | (simp [*]; done) | (exfalso; simp only [beq_iff_eq] at *; omega)), H', ⟨by have := HJ2.out; have := HJ8.out; have := HJ13.out; first | omega | exact Nat.le_refl _⟩, ⟨by repeat (first | (with_reducible first | exact HB.out | apply below_alloc | apply pw_below_drewN | apply below_drew1) | exact HB.out)⟩⟩
                  case rest =>
                    clear HC27
                    try clear c1
                    try clear c2
                    try clear p2
                    try clear c3
                    try clear c4
                    try clear c4b0
                    try clear c4b1
                    try clear c5
                    try clear p6
                    try clear c8
                    try clear c9
                    try clear c10
                    try clear c11
                    try clear c11b0
                    try clear c11b1
                    try clear c11b2
                    try clear c12
                    try clear c12b0
                    try clear c12b1
                    try clear c13
                    try clear c14
                    try clear c15
                    try clear c18
                    try clear c19
                    try clear c20
                    try clear c20b0
                    try clear c20b1
                    try clear c21
                    try clear c21b0
                    try clear c21b1
                    try clear c22
                    try clear c22b0
                    try clear c22b1
                    try clear c23
                    try clear c23b0
                    try clear c23b1
                    try clear c29
                    try clear c29b0
                    try clear c29b1
                    try clear c29b2
                    try clear c30
                    try clear c30b0
                    try clear c30b1
                    try clear p2
                    try clear p6
                    obtain ⟨kq, x162_26, rfl, HA, HJ26, HB⟩ := hcut
                    cases kq with
                    | zero => exact absurd HA.out (by simp [laws_FnJoin.j3])
                    | succ kj26 =>
                      have H := HA.out
                      clear HA
                      simp only [laws_FnJoin.j3] at H
                      by_cases c31 : x162_26 = true
                      · subst c31
                        have H1 : (some false) = some r := by rw [if_pos rfl] at H; exact H
                        clear H
                        have H := H1
                        clear H1
                        obtain rfl := Option.some.inj H
                        go_wp2
                        go_ret
                        exact ⟨by first | rfl | (simp [errW_none, errW_some] <;> rfl) | (simp [*, errW_none, errW_some] <;> rfl), by repeat (first | (with_reducible first | exact HB.out | apply below_alloc | apply pw_below_drewN | apply below_drew1) | exact HB.out)⟩
                      · replace c31 := Bool.eq_false_iff.mpr c31
                        subst c31
                        have H1 : (if t217 = true then ((impl_WordSlice.f t216 t215 (wrap64 (t211 - 1)) 0).bind fun bt221 => (if bt221.2.2 = true then (if bt221.1 = t212 then (if t214 = true then ((impl_WordSigned.f t216 t215).bind fun t224 => ((impl_WordSigned.f t211 t212).bind fun t225 => (some (t224 == t225)))) else (if t215 = t212 then (some true) else (some false))) else (some false)) else (some false))) else (some true)) = some r := by rw [if_neg (show ¬ (false = true) by decide)] at H; exact H
                        clear H
                        have H := H1
                        clear H1
                        by_cases c32 : t217 = true
                        · subst c32
                          have H1 : ((impl_WordSlice.f t216 t215 (wrap64 (t211 - 1)) 0).bind fun bt221 => (if bt221.2.2 = true then (if bt221.1 = t212 then (if t214 = true then ((impl_WordSigned.f t216 t215).bind fun t224 => ((impl_WordSigned.f t211 t212).bind fun t225 => (some (t224 == t225)))) else (if t215 = t212 then (some true) else (some false))) else (some false)) else (some false))) = some r := by rw [if_pos rfl] at H; exact H
                          clear H
                          have H := H1
                          clear H1
                          replace H := Option.bind_eq_some_iff.mp H
                          obtain ⟨⟨t221, t222, t223⟩, A330, H⟩ := H
                          replace H : (if t223 = true then (if t221 = t212 then (if t214 = true then ((impl_WordSigned.f t216 t215).bind fun t224 => ((impl_WordSigned.f t211 t212).bind fun t225 => (some (t224 == t225)))) else (if t215 = t212 then (some true) else (some false))) else (some false)) else (some false)) = some r := H
                          have A33 := Aside0.mk A330
                          clear A330
                          by_cases c34 : t223 = true
                          · subst c34
                            have H1 : (if t221 = t212 then (if t214 = true then ((impl_WordSigned.f t216 t215).bind fun t224 => ((impl_WordSigned.f t211 t212).bind fun t225 => (some (t224 == t225)))) else (if t215 = t212 then (some true) else (some false))) else (some false)) = some r := by rw [if_pos rfl] at H; exact H
                            clear H
                            have H := H1
                            clear H1
                            by_cases c35 : t221 = t212
                            · rw [if_pos c35] at H
                              have c35b0 : (t221 == t212) = true := beq_iff_eq.mpr c35
                              have c35b1 : (t221 != t212) = false := bne_eq_false_iff_eq.mpr c35
                              clear c35
                              by_cases c36 : t214 = true
                              · subst c36
                                have H1 : ((impl_WordSigned.f t216 t215).bind fun t224 => ((impl_WordSigned.f t211 t212).bind fun t225 => (some (t224 == t225)))) = some r := by rw [if_pos rfl] at H; exact H
                                clear H
                                have H := H1
                                clear H1
                                replace H := Option.bind_eq_some_iff.mp H
                                obtain ⟨t224, A370, H⟩ := H
                                replace H : ((impl_WordSigned.f t211 t212).bind fun t225 => (some (t224 == t225))) = some r := H
                                have A37 := Aside0.mk A370
                                clear A370
                                replace H := Option.bind_eq_some_iff.mp H
                                obtain ⟨t225, A380, H⟩ := H
                                replace H : (some (t224 == t225)) = some r := H
                                have A38 := Aside0.mk A380
                                clear A380
                                obtain rfl := Option.some.inj H
                                go_wp2_with (first | ((with_reducible refine gate_callee (f := 11) rfl ?_); refine goesL_ (some 170) rfl rfl Try.func11 (by kernel_rfl) rfl #[.int .i64 t216, .int .i64 t215, .int .i64 (wrap64 (t211 - 1)), .int .i64 0] rfl (by (try simp only [List.map_toArray, List.map_cons, List.map_nil]); first | done | rfl | (simp only [List.length_drop, List.length_take]; rfl)) ?_; (with_reducible refine (impl_WordSlice.calls t216 t215 (wrap64 (t211 - 1)) 0 t221 t222 true _ A33.out).mono ?_); rintro e w' ⟨rfl, ⟨nd, rfl⟩⟩; refine ⟨_, rfl, ?_⟩) | (go_at_call 15; (with_reducible refine (impl_WordSigned.calls t216 t215 t224 _ A37.out).mono ?_); rintro e w' ⟨rfl, ⟨nd, rfl⟩⟩) | (go_at_call 15; (with_reducible refine (impl_WordSigned.calls t211 t212 t225 _ A38.out).mono ?_); rintro e w' ⟨rfl, ⟨nd, rfl⟩⟩))
                                go_ret
                                exact ⟨by first | rfl | (simp [errW_none, errW_some] <;> rfl) | (simp [*, errW_none, errW_some] <;> rfl), by repeat (first | (with_reducible first | exact HB.out | apply below_alloc | apply pw_below_drewN | apply below_drew1) | exact HB.out)⟩
                              · replace c36 := Bool.eq_false_iff.mpr c36
                                subst c36
                                have H1 : (if t215 = t212 then (some true) else (some false)) = some r := by rw [if_neg (show ¬ (false = true) by decide)] at H; exact H
                                clear H
                                have H := H1
                                clear H1
                                by_cases c39 : t215 = t212
                                · rw [if_pos c39] at H
                                  have c39b0 : (t215 == t212) = true := beq_iff_eq.mpr c39
                                  have c39b1 : (t215 != t212) = false := bne_eq_false_iff_eq.mpr c39
                                  clear c39
                                  obtain rfl := Option.some.inj H
                                  go_wp2_with (first | ((with_reducible refine gate_callee (f := 11) rfl ?_); refine goesL_ (some 170) rfl rfl Try.func11 (by kernel_rfl) rfl #[.int .i64 t216, .int .i64 t215, .int .i64 (wrap64 (t211 - 1)), .int .i64 0] rfl (by (try simp only [List.map_toArray, List.map_cons, List.map_nil]); first | done | rfl | (simp only [List.length_drop, List.length_take]; rfl)) ?_; (with_reducible refine (impl_WordSlice.calls t216 t215 (wrap64 (t211 - 1)) 0 t221 t222 true _ A33.out).mono ?_); rintro e w' ⟨rfl, ⟨nd, rfl⟩⟩; refine ⟨_, rfl, ?_⟩))
                                  go_ret
                                  exact ⟨by first | rfl | (simp [errW_none, errW_some] <;> rfl) | (simp [*, errW_none, errW_some] <;> rfl), by repeat (first | (with_reducible first | exact HB.out | apply below_alloc | apply pw_below_drewN | apply below_drew1) | exact HB.out)⟩
                                · rw [if_neg c39] at H
                                  have c39b0 : (t215 == t212) = false := beq_eq_false_iff_ne.mpr c39
                                  have c39b1 : (t215 != t212) = true := bne_iff_ne.mpr c39
                                  obtain rfl := Option.some.inj H
                                  go_wp2_with (first | ((with_reducible refine gate_callee (f := 11) rfl ?_); refine goesL_ (some 170) rfl rfl Try.func11 (by kernel_rfl) rfl #[.int .i64 t216, .int .i64 t215, .int .i64 (wrap64 (t211 - 1)), .int .i64 0] rfl (by (try simp only [List.map_toArray, List.map_cons, List.map_nil]); first | done | rfl | (simp only [List.length_drop, List.length_take]; rfl)) ?_; (with_reducible refine (impl_WordSlice.calls t216 t215 (wrap64 (t211 - 1)) 0 t221 t222 true _ A33.out).mono ?_); rintro e w' ⟨rfl, ⟨nd, rfl⟩⟩; refine ⟨_, rfl, ?_⟩))
                                  go_ret
                                  exact ⟨by first | rfl | (simp [errW_none, errW_some] <;> rfl) | (simp [*, errW_none, errW_some] <;> rfl), by repeat (first | (with_reducible first | exact HB.out | apply below_alloc | apply pw_below_drewN | apply below_drew1) | exact HB.out)⟩
                            · rw [if_neg c35] at H
                              have c35b0 : (t221 == t212) = false := beq_eq_false_iff_ne.mpr c35
                              have c35b1 : (t221 != t212) = true := bne_iff_ne.mpr c35
                              obtain rfl := Option.some.inj H
                              go_wp2_with (first | ((with_reducible refine gate_callee (f := 11) rfl ?_); refine goesL_ (some 170) rfl rfl Try.func11 (by kernel_rfl) rfl #[.int .i64 t216, .int .i64 t215, .int .i64 (wrap64 (t211 - 1)), .int .i64 0] rfl (by (try simp only [List.map_toArray, List.map_cons, List.map_nil]); first | done | rfl | (simp only [List.length_drop, List.length_take]; rfl)) ?_; (with_reducible refine (impl_WordSlice.calls t216 t215 (wrap64 (t211 - 1)) 0 t221 t222 true _ A33.out).mono ?_); rintro e w' ⟨rfl, ⟨nd, rfl⟩⟩; refine ⟨_, rfl, ?_⟩))
                              go_ret
                              exact ⟨by first | rfl | (simp [errW_none, errW_some] <;> rfl) | (simp [*, errW_none, errW_some] <;> rfl), by repeat (first | (with_reducible first | exact HB.out | apply below_alloc | apply pw_below_drewN | apply below_drew1) | exact HB.out)⟩
                          · replace c34 := Bool.eq_false_iff.mpr c34
                            subst c34
                            have H1 : (some false) = some r := by rw [if_neg (show ¬ (false = true) by decide)] at H; exact H
                            clear H
                            have H := H1
                            clear H1
                            obtain rfl := Option.some.inj H
                            go_wp2_with (first | ((with_reducible refine gate_callee (f := 11) rfl ?_); refine goesL_ (some 170) rfl rfl Try.func11 (by kernel_rfl) rfl #[.int .i64 t216, .int .i64 t215, .int .i64 (wrap64 (t211 - 1)), .int .i64 0] rfl (by (try simp only [List.map_toArray, List.map_cons, List.map_nil]); first | done | rfl | (simp only [List.length_drop, List.length_take]; rfl)) ?_; (with_reducible refine (impl_WordSlice.calls t216 t215 (wrap64 (t211 - 1)) 0 t221 t222 false _ A33.out).mono ?_); rintro e w' ⟨rfl, ⟨nd, rfl⟩⟩; refine ⟨_, rfl, ?_⟩))
                            go_ret
                            exact ⟨by first | rfl | (simp [errW_none, errW_some] <;> rfl) | (simp [*, errW_none, errW_some] <;> rfl), by repeat (first | (with_reducible first | exact HB.out | apply below_alloc | apply pw_below_drewN | apply below_drew1) | exact HB.out)⟩
                        · replace c32 := Bool.eq_false_iff.mpr c32
                          subst c32
                          have H1 : (some true) = some r := by rw [if_neg (show ¬ (false = true) by decide)] at H; exact H
                          clear H
                          have H := H1
                          clear H1
                          obtain rfl := Option.some.inj H
                          go_wp2
                          go_ret
                          exact ⟨by first | rfl | (simp [errW_none, errW_some] <;> rfl) | (simp [*, errW_none, errW_some] <;> rfl), by repeat (first | (with_reducible first | exact HB.out | apply below_alloc | apply pw_below_drewN | apply below_drew1) | exact HB.out)⟩

/-- THE ONE PURE STATEMENT of laws_FnJoin: yours. -/
def laws_FnJoin.Pure : Prop := ∀ (l0 : List Int) (l1 : List Int), l0.length ≤ maxLen → l0.length * 1 ≤ 140737488351232 → (∀ x ∈ l0, (Lit.int .u8 x).wf = true) → l1.length ≤ maxLen → l1.length * 1 ≤ 140737488351232 → (∀ x ∈ l1, (Lit.int .u8 x).wf = true) → ∃ k, laws_FnJoin.f k l0 l1 = some true
theorem laws_FnJoin.walk (P : laws_FnJoin.Pure) (a0 : Option Addr) (len0 cap0 : Nat) (z0 : List Int) (a1 : Option Addr) (len1 cap1 : Nat) (z1 : List Int) (w : World) (w0 : (a0 = none ∧ len0 = 0 ∧ cap0 = 0 ∧ z0 = []) ∨ ∃ x, a0 = some x ∧ len0 ≤ cap0 ∧ cap0 ≤ maxLen ∧ z0.length = cap0 ∧ (∀ i, i < z0.length → w.cell? (x.add i) = some (.int .u8 (z0.getD i 0))) ∧ ∀ n ∈ z0, (Lit.int .u8 n).wf = true) (y0 : len0 * 1 ≤ 140737488351232) (w1 : (a1 = none ∧ len1 = 0 ∧ cap1 = 0 ∧ z1 = []) ∨ ∃ x, a1 = some x ∧ len1 ≤ cap1 ∧ cap1 ≤ maxLen ∧ z1.length = cap1 ∧ (∀ i, i < z1.length → w.cell? (x.add i) = some (.int .u8 (z1.getD i 0))) ∧ ∀ n ∈ z1, (Lit.int .u8 n).wf = true) (y1 : len1 * 1 ≤ 140737488351232) :
    Calls Try.prog 3 #[.slice a0 len0 cap0, .slice a1 len1 cap1] w fun e w' => e = .returned (.bool true) ∧ Below w.heap.size w w' := by
  obtain ⟨l0, rfl, hr0, hm0, hw0, hc0⟩ := ReadsInt.ofRowC w0
  obtain ⟨l1, rfl, hr1, hm1, hw1, hc1⟩ := ReadsInt.ofRowC w1
  obtain ⟨k, h⟩ := P l0 l1 hm0 y0 hw0 hm1 y1 hw1
  refine (laws_FnJoin.calls k _ _ l0 _ _ l1 true w (Kd.C_of_reads (d := (0 : Int)) (h1 := fun _ => rfl) hr0) hc0 (Kd.C_of_reads (d := (0 : Int)) (h1 := fun _ => rfl) hr1) hc1 h).mono ?_
  rintro e w' ⟨rfl, hd⟩
  exact ⟨rfl, hd⟩

end Go.Proofs.Ytohojfcpnlobjaa.PFnJoin
