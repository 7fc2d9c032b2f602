import Derived.Test.YteboalbpgghdhaaGreatK9
import Derived.Deep.RegionHeld3
import Derived.Deep.RegionLaw
import Derived.Test.YteboalbpgghdhaaGreatK2
set_option linter.unusedVariables false
set_option linter.unusedSimpArgs false
namespace Go.Proofs.YteboalbpgghdhaaGreat
open Go.RowKit
/-! The laws FnExactStateFits, FnExactInputFits. -/
set_option maxHeartbeats 8000000 in
set_option maxRecDepth 8000 in
theorem FnExactStateFits_calls (mv lv1 : Value) (M : Md) (L1 : List (List Int)) (w : World) (hM : MdAt w mv M) (hl1 : VlAt w lv1 L1) (hnm : ∀ x, x ∈ M.nodes → x.name.size ≤ 140737488351232) (hw1 : ∀ b, b ∈ M.inits → (Lit.int .i64 b.st).wf = true) (hw2 : ∀ b, b ∈ M.nexts → (Lit.int .i64 b.st).wf = true) :
    Makes Tryz.prog 4 #[mv, lv1] w (.bool true) := by
  have HM := Lib.hid hM
  have HNM := Lib.hid hnm
  have HW1 := Lib.hid hw1
  have HW2 := Lib.hid hw2
  have HSZ := Lib.hid (show ∀ x ∈ M.nodes, x.name.size ≤ 281474976710656 from fun x hx => by have := hnm x hx; omega)
  have HV1 := Lib.hid hl1
  obtain ⟨s0, s1, s2, s3, s4, rfl, -⟩ := hM.at_
  clear hM hnm hw1 hw2 hl1
  go_enter Tryz.func4, Tryz.ntmps4
  have HB := Lib.hid (box_below w #[s0, s1, s2, s3, s4] 26)
  have m0 := box_cell w #[s0, s1, s2, s3, s4] 26 0 _ rfl
  have m1 := box_cell w #[s0, s1, s2, s3, s4] 26 1 _ rfl
  have m2 := box_cell w #[s0, s1, s2, s3, s4] 26 2 _ rfl
  have m3 := box_cell w #[s0, s1, s2, s3, s4] 26 3 _ rfl
  have m4 := box_cell w #[s0, s1, s2, s3, s4] 26 4 _ rfl
  go_upto_region 1 with fail
  generalize w.alloc (.cells #[s0, s1, s2, s3, s4] 26) = w1 at *
  have m0 : ∀ u : Later w1, u.val.cell? ⟨w.heap.size, 0, none⟩ = some s0 := m0
  have m1 : ∀ u : Later w1, u.val.cell? ⟨w.heap.size, 1, none⟩ = some s1 := m1
  have m2 : ∀ u : Later w1, u.val.cell? ⟨w.heap.size, 2, none⟩ = some s2 := m2
  have m3 : ∀ u : Later w1, u.val.cell? ⟨w.heap.size, 3, none⟩ = some s3 := m3
  have m4 : ∀ u : Later w1, u.val.cell? ⟨w.heap.size, 4, none⟩ = some s4 := m4
  have HM1 := Lib.hid (HM.out.below HB.out)
  have HU1 := Lib.hid (HV1.out.below HB.out)
  refine at_world (w := w1) ?_
  intro u0
  go_upto_region 3 with (go_at_call 11; refine (szModel_calls _ M _ (HM1.out.later u0) HSZ.out).mono ?_; rintro e w' ⟨r, rfl, hb, hr⟩; obtain ⟨u1, hu1⟩ := u0.step hb; subst hu1; have HL := Lib.hid hr; clear hb hr)
  by_cases hneg : r < 0
  · go_wp2
    go_ret
    exact ⟨rfl, u1.back HB.out⟩
  have HLEN := Lib.hid (show M.nodes.length ≤ 1048576 ∧ M.inits.length ≤ 1048576 ∧ M.nexts.length ≤ 1048576 ∧ M.bads.length ≤ 1048576 ∧ M.holds.length ≤ 1048576 by
    have := HL.out
    unfold LeftOf at this
    omega)
  have hr0 : r ≤ 1048576 := by
    have := HL.out
    unfold LeftOf at this
    omega
  go_upto_region 6 with (go_at_call 12; refine (szValueS_calls _ L1 r _ (HU1.out.later u1) (by omega) (by omega)).mono ?_; rintro e w' ⟨q1, rfl, hb, hr⟩; obtain ⟨c1, hc⟩ := u1.step hb; subst hc; have HQ1 := Lib.hid hr; clear hb hr)
  by_cases hneg1 : q1 < 0
  · go_wp2
    go_ret
    exact ⟨rfl, c1.back HB.out⟩
  have HLV1 := Lib.hid (show L1.length ≤ 1048576 ∧ ∀ xs ∈ L1, xs.length ≤ 1048576 by
    have := HQ1.out
    unfold LeftV at this
    refine ⟨by omega, fun xs hx => ?_⟩
    rcases this with h | ⟨h0, h1, h2⟩
    · omega
    · have := h2 xs hx; omega)
  have hq1 : q1 ≤ 1048576 := by
    have := HQ1.out
    unfold LeftV at this
    omega
  clear HL HQ1
  go_wp2_with fail
  refine (toModel_at _ M _ (HM1.out.later c1) HLEN.out.1 HLEN.out.2.1 HLEN.out.2.2.1 HLEN.out.2.2.2.1 HLEN.out.2.2.2.2).mono ?_
  rintro e w' ⟨t0, t1, t2, t3, t4, rfl, hb, hc⟩
  obtain ⟨d0, hd⟩ := c1.step hb
  subst hd
  have HC := Lib.hid hc
  clear hb hc
  go_wp2_with fail
  refine (toValueS_calls _ L1 _ (HU1.out.later d0) HLV1.out.1 HLV1.out.2).mono ?_
  rintro e w' ⟨y1, ys1, rfl, hb, hr⟩
  have HC := Lib.hid (HC.out.below hb)
  have HY1 := Lib.hid hr.vlAt
  obtain ⟨d1, hd⟩ := d0.step hb
  subst hd
  clear hb hr
  generalize hR : fitsK 36 M L1 = R at *
  have ER := Lib.hid hR
  clear hR
  go_wp2_with fail
  refine (Calls.later_eq (u := d1) (StateFits_calls _ _ M L1 _ HC.out HY1.out HLEN.out.1 HNM.out) (congrArg Value.bool ER.out)).mono ?_
  rintro e w' ⟨rfl, e0, rfl⟩
  clear HC HY1
  go_wp2_with fail
  refine (toModel_at _ M _ (HM1.out.later e0) HLEN.out.1 HLEN.out.2.1 HLEN.out.2.2.1 HLEN.out.2.2.2.1 HLEN.out.2.2.2.2).mono ?_
  rintro e w' ⟨x0, x1, x2, x3, x4, rfl, hb, hc⟩
  obtain ⟨e1, he⟩ := e0.step hb
  subst he
  have HC2 := Lib.hid hc
  clear hb hc
  go_wp2_with fail
  have HB2 := Lib.hid (show LaterC w1 (e1.val.alloc (Obj.cells #[slOf x0 M.nodes, slOf x1 M.inits, slOf x2 M.nexts, slOf x3 M.bads, slOf x4 M.holds] 34)) from LaterC.alloc' ⟨e1, rfl⟩ _)
  have HC3 := Lib.hid (show MdAt (e1.val.alloc (Obj.cells #[slOf x0 M.nodes, slOf x1 M.inits, slOf x2 M.nexts, slOf x3 M.bads, slOf x4 M.holds] 34)) (Value.agg #[slOf x0 M.nodes, slOf x1 M.inits, slOf x2 M.nexts, slOf x3 M.bads, slOf x4 M.holds]) M from HC2.out.below ((Below.refl _ _).alloc (Nat.le_refl _) _))
  have b0 := box_cell e1.val #[slOf x0 M.nodes, slOf x1 M.inits, slOf x2 M.nexts, slOf x3 M.bads, slOf x4 M.holds] 34 0 _ rfl
  have b1 := box_cell e1.val #[slOf x0 M.nodes, slOf x1 M.inits, slOf x2 M.nexts, slOf x3 M.bads, slOf x4 M.holds] 34 1 _ rfl
  have b2 := box_cell e1.val #[slOf x0 M.nodes, slOf x1 M.inits, slOf x2 M.nexts, slOf x3 M.bads, slOf x4 M.holds] 34 2 _ rfl
  have b3 := box_cell e1.val #[slOf x0 M.nodes, slOf x1 M.inits, slOf x2 M.nexts, slOf x3 M.bads, slOf x4 M.holds] 34 3 _ rfl
  have b4 := box_cell e1.val #[slOf x0 M.nodes, slOf x1 M.inits, slOf x2 M.nexts, slOf x3 M.bads, slOf x4 M.holds] 34 4 _ rfl
  generalize e1.val.alloc (Obj.cells #[slOf x0 M.nodes, slOf x1 M.inits, slOf x2 M.nexts, slOf x3 M.bads, slOf x4 M.holds] 34) = w2 at *
  generalize e1.val.heap.size = G at *
  have b0 : ∀ u : Later w2, u.val.cell? ⟨G, 0, none⟩ = some (slOf x0 M.nodes) := b0
  have b1 : ∀ u : Later w2, u.val.cell? ⟨G, 1, none⟩ = some (slOf x1 M.inits) := b1
  have b2 : ∀ u : Later w2, u.val.cell? ⟨G, 2, none⟩ = some (slOf x2 M.nexts) := b2
  have b3 : ∀ u : Later w2, u.val.cell? ⟨G, 3, none⟩ = some (slOf x3 M.bads) := b3
  have b4 : ∀ u : Later w2, u.val.cell? ⟨G, 4, none⟩ = some (slOf x4 M.holds) := b4
  have n0 := Later.re m0 HB2.out
  have n1 := Later.re m1 HB2.out
  have n2 := Later.re m2 HB2.out
  have n3 := Later.re m3 HB2.out
  have n4 := Later.re m4 HB2.out
  clear m0 m1 m2 m3 m4 HC2
  have HM3 := Lib.hid (HM1.out.below HB2.out.below)
  have HU1 := Lib.hid (HU1.out.below HB2.out.below)
  refine calls_at (w := w2) fun v0 => ?_
  refine (toValueS_calls _ L1 _ (HU1.out.later v0) HLV1.out.1 HLV1.out.2).mono ?_
  rintro e w' ⟨z1, zs1, rfl, hb, hr⟩
  have HZ1 := Lib.hid hr.vlAt
  obtain ⟨v1, hv⟩ := v0.step hb
  subst hv
  clear hb hr
  go_wp2_with fail
  refine (StateFits'_calls _ _ M L1 _ (HC3.out.later v1) HZ1.out HLEN.out.1 HNM.out HW1.out HW2.out).mono ?_
  rintro e w' ⟨he, hb⟩
  subst he
  have HZ1 := Lib.hid (HZ1.out.below hb)
  obtain ⟨p0, hp⟩ := v1.step hb
  subst hp
  clear hb
  rw [show Value.bool (fitsK 36 M L1) = Value.bool R from congrArg Value.bool ER.out]
  go_upto_region 14 with fail
  have HQL := Lib.hid (show ∀ w', LaterC w2 w' → w'.cell? ⟨w.heap.size, 0, none⟩ = some s0 ∧ w'.cell? ⟨w.heap.size, 1, none⟩ = some s1 ∧ w'.cell? ⟨w.heap.size, 2, none⟩ = some s2 ∧ w'.cell? ⟨w.heap.size, 3, none⟩ = some s3 ∧ w'.cell? ⟨w.heap.size, 4, none⟩ = some s4 ∧ w'.cell? ⟨G, 0, none⟩ = some (slOf x0 M.nodes) ∧ w'.cell? ⟨G, 1, none⟩ = some (slOf x1 M.inits) ∧ w'.cell? ⟨G, 2, none⟩ = some (slOf x2 M.nexts) ∧ w'.cell? ⟨G, 3, none⟩ = some (slOf x3 M.bads) ∧ w'.cell? ⟨G, 4, none⟩ = some (slOf x4 M.holds) from fun W h => by
    obtain ⟨v, rfl⟩ := h
    exact ⟨n0 v, n1 v, n2 v, n3 v, n4 v, b0 v, b1 v, b2 v, b3 v, b4 v⟩)
  go_region_held3 (fun w' => w'.cell? ⟨w.heap.size, 0, none⟩ = some s0 ∧ w'.cell? ⟨w.heap.size, 1, none⟩ = some s1 ∧ w'.cell? ⟨w.heap.size, 2, none⟩ = some s2 ∧ w'.cell? ⟨w.heap.size, 3, none⟩ = some s3 ∧ w'.cell? ⟨w.heap.size, 4, none⟩ = some s4 ∧ w'.cell? ⟨G, 0, none⟩ = some (slOf x0 M.nodes) ∧ w'.cell? ⟨G, 1, none⟩ = some (slOf x1 M.inits) ∧ w'.cell? ⟨G, 2, none⟩ = some (slOf x2 M.nexts) ∧ w'.cell? ⟨G, 3, none⟩ = some (slOf x3 M.bads) ∧ w'.cell? ⟨G, 4, none⟩ = some (slOf x4 M.holds)) ((refine HQL.out _ ?_; repeat (first | exact ⟨_, rfl⟩ | refine LaterC.drew' ?_ | refine LaterC.alloc' ?_ _))) (first | (go_at_call 14; refine (toModel_at _ M _ (HM3.out.below (LaterC.below (by repeat (first | exact ⟨_, rfl⟩ | refine LaterC.drew' ?_ | refine LaterC.alloc' ?_ _)))) HLEN.out.1 HLEN.out.2.1 HLEN.out.2.2.1 HLEN.out.2.2.2.1 HLEN.out.2.2.2.2).mono ?_; rintro e w' ⟨y0, y1, y2, y3, y4, rfl, hb, hc⟩; have HZ1 : Hid (VlAt w' z1 L1) := Lib.hid (by first | exact HZ1.out.below hb | exact (HZ1.out.below (Below.refl _ _).drew).below hb); obtain ⟨p1, hp⟩ := laterC_step (w1 := w2) (by repeat (first | exact ⟨_, rfl⟩ | refine LaterC.drew' ?_ | refine LaterC.alloc' ?_ _)) hb; subst hp; have HC4 := Lib.hid hc; clear hb hc) | (go_at_call 17; refine (eqModel_calls _ _ M _ (HC3.out.below (LaterC.below (by repeat (first | exact ⟨_, rfl⟩ | refine LaterC.drew' ?_ | refine LaterC.alloc' ?_ _)))) (HC4.out.below (by first | exact Below.refl _ _ | exact (Below.refl _ _).drew))).mono ?_; rintro e w' ⟨rfl, hb⟩; have HZ1 : Hid (VlAt w' z1 L1) := Lib.hid (by first | exact HZ1.out.below hb | exact (HZ1.out.below (Below.refl _ _).drew).below hb); obtain ⟨p2, hp⟩ := laterC_step (w1 := w2) (by repeat (first | exact ⟨_, rfl⟩ | refine LaterC.drew' ?_ | refine LaterC.alloc' ?_ _)) hb; subst hp; clear hb))
  go_wp2_with fail
  refine (toValueS_calls _ L1 _ (HU1.out.later p2) HLV1.out.1 HLV1.out.2).mono ?_
  rintro e w' ⟨k1, ks1, rfl, hb, hr⟩
  have HZ1 := Lib.hid (HZ1.out.below hb)
  have HK1 := Lib.hid hr.vlAt
  obtain ⟨g1, hg⟩ := p2.step hb
  subst hg
  clear hb hr
  go_wp2_with fail
  refine (eqValueS_calls _ _ L1 _ HZ1.out HK1.out).mono ?_
  rintro e w' ⟨rfl, hb⟩
  obtain ⟨l1, hg⟩ := g1.step hb
  subst hg
  clear hb
  go_wp2
  go_ret
  exact ⟨rfl, l1.back (below_of HB.out HB2.out)⟩
set_option maxHeartbeats 8000000 in
set_option maxRecDepth 8000 in
theorem FnExactInputFits_calls (mv lv1 : Value) (M : Md) (L1 : List (List Int)) (w : World) (hM : MdAt w mv M) (hl1 : VlAt w lv1 L1) (hnm : ∀ x, x ∈ M.nodes → x.name.size ≤ 140737488351232) (hw1 : ∀ b, b ∈ M.inits → (Lit.int .i64 b.st).wf = true) (hw2 : ∀ b, b ∈ M.nexts → (Lit.int .i64 b.st).wf = true) :
    Makes Tryz.prog 3 #[mv, lv1] w (.bool true) := by
  have HM := Lib.hid hM
  have HNM := Lib.hid hnm
  have HW1 := Lib.hid hw1
  have HW2 := Lib.hid hw2
  have HSZ := Lib.hid (show ∀ x ∈ M.nodes, x.name.size ≤ 281474976710656 from fun x hx => by have := hnm x hx; omega)
  have HV1 := Lib.hid hl1
  obtain ⟨s0, s1, s2, s3, s4, rfl, -⟩ := hM.at_
  clear hM hnm hw1 hw2 hl1
  go_enter Tryz.func3, Tryz.ntmps3
  have HB := Lib.hid (box_below w #[s0, s1, s2, s3, s4] 26)
  have m0 := box_cell w #[s0, s1, s2, s3, s4] 26 0 _ rfl
  have m1 := box_cell w #[s0, s1, s2, s3, s4] 26 1 _ rfl
  have m2 := box_cell w #[s0, s1, s2, s3, s4] 26 2 _ rfl
  have m3 := box_cell w #[s0, s1, s2, s3, s4] 26 3 _ rfl
  have m4 := box_cell w #[s0, s1, s2, s3, s4] 26 4 _ rfl
  go_upto_region 1 with fail
  generalize w.alloc (.cells #[s0, s1, s2, s3, s4] 26) = w1 at *
  have m0 : ∀ u : Later w1, u.val.cell? ⟨w.heap.size, 0, none⟩ = some s0 := m0
  have m1 : ∀ u : Later w1, u.val.cell? ⟨w.heap.size, 1, none⟩ = some s1 := m1
  have m2 : ∀ u : Later w1, u.val.cell? ⟨w.heap.size, 2, none⟩ = some s2 := m2
  have m3 : ∀ u : Later w1, u.val.cell? ⟨w.heap.size, 3, none⟩ = some s3 := m3
  have m4 : ∀ u : Later w1, u.val.cell? ⟨w.heap.size, 4, none⟩ = some s4 := m4
  have HM1 := Lib.hid (HM.out.below HB.out)
  have HU1 := Lib.hid (HV1.out.below HB.out)
  refine at_world (w := w1) ?_
  intro u0
  go_upto_region 3 with (go_at_call 11; refine (szModel_calls _ M _ (HM1.out.later u0) HSZ.out).mono ?_; rintro e w' ⟨r, rfl, hb, hr⟩; obtain ⟨u1, hu1⟩ := u0.step hb; subst hu1; have HL := Lib.hid hr; clear hb hr)
  by_cases hneg : r < 0
  · go_wp2
    go_ret
    exact ⟨rfl, u1.back HB.out⟩
  have HLEN := Lib.hid (show M.nodes.length ≤ 1048576 ∧ M.inits.length ≤ 1048576 ∧ M.nexts.length ≤ 1048576 ∧ M.bads.length ≤ 1048576 ∧ M.holds.length ≤ 1048576 by
    have := HL.out
    unfold LeftOf at this
    omega)
  have hr0 : r ≤ 1048576 := by
    have := HL.out
    unfold LeftOf at this
    omega
  go_upto_region 6 with (go_at_call 12; refine (szValueS_calls _ L1 r _ (HU1.out.later u1) (by omega) (by omega)).mono ?_; rintro e w' ⟨q1, rfl, hb, hr⟩; obtain ⟨c1, hc⟩ := u1.step hb; subst hc; have HQ1 := Lib.hid hr; clear hb hr)
  by_cases hneg1 : q1 < 0
  · go_wp2
    go_ret
    exact ⟨rfl, c1.back HB.out⟩
  have HLV1 := Lib.hid (show L1.length ≤ 1048576 ∧ ∀ xs ∈ L1, xs.length ≤ 1048576 by
    have := HQ1.out
    unfold LeftV at this
    refine ⟨by omega, fun xs hx => ?_⟩
    rcases this with h | ⟨h0, h1, h2⟩
    · omega
    · have := h2 xs hx; omega)
  have hq1 : q1 ≤ 1048576 := by
    have := HQ1.out
    unfold LeftV at this
    omega
  clear HL HQ1
  go_wp2_with fail
  refine (toModel_at _ M _ (HM1.out.later c1) HLEN.out.1 HLEN.out.2.1 HLEN.out.2.2.1 HLEN.out.2.2.2.1 HLEN.out.2.2.2.2).mono ?_
  rintro e w' ⟨t0, t1, t2, t3, t4, rfl, hb, hc⟩
  obtain ⟨d0, hd⟩ := c1.step hb
  subst hd
  have HC := Lib.hid hc
  clear hb hc
  go_wp2_with fail
  refine (toValueS_calls _ L1 _ (HU1.out.later d0) HLV1.out.1 HLV1.out.2).mono ?_
  rintro e w' ⟨y1, ys1, rfl, hb, hr⟩
  have HC := Lib.hid (HC.out.below hb)
  have HY1 := Lib.hid hr.vlAt
  obtain ⟨d1, hd⟩ := d0.step hb
  subst hd
  clear hb hr
  generalize hR : fitsK 35 M L1 = R at *
  have ER := Lib.hid hR
  clear hR
  go_wp2_with fail
  refine (Calls.later_eq (u := d1) (InputFits_calls _ _ M L1 _ HC.out HY1.out HLEN.out.1 HNM.out) (congrArg Value.bool ER.out)).mono ?_
  rintro e w' ⟨rfl, e0, rfl⟩
  clear HC HY1
  go_wp2_with fail
  refine (toModel_at _ M _ (HM1.out.later e0) HLEN.out.1 HLEN.out.2.1 HLEN.out.2.2.1 HLEN.out.2.2.2.1 HLEN.out.2.2.2.2).mono ?_
  rintro e w' ⟨x0, x1, x2, x3, x4, rfl, hb, hc⟩
  obtain ⟨e1, he⟩ := e0.step hb
  subst he
  have HC2 := Lib.hid hc
  clear hb hc
  go_wp2_with fail
  have HB2 := Lib.hid (show LaterC w1 (e1.val.alloc (Obj.cells #[slOf x0 M.nodes, slOf x1 M.inits, slOf x2 M.nexts, slOf x3 M.bads, slOf x4 M.holds] 34)) from LaterC.alloc' ⟨e1, rfl⟩ _)
  have HC3 := Lib.hid (show MdAt (e1.val.alloc (Obj.cells #[slOf x0 M.nodes, slOf x1 M.inits, slOf x2 M.nexts, slOf x3 M.bads, slOf x4 M.holds] 34)) (Value.agg #[slOf x0 M.nodes, slOf x1 M.inits, slOf x2 M.nexts, slOf x3 M.bads, slOf x4 M.holds]) M from HC2.out.below ((Below.refl _ _).alloc (Nat.le_refl _) _))
  have b0 := box_cell e1.val #[slOf x0 M.nodes, slOf x1 M.inits, slOf x2 M.nexts, slOf x3 M.bads, slOf x4 M.holds] 34 0 _ rfl
  have b1 := box_cell e1.val #[slOf x0 M.nodes, slOf x1 M.inits, slOf x2 M.nexts, slOf x3 M.bads, slOf x4 M.holds] 34 1 _ rfl
  have b2 := box_cell e1.val #[slOf x0 M.nodes, slOf x1 M.inits, slOf x2 M.nexts, slOf x3 M.bads, slOf x4 M.holds] 34 2 _ rfl
  have b3 := box_cell e1.val #[slOf x0 M.nodes, slOf x1 M.inits, slOf x2 M.nexts, slOf x3 M.bads, slOf x4 M.holds] 34 3 _ rfl
  have b4 := box_cell e1.val #[slOf x0 M.nodes, slOf x1 M.inits, slOf x2 M.nexts, slOf x3 M.bads, slOf x4 M.holds] 34 4 _ rfl
  generalize e1.val.alloc (Obj.cells #[slOf x0 M.nodes, slOf x1 M.inits, slOf x2 M.nexts, slOf x3 M.bads, slOf x4 M.holds] 34) = w2 at *
  generalize e1.val.heap.size = G at *
  have b0 : ∀ u : Later w2, u.val.cell? ⟨G, 0, none⟩ = some (slOf x0 M.nodes) := b0
  have b1 : ∀ u : Later w2, u.val.cell? ⟨G, 1, none⟩ = some (slOf x1 M.inits) := b1
  have b2 : ∀ u : Later w2, u.val.cell? ⟨G, 2, none⟩ = some (slOf x2 M.nexts) := b2
  have b3 : ∀ u : Later w2, u.val.cell? ⟨G, 3, none⟩ = some (slOf x3 M.bads) := b3
  have b4 : ∀ u : Later w2, u.val.cell? ⟨G, 4, none⟩ = some (slOf x4 M.holds) := b4
  have n0 := Later.re m0 HB2.out
  have n1 := Later.re m1 HB2.out
  have n2 := Later.re m2 HB2.out
  have n3 := Later.re m3 HB2.out
  have n4 := Later.re m4 HB2.out
  clear m0 m1 m2 m3 m4 HC2
  have HM3 := Lib.hid (HM1.out.below HB2.out.below)
  have HU1 := Lib.hid (HU1.out.below HB2.out.below)
  refine calls_at (w := w2) fun v0 => ?_
  refine (toValueS_calls _ L1 _ (HU1.out.later v0) HLV1.out.1 HLV1.out.2).mono ?_
  rintro e w' ⟨z1, zs1, rfl, hb, hr⟩
  have HZ1 := Lib.hid hr.vlAt
  obtain ⟨v1, hv⟩ := v0.step hb
  subst hv
  clear hb hr
  go_wp2_with fail
  refine (InputFits'_calls _ _ M L1 _ (HC3.out.later v1) HZ1.out HLEN.out.1 HNM.out HW1.out HW2.out).mono ?_
  rintro e w' ⟨he, hb⟩
  subst he
  have HZ1 := Lib.hid (HZ1.out.below hb)
  obtain ⟨p0, hp⟩ := v1.step hb
  subst hp
  clear hb
  rw [show Value.bool (fitsK 35 M L1) = Value.bool R from congrArg Value.bool ER.out]
  go_upto_region 14 with fail
  have HQL := Lib.hid (show ∀ w', LaterC w2 w' → w'.cell? ⟨w.heap.size, 0, none⟩ = some s0 ∧ w'.cell? ⟨w.heap.size, 1, none⟩ = some s1 ∧ w'.cell? ⟨w.heap.size, 2, none⟩ = some s2 ∧ w'.cell? ⟨w.heap.size, 3, none⟩ = some s3 ∧ w'.cell? ⟨w.heap.size, 4, none⟩ = some s4 ∧ w'.cell? ⟨G, 0, none⟩ = some (slOf x0 M.nodes) ∧ w'.cell? ⟨G, 1, none⟩ = some (slOf x1 M.inits) ∧ w'.cell? ⟨G, 2, none⟩ = some (slOf x2 M.nexts) ∧ w'.cell? ⟨G, 3, none⟩ = some (slOf x3 M.bads) ∧ w'.cell? ⟨G, 4, none⟩ = some (slOf x4 M.holds) from fun W h => by
    obtain ⟨v, rfl⟩ := h
    exact ⟨n0 v, n1 v, n2 v, n3 v, n4 v, b0 v, b1 v, b2 v, b3 v, b4 v⟩)
  go_region_held3 (fun w' => w'.cell? ⟨w.heap.size, 0, none⟩ = some s0 ∧ w'.cell? ⟨w.heap.size, 1, none⟩ = some s1 ∧ w'.cell? ⟨w.heap.size, 2, none⟩ = some s2 ∧ w'.cell? ⟨w.heap.size, 3, none⟩ = some s3 ∧ w'.cell? ⟨w.heap.size, 4, none⟩ = some s4 ∧ w'.cell? ⟨G, 0, none⟩ = some (slOf x0 M.nodes) ∧ w'.cell? ⟨G, 1, none⟩ = some (slOf x1 M.inits) ∧ w'.cell? ⟨G, 2, none⟩ = some (slOf x2 M.nexts) ∧ w'.cell? ⟨G, 3, none⟩ = some (slOf x3 M.bads) ∧ w'.cell? ⟨G, 4, none⟩ = some (slOf x4 M.holds)) ((refine HQL.out _ ?_; repeat (first | exact ⟨_, rfl⟩ | refine LaterC.drew' ?_ | refine LaterC.alloc' ?_ _))) (first | (go_at_call 14; refine (toModel_at _ M _ (HM3.out.below (LaterC.below (by repeat (first | exact ⟨_, rfl⟩ | refine LaterC.drew' ?_ | refine LaterC.alloc' ?_ _)))) HLEN.out.1 HLEN.out.2.1 HLEN.out.2.2.1 HLEN.out.2.2.2.1 HLEN.out.2.2.2.2).mono ?_; rintro e w' ⟨y0, y1, y2, y3, y4, rfl, hb, hc⟩; have HZ1 : Hid (VlAt w' z1 L1) := Lib.hid (by first | exact HZ1.out.below hb | exact (HZ1.out.below (Below.refl _ _).drew).below hb); obtain ⟨p1, hp⟩ := laterC_step (w1 := w2) (by repeat (first | exact ⟨_, rfl⟩ | refine LaterC.drew' ?_ | refine LaterC.alloc' ?_ _)) hb; subst hp; have HC4 := Lib.hid hc; clear hb hc) | (go_at_call 17; refine (eqModel_calls _ _ M _ (HC3.out.below (LaterC.below (by repeat (first | exact ⟨_, rfl⟩ | refine LaterC.drew' ?_ | refine LaterC.alloc' ?_ _)))) (HC4.out.below (by first | exact Below.refl _ _ | exact (Below.refl _ _).drew))).mono ?_; rintro e w' ⟨rfl, hb⟩; have HZ1 : Hid (VlAt w' z1 L1) := Lib.hid (by first | exact HZ1.out.below hb | exact (HZ1.out.below (Below.refl _ _).drew).below hb); obtain ⟨p2, hp⟩ := laterC_step (w1 := w2) (by repeat (first | exact ⟨_, rfl⟩ | refine LaterC.drew' ?_ | refine LaterC.alloc' ?_ _)) hb; subst hp; clear hb))
  go_wp2_with fail
  refine (toValueS_calls _ L1 _ (HU1.out.later p2) HLV1.out.1 HLV1.out.2).mono ?_
  rintro e w' ⟨k1, ks1, rfl, hb, hr⟩
  have HZ1 := Lib.hid (HZ1.out.below hb)
  have HK1 := Lib.hid hr.vlAt
  obtain ⟨g1, hg⟩ := p2.step hb
  subst hg
  clear hb hr
  go_wp2_with fail
  refine (eqValueS_calls _ _ L1 _ HZ1.out HK1.out).mono ?_
  rintro e w' ⟨rfl, hb⟩
  obtain ⟨l1, hg⟩ := g1.step hb
  subst hg
  clear hb
  go_wp2
  go_ret
  exact ⟨rfl, l1.back (below_of HB.out HB2.out)⟩
end Go.Proofs.YteboalbpgghdhaaGreat
namespace Go.Proofs.YteboalbpgghdhaaGreat
open Go.RowKit
/-! The laws FnExactStateCode, FnExactInputCode. -/
set_option maxHeartbeats 8000000 in
set_option maxRecDepth 8000 in
theorem FnExactStateCode_calls (mv lv1 : Value) (M : Md) (L1 : List (List Int)) (w : World) (hM : MdAt w mv M) (hl1 : VlAt w lv1 L1) (hnm : ∀ x, x ∈ M.nodes → x.name.size ≤ 140737488351232) (hw1 : ∀ b, b ∈ M.inits → (Lit.int .i64 b.st).wf = true) (hw2 : ∀ b, b ∈ M.nexts → (Lit.int .i64 b.st).wf = true) :
    Makes Tryz.prog 6 #[mv, lv1] w (.bool true) := by
  have HM := Lib.hid hM
  have HNM := Lib.hid hnm
  have HW1 := Lib.hid hw1
  have HW2 := Lib.hid hw2
  have HSZ := Lib.hid (show ∀ x ∈ M.nodes, x.name.size ≤ 281474976710656 from fun x hx => by have := hnm x hx; omega)
  have HV1 := Lib.hid hl1
  obtain ⟨s0, s1, s2, s3, s4, rfl, -⟩ := hM.at_
  clear hM hnm hw1 hw2 hl1
  go_enter Tryz.func6, Tryz.ntmps6
  have HB := Lib.hid (box_below w #[s0, s1, s2, s3, s4] 26)
  have m0 := box_cell w #[s0, s1, s2, s3, s4] 26 0 _ rfl
  have m1 := box_cell w #[s0, s1, s2, s3, s4] 26 1 _ rfl
  have m2 := box_cell w #[s0, s1, s2, s3, s4] 26 2 _ rfl
  have m3 := box_cell w #[s0, s1, s2, s3, s4] 26 3 _ rfl
  have m4 := box_cell w #[s0, s1, s2, s3, s4] 26 4 _ rfl
  go_upto_region 1 with fail
  generalize w.alloc (.cells #[s0, s1, s2, s3, s4] 26) = w1 at *
  have m0 : ∀ u : Later w1, u.val.cell? ⟨w.heap.size, 0, none⟩ = some s0 := m0
  have m1 : ∀ u : Later w1, u.val.cell? ⟨w.heap.size, 1, none⟩ = some s1 := m1
  have m2 : ∀ u : Later w1, u.val.cell? ⟨w.heap.size, 2, none⟩ = some s2 := m2
  have m3 : ∀ u : Later w1, u.val.cell? ⟨w.heap.size, 3, none⟩ = some s3 := m3
  have m4 : ∀ u : Later w1, u.val.cell? ⟨w.heap.size, 4, none⟩ = some s4 := m4
  have HM1 := Lib.hid (HM.out.below HB.out)
  have HU1 := Lib.hid (HV1.out.below HB.out)
  refine at_world (w := w1) ?_
  intro u0
  go_upto_region 3 with (go_at_call 11; refine (szModel_calls _ M _ (HM1.out.later u0) HSZ.out).mono ?_; rintro e w' ⟨r, rfl, hb, hr⟩; obtain ⟨u1, hu1⟩ := u0.step hb; subst hu1; have HL := Lib.hid hr; clear hb hr)
  by_cases hneg : r < 0
  · go_wp2
    go_ret
    exact ⟨rfl, u1.back HB.out⟩
  have HLEN := Lib.hid (show M.nodes.length ≤ 1048576 ∧ M.inits.length ≤ 1048576 ∧ M.nexts.length ≤ 1048576 ∧ M.bads.length ≤ 1048576 ∧ M.holds.length ≤ 1048576 by
    have := HL.out
    unfold LeftOf at this
    omega)
  have hr0 : r ≤ 1048576 := by
    have := HL.out
    unfold LeftOf at this
    omega
  go_upto_region 6 with (go_at_call 12; refine (szValueS_calls _ L1 r _ (HU1.out.later u1) (by omega) (by omega)).mono ?_; rintro e w' ⟨q1, rfl, hb, hr⟩; obtain ⟨c1, hc⟩ := u1.step hb; subst hc; have HQ1 := Lib.hid hr; clear hb hr)
  by_cases hneg1 : q1 < 0
  · go_wp2
    go_ret
    exact ⟨rfl, c1.back HB.out⟩
  have HLV1 := Lib.hid (show L1.length ≤ 1048576 ∧ ∀ xs ∈ L1, xs.length ≤ 1048576 by
    have := HQ1.out
    unfold LeftV at this
    refine ⟨by omega, fun xs hx => ?_⟩
    rcases this with h | ⟨h0, h1, h2⟩
    · omega
    · have := h2 xs hx; omega)
  have hq1 : q1 ≤ 1048576 := by
    have := HQ1.out
    unfold LeftV at this
    omega
  clear HL HQ1
  go_wp2_with fail
  refine (toModel_at _ M _ (HM1.out.later c1) HLEN.out.1 HLEN.out.2.1 HLEN.out.2.2.1 HLEN.out.2.2.2.1 HLEN.out.2.2.2.2).mono ?_
  rintro e w' ⟨t0, t1, t2, t3, t4, rfl, hb, hc⟩
  obtain ⟨d0, hd⟩ := c1.step hb
  subst hd
  have HC := Lib.hid hc
  clear hb hc
  go_wp2_with fail
  refine (toValueS_calls _ L1 _ (HU1.out.later d0) HLV1.out.1 HLV1.out.2).mono ?_
  rintro e w' ⟨y1, ys1, rfl, hb, hr⟩
  have HC := Lib.hid (HC.out.below hb)
  have HY1 := Lib.hid hr.vlAt
  obtain ⟨d1, hd⟩ := d0.step hb
  subst hd
  clear hb hr
  generalize hCV : codeK 36 M L1 = CV at *
  have ECV := Lib.hid hCV
  clear hCV
  generalize hR : fitsK 36 M L1 = R at *
  have ER := Lib.hid hR
  clear hR
  go_wp2_with fail
  refine (Calls.later_eq (u := d1) (StateCode_calls _ _ M L1 _ HC.out HY1.out HLEN.out.1 HNM.out) ((show Value.tuple #[.int .i64 (codeK 36 M L1), .bool (fitsK 36 M L1)] = Value.tuple #[.int .i64 CV, .bool R] by rw [ECV.out, ER.out]))).mono ?_
  rintro e w' ⟨rfl, e0, rfl⟩
  clear HC HY1
  go_wp2_with fail
  refine (toModel_at _ M _ (HM1.out.later e0) HLEN.out.1 HLEN.out.2.1 HLEN.out.2.2.1 HLEN.out.2.2.2.1 HLEN.out.2.2.2.2).mono ?_
  rintro e w' ⟨x0, x1, x2, x3, x4, rfl, hb, hc⟩
  obtain ⟨e1, he⟩ := e0.step hb
  subst he
  have HC2 := Lib.hid hc
  clear hb hc
  go_wp2_with fail
  have HB2 := Lib.hid (show LaterC w1 (e1.val.alloc (Obj.cells #[slOf x0 M.nodes, slOf x1 M.inits, slOf x2 M.nexts, slOf x3 M.bads, slOf x4 M.holds] 34)) from LaterC.alloc' ⟨e1, rfl⟩ _)
  have HC3 := Lib.hid (show MdAt (e1.val.alloc (Obj.cells #[slOf x0 M.nodes, slOf x1 M.inits, slOf x2 M.nexts, slOf x3 M.bads, slOf x4 M.holds] 34)) (Value.agg #[slOf x0 M.nodes, slOf x1 M.inits, slOf x2 M.nexts, slOf x3 M.bads, slOf x4 M.holds]) M from HC2.out.below ((Below.refl _ _).alloc (Nat.le_refl _) _))
  have b0 := box_cell e1.val #[slOf x0 M.nodes, slOf x1 M.inits, slOf x2 M.nexts, slOf x3 M.bads, slOf x4 M.holds] 34 0 _ rfl
  have b1 := box_cell e1.val #[slOf x0 M.nodes, slOf x1 M.inits, slOf x2 M.nexts, slOf x3 M.bads, slOf x4 M.holds] 34 1 _ rfl
  have b2 := box_cell e1.val #[slOf x0 M.nodes, slOf x1 M.inits, slOf x2 M.nexts, slOf x3 M.bads, slOf x4 M.holds] 34 2 _ rfl
  have b3 := box_cell e1.val #[slOf x0 M.nodes, slOf x1 M.inits, slOf x2 M.nexts, slOf x3 M.bads, slOf x4 M.holds] 34 3 _ rfl
  have b4 := box_cell e1.val #[slOf x0 M.nodes, slOf x1 M.inits, slOf x2 M.nexts, slOf x3 M.bads, slOf x4 M.holds] 34 4 _ rfl
  generalize e1.val.alloc (Obj.cells #[slOf x0 M.nodes, slOf x1 M.inits, slOf x2 M.nexts, slOf x3 M.bads, slOf x4 M.holds] 34) = w2 at *
  generalize e1.val.heap.size = G at *
  have b0 : ∀ u : Later w2, u.val.cell? ⟨G, 0, none⟩ = some (slOf x0 M.nodes) := b0
  have b1 : ∀ u : Later w2, u.val.cell? ⟨G, 1, none⟩ = some (slOf x1 M.inits) := b1
  have b2 : ∀ u : Later w2, u.val.cell? ⟨G, 2, none⟩ = some (slOf x2 M.nexts) := b2
  have b3 : ∀ u : Later w2, u.val.cell? ⟨G, 3, none⟩ = some (slOf x3 M.bads) := b3
  have b4 : ∀ u : Later w2, u.val.cell? ⟨G, 4, none⟩ = some (slOf x4 M.holds) := b4
  have n0 := Later.re m0 HB2.out
  have n1 := Later.re m1 HB2.out
  have n2 := Later.re m2 HB2.out
  have n3 := Later.re m3 HB2.out
  have n4 := Later.re m4 HB2.out
  clear m0 m1 m2 m3 m4 HC2
  have HM3 := Lib.hid (HM1.out.below HB2.out.below)
  have HU1 := Lib.hid (HU1.out.below HB2.out.below)
  refine calls_at (w := w2) fun v0 => ?_
  refine (toValueS_calls _ L1 _ (HU1.out.later v0) HLV1.out.1 HLV1.out.2).mono ?_
  rintro e w' ⟨z1, zs1, rfl, hb, hr⟩
  have HZ1 := Lib.hid hr.vlAt
  obtain ⟨v1, hv⟩ := v0.step hb
  subst hv
  clear hb hr
  go_wp2_with fail
  refine (StateCode'_calls _ _ M L1 _ (HC3.out.later v1) HZ1.out HLEN.out.1 HNM.out HW1.out HW2.out).mono ?_
  rintro e w' ⟨he, hb⟩
  subst he
  have HZ1 := Lib.hid (HZ1.out.below hb)
  obtain ⟨p0, hp⟩ := v1.step hb
  subst hp
  clear hb
  rw [show Value.tuple #[.int .i64 (codeK 36 M L1), .bool (fitsK 36 M L1)] = Value.tuple #[.int .i64 CV, .bool R] from (show Value.tuple #[.int .i64 (codeK 36 M L1), .bool (fitsK 36 M L1)] = Value.tuple #[.int .i64 CV, .bool R] by rw [ECV.out, ER.out])]
  go_upto_region 14 with fail
  have HQL := Lib.hid (show ∀ w', LaterC w2 w' → w'.cell? ⟨w.heap.size, 0, none⟩ = some s0 ∧ w'.cell? ⟨w.heap.size, 1, none⟩ = some s1 ∧ w'.cell? ⟨w.heap.size, 2, none⟩ = some s2 ∧ w'.cell? ⟨w.heap.size, 3, none⟩ = some s3 ∧ w'.cell? ⟨w.heap.size, 4, none⟩ = some s4 ∧ w'.cell? ⟨G, 0, none⟩ = some (slOf x0 M.nodes) ∧ w'.cell? ⟨G, 1, none⟩ = some (slOf x1 M.inits) ∧ w'.cell? ⟨G, 2, none⟩ = some (slOf x2 M.nexts) ∧ w'.cell? ⟨G, 3, none⟩ = some (slOf x3 M.bads) ∧ w'.cell? ⟨G, 4, none⟩ = some (slOf x4 M.holds) from fun W h => by
    obtain ⟨v, rfl⟩ := h
    exact ⟨n0 v, n1 v, n2 v, n3 v, n4 v, b0 v, b1 v, b2 v, b3 v, b4 v⟩)
  go_region_held3 (fun w' => w'.cell? ⟨w.heap.size, 0, none⟩ = some s0 ∧ w'.cell? ⟨w.heap.size, 1, none⟩ = some s1 ∧ w'.cell? ⟨w.heap.size, 2, none⟩ = some s2 ∧ w'.cell? ⟨w.heap.size, 3, none⟩ = some s3 ∧ w'.cell? ⟨w.heap.size, 4, none⟩ = some s4 ∧ w'.cell? ⟨G, 0, none⟩ = some (slOf x0 M.nodes) ∧ w'.cell? ⟨G, 1, none⟩ = some (slOf x1 M.inits) ∧ w'.cell? ⟨G, 2, none⟩ = some (slOf x2 M.nexts) ∧ w'.cell? ⟨G, 3, none⟩ = some (slOf x3 M.bads) ∧ w'.cell? ⟨G, 4, none⟩ = some (slOf x4 M.holds)) ((refine HQL.out _ ?_; repeat (first | exact ⟨_, rfl⟩ | refine LaterC.drew' ?_ | refine LaterC.alloc' ?_ _))) (first | (go_at_call 14; refine (toModel_at _ M _ (HM3.out.below (LaterC.below (by repeat (first | exact ⟨_, rfl⟩ | refine LaterC.drew' ?_ | refine LaterC.alloc' ?_ _)))) HLEN.out.1 HLEN.out.2.1 HLEN.out.2.2.1 HLEN.out.2.2.2.1 HLEN.out.2.2.2.2).mono ?_; rintro e w' ⟨y0, y1, y2, y3, y4, rfl, hb, hc⟩; have HZ1 : Hid (VlAt w' z1 L1) := Lib.hid (by first | exact HZ1.out.below hb | exact (HZ1.out.below (Below.refl _ _).drew).below hb); obtain ⟨p1, hp⟩ := laterC_step (w1 := w2) (by repeat (first | exact ⟨_, rfl⟩ | refine LaterC.drew' ?_ | refine LaterC.alloc' ?_ _)) hb; subst hp; have HC4 := Lib.hid hc; clear hb hc) | (go_at_call 17; refine (eqModel_calls _ _ M _ (HC3.out.below (LaterC.below (by repeat (first | exact ⟨_, rfl⟩ | refine LaterC.drew' ?_ | refine LaterC.alloc' ?_ _)))) (HC4.out.below (by first | exact Below.refl _ _ | exact (Below.refl _ _).drew))).mono ?_; rintro e w' ⟨rfl, hb⟩; have HZ1 : Hid (VlAt w' z1 L1) := Lib.hid (by first | exact HZ1.out.below hb | exact (HZ1.out.below (Below.refl _ _).drew).below hb); obtain ⟨p2, hp⟩ := laterC_step (w1 := w2) (by repeat (first | exact ⟨_, rfl⟩ | refine LaterC.drew' ?_ | refine LaterC.alloc' ?_ _)) hb; subst hp; clear hb))
  go_wp2_with fail
  refine (toValueS_calls _ L1 _ (HU1.out.later p2) HLV1.out.1 HLV1.out.2).mono ?_
  rintro e w' ⟨k1, ks1, rfl, hb, hr⟩
  have HZ1 := Lib.hid (HZ1.out.below hb)
  have HK1 := Lib.hid hr.vlAt
  obtain ⟨g1, hg⟩ := p2.step hb
  subst hg
  clear hb hr
  go_wp2_with fail
  refine (eqValueS_calls _ _ L1 _ HZ1.out HK1.out).mono ?_
  rintro e w' ⟨rfl, hb⟩
  obtain ⟨l1, hg⟩ := g1.step hb
  subst hg
  clear hb
  go_wp2
  go_ret
  exact ⟨rfl, l1.back (below_of HB.out HB2.out)⟩
set_option maxHeartbeats 8000000 in
set_option maxRecDepth 8000 in
theorem FnExactInputCode_calls (mv lv1 : Value) (M : Md) (L1 : List (List Int)) (w : World) (hM : MdAt w mv M) (hl1 : VlAt w lv1 L1) (hnm : ∀ x, x ∈ M.nodes → x.name.size ≤ 140737488351232) (hw1 : ∀ b, b ∈ M.inits → (Lit.int .i64 b.st).wf = true) (hw2 : ∀ b, b ∈ M.nexts → (Lit.int .i64 b.st).wf = true) :
    Makes Tryz.prog 5 #[mv, lv1] w (.bool true) := by
  have HM := Lib.hid hM
  have HNM := Lib.hid hnm
  have HW1 := Lib.hid hw1
  have HW2 := Lib.hid hw2
  have HSZ := Lib.hid (show ∀ x ∈ M.nodes, x.name.size ≤ 281474976710656 from fun x hx => by have := hnm x hx; omega)
  have HV1 := Lib.hid hl1
  obtain ⟨s0, s1, s2, s3, s4, rfl, -⟩ := hM.at_
  clear hM hnm hw1 hw2 hl1
  go_enter Tryz.func5, Tryz.ntmps5
  have HB := Lib.hid (box_below w #[s0, s1, s2, s3, s4] 26)
  have m0 := box_cell w #[s0, s1, s2, s3, s4] 26 0 _ rfl
  have m1 := box_cell w #[s0, s1, s2, s3, s4] 26 1 _ rfl
  have m2 := box_cell w #[s0, s1, s2, s3, s4] 26 2 _ rfl
  have m3 := box_cell w #[s0, s1, s2, s3, s4] 26 3 _ rfl
  have m4 := box_cell w #[s0, s1, s2, s3, s4] 26 4 _ rfl
  go_upto_region 1 with fail
  generalize w.alloc (.cells #[s0, s1, s2, s3, s4] 26) = w1 at *
  have m0 : ∀ u : Later w1, u.val.cell? ⟨w.heap.size, 0, none⟩ = some s0 := m0
  have m1 : ∀ u : Later w1, u.val.cell? ⟨w.heap.size, 1, none⟩ = some s1 := m1
  have m2 : ∀ u : Later w1, u.val.cell? ⟨w.heap.size, 2, none⟩ = some s2 := m2
  have m3 : ∀ u : Later w1, u.val.cell? ⟨w.heap.size, 3, none⟩ = some s3 := m3
  have m4 : ∀ u : Later w1, u.val.cell? ⟨w.heap.size, 4, none⟩ = some s4 := m4
  have HM1 := Lib.hid (HM.out.below HB.out)
  have HU1 := Lib.hid (HV1.out.below HB.out)
  refine at_world (w := w1) ?_
  intro u0
  go_upto_region 3 with (go_at_call 11; refine (szModel_calls _ M _ (HM1.out.later u0) HSZ.out).mono ?_; rintro e w' ⟨r, rfl, hb, hr⟩; obtain ⟨u1, hu1⟩ := u0.step hb; subst hu1; have HL := Lib.hid hr; clear hb hr)
  by_cases hneg : r < 0
  · go_wp2
    go_ret
    exact ⟨rfl, u1.back HB.out⟩
  have HLEN := Lib.hid (show M.nodes.length ≤ 1048576 ∧ M.inits.length ≤ 1048576 ∧ M.nexts.length ≤ 1048576 ∧ M.bads.length ≤ 1048576 ∧ M.holds.length ≤ 1048576 by
    have := HL.out
    unfold LeftOf at this
    omega)
  have hr0 : r ≤ 1048576 := by
    have := HL.out
    unfold LeftOf at this
    omega
  go_upto_region 6 with (go_at_call 12; refine (szValueS_calls _ L1 r _ (HU1.out.later u1) (by omega) (by omega)).mono ?_; rintro e w' ⟨q1, rfl, hb, hr⟩; obtain ⟨c1, hc⟩ := u1.step hb; subst hc; have HQ1 := Lib.hid hr; clear hb hr)
  by_cases hneg1 : q1 < 0
  · go_wp2
    go_ret
    exact ⟨rfl, c1.back HB.out⟩
  have HLV1 := Lib.hid (show L1.length ≤ 1048576 ∧ ∀ xs ∈ L1, xs.length ≤ 1048576 by
    have := HQ1.out
    unfold LeftV at this
    refine ⟨by omega, fun xs hx => ?_⟩
    rcases this with h | ⟨h0, h1, h2⟩
    · omega
    · have := h2 xs hx; omega)
  have hq1 : q1 ≤ 1048576 := by
    have := HQ1.out
    unfold LeftV at this
    omega
  clear HL HQ1
  go_wp2_with fail
  refine (toModel_at _ M _ (HM1.out.later c1) HLEN.out.1 HLEN.out.2.1 HLEN.out.2.2.1 HLEN.out.2.2.2.1 HLEN.out.2.2.2.2).mono ?_
  rintro e w' ⟨t0, t1, t2, t3, t4, rfl, hb, hc⟩
  obtain ⟨d0, hd⟩ := c1.step hb
  subst hd
  have HC := Lib.hid hc
  clear hb hc
  go_wp2_with fail
  refine (toValueS_calls _ L1 _ (HU1.out.later d0) HLV1.out.1 HLV1.out.2).mono ?_
  rintro e w' ⟨y1, ys1, rfl, hb, hr⟩
  have HC := Lib.hid (HC.out.below hb)
  have HY1 := Lib.hid hr.vlAt
  obtain ⟨d1, hd⟩ := d0.step hb
  subst hd
  clear hb hr
  generalize hCV : codeK 35 M L1 = CV at *
  have ECV := Lib.hid hCV
  clear hCV
  generalize hR : fitsK 35 M L1 = R at *
  have ER := Lib.hid hR
  clear hR
  go_wp2_with fail
  refine (Calls.later_eq (u := d1) (InputCode_calls _ _ M L1 _ HC.out HY1.out HLEN.out.1 HNM.out) ((show Value.tuple #[.int .i64 (codeK 35 M L1), .bool (fitsK 35 M L1)] = Value.tuple #[.int .i64 CV, .bool R] by rw [ECV.out, ER.out]))).mono ?_
  rintro e w' ⟨rfl, e0, rfl⟩
  clear HC HY1
  go_wp2_with fail
  refine (toModel_at _ M _ (HM1.out.later e0) HLEN.out.1 HLEN.out.2.1 HLEN.out.2.2.1 HLEN.out.2.2.2.1 HLEN.out.2.2.2.2).mono ?_
  rintro e w' ⟨x0, x1, x2, x3, x4, rfl, hb, hc⟩
  obtain ⟨e1, he⟩ := e0.step hb
  subst he
  have HC2 := Lib.hid hc
  clear hb hc
  go_wp2_with fail
  have HB2 := Lib.hid (show LaterC w1 (e1.val.alloc (Obj.cells #[slOf x0 M.nodes, slOf x1 M.inits, slOf x2 M.nexts, slOf x3 M.bads, slOf x4 M.holds] 34)) from LaterC.alloc' ⟨e1, rfl⟩ _)
  have HC3 := Lib.hid (show MdAt (e1.val.alloc (Obj.cells #[slOf x0 M.nodes, slOf x1 M.inits, slOf x2 M.nexts, slOf x3 M.bads, slOf x4 M.holds] 34)) (Value.agg #[slOf x0 M.nodes, slOf x1 M.inits, slOf x2 M.nexts, slOf x3 M.bads, slOf x4 M.holds]) M from HC2.out.below ((Below.refl _ _).alloc (Nat.le_refl _) _))
  have b0 := box_cell e1.val #[slOf x0 M.nodes, slOf x1 M.inits, slOf x2 M.nexts, slOf x3 M.bads, slOf x4 M.holds] 34 0 _ rfl
  have b1 := box_cell e1.val #[slOf x0 M.nodes, slOf x1 M.inits, slOf x2 M.nexts, slOf x3 M.bads, slOf x4 M.holds] 34 1 _ rfl
  have b2 := box_cell e1.val #[slOf x0 M.nodes, slOf x1 M.inits, slOf x2 M.nexts, slOf x3 M.bads, slOf x4 M.holds] 34 2 _ rfl
  have b3 := box_cell e1.val #[slOf x0 M.nodes, slOf x1 M.inits, slOf x2 M.nexts, slOf x3 M.bads, slOf x4 M.holds] 34 3 _ rfl
  have b4 := box_cell e1.val #[slOf x0 M.nodes, slOf x1 M.inits, slOf x2 M.nexts, slOf x3 M.bads, slOf x4 M.holds] 34 4 _ rfl
  generalize e1.val.alloc (Obj.cells #[slOf x0 M.nodes, slOf x1 M.inits, slOf x2 M.nexts, slOf x3 M.bads, slOf x4 M.holds] 34) = w2 at *
  generalize e1.val.heap.size = G at *
  have b0 : ∀ u : Later w2, u.val.cell? ⟨G, 0, none⟩ = some (slOf x0 M.nodes) := b0
  have b1 : ∀ u : Later w2, u.val.cell? ⟨G, 1, none⟩ = some (slOf x1 M.inits) := b1
  have b2 : ∀ u : Later w2, u.val.cell? ⟨G, 2, none⟩ = some (slOf x2 M.nexts) := b2
  have b3 : ∀ u : Later w2, u.val.cell? ⟨G, 3, none⟩ = some (slOf x3 M.bads) := b3
  have b4 : ∀ u : Later w2, u.val.cell? ⟨G, 4, none⟩ = some (slOf x4 M.holds) := b4
  have n0 := Later.re m0 HB2.out
  have n1 := Later.re m1 HB2.out
  have n2 := Later.re m2 HB2.out
  have n3 := Later.re m3 HB2.out
  have n4 := Later.re m4 HB2.out
  clear m0 m1 m2 m3 m4 HC2
  have HM3 := Lib.hid (HM1.out.below HB2.out.below)
  have HU1 := Lib.hid (HU1.out.below HB2.out.below)
  refine calls_at (w := w2) fun v0 => ?_
  refine (toValueS_calls _ L1 _ (HU1.out.later v0) HLV1.out.1 HLV1.out.2).mono ?_
  rintro e w' ⟨z1, zs1, rfl, hb, hr⟩
  have HZ1 := Lib.hid hr.vlAt
  obtain ⟨v1, hv⟩ := v0.step hb
  subst hv
  clear hb hr
  go_wp2_with fail
  refine (InputCode'_calls _ _ M L1 _ (HC3.out.later v1) HZ1.out HLEN.out.1 HNM.out HW1.out HW2.out).mono ?_
  rintro e w' ⟨he, hb⟩
  subst he
  have HZ1 := Lib.hid (HZ1.out.below hb)
  obtain ⟨p0, hp⟩ := v1.step hb
  subst hp
  clear hb
  rw [show Value.tuple #[.int .i64 (codeK 35 M L1), .bool (fitsK 35 M L1)] = Value.tuple #[.int .i64 CV, .bool R] from (show Value.tuple #[.int .i64 (codeK 35 M L1), .bool (fitsK 35 M L1)] = Value.tuple #[.int .i64 CV, .bool R] by rw [ECV.out, ER.out])]
  go_upto_region 14 with fail
  have HQL := Lib.hid (show ∀ w', LaterC w2 w' → w'.cell? ⟨w.heap.size, 0, none⟩ = some s0 ∧ w'.cell? ⟨w.heap.size, 1, none⟩ = some s1 ∧ w'.cell? ⟨w.heap.size, 2, none⟩ = some s2 ∧ w'.cell? ⟨w.heap.size, 3, none⟩ = some s3 ∧ w'.cell? ⟨w.heap.size, 4, none⟩ = some s4 ∧ w'.cell? ⟨G, 0, none⟩ = some (slOf x0 M.nodes) ∧ w'.cell? ⟨G, 1, none⟩ = some (slOf x1 M.inits) ∧ w'.cell? ⟨G, 2, none⟩ = some (slOf x2 M.nexts) ∧ w'.cell? ⟨G, 3, none⟩ = some (slOf x3 M.bads) ∧ w'.cell? ⟨G, 4, none⟩ = some (slOf x4 M.holds) from fun W h => by
    obtain ⟨v, rfl⟩ := h
    exact ⟨n0 v, n1 v, n2 v, n3 v, n4 v, b0 v, b1 v, b2 v, b3 v, b4 v⟩)
  go_region_held3 (fun w' => w'.cell? ⟨w.heap.size, 0, none⟩ = some s0 ∧ w'.cell? ⟨w.heap.size, 1, none⟩ = some s1 ∧ w'.cell? ⟨w.heap.size, 2, none⟩ = some s2 ∧ w'.cell? ⟨w.heap.size, 3, none⟩ = some s3 ∧ w'.cell? ⟨w.heap.size, 4, none⟩ = some s4 ∧ w'.cell? ⟨G, 0, none⟩ = some (slOf x0 M.nodes) ∧ w'.cell? ⟨G, 1, none⟩ = some (slOf x1 M.inits) ∧ w'.cell? ⟨G, 2, none⟩ = some (slOf x2 M.nexts) ∧ w'.cell? ⟨G, 3, none⟩ = some (slOf x3 M.bads) ∧ w'.cell? ⟨G, 4, none⟩ = some (slOf x4 M.holds)) ((refine HQL.out _ ?_; repeat (first | exact ⟨_, rfl⟩ | refine LaterC.drew' ?_ | refine LaterC.alloc' ?_ _))) (first | (go_at_call 14; refine (toModel_at _ M _ (HM3.out.below (LaterC.below (by repeat (first | exact ⟨_, rfl⟩ | refine LaterC.drew' ?_ | refine LaterC.alloc' ?_ _)))) HLEN.out.1 HLEN.out.2.1 HLEN.out.2.2.1 HLEN.out.2.2.2.1 HLEN.out.2.2.2.2).mono ?_; rintro e w' ⟨y0, y1, y2, y3, y4, rfl, hb, hc⟩; have HZ1 : Hid (VlAt w' z1 L1) := Lib.hid (by first | exact HZ1.out.below hb | exact (HZ1.out.below (Below.refl _ _).drew).below hb); obtain ⟨p1, hp⟩ := laterC_step (w1 := w2) (by repeat (first | exact ⟨_, rfl⟩ | refine LaterC.drew' ?_ | refine LaterC.alloc' ?_ _)) hb; subst hp; have HC4 := Lib.hid hc; clear hb hc) | (go_at_call 17; refine (eqModel_calls _ _ M _ (HC3.out.below (LaterC.below (by repeat (first | exact ⟨_, rfl⟩ | refine LaterC.drew' ?_ | refine LaterC.alloc' ?_ _)))) (HC4.out.below (by first | exact Below.refl _ _ | exact (Below.refl _ _).drew))).mono ?_; rintro e w' ⟨rfl, hb⟩; have HZ1 : Hid (VlAt w' z1 L1) := Lib.hid (by first | exact HZ1.out.below hb | exact (HZ1.out.below (Below.refl _ _).drew).below hb); obtain ⟨p2, hp⟩ := laterC_step (w1 := w2) (by repeat (first | exact ⟨_, rfl⟩ | refine LaterC.drew' ?_ | refine LaterC.alloc' ?_ _)) hb; subst hp; clear hb))
  go_wp2_with fail
  refine (toValueS_calls _ L1 _ (HU1.out.later p2) HLV1.out.1 HLV1.out.2).mono ?_
  rintro e w' ⟨k1, ks1, rfl, hb, hr⟩
  have HZ1 := Lib.hid (HZ1.out.below hb)
  have HK1 := Lib.hid hr.vlAt
  obtain ⟨g1, hg⟩ := p2.step hb
  subst hg
  clear hb hr
  go_wp2_with fail
  refine (eqValueS_calls _ _ L1 _ HZ1.out HK1.out).mono ?_
  rintro e w' ⟨rfl, hb⟩
  obtain ⟨l1, hg⟩ := g1.step hb
  subst hg
  clear hb
  go_wp2
  go_ret
  exact ⟨rfl, l1.back (below_of HB.out HB2.out)⟩
end Go.Proofs.YteboalbpgghdhaaGreat
namespace Go.Proofs.YteboalbpgghdhaaGreat
open Go.RowKit
/-! A list of values that a call makes one by one. -/
def AccV (lo : Nat) (w : World) (v : Value) (svs : List Value) (L : List (List Int)) : Prop :=
  w.ownsRow lo 67 1 v svs.length svs ∧ svs.length = L.length ∧
  (∀ (i : Nat) (sv : Value) (xs : List Int), svs[i]? = some sv → L[i]? = some xs → RowI w sv xs ∧ ∀ b, sv.ownBlock = some b → lo ≤ b ∧ v.ownBlock ≠ some b) ∧
  (∀ (i j : Nat) (si sj : Value) (b : Nat), svs[i]? = some si → svs[j]? = some sj → i < j → si.ownBlock = some b → sj.ownBlock ≠ some b)
theorem AccV.nil (lo : Nat) (w : World) : AccV lo w (.slice none 0 0) [] [] :=
  ⟨World.ownsRow_nil w lo _ 1, rfl, fun i sv xs hi => by simp at hi, fun i j si sj b hi => by simp at hi⟩
theorem AccV.below {lo : Nat} {w w' : World} {v : Value} {svs : List Value} {L : List (List Int)} (h : AccV lo w v svs L) (hb : Below w.heap.size w w') : AccV lo w' v svs L := by
  obtain ⟨h1, h2, h3, h4⟩ := h
  exact ⟨ownsRow_below h1 hb, h2, fun i sv xs hi hx => ⟨(h3 i sv xs hi hx).1.below hb, (h3 i sv xs hi hx).2⟩, h4⟩
theorem But.of_grown {w w' : World} {row : Option Nat} (h : w.grownBy w' row) : But (fun k => some k = row) w w' := ⟨h.os, h.tape, h.output, h.size, h.block⟩
theorem AccV.snoc {lo g cap : Nat} {W W2 W3 wn : World} {v s : Value} {svs : List Value} {L : List (List Int)} {xs : List Int} (h : AccV lo W v svs L) (hb : Below W.heap.size W W2) (hr : RowI W2 s xs) (hg : ∀ b, s.ownBlock = some b → W.heap.size ≤ b) (hlo : lo ≤ W.heap.size)
    (hb3 : Below W2.heap.size W2 W3) (hown : wn.ownsRow lo 67 1 (.slice (some ⟨g, 0, none⟩) (svs.length + 1) cap) (svs.length + 1) (svs ++ [s])) (hgrow : W3.grownBy wn v.ownBlock) (hat : v.ownBlock = some g ∨ g = W3.heap.size) :
    AccV lo wn (.slice (some ⟨g, 0, none⟩) (svs.length + 1) cap) (svs ++ [s]) (L ++ [xs]) := by
  have hbut := But.of_grown hgrow
  have hb23 := hb.trans (hb3.mono hb.size)
  obtain ⟨h1, h2, h3, h4⟩ := h
  have hvl : ∀ b, v.ownBlock = some b → b < W.heap.size := fun b hb => (h1.lt b hb).2
  have hsz2 := hb.size
  have hsz3 := hb3.size
  have key : ∀ (sv : Value) (ys : List Int), RowI W3 sv ys → (∀ b, sv.ownBlock = some b → v.ownBlock ≠ some b) → RowI wn sv ys ∧ ∀ b, sv.ownBlock = some b → b ≠ g := by
    intro sv ys hr hne
    refine ⟨hr.but hbut fun b hb' e => hne b hb' e.symm, fun b hb' e => ?_⟩
    subst e
    rcases hat with e | e
    · exact hne b hb' e
    · have := hr.lt hb'; omega
  have hold : ∀ (i : Nat) (sv : Value) (b : Nat), svs[i]? = some sv → sv.ownBlock = some b → b < W.heap.size := by
    intro i sv b hi hsb
    have hil := (List.getElem?_eq_some_iff.1 hi).1
    exact (h3 i sv _ hi (List.getElem?_eq_getElem (show i < L.length by omega))).1.lt hsb
  have hnew : ∀ b, s.ownBlock = some b → v.ownBlock ≠ some b := fun b hb' e => by
    have h1 := hg b hb'
    have h2 := hvl b e
    omega
  refine ⟨by rw [List.length_append]; exact hown, by simp [h2], fun i sv ys hi hy => ?_, fun i j si sj b hi hj hij hbi hbj => ?_⟩
  · rcases snoc_get hi with hi1 | ⟨hi1, hi2⟩
    · have hil := (List.getElem?_eq_some_iff.1 hi1).1
      rw [List.getElem?_append_left (by omega)] at hy
      obtain ⟨k1, k2⟩ := h3 i sv ys hi1 hy
      obtain ⟨k3, k4⟩ := key sv ys (k1.below hb23) fun b hb' => (k2 b hb').2
      exact ⟨k3, fun b hb' => ⟨(k2 b hb').1, fun e => k4 b hb' (by simpa [Value.ownBlock] using e.symm)⟩⟩
    · subst hi1
      subst hi2
      rw [h2, List.getElem?_append_right (Nat.le_refl _), Nat.sub_self] at hy
      simp at hy
      subst hy
      obtain ⟨k3, k4⟩ := key sv xs (hr.below hb3) hnew
      exact ⟨k3, fun b hb' => ⟨Nat.le_trans hlo (hg b hb'), fun e => k4 b hb' (by simpa [Value.ownBlock] using e.symm)⟩⟩
  · rcases snoc_get hi with hi1 | ⟨hi1, hi2⟩
    · rcases snoc_get hj with hj1 | ⟨hj1, hj2⟩
      · exact h4 i j si sj b hi1 hj1 hij hbi hbj
      · have := hold i si b hi1 hbi
        have := hg b (by rw [← hj2]; exact hbj)
        omega
    · rcases snoc_get hj with hj1 | ⟨hj1, hj2⟩
      · have := (List.getElem?_eq_some_iff.1 hj1).1; omega
      · omega
theorem AccV.rowVs {lo : Nat} {w : World} {v : Value} {svs : List Value} {L : List (List Int)} (h : AccV lo w v svs L) (hl : L.length ≤ 281474976710656) : RowVs lo w v svs L := by
  obtain ⟨h1, h2, h3, h4⟩ := h
  refine ⟨hl, h2, ?_, h3, h4⟩
  rcases h1.2 with ⟨rfl, h0⟩ | ⟨g, cap, cur, rfl, hlo, hg, hc, -, hs, ht⟩
  · exact .inl ⟨rfl, List.eq_nil_of_length_eq_zero (by omega)⟩
  · refine .inr ⟨g, cap, cur, by rw [h2], hlo, hg, by omega, by rw [hs, Nat.mul_one], fun i sv hi => ?_⟩
    have hil := (List.getElem?_eq_some_iff.1 hi).1
    rw [← ht, List.getElem?_take_of_lt (by omega)] at hi
    simpa using hi
theorem AccV.mono {lo lo' : Nat} {w : World} {v : Value} {svs : List Value} {L : List (List Int)} (h : AccV lo w v svs L) (hl : lo' ≤ lo) : AccV lo' w v svs L := by
  obtain ⟨h1, h2, h3, h4⟩ := h
  exact ⟨ownsRow_mono h1 hl, h2, fun i sv xs hi hx => ⟨(h3 i sv xs hi hx).1, fun b hb => ⟨Nat.le_trans hl ((h3 i sv xs hi hx).2 b hb).1, ((h3 i sv xs hi hx).2 b hb).2⟩⟩, h4⟩
theorem info_val : (Tryz.prog.info? 67).map (fun i => (i.zero, i.size, i.bytes)) = some (some (.agg #[.slice none 0 0]), 1, 24) := by kernel_rfl
theorem RowI.one {w : World} {v : Value} {xs : List Int} (h : RowI w v xs) : v.oneCell' = true := by
  obtain ⟨-, ⟨rfl, -⟩ | ⟨g, cap, cur, rfl, -⟩⟩ := h <;> rfl
section
variable {ops : Array Oper} {o : Oper} {a : Act} {Q : Exit → Act → World → Prop}
/-- append of one value to a list that the call makes. -/
theorem wp_append_acc {K : Act → World → Prop} (hgd : o.guard = none) (s x : Operand) (ho : o.op = .call { callee := .builtin .append, args := #[s, x], argTypes := #[36, 36] })
    (w0 W W2 W3 : World) (H : Nat) (v s' : Value) (svs : List Value) (L : List (List Int)) (xs : List Int) (hs : a.eval s = v) (hac : AccV w0.heap.size W v svs L) (hL : LaterC w0 W) (hb : Below W.heap.size W W2) (hr : RowI W2 s' xs) (hg : ∀ b, s'.ownBlock = some b → W.heap.size ≤ b)
    (hl : svs.length ≤ 1048576) (hb3 : Below W2.heap.size W2 W3) (hbox : W3.heap[H]? = some (.cells #[s'] 67 (0, 0))) (hx : a.eval x = .slice (some ⟨H, 0, none⟩) 1 1)
    (k : ∀ (v' : Value) (u : Later w0), AccV w0.heap.size u.val v' (svs ++ [s']) (L ++ [xs]) → K (a.put o.dst v') u.val) : Oper.wp Tryz.prog o a W3 K Q := by
  obtain ⟨ti, hti, hz, hsz, hby⟩ := info_parts info_val
  have hown := ownsRow_below (ownsRow_below hac.1 hb) hb3
  have hL3 : LaterC w0 W3 := laterC_step (laterC_step hL hb) hb3
  refine wp_append_lies W3 s x _ ho w0.heap.size 67 ti _ 1 24 Tryz.underlying36 hti hz hsz hby rfl (by decide) v svs.length svs hs hown ⟨H, 0, none⟩ 1 1 [s'] hx rfl (World.news_of_block hbox) (fun u hu => by simp at hu; subst hu; exact hr.one) (by decide) (by unfold maxLen; omega) (by omega) hL3.size W3.heap.size rfl ?_
  intro g cap wn hown2 hgrow hat hlt
  obtain ⟨u, hu⟩ := laterC_grown hL3 hown hgrow
  subst hu
  exact k _ u (hac.snoc hb hr hg hL.size hb3 hown2 hgrow hat)
theorem wpList_append_acc {rest : List Oper} (hgd : o.guard = none) (s x : Operand) (ho : o.op = .call { callee := .builtin .append, args := #[s, x], argTypes := #[36, 36] })
    (w0 W W2 W3 : World) (H : Nat) (v s' : Value) (svs : List Value) (L : List (List Int)) (xs : List Int) (hs : a.eval s = v) (hac : AccV w0.heap.size W v svs L) (hL : LaterC w0 W) (hb : Below W.heap.size W W2) (hr : RowI W2 s' xs) (hg : ∀ b, s'.ownBlock = some b → W.heap.size ≤ b)
    (hl : svs.length ≤ 1048576) (hb3 : Below W2.heap.size W2 W3) (hbox : W3.heap[H]? = some (.cells #[s'] 67 (0, 0))) (hx : a.eval x = .slice (some ⟨H, 0, none⟩) 1 1)
    (k : ∀ (v' : Value) (u : Later w0), AccV w0.heap.size u.val v' (svs ++ [s']) (L ++ [xs]) → wpList Tryz.prog ops Q rest (a.put o.dst v') u.val) : wpList Tryz.prog ops Q (o :: rest) a W3 :=
  wpList_plain hgd fun _ hK => wp_append_acc hgd s x ho w0 W W2 W3 H v s' svs L xs hs hac hL hb hr hg hl hb3 hbox hx fun v' u h => hK _ _ (k v' u h)
/-- A list of integers that the call makes. -/
abbrev AccI (lo : Nat) (w : World) (v : Value) (xs : List Int) : Prop := w.ownsRow lo 3 1 v xs.length (xs.map (Value.int .i64))
theorem AccI.nil (lo : Nat) (w : World) : AccI lo w (.slice none 0 0) [] := World.ownsRow_nil w lo _ 1
theorem wp_append_int {K : Act → World → Prop} (hgd : o.guard = none) (s x : Operand) (ho : o.op = .call { callee := .builtin .append, args := #[s, x], argTypes := #[24, 24] })
    (lo : Nat) (W W3 : World) (H : Nat) (v : Value) (y : Int) (xs : List Int) (n : Nat) (hn : xs.length = n) (hs : a.eval s = v) (hac : AccI lo W v xs) (hlo : lo ≤ W.heap.size)
    (hl : xs.length ≤ 1048576) (hb3 : Below W.heap.size W W3) (hbox : W3.heap[H]? = some (.cells #[.int .i64 y] 3 (0, 0))) (hx : a.eval x = .slice (some ⟨H, 0, none⟩) 1 1)
    (k : ∀ (g cap : Nat) (wn : World), AccI lo wn (.slice (some ⟨g, 0, none⟩) (n + 1) cap) (xs ++ [y]) → W3.grownBy wn v.ownBlock → (v.ownBlock = some g ∨ g = W3.heap.size) → K (a.put o.dst (.slice (some ⟨g, 0, none⟩) (n + 1) cap)) wn) : Oper.wp Tryz.prog o a W3 K Q := by
  subst hn
  obtain ⟨ti, hti, hz, hsz, hby⟩ := info_parts info_int
  have hown := ownsRow_below hac hb3
  have hlo3 : lo ≤ W3.heap.size := Nat.le_trans hlo hb3.size
  refine wp_append_lies W3 s x _ ho lo 3 ti _ 1 8 Tryz.underlying24 hti hz hsz hby rfl (by decide) v xs.length (xs.map (Value.int .i64)) hs hown ⟨H, 0, none⟩ 1 1 [.int .i64 y] hx rfl (World.news_of_block hbox) (fun u hu => by simp at hu; subst hu; rfl) (by decide) (by unfold maxLen; omega) (by omega) hlo3 W3.heap.size rfl ?_
  intro g cap wn hown2 hgrow hat hlt
  refine k g cap wn ?_ hgrow hat
  unfold AccI
  rw [List.map_append, List.length_append]
  exact hown2
theorem wpList_append_int {rest : List Oper} (hgd : o.guard = none) (s x : Operand) (ho : o.op = .call { callee := .builtin .append, args := #[s, x], argTypes := #[24, 24] })
    (lo : Nat) (W W3 : World) (H : Nat) (v : Value) (y : Int) (xs : List Int) (n : Nat) (hn : xs.length = n) (hs : a.eval s = v) (hac : AccI lo W v xs) (hlo : lo ≤ W.heap.size)
    (hl : xs.length ≤ 1048576) (hb3 : Below W.heap.size W W3) (hbox : W3.heap[H]? = some (.cells #[.int .i64 y] 3 (0, 0))) (hx : a.eval x = .slice (some ⟨H, 0, none⟩) 1 1)
    (k : ∀ (g cap : Nat) (wn : World), AccI lo wn (.slice (some ⟨g, 0, none⟩) (n + 1) cap) (xs ++ [y]) → W3.grownBy wn v.ownBlock → (v.ownBlock = some g ∨ g = W3.heap.size) → wpList Tryz.prog ops Q rest (a.put o.dst (.slice (some ⟨g, 0, none⟩) (n + 1) cap)) wn) : wpList Tryz.prog ops Q (o :: rest) a W3 :=
  wpList_plain hgd fun _ hK => wp_append_int hgd s x ho lo W W3 H v y xs n hn hs hac hlo hl hb3 hbox hx fun g cap u h1 h2 h3 => hK _ _ (k g cap u h1 h2 h3)
theorem step_append_int {K : Act → World → Prop} {E : Prop} (hgd : o.guard = none) (s x : Operand) (ho : o.op = .call { callee := .builtin .append, args := #[s, x], argTypes := #[24, 24] })
    (lo : Nat) (W W3 : World) (H : Nat) (v : Value) (y : Int) (xs : List Int) (n : Nat) (hn : xs.length = n) (hs : a.eval s = v) (hac : AccI lo W v xs) (hlo : lo ≤ W.heap.size)
    (hl : xs.length ≤ 1048576) (hb3 : Below W.heap.size W W3) (hbox : W3.heap[H]? = some (.cells #[.int .i64 y] 3 (0, 0))) (hx : a.eval x = .slice (some ⟨H, 0, none⟩) 1 1)
    (k : ∀ (g cap : Nat) (wn : World), AccI lo wn (.slice (some ⟨g, 0, none⟩) (n + 1) cap) (xs ++ [y]) → W3.grownBy wn v.ownBlock → (v.ownBlock = some g ∨ g = W3.heap.size) → K (a.put o.dst (.slice (some ⟨g, 0, none⟩) (n + 1) cap)) wn) : if Region.wanted o (yielded ops a.tmps) = true then Oper.wp Tryz.prog o a W3 K Q else E := by
  have hw : Region.wanted o (yielded ops a.tmps) = true := by simp [Region.wanted, hgd]
  rw [if_pos hw]
  exact wp_append_int hgd s x ho lo W W3 H v y xs n hn hs hac hlo hl hb3 hbox hx k
end
theorem owns_but {S : Nat → Prop} {w w' : World} {base n s : Nat} {e : TypeId} {v : Value} {xs : List Value} (h : w.ownsRow base e s v n xs) (hb : But S w w') (hS : ∀ b, v.ownBlock = some b → ¬ S b) : w'.ownsRow base e s v n xs := by
  refine ⟨h.1, ?_⟩
  rcases h.2 with h0 | ⟨g, cap, cur, hv, hg, hh, r⟩
  · exact .inl h0
  · subst hv
    exact .inr ⟨g, cap, cur, rfl, hg, (hb.block g (Array.getElem?_eq_some_iff.1 hh).1 (hS g rfl)).trans hh, r⟩
/-- A variable of one cell that holds a list of integers: one more is appended and stored back. -/
theorem push_done {w2 w4 W3 wn : World} {B g cap n : Nat} {T : TypeId} {cv : Value} {ys : List Int} (hO : OwnB w4 B T #[cv]) (hL : LaterC w2 w4) (hG : w2.heap.size ≤ B) (hb3 : Below w4.heap.size w4 W3) (hne : ∀ b, cv.ownBlock = some b → B + 1 ≤ b) (hgr : W3.grownBy wn cv.ownBlock)
    (hat : cv.ownBlock = some g ∨ g = W3.heap.size) (hac : AccI (B + 1) wn (.slice (some ⟨g, 0, none⟩) n cap) ys) :
    OwnB (wn.setCell ⟨B, 0, none⟩ (.slice (some ⟨g, 0, none⟩) n cap)) B T #[.slice (some ⟨g, 0, none⟩) n cap] ∧ AccI (B + 1) (wn.setCell ⟨B, 0, none⟩ (.slice (some ⟨g, 0, none⟩) n cap)) (.slice (some ⟨g, 0, none⟩) n cap) ys ∧ LaterC w2 (wn.setCell ⟨B, 0, none⟩ (.slice (some ⟨g, 0, none⟩) n cap)) := by
  have hO3 := hO.below hb3 hO.lt
  have hOn : OwnB wn B T #[cv] := hO3.but (But.of_grown hgr) fun e => by have := hne B e.symm; omega
  have hL3 := laterC_step hL hb3
  have hgB : B ≠ g := by
    rcases hat with e | e
    · have := hne g e; omega
    · have := hO3.lt; omega
  refine ⟨hOn.set 0 _, owns_but hac (S := (· = B)) (But.setCell (S := (· = B)) (But.refl _ _) rfl _) (fun b hb e => hgB (by simp [Value.ownBlock] at hb; omega)), ?_⟩
  have hLn : LaterC w2 wn := .of (hL3.below.trans ((But.of_grown hgr).below (fun k hk => by have := hne k hk.symm; omega) hL3.size))
  exact LaterC.setCell' hLn _ _ hG
/-! impl.Model.zeros. -/
def zerosN (ns : List Nd) (ps : List Int) : Nat → List (List Int)
  | 0 => []
  | i + 1 => zerosN ns ps i ++ [List.replicate (cellsN (ndAt ns ps i).idx (ndAt ns ps i).wid).toNat 0]
theorem zerosN_length (ns : List Nd) (ps : List Int) : ∀ i, (zerosN ns ps i).length = i
  | 0 => rfl
  | i + 1 => by rw [zerosN, List.length_append, zerosN_length ns ps i]; rfl
theorem rowI_zero (w : World) (m : Nat) (hm : m ≤ 281474976710656) : RowI (w.alloc (.cells (madeCells #[.int .i64 0] m) 3)) (.slice (some ⟨w.heap.size, 0, none⟩) m m) (List.replicate m 0) := by
  refine ⟨by simpa using hm, .inr ⟨w.heap.size, m, madeCells #[.int .i64 0] m, by simp, OwnB.new _ _ _, by simp, size_madeCells _ _, fun i x hx => ?_⟩⟩
  have hi := (List.getElem?_eq_some_iff.1 hx).1
  rw [List.length_replicate] at hi
  rw [List.getElem?_replicate, if_pos hi] at hx
  cases hx
  rw [Array.getElem?_eq_getElem (by rw [size_madeCells]; exact hi)]
  simp [madeCells, Nat.mod_one]
set_option maxHeartbeats 2000000 in
set_option maxRecDepth 8000 in
theorem zeros_calls (mv pv : Value) (M : Md) (ps : List Int) (w : World) (hM : MdAt w mv M) (hP : SlN enI w pv ps) (hI : InN ps M.nodes.length) (hsz : ps.length ≤ 1048576) :
    Calls Tryz.prog 105 #[mv, pv] w fun e w' => ∃ v svs, e = .returned v ∧ Below w.heap.size w w' ∧ AccV w.heap.size w' v svs (zerosN M.nodes ps ps.length) := by
  obtain ⟨s0, s1, s2, s3, s4, rfl, hS, -, -, -, -⟩ := hM.at_
  obtain ⟨A, c, rfl, hnc, hc', hA⟩ := hS
  obtain ⟨B, d, rfl, -, hd', hB⟩ := hP
  clear hM
  obtain ⟨ti, hti⟩ := info_parts info_val
  have HTI := Lib.hid hti
  have HI := Lib.hid hI
  generalize hN : M.nodes.length = n at *
  have HN := Lib.hid hN
  generalize hQ : ps.length = q at *
  have HQ := Lib.hid hQ
  have hn : n ≤ 281474976710656 := Nat.le_trans hnc hc'
  clear hN hQ hI hnc hc' hti
  go_enter Tryz.func105, Tryz.ntmps105
  go_wp2
  generalize hw1 : w.alloc (Obj.cells #[.slice A n c, s1, s2, s3, s4] 34) = w1
  have hb0 : ∀ u : Later w1, u.val.cell? ⟨w.heap.size, 0, none⟩ = some (.slice A n c) := Later.cell (by rw [← hw1]; simp)
  have HB := Lib.hid (show Below w.heap.size w w1 by rw [← hw1]; exact (Below.refl _ _).alloc (Nat.le_refl _) _)
  clear hw1
  go_loopw [5, 10] (fun s i wr => ∃ (k : Nat) (svs : List Value) (sv : Value), k ≤ q ∧ i = .int .i64 k ∧ sv = s ∧ Hid (AccV w1.heap.size wr sv svs (zerosN M.nodes ps k)) ∧ LaterC w1 wr) (fun _ i _ => q - (intOf i).toNat)
  case atStart => exact ⟨0, [], _, Nat.zero_le _, rfl, rfl, Lib.hid (AccV.nil _ _), LaterC.refl _⟩
  case round =>
    obtain ⟨k, svs, sv, hk, rfl, hsv, HAC, ⟨u, rfl⟩⟩ := hrel
    subst hsv
    by_cases hlt : k < q
    · have hlt' : (k : Int) < q := by omega
      have hgp := getD_at (show k < ps.length by rw [HQ.out]; exact hlt) 0
      obtain ⟨p, hp, hpn⟩ := HI.out k _ hgp
      obtain ⟨bp, op, rfl, hpx⟩ := hB k _ hgp
      have hgn := getD_at (show p < M.nodes.length by rw [HN.out]; exact hpn) Nd.zero
      obtain ⟨bn, on, rfl, hnx⟩ := hA p _ hgn
      have hnd : ndAt M.nodes ps k = M.nodes.getD p Nd.zero := by unfold ndAt; rw [hp]; rfl
      have HZ := Lib.hid (show zerosN M.nodes ps (k + 1) = zerosN M.nodes ps k ++ [List.replicate (cellsN (ndAt M.nodes ps k).idx (ndAt M.nodes ps k).wid).toNat 0] from rfl)
      rw [hnd] at HZ
      rw [hp] at hpx
      generalize M.nodes.getD p Nd.zero = x at *
      have p0 : ∀ l : Later w1, l.val.cell? ⟨bp, op + k, none⟩ = some (.int .i64 (p : Int)) := hpx.int HB.out
      have p6 : ∀ l : Later w1, l.val.cell? ⟨bn, on + p * 9 + 6, none⟩ = some (.int .i64 x.idx) := hnx.at_ HB.out 6 _ rfl
      have p7 : ∀ l : Later w1, l.val.cell? ⟨bn, on + p * 9 + 7, none⟩ = some (.int .i64 x.wid) := hnx.at_ HB.out 7 _ rfl
      have hcb := cells_bits x.idx x.wid
      obtain ⟨m, hm⟩ := Int.eq_ofNat_of_zero_le hcb.2.2.1
      have hm4 : m ≤ 4 := by omega
      have HC := Lib.hid hm
      rw [hm, Int.toNat_natCast] at HZ
      have hmk := make_any (P := Tryz.prog) 24 3 (.int .i64 0) 1 8 Tryz.underlying24 (by kernel_rfl) m (by omega) (by omega)
      simp only [Nat.mul_one, Value.cells] at hmk
      have HSL := Lib.hid (show svs.length = k from HAC.out.2.1.trans (zerosN_length _ _ _))
      have hsl : svs.length ≤ 1048576 := by have := HSL.out; omega
      clear hgp hgn hpx hnx hp hA hB hnd hcb hm
      have HSC := Lib.hid (fun W => (show Makes Tryz.prog 122 #[.agg #[.int .i64 x.idx, .int .i64 x.wid]] W (.int .i64 (m : Int)) from HC.out ▸ SortCells'_calls x.idx x.wid W))
      go_wp2_with (first | (at_builtin; refine wpList_append_acc (by rfl) _ _ (by rfl) w1 u.val _ _ (w2.heap.size + 1) _ _ svs _ _ (by rfl) HAC.out ⟨u, rfl⟩ (HB2.out.alloc HB2.out.size _) (rowI_zero w2 m (by omega)) (fun b hb => by cases hb; exact HB2.out.size) hsl (box_below _ _ _) (OwnB.new' _ _ _ _ (by simp)) (by rfl) ?_; intro v' u2 hac; have HAC2 := Lib.hid hac; clear hac) | (go_at_call 122; refine (HSC.out _).mono ?_; rintro e w2 ⟨rfl, hb⟩; have HB2 := Lib.hid hb; clear hb))
      go_roundw
      case rel =>
        have hac2 := HAC2.out
        rw [← HZ.out] at hac2
        exact ⟨k + 1, _, _, by omega, by go_num, rfl, Lib.hid hac2, ⟨u2, rfl⟩⟩
      case measure => simp [intOf] <;> omega
    · obtain rfl : k = q := by omega
      clear hA hB
      go_wp2
      go_ret
      exact ⟨_, svs, rfl, u.back HB.out, HAC.out.mono HB.out.size⟩
end Go.Proofs.YteboalbpgghdhaaGreat
namespace Go.Proofs.YteboalbpgghdhaaGreat
open Go.RowKit
/-! The values of a number. -/
def rowU (ns : List Nd) (ps : List Int) (code : Int) (i : Nat) : List Int :=
  (List.range (cellsN (ndAt ns ps i).idx (ndAt ns ps i).wid).toNat).map fun (k : Nat) => code / 2 ^ (bitsTo ns ps i + k * (ndAt ns ps i).wid).toNat % 2 ^ (ndAt ns ps i).wid.toNat
def unpackN (ns : List Nd) (ps : List Int) (code : Int) (n : Nat) : List (List Int) := (List.range n).map (rowU ns ps code)
theorem unpackN_length (ns : List Nd) (ps : List Int) (code : Int) (n : Nat) : (unpackN ns ps code n).length = n := by simp [unpackN]
theorem unpackN_succ (ns : List Nd) (ps : List Int) (code : Int) (n : Nat) : unpackN ns ps code (n + 1) = unpackN ns ps code n ++ [rowU ns ps code n] := by
  unfold unpackN
  rw [List.range_succ, List.map_append]
  rfl
theorem rowU_length (ns : List Nd) (ps : List Int) (code : Int) (i : Nat) : (rowU ns ps code i).length = (cellsN (ndAt ns ps i).idx (ndAt ns ps i).wid).toNat := by simp [rowU]
/-- What a walk asks at each cell. -/
def CellU (ns : List Nd) (ps : List Int) (i k : Nat) : Prop := 0 ≤ bitsTo ns ps i + k * (ndAt ns ps i).wid ∧ bitsTo ns ps i + k * (ndAt ns ps i).wid + (ndAt ns ps i).wid ≤ 8 ∧ 1 ≤ (ndAt ns ps i).wid
theorem cellU {ns : List Nd} {ps : List Int} (h8 : bitsTo ns ps ps.length ≤ 8) (i k : Nat) (hi : i < ps.length) (hk : (k : Int) < cellsN (ndAt ns ps i).idx (ndAt ns ps i).wid) : CellU ns ps i k := by
  have hm := (bitsTo_mono ns ps (i + 1) (ps.length - (i + 1))).2
  have hb := cells_bits (ndAt ns ps i).idx (ndAt ns ps i).wid
  have h0 := (bitsTo_mono ns ps i 0).1
  rw [show i + 1 + (ps.length - (i + 1)) = ps.length by omega, bitsTo, ← hb.1] at hm
  have hs := sokB_yes (hb.2.1 (by omega))
  have hk1 : ((k : Int) + 1) * (ndAt ns ps i).wid ≤ cellsN (ndAt ns ps i).idx (ndAt ns ps i).wid * (ndAt ns ps i).wid := Int.mul_le_mul_of_nonneg_right (by omega) (by omega)
  rw [Int.add_mul, Int.one_mul] at hk1
  have hk0 : 0 ≤ (k : Int) * (ndAt ns ps i).wid := Int.mul_nonneg (by omega) (by omega)
  exact ⟨by omega, by omega, hs.2.2.1⟩
theorem rowU_take {ns : List Nd} {ps : List Int} {code : Int} {i k : Nat} (hk : (k : Int) < cellsN (ndAt ns ps i).idx (ndAt ns ps i).wid) :
    (rowU ns ps code i).take (k + 1) = (rowU ns ps code i).take k ++ [code / 2 ^ (bitsTo ns ps i + k * (ndAt ns ps i).wid).toNat % 2 ^ (ndAt ns ps i).wid.toNat] := by
  have hl : k < (rowU ns ps code i).length := by rw [rowU_length]; omega
  rw [List.take_succ_eq_append_getElem hl]
  simp [rowU]
set_option maxHeartbeats 2000000 in
set_option maxRecDepth 8000 in
theorem l5Unpack_calls (mv pv : Value) (M : Md) (ps : List Int) (code : Int) (w : World) (hM : MdAt w mv M) (hP : SlN enI w pv ps) (hI : InN ps M.nodes.length) (hsz : ps.length ≤ 1048576) (h8 : bitsTo M.nodes ps ps.length ≤ 8) (hc0 : 0 ≤ code) (hc1 : code ≤ 65535) :
    Calls Tryz.prog 64 #[mv, pv, .int .i64 code] w fun e w' => ∃ v svs, e = .returned v ∧ Below w.heap.size w w' ∧ AccV w.heap.size w' v svs (unpackN M.nodes ps code ps.length) := by
  obtain ⟨s0, s1, s2, s3, s4, rfl, hS, -, -, -, -⟩ := hM.at_
  obtain ⟨A, c, rfl, hnc, hc', hA⟩ := hS
  obtain ⟨B, d, rfl, -, hd', hB⟩ := hP
  clear hM
  have HCU := Lib.hid (cellU h8)
  have HI := Lib.hid hI
  generalize hN : M.nodes.length = n at *
  have HN := Lib.hid hN
  generalize hQ : ps.length = q at *
  have HQ := Lib.hid hQ
  have hn : n ≤ 281474976710656 := Nat.le_trans hnc hc'
  clear hN hQ hI hnc hc' h8
  go_enter Tryz.func64, Tryz.ntmps64
  go_wp2
  generalize hw1 : w.alloc (Obj.cells #[.slice A n c, s1, s2, s3, s4] 34) = w1
  have hb0 : ∀ u : Later w1, u.val.cell? ⟨w.heap.size, 0, none⟩ = some (.slice A n c) := Later.cell (by rw [← hw1]; simp)
  have HB := Lib.hid (show Below w.heap.size w w1 by rw [← hw1]; exact (Below.refl _ _).alloc (Nat.le_refl _) _)
  clear hw1
  go_loopw [7, 8, 9] (fun s aa i wr => ∃ (k : Nat) (svs : List Value) (sv : Value) (av : Int), k ≤ q ∧ i = .int .i64 k ∧ sv = s ∧ aa = .int .i64 av ∧ Hid (av = bitsTo M.nodes ps k ∧ AccV w1.heap.size wr sv svs (unpackN M.nodes ps code k)) ∧ LaterC w1 wr) (fun _ _ i _ => q - (intOf i).toNat)
  case atStart => exact ⟨0, [], _, 0, Nat.zero_le _, rfl, rfl, rfl, Lib.hid ⟨rfl, AccV.nil _ _⟩, LaterC.refl _⟩
  case round =>
    obtain ⟨k, svs, sv, av, hk, rfl, hsv, rfl, HAC, ⟨u, rfl⟩⟩ := hrel
    subst hsv
    by_cases hlt : k < q
    · have hlt' : (k : Int) < q := by omega
      have hgp := getD_at (show k < ps.length by rw [HQ.out]; exact hlt) 0
      obtain ⟨p, hp, hpn⟩ := HI.out k _ hgp
      obtain ⟨bp, op, rfl, hpx⟩ := hB k _ hgp
      have hgn := getD_at (show p < M.nodes.length by rw [HN.out]; exact hpn) Nd.zero
      obtain ⟨bn, on, rfl, hnx⟩ := hA p _ hgn
      have hnd : ndAt M.nodes ps k = M.nodes.getD p Nd.zero := by unfold ndAt; rw [hp]; rfl
      have HND := Lib.hid hnd
      have HCK := Lib.hid (fun (j : Nat) (hj : (j : Int) < cellsN (ndAt M.nodes ps k).idx (ndAt M.nodes ps k).wid) => HCU.out k j hlt hj)
      have HTK := Lib.hid (fun (j : Nat) (hj : (j : Int) < cellsN (ndAt M.nodes ps k).idx (ndAt M.nodes ps k).wid) => rowU_take (code := code) hj)
      have HRL := Lib.hid (rowU_length M.nodes ps code k)
      have HBT := Lib.hid (show bitsTo M.nodes ps (k + 1) = bitsTo M.nodes ps k + cellsN (ndAt M.nodes ps k).idx (ndAt M.nodes ps k).wid * (ndAt M.nodes ps k).wid by rw [bitsTo, (cells_bits _ _).1])
      unfold CellU at HCK
      rw [hnd] at HCK HTK HRL HBT
      rw [hp] at hpx
      generalize M.nodes.getD p Nd.zero = x at *
      have p0 : ∀ l : Later w1, l.val.cell? ⟨bp, op + k, none⟩ = some (.int .i64 (p : Int)) := hpx.int HB.out
      have p6 : ∀ l : Later w1, l.val.cell? ⟨bn, on + p * 9 + 6, none⟩ = some (.int .i64 x.idx) := hnx.at_ HB.out 6 _ rfl
      have p7 : ∀ l : Later w1, l.val.cell? ⟨bn, on + p * 9 + 7, none⟩ = some (.int .i64 x.wid) := hnx.at_ HB.out 7 _ rfl
      have hcb := cells_bits x.idx x.wid
      obtain ⟨m, hm⟩ := Int.eq_ofNat_of_zero_le hcb.2.2.1
      have hm4 : m ≤ 4 := by omega
      have HC := Lib.hid hm
      rw [hm, Int.toNat_natCast] at HRL
      rw [hm] at HCK HTK HBT
      have HSL := Lib.hid (show svs.length = k from HAC.out.2.2.1.trans (unpackN_length _ _ _ _))
      have hsl : svs.length ≤ 1048576 := by have := HSL.out; omega
      clear hgp hgn hpx hnx hp hA hB hnd hcb hm
      have HQL := Lib.hid (show ∀ W, LaterC w1 W → W.cell? ⟨w.heap.size, 0, none⟩ = some (.slice (some ⟨bn, on, none⟩) n c) ∧ W.cell? ⟨bp, op + k, none⟩ = some (.int .i64 (p : Int)) ∧ W.cell? ⟨bn, on + p * 9 + 6, none⟩ = some (.int .i64 x.idx) ∧ W.cell? ⟨bn, on + p * 9 + 7, none⟩ = some (.int .i64 x.wid) from fun W h => by
        obtain ⟨l, rfl⟩ := h
        exact ⟨hb0 l, p0 l, p6 l, p7 l⟩)
      go_wp2
      go_region_held3 (fun w' => w'.cell? ⟨w.heap.size, 0, none⟩ = some (.slice (some ⟨bn, on, none⟩) n c) ∧ w'.cell? ⟨bp, op + k, none⟩ = some (.int .i64 (p : Int)) ∧ w'.cell? ⟨bn, on + p * 9 + 6, none⟩ = some (.int .i64 x.idx) ∧ w'.cell? ⟨bn, on + p * 9 + 7, none⟩ = some (.int .i64 x.wid)) ((refine HQL.out _ ?_; repeat (first | exact ⟨_, rfl⟩ | refine LaterC.drew' ?_ | refine LaterC.alloc' ?_ _))) (fail)
      go_upto_region 8 with fail
      have y0 := box_cell u.val #[.int .i64 x.idx, .int .i64 x.wid] 99 0 _ rfl
      have y1 := box_cell u.val #[.int .i64 x.idx, .int .i64 x.wid] 99 1 _ rfl
      have HL2 := Lib.hid (show LaterC w1 (u.val.alloc (Obj.cells #[.int .i64 x.idx, .int .i64 x.wid] 99)) from u.alloc _)
      have HAC2 := Lib.hid (HAC.out.2.below (box_below u.val #[.int .i64 x.idx, .int .i64 x.wid] 99))
      have HG := Lib.hid (show (u.val.alloc (Obj.cells #[.int .i64 x.idx, .int .i64 x.wid] 99)).heap.size = u.val.heap.size + 1 by simp)
      generalize u.val.alloc (Obj.cells #[.int .i64 x.idx, .int .i64 x.wid] 99) = w2 at *
      have HO3 := Lib.hid (show OwnB (w2.alloc (Obj.cells #[.slice none 0 0] 67)).drew (u.val.heap.size + 1) 67 #[.slice none 0 0] from OwnB.new' _ _ _ _ HG.out)
      have HL3 := Lib.hid (show LaterC w2 (w2.alloc (Obj.cells #[.slice none 0 0] 67)).drew from LaterC.drew' (LaterC.alloc' (LaterC.refl _) _))
      generalize (w2.alloc (Obj.cells #[.slice none 0 0] 67)).drew = w3 at *
      have HAV := Lib.hid HAC.out.1
      have HLO := Lib.hid (show u.val.heap.size + 1 < w3.heap.size from HO3.out.lt)
      generalize u.val.heap.size = G at *
      have y0 : ∀ l : Later w2, l.val.cell? ⟨G, 0, none⟩ = some (.int .i64 x.idx) := y0
      have y1 : ∀ l : Later w2, l.val.cell? ⟨G, 1, none⟩ = some (.int .i64 x.wid) := y1
      clear HAC p0 p6 p7 hb0 HQL
      have HSC := Lib.hid (fun W => (show Makes Tryz.prog 78 #[.agg #[.int .i64 x.idx, .int .i64 x.wid]] W (.int .i64 (m : Int)) from HC.out ▸ SortCells_calls x.idx x.wid W))
      generalize x.wid = ww at *
      generalize x.idx = xi at *
      go_wp2
      go_loopw [8, 12] (fun aa j wr => ∃ (jj : Nat) (cv : Value) (aj : Int), jj ≤ m ∧ j = .int .i64 jj ∧ aa = .int .i64 aj ∧ Hid (aj = bitsTo M.nodes ps k + jj * ww ∧ OwnB wr (G + 1) 67 #[cv] ∧ AccI (G + 2) wr cv ((rowU M.nodes ps code k).take jj) ∧ LaterC w2 wr)) (fun _ j _ => m - (intOf j).toNat)
      case atStart => exact ⟨0, .slice none 0 0, av, Nat.zero_le _, rfl, rfl, Lib.hid ⟨by rw [HAV.out]; simp, HO3.out, by simpa using AccI.nil (G + 2) w3, HL3.out⟩⟩
      case round =>
        obtain ⟨j, cv, aj, hj, rfl, rfl, HR⟩ := hrel
        by_cases hlt2 : j < m
        · have hlt2' : (j : Int) < m := by omega
          have hck := HCK.out j hlt2'
          have HTK2 := Lib.hid (HTK.out j hlt2')
          rw [← HR.out.1] at hck HTK2
          obtain ⟨h1, h2, h3⟩ := hck
          have z0 := Later.cell (Later.cell (y0 ⟨w2, Below.refl _ _⟩) ⟨wr, HR.out.2.2.2.below⟩)
          have z1 := Later.cell (Later.cell (y1 ⟨w2, Below.refl _ _⟩) ⟨wr, HR.out.2.2.2.below⟩)
          have hq1 := pow_pos_i aj
          have hq2 : (2 : Int) ^ aj.toNat ≤ 256 := pow_le_i (by omega) (by omega)
          have hq3 := pow_pos_i ww
          have hq4 : (2 : Int) ^ ww.toNat ≤ 256 := pow_le_i (by omega) (by omega)
          have hd0 : 0 ≤ code / 2 ^ aj.toNat := Int.ediv_nonneg hc0 (by omega)
          have hz1 : ¬ (2 : Int) ^ ww.toNat = 0 := by omega
          have hz2 : ((2 : Int) ^ ww.toNat == 0) = false := by simpa using hz1
          refine at_world (w := wr) ?_
          intro v0
          go_upto_region 11 with (go_at_call 78; refine (HSC.out _).mono ?_; rintro e w4 ⟨rfl, hb⟩; have HB4 := Lib.hid (v0.prop.trans (hb.mono v0.size)); clear hb)
          have HO4 := Lib.hid (HR.out.2.1.below HB4.out HR.out.2.1.lt)
          have HA4 := Lib.hid (ownsRow_below HR.out.2.2.1 HB4.out)
          have HL4 := Lib.hid (laterC_step HR.out.2.2.2 HB4.out)
          have q0 : w4.cell? ⟨G + 1, 0, none⟩ = some cv := HO4.out.cell 0
          have z2 : w4.cell? ⟨G, 1, none⟩ = some (.int .i64 ww) := (HB4.out.cell (World.block_lt_of_cell? _ _ (z1 ⟨wr, Below.refl _ _⟩))).trans (z1 ⟨wr, Below.refl _ _⟩)
          have HQ4 := Lib.hid (show ∀ W, Below w4.heap.size w4 W → W.cell? ⟨G + 1, 0, none⟩ = some cv ∧ W.cell? ⟨G, 1, none⟩ = some (.int .i64 ww) from fun W h => ⟨keepcell h q0, keepcell h z2⟩)
          have HLO4 := Lib.hid (show G + 2 ≤ w4.heap.size by have := HO4.out.lt; omega)
          have HTL := Lib.hid (show ((rowU M.nodes ps code k).take j).length ≤ 1048576 from Nat.le_trans (List.length_take_le _ _) (by omega))
          have HTJ := Lib.hid (show ((rowU M.nodes ps code k).take j).length = j by rw [List.length_take, HRL.out]; omega)
          have HNE := Lib.hid (show ∀ b, cv.ownBlock = some b → G + 2 ≤ b ∧ b < w4.heap.size from fun b hb => HA4.out.lt b hb)
          have hu1 : IntKind.u64.wrap aj = aj := wrap_u64_id (by omega) (by omega)
          have hu2 : IntKind.u64.wrap ww = ww := wrap_u64_id (by omega) (by omega)
          have hwp : IntKind.i64.wrap (2 ^ ww.toNat) = 2 ^ ww.toNat := wrap_i64_id (by omega) (by omega)
          have htm : (code / 2 ^ aj.toNat).tmod (2 ^ ww.toNat) = code / 2 ^ aj.toNat % 2 ^ ww.toNat := Int.tmod_eq_emod_of_nonneg hd0
          clear z0 z1
          have q0a : ∀ o, (w4.alloc o).cell? ⟨G + 1, 0, none⟩ = some cv := fun o => keepcell ((Below.refl _ _).alloc (Nat.le_refl _) o) q0
          have z2a : ∀ o, (w4.alloc o).cell? ⟨G, 1, none⟩ = some (.int .i64 ww) := fun o => keepcell ((Below.refl _ _).alloc (Nat.le_refl _) o) z2
          have HTK3 := Lib.hid (show (rowU M.nodes ps code k).take (j + 1) = (rowU M.nodes ps code k).take j ++ [code / 2 ^ aj.toNat % 2 ^ ww.toNat] from HTK2.out)
          go_region_law ((refine step_append_int (by rfl) _ _ (by rfl) (G + 2) w4 _ w4.heap.size cv (code / 2 ^ aj.toNat % 2 ^ ww.toNat) _ j HTJ.out (by rfl) HA4.out HLO4.out HTL.out (by repeat (first | exact Below.refl _ _ | refine Below.drew ?_ | refine Below.alloc ?_ (Nat.le_refl _) _)) (heap_alloc_new w4 _) (by rfl) ?_; intro g cap wn hac hgrow hat; have HPD := Lib.hid (push_done (B := G + 1) (ys := (rowU M.nodes ps code k).take (j + 1)) HO4.out HL4.out (Nat.le_of_eq HG.out) (by repeat (first | exact Below.refl _ _ | refine Below.drew ?_ | refine Below.alloc ?_ (Nat.le_refl _) _)) (fun b hb => (HNE.out b hb).1) hgrow hat (by rw [HTK3.out]; exact hac)); have q1 : wn.cell? ⟨G + 1, 0, none⟩ = some cv := (hgrow.cell_far _ (by have := HLO4.out; simp; omega) (fun e => by have := HNE.out _ e.symm; simp at this)).trans (HQ4.out _ (by repeat (first | exact Below.refl _ _ | refine Below.drew ?_ | refine Below.alloc ?_ (Nat.le_refl _) _))).1; have f1 : wn.frozen? ⟨G + 1, 0, none⟩ = false := (hgrow.frozen_far _ (by have := HLO4.out; simp; omega) (fun e => by have := HNE.out _ e.symm; simp at this)).trans ((HO4.out.below (by repeat (first | exact Below.refl _ _ | refine Below.drew ?_ | refine Below.alloc ?_ (Nat.le_refl _) _)) HO4.out.lt).frozen 0); have z3 : wn.cell? ⟨G, 1, none⟩ = some (.int .i64 ww) := (hgrow.cell_far _ (by have := HLO4.out; simp; omega) (fun e => by have := HNE.out _ e.symm; simp at this; omega)).trans (HQ4.out _ (by repeat (first | exact Below.refl _ _ | refine Below.drew ?_ | refine Below.alloc ?_ (Nat.le_refl _) _))).2; clear hac hgrow hat))
          all_goals
            go_wp2
            go_roundw
            case rel => exact ⟨j + 1, _, aj + ww, by omega, by go_num, by go_num, Lib.hid ⟨by rw [HR.out.1]; push_cast; rw [Int.add_mul]; omega, HPD.out.1, HPD.out.2.1, HPD.out.2.2⟩⟩
            case measure => simp [intOf] <;> omega
        · obtain rfl : j = m := by omega
          have HRF := Lib.hid (show (rowU M.nodes ps code k).take j = rowU M.nodes ps code k by rw [← HRL.out, List.take_length])
          have z0 := Later.cell (Later.cell (y0 ⟨w2, Below.refl _ _⟩) ⟨wr, HR.out.2.2.2.below⟩)
          have z1 := Later.cell (Later.cell (y1 ⟨w2, Below.refl _ _⟩) ⟨wr, HR.out.2.2.2.below⟩)
          refine at_world (w := wr) ?_
          intro v0
          go_wp2_with (first | (at_builtin; refine wpList_append_acc (by rfl) _ _ (by rfl) w1 w2 w4 _ w4.heap.size sv cv svs _ (rowU M.nodes ps code k) (by rfl) HAC2.out HL2.out HL4.out.below HROW.out HCB.out hsl (box_below _ _ _) (OwnB.new _ _ _) (by rfl) ?_; intro v' u2 hac; have HACN := Lib.hid hac; clear hac) | (go_at_call 78; refine (HSC.out _).mono ?_; rintro e w4 ⟨rfl, hb⟩; have HB4 := Lib.hid (v0.prop.trans (hb.mono v0.size)); have HO4 := Lib.hid (HR.out.2.1.below HB4.out HR.out.2.1.lt); have HA4 := Lib.hid (ownsRow_below HR.out.2.2.1 HB4.out); have HL4 := Lib.hid (laterC_step HR.out.2.2.2 HB4.out); have q0 : w4.cell? ⟨G + 1, 0, none⟩ = some cv := HO4.out.cell 0; have HROW := Lib.hid (show RowI w4 cv (rowU M.nodes ps code k) from by have h := HA4.out; rw [HRF.out] at h; exact .of_owns h rfl (by rw [HRL.out]; omega)); have HCB := Lib.hid (show ∀ b, cv.ownBlock = some b → w2.heap.size ≤ b from fun b hb' => by have h1 := (HA4.out.lt b hb').1; have h2 := HG.out; omega); clear hb z0 z1))
          go_roundw
          case rel =>
            have hacn := HACN.out
            rw [← unpackN_succ] at hacn
            exact ⟨k + 1, _, _, aj, by omega, by go_num, rfl, rfl, Lib.hid ⟨by rw [HBT.out, HR.out.1], hacn⟩, ⟨u2, rfl⟩⟩
          case measure => simp [intOf] <;> omega
    · obtain rfl : k = q := by omega
      clear hA hB
      go_wp2
      go_ret
      exact ⟨_, svs, rfl, u.back HB.out, HAC.out.2.mono HB.out.size⟩
end Go.Proofs.YteboalbpgghdhaaGreat
namespace Go.Proofs.YteboalbpgghdhaaGreat
open Go.RowKit
/-! impl.Model.of. -/
theorem RowI.setAt {w : World} {g n cap : Nat} {xs : List Int} (h : RowI w (.slice (some ⟨g, 0, none⟩) n cap) xs) {j : Nat} (hj : j < xs.length) (y : Int) : RowI (w.setCell ⟨g, j, none⟩ (.int .i64 y)) (.slice (some ⟨g, 0, none⟩) n cap) (xs.set j y) := by
  obtain ⟨hl, ⟨h0, -⟩ | ⟨g', cap', cur, hv, ho, hc, hs, hf⟩⟩ := h
  · cases h0
  · cases hv
    refine ⟨by simpa using hl, .inr ⟨g, cap, cur.setIfInBounds j (.int .i64 y), by simp, ho.set _ _, by simpa using hc, by simpa using hs, fun i x hx => ?_⟩⟩
    rw [List.getElem?_set] at hx
    by_cases e : j = i
    · subst e
      rw [if_pos rfl, if_pos hj] at hx
      cases hx
      rw [Array.getElem?_setIfInBounds_self_of_lt (by omega)]
    · rw [if_neg e] at hx
      rw [Array.getElem?_setIfInBounds_ne (by omega)]
      exact hf i x hx
theorem RowVs.setAt {lo : Nat} {w : World} {v : Value} {svs : List Value} {L : List (List Int)} (h : RowVs lo w v svs L) {k g n cap : Nat} (hk : svs[k]? = some (.slice (some ⟨g, 0, none⟩) n cap)) {xs : List Int} (hx : L[k]? = some xs) {j : Nat} (hj : j < xs.length) (y : Int) :
    RowVs lo (w.setCell ⟨g, j, none⟩ (.int .i64 y)) v svs (L.set k (xs.set j y)) := by
  obtain ⟨h1, h2, h3, h4, h5⟩ := h
  have hne := (h4 k _ xs hk hx).2 g rfl
  refine ⟨by simpa using h1, by simpa using h2, ?_, fun i sv ys hi hy => ?_, h5⟩
  · rcases h3 with ⟨rfl, rfl⟩ | ⟨g', cap', cur, rfl, hlo, ho, hc, hs, hf⟩
    · simp at hx
    · refine .inr ⟨g', cap', cur, by simp, hlo, ho.keep (fun e => hne.2 (by rw [e]; rfl)) _, by simpa using hc, hs, hf⟩
  · rw [List.getElem?_set] at hy
    by_cases e : k = i
    · subst e
      have hil := (List.getElem?_eq_some_iff.1 hx).1
      rw [if_pos rfl, if_pos hil] at hy
      cases hy
      rw [hk] at hi
      cases hi
      exact ⟨(h4 k _ xs hk hx).1.setAt hj y, (h4 k _ xs hk hx).2⟩
    · rw [if_neg e] at hy
      obtain ⟨k1, k2⟩ := h4 i sv ys hi hy
      refine ⟨k1.set (fun b hb e' => ?_) _, k2⟩
      subst e'
      rcases Nat.lt_or_ge k i with hlt | hge
      · exact h5 k i _ _ g hk hi hlt rfl hb
      · exact h5 i k _ _ g hi hk (by omega) hb rfl
theorem RowVs.outer {lo : Nat} {w : World} {v : Value} {svs : List Value} {L : List (List Int)} (h : RowVs lo w v svs L) {k : Nat} (hk : k < L.length) : ∃ g cap, v = .slice (some ⟨g, 0, none⟩) L.length cap ∧ L.length ≤ cap ∧ ∃ sv, svs[k]? = some sv ∧ w.cell? ⟨g, k, none⟩ = some sv := by
  obtain ⟨sv, hsv⟩ := h.get hk
  obtain ⟨h1, h2, ⟨rfl, rfl⟩ | ⟨g, cap, cur, rfl, hlo, ho, hc, hs, hf⟩, -⟩ := h
  · simp at hk
  · exact ⟨g, cap, rfl, hc, sv, hsv, by rw [ho.cell]; exact hf k sv hsv⟩
theorem RowI.shape {w : World} {sv : Value} {xs : List Int} (h : RowI w sv xs) : ∃ A c, sv = .slice A xs.length c := by
  obtain ⟨-, ⟨rfl, rfl⟩ | ⟨g, cap, cur, rfl, -⟩⟩ := h
  · exact ⟨_, _, rfl⟩
  · exact ⟨_, _, rfl⟩
theorem RowI.cellAt {w : World} {sv : Value} {xs : List Int} (h : RowI w sv xs) {j : Nat} (hj : j < xs.length) : ∃ g cap, sv = .slice (some ⟨g, 0, none⟩) xs.length cap ∧ w.cell? ⟨g, j, none⟩ = some (.int .i64 (xs.getD j 0)) ∧ w.frozen? ⟨g, j, none⟩ = false ∧ g < w.heap.size := by
  obtain ⟨-, ⟨rfl, rfl⟩ | ⟨g, cap, cur, rfl, ho, hc, hs, hf⟩⟩ := h
  · simp at hj
  · exact ⟨g, cap, rfl, by rw [ho.cell]; exact hf j _ (getD_at hj 0), ho.frozen j, ho.lt⟩
theorem unpackN_get {ns : List Nd} {ps : List Int} {code : Int} {n j : Nat} (hj : j < n) : (unpackN ns ps code n)[j]? = some (rowU ns ps code j) := by
  unfold unpackN
  rw [List.getElem?_map, List.getElem?_range hj]
  rfl
theorem unpack_of {ns : List Nd} {ps : List Int} {code : Int} {n : Nat} {L : List (List Int)} (hl : L.length = n) (h : ∀ j, j < n → L.getD j [] = rowU ns ps code j) : L = unpackN ns ps code n := by
  refine List.ext_getElem? fun i => ?_
  rcases Nat.lt_or_ge i n with g | g
  · rw [unpackN_get g, getD_at (by omega) [], h i g]
  · rw [List.getElem?_eq_none (by omega), List.getElem?_eq_none (by rw [unpackN_length]; exact g)]
theorem row_of {l l' : List Int} (h1 : l.length = l'.length) (h : ∀ i, i < l'.length → l.getD i 0 = l'.getD i 0) : l = l' := by
  refine List.ext_getElem? fun i => ?_
  rcases Nat.lt_or_ge i l'.length with g | g
  · rw [getD_at (by omega) 0, getD_at g 0, h i g]
  · rw [List.getElem?_eq_none (by omega), List.getElem?_eq_none g]
theorem rowU_get {ns : List Nd} {ps : List Int} {code : Int} {i k : Nat} (hk : (k : Int) < cellsN (ndAt ns ps i).idx (ndAt ns ps i).wid) :
    (rowU ns ps code i).getD k 0 = code / 2 ^ (bitsTo ns ps i + k * (ndAt ns ps i).wid).toNat % 2 ^ (ndAt ns ps i).wid.toNat := by
  have hl : k < (rowU ns ps code i).length := by rw [rowU_length]; omega
  rw [List.getD_eq_getElem?_getD, List.getElem?_eq_getElem hl]
  simp [rowU]
/-- What the inner loop has done: the rows ahead of k are those of the number, those behind it are 0, and of row k the first cells are. -/
def MidOf (ns : List Nd) (ps : List Int) (code : Int) (q k m jj : Nat) (L : List (List Int)) : Prop :=
  L.length = q ∧ (∀ i, i < k → L.getD i [] = rowU ns ps code i) ∧ (∀ i, k < i → i < q → L.getD i [] = List.replicate (cellsN (ndAt ns ps i).idx (ndAt ns ps i).wid).toNat 0) ∧ (L.getD k []).length = m ∧ ∀ i, i < jj → (L.getD k []).getD i 0 = (rowU ns ps code k).getD i 0
theorem set_getD {α : Type} (L : List α) (k i : Nat) (x z : α) (hk : k < L.length) : (L.set k x).getD i z = if i = k then x else L.getD i z := by
  rw [List.getD_eq_getElem?_getD, List.getElem?_set, List.getD_eq_getElem?_getD]
  by_cases e : k = i
  · subst e; simp [hk]
  · rw [if_neg e, if_neg (fun h => e h.symm)]
theorem MidOf.step {ns : List Nd} {ps : List Int} {code : Int} {q k m jj : Nat} {L : List (List Int)} (h : MidOf ns ps code q k m jj L) (hk : k < q) (hj : jj < m) {y : Int} (hy : (rowU ns ps code k).getD jj 0 = y) : MidOf ns ps code q k m (jj + 1) (L.set k ((L.getD k []).set jj y)) := by
  obtain ⟨h1, h2, h3, h4, h5⟩ := h
  refine ⟨by simpa using h1, fun i hi => ?_, fun i hi hq => ?_, ?_, fun i hi => ?_⟩
  · rw [set_getD _ _ _ _ _ (by omega), if_neg (by omega)]; exact h2 i hi
  · rw [set_getD _ _ _ _ _ (by omega), if_neg (by omega)]; exact h3 i hi hq
  · rw [set_getD _ _ _ _ _ (by omega), if_pos rfl, List.length_set]; exact h4
  · rw [set_getD _ _ _ _ _ (by omega), if_pos rfl, set_getD _ _ _ _ _ (by omega)]
    by_cases e : i = jj
    · rw [if_pos e, e, hy]
    · rw [if_neg e]; exact h5 i (by omega)
/-- What the outer loop has done. -/
def OutOf (ns : List Nd) (ps : List Int) (code : Int) (q k : Nat) (L : List (List Int)) : Prop :=
  L.length = q ∧ (∀ i, i < k → L.getD i [] = rowU ns ps code i) ∧ (∀ i, k ≤ i → i < q → L.getD i [] = List.replicate (cellsN (ndAt ns ps i).idx (ndAt ns ps i).wid).toNat 0)
theorem OutOf.mid {ns : List Nd} {ps : List Int} {code : Int} {q k m : Nat} {L : List (List Int)} (h : OutOf ns ps code q k L) (hk : k < q) (hm : (cellsN (ndAt ns ps k).idx (ndAt ns ps k).wid).toNat = m) : MidOf ns ps code q k m 0 L :=
  ⟨h.1, h.2.1, fun i hi hq => h.2.2 i (by omega) hq, by rw [h.2.2 k (Nat.le_refl _) hk, List.length_replicate, hm], fun i hi => absurd hi (Nat.not_lt_zero _)⟩
theorem MidOf.out {ns : List Nd} {ps : List Int} {code : Int} {q k m : Nat} {L : List (List Int)} (h : MidOf ns ps code q k m m L) (hm : (cellsN (ndAt ns ps k).idx (ndAt ns ps k).wid).toNat = m) : OutOf ns ps code q (k + 1) L := by
  obtain ⟨h1, h2, h3, h4, h5⟩ := h
  refine ⟨h1, fun i hi => ?_, fun i hi hq => h3 i (by omega) hq⟩
  rcases Nat.lt_or_ge i k with g | g
  · exact h2 i g
  · obtain rfl : i = k := by omega
    exact row_of (by rw [h4, rowU_length, hm]) fun i hi => h5 i (by rw [rowU_length, hm] at hi; exact hi)
theorem zerosN_get (ns : List Nd) (ps : List Int) : ∀ {n i : Nat}, i < n → (zerosN ns ps n)[i]? = some (List.replicate (cellsN (ndAt ns ps i).idx (ndAt ns ps i).wid).toNat 0)
  | n + 1, i, hi => by
    rw [zerosN]
    rcases Nat.lt_or_ge i n with g | g
    · rw [List.getElem?_append_left (by rw [zerosN_length]; exact g)]; exact zerosN_get ns ps g
    · obtain rfl : i = n := by omega
      rw [List.getElem?_append_right (by rw [zerosN_length]; exact Nat.le_refl _), zerosN_length, Nat.sub_self]; rfl
theorem outOf_zeros (ns : List Nd) (ps : List Int) (code : Int) (q : Nat) : OutOf ns ps code q 0 (zerosN ns ps q) :=
  ⟨zerosN_length _ _ _, fun i hi => absurd hi (Nat.not_lt_zero _), fun i _ hq => by rw [List.getD_eq_getElem?_getD, zerosN_get ns ps hq]; rfl⟩
theorem div_pow_step {c a b : Int} (ha : 0 ≤ a) (hb : 0 ≤ b) : c / 2 ^ a.toNat / 2 ^ b.toNat = c / 2 ^ (a + b).toNat := by
  have h := pow_pos_i a
  rw [pow_add_i _ _ ha hb, Int.ediv_ediv, if_neg (by omega), Int.sub_zero]
set_option maxHeartbeats 4000000 in
set_option maxRecDepth 8000 in
theorem of_calls (mv pv : Value) (M : Md) (ps : List Int) (code : Int) (w : World) (hM : MdAt w mv M) (hP : SlN enI w pv ps) (hI : InN ps M.nodes.length) (hsz : ps.length ≤ 1048576) (h8 : bitsTo M.nodes ps ps.length ≤ 8) (hc0 : 0 ≤ code) (hc1 : code ≤ 65535) :
    Calls Tryz.prog 67 #[mv, pv, .int .i64 code] w fun e w' => ∃ v svs, e = .returned v ∧ Below w.heap.size w w' ∧ RowVs w.heap.size w' v svs (unpackN M.nodes ps code ps.length) := by
  have HM := Lib.hid hM
  have HP := Lib.hid hP
  obtain ⟨s0, s1, s2, s3, s4, rfl, hS, -, -, -, -⟩ := hM.at_
  obtain ⟨A, c, rfl, hnc, hc', hA⟩ := hS
  obtain ⟨B, d, rfl, -, hd', hB⟩ := hP
  clear hM
  have HCU := Lib.hid (cellU h8)
  have HI := Lib.hid hI
  have HSZ := Lib.hid hsz
  generalize hN : M.nodes.length = n at *
  have HN := Lib.hid hN
  have HI2 := Lib.hid (show InN ps M.nodes.length by rw [hN]; exact hI)
  generalize hQ : ps.length = q at *
  have HQ := Lib.hid hQ
  have hn : n ≤ 281474976710656 := Nat.le_trans hnc hc'
  clear hN hI hnc hc' h8
  go_enter Tryz.func67, Tryz.ntmps67
  have m0 := box_cell w #[.slice A n c, s1, s2, s3, s4] 34 0 _ rfl
  have m1 := box_cell w #[.slice A n c, s1, s2, s3, s4] 34 1 _ rfl
  have m2 := box_cell w #[.slice A n c, s1, s2, s3, s4] 34 2 _ rfl
  have m3 := box_cell w #[.slice A n c, s1, s2, s3, s4] 34 3 _ rfl
  have m4 := box_cell w #[.slice A n c, s1, s2, s3, s4] 34 4 _ rfl
  have HB := Lib.hid (box_below w #[.slice A n c, s1, s2, s3, s4] 34)
  go_upto_region 1 with fail
  generalize w.alloc (Obj.cells #[.slice A n c, s1, s2, s3, s4] 34) = w1 at *
  have m0 : ∀ u : Later w1, u.val.cell? ⟨w.heap.size, 0, none⟩ = some (.slice A n c) := m0
  have m1 : ∀ u : Later w1, u.val.cell? ⟨w.heap.size, 1, none⟩ = some s1 := m1
  have m2 : ∀ u : Later w1, u.val.cell? ⟨w.heap.size, 2, none⟩ = some s2 := m2
  have m3 : ∀ u : Later w1, u.val.cell? ⟨w.heap.size, 3, none⟩ = some s3 := m3
  have m4 : ∀ u : Later w1, u.val.cell? ⟨w.heap.size, 4, none⟩ = some s4 := m4
  refine at_world (w := w1) ?_
  intro u0
  go_upto_region 2 with (go_at_call 105; refine (zeros_calls _ _ M ps _ ((HM.out.below HB.out).later u0) ((HP.out.below HB.out).later u0) HI2.out (by rw [HQ.out]; exact HSZ.out)).mono ?_; rintro e w2 ⟨v, svs, rfl, hb, hac⟩; have HRV := Lib.hid ((hac.mono u0.size).rowVs (by rw [zerosN_length, HQ.out]; have := HSZ.out; omega)); have HL2 := Lib.hid (laterC_step (w1 := w1) ⟨u0, rfl⟩ hb); clear hb hac)
  rw [HQ.out] at HRV
  clear m1 m2 m3 m4 hQ
  go_wp2
  go_loopw [2, 17] (fun cc i wr => ∃ (k : Nat) (L : List (List Int)) (cv : Int), k ≤ q ∧ i = .int .i64 k ∧ cc = .int .i64 cv ∧ Hid (cv = code / 2 ^ (bitsTo M.nodes ps k).toNat ∧ RowVs w1.heap.size wr v svs L ∧ OutOf M.nodes ps code q k L) ∧ LaterC w1 wr) (fun _ i _ => q - (intOf i).toNat)
  case atStart => exact ⟨0, _, code, Nat.zero_le _, rfl, rfl, Lib.hid ⟨by simp [bitsTo], HRV.out, outOf_zeros _ _ _ _⟩, HL2.out⟩
  case round =>
    obtain ⟨k, L, cv, hk, rfl, rfl, HR, ⟨u, rfl⟩⟩ := hrel
    by_cases hlt : k < q
    · have hlt' : (k : Int) < q := by omega
      have hgp := getD_at (show k < ps.length by rw [HQ.out]; exact hlt) 0
      obtain ⟨p, hp, hpn⟩ := HI2.out k _ hgp
      obtain ⟨bp, op, rfl, hpx⟩ := hB k _ hgp
      have hgn := getD_at hpn Nd.zero
      obtain ⟨bn, on, rfl, hnx⟩ := hA p _ hgn
      have hpn2 : p < n := by rw [← HN.out]; exact hpn
      have hnd : ndAt M.nodes ps k = M.nodes.getD p Nd.zero := by unfold ndAt; rw [hp]; rfl
      have HCK := Lib.hid (fun (j : Nat) (hj : (j : Int) < cellsN (ndAt M.nodes ps k).idx (ndAt M.nodes ps k).wid) => HCU.out k j hlt hj)
      have HRG := Lib.hid (fun (j : Nat) (hj : (j : Int) < cellsN (ndAt M.nodes ps k).idx (ndAt M.nodes ps k).wid) => rowU_get (code := code) hj)
      have HBT := Lib.hid (show bitsTo M.nodes ps (k + 1) = bitsTo M.nodes ps k + cellsN (ndAt M.nodes ps k).idx (ndAt M.nodes ps k).wid * (ndAt M.nodes ps k).wid by rw [bitsTo, (cells_bits _ _).1])
      have hcb := cells_bits (ndAt M.nodes ps k).idx (ndAt M.nodes ps k).wid
      obtain ⟨m, hm⟩ := Int.eq_ofNat_of_zero_le hcb.2.2.1
      have hm4 : m ≤ 4 := by omega
      have HC := Lib.hid (show (cellsN (ndAt M.nodes ps k).idx (ndAt M.nodes ps k).wid).toNat = m by rw [hm]; rfl)
      unfold CellU at HCK
      rw [hm] at HCK HRG HBT
      rw [hnd] at HCK HRG HBT
      rw [hp] at hpx
      have HMID := Lib.hid (HR.out.2.2.mid hlt HC.out)
      have p0 : ∀ l : Later w1, l.val.cell? ⟨bp, op + k, none⟩ = some (.int .i64 (p : Int)) := hpx.int HB.out
      have p7 : ∀ l : Later w1, l.val.cell? ⟨bn, on + p * 9 + 7, none⟩ = some (.int .i64 (M.nodes.getD p Nd.zero).wid) := hnx.at_ HB.out 7 _ rfl
      generalize (M.nodes.getD p Nd.zero).wid = ww at *
      obtain ⟨g, cap, hv, hcap, sv, hsv, hcell⟩ := HR.out.2.1.outer (k := k) (by rw [HR.out.2.2.1]; exact hlt)
      rw [HR.out.2.2.1] at hv hcap
      subst hv
      have hgl := getD_at (show k < L.length by rw [HR.out.2.2.1]; exact hlt) []
      obtain ⟨As, cs, hsve⟩ := (HR.out.2.1.2.2.2.1 k sv _ hsv hgl).1.shape
      rw [HMID.out.2.2.2.1] at hsve
      subst hsve
      have HSV := Lib.hid hsv
      clear hgp hgn hpx hnx hp hpn hA hB hnd hcb hm hsv hgl
      go_wp2
      go_loopw [2, 35] (fun cc j wr => ∃ (jj : Nat) (L2 : List (List Int)) (cj : Int), jj ≤ m ∧ j = .int .i64 jj ∧ cc = .int .i64 cj ∧ Hid (cj = code / 2 ^ (bitsTo M.nodes ps k + jj * ww).toNat ∧ RowVs w1.heap.size wr (.slice (some ⟨g, 0, none⟩) q cap) svs L2 ∧ MidOf M.nodes ps code q k m jj L2) ∧ LaterC w1 wr) (fun _ j _ => m - (intOf j).toNat)
      case atStart => exact ⟨0, L, cv, Nat.zero_le _, rfl, rfl, Lib.hid ⟨by rw [HR.out.1]; simp, HR.out.2.1, HMID.out⟩, ⟨u, rfl⟩⟩
      case round =>
        obtain ⟨jj, L2, cj, hj, rfl, rfl, HR2, ⟨v0, rfl⟩⟩ := hrel
        by_cases hlt2 : jj < m
        · have hlt2' : (jj : Int) < m := by omega
          have hck := HCK.out jj hlt2'
          have HRG2 := Lib.hid (HRG.out jj hlt2')
          have HAJ := Lib.hid (show bitsTo M.nodes ps k + ((jj + 1 : Nat) : Int) * ww = bitsTo M.nodes ps k + jj * ww + ww by push_cast; rw [Int.add_mul]; omega)
          obtain ⟨h1, h2, h3⟩ := hck
          generalize bitsTo M.nodes ps k + jj * ww = aj at *
          have hq1 := pow_pos_i aj
          have hq3 := pow_pos_i ww
          have hq4 : (2 : Int) ^ ww.toNat ≤ 256 := pow_le_i (by omega) (by omega)
          have hcj0 : 0 ≤ cj := by rw [HR2.out.1]; exact Int.ediv_nonneg hc0 (by omega)
          have hcj1 : cj ≤ 65535 := by rw [HR2.out.1]; have := Int.ediv_le_self (b := 2 ^ aj.toNat) hc0; omega
          obtain ⟨g', cap', hv, -, sv', hsv', hcell'⟩ := HR2.out.2.1.outer (k := k) (by rw [HR2.out.2.2.1]; exact hlt)
          rw [HR2.out.2.2.1] at hv
          cases hv
          rw [HSV.out] at hsv'
          cases hsv'
          have hgl2 := getD_at (show k < L2.length by rw [HR2.out.2.2.1]; exact hlt) []
          have hrk := HR2.out.2.1.2.2.2.1 k _ _ HSV.out hgl2
          obtain ⟨gk, capk, hse, hck0, hfr, hgk⟩ := hrk.1.cellAt (j := jj) (by rw [HR2.out.2.2.2.2.2.1]; exact hlt2)
          rw [HR2.out.2.2.2.2.2.1] at hse
          cases hse
          have HGK := Lib.hid (hrk.2 gk rfl).1
          have c0 := Later.cell hcell'
          have d0 := Later.cell hck0
          have f0 : ∀ l : Later v0.val, l.val.frozen? ⟨gk, jj, none⟩ = false := Later.frozen hfr hgk
          have HGL2 := Lib.hid hgl2
          generalize (L2.getD k []).getD jj 0 = y0 at *
          have HAM := Lib.hid (and_mask cj ww.toNat (by omega))
          clear hcell hcell' hck0 hfr hrk hgl2
          go_wp2
          refine wp_region_later_tail (w0 := v0.val) 11 (by kernel_rfl) (by kernel_rfl) (LaterC.refl _) ?_
          simp only [List.take_succ_cons, List.take_zero, List.drop_succ_cons, List.drop_zero]
          repeat (go_big_quiet_step ((go_at_call 106; exact Calls.later (Makes.of_same (mask_same ww _ (by omega) (by omega))))))
          refine wpQuiet_nil ?_
          rintro _ ⟨u1, rfl⟩
          go_wp2
          go_roundw
          case rel =>
            have hrv := (HR2.out.2.1.below u1.prop).setAt HSV.out HGL2.out (j := jj) (by rw [HR2.out.2.2.2.2.2.1]; exact hlt2) (bits .and .i64 cj (2 ^ ww.toNat - 1))
            have hmid := HR2.out.2.2.step hlt hlt2 (y := bits .and .i64 cj (2 ^ ww.toNat - 1)) (by rw [HRG2.out, HAM.out, HR2.out.1])
            refine ⟨jj + 1, _, cj / 2 ^ ww.toNat, by omega, by go_num, rfl, Lib.hid ⟨?_, hrv, hmid⟩, LaterC.setCell' (LaterC.trans ⟨v0, rfl⟩ ⟨u1, rfl⟩) _ _ HGK.out⟩
            rw [HAJ.out, HR2.out.1, div_pow_step h1 (by omega)]
          case measure => simp [intOf] <;> omega
        · obtain rfl : jj = m := by omega
          go_wp2
          go_roundw
          case rel => exact ⟨k + 1, L2, cj, by omega, by go_num, rfl, Lib.hid ⟨by rw [HR2.out.1, HBT.out], HR2.out.2.1, HR2.out.2.2.out HC.out⟩, ⟨v0, rfl⟩⟩
          case measure => simp [intOf] <;> omega
    · obtain rfl : k = q := by omega
      have HU := Lib.hid (unpack_of HR.out.2.2.1 fun j hj => HR.out.2.2.2.1 j hj)
      clear hA hB
      go_wp2
      go_ret
      exact ⟨v, svs, rfl, u.back HB.out, by rw [← HU.out]; exact HR.out.2.1.mono HB.out.size⟩
end Go.Proofs.YteboalbpgghdhaaGreat
