import Derived.Test.YteboalbpgghdhaaK8
set_option linter.unusedVariables false
set_option linter.unusedSimpArgs false
namespace Go.Proofs.Yteboalbpgghdhaa
open Go.RowKit
/-! The laws FnExactModelStates, FnExactModelInputs: their walks. -/
set_option maxHeartbeats 8000000 in
set_option maxRecDepth 8000 in
theorem FnExactModelStates_calls (mv : Value) (M : Md) (w : World) (hM : MdAt w mv M) (hnm : ∀ x, x ∈ M.nodes → x.name.size ≤ 140737488351232) (hw1 : ∀ b, b ∈ M.inits → (Lit.int .i64 b.st).wf = true) (hw2 : ∀ b, b ∈ M.nexts → (Lit.int .i64 b.st).wf = true) :
    Makes Try.prog 5 #[mv] w (.bool true) := by
  have HM := Lib.hid hM
  have HNM := Lib.hid hnm
  have HW1 := Lib.hid hw1
  have HW2 := Lib.hid hw2
  have HSZ := Lib.hid (show ∀ x ∈ M.nodes, x.name.size ≤ 281474976710656 from fun x hx => by have := hnm x hx; omega)
  obtain ⟨s0, s1, s2, s3, s4, rfl, -⟩ := hM.at_
  clear hM hnm hw1 hw2
  go_enter Try.func5, Try.ntmps5
  have HB := Lib.hid (box_below w #[s0, s1, s2, s3, s4] 42)
  have m0 := box_cell w #[s0, s1, s2, s3, s4] 42 0 _ rfl
  have m1 := box_cell w #[s0, s1, s2, s3, s4] 42 1 _ rfl
  have m2 := box_cell w #[s0, s1, s2, s3, s4] 42 2 _ rfl
  have m3 := box_cell w #[s0, s1, s2, s3, s4] 42 3 _ rfl
  have m4 := box_cell w #[s0, s1, s2, s3, s4] 42 4 _ rfl
  go_upto_region 1 with fail
  generalize w.alloc (.cells #[s0, s1, s2, s3, s4] 42) = w1 at *
  have m0 : ∀ u : Later w1, u.val.cell? ⟨w.heap.size, 0, none⟩ = some s0 := m0
  have m1 : ∀ u : Later w1, u.val.cell? ⟨w.heap.size, 1, none⟩ = some s1 := m1
  have m2 : ∀ u : Later w1, u.val.cell? ⟨w.heap.size, 2, none⟩ = some s2 := m2
  have m3 : ∀ u : Later w1, u.val.cell? ⟨w.heap.size, 3, none⟩ = some s3 := m3
  have m4 : ∀ u : Later w1, u.val.cell? ⟨w.heap.size, 4, none⟩ = some s4 := m4
  have HM1 := Lib.hid (HM.out.below HB.out)
  refine at_world (w := w1) ?_
  intro u0
  go_upto_region 3 with (go_at_call 14; refine (szModel_calls _ M _ (HM1.out.later u0) HSZ.out).mono ?_; rintro e w' ⟨r, rfl, hb, hr⟩; obtain ⟨u1, hu1⟩ := u0.step hb; subst hu1; have HL := Lib.hid hr; clear hb hr)
  by_cases hneg : r < 0
  · go_wp2
    go_ret
    exact ⟨rfl, u1.back HB.out⟩
  have HLEN := Lib.hid (show M.nodes.length ≤ 1048576 ∧ M.inits.length ≤ 1048576 ∧ M.nexts.length ≤ 1048576 ∧ M.bads.length ≤ 1048576 ∧ M.holds.length ≤ 1048576 by
    have := HL.out
    unfold LeftOf at this
    omega)
  go_upto_region 6 with (first | (go_at_call 22; refine (ModelStates_calls _ M _ HC1.out HLEN.out.1 HNM.out).mono ?_; rintro e w' ⟨v4, rfl, hb, hr, hbl⟩; obtain ⟨u3, hu3⟩ := u2.step hb; subst hu3; have HR4 := Lib.hid hr; clear hb hr hbl) | (go_at_call 16; refine (toModel_at _ M _ (HM1.out.later u1) HLEN.out.1 HLEN.out.2.1 HLEN.out.2.2.1 HLEN.out.2.2.2.1 HLEN.out.2.2.2.2).mono ?_; rintro e w' ⟨t0, t1, t2, t3, t4, rfl, hb, hc⟩; obtain ⟨u2, hu2⟩ := u1.step hb; subst hu2; have HC1 := Lib.hid hc; clear hb hc))
  go_upto_region 7 with (go_at_call 16; refine (toModel_calls _ M _ (HM1.out.later u3) HLEN.out.1 HLEN.out.2.1 HLEN.out.2.2.1 HLEN.out.2.2.2.1 HLEN.out.2.2.2.2).mono ?_; rintro e w' ⟨x0, x1, x2, x3, x4, rfl, hb, hx01, hx12, hx23, hx34, hf0, hf1, hf2, hf3, hf4⟩; have HR4' := Lib.hid (HR4.out.below hb); have HV4 := Lib.hid (show ∀ b, v4.ownBlock = some b → b < x0 from fun b hb' => Nat.lt_of_lt_of_le (HR4.out.lt hb') hf0.ge); have HX := Lib.hid (show (x0 < x1 ∧ x1 < x2 ∧ x2 < x3 ∧ x3 < x4) from ⟨hx01, hx12, hx23, hx34⟩); have HF := Lib.hid (show _ ∧ _ ∧ _ ∧ _ ∧ _ from ⟨hf0, hf1, hf2, hf3, hf4⟩); have HG := Lib.hid (show w1.heap.size ≤ x0 from Nat.le_trans u3.size hf0.ge); obtain ⟨u4, hu4⟩ := u3.step hb; subst hu4; clear hb hx01 hx12 hx23 hx34 hf0 hf1 hf2 hf3 hf4 HR4)
  have HC2 := Lib.hid (show MdAt u4.val (Value.agg #[slOf x0 M.nodes, slOf x1 M.inits, slOf x2 M.nexts, slOf x3 M.bads, slOf x4 M.holds]) M from ⟨⟨_, _, _, _, _, rfl, HF.out.1.slAt (by have := HLEN.out; omega), HF.out.2.1.slAt (by have := HLEN.out; omega), HF.out.2.2.1.slAt (by have := HLEN.out; omega), HF.out.2.2.2.1.slAt (by have := HLEN.out; omega), HF.out.2.2.2.2.slAt (by have := HLEN.out; omega)⟩⟩)
  have HB2 := Lib.hid (show LaterC w1 (u4.val.alloc (Obj.cells #[slOf x0 M.nodes, slOf x1 M.inits, slOf x2 M.nexts, slOf x3 M.bads, slOf x4 M.holds] 27)) from LaterC.alloc' ⟨u4, rfl⟩ _)
  have hba : Below u4.val.heap.size u4.val (u4.val.alloc (Obj.cells #[slOf x0 M.nodes, slOf x1 M.inits, slOf x2 M.nexts, slOf x3 M.bads, slOf x4 M.holds] 27)) := (Below.refl _ _).alloc (Nat.le_refl _) _
  have HC3 := Lib.hid (HC2.out.below hba)
  have HR5 := Lib.hid (HR4'.out.below hba)
  have HF5 := Lib.hid (show _ ∧ _ ∧ _ ∧ _ ∧ _ from ⟨HF.out.1.below hba, HF.out.2.1.below hba, HF.out.2.2.1.below hba, HF.out.2.2.2.1.below hba, HF.out.2.2.2.2.below hba⟩)
  have HX4 := Lib.hid (show x4 < u4.val.heap.size from HF.out.2.2.2.2.lt)
  clear HC2 HR4' HF hba
  have b0 := box_cell u4.val #[slOf x0 M.nodes, slOf x1 M.inits, slOf x2 M.nexts, slOf x3 M.bads, slOf x4 M.holds] 27 0 _ rfl
  have b1 := box_cell u4.val #[slOf x0 M.nodes, slOf x1 M.inits, slOf x2 M.nexts, slOf x3 M.bads, slOf x4 M.holds] 27 1 _ rfl
  have b2 := box_cell u4.val #[slOf x0 M.nodes, slOf x1 M.inits, slOf x2 M.nexts, slOf x3 M.bads, slOf x4 M.holds] 27 2 _ rfl
  have b3 := box_cell u4.val #[slOf x0 M.nodes, slOf x1 M.inits, slOf x2 M.nexts, slOf x3 M.bads, slOf x4 M.holds] 27 3 _ rfl
  have b4 := box_cell u4.val #[slOf x0 M.nodes, slOf x1 M.inits, slOf x2 M.nexts, slOf x3 M.bads, slOf x4 M.holds] 27 4 _ rfl
  have HGS := Lib.hid (show u4.val.heap.size < (u4.val.alloc (Obj.cells #[slOf x0 M.nodes, slOf x1 M.inits, slOf x2 M.nexts, slOf x3 M.bads, slOf x4 M.holds] 27)).heap.size from by show _ < (Array.push _ _).size; rw [Array.size_push]; exact Nat.lt_succ_self _)
  generalize u4.val.alloc (Obj.cells #[slOf x0 M.nodes, slOf x1 M.inits, slOf x2 M.nexts, slOf x3 M.bads, slOf x4 M.holds] 27) = w2 at *
  generalize u4.val.heap.size = G at *
  have b0 : ∀ u : Later w2, u.val.cell? ⟨G, 0, none⟩ = some (slOf x0 M.nodes) := b0
  have b1 : ∀ u : Later w2, u.val.cell? ⟨G, 1, none⟩ = some (slOf x1 M.inits) := b1
  have b2 : ∀ u : Later w2, u.val.cell? ⟨G, 2, none⟩ = some (slOf x2 M.nexts) := b2
  have b3 : ∀ u : Later w2, u.val.cell? ⟨G, 3, none⟩ = some (slOf x3 M.bads) := b3
  have b4 : ∀ u : Later w2, u.val.cell? ⟨G, 4, none⟩ = some (slOf x4 M.holds) := b4
  have n0 := Later.re m0 HB2.out
  have n1 := Later.re m1 HB2.out
  have n2 := Later.re m2 HB2.out
  have n3 := Later.re m3 HB2.out
  have n4 := Later.re m4 HB2.out
  have HM3 := Lib.hid (HM1.out.below HB2.out.below)
  refine at_world (w := w2) ?_
  intro v0
  go_upto_region 8 with (go_at_call 8; refine (ModelStates'_calls _ M _ (HC3.out.later v0) HLEN.out.1 HNM.out HW1.out HW2.out).mono ?_; rintro e w3 ⟨v6, rfl, hb, hr, hbl⟩; have HV6 := Lib.hid (show ∀ b, v6.ownBlock = some b → w2.heap.size ≤ b from fun b hb' => Nat.le_trans v0.size (hbl b hb')); have HB3 := Lib.hid (laterC_step (w1 := w2) ⟨v0, rfl⟩ hb); have HR6 := Lib.hid hr; clear hb hr hbl)
  have n0 := Later.re n0 HB3.out
  have n1 := Later.re n1 HB3.out
  have n2 := Later.re n2 HB3.out
  have n3 := Later.re n3 HB3.out
  have n4 := Later.re n4 HB3.out
  have b0 := Later.re b0 HB3.out
  have b1 := Later.re b1 HB3.out
  have b2 := Later.re b2 HB3.out
  have b3 := Later.re b3 HB3.out
  have b4 := Later.re b4 HB3.out
  have HR7 := Lib.hid (HR5.out.below HB3.out.below)
  have HF6 := Lib.hid (show _ ∧ _ ∧ _ ∧ _ ∧ _ from ⟨HF5.out.1.below HB3.out.below, HF5.out.2.1.below HB3.out.below, HF5.out.2.2.1.below HB3.out.below, HF5.out.2.2.2.1.below HB3.out.below, HF5.out.2.2.2.2.below HB3.out.below⟩)
  have HM4 := Lib.hid (HM3.out.below HB3.out.below)
  have HC4 := Lib.hid (HC3.out.below HB3.out.below)
  have HL3 := Lib.hid (HB2.out.trans HB3.out)
  clear HR5 HF5 HM3 HC3
  refine at_world (w := w3) ?_
  intro v1
  go_upto_region 10 with (go_at_call 17; refine (Calls.later (u := v1) (eqIntN_calls _ _ _ _ (HR6.out.below v1.prop).slN (HR7.out.below v1.prop).slN)).mono ?_; rintro e w' ⟨rfl, v2, rfl⟩)
  have HQL := Lib.hid (show ∀ w', LaterC w3 w' → w'.cell? ⟨w.heap.size, 0, none⟩ = some s0 ∧ w'.cell? ⟨w.heap.size, 1, none⟩ = some s1 ∧ w'.cell? ⟨w.heap.size, 2, none⟩ = some s2 ∧ w'.cell? ⟨w.heap.size, 3, none⟩ = some s3 ∧ w'.cell? ⟨w.heap.size, 4, none⟩ = some s4 ∧ w'.cell? ⟨G, 0, none⟩ = some (slOf x0 M.nodes) ∧ w'.cell? ⟨G, 1, none⟩ = some (slOf x1 M.inits) ∧ w'.cell? ⟨G, 2, none⟩ = some (slOf x2 M.nexts) ∧ w'.cell? ⟨G, 3, none⟩ = some (slOf x3 M.bads) ∧ w'.cell? ⟨G, 4, none⟩ = some (slOf x4 M.holds) from fun W h => by
    obtain ⟨v, rfl⟩ := h
    exact ⟨n0 v, n1 v, n2 v, n3 v, n4 v, b0 v, b1 v, b2 v, b3 v, b4 v⟩)
  go_region_held3 (fun w' => w'.cell? ⟨w.heap.size, 0, none⟩ = some s0 ∧ w'.cell? ⟨w.heap.size, 1, none⟩ = some s1 ∧ w'.cell? ⟨w.heap.size, 2, none⟩ = some s2 ∧ w'.cell? ⟨w.heap.size, 3, none⟩ = some s3 ∧ w'.cell? ⟨w.heap.size, 4, none⟩ = some s4 ∧ w'.cell? ⟨G, 0, none⟩ = some (slOf x0 M.nodes) ∧ w'.cell? ⟨G, 1, none⟩ = some (slOf x1 M.inits) ∧ w'.cell? ⟨G, 2, none⟩ = some (slOf x2 M.nexts) ∧ w'.cell? ⟨G, 3, none⟩ = some (slOf x3 M.bads) ∧ w'.cell? ⟨G, 4, none⟩ = some (slOf x4 M.holds)) ((refine HQL.out _ ?_; repeat (first | exact ⟨_, rfl⟩ | refine LaterC.drew' ?_ | refine LaterC.alloc' ?_ _))) (first | (go_at_call 16; refine (toModel_at _ M _ (HM4.out.below (LaterC.below (by repeat (first | exact ⟨_, rfl⟩ | refine LaterC.drew' ?_ | refine LaterC.alloc' ?_ _)))) HLEN.out.1 HLEN.out.2.1 HLEN.out.2.2.1 HLEN.out.2.2.2.1 HLEN.out.2.2.2.2).mono ?_; rintro e w' ⟨y0, y1, y2, y3, y4, rfl, hb, hc⟩; obtain ⟨v3, hv3⟩ := laterC_step (w1 := w3) (by repeat (first | exact ⟨_, rfl⟩ | refine LaterC.drew' ?_ | refine LaterC.alloc' ?_ _)) hb; subst hv3; have HC5 := Lib.hid hc; clear hb hc) | (go_at_call 18; refine (eqModel_calls _ _ M _ (HC4.out.below (LaterC.below (by repeat (first | exact ⟨_, rfl⟩ | refine LaterC.drew' ?_ | refine LaterC.alloc' ?_ _)))) (HC5.out.below (by first | exact Below.refl _ _ | exact (Below.refl _ _).drew))).mono ?_; rintro e w' ⟨rfl, hb⟩; obtain ⟨v4', hv4⟩ := laterC_step (w1 := w3) (by repeat (first | exact ⟨_, rfl⟩ | refine LaterC.drew' ?_ | refine LaterC.alloc' ?_ _)) hb; subst hv4; clear hb))
  go_upto_region 14 with (go_at_call 19; refine (markModel_calls M _ x0 x1 x2 x3 x4 HLEN.out HX.out (HF6.out.1.below v4'.prop) (HF6.out.2.1.below v4'.prop) (HF6.out.2.2.1.below v4'.prop) (HF6.out.2.2.2.1.below v4'.prop) (HF6.out.2.2.2.2.below v4'.prop)).mono ?_; rintro e w4 ⟨r2, rfl, hr2, hbut⟩; have HR2 := Lib.hid hr2; have HBUT := Lib.hid hbut; clear hr2 hbut)
  have HR6d := Lib.hid ((HR6.out.below v4'.prop).but HBUT.out (fun b hb h => by have h1 := HV6.out b hb; have h2 := HX4.out; have h3 := HGS.out; have h4 := h.2; omega))
  have HR7d := Lib.hid ((HR7.out.below v4'.prop).but HBUT.out (fun b hb h => by have h1 := HV4.out b hb; have h4 := h.1; omega))
  have HL4 := Lib.hid (show LaterC w1 w4 from .of ((HL3.out.trans ⟨v4', rfl⟩).below.trans (HBUT.out.below (fun k hk => Nat.le_trans HG.out hk.1) (HL3.out.trans ⟨v4', rfl⟩).size)))
  have hr2 := HR2.out
  clear n0 n1 n2 n3 n4 b0 b1 b2 b3 b4 HR6 HR7 HBUT HF6
  refine at_world (w := w4) ?_
  intro a0
  go_upto_region 17 with (go_at_call 17; refine (Calls.later (u := a0) (eqIntN_calls _ _ _ _ (HR6d.out.below a0.prop).slN (HR7d.out.below a0.prop).slN)).mono ?_; rintro e w' ⟨rfl, a1, rfl⟩)
  have HLL := Lib.hid (show (statesN 36 M).length ≤ 1048576 from Nat.le_trans (statesN_le _ _) HLEN.out.1)
  generalize hLL : (statesN 36 M) = LL at *
  go_upto_region 18 with (go_at_call 20; refine (markIntS_calls _ LL 1 _ (HR6d.out.below a1.prop) (by omega) (by have := HLL.out; omega)).mono ?_; rintro e w5 ⟨rfl, hbut, hr⟩; have HR8 := Lib.hid hr; have HBUT := Lib.hid hbut; clear hbut hr)
  have HR9 := Lib.hid ((HR7d.out.below a1.prop).but HBUT.out (fun b hb h => by have h1 := HV4.out b hb; have h2 := HV6.out b h; have h3 := HX4.out; have h4 := HGS.out; have h5 := HX.out; omega))
  have HL5 := Lib.hid (show LaterC w1 w5 from .of ((HL4.out.trans ⟨a1, rfl⟩).below.trans (HBUT.out.below (fun k hk => Nat.le_trans HB2.out.size (HV6.out k hk)) (HL4.out.trans ⟨a1, rfl⟩).size)))
  have k0 := Later.re m0 HL5.out
  have k1 := Later.re m1 HL5.out
  have k2 := Later.re m2 HL5.out
  have k3 := Later.re m3 HL5.out
  have k4 := Later.re m4 HL5.out
  have HM6 := Lib.hid (HM1.out.below HL5.out.below)
  have hq0 : (0 : Int) ≤ 1 + (LL.length : Int) := by omega
  generalize hq : (1 : Int) + (LL.length : Int) = q at *
  have HQ := Lib.hid hq
  clear hq HR6d HR7d HBUT m0 m1 m2 m3 m4
  refine at_world (w := w5) ?_
  intro d0
  go_upto_region 24 with (go_at_call 21; refine (Calls.later_eq (u := d0) (heldIntS_calls _ 1 LL.length _ (HR8.out.below d0.prop).slN (by omega) (by have := HLL.out; omega)) (congrArg (Value.int .i64) HQ.out)).mono ?_; rintro e w' ⟨rfl, d1, rfl⟩)
  go_upto_region 25 with (first | (go_at_call 8; refine (ModelStates'_calls _ M _ HC7.out HLEN.out.1 HNM.out HW1.out HW2.out).mono ?_; rw [hLL]; rintro e w6 ⟨v10, rfl, hb, hr, hbl⟩; have HB6 := Lib.hid (laterC_step (w1 := w5) ⟨d2, rfl⟩ hb); have HR10 := Lib.hid hr; clear hb hr hbl) | (go_at_call 16; refine (toModel_at _ M _ (HM6.out.later d1) HLEN.out.1 HLEN.out.2.1 HLEN.out.2.2.1 HLEN.out.2.2.2.1 HLEN.out.2.2.2.2).mono ?_; rintro e w' ⟨z0, z1, z2, z3, z4, rfl, hb, hc⟩; obtain ⟨d2, hd2⟩ := d1.step hb; subst hd2; have HC7 := Lib.hid hc; clear hb hc))
  have HR11 := Lib.hid (HR8.out.below HB6.out.below)
  have HR12 := Lib.hid (HR9.out.below HB6.out.below)
  refine at_world (w := w6) ?_
  intro c0
  go_upto_region 28 with (go_at_call 17; refine (Calls.later (u := c0) (eqIntN_calls _ _ _ _ (HR10.out.below c0.prop).slN (HR12.out.below c0.prop).slN)).mono ?_; rintro e w' ⟨rfl, c1, rfl⟩)
  go_wp2_with (go_at_call 21; refine (Calls.later_eq (u := c1) (heldIntS_calls _ 1 LL.length _ (HR11.out.below c1.prop).slN (by omega) (by have := HLL.out; omega)) (congrArg (Value.int .i64) HQ.out)).mono ?_; rintro e w' ⟨rfl, c2, rfl⟩)
  go_ret
  exact ⟨rfl, c2.back (below_of HB.out (HL5.out.trans HB6.out))⟩
set_option maxHeartbeats 8000000 in
set_option maxRecDepth 8000 in
theorem FnExactModelInputs_calls (mv : Value) (M : Md) (w : World) (hM : MdAt w mv M) (hnm : ∀ x, x ∈ M.nodes → x.name.size ≤ 140737488351232) (hw1 : ∀ b, b ∈ M.inits → (Lit.int .i64 b.st).wf = true) (hw2 : ∀ b, b ∈ M.nexts → (Lit.int .i64 b.st).wf = true) :
    Makes Try.prog 4 #[mv] w (.bool true) := by
  have HM := Lib.hid hM
  have HNM := Lib.hid hnm
  have HW1 := Lib.hid hw1
  have HW2 := Lib.hid hw2
  have HSZ := Lib.hid (show ∀ x ∈ M.nodes, x.name.size ≤ 281474976710656 from fun x hx => by have := hnm x hx; omega)
  obtain ⟨s0, s1, s2, s3, s4, rfl, -⟩ := hM.at_
  clear hM hnm hw1 hw2
  go_enter Try.func4, Try.ntmps4
  have HB := Lib.hid (box_below w #[s0, s1, s2, s3, s4] 42)
  have m0 := box_cell w #[s0, s1, s2, s3, s4] 42 0 _ rfl
  have m1 := box_cell w #[s0, s1, s2, s3, s4] 42 1 _ rfl
  have m2 := box_cell w #[s0, s1, s2, s3, s4] 42 2 _ rfl
  have m3 := box_cell w #[s0, s1, s2, s3, s4] 42 3 _ rfl
  have m4 := box_cell w #[s0, s1, s2, s3, s4] 42 4 _ rfl
  go_upto_region 1 with fail
  generalize w.alloc (.cells #[s0, s1, s2, s3, s4] 42) = w1 at *
  have m0 : ∀ u : Later w1, u.val.cell? ⟨w.heap.size, 0, none⟩ = some s0 := m0
  have m1 : ∀ u : Later w1, u.val.cell? ⟨w.heap.size, 1, none⟩ = some s1 := m1
  have m2 : ∀ u : Later w1, u.val.cell? ⟨w.heap.size, 2, none⟩ = some s2 := m2
  have m3 : ∀ u : Later w1, u.val.cell? ⟨w.heap.size, 3, none⟩ = some s3 := m3
  have m4 : ∀ u : Later w1, u.val.cell? ⟨w.heap.size, 4, none⟩ = some s4 := m4
  have HM1 := Lib.hid (HM.out.below HB.out)
  refine at_world (w := w1) ?_
  intro u0
  go_upto_region 3 with (go_at_call 14; refine (szModel_calls _ M _ (HM1.out.later u0) HSZ.out).mono ?_; rintro e w' ⟨r, rfl, hb, hr⟩; obtain ⟨u1, hu1⟩ := u0.step hb; subst hu1; have HL := Lib.hid hr; clear hb hr)
  by_cases hneg : r < 0
  · go_wp2
    go_ret
    exact ⟨rfl, u1.back HB.out⟩
  have HLEN := Lib.hid (show M.nodes.length ≤ 1048576 ∧ M.inits.length ≤ 1048576 ∧ M.nexts.length ≤ 1048576 ∧ M.bads.length ≤ 1048576 ∧ M.holds.length ≤ 1048576 by
    have := HL.out
    unfold LeftOf at this
    omega)
  go_upto_region 6 with (first | (go_at_call 15; refine (ModelInputs_calls _ M _ HC1.out HLEN.out.1 HNM.out).mono ?_; rintro e w' ⟨v4, rfl, hb, hr, hbl⟩; obtain ⟨u3, hu3⟩ := u2.step hb; subst hu3; have HR4 := Lib.hid hr; clear hb hr hbl) | (go_at_call 16; refine (toModel_at _ M _ (HM1.out.later u1) HLEN.out.1 HLEN.out.2.1 HLEN.out.2.2.1 HLEN.out.2.2.2.1 HLEN.out.2.2.2.2).mono ?_; rintro e w' ⟨t0, t1, t2, t3, t4, rfl, hb, hc⟩; obtain ⟨u2, hu2⟩ := u1.step hb; subst hu2; have HC1 := Lib.hid hc; clear hb hc))
  go_upto_region 7 with (go_at_call 16; refine (toModel_calls _ M _ (HM1.out.later u3) HLEN.out.1 HLEN.out.2.1 HLEN.out.2.2.1 HLEN.out.2.2.2.1 HLEN.out.2.2.2.2).mono ?_; rintro e w' ⟨x0, x1, x2, x3, x4, rfl, hb, hx01, hx12, hx23, hx34, hf0, hf1, hf2, hf3, hf4⟩; have HR4' := Lib.hid (HR4.out.below hb); have HV4 := Lib.hid (show ∀ b, v4.ownBlock = some b → b < x0 from fun b hb' => Nat.lt_of_lt_of_le (HR4.out.lt hb') hf0.ge); have HX := Lib.hid (show (x0 < x1 ∧ x1 < x2 ∧ x2 < x3 ∧ x3 < x4) from ⟨hx01, hx12, hx23, hx34⟩); have HF := Lib.hid (show _ ∧ _ ∧ _ ∧ _ ∧ _ from ⟨hf0, hf1, hf2, hf3, hf4⟩); have HG := Lib.hid (show w1.heap.size ≤ x0 from Nat.le_trans u3.size hf0.ge); obtain ⟨u4, hu4⟩ := u3.step hb; subst hu4; clear hb hx01 hx12 hx23 hx34 hf0 hf1 hf2 hf3 hf4 HR4)
  have HC2 := Lib.hid (show MdAt u4.val (Value.agg #[slOf x0 M.nodes, slOf x1 M.inits, slOf x2 M.nexts, slOf x3 M.bads, slOf x4 M.holds]) M from ⟨⟨_, _, _, _, _, rfl, HF.out.1.slAt (by have := HLEN.out; omega), HF.out.2.1.slAt (by have := HLEN.out; omega), HF.out.2.2.1.slAt (by have := HLEN.out; omega), HF.out.2.2.2.1.slAt (by have := HLEN.out; omega), HF.out.2.2.2.2.slAt (by have := HLEN.out; omega)⟩⟩)
  have HB2 := Lib.hid (show LaterC w1 (u4.val.alloc (Obj.cells #[slOf x0 M.nodes, slOf x1 M.inits, slOf x2 M.nexts, slOf x3 M.bads, slOf x4 M.holds] 27)) from LaterC.alloc' ⟨u4, rfl⟩ _)
  have hba : Below u4.val.heap.size u4.val (u4.val.alloc (Obj.cells #[slOf x0 M.nodes, slOf x1 M.inits, slOf x2 M.nexts, slOf x3 M.bads, slOf x4 M.holds] 27)) := (Below.refl _ _).alloc (Nat.le_refl _) _
  have HC3 := Lib.hid (HC2.out.below hba)
  have HR5 := Lib.hid (HR4'.out.below hba)
  have HF5 := Lib.hid (show _ ∧ _ ∧ _ ∧ _ ∧ _ from ⟨HF.out.1.below hba, HF.out.2.1.below hba, HF.out.2.2.1.below hba, HF.out.2.2.2.1.below hba, HF.out.2.2.2.2.below hba⟩)
  have HX4 := Lib.hid (show x4 < u4.val.heap.size from HF.out.2.2.2.2.lt)
  clear HC2 HR4' HF hba
  have b0 := box_cell u4.val #[slOf x0 M.nodes, slOf x1 M.inits, slOf x2 M.nexts, slOf x3 M.bads, slOf x4 M.holds] 27 0 _ rfl
  have b1 := box_cell u4.val #[slOf x0 M.nodes, slOf x1 M.inits, slOf x2 M.nexts, slOf x3 M.bads, slOf x4 M.holds] 27 1 _ rfl
  have b2 := box_cell u4.val #[slOf x0 M.nodes, slOf x1 M.inits, slOf x2 M.nexts, slOf x3 M.bads, slOf x4 M.holds] 27 2 _ rfl
  have b3 := box_cell u4.val #[slOf x0 M.nodes, slOf x1 M.inits, slOf x2 M.nexts, slOf x3 M.bads, slOf x4 M.holds] 27 3 _ rfl
  have b4 := box_cell u4.val #[slOf x0 M.nodes, slOf x1 M.inits, slOf x2 M.nexts, slOf x3 M.bads, slOf x4 M.holds] 27 4 _ rfl
  have HGS := Lib.hid (show u4.val.heap.size < (u4.val.alloc (Obj.cells #[slOf x0 M.nodes, slOf x1 M.inits, slOf x2 M.nexts, slOf x3 M.bads, slOf x4 M.holds] 27)).heap.size from by show _ < (Array.push _ _).size; rw [Array.size_push]; exact Nat.lt_succ_self _)
  generalize u4.val.alloc (Obj.cells #[slOf x0 M.nodes, slOf x1 M.inits, slOf x2 M.nexts, slOf x3 M.bads, slOf x4 M.holds] 27) = w2 at *
  generalize u4.val.heap.size = G at *
  have b0 : ∀ u : Later w2, u.val.cell? ⟨G, 0, none⟩ = some (slOf x0 M.nodes) := b0
  have b1 : ∀ u : Later w2, u.val.cell? ⟨G, 1, none⟩ = some (slOf x1 M.inits) := b1
  have b2 : ∀ u : Later w2, u.val.cell? ⟨G, 2, none⟩ = some (slOf x2 M.nexts) := b2
  have b3 : ∀ u : Later w2, u.val.cell? ⟨G, 3, none⟩ = some (slOf x3 M.bads) := b3
  have b4 : ∀ u : Later w2, u.val.cell? ⟨G, 4, none⟩ = some (slOf x4 M.holds) := b4
  have n0 := Later.re m0 HB2.out
  have n1 := Later.re m1 HB2.out
  have n2 := Later.re m2 HB2.out
  have n3 := Later.re m3 HB2.out
  have n4 := Later.re m4 HB2.out
  have HM3 := Lib.hid (HM1.out.below HB2.out.below)
  refine at_world (w := w2) ?_
  intro v0
  go_upto_region 8 with (go_at_call 9; refine (ModelInputs'_calls _ M _ (HC3.out.later v0) HLEN.out.1 HNM.out HW1.out HW2.out).mono ?_; rintro e w3 ⟨v6, rfl, hb, hr, hbl⟩; have HV6 := Lib.hid (show ∀ b, v6.ownBlock = some b → w2.heap.size ≤ b from fun b hb' => Nat.le_trans v0.size (hbl b hb')); have HB3 := Lib.hid (laterC_step (w1 := w2) ⟨v0, rfl⟩ hb); have HR6 := Lib.hid hr; clear hb hr hbl)
  have n0 := Later.re n0 HB3.out
  have n1 := Later.re n1 HB3.out
  have n2 := Later.re n2 HB3.out
  have n3 := Later.re n3 HB3.out
  have n4 := Later.re n4 HB3.out
  have b0 := Later.re b0 HB3.out
  have b1 := Later.re b1 HB3.out
  have b2 := Later.re b2 HB3.out
  have b3 := Later.re b3 HB3.out
  have b4 := Later.re b4 HB3.out
  have HR7 := Lib.hid (HR5.out.below HB3.out.below)
  have HF6 := Lib.hid (show _ ∧ _ ∧ _ ∧ _ ∧ _ from ⟨HF5.out.1.below HB3.out.below, HF5.out.2.1.below HB3.out.below, HF5.out.2.2.1.below HB3.out.below, HF5.out.2.2.2.1.below HB3.out.below, HF5.out.2.2.2.2.below HB3.out.below⟩)
  have HM4 := Lib.hid (HM3.out.below HB3.out.below)
  have HC4 := Lib.hid (HC3.out.below HB3.out.below)
  have HL3 := Lib.hid (HB2.out.trans HB3.out)
  clear HR5 HF5 HM3 HC3
  refine at_world (w := w3) ?_
  intro v1
  go_upto_region 10 with (go_at_call 17; refine (Calls.later (u := v1) (eqIntN_calls _ _ _ _ (HR6.out.below v1.prop).slN (HR7.out.below v1.prop).slN)).mono ?_; rintro e w' ⟨rfl, v2, rfl⟩)
  have HQL := Lib.hid (show ∀ w', LaterC w3 w' → w'.cell? ⟨w.heap.size, 0, none⟩ = some s0 ∧ w'.cell? ⟨w.heap.size, 1, none⟩ = some s1 ∧ w'.cell? ⟨w.heap.size, 2, none⟩ = some s2 ∧ w'.cell? ⟨w.heap.size, 3, none⟩ = some s3 ∧ w'.cell? ⟨w.heap.size, 4, none⟩ = some s4 ∧ w'.cell? ⟨G, 0, none⟩ = some (slOf x0 M.nodes) ∧ w'.cell? ⟨G, 1, none⟩ = some (slOf x1 M.inits) ∧ w'.cell? ⟨G, 2, none⟩ = some (slOf x2 M.nexts) ∧ w'.cell? ⟨G, 3, none⟩ = some (slOf x3 M.bads) ∧ w'.cell? ⟨G, 4, none⟩ = some (slOf x4 M.holds) from fun W h => by
    obtain ⟨v, rfl⟩ := h
    exact ⟨n0 v, n1 v, n2 v, n3 v, n4 v, b0 v, b1 v, b2 v, b3 v, b4 v⟩)
  go_region_held3 (fun w' => w'.cell? ⟨w.heap.size, 0, none⟩ = some s0 ∧ w'.cell? ⟨w.heap.size, 1, none⟩ = some s1 ∧ w'.cell? ⟨w.heap.size, 2, none⟩ = some s2 ∧ w'.cell? ⟨w.heap.size, 3, none⟩ = some s3 ∧ w'.cell? ⟨w.heap.size, 4, none⟩ = some s4 ∧ w'.cell? ⟨G, 0, none⟩ = some (slOf x0 M.nodes) ∧ w'.cell? ⟨G, 1, none⟩ = some (slOf x1 M.inits) ∧ w'.cell? ⟨G, 2, none⟩ = some (slOf x2 M.nexts) ∧ w'.cell? ⟨G, 3, none⟩ = some (slOf x3 M.bads) ∧ w'.cell? ⟨G, 4, none⟩ = some (slOf x4 M.holds)) ((refine HQL.out _ ?_; repeat (first | exact ⟨_, rfl⟩ | refine LaterC.drew' ?_ | refine LaterC.alloc' ?_ _))) (first | (go_at_call 16; refine (toModel_at _ M _ (HM4.out.below (LaterC.below (by repeat (first | exact ⟨_, rfl⟩ | refine LaterC.drew' ?_ | refine LaterC.alloc' ?_ _)))) HLEN.out.1 HLEN.out.2.1 HLEN.out.2.2.1 HLEN.out.2.2.2.1 HLEN.out.2.2.2.2).mono ?_; rintro e w' ⟨y0, y1, y2, y3, y4, rfl, hb, hc⟩; obtain ⟨v3, hv3⟩ := laterC_step (w1 := w3) (by repeat (first | exact ⟨_, rfl⟩ | refine LaterC.drew' ?_ | refine LaterC.alloc' ?_ _)) hb; subst hv3; have HC5 := Lib.hid hc; clear hb hc) | (go_at_call 18; refine (eqModel_calls _ _ M _ (HC4.out.below (LaterC.below (by repeat (first | exact ⟨_, rfl⟩ | refine LaterC.drew' ?_ | refine LaterC.alloc' ?_ _)))) (HC5.out.below (by first | exact Below.refl _ _ | exact (Below.refl _ _).drew))).mono ?_; rintro e w' ⟨rfl, hb⟩; obtain ⟨v4', hv4⟩ := laterC_step (w1 := w3) (by repeat (first | exact ⟨_, rfl⟩ | refine LaterC.drew' ?_ | refine LaterC.alloc' ?_ _)) hb; subst hv4; clear hb))
  go_upto_region 14 with (go_at_call 19; refine (markModel_calls M _ x0 x1 x2 x3 x4 HLEN.out HX.out (HF6.out.1.below v4'.prop) (HF6.out.2.1.below v4'.prop) (HF6.out.2.2.1.below v4'.prop) (HF6.out.2.2.2.1.below v4'.prop) (HF6.out.2.2.2.2.below v4'.prop)).mono ?_; rintro e w4 ⟨r2, rfl, hr2, hbut⟩; have HR2 := Lib.hid hr2; have HBUT := Lib.hid hbut; clear hr2 hbut)
  have HR6d := Lib.hid ((HR6.out.below v4'.prop).but HBUT.out (fun b hb h => by have h1 := HV6.out b hb; have h2 := HX4.out; have h3 := HGS.out; have h4 := h.2; omega))
  have HR7d := Lib.hid ((HR7.out.below v4'.prop).but HBUT.out (fun b hb h => by have h1 := HV4.out b hb; have h4 := h.1; omega))
  have HL4 := Lib.hid (show LaterC w1 w4 from .of ((HL3.out.trans ⟨v4', rfl⟩).below.trans (HBUT.out.below (fun k hk => Nat.le_trans HG.out hk.1) (HL3.out.trans ⟨v4', rfl⟩).size)))
  have hr2 := HR2.out
  clear n0 n1 n2 n3 n4 b0 b1 b2 b3 b4 HR6 HR7 HBUT HF6
  refine at_world (w := w4) ?_
  intro a0
  go_upto_region 17 with (go_at_call 17; refine (Calls.later (u := a0) (eqIntN_calls _ _ _ _ (HR6d.out.below a0.prop).slN (HR7d.out.below a0.prop).slN)).mono ?_; rintro e w' ⟨rfl, a1, rfl⟩)
  have HLL := Lib.hid (show (statesN 35 M).length ≤ 1048576 from Nat.le_trans (statesN_le _ _) HLEN.out.1)
  generalize hLL : (statesN 35 M) = LL at *
  go_upto_region 18 with (go_at_call 20; refine (markIntS_calls _ LL 1 _ (HR6d.out.below a1.prop) (by omega) (by have := HLL.out; omega)).mono ?_; rintro e w5 ⟨rfl, hbut, hr⟩; have HR8 := Lib.hid hr; have HBUT := Lib.hid hbut; clear hbut hr)
  have HR9 := Lib.hid ((HR7d.out.below a1.prop).but HBUT.out (fun b hb h => by have h1 := HV4.out b hb; have h2 := HV6.out b h; have h3 := HX4.out; have h4 := HGS.out; have h5 := HX.out; omega))
  have HL5 := Lib.hid (show LaterC w1 w5 from .of ((HL4.out.trans ⟨a1, rfl⟩).below.trans (HBUT.out.below (fun k hk => Nat.le_trans HB2.out.size (HV6.out k hk)) (HL4.out.trans ⟨a1, rfl⟩).size)))
  have k0 := Later.re m0 HL5.out
  have k1 := Later.re m1 HL5.out
  have k2 := Later.re m2 HL5.out
  have k3 := Later.re m3 HL5.out
  have k4 := Later.re m4 HL5.out
  have HM6 := Lib.hid (HM1.out.below HL5.out.below)
  have hq0 : (0 : Int) ≤ 1 + (LL.length : Int) := by omega
  generalize hq : (1 : Int) + (LL.length : Int) = q at *
  have HQ := Lib.hid hq
  clear hq HR6d HR7d HBUT m0 m1 m2 m3 m4
  refine at_world (w := w5) ?_
  intro d0
  go_upto_region 24 with (go_at_call 21; refine (Calls.later_eq (u := d0) (heldIntS_calls _ 1 LL.length _ (HR8.out.below d0.prop).slN (by omega) (by have := HLL.out; omega)) (congrArg (Value.int .i64) HQ.out)).mono ?_; rintro e w' ⟨rfl, d1, rfl⟩)
  go_upto_region 25 with (first | (go_at_call 9; refine (ModelInputs'_calls _ M _ HC7.out HLEN.out.1 HNM.out HW1.out HW2.out).mono ?_; rw [hLL]; rintro e w6 ⟨v10, rfl, hb, hr, hbl⟩; have HB6 := Lib.hid (laterC_step (w1 := w5) ⟨d2, rfl⟩ hb); have HR10 := Lib.hid hr; clear hb hr hbl) | (go_at_call 16; refine (toModel_at _ M _ (HM6.out.later d1) HLEN.out.1 HLEN.out.2.1 HLEN.out.2.2.1 HLEN.out.2.2.2.1 HLEN.out.2.2.2.2).mono ?_; rintro e w' ⟨z0, z1, z2, z3, z4, rfl, hb, hc⟩; obtain ⟨d2, hd2⟩ := d1.step hb; subst hd2; have HC7 := Lib.hid hc; clear hb hc))
  have HR11 := Lib.hid (HR8.out.below HB6.out.below)
  have HR12 := Lib.hid (HR9.out.below HB6.out.below)
  refine at_world (w := w6) ?_
  intro c0
  go_upto_region 28 with (go_at_call 17; refine (Calls.later (u := c0) (eqIntN_calls _ _ _ _ (HR10.out.below c0.prop).slN (HR12.out.below c0.prop).slN)).mono ?_; rintro e w' ⟨rfl, c1, rfl⟩)
  go_wp2_with (go_at_call 21; refine (Calls.later_eq (u := c1) (heldIntS_calls _ 1 LL.length _ (HR11.out.below c1.prop).slN (by omega) (by have := HLL.out; omega)) (congrArg (Value.int .i64) HQ.out)).mono ?_; rintro e w' ⟨rfl, c2, rfl⟩)
  go_ret
  exact ⟨rfl, c2.back (below_of HB.out (HL5.out.trans HB6.out))⟩
end Go.Proofs.Yteboalbpgghdhaa
