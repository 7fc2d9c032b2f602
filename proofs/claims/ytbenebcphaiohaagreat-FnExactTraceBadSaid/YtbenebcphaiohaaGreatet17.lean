import Derived.Test.YtbenebcphaiohaaGreatet15
import Derived.Test.YtbenebcphaiohaaGreatet13
import Derived.Test.YtbenebcphaiohaaGreatet14
import Derived.Test.YtbenebcphaiohaaGreatet7
import Derived.Deep.RegionHeld3
set_option linter.unusedVariables false
set_option linter.unusedSimpArgs false
set_option maxRecDepth 8000
set_option maxHeartbeats 16000000
namespace Go.Proofs.YtbenebcphaiohaaGreat
open Go.RowKit
theorem TraceBad'_calls (mv tv : Value) (M : Md) (Ss Is : List Int) (w : World) (hM : MdAt w mv M) (hT : TrAt w tv Ss Is) (hsz : M.nodes.length ≤ 1048576) (hnm : ∀ x, x ∈ M.nodes → x.name.size ≤ 140737488351232) (hw1 : ∀ b, b ∈ M.inits → (Lit.int .i64 b.st).wf = true) (hw2 : ∀ b, b ∈ M.nexts → (Lit.int .i64 b.st).wf = true) :
 Makes Tryz.prog 62 #[mv, tv] w (.int .i64 (traceB M Ss Is)) := by
 obtain ⟨R, hR⟩ : ∃ R, traceB M Ss Is = R := ⟨_, rfl⟩
 rw [hR]
 unfold traceB at hR
 have HLK := Lib.hid (show lastK M Ss Is = badK M (mS M Ss (Ss.length - 1)) (mI M Is (Ss.length - 1)) from rfl)
 obtain ⟨tc, htc⟩ : ∃ tc, traceN M Ss Is = tc := ⟨_, rfl⟩
 have HTC := Lib.hid htc
 have HM := Lib.hid hM
 have HNM := Lib.hid hnm
 have HSZ := Lib.hid hsz
 have HT := Lib.hid hT
 have HW1 := Lib.hid hw1
 have HW2 := Lib.hid hw2
 clear hw1 hw2
 obtain ⟨s0, s1, s2, s3, s4, rfl, -, h1s, h2s, -, -⟩ := hM.at_
 have HS1 := Lib.hid h1s
 have HS2 := Lib.hid h2s
 obtain ⟨t0, t1, rfl, ht0, ht1⟩ := hT
 obtain ⟨A0, c0, rfl, hnc0, hn0, hA0⟩ := ht0
 obtain ⟨A1, c1, rfl, hnc1, hn1, hA1⟩ := ht1
 clear hM hnm hsz h1s h2s hnc0 hnc1
 generalize hn : Ss.length = n at *
 have HN := Lib.hid hn
 generalize hm : Is.length = n1 at *
 have HI := Lib.hid hm
 clear hn hm
 go_enter Tryz.func62, Tryz.ntmps62
 go_upto_region 1 with fail
 obtain ⟨w2, hw2, HB, m0, m1, m2, m3, m4, m5, m6⟩ := boxes2 27 68 s0 s1 s2 s3 s4 (.slice A0 n c0) (.slice A1 n1 c1) w
 rw [hw2]
 clear hw2
 have HM1 := Lib.hid (HM.out.below HB.out)
 have HT1 := Lib.hid (HT.out.below HB.out)
 have HB1 := Lib.hid (HS1.out.below HB.out)
 have HB2 := Lib.hid (HS2.out.below HB.out)
 refine at_world (w := w2) ?_
 intro u0
 by_cases h0 : tc = 0
 · subst h0
   rw [if_pos htc] at hR
   have HSH := Lib.hid (shaped_of (trace_zero htc))
   have hn0 : 1 ≤ n := by have h1 := HN.out; have h2 := HSH.out.lo; omega
   have hn3 : n ≤ 301 := by have h1 := HN.out; have h2 := HSH.out.hi; omega
   have hnn : n1 = n := by have h1 := HN.out; have h2 := HSH.out.eq; have h3 := HI.out; omega
   subst hnn
   have hcode := HSH.out.code
   have HNB := Lib.hid (codeN_parts hcode).2.1
   obtain ⟨kk, hkk⟩ : ∃ kk, kk = n1 - 1 := ⟨_, rfl⟩
   have hlk := HLK.out.symm.trans hR
   rw [← hkk] at hlk
   unfold mS mI at hlk
   have hkk1 : kk < n1 := by omega
   have hkk2 : (kk : Int) < (n1 : Int) := by omega
   have hsub : (n1 : Int) - 1 = (kk : Int) := by omega
   have hsub2 : IntKind.i64.wrap ((n1 : Int) - 1) = (kk : Int) := by rw [hsub, IntKind.wrap_i64]; omega
   have HL6 := Lib.hid (show (placesN 36 M.nodes M.nodes.length).length ≤ 1048576 from Nat.le_trans (placesN_le _ _ _) HSZ.out)
   have HL5 := Lib.hid (show (placesN 35 M.nodes M.nodes.length).length ≤ 1048576 from Nat.le_trans (placesN_le _ _ _) HSZ.out)
   have HK6 := Lib.hid (bits8_of (kind := 36) (.inl rfl) HSH.out.code)
   have HK5 := Lib.hid (bits8_of (kind := 35) (.inr rfl) HSH.out.code)
   obtain ⟨b0, o0, rfl, hx⟩ := hA0 kk _ (getD_at (show kk < Ss.length by rw [HN.out]; exact hkk1) 0)
   obtain ⟨b1, o1, rfl, hy⟩ := hA1 kk _ (getD_at (show kk < Is.length by rw [HI.out]; exact hkk1) 0)
   have HRX := HSH.out.s kk (by rw [HN.out]; exact hkk1)
   have HRY := HSH.out.i kk (by rw [HN.out]; exact hkk1)
   have p0 : ∀ l : Later w2, l.val.cell? ⟨b0, o0 + kk, none⟩ = some (.int .i64 (Ss.getD kk 0)) := hx.int HB.out
   have p1 : ∀ l : Later w2, l.val.cell? ⟨b1, o1 + kk, none⟩ = some (.int .i64 (Is.getD kk 0)) := hy.int HB.out
   clear hx hy hA0 hA1
   generalize Ss.getD kk 0 = x at *
   generalize Is.getD kk 0 = y at *
   have HRX := Lib.hid HRX
   have HRY := Lib.hid HRY
   have HFS := Lib.hid (unpack_fits M.nodes (placesN 36 M.nodes M.nodes.length) x)
   have HFI := Lib.hid (unpack_fits M.nodes (placesN 35 M.nodes M.nodes.length) y)
   have HON := Lib.hid (eval_one (both_of hcode x y)).2.2.2.2.2
   have HBD := Lib.hid (show firstN (isB (evalL M (stK 36 M x) (stK 35 M y))) M.bads = R by
    rw [← hlk]
    unfold badK
    rw [if_pos (both_of hcode x y)])
   clear htc hR hcode hlk hkk
   go_upto_region 4 with (go_at_call 60; refine (Calls.later_eq (u := u0) (TraceCode'_calls _ _ M Ss Is _ (HM1.out.later u0) (HT1.out.later u0) HSZ.out HNM.out HW1.out HW2.out) (congrArg (Value.int .i64) HTC.out)).mono ?_; rintro e w' ⟨rfl, u1, rfl⟩)
   go_region_held3 (fun w' => w'.cell? ⟨w.heap.size, 0, none⟩ = some s0 ∧ w'.cell? ⟨w.heap.size, 1, none⟩ = some s1 ∧ w'.cell? ⟨w.heap.size, 2, none⟩ = some s2 ∧ w'.cell? ⟨w.heap.size, 3, none⟩ = some s3 ∧ w'.cell? ⟨w.heap.size, 4, none⟩ = some s4 ∧ w'.cell? ⟨w.heap.size + 1, 0, none⟩ = some (.slice (some ⟨b0, o0, none⟩) n1 c0) ∧ w'.cell? ⟨w.heap.size + 1, 1, none⟩ = some (.slice (some ⟨b1, o1, none⟩) n1 c1) ∧ w'.cell? ⟨b0, o0 + kk, none⟩ = some (.int .i64 x) ∧ w'.cell? ⟨b1, o1 + kk, none⟩ = some (.int .i64 y)) (exact ⟨lf m0, lf m1, lf m2, lf m3, lf m4, lf m5, lf m6, lf p0, lf p1⟩) (first | (go_at_call 127; (with_reducible refine (places_calls _ M 36 _ (HM1.out.below (lcb (w1 := w2))) HSZ.out).mono ?_); rintro e w' ⟨pv6, rfl, hb, hown⟩; (first | (have HO6 := Lib.hid (HO6.out.below hb)) | skip); (first | (have HO5 := Lib.hid (HO5.out.below hb)) | skip); (first | (have HV1 := Lib.hid (HV1.out.below hb)) | skip); (first | (have HV2 := Lib.hid (HV2.out.below hb)) | skip); (first | (have HEV := Lib.hid (HEV.out.below hb)) | skip); (first | (have HMO := Lib.hid (HMO.out.below hb)) | skip); have HO6 := Lib.hid (places_slN hown HSZ.out); clear hown; obtain ⟨vp6, hvp6⟩ := laterC_step (w1 := w2) lcx hb; subst hvp6; clear hb) | (go_at_call 127; (with_reducible refine (places_calls _ M 35 _ (HM1.out.below (lcb (w1 := w2))) HSZ.out).mono ?_); rintro e w' ⟨pv5, rfl, hb, hown⟩; (first | (have HO6 := Lib.hid (HO6.out.below hb)) | skip); (first | (have HO5 := Lib.hid (HO5.out.below hb)) | skip); (first | (have HV1 := Lib.hid (HV1.out.below hb)) | skip); (first | (have HV2 := Lib.hid (HV2.out.below hb)) | skip); (first | (have HEV := Lib.hid (HEV.out.below hb)) | skip); (first | (have HMO := Lib.hid (HMO.out.below hb)) | skip); have HO5 := Lib.hid (places_slN hown HSZ.out); clear hown; obtain ⟨vp5, hvp5⟩ := laterC_step (w1 := w2) lcx hb; subst hvp5; clear hb) | (go_at_call 128; (with_reducible refine (of_calls _ pv6 M (placesN 36 M.nodes M.nodes.length) x _ (HM1.out.below (lcb (w1 := w2))) HO6.out (placesN_InN _ _) HL6.out HK6.out HRX.out.1 HRX.out.2).mono ?_); rintro e w' ⟨uv6, us6, rfl, hb, hac⟩; (first | (have HO6 := Lib.hid (HO6.out.below hb)) | skip); (first | (have HO5 := Lib.hid (HO5.out.below hb)) | skip); (first | (have HV1 := Lib.hid (HV1.out.below hb)) | skip); (first | (have HV2 := Lib.hid (HV2.out.below hb)) | skip); (first | (have HEV := Lib.hid (HEV.out.below hb)) | skip); (first | (have HMO := Lib.hid (HMO.out.below hb)) | skip); have HV1 := Lib.hid hac.vlAt; clear hac; obtain ⟨vu6, hvu6⟩ := laterC_step (w1 := w2) lcx hb; subst hvu6; clear hb) | (go_at_call 128; (with_reducible refine (of_calls _ pv5 M (placesN 35 M.nodes M.nodes.length) y _ (HM1.out.below (lcb (w1 := w2))) HO5.out (placesN_InN _ _) HL5.out HK5.out HRY.out.1 HRY.out.2).mono ?_); rintro e w' ⟨uv5, us5, rfl, hb, hac⟩; (first | (have HO6 := Lib.hid (HO6.out.below hb)) | skip); (first | (have HO5 := Lib.hid (HO5.out.below hb)) | skip); (first | (have HV1 := Lib.hid (HV1.out.below hb)) | skip); (first | (have HV2 := Lib.hid (HV2.out.below hb)) | skip); (first | (have HEV := Lib.hid (HEV.out.below hb)) | skip); (first | (have HMO := Lib.hid (HMO.out.below hb)) | skip); have HV2 := Lib.hid hac.vlAt; clear hac; obtain ⟨vu5, hvu5⟩ := laterC_step (w1 := w2) lcx hb; subst hvu5; clear hb) | (go_at_call 73; refine (eval_calls _ uv6 uv5 M (stK 36 M x) (stK 35 M y) _ (HM1.out.below (lcb (w1 := w2))) HV1.out HV2.out HNB.out HFS.out HFI.out HSZ.out).mono ?_; rintro e w' ⟨ev, rfl, hb, hev⟩; (first | (have HO6 := Lib.hid (HO6.out.below hb)) | skip); (first | (have HO5 := Lib.hid (HO5.out.below hb)) | skip); (first | (have HV1 := Lib.hid (HV1.out.below hb)) | skip); (first | (have HV2 := Lib.hid (HV2.out.below hb)) | skip); (first | (have HEV := Lib.hid (HEV.out.below hb)) | skip); (first | (have HMO := Lib.hid (HMO.out.below hb)) | skip); have HEV := Lib.hid hev; obtain ⟨eA, ec, rfl, -⟩ := id hev; clear hev; obtain ⟨ve, hve⟩ := laterC_step (w1 := w2) lcx hb; subst hve; clear hb) | (go_at_call 114; refine (bad'_calls _ _ M (evalL M (stK 36 M x) (stK 35 M y)) _ (HM1.out.below (lcb (w1 := w2))) HEV.out HON.out).mono ?_; rintro e w' ⟨rfl, hb⟩; rw [HBD.out]; obtain ⟨vb, hvb⟩ := laterC_step (w1 := w2) lcx hb; subst hvb; clear hb))
   all_goals go_wp2
   all_goals go_ret
   all_goals exact ⟨rfl, vb.back HB.out⟩
 · rw [if_neg (by rw [htc]; exact h0)] at hR
   have HR := Lib.hid hR.symm
   have hne : (tc != 0) = true := by simpa using h0
   clear htc hR hA0 hA1
   go_wp2_with (go_at_call 60; refine (Calls.later_eq (u := u0) (TraceCode'_calls _ _ M Ss Is _ (HM1.out.later u0) (HT1.out.later u0) HSZ.out HNM.out HW1.out HW2.out) (congrArg (Value.int .i64) HTC.out)).mono ?_; rintro e w' ⟨rfl, u1, rfl⟩)
   go_ret
   exact ⟨ret_eq (congrArg (Value.int .i64) HR.out.symm), u1.back HB.out⟩
theorem FnExactTraceBad_calls (mv tv : Value) (M : Md) (Ss Is : List Int) (w : World) (hM : MdAt w mv M) (hT : TrAt w tv Ss Is) (hnm : ∀ x, x ∈ M.nodes → x.name.size ≤ 140737488351232) (hw1 : ∀ b, b ∈ M.inits → (Lit.int .i64 b.st).wf = true) (hw2 : ∀ b, b ∈ M.nexts → (Lit.int .i64 b.st).wf = true) :
 Makes Tryz.prog 14 #[mv, tv] w (.bool true) := by
 have HM := Lib.hid hM
 have HT := Lib.hid hT
 have HNM := Lib.hid hnm
 have HW1 := Lib.hid hw1
 have HW2 := Lib.hid hw2
 have HSZ := Lib.hid (show ∀ x ∈ M.nodes, x.name.size ≤ 281474976710656 from fun x hx => by have := hnm x hx; omega)
 obtain ⟨s0, s1, s2, s3, s4, rfl, -⟩ := hM.at_
 obtain ⟨t0, t1, rfl, -⟩ := hT
 clear hM hnm hw1 hw2
 obtain ⟨R, hR⟩ : ∃ R, traceB M Ss Is = R := ⟨_, rfl⟩
 have ER := Lib.hid hR
 clear hR
 go_enter Tryz.func14, Tryz.ntmps14
 go_upto_region 1 with fail
 obtain ⟨w2, hw2, HB, m0, m1, m2, m3, m4, m5, m6⟩ := boxes2 47 84 s0 s1 s2 s3 s4 t0 t1 w
 rw [hw2]
 clear hw2
 have HM1 := Lib.hid (HM.out.below HB.out)
 have HT1 := Lib.hid (HT.out.below HB.out)
 refine at_world (w := w2) ?_
 intro u0
 go_upto_region 3 with (go_at_call 22; refine (szModel_calls _ M _ (HM1.out.later u0) HSZ.out).mono ?_; rintro e w' ⟨r, rfl, hb, hr⟩; obtain ⟨u1, hu1⟩ := u0.step hb; subst hu1; have HL := Lib.hid hr; clear hb hr)
 by_cases hneg : r < 0
 · go_wp2
   go_ret
   exact ⟨rfl, u1.back HB.out⟩
 have HLEN := Lib.hid (show M.nodes.length ≤ 1048576 ∧ M.inits.length ≤ 1048576 ∧ M.nexts.length ≤ 1048576 ∧ M.bads.length ≤ 1048576 ∧ M.holds.length ≤ 1048576 by
  have := HL.out
  unfold LeftOf at this
  omega)
 have hr0 : r ≤ 1048576 := by
  have := HL.out
  unfold LeftOf at this
  omega
 go_upto_region 6 with (go_at_call 57; refine (szTrace_calls _ Ss Is r _ (HT1.out.later u1) (by omega) (by omega)).mono ?_; rintro e w' ⟨q, rfl, hb, hr⟩; obtain ⟨u2, hu2⟩ := u1.step hb; subst hu2; have HQ := Lib.hid hr; clear hb hr)
 by_cases hneg2 : q < 0
 · go_wp2
   go_ret
   exact ⟨rfl, u2.back HB.out⟩
 have HTL := Lib.hid (show Ss.length ≤ 1048576 ∧ Is.length ≤ 1048576 by
  have := HQ.out
  omega)
 clear HL HQ
 go_upto_region 8 with fail
 go_region_held3 (fun w' => w'.cell? ⟨w.heap.size, 0, none⟩ = some s0 ∧ w'.cell? ⟨w.heap.size, 1, none⟩ = some s1 ∧ w'.cell? ⟨w.heap.size, 2, none⟩ = some s2 ∧ w'.cell? ⟨w.heap.size, 3, none⟩ = some s3 ∧ w'.cell? ⟨w.heap.size, 4, none⟩ = some s4 ∧ w'.cell? ⟨w.heap.size + 1, 0, none⟩ = some t0 ∧ w'.cell? ⟨w.heap.size + 1, 1, none⟩ = some t1) (exact ⟨lf m0, lf m1, lf m2, lf m3, lf m4, lf m5, lf m6⟩) (first | (go_at_call 24; refine (toModel_at _ M _ (HM1.out.below (lcb (w1 := w2))) HLEN.out.1 HLEN.out.2.1 HLEN.out.2.2.1 HLEN.out.2.2.2.1 HLEN.out.2.2.2.2).mono ?_; rintro e w' ⟨y0, y1, y2, y3, y4, rfl, hb, hc⟩; (first | (have HTR := Lib.hid (HTR.out.below hb)) | skip); (first | (have HMD := Lib.hid (HMD.out.below hb)) | skip); have HMD := Lib.hid hc; clear hc; obtain ⟨v1, hv1⟩ := laterC_step (w1 := w2) lcx hb; subst hv1; clear hb) | (go_at_call 59; refine (toTrace_at _ Ss Is _ (HT1.out.below (lcb (w1 := w2))) HTL.out.1 HTL.out.2).mono ?_; rintro e w' ⟨h0, h1, rfl, hb, hc⟩; (first | (have HTR := Lib.hid (HTR.out.below hb)) | skip); (first | (have HMD := Lib.hid (HMD.out.below hb)) | skip); have HTR := Lib.hid hc; clear hc; obtain ⟨v2, hv2⟩ := laterC_step (w1 := w2) lcx hb; subst hv2; clear hb) | (go_at_call 61; refine (TraceBad_calls _ _ M Ss Is _ HMD.out HTR.out HLEN.out.1 HNM.out).mono ?_; rintro e w' ⟨rfl, hb⟩; rw [ER.out]; obtain ⟨u3, hu3⟩ := laterC_step (w1 := w2) lcx hb; subst hu3; clear hb))
 clear HMD HTR
 go_upto_region 10 with (go_at_call 24; refine (toModel_at _ M _ (HM1.out.later u3) HLEN.out.1 HLEN.out.2.1 HLEN.out.2.2.1 HLEN.out.2.2.2.1 HLEN.out.2.2.2.2).mono ?_; rintro e w' ⟨x0, x1, x2, x3, x4, rfl, hb, hc⟩; obtain ⟨e1, he⟩ := u3.step hb; subst he; have HMD := Lib.hid hc; clear hb hc)
 have HL3 : LaterC w2 (e1.val.alloc (Obj.cells #[slOf x0 M.nodes, slOf x1 M.inits, slOf x2 M.nexts, slOf x3 M.bads, slOf x4 M.holds] 27)) := LaterC.alloc' ⟨e1, rfl⟩ _
 have HMD := Lib.hid (HMD.out.below (show Below e1.val.heap.size e1.val (e1.val.alloc (Obj.cells #[slOf x0 M.nodes, slOf x1 M.inits, slOf x2 M.nexts, slOf x3 M.bads, slOf x4 M.holds] 27)) from (Below.refl _ _).alloc (Nat.le_refl _) _))
 have b0 := box_cell e1.val #[slOf x0 M.nodes, slOf x1 M.inits, slOf x2 M.nexts, slOf x3 M.bads, slOf x4 M.holds] 27 0 _ rfl
 have b1 := box_cell e1.val #[slOf x0 M.nodes, slOf x1 M.inits, slOf x2 M.nexts, slOf x3 M.bads, slOf x4 M.holds] 27 1 _ rfl
 have b2 := box_cell e1.val #[slOf x0 M.nodes, slOf x1 M.inits, slOf x2 M.nexts, slOf x3 M.bads, slOf x4 M.holds] 27 2 _ rfl
 have b3 := box_cell e1.val #[slOf x0 M.nodes, slOf x1 M.inits, slOf x2 M.nexts, slOf x3 M.bads, slOf x4 M.holds] 27 3 _ rfl
 have b4 := box_cell e1.val #[slOf x0 M.nodes, slOf x1 M.inits, slOf x2 M.nexts, slOf x3 M.bads, slOf x4 M.holds] 27 4 _ rfl
 generalize e1.val.alloc (Obj.cells #[slOf x0 M.nodes, slOf x1 M.inits, slOf x2 M.nexts, slOf x3 M.bads, slOf x4 M.holds] 27) = w3 at *
 generalize e1.val.heap.size = G at *
 have b0 : ∀ u : Later w3, u.val.cell? ⟨G, 0, none⟩ = some (slOf x0 M.nodes) := b0
 have b1 : ∀ u : Later w3, u.val.cell? ⟨G, 1, none⟩ = some (slOf x1 M.inits) := b1
 have b2 : ∀ u : Later w3, u.val.cell? ⟨G, 2, none⟩ = some (slOf x2 M.nexts) := b2
 have b3 : ∀ u : Later w3, u.val.cell? ⟨G, 3, none⟩ = some (slOf x3 M.bads) := b3
 have b4 : ∀ u : Later w3, u.val.cell? ⟨G, 4, none⟩ = some (slOf x4 M.holds) := b4
 have m0 := lift_cell HL3 m0
 have m1 := lift_cell HL3 m1
 have m2 := lift_cell HL3 m2
 have m3 := lift_cell HL3 m3
 have m4 := lift_cell HL3 m4
 have m5 := lift_cell HL3 m5
 have m6 := lift_cell HL3 m6
 have HM1 := Lib.hid (HM1.out.below HL3.below)
 have HT1 := Lib.hid (HT1.out.below HL3.below)
 have HB := Lib.hid (below_of HB.out HL3)
 clear HL3
 refine at_world (w := w3) ?_
 intro u4
 go_upto_region 11 with (go_at_call 59; refine (toTrace_at _ Ss Is _ (HT1.out.later u4) HTL.out.1 HTL.out.2).mono ?_; rintro e w' ⟨g0, g1, rfl, hb, hc⟩; obtain ⟨e2, he⟩ := u4.step hb; subst he; have HTR := Lib.hid hc; clear hb hc)
 have HL4 : LaterC w3 (e2.val.alloc (Obj.cells #[slOf g0 Ss, slOf g1 Is] 68)) := LaterC.alloc' ⟨e2, rfl⟩ _
 have HTR := Lib.hid (HTR.out.below (show Below e2.val.heap.size e2.val (e2.val.alloc (Obj.cells #[slOf g0 Ss, slOf g1 Is] 68)) from (Below.refl _ _).alloc (Nat.le_refl _) _))
 have HMD := Lib.hid (HMD.out.below HL4.below)
 have c0 := box_cell e2.val #[slOf g0 Ss, slOf g1 Is] 68 0 _ rfl
 have c1 := box_cell e2.val #[slOf g0 Ss, slOf g1 Is] 68 1 _ rfl
 generalize e2.val.alloc (Obj.cells #[slOf g0 Ss, slOf g1 Is] 68) = w4 at *
 generalize e2.val.heap.size = H at *
 have c0 : ∀ u : Later w4, u.val.cell? ⟨H, 0, none⟩ = some (slOf g0 Ss) := c0
 have c1 : ∀ u : Later w4, u.val.cell? ⟨H, 1, none⟩ = some (slOf g1 Is) := c1
 have m0 := lift_cell HL4 m0
 have m1 := lift_cell HL4 m1
 have m2 := lift_cell HL4 m2
 have m3 := lift_cell HL4 m3
 have m4 := lift_cell HL4 m4
 have m5 := lift_cell HL4 m5
 have m6 := lift_cell HL4 m6
 have b0 := lift_cell HL4 b0
 have b1 := lift_cell HL4 b1
 have b2 := lift_cell HL4 b2
 have b3 := lift_cell HL4 b3
 have b4 := lift_cell HL4 b4
 have HM1 := Lib.hid (HM1.out.below HL4.below)
 have HT1 := Lib.hid (HT1.out.below HL4.below)
 have HB := Lib.hid (below_of HB.out HL4)
 clear HL4
 refine at_world (w := w4) ?_
 intro u5
 go_upto_region 14 with (go_at_call 62; refine (Calls.later_eq (u := u5) (TraceBad'_calls _ _ M Ss Is _ (HMD.out.later u5) (HTR.out.later u5) HLEN.out.1 HNM.out HW1.out HW2.out) (congrArg (Value.int .i64) ER.out)).mono ?_; rintro e w' ⟨rfl, u6, rfl⟩)
 go_region_held3 (fun w' => w'.cell? ⟨w.heap.size, 0, none⟩ = some s0 ∧ w'.cell? ⟨w.heap.size, 1, none⟩ = some s1 ∧ w'.cell? ⟨w.heap.size, 2, none⟩ = some s2 ∧ w'.cell? ⟨w.heap.size, 3, none⟩ = some s3 ∧ w'.cell? ⟨w.heap.size, 4, none⟩ = some s4 ∧ w'.cell? ⟨w.heap.size + 1, 0, none⟩ = some t0 ∧ w'.cell? ⟨w.heap.size + 1, 1, none⟩ = some t1 ∧ w'.cell? ⟨G, 0, none⟩ = some (slOf x0 M.nodes) ∧ w'.cell? ⟨G, 1, none⟩ = some (slOf x1 M.inits) ∧ w'.cell? ⟨G, 2, none⟩ = some (slOf x2 M.nexts) ∧ w'.cell? ⟨G, 3, none⟩ = some (slOf x3 M.bads) ∧ w'.cell? ⟨G, 4, none⟩ = some (slOf x4 M.holds) ∧ w'.cell? ⟨H, 0, none⟩ = some (slOf g0 Ss) ∧ w'.cell? ⟨H, 1, none⟩ = some (slOf g1 Is)) (exact ⟨lf m0, lf m1, lf m2, lf m3, lf m4, lf m5, lf m6, lf b0, lf b1, lf b2, lf b3, lf b4, lf c0, lf c1⟩) (first | (go_at_call 24; refine (toModel_at _ M _ (HM1.out.below (lcb (w1 := w4))) HLEN.out.1 HLEN.out.2.1 HLEN.out.2.2.1 HLEN.out.2.2.2.1 HLEN.out.2.2.2.2).mono ?_; rintro e w' ⟨y0, y1, y2, y3, y4, rfl, hb, hc⟩; (first | (have HTR := Lib.hid (HTR.out.below hb)) | skip); (first | (have HMD := Lib.hid (HMD.out.below hb)) | skip); have HMX := Lib.hid hc; clear hc; obtain ⟨v1, hv1⟩ := laterC_step (w1 := w4) lcx hb; subst hv1; clear hb) | (go_at_call 26; refine (eqModel_calls _ _ M _ (HMD.out.below (lcb (w1 := w4))) HMX.out).mono ?_; rintro e w' ⟨rfl, hb⟩; obtain ⟨v2, hv2⟩ := laterC_step (w1 := w4) lcx hb; subst hv2; clear hb))
 go_upto_region 16 with fail
 go_region_held3 (fun w' => w'.cell? ⟨w.heap.size, 0, none⟩ = some s0 ∧ w'.cell? ⟨w.heap.size, 1, none⟩ = some s1 ∧ w'.cell? ⟨w.heap.size, 2, none⟩ = some s2 ∧ w'.cell? ⟨w.heap.size, 3, none⟩ = some s3 ∧ w'.cell? ⟨w.heap.size, 4, none⟩ = some s4 ∧ w'.cell? ⟨w.heap.size + 1, 0, none⟩ = some t0 ∧ w'.cell? ⟨w.heap.size + 1, 1, none⟩ = some t1 ∧ w'.cell? ⟨G, 0, none⟩ = some (slOf x0 M.nodes) ∧ w'.cell? ⟨G, 1, none⟩ = some (slOf x1 M.inits) ∧ w'.cell? ⟨G, 2, none⟩ = some (slOf x2 M.nexts) ∧ w'.cell? ⟨G, 3, none⟩ = some (slOf x3 M.bads) ∧ w'.cell? ⟨G, 4, none⟩ = some (slOf x4 M.holds) ∧ w'.cell? ⟨H, 0, none⟩ = some (slOf g0 Ss) ∧ w'.cell? ⟨H, 1, none⟩ = some (slOf g1 Is)) (exact ⟨lf m0, lf m1, lf m2, lf m3, lf m4, lf m5, lf m6, lf b0, lf b1, lf b2, lf b3, lf b4, lf c0, lf c1⟩) (first | (go_at_call 59; refine (toTrace_at _ Ss Is _ (HT1.out.below (lcb (w1 := w4))) HTL.out.1 HTL.out.2).mono ?_; rintro e w' ⟨h0, h1, rfl, hb, hc⟩; (first | (have HTR := Lib.hid (HTR.out.below hb)) | skip); (first | (have HMD := Lib.hid (HMD.out.below hb)) | skip); have HTX := Lib.hid hc; clear hc; obtain ⟨v3, hv3⟩ := laterC_step (w1 := w4) lcx hb; subst hv3; clear hb) | (go_at_call 48; refine (eqTrace_calls _ _ Ss Is _ (HTR.out.below (lcb (w1 := w4))) HTX.out).mono ?_; rintro e w' ⟨rfl, hb⟩; obtain ⟨v4, hv4⟩ := laterC_step (w1 := w4) lcx hb; subst hv4; clear hb))
 go_wp2
 go_ret
 exact ⟨rfl, v4.back HB.out⟩
end Go.Proofs.YtbenebcphaiohaaGreat
