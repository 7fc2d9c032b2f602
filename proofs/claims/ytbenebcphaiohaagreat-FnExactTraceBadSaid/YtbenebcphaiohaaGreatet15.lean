import Derived.Test.YtbenebcphaiohaaGreatet14
import Derived.Deep.RegionHeld3
set_option linter.unusedVariables false
set_option linter.unusedSimpArgs false
set_option maxRecDepth 8000
set_option maxHeartbeats 16000000
namespace Go.Proofs.YtbenebcphaiohaaGreat
open Go.RowKit
theorem TraceCode'_calls (mv tv : Value) (M : Md) (Ss Is : List Int) (w : World) (hM : MdAt w mv M) (hT : TrAt w tv Ss Is) (hsz : M.nodes.length ≤ 1048576) (hnm : ∀ x, x ∈ M.nodes → x.name.size ≤ 140737488351232) (hw1 : ∀ b, b ∈ M.inits → (Lit.int .i64 b.st).wf = true) (hw2 : ∀ b, b ∈ M.nexts → (Lit.int .i64 b.st).wf = true) :
 Makes Tryz.prog 60 #[mv, tv] w (.int .i64 (traceN M Ss Is)) := by
 have HX1 := Lib.hid (fun h => trace_shape (M := M) (Ss := Ss) (Is := Is) h)
 have HX2 := Lib.hid (fun h h1 => trace_init (M := M) (Ss := Ss) (Is := Is) h h1)
 have HX3 := Lib.hid (fun h h1 h2 => trace_step (M := M) (Ss := Ss) (Is := Is) h h1 h2)
 have HX4 := Lib.hid (fun h h1 h2 h3 => trace_hold (M := M) (Ss := Ss) (Is := Is) h h1 h2 h3)
 have HX5 := Lib.hid (fun h h1 h2 h3 => trace_last (M := M) (Ss := Ss) (Is := Is) h h1 h2 h3)
 have HSO := Lib.hid (fun h => shaped_of (M := M) (Ss := Ss) (Is := Is) h)
 have HSN := Lib.hid (show ∀ k, k < Ss.length - 1 → stepK M (mS M Ss k) (mI M Is k) (mS M Ss (k + 1)) = false → stepsK M Ss Is = false from fun k h1 h2 => range_no h1 h2)
 have HSY := Lib.hid (show (∀ k, k < Ss.length - 1 → stepK M (mS M Ss k) (mI M Is k) (mS M Ss (k + 1)) = true) → stepsK M Ss Is = true from fun h => range_all h)
 have HHN := Lib.hid (show ∀ k, k < Ss.length → holdsK M (mS M Ss k) (mI M Is k) = false → momsK M Ss Is = false from fun k h1 h2 => range_no h1 h2)
 have HHY := Lib.hid (show (∀ k, k < Ss.length → holdsK M (mS M Ss k) (mI M Is k) = true) → momsK M Ss Is = true from fun h => range_all h)
 have HLK := Lib.hid (show lastK M Ss Is = badK M (mS M Ss (Ss.length - 1)) (mI M Is (Ss.length - 1)) from rfl)
 have HBI := Lib.hid (show codeN M = 0 → initK M (mS M Ss 0) = boundK M.nodes M.inits (fixedL M) (plK M) (mS M Ss 0) from fun h => by unfold initK; rw [stK_fits h, Bool.true_and])
 have HBS := Lib.hid (show codeN M = 0 → ∀ k, stepK M (mS M Ss k) (mI M Is k) (mS M Ss (k + 1)) = boundK M.nodes M.nexts (evalL M (mS M Ss k) (mI M Is k)) (plK M) (mS M Ss (k + 1)) from fun h k => by unfold stepK; rw [both_of h, stK_fits h, Bool.true_and, Bool.true_and])
 have HBH := Lib.hid (show codeN M = 0 → ∀ k, holdsK M (mS M Ss k) (mI M Is k) = M.holds.all (isB (evalL M (mS M Ss k) (mI M Is k))) from fun h k => by unfold holdsK; rw [both_of h, Bool.true_and])
 have HBB := Lib.hid (show codeN M = 0 → ∀ k, badK M (mS M Ss k) (mI M Is k) = firstN (isB (evalL M (mS M Ss k) (mI M Is k))) M.bads from fun h k => by unfold badK; rw [if_pos (both_of h _ _)])
 generalize traceN M Ss Is = R at *
 have HM := Lib.hid hM
 have HNM := Lib.hid hnm
 have HSZ := Lib.hid hsz
 have HT := Lib.hid hT
 have HW1 := Lib.hid hw1
 have HW2 := Lib.hid hw2
 clear hw1 hw2
 obtain ⟨s0, s1, s2, s3, s4, rfl, -, h1s, h2s, -, -⟩ := hM.at_
 have HS1 := Lib.hid h1s
 have HS2 := Lib.hid h2s
 obtain ⟨t0, t1, rfl, ht0, ht1⟩ := hT
 obtain ⟨A0, c0, rfl, hnc0, hn0, hA0⟩ := ht0
 obtain ⟨A1, c1, rfl, hnc1, hn1, hA1⟩ := ht1
 have HNC := Lib.hid hnc0
 clear hM hnm hsz h1s h2s hnc0 hnc1
 generalize hn : Ss.length = n at *
 have HN := Lib.hid hn
 generalize hm : Is.length = n1 at *
 have HI := Lib.hid hm
 clear hn hm
 go_enter Tryz.func60, Tryz.ntmps60
 go_upto_region 1 with fail
 obtain ⟨w2, hw2, HB, m0, m1, m2, m3, m4, m5, m6⟩ := boxes2 27 68 s0 s1 s2 s3 s4 (.slice A0 n c0) (.slice A1 n1 c1) w
 rw [hw2]
 clear hw2
 have HM1 := Lib.hid (HM.out.below HB.out)
 have HT1 := Lib.hid (HT.out.below HB.out)
 have HB1 := Lib.hid (HS1.out.below HB.out)
 have HB2 := Lib.hid (HS2.out.below HB.out)
 refine at_world (w := w2) ?_
 intro u0
 obtain ⟨ti, hti⟩ := info_parts info_vals
 have HTI := Lib.hid hti
 clear hti
 by_cases hs : shapeK M Ss Is = true
 · have HSK := Lib.hid hs
   have HSH := Lib.hid (HSO.out hs)
   have hn0 : 1 ≤ n := by have h1 := HN.out; have h2 := HSH.out.lo; omega
   have hn3 : n ≤ 301 := by have h1 := HN.out; have h2 := HSH.out.hi; omega
   have hcode := HSH.out.code
   have HNB := Lib.hid (codeN_parts hcode).2.1
   have HBI2 := Lib.hid (HBI.out hcode)
   have HBS2 := Lib.hid (HBS.out hcode)
   have HBH2 := Lib.hid (HBH.out hcode)
   have HBB2 := Lib.hid (HBB.out hcode)
   have HBO := Lib.hid (fun a b => both_of hcode a b)
   have HFT := Lib.hid (fun (kind : Int) (a : Int) => stK_fits (kind := kind) hcode a)
   have hnn : n1 = n := by have h1 := HN.out; have h2 := HSH.out.eq; have h3 := HI.out; omega
   subst hnn
   have hn1 : 0 < n1 := hn0
   clear hs hcode HBI HBS HBH HBB HSO
   have HL6 := Lib.hid (show (placesN 36 M.nodes M.nodes.length).length ≤ 1048576 from Nat.le_trans (placesN_le _ _ _) HSZ.out)
   have HL5 := Lib.hid (show (placesN 35 M.nodes M.nodes.length).length ≤ 1048576 from Nat.le_trans (placesN_le _ _ _) HSZ.out)
   have HK6 := Lib.hid (bits8_of (kind := 36) (.inl rfl) HSH.out.code)
   have HK5 := Lib.hid (bits8_of (kind := 35) (.inr rfl) HSH.out.code)
   obtain ⟨b0, o0, rfl, hx0⟩ := hA0 0 _ (getD_at (show 0 < Ss.length by rw [HN.out]; exact hn0) 0)
   obtain ⟨b1, o1, rfl, -⟩ := hA1 0 _ (getD_at (show 0 < Is.length by rw [HI.out]; exact hn0) 0)
   have HR0 := Lib.hid (HSH.out.s 0 (by rw [HN.out]; exact hn0))
   have HIN := Lib.hid (initIn (HFT.out 36 (Ss.getD 0 0)))
   have hx0 := hx0.int HB.out
   obtain ⟨x0, hxe⟩ : ∃ x, x = Ss.getD 0 0 := ⟨_, rfl⟩
   rw [← hxe] at hx0 HR0 HIN
   have HXE := Lib.hid hxe
   clear hxe
   have p0 : ∀ l : Later w2, l.val.cell? ⟨b0, o0, none⟩ = some (.int .i64 x0) := hx0
   clear hx0
   go_upto_region 3 with (go_at_call 139; refine (Calls.later_eq (u := u0) (shaped_calls _ _ M Ss Is _ (HM1.out.later u0) (HT1.out.later u0) HSZ.out HNM.out HW1.out HW2.out) (congrArg Value.bool HSK.out)).mono ?_; rintro e w' ⟨rfl, u1, rfl⟩)
   go_region_held3 (fun w' => w'.cell? ⟨w.heap.size, 0, none⟩ = some s0 ∧ w'.cell? ⟨w.heap.size, 1, none⟩ = some s1 ∧ w'.cell? ⟨w.heap.size, 2, none⟩ = some s2 ∧ w'.cell? ⟨w.heap.size, 3, none⟩ = some s3 ∧ w'.cell? ⟨w.heap.size, 4, none⟩ = some s4 ∧ w'.cell? ⟨w.heap.size + 1, 0, none⟩ = some (.slice (some ⟨b0, o0, none⟩) n1 c0) ∧ w'.cell? ⟨w.heap.size + 1, 1, none⟩ = some (.slice (some ⟨b1, o1, none⟩) n1 c1) ∧ w'.cell? ⟨b0, o0, none⟩ = some (.int .i64 x0)) (exact ⟨lf m0, lf m1, lf m2, lf m3, lf m4, lf m5, lf m6, lf p0⟩) (first | (go_at_call 127; (with_reducible refine (places_calls _ M 36 _ (HM1.out.below (lcb (w1 := w2))) HSZ.out).mono ?_); rintro e w' ⟨pv6, rfl, hb, hown⟩; (first | (have HO6 := Lib.hid (HO6.out.below hb)) | skip); (first | (have HO5 := Lib.hid (HO5.out.below hb)) | skip); (first | (have HV1 := Lib.hid (HV1.out.below hb)) | skip); (first | (have HV2 := Lib.hid (HV2.out.below hb)) | skip); (first | (have HEV := Lib.hid (HEV.out.below hb)) | skip); (first | (have HMO := Lib.hid (HMO.out.below hb)) | skip); have HO6 := Lib.hid (places_slN hown HSZ.out); clear hown; obtain ⟨vp6, hvp6⟩ := laterC_step (w1 := w2) lcx hb; subst hvp6; clear hb) | (go_at_call 127; (with_reducible refine (places_calls _ M 35 _ (HM1.out.below (lcb (w1 := w2))) HSZ.out).mono ?_); rintro e w' ⟨pv5, rfl, hb, hown⟩; (first | (have HO6 := Lib.hid (HO6.out.below hb)) | skip); (first | (have HO5 := Lib.hid (HO5.out.below hb)) | skip); (first | (have HV1 := Lib.hid (HV1.out.below hb)) | skip); (first | (have HV2 := Lib.hid (HV2.out.below hb)) | skip); (first | (have HEV := Lib.hid (HEV.out.below hb)) | skip); (first | (have HMO := Lib.hid (HMO.out.below hb)) | skip); have HO5 := Lib.hid (places_slN hown HSZ.out); clear hown; obtain ⟨vp5, hvp5⟩ := laterC_step (w1 := w2) lcx hb; subst hvp5; clear hb))
   go_upto_region 4 with fail
   have HO6 := Lib.hid (HO6.out.below (Below.refl _ _).drew)
   have HO5 := Lib.hid (HO5.out.below (Below.refl _ _).drew)
   obtain ⟨bi, hbi⟩ : ∃ b, boundK M.nodes M.inits (fixedL M) (plK M) (stK 36 M x0) = b := ⟨_, rfl⟩
   have HBK := Lib.hid hbi
   have HIK := Lib.hid (show initK M (mS M Ss 0) = bi by rw [HBI2.out, ← hbi, HXE.out])
   clear hbi
   go_region_held3 (fun w' => w'.cell? ⟨w.heap.size, 0, none⟩ = some s0 ∧ w'.cell? ⟨w.heap.size, 1, none⟩ = some s1 ∧ w'.cell? ⟨w.heap.size, 2, none⟩ = some s2 ∧ w'.cell? ⟨w.heap.size, 3, none⟩ = some s3 ∧ w'.cell? ⟨w.heap.size, 4, none⟩ = some s4 ∧ w'.cell? ⟨w.heap.size + 1, 0, none⟩ = some (.slice (some ⟨b0, o0, none⟩) n1 c0) ∧ w'.cell? ⟨w.heap.size + 1, 1, none⟩ = some (.slice (some ⟨b1, o1, none⟩) n1 c1) ∧ w'.cell? ⟨b0, o0, none⟩ = some (.int .i64 x0)) (exact ⟨lf m0, lf m1, lf m2, lf m3, lf m4, lf m5, lf m6, lf p0⟩) (first | (go_at_call 122; refine (initial_calls _ M _ (HM1.out.below (lcb (w1 := w2))) HNB.out HSZ.out).mono ?_; rintro e w' ⟨fv, rfl, hb, hev⟩; (first | (have HO6 := Lib.hid (HO6.out.below hb)) | skip); (first | (have HO5 := Lib.hid (HO5.out.below hb)) | skip); (first | (have HV1 := Lib.hid (HV1.out.below hb)) | skip); (first | (have HV2 := Lib.hid (HV2.out.below hb)) | skip); (first | (have HEV := Lib.hid (HEV.out.below hb)) | skip); (first | (have HMO := Lib.hid (HMO.out.below hb)) | skip); have HEV := Lib.hid hev; clear hev; obtain ⟨vi, hvi⟩ := laterC_step (w1 := w2) lcx hb; subst hvi; clear hb) | (go_at_call 128; (with_reducible refine (of_calls _ pv6 M (placesN 36 M.nodes M.nodes.length) x0 _ (HM1.out.below (lcb (w1 := w2))) HO6.out (placesN_InN _ _) HL6.out HK6.out HR0.out.1 HR0.out.2).mono ?_); rintro e w' ⟨uv6, us6, rfl, hb, hac⟩; (first | (have HO6 := Lib.hid (HO6.out.below hb)) | skip); (first | (have HO5 := Lib.hid (HO5.out.below hb)) | skip); (first | (have HV1 := Lib.hid (HV1.out.below hb)) | skip); (first | (have HV2 := Lib.hid (HV2.out.below hb)) | skip); (first | (have HEV := Lib.hid (HEV.out.below hb)) | skip); (first | (have HMO := Lib.hid (HMO.out.below hb)) | skip); have HV1 := Lib.hid hac.vlAt; clear hac; obtain ⟨vu6, hvu6⟩ := laterC_step (w1 := w2) lcx hb; subst hvu6; clear hb) | (go_at_call 119; refine (bound_calls _ _ _ uv6 M M.inits (fixedL M) (stK 36 M x0) _ (HM1.out.below (lcb (w1 := w2))) (HB1.out.below (lcb (w1 := w2))) HEV.out HV1.out HSZ.out HIN.out.2.1 HIN.out.2.2).mono ?_; rintro e w' ⟨rfl, hb⟩; (first | (have HO6 := Lib.hid (HO6.out.below hb)) | skip); (first | (have HO5 := Lib.hid (HO5.out.below hb)) | skip); (first | (have HV1 := Lib.hid (HV1.out.below hb)) | skip); (first | (have HV2 := Lib.hid (HV2.out.below hb)) | skip); (first | (have HEV := Lib.hid (HEV.out.below hb)) | skip); (first | (have HMO := Lib.hid (HMO.out.below hb)) | skip); rw [HBK.out]; obtain ⟨vb, hvb⟩ := laterC_step (w1 := w2) lcx hb; subst hvb; clear hb))
   clear HV1 HEV
   cases bi
   · have HR := Lib.hid (HX2.out HSK.out HIK.out)
     go_wp2
     go_ret
     exact ⟨ret_eq (congrArg (Value.int .i64) HR.out.symm), vb.back HB.out⟩
   · simp only [Bool.not_true]
     go_upto_region 8 with fail
     have HBW := Lib.hid (vb.back HB.out)
     have HLW : LaterC w2 vb.val := ⟨vb, rfl⟩
     have m0 := lift_cell HLW m0
     have m1 := lift_cell HLW m1
     have m2 := lift_cell HLW m2
     have m3 := lift_cell HLW m3
     have m4 := lift_cell HLW m4
     have m5 := lift_cell HLW m5
     have m6 := lift_cell HLW m6
     have HM1 := Lib.hid (HM1.out.below HLW.below)
     have HB2 := Lib.hid (HB2.out.below HLW.below)
     have HLW2 := Lib.hid (show Below w2.heap.size w2 vb.val from HLW.below)
     clear HLW p0
     generalize vb.val = W at *
     refine at_world (w := W) ?_
     intro w0
     go_loopw [7, 39] (fun s i wr => ∃ (k : Nat) (vs : List Value) (sv : Value), k ≤ n1 ∧ i = .int .i64 k ∧ sv = s ∧ Hid (MomAt W.heap.size wr sv vs (momL M Ss Is k)) ∧ LaterC W wr) (fun _ i _ => n1 - (intOf i).toNat)
     case atStart => exact ⟨0, [], _, Nat.zero_le _, rfl, rfl, Lib.hid (MomAt.nil _ _), ⟨w0, rfl⟩⟩
     case round =>
      obtain ⟨k, vs, sv, hk, rfl, hsv, HMO, ⟨u, rfl⟩⟩ := hrel
      subst hsv
      by_cases hlt : k < n1
      · have hlt' : (k : Int) < n1 := by omega
        obtain ⟨bq, oq, e, hx⟩ := hA0 k _ (getD_at (show k < Ss.length by rw [HN.out]; exact hlt) 0)
        cases e
        obtain ⟨bq, oq, e, hy⟩ := hA1 k _ (getD_at (show k < Is.length by rw [HI.out]; exact hlt) 0)
        cases e
        have HRX := Lib.hid (HSH.out.s k (by rw [HN.out]; exact hlt))
        have HRY := Lib.hid (HSH.out.i k (by rw [HN.out]; exact hlt))
        have HMS1 := Lib.hid (momL_succ M Ss Is k)
        have p0 : ∀ l : Later W, l.val.cell? ⟨b0, o0 + k, none⟩ = some (.int .i64 (Ss.getD k 0)) := hx.int HBW.out
        have p1 : ∀ l : Later W, l.val.cell? ⟨b1, o1 + k, none⟩ = some (.int .i64 (Is.getD k 0)) := hy.int HBW.out
        clear hx hy hA0 hA1
        unfold mS mI at HMS1
        generalize Ss.getD k 0 = x at *
        generalize Is.getD k 0 = y at *
        have HFS := Lib.hid (unpack_fits M.nodes (placesN 36 M.nodes M.nodes.length) x)
        have HFI := Lib.hid (unpack_fits M.nodes (placesN 35 M.nodes M.nodes.length) y)
        have HRW := Lib.hid (eval_rows (HBO.out x y))
        have HLS := Lib.hid (show vs.length = k from HMO.out.2.1.trans (momL_len _ _ _ _))
        have hls : vs.length ≤ 301 := by have h1 := HLS.out; omega
        go_upto_region 10 with fail
        have HO6 := Lib.hid ((HO6.out.later u).below (Below.refl _ _).drew)
        have HO5 := Lib.hid ((HO5.out.later u).below (Below.refl _ _).drew)
        have HMO := Lib.hid (HMO.out.below (Below.refl _ _).drew)
        go_region_held3 (fun w' => w'.cell? ⟨w.heap.size, 0, none⟩ = some s0 ∧ w'.cell? ⟨w.heap.size, 1, none⟩ = some s1 ∧ w'.cell? ⟨w.heap.size, 2, none⟩ = some s2 ∧ w'.cell? ⟨w.heap.size, 3, none⟩ = some s3 ∧ w'.cell? ⟨w.heap.size, 4, none⟩ = some s4 ∧ w'.cell? ⟨w.heap.size + 1, 0, none⟩ = some (.slice (some ⟨b0, o0, none⟩) n1 c0) ∧ w'.cell? ⟨w.heap.size + 1, 1, none⟩ = some (.slice (some ⟨b1, o1, none⟩) n1 c1) ∧ w'.cell? ⟨b1, o1 + k, none⟩ = some (.int .i64 y)) (exact ⟨lf m0, lf m1, lf m2, lf m3, lf m4, lf m5, lf m6, lf p1⟩) (first | (go_at_call 128; (with_reducible refine (of_calls _ pv6 M (placesN 36 M.nodes M.nodes.length) x _ (HM1.out.below (lcb (w1 := W))) HO6.out (placesN_InN _ _) HL6.out HK6.out HRX.out.1 HRX.out.2).mono ?_); rintro e w' ⟨uv6, us6, rfl, hb, hac⟩; (first | (have HO6 := Lib.hid (HO6.out.below hb)) | skip); (first | (have HO5 := Lib.hid (HO5.out.below hb)) | skip); (first | (have HV1 := Lib.hid (HV1.out.below hb)) | skip); (first | (have HV2 := Lib.hid (HV2.out.below hb)) | skip); (first | (have HEV := Lib.hid (HEV.out.below hb)) | skip); (first | (have HMO := Lib.hid (HMO.out.below hb)) | skip); have HV1 := Lib.hid hac.vlAt; clear hac; obtain ⟨vu6, hvu6⟩ := laterC_step (w1 := W) lcx hb; subst hvu6; clear hb) | (go_at_call 128; (with_reducible refine (of_calls _ pv5 M (placesN 35 M.nodes M.nodes.length) y _ (HM1.out.below (lcb (w1 := W))) HO5.out (placesN_InN _ _) HL5.out HK5.out HRY.out.1 HRY.out.2).mono ?_); rintro e w' ⟨uv5, us5, rfl, hb, hac⟩; (first | (have HO6 := Lib.hid (HO6.out.below hb)) | skip); (first | (have HO5 := Lib.hid (HO5.out.below hb)) | skip); (first | (have HV1 := Lib.hid (HV1.out.below hb)) | skip); (first | (have HV2 := Lib.hid (HV2.out.below hb)) | skip); (first | (have HEV := Lib.hid (HEV.out.below hb)) | skip); (first | (have HMO := Lib.hid (HMO.out.below hb)) | skip); have HV2 := Lib.hid hac.vlAt; clear hac; obtain ⟨vu5, hvu5⟩ := laterC_step (w1 := W) lcx hb; subst hvu5; clear hb) | (go_at_call 73; refine (eval_calls _ uv6 uv5 M (stK 36 M x) (stK 35 M y) _ (HM1.out.below (lcb (w1 := W))) HV1.out HV2.out HNB.out HFS.out HFI.out HSZ.out).mono ?_; rintro e w' ⟨ev, rfl, hb, hev⟩; (first | (have HO6 := Lib.hid (HO6.out.below hb)) | skip); (first | (have HO5 := Lib.hid (HO5.out.below hb)) | skip); (first | (have HV1 := Lib.hid (HV1.out.below hb)) | skip); (first | (have HV2 := Lib.hid (HV2.out.below hb)) | skip); (first | (have HEV := Lib.hid (HEV.out.below hb)) | skip); (first | (have HMO := Lib.hid (HMO.out.below hb)) | skip); have HEV := Lib.hid hev; obtain ⟨eA, ec, rfl, -⟩ := id hev; clear hev; obtain ⟨ve, hve⟩ := laterC_step (w1 := W) lcx hb; subst hve; clear hb) | (refine step_append_z (by rfl) _ _ _ _ (by rfl) W.heap.size 29 ti (.slice none 0 0) (.slice none 0 0) Tryz.underlying151 HTI.out.1 HTI.out.2.1 HTI.out.2.2.1 rfl sv vs.length vs (by rfl) (HMO.out.1.below ((Below.refl _ _).alloc (Nat.le_refl _) _)) ⟨ve.val.heap.size, 0, none⟩ 1 _ (by rfl) ((OwnB.new _ _ _).cell 0) rfl (by unfold maxLen; omega) (by rw [HTI.out.2.2.2]; omega) (Nat.le_trans ve.size ((Below.refl _ _).alloc (Nat.le_refl _) _).size) ?_; intro g cap wn hR hk hg hat; have HMP := Lib.hid (show MomAt W.heap.size wn _ _ (momL M Ss Is (k + 1)) from HMS1.out ▸ MomAt.push (HMO.out.below ((Below.refl _ _).alloc (Nat.le_refl _) _)) hR hk (HEV.out.below ((Below.refl _ _).alloc (Nat.le_refl _) _)) HRW.out); obtain ⟨u5, rfl⟩ := laterC_grown (laterC_step (w1 := W) ⟨ve, rfl⟩ ((Below.refl _ _).alloc (Nat.le_refl _) _)) ((HMO.out.1.below ((Below.refl _ _).alloc (Nat.le_refl _) _)).owns) hg; clear hR hk hg hat))
        go_wp2
        go_roundw
        case rel => exact ⟨k + 1, _, _, by omega, by have h1 := HLS.out; go_num, rfl, HMP, ⟨u5, rfl⟩⟩
        case measure => simp [intOf] <;> omega
      · obtain rfl : k = n1 := by omega
        obtain ⟨g, cap, e, hmc⟩ := HMO.out.shape (by rw [momL_len]; exact hn1)
        rw [momL_len] at e
        subst e
        have HMC := Lib.hid (show ∀ i, i < k → ∃ A c, u.val.cell? ⟨g, i, none⟩ = some (.slice A (evalL M (mS M Ss i) (mI M Is i)).length c) ∧ VlAt u.val (.slice A (evalL M (mS M Ss i) (mI M Is i)).length c) (evalL M (mS M Ss i) (mI M Is i)) from fun i hi => by
         have h1 := hmc i (by rw [momL_len]; exact hi)
         rw [momL_get M Ss Is hi] at h1
         exact h1)
        have hck : k ≤ c0 := by have h1 := HNC.out; omega
        have HSS := Lib.hid (show SlN enI w2 (.slice (some ⟨b0, o0, none⟩) k c0) Ss by obtain ⟨_, _, e, h, -⟩ := HT1.out; cases e; exact h)
        have HS2 := Lib.hid ((HSS.out.below HLW2.out))
        clear hmc hA0 hA1
        have HBX := Lib.hid (u.back HBW.out)
        have HLX : LaterC W u.val := ⟨u, rfl⟩
        have m0 := lift_cell HLX m0
        have m1 := lift_cell HLX m1
        have m2 := lift_cell HLX m2
        have m3 := lift_cell HLX m3
        have m4 := lift_cell HLX m4
        have m5 := lift_cell HLX m5
        have m6 := lift_cell HLX m6
        have HM1 := Lib.hid (HM1.out.below HLX.below)
        have HB2 := Lib.hid (HB2.out.below HLX.below)
        have HO6 := Lib.hid (HO6.out.below HLX.below)
        have HO5 := Lib.hid (HO5.out.below HLX.below)
        have HS2 := Lib.hid (HS2.out.below HLX.below)
        clear HLX
        generalize u.val = X at *
        refine at_world (w := X) ?_
        intro x1
        go_upto_region 13 with fail
        all_goals
         go_loopw [66] (fun i wr => ∃ j : Nat, j ≤ k - 1 ∧ i = .int .i64 j ∧ Hid (∀ q, q < j → stepK M (mS M Ss q) (mI M Is q) (mS M Ss (q + 1)) = true) ∧ LaterC X wr) (fun i _ => k - (intOf i).toNat)
         case atStart => exact ⟨0, Nat.zero_le _, rfl, Lib.hid (fun q hq => absurd hq (Nat.not_lt_zero _)), ⟨x1, rfl⟩⟩
         case round =>
          obtain ⟨j, hj, rfl, hto, ⟨u, rfl⟩⟩ := hrel
          by_cases hlt : j < k - 1
          · first
            | (exfalso; omega)
            | (have hlt1 : (j : Int) < ((k - 1 : Nat) : Int) := by omega
               have hlt2 : (j : Int) < (k : Int) - 1 := by omega
               have hlt3 : (j : Int) < (k : Int) := by omega
               obtain ⟨A, ac, hq1, hvj⟩ := HMC.out j (by omega)
               have q1 : ∀ l : Later X, l.val.cell? ⟨g, j, none⟩ = some (.slice A (evalL M (mS M Ss j) (mI M Is j)).length ac) := Later.cell hq1
               have HVJ := Lib.hid hvj
               have p2 : ∀ l : Later X, l.val.cell? ⟨b0, o0 + 1 + j, none⟩ = some (.int .i64 (Ss.getD (j + 1) 0)) := by
                have h1 := sl_code HS2.out (i := j + 1) (by have h1 := HN.out; omega)
                rw [show o0 + (j + 1) = o0 + 1 + j by omega] at h1
                exact h1
               have HRZ := HSH.out.s (j + 1) (by have h1 := HN.out; omega)
               have HIN2 := stepIn (HBO.out (Ss.getD j 0) (Is.getD j 0)) (HFT.out 36 (Ss.getD (j + 1) 0))
               have hst1 := HBS2.out j
               unfold mS mI at hst1
               obtain ⟨z, hz⟩ : ∃ z, z = Ss.getD (j + 1) 0 := ⟨_, rfl⟩
               rw [← hz] at p2 HRZ HIN2 hst1
               have HZE := Lib.hid hz
               have HRZ := Lib.hid HRZ
               have HIN2 := Lib.hid HIN2
               obtain ⟨bs, hbs⟩ : ∃ b, boundK M.nodes M.nexts (evalL M (mS M Ss j) (mI M Is j)) (plK M) (stK 36 M z) = b := ⟨_, rfl⟩
               have HBKJ := Lib.hid hbs
               have HSTJ := Lib.hid (show stepK M (mS M Ss j) (mI M Is j) (mS M Ss (j + 1)) = bs by
                unfold mS mI
                rw [← hz]
                exact hst1.trans hbs)
               clear hq1 hvj hbs hz hst1
               go_upto_region 15 with fail
               have HO6 := Lib.hid ((HO6.out.later u).below (Below.refl _ _).drew)
               go_region_held3 (fun w' => w'.cell? ⟨w.heap.size, 0, none⟩ = some s0 ∧ w'.cell? ⟨w.heap.size, 1, none⟩ = some s1 ∧ w'.cell? ⟨w.heap.size, 2, none⟩ = some s2 ∧ w'.cell? ⟨w.heap.size, 3, none⟩ = some s3 ∧ w'.cell? ⟨w.heap.size, 4, none⟩ = some s4 ∧ w'.cell? ⟨w.heap.size + 1, 0, none⟩ = some (.slice (some ⟨b0, o0, none⟩) k c0) ∧ w'.cell? ⟨w.heap.size + 1, 1, none⟩ = some (.slice (some ⟨b1, o1, none⟩) k c1) ∧ w'.cell? ⟨g, j, none⟩ = some (.slice A (evalL M (mS M Ss j) (mI M Is j)).length ac)) (exact ⟨lf m0, lf m1, lf m2, lf m3, lf m4, lf m5, lf m6, lf q1⟩) (first | (go_at_call 128; (with_reducible refine (of_calls _ pv6 M (placesN 36 M.nodes M.nodes.length) z _ (HM1.out.below (lcb (w1 := X))) HO6.out (placesN_InN _ _) HL6.out HK6.out HRZ.out.1 HRZ.out.2).mono ?_); rintro e w' ⟨uv6, us6, rfl, hb, hac⟩; (first | (have HO6 := Lib.hid (HO6.out.below hb)) | skip); (first | (have HO5 := Lib.hid (HO5.out.below hb)) | skip); (first | (have HV1 := Lib.hid (HV1.out.below hb)) | skip); (first | (have HV2 := Lib.hid (HV2.out.below hb)) | skip); (first | (have HEV := Lib.hid (HEV.out.below hb)) | skip); (first | (have HMO := Lib.hid (HMO.out.below hb)) | skip); have HV1 := Lib.hid hac.vlAt; clear hac; obtain ⟨vu6, hvu6⟩ := laterC_step (w1 := X) lcx hb; subst hvu6; clear hb) | (go_at_call 119; refine (bound_calls _ _ _ uv6 M M.nexts (evalL M (mS M Ss j) (mI M Is j)) (stK 36 M z) _ (HM1.out.below (lcb (w1 := X))) (HB2.out.below (lcb (w1 := X))) (HVJ.out.below (lcb (w1 := X))) HV1.out HSZ.out HIN2.out.1 HIN2.out.2).mono ?_; rintro e w' ⟨rfl, hb⟩; (first | (have HO6 := Lib.hid (HO6.out.below hb)) | skip); (first | (have HO5 := Lib.hid (HO5.out.below hb)) | skip); (first | (have HV1 := Lib.hid (HV1.out.below hb)) | skip); (first | (have HV2 := Lib.hid (HV2.out.below hb)) | skip); (first | (have HEV := Lib.hid (HEV.out.below hb)) | skip); (first | (have HMO := Lib.hid (HMO.out.below hb)) | skip); rw [HBKJ.out]; obtain ⟨vb, hvb⟩ := laterC_step (w1 := X) lcx hb; subst hvb; clear hb))
               cases bs
               · have HR := Lib.hid (HX3.out HSK.out HIK.out (HSN.out j (by have h1 := HN.out; omega) HSTJ.out))
                 go_wp2
                 go_ret
                 exact ⟨ret_eq (congrArg (Value.int .i64) HR.out.symm), vb.back HBX.out⟩
               · have HTO := Lib.hid (show ∀ q, q < j + 1 → stepK M (mS M Ss q) (mI M Is q) (mS M Ss (q + 1)) = true from fun q hq => by
                  rcases Nat.lt_or_ge q j with g | g
                  · exact hto.out q g
                  · obtain rfl : q = j := by omega
                    exact HSTJ.out)
                 go_wp2
                 go_roundw
                 case rel => exact ⟨j + 1, by omega, by go_num, HTO, ⟨vb, rfl⟩⟩
                 case measure => simp [intOf] <;> omega)
          · have HSS2 := Lib.hid (HSY.out fun q hq => hto.out q (by have h1 := HN.out; omega))
            obtain ⟨kk, hkk⟩ : ∃ kk, kk = k - 1 := ⟨_, rfl⟩
            have hjk : j = k - 1 := by omega
            subst hjk
            clear hto hkk
            go_upto_region 19 with fail
            go_loopw [87] (fun i wr => ∃ q : Nat, q ≤ k ∧ i = .int .i64 q ∧ Hid (∀ r, r < q → holdsK M (mS M Ss r) (mI M Is r) = true) ∧ LaterC X wr) (fun i _ => k - (intOf i).toNat)
            case atStart => exact ⟨0, Nat.zero_le _, rfl, Lib.hid (fun r hr => absurd hr (Nat.not_lt_zero _)), ⟨u, rfl⟩⟩
            case round =>
             obtain ⟨q, hq, rfl, hto, ⟨u, rfl⟩⟩ := hrel
             by_cases hltq : q < k
             · have hlt1 : (q : Int) < (k : Int) := by omega
               obtain ⟨A, ac, hq1, hvj⟩ := HMC.out q hltq
               have q1 : ∀ l : Later X, l.val.cell? ⟨g, q, none⟩ = some (.slice A (evalL M (mS M Ss q) (mI M Is q)).length ac) := Later.cell hq1
               have HVJ := Lib.hid hvj
               have HON := Lib.hid (eval_one (HBO.out (Ss.getD q 0) (Is.getD q 0))).2.2.2.2.1
               obtain ⟨hv, hhv⟩ : ∃ b, M.holds.all (isB (evalL M (mS M Ss q) (mI M Is q))) = b := ⟨_, rfl⟩
               have HHB := Lib.hid hhv
               have HHO := Lib.hid ((HBH2.out q).trans hhv)
               clear hq1 hvj hhv
               cases hv
               · have HR := Lib.hid (HX4.out HSK.out HIK.out HSS2.out (HHN.out q (by have h1 := HN.out; omega) HHO.out))
                 go_wp2_with (go_at_call 111; refine (Calls.later_eq (u := u) (holds'_calls _ _ M (evalL M (mS M Ss q) (mI M Is q)) _ (HM1.out.later u) (HVJ.out.later u) HON.out) (congrArg Value.bool HHB.out)).mono ?_; rintro e w' ⟨rfl, v1, rfl⟩)
                 go_ret
                 exact ⟨ret_eq (congrArg (Value.int .i64) HR.out.symm), v1.back HBX.out⟩
               · have HTO := Lib.hid (show ∀ r, r < q + 1 → holdsK M (mS M Ss r) (mI M Is r) = true from fun r hr => by
                  rcases Nat.lt_or_ge r q with g | g
                  · exact hto.out r g
                  · obtain rfl : r = q := by omega
                    exact HHO.out)
                 go_wp2_with (go_at_call 111; refine (Calls.later_eq (u := u) (holds'_calls _ _ M (evalL M (mS M Ss q) (mI M Is q)) _ (HM1.out.later u) (HVJ.out.later u) HON.out) (congrArg Value.bool HHB.out)).mono ?_; rintro e w' ⟨rfl, v1, rfl⟩)
                 go_roundw
                 case rel => exact ⟨q + 1, by omega, by go_num, HTO, ⟨v1, rfl⟩⟩
                 case measure => simp [intOf] <;> omega
             · have hqk : q = k := by omega
               subst hqk
               have HR1 := Lib.hid (HX5.out HSK.out HIK.out HSS2.out (HHY.out fun r hr => hto.out r (by have h1 := HN.out; omega)))
               obtain ⟨z, hz⟩ : ∃ z, lastK M Ss Is = z := ⟨_, rfl⟩
               have hlk := HLK.out.symm.trans hz
               obtain ⟨kk, hkk⟩ : ∃ kk, kk = q - 1 := ⟨_, rfl⟩
               have hlk : badK M (mS M Ss kk) (mI M Is kk) = z := by rw [hkk]; exact hlk
               have hkk1 : kk < q := by omega
               have hkk2 : (kk : Int) < (q : Int) := by omega
               have hsub : (q : Int) - 1 = (kk : Int) := by omega
               have hsub2 : IntKind.i64.wrap ((q : Int) - 1) = (kk : Int) := by rw [hsub, IntKind.wrap_i64]; omega
               obtain ⟨A, ac, hq1, hvj⟩ := HMC.out kk hkk1
               have q1 : ∀ l : Later X, l.val.cell? ⟨g, kk, none⟩ = some (.slice A (evalL M (mS M Ss kk) (mI M Is kk)).length ac) := Later.cell hq1
               have HVJ := Lib.hid hvj
               have HON := Lib.hid (eval_one (HBO.out (Ss.getD kk 0) (Is.getD kk 0))).2.2.2.2.2
               have HBD := Lib.hid ((HBB2.out kk).symm.trans hlk)
               clear hq1 hvj hlk hto hkk
               by_cases hz0 : z < 0
               · have HR := Lib.hid (show R = 5 by rw [HR1.out, hz, if_pos hz0])
                 clear hz
                 go_wp2
                 refine wp_region_later (w0 := X) (by kernel_rfl) (by kernel_rfl) ⟨u, rfl⟩ ?_
                 repeat (go_big_quiet_step ((go_at_call 114; exact Calls.later_eq (bad'_calls _ _ M (evalL M (mS M Ss kk) (mI M Is kk)) _ (HM1.out.later _) (HVJ.out.later _) HON.out) (congrArg (Value.int .i64) HBD.out))))
                 refine wpQuiet_nil ?_
                 rintro _ ⟨v1, rfl⟩
                 go_wp2
                 go_ret
                 exact ⟨ret_eq (congrArg (Value.int .i64) HR.out.symm), v1.back HBX.out⟩
               · have HR := Lib.hid (show R = 0 by rw [HR1.out, hz, if_neg hz0])
                 have hz1 : (z < 0) = False := eq_false hz0
                 clear hz
                 go_wp2
                 refine wp_region_later (w0 := X) (by kernel_rfl) (by kernel_rfl) ⟨u, rfl⟩ ?_
                 repeat (go_big_quiet_step ((go_at_call 114; exact Calls.later_eq (bad'_calls _ _ M (evalL M (mS M Ss kk) (mI M Is kk)) _ (HM1.out.later _) (HVJ.out.later _) HON.out) (congrArg (Value.int .i64) HBD.out))))
                 refine wpQuiet_nil ?_
                 rintro _ ⟨v1, rfl⟩
                 go_wp2
                 go_ret
                 exact ⟨ret_eq (congrArg (Value.int .i64) HR.out.symm), v1.back HBX.out⟩
 · have hs := eq_false_of_ne_true hs
   have HSK := Lib.hid hs
   have HR := Lib.hid (HX1.out hs)
   clear hs hA0 hA1
   go_wp2_with (go_at_call 139; refine (Calls.later_eq (u := u0) (shaped_calls _ _ M Ss Is _ (HM1.out.later u0) (HT1.out.later u0) HSZ.out HNM.out HW1.out HW2.out) (congrArg Value.bool HSK.out)).mono ?_; rintro e w' ⟨rfl, u1, rfl⟩)
   go_ret
   exact ⟨ret_eq (congrArg (Value.int .i64) HR.out.symm), u1.back HB.out⟩
end Go.Proofs.YtbenebcphaiohaaGreat
