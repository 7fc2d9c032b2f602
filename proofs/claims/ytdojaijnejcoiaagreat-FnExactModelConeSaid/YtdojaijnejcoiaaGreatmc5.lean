import Derived.Test.YtdojaijnejcoiaaGreatmc4
import Derived.Deep.RegionHeld3
set_option linter.unusedVariables false
set_option linter.unusedSimpArgs false
set_option maxRecDepth 8000
set_option maxHeartbeats 16000000
namespace Go.Proofs.YtdojaijnejcoiaaGreat
open Go.RowKit
attribute [local go_sem high] eq_sort
theorem sortOf_ia (kind n m ai aw bi bw ci cw xa xb xc xi xw : Int) (nm : ByteArray) (w : World) (k33 : (kind == 33) = false) (k34 : (kind == 34) = false) (k35 : (kind == 35) = false) (k36 : (kind == 36) = false) (k37 : (kind == 37) = false) (k38 : (kind == 38) = false) (k21 : (kind == 21) = false) (ha : ¬ ai = 0) :
 Calls Tryz.prog 95 #[.agg #[.int .i64 kind, .int .i64 xa, .int .i64 xb, .int .i64 xc, .int .i64 n, .int .i64 m, .int .i64 xi, .int .i64 xw, .string nm], .agg #[.int .i64 ai, .int .i64 aw], .agg #[.int .i64 bi, .int .i64 bw], .agg #[.int .i64 ci, .int .i64 cw]] w (ResPost (resN kind n m ai aw bi bw ci cw) w) := by
 have HR := Lib.hid (show (resN kind n m ai aw bi bw ci cw) = none by unfold resN; simp only [beq_eq_false_iff_ne, ne_eq] at k33 k37 k38 k21; rw [if_neg k33, if_neg k37, if_neg k38, if_neg k21, if_pos (Or.inl ha)])
 have ha' : (ai != 0) = true := bne_iff_ne.2 ha
 go_enter Tryz.func95, Tryz.ntmps95
 go_upto_region 1 with fail
 obtain ⟨w2, hw2, HB, b0, b4, b5, b6, b7, d0, d1, d2, d3, d4, d5, r0, r1, f0, f1⟩ := sort_world kind n m ai aw bi bw ci cw xa xb xc xi xw nm w
 rw [hw2]
 clear hw2
 refine at_world (w := w2) ?_
 intro u0
 go_wp2
 exact bodyPost_ret (v := .tuple #[.agg #[.int .i64 (0), .int .i64 (0)], .bool false]) (by simp [results, Tryz.results95, go_sem, r0, r1]) rfl (respost_none HR.out (by repeat (first | exact u0.back HB.out | refine Below.setCell ?_ (by first | (simp; done) | (simp; omega)) _)))
theorem sortOf_ib (kind n m aw bi bw ci cw xa xb xc xi xw : Int) (nm : ByteArray) (w : World) (k33 : (kind == 33) = false) (k34 : (kind == 34) = false) (k35 : (kind == 35) = false) (k36 : (kind == 36) = false) (k37 : (kind == 37) = false) (k38 : (kind == 38) = false) (k21 : (kind == 21) = false) (hb : ¬ bi = 0) :
 Calls Tryz.prog 95 #[.agg #[.int .i64 kind, .int .i64 xa, .int .i64 xb, .int .i64 xc, .int .i64 n, .int .i64 m, .int .i64 xi, .int .i64 xw, .string nm], .agg #[.int .i64 0, .int .i64 aw], .agg #[.int .i64 bi, .int .i64 bw], .agg #[.int .i64 ci, .int .i64 cw]] w (ResPost (resN kind n m 0 aw bi bw ci cw) w) := by
 have HR := Lib.hid (show (resN kind n m 0 aw bi bw ci cw) = none by unfold resN; simp only [beq_eq_false_iff_ne, ne_eq] at k33 k37 k38 k21; rw [if_neg k33, if_neg k37, if_neg k38, if_neg k21, if_pos (Or.inr hb)])
 have hb' : (bi != 0) = true := bne_iff_ne.2 hb
 go_enter Tryz.func95, Tryz.ntmps95
 go_upto_region 1 with fail
 obtain ⟨w2, hw2, HB, b0, b4, b5, b6, b7, d0, d1, d2, d3, d4, d5, r0, r1, f0, f1⟩ := sort_world kind n m 0 aw bi bw ci cw xa xb xc xi xw nm w
 rw [hw2]
 clear hw2
 refine at_world (w := w2) ?_
 intro u0
 go_wp2
 exact bodyPost_ret (v := .tuple #[.agg #[.int .i64 (0), .int .i64 (0)], .bool false]) (by simp [results, Tryz.results95, go_sem, r0, r1]) rfl (respost_none HR.out (by repeat (first | exact u0.back HB.out | refine Below.setCell ?_ (by first | (simp; done) | (simp; omega)) _)))
theorem sortOf_w1 (n m aw bw ci cw xa xb xc xi xw : Int) (nm : ByteArray) (w : World)  :
 Calls Tryz.prog 95 #[.agg #[.int .i64 1, .int .i64 xa, .int .i64 xb, .int .i64 xc, .int .i64 n, .int .i64 m, .int .i64 xi, .int .i64 xw, .string nm], .agg #[.int .i64 0, .int .i64 aw], .agg #[.int .i64 0, .int .i64 bw], .agg #[.int .i64 ci, .int .i64 cw]] w (ResPost (resN 1 n m 0 aw 0 bw ci cw) w) := by
 have HR := Lib.hid (show (resN 1 n m 0 aw 0 bw ci cw) = some (0, aw) by unfold resN; simp)
 go_enter Tryz.func95, Tryz.ntmps95
 go_upto_region 1 with fail
 obtain ⟨w2, hw2, HB, b0, b4, b5, b6, b7, d0, d1, d2, d3, d4, d5, r0, r1, f0, f1⟩ := sort_world 1 n m 0 aw 0 bw ci cw xa xb xc xi xw nm w
 rw [hw2]
 clear hw2
 refine at_world (w := w2) ?_
 intro u0
 go_wp2
 exact bodyPost_ret (v := .tuple #[.agg #[.int .i64 (0), .int .i64 (aw)], .bool true]) (by simp [results, Tryz.results95, go_sem, r0, r1]) rfl (respost_some HR.out (by repeat (first | exact u0.back HB.out | refine Below.setCell ?_ (by first | (simp; done) | (simp; omega)) _)))
theorem sortOf_w2 (n m aw bw ci cw xa xb xc xi xw : Int) (nm : ByteArray) (w : World)  :
 Calls Tryz.prog 95 #[.agg #[.int .i64 2, .int .i64 xa, .int .i64 xb, .int .i64 xc, .int .i64 n, .int .i64 m, .int .i64 xi, .int .i64 xw, .string nm], .agg #[.int .i64 0, .int .i64 aw], .agg #[.int .i64 0, .int .i64 bw], .agg #[.int .i64 ci, .int .i64 cw]] w (ResPost (resN 2 n m 0 aw 0 bw ci cw) w) := by
 have HR := Lib.hid (show (resN 2 n m 0 aw 0 bw ci cw) = some (0, aw) by unfold resN; simp)
 go_enter Tryz.func95, Tryz.ntmps95
 go_upto_region 1 with fail
 obtain ⟨w2, hw2, HB, b0, b4, b5, b6, b7, d0, d1, d2, d3, d4, d5, r0, r1, f0, f1⟩ := sort_world 2 n m 0 aw 0 bw ci cw xa xb xc xi xw nm w
 rw [hw2]
 clear hw2
 refine at_world (w := w2) ?_
 intro u0
 go_wp2
 exact bodyPost_ret (v := .tuple #[.agg #[.int .i64 (0), .int .i64 (aw)], .bool true]) (by simp [results, Tryz.results95, go_sem, r0, r1]) rfl (respost_some HR.out (by repeat (first | exact u0.back HB.out | refine Below.setCell ?_ (by first | (simp; done) | (simp; omega)) _)))
theorem sortOf_w3 (kind n m aw bw ci cw xa xb xc xi xw : Int) (nm : ByteArray) (w : World) (hk : 3 ≤ kind ∧ kind ≤ 5) :
 Calls Tryz.prog 95 #[.agg #[.int .i64 kind, .int .i64 xa, .int .i64 xb, .int .i64 xc, .int .i64 n, .int .i64 m, .int .i64 xi, .int .i64 xw, .string nm], .agg #[.int .i64 0, .int .i64 aw], .agg #[.int .i64 0, .int .i64 bw], .agg #[.int .i64 ci, .int .i64 cw]] w (ResPost (resN kind n m 0 aw 0 bw ci cw) w) := by
 have HR := Lib.hid (show (resN kind n m 0 aw 0 bw ci cw) = some (0, 1) by unfold resN; rw [if_neg (by omega), if_neg (by omega), if_neg (by omega), if_neg (by omega), if_neg (by simp), if_neg (by omega), if_neg (by omega), if_neg (by omega), if_neg (by omega), if_pos hk.2])
 have k33 : (kind == 33) = false := beq_eq_false_iff_ne.2 (by omega)
 have k34 : (kind == 34) = false := beq_eq_false_iff_ne.2 (by omega)
 have k35 : (kind == 35) = false := beq_eq_false_iff_ne.2 (by omega)
 have k36 : (kind == 36) = false := beq_eq_false_iff_ne.2 (by omega)
 have k37 : (kind == 37) = false := beq_eq_false_iff_ne.2 (by omega)
 have k38 : (kind == 38) = false := beq_eq_false_iff_ne.2 (by omega)
 have k21 : (kind == 21) = false := beq_eq_false_iff_ne.2 (by omega)
 have k1 : (kind == 1) = false := beq_eq_false_iff_ne.2 (by omega)
 have k2 : (kind == 2) = false := beq_eq_false_iff_ne.2 (by omega)
 have HI := Lib.hid (show inB kind 3 5 = true from inB_yes (by omega))
 clear hk
 go_enter Tryz.func95, Tryz.ntmps95
 go_upto_region 1 with fail
 obtain ⟨w2, hw2, HB, b0, b4, b5, b6, b7, d0, d1, d2, d3, d4, d5, r0, r1, f0, f1⟩ := sort_world kind n m 0 aw 0 bw ci cw xa xb xc xi xw nm w
 rw [hw2]
 clear hw2
 refine at_world (w := w2) ?_
 intro u0
 go_wp2_with (first | (go_at_call 84; refine (Calls.later (u := u0) (in_calls _ _ _ _)).mono ?_; rintro e w' ⟨rfl, u1, rfl⟩; rw [HI.out]) | (go_at_call 60; refine (Calls.later (u := u1) (words_calls _ _)).mono ?_; rintro e w' ⟨rfl, u2, rfl⟩))
 exact bodyPost_ret (v := .tuple #[.agg #[.int .i64 (0), .int .i64 (1)], .bool true]) (by simp [results, Tryz.results95, go_sem, r0, r1]) rfl (respost_some HR.out (by repeat (first | exact u2.back HB.out | refine Below.setCell ?_ (by first | (simp; done) | (simp; omega)) _)))
end Go.Proofs.YtdojaijnejcoiaaGreat
namespace Go.Proofs.YtdojaijnejcoiaaGreat
open Go.RowKit
attribute [local go_sem high] eq_sort
theorem sortOf_30_0 (n m aw bw ci cw xa xb xc xi xw : Int) (nm : ByteArray) (w : World) (a1 : 1 ≤ aw) (a16 : aw ≤ 16) (hHI : inB n 0 (aw - 1) = false) :
 Calls Tryz.prog 95 #[.agg #[.int .i64 30, .int .i64 xa, .int .i64 xb, .int .i64 xc, .int .i64 n, .int .i64 m, .int .i64 xi, .int .i64 xw, .string nm], .agg #[.int .i64 0, .int .i64 aw], .agg #[.int .i64 0, .int .i64 bw], .agg #[.int .i64 ci, .int .i64 cw]] w (ResPost (resN 30 n m 0 aw 0 bw ci cw) w) := by
 have HR := Lib.hid (show (resN 30 n m 0 aw 0 bw ci cw) = none by unfold resN; rw [if_neg (by omega), if_neg (by omega), if_neg (by omega), if_neg (by omega), if_neg (by simp), if_neg (by omega)]; rw [if_pos rfl, if_neg]; rintro ⟨h1, h2, h3⟩; rw [inB_yes (by omega)] at hHI; cases hHI)
 have HI := Lib.hid (show inB n 0 (aw - 1) = false from hHI)
 clear hHI
 go_enter Tryz.func95, Tryz.ntmps95
 go_upto_region 1 with fail
 obtain ⟨w2, hw2, HB, b0, b4, b5, b6, b7, d0, d1, d2, d3, d4, d5, r0, r1, f0, f1⟩ := sort_world 30 n m 0 aw 0 bw ci cw xa xb xc xi xw nm w
 rw [hw2]
 clear hw2
 have p0 := here b0; have p1 := here b4; have p2 := here b5; have p3 := here b6; have p4 := here b7; have p5 := here d0; have p6 := here d1; have p7 := here d2; have p8 := here d3; have p9 := here d4; have p10 := here d5
 go_wp2
 clear p0 p1 p2 p3 p4 p5 p6 p7 p8 p9 p10
 refine wp_region_two (G := w.heap.size + 4) 20 (.int .i64 (0)) (.int .i64 (wrap64 (wrap64 (n - m) + 1))) (by kernel_rfl) (by kernel_rfl) rfl (by kernel_rfl) HB.out (Nat.le_add_right _ _) r0 r1 f0 f1 ?_
 apply Exists.intro
 refine ⟨fun W hk => ?_, ?_, ?_, ?_⟩
 · have e0 := hk _ _ _ (by omega) b0; have e1 := hk _ _ _ (by omega) b4; have e2 := hk _ _ _ (by omega) b5; have e3 := hk _ _ _ (by omega) b6; have e4 := hk _ _ _ (by omega) b7; have e5 := hk _ _ _ (by omega) d0; have e6 := hk _ _ _ (by omega) d1; have e7 := hk _ _ _ (by omega) d2; have e8 := hk _ _ _ (by omega) d3; have e9 := hk _ _ _ (by omega) d4; have e10 := hk _ _ _ (by omega) d5
   clear hk
   simp only [List.take_succ_cons, List.take_zero]
   repeat (go_big_quiet_step (first | (go_at_call 84; with_reducible exact Calls.later_eq (in_calls n 0 (aw - 1) _) (congrArg Value.bool HI.out)) | (go_at_call 60; exact Calls.later (words_calls _ _))))
   exact wpQuiet_nil rfl
 · rfl
 · intro u s0 s1 t0 t1
   go_simp
 · intro u hb s0 s1
   have hbel := Lib.hid hb
   simp only [List.drop_succ_cons, List.drop_zero]
   clear r0 r1 f0 f1 hb
   go_wp2
   exact bodyPost_ret (v := .tuple #[.agg #[.int .i64 (0), .int .i64 (wrap64 (wrap64 (n - m) + 1))], .bool false]) (by simp [results, Tryz.results95, go_sem, s0, s1]) rfl (respost_none HR.out hbel.out)
theorem sortOf_30_1 (n m aw bw ci cw xa xb xc xi xw : Int) (nm : ByteArray) (w : World) (a1 : 1 ≤ aw) (a16 : aw ≤ 16) (hHI : inB n 0 (aw - 1) = true) (hHJ : inB m 0 n = false) :
 Calls Tryz.prog 95 #[.agg #[.int .i64 30, .int .i64 xa, .int .i64 xb, .int .i64 xc, .int .i64 n, .int .i64 m, .int .i64 xi, .int .i64 xw, .string nm], .agg #[.int .i64 0, .int .i64 aw], .agg #[.int .i64 0, .int .i64 bw], .agg #[.int .i64 ci, .int .i64 cw]] w (ResPost (resN 30 n m 0 aw 0 bw ci cw) w) := by
 have HR := Lib.hid (show (resN 30 n m 0 aw 0 bw ci cw) = none by unfold resN; rw [if_neg (by omega), if_neg (by omega), if_neg (by omega), if_neg (by omega), if_neg (by simp), if_neg (by omega)]; rw [if_pos rfl, if_neg]; rintro ⟨h1, h2, h3⟩; rw [inB_yes (by omega)] at hHJ; cases hHJ)
 have HI := Lib.hid (show inB n 0 (aw - 1) = true from hHI)
 have HJ := Lib.hid (show inB m 0 n = false from hHJ)
 clear hHI hHJ
 go_enter Tryz.func95, Tryz.ntmps95
 go_upto_region 1 with fail
 obtain ⟨w2, hw2, HB, b0, b4, b5, b6, b7, d0, d1, d2, d3, d4, d5, r0, r1, f0, f1⟩ := sort_world 30 n m 0 aw 0 bw ci cw xa xb xc xi xw nm w
 rw [hw2]
 clear hw2
 have p0 := here b0; have p1 := here b4; have p2 := here b5; have p3 := here b6; have p4 := here b7; have p5 := here d0; have p6 := here d1; have p7 := here d2; have p8 := here d3; have p9 := here d4; have p10 := here d5
 go_wp2
 clear p0 p1 p2 p3 p4 p5 p6 p7 p8 p9 p10
 refine wp_region_two (G := w.heap.size + 4) 20 (.int .i64 (0)) (.int .i64 (wrap64 (wrap64 (n - m) + 1))) (by kernel_rfl) (by kernel_rfl) rfl (by kernel_rfl) HB.out (Nat.le_add_right _ _) r0 r1 f0 f1 ?_
 apply Exists.intro
 refine ⟨fun W hk => ?_, ?_, ?_, ?_⟩
 · have e0 := hk _ _ _ (by omega) b0; have e1 := hk _ _ _ (by omega) b4; have e2 := hk _ _ _ (by omega) b5; have e3 := hk _ _ _ (by omega) b6; have e4 := hk _ _ _ (by omega) b7; have e5 := hk _ _ _ (by omega) d0; have e6 := hk _ _ _ (by omega) d1; have e7 := hk _ _ _ (by omega) d2; have e8 := hk _ _ _ (by omega) d3; have e9 := hk _ _ _ (by omega) d4; have e10 := hk _ _ _ (by omega) d5
   clear hk
   simp only [List.take_succ_cons, List.take_zero]
   repeat (go_big_quiet_step (first | (go_at_call 84; with_reducible exact Calls.later_eq (in_calls n 0 (aw - 1) _) (congrArg Value.bool HI.out)) | (go_at_call 84; with_reducible exact Calls.later_eq (in_calls m 0 n _) (congrArg Value.bool HJ.out)) | (go_at_call 60; exact Calls.later (words_calls _ _))))
   exact wpQuiet_nil rfl
 · rfl
 · intro u s0 s1 t0 t1
   go_simp
 · intro u hb s0 s1
   have hbel := Lib.hid hb
   simp only [List.drop_succ_cons, List.drop_zero]
   clear r0 r1 f0 f1 hb
   go_wp2
   exact bodyPost_ret (v := .tuple #[.agg #[.int .i64 (0), .int .i64 (wrap64 (wrap64 (n - m) + 1))], .bool false]) (by simp [results, Tryz.results95, go_sem, s0, s1]) rfl (respost_none HR.out hbel.out)
theorem sortOf_30_2 (n m aw bw ci cw xa xb xc xi xw : Int) (nm : ByteArray) (w : World) (a1 : 1 ≤ aw) (a16 : aw ≤ 16) (hHI : inB n 0 (aw - 1) = true) (hHJ : inB m 0 n = true) :
 Calls Tryz.prog 95 #[.agg #[.int .i64 30, .int .i64 xa, .int .i64 xb, .int .i64 xc, .int .i64 n, .int .i64 m, .int .i64 xi, .int .i64 xw, .string nm], .agg #[.int .i64 0, .int .i64 aw], .agg #[.int .i64 0, .int .i64 bw], .agg #[.int .i64 ci, .int .i64 cw]] w (ResPost (resN 30 n m 0 aw 0 bw ci cw) w) := by
 have HR := Lib.hid (show (resN 30 n m 0 aw 0 bw ci cw) = some (0, n - m + 1) by unfold resN; rw [if_neg (by omega), if_neg (by omega), if_neg (by omega), if_neg (by omega), if_neg (by simp), if_neg (by omega)]; rw [if_pos rfl, if_pos]; have h1 := of_inB hHI; have h2 := of_inB hHJ; exact ⟨h2.1, h2.2, by omega⟩)
 have h1 := of_inB hHI
 have h2 := of_inB hHJ
 have HI := Lib.hid (show inB n 0 (aw - 1) = true from hHI)
 have HJ := Lib.hid (show inB m 0 n = true from hHJ)
 clear hHI hHJ
 obtain ⟨n1, n2⟩ := h1
 obtain ⟨m1, m2⟩ := h2
 go_enter Tryz.func95, Tryz.ntmps95
 go_upto_region 1 with fail
 obtain ⟨w2, hw2, HB, b0, b4, b5, b6, b7, d0, d1, d2, d3, d4, d5, r0, r1, f0, f1⟩ := sort_world 30 n m 0 aw 0 bw ci cw xa xb xc xi xw nm w
 rw [hw2]
 clear hw2
 have p0 := here b0; have p1 := here b4; have p2 := here b5; have p3 := here b6; have p4 := here b7; have p5 := here d0; have p6 := here d1; have p7 := here d2; have p8 := here d3; have p9 := here d4; have p10 := here d5
 go_wp2
 clear p0 p1 p2 p3 p4 p5 p6 p7 p8 p9 p10
 refine wp_region_two (G := w.heap.size + 4) 20 (.int .i64 (0)) (.int .i64 (n - m + 1)) (by kernel_rfl) (by kernel_rfl) rfl (by kernel_rfl) HB.out (Nat.le_add_right _ _) r0 r1 f0 f1 ?_
 apply Exists.intro
 refine ⟨fun W hk => ?_, ?_, ?_, ?_⟩
 · have e0 := hk _ _ _ (by omega) b0; have e1 := hk _ _ _ (by omega) b4; have e2 := hk _ _ _ (by omega) b5; have e3 := hk _ _ _ (by omega) b6; have e4 := hk _ _ _ (by omega) b7; have e5 := hk _ _ _ (by omega) d0; have e6 := hk _ _ _ (by omega) d1; have e7 := hk _ _ _ (by omega) d2; have e8 := hk _ _ _ (by omega) d3; have e9 := hk _ _ _ (by omega) d4; have e10 := hk _ _ _ (by omega) d5
   clear hk
   simp only [List.take_succ_cons, List.take_zero]
   repeat (go_big_quiet_step (first | (go_at_call 84; with_reducible exact Calls.later_eq (in_calls n 0 (aw - 1) _) (congrArg Value.bool HI.out)) | (go_at_call 84; with_reducible exact Calls.later_eq (in_calls m 0 n _) (congrArg Value.bool HJ.out)) | (go_at_call 60; exact Calls.later (words_calls _ _))))
   exact wpQuiet_nil rfl
 · rfl
 · intro u s0 s1 t0 t1
   go_simp
 · intro u hb s0 s1
   have hbel := Lib.hid hb
   simp only [List.drop_succ_cons, List.drop_zero]
   clear r0 r1 f0 f1 hb
   go_wp2
   exact bodyPost_ret (v := .tuple #[.agg #[.int .i64 (0), .int .i64 (n - m + 1)], .bool true]) (by simp [results, Tryz.results95, go_sem, s0, s1]) rfl (respost_some HR.out hbel.out)
theorem sortOf_31_0 (n m aw bw ci cw xa xb xc xi xw : Int) (nm : ByteArray) (w : World) (a1 : 1 ≤ aw) (a16 : aw ≤ 16) (hHI : inB n 0 (16 - aw) = false) :
 Calls Tryz.prog 95 #[.agg #[.int .i64 31, .int .i64 xa, .int .i64 xb, .int .i64 xc, .int .i64 n, .int .i64 m, .int .i64 xi, .int .i64 xw, .string nm], .agg #[.int .i64 0, .int .i64 aw], .agg #[.int .i64 0, .int .i64 bw], .agg #[.int .i64 ci, .int .i64 cw]] w (ResPost (resN 31 n m 0 aw 0 bw ci cw) w) := by
 have HR := Lib.hid (show (resN 31 n m 0 aw 0 bw ci cw) = none by unfold resN; rw [if_neg (by omega), if_neg (by omega), if_neg (by omega), if_neg (by omega), if_neg (by simp), if_neg (by omega)]; rw [if_neg (by omega), if_pos (by simp), if_neg]; rintro ⟨h1, h2⟩; rw [inB_yes (by omega)] at hHI; cases hHI)
 have HI := Lib.hid (show inB n 0 (16 - aw) = false from hHI)
 clear hHI
 go_enter Tryz.func95, Tryz.ntmps95
 go_upto_region 1 with fail
 obtain ⟨w2, hw2, HB, b0, b4, b5, b6, b7, d0, d1, d2, d3, d4, d5, r0, r1, f0, f1⟩ := sort_world 31 n m 0 aw 0 bw ci cw xa xb xc xi xw nm w
 rw [hw2]
 clear hw2
 have p0 := here b0; have p1 := here b4; have p2 := here b5; have p3 := here b6; have p4 := here b7; have p5 := here d0; have p6 := here d1; have p7 := here d2; have p8 := here d3; have p9 := here d4; have p10 := here d5
 go_wp2
 clear p0 p1 p2 p3 p4 p5 p6 p7 p8 p9 p10
 refine wp_region_two (G := w.heap.size + 4) 12 (.int .i64 (0)) (.int .i64 (wrap64 (aw + n))) (by kernel_rfl) (by kernel_rfl) rfl (by kernel_rfl) HB.out (Nat.le_add_right _ _) r0 r1 f0 f1 ?_
 apply Exists.intro
 refine ⟨fun W hk => ?_, ?_, ?_, ?_⟩
 · have e0 := hk _ _ _ (by omega) b0; have e1 := hk _ _ _ (by omega) b4; have e2 := hk _ _ _ (by omega) b5; have e3 := hk _ _ _ (by omega) b6; have e4 := hk _ _ _ (by omega) b7; have e5 := hk _ _ _ (by omega) d0; have e6 := hk _ _ _ (by omega) d1; have e7 := hk _ _ _ (by omega) d2; have e8 := hk _ _ _ (by omega) d3; have e9 := hk _ _ _ (by omega) d4; have e10 := hk _ _ _ (by omega) d5
   clear hk
   simp only [List.take_succ_cons, List.take_zero]
   repeat (go_big_quiet_step (first | (go_at_call 84; with_reducible exact Calls.later_eq (in_calls n 0 (16 - aw) _) (congrArg Value.bool HI.out)) | (go_at_call 60; exact Calls.later (words_calls _ _))))
   exact wpQuiet_nil rfl
 · rfl
 · intro u s0 s1 t0 t1
   go_simp
 · intro u hb s0 s1
   have hbel := Lib.hid hb
   simp only [List.drop_succ_cons, List.drop_zero]
   clear r0 r1 f0 f1 hb
   go_wp2
   exact bodyPost_ret (v := .tuple #[.agg #[.int .i64 (0), .int .i64 (wrap64 (aw + n))], .bool false]) (by simp [results, Tryz.results95, go_sem, s0, s1]) rfl (respost_none HR.out hbel.out)
theorem sortOf_31_1 (n m aw bw ci cw xa xb xc xi xw : Int) (nm : ByteArray) (w : World) (a1 : 1 ≤ aw) (a16 : aw ≤ 16) (hHI : inB n 0 (16 - aw) = true) :
 Calls Tryz.prog 95 #[.agg #[.int .i64 31, .int .i64 xa, .int .i64 xb, .int .i64 xc, .int .i64 n, .int .i64 m, .int .i64 xi, .int .i64 xw, .string nm], .agg #[.int .i64 0, .int .i64 aw], .agg #[.int .i64 0, .int .i64 bw], .agg #[.int .i64 ci, .int .i64 cw]] w (ResPost (resN 31 n m 0 aw 0 bw ci cw) w) := by
 have HR := Lib.hid (show (resN 31 n m 0 aw 0 bw ci cw) = some (0, aw + n) by unfold resN; rw [if_neg (by omega), if_neg (by omega), if_neg (by omega), if_neg (by omega), if_neg (by simp), if_neg (by omega)]; rw [if_neg (by omega), if_pos (by simp), if_pos]; exact of_inB hHI)
 have h1 := of_inB hHI
 have HI := Lib.hid (show inB n 0 (16 - aw) = true from hHI)
 clear hHI
 obtain ⟨n1, n2⟩ := h1
 go_enter Tryz.func95, Tryz.ntmps95
 go_upto_region 1 with fail
 obtain ⟨w2, hw2, HB, b0, b4, b5, b6, b7, d0, d1, d2, d3, d4, d5, r0, r1, f0, f1⟩ := sort_world 31 n m 0 aw 0 bw ci cw xa xb xc xi xw nm w
 rw [hw2]
 clear hw2
 have p0 := here b0; have p1 := here b4; have p2 := here b5; have p3 := here b6; have p4 := here b7; have p5 := here d0; have p6 := here d1; have p7 := here d2; have p8 := here d3; have p9 := here d4; have p10 := here d5
 go_wp2
 clear p0 p1 p2 p3 p4 p5 p6 p7 p8 p9 p10
 refine wp_region_two (G := w.heap.size + 4) 12 (.int .i64 (0)) (.int .i64 (aw + n)) (by kernel_rfl) (by kernel_rfl) rfl (by kernel_rfl) HB.out (Nat.le_add_right _ _) r0 r1 f0 f1 ?_
 apply Exists.intro
 refine ⟨fun W hk => ?_, ?_, ?_, ?_⟩
 · have e0 := hk _ _ _ (by omega) b0; have e1 := hk _ _ _ (by omega) b4; have e2 := hk _ _ _ (by omega) b5; have e3 := hk _ _ _ (by omega) b6; have e4 := hk _ _ _ (by omega) b7; have e5 := hk _ _ _ (by omega) d0; have e6 := hk _ _ _ (by omega) d1; have e7 := hk _ _ _ (by omega) d2; have e8 := hk _ _ _ (by omega) d3; have e9 := hk _ _ _ (by omega) d4; have e10 := hk _ _ _ (by omega) d5
   clear hk
   simp only [List.take_succ_cons, List.take_zero]
   repeat (go_big_quiet_step (first | (go_at_call 84; with_reducible exact Calls.later_eq (in_calls n 0 (16 - aw) _) (congrArg Value.bool HI.out)) | (go_at_call 60; exact Calls.later (words_calls _ _))))
   exact wpQuiet_nil rfl
 · rfl
 · intro u s0 s1 t0 t1
   go_simp
 · intro u hb s0 s1
   have hbel := Lib.hid hb
   simp only [List.drop_succ_cons, List.drop_zero]
   clear r0 r1 f0 f1 hb
   go_wp2
   exact bodyPost_ret (v := .tuple #[.agg #[.int .i64 (0), .int .i64 (aw + n)], .bool true]) (by simp [results, Tryz.results95, go_sem, s0, s1]) rfl (respost_some HR.out hbel.out)
theorem sortOf_32_0 (n m aw bw ci cw xa xb xc xi xw : Int) (nm : ByteArray) (w : World) (a1 : 1 ≤ aw) (a16 : aw ≤ 16) (hHI : inB n 0 (16 - aw) = false) :
 Calls Tryz.prog 95 #[.agg #[.int .i64 32, .int .i64 xa, .int .i64 xb, .int .i64 xc, .int .i64 n, .int .i64 m, .int .i64 xi, .int .i64 xw, .string nm], .agg #[.int .i64 0, .int .i64 aw], .agg #[.int .i64 0, .int .i64 bw], .agg #[.int .i64 ci, .int .i64 cw]] w (ResPost (resN 32 n m 0 aw 0 bw ci cw) w) := by
 have HR := Lib.hid (show (resN 32 n m 0 aw 0 bw ci cw) = none by unfold resN; rw [if_neg (by omega), if_neg (by omega), if_neg (by omega), if_neg (by omega), if_neg (by simp), if_neg (by omega)]; rw [if_neg (by omega), if_pos (by simp), if_neg]; rintro ⟨h1, h2⟩; rw [inB_yes (by omega)] at hHI; cases hHI)
 have HI := Lib.hid (show inB n 0 (16 - aw) = false from hHI)
 clear hHI
 go_enter Tryz.func95, Tryz.ntmps95
 go_upto_region 1 with fail
 obtain ⟨w2, hw2, HB, b0, b4, b5, b6, b7, d0, d1, d2, d3, d4, d5, r0, r1, f0, f1⟩ := sort_world 32 n m 0 aw 0 bw ci cw xa xb xc xi xw nm w
 rw [hw2]
 clear hw2
 have p0 := here b0; have p1 := here b4; have p2 := here b5; have p3 := here b6; have p4 := here b7; have p5 := here d0; have p6 := here d1; have p7 := here d2; have p8 := here d3; have p9 := here d4; have p10 := here d5
 go_wp2
 clear p0 p1 p2 p3 p4 p5 p6 p7 p8 p9 p10
 refine wp_region_two (G := w.heap.size + 4) 12 (.int .i64 (0)) (.int .i64 (wrap64 (aw + n))) (by kernel_rfl) (by kernel_rfl) rfl (by kernel_rfl) HB.out (Nat.le_add_right _ _) r0 r1 f0 f1 ?_
 apply Exists.intro
 refine ⟨fun W hk => ?_, ?_, ?_, ?_⟩
 · have e0 := hk _ _ _ (by omega) b0; have e1 := hk _ _ _ (by omega) b4; have e2 := hk _ _ _ (by omega) b5; have e3 := hk _ _ _ (by omega) b6; have e4 := hk _ _ _ (by omega) b7; have e5 := hk _ _ _ (by omega) d0; have e6 := hk _ _ _ (by omega) d1; have e7 := hk _ _ _ (by omega) d2; have e8 := hk _ _ _ (by omega) d3; have e9 := hk _ _ _ (by omega) d4; have e10 := hk _ _ _ (by omega) d5
   clear hk
   simp only [List.take_succ_cons, List.take_zero]
   repeat (go_big_quiet_step (first | (go_at_call 84; with_reducible exact Calls.later_eq (in_calls n 0 (16 - aw) _) (congrArg Value.bool HI.out)) | (go_at_call 60; exact Calls.later (words_calls _ _))))
   exact wpQuiet_nil rfl
 · rfl
 · intro u s0 s1 t0 t1
   go_simp
 · intro u hb s0 s1
   have hbel := Lib.hid hb
   simp only [List.drop_succ_cons, List.drop_zero]
   clear r0 r1 f0 f1 hb
   go_wp2
   exact bodyPost_ret (v := .tuple #[.agg #[.int .i64 (0), .int .i64 (wrap64 (aw + n))], .bool false]) (by simp [results, Tryz.results95, go_sem, s0, s1]) rfl (respost_none HR.out hbel.out)
theorem sortOf_32_1 (n m aw bw ci cw xa xb xc xi xw : Int) (nm : ByteArray) (w : World) (a1 : 1 ≤ aw) (a16 : aw ≤ 16) (hHI : inB n 0 (16 - aw) = true) :
 Calls Tryz.prog 95 #[.agg #[.int .i64 32, .int .i64 xa, .int .i64 xb, .int .i64 xc, .int .i64 n, .int .i64 m, .int .i64 xi, .int .i64 xw, .string nm], .agg #[.int .i64 0, .int .i64 aw], .agg #[.int .i64 0, .int .i64 bw], .agg #[.int .i64 ci, .int .i64 cw]] w (ResPost (resN 32 n m 0 aw 0 bw ci cw) w) := by
 have HR := Lib.hid (show (resN 32 n m 0 aw 0 bw ci cw) = some (0, aw + n) by unfold resN; rw [if_neg (by omega), if_neg (by omega), if_neg (by omega), if_neg (by omega), if_neg (by simp), if_neg (by omega)]; rw [if_neg (by omega), if_pos (by simp), if_pos]; exact of_inB hHI)
 have h1 := of_inB hHI
 have HI := Lib.hid (show inB n 0 (16 - aw) = true from hHI)
 clear hHI
 obtain ⟨n1, n2⟩ := h1
 go_enter Tryz.func95, Tryz.ntmps95
 go_upto_region 1 with fail
 obtain ⟨w2, hw2, HB, b0, b4, b5, b6, b7, d0, d1, d2, d3, d4, d5, r0, r1, f0, f1⟩ := sort_world 32 n m 0 aw 0 bw ci cw xa xb xc xi xw nm w
 rw [hw2]
 clear hw2
 have p0 := here b0; have p1 := here b4; have p2 := here b5; have p3 := here b6; have p4 := here b7; have p5 := here d0; have p6 := here d1; have p7 := here d2; have p8 := here d3; have p9 := here d4; have p10 := here d5
 go_wp2
 clear p0 p1 p2 p3 p4 p5 p6 p7 p8 p9 p10
 refine wp_region_two (G := w.heap.size + 4) 12 (.int .i64 (0)) (.int .i64 (aw + n)) (by kernel_rfl) (by kernel_rfl) rfl (by kernel_rfl) HB.out (Nat.le_add_right _ _) r0 r1 f0 f1 ?_
 apply Exists.intro
 refine ⟨fun W hk => ?_, ?_, ?_, ?_⟩
 · have e0 := hk _ _ _ (by omega) b0; have e1 := hk _ _ _ (by omega) b4; have e2 := hk _ _ _ (by omega) b5; have e3 := hk _ _ _ (by omega) b6; have e4 := hk _ _ _ (by omega) b7; have e5 := hk _ _ _ (by omega) d0; have e6 := hk _ _ _ (by omega) d1; have e7 := hk _ _ _ (by omega) d2; have e8 := hk _ _ _ (by omega) d3; have e9 := hk _ _ _ (by omega) d4; have e10 := hk _ _ _ (by omega) d5
   clear hk
   simp only [List.take_succ_cons, List.take_zero]
   repeat (go_big_quiet_step (first | (go_at_call 84; with_reducible exact Calls.later_eq (in_calls n 0 (16 - aw) _) (congrArg Value.bool HI.out)) | (go_at_call 60; exact Calls.later (words_calls _ _))))
   exact wpQuiet_nil rfl
 · rfl
 · intro u s0 s1 t0 t1
   go_simp
 · intro u hb s0 s1
   have hbel := Lib.hid hb
   simp only [List.drop_succ_cons, List.drop_zero]
   clear r0 r1 f0 f1 hb
   go_wp2
   exact bodyPost_ret (v := .tuple #[.agg #[.int .i64 (0), .int .i64 (aw + n)], .bool true]) (by simp [results, Tryz.results95, go_sem, s0, s1]) rfl (respost_some HR.out hbel.out)
end Go.Proofs.YtdojaijnejcoiaaGreat
namespace Go.Proofs.YtdojaijnejcoiaaGreat
open Go.RowKit
attribute [local go_sem high] eq_sort
theorem sortOf_29_0 (n m aw bw ci cw xa xb xc xi xw : Int) (nm : ByteArray) (w : World) (a1 : 1 ≤ aw) (a16 : aw ≤ 16) (b1 : 1 ≤ bw) (b16 : bw ≤ 16) (h : ¬ aw + bw ≤ 16) :
 Calls Tryz.prog 95 #[.agg #[.int .i64 29, .int .i64 xa, .int .i64 xb, .int .i64 xc, .int .i64 n, .int .i64 m, .int .i64 xi, .int .i64 xw, .string nm], .agg #[.int .i64 0, .int .i64 aw], .agg #[.int .i64 0, .int .i64 bw], .agg #[.int .i64 ci, .int .i64 cw]] w (ResPost (resN 29 n m 0 aw 0 bw ci cw) w) := by
 have HR := Lib.hid (show (resN 29 n m 0 aw 0 bw ci cw) = none by unfold resN; rw [if_neg (by omega), if_neg (by omega), if_neg (by omega), if_neg (by omega), if_neg (by simp)]; rw [if_pos rfl, if_neg h])
 have h' : (16 : Int) < aw + bw := by omega
 go_enter Tryz.func95, Tryz.ntmps95
 go_upto_region 1 with fail
 obtain ⟨w2, hw2, HB, b0, b4, b5, b6, b7, d0, d1, d2, d3, d4, d5, r0, r1, f0, f1⟩ := sort_world 29 n m 0 aw 0 bw ci cw xa xb xc xi xw nm w
 rw [hw2]
 clear hw2
 have p0 := here b0; have p1 := here b4; have p2 := here b5; have p3 := here b6; have p4 := here b7; have p5 := here d0; have p6 := here d1; have p7 := here d2; have p8 := here d3; have p9 := here d4; have p10 := here d5
 go_wp2
 clear p0 p1 p2 p3 p4 p5 p6 p7 p8 p9 p10
 refine wp_region_two (G := w.heap.size + 4) 12 (.int .i64 (0)) (.int .i64 (aw + bw)) (by kernel_rfl) (by kernel_rfl) rfl (by kernel_rfl) HB.out (Nat.le_add_right _ _) r0 r1 f0 f1 ?_
 apply Exists.intro
 refine ⟨fun W hk => ?_, ?_, ?_, ?_⟩
 · have e0 := hk _ _ _ (by omega) b0; have e1 := hk _ _ _ (by omega) b4; have e2 := hk _ _ _ (by omega) b5; have e3 := hk _ _ _ (by omega) b6; have e4 := hk _ _ _ (by omega) b7; have e5 := hk _ _ _ (by omega) d0; have e6 := hk _ _ _ (by omega) d1; have e7 := hk _ _ _ (by omega) d2; have e8 := hk _ _ _ (by omega) d3; have e9 := hk _ _ _ (by omega) d4; have e10 := hk _ _ _ (by omega) d5
   clear hk
   simp only [List.take_succ_cons, List.take_zero]
   repeat (go_big_quiet_step (first | (go_at_call 60; exact Calls.later (words_calls _ _))))
   exact wpQuiet_nil rfl
 · rfl
 · intro u s0 s1 t0 t1
   go_simp
 · intro u hb s0 s1
   have hbel := Lib.hid hb
   simp only [List.drop_succ_cons, List.drop_zero]
   clear r0 r1 f0 f1 hb
   go_wp2
   exact bodyPost_ret (v := .tuple #[.agg #[.int .i64 (0), .int .i64 (aw + bw)], .bool false]) (by simp [results, Tryz.results95, go_sem, s0, s1, h']) rfl (respost_none HR.out hbel.out)
theorem sortOf_29_1 (n m aw bw ci cw xa xb xc xi xw : Int) (nm : ByteArray) (w : World) (a1 : 1 ≤ aw) (a16 : aw ≤ 16) (b1 : 1 ≤ bw) (b16 : bw ≤ 16) (h : aw + bw ≤ 16) :
 Calls Tryz.prog 95 #[.agg #[.int .i64 29, .int .i64 xa, .int .i64 xb, .int .i64 xc, .int .i64 n, .int .i64 m, .int .i64 xi, .int .i64 xw, .string nm], .agg #[.int .i64 0, .int .i64 aw], .agg #[.int .i64 0, .int .i64 bw], .agg #[.int .i64 ci, .int .i64 cw]] w (ResPost (resN 29 n m 0 aw 0 bw ci cw) w) := by
 have HR := Lib.hid (show (resN 29 n m 0 aw 0 bw ci cw) = some (0, aw + bw) by unfold resN; rw [if_neg (by omega), if_neg (by omega), if_neg (by omega), if_neg (by omega), if_neg (by simp)]; rw [if_pos rfl, if_pos h])
 go_enter Tryz.func95, Tryz.ntmps95
 go_upto_region 1 with fail
 obtain ⟨w2, hw2, HB, b0, b4, b5, b6, b7, d0, d1, d2, d3, d4, d5, r0, r1, f0, f1⟩ := sort_world 29 n m 0 aw 0 bw ci cw xa xb xc xi xw nm w
 rw [hw2]
 clear hw2
 have p0 := here b0; have p1 := here b4; have p2 := here b5; have p3 := here b6; have p4 := here b7; have p5 := here d0; have p6 := here d1; have p7 := here d2; have p8 := here d3; have p9 := here d4; have p10 := here d5
 go_wp2
 clear p0 p1 p2 p3 p4 p5 p6 p7 p8 p9 p10
 refine wp_region_two (G := w.heap.size + 4) 12 (.int .i64 (0)) (.int .i64 (aw + bw)) (by kernel_rfl) (by kernel_rfl) rfl (by kernel_rfl) HB.out (Nat.le_add_right _ _) r0 r1 f0 f1 ?_
 apply Exists.intro
 refine ⟨fun W hk => ?_, ?_, ?_, ?_⟩
 · have e0 := hk _ _ _ (by omega) b0; have e1 := hk _ _ _ (by omega) b4; have e2 := hk _ _ _ (by omega) b5; have e3 := hk _ _ _ (by omega) b6; have e4 := hk _ _ _ (by omega) b7; have e5 := hk _ _ _ (by omega) d0; have e6 := hk _ _ _ (by omega) d1; have e7 := hk _ _ _ (by omega) d2; have e8 := hk _ _ _ (by omega) d3; have e9 := hk _ _ _ (by omega) d4; have e10 := hk _ _ _ (by omega) d5
   clear hk
   simp only [List.take_succ_cons, List.take_zero]
   repeat (go_big_quiet_step (first | (go_at_call 60; exact Calls.later (words_calls _ _))))
   exact wpQuiet_nil rfl
 · rfl
 · intro u s0 s1 t0 t1
   go_simp
 · intro u hb s0 s1
   have hbel := Lib.hid hb
   simp only [List.drop_succ_cons, List.drop_zero]
   clear r0 r1 f0 f1 hb
   go_wp2
   exact bodyPost_ret (v := .tuple #[.agg #[.int .i64 (0), .int .i64 (aw + bw)], .bool true]) (by simp [results, Tryz.results95, go_sem, s0, s1]) rfl (respost_some HR.out hbel.out)
theorem sortOf_s_0 (kind n m aw bw ci cw xa xb xc xi xw : Int) (nm : ByteArray) (w : World) (hk : 22 ≤ kind ∧ kind ≤ 28) (h : (aw == bw) = false) :
 Calls Tryz.prog 95 #[.agg #[.int .i64 kind, .int .i64 xa, .int .i64 xb, .int .i64 xc, .int .i64 n, .int .i64 m, .int .i64 xi, .int .i64 xw, .string nm], .agg #[.int .i64 0, .int .i64 aw], .agg #[.int .i64 0, .int .i64 bw], .agg #[.int .i64 ci, .int .i64 cw]] w (ResPost (resN kind n m 0 aw 0 bw ci cw) w) := by
 have HR := Lib.hid (show (resN kind n m 0 aw 0 bw ci cw) = none by unfold resN; rw [if_neg (by omega), if_neg (by omega), if_neg (by omega), if_neg (by omega), if_neg (by simp), if_neg (by omega), if_neg (by omega), if_neg (by omega), if_neg (by omega), if_neg (by omega)]; rw [if_neg (beq_eq_false_iff_ne.1 h)])
 have k33 : (kind == 33) = false := beq_eq_false_iff_ne.2 (by omega)
 have k34 : (kind == 34) = false := beq_eq_false_iff_ne.2 (by omega)
 have k35 : (kind == 35) = false := beq_eq_false_iff_ne.2 (by omega)
 have k36 : (kind == 36) = false := beq_eq_false_iff_ne.2 (by omega)
 have k37 : (kind == 37) = false := beq_eq_false_iff_ne.2 (by omega)
 have k38 : (kind == 38) = false := beq_eq_false_iff_ne.2 (by omega)
 have k21 : (kind == 21) = false := beq_eq_false_iff_ne.2 (by omega)
 have k1 : (kind == 1) = false := beq_eq_false_iff_ne.2 (by omega)
 have k2 : (kind == 2) = false := beq_eq_false_iff_ne.2 (by omega)
 have k30 : (kind == 30) = false := beq_eq_false_iff_ne.2 (by omega)
 have k31 : (kind == 31) = false := beq_eq_false_iff_ne.2 (by omega)
 have k32 : (kind == 32) = false := beq_eq_false_iff_ne.2 (by omega)
 have k29 : (kind == 29) = false := beq_eq_false_iff_ne.2 (by omega)
 have HI := Lib.hid (show inB kind 3 5 = false from inB_no (by omega))
 have HJ := Lib.hid (show inB kind 21 28 = true from inB_yes (by omega))
 clear hk
 go_enter Tryz.func95, Tryz.ntmps95
 go_upto_region 1 with fail
 obtain ⟨w2, hw2, HB, b0, b4, b5, b6, b7, d0, d1, d2, d3, d4, d5, r0, r1, f0, f1⟩ := sort_world kind n m 0 aw 0 bw ci cw xa xb xc xi xw nm w
 rw [hw2]
 clear hw2
 have p0 := here b0; have p1 := here b4; have p2 := here b5; have p3 := here b6; have p4 := here b7; have p5 := here d0; have p6 := here d1; have p7 := here d2; have p8 := here d3; have p9 := here d4; have p10 := here d5
 go_wp2_with (first | (go_at_call 84; with_reducible refine (in_same kind 3 5 _).mono ?_; rintro e w' ⟨rfl, rfl⟩; rw [HI.out]) | (go_at_call 84; with_reducible refine (in_same kind 21 28 _).mono ?_; rintro e w' ⟨rfl, rfl⟩; rw [HJ.out]))
 clear p0 p1 p2 p3 p4 p5 p6 p7 p8 p9 p10
 refine wp_region_two (G := w.heap.size + 4) 4 (.int .i64 (0)) (.int .i64 (1)) (by kernel_rfl) (by kernel_rfl) rfl (by kernel_rfl) HB.out (Nat.le_add_right _ _) r0 r1 f0 f1 ?_
 apply Exists.intro
 refine ⟨fun W hk => ?_, ?_, ?_, ?_⟩
 · have e0 := hk _ _ _ (by omega) b0; have e1 := hk _ _ _ (by omega) b4; have e2 := hk _ _ _ (by omega) b5; have e3 := hk _ _ _ (by omega) b6; have e4 := hk _ _ _ (by omega) b7; have e5 := hk _ _ _ (by omega) d0; have e6 := hk _ _ _ (by omega) d1; have e7 := hk _ _ _ (by omega) d2; have e8 := hk _ _ _ (by omega) d3; have e9 := hk _ _ _ (by omega) d4; have e10 := hk _ _ _ (by omega) d5
   clear hk
   simp only [List.take_succ_cons, List.take_zero]
   repeat (go_big_quiet_step (first | (go_at_call 60; exact Calls.later (words_calls _ _))))
   exact wpQuiet_nil rfl
 · rfl
 · intro u s0 s1 t0 t1
   go_simp
 · intro u hb s0 s1
   have hbel := Lib.hid hb
   simp only [List.drop_succ_cons, List.drop_zero]
   clear r0 r1 f0 f1 hb
   go_wp2
   exact bodyPost_ret (v := .tuple #[.agg #[.int .i64 (0), .int .i64 (1)], .bool false]) (by simp [results, Tryz.results95, go_sem, s0, s1]) rfl (respost_none HR.out hbel.out)
theorem sortOf_s_1 (kind n m aw bw ci cw xa xb xc xi xw : Int) (nm : ByteArray) (w : World) (hk : 22 ≤ kind ∧ kind ≤ 28) (h : (aw == bw) = true) :
 Calls Tryz.prog 95 #[.agg #[.int .i64 kind, .int .i64 xa, .int .i64 xb, .int .i64 xc, .int .i64 n, .int .i64 m, .int .i64 xi, .int .i64 xw, .string nm], .agg #[.int .i64 0, .int .i64 aw], .agg #[.int .i64 0, .int .i64 bw], .agg #[.int .i64 ci, .int .i64 cw]] w (ResPost (resN kind n m 0 aw 0 bw ci cw) w) := by
 have HR := Lib.hid (show (resN kind n m 0 aw 0 bw ci cw) = some (0, 1) by unfold resN; rw [if_neg (by omega), if_neg (by omega), if_neg (by omega), if_neg (by omega), if_neg (by simp), if_neg (by omega), if_neg (by omega), if_neg (by omega), if_neg (by omega), if_neg (by omega)]; rw [if_pos (beq_iff_eq.1 h)]; rw [if_neg (by omega)])
 have k33 : (kind == 33) = false := beq_eq_false_iff_ne.2 (by omega)
 have k34 : (kind == 34) = false := beq_eq_false_iff_ne.2 (by omega)
 have k35 : (kind == 35) = false := beq_eq_false_iff_ne.2 (by omega)
 have k36 : (kind == 36) = false := beq_eq_false_iff_ne.2 (by omega)
 have k37 : (kind == 37) = false := beq_eq_false_iff_ne.2 (by omega)
 have k38 : (kind == 38) = false := beq_eq_false_iff_ne.2 (by omega)
 have k21 : (kind == 21) = false := beq_eq_false_iff_ne.2 (by omega)
 have k1 : (kind == 1) = false := beq_eq_false_iff_ne.2 (by omega)
 have k2 : (kind == 2) = false := beq_eq_false_iff_ne.2 (by omega)
 have k30 : (kind == 30) = false := beq_eq_false_iff_ne.2 (by omega)
 have k31 : (kind == 31) = false := beq_eq_false_iff_ne.2 (by omega)
 have k32 : (kind == 32) = false := beq_eq_false_iff_ne.2 (by omega)
 have k29 : (kind == 29) = false := beq_eq_false_iff_ne.2 (by omega)
 have HI := Lib.hid (show inB kind 3 5 = false from inB_no (by omega))
 have HJ := Lib.hid (show inB kind 21 28 = true from inB_yes (by omega))
 clear hk
 go_enter Tryz.func95, Tryz.ntmps95
 go_upto_region 1 with fail
 obtain ⟨w2, hw2, HB, b0, b4, b5, b6, b7, d0, d1, d2, d3, d4, d5, r0, r1, f0, f1⟩ := sort_world kind n m 0 aw 0 bw ci cw xa xb xc xi xw nm w
 rw [hw2]
 clear hw2
 have p0 := here b0; have p1 := here b4; have p2 := here b5; have p3 := here b6; have p4 := here b7; have p5 := here d0; have p6 := here d1; have p7 := here d2; have p8 := here d3; have p9 := here d4; have p10 := here d5
 go_wp2_with (first | (go_at_call 84; with_reducible refine (in_same kind 3 5 _).mono ?_; rintro e w' ⟨rfl, rfl⟩; rw [HI.out]) | (go_at_call 84; with_reducible refine (in_same kind 21 28 _).mono ?_; rintro e w' ⟨rfl, rfl⟩; rw [HJ.out]))
 clear p0 p1 p2 p3 p4 p5 p6 p7 p8 p9 p10
 refine wp_region_two (G := w.heap.size + 4) 4 (.int .i64 (0)) (.int .i64 (1)) (by kernel_rfl) (by kernel_rfl) rfl (by kernel_rfl) HB.out (Nat.le_add_right _ _) r0 r1 f0 f1 ?_
 apply Exists.intro
 refine ⟨fun W hk => ?_, ?_, ?_, ?_⟩
 · have e0 := hk _ _ _ (by omega) b0; have e1 := hk _ _ _ (by omega) b4; have e2 := hk _ _ _ (by omega) b5; have e3 := hk _ _ _ (by omega) b6; have e4 := hk _ _ _ (by omega) b7; have e5 := hk _ _ _ (by omega) d0; have e6 := hk _ _ _ (by omega) d1; have e7 := hk _ _ _ (by omega) d2; have e8 := hk _ _ _ (by omega) d3; have e9 := hk _ _ _ (by omega) d4; have e10 := hk _ _ _ (by omega) d5
   clear hk
   simp only [List.take_succ_cons, List.take_zero]
   repeat (go_big_quiet_step (first | (go_at_call 60; exact Calls.later (words_calls _ _))))
   exact wpQuiet_nil rfl
 · rfl
 · intro u s0 s1 t0 t1
   go_simp
 · intro u hb s0 s1
   have hbel := Lib.hid hb
   simp only [List.drop_succ_cons, List.drop_zero]
   clear r0 r1 f0 f1 hb
   go_wp2
   exact bodyPost_ret (v := .tuple #[.agg #[.int .i64 (0), .int .i64 (1)], .bool true]) (by simp [results, Tryz.results95, go_sem, s0, s1]) rfl (respost_some HR.out hbel.out)
theorem sortOf_t_0 (kind n m aw bw ci cw xa xb xc xi xw : Int) (nm : ByteArray) (w : World) (hk : 6 ≤ kind ∧ kind ≤ 20) (h : (aw == bw) = false) :
 Calls Tryz.prog 95 #[.agg #[.int .i64 kind, .int .i64 xa, .int .i64 xb, .int .i64 xc, .int .i64 n, .int .i64 m, .int .i64 xi, .int .i64 xw, .string nm], .agg #[.int .i64 0, .int .i64 aw], .agg #[.int .i64 0, .int .i64 bw], .agg #[.int .i64 ci, .int .i64 cw]] w (ResPost (resN kind n m 0 aw 0 bw ci cw) w) := by
 have HR := Lib.hid (show (resN kind n m 0 aw 0 bw ci cw) = none by unfold resN; rw [if_neg (by omega), if_neg (by omega), if_neg (by omega), if_neg (by omega), if_neg (by simp), if_neg (by omega), if_neg (by omega), if_neg (by omega), if_neg (by omega), if_neg (by omega)]; rw [if_neg (beq_eq_false_iff_ne.1 h)])
 have k33 : (kind == 33) = false := beq_eq_false_iff_ne.2 (by omega)
 have k34 : (kind == 34) = false := beq_eq_false_iff_ne.2 (by omega)
 have k35 : (kind == 35) = false := beq_eq_false_iff_ne.2 (by omega)
 have k36 : (kind == 36) = false := beq_eq_false_iff_ne.2 (by omega)
 have k37 : (kind == 37) = false := beq_eq_false_iff_ne.2 (by omega)
 have k38 : (kind == 38) = false := beq_eq_false_iff_ne.2 (by omega)
 have k21 : (kind == 21) = false := beq_eq_false_iff_ne.2 (by omega)
 have k1 : (kind == 1) = false := beq_eq_false_iff_ne.2 (by omega)
 have k2 : (kind == 2) = false := beq_eq_false_iff_ne.2 (by omega)
 have k30 : (kind == 30) = false := beq_eq_false_iff_ne.2 (by omega)
 have k31 : (kind == 31) = false := beq_eq_false_iff_ne.2 (by omega)
 have k32 : (kind == 32) = false := beq_eq_false_iff_ne.2 (by omega)
 have k29 : (kind == 29) = false := beq_eq_false_iff_ne.2 (by omega)
 have HI := Lib.hid (show inB kind 3 5 = false from inB_no (by omega))
 have HJ := Lib.hid (show inB kind 21 28 = false from inB_no (by omega))
 clear hk
 go_enter Tryz.func95, Tryz.ntmps95
 go_upto_region 1 with fail
 obtain ⟨w2, hw2, HB, b0, b4, b5, b6, b7, d0, d1, d2, d3, d4, d5, r0, r1, f0, f1⟩ := sort_world kind n m 0 aw 0 bw ci cw xa xb xc xi xw nm w
 rw [hw2]
 clear hw2
 have p0 := here b0; have p1 := here b4; have p2 := here b5; have p3 := here b6; have p4 := here b7; have p5 := here d0; have p6 := here d1; have p7 := here d2; have p8 := here d3; have p9 := here d4; have p10 := here d5
 go_wp2_with (first | (go_at_call 84; with_reducible refine (in_same kind 3 5 _).mono ?_; rintro e w' ⟨rfl, rfl⟩; rw [HI.out]) | (go_at_call 84; with_reducible refine (in_same kind 21 28 _).mono ?_; rintro e w' ⟨rfl, rfl⟩; rw [HJ.out]))
 clear p0 p1 p2 p3 p4 p5 p6 p7 p8 p9 p10
 refine wp_region_two (G := w.heap.size + 4) 4 (.int .i64 (0)) (.int .i64 (aw)) (by kernel_rfl) (by kernel_rfl) rfl (by kernel_rfl) HB.out (Nat.le_add_right _ _) r0 r1 f0 f1 ?_
 apply Exists.intro
 refine ⟨fun W hk => ?_, ?_, ?_, ?_⟩
 · have e0 := hk _ _ _ (by omega) b0; have e1 := hk _ _ _ (by omega) b4; have e2 := hk _ _ _ (by omega) b5; have e3 := hk _ _ _ (by omega) b6; have e4 := hk _ _ _ (by omega) b7; have e5 := hk _ _ _ (by omega) d0; have e6 := hk _ _ _ (by omega) d1; have e7 := hk _ _ _ (by omega) d2; have e8 := hk _ _ _ (by omega) d3; have e9 := hk _ _ _ (by omega) d4; have e10 := hk _ _ _ (by omega) d5
   clear hk
   simp only [List.take_succ_cons, List.take_zero]
   repeat (go_big_quiet_step (first | (go_at_call 60; exact Calls.later (words_calls _ _))))
   exact wpQuiet_nil rfl
 · rfl
 · intro u s0 s1 t0 t1
   go_simp
 · intro u hb s0 s1
   have hbel := Lib.hid hb
   simp only [List.drop_succ_cons, List.drop_zero]
   clear r0 r1 f0 f1 hb
   go_wp2
   exact bodyPost_ret (v := .tuple #[.agg #[.int .i64 (0), .int .i64 (aw)], .bool false]) (by simp [results, Tryz.results95, go_sem, s0, s1]) rfl (respost_none HR.out hbel.out)
theorem sortOf_t_1 (kind n m aw bw ci cw xa xb xc xi xw : Int) (nm : ByteArray) (w : World) (hk : 6 ≤ kind ∧ kind ≤ 20) (h : (aw == bw) = true) :
 Calls Tryz.prog 95 #[.agg #[.int .i64 kind, .int .i64 xa, .int .i64 xb, .int .i64 xc, .int .i64 n, .int .i64 m, .int .i64 xi, .int .i64 xw, .string nm], .agg #[.int .i64 0, .int .i64 aw], .agg #[.int .i64 0, .int .i64 bw], .agg #[.int .i64 ci, .int .i64 cw]] w (ResPost (resN kind n m 0 aw 0 bw ci cw) w) := by
 have HR := Lib.hid (show (resN kind n m 0 aw 0 bw ci cw) = some (0, aw) by unfold resN; rw [if_neg (by omega), if_neg (by omega), if_neg (by omega), if_neg (by omega), if_neg (by simp), if_neg (by omega), if_neg (by omega), if_neg (by omega), if_neg (by omega), if_neg (by omega)]; rw [if_pos (beq_iff_eq.1 h)]; rw [if_pos hk.2])
 have k33 : (kind == 33) = false := beq_eq_false_iff_ne.2 (by omega)
 have k34 : (kind == 34) = false := beq_eq_false_iff_ne.2 (by omega)
 have k35 : (kind == 35) = false := beq_eq_false_iff_ne.2 (by omega)
 have k36 : (kind == 36) = false := beq_eq_false_iff_ne.2 (by omega)
 have k37 : (kind == 37) = false := beq_eq_false_iff_ne.2 (by omega)
 have k38 : (kind == 38) = false := beq_eq_false_iff_ne.2 (by omega)
 have k21 : (kind == 21) = false := beq_eq_false_iff_ne.2 (by omega)
 have k1 : (kind == 1) = false := beq_eq_false_iff_ne.2 (by omega)
 have k2 : (kind == 2) = false := beq_eq_false_iff_ne.2 (by omega)
 have k30 : (kind == 30) = false := beq_eq_false_iff_ne.2 (by omega)
 have k31 : (kind == 31) = false := beq_eq_false_iff_ne.2 (by omega)
 have k32 : (kind == 32) = false := beq_eq_false_iff_ne.2 (by omega)
 have k29 : (kind == 29) = false := beq_eq_false_iff_ne.2 (by omega)
 have HI := Lib.hid (show inB kind 3 5 = false from inB_no (by omega))
 have HJ := Lib.hid (show inB kind 21 28 = false from inB_no (by omega))
 clear hk
 go_enter Tryz.func95, Tryz.ntmps95
 go_upto_region 1 with fail
 obtain ⟨w2, hw2, HB, b0, b4, b5, b6, b7, d0, d1, d2, d3, d4, d5, r0, r1, f0, f1⟩ := sort_world kind n m 0 aw 0 bw ci cw xa xb xc xi xw nm w
 rw [hw2]
 clear hw2
 have p0 := here b0; have p1 := here b4; have p2 := here b5; have p3 := here b6; have p4 := here b7; have p5 := here d0; have p6 := here d1; have p7 := here d2; have p8 := here d3; have p9 := here d4; have p10 := here d5
 go_wp2_with (first | (go_at_call 84; with_reducible refine (in_same kind 3 5 _).mono ?_; rintro e w' ⟨rfl, rfl⟩; rw [HI.out]) | (go_at_call 84; with_reducible refine (in_same kind 21 28 _).mono ?_; rintro e w' ⟨rfl, rfl⟩; rw [HJ.out]))
 clear p0 p1 p2 p3 p4 p5 p6 p7 p8 p9 p10
 refine wp_region_two (G := w.heap.size + 4) 4 (.int .i64 (0)) (.int .i64 (aw)) (by kernel_rfl) (by kernel_rfl) rfl (by kernel_rfl) HB.out (Nat.le_add_right _ _) r0 r1 f0 f1 ?_
 apply Exists.intro
 refine ⟨fun W hk => ?_, ?_, ?_, ?_⟩
 · have e0 := hk _ _ _ (by omega) b0; have e1 := hk _ _ _ (by omega) b4; have e2 := hk _ _ _ (by omega) b5; have e3 := hk _ _ _ (by omega) b6; have e4 := hk _ _ _ (by omega) b7; have e5 := hk _ _ _ (by omega) d0; have e6 := hk _ _ _ (by omega) d1; have e7 := hk _ _ _ (by omega) d2; have e8 := hk _ _ _ (by omega) d3; have e9 := hk _ _ _ (by omega) d4; have e10 := hk _ _ _ (by omega) d5
   clear hk
   simp only [List.take_succ_cons, List.take_zero]
   repeat (go_big_quiet_step (first | (go_at_call 60; exact Calls.later (words_calls _ _))))
   exact wpQuiet_nil rfl
 · rfl
 · intro u s0 s1 t0 t1
   go_simp
 · intro u hb s0 s1
   have hbel := Lib.hid hb
   simp only [List.drop_succ_cons, List.drop_zero]
   clear r0 r1 f0 f1 hb
   go_wp2
   exact bodyPost_ret (v := .tuple #[.agg #[.int .i64 (0), .int .i64 (aw)], .bool true]) (by simp [results, Tryz.results95, go_sem, s0, s1]) rfl (respost_some HR.out hbel.out)
end Go.Proofs.YtdojaijnejcoiaaGreat
namespace Go.Proofs.YtdojaijnejcoiaaGreat
open Go.RowKit
def allSort (kind n m ai aw bi bw ci cw xi xw : Int) : Option (Int × Int) :=
 if partsN kind = 0 then (if (if (kind == 34) = true then (xi == 0 && wokB xw n) else sokB xi xw) = true then some (xi, xw) else none)
 else resN kind n m ai aw bi bw ci cw
theorem kinds0 {k : Int} (h : partsN k = 0) : k = 34 ∨ k = 35 ∨ k = 36 := by
 unfold partsN at h
 split at h
 · omega
 · split at h
   · omega
   · split at h
     · omega
     · split at h <;> omega
theorem sortOf_calls (kind n m ai aw bi bw ci cw xa xb xc xi xw : Int) (nm : ByteArray) (w : World) (hk : 0 ≤ partsN kind)
 (hs0 : 0 < partsN kind → Sok ai aw) (hs1 : 1 < partsN kind → Sok bi bw) (hz : partsN kind ≤ 1 → bi = 0 ∧ bw = 0) :
 Calls Tryz.prog 95 #[.agg #[.int .i64 kind, .int .i64 xa, .int .i64 xb, .int .i64 xc, .int .i64 n, .int .i64 m, .int .i64 xi, .int .i64 xw, .string nm], .agg #[.int .i64 ai, .int .i64 aw], .agg #[.int .i64 bi, .int .i64 bw], .agg #[.int .i64 ci, .int .i64 cw]] w (ResPost (allSort kind n m ai aw bi bw ci cw xi xw) w) := by
 have hle := partsN_le kind
 have hbf : ∀ {a b : Int}, ¬ a = b → (a == b) = false := fun h => beq_eq_false_iff_ne.2 h
 rcases (show partsN kind = 0 ∨ partsN kind = 1 ∨ partsN kind = 2 ∨ partsN kind = 3 by omega) with h | h | h | h
 · rcases kinds0 h with rfl | rfl | rfl
   · by_cases h0 : (xi == 0) = true
     · by_cases h1 : wokB xw n = true
       · exact sortOf_34_2 n m ai aw bi bw ci cw xa xb xc xi xw nm w _ (by unfold allSort; rw [if_pos h]; show (if (xi == 0 && wokB xw n) = true then some (xi, xw) else none) = _; rw [h0, h1]; rfl) h0 h1
       · have h1 := eq_false_of_ne_true h1
         exact sortOf_34_1 n m ai aw bi bw ci cw xa xb xc xi xw nm w _ (by unfold allSort; rw [if_pos h]; show (if (xi == 0 && wokB xw n) = true then some (xi, xw) else none) = _; rw [h0, h1]; rfl) h0 h1
     · have h0 := eq_false_of_ne_true h0
       exact sortOf_34_0 n m ai aw bi bw ci cw xa xb xc xi xw nm w _ (by unfold allSort; rw [if_pos h]; show (if (xi == 0 && wokB xw n) = true then some (xi, xw) else none) = _; rw [h0]; rfl) h0
   · by_cases h1 : sokB xi xw = true
     · exact sortOf_35_true n m ai aw bi bw ci cw xa xb xc xi xw nm w _ (by unfold allSort; rw [if_pos h]; show (if sokB xi xw = true then some (xi, xw) else none) = _; rw [h1]; rfl) h1
     · have h1 := eq_false_of_ne_true h1
       exact sortOf_35_false n m ai aw bi bw ci cw xa xb xc xi xw nm w _ (by unfold allSort; rw [if_pos h]; show (if sokB xi xw = true then some (xi, xw) else none) = _; rw [h1]; rfl) h1
   · by_cases h1 : sokB xi xw = true
     · exact sortOf_36_true n m ai aw bi bw ci cw xa xb xc xi xw nm w _ (by unfold allSort; rw [if_pos h]; show (if sokB xi xw = true then some (xi, xw) else none) = _; rw [h1]; rfl) h1
     · have h1 := eq_false_of_ne_true h1
       exact sortOf_36_false n m ai aw bi bw ci cw xa xb xc xi xw nm w _ (by unfold allSort; rw [if_pos h]; show (if sokB xi xw = true then some (xi, xw) else none) = _; rw [h1]; rfl) h1
 · rw [show allSort kind n m ai aw bi bw ci cw xi xw = resN kind n m ai aw bi bw ci cw by unfold allSort; rw [if_neg (by omega)]]
   obtain ⟨i0, a1, a16⟩ := hs0 (by omega)
   obtain ⟨rfl, rfl⟩ := hz (by omega)
   by_cases ha : ai = 0
   · subst ha
     rcases kinds1 h with hk | rfl | rfl | rfl
     · rcases (show kind = 1 ∨ kind = 2 ∨ (3 ≤ kind ∧ kind ≤ 5) by omega) with rfl | rfl | hk
       · exact sortOf_w1 n m aw 0 ci cw xa xb xc xi xw nm w
       · exact sortOf_w2 n m aw 0 ci cw xa xb xc xi xw nm w
       · exact sortOf_w3 kind n m aw 0 ci cw xa xb xc xi xw nm w hk
     · by_cases h1 : inB n 0 (aw - 1) = true
       · by_cases h2 : inB m 0 n = true
         · exact sortOf_30_2 n m aw 0 ci cw xa xb xc xi xw nm w a1 a16 h1 h2
         · exact sortOf_30_1 n m aw 0 ci cw xa xb xc xi xw nm w a1 a16 h1 (eq_false_of_ne_true h2)
       · exact sortOf_30_0 n m aw 0 ci cw xa xb xc xi xw nm w a1 a16 (eq_false_of_ne_true h1)
     · by_cases h1 : inB n 0 (16 - aw) = true
       · exact sortOf_31_1 n m aw 0 ci cw xa xb xc xi xw nm w a1 a16 h1
       · exact sortOf_31_0 n m aw 0 ci cw xa xb xc xi xw nm w a1 a16 (eq_false_of_ne_true h1)
     · by_cases h1 : inB n 0 (16 - aw) = true
       · exact sortOf_32_1 n m aw 0 ci cw xa xb xc xi xw nm w a1 a16 h1
       · exact sortOf_32_0 n m aw 0 ci cw xa xb xc xi xw nm w a1 a16 (eq_false_of_ne_true h1)
   · have hk1 := kinds1 h
     exact sortOf_ia kind n m ai aw 0 0 ci cw xa xb xc xi xw nm w (hbf (by omega)) (hbf (by omega)) (hbf (by omega)) (hbf (by omega)) (hbf (by omega)) (hbf (by omega)) (hbf (by omega)) ha
 · rw [show allSort kind n m ai aw bi bw ci cw xi xw = resN kind n m ai aw bi bw ci cw by unfold allSort; rw [if_neg (by omega)]]
   obtain ⟨i0, a1, a16⟩ := hs0 (by omega)
   obtain ⟨j0, b1, b16⟩ := hs1 (by omega)
   rcases kinds2 h with hk | rfl | rfl | rfl
   · by_cases ha : ai = 0
     · by_cases hb : bi = 0
       · subst ha; subst hb
         rcases (show (22 ≤ kind ∧ kind ≤ 28) ∨ (6 ≤ kind ∧ kind ≤ 20) by omega) with hk | hk
         · by_cases h1 : (aw == bw) = true
           · exact sortOf_s_1 kind n m aw bw ci cw xa xb xc xi xw nm w hk h1
           · exact sortOf_s_0 kind n m aw bw ci cw xa xb xc xi xw nm w hk (eq_false_of_ne_true h1)
         · by_cases h1 : (aw == bw) = true
           · exact sortOf_t_1 kind n m aw bw ci cw xa xb xc xi xw nm w hk h1
           · exact sortOf_t_0 kind n m aw bw ci cw xa xb xc xi xw nm w hk (eq_false_of_ne_true h1)
       · subst ha
         exact sortOf_ib kind n m aw bi bw ci cw xa xb xc xi xw nm w (hbf (by omega)) (hbf (by omega)) (hbf (by omega)) (hbf (by omega)) (hbf (by omega)) (hbf (by omega)) (hbf (by omega)) hb
     · exact sortOf_ia kind n m ai aw bi bw ci cw xa xb xc xi xw nm w (hbf (by omega)) (hbf (by omega)) (hbf (by omega)) (hbf (by omega)) (hbf (by omega)) (hbf (by omega)) (hbf (by omega)) ha
   · exact sortOf_21 n m ai aw bi bw ci cw xa xb xc xi xw nm w
   · by_cases ha : ai = 0
     · by_cases hb : bi = 0
       · subst ha; subst hb
         by_cases h1 : aw + bw ≤ 16
         · exact sortOf_29_1 n m aw bw ci cw xa xb xc xi xw nm w a1 a16 b1 b16 h1
         · exact sortOf_29_0 n m aw bw ci cw xa xb xc xi xw nm w a1 a16 b1 b16 h1
       · subst ha
         exact sortOf_ib 29 n m aw bi bw ci cw xa xb xc xi xw nm w (hbf (by omega)) (hbf (by omega)) (hbf (by omega)) (hbf (by omega)) (hbf (by omega)) (hbf (by omega)) (hbf (by omega)) hb
     · exact sortOf_ia 29 n m ai aw bi bw ci cw xa xb xc xi xw nm w (hbf (by omega)) (hbf (by omega)) (hbf (by omega)) (hbf (by omega)) (hbf (by omega)) (hbf (by omega)) (hbf (by omega)) ha
   · exact sortOf_37 n m ai aw bi bw ci cw xa xb xc xi xw nm w
 · rw [show allSort kind n m ai aw bi bw ci cw xi xw = resN kind n m ai aw bi bw ci cw by unfold allSort; rw [if_neg (by omega)]]
   rcases kinds3 h with rfl | rfl
   · exact sortOf_33 n m ai aw bi bw ci cw xa xb xc xi xw nm w
   · exact sortOf_38 n m ai aw bi bw ci cw xa xb xc xi xw nm w
end Go.Proofs.YtdojaijnejcoiaaGreat
namespace Go.Proofs.YtdojaijnejcoiaaGreat
open Go.RowKit
theorem or_turn {kd : Int} : (kd == 30 || kd == 31 || kd == 32 || kd == 34) = (kd == 34 || kd == 30 || kd == 31 || kd == 32) := by
 generalize (kd == 30) = b1
 generalize (kd == 31) = b2
 generalize (kd == 32) = b3
 generalize (kd == 34) = b4
 cases b1 <;> cases b2 <;> cases b3 <;> cases b4 <;> rfl
theorem formed_calls (n : Nat) (x : Nd) (w : World) (hn : n ≤ 281474976710656) (hs : x.name.size ≤ 140737488351232) :
 Makes Tryz.prog 93 #[.agg #[.int .i64 x.kind, .int .i64 x.a, .int .i64 x.b, .int .i64 x.c, .int .i64 x.n, .int .i64 x.m, .int .i64 x.idx, .int .i64 x.wid, .string x.name], .int .i64 n] w (.bool (fieldsB n x)) := by
 by_cases hneg : partsN x.kind < 0
 · have HR := Lib.hid (fields_neg (len := n) hneg)
   go_enter Tryz.func93, Tryz.ntmps93
   go_wp2_with (go_at_call 63; refine (parts_same _ _).mono ?_; rintro e w' ⟨rfl, rfl⟩)
   go_ret
   exact ⟨ret_eq (congrArg Value.bool HR.out.symm), by repeat (first | exact Below.refl _ _ | refine Below.alloc ?_ (by simp) _)⟩
 · have HREST := Lib.hid (fields_rest (len := n) hneg)
   have HPART := Lib.hid (show ∀ i, i < 3 → partB (partsN x.kind) n i (x.part i) = false → fieldsB n x = false from fun i hi h => fields_part hi h)
   go_enter Tryz.func93, Tryz.ntmps93
   go_wp2_with (go_at_call 63; refine (parts_same _ _).mono ?_; rintro e w' ⟨rfl, rfl⟩)
   generalize hpk : partsN x.kind = pk at *
   have HPK := Lib.hid hpk
   clear hpk hneg
   go_loop [22] (fun i => ∃ k : Nat, k ≤ 3 ∧ i = .int .i64 k ∧ Hid (partsTo pk n x k)) (fun i => 3 - (intOf i).toNat)
   case atStart => exact ⟨0, Nat.zero_le _, rfl, Lib.hid (fun i hi => absurd hi (Nat.not_lt_zero _))⟩
   case round =>
    obtain ⟨k, hk, rfl, hto⟩ := hrel
    by_cases hlt : k < 3
    · have hgood : partB pk n k (x.part k) = true → Hid (partsTo pk n x (k + 1)) := fun h => Lib.hid (fun i hi => by
       rcases Nat.lt_or_ge i k with g | g
       · exact hto.out i g
       · obtain rfl : i = k := by omega
         exact h)
      have hbad : partB pk n k (x.part k) = false → Hid (fieldsB n x = false) := fun h => Lib.hid (HPART.out k hlt h)
      clear hto
      rcases (show k = 0 ∨ k = 1 ∨ k = 2 by omega) with rfl | rfl | rfl
      · by_cases h1 : (0 : Int) < pk
        · have h2 : ¬ pk ≤ (0 : Int) := by omega
          by_cases h3 : inB x.a 0 ((n : Int) - 1) = true
          · have HG := hgood (by unfold partB; rw [if_pos (by omega)]; exact h3)
            have HI := Lib.hid h3
            clear hgood hbad h3
            go_wp2_with (go_at_call 84; refine (in_same _ _ _ _).mono ?_; rintro e w' ⟨rfl, rfl⟩; rw [HI.out])
            go_round
            case rel => exact ⟨1, by omega, rfl, HG⟩
            case measure => simp [intOf]
          · have HI := Lib.hid (eq_false_of_ne_true h3)
            have HR := hbad (by unfold partB; rw [if_pos (by omega)]; exact HI.out)
            clear hgood hbad h3
            go_wp2_with (go_at_call 84; refine (in_same _ _ _ _).mono ?_; rintro e w' ⟨rfl, rfl⟩; rw [HI.out])
            go_ret
            exact ⟨ret_eq (congrArg Value.bool HR.out.symm), by repeat (first | exact Below.refl _ _ | refine Below.alloc ?_ (by simp) _)⟩
        · have h2 : pk ≤ (0 : Int) := by omega
          by_cases h3 : x.a = 0
          · have HG := hgood (by unfold partB; rw [if_neg (by omega)]; exact beq_iff_eq.2 h3)
            have h4 : (x.a != 0) = false := by rw [h3]; rfl
            clear hgood hbad h3
            go_wp2_with fail
            go_round
            case rel => exact ⟨1, by omega, rfl, HG⟩
            case measure => simp [intOf]
          · have h4 : (x.a != 0) = true := bne_iff_ne.2 h3
            have HR := hbad (by unfold partB; rw [if_neg (by omega)]; exact beq_eq_false_iff_ne.2 h3)
            clear hgood hbad h3
            go_wp2_with fail
            go_ret
            exact ⟨ret_eq (congrArg Value.bool HR.out.symm), by repeat (first | exact Below.refl _ _ | refine Below.alloc ?_ (by simp) _)⟩
      · by_cases h1 : (1 : Int) < pk
        · have h2 : ¬ pk ≤ (1 : Int) := by omega
          by_cases h3 : inB x.b 0 ((n : Int) - 1) = true
          · have HG := hgood (by unfold partB; rw [if_pos (by omega)]; exact h3)
            have HI := Lib.hid h3
            clear hgood hbad h3
            go_wp2_with (go_at_call 84; refine (in_same _ _ _ _).mono ?_; rintro e w' ⟨rfl, rfl⟩; rw [HI.out])
            go_round
            case rel => exact ⟨2, by omega, rfl, HG⟩
            case measure => simp [intOf]
          · have HI := Lib.hid (eq_false_of_ne_true h3)
            have HR := hbad (by unfold partB; rw [if_pos (by omega)]; exact HI.out)
            clear hgood hbad h3
            go_wp2_with (go_at_call 84; refine (in_same _ _ _ _).mono ?_; rintro e w' ⟨rfl, rfl⟩; rw [HI.out])
            go_ret
            exact ⟨ret_eq (congrArg Value.bool HR.out.symm), by repeat (first | exact Below.refl _ _ | refine Below.alloc ?_ (by simp) _)⟩
        · have h2 : pk ≤ (1 : Int) := by omega
          by_cases h3 : x.b = 0
          · have HG := hgood (by unfold partB; rw [if_neg (by omega)]; exact beq_iff_eq.2 h3)
            have h4 : (x.b != 0) = false := by rw [h3]; rfl
            clear hgood hbad h3
            go_wp2_with fail
            go_round
            case rel => exact ⟨2, by omega, rfl, HG⟩
            case measure => simp [intOf]
          · have h4 : (x.b != 0) = true := bne_iff_ne.2 h3
            have HR := hbad (by unfold partB; rw [if_neg (by omega)]; exact beq_eq_false_iff_ne.2 h3)
            clear hgood hbad h3
            go_wp2_with fail
            go_ret
            exact ⟨ret_eq (congrArg Value.bool HR.out.symm), by repeat (first | exact Below.refl _ _ | refine Below.alloc ?_ (by simp) _)⟩
      · by_cases h1 : (2 : Int) < pk
        · have h2 : ¬ pk ≤ (2 : Int) := by omega
          by_cases h3 : inB x.c 0 ((n : Int) - 1) = true
          · have HG := hgood (by unfold partB; rw [if_pos (by omega)]; exact h3)
            have HI := Lib.hid h3
            clear hgood hbad h3
            go_wp2_with (go_at_call 84; refine (in_same _ _ _ _).mono ?_; rintro e w' ⟨rfl, rfl⟩; rw [HI.out])
            go_round
            case rel => exact ⟨3, by omega, rfl, HG⟩
            case measure => simp [intOf]
          · have HI := Lib.hid (eq_false_of_ne_true h3)
            have HR := hbad (by unfold partB; rw [if_pos (by omega)]; exact HI.out)
            clear hgood hbad h3
            go_wp2_with (go_at_call 84; refine (in_same _ _ _ _).mono ?_; rintro e w' ⟨rfl, rfl⟩; rw [HI.out])
            go_ret
            exact ⟨ret_eq (congrArg Value.bool HR.out.symm), by repeat (first | exact Below.refl _ _ | refine Below.alloc ?_ (by simp) _)⟩
        · have h2 : pk ≤ (2 : Int) := by omega
          by_cases h3 : x.c = 0
          · have HG := hgood (by unfold partB; rw [if_neg (by omega)]; exact beq_iff_eq.2 h3)
            have h4 : (x.c != 0) = false := by rw [h3]; rfl
            clear hgood hbad h3
            go_wp2_with fail
            go_round
            case rel => exact ⟨3, by omega, rfl, HG⟩
            case measure => simp [intOf]
          · have h4 : (x.c != 0) = true := bne_iff_ne.2 h3
            have HR := hbad (by unfold partB; rw [if_neg (by omega)]; exact beq_eq_false_iff_ne.2 h3)
            clear hgood hbad h3
            go_wp2_with fail
            go_ret
            exact ⟨ret_eq (congrArg Value.bool HR.out.symm), by repeat (first | exact Below.refl _ _ | refine Below.alloc ?_ (by simp) _)⟩
    · obtain rfl : k = 3 := by omega
      have HR := Lib.hid (HREST.out hto.out)
      clear hto HPART HREST
      have c0 : ((w.alloc (Obj.cells #[.int .i64 x.kind, .int .i64 x.a, .int .i64 x.b, .int .i64 x.c, .int .i64 x.n, .int .i64 x.m, .int .i64 x.idx, .int .i64 x.wid, .string x.name] 46)).alloc (Obj.cells #[.int .i64 x.a, .int .i64 x.b, .int .i64 x.c] 3)).cell? ⟨w.heap.size, 0, none⟩ = some (.int .i64 x.kind) := by go_simp
      have c4 : ((w.alloc (Obj.cells #[.int .i64 x.kind, .int .i64 x.a, .int .i64 x.b, .int .i64 x.c, .int .i64 x.n, .int .i64 x.m, .int .i64 x.idx, .int .i64 x.wid, .string x.name] 46)).alloc (Obj.cells #[.int .i64 x.a, .int .i64 x.b, .int .i64 x.c] 3)).cell? ⟨w.heap.size, 4, none⟩ = some (.int .i64 x.n) := by go_simp
      have c5 : ((w.alloc (Obj.cells #[.int .i64 x.kind, .int .i64 x.a, .int .i64 x.b, .int .i64 x.c, .int .i64 x.n, .int .i64 x.m, .int .i64 x.idx, .int .i64 x.wid, .string x.name] 46)).alloc (Obj.cells #[.int .i64 x.a, .int .i64 x.b, .int .i64 x.c] 3)).cell? ⟨w.heap.size, 5, none⟩ = some (.int .i64 x.m) := by go_simp
      have c7 : ((w.alloc (Obj.cells #[.int .i64 x.kind, .int .i64 x.a, .int .i64 x.b, .int .i64 x.c, .int .i64 x.n, .int .i64 x.m, .int .i64 x.idx, .int .i64 x.wid, .string x.name] 46)).alloc (Obj.cells #[.int .i64 x.a, .int .i64 x.b, .int .i64 x.c] 3)).cell? ⟨w.heap.size, 8, none⟩ = some (.string x.name) := by go_simp
      have HB := Lib.hid (show Below w.heap.size w ((w.alloc (Obj.cells #[.int .i64 x.kind, .int .i64 x.a, .int .i64 x.b, .int .i64 x.c, .int .i64 x.n, .int .i64 x.m, .int .i64 x.idx, .int .i64 x.wid, .string x.name] 46)).alloc (Obj.cells #[.int .i64 x.a, .int .i64 x.b, .int .i64 x.c] 3)) from (box_below _ _ _).alloc (by simp) _)
      generalize ((w.alloc (Obj.cells #[.int .i64 x.kind, .int .i64 x.a, .int .i64 x.b, .int .i64 x.c, .int .i64 x.n, .int .i64 x.m, .int .i64 x.idx, .int .i64 x.wid, .string x.name] 46)).alloc (Obj.cells #[.int .i64 x.a, .int .i64 x.b, .int .i64 x.c] 3)) = w1 at *
      generalize hfr : fieldsB n x = R at HR
      have HFR := Lib.hid hfr
      clear hfr
      unfold nameOkB mOkB nOkB at HR
      generalize x.kind = kd at *
      generalize x.name = nm at *
      generalize x.m = xm at *
      generalize x.n = xn at *
      rw [in3536 kd, or_turn] at HR
      have HND := Lib.hid (in3536 kd)
      go_upto_region 10 with fail
      go_cut [8] (fun c wx => c = .bool (kd == 34 || kd == 30 || kd == 31 || kd == 32) ∧ wx = w1)
      case first =>
       by_cases h34 : (kd == 34) = true
       · have HW := Lib.hid (show (kd == 34 || kd == 30 || kd == 31 || kd == 32) = true by rw [h34]; simp)
         go_wp2
         go_meet
         case rel => exact ⟨congrArg Value.bool HW.out.symm, rfl⟩
       · have h34 := eq_false_of_ne_true h34
         by_cases h30 : (kd == 30) = true
         · have HW := Lib.hid (show (kd == 34 || kd == 30 || kd == 31 || kd == 32) = true by rw [h34, h30]; simp)
           go_wp2
           go_meet
           case rel => exact ⟨congrArg Value.bool HW.out.symm, rfl⟩
         · have h30 := eq_false_of_ne_true h30
           by_cases h31 : (kd == 31) = true
           · have HW := Lib.hid (show (kd == 34 || kd == 30 || kd == 31 || kd == 32) = true by rw [h34, h30, h31]; simp)
             go_wp2
             go_meet
             case rel => exact ⟨congrArg Value.bool HW.out.symm, rfl⟩
           · have h31 := eq_false_of_ne_true h31
             by_cases h32 : (kd == 32) = true
             · have HW := Lib.hid (show (kd == 34 || kd == 30 || kd == 31 || kd == 32) = true by rw [h34, h30, h31, h32]; simp)
               go_wp2
               go_meet
               case rel => exact ⟨congrArg Value.bool HW.out.symm, rfl⟩
             · have h32 := eq_false_of_ne_true h32
               have HW := Lib.hid (show (kd == 34 || kd == 30 || kd == 31 || kd == 32) = false by rw [h34, h30, h31, h32]; rfl)
               go_wp2
               go_meet
               case rel => exact ⟨congrArg Value.bool HW.out.symm, rfl⟩
      case rest =>
       obtain ⟨rfl, rfl⟩ := hcut
       generalize hct : (kd == 34 || kd == 30 || kd == 31 || kd == 32) = ct at *
       clear hct HPK hk hlt
       obtain ⟨nd, hnd⟩ : ∃ b, b = (kd == 35 || kd == 36) := ⟨_, rfl⟩
       have HND2 := Lib.hid (HND.out.trans hnd.symm)
       rw [← hnd] at HR
       clear hnd HND
       obtain ⟨bn, hbn⟩ : ∃ b, b = nameB nm := ⟨_, rfl⟩
       have HBN := Lib.hid hbn.symm
       clear hbn
       rw [HBN.out] at HR
       cases ct
       · by_cases hn0 : (xn == 0) = true
         · skip
           by_cases h30 : (kd == 30) = true
           · skip
             cases nd
             · by_cases hz : nm.toList = []
               · have hsz := size_zero hz
                 have hsz2 : nm.size = 0 := by simpa using hsz
                 have HV := Lib.hid (show R = true by rw [HR.out]; simp [hn0, h30, hsz2])
                 clear HR
                 go_wp2_with (first | (go_at_call 81; refine (named_same _ _).mono ?_; rintro e w' ⟨rfl, rfl⟩; rw [HND2.out]) | (go_at_call 104; refine (isName_same _ _ hs).mono ?_; rintro e w' ⟨rfl, rfl⟩; rw [HBN.out]))
                 go_ret
                 exact ⟨ret_eq (congrArg Value.bool (HFR.out.trans HV.out).symm), HB.out⟩
               · have hz2 : nm.toList.isEmpty = false := by simpa using hz
                 have hsz := size_pos hz
                 have hsz2 : ¬ nm.size = 0 := by simpa using hsz
                 have HV := Lib.hid (show R = false by rw [HR.out]; simp [hn0, h30, hsz2])
                 clear HR
                 go_wp2_with (first | (go_at_call 81; refine (named_same _ _).mono ?_; rintro e w' ⟨rfl, rfl⟩; rw [HND2.out]) | (go_at_call 104; refine (isName_same _ _ hs).mono ?_; rintro e w' ⟨rfl, rfl⟩; rw [HBN.out]))
                 go_ret
                 exact ⟨ret_eq (congrArg Value.bool (HFR.out.trans HV.out).symm), HB.out⟩
             · cases bn
               · skip
                 have HV := Lib.hid (show R = false by rw [HR.out]; simp [hn0, h30])
                 clear HR
                 go_wp2_with (first | (go_at_call 81; refine (named_same _ _).mono ?_; rintro e w' ⟨rfl, rfl⟩; rw [HND2.out]) | (go_at_call 104; refine (isName_same _ _ hs).mono ?_; rintro e w' ⟨rfl, rfl⟩; rw [HBN.out]))
                 go_ret
                 exact ⟨ret_eq (congrArg Value.bool (HFR.out.trans HV.out).symm), HB.out⟩
               · skip
                 have HV := Lib.hid (show R = true by rw [HR.out]; simp [hn0, h30])
                 clear HR
                 go_wp2_with (first | (go_at_call 81; refine (named_same _ _).mono ?_; rintro e w' ⟨rfl, rfl⟩; rw [HND2.out]) | (go_at_call 104; refine (isName_same _ _ hs).mono ?_; rintro e w' ⟨rfl, rfl⟩; rw [HBN.out]))
                 go_ret
                 exact ⟨ret_eq (congrArg Value.bool (HFR.out.trans HV.out).symm), HB.out⟩
           · have h30 := eq_false_of_ne_true h30
             by_cases hx : (xm == 0) = true
             · skip
               cases nd
               · by_cases hz : nm.toList = []
                 · have hsz := size_zero hz
                   have hsz2 : nm.size = 0 := by simpa using hsz
                   have HV := Lib.hid (show R = true by rw [HR.out]; simp [hn0, h30, hx, hsz2])
                   clear HR
                   go_wp2_with (first | (go_at_call 81; refine (named_same _ _).mono ?_; rintro e w' ⟨rfl, rfl⟩; rw [HND2.out]) | (go_at_call 104; refine (isName_same _ _ hs).mono ?_; rintro e w' ⟨rfl, rfl⟩; rw [HBN.out]))
                   go_ret
                   exact ⟨ret_eq (congrArg Value.bool (HFR.out.trans HV.out).symm), HB.out⟩
                 · have hz2 : nm.toList.isEmpty = false := by simpa using hz
                   have hsz := size_pos hz
                   have hsz2 : ¬ nm.size = 0 := by simpa using hsz
                   have HV := Lib.hid (show R = false by rw [HR.out]; simp [hn0, h30, hx, hsz2])
                   clear HR
                   go_wp2_with (first | (go_at_call 81; refine (named_same _ _).mono ?_; rintro e w' ⟨rfl, rfl⟩; rw [HND2.out]) | (go_at_call 104; refine (isName_same _ _ hs).mono ?_; rintro e w' ⟨rfl, rfl⟩; rw [HBN.out]))
                   go_ret
                   exact ⟨ret_eq (congrArg Value.bool (HFR.out.trans HV.out).symm), HB.out⟩
               · cases bn
                 · skip
                   have HV := Lib.hid (show R = false by rw [HR.out]; simp [hn0, h30, hx])
                   clear HR
                   go_wp2_with (first | (go_at_call 81; refine (named_same _ _).mono ?_; rintro e w' ⟨rfl, rfl⟩; rw [HND2.out]) | (go_at_call 104; refine (isName_same _ _ hs).mono ?_; rintro e w' ⟨rfl, rfl⟩; rw [HBN.out]))
                   go_ret
                   exact ⟨ret_eq (congrArg Value.bool (HFR.out.trans HV.out).symm), HB.out⟩
                 · skip
                   have HV := Lib.hid (show R = true by rw [HR.out]; simp [hn0, h30, hx])
                   clear HR
                   go_wp2_with (first | (go_at_call 81; refine (named_same _ _).mono ?_; rintro e w' ⟨rfl, rfl⟩; rw [HND2.out]) | (go_at_call 104; refine (isName_same _ _ hs).mono ?_; rintro e w' ⟨rfl, rfl⟩; rw [HBN.out]))
                   go_ret
                   exact ⟨ret_eq (congrArg Value.bool (HFR.out.trans HV.out).symm), HB.out⟩
             · have hx := eq_false_of_ne_true hx
               have HV := Lib.hid (show R = false by rw [HR.out]; simp [hn0, h30, hx])
               clear HR
               go_wp2_with (first | (go_at_call 81; refine (named_same _ _).mono ?_; rintro e w' ⟨rfl, rfl⟩; rw [HND2.out]) | (go_at_call 104; refine (isName_same _ _ hs).mono ?_; rintro e w' ⟨rfl, rfl⟩; rw [HBN.out]))
               go_ret
               exact ⟨ret_eq (congrArg Value.bool (HFR.out.trans HV.out).symm), HB.out⟩
         · have hn0 := eq_false_of_ne_true hn0
           have HV := Lib.hid (show R = false by rw [HR.out]; simp [hn0])
           clear HR
           go_wp2_with (first | (go_at_call 81; refine (named_same _ _).mono ?_; rintro e w' ⟨rfl, rfl⟩; rw [HND2.out]) | (go_at_call 104; refine (isName_same _ _ hs).mono ?_; rintro e w' ⟨rfl, rfl⟩; rw [HBN.out]))
           go_ret
           exact ⟨ret_eq (congrArg Value.bool (HFR.out.trans HV.out).symm), HB.out⟩
       · skip
         by_cases h30 : (kd == 30) = true
         · skip
           cases nd
           · by_cases hz : nm.toList = []
             · have hsz := size_zero hz
               have hsz2 : nm.size = 0 := by simpa using hsz
               have HV := Lib.hid (show R = true by rw [HR.out]; simp [Bool.or_true, h30, hsz2])
               clear HR
               go_wp2_with (first | (go_at_call 81; refine (named_same _ _).mono ?_; rintro e w' ⟨rfl, rfl⟩; rw [HND2.out]) | (go_at_call 104; refine (isName_same _ _ hs).mono ?_; rintro e w' ⟨rfl, rfl⟩; rw [HBN.out]))
               go_ret
               exact ⟨ret_eq (congrArg Value.bool (HFR.out.trans HV.out).symm), HB.out⟩
             · have hz2 : nm.toList.isEmpty = false := by simpa using hz
               have hsz := size_pos hz
               have hsz2 : ¬ nm.size = 0 := by simpa using hsz
               have HV := Lib.hid (show R = false by rw [HR.out]; simp [Bool.or_true, h30, hsz2])
               clear HR
               go_wp2_with (first | (go_at_call 81; refine (named_same _ _).mono ?_; rintro e w' ⟨rfl, rfl⟩; rw [HND2.out]) | (go_at_call 104; refine (isName_same _ _ hs).mono ?_; rintro e w' ⟨rfl, rfl⟩; rw [HBN.out]))
               go_ret
               exact ⟨ret_eq (congrArg Value.bool (HFR.out.trans HV.out).symm), HB.out⟩
           · cases bn
             · skip
               have HV := Lib.hid (show R = false by rw [HR.out]; simp [Bool.or_true, h30])
               clear HR
               go_wp2_with (first | (go_at_call 81; refine (named_same _ _).mono ?_; rintro e w' ⟨rfl, rfl⟩; rw [HND2.out]) | (go_at_call 104; refine (isName_same _ _ hs).mono ?_; rintro e w' ⟨rfl, rfl⟩; rw [HBN.out]))
               go_ret
               exact ⟨ret_eq (congrArg Value.bool (HFR.out.trans HV.out).symm), HB.out⟩
             · skip
               have HV := Lib.hid (show R = true by rw [HR.out]; simp [Bool.or_true, h30])
               clear HR
               go_wp2_with (first | (go_at_call 81; refine (named_same _ _).mono ?_; rintro e w' ⟨rfl, rfl⟩; rw [HND2.out]) | (go_at_call 104; refine (isName_same _ _ hs).mono ?_; rintro e w' ⟨rfl, rfl⟩; rw [HBN.out]))
               go_ret
               exact ⟨ret_eq (congrArg Value.bool (HFR.out.trans HV.out).symm), HB.out⟩
         · have h30 := eq_false_of_ne_true h30
           by_cases hx : (xm == 0) = true
           · skip
             cases nd
             · by_cases hz : nm.toList = []
               · have hsz := size_zero hz
                 have hsz2 : nm.size = 0 := by simpa using hsz
                 have HV := Lib.hid (show R = true by rw [HR.out]; simp [Bool.or_true, h30, hx, hsz2])
                 clear HR
                 go_wp2_with (first | (go_at_call 81; refine (named_same _ _).mono ?_; rintro e w' ⟨rfl, rfl⟩; rw [HND2.out]) | (go_at_call 104; refine (isName_same _ _ hs).mono ?_; rintro e w' ⟨rfl, rfl⟩; rw [HBN.out]))
                 go_ret
                 exact ⟨ret_eq (congrArg Value.bool (HFR.out.trans HV.out).symm), HB.out⟩
               · have hz2 : nm.toList.isEmpty = false := by simpa using hz
                 have hsz := size_pos hz
                 have hsz2 : ¬ nm.size = 0 := by simpa using hsz
                 have HV := Lib.hid (show R = false by rw [HR.out]; simp [Bool.or_true, h30, hx, hsz2])
                 clear HR
                 go_wp2_with (first | (go_at_call 81; refine (named_same _ _).mono ?_; rintro e w' ⟨rfl, rfl⟩; rw [HND2.out]) | (go_at_call 104; refine (isName_same _ _ hs).mono ?_; rintro e w' ⟨rfl, rfl⟩; rw [HBN.out]))
                 go_ret
                 exact ⟨ret_eq (congrArg Value.bool (HFR.out.trans HV.out).symm), HB.out⟩
             · cases bn
               · skip
                 have HV := Lib.hid (show R = false by rw [HR.out]; simp [Bool.or_true, h30, hx])
                 clear HR
                 go_wp2_with (first | (go_at_call 81; refine (named_same _ _).mono ?_; rintro e w' ⟨rfl, rfl⟩; rw [HND2.out]) | (go_at_call 104; refine (isName_same _ _ hs).mono ?_; rintro e w' ⟨rfl, rfl⟩; rw [HBN.out]))
                 go_ret
                 exact ⟨ret_eq (congrArg Value.bool (HFR.out.trans HV.out).symm), HB.out⟩
               · skip
                 have HV := Lib.hid (show R = true by rw [HR.out]; simp [Bool.or_true, h30, hx])
                 clear HR
                 go_wp2_with (first | (go_at_call 81; refine (named_same _ _).mono ?_; rintro e w' ⟨rfl, rfl⟩; rw [HND2.out]) | (go_at_call 104; refine (isName_same _ _ hs).mono ?_; rintro e w' ⟨rfl, rfl⟩; rw [HBN.out]))
                 go_ret
                 exact ⟨ret_eq (congrArg Value.bool (HFR.out.trans HV.out).symm), HB.out⟩
           · have hx := eq_false_of_ne_true hx
             have HV := Lib.hid (show R = false by rw [HR.out]; simp [Bool.or_true, h30, hx])
             clear HR
             go_wp2_with (first | (go_at_call 81; refine (named_same _ _).mono ?_; rintro e w' ⟨rfl, rfl⟩; rw [HND2.out]) | (go_at_call 104; refine (isName_same _ _ hs).mono ?_; rintro e w' ⟨rfl, rfl⟩; rw [HBN.out]))
             go_ret
             exact ⟨ret_eq (congrArg Value.bool (HFR.out.trans HV.out).symm), HB.out⟩
end Go.Proofs.YtdojaijnejcoiaaGreat
namespace Go.Proofs.YtdojaijnejcoiaaGreat
open Go.RowKit
theorem sortN_all {ns : List Nd} {x : Nd} (h : ¬ 60 < ns.length) (h1 : fieldsB ns.length x = true) (h3 : ∀ m, m < 3 → psOk ns x m = true) :
 sortN ns x = allSort x.kind x.n x.m (psI ns x 0) (psW ns x 0) (psI ns x 1) (psW ns x 1) (psI ns x 2) (psW ns x 2) x.idx x.wid := by
 by_cases h2 : partsN x.kind = 0
 · rw [sortN_own h h1 h2]; unfold allSort ownN; rw [if_pos h2]
 · rw [sortN_res h h1 h2 h3]; unfold allSort; rw [if_neg h2]
theorem sortN_part' {ns : List Nd} {x : Nd} {m : Nat} (hm : m < 3) (hk : (m : Int) < partsN x.kind) (h3 : psOk ns x m = false) : sortN ns x = none := sortN_part hm (by omega) h3
def upTo (j m : Nat) (v : Int) : Value := if m < j then .int .i64 v else .int .i64 0
def arr (ns : List Nd) (x : Nd) (j : Nat) : Array Value := #[upTo j 0 (psI ns x 0), upTo j 0 (psW ns x 0), upTo j 1 (psI ns x 1), upTo j 1 (psW ns x 1), upTo j 2 (psI ns x 2), upTo j 2 (psW ns x 2)]
theorem NodeSort'_calls (sv : Value) (ns : List Nd) (x : Nd) (w : World) (hS : SlAt enNd w sv ns) (hs : x.name.size ≤ 140737488351232) :
 Calls Tryz.prog 80 #[sv, .agg #[.int .i64 x.kind, .int .i64 x.a, .int .i64 x.b, .int .i64 x.c, .int .i64 x.n, .int .i64 x.m, .int .i64 x.idx, .int .i64 x.wid, .string x.name]] w (RetPost (sortN ns x) w) := by
 have HS := Lib.hid hS
 obtain ⟨A, c, rfl, hnc, hc', hA⟩ := hS
 obtain ⟨R, hR⟩ : ∃ R, R = sortN ns x := ⟨_, rfl⟩
 rw [← hR]
 have HLONG := Lib.hid (show 60 < ns.length → R = none from fun h => hR.trans (sortN_long h))
 have HBAD := Lib.hid (show fieldsB ns.length x = false → R = none from fun h => hR.trans (sortN_bad h))
 have HR := Lib.hid hR
 clear hR
 generalize hN : ns.length = n at *
 have HN := Lib.hid hN
 have hn : n ≤ 281474976710656 := Nat.le_trans hnc hc'
 clear hc' hnc hN
 go_enter Tryz.func80, Tryz.ntmps80
 go_upto_region 1 with fail
 have HW := Lib.hid (show Below w.heap.size w ((w.alloc (Obj.cells #[.int .i64 x.kind, .int .i64 x.a, .int .i64 x.b, .int .i64 x.c, .int .i64 x.n, .int .i64 x.m, .int .i64 x.idx, .int .i64 x.wid, .string x.name] 46)).alloc (Obj.cells #[.int .i64 0, .int .i64 0] 44)) from (box_below _ _ _).alloc (by simp) _)
 have b0 : ((w.alloc (Obj.cells #[.int .i64 x.kind, .int .i64 x.a, .int .i64 x.b, .int .i64 x.c, .int .i64 x.n, .int .i64 x.m, .int .i64 x.idx, .int .i64 x.wid, .string x.name] 46)).alloc (Obj.cells #[.int .i64 0, .int .i64 0] 44)).cell? ⟨w.heap.size, 0, none⟩ = some (.int .i64 x.kind) := by go_simp
 have b1 : ((w.alloc (Obj.cells #[.int .i64 x.kind, .int .i64 x.a, .int .i64 x.b, .int .i64 x.c, .int .i64 x.n, .int .i64 x.m, .int .i64 x.idx, .int .i64 x.wid, .string x.name] 46)).alloc (Obj.cells #[.int .i64 0, .int .i64 0] 44)).cell? ⟨w.heap.size, 1, none⟩ = some (.int .i64 x.a) := by go_simp
 have b2 : ((w.alloc (Obj.cells #[.int .i64 x.kind, .int .i64 x.a, .int .i64 x.b, .int .i64 x.c, .int .i64 x.n, .int .i64 x.m, .int .i64 x.idx, .int .i64 x.wid, .string x.name] 46)).alloc (Obj.cells #[.int .i64 0, .int .i64 0] 44)).cell? ⟨w.heap.size, 2, none⟩ = some (.int .i64 x.b) := by go_simp
 have b3 : ((w.alloc (Obj.cells #[.int .i64 x.kind, .int .i64 x.a, .int .i64 x.b, .int .i64 x.c, .int .i64 x.n, .int .i64 x.m, .int .i64 x.idx, .int .i64 x.wid, .string x.name] 46)).alloc (Obj.cells #[.int .i64 0, .int .i64 0] 44)).cell? ⟨w.heap.size, 3, none⟩ = some (.int .i64 x.c) := by go_simp
 have b4 : ((w.alloc (Obj.cells #[.int .i64 x.kind, .int .i64 x.a, .int .i64 x.b, .int .i64 x.c, .int .i64 x.n, .int .i64 x.m, .int .i64 x.idx, .int .i64 x.wid, .string x.name] 46)).alloc (Obj.cells #[.int .i64 0, .int .i64 0] 44)).cell? ⟨w.heap.size, 4, none⟩ = some (.int .i64 x.n) := by go_simp
 have b5 : ((w.alloc (Obj.cells #[.int .i64 x.kind, .int .i64 x.a, .int .i64 x.b, .int .i64 x.c, .int .i64 x.n, .int .i64 x.m, .int .i64 x.idx, .int .i64 x.wid, .string x.name] 46)).alloc (Obj.cells #[.int .i64 0, .int .i64 0] 44)).cell? ⟨w.heap.size, 5, none⟩ = some (.int .i64 x.m) := by go_simp
 have b6 : ((w.alloc (Obj.cells #[.int .i64 x.kind, .int .i64 x.a, .int .i64 x.b, .int .i64 x.c, .int .i64 x.n, .int .i64 x.m, .int .i64 x.idx, .int .i64 x.wid, .string x.name] 46)).alloc (Obj.cells #[.int .i64 0, .int .i64 0] 44)).cell? ⟨w.heap.size, 6, none⟩ = some (.int .i64 x.idx) := by go_simp
 have b7 : ((w.alloc (Obj.cells #[.int .i64 x.kind, .int .i64 x.a, .int .i64 x.b, .int .i64 x.c, .int .i64 x.n, .int .i64 x.m, .int .i64 x.idx, .int .i64 x.wid, .string x.name] 46)).alloc (Obj.cells #[.int .i64 0, .int .i64 0] 44)).cell? ⟨w.heap.size, 7, none⟩ = some (.int .i64 x.wid) := by go_simp
 have b8 : ((w.alloc (Obj.cells #[.int .i64 x.kind, .int .i64 x.a, .int .i64 x.b, .int .i64 x.c, .int .i64 x.n, .int .i64 x.m, .int .i64 x.idx, .int .i64 x.wid, .string x.name] 46)).alloc (Obj.cells #[.int .i64 0, .int .i64 0] 44)).cell? ⟨w.heap.size, 8, none⟩ = some (.string x.name) := by go_simp
 have r0 : ((w.alloc (Obj.cells #[.int .i64 x.kind, .int .i64 x.a, .int .i64 x.b, .int .i64 x.c, .int .i64 x.n, .int .i64 x.m, .int .i64 x.idx, .int .i64 x.wid, .string x.name] 46)).alloc (Obj.cells #[.int .i64 0, .int .i64 0] 44)).cell? ⟨w.heap.size + 1, 0, none⟩ = some (.int .i64 0) := by go_simp
 have f0 : ((w.alloc (Obj.cells #[.int .i64 x.kind, .int .i64 x.a, .int .i64 x.b, .int .i64 x.c, .int .i64 x.n, .int .i64 x.m, .int .i64 x.idx, .int .i64 x.wid, .string x.name] 46)).alloc (Obj.cells #[.int .i64 0, .int .i64 0] 44)).frozen? ⟨w.heap.size + 1, 0, none⟩ = false := by go_simp
 have r1 : ((w.alloc (Obj.cells #[.int .i64 x.kind, .int .i64 x.a, .int .i64 x.b, .int .i64 x.c, .int .i64 x.n, .int .i64 x.m, .int .i64 x.idx, .int .i64 x.wid, .string x.name] 46)).alloc (Obj.cells #[.int .i64 0, .int .i64 0] 44)).cell? ⟨w.heap.size + 1, 1, none⟩ = some (.int .i64 0) := by go_simp
 have f1 : ((w.alloc (Obj.cells #[.int .i64 x.kind, .int .i64 x.a, .int .i64 x.b, .int .i64 x.c, .int .i64 x.n, .int .i64 x.m, .int .i64 x.idx, .int .i64 x.wid, .string x.name] 46)).alloc (Obj.cells #[.int .i64 0, .int .i64 0] 44)).frozen? ⟨w.heap.size + 1, 1, none⟩ = false := by go_simp
 generalize ((w.alloc (Obj.cells #[.int .i64 x.kind, .int .i64 x.a, .int .i64 x.b, .int .i64 x.c, .int .i64 x.n, .int .i64 x.m, .int .i64 x.idx, .int .i64 x.wid, .string x.name] 46)).alloc (Obj.cells #[.int .i64 0, .int .i64 0] 44)) = w2 at *
 have f0 := Later.frozen f0 (World.block_lt_of_cell? _ _ r0)
 have f1 := Later.frozen f1 (World.block_lt_of_cell? _ _ r1)
 have b0 := Later.cell b0
 have b1 := Later.cell b1
 have b2 := Later.cell b2
 have b3 := Later.cell b3
 have b4 := Later.cell b4
 have b5 := Later.cell b5
 have b6 := Later.cell b6
 have b7 := Later.cell b7
 have b8 := Later.cell b8
 have r0 := Later.cell r0
 have r1 := Later.cell r1
 refine at_world (w := w2) ?_
 intro u0
 by_cases hl : 60 < n
 · have HNONE := Lib.hid (HLONG.out hl)
   have hl' : (60 : Int) < n := by omega
   clear hA
   go_wp2
   exact bodyPost_ret (v := .tuple #[.agg #[.int .i64 0, .int .i64 0], .bool false]) (by simp [results, Tryz.results80, go_sem, r0, r1]) rfl (retpost_none HNONE.out (by repeat (first | exact u0.back HW.out | refine Below.setCell ?_ (by first | (simp; done) | (simp; omega)) _)))
 · have hl' : ¬ (60 : Int) < n := by omega
   by_cases hf : fieldsB n x = true
   rotate_left
   · have hf := eq_false_of_ne_true hf
     have HF := Lib.hid hf
     have HNONE := Lib.hid (HBAD.out hf)
     clear hA hf
     go_wp2_with (go_at_call 93; refine (Calls.later (u := u0) (formed_calls n x _ hn hs)).mono ?_; rintro e w' ⟨rfl, u1, rfl⟩; rw [HF.out])
     exact bodyPost_ret (v := .tuple #[.agg #[.int .i64 0, .int .i64 0], .bool false]) (by simp [results, Tryz.results80, go_sem, r0, r1]) rfl (retpost_none HNONE.out (by repeat (first | exact u1.back HW.out | refine Below.setCell ?_ (by first | (simp; done) | (simp; omega)) _)))
   have HF := Lib.hid hf
   have hpp := fields_pos hf
   clear hf
   have hle := partsN_le x.kind
   obtain ⟨pk, hpk⟩ := Int.eq_ofNat_of_zero_le hpp
   have hpk3 : pk ≤ 3 := by omega
   have hpk3' : (pk : Int) ≤ 3 := by omega
   have HPN := Lib.hid hpk
   clear hpp hle hpk
   have HQ := Lib.hid (show ∀ W, LaterC w2 W → W.cell? ⟨w.heap.size, 0, none⟩ = some (.int .i64 x.kind) ∧ W.cell? ⟨w.heap.size, 1, none⟩ = some (.int .i64 x.a) ∧ W.cell? ⟨w.heap.size, 2, none⟩ = some (.int .i64 x.b) ∧ W.cell? ⟨w.heap.size, 3, none⟩ = some (.int .i64 x.c) from fun W h => by obtain ⟨v, rfl⟩ := h; exact ⟨b0 v, b1 v, b2 v, b3 v⟩)
   go_wp2_with (go_at_call 93; refine (Calls.later (u := u0) (formed_calls n x _ hn hs)).mono ?_; rintro e w' ⟨rfl, u1, rfl⟩; rw [HF.out])
   go_cut [32, 33, 34] (fun s l i wx => s = .slice (some ⟨u1.val.heap.size + 1, 0, none⟩) pk 3 ∧ l = .int .i64 pk ∧ i = .int .i64 0 ∧ wx = ((u1.val.alloc (Obj.cells #[.int .i64 0, .int .i64 0, .int .i64 0, .int .i64 0, .int .i64 0, .int .i64 0] 116)).alloc (Obj.cells #[.int .i64 x.a, .int .i64 x.b, .int .i64 x.c] 3)).drew)
   case first =>
    go_region_held3 (fun w' => w'.cell? ⟨w.heap.size, 0, none⟩ = some (.int .i64 x.kind) ∧ w'.cell? ⟨w.heap.size, 1, none⟩ = some (.int .i64 x.a) ∧ w'.cell? ⟨w.heap.size, 2, none⟩ = some (.int .i64 x.b) ∧ w'.cell? ⟨w.heap.size, 3, none⟩ = some (.int .i64 x.c)) ((refine HQ.out _ ?_; repeat (first | exact ⟨_, rfl⟩ | refine LaterC.drew' ?_ | refine LaterC.alloc' ?_ _))) (first | (go_at_call 63; refine (parts_same _ _).mono ?_; rintro e w' ⟨rfl, rfl⟩; rw [HPN.out]))
    all_goals go_wp2
    all_goals go_meet
    all_goals (case rel => exact ⟨rfl, rfl, rfl, rfl⟩)
   case rest =>
    obtain ⟨rfl, rfl, rfl, rfl⟩ := hcut
    have HGA := Lib.hid (show OwnB ((u1.val.alloc (Obj.cells #[.int .i64 0, .int .i64 0, .int .i64 0, .int .i64 0, .int .i64 0, .int .i64 0] 116)).alloc (Obj.cells #[.int .i64 x.a, .int .i64 x.b, .int .i64 x.c] 3)).drew u1.val.heap.size 116 (arr ns x 0) from (OwnB.new u1.val _ _).below (show Below (u1.val.alloc (Obj.cells #[.int .i64 0, .int .i64 0, .int .i64 0, .int .i64 0, .int .i64 0, .int .i64 0] 116)).heap.size (u1.val.alloc (Obj.cells #[.int .i64 0, .int .i64 0, .int .i64 0, .int .i64 0, .int .i64 0, .int .i64 0] 116)) ((u1.val.alloc (Obj.cells #[.int .i64 0, .int .i64 0, .int .i64 0, .int .i64 0, .int .i64 0, .int .i64 0] 116)).alloc (Obj.cells #[.int .i64 x.a, .int .i64 x.b, .int .i64 x.c] 3)).drew from (box_below _ _ _).drew) (by simp))
    have HGP := Lib.hid (show OwnB ((u1.val.alloc (Obj.cells #[.int .i64 0, .int .i64 0, .int .i64 0, .int .i64 0, .int .i64 0, .int .i64 0] 116)).alloc (Obj.cells #[.int .i64 x.a, .int .i64 x.b, .int .i64 x.c] 3)).drew (u1.val.heap.size + 1) 3 #[.int .i64 x.a, .int .i64 x.b, .int .i64 x.c] by have := OwnB.new (u1.val.alloc (Obj.cells #[.int .i64 0, .int .i64 0, .int .i64 0, .int .i64 0, .int .i64 0, .int .i64 0] 116)) 3 #[.int .i64 x.a, .int .i64 x.b, .int .i64 x.c]; rw [show (u1.val.alloc (Obj.cells #[.int .i64 0, .int .i64 0, .int .i64 0, .int .i64 0, .int .i64 0, .int .i64 0] 116)).heap.size = u1.val.heap.size + 1 by simp] at this; exact this)
    have hL4 : LaterC w2 ((u1.val.alloc (Obj.cells #[.int .i64 0, .int .i64 0, .int .i64 0, .int .i64 0, .int .i64 0, .int .i64 0] 116)).alloc (Obj.cells #[.int .i64 x.a, .int .i64 x.b, .int .i64 x.c] 3)).drew := LaterC.drew' (LaterC.alloc' (u1.alloc _) _)
    have hsz : w2.heap.size ≤ u1.val.heap.size := u1.size
    generalize ((u1.val.alloc (Obj.cells #[.int .i64 0, .int .i64 0, .int .i64 0, .int .i64 0, .int .i64 0, .int .i64 0] 116)).alloc (Obj.cells #[.int .i64 x.a, .int .i64 x.b, .int .i64 x.c] 3)).drew = w4 at *
    generalize u1.val.heap.size = GA at *
    have HL4 := Lib.hid hL4
    clear hL4
    go_wp2
    go_loopw [34] (fun i wr => ∃ j : Nat, j ≤ pk ∧ i = .int .i64 j ∧ Hid (OwnB wr GA 116 (arr ns x j) ∧ OwnB wr (GA + 1) 3 #[.int .i64 x.a, .int .i64 x.b, .int .i64 x.c] ∧ (∀ m, m < j → psOk ns x m = true)) ∧ LaterC w2 wr) (fun i _ => pk - (intOf i).toNat)
    case atStart => exact ⟨0, Nat.zero_le _, rfl, Lib.hid ⟨HGA.out, HGP.out, fun m hm => absurd hm (Nat.not_lt_zero _)⟩, HL4.out⟩
    case round =>
     obtain ⟨j, hj, rfl, HI, ⟨u, rfl⟩⟩ := hrel
     by_cases hlt : j < pk
     · have hj3 : j < 3 := by omega
       have hjp : (j : Int) < partsN x.kind := by rw [HPN.out]; omega
       have hin := fields_part_in HF.out hj3 hjp
       have hps : psI ns x j = (ns.getD (x.part j).toNat Nd.zero).idx ∧ psW ns x j = (ns.getD (x.part j).toNat Nd.zero).wid := by
        unfold psI psW; rw [if_pos hjp, if_pos hjp]; exact ⟨rfl, rfl⟩
       have hpj : u.val.cell? ⟨GA + 1, j, none⟩ = some (.int .i64 (x.part j)) := by
        rw [HI.out.2.1.cell j]
        rcases (show j = 0 ∨ j = 1 ∨ j = 2 by omega) with rfl | rfl | rfl <;> rfl
       generalize x.part j = pp at *
       obtain ⟨q, rfl⟩ := Int.eq_ofNat_of_zero_le hin.1
       have hqn : q < n := by omega
       rw [Int.toNat_natCast] at hps
       obtain ⟨b, o, rfl, hx⟩ := hA q _ (getD_at (by rw [HN.out]; exact hqn) Nd.zero)
       have hx6 : ∀ l : Later w2, l.val.cell? ⟨b, o + q * 9 + 6, none⟩ = some (.int .i64 (psI ns x j)) := by rw [hps.1]; exact hx.at_ HW.out 6 _ rfl
       have hx7 : ∀ l : Later w2, l.val.cell? ⟨b, o + q * 9 + 7, none⟩ = some (.int .i64 (psW ns x j)) := by rw [hps.2]; exact hx.at_ HW.out 7 _ rfl
       have hpsok : psOk ns x j = sokB (psI ns x j) (psW ns x j) := by unfold psOk; rw [decide_eq_false (by rw [HPN.out]; omega)]; rfl
       have hPART := sortN_part' (ns := ns) (x := x) hj3 hjp
       have hOW : OwnB ((u.val.setCell ⟨GA, j * 2, none⟩ (.int .i64 (psI ns x j))).setCell ⟨GA, j * 2 + 1, none⟩ (.int .i64 (psW ns x j))) GA 116 (arr ns x (j + 1)) := by
        have h1 := (HI.out.1.set (j * 2) (.int .i64 (psI ns x j))).set (j * 2 + 1) (.int .i64 (psW ns x j))
        rw [show arr ns x (j + 1) = ((arr ns x j).setIfInBounds (j * 2) (.int .i64 (psI ns x j))).setIfInBounds (j * 2 + 1) (.int .i64 (psW ns x j)) by
         rcases (show j = 0 ∨ j = 1 ∨ j = 2 by omega) with rfl | rfl | rfl <;> simp [arr, upTo]]
        exact h1
       have hOP : OwnB ((u.val.setCell ⟨GA, j * 2, none⟩ (.int .i64 (psI ns x j))).setCell ⟨GA, j * 2 + 1, none⟩ (.int .i64 (psW ns x j))) (GA + 1) 3 #[.int .i64 x.a, .int .i64 x.b, .int .i64 x.c] := (HI.out.2.1.set_ne (by omega) _ _).set_ne (by omega) _ _
       have hLW : LaterC w2 ((u.val.setCell ⟨GA, j * 2, none⟩ (.int .i64 (psI ns x j))).setCell ⟨GA, j * 2 + 1, none⟩ (.int .i64 (psW ns x j))) := LaterC.setCell' (LaterC.setCell' ⟨u, rfl⟩ _ _ hsz) _ _ hsz
       have g0 : u.val.cell? ⟨GA, j * 2, none⟩ = some (.int .i64 0) := by
        rw [HI.out.1.cell]
        rcases (show j = 0 ∨ j = 1 ∨ j = 2 by omega) with rfl | rfl | rfl <;> simp [arr, upTo]
       have g1 : u.val.cell? ⟨GA, j * 2 + 1, none⟩ = some (.int .i64 0) := by
        rw [HI.out.1.cell]
        rcases (show j = 0 ∨ j = 1 ∨ j = 2 by omega) with rfl | rfl | rfl <;> simp [arr, upTo]
       have t0 : u.val.frozen? ⟨GA, j * 2, none⟩ = false := HI.out.1.frozen _
       have t1 : u.val.frozen? ⟨GA, j * 2 + 1, none⟩ = false := HI.out.1.frozen _
       generalize psI ns x j = si at *
       generalize psW ns x j = sw at *
       have HOW := Lib.hid hOW
       have HOP := Lib.hid hOP
       have HLW := Lib.hid hLW
       have HPSOK := Lib.hid hpsok
       have HPART := Lib.hid hPART
       have hj3' : (j : Int) < 3 := by omega
       have hjk : (j : Int) < pk := by omega
       clear hOW hOP hLW hps hx hA hin hpsok hPART
       by_cases hso : sokB si sw = true
       · have HSO := Lib.hid hso
         clear hso
         go_wp2_with (go_at_call 94; refine (SortOk'_calls _ _ _).mono ?_; rintro e w' ⟨rfl, hbel⟩; have HO2 := Lib.hid (And.intro (HOW.out.below hbel HOW.out.lt) (HOP.out.below hbel HOP.out.lt)); obtain ⟨u3, hu3⟩ := laterC_step HLW.out hbel; subst hu3; clear hbel; rw [HSO.out])
         go_roundw
         case rel =>
          refine ⟨j + 1, by omega, by go_num, Lib.hid ⟨HO2.out.1, HO2.out.2, fun m hm => ?_⟩, ⟨u3, rfl⟩⟩
          rcases Nat.lt_or_ge m j with g | g
          · exact HI.out.2.2 m g
          · obtain rfl : m = j := by omega
            rw [HPSOK.out]; exact HSO.out
         case measure => simp [intOf] <;> omega
       · have HSO := Lib.hid (eq_false_of_ne_true hso)
         have HNONE := Lib.hid (HR.out.trans (HPART.out (by rw [HPSOK.out]; exact HSO.out)))
         clear hso
         go_wp2_with (go_at_call 94; refine (SortOk'_calls _ _ _).mono ?_; rintro e w' ⟨rfl, hbel⟩; have HO2 := Lib.hid (And.intro (HOW.out.below hbel HOW.out.lt) (HOP.out.below hbel HOP.out.lt)); obtain ⟨u3, hu3⟩ := laterC_step HLW.out hbel; subst hu3; clear hbel; rw [HSO.out])
         exact bodyPost_ret (v := .tuple #[.agg #[.int .i64 0, .int .i64 0], .bool false]) (by simp [results, Tryz.results80, go_sem, r0, r1]) rfl (retpost_none HNONE.out (by repeat (first | exact u3.back HW.out | refine Below.setCell ?_ (by first | (simp; done) | (simp; omega)) _)))
     · obtain rfl : j = pk := by omega
       have hzero : ∀ m : Nat, j ≤ m → psI ns x m = 0 ∧ psW ns x m = 0 := fun m hm => by
        unfold psI psW; rw [if_neg (by rw [HPN.out]; omega), if_neg (by rw [HPN.out]; omega)]; exact ⟨rfl, rfl⟩
       have hup : ∀ m, upTo j m (psI ns x m) = .int .i64 (psI ns x m) ∧ upTo j m (psW ns x m) = .int .i64 (psW ns x m) := fun m => by
        unfold upTo
        rcases Nat.lt_or_ge m j with g | g
        · rw [if_pos g, if_pos g]; exact ⟨rfl, rfl⟩
        · obtain ⟨z, y⟩ := hzero m g
          rw [if_neg (by omega), if_neg (by omega), z, y]; exact ⟨rfl, rfl⟩
       have hall : ∀ m, m < 3 → psOk ns x m = true := fun m hm => by
        rcases Nat.lt_or_ge m j with g | g
        · exact HI.out.2.2 m g
        · unfold psOk; rw [decide_eq_true (by rw [HPN.out]; omega)]; rfl
       have HRES := Lib.hid (HR.out.trans (sortN_all (by rw [HN.out]; exact hl) (by rw [HN.out]; exact HF.out) hall))
       have hsk : ∀ m : Nat, (m : Int) < partsN x.kind → m < 3 → Sok (psI ns x m) (psW ns x m) := fun m hm h3 => sok_of (by
        have := hall m h3
        unfold psOk at this
        rw [decide_eq_false (by omega)] at this
        exact this)
       have hs0 : 0 < partsN x.kind → Sok (psI ns x 0) (psW ns x 0) := fun h => hsk 0 h (by omega)
       have hs1 : 1 < partsN x.kind → Sok (psI ns x 1) (psW ns x 1) := fun h => hsk 1 h (by omega)
       have hz1 : partsN x.kind ≤ 1 → psI ns x 1 = 0 ∧ psW ns x 1 = 0 := fun h => hzero 1 (by rw [HPN.out] at h; omega)
       have hg : ∀ (f : Nat) (v : Value), (arr ns x j)[f]? = some v → u.val.cell? ⟨GA, f, none⟩ = some v := fun f v h => (HI.out.1.cell f).trans h
       have g0 := hg 0 (.int .i64 (psI ns x 0)) (by show some (upTo j 0 (psI ns x 0)) = _; rw [(hup 0).1])
       have g1 := hg 1 (.int .i64 (psW ns x 0)) (by show some (upTo j 0 (psW ns x 0)) = _; rw [(hup 0).2])
       have g2 := hg 2 (.int .i64 (psI ns x 1)) (by show some (upTo j 1 (psI ns x 1)) = _; rw [(hup 1).1])
       have g3 := hg 3 (.int .i64 (psW ns x 1)) (by show some (upTo j 1 (psW ns x 1)) = _; rw [(hup 1).2])
       have g4 := hg 4 (.int .i64 (psI ns x 2)) (by show some (upTo j 2 (psI ns x 2)) = _; rw [(hup 2).1])
       have g5 := hg 5 (.int .i64 (psW ns x 2)) (by show some (upTo j 2 (psW ns x 2)) = _; rw [(hup 2).2])
       generalize psI ns x 0 = ai at *
       generalize psW ns x 0 = aw at *
       generalize psI ns x 1 = bi at *
       generalize psW ns x 1 = bw at *
       generalize psI ns x 2 = ci at *
       generalize psW ns x 2 = cw at *
       have HS0 := Lib.hid hs0
       have HS1 := Lib.hid hs1
       have HZ1 := Lib.hid hz1
       have HPOS := Lib.hid (show 0 ≤ partsN x.kind by rw [HPN.out]; omega)
       clear hzero hup hall hsk hg hs0 hs1 hz1 hA
       go_upto_region 12 with (go_at_call 95; refine (sortOf_calls x.kind x.n x.m ai aw bi bw ci cw x.a x.b x.c x.idx x.wid x.name _ HPOS.out HS0.out HS1.out HZ1.out).mono ?_; rintro e w' ⟨ri, rw', rok, rfl, hbel, hok, hval⟩; have HOK := Lib.hid hok; have HVAL := Lib.hid hval; obtain ⟨u3, hu3⟩ := u.step hbel; subst hu3; clear hok hval hbel)
       have e0 : (u3.val.alloc (.cells #[.int .i64 ri, .int .i64 rw'] 44)).cell? ⟨u3.val.heap.size, 0, none⟩ = some (.int .i64 ri) := by go_simp
       have e1 : (u3.val.alloc (.cells #[.int .i64 ri, .int .i64 rw'] 44)).cell? ⟨u3.val.heap.size, 1, none⟩ = some (.int .i64 rw') := by go_simp
       obtain ⟨u4, hu4⟩ := u3.alloc (.cells #[.int .i64 ri, .int .i64 rw'] 44)
       rw [hu4] at e0 e1 ⊢
       clear hu4 g0 g1 g2 g3 g4 g5
       by_cases hrok : rok = true
       · subst hrok
         obtain ⟨⟨pi, pa⟩, hp⟩ := Option.isSome_iff_exists.1 HOK.out.symm
         have hv := HVAL.out _ hp
         cases hv
         have HP := Lib.hid hp
         clear hp
         go_wp2
         exact bodyPost_ret (v := .tuple #[.agg #[.int .i64 ri, .int .i64 rw'], .bool true]) (by simp [results, Tryz.results80, go_sem, r0, r1]) rfl (retpost_some (HRES.out.trans HP.out) (by repeat (first | exact u4.back HW.out | refine Below.setCell ?_ (by first | (simp; done) | (simp; omega)) _)))
       · have hrok := eq_false_of_ne_true hrok
         subst hrok
         have HP := Lib.hid (Option.not_isSome_iff_eq_none.1 (by rw [← HOK.out]; exact Bool.noConfusion))
         go_wp2
         exact bodyPost_ret (v := .tuple #[.agg #[.int .i64 0, .int .i64 0], .bool false]) (by simp [results, Tryz.results80, go_sem, r0, r1]) rfl (retpost_none (HRES.out.trans HP.out) (by repeat (first | exact u4.back HW.out | refine Below.setCell ?_ (by first | (simp; done) | (simp; omega)) _)))
end Go.Proofs.YtdojaijnejcoiaaGreat
