import Derived.Test.YthejgnabgglmhaaGreatkk4
set_option linter.unusedVariables false
set_option linter.unusedSimpArgs false
set_option maxRecDepth 8000
set_option maxHeartbeats 16000000
namespace Go.Proofs.YthejgnabgglmhaaGreat
open Go.RowKit
attribute [local go_sem high] eq_sort
theorem here {w2 : World} {a : Addr} {v : Value} (h : ∀ l : Later w2, l.val.cell? a = some v) : w2.cell? a = some v := h ⟨w2, Below.refl _ _⟩
theorem sort_world (k n m ai aw bi bw ci cw xa xb xc xi xw : Int) (nm : ByteArray) (w : World) : ∃ w2, (((((w.alloc (Obj.cells #[.int .i64 k, .int .i64 xa, .int .i64 xb, .int .i64 xc, .int .i64 n, .int .i64 m, .int .i64 xi, .int .i64 xw, .string nm] 62)).alloc (Obj.cells #[.int .i64 ai, .int .i64 aw] 60)).alloc (Obj.cells #[.int .i64 bi, .int .i64 bw] 60)).alloc (Obj.cells #[.int .i64 ci, .int .i64 cw] 60)).alloc (Obj.cells #[.int .i64 0, .int .i64 0] 60)) = w2 ∧ Hid (Below w.heap.size w w2) ∧ (∀ l : Later w2, l.val.cell? ⟨w.heap.size, 0, none⟩ = some (.int .i64 k)) ∧ (∀ l : Later w2, l.val.cell? ⟨w.heap.size, 4, none⟩ = some (.int .i64 n)) ∧ (∀ l : Later w2, l.val.cell? ⟨w.heap.size, 5, none⟩ = some (.int .i64 m)) ∧ (∀ l : Later w2, l.val.cell? ⟨w.heap.size, 6, none⟩ = some (.int .i64 xi)) ∧ (∀ l : Later w2, l.val.cell? ⟨w.heap.size, 7, none⟩ = some (.int .i64 xw)) ∧ (∀ l : Later w2, l.val.cell? ⟨w.heap.size + 1, 0, none⟩ = some (.int .i64 ai)) ∧ (∀ l : Later w2, l.val.cell? ⟨w.heap.size + 1, 1, none⟩ = some (.int .i64 aw)) ∧ (∀ l : Later w2, l.val.cell? ⟨w.heap.size + 2, 0, none⟩ = some (.int .i64 bi)) ∧ (∀ l : Later w2, l.val.cell? ⟨w.heap.size + 2, 1, none⟩ = some (.int .i64 bw)) ∧ (∀ l : Later w2, l.val.cell? ⟨w.heap.size + 3, 0, none⟩ = some (.int .i64 ci)) ∧ (∀ l : Later w2, l.val.cell? ⟨w.heap.size + 3, 1, none⟩ = some (.int .i64 cw)) ∧ (∀ l : Later w2, l.val.cell? ⟨w.heap.size + 4, 0, none⟩ = some (.int .i64 0)) ∧ (∀ l : Later w2, l.val.cell? ⟨w.heap.size + 4, 1, none⟩ = some (.int .i64 0)) ∧ (∀ l : Later w2, l.val.frozen? ⟨w.heap.size + 4, 0, none⟩ = false) ∧ (∀ l : Later w2, l.val.frozen? ⟨w.heap.size + 4, 1, none⟩ = false) := by
 refine ⟨_, rfl, Lib.hid (by repeat (first | exact Below.refl _ _ | refine Below.alloc ?_ (by first | (simp; done) | (simp; omega)) _)), Later.cell ?_, Later.cell ?_, Later.cell ?_, Later.cell ?_, Later.cell ?_, Later.cell ?_, Later.cell ?_, Later.cell ?_, Later.cell ?_, Later.cell ?_, Later.cell ?_, Later.cell ?_, Later.cell ?_, Later.frozen ?_ ?_, Later.frozen ?_ ?_⟩
 all_goals first | go_simp | simp
theorem sortOf_33_0 (n m ai aw bi bw ci cw xa xb xc xi xw : Int) (nm : ByteArray) (w : World) (h0 : (ai == 0) = false) :
 Calls Tryz.prog 82 #[.agg #[.int .i64 33, .int .i64 xa, .int .i64 xb, .int .i64 xc, .int .i64 n, .int .i64 m, .int .i64 xi, .int .i64 xw, .string nm], .agg #[.int .i64 ai, .int .i64 aw], .agg #[.int .i64 bi, .int .i64 bw], .agg #[.int .i64 ci, .int .i64 cw]] w (ResPost (resN 33 n m ai aw bi bw ci cw) w) := by
 have HR := Lib.hid (show (resN 33 n m ai aw bi bw ci cw) = none by unfold resN; simp only [h0, Bool.and_false, Bool.false_and, Bool.true_and, Bool.and_true]; rfl)
 go_enter Tryz.func82, Tryz.ntmps82
 go_upto_region 1 with fail
 obtain ⟨w2, hw2, HB, b0, b4, b5, b6, b7, d0, d1, d2, d3, d4, d5, r0, r1, f0, f1⟩ := sort_world 33 n m ai aw bi bw ci cw xa xb xc xi xw nm w
 rw [hw2]
 clear hw2
 have p0 := here b0; have p1 := here b4; have p2 := here b5; have p3 := here b6; have p4 := here b7; have p5 := here d0; have p6 := here d1; have p7 := here d2; have p8 := here d3; have p9 := here d4; have p10 := here d5
 go_wp2
 clear p0 p1 p2 p3 p4 p5 p6 p7 p8 p9 p10
 refine wp_region_two (G := w.heap.size + 4) 9 (.int .i64 (bi)) (.int .i64 (bw)) (by kernel_rfl) (by kernel_rfl) rfl (by kernel_rfl) HB.out (Nat.le_add_right _ _) r0 r1 f0 f1 ?_
 apply Exists.intro
 refine ⟨fun W hk => ?_, ?_, ?_, ?_⟩
 · have e0 := hk _ _ _ (by omega) b0; have e1 := hk _ _ _ (by omega) b4; have e2 := hk _ _ _ (by omega) b5; have e3 := hk _ _ _ (by omega) b6; have e4 := hk _ _ _ (by omega) b7; have e5 := hk _ _ _ (by omega) d0; have e6 := hk _ _ _ (by omega) d1; have e7 := hk _ _ _ (by omega) d2; have e8 := hk _ _ _ (by omega) d3; have e9 := hk _ _ _ (by omega) d4; have e10 := hk _ _ _ (by omega) d5
   clear hk
   simp only [List.take_succ_cons, List.take_zero]
   repeat (go_big_quiet_step (first | (go_at_call 48; exact Calls.later (words_calls _ _))))
   exact wpQuiet_nil rfl
 · rfl
 · intro u s0 s1 t0 t1
   go_simp
 · intro u hb s0 s1
   have hbel := Lib.hid hb
   simp only [List.drop_succ_cons, List.drop_zero]
   clear r0 r1 f0 f1 hb
   go_wp2
   exact bodyPost_ret (v := .tuple #[.agg #[.int .i64 (bi), .int .i64 (bw)], .bool false]) (by simp [results, Tryz.results82, go_sem, s0, s1]) rfl (respost_none HR.out hbel.out)
theorem sortOf_33_1 (n m ai aw bi bw ci cw xa xb xc xi xw : Int) (nm : ByteArray) (w : World) (h0 : (ai == 0) = true) (h1 : (aw == 1) = false) :
 Calls Tryz.prog 82 #[.agg #[.int .i64 33, .int .i64 xa, .int .i64 xb, .int .i64 xc, .int .i64 n, .int .i64 m, .int .i64 xi, .int .i64 xw, .string nm], .agg #[.int .i64 ai, .int .i64 aw], .agg #[.int .i64 bi, .int .i64 bw], .agg #[.int .i64 ci, .int .i64 cw]] w (ResPost (resN 33 n m ai aw bi bw ci cw) w) := by
 have HR := Lib.hid (show (resN 33 n m ai aw bi bw ci cw) = none by unfold resN; simp only [h0, h1, Bool.and_false, Bool.false_and, Bool.true_and, Bool.and_true]; rfl)
 go_enter Tryz.func82, Tryz.ntmps82
 go_upto_region 1 with fail
 obtain ⟨w2, hw2, HB, b0, b4, b5, b6, b7, d0, d1, d2, d3, d4, d5, r0, r1, f0, f1⟩ := sort_world 33 n m ai aw bi bw ci cw xa xb xc xi xw nm w
 rw [hw2]
 clear hw2
 have p0 := here b0; have p1 := here b4; have p2 := here b5; have p3 := here b6; have p4 := here b7; have p5 := here d0; have p6 := here d1; have p7 := here d2; have p8 := here d3; have p9 := here d4; have p10 := here d5
 go_wp2
 clear p0 p1 p2 p3 p4 p5 p6 p7 p8 p9 p10
 refine wp_region_two (G := w.heap.size + 4) 9 (.int .i64 (bi)) (.int .i64 (bw)) (by kernel_rfl) (by kernel_rfl) rfl (by kernel_rfl) HB.out (Nat.le_add_right _ _) r0 r1 f0 f1 ?_
 apply Exists.intro
 refine ⟨fun W hk => ?_, ?_, ?_, ?_⟩
 · have e0 := hk _ _ _ (by omega) b0; have e1 := hk _ _ _ (by omega) b4; have e2 := hk _ _ _ (by omega) b5; have e3 := hk _ _ _ (by omega) b6; have e4 := hk _ _ _ (by omega) b7; have e5 := hk _ _ _ (by omega) d0; have e6 := hk _ _ _ (by omega) d1; have e7 := hk _ _ _ (by omega) d2; have e8 := hk _ _ _ (by omega) d3; have e9 := hk _ _ _ (by omega) d4; have e10 := hk _ _ _ (by omega) d5
   clear hk
   simp only [List.take_succ_cons, List.take_zero]
   repeat (go_big_quiet_step (first | (go_at_call 48; exact Calls.later (words_calls _ _))))
   exact wpQuiet_nil rfl
 · rfl
 · intro u s0 s1 t0 t1
   go_simp
 · intro u hb s0 s1
   have hbel := Lib.hid hb
   simp only [List.drop_succ_cons, List.drop_zero]
   clear r0 r1 f0 f1 hb
   go_wp2
   exact bodyPost_ret (v := .tuple #[.agg #[.int .i64 (bi), .int .i64 (bw)], .bool false]) (by simp [results, Tryz.results82, go_sem, s0, s1]) rfl (respost_none HR.out hbel.out)
theorem sortOf_33_2 (n m ai aw bi bw ci cw xa xb xc xi xw : Int) (nm : ByteArray) (w : World) (h0 : (ai == 0) = true) (h1 : (aw == 1) = true) (h2 : (bi == ci) = false) :
 Calls Tryz.prog 82 #[.agg #[.int .i64 33, .int .i64 xa, .int .i64 xb, .int .i64 xc, .int .i64 n, .int .i64 m, .int .i64 xi, .int .i64 xw, .string nm], .agg #[.int .i64 ai, .int .i64 aw], .agg #[.int .i64 bi, .int .i64 bw], .agg #[.int .i64 ci, .int .i64 cw]] w (ResPost (resN 33 n m ai aw bi bw ci cw) w) := by
 have HR := Lib.hid (show (resN 33 n m ai aw bi bw ci cw) = none by unfold resN; simp only [h0, h1, h2, Bool.and_false, Bool.false_and, Bool.true_and, Bool.and_true]; rfl)
 go_enter Tryz.func82, Tryz.ntmps82
 go_upto_region 1 with fail
 obtain ⟨w2, hw2, HB, b0, b4, b5, b6, b7, d0, d1, d2, d3, d4, d5, r0, r1, f0, f1⟩ := sort_world 33 n m ai aw bi bw ci cw xa xb xc xi xw nm w
 rw [hw2]
 clear hw2
 have p0 := here b0; have p1 := here b4; have p2 := here b5; have p3 := here b6; have p4 := here b7; have p5 := here d0; have p6 := here d1; have p7 := here d2; have p8 := here d3; have p9 := here d4; have p10 := here d5
 go_wp2
 clear p0 p1 p2 p3 p4 p5 p6 p7 p8 p9 p10
 refine wp_region_two (G := w.heap.size + 4) 9 (.int .i64 (bi)) (.int .i64 (bw)) (by kernel_rfl) (by kernel_rfl) rfl (by kernel_rfl) HB.out (Nat.le_add_right _ _) r0 r1 f0 f1 ?_
 apply Exists.intro
 refine ⟨fun W hk => ?_, ?_, ?_, ?_⟩
 · have e0 := hk _ _ _ (by omega) b0; have e1 := hk _ _ _ (by omega) b4; have e2 := hk _ _ _ (by omega) b5; have e3 := hk _ _ _ (by omega) b6; have e4 := hk _ _ _ (by omega) b7; have e5 := hk _ _ _ (by omega) d0; have e6 := hk _ _ _ (by omega) d1; have e7 := hk _ _ _ (by omega) d2; have e8 := hk _ _ _ (by omega) d3; have e9 := hk _ _ _ (by omega) d4; have e10 := hk _ _ _ (by omega) d5
   clear hk
   simp only [List.take_succ_cons, List.take_zero]
   repeat (go_big_quiet_step (first | (go_at_call 48; exact Calls.later (words_calls _ _))))
   exact wpQuiet_nil rfl
 · rfl
 · intro u s0 s1 t0 t1
   go_simp
 · intro u hb s0 s1
   have hbel := Lib.hid hb
   simp only [List.drop_succ_cons, List.drop_zero]
   clear r0 r1 f0 f1 hb
   go_wp2
   exact bodyPost_ret (v := .tuple #[.agg #[.int .i64 (bi), .int .i64 (bw)], .bool false]) (by simp [results, Tryz.results82, go_sem, s0, s1]) rfl (respost_none HR.out hbel.out)
theorem sortOf_33_3 (n m ai aw bi bw ci cw xa xb xc xi xw : Int) (nm : ByteArray) (w : World) (h0 : (ai == 0) = true) (h1 : (aw == 1) = true) (h2 : (bi == ci) = true) (h3 : (bw == cw) = false) :
 Calls Tryz.prog 82 #[.agg #[.int .i64 33, .int .i64 xa, .int .i64 xb, .int .i64 xc, .int .i64 n, .int .i64 m, .int .i64 xi, .int .i64 xw, .string nm], .agg #[.int .i64 ai, .int .i64 aw], .agg #[.int .i64 bi, .int .i64 bw], .agg #[.int .i64 ci, .int .i64 cw]] w (ResPost (resN 33 n m ai aw bi bw ci cw) w) := by
 have HR := Lib.hid (show (resN 33 n m ai aw bi bw ci cw) = none by unfold resN; simp only [h0, h1, h2, h3, Bool.and_false, Bool.false_and, Bool.true_and, Bool.and_true]; rfl)
 go_enter Tryz.func82, Tryz.ntmps82
 go_upto_region 1 with fail
 obtain ⟨w2, hw2, HB, b0, b4, b5, b6, b7, d0, d1, d2, d3, d4, d5, r0, r1, f0, f1⟩ := sort_world 33 n m ai aw bi bw ci cw xa xb xc xi xw nm w
 rw [hw2]
 clear hw2
 have p0 := here b0; have p1 := here b4; have p2 := here b5; have p3 := here b6; have p4 := here b7; have p5 := here d0; have p6 := here d1; have p7 := here d2; have p8 := here d3; have p9 := here d4; have p10 := here d5
 go_wp2
 clear p0 p1 p2 p3 p4 p5 p6 p7 p8 p9 p10
 refine wp_region_two (G := w.heap.size + 4) 9 (.int .i64 (bi)) (.int .i64 (bw)) (by kernel_rfl) (by kernel_rfl) rfl (by kernel_rfl) HB.out (Nat.le_add_right _ _) r0 r1 f0 f1 ?_
 apply Exists.intro
 refine ⟨fun W hk => ?_, ?_, ?_, ?_⟩
 · have e0 := hk _ _ _ (by omega) b0; have e1 := hk _ _ _ (by omega) b4; have e2 := hk _ _ _ (by omega) b5; have e3 := hk _ _ _ (by omega) b6; have e4 := hk _ _ _ (by omega) b7; have e5 := hk _ _ _ (by omega) d0; have e6 := hk _ _ _ (by omega) d1; have e7 := hk _ _ _ (by omega) d2; have e8 := hk _ _ _ (by omega) d3; have e9 := hk _ _ _ (by omega) d4; have e10 := hk _ _ _ (by omega) d5
   clear hk
   simp only [List.take_succ_cons, List.take_zero]
   repeat (go_big_quiet_step (first | (go_at_call 48; exact Calls.later (words_calls _ _))))
   exact wpQuiet_nil rfl
 · rfl
 · intro u s0 s1 t0 t1
   go_simp
 · intro u hb s0 s1
   have hbel := Lib.hid hb
   simp only [List.drop_succ_cons, List.drop_zero]
   clear r0 r1 f0 f1 hb
   go_wp2
   exact bodyPost_ret (v := .tuple #[.agg #[.int .i64 (bi), .int .i64 (bw)], .bool false]) (by simp [results, Tryz.results82, go_sem, s0, s1]) rfl (respost_none HR.out hbel.out)
theorem sortOf_33_4 (n m ai aw bi bw ci cw xa xb xc xi xw : Int) (nm : ByteArray) (w : World) (h0 : (ai == 0) = true) (h1 : (aw == 1) = true) (h2 : (bi == ci) = true) (h3 : (bw == cw) = true) :
 Calls Tryz.prog 82 #[.agg #[.int .i64 33, .int .i64 xa, .int .i64 xb, .int .i64 xc, .int .i64 n, .int .i64 m, .int .i64 xi, .int .i64 xw, .string nm], .agg #[.int .i64 ai, .int .i64 aw], .agg #[.int .i64 bi, .int .i64 bw], .agg #[.int .i64 ci, .int .i64 cw]] w (ResPost (resN 33 n m ai aw bi bw ci cw) w) := by
 have HR := Lib.hid (show (resN 33 n m ai aw bi bw ci cw) = some (bi, bw) by unfold resN; simp only [h0, h1, h2, h3]; rfl)
 go_enter Tryz.func82, Tryz.ntmps82
 go_upto_region 1 with fail
 obtain ⟨w2, hw2, HB, b0, b4, b5, b6, b7, d0, d1, d2, d3, d4, d5, r0, r1, f0, f1⟩ := sort_world 33 n m ai aw bi bw ci cw xa xb xc xi xw nm w
 rw [hw2]
 clear hw2
 have p0 := here b0; have p1 := here b4; have p2 := here b5; have p3 := here b6; have p4 := here b7; have p5 := here d0; have p6 := here d1; have p7 := here d2; have p8 := here d3; have p9 := here d4; have p10 := here d5
 go_wp2
 clear p0 p1 p2 p3 p4 p5 p6 p7 p8 p9 p10
 refine wp_region_two (G := w.heap.size + 4) 9 (.int .i64 (bi)) (.int .i64 (bw)) (by kernel_rfl) (by kernel_rfl) rfl (by kernel_rfl) HB.out (Nat.le_add_right _ _) r0 r1 f0 f1 ?_
 apply Exists.intro
 refine ⟨fun W hk => ?_, ?_, ?_, ?_⟩
 · have e0 := hk _ _ _ (by omega) b0; have e1 := hk _ _ _ (by omega) b4; have e2 := hk _ _ _ (by omega) b5; have e3 := hk _ _ _ (by omega) b6; have e4 := hk _ _ _ (by omega) b7; have e5 := hk _ _ _ (by omega) d0; have e6 := hk _ _ _ (by omega) d1; have e7 := hk _ _ _ (by omega) d2; have e8 := hk _ _ _ (by omega) d3; have e9 := hk _ _ _ (by omega) d4; have e10 := hk _ _ _ (by omega) d5
   clear hk
   simp only [List.take_succ_cons, List.take_zero]
   repeat (go_big_quiet_step (first | (go_at_call 48; exact Calls.later (words_calls _ _))))
   exact wpQuiet_nil rfl
 · rfl
 · intro u s0 s1 t0 t1
   go_simp
 · intro u hb s0 s1
   have hbel := Lib.hid hb
   simp only [List.drop_succ_cons, List.drop_zero]
   clear r0 r1 f0 f1 hb
   go_wp2
   exact bodyPost_ret (v := .tuple #[.agg #[.int .i64 (bi), .int .i64 (bw)], .bool true]) (by simp [results, Tryz.results82, go_sem, s0, s1]) rfl (respost_some HR.out hbel.out)
theorem sortOf_33 (n m ai aw bi bw ci cw xa xb xc xi xw : Int) (nm : ByteArray) (w : World)  :
 Calls Tryz.prog 82 #[.agg #[.int .i64 33, .int .i64 xa, .int .i64 xb, .int .i64 xc, .int .i64 n, .int .i64 m, .int .i64 xi, .int .i64 xw, .string nm], .agg #[.int .i64 ai, .int .i64 aw], .agg #[.int .i64 bi, .int .i64 bw], .agg #[.int .i64 ci, .int .i64 cw]] w (ResPost (resN 33 n m ai aw bi bw ci cw) w) := by
 by_cases h0 : (ai == 0) = true
 rotate_left
 · exact sortOf_33_0 n m ai aw bi bw ci cw xa xb xc xi xw nm w  (eq_false_of_ne_true h0)
 by_cases h1 : (aw == 1) = true
 rotate_left
 · exact sortOf_33_1 n m ai aw bi bw ci cw xa xb xc xi xw nm w h0 (eq_false_of_ne_true h1)
 by_cases h2 : (bi == ci) = true
 rotate_left
 · exact sortOf_33_2 n m ai aw bi bw ci cw xa xb xc xi xw nm w h0 h1 (eq_false_of_ne_true h2)
 by_cases h3 : (bw == cw) = true
 rotate_left
 · exact sortOf_33_3 n m ai aw bi bw ci cw xa xb xc xi xw nm w h0 h1 h2 (eq_false_of_ne_true h3)
 exact sortOf_33_4 n m ai aw bi bw ci cw xa xb xc xi xw nm w h0 h1 h2 h3
theorem sortOf_37_0 (n m ai aw bi bw ci cw xa xb xc xi xw : Int) (nm : ByteArray) (w : World) (h0 : (decide (0 < ai)) = false) :
 Calls Tryz.prog 82 #[.agg #[.int .i64 37, .int .i64 xa, .int .i64 xb, .int .i64 xc, .int .i64 n, .int .i64 m, .int .i64 xi, .int .i64 xw, .string nm], .agg #[.int .i64 ai, .int .i64 aw], .agg #[.int .i64 bi, .int .i64 bw], .agg #[.int .i64 ci, .int .i64 cw]] w (ResPost (resN 37 n m ai aw bi bw ci cw) w) := by
 have HR := Lib.hid (show (resN 37 n m ai aw bi bw ci cw) = none by unfold resN; simp only [h0, Bool.and_false, Bool.false_and, Bool.true_and, Bool.and_true]; rfl)
 go_enter Tryz.func82, Tryz.ntmps82
 go_upto_region 1 with fail
 obtain ⟨w2, hw2, HB, b0, b4, b5, b6, b7, d0, d1, d2, d3, d4, d5, r0, r1, f0, f1⟩ := sort_world 37 n m ai aw bi bw ci cw xa xb xc xi xw nm w
 rw [hw2]
 clear hw2
 have p0 := here b0; have p1 := here b4; have p2 := here b5; have p3 := here b6; have p4 := here b7; have p5 := here d0; have p6 := here d1; have p7 := here d2; have p8 := here d3; have p9 := here d4; have p10 := here d5
 go_wp2
 clear p0 p1 p2 p3 p4 p5 p6 p7 p8 p9 p10
 refine wp_region_two (G := w.heap.size + 4) 13 (.int .i64 (0)) (.int .i64 (aw)) (by kernel_rfl) (by kernel_rfl) rfl (by kernel_rfl) HB.out (Nat.le_add_right _ _) r0 r1 f0 f1 ?_
 apply Exists.intro
 refine ⟨fun W hk => ?_, ?_, ?_, ?_⟩
 · have e0 := hk _ _ _ (by omega) b0; have e1 := hk _ _ _ (by omega) b4; have e2 := hk _ _ _ (by omega) b5; have e3 := hk _ _ _ (by omega) b6; have e4 := hk _ _ _ (by omega) b7; have e5 := hk _ _ _ (by omega) d0; have e6 := hk _ _ _ (by omega) d1; have e7 := hk _ _ _ (by omega) d2; have e8 := hk _ _ _ (by omega) d3; have e9 := hk _ _ _ (by omega) d4; have e10 := hk _ _ _ (by omega) d5
   clear hk
   simp only [List.take_succ_cons, List.take_zero]
   repeat (go_big_quiet_step (first | (go_at_call 48; exact Calls.later (words_calls _ _))))
   exact wpQuiet_nil rfl
 · rfl
 · intro u s0 s1 t0 t1
   go_simp
 · intro u hb s0 s1
   have hbel := Lib.hid hb
   simp only [List.drop_succ_cons, List.drop_zero]
   clear r0 r1 f0 f1 hb
   go_wp2
   exact bodyPost_ret (v := .tuple #[.agg #[.int .i64 (0), .int .i64 (aw)], .bool false]) (by simp [results, Tryz.results82, go_sem, s0, s1]) rfl (respost_none HR.out hbel.out)
theorem sortOf_37_1 (n m ai aw bi bw ci cw xa xb xc xi xw : Int) (nm : ByteArray) (w : World) (h0 : (decide (0 < ai)) = true) (h1 : (bi == 0) = false) :
 Calls Tryz.prog 82 #[.agg #[.int .i64 37, .int .i64 xa, .int .i64 xb, .int .i64 xc, .int .i64 n, .int .i64 m, .int .i64 xi, .int .i64 xw, .string nm], .agg #[.int .i64 ai, .int .i64 aw], .agg #[.int .i64 bi, .int .i64 bw], .agg #[.int .i64 ci, .int .i64 cw]] w (ResPost (resN 37 n m ai aw bi bw ci cw) w) := by
 have HR := Lib.hid (show (resN 37 n m ai aw bi bw ci cw) = none by unfold resN; simp only [h0, h1, Bool.and_false, Bool.false_and, Bool.true_and, Bool.and_true]; rfl)
 go_enter Tryz.func82, Tryz.ntmps82
 go_upto_region 1 with fail
 obtain ⟨w2, hw2, HB, b0, b4, b5, b6, b7, d0, d1, d2, d3, d4, d5, r0, r1, f0, f1⟩ := sort_world 37 n m ai aw bi bw ci cw xa xb xc xi xw nm w
 rw [hw2]
 clear hw2
 have p0 := here b0; have p1 := here b4; have p2 := here b5; have p3 := here b6; have p4 := here b7; have p5 := here d0; have p6 := here d1; have p7 := here d2; have p8 := here d3; have p9 := here d4; have p10 := here d5
 go_wp2
 clear p0 p1 p2 p3 p4 p5 p6 p7 p8 p9 p10
 refine wp_region_two (G := w.heap.size + 4) 13 (.int .i64 (0)) (.int .i64 (aw)) (by kernel_rfl) (by kernel_rfl) rfl (by kernel_rfl) HB.out (Nat.le_add_right _ _) r0 r1 f0 f1 ?_
 apply Exists.intro
 refine ⟨fun W hk => ?_, ?_, ?_, ?_⟩
 · have e0 := hk _ _ _ (by omega) b0; have e1 := hk _ _ _ (by omega) b4; have e2 := hk _ _ _ (by omega) b5; have e3 := hk _ _ _ (by omega) b6; have e4 := hk _ _ _ (by omega) b7; have e5 := hk _ _ _ (by omega) d0; have e6 := hk _ _ _ (by omega) d1; have e7 := hk _ _ _ (by omega) d2; have e8 := hk _ _ _ (by omega) d3; have e9 := hk _ _ _ (by omega) d4; have e10 := hk _ _ _ (by omega) d5
   clear hk
   simp only [List.take_succ_cons, List.take_zero]
   repeat (go_big_quiet_step (first | (go_at_call 48; exact Calls.later (words_calls _ _))))
   exact wpQuiet_nil rfl
 · rfl
 · intro u s0 s1 t0 t1
   go_simp
 · intro u hb s0 s1
   have hbel := Lib.hid hb
   simp only [List.drop_succ_cons, List.drop_zero]
   clear r0 r1 f0 f1 hb
   go_wp2
   exact bodyPost_ret (v := .tuple #[.agg #[.int .i64 (0), .int .i64 (aw)], .bool false]) (by simp [results, Tryz.results82, go_sem, s0, s1]) rfl (respost_none HR.out hbel.out)
theorem sortOf_37_2 (n m ai aw bi bw ci cw xa xb xc xi xw : Int) (nm : ByteArray) (w : World) (h0 : (decide (0 < ai)) = true) (h1 : (bi == 0) = true) (h2 : (bw == ai) = false) :
 Calls Tryz.prog 82 #[.agg #[.int .i64 37, .int .i64 xa, .int .i64 xb, .int .i64 xc, .int .i64 n, .int .i64 m, .int .i64 xi, .int .i64 xw, .string nm], .agg #[.int .i64 ai, .int .i64 aw], .agg #[.int .i64 bi, .int .i64 bw], .agg #[.int .i64 ci, .int .i64 cw]] w (ResPost (resN 37 n m ai aw bi bw ci cw) w) := by
 have HR := Lib.hid (show (resN 37 n m ai aw bi bw ci cw) = none by unfold resN; simp only [h0, h1, h2, Bool.and_false, Bool.false_and, Bool.true_and, Bool.and_true]; rfl)
 go_enter Tryz.func82, Tryz.ntmps82
 go_upto_region 1 with fail
 obtain ⟨w2, hw2, HB, b0, b4, b5, b6, b7, d0, d1, d2, d3, d4, d5, r0, r1, f0, f1⟩ := sort_world 37 n m ai aw bi bw ci cw xa xb xc xi xw nm w
 rw [hw2]
 clear hw2
 have p0 := here b0; have p1 := here b4; have p2 := here b5; have p3 := here b6; have p4 := here b7; have p5 := here d0; have p6 := here d1; have p7 := here d2; have p8 := here d3; have p9 := here d4; have p10 := here d5
 go_wp2
 clear p0 p1 p2 p3 p4 p5 p6 p7 p8 p9 p10
 refine wp_region_two (G := w.heap.size + 4) 13 (.int .i64 (0)) (.int .i64 (aw)) (by kernel_rfl) (by kernel_rfl) rfl (by kernel_rfl) HB.out (Nat.le_add_right _ _) r0 r1 f0 f1 ?_
 apply Exists.intro
 refine ⟨fun W hk => ?_, ?_, ?_, ?_⟩
 · have e0 := hk _ _ _ (by omega) b0; have e1 := hk _ _ _ (by omega) b4; have e2 := hk _ _ _ (by omega) b5; have e3 := hk _ _ _ (by omega) b6; have e4 := hk _ _ _ (by omega) b7; have e5 := hk _ _ _ (by omega) d0; have e6 := hk _ _ _ (by omega) d1; have e7 := hk _ _ _ (by omega) d2; have e8 := hk _ _ _ (by omega) d3; have e9 := hk _ _ _ (by omega) d4; have e10 := hk _ _ _ (by omega) d5
   clear hk
   simp only [List.take_succ_cons, List.take_zero]
   repeat (go_big_quiet_step (first | (go_at_call 48; exact Calls.later (words_calls _ _))))
   exact wpQuiet_nil rfl
 · rfl
 · intro u s0 s1 t0 t1
   go_simp
 · intro u hb s0 s1
   have hbel := Lib.hid hb
   simp only [List.drop_succ_cons, List.drop_zero]
   clear r0 r1 f0 f1 hb
   go_wp2
   exact bodyPost_ret (v := .tuple #[.agg #[.int .i64 (0), .int .i64 (aw)], .bool false]) (by simp [results, Tryz.results82, go_sem, s0, s1]) rfl (respost_none HR.out hbel.out)
theorem sortOf_37_3 (n m ai aw bi bw ci cw xa xb xc xi xw : Int) (nm : ByteArray) (w : World) (h0 : (decide (0 < ai)) = true) (h1 : (bi == 0) = true) (h2 : (bw == ai) = true) :
 Calls Tryz.prog 82 #[.agg #[.int .i64 37, .int .i64 xa, .int .i64 xb, .int .i64 xc, .int .i64 n, .int .i64 m, .int .i64 xi, .int .i64 xw, .string nm], .agg #[.int .i64 ai, .int .i64 aw], .agg #[.int .i64 bi, .int .i64 bw], .agg #[.int .i64 ci, .int .i64 cw]] w (ResPost (resN 37 n m ai aw bi bw ci cw) w) := by
 have HR := Lib.hid (show (resN 37 n m ai aw bi bw ci cw) = some (0, aw) by unfold resN; simp only [h0, h1, h2]; rfl)
 go_enter Tryz.func82, Tryz.ntmps82
 go_upto_region 1 with fail
 obtain ⟨w2, hw2, HB, b0, b4, b5, b6, b7, d0, d1, d2, d3, d4, d5, r0, r1, f0, f1⟩ := sort_world 37 n m ai aw bi bw ci cw xa xb xc xi xw nm w
 rw [hw2]
 clear hw2
 have p0 := here b0; have p1 := here b4; have p2 := here b5; have p3 := here b6; have p4 := here b7; have p5 := here d0; have p6 := here d1; have p7 := here d2; have p8 := here d3; have p9 := here d4; have p10 := here d5
 go_wp2
 clear p0 p1 p2 p3 p4 p5 p6 p7 p8 p9 p10
 refine wp_region_two (G := w.heap.size + 4) 13 (.int .i64 (0)) (.int .i64 (aw)) (by kernel_rfl) (by kernel_rfl) rfl (by kernel_rfl) HB.out (Nat.le_add_right _ _) r0 r1 f0 f1 ?_
 apply Exists.intro
 refine ⟨fun W hk => ?_, ?_, ?_, ?_⟩
 · have e0 := hk _ _ _ (by omega) b0; have e1 := hk _ _ _ (by omega) b4; have e2 := hk _ _ _ (by omega) b5; have e3 := hk _ _ _ (by omega) b6; have e4 := hk _ _ _ (by omega) b7; have e5 := hk _ _ _ (by omega) d0; have e6 := hk _ _ _ (by omega) d1; have e7 := hk _ _ _ (by omega) d2; have e8 := hk _ _ _ (by omega) d3; have e9 := hk _ _ _ (by omega) d4; have e10 := hk _ _ _ (by omega) d5
   clear hk
   simp only [List.take_succ_cons, List.take_zero]
   repeat (go_big_quiet_step (first | (go_at_call 48; exact Calls.later (words_calls _ _))))
   exact wpQuiet_nil rfl
 · rfl
 · intro u s0 s1 t0 t1
   go_simp
 · intro u hb s0 s1
   have hbel := Lib.hid hb
   simp only [List.drop_succ_cons, List.drop_zero]
   clear r0 r1 f0 f1 hb
   go_wp2
   exact bodyPost_ret (v := .tuple #[.agg #[.int .i64 (0), .int .i64 (aw)], .bool true]) (by simp [results, Tryz.results82, go_sem, s0, s1]) rfl (respost_some HR.out hbel.out)
theorem sortOf_37 (n m ai aw bi bw ci cw xa xb xc xi xw : Int) (nm : ByteArray) (w : World)  :
 Calls Tryz.prog 82 #[.agg #[.int .i64 37, .int .i64 xa, .int .i64 xb, .int .i64 xc, .int .i64 n, .int .i64 m, .int .i64 xi, .int .i64 xw, .string nm], .agg #[.int .i64 ai, .int .i64 aw], .agg #[.int .i64 bi, .int .i64 bw], .agg #[.int .i64 ci, .int .i64 cw]] w (ResPost (resN 37 n m ai aw bi bw ci cw) w) := by
 by_cases h0 : (decide (0 < ai)) = true
 rotate_left
 · exact sortOf_37_0 n m ai aw bi bw ci cw xa xb xc xi xw nm w  (eq_false_of_ne_true h0)
 by_cases h1 : (bi == 0) = true
 rotate_left
 · exact sortOf_37_1 n m ai aw bi bw ci cw xa xb xc xi xw nm w h0 (eq_false_of_ne_true h1)
 by_cases h2 : (bw == ai) = true
 rotate_left
 · exact sortOf_37_2 n m ai aw bi bw ci cw xa xb xc xi xw nm w h0 h1 (eq_false_of_ne_true h2)
 exact sortOf_37_3 n m ai aw bi bw ci cw xa xb xc xi xw nm w h0 h1 h2
theorem sortOf_38_0 (n m ai aw bi bw ci cw xa xb xc xi xw : Int) (nm : ByteArray) (w : World) (h0 : (decide (0 < ai)) = false) :
 Calls Tryz.prog 82 #[.agg #[.int .i64 38, .int .i64 xa, .int .i64 xb, .int .i64 xc, .int .i64 n, .int .i64 m, .int .i64 xi, .int .i64 xw, .string nm], .agg #[.int .i64 ai, .int .i64 aw], .agg #[.int .i64 bi, .int .i64 bw], .agg #[.int .i64 ci, .int .i64 cw]] w (ResPost (resN 38 n m ai aw bi bw ci cw) w) := by
 have HR := Lib.hid (show (resN 38 n m ai aw bi bw ci cw) = none by unfold resN; simp only [h0, Bool.and_false, Bool.false_and, Bool.true_and, Bool.and_true]; rfl)
 go_enter Tryz.func82, Tryz.ntmps82
 go_upto_region 1 with fail
 obtain ⟨w2, hw2, HB, b0, b4, b5, b6, b7, d0, d1, d2, d3, d4, d5, r0, r1, f0, f1⟩ := sort_world 38 n m ai aw bi bw ci cw xa xb xc xi xw nm w
 rw [hw2]
 clear hw2
 have p0 := here b0; have p1 := here b4; have p2 := here b5; have p3 := here b6; have p4 := here b7; have p5 := here d0; have p6 := here d1; have p7 := here d2; have p8 := here d3; have p9 := here d4; have p10 := here d5
 go_wp2
 clear p0 p1 p2 p3 p4 p5 p6 p7 p8 p9 p10
 refine wp_region_two (G := w.heap.size + 4) 18 (.int .i64 (ai)) (.int .i64 (aw)) (by kernel_rfl) (by kernel_rfl) rfl (by kernel_rfl) HB.out (Nat.le_add_right _ _) r0 r1 f0 f1 ?_
 apply Exists.intro
 refine ⟨fun W hk => ?_, ?_, ?_, ?_⟩
 · have e0 := hk _ _ _ (by omega) b0; have e1 := hk _ _ _ (by omega) b4; have e2 := hk _ _ _ (by omega) b5; have e3 := hk _ _ _ (by omega) b6; have e4 := hk _ _ _ (by omega) b7; have e5 := hk _ _ _ (by omega) d0; have e6 := hk _ _ _ (by omega) d1; have e7 := hk _ _ _ (by omega) d2; have e8 := hk _ _ _ (by omega) d3; have e9 := hk _ _ _ (by omega) d4; have e10 := hk _ _ _ (by omega) d5
   clear hk
   simp only [List.take_succ_cons, List.take_zero]
   repeat (go_big_quiet_step (first | (go_at_call 48; exact Calls.later (words_calls _ _))))
   exact wpQuiet_nil rfl
 · rfl
 · intro u s0 s1 t0 t1
   go_simp
 · intro u hb s0 s1
   have hbel := Lib.hid hb
   simp only [List.drop_succ_cons, List.drop_zero]
   clear r0 r1 f0 f1 hb
   go_wp2
   exact bodyPost_ret (v := .tuple #[.agg #[.int .i64 (ai), .int .i64 (aw)], .bool false]) (by simp [results, Tryz.results82, go_sem, s0, s1]) rfl (respost_none HR.out hbel.out)
theorem sortOf_38_1 (n m ai aw bi bw ci cw xa xb xc xi xw : Int) (nm : ByteArray) (w : World) (h0 : (decide (0 < ai)) = true) (h1 : (bi == 0) = false) :
 Calls Tryz.prog 82 #[.agg #[.int .i64 38, .int .i64 xa, .int .i64 xb, .int .i64 xc, .int .i64 n, .int .i64 m, .int .i64 xi, .int .i64 xw, .string nm], .agg #[.int .i64 ai, .int .i64 aw], .agg #[.int .i64 bi, .int .i64 bw], .agg #[.int .i64 ci, .int .i64 cw]] w (ResPost (resN 38 n m ai aw bi bw ci cw) w) := by
 have HR := Lib.hid (show (resN 38 n m ai aw bi bw ci cw) = none by unfold resN; simp only [h0, h1, Bool.and_false, Bool.false_and, Bool.true_and, Bool.and_true]; rfl)
 go_enter Tryz.func82, Tryz.ntmps82
 go_upto_region 1 with fail
 obtain ⟨w2, hw2, HB, b0, b4, b5, b6, b7, d0, d1, d2, d3, d4, d5, r0, r1, f0, f1⟩ := sort_world 38 n m ai aw bi bw ci cw xa xb xc xi xw nm w
 rw [hw2]
 clear hw2
 have p0 := here b0; have p1 := here b4; have p2 := here b5; have p3 := here b6; have p4 := here b7; have p5 := here d0; have p6 := here d1; have p7 := here d2; have p8 := here d3; have p9 := here d4; have p10 := here d5
 go_wp2
 clear p0 p1 p2 p3 p4 p5 p6 p7 p8 p9 p10
 refine wp_region_two (G := w.heap.size + 4) 18 (.int .i64 (ai)) (.int .i64 (aw)) (by kernel_rfl) (by kernel_rfl) rfl (by kernel_rfl) HB.out (Nat.le_add_right _ _) r0 r1 f0 f1 ?_
 apply Exists.intro
 refine ⟨fun W hk => ?_, ?_, ?_, ?_⟩
 · have e0 := hk _ _ _ (by omega) b0; have e1 := hk _ _ _ (by omega) b4; have e2 := hk _ _ _ (by omega) b5; have e3 := hk _ _ _ (by omega) b6; have e4 := hk _ _ _ (by omega) b7; have e5 := hk _ _ _ (by omega) d0; have e6 := hk _ _ _ (by omega) d1; have e7 := hk _ _ _ (by omega) d2; have e8 := hk _ _ _ (by omega) d3; have e9 := hk _ _ _ (by omega) d4; have e10 := hk _ _ _ (by omega) d5
   clear hk
   simp only [List.take_succ_cons, List.take_zero]
   repeat (go_big_quiet_step (first | (go_at_call 48; exact Calls.later (words_calls _ _))))
   exact wpQuiet_nil rfl
 · rfl
 · intro u s0 s1 t0 t1
   go_simp
 · intro u hb s0 s1
   have hbel := Lib.hid hb
   simp only [List.drop_succ_cons, List.drop_zero]
   clear r0 r1 f0 f1 hb
   go_wp2
   exact bodyPost_ret (v := .tuple #[.agg #[.int .i64 (ai), .int .i64 (aw)], .bool false]) (by simp [results, Tryz.results82, go_sem, s0, s1]) rfl (respost_none HR.out hbel.out)
theorem sortOf_38_2 (n m ai aw bi bw ci cw xa xb xc xi xw : Int) (nm : ByteArray) (w : World) (h0 : (decide (0 < ai)) = true) (h1 : (bi == 0) = true) (h2 : (bw == ai) = false) :
 Calls Tryz.prog 82 #[.agg #[.int .i64 38, .int .i64 xa, .int .i64 xb, .int .i64 xc, .int .i64 n, .int .i64 m, .int .i64 xi, .int .i64 xw, .string nm], .agg #[.int .i64 ai, .int .i64 aw], .agg #[.int .i64 bi, .int .i64 bw], .agg #[.int .i64 ci, .int .i64 cw]] w (ResPost (resN 38 n m ai aw bi bw ci cw) w) := by
 have HR := Lib.hid (show (resN 38 n m ai aw bi bw ci cw) = none by unfold resN; simp only [h0, h1, h2, Bool.and_false, Bool.false_and, Bool.true_and, Bool.and_true]; rfl)
 go_enter Tryz.func82, Tryz.ntmps82
 go_upto_region 1 with fail
 obtain ⟨w2, hw2, HB, b0, b4, b5, b6, b7, d0, d1, d2, d3, d4, d5, r0, r1, f0, f1⟩ := sort_world 38 n m ai aw bi bw ci cw xa xb xc xi xw nm w
 rw [hw2]
 clear hw2
 have p0 := here b0; have p1 := here b4; have p2 := here b5; have p3 := here b6; have p4 := here b7; have p5 := here d0; have p6 := here d1; have p7 := here d2; have p8 := here d3; have p9 := here d4; have p10 := here d5
 go_wp2
 clear p0 p1 p2 p3 p4 p5 p6 p7 p8 p9 p10
 refine wp_region_two (G := w.heap.size + 4) 18 (.int .i64 (ai)) (.int .i64 (aw)) (by kernel_rfl) (by kernel_rfl) rfl (by kernel_rfl) HB.out (Nat.le_add_right _ _) r0 r1 f0 f1 ?_
 apply Exists.intro
 refine ⟨fun W hk => ?_, ?_, ?_, ?_⟩
 · have e0 := hk _ _ _ (by omega) b0; have e1 := hk _ _ _ (by omega) b4; have e2 := hk _ _ _ (by omega) b5; have e3 := hk _ _ _ (by omega) b6; have e4 := hk _ _ _ (by omega) b7; have e5 := hk _ _ _ (by omega) d0; have e6 := hk _ _ _ (by omega) d1; have e7 := hk _ _ _ (by omega) d2; have e8 := hk _ _ _ (by omega) d3; have e9 := hk _ _ _ (by omega) d4; have e10 := hk _ _ _ (by omega) d5
   clear hk
   simp only [List.take_succ_cons, List.take_zero]
   repeat (go_big_quiet_step (first | (go_at_call 48; exact Calls.later (words_calls _ _))))
   exact wpQuiet_nil rfl
 · rfl
 · intro u s0 s1 t0 t1
   go_simp
 · intro u hb s0 s1
   have hbel := Lib.hid hb
   simp only [List.drop_succ_cons, List.drop_zero]
   clear r0 r1 f0 f1 hb
   go_wp2
   exact bodyPost_ret (v := .tuple #[.agg #[.int .i64 (ai), .int .i64 (aw)], .bool false]) (by simp [results, Tryz.results82, go_sem, s0, s1]) rfl (respost_none HR.out hbel.out)
theorem sortOf_38_3 (n m ai aw bi bw ci cw xa xb xc xi xw : Int) (nm : ByteArray) (w : World) (h0 : (decide (0 < ai)) = true) (h1 : (bi == 0) = true) (h2 : (bw == ai) = true) (h3 : (ci == 0) = false) :
 Calls Tryz.prog 82 #[.agg #[.int .i64 38, .int .i64 xa, .int .i64 xb, .int .i64 xc, .int .i64 n, .int .i64 m, .int .i64 xi, .int .i64 xw, .string nm], .agg #[.int .i64 ai, .int .i64 aw], .agg #[.int .i64 bi, .int .i64 bw], .agg #[.int .i64 ci, .int .i64 cw]] w (ResPost (resN 38 n m ai aw bi bw ci cw) w) := by
 have HR := Lib.hid (show (resN 38 n m ai aw bi bw ci cw) = none by unfold resN; simp only [h0, h1, h2, h3, Bool.and_false, Bool.false_and, Bool.true_and, Bool.and_true]; rfl)
 go_enter Tryz.func82, Tryz.ntmps82
 go_upto_region 1 with fail
 obtain ⟨w2, hw2, HB, b0, b4, b5, b6, b7, d0, d1, d2, d3, d4, d5, r0, r1, f0, f1⟩ := sort_world 38 n m ai aw bi bw ci cw xa xb xc xi xw nm w
 rw [hw2]
 clear hw2
 have p0 := here b0; have p1 := here b4; have p2 := here b5; have p3 := here b6; have p4 := here b7; have p5 := here d0; have p6 := here d1; have p7 := here d2; have p8 := here d3; have p9 := here d4; have p10 := here d5
 go_wp2
 clear p0 p1 p2 p3 p4 p5 p6 p7 p8 p9 p10
 refine wp_region_two (G := w.heap.size + 4) 18 (.int .i64 (ai)) (.int .i64 (aw)) (by kernel_rfl) (by kernel_rfl) rfl (by kernel_rfl) HB.out (Nat.le_add_right _ _) r0 r1 f0 f1 ?_
 apply Exists.intro
 refine ⟨fun W hk => ?_, ?_, ?_, ?_⟩
 · have e0 := hk _ _ _ (by omega) b0; have e1 := hk _ _ _ (by omega) b4; have e2 := hk _ _ _ (by omega) b5; have e3 := hk _ _ _ (by omega) b6; have e4 := hk _ _ _ (by omega) b7; have e5 := hk _ _ _ (by omega) d0; have e6 := hk _ _ _ (by omega) d1; have e7 := hk _ _ _ (by omega) d2; have e8 := hk _ _ _ (by omega) d3; have e9 := hk _ _ _ (by omega) d4; have e10 := hk _ _ _ (by omega) d5
   clear hk
   simp only [List.take_succ_cons, List.take_zero]
   repeat (go_big_quiet_step (first | (go_at_call 48; exact Calls.later (words_calls _ _))))
   exact wpQuiet_nil rfl
 · rfl
 · intro u s0 s1 t0 t1
   go_simp
 · intro u hb s0 s1
   have hbel := Lib.hid hb
   simp only [List.drop_succ_cons, List.drop_zero]
   clear r0 r1 f0 f1 hb
   go_wp2
   exact bodyPost_ret (v := .tuple #[.agg #[.int .i64 (ai), .int .i64 (aw)], .bool false]) (by simp [results, Tryz.results82, go_sem, s0, s1]) rfl (respost_none HR.out hbel.out)
theorem sortOf_38_4 (n m ai aw bi bw ci cw xa xb xc xi xw : Int) (nm : ByteArray) (w : World) (h0 : (decide (0 < ai)) = true) (h1 : (bi == 0) = true) (h2 : (bw == ai) = true) (h3 : (ci == 0) = true) (h4 : (cw == aw) = false) :
 Calls Tryz.prog 82 #[.agg #[.int .i64 38, .int .i64 xa, .int .i64 xb, .int .i64 xc, .int .i64 n, .int .i64 m, .int .i64 xi, .int .i64 xw, .string nm], .agg #[.int .i64 ai, .int .i64 aw], .agg #[.int .i64 bi, .int .i64 bw], .agg #[.int .i64 ci, .int .i64 cw]] w (ResPost (resN 38 n m ai aw bi bw ci cw) w) := by
 have HR := Lib.hid (show (resN 38 n m ai aw bi bw ci cw) = none by unfold resN; simp only [h0, h1, h2, h3, h4, Bool.and_false, Bool.false_and, Bool.true_and, Bool.and_true]; rfl)
 go_enter Tryz.func82, Tryz.ntmps82
 go_upto_region 1 with fail
 obtain ⟨w2, hw2, HB, b0, b4, b5, b6, b7, d0, d1, d2, d3, d4, d5, r0, r1, f0, f1⟩ := sort_world 38 n m ai aw bi bw ci cw xa xb xc xi xw nm w
 rw [hw2]
 clear hw2
 have p0 := here b0; have p1 := here b4; have p2 := here b5; have p3 := here b6; have p4 := here b7; have p5 := here d0; have p6 := here d1; have p7 := here d2; have p8 := here d3; have p9 := here d4; have p10 := here d5
 go_wp2
 clear p0 p1 p2 p3 p4 p5 p6 p7 p8 p9 p10
 refine wp_region_two (G := w.heap.size + 4) 18 (.int .i64 (ai)) (.int .i64 (aw)) (by kernel_rfl) (by kernel_rfl) rfl (by kernel_rfl) HB.out (Nat.le_add_right _ _) r0 r1 f0 f1 ?_
 apply Exists.intro
 refine ⟨fun W hk => ?_, ?_, ?_, ?_⟩
 · have e0 := hk _ _ _ (by omega) b0; have e1 := hk _ _ _ (by omega) b4; have e2 := hk _ _ _ (by omega) b5; have e3 := hk _ _ _ (by omega) b6; have e4 := hk _ _ _ (by omega) b7; have e5 := hk _ _ _ (by omega) d0; have e6 := hk _ _ _ (by omega) d1; have e7 := hk _ _ _ (by omega) d2; have e8 := hk _ _ _ (by omega) d3; have e9 := hk _ _ _ (by omega) d4; have e10 := hk _ _ _ (by omega) d5
   clear hk
   simp only [List.take_succ_cons, List.take_zero]
   repeat (go_big_quiet_step (first | (go_at_call 48; exact Calls.later (words_calls _ _))))
   exact wpQuiet_nil rfl
 · rfl
 · intro u s0 s1 t0 t1
   go_simp
 · intro u hb s0 s1
   have hbel := Lib.hid hb
   simp only [List.drop_succ_cons, List.drop_zero]
   clear r0 r1 f0 f1 hb
   go_wp2
   exact bodyPost_ret (v := .tuple #[.agg #[.int .i64 (ai), .int .i64 (aw)], .bool false]) (by simp [results, Tryz.results82, go_sem, s0, s1]) rfl (respost_none HR.out hbel.out)
theorem sortOf_38_5 (n m ai aw bi bw ci cw xa xb xc xi xw : Int) (nm : ByteArray) (w : World) (h0 : (decide (0 < ai)) = true) (h1 : (bi == 0) = true) (h2 : (bw == ai) = true) (h3 : (ci == 0) = true) (h4 : (cw == aw) = true) :
 Calls Tryz.prog 82 #[.agg #[.int .i64 38, .int .i64 xa, .int .i64 xb, .int .i64 xc, .int .i64 n, .int .i64 m, .int .i64 xi, .int .i64 xw, .string nm], .agg #[.int .i64 ai, .int .i64 aw], .agg #[.int .i64 bi, .int .i64 bw], .agg #[.int .i64 ci, .int .i64 cw]] w (ResPost (resN 38 n m ai aw bi bw ci cw) w) := by
 have HR := Lib.hid (show (resN 38 n m ai aw bi bw ci cw) = some (ai, aw) by unfold resN; simp only [h0, h1, h2, h3, h4]; rfl)
 go_enter Tryz.func82, Tryz.ntmps82
 go_upto_region 1 with fail
 obtain ⟨w2, hw2, HB, b0, b4, b5, b6, b7, d0, d1, d2, d3, d4, d5, r0, r1, f0, f1⟩ := sort_world 38 n m ai aw bi bw ci cw xa xb xc xi xw nm w
 rw [hw2]
 clear hw2
 have p0 := here b0; have p1 := here b4; have p2 := here b5; have p3 := here b6; have p4 := here b7; have p5 := here d0; have p6 := here d1; have p7 := here d2; have p8 := here d3; have p9 := here d4; have p10 := here d5
 go_wp2
 clear p0 p1 p2 p3 p4 p5 p6 p7 p8 p9 p10
 refine wp_region_two (G := w.heap.size + 4) 18 (.int .i64 (ai)) (.int .i64 (aw)) (by kernel_rfl) (by kernel_rfl) rfl (by kernel_rfl) HB.out (Nat.le_add_right _ _) r0 r1 f0 f1 ?_
 apply Exists.intro
 refine ⟨fun W hk => ?_, ?_, ?_, ?_⟩
 · have e0 := hk _ _ _ (by omega) b0; have e1 := hk _ _ _ (by omega) b4; have e2 := hk _ _ _ (by omega) b5; have e3 := hk _ _ _ (by omega) b6; have e4 := hk _ _ _ (by omega) b7; have e5 := hk _ _ _ (by omega) d0; have e6 := hk _ _ _ (by omega) d1; have e7 := hk _ _ _ (by omega) d2; have e8 := hk _ _ _ (by omega) d3; have e9 := hk _ _ _ (by omega) d4; have e10 := hk _ _ _ (by omega) d5
   clear hk
   simp only [List.take_succ_cons, List.take_zero]
   repeat (go_big_quiet_step (first | (go_at_call 48; exact Calls.later (words_calls _ _))))
   exact wpQuiet_nil rfl
 · rfl
 · intro u s0 s1 t0 t1
   go_simp
 · intro u hb s0 s1
   have hbel := Lib.hid hb
   simp only [List.drop_succ_cons, List.drop_zero]
   clear r0 r1 f0 f1 hb
   go_wp2
   exact bodyPost_ret (v := .tuple #[.agg #[.int .i64 (ai), .int .i64 (aw)], .bool true]) (by simp [results, Tryz.results82, go_sem, s0, s1]) rfl (respost_some HR.out hbel.out)
theorem sortOf_38 (n m ai aw bi bw ci cw xa xb xc xi xw : Int) (nm : ByteArray) (w : World)  :
 Calls Tryz.prog 82 #[.agg #[.int .i64 38, .int .i64 xa, .int .i64 xb, .int .i64 xc, .int .i64 n, .int .i64 m, .int .i64 xi, .int .i64 xw, .string nm], .agg #[.int .i64 ai, .int .i64 aw], .agg #[.int .i64 bi, .int .i64 bw], .agg #[.int .i64 ci, .int .i64 cw]] w (ResPost (resN 38 n m ai aw bi bw ci cw) w) := by
 by_cases h0 : (decide (0 < ai)) = true
 rotate_left
 · exact sortOf_38_0 n m ai aw bi bw ci cw xa xb xc xi xw nm w  (eq_false_of_ne_true h0)
 by_cases h1 : (bi == 0) = true
 rotate_left
 · exact sortOf_38_1 n m ai aw bi bw ci cw xa xb xc xi xw nm w h0 (eq_false_of_ne_true h1)
 by_cases h2 : (bw == ai) = true
 rotate_left
 · exact sortOf_38_2 n m ai aw bi bw ci cw xa xb xc xi xw nm w h0 h1 (eq_false_of_ne_true h2)
 by_cases h3 : (ci == 0) = true
 rotate_left
 · exact sortOf_38_3 n m ai aw bi bw ci cw xa xb xc xi xw nm w h0 h1 h2 (eq_false_of_ne_true h3)
 by_cases h4 : (cw == aw) = true
 rotate_left
 · exact sortOf_38_4 n m ai aw bi bw ci cw xa xb xc xi xw nm w h0 h1 h2 h3 (eq_false_of_ne_true h4)
 exact sortOf_38_5 n m ai aw bi bw ci cw xa xb xc xi xw nm w h0 h1 h2 h3 h4
theorem sortOf_21_0 (n m ai aw bi bw ci cw xa xb xc xi xw : Int) (nm : ByteArray) (w : World) (h0 : (ai == bi) = false) :
 Calls Tryz.prog 82 #[.agg #[.int .i64 21, .int .i64 xa, .int .i64 xb, .int .i64 xc, .int .i64 n, .int .i64 m, .int .i64 xi, .int .i64 xw, .string nm], .agg #[.int .i64 ai, .int .i64 aw], .agg #[.int .i64 bi, .int .i64 bw], .agg #[.int .i64 ci, .int .i64 cw]] w (ResPost (resN 21 n m ai aw bi bw ci cw) w) := by
 have HR := Lib.hid (show (resN 21 n m ai aw bi bw ci cw) = none by unfold resN; simp only [h0, Bool.and_false, Bool.false_and, Bool.true_and, Bool.and_true]; rfl)
 go_enter Tryz.func82, Tryz.ntmps82
 go_upto_region 1 with fail
 obtain ⟨w2, hw2, HB, b0, b4, b5, b6, b7, d0, d1, d2, d3, d4, d5, r0, r1, f0, f1⟩ := sort_world 21 n m ai aw bi bw ci cw xa xb xc xi xw nm w
 rw [hw2]
 clear hw2
 have p0 := here b0; have p1 := here b4; have p2 := here b5; have p3 := here b6; have p4 := here b7; have p5 := here d0; have p6 := here d1; have p7 := here d2; have p8 := here d3; have p9 := here d4; have p10 := here d5
 go_wp2
 clear p0 p1 p2 p3 p4 p5 p6 p7 p8 p9 p10
 refine wp_region_two (G := w.heap.size + 4) 4 (.int .i64 (0)) (.int .i64 (1)) (by kernel_rfl) (by kernel_rfl) rfl (by kernel_rfl) HB.out (Nat.le_add_right _ _) r0 r1 f0 f1 ?_
 apply Exists.intro
 refine ⟨fun W hk => ?_, ?_, ?_, ?_⟩
 · have e0 := hk _ _ _ (by omega) b0; have e1 := hk _ _ _ (by omega) b4; have e2 := hk _ _ _ (by omega) b5; have e3 := hk _ _ _ (by omega) b6; have e4 := hk _ _ _ (by omega) b7; have e5 := hk _ _ _ (by omega) d0; have e6 := hk _ _ _ (by omega) d1; have e7 := hk _ _ _ (by omega) d2; have e8 := hk _ _ _ (by omega) d3; have e9 := hk _ _ _ (by omega) d4; have e10 := hk _ _ _ (by omega) d5
   clear hk
   simp only [List.take_succ_cons, List.take_zero]
   repeat (go_big_quiet_step (first | (go_at_call 48; exact Calls.later (words_calls _ _))))
   exact wpQuiet_nil rfl
 · rfl
 · intro u s0 s1 t0 t1
   go_simp
 · intro u hb s0 s1
   have hbel := Lib.hid hb
   simp only [List.drop_succ_cons, List.drop_zero]
   clear r0 r1 f0 f1 hb
   go_wp2
   exact bodyPost_ret (v := .tuple #[.agg #[.int .i64 (0), .int .i64 (1)], .bool false]) (by simp [results, Tryz.results82, go_sem, s0, s1]) rfl (respost_none HR.out hbel.out)
theorem sortOf_21_1 (n m ai aw bi bw ci cw xa xb xc xi xw : Int) (nm : ByteArray) (w : World) (h0 : (ai == bi) = true) (h1 : (aw == bw) = false) :
 Calls Tryz.prog 82 #[.agg #[.int .i64 21, .int .i64 xa, .int .i64 xb, .int .i64 xc, .int .i64 n, .int .i64 m, .int .i64 xi, .int .i64 xw, .string nm], .agg #[.int .i64 ai, .int .i64 aw], .agg #[.int .i64 bi, .int .i64 bw], .agg #[.int .i64 ci, .int .i64 cw]] w (ResPost (resN 21 n m ai aw bi bw ci cw) w) := by
 have HR := Lib.hid (show (resN 21 n m ai aw bi bw ci cw) = none by unfold resN; simp only [h0, h1, Bool.and_false, Bool.false_and, Bool.true_and, Bool.and_true]; rfl)
 go_enter Tryz.func82, Tryz.ntmps82
 go_upto_region 1 with fail
 obtain ⟨w2, hw2, HB, b0, b4, b5, b6, b7, d0, d1, d2, d3, d4, d5, r0, r1, f0, f1⟩ := sort_world 21 n m ai aw bi bw ci cw xa xb xc xi xw nm w
 rw [hw2]
 clear hw2
 have p0 := here b0; have p1 := here b4; have p2 := here b5; have p3 := here b6; have p4 := here b7; have p5 := here d0; have p6 := here d1; have p7 := here d2; have p8 := here d3; have p9 := here d4; have p10 := here d5
 go_wp2
 clear p0 p1 p2 p3 p4 p5 p6 p7 p8 p9 p10
 refine wp_region_two (G := w.heap.size + 4) 4 (.int .i64 (0)) (.int .i64 (1)) (by kernel_rfl) (by kernel_rfl) rfl (by kernel_rfl) HB.out (Nat.le_add_right _ _) r0 r1 f0 f1 ?_
 apply Exists.intro
 refine ⟨fun W hk => ?_, ?_, ?_, ?_⟩
 · have e0 := hk _ _ _ (by omega) b0; have e1 := hk _ _ _ (by omega) b4; have e2 := hk _ _ _ (by omega) b5; have e3 := hk _ _ _ (by omega) b6; have e4 := hk _ _ _ (by omega) b7; have e5 := hk _ _ _ (by omega) d0; have e6 := hk _ _ _ (by omega) d1; have e7 := hk _ _ _ (by omega) d2; have e8 := hk _ _ _ (by omega) d3; have e9 := hk _ _ _ (by omega) d4; have e10 := hk _ _ _ (by omega) d5
   clear hk
   simp only [List.take_succ_cons, List.take_zero]
   repeat (go_big_quiet_step (first | (go_at_call 48; exact Calls.later (words_calls _ _))))
   exact wpQuiet_nil rfl
 · rfl
 · intro u s0 s1 t0 t1
   go_simp
 · intro u hb s0 s1
   have hbel := Lib.hid hb
   simp only [List.drop_succ_cons, List.drop_zero]
   clear r0 r1 f0 f1 hb
   go_wp2
   exact bodyPost_ret (v := .tuple #[.agg #[.int .i64 (0), .int .i64 (1)], .bool false]) (by simp [results, Tryz.results82, go_sem, s0, s1]) rfl (respost_none HR.out hbel.out)
theorem sortOf_21_2 (n m ai aw bi bw ci cw xa xb xc xi xw : Int) (nm : ByteArray) (w : World) (h0 : (ai == bi) = true) (h1 : (aw == bw) = true) :
 Calls Tryz.prog 82 #[.agg #[.int .i64 21, .int .i64 xa, .int .i64 xb, .int .i64 xc, .int .i64 n, .int .i64 m, .int .i64 xi, .int .i64 xw, .string nm], .agg #[.int .i64 ai, .int .i64 aw], .agg #[.int .i64 bi, .int .i64 bw], .agg #[.int .i64 ci, .int .i64 cw]] w (ResPost (resN 21 n m ai aw bi bw ci cw) w) := by
 have HR := Lib.hid (show (resN 21 n m ai aw bi bw ci cw) = some (0, 1) by unfold resN; simp only [h0, h1]; rfl)
 go_enter Tryz.func82, Tryz.ntmps82
 go_upto_region 1 with fail
 obtain ⟨w2, hw2, HB, b0, b4, b5, b6, b7, d0, d1, d2, d3, d4, d5, r0, r1, f0, f1⟩ := sort_world 21 n m ai aw bi bw ci cw xa xb xc xi xw nm w
 rw [hw2]
 clear hw2
 have p0 := here b0; have p1 := here b4; have p2 := here b5; have p3 := here b6; have p4 := here b7; have p5 := here d0; have p6 := here d1; have p7 := here d2; have p8 := here d3; have p9 := here d4; have p10 := here d5
 go_wp2
 clear p0 p1 p2 p3 p4 p5 p6 p7 p8 p9 p10
 refine wp_region_two (G := w.heap.size + 4) 4 (.int .i64 (0)) (.int .i64 (1)) (by kernel_rfl) (by kernel_rfl) rfl (by kernel_rfl) HB.out (Nat.le_add_right _ _) r0 r1 f0 f1 ?_
 apply Exists.intro
 refine ⟨fun W hk => ?_, ?_, ?_, ?_⟩
 · have e0 := hk _ _ _ (by omega) b0; have e1 := hk _ _ _ (by omega) b4; have e2 := hk _ _ _ (by omega) b5; have e3 := hk _ _ _ (by omega) b6; have e4 := hk _ _ _ (by omega) b7; have e5 := hk _ _ _ (by omega) d0; have e6 := hk _ _ _ (by omega) d1; have e7 := hk _ _ _ (by omega) d2; have e8 := hk _ _ _ (by omega) d3; have e9 := hk _ _ _ (by omega) d4; have e10 := hk _ _ _ (by omega) d5
   clear hk
   simp only [List.take_succ_cons, List.take_zero]
   repeat (go_big_quiet_step (first | (go_at_call 48; exact Calls.later (words_calls _ _))))
   exact wpQuiet_nil rfl
 · rfl
 · intro u s0 s1 t0 t1
   go_simp
 · intro u hb s0 s1
   have hbel := Lib.hid hb
   simp only [List.drop_succ_cons, List.drop_zero]
   clear r0 r1 f0 f1 hb
   go_wp2
   exact bodyPost_ret (v := .tuple #[.agg #[.int .i64 (0), .int .i64 (1)], .bool true]) (by simp [results, Tryz.results82, go_sem, s0, s1]) rfl (respost_some HR.out hbel.out)
theorem sortOf_21 (n m ai aw bi bw ci cw xa xb xc xi xw : Int) (nm : ByteArray) (w : World)  :
 Calls Tryz.prog 82 #[.agg #[.int .i64 21, .int .i64 xa, .int .i64 xb, .int .i64 xc, .int .i64 n, .int .i64 m, .int .i64 xi, .int .i64 xw, .string nm], .agg #[.int .i64 ai, .int .i64 aw], .agg #[.int .i64 bi, .int .i64 bw], .agg #[.int .i64 ci, .int .i64 cw]] w (ResPost (resN 21 n m ai aw bi bw ci cw) w) := by
 by_cases h0 : (ai == bi) = true
 rotate_left
 · exact sortOf_21_0 n m ai aw bi bw ci cw xa xb xc xi xw nm w  (eq_false_of_ne_true h0)
 by_cases h1 : (aw == bw) = true
 rotate_left
 · exact sortOf_21_1 n m ai aw bi bw ci cw xa xb xc xi xw nm w h0 (eq_false_of_ne_true h1)
 exact sortOf_21_2 n m ai aw bi bw ci cw xa xb xc xi xw nm w h0 h1
end Go.Proofs.YthejgnabgglmhaaGreat
namespace Go.Proofs.YthejgnabgglmhaaGreat
open Go.RowKit
attribute [local go_sem high] eq_sort
theorem sortOf_35_true (n m ai aw bi bw ci cw xa xb xc xi xw : Int) (nm : ByteArray) (w : World) (r : Option (Int × Int)) (hr : r = some (xi, xw)) (h : sokB xi xw = true) :
 Calls Tryz.prog 82 #[.agg #[.int .i64 35, .int .i64 xa, .int .i64 xb, .int .i64 xc, .int .i64 n, .int .i64 m, .int .i64 xi, .int .i64 xw, .string nm], .agg #[.int .i64 ai, .int .i64 aw], .agg #[.int .i64 bi, .int .i64 bw], .agg #[.int .i64 ci, .int .i64 cw]] w (ResPost (r) w) := by
 have HR := Lib.hid (show (r) = some (xi, xw) by exact hr)
 have HSO := Lib.hid h
 clear h hr
 go_enter Tryz.func82, Tryz.ntmps82
 go_upto_region 1 with fail
 obtain ⟨w2, hw2, HB, b0, b4, b5, b6, b7, d0, d1, d2, d3, d4, d5, r0, r1, f0, f1⟩ := sort_world 35 n m ai aw bi bw ci cw xa xb xc xi xw nm w
 rw [hw2]
 clear hw2
 have p0 := here b0; have p1 := here b4; have p2 := here b5; have p3 := here b6; have p4 := here b7; have p5 := here d0; have p6 := here d1; have p7 := here d2; have p8 := here d3; have p9 := here d4; have p10 := here d5
 go_wp2
 clear p0 p1 p2 p3 p4 p5 p6 p7 p8 p9 p10
 refine wp_region_two (G := w.heap.size + 4) 5 (.int .i64 (xi)) (.int .i64 (xw)) (by kernel_rfl) (by kernel_rfl) rfl (by kernel_rfl) HB.out (Nat.le_add_right _ _) r0 r1 f0 f1 ?_
 apply Exists.intro
 refine ⟨fun W hk => ?_, ?_, ?_, ?_⟩
 · have e0 := hk _ _ _ (by omega) b0; have e1 := hk _ _ _ (by omega) b4; have e2 := hk _ _ _ (by omega) b5; have e3 := hk _ _ _ (by omega) b6; have e4 := hk _ _ _ (by omega) b7; have e5 := hk _ _ _ (by omega) d0; have e6 := hk _ _ _ (by omega) d1; have e7 := hk _ _ _ (by omega) d2; have e8 := hk _ _ _ (by omega) d3; have e9 := hk _ _ _ (by omega) d4; have e10 := hk _ _ _ (by omega) d5
   clear hk
   simp only [List.take_succ_cons, List.take_zero]
   repeat (go_big_quiet_step (first | (go_at_call 81; exact Calls.later_eq (SortOk'_calls xi xw _) (congrArg Value.bool HSO.out))))
   exact wpQuiet_nil rfl
 · rfl
 · intro u s0 s1 t0 t1
   go_simp
 · intro u hb s0 s1
   have hbel := Lib.hid hb
   simp only [List.drop_succ_cons, List.drop_zero]
   clear r0 r1 f0 f1 hb
   go_wp2
   exact bodyPost_ret (v := .tuple #[.agg #[.int .i64 (xi), .int .i64 (xw)], .bool true]) (by simp [results, Tryz.results82, go_sem, s0, s1]) rfl (respost_some HR.out hbel.out)
theorem sortOf_35_false (n m ai aw bi bw ci cw xa xb xc xi xw : Int) (nm : ByteArray) (w : World) (r : Option (Int × Int)) (hr : r = none) (h : sokB xi xw = false) :
 Calls Tryz.prog 82 #[.agg #[.int .i64 35, .int .i64 xa, .int .i64 xb, .int .i64 xc, .int .i64 n, .int .i64 m, .int .i64 xi, .int .i64 xw, .string nm], .agg #[.int .i64 ai, .int .i64 aw], .agg #[.int .i64 bi, .int .i64 bw], .agg #[.int .i64 ci, .int .i64 cw]] w (ResPost (r) w) := by
 have HR := Lib.hid (show (r) = none by exact hr)
 have HSO := Lib.hid h
 clear h hr
 go_enter Tryz.func82, Tryz.ntmps82
 go_upto_region 1 with fail
 obtain ⟨w2, hw2, HB, b0, b4, b5, b6, b7, d0, d1, d2, d3, d4, d5, r0, r1, f0, f1⟩ := sort_world 35 n m ai aw bi bw ci cw xa xb xc xi xw nm w
 rw [hw2]
 clear hw2
 have p0 := here b0; have p1 := here b4; have p2 := here b5; have p3 := here b6; have p4 := here b7; have p5 := here d0; have p6 := here d1; have p7 := here d2; have p8 := here d3; have p9 := here d4; have p10 := here d5
 go_wp2
 clear p0 p1 p2 p3 p4 p5 p6 p7 p8 p9 p10
 refine wp_region_two (G := w.heap.size + 4) 5 (.int .i64 (xi)) (.int .i64 (xw)) (by kernel_rfl) (by kernel_rfl) rfl (by kernel_rfl) HB.out (Nat.le_add_right _ _) r0 r1 f0 f1 ?_
 apply Exists.intro
 refine ⟨fun W hk => ?_, ?_, ?_, ?_⟩
 · have e0 := hk _ _ _ (by omega) b0; have e1 := hk _ _ _ (by omega) b4; have e2 := hk _ _ _ (by omega) b5; have e3 := hk _ _ _ (by omega) b6; have e4 := hk _ _ _ (by omega) b7; have e5 := hk _ _ _ (by omega) d0; have e6 := hk _ _ _ (by omega) d1; have e7 := hk _ _ _ (by omega) d2; have e8 := hk _ _ _ (by omega) d3; have e9 := hk _ _ _ (by omega) d4; have e10 := hk _ _ _ (by omega) d5
   clear hk
   simp only [List.take_succ_cons, List.take_zero]
   repeat (go_big_quiet_step (first | (go_at_call 81; exact Calls.later_eq (SortOk'_calls xi xw _) (congrArg Value.bool HSO.out))))
   exact wpQuiet_nil rfl
 · rfl
 · intro u s0 s1 t0 t1
   go_simp
 · intro u hb s0 s1
   have hbel := Lib.hid hb
   simp only [List.drop_succ_cons, List.drop_zero]
   clear r0 r1 f0 f1 hb
   go_wp2
   exact bodyPost_ret (v := .tuple #[.agg #[.int .i64 (xi), .int .i64 (xw)], .bool false]) (by simp [results, Tryz.results82, go_sem, s0, s1]) rfl (respost_none HR.out hbel.out)
theorem sortOf_36_true (n m ai aw bi bw ci cw xa xb xc xi xw : Int) (nm : ByteArray) (w : World) (r : Option (Int × Int)) (hr : r = some (xi, xw)) (h : sokB xi xw = true) :
 Calls Tryz.prog 82 #[.agg #[.int .i64 36, .int .i64 xa, .int .i64 xb, .int .i64 xc, .int .i64 n, .int .i64 m, .int .i64 xi, .int .i64 xw, .string nm], .agg #[.int .i64 ai, .int .i64 aw], .agg #[.int .i64 bi, .int .i64 bw], .agg #[.int .i64 ci, .int .i64 cw]] w (ResPost (r) w) := by
 have HR := Lib.hid (show (r) = some (xi, xw) by exact hr)
 have HSO := Lib.hid h
 clear h hr
 go_enter Tryz.func82, Tryz.ntmps82
 go_upto_region 1 with fail
 obtain ⟨w2, hw2, HB, b0, b4, b5, b6, b7, d0, d1, d2, d3, d4, d5, r0, r1, f0, f1⟩ := sort_world 36 n m ai aw bi bw ci cw xa xb xc xi xw nm w
 rw [hw2]
 clear hw2
 have p0 := here b0; have p1 := here b4; have p2 := here b5; have p3 := here b6; have p4 := here b7; have p5 := here d0; have p6 := here d1; have p7 := here d2; have p8 := here d3; have p9 := here d4; have p10 := here d5
 go_wp2
 clear p0 p1 p2 p3 p4 p5 p6 p7 p8 p9 p10
 refine wp_region_two (G := w.heap.size + 4) 5 (.int .i64 (xi)) (.int .i64 (xw)) (by kernel_rfl) (by kernel_rfl) rfl (by kernel_rfl) HB.out (Nat.le_add_right _ _) r0 r1 f0 f1 ?_
 apply Exists.intro
 refine ⟨fun W hk => ?_, ?_, ?_, ?_⟩
 · have e0 := hk _ _ _ (by omega) b0; have e1 := hk _ _ _ (by omega) b4; have e2 := hk _ _ _ (by omega) b5; have e3 := hk _ _ _ (by omega) b6; have e4 := hk _ _ _ (by omega) b7; have e5 := hk _ _ _ (by omega) d0; have e6 := hk _ _ _ (by omega) d1; have e7 := hk _ _ _ (by omega) d2; have e8 := hk _ _ _ (by omega) d3; have e9 := hk _ _ _ (by omega) d4; have e10 := hk _ _ _ (by omega) d5
   clear hk
   simp only [List.take_succ_cons, List.take_zero]
   repeat (go_big_quiet_step (first | (go_at_call 81; exact Calls.later_eq (SortOk'_calls xi xw _) (congrArg Value.bool HSO.out))))
   exact wpQuiet_nil rfl
 · rfl
 · intro u s0 s1 t0 t1
   go_simp
 · intro u hb s0 s1
   have hbel := Lib.hid hb
   simp only [List.drop_succ_cons, List.drop_zero]
   clear r0 r1 f0 f1 hb
   go_wp2
   exact bodyPost_ret (v := .tuple #[.agg #[.int .i64 (xi), .int .i64 (xw)], .bool true]) (by simp [results, Tryz.results82, go_sem, s0, s1]) rfl (respost_some HR.out hbel.out)
theorem sortOf_36_false (n m ai aw bi bw ci cw xa xb xc xi xw : Int) (nm : ByteArray) (w : World) (r : Option (Int × Int)) (hr : r = none) (h : sokB xi xw = false) :
 Calls Tryz.prog 82 #[.agg #[.int .i64 36, .int .i64 xa, .int .i64 xb, .int .i64 xc, .int .i64 n, .int .i64 m, .int .i64 xi, .int .i64 xw, .string nm], .agg #[.int .i64 ai, .int .i64 aw], .agg #[.int .i64 bi, .int .i64 bw], .agg #[.int .i64 ci, .int .i64 cw]] w (ResPost (r) w) := by
 have HR := Lib.hid (show (r) = none by exact hr)
 have HSO := Lib.hid h
 clear h hr
 go_enter Tryz.func82, Tryz.ntmps82
 go_upto_region 1 with fail
 obtain ⟨w2, hw2, HB, b0, b4, b5, b6, b7, d0, d1, d2, d3, d4, d5, r0, r1, f0, f1⟩ := sort_world 36 n m ai aw bi bw ci cw xa xb xc xi xw nm w
 rw [hw2]
 clear hw2
 have p0 := here b0; have p1 := here b4; have p2 := here b5; have p3 := here b6; have p4 := here b7; have p5 := here d0; have p6 := here d1; have p7 := here d2; have p8 := here d3; have p9 := here d4; have p10 := here d5
 go_wp2
 clear p0 p1 p2 p3 p4 p5 p6 p7 p8 p9 p10
 refine wp_region_two (G := w.heap.size + 4) 5 (.int .i64 (xi)) (.int .i64 (xw)) (by kernel_rfl) (by kernel_rfl) rfl (by kernel_rfl) HB.out (Nat.le_add_right _ _) r0 r1 f0 f1 ?_
 apply Exists.intro
 refine ⟨fun W hk => ?_, ?_, ?_, ?_⟩
 · have e0 := hk _ _ _ (by omega) b0; have e1 := hk _ _ _ (by omega) b4; have e2 := hk _ _ _ (by omega) b5; have e3 := hk _ _ _ (by omega) b6; have e4 := hk _ _ _ (by omega) b7; have e5 := hk _ _ _ (by omega) d0; have e6 := hk _ _ _ (by omega) d1; have e7 := hk _ _ _ (by omega) d2; have e8 := hk _ _ _ (by omega) d3; have e9 := hk _ _ _ (by omega) d4; have e10 := hk _ _ _ (by omega) d5
   clear hk
   simp only [List.take_succ_cons, List.take_zero]
   repeat (go_big_quiet_step (first | (go_at_call 81; exact Calls.later_eq (SortOk'_calls xi xw _) (congrArg Value.bool HSO.out))))
   exact wpQuiet_nil rfl
 · rfl
 · intro u s0 s1 t0 t1
   go_simp
 · intro u hb s0 s1
   have hbel := Lib.hid hb
   simp only [List.drop_succ_cons, List.drop_zero]
   clear r0 r1 f0 f1 hb
   go_wp2
   exact bodyPost_ret (v := .tuple #[.agg #[.int .i64 (xi), .int .i64 (xw)], .bool false]) (by simp [results, Tryz.results82, go_sem, s0, s1]) rfl (respost_none HR.out hbel.out)
theorem sortOf_34_0 (n m ai aw bi bw ci cw xa xb xc xi xw : Int) (nm : ByteArray) (w : World) (r : Option (Int × Int)) (hr : r = none) (h0 : (xi == 0) = false) :
 Calls Tryz.prog 82 #[.agg #[.int .i64 34, .int .i64 xa, .int .i64 xb, .int .i64 xc, .int .i64 n, .int .i64 m, .int .i64 xi, .int .i64 xw, .string nm], .agg #[.int .i64 ai, .int .i64 aw], .agg #[.int .i64 bi, .int .i64 bw], .agg #[.int .i64 ci, .int .i64 cw]] w (ResPost (r) w) := by
 have HR := Lib.hid (show (r) = none by exact hr)
 clear hr
 go_enter Tryz.func82, Tryz.ntmps82
 go_upto_region 1 with fail
 obtain ⟨w2, hw2, HB, b0, b4, b5, b6, b7, d0, d1, d2, d3, d4, d5, r0, r1, f0, f1⟩ := sort_world 34 n m ai aw bi bw ci cw xa xb xc xi xw nm w
 rw [hw2]
 clear hw2
 have p0 := here b0; have p1 := here b4; have p2 := here b5; have p3 := here b6; have p4 := here b7; have p5 := here d0; have p6 := here d1; have p7 := here d2; have p8 := here d3; have p9 := here d4; have p10 := here d5
 go_wp2
 clear p0 p1 p2 p3 p4 p5 p6 p7 p8 p9 p10
 refine wp_region_two (G := w.heap.size + 4) 14 (.int .i64 (xi)) (.int .i64 (xw)) (by kernel_rfl) (by kernel_rfl) rfl (by kernel_rfl) HB.out (Nat.le_add_right _ _) r0 r1 f0 f1 ?_
 apply Exists.intro
 refine ⟨fun W hk => ?_, ?_, ?_, ?_⟩
 · have e0 := hk _ _ _ (by omega) b0; have e1 := hk _ _ _ (by omega) b4; have e2 := hk _ _ _ (by omega) b5; have e3 := hk _ _ _ (by omega) b6; have e4 := hk _ _ _ (by omega) b7; have e5 := hk _ _ _ (by omega) d0; have e6 := hk _ _ _ (by omega) d1; have e7 := hk _ _ _ (by omega) d2; have e8 := hk _ _ _ (by omega) d3; have e9 := hk _ _ _ (by omega) d4; have e10 := hk _ _ _ (by omega) d5
   clear hk
   simp only [List.take_succ_cons, List.take_zero]
   repeat (go_big_quiet_step (first | (go_at_call 48; exact Calls.later (words_calls _ _))))
   exact wpQuiet_nil rfl
 · rfl
 · intro u s0 s1 t0 t1
   go_simp
 · intro u hb s0 s1
   have hbel := Lib.hid hb
   simp only [List.drop_succ_cons, List.drop_zero]
   clear r0 r1 f0 f1 hb
   go_wp2
   exact bodyPost_ret (v := .tuple #[.agg #[.int .i64 (xi), .int .i64 (xw)], .bool false]) (by simp [results, Tryz.results82, go_sem, s0, s1]) rfl (respost_none HR.out hbel.out)
theorem sortOf_34_1 (n m ai aw bi bw ci cw xa xb xc xi xw : Int) (nm : ByteArray) (w : World) (r : Option (Int × Int)) (hr : r = none) (h0 : (xi == 0) = true) (h : wokB xw n = false) :
 Calls Tryz.prog 82 #[.agg #[.int .i64 34, .int .i64 xa, .int .i64 xb, .int .i64 xc, .int .i64 n, .int .i64 m, .int .i64 xi, .int .i64 xw, .string nm], .agg #[.int .i64 ai, .int .i64 aw], .agg #[.int .i64 bi, .int .i64 bw], .agg #[.int .i64 ci, .int .i64 cw]] w (ResPost (r) w) := by
 have HR := Lib.hid (show (r) = none by exact hr)
 have HWO := Lib.hid h
 clear h hr
 go_enter Tryz.func82, Tryz.ntmps82
 go_upto_region 1 with fail
 obtain ⟨w2, hw2, HB, b0, b4, b5, b6, b7, d0, d1, d2, d3, d4, d5, r0, r1, f0, f1⟩ := sort_world 34 n m ai aw bi bw ci cw xa xb xc xi xw nm w
 rw [hw2]
 clear hw2
 have p0 := here b0; have p1 := here b4; have p2 := here b5; have p3 := here b6; have p4 := here b7; have p5 := here d0; have p6 := here d1; have p7 := here d2; have p8 := here d3; have p9 := here d4; have p10 := here d5
 go_wp2
 clear p0 p1 p2 p3 p4 p5 p6 p7 p8 p9 p10
 refine wp_region_two (G := w.heap.size + 4) 14 (.int .i64 (xi)) (.int .i64 (xw)) (by kernel_rfl) (by kernel_rfl) rfl (by kernel_rfl) HB.out (Nat.le_add_right _ _) r0 r1 f0 f1 ?_
 apply Exists.intro
 refine ⟨fun W hk => ?_, ?_, ?_, ?_⟩
 · have e0 := hk _ _ _ (by omega) b0; have e1 := hk _ _ _ (by omega) b4; have e2 := hk _ _ _ (by omega) b5; have e3 := hk _ _ _ (by omega) b6; have e4 := hk _ _ _ (by omega) b7; have e5 := hk _ _ _ (by omega) d0; have e6 := hk _ _ _ (by omega) d1; have e7 := hk _ _ _ (by omega) d2; have e8 := hk _ _ _ (by omega) d3; have e9 := hk _ _ _ (by omega) d4; have e10 := hk _ _ _ (by omega) d5
   clear hk
   simp only [List.take_succ_cons, List.take_zero]
   repeat (go_big_quiet_step (first | (go_at_call 93; exact Calls.later_eq (Makes.of_same (WordOk'_same xw n _)) (congrArg Value.bool HWO.out))))
   exact wpQuiet_nil rfl
 · rfl
 · intro u s0 s1 t0 t1
   go_simp
 · intro u hb s0 s1
   have hbel := Lib.hid hb
   simp only [List.drop_succ_cons, List.drop_zero]
   clear r0 r1 f0 f1 hb
   go_wp2
   exact bodyPost_ret (v := .tuple #[.agg #[.int .i64 (xi), .int .i64 (xw)], .bool false]) (by simp [results, Tryz.results82, go_sem, s0, s1]) rfl (respost_none HR.out hbel.out)
theorem sortOf_34_2 (n m ai aw bi bw ci cw xa xb xc xi xw : Int) (nm : ByteArray) (w : World) (r : Option (Int × Int)) (hr : r = some (xi, xw)) (h0 : (xi == 0) = true) (h : wokB xw n = true) :
 Calls Tryz.prog 82 #[.agg #[.int .i64 34, .int .i64 xa, .int .i64 xb, .int .i64 xc, .int .i64 n, .int .i64 m, .int .i64 xi, .int .i64 xw, .string nm], .agg #[.int .i64 ai, .int .i64 aw], .agg #[.int .i64 bi, .int .i64 bw], .agg #[.int .i64 ci, .int .i64 cw]] w (ResPost (r) w) := by
 have HR := Lib.hid (show (r) = some (xi, xw) by exact hr)
 have HWO := Lib.hid h
 clear h hr
 go_enter Tryz.func82, Tryz.ntmps82
 go_upto_region 1 with fail
 obtain ⟨w2, hw2, HB, b0, b4, b5, b6, b7, d0, d1, d2, d3, d4, d5, r0, r1, f0, f1⟩ := sort_world 34 n m ai aw bi bw ci cw xa xb xc xi xw nm w
 rw [hw2]
 clear hw2
 have p0 := here b0; have p1 := here b4; have p2 := here b5; have p3 := here b6; have p4 := here b7; have p5 := here d0; have p6 := here d1; have p7 := here d2; have p8 := here d3; have p9 := here d4; have p10 := here d5
 go_wp2
 clear p0 p1 p2 p3 p4 p5 p6 p7 p8 p9 p10
 refine wp_region_two (G := w.heap.size + 4) 14 (.int .i64 (xi)) (.int .i64 (xw)) (by kernel_rfl) (by kernel_rfl) rfl (by kernel_rfl) HB.out (Nat.le_add_right _ _) r0 r1 f0 f1 ?_
 apply Exists.intro
 refine ⟨fun W hk => ?_, ?_, ?_, ?_⟩
 · have e0 := hk _ _ _ (by omega) b0; have e1 := hk _ _ _ (by omega) b4; have e2 := hk _ _ _ (by omega) b5; have e3 := hk _ _ _ (by omega) b6; have e4 := hk _ _ _ (by omega) b7; have e5 := hk _ _ _ (by omega) d0; have e6 := hk _ _ _ (by omega) d1; have e7 := hk _ _ _ (by omega) d2; have e8 := hk _ _ _ (by omega) d3; have e9 := hk _ _ _ (by omega) d4; have e10 := hk _ _ _ (by omega) d5
   clear hk
   simp only [List.take_succ_cons, List.take_zero]
   repeat (go_big_quiet_step (first | (go_at_call 93; exact Calls.later_eq (Makes.of_same (WordOk'_same xw n _)) (congrArg Value.bool HWO.out))))
   exact wpQuiet_nil rfl
 · rfl
 · intro u s0 s1 t0 t1
   go_simp
 · intro u hb s0 s1
   have hbel := Lib.hid hb
   simp only [List.drop_succ_cons, List.drop_zero]
   clear r0 r1 f0 f1 hb
   go_wp2
   exact bodyPost_ret (v := .tuple #[.agg #[.int .i64 (xi), .int .i64 (xw)], .bool true]) (by simp [results, Tryz.results82, go_sem, s0, s1]) rfl (respost_some HR.out hbel.out)
end Go.Proofs.YthejgnabgglmhaaGreat
namespace Go.Proofs.YthejgnabgglmhaaGreat
open Go.RowKit
attribute [local go_sem high] eq_sort
theorem sortOf_ia (kind n m ai aw bi bw ci cw xa xb xc xi xw : Int) (nm : ByteArray) (w : World) (k33 : (kind == 33) = false) (k34 : (kind == 34) = false) (k35 : (kind == 35) = false) (k36 : (kind == 36) = false) (k37 : (kind == 37) = false) (k38 : (kind == 38) = false) (k21 : (kind == 21) = false) (ha : ¬ ai = 0) :
 Calls Tryz.prog 82 #[.agg #[.int .i64 kind, .int .i64 xa, .int .i64 xb, .int .i64 xc, .int .i64 n, .int .i64 m, .int .i64 xi, .int .i64 xw, .string nm], .agg #[.int .i64 ai, .int .i64 aw], .agg #[.int .i64 bi, .int .i64 bw], .agg #[.int .i64 ci, .int .i64 cw]] w (ResPost (resN kind n m ai aw bi bw ci cw) w) := by
 have HR := Lib.hid (show (resN kind n m ai aw bi bw ci cw) = none by unfold resN; simp only [beq_eq_false_iff_ne, ne_eq] at k33 k37 k38 k21; rw [if_neg k33, if_neg k37, if_neg k38, if_neg k21, if_pos (Or.inl ha)])
 have ha' : (ai != 0) = true := bne_iff_ne.2 ha
 go_enter Tryz.func82, Tryz.ntmps82
 go_upto_region 1 with fail
 obtain ⟨w2, hw2, HB, b0, b4, b5, b6, b7, d0, d1, d2, d3, d4, d5, r0, r1, f0, f1⟩ := sort_world kind n m ai aw bi bw ci cw xa xb xc xi xw nm w
 rw [hw2]
 clear hw2
 refine at_world (w := w2) ?_
 intro u0
 go_wp2
 exact bodyPost_ret (v := .tuple #[.agg #[.int .i64 (0), .int .i64 (0)], .bool false]) (by simp [results, Tryz.results82, go_sem, r0, r1]) rfl (respost_none HR.out (by repeat (first | exact u0.back HB.out | refine Below.setCell ?_ (by first | (simp; done) | (simp; omega)) _)))
theorem sortOf_ib (kind n m aw bi bw ci cw xa xb xc xi xw : Int) (nm : ByteArray) (w : World) (k33 : (kind == 33) = false) (k34 : (kind == 34) = false) (k35 : (kind == 35) = false) (k36 : (kind == 36) = false) (k37 : (kind == 37) = false) (k38 : (kind == 38) = false) (k21 : (kind == 21) = false) (hb : ¬ bi = 0) :
 Calls Tryz.prog 82 #[.agg #[.int .i64 kind, .int .i64 xa, .int .i64 xb, .int .i64 xc, .int .i64 n, .int .i64 m, .int .i64 xi, .int .i64 xw, .string nm], .agg #[.int .i64 0, .int .i64 aw], .agg #[.int .i64 bi, .int .i64 bw], .agg #[.int .i64 ci, .int .i64 cw]] w (ResPost (resN kind n m 0 aw bi bw ci cw) w) := by
 have HR := Lib.hid (show (resN kind n m 0 aw bi bw ci cw) = none by unfold resN; simp only [beq_eq_false_iff_ne, ne_eq] at k33 k37 k38 k21; rw [if_neg k33, if_neg k37, if_neg k38, if_neg k21, if_pos (Or.inr hb)])
 have hb' : (bi != 0) = true := bne_iff_ne.2 hb
 go_enter Tryz.func82, Tryz.ntmps82
 go_upto_region 1 with fail
 obtain ⟨w2, hw2, HB, b0, b4, b5, b6, b7, d0, d1, d2, d3, d4, d5, r0, r1, f0, f1⟩ := sort_world kind n m 0 aw bi bw ci cw xa xb xc xi xw nm w
 rw [hw2]
 clear hw2
 refine at_world (w := w2) ?_
 intro u0
 go_wp2
 exact bodyPost_ret (v := .tuple #[.agg #[.int .i64 (0), .int .i64 (0)], .bool false]) (by simp [results, Tryz.results82, go_sem, r0, r1]) rfl (respost_none HR.out (by repeat (first | exact u0.back HB.out | refine Below.setCell ?_ (by first | (simp; done) | (simp; omega)) _)))
theorem sortOf_w1 (n m aw bw ci cw xa xb xc xi xw : Int) (nm : ByteArray) (w : World)  :
 Calls Tryz.prog 82 #[.agg #[.int .i64 1, .int .i64 xa, .int .i64 xb, .int .i64 xc, .int .i64 n, .int .i64 m, .int .i64 xi, .int .i64 xw, .string nm], .agg #[.int .i64 0, .int .i64 aw], .agg #[.int .i64 0, .int .i64 bw], .agg #[.int .i64 ci, .int .i64 cw]] w (ResPost (resN 1 n m 0 aw 0 bw ci cw) w) := by
 have HR := Lib.hid (show (resN 1 n m 0 aw 0 bw ci cw) = some (0, aw) by unfold resN; simp)
 go_enter Tryz.func82, Tryz.ntmps82
 go_upto_region 1 with fail
 obtain ⟨w2, hw2, HB, b0, b4, b5, b6, b7, d0, d1, d2, d3, d4, d5, r0, r1, f0, f1⟩ := sort_world 1 n m 0 aw 0 bw ci cw xa xb xc xi xw nm w
 rw [hw2]
 clear hw2
 refine at_world (w := w2) ?_
 intro u0
 go_wp2
 exact bodyPost_ret (v := .tuple #[.agg #[.int .i64 (0), .int .i64 (aw)], .bool true]) (by simp [results, Tryz.results82, go_sem, r0, r1]) rfl (respost_some HR.out (by repeat (first | exact u0.back HB.out | refine Below.setCell ?_ (by first | (simp; done) | (simp; omega)) _)))
theorem sortOf_w2 (n m aw bw ci cw xa xb xc xi xw : Int) (nm : ByteArray) (w : World)  :
 Calls Tryz.prog 82 #[.agg #[.int .i64 2, .int .i64 xa, .int .i64 xb, .int .i64 xc, .int .i64 n, .int .i64 m, .int .i64 xi, .int .i64 xw, .string nm], .agg #[.int .i64 0, .int .i64 aw], .agg #[.int .i64 0, .int .i64 bw], .agg #[.int .i64 ci, .int .i64 cw]] w (ResPost (resN 2 n m 0 aw 0 bw ci cw) w) := by
 have HR := Lib.hid (show (resN 2 n m 0 aw 0 bw ci cw) = some (0, aw) by unfold resN; simp)
 go_enter Tryz.func82, Tryz.ntmps82
 go_upto_region 1 with fail
 obtain ⟨w2, hw2, HB, b0, b4, b5, b6, b7, d0, d1, d2, d3, d4, d5, r0, r1, f0, f1⟩ := sort_world 2 n m 0 aw 0 bw ci cw xa xb xc xi xw nm w
 rw [hw2]
 clear hw2
 refine at_world (w := w2) ?_
 intro u0
 go_wp2
 exact bodyPost_ret (v := .tuple #[.agg #[.int .i64 (0), .int .i64 (aw)], .bool true]) (by simp [results, Tryz.results82, go_sem, r0, r1]) rfl (respost_some HR.out (by repeat (first | exact u0.back HB.out | refine Below.setCell ?_ (by first | (simp; done) | (simp; omega)) _)))
theorem sortOf_w3 (kind n m aw bw ci cw xa xb xc xi xw : Int) (nm : ByteArray) (w : World) (hk : 3 ≤ kind ∧ kind ≤ 5) :
 Calls Tryz.prog 82 #[.agg #[.int .i64 kind, .int .i64 xa, .int .i64 xb, .int .i64 xc, .int .i64 n, .int .i64 m, .int .i64 xi, .int .i64 xw, .string nm], .agg #[.int .i64 0, .int .i64 aw], .agg #[.int .i64 0, .int .i64 bw], .agg #[.int .i64 ci, .int .i64 cw]] w (ResPost (resN kind n m 0 aw 0 bw ci cw) w) := by
 have HR := Lib.hid (show (resN kind n m 0 aw 0 bw ci cw) = some (0, 1) by unfold resN; rw [if_neg (by omega), if_neg (by omega), if_neg (by omega), if_neg (by omega), if_neg (by simp), if_neg (by omega), if_neg (by omega), if_neg (by omega), if_neg (by omega), if_pos hk.2])
 have k33 : (kind == 33) = false := beq_eq_false_iff_ne.2 (by omega)
 have k34 : (kind == 34) = false := beq_eq_false_iff_ne.2 (by omega)
 have k35 : (kind == 35) = false := beq_eq_false_iff_ne.2 (by omega)
 have k36 : (kind == 36) = false := beq_eq_false_iff_ne.2 (by omega)
 have k37 : (kind == 37) = false := beq_eq_false_iff_ne.2 (by omega)
 have k38 : (kind == 38) = false := beq_eq_false_iff_ne.2 (by omega)
 have k21 : (kind == 21) = false := beq_eq_false_iff_ne.2 (by omega)
 have k1 : (kind == 1) = false := beq_eq_false_iff_ne.2 (by omega)
 have k2 : (kind == 2) = false := beq_eq_false_iff_ne.2 (by omega)
 have HI := Lib.hid (show inB kind 3 5 = true from inB_yes (by omega))
 clear hk
 go_enter Tryz.func82, Tryz.ntmps82
 go_upto_region 1 with fail
 obtain ⟨w2, hw2, HB, b0, b4, b5, b6, b7, d0, d1, d2, d3, d4, d5, r0, r1, f0, f1⟩ := sort_world kind n m 0 aw 0 bw ci cw xa xb xc xi xw nm w
 rw [hw2]
 clear hw2
 refine at_world (w := w2) ?_
 intro u0
 go_wp2_with (first | (go_at_call 70; refine (Calls.later (u := u0) (in_calls _ _ _ _)).mono ?_; rintro e w' ⟨rfl, u1, rfl⟩; rw [HI.out]) | (go_at_call 48; refine (Calls.later (u := u1) (words_calls _ _)).mono ?_; rintro e w' ⟨rfl, u2, rfl⟩))
 exact bodyPost_ret (v := .tuple #[.agg #[.int .i64 (0), .int .i64 (1)], .bool true]) (by simp [results, Tryz.results82, go_sem, r0, r1]) rfl (respost_some HR.out (by repeat (first | exact u2.back HB.out | refine Below.setCell ?_ (by first | (simp; done) | (simp; omega)) _)))
end Go.Proofs.YthejgnabgglmhaaGreat
namespace Go.Proofs.YthejgnabgglmhaaGreat
open Go.RowKit
attribute [local go_sem high] eq_sort
theorem sortOf_30_0 (n m aw bw ci cw xa xb xc xi xw : Int) (nm : ByteArray) (w : World) (a1 : 1 ≤ aw) (a16 : aw ≤ 16) (hHI : inB n 0 (aw - 1) = false) :
 Calls Tryz.prog 82 #[.agg #[.int .i64 30, .int .i64 xa, .int .i64 xb, .int .i64 xc, .int .i64 n, .int .i64 m, .int .i64 xi, .int .i64 xw, .string nm], .agg #[.int .i64 0, .int .i64 aw], .agg #[.int .i64 0, .int .i64 bw], .agg #[.int .i64 ci, .int .i64 cw]] w (ResPost (resN 30 n m 0 aw 0 bw ci cw) w) := by
 have HR := Lib.hid (show (resN 30 n m 0 aw 0 bw ci cw) = none by unfold resN; rw [if_neg (by omega), if_neg (by omega), if_neg (by omega), if_neg (by omega), if_neg (by simp), if_neg (by omega)]; rw [if_pos rfl, if_neg]; rintro ⟨h1, h2, h3⟩; rw [inB_yes (by omega)] at hHI; cases hHI)
 have HI := Lib.hid (show inB n 0 (aw - 1) = false from hHI)
 clear hHI
 go_enter Tryz.func82, Tryz.ntmps82
 go_upto_region 1 with fail
 obtain ⟨w2, hw2, HB, b0, b4, b5, b6, b7, d0, d1, d2, d3, d4, d5, r0, r1, f0, f1⟩ := sort_world 30 n m 0 aw 0 bw ci cw xa xb xc xi xw nm w
 rw [hw2]
 clear hw2
 have p0 := here b0; have p1 := here b4; have p2 := here b5; have p3 := here b6; have p4 := here b7; have p5 := here d0; have p6 := here d1; have p7 := here d2; have p8 := here d3; have p9 := here d4; have p10 := here d5
 go_wp2
 clear p0 p1 p2 p3 p4 p5 p6 p7 p8 p9 p10
 refine wp_region_two (G := w.heap.size + 4) 20 (.int .i64 (0)) (.int .i64 (wrap64 (wrap64 (n - m) + 1))) (by kernel_rfl) (by kernel_rfl) rfl (by kernel_rfl) HB.out (Nat.le_add_right _ _) r0 r1 f0 f1 ?_
 apply Exists.intro
 refine ⟨fun W hk => ?_, ?_, ?_, ?_⟩
 · have e0 := hk _ _ _ (by omega) b0; have e1 := hk _ _ _ (by omega) b4; have e2 := hk _ _ _ (by omega) b5; have e3 := hk _ _ _ (by omega) b6; have e4 := hk _ _ _ (by omega) b7; have e5 := hk _ _ _ (by omega) d0; have e6 := hk _ _ _ (by omega) d1; have e7 := hk _ _ _ (by omega) d2; have e8 := hk _ _ _ (by omega) d3; have e9 := hk _ _ _ (by omega) d4; have e10 := hk _ _ _ (by omega) d5
   clear hk
   simp only [List.take_succ_cons, List.take_zero]
   repeat (go_big_quiet_step (first | (go_at_call 70; with_reducible exact Calls.later_eq (in_calls n 0 (aw - 1) _) (congrArg Value.bool HI.out)) | (go_at_call 48; exact Calls.later (words_calls _ _))))
   exact wpQuiet_nil rfl
 · rfl
 · intro u s0 s1 t0 t1
   go_simp
 · intro u hb s0 s1
   have hbel := Lib.hid hb
   simp only [List.drop_succ_cons, List.drop_zero]
   clear r0 r1 f0 f1 hb
   go_wp2
   exact bodyPost_ret (v := .tuple #[.agg #[.int .i64 (0), .int .i64 (wrap64 (wrap64 (n - m) + 1))], .bool false]) (by simp [results, Tryz.results82, go_sem, s0, s1]) rfl (respost_none HR.out hbel.out)
theorem sortOf_30_1 (n m aw bw ci cw xa xb xc xi xw : Int) (nm : ByteArray) (w : World) (a1 : 1 ≤ aw) (a16 : aw ≤ 16) (hHI : inB n 0 (aw - 1) = true) (hHJ : inB m 0 n = false) :
 Calls Tryz.prog 82 #[.agg #[.int .i64 30, .int .i64 xa, .int .i64 xb, .int .i64 xc, .int .i64 n, .int .i64 m, .int .i64 xi, .int .i64 xw, .string nm], .agg #[.int .i64 0, .int .i64 aw], .agg #[.int .i64 0, .int .i64 bw], .agg #[.int .i64 ci, .int .i64 cw]] w (ResPost (resN 30 n m 0 aw 0 bw ci cw) w) := by
 have HR := Lib.hid (show (resN 30 n m 0 aw 0 bw ci cw) = none by unfold resN; rw [if_neg (by omega), if_neg (by omega), if_neg (by omega), if_neg (by omega), if_neg (by simp), if_neg (by omega)]; rw [if_pos rfl, if_neg]; rintro ⟨h1, h2, h3⟩; rw [inB_yes (by omega)] at hHJ; cases hHJ)
 have HI := Lib.hid (show inB n 0 (aw - 1) = true from hHI)
 have HJ := Lib.hid (show inB m 0 n = false from hHJ)
 clear hHI hHJ
 go_enter Tryz.func82, Tryz.ntmps82
 go_upto_region 1 with fail
 obtain ⟨w2, hw2, HB, b0, b4, b5, b6, b7, d0, d1, d2, d3, d4, d5, r0, r1, f0, f1⟩ := sort_world 30 n m 0 aw 0 bw ci cw xa xb xc xi xw nm w
 rw [hw2]
 clear hw2
 have p0 := here b0; have p1 := here b4; have p2 := here b5; have p3 := here b6; have p4 := here b7; have p5 := here d0; have p6 := here d1; have p7 := here d2; have p8 := here d3; have p9 := here d4; have p10 := here d5
 go_wp2
 clear p0 p1 p2 p3 p4 p5 p6 p7 p8 p9 p10
 refine wp_region_two (G := w.heap.size + 4) 20 (.int .i64 (0)) (.int .i64 (wrap64 (wrap64 (n - m) + 1))) (by kernel_rfl) (by kernel_rfl) rfl (by kernel_rfl) HB.out (Nat.le_add_right _ _) r0 r1 f0 f1 ?_
 apply Exists.intro
 refine ⟨fun W hk => ?_, ?_, ?_, ?_⟩
 · have e0 := hk _ _ _ (by omega) b0; have e1 := hk _ _ _ (by omega) b4; have e2 := hk _ _ _ (by omega) b5; have e3 := hk _ _ _ (by omega) b6; have e4 := hk _ _ _ (by omega) b7; have e5 := hk _ _ _ (by omega) d0; have e6 := hk _ _ _ (by omega) d1; have e7 := hk _ _ _ (by omega) d2; have e8 := hk _ _ _ (by omega) d3; have e9 := hk _ _ _ (by omega) d4; have e10 := hk _ _ _ (by omega) d5
   clear hk
   simp only [List.take_succ_cons, List.take_zero]
   repeat (go_big_quiet_step (first | (go_at_call 70; with_reducible exact Calls.later_eq (in_calls n 0 (aw - 1) _) (congrArg Value.bool HI.out)) | (go_at_call 70; with_reducible exact Calls.later_eq (in_calls m 0 n _) (congrArg Value.bool HJ.out)) | (go_at_call 48; exact Calls.later (words_calls _ _))))
   exact wpQuiet_nil rfl
 · rfl
 · intro u s0 s1 t0 t1
   go_simp
 · intro u hb s0 s1
   have hbel := Lib.hid hb
   simp only [List.drop_succ_cons, List.drop_zero]
   clear r0 r1 f0 f1 hb
   go_wp2
   exact bodyPost_ret (v := .tuple #[.agg #[.int .i64 (0), .int .i64 (wrap64 (wrap64 (n - m) + 1))], .bool false]) (by simp [results, Tryz.results82, go_sem, s0, s1]) rfl (respost_none HR.out hbel.out)
theorem sortOf_30_2 (n m aw bw ci cw xa xb xc xi xw : Int) (nm : ByteArray) (w : World) (a1 : 1 ≤ aw) (a16 : aw ≤ 16) (hHI : inB n 0 (aw - 1) = true) (hHJ : inB m 0 n = true) :
 Calls Tryz.prog 82 #[.agg #[.int .i64 30, .int .i64 xa, .int .i64 xb, .int .i64 xc, .int .i64 n, .int .i64 m, .int .i64 xi, .int .i64 xw, .string nm], .agg #[.int .i64 0, .int .i64 aw], .agg #[.int .i64 0, .int .i64 bw], .agg #[.int .i64 ci, .int .i64 cw]] w (ResPost (resN 30 n m 0 aw 0 bw ci cw) w) := by
 have HR := Lib.hid (show (resN 30 n m 0 aw 0 bw ci cw) = some (0, n - m + 1) by unfold resN; rw [if_neg (by omega), if_neg (by omega), if_neg (by omega), if_neg (by omega), if_neg (by simp), if_neg (by omega)]; rw [if_pos rfl, if_pos]; have h1 := of_inB hHI; have h2 := of_inB hHJ; exact ⟨h2.1, h2.2, by omega⟩)
 have h1 := of_inB hHI
 have h2 := of_inB hHJ
 have HI := Lib.hid (show inB n 0 (aw - 1) = true from hHI)
 have HJ := Lib.hid (show inB m 0 n = true from hHJ)
 clear hHI hHJ
 obtain ⟨n1, n2⟩ := h1
 obtain ⟨m1, m2⟩ := h2
 go_enter Tryz.func82, Tryz.ntmps82
 go_upto_region 1 with fail
 obtain ⟨w2, hw2, HB, b0, b4, b5, b6, b7, d0, d1, d2, d3, d4, d5, r0, r1, f0, f1⟩ := sort_world 30 n m 0 aw 0 bw ci cw xa xb xc xi xw nm w
 rw [hw2]
 clear hw2
 have p0 := here b0; have p1 := here b4; have p2 := here b5; have p3 := here b6; have p4 := here b7; have p5 := here d0; have p6 := here d1; have p7 := here d2; have p8 := here d3; have p9 := here d4; have p10 := here d5
 go_wp2
 clear p0 p1 p2 p3 p4 p5 p6 p7 p8 p9 p10
 refine wp_region_two (G := w.heap.size + 4) 20 (.int .i64 (0)) (.int .i64 (n - m + 1)) (by kernel_rfl) (by kernel_rfl) rfl (by kernel_rfl) HB.out (Nat.le_add_right _ _) r0 r1 f0 f1 ?_
 apply Exists.intro
 refine ⟨fun W hk => ?_, ?_, ?_, ?_⟩
 · have e0 := hk _ _ _ (by omega) b0; have e1 := hk _ _ _ (by omega) b4; have e2 := hk _ _ _ (by omega) b5; have e3 := hk _ _ _ (by omega) b6; have e4 := hk _ _ _ (by omega) b7; have e5 := hk _ _ _ (by omega) d0; have e6 := hk _ _ _ (by omega) d1; have e7 := hk _ _ _ (by omega) d2; have e8 := hk _ _ _ (by omega) d3; have e9 := hk _ _ _ (by omega) d4; have e10 := hk _ _ _ (by omega) d5
   clear hk
   simp only [List.take_succ_cons, List.take_zero]
   repeat (go_big_quiet_step (first | (go_at_call 70; with_reducible exact Calls.later_eq (in_calls n 0 (aw - 1) _) (congrArg Value.bool HI.out)) | (go_at_call 70; with_reducible exact Calls.later_eq (in_calls m 0 n _) (congrArg Value.bool HJ.out)) | (go_at_call 48; exact Calls.later (words_calls _ _))))
   exact wpQuiet_nil rfl
 · rfl
 · intro u s0 s1 t0 t1
   go_simp
 · intro u hb s0 s1
   have hbel := Lib.hid hb
   simp only [List.drop_succ_cons, List.drop_zero]
   clear r0 r1 f0 f1 hb
   go_wp2
   exact bodyPost_ret (v := .tuple #[.agg #[.int .i64 (0), .int .i64 (n - m + 1)], .bool true]) (by simp [results, Tryz.results82, go_sem, s0, s1]) rfl (respost_some HR.out hbel.out)
theorem sortOf_31_0 (n m aw bw ci cw xa xb xc xi xw : Int) (nm : ByteArray) (w : World) (a1 : 1 ≤ aw) (a16 : aw ≤ 16) (hHI : inB n 0 (16 - aw) = false) :
 Calls Tryz.prog 82 #[.agg #[.int .i64 31, .int .i64 xa, .int .i64 xb, .int .i64 xc, .int .i64 n, .int .i64 m, .int .i64 xi, .int .i64 xw, .string nm], .agg #[.int .i64 0, .int .i64 aw], .agg #[.int .i64 0, .int .i64 bw], .agg #[.int .i64 ci, .int .i64 cw]] w (ResPost (resN 31 n m 0 aw 0 bw ci cw) w) := by
 have HR := Lib.hid (show (resN 31 n m 0 aw 0 bw ci cw) = none by unfold resN; rw [if_neg (by omega), if_neg (by omega), if_neg (by omega), if_neg (by omega), if_neg (by simp), if_neg (by omega)]; rw [if_neg (by omega), if_pos (by simp), if_neg]; rintro ⟨h1, h2⟩; rw [inB_yes (by omega)] at hHI; cases hHI)
 have HI := Lib.hid (show inB n 0 (16 - aw) = false from hHI)
 clear hHI
 go_enter Tryz.func82, Tryz.ntmps82
 go_upto_region 1 with fail
 obtain ⟨w2, hw2, HB, b0, b4, b5, b6, b7, d0, d1, d2, d3, d4, d5, r0, r1, f0, f1⟩ := sort_world 31 n m 0 aw 0 bw ci cw xa xb xc xi xw nm w
 rw [hw2]
 clear hw2
 have p0 := here b0; have p1 := here b4; have p2 := here b5; have p3 := here b6; have p4 := here b7; have p5 := here d0; have p6 := here d1; have p7 := here d2; have p8 := here d3; have p9 := here d4; have p10 := here d5
 go_wp2
 clear p0 p1 p2 p3 p4 p5 p6 p7 p8 p9 p10
 refine wp_region_two (G := w.heap.size + 4) 12 (.int .i64 (0)) (.int .i64 (wrap64 (aw + n))) (by kernel_rfl) (by kernel_rfl) rfl (by kernel_rfl) HB.out (Nat.le_add_right _ _) r0 r1 f0 f1 ?_
 apply Exists.intro
 refine ⟨fun W hk => ?_, ?_, ?_, ?_⟩
 · have e0 := hk _ _ _ (by omega) b0; have e1 := hk _ _ _ (by omega) b4; have e2 := hk _ _ _ (by omega) b5; have e3 := hk _ _ _ (by omega) b6; have e4 := hk _ _ _ (by omega) b7; have e5 := hk _ _ _ (by omega) d0; have e6 := hk _ _ _ (by omega) d1; have e7 := hk _ _ _ (by omega) d2; have e8 := hk _ _ _ (by omega) d3; have e9 := hk _ _ _ (by omega) d4; have e10 := hk _ _ _ (by omega) d5
   clear hk
   simp only [List.take_succ_cons, List.take_zero]
   repeat (go_big_quiet_step (first | (go_at_call 70; with_reducible exact Calls.later_eq (in_calls n 0 (16 - aw) _) (congrArg Value.bool HI.out)) | (go_at_call 48; exact Calls.later (words_calls _ _))))
   exact wpQuiet_nil rfl
 · rfl
 · intro u s0 s1 t0 t1
   go_simp
 · intro u hb s0 s1
   have hbel := Lib.hid hb
   simp only [List.drop_succ_cons, List.drop_zero]
   clear r0 r1 f0 f1 hb
   go_wp2
   exact bodyPost_ret (v := .tuple #[.agg #[.int .i64 (0), .int .i64 (wrap64 (aw + n))], .bool false]) (by simp [results, Tryz.results82, go_sem, s0, s1]) rfl (respost_none HR.out hbel.out)
theorem sortOf_31_1 (n m aw bw ci cw xa xb xc xi xw : Int) (nm : ByteArray) (w : World) (a1 : 1 ≤ aw) (a16 : aw ≤ 16) (hHI : inB n 0 (16 - aw) = true) :
 Calls Tryz.prog 82 #[.agg #[.int .i64 31, .int .i64 xa, .int .i64 xb, .int .i64 xc, .int .i64 n, .int .i64 m, .int .i64 xi, .int .i64 xw, .string nm], .agg #[.int .i64 0, .int .i64 aw], .agg #[.int .i64 0, .int .i64 bw], .agg #[.int .i64 ci, .int .i64 cw]] w (ResPost (resN 31 n m 0 aw 0 bw ci cw) w) := by
 have HR := Lib.hid (show (resN 31 n m 0 aw 0 bw ci cw) = some (0, aw + n) by unfold resN; rw [if_neg (by omega), if_neg (by omega), if_neg (by omega), if_neg (by omega), if_neg (by simp), if_neg (by omega)]; rw [if_neg (by omega), if_pos (by simp), if_pos]; exact of_inB hHI)
 have h1 := of_inB hHI
 have HI := Lib.hid (show inB n 0 (16 - aw) = true from hHI)
 clear hHI
 obtain ⟨n1, n2⟩ := h1
 go_enter Tryz.func82, Tryz.ntmps82
 go_upto_region 1 with fail
 obtain ⟨w2, hw2, HB, b0, b4, b5, b6, b7, d0, d1, d2, d3, d4, d5, r0, r1, f0, f1⟩ := sort_world 31 n m 0 aw 0 bw ci cw xa xb xc xi xw nm w
 rw [hw2]
 clear hw2
 have p0 := here b0; have p1 := here b4; have p2 := here b5; have p3 := here b6; have p4 := here b7; have p5 := here d0; have p6 := here d1; have p7 := here d2; have p8 := here d3; have p9 := here d4; have p10 := here d5
 go_wp2
 clear p0 p1 p2 p3 p4 p5 p6 p7 p8 p9 p10
 refine wp_region_two (G := w.heap.size + 4) 12 (.int .i64 (0)) (.int .i64 (aw + n)) (by kernel_rfl) (by kernel_rfl) rfl (by kernel_rfl) HB.out (Nat.le_add_right _ _) r0 r1 f0 f1 ?_
 apply Exists.intro
 refine ⟨fun W hk => ?_, ?_, ?_, ?_⟩
 · have e0 := hk _ _ _ (by omega) b0; have e1 := hk _ _ _ (by omega) b4; have e2 := hk _ _ _ (by omega) b5; have e3 := hk _ _ _ (by omega) b6; have e4 := hk _ _ _ (by omega) b7; have e5 := hk _ _ _ (by omega) d0; have e6 := hk _ _ _ (by omega) d1; have e7 := hk _ _ _ (by omega) d2; have e8 := hk _ _ _ (by omega) d3; have e9 := hk _ _ _ (by omega) d4; have e10 := hk _ _ _ (by omega) d5
   clear hk
   simp only [List.take_succ_cons, List.take_zero]
   repeat (go_big_quiet_step (first | (go_at_call 70; with_reducible exact Calls.later_eq (in_calls n 0 (16 - aw) _) (congrArg Value.bool HI.out)) | (go_at_call 48; exact Calls.later (words_calls _ _))))
   exact wpQuiet_nil rfl
 · rfl
 · intro u s0 s1 t0 t1
   go_simp
 · intro u hb s0 s1
   have hbel := Lib.hid hb
   simp only [List.drop_succ_cons, List.drop_zero]
   clear r0 r1 f0 f1 hb
   go_wp2
   exact bodyPost_ret (v := .tuple #[.agg #[.int .i64 (0), .int .i64 (aw + n)], .bool true]) (by simp [results, Tryz.results82, go_sem, s0, s1]) rfl (respost_some HR.out hbel.out)
theorem sortOf_32_0 (n m aw bw ci cw xa xb xc xi xw : Int) (nm : ByteArray) (w : World) (a1 : 1 ≤ aw) (a16 : aw ≤ 16) (hHI : inB n 0 (16 - aw) = false) :
 Calls Tryz.prog 82 #[.agg #[.int .i64 32, .int .i64 xa, .int .i64 xb, .int .i64 xc, .int .i64 n, .int .i64 m, .int .i64 xi, .int .i64 xw, .string nm], .agg #[.int .i64 0, .int .i64 aw], .agg #[.int .i64 0, .int .i64 bw], .agg #[.int .i64 ci, .int .i64 cw]] w (ResPost (resN 32 n m 0 aw 0 bw ci cw) w) := by
 have HR := Lib.hid (show (resN 32 n m 0 aw 0 bw ci cw) = none by unfold resN; rw [if_neg (by omega), if_neg (by omega), if_neg (by omega), if_neg (by omega), if_neg (by simp), if_neg (by omega)]; rw [if_neg (by omega), if_pos (by simp), if_neg]; rintro ⟨h1, h2⟩; rw [inB_yes (by omega)] at hHI; cases hHI)
 have HI := Lib.hid (show inB n 0 (16 - aw) = false from hHI)
 clear hHI
 go_enter Tryz.func82, Tryz.ntmps82
 go_upto_region 1 with fail
 obtain ⟨w2, hw2, HB, b0, b4, b5, b6, b7, d0, d1, d2, d3, d4, d5, r0, r1, f0, f1⟩ := sort_world 32 n m 0 aw 0 bw ci cw xa xb xc xi xw nm w
 rw [hw2]
 clear hw2
 have p0 := here b0; have p1 := here b4; have p2 := here b5; have p3 := here b6; have p4 := here b7; have p5 := here d0; have p6 := here d1; have p7 := here d2; have p8 := here d3; have p9 := here d4; have p10 := here d5
 go_wp2
 clear p0 p1 p2 p3 p4 p5 p6 p7 p8 p9 p10
 refine wp_region_two (G := w.heap.size + 4) 12 (.int .i64 (0)) (.int .i64 (wrap64 (aw + n))) (by kernel_rfl) (by kernel_rfl) rfl (by kernel_rfl) HB.out (Nat.le_add_right _ _) r0 r1 f0 f1 ?_
 apply Exists.intro
 refine ⟨fun W hk => ?_, ?_, ?_, ?_⟩
 · have e0 := hk _ _ _ (by omega) b0; have e1 := hk _ _ _ (by omega) b4; have e2 := hk _ _ _ (by omega) b5; have e3 := hk _ _ _ (by omega) b6; have e4 := hk _ _ _ (by omega) b7; have e5 := hk _ _ _ (by omega) d0; have e6 := hk _ _ _ (by omega) d1; have e7 := hk _ _ _ (by omega) d2; have e8 := hk _ _ _ (by omega) d3; have e9 := hk _ _ _ (by omega) d4; have e10 := hk _ _ _ (by omega) d5
   clear hk
   simp only [List.take_succ_cons, List.take_zero]
   repeat (go_big_quiet_step (first | (go_at_call 70; with_reducible exact Calls.later_eq (in_calls n 0 (16 - aw) _) (congrArg Value.bool HI.out)) | (go_at_call 48; exact Calls.later (words_calls _ _))))
   exact wpQuiet_nil rfl
 · rfl
 · intro u s0 s1 t0 t1
   go_simp
 · intro u hb s0 s1
   have hbel := Lib.hid hb
   simp only [List.drop_succ_cons, List.drop_zero]
   clear r0 r1 f0 f1 hb
   go_wp2
   exact bodyPost_ret (v := .tuple #[.agg #[.int .i64 (0), .int .i64 (wrap64 (aw + n))], .bool false]) (by simp [results, Tryz.results82, go_sem, s0, s1]) rfl (respost_none HR.out hbel.out)
theorem sortOf_32_1 (n m aw bw ci cw xa xb xc xi xw : Int) (nm : ByteArray) (w : World) (a1 : 1 ≤ aw) (a16 : aw ≤ 16) (hHI : inB n 0 (16 - aw) = true) :
 Calls Tryz.prog 82 #[.agg #[.int .i64 32, .int .i64 xa, .int .i64 xb, .int .i64 xc, .int .i64 n, .int .i64 m, .int .i64 xi, .int .i64 xw, .string nm], .agg #[.int .i64 0, .int .i64 aw], .agg #[.int .i64 0, .int .i64 bw], .agg #[.int .i64 ci, .int .i64 cw]] w (ResPost (resN 32 n m 0 aw 0 bw ci cw) w) := by
 have HR := Lib.hid (show (resN 32 n m 0 aw 0 bw ci cw) = some (0, aw + n) by unfold resN; rw [if_neg (by omega), if_neg (by omega), if_neg (by omega), if_neg (by omega), if_neg (by simp), if_neg (by omega)]; rw [if_neg (by omega), if_pos (by simp), if_pos]; exact of_inB hHI)
 have h1 := of_inB hHI
 have HI := Lib.hid (show inB n 0 (16 - aw) = true from hHI)
 clear hHI
 obtain ⟨n1, n2⟩ := h1
 go_enter Tryz.func82, Tryz.ntmps82
 go_upto_region 1 with fail
 obtain ⟨w2, hw2, HB, b0, b4, b5, b6, b7, d0, d1, d2, d3, d4, d5, r0, r1, f0, f1⟩ := sort_world 32 n m 0 aw 0 bw ci cw xa xb xc xi xw nm w
 rw [hw2]
 clear hw2
 have p0 := here b0; have p1 := here b4; have p2 := here b5; have p3 := here b6; have p4 := here b7; have p5 := here d0; have p6 := here d1; have p7 := here d2; have p8 := here d3; have p9 := here d4; have p10 := here d5
 go_wp2
 clear p0 p1 p2 p3 p4 p5 p6 p7 p8 p9 p10
 refine wp_region_two (G := w.heap.size + 4) 12 (.int .i64 (0)) (.int .i64 (aw + n)) (by kernel_rfl) (by kernel_rfl) rfl (by kernel_rfl) HB.out (Nat.le_add_right _ _) r0 r1 f0 f1 ?_
 apply Exists.intro
 refine ⟨fun W hk => ?_, ?_, ?_, ?_⟩
 · have e0 := hk _ _ _ (by omega) b0; have e1 := hk _ _ _ (by omega) b4; have e2 := hk _ _ _ (by omega) b5; have e3 := hk _ _ _ (by omega) b6; have e4 := hk _ _ _ (by omega) b7; have e5 := hk _ _ _ (by omega) d0; have e6 := hk _ _ _ (by omega) d1; have e7 := hk _ _ _ (by omega) d2; have e8 := hk _ _ _ (by omega) d3; have e9 := hk _ _ _ (by omega) d4; have e10 := hk _ _ _ (by omega) d5
   clear hk
   simp only [List.take_succ_cons, List.take_zero]
   repeat (go_big_quiet_step (first | (go_at_call 70; with_reducible exact Calls.later_eq (in_calls n 0 (16 - aw) _) (congrArg Value.bool HI.out)) | (go_at_call 48; exact Calls.later (words_calls _ _))))
   exact wpQuiet_nil rfl
 · rfl
 · intro u s0 s1 t0 t1
   go_simp
 · intro u hb s0 s1
   have hbel := Lib.hid hb
   simp only [List.drop_succ_cons, List.drop_zero]
   clear r0 r1 f0 f1 hb
   go_wp2
   exact bodyPost_ret (v := .tuple #[.agg #[.int .i64 (0), .int .i64 (aw + n)], .bool true]) (by simp [results, Tryz.results82, go_sem, s0, s1]) rfl (respost_some HR.out hbel.out)
end Go.Proofs.YthejgnabgglmhaaGreat
