import Derived.Test.YtdojaijnejcoiaaGreatmc2
import Derived.Deep.AppendLies
set_option linter.unusedVariables false
set_option linter.unusedSimpArgs false
set_option maxRecDepth 8000
set_option maxHeartbeats 16000000
namespace Go.Proofs.YtdojaijnejcoiaaGreat
open Go.RowKit
attribute [local go_sem high] eq_sort
theorem l2Result_29_a (n m ai aw bi bw ci cw xa xb xc xi xw : Int) (nm : ByteArray) (g cap : Nat) (w : World) (hcap : 2 ≤ cap) (c0 : w.cell? ⟨g, 0, none⟩ = some (.int .i64 ai)) (c1 : w.cell? ⟨g, 1, none⟩ = some (.int .i64 aw)) (c2 : w.cell? ⟨g, 2, none⟩ = some (.int .i64 bi)) (c3 : w.cell? ⟨g, 3, none⟩ = some (.int .i64 bw)) (ha : 0 < ai) :
 Calls Tryz.prog 91 #[.agg #[.int .i64 29, .int .i64 xa, .int .i64 xb, .int .i64 xc, .int .i64 n, .int .i64 m, .int .i64 xi, .int .i64 xw, .string nm], .slice (some ⟨g, 0, none⟩) 2 cap] w (ResPost (resN 29 n m ai aw bi bw ci cw) w) := by
 have HR := Lib.hid (show resN 29 n m ai aw bi bw ci cw = none by unfold resN; rw [if_neg (by omega), if_neg (by omega), if_neg (by omega), if_neg (by omega)]; rw [if_pos (Or.inl (by omega))])
 go_enter Tryz.func91, Tryz.ntmps91
 go_wp2
 obtain ⟨w2, hw2, HB, b0, b4, b5, r0, r1, f0, f1⟩ := res_world 29 n m xa xb xc xi xw nm w
 rw [hw2]
 clear hw2
 have c0 := back_cell c0 HB.out
 have c1 := back_cell c1 HB.out
 have c2 := back_cell c2 HB.out
 have c3 := back_cell c3 HB.out
 refine at_world (w := w2) ?_
 intro u0
 refine wp_loop_rounds 3 ?_
 rw [rounds_succ]
 go_wp2
 exact bodyPost_ret (v := .tuple #[.agg #[.int .i64 0, .int .i64 (0)], .bool (false)]) (by simp [results, Tryz.results91, go_sem, r0, r1]) rfl (respost_none HR.out (by repeat (first | exact u0.back HB.out | exact HB.out | refine Below.setCell ?_ (by first | (simp; done) | (simp; omega)) _)))
theorem l2Result_29_b (n m ai aw bi bw ci cw xa xb xc xi xw : Int) (nm : ByteArray) (g cap : Nat) (w : World) (hcap : 2 ≤ cap) (c0 : w.cell? ⟨g, 0, none⟩ = some (.int .i64 ai)) (c1 : w.cell? ⟨g, 1, none⟩ = some (.int .i64 aw)) (c2 : w.cell? ⟨g, 2, none⟩ = some (.int .i64 bi)) (c3 : w.cell? ⟨g, 3, none⟩ = some (.int .i64 bw)) (ha : ai = 0) (hb : 0 < bi) :
 Calls Tryz.prog 91 #[.agg #[.int .i64 29, .int .i64 xa, .int .i64 xb, .int .i64 xc, .int .i64 n, .int .i64 m, .int .i64 xi, .int .i64 xw, .string nm], .slice (some ⟨g, 0, none⟩) 2 cap] w (ResPost (resN 29 n m ai aw bi bw ci cw) w) := by
 subst ha
 have HR := Lib.hid (show resN 29 n m 0 aw bi bw ci cw = none by unfold resN; rw [if_neg (by omega), if_neg (by omega), if_neg (by omega), if_neg (by omega)]; rw [if_pos (Or.inr (by omega))])
 go_enter Tryz.func91, Tryz.ntmps91
 go_wp2
 obtain ⟨w2, hw2, HB, b0, b4, b5, r0, r1, f0, f1⟩ := res_world 29 n m xa xb xc xi xw nm w
 rw [hw2]
 clear hw2
 have c0 := back_cell c0 HB.out
 have c1 := back_cell c1 HB.out
 have c2 := back_cell c2 HB.out
 have c3 := back_cell c3 HB.out
 refine at_world (w := w2) ?_
 intro u0
 refine wp_loop_rounds 3 ?_
 rw [rounds_succ]
 go_wp2
 rw [rounds_succ]
 go_wp2
 exact bodyPost_ret (v := .tuple #[.agg #[.int .i64 0, .int .i64 (0)], .bool (false)]) (by simp [results, Tryz.results91, go_sem, r0, r1]) rfl (respost_none HR.out (by repeat (first | exact u0.back HB.out | exact HB.out | refine Below.setCell ?_ (by first | (simp; done) | (simp; omega)) _)))
theorem l2Result_29_c (n m ci cw xa xb xc xi xw : Int) (nm : ByteArray) (p q g cap : Nat) (w : World) (hcap : 2 ≤ cap)  (hp : 1 ≤ p) (hp2 : p ≤ 16) (hq : 1 ≤ q) (hq2 : q ≤ 16) (h : (p : Int) + q ≤ 16) (c0 : w.cell? ⟨g, 0, none⟩ = some (.int .i64 0)) (c1 : w.cell? ⟨g, 1, none⟩ = some (.int .i64 p)) (c2 : w.cell? ⟨g, 2, none⟩ = some (.int .i64 0)) (c3 : w.cell? ⟨g, 3, none⟩ = some (.int .i64 q)) :
 Calls Tryz.prog 91 #[.agg #[.int .i64 29, .int .i64 xa, .int .i64 xb, .int .i64 xc, .int .i64 n, .int .i64 m, .int .i64 xi, .int .i64 xw, .string nm], .slice (some ⟨g, 0, none⟩) 2 cap] w (ResPost (resN 29 n m 0 p 0 q ci cw) w) := by
 have HR := Lib.hid (show resN 29 n m 0 p 0 q ci cw = some (0, (p : Int) + q) by
  unfold resN; rw [if_neg (by omega), if_neg (by omega), if_neg (by omega), if_neg (by omega)]; rw [if_neg (by simp)]
  rw [if_pos rfl]; simp [h])
 have HV := Lib.hid (show Value.tuple #[.int .i64 0, .int .i64 (if (p : Int) + q ≤ 16 then (p : Int) + q else 0), .bool (decide ((p : Int) + q ≤ 16))] = Value.tuple #[.int .i64 0, .int .i64 ((p : Int) + q), .bool true] by rw [if_pos h, decide_eq_true h])
 go_enter Tryz.func91, Tryz.ntmps91
 go_wp2
 obtain ⟨w2, hw2, HB, b0, b4, b5, r0, r1, f0, f1⟩ := res_world 29 n m xa xb xc xi xw nm w
 rw [hw2]
 clear hw2
 have c0 := back_cell c0 HB.out
 have c1 := back_cell c1 HB.out
 have c2 := back_cell c2 HB.out
 have c3 := back_cell c3 HB.out
 refine at_world (w := w2) ?_
 intro u0
 refine wp_loop_rounds 3 ?_
 rw [rounds_succ]
 go_wp2
 rw [rounds_succ]
 go_wp2
 rw [rounds_succ]
 go_wp2
 refine wp_region_later (w0 := w2) (by kernel_rfl) (by kernel_rfl) ⟨u0, rfl⟩ ?_
 repeat (go_big_quiet_step ((go_at_call 99; exact Calls.later_eq (Makes.of_same (WordJoin_zero p q _ hp hp2 hq hq2)) HV.out)))
 refine wpQuiet_nil ?_
 rintro _ ⟨u1, rfl⟩
 go_wp2_with (go_at_call 74; refine (Calls.later (u := u1) (l2Word_calls _ _)).mono ?_; rintro e w' ⟨rfl, u2, rfl⟩)
 exact bodyPost_ret (v := .tuple #[.agg #[.int .i64 0, .int .i64 ((p : Int) + q)], .bool (true)]) (by simp [results, Tryz.results91, go_sem, r0, r1]) rfl (respost_some HR.out (by repeat (first | exact u2.back HB.out | exact HB.out | refine Below.setCell ?_ (by first | (simp; done) | (simp; omega)) _)))
theorem l2Result_29_d (n m ci cw xa xb xc xi xw : Int) (nm : ByteArray) (p q g cap : Nat) (w : World) (hcap : 2 ≤ cap)  (hp : 1 ≤ p) (hp2 : p ≤ 16) (hq : 1 ≤ q) (hq2 : q ≤ 16) (h : ¬ ((p : Int) + q ≤ 16)) (c0 : w.cell? ⟨g, 0, none⟩ = some (.int .i64 0)) (c1 : w.cell? ⟨g, 1, none⟩ = some (.int .i64 p)) (c2 : w.cell? ⟨g, 2, none⟩ = some (.int .i64 0)) (c3 : w.cell? ⟨g, 3, none⟩ = some (.int .i64 q)) :
 Calls Tryz.prog 91 #[.agg #[.int .i64 29, .int .i64 xa, .int .i64 xb, .int .i64 xc, .int .i64 n, .int .i64 m, .int .i64 xi, .int .i64 xw, .string nm], .slice (some ⟨g, 0, none⟩) 2 cap] w (ResPost (resN 29 n m 0 p 0 q ci cw) w) := by
 have HR := Lib.hid (show resN 29 n m 0 p 0 q ci cw = none by
  unfold resN; rw [if_neg (by omega), if_neg (by omega), if_neg (by omega), if_neg (by omega)]; rw [if_neg (by simp)]
  rw [if_pos rfl]; simp [h])
 have HV := Lib.hid (show Value.tuple #[.int .i64 0, .int .i64 (if (p : Int) + q ≤ 16 then (p : Int) + q else 0), .bool (decide ((p : Int) + q ≤ 16))] = Value.tuple #[.int .i64 0, .int .i64 (0), .bool false] by rw [if_neg h, decide_eq_false h])
 go_enter Tryz.func91, Tryz.ntmps91
 go_wp2
 obtain ⟨w2, hw2, HB, b0, b4, b5, r0, r1, f0, f1⟩ := res_world 29 n m xa xb xc xi xw nm w
 rw [hw2]
 clear hw2
 have c0 := back_cell c0 HB.out
 have c1 := back_cell c1 HB.out
 have c2 := back_cell c2 HB.out
 have c3 := back_cell c3 HB.out
 refine at_world (w := w2) ?_
 intro u0
 refine wp_loop_rounds 3 ?_
 rw [rounds_succ]
 go_wp2
 rw [rounds_succ]
 go_wp2
 rw [rounds_succ]
 go_wp2
 refine wp_region_later (w0 := w2) (by kernel_rfl) (by kernel_rfl) ⟨u0, rfl⟩ ?_
 repeat (go_big_quiet_step ((go_at_call 99; exact Calls.later_eq (Makes.of_same (WordJoin_zero p q _ hp hp2 hq hq2)) HV.out)))
 refine wpQuiet_nil ?_
 rintro _ ⟨u1, rfl⟩
 go_wp2_with (go_at_call 74; refine (Calls.later (u := u1) (l2Word_calls _ _)).mono ?_; rintro e w' ⟨rfl, u2, rfl⟩)
 exact bodyPost_ret (v := .tuple #[.agg #[.int .i64 0, .int .i64 (0)], .bool (false)]) (by simp [results, Tryz.results91, go_sem, r0, r1]) rfl (respost_none HR.out (by repeat (first | exact u2.back HB.out | exact HB.out | refine Below.setCell ?_ (by first | (simp; done) | (simp; omega)) _)))
theorem l2Result_30_a (n m ai aw bi bw ci cw xa xb xc xi xw : Int) (nm : ByteArray) (g cap : Nat) (w : World) (hcap : 1 ≤ cap) (c0 : w.cell? ⟨g, 0, none⟩ = some (.int .i64 ai)) (c1 : w.cell? ⟨g, 1, none⟩ = some (.int .i64 aw)) (ha : 0 < ai) :
 Calls Tryz.prog 91 #[.agg #[.int .i64 30, .int .i64 xa, .int .i64 xb, .int .i64 xc, .int .i64 n, .int .i64 m, .int .i64 xi, .int .i64 xw, .string nm], .slice (some ⟨g, 0, none⟩) 1 cap] w (ResPost (resN 30 n m ai aw bi bw ci cw) w) := by
 have HR := Lib.hid (show resN 30 n m ai aw bi bw ci cw = none by unfold resN; rw [if_neg (by omega), if_neg (by omega), if_neg (by omega), if_neg (by omega)]; rw [if_pos (Or.inl (by omega))])
 go_enter Tryz.func91, Tryz.ntmps91
 go_wp2
 obtain ⟨w2, hw2, HB, b0, b4, b5, r0, r1, f0, f1⟩ := res_world 30 n m xa xb xc xi xw nm w
 rw [hw2]
 clear hw2
 have c0 := back_cell c0 HB.out
 have c1 := back_cell c1 HB.out
 refine at_world (w := w2) ?_
 intro u0
 refine wp_loop_rounds 2 ?_
 rw [rounds_succ]
 go_wp2
 exact bodyPost_ret (v := .tuple #[.agg #[.int .i64 0, .int .i64 (0)], .bool (false)]) (by simp [results, Tryz.results91, go_sem, r0, r1]) rfl (respost_none HR.out (by repeat (first | exact u0.back HB.out | exact HB.out | refine Below.setCell ?_ (by first | (simp; done) | (simp; omega)) _)))
theorem l2Result_30_c (n m bi bw ci cw xa xb xc xi xw : Int) (nm : ByteArray) (p g cap : Nat) (w : World) (hcap : 1 ≤ cap)  (hp : 1 ≤ p) (hp2 : p ≤ 16) (h : 0 ≤ m ∧ m ≤ n ∧ n < p) (c0 : w.cell? ⟨g, 0, none⟩ = some (.int .i64 0)) (c1 : w.cell? ⟨g, 1, none⟩ = some (.int .i64 p)) :
 Calls Tryz.prog 91 #[.agg #[.int .i64 30, .int .i64 xa, .int .i64 xb, .int .i64 xc, .int .i64 n, .int .i64 m, .int .i64 xi, .int .i64 xw, .string nm], .slice (some ⟨g, 0, none⟩) 1 cap] w (ResPost (resN 30 n m 0 p 0 bw ci cw) w) := by
 have HR := Lib.hid (show resN 30 n m 0 p 0 bw ci cw = some (0, n - m + 1) by
  unfold resN; rw [if_neg (by omega), if_neg (by omega), if_neg (by omega), if_neg (by omega)]; rw [if_neg (by simp)]
  rw [if_neg (by omega), if_pos rfl]; simp [h])
 have HV := Lib.hid (show Value.tuple #[.int .i64 0, .int .i64 (if 0 ≤ m ∧ m ≤ n ∧ n < p then n - m + 1 else 0), .bool (decide (0 ≤ m ∧ m ≤ n ∧ n < p))] = Value.tuple #[.int .i64 0, .int .i64 (n - m + 1), .bool true] by rw [if_pos h, decide_eq_true h])
 go_enter Tryz.func91, Tryz.ntmps91
 go_wp2
 obtain ⟨w2, hw2, HB, b0, b4, b5, r0, r1, f0, f1⟩ := res_world 30 n m xa xb xc xi xw nm w
 rw [hw2]
 clear hw2
 have c0 := back_cell c0 HB.out
 have c1 := back_cell c1 HB.out
 refine at_world (w := w2) ?_
 intro u0
 refine wp_loop_rounds 2 ?_
 rw [rounds_succ]
 go_wp2
 rw [rounds_succ]
 go_wp2
 refine wp_region_later (w0 := w2) (by kernel_rfl) (by kernel_rfl) ⟨u0, rfl⟩ ?_
 repeat (go_big_quiet_step ((go_at_call 100; exact Calls.later_eq (Makes.of_same (WordSlice_zero p n m _ hp hp2)) HV.out)))
 refine wpQuiet_nil ?_
 rintro _ ⟨u1, rfl⟩
 go_wp2_with (go_at_call 74; refine (Calls.later (u := u1) (l2Word_calls _ _)).mono ?_; rintro e w' ⟨rfl, u2, rfl⟩)
 exact bodyPost_ret (v := .tuple #[.agg #[.int .i64 0, .int .i64 (n - m + 1)], .bool (true)]) (by simp [results, Tryz.results91, go_sem, r0, r1]) rfl (respost_some HR.out (by repeat (first | exact u2.back HB.out | exact HB.out | refine Below.setCell ?_ (by first | (simp; done) | (simp; omega)) _)))
theorem l2Result_30_d (n m bi bw ci cw xa xb xc xi xw : Int) (nm : ByteArray) (p g cap : Nat) (w : World) (hcap : 1 ≤ cap)  (hp : 1 ≤ p) (hp2 : p ≤ 16) (h : ¬ (0 ≤ m ∧ m ≤ n ∧ n < p)) (c0 : w.cell? ⟨g, 0, none⟩ = some (.int .i64 0)) (c1 : w.cell? ⟨g, 1, none⟩ = some (.int .i64 p)) :
 Calls Tryz.prog 91 #[.agg #[.int .i64 30, .int .i64 xa, .int .i64 xb, .int .i64 xc, .int .i64 n, .int .i64 m, .int .i64 xi, .int .i64 xw, .string nm], .slice (some ⟨g, 0, none⟩) 1 cap] w (ResPost (resN 30 n m 0 p 0 bw ci cw) w) := by
 have HR := Lib.hid (show resN 30 n m 0 p 0 bw ci cw = none by
  unfold resN; rw [if_neg (by omega), if_neg (by omega), if_neg (by omega), if_neg (by omega)]; rw [if_neg (by simp)]
  rw [if_neg (by omega), if_pos rfl]; simp [h])
 have HV := Lib.hid (show Value.tuple #[.int .i64 0, .int .i64 (if 0 ≤ m ∧ m ≤ n ∧ n < p then n - m + 1 else 0), .bool (decide (0 ≤ m ∧ m ≤ n ∧ n < p))] = Value.tuple #[.int .i64 0, .int .i64 (0), .bool false] by rw [if_neg h, decide_eq_false h])
 go_enter Tryz.func91, Tryz.ntmps91
 go_wp2
 obtain ⟨w2, hw2, HB, b0, b4, b5, r0, r1, f0, f1⟩ := res_world 30 n m xa xb xc xi xw nm w
 rw [hw2]
 clear hw2
 have c0 := back_cell c0 HB.out
 have c1 := back_cell c1 HB.out
 refine at_world (w := w2) ?_
 intro u0
 refine wp_loop_rounds 2 ?_
 rw [rounds_succ]
 go_wp2
 rw [rounds_succ]
 go_wp2
 refine wp_region_later (w0 := w2) (by kernel_rfl) (by kernel_rfl) ⟨u0, rfl⟩ ?_
 repeat (go_big_quiet_step ((go_at_call 100; exact Calls.later_eq (Makes.of_same (WordSlice_zero p n m _ hp hp2)) HV.out)))
 refine wpQuiet_nil ?_
 rintro _ ⟨u1, rfl⟩
 go_wp2_with (go_at_call 74; refine (Calls.later (u := u1) (l2Word_calls _ _)).mono ?_; rintro e w' ⟨rfl, u2, rfl⟩)
 exact bodyPost_ret (v := .tuple #[.agg #[.int .i64 0, .int .i64 (0)], .bool (false)]) (by simp [results, Tryz.results91, go_sem, r0, r1]) rfl (respost_none HR.out (by repeat (first | exact u2.back HB.out | exact HB.out | refine Below.setCell ?_ (by first | (simp; done) | (simp; omega)) _)))
theorem l2Result_31_a (n m ai aw bi bw ci cw xa xb xc xi xw : Int) (nm : ByteArray) (g cap : Nat) (w : World) (hcap : 1 ≤ cap) (c0 : w.cell? ⟨g, 0, none⟩ = some (.int .i64 ai)) (c1 : w.cell? ⟨g, 1, none⟩ = some (.int .i64 aw)) (ha : 0 < ai) :
 Calls Tryz.prog 91 #[.agg #[.int .i64 31, .int .i64 xa, .int .i64 xb, .int .i64 xc, .int .i64 n, .int .i64 m, .int .i64 xi, .int .i64 xw, .string nm], .slice (some ⟨g, 0, none⟩) 1 cap] w (ResPost (resN 31 n m ai aw bi bw ci cw) w) := by
 have HR := Lib.hid (show resN 31 n m ai aw bi bw ci cw = none by unfold resN; rw [if_neg (by omega), if_neg (by omega), if_neg (by omega), if_neg (by omega)]; rw [if_pos (Or.inl (by omega))])
 go_enter Tryz.func91, Tryz.ntmps91
 go_wp2
 obtain ⟨w2, hw2, HB, b0, b4, b5, r0, r1, f0, f1⟩ := res_world 31 n m xa xb xc xi xw nm w
 rw [hw2]
 clear hw2
 have c0 := back_cell c0 HB.out
 have c1 := back_cell c1 HB.out
 refine at_world (w := w2) ?_
 intro u0
 refine wp_loop_rounds 2 ?_
 rw [rounds_succ]
 go_wp2
 exact bodyPost_ret (v := .tuple #[.agg #[.int .i64 0, .int .i64 (0)], .bool (false)]) (by simp [results, Tryz.results91, go_sem, r0, r1]) rfl (respost_none HR.out (by repeat (first | exact u0.back HB.out | exact HB.out | refine Below.setCell ?_ (by first | (simp; done) | (simp; omega)) _)))
theorem l2Result_31_c (n m bi bw ci cw xa xb xc xi xw : Int) (nm : ByteArray) (p g cap : Nat) (w : World) (hcap : 1 ≤ cap)  (hp : 1 ≤ p) (hp2 : p ≤ 16) (h : 0 ≤ n ∧ n ≤ 16 - p) (c0 : w.cell? ⟨g, 0, none⟩ = some (.int .i64 0)) (c1 : w.cell? ⟨g, 1, none⟩ = some (.int .i64 p)) :
 Calls Tryz.prog 91 #[.agg #[.int .i64 31, .int .i64 xa, .int .i64 xb, .int .i64 xc, .int .i64 n, .int .i64 m, .int .i64 xi, .int .i64 xw, .string nm], .slice (some ⟨g, 0, none⟩) 1 cap] w (ResPost (resN 31 n m 0 p 0 bw ci cw) w) := by
 have HR := Lib.hid (show resN 31 n m 0 p 0 bw ci cw = some (0, p + n) by
  unfold resN; rw [if_neg (by omega), if_neg (by omega), if_neg (by omega), if_neg (by omega)]; rw [if_neg (by simp)]
  rw [if_neg (by omega), if_neg (by omega), if_pos (by simp)]; simp [h])
 have HV := Lib.hid (show Value.tuple #[.int .i64 0, .int .i64 (if 0 ≤ n ∧ n ≤ 16 - p then p + n else 0), .bool (decide (0 ≤ n ∧ n ≤ 16 - p))] = Value.tuple #[.int .i64 0, .int .i64 (p + n), .bool true] by rw [if_pos h, decide_eq_true h])
 go_enter Tryz.func91, Tryz.ntmps91
 go_wp2
 obtain ⟨w2, hw2, HB, b0, b4, b5, r0, r1, f0, f1⟩ := res_world 31 n m xa xb xc xi xw nm w
 rw [hw2]
 clear hw2
 have c0 := back_cell c0 HB.out
 have c1 := back_cell c1 HB.out
 refine at_world (w := w2) ?_
 intro u0
 refine wp_loop_rounds 2 ?_
 rw [rounds_succ]
 go_wp2
 rw [rounds_succ]
 go_wp2
 refine wp_region_later (w0 := w2) (by kernel_rfl) (by kernel_rfl) ⟨u0, rfl⟩ ?_
 repeat (go_big_quiet_step ((go_at_call 101; exact Calls.later_eq (Makes.of_same (WordGrow_zero p n _ hp hp2)) HV.out)))
 refine wpQuiet_nil ?_
 rintro _ ⟨u1, rfl⟩
 go_wp2_with (go_at_call 74; refine (Calls.later (u := u1) (l2Word_calls _ _)).mono ?_; rintro e w' ⟨rfl, u2, rfl⟩)
 exact bodyPost_ret (v := .tuple #[.agg #[.int .i64 0, .int .i64 (p + n)], .bool (true)]) (by simp [results, Tryz.results91, go_sem, r0, r1]) rfl (respost_some HR.out (by repeat (first | exact u2.back HB.out | exact HB.out | refine Below.setCell ?_ (by first | (simp; done) | (simp; omega)) _)))
theorem l2Result_31_d (n m bi bw ci cw xa xb xc xi xw : Int) (nm : ByteArray) (p g cap : Nat) (w : World) (hcap : 1 ≤ cap)  (hp : 1 ≤ p) (hp2 : p ≤ 16) (h : ¬ (0 ≤ n ∧ n ≤ 16 - p)) (c0 : w.cell? ⟨g, 0, none⟩ = some (.int .i64 0)) (c1 : w.cell? ⟨g, 1, none⟩ = some (.int .i64 p)) :
 Calls Tryz.prog 91 #[.agg #[.int .i64 31, .int .i64 xa, .int .i64 xb, .int .i64 xc, .int .i64 n, .int .i64 m, .int .i64 xi, .int .i64 xw, .string nm], .slice (some ⟨g, 0, none⟩) 1 cap] w (ResPost (resN 31 n m 0 p 0 bw ci cw) w) := by
 have HR := Lib.hid (show resN 31 n m 0 p 0 bw ci cw = none by
  unfold resN; rw [if_neg (by omega), if_neg (by omega), if_neg (by omega), if_neg (by omega)]; rw [if_neg (by simp)]
  rw [if_neg (by omega), if_neg (by omega), if_pos (by simp)]; simp [h])
 have HV := Lib.hid (show Value.tuple #[.int .i64 0, .int .i64 (if 0 ≤ n ∧ n ≤ 16 - p then p + n else 0), .bool (decide (0 ≤ n ∧ n ≤ 16 - p))] = Value.tuple #[.int .i64 0, .int .i64 (0), .bool false] by rw [if_neg h, decide_eq_false h])
 go_enter Tryz.func91, Tryz.ntmps91
 go_wp2
 obtain ⟨w2, hw2, HB, b0, b4, b5, r0, r1, f0, f1⟩ := res_world 31 n m xa xb xc xi xw nm w
 rw [hw2]
 clear hw2
 have c0 := back_cell c0 HB.out
 have c1 := back_cell c1 HB.out
 refine at_world (w := w2) ?_
 intro u0
 refine wp_loop_rounds 2 ?_
 rw [rounds_succ]
 go_wp2
 rw [rounds_succ]
 go_wp2
 refine wp_region_later (w0 := w2) (by kernel_rfl) (by kernel_rfl) ⟨u0, rfl⟩ ?_
 repeat (go_big_quiet_step ((go_at_call 101; exact Calls.later_eq (Makes.of_same (WordGrow_zero p n _ hp hp2)) HV.out)))
 refine wpQuiet_nil ?_
 rintro _ ⟨u1, rfl⟩
 go_wp2_with (go_at_call 74; refine (Calls.later (u := u1) (l2Word_calls _ _)).mono ?_; rintro e w' ⟨rfl, u2, rfl⟩)
 exact bodyPost_ret (v := .tuple #[.agg #[.int .i64 0, .int .i64 (0)], .bool (false)]) (by simp [results, Tryz.results91, go_sem, r0, r1]) rfl (respost_none HR.out (by repeat (first | exact u2.back HB.out | exact HB.out | refine Below.setCell ?_ (by first | (simp; done) | (simp; omega)) _)))
theorem l2Result_32_a (n m ai aw bi bw ci cw xa xb xc xi xw : Int) (nm : ByteArray) (g cap : Nat) (w : World) (hcap : 1 ≤ cap) (c0 : w.cell? ⟨g, 0, none⟩ = some (.int .i64 ai)) (c1 : w.cell? ⟨g, 1, none⟩ = some (.int .i64 aw)) (ha : 0 < ai) :
 Calls Tryz.prog 91 #[.agg #[.int .i64 32, .int .i64 xa, .int .i64 xb, .int .i64 xc, .int .i64 n, .int .i64 m, .int .i64 xi, .int .i64 xw, .string nm], .slice (some ⟨g, 0, none⟩) 1 cap] w (ResPost (resN 32 n m ai aw bi bw ci cw) w) := by
 have HR := Lib.hid (show resN 32 n m ai aw bi bw ci cw = none by unfold resN; rw [if_neg (by omega), if_neg (by omega), if_neg (by omega), if_neg (by omega)]; rw [if_pos (Or.inl (by omega))])
 go_enter Tryz.func91, Tryz.ntmps91
 go_wp2
 obtain ⟨w2, hw2, HB, b0, b4, b5, r0, r1, f0, f1⟩ := res_world 32 n m xa xb xc xi xw nm w
 rw [hw2]
 clear hw2
 have c0 := back_cell c0 HB.out
 have c1 := back_cell c1 HB.out
 refine at_world (w := w2) ?_
 intro u0
 refine wp_loop_rounds 2 ?_
 rw [rounds_succ]
 go_wp2
 exact bodyPost_ret (v := .tuple #[.agg #[.int .i64 0, .int .i64 (0)], .bool (false)]) (by simp [results, Tryz.results91, go_sem, r0, r1]) rfl (respost_none HR.out (by repeat (first | exact u0.back HB.out | exact HB.out | refine Below.setCell ?_ (by first | (simp; done) | (simp; omega)) _)))
theorem l2Result_32_c (n m bi bw ci cw xa xb xc xi xw : Int) (nm : ByteArray) (p g cap : Nat) (w : World) (hcap : 1 ≤ cap)  (hp : 1 ≤ p) (hp2 : p ≤ 16) (h : 0 ≤ n ∧ n ≤ 16 - p) (c0 : w.cell? ⟨g, 0, none⟩ = some (.int .i64 0)) (c1 : w.cell? ⟨g, 1, none⟩ = some (.int .i64 p)) :
 Calls Tryz.prog 91 #[.agg #[.int .i64 32, .int .i64 xa, .int .i64 xb, .int .i64 xc, .int .i64 n, .int .i64 m, .int .i64 xi, .int .i64 xw, .string nm], .slice (some ⟨g, 0, none⟩) 1 cap] w (ResPost (resN 32 n m 0 p 0 bw ci cw) w) := by
 have HR := Lib.hid (show resN 32 n m 0 p 0 bw ci cw = some (0, p + n) by
  unfold resN; rw [if_neg (by omega), if_neg (by omega), if_neg (by omega), if_neg (by omega)]; rw [if_neg (by simp)]
  rw [if_neg (by omega), if_neg (by omega), if_pos (by simp)]; simp [h])
 have HV := Lib.hid (show Value.tuple #[.int .i64 0, .int .i64 (if 0 ≤ n ∧ n ≤ 16 - p then p + n else 0), .bool (decide (0 ≤ n ∧ n ≤ 16 - p))] = Value.tuple #[.int .i64 0, .int .i64 (p + n), .bool true] by rw [if_pos h, decide_eq_true h])
 go_enter Tryz.func91, Tryz.ntmps91
 go_wp2
 obtain ⟨w2, hw2, HB, b0, b4, b5, r0, r1, f0, f1⟩ := res_world 32 n m xa xb xc xi xw nm w
 rw [hw2]
 clear hw2
 have c0 := back_cell c0 HB.out
 have c1 := back_cell c1 HB.out
 refine at_world (w := w2) ?_
 intro u0
 refine wp_loop_rounds 2 ?_
 rw [rounds_succ]
 go_wp2
 rw [rounds_succ]
 go_wp2
 refine wp_region_later (w0 := w2) (by kernel_rfl) (by kernel_rfl) ⟨u0, rfl⟩ ?_
 repeat (go_big_quiet_step ((go_at_call 101; exact Calls.later_eq (Makes.of_same (WordGrow_zero p n _ hp hp2)) HV.out)))
 refine wpQuiet_nil ?_
 rintro _ ⟨u1, rfl⟩
 go_wp2_with (go_at_call 74; refine (Calls.later (u := u1) (l2Word_calls _ _)).mono ?_; rintro e w' ⟨rfl, u2, rfl⟩)
 exact bodyPost_ret (v := .tuple #[.agg #[.int .i64 0, .int .i64 (p + n)], .bool (true)]) (by simp [results, Tryz.results91, go_sem, r0, r1]) rfl (respost_some HR.out (by repeat (first | exact u2.back HB.out | exact HB.out | refine Below.setCell ?_ (by first | (simp; done) | (simp; omega)) _)))
theorem l2Result_32_d (n m bi bw ci cw xa xb xc xi xw : Int) (nm : ByteArray) (p g cap : Nat) (w : World) (hcap : 1 ≤ cap)  (hp : 1 ≤ p) (hp2 : p ≤ 16) (h : ¬ (0 ≤ n ∧ n ≤ 16 - p)) (c0 : w.cell? ⟨g, 0, none⟩ = some (.int .i64 0)) (c1 : w.cell? ⟨g, 1, none⟩ = some (.int .i64 p)) :
 Calls Tryz.prog 91 #[.agg #[.int .i64 32, .int .i64 xa, .int .i64 xb, .int .i64 xc, .int .i64 n, .int .i64 m, .int .i64 xi, .int .i64 xw, .string nm], .slice (some ⟨g, 0, none⟩) 1 cap] w (ResPost (resN 32 n m 0 p 0 bw ci cw) w) := by
 have HR := Lib.hid (show resN 32 n m 0 p 0 bw ci cw = none by
  unfold resN; rw [if_neg (by omega), if_neg (by omega), if_neg (by omega), if_neg (by omega)]; rw [if_neg (by simp)]
  rw [if_neg (by omega), if_neg (by omega), if_pos (by simp)]; simp [h])
 have HV := Lib.hid (show Value.tuple #[.int .i64 0, .int .i64 (if 0 ≤ n ∧ n ≤ 16 - p then p + n else 0), .bool (decide (0 ≤ n ∧ n ≤ 16 - p))] = Value.tuple #[.int .i64 0, .int .i64 (0), .bool false] by rw [if_neg h, decide_eq_false h])
 go_enter Tryz.func91, Tryz.ntmps91
 go_wp2
 obtain ⟨w2, hw2, HB, b0, b4, b5, r0, r1, f0, f1⟩ := res_world 32 n m xa xb xc xi xw nm w
 rw [hw2]
 clear hw2
 have c0 := back_cell c0 HB.out
 have c1 := back_cell c1 HB.out
 refine at_world (w := w2) ?_
 intro u0
 refine wp_loop_rounds 2 ?_
 rw [rounds_succ]
 go_wp2
 rw [rounds_succ]
 go_wp2
 refine wp_region_later (w0 := w2) (by kernel_rfl) (by kernel_rfl) ⟨u0, rfl⟩ ?_
 repeat (go_big_quiet_step ((go_at_call 101; exact Calls.later_eq (Makes.of_same (WordGrow_zero p n _ hp hp2)) HV.out)))
 refine wpQuiet_nil ?_
 rintro _ ⟨u1, rfl⟩
 go_wp2_with (go_at_call 74; refine (Calls.later (u := u1) (l2Word_calls _ _)).mono ?_; rintro e w' ⟨rfl, u2, rfl⟩)
 exact bodyPost_ret (v := .tuple #[.agg #[.int .i64 0, .int .i64 (0)], .bool (false)]) (by simp [results, Tryz.results91, go_sem, r0, r1]) rfl (respost_none HR.out (by repeat (first | exact u2.back HB.out | exact HB.out | refine Below.setCell ?_ (by first | (simp; done) | (simp; omega)) _)))
end Go.Proofs.YtdojaijnejcoiaaGreat
namespace Go.Proofs.YtdojaijnejcoiaaGreat
open Go.RowKit
attribute [local go_sem high] eq_sort
theorem l2Result_one_a (kind n m ai aw bi bw ci cw xa xb xc xi xw : Int) (nm : ByteArray) (g cap : Nat) (w : World) (hcap : 1 ≤ cap) (hk : 1 ≤ kind ∧ kind ≤ 5) (c0 : w.cell? ⟨g, 0, none⟩ = some (.int .i64 ai)) (c1 : w.cell? ⟨g, 1, none⟩ = some (.int .i64 aw)) (ha : 0 < ai) :
 Calls Tryz.prog 91 #[.agg #[.int .i64 kind, .int .i64 xa, .int .i64 xb, .int .i64 xc, .int .i64 n, .int .i64 m, .int .i64 xi, .int .i64 xw, .string nm], .slice (some ⟨g, 0, none⟩) 1 cap] w (ResPost (resN kind n m ai aw bi bw ci cw) w) := by
 have HR := Lib.hid (show resN kind n m ai aw bi bw ci cw = none by unfold resN; rw [if_neg (by omega), if_neg (by omega), if_neg (by omega), if_neg (by omega)]; rw [if_pos (Or.inl (by omega))])
 have k33 : (kind == 33) = false := beq_eq_false_iff_ne.2 (by omega)
 have k37 : (kind == 37) = false := beq_eq_false_iff_ne.2 (by omega)
 have k38 : (kind == 38) = false := beq_eq_false_iff_ne.2 (by omega)
 have k21 : (kind == 21) = false := beq_eq_false_iff_ne.2 (by omega)
 have k29 : (kind == 29) = false := beq_eq_false_iff_ne.2 (by omega)
 have k30 : (kind == 30) = false := beq_eq_false_iff_ne.2 (by omega)
 have k31 : (kind == 31) = false := beq_eq_false_iff_ne.2 (by omega)
 have k32 : (kind == 32) = false := beq_eq_false_iff_ne.2 (by omega)
 clear hk
 go_enter Tryz.func91, Tryz.ntmps91
 go_wp2
 obtain ⟨w2, hw2, HB, b0, b4, b5, r0, r1, f0, f1⟩ := res_world kind n m xa xb xc xi xw nm w
 rw [hw2]
 clear hw2
 have c0 := back_cell c0 HB.out
 have c1 := back_cell c1 HB.out
 refine at_world (w := w2) ?_
 intro u0
 refine wp_loop_rounds 2 ?_
 rw [rounds_succ]
 go_wp2
 exact bodyPost_ret (v := .tuple #[.agg #[.int .i64 0, .int .i64 (0)], .bool (false)]) (by simp [results, Tryz.results91, go_sem, r0, r1]) rfl (respost_none HR.out (by repeat (first | exact u0.back HB.out | exact HB.out | refine Below.setCell ?_ (by first | (simp; done) | (simp; omega)) _)))
theorem l2Result_one_c (kind n m bi bw ci cw xa xb xc xi xw : Int) (nm : ByteArray) (p g cap : Nat) (w : World) (hcap : 1 ≤ cap) (hk : 1 ≤ kind ∧ kind ≤ 5)  (hp : 1 ≤ p) (hp2 : p ≤ 16) (h : kind ≤ 2) (c0 : w.cell? ⟨g, 0, none⟩ = some (.int .i64 0)) (c1 : w.cell? ⟨g, 1, none⟩ = some (.int .i64 p)) :
 Calls Tryz.prog 91 #[.agg #[.int .i64 kind, .int .i64 xa, .int .i64 xb, .int .i64 xc, .int .i64 n, .int .i64 m, .int .i64 xi, .int .i64 xw, .string nm], .slice (some ⟨g, 0, none⟩) 1 cap] w (ResPost (resN kind n m 0 p 0 bw ci cw) w) := by
 have HR := Lib.hid (show resN kind n m 0 p 0 bw ci cw = some (0, (p : Int)) by
  unfold resN; rw [if_neg (by omega), if_neg (by omega), if_neg (by omega), if_neg (by omega)]; rw [if_neg (by simp)]
  rw [if_neg (by omega), if_neg (by omega), if_neg (by omega)]; rw [if_pos h])
 obtain ⟨vv, hvv⟩ : ∃ v : Int, v = (if kind = 1 then 2 ^ p - 1 else 0) := ⟨_, rfl⟩
 have HV := Lib.hid (show Value.tuple #[.int .i64 (if kind = 1 then 2 ^ p - 1 else 0), .int .i64 (if kind ≤ 2 then (p : Int) else 1), .bool true] = Value.tuple #[.int .i64 vv, .int .i64 p, .bool true] by rw [if_pos h, hvv])
 have HK := Lib.hid hk
 clear hvv
 have k33 : (kind == 33) = false := beq_eq_false_iff_ne.2 (by omega)
 have k37 : (kind == 37) = false := beq_eq_false_iff_ne.2 (by omega)
 have k38 : (kind == 38) = false := beq_eq_false_iff_ne.2 (by omega)
 have k21 : (kind == 21) = false := beq_eq_false_iff_ne.2 (by omega)
 have k29 : (kind == 29) = false := beq_eq_false_iff_ne.2 (by omega)
 have k30 : (kind == 30) = false := beq_eq_false_iff_ne.2 (by omega)
 have k31 : (kind == 31) = false := beq_eq_false_iff_ne.2 (by omega)
 have k32 : (kind == 32) = false := beq_eq_false_iff_ne.2 (by omega)
 clear hk
 go_enter Tryz.func91, Tryz.ntmps91
 go_wp2
 obtain ⟨w2, hw2, HB, b0, b4, b5, r0, r1, f0, f1⟩ := res_world kind n m xa xb xc xi xw nm w
 rw [hw2]
 clear hw2
 have c0 := back_cell c0 HB.out
 have c1 := back_cell c1 HB.out
 refine at_world (w := w2) ?_
 intro u0
 refine wp_loop_rounds 2 ?_
 rw [rounds_succ]
 go_wp2
 rw [rounds_succ]
 go_wp2
 refine wp_region_later (w0 := w2) (by kernel_rfl) (by kernel_rfl) ⟨u0, rfl⟩ ?_
 repeat (go_big_quiet_step ((go_at_call 102; exact Calls.later_eq (Makes.of_same (WordOne_zero kind p _ hp hp2 (by have := HK.out; omega))) HV.out)))
 refine wpQuiet_nil ?_
 rintro _ ⟨u1, rfl⟩
 go_wp2_with (go_at_call 74; refine (Calls.later (u := u1) (l2Word_calls _ _)).mono ?_; rintro e w' ⟨rfl, u2, rfl⟩)
 exact bodyPost_ret (v := .tuple #[.agg #[.int .i64 0, .int .i64 ((p : Int))], .bool (true)]) (by simp [results, Tryz.results91, go_sem, r0, r1]) rfl (respost_some HR.out (by repeat (first | exact u2.back HB.out | exact HB.out | refine Below.setCell ?_ (by first | (simp; done) | (simp; omega)) _)))
theorem l2Result_one_d (kind n m bi bw ci cw xa xb xc xi xw : Int) (nm : ByteArray) (p g cap : Nat) (w : World) (hcap : 1 ≤ cap) (hk : 1 ≤ kind ∧ kind ≤ 5)  (hp : 1 ≤ p) (hp2 : p ≤ 16) (h : ¬ kind ≤ 2) (c0 : w.cell? ⟨g, 0, none⟩ = some (.int .i64 0)) (c1 : w.cell? ⟨g, 1, none⟩ = some (.int .i64 p)) :
 Calls Tryz.prog 91 #[.agg #[.int .i64 kind, .int .i64 xa, .int .i64 xb, .int .i64 xc, .int .i64 n, .int .i64 m, .int .i64 xi, .int .i64 xw, .string nm], .slice (some ⟨g, 0, none⟩) 1 cap] w (ResPost (resN kind n m 0 p 0 bw ci cw) w) := by
 have HR := Lib.hid (show resN kind n m 0 p 0 bw ci cw = some (0, 1) by
  unfold resN; rw [if_neg (by omega), if_neg (by omega), if_neg (by omega), if_neg (by omega)]; rw [if_neg (by simp)]
  rw [if_neg (by omega), if_neg (by omega), if_neg (by omega)]; rw [if_neg h, if_pos hk.2])
 obtain ⟨vv, hvv⟩ : ∃ v : Int, v = (if kind = 1 then 2 ^ p - 1 else 0) := ⟨_, rfl⟩
 have HV := Lib.hid (show Value.tuple #[.int .i64 (if kind = 1 then 2 ^ p - 1 else 0), .int .i64 (if kind ≤ 2 then (p : Int) else 1), .bool true] = Value.tuple #[.int .i64 vv, .int .i64 1, .bool true] by rw [if_neg h, hvv])
 have HK := Lib.hid hk
 clear hvv
 have k33 : (kind == 33) = false := beq_eq_false_iff_ne.2 (by omega)
 have k37 : (kind == 37) = false := beq_eq_false_iff_ne.2 (by omega)
 have k38 : (kind == 38) = false := beq_eq_false_iff_ne.2 (by omega)
 have k21 : (kind == 21) = false := beq_eq_false_iff_ne.2 (by omega)
 have k29 : (kind == 29) = false := beq_eq_false_iff_ne.2 (by omega)
 have k30 : (kind == 30) = false := beq_eq_false_iff_ne.2 (by omega)
 have k31 : (kind == 31) = false := beq_eq_false_iff_ne.2 (by omega)
 have k32 : (kind == 32) = false := beq_eq_false_iff_ne.2 (by omega)
 clear hk
 go_enter Tryz.func91, Tryz.ntmps91
 go_wp2
 obtain ⟨w2, hw2, HB, b0, b4, b5, r0, r1, f0, f1⟩ := res_world kind n m xa xb xc xi xw nm w
 rw [hw2]
 clear hw2
 have c0 := back_cell c0 HB.out
 have c1 := back_cell c1 HB.out
 refine at_world (w := w2) ?_
 intro u0
 refine wp_loop_rounds 2 ?_
 rw [rounds_succ]
 go_wp2
 rw [rounds_succ]
 go_wp2
 refine wp_region_later (w0 := w2) (by kernel_rfl) (by kernel_rfl) ⟨u0, rfl⟩ ?_
 repeat (go_big_quiet_step ((go_at_call 102; exact Calls.later_eq (Makes.of_same (WordOne_zero kind p _ hp hp2 (by have := HK.out; omega))) HV.out)))
 refine wpQuiet_nil ?_
 rintro _ ⟨u1, rfl⟩
 go_wp2_with (go_at_call 74; refine (Calls.later (u := u1) (l2Word_calls _ _)).mono ?_; rintro e w' ⟨rfl, u2, rfl⟩)
 exact bodyPost_ret (v := .tuple #[.agg #[.int .i64 0, .int .i64 (1)], .bool (true)]) (by simp [results, Tryz.results91, go_sem, r0, r1]) rfl (respost_some HR.out (by repeat (first | exact u2.back HB.out | exact HB.out | refine Below.setCell ?_ (by first | (simp; done) | (simp; omega)) _)))
theorem l2Result_two_a (kind n m ai aw bi bw ci cw xa xb xc xi xw : Int) (nm : ByteArray) (g cap : Nat) (w : World) (hcap : 2 ≤ cap) (hk : 6 ≤ kind ∧ kind ≤ 28 ∧ kind ≠ 21) (c0 : w.cell? ⟨g, 0, none⟩ = some (.int .i64 ai)) (c1 : w.cell? ⟨g, 1, none⟩ = some (.int .i64 aw)) (c2 : w.cell? ⟨g, 2, none⟩ = some (.int .i64 bi)) (c3 : w.cell? ⟨g, 3, none⟩ = some (.int .i64 bw)) (ha : 0 < ai) :
 Calls Tryz.prog 91 #[.agg #[.int .i64 kind, .int .i64 xa, .int .i64 xb, .int .i64 xc, .int .i64 n, .int .i64 m, .int .i64 xi, .int .i64 xw, .string nm], .slice (some ⟨g, 0, none⟩) 2 cap] w (ResPost (resN kind n m ai aw bi bw ci cw) w) := by
 have HR := Lib.hid (show resN kind n m ai aw bi bw ci cw = none by unfold resN; rw [if_neg (by omega), if_neg (by omega), if_neg (by omega), if_neg (by omega)]; rw [if_pos (Or.inl (by omega))])
 have k33 : (kind == 33) = false := beq_eq_false_iff_ne.2 (by omega)
 have k37 : (kind == 37) = false := beq_eq_false_iff_ne.2 (by omega)
 have k38 : (kind == 38) = false := beq_eq_false_iff_ne.2 (by omega)
 have k21 : (kind == 21) = false := beq_eq_false_iff_ne.2 (by omega)
 have k29 : (kind == 29) = false := beq_eq_false_iff_ne.2 (by omega)
 have k30 : (kind == 30) = false := beq_eq_false_iff_ne.2 (by omega)
 have k31 : (kind == 31) = false := beq_eq_false_iff_ne.2 (by omega)
 have k32 : (kind == 32) = false := beq_eq_false_iff_ne.2 (by omega)
 clear hk
 go_enter Tryz.func91, Tryz.ntmps91
 go_wp2
 obtain ⟨w2, hw2, HB, b0, b4, b5, r0, r1, f0, f1⟩ := res_world kind n m xa xb xc xi xw nm w
 rw [hw2]
 clear hw2
 have c0 := back_cell c0 HB.out
 have c1 := back_cell c1 HB.out
 have c2 := back_cell c2 HB.out
 have c3 := back_cell c3 HB.out
 refine at_world (w := w2) ?_
 intro u0
 refine wp_loop_rounds 3 ?_
 rw [rounds_succ]
 go_wp2
 exact bodyPost_ret (v := .tuple #[.agg #[.int .i64 0, .int .i64 (0)], .bool (false)]) (by simp [results, Tryz.results91, go_sem, r0, r1]) rfl (respost_none HR.out (by repeat (first | exact u0.back HB.out | exact HB.out | refine Below.setCell ?_ (by first | (simp; done) | (simp; omega)) _)))
theorem l2Result_two_b (kind n m ai aw bi bw ci cw xa xb xc xi xw : Int) (nm : ByteArray) (g cap : Nat) (w : World) (hcap : 2 ≤ cap) (hk : 6 ≤ kind ∧ kind ≤ 28 ∧ kind ≠ 21) (c0 : w.cell? ⟨g, 0, none⟩ = some (.int .i64 ai)) (c1 : w.cell? ⟨g, 1, none⟩ = some (.int .i64 aw)) (c2 : w.cell? ⟨g, 2, none⟩ = some (.int .i64 bi)) (c3 : w.cell? ⟨g, 3, none⟩ = some (.int .i64 bw)) (ha : ai = 0) (hb : 0 < bi) :
 Calls Tryz.prog 91 #[.agg #[.int .i64 kind, .int .i64 xa, .int .i64 xb, .int .i64 xc, .int .i64 n, .int .i64 m, .int .i64 xi, .int .i64 xw, .string nm], .slice (some ⟨g, 0, none⟩) 2 cap] w (ResPost (resN kind n m ai aw bi bw ci cw) w) := by
 subst ha
 have HR := Lib.hid (show resN kind n m 0 aw bi bw ci cw = none by unfold resN; rw [if_neg (by omega), if_neg (by omega), if_neg (by omega), if_neg (by omega)]; rw [if_pos (Or.inr (by omega))])
 have k33 : (kind == 33) = false := beq_eq_false_iff_ne.2 (by omega)
 have k37 : (kind == 37) = false := beq_eq_false_iff_ne.2 (by omega)
 have k38 : (kind == 38) = false := beq_eq_false_iff_ne.2 (by omega)
 have k21 : (kind == 21) = false := beq_eq_false_iff_ne.2 (by omega)
 have k29 : (kind == 29) = false := beq_eq_false_iff_ne.2 (by omega)
 have k30 : (kind == 30) = false := beq_eq_false_iff_ne.2 (by omega)
 have k31 : (kind == 31) = false := beq_eq_false_iff_ne.2 (by omega)
 have k32 : (kind == 32) = false := beq_eq_false_iff_ne.2 (by omega)
 clear hk
 go_enter Tryz.func91, Tryz.ntmps91
 go_wp2
 obtain ⟨w2, hw2, HB, b0, b4, b5, r0, r1, f0, f1⟩ := res_world kind n m xa xb xc xi xw nm w
 rw [hw2]
 clear hw2
 have c0 := back_cell c0 HB.out
 have c1 := back_cell c1 HB.out
 have c2 := back_cell c2 HB.out
 have c3 := back_cell c3 HB.out
 refine at_world (w := w2) ?_
 intro u0
 refine wp_loop_rounds 3 ?_
 rw [rounds_succ]
 go_wp2
 rw [rounds_succ]
 go_wp2
 exact bodyPost_ret (v := .tuple #[.agg #[.int .i64 0, .int .i64 (0)], .bool (false)]) (by simp [results, Tryz.results91, go_sem, r0, r1]) rfl (respost_none HR.out (by repeat (first | exact u0.back HB.out | exact HB.out | refine Below.setCell ?_ (by first | (simp; done) | (simp; omega)) _)))
theorem l2Result_two_c (kind n m ci cw xa xb xc xi xw : Int) (nm : ByteArray) (p q g cap : Nat) (w : World) (hcap : 2 ≤ cap) (hk : 6 ≤ kind ∧ kind ≤ 28 ∧ kind ≠ 21)  (hp : 1 ≤ p) (hp2 : p ≤ 16) (hq : 1 ≤ q) (hq2 : q ≤ 16) (hpq : p = q) (h : kind ≤ 20) (c0 : w.cell? ⟨g, 0, none⟩ = some (.int .i64 0)) (c1 : w.cell? ⟨g, 1, none⟩ = some (.int .i64 p)) (c2 : w.cell? ⟨g, 2, none⟩ = some (.int .i64 0)) (c3 : w.cell? ⟨g, 3, none⟩ = some (.int .i64 q)) :
 Calls Tryz.prog 91 #[.agg #[.int .i64 kind, .int .i64 xa, .int .i64 xb, .int .i64 xc, .int .i64 n, .int .i64 m, .int .i64 xi, .int .i64 xw, .string nm], .slice (some ⟨g, 0, none⟩) 2 cap] w (ResPost (resN kind n m 0 p 0 q ci cw) w) := by
 subst hpq
 have HR := Lib.hid (show resN kind n m 0 p 0 p ci cw = some (0, (p : Int)) by
  unfold resN; rw [if_neg (by omega), if_neg (by omega), if_neg (by omega), if_neg (by omega)]; rw [if_neg (by simp)]
  rw [if_neg (by omega), if_neg (by omega), if_neg (by omega), if_neg (by omega), if_neg (by omega)]; rw [if_pos rfl, if_pos h])
 have HV := Lib.hid (show Value.tuple #[.int .i64 (twoV kind p), .int .i64 (if kind ≤ 20 then (p : Int) else 1), .bool true] = Value.tuple #[.int .i64 (twoV kind p), .int .i64 p, .bool true] by rw [if_pos h])
 have HK := Lib.hid hk
 have k33 : (kind == 33) = false := beq_eq_false_iff_ne.2 (by omega)
 have k37 : (kind == 37) = false := beq_eq_false_iff_ne.2 (by omega)
 have k38 : (kind == 38) = false := beq_eq_false_iff_ne.2 (by omega)
 have k21 : (kind == 21) = false := beq_eq_false_iff_ne.2 (by omega)
 have k29 : (kind == 29) = false := beq_eq_false_iff_ne.2 (by omega)
 have k30 : (kind == 30) = false := beq_eq_false_iff_ne.2 (by omega)
 have k31 : (kind == 31) = false := beq_eq_false_iff_ne.2 (by omega)
 have k32 : (kind == 32) = false := beq_eq_false_iff_ne.2 (by omega)
 clear hk
 go_enter Tryz.func91, Tryz.ntmps91
 go_wp2
 obtain ⟨w2, hw2, HB, b0, b4, b5, r0, r1, f0, f1⟩ := res_world kind n m xa xb xc xi xw nm w
 rw [hw2]
 clear hw2
 have c0 := back_cell c0 HB.out
 have c1 := back_cell c1 HB.out
 have c2 := back_cell c2 HB.out
 have c3 := back_cell c3 HB.out
 refine at_world (w := w2) ?_
 intro u0
 refine wp_loop_rounds 3 ?_
 rw [rounds_succ]
 go_wp2
 rw [rounds_succ]
 go_wp2
 rw [rounds_succ]
 go_wp2
 refine wp_region_later (w0 := w2) (by kernel_rfl) (by kernel_rfl) ⟨u0, rfl⟩ ?_
 repeat (go_big_quiet_step (fail))
 refine wpQuiet_nil ?_
 rintro _ ⟨u1, rfl⟩
 go_wp2
 refine wp_region_later (w0 := w2) (by kernel_rfl) (by kernel_rfl) ⟨_, rfl⟩ ?_
 repeat (go_big_quiet_step ((go_at_call 103; exact Calls.later_eq (WordTwo_zero kind p _ hp hp2 (by have := HK.out; omega) (by have := HK.out; omega)) HV.out)))
 refine wpQuiet_nil ?_
 rintro _ ⟨u1, rfl⟩
 go_wp2_with (go_at_call 74; refine (Calls.later (u := u1) (l2Word_calls _ _)).mono ?_; rintro e w' ⟨rfl, u2, rfl⟩)
 exact bodyPost_ret (v := .tuple #[.agg #[.int .i64 0, .int .i64 ((p : Int))], .bool (true)]) (by simp [results, Tryz.results91, go_sem, r0, r1]) rfl (respost_some HR.out (by repeat (first | exact u2.back HB.out | exact HB.out | refine Below.setCell ?_ (by first | (simp; done) | (simp; omega)) _)))
theorem l2Result_two_d (kind n m ci cw xa xb xc xi xw : Int) (nm : ByteArray) (p q g cap : Nat) (w : World) (hcap : 2 ≤ cap) (hk : 6 ≤ kind ∧ kind ≤ 28 ∧ kind ≠ 21)  (hp : 1 ≤ p) (hp2 : p ≤ 16) (hq : 1 ≤ q) (hq2 : q ≤ 16) (hpq : p = q) (h : ¬ kind ≤ 20) (c0 : w.cell? ⟨g, 0, none⟩ = some (.int .i64 0)) (c1 : w.cell? ⟨g, 1, none⟩ = some (.int .i64 p)) (c2 : w.cell? ⟨g, 2, none⟩ = some (.int .i64 0)) (c3 : w.cell? ⟨g, 3, none⟩ = some (.int .i64 q)) :
 Calls Tryz.prog 91 #[.agg #[.int .i64 kind, .int .i64 xa, .int .i64 xb, .int .i64 xc, .int .i64 n, .int .i64 m, .int .i64 xi, .int .i64 xw, .string nm], .slice (some ⟨g, 0, none⟩) 2 cap] w (ResPost (resN kind n m 0 p 0 q ci cw) w) := by
 subst hpq
 have HR := Lib.hid (show resN kind n m 0 p 0 p ci cw = some (0, 1) by
  unfold resN; rw [if_neg (by omega), if_neg (by omega), if_neg (by omega), if_neg (by omega)]; rw [if_neg (by simp)]
  rw [if_neg (by omega), if_neg (by omega), if_neg (by omega), if_neg (by omega), if_neg (by omega)]; rw [if_pos rfl, if_neg h])
 have HV := Lib.hid (show Value.tuple #[.int .i64 (twoV kind p), .int .i64 (if kind ≤ 20 then (p : Int) else 1), .bool true] = Value.tuple #[.int .i64 (twoV kind p), .int .i64 1, .bool true] by rw [if_neg h])
 have HK := Lib.hid hk
 have k33 : (kind == 33) = false := beq_eq_false_iff_ne.2 (by omega)
 have k37 : (kind == 37) = false := beq_eq_false_iff_ne.2 (by omega)
 have k38 : (kind == 38) = false := beq_eq_false_iff_ne.2 (by omega)
 have k21 : (kind == 21) = false := beq_eq_false_iff_ne.2 (by omega)
 have k29 : (kind == 29) = false := beq_eq_false_iff_ne.2 (by omega)
 have k30 : (kind == 30) = false := beq_eq_false_iff_ne.2 (by omega)
 have k31 : (kind == 31) = false := beq_eq_false_iff_ne.2 (by omega)
 have k32 : (kind == 32) = false := beq_eq_false_iff_ne.2 (by omega)
 clear hk
 go_enter Tryz.func91, Tryz.ntmps91
 go_wp2
 obtain ⟨w2, hw2, HB, b0, b4, b5, r0, r1, f0, f1⟩ := res_world kind n m xa xb xc xi xw nm w
 rw [hw2]
 clear hw2
 have c0 := back_cell c0 HB.out
 have c1 := back_cell c1 HB.out
 have c2 := back_cell c2 HB.out
 have c3 := back_cell c3 HB.out
 refine at_world (w := w2) ?_
 intro u0
 refine wp_loop_rounds 3 ?_
 rw [rounds_succ]
 go_wp2
 rw [rounds_succ]
 go_wp2
 rw [rounds_succ]
 go_wp2
 refine wp_region_later (w0 := w2) (by kernel_rfl) (by kernel_rfl) ⟨u0, rfl⟩ ?_
 repeat (go_big_quiet_step (fail))
 refine wpQuiet_nil ?_
 rintro _ ⟨u1, rfl⟩
 go_wp2
 refine wp_region_later (w0 := w2) (by kernel_rfl) (by kernel_rfl) ⟨_, rfl⟩ ?_
 repeat (go_big_quiet_step ((go_at_call 103; exact Calls.later_eq (WordTwo_zero kind p _ hp hp2 (by have := HK.out; omega) (by have := HK.out; omega)) HV.out)))
 refine wpQuiet_nil ?_
 rintro _ ⟨u1, rfl⟩
 go_wp2_with (go_at_call 74; refine (Calls.later (u := u1) (l2Word_calls _ _)).mono ?_; rintro e w' ⟨rfl, u2, rfl⟩)
 exact bodyPost_ret (v := .tuple #[.agg #[.int .i64 0, .int .i64 (1)], .bool (true)]) (by simp [results, Tryz.results91, go_sem, r0, r1]) rfl (respost_some HR.out (by repeat (first | exact u2.back HB.out | exact HB.out | refine Below.setCell ?_ (by first | (simp; done) | (simp; omega)) _)))
theorem l2Result_two_e (kind n m ci cw xa xb xc xi xw : Int) (nm : ByteArray) (p q g cap : Nat) (w : World) (hcap : 2 ≤ cap) (hk : 6 ≤ kind ∧ kind ≤ 28 ∧ kind ≠ 21)  (hp : 1 ≤ p) (hp2 : p ≤ 16) (hq : 1 ≤ q) (hq2 : q ≤ 16) (hpq : ¬ p = q) (c0 : w.cell? ⟨g, 0, none⟩ = some (.int .i64 0)) (c1 : w.cell? ⟨g, 1, none⟩ = some (.int .i64 p)) (c2 : w.cell? ⟨g, 2, none⟩ = some (.int .i64 0)) (c3 : w.cell? ⟨g, 3, none⟩ = some (.int .i64 q)) :
 Calls Tryz.prog 91 #[.agg #[.int .i64 kind, .int .i64 xa, .int .i64 xb, .int .i64 xc, .int .i64 n, .int .i64 m, .int .i64 xi, .int .i64 xw, .string nm], .slice (some ⟨g, 0, none⟩) 2 cap] w (ResPost (resN kind n m 0 p 0 q ci cw) w) := by
 have HR := Lib.hid (show resN kind n m 0 p 0 q ci cw = none by
  unfold resN; rw [if_neg (by omega), if_neg (by omega), if_neg (by omega), if_neg (by omega)]; rw [if_neg (by simp)]
  rw [if_neg (by omega), if_neg (by omega), if_neg (by omega), if_neg (by omega), if_neg (by omega)]; rw [if_neg (by omega)])
 have k33 : (kind == 33) = false := beq_eq_false_iff_ne.2 (by omega)
 have k37 : (kind == 37) = false := beq_eq_false_iff_ne.2 (by omega)
 have k38 : (kind == 38) = false := beq_eq_false_iff_ne.2 (by omega)
 have k21 : (kind == 21) = false := beq_eq_false_iff_ne.2 (by omega)
 have k29 : (kind == 29) = false := beq_eq_false_iff_ne.2 (by omega)
 have k30 : (kind == 30) = false := beq_eq_false_iff_ne.2 (by omega)
 have k31 : (kind == 31) = false := beq_eq_false_iff_ne.2 (by omega)
 have k32 : (kind == 32) = false := beq_eq_false_iff_ne.2 (by omega)
 have hne : ((p : Int) == (q : Int)) = false := beq_eq_false_iff_ne.2 (by omega)
 have hne2 : ¬ (p : Int) = (q : Int) := by omega
 clear hk
 go_enter Tryz.func91, Tryz.ntmps91
 go_wp2
 obtain ⟨w2, hw2, HB, b0, b4, b5, r0, r1, f0, f1⟩ := res_world kind n m xa xb xc xi xw nm w
 rw [hw2]
 clear hw2
 have c0 := back_cell c0 HB.out
 have c1 := back_cell c1 HB.out
 have c2 := back_cell c2 HB.out
 have c3 := back_cell c3 HB.out
 refine at_world (w := w2) ?_
 intro u0
 refine wp_loop_rounds 3 ?_
 rw [rounds_succ]
 go_wp2
 rw [rounds_succ]
 go_wp2
 rw [rounds_succ]
 go_wp2
 refine wp_region_later (w0 := w2) (by kernel_rfl) (by kernel_rfl) ⟨u0, rfl⟩ ?_
 repeat (go_big_quiet_step (fail))
 refine wpQuiet_nil ?_
 rintro _ ⟨u1, rfl⟩
 go_wp2_with (go_at_call 74; refine (Calls.later (u := u1) (l2Word_calls _ _)).mono ?_; rintro e w' ⟨rfl, u2, rfl⟩)
 exact bodyPost_ret (v := .tuple #[.agg #[.int .i64 0, .int .i64 (0)], .bool (false)]) (by simp [results, Tryz.results91, go_sem, r0, r1]) rfl (respost_none HR.out (by repeat (first | exact u2.back HB.out | exact HB.out | refine Below.setCell ?_ (by first | (simp; done) | (simp; omega)) _)))
end Go.Proofs.YtdojaijnejcoiaaGreat
namespace Go.Proofs.YtdojaijnejcoiaaGreat
open Go.RowKit
structure Sok (i a : Int) : Prop where
 i0 : 0 ≤ i
 a1 : 1 ≤ a
 a16 : a ≤ 16
theorem sok_of {i a : Int} (h : sokB i a = true) : Sok i a := by
 have := sokB_yes h
 exact ⟨by omega, by omega, by omega⟩
theorem kinds1 {k : Int} (h : partsN k = 1) : (1 ≤ k ∧ k ≤ 5) ∨ k = 30 ∨ k = 31 ∨ k = 32 := by
 unfold partsN at h
 split at h
 · omega
 · split at h
   · omega
   · split at h
     · omega
     · split at h <;> omega
theorem kinds2 {k : Int} (h : partsN k = 2) : (6 ≤ k ∧ k ≤ 28 ∧ k ≠ 21) ∨ k = 21 ∨ k = 29 ∨ k = 37 := by
 unfold partsN at h
 split at h
 · omega
 · split at h
   · omega
   · split at h
     · omega
     · split at h <;> omega
theorem kinds3 {k : Int} (h : partsN k = 3) : k = 33 ∨ k = 38 := by
 unfold partsN at h
 split at h
 · omega
 · split at h
   · omega
   · split at h
     · omega
     · split at h <;> omega
theorem l2Result_np1 (kind n m ai aw xa xb xc xi xw : Int) (nm : ByteArray) (g cap : Nat) (w : World) (hcap : 1 ≤ cap) (hk : partsN kind = 1) (hs : Sok ai aw)
 (c0 : w.cell? ⟨g, 0, none⟩ = some (.int .i64 ai)) (c1 : w.cell? ⟨g, 1, none⟩ = some (.int .i64 aw)) :
 Calls Tryz.prog 91 #[.agg #[.int .i64 kind, .int .i64 xa, .int .i64 xb, .int .i64 xc, .int .i64 n, .int .i64 m, .int .i64 xi, .int .i64 xw, .string nm], .slice (some ⟨g, 0, none⟩) 1 cap] w (ResPost (resN kind n m ai aw 0 0 0 0) w) := by
 obtain ⟨h0, h1, h2⟩ := hs
 have hkk := kinds1 hk
 by_cases ha : ai = 0
 · subst ha
   obtain ⟨p, rfl⟩ := Int.eq_ofNat_of_zero_le (show 0 ≤ aw by omega)
   have hp : 1 ≤ p := by omega
   have hp2 : p ≤ 16 := by omega
   rcases hkk with h | rfl | rfl | rfl
   · by_cases h3 : kind ≤ 2
     · exact l2Result_one_c kind n m 0 0 0 0 xa xb xc xi xw nm p g cap w hcap h hp hp2 h3 c0 c1
     · exact l2Result_one_d kind n m 0 0 0 0 xa xb xc xi xw nm p g cap w hcap h hp hp2 h3 c0 c1
   · by_cases h3 : 0 ≤ m ∧ m ≤ n ∧ n < p
     · exact l2Result_30_c n m 0 0 0 0 xa xb xc xi xw nm p g cap w hcap hp hp2 h3 c0 c1
     · exact l2Result_30_d n m 0 0 0 0 xa xb xc xi xw nm p g cap w hcap hp hp2 h3 c0 c1
   · by_cases h3 : 0 ≤ n ∧ n ≤ 16 - p
     · exact l2Result_31_c n m 0 0 0 0 xa xb xc xi xw nm p g cap w hcap hp hp2 h3 c0 c1
     · exact l2Result_31_d n m 0 0 0 0 xa xb xc xi xw nm p g cap w hcap hp hp2 h3 c0 c1
   · by_cases h3 : 0 ≤ n ∧ n ≤ 16 - p
     · exact l2Result_32_c n m 0 0 0 0 xa xb xc xi xw nm p g cap w hcap hp hp2 h3 c0 c1
     · exact l2Result_32_d n m 0 0 0 0 xa xb xc xi xw nm p g cap w hcap hp hp2 h3 c0 c1
 · have ha' : 0 < ai := by omega
   rcases hkk with h | rfl | rfl | rfl
   · exact l2Result_one_a kind n m ai aw 0 0 0 0 xa xb xc xi xw nm g cap w hcap h c0 c1 ha'
   · exact l2Result_30_a n m ai aw 0 0 0 0 xa xb xc xi xw nm g cap w hcap c0 c1 ha'
   · exact l2Result_31_a n m ai aw 0 0 0 0 xa xb xc xi xw nm g cap w hcap c0 c1 ha'
   · exact l2Result_32_a n m ai aw 0 0 0 0 xa xb xc xi xw nm g cap w hcap c0 c1 ha'
theorem l2Result_np2 (kind n m ai aw bi bw xa xb xc xi xw : Int) (nm : ByteArray) (g cap : Nat) (w : World) (hcap : 2 ≤ cap) (hk : partsN kind = 2) (hs : Sok ai aw) (hs2 : Sok bi bw)
 (c0 : w.cell? ⟨g, 0, none⟩ = some (.int .i64 ai)) (c1 : w.cell? ⟨g, 1, none⟩ = some (.int .i64 aw)) (c2 : w.cell? ⟨g, 2, none⟩ = some (.int .i64 bi)) (c3 : w.cell? ⟨g, 3, none⟩ = some (.int .i64 bw)) :
 Calls Tryz.prog 91 #[.agg #[.int .i64 kind, .int .i64 xa, .int .i64 xb, .int .i64 xc, .int .i64 n, .int .i64 m, .int .i64 xi, .int .i64 xw, .string nm], .slice (some ⟨g, 0, none⟩) 2 cap] w (ResPost (resN kind n m ai aw bi bw 0 0) w) := by
 obtain ⟨h0, h1, h2⟩ := hs
 obtain ⟨g0, g1, g2⟩ := hs2
 rcases kinds2 hk with h | rfl | rfl | rfl
 · by_cases ha : ai = 0
   · by_cases hb : bi = 0
     · subst ha; subst hb
       obtain ⟨p, rfl⟩ := Int.eq_ofNat_of_zero_le (show 0 ≤ aw by omega)
       obtain ⟨q, rfl⟩ := Int.eq_ofNat_of_zero_le (show 0 ≤ bw by omega)
       by_cases hpq : p = q
       · by_cases h3 : kind ≤ 20
         · exact l2Result_two_c kind n m 0 0 xa xb xc xi xw nm p q g cap w hcap h (by omega) (by omega) (by omega) (by omega) hpq h3 c0 c1 c2 c3
         · exact l2Result_two_d kind n m 0 0 xa xb xc xi xw nm p q g cap w hcap h (by omega) (by omega) (by omega) (by omega) hpq h3 c0 c1 c2 c3
       · exact l2Result_two_e kind n m 0 0 xa xb xc xi xw nm p q g cap w hcap h (by omega) (by omega) (by omega) (by omega) hpq c0 c1 c2 c3
     · exact l2Result_two_b kind n m ai aw bi bw 0 0 xa xb xc xi xw nm g cap w hcap h c0 c1 c2 c3 ha (by omega)
   · exact l2Result_two_a kind n m ai aw bi bw 0 0 xa xb xc xi xw nm g cap w hcap h c0 c1 c2 c3 (by omega)
 · exact l2Result_21 n m ai aw bi bw 0 0 xa xb xc xi xw nm g cap w hcap c0 c1 c2 c3
 · by_cases ha : ai = 0
   · by_cases hb : bi = 0
     · subst ha; subst hb
       obtain ⟨p, rfl⟩ := Int.eq_ofNat_of_zero_le (show 0 ≤ aw by omega)
       obtain ⟨q, rfl⟩ := Int.eq_ofNat_of_zero_le (show 0 ≤ bw by omega)
       by_cases h3 : (p : Int) + q ≤ 16
       · exact l2Result_29_c n m 0 0 xa xb xc xi xw nm p q g cap w hcap (by omega) (by omega) (by omega) (by omega) h3 c0 c1 c2 c3
       · exact l2Result_29_d n m 0 0 xa xb xc xi xw nm p q g cap w hcap (by omega) (by omega) (by omega) (by omega) h3 c0 c1 c2 c3
     · exact l2Result_29_b n m ai aw bi bw 0 0 xa xb xc xi xw nm g cap w hcap c0 c1 c2 c3 ha (by omega)
   · exact l2Result_29_a n m ai aw bi bw 0 0 xa xb xc xi xw nm g cap w hcap c0 c1 c2 c3 (by omega)
 · exact l2Result_37 n m ai aw bi bw 0 0 xa xb xc xi xw nm g cap w hcap c0 c1 c2 c3
theorem l2Result_np3 (kind n m ai aw bi bw ci cw xa xb xc xi xw : Int) (nm : ByteArray) (g cap : Nat) (w : World) (hcap : 3 ≤ cap) (hk : partsN kind = 3)
 (c0 : w.cell? ⟨g, 0, none⟩ = some (.int .i64 ai)) (c1 : w.cell? ⟨g, 1, none⟩ = some (.int .i64 aw)) (c2 : w.cell? ⟨g, 2, none⟩ = some (.int .i64 bi)) (c3 : w.cell? ⟨g, 3, none⟩ = some (.int .i64 bw)) (c4 : w.cell? ⟨g, 4, none⟩ = some (.int .i64 ci)) (c5 : w.cell? ⟨g, 5, none⟩ = some (.int .i64 cw)) :
 Calls Tryz.prog 91 #[.agg #[.int .i64 kind, .int .i64 xa, .int .i64 xb, .int .i64 xc, .int .i64 n, .int .i64 m, .int .i64 xi, .int .i64 xw, .string nm], .slice (some ⟨g, 0, none⟩) 3 cap] w (ResPost (resN kind n m ai aw bi bw ci cw) w) := by
 rcases kinds3 hk with rfl | rfl
 · exact l2Result_33 n m ai aw bi bw ci cw xa xb xc xi xw nm g cap w hcap c0 c1 c2 c3 c4 c5
 · exact l2Result_38 n m ai aw bi bw ci cw xa xb xc xi xw nm g cap w hcap c0 c1 c2 c3 c4 c5
end Go.Proofs.YtdojaijnejcoiaaGreat
namespace Go.Proofs.YtdojaijnejcoiaaGreat
open Go.RowKit
def psI (ns : List Nd) (x : Nd) (m : Nat) : Int := if (m : Int) < partsN x.kind then (ns.getD (x.part m).toNat Nd.zero).idx else 0
def psW (ns : List Nd) (x : Nd) (m : Nat) : Int := if (m : Int) < partsN x.kind then (ns.getD (x.part m).toNat Nd.zero).wid else 0
def psOk (ns : List Nd) (x : Nd) (m : Nat) : Bool := decide (partsN x.kind ≤ m) || sokB (psI ns x m) (psW ns x m)
def ownN (x : Nd) : Option (Int × Int) :=
 if (if (x.kind == 34) = true then (x.idx == 0 && wokB x.wid x.n) else sokB x.idx x.wid) = true then some (x.idx, x.wid) else none
theorem ownN_const {x : Nd} (h : (x.kind == 34) = true) : ownN x = if (x.idx == 0 && wokB x.wid x.n) = true then some (x.idx, x.wid) else none := by
 unfold ownN; rw [h]; rfl
theorem ownN_var {x : Nd} (h : (x.kind == 34) = false) : ownN x = if sokB x.idx x.wid = true then some (x.idx, x.wid) else none := by
 unfold ownN; rw [h]; rfl
def sortN (ns : List Nd) (x : Nd) : Option (Int × Int) :=
 if 60 < ns.length then none
 else if fieldsB ns.length x = false then none
 else if partsN x.kind = 0 then ownN x
 else if (psOk ns x 0 && psOk ns x 1 && psOk ns x 2) = true then resN x.kind x.n x.m (psI ns x 0) (psW ns x 0) (psI ns x 1) (psW ns x 1) (psI ns x 2) (psW ns x 2)
 else none
theorem sortN_long {ns : List Nd} {x : Nd} (h : 60 < ns.length) : sortN ns x = none := by unfold sortN; rw [if_pos h]
theorem sortN_bad {ns : List Nd} {x : Nd} (h : fieldsB ns.length x = false) : sortN ns x = none := by
 unfold sortN
 by_cases h0 : 60 < ns.length
 · rw [if_pos h0]
 · rw [if_neg h0, if_pos h]
theorem sortN_own {ns : List Nd} {x : Nd} (h : ¬ 60 < ns.length) (h1 : fieldsB ns.length x = true) (h2 : partsN x.kind = 0) : sortN ns x = ownN x := by
 unfold sortN; rw [if_neg h, if_neg (by rw [h1]; exact Bool.noConfusion), if_pos h2]
theorem sortN_part {ns : List Nd} {x : Nd} {m : Nat} (hm : m < 3) (h2 : ¬ partsN x.kind = 0) (h3 : psOk ns x m = false) : sortN ns x = none := by
 unfold sortN
 by_cases h0 : 60 < ns.length
 · rw [if_pos h0]
 · by_cases h1 : fieldsB ns.length x = false
   · rw [if_neg h0, if_pos h1]
   · rw [if_neg h0, if_neg h1, if_neg h2, if_neg]
     rcases (show m = 0 ∨ m = 1 ∨ m = 2 by omega) with rfl | rfl | rfl <;> rw [h3] <;> simp
theorem sortN_res {ns : List Nd} {x : Nd} (h : ¬ 60 < ns.length) (h1 : fieldsB ns.length x = true) (h2 : ¬ partsN x.kind = 0) (h3 : ∀ m, m < 3 → psOk ns x m = true) :
 sortN ns x = resN x.kind x.n x.m (psI ns x 0) (psW ns x 0) (psI ns x 1) (psW ns x 1) (psI ns x 2) (psW ns x 2) := by
 unfold sortN; rw [if_neg h, if_neg (by rw [h1]; exact Bool.noConfusion), if_neg h2, h3 0 (by omega), h3 1 (by omega), h3 2 (by omega)]; rfl
theorem fields_part_in {len : Int} {x : Nd} {m : Nat} (h : fieldsB len x = true) (hm : m < 3) (hk : (m : Int) < partsN x.kind) : 0 ≤ x.part m ∧ x.part m ≤ len - 1 := by
 by_cases hp : partB (partsN x.kind) len m (x.part m) = true
 · unfold partB at hp
   rw [if_pos hk] at hp
   exact of_inB hp
 · rw [fields_part hm (eq_false_of_ne_true hp)] at h
   cases h
theorem fields_pos {len : Int} {x : Nd} (h : fieldsB len x = true) : 0 ≤ partsN x.kind := by
 by_cases hp : partsN x.kind < 0
 · rw [fields_neg hp] at h; cases h
 · omega
def sortCells (ns : List Nd) (x : Nd) (j : Nat) : List Value := (List.range j).flatMap fun m => [.int .i64 (psI ns x m), .int .i64 (psW ns x m)]
theorem sortCells_succ (ns : List Nd) (x : Nd) (j : Nat) : sortCells ns x (j + 1) = sortCells ns x j ++ [.int .i64 (psI ns x j), .int .i64 (psW ns x j)] := by
 unfold sortCells; rw [List.range_succ, List.flatMap_append]; rfl
theorem sortCells_length (ns : List Nd) (x : Nd) (j : Nat) : (sortCells ns x j).length = j * 2 := by
 induction j with
 | zero => rfl
 | succ j ih => rw [sortCells_succ, List.length_append, ih]; simp; omega
theorem sortCells_at (ns : List Nd) (x : Nd) {j m : Nat} (h : m < j) : (sortCells ns x j)[m * 2]? = some (.int .i64 (psI ns x m)) ∧ (sortCells ns x j)[m * 2 + 1]? = some (.int .i64 (psW ns x m)) := by
 induction j with
 | zero => omega
 | succ j ih =>
   rw [sortCells_succ]
   rcases Nat.lt_or_ge m j with g | g
   · have := ih g
     have hl := sortCells_length ns x j
     rw [List.getElem?_append_left (by omega), List.getElem?_append_left (by omega)]
     exact this
   · obtain rfl : m = j := by omega
     have hl := sortCells_length ns x m
     rw [List.getElem?_append_right (by omega), List.getElem?_append_right (by omega), hl]
     simp
theorem ownsRow_cell {w : World} {b : Nat} {e : TypeId} {g n cap : Nat} {xs : List Value} (h : w.ownsRow b e 2 (.slice (some ⟨g, 0, none⟩) n cap) n xs) (i : Nat) (u : Value) (hu : xs[i]? = some u) : w.cell? ⟨g, i, none⟩ = some u := by
 have := h.cells (g := g) rfl i u hu
 have hadd : (⟨g, 0, none⟩ : Addr).add i = ⟨g, i, none⟩ := by unfold Addr.add; split <;> simp_all
 rwa [hadd] at this
theorem ownsRow_below {w w' : World} {b : Nat} {e : TypeId} {s n : Nat} {v : Value} {xs : List Value} (h : w.ownsRow b e s v n xs) (hb : Below w.heap.size w w') : w'.ownsRow b e s v n xs := by
 refine ⟨h.1, ?_⟩
 rcases h.2 with hn | ⟨g, cap, cur, rfl, hbg, hg, rest⟩
 · exact .inl hn
 · refine .inr ⟨g, cap, cur, rfl, hbg, ?_, rest⟩
   rw [hb.block g ?_]
   · exact hg
   · rcases Nat.lt_or_ge g w.heap.size with hlt | hge
     · exact hlt
     · rw [Array.getElem?_eq_none hge] at hg; cases hg
theorem ownsRow_slice {w : World} {b : Nat} {e : TypeId} {s n : Nat} {v : Value} {xs : List Value} (h : w.ownsRow b e s v n xs) (hn : 0 < n) : ∃ g cap, v = .slice (some ⟨g, 0, none⟩) n cap ∧ n ≤ cap := by
 rcases h.2 with ⟨_, h0⟩ | ⟨g, cap, cur, hv, _, _, hc, _⟩
 · omega
 · exact ⟨g, cap, hv, hc⟩
theorem laterC_grown {w3 wa w1 : World} {e : TypeId} {s n : Nat} {v : Value} {xs : List Value} (hL : LaterC w3 wa) (hown : wa.ownsRow w3.heap.size e s v n xs) (hg : wa.grownBy w1 v.ownBlock) : LaterC w3 w1 := by
 have hb := hL.below
 refine .of (hb.trans ⟨hg.os, hg.tape, hg.output, hg.size, fun k hk => hg.block k (Nat.lt_of_lt_of_le hk hb.size) (fun e => ?_)⟩)
 have := (hown.lt k e.symm).1
 omega
theorem info_sort : (Tryz.prog.info? 44).map (fun i => (i.zero, i.size, i.bytes)) = some (some (.agg #[.int .i64 0, .int .i64 0]), 2, 16) := by kernel_rfl
def retV (r : Option (Int × Int)) : Value := match r with
 | some p => .tuple #[.agg #[.int .i64 p.1, .int .i64 p.2], .bool true]
 | none => .tuple #[.agg #[.int .i64 0, .int .i64 0], .bool false]
def RetPost (r : Option (Int × Int)) (w : World) (e : Ending) (w' : World) : Prop := e = .returned (retV r) ∧ Below w.heap.size w w'
theorem retpost_some {r : Option (Int × Int)} {i a : Int} {w w' : World} (h : r = some (i, a)) (hb : Below w.heap.size w w') : RetPost r w (.returned (.tuple #[.agg #[.int .i64 i, .int .i64 a], .bool true])) w' :=
 ⟨by rw [h]; rfl, hb⟩
theorem retpost_none {r : Option (Int × Int)} {w w' : World} (h : r = none) (hb : Below w.heap.size w w') : RetPost r w (.returned (.tuple #[.agg #[.int .i64 0, .int .i64 0], .bool false])) w' :=
 ⟨by rw [h]; rfl, hb⟩
theorem NodeSort_calls (sv : Value) (ns : List Nd) (x : Nd) (w : World) (hS : SlAt enNd w sv ns) (hs : x.name.size ≤ 140737488351232) :
 Calls Tryz.prog 71 #[sv, .agg #[.int .i64 x.kind, .int .i64 x.a, .int .i64 x.b, .int .i64 x.c, .int .i64 x.n, .int .i64 x.m, .int .i64 x.idx, .int .i64 x.wid, .string x.name]] w (RetPost (sortN ns x) w) := by
 have HS := Lib.hid hS
 obtain ⟨A, c, rfl, hnc, hc', hA⟩ := hS
 obtain ⟨R, hR⟩ : ∃ R, R = sortN ns x := ⟨_, rfl⟩
 rw [← hR]
 have HLONG := Lib.hid (show 60 < ns.length → R = none from fun h => hR.trans (sortN_long h))
 have HBAD := Lib.hid (show fieldsB ns.length x = false → R = none from fun h => hR.trans (sortN_bad h))
 have HR := Lib.hid hR
 clear hR
 generalize hN : ns.length = n at *
 have HN := Lib.hid hN
 have hn : n ≤ 281474976710656 := Nat.le_trans hnc hc'
 clear hc' hnc hN
 go_enter Tryz.func71, Tryz.ntmps71
 go_upto_region 1 with fail
 have HW := Lib.hid (show Below w.heap.size w ((w.alloc (Obj.cells #[.int .i64 x.kind, .int .i64 x.a, .int .i64 x.b, .int .i64 x.c, .int .i64 x.n, .int .i64 x.m, .int .i64 x.idx, .int .i64 x.wid, .string x.name] 46)).alloc (Obj.cells #[.int .i64 0, .int .i64 0] 44)) from (box_below _ _ _).alloc (by simp) _)
 have b0 : ((w.alloc (Obj.cells #[.int .i64 x.kind, .int .i64 x.a, .int .i64 x.b, .int .i64 x.c, .int .i64 x.n, .int .i64 x.m, .int .i64 x.idx, .int .i64 x.wid, .string x.name] 46)).alloc (Obj.cells #[.int .i64 0, .int .i64 0] 44)).cell? ⟨w.heap.size, 0, none⟩ = some (.int .i64 x.kind) := by go_simp
 have b1 : ((w.alloc (Obj.cells #[.int .i64 x.kind, .int .i64 x.a, .int .i64 x.b, .int .i64 x.c, .int .i64 x.n, .int .i64 x.m, .int .i64 x.idx, .int .i64 x.wid, .string x.name] 46)).alloc (Obj.cells #[.int .i64 0, .int .i64 0] 44)).cell? ⟨w.heap.size, 1, none⟩ = some (.int .i64 x.a) := by go_simp
 have b2 : ((w.alloc (Obj.cells #[.int .i64 x.kind, .int .i64 x.a, .int .i64 x.b, .int .i64 x.c, .int .i64 x.n, .int .i64 x.m, .int .i64 x.idx, .int .i64 x.wid, .string x.name] 46)).alloc (Obj.cells #[.int .i64 0, .int .i64 0] 44)).cell? ⟨w.heap.size, 2, none⟩ = some (.int .i64 x.b) := by go_simp
 have b3 : ((w.alloc (Obj.cells #[.int .i64 x.kind, .int .i64 x.a, .int .i64 x.b, .int .i64 x.c, .int .i64 x.n, .int .i64 x.m, .int .i64 x.idx, .int .i64 x.wid, .string x.name] 46)).alloc (Obj.cells #[.int .i64 0, .int .i64 0] 44)).cell? ⟨w.heap.size, 3, none⟩ = some (.int .i64 x.c) := by go_simp
 have b4 : ((w.alloc (Obj.cells #[.int .i64 x.kind, .int .i64 x.a, .int .i64 x.b, .int .i64 x.c, .int .i64 x.n, .int .i64 x.m, .int .i64 x.idx, .int .i64 x.wid, .string x.name] 46)).alloc (Obj.cells #[.int .i64 0, .int .i64 0] 44)).cell? ⟨w.heap.size, 4, none⟩ = some (.int .i64 x.n) := by go_simp
 have b5 : ((w.alloc (Obj.cells #[.int .i64 x.kind, .int .i64 x.a, .int .i64 x.b, .int .i64 x.c, .int .i64 x.n, .int .i64 x.m, .int .i64 x.idx, .int .i64 x.wid, .string x.name] 46)).alloc (Obj.cells #[.int .i64 0, .int .i64 0] 44)).cell? ⟨w.heap.size, 5, none⟩ = some (.int .i64 x.m) := by go_simp
 have b6 : ((w.alloc (Obj.cells #[.int .i64 x.kind, .int .i64 x.a, .int .i64 x.b, .int .i64 x.c, .int .i64 x.n, .int .i64 x.m, .int .i64 x.idx, .int .i64 x.wid, .string x.name] 46)).alloc (Obj.cells #[.int .i64 0, .int .i64 0] 44)).cell? ⟨w.heap.size, 6, none⟩ = some (.int .i64 x.idx) := by go_simp
 have b7 : ((w.alloc (Obj.cells #[.int .i64 x.kind, .int .i64 x.a, .int .i64 x.b, .int .i64 x.c, .int .i64 x.n, .int .i64 x.m, .int .i64 x.idx, .int .i64 x.wid, .string x.name] 46)).alloc (Obj.cells #[.int .i64 0, .int .i64 0] 44)).cell? ⟨w.heap.size, 7, none⟩ = some (.int .i64 x.wid) := by go_simp
 have b8 : ((w.alloc (Obj.cells #[.int .i64 x.kind, .int .i64 x.a, .int .i64 x.b, .int .i64 x.c, .int .i64 x.n, .int .i64 x.m, .int .i64 x.idx, .int .i64 x.wid, .string x.name] 46)).alloc (Obj.cells #[.int .i64 0, .int .i64 0] 44)).cell? ⟨w.heap.size, 8, none⟩ = some (.string x.name) := by go_simp
 have r0 : ((w.alloc (Obj.cells #[.int .i64 x.kind, .int .i64 x.a, .int .i64 x.b, .int .i64 x.c, .int .i64 x.n, .int .i64 x.m, .int .i64 x.idx, .int .i64 x.wid, .string x.name] 46)).alloc (Obj.cells #[.int .i64 0, .int .i64 0] 44)).cell? ⟨w.heap.size + 1, 0, none⟩ = some (.int .i64 0) := by go_simp
 have f0 : ((w.alloc (Obj.cells #[.int .i64 x.kind, .int .i64 x.a, .int .i64 x.b, .int .i64 x.c, .int .i64 x.n, .int .i64 x.m, .int .i64 x.idx, .int .i64 x.wid, .string x.name] 46)).alloc (Obj.cells #[.int .i64 0, .int .i64 0] 44)).frozen? ⟨w.heap.size + 1, 0, none⟩ = false := by go_simp
 have r1 : ((w.alloc (Obj.cells #[.int .i64 x.kind, .int .i64 x.a, .int .i64 x.b, .int .i64 x.c, .int .i64 x.n, .int .i64 x.m, .int .i64 x.idx, .int .i64 x.wid, .string x.name] 46)).alloc (Obj.cells #[.int .i64 0, .int .i64 0] 44)).cell? ⟨w.heap.size + 1, 1, none⟩ = some (.int .i64 0) := by go_simp
 have f1 : ((w.alloc (Obj.cells #[.int .i64 x.kind, .int .i64 x.a, .int .i64 x.b, .int .i64 x.c, .int .i64 x.n, .int .i64 x.m, .int .i64 x.idx, .int .i64 x.wid, .string x.name] 46)).alloc (Obj.cells #[.int .i64 0, .int .i64 0] 44)).frozen? ⟨w.heap.size + 1, 1, none⟩ = false := by go_simp
 generalize ((w.alloc (Obj.cells #[.int .i64 x.kind, .int .i64 x.a, .int .i64 x.b, .int .i64 x.c, .int .i64 x.n, .int .i64 x.m, .int .i64 x.idx, .int .i64 x.wid, .string x.name] 46)).alloc (Obj.cells #[.int .i64 0, .int .i64 0] 44)) = w2 at *
 have f0 := Later.frozen f0 (World.block_lt_of_cell? _ _ r0)
 have f1 := Later.frozen f1 (World.block_lt_of_cell? _ _ r1)
 have b0 := Later.cell b0
 have b1 := Later.cell b1
 have b2 := Later.cell b2
 have b3 := Later.cell b3
 have b4 := Later.cell b4
 have b5 := Later.cell b5
 have b6 := Later.cell b6
 have b7 := Later.cell b7
 have b8 := Later.cell b8
 have r0 := Later.cell r0
 have r1 := Later.cell r1
 refine at_world (w := w2) ?_
 intro u0
 by_cases hl : 60 < n
 · have HNONE := Lib.hid (HLONG.out hl)
   have hl' : (60 : Int) < n := by omega
   clear hA
   go_wp2
   exact bodyPost_ret (v := .tuple #[.agg #[.int .i64 0, .int .i64 0], .bool false]) (by simp [results, Tryz.results71, go_sem, r0, r1]) rfl (retpost_none HNONE.out (by repeat (first | exact u0.back HW.out | refine Below.setCell ?_ (by first | (simp; done) | (simp; omega)) _)))
 · have hl' : ¬ (60 : Int) < n := by omega
   by_cases hf : fieldsB n x = true
   rotate_left
   · have hf := eq_false_of_ne_true hf
     have HF := Lib.hid hf
     have HNONE := Lib.hid (HBAD.out hf)
     clear hA hf
     go_wp2_with (go_at_call 88; refine (Calls.later (u := u0) (l2Fields_calls A n c x _ hn hs)).mono ?_; rintro e w' ⟨rfl, u1, rfl⟩; rw [HF.out])
     exact bodyPost_ret (v := .tuple #[.agg #[.int .i64 0, .int .i64 0], .bool false]) (by simp [results, Tryz.results71, go_sem, r0, r1]) rfl (retpost_none HNONE.out (by repeat (first | exact u1.back HW.out | refine Below.setCell ?_ (by first | (simp; done) | (simp; omega)) _)))
   have HF := Lib.hid hf
   have hpp := fields_pos hf
   clear hf
   by_cases hz : partsN x.kind = 0
   · have HPN := Lib.hid hz
     have hown := HR.out.trans (sortN_own (by rw [HN.out]; exact hl) (by rw [HN.out]; exact HF.out) hz)
     clear hA hz hpp
     by_cases hk : (x.kind == 34) = true
     · rw [ownN_const hk] at hown
       by_cases h0 : (x.idx == 0) = true
       · by_cases h1 : wokB x.wid x.n = true
         · have HN1 := Lib.hid (hown.trans (by rw [h0, h1] <;> rfl))
           have HWO := Lib.hid h1
           clear hown h1
           go_wp2_with (first | (go_at_call 88; refine (Calls.later (u := u0) (l2Fields_calls A n c x _ hn hs)).mono ?_; rintro e w' ⟨rfl, u1, rfl⟩; rw [HF.out]) | (go_at_call 46; refine (l2Parts_same _ _).mono ?_; rintro e w' ⟨rfl, rfl⟩; rw [HPN.out]) | (go_at_call 89; refine (Calls.later (u := u1) (SortOk_calls _ _ _)).mono ?_; rintro e w' ⟨rfl, u2, rfl⟩) | (go_at_call 90; refine (WordOk_same _ _ _).mono ?_; rintro e w' ⟨rfl, rfl⟩; rw [HWO.out]))
           exact bodyPost_ret (v := .tuple #[.agg #[.int .i64 x.idx, .int .i64 x.wid], .bool true]) (by simp [results, Tryz.results71, go_sem, r0, r1]) rfl (retpost_some HN1.out (by repeat (first | exact u2.back HW.out | refine Below.setCell ?_ (by first | (simp; done) | (simp; omega)) _)))
         · have h1 := eq_false_of_ne_true h1
           have HN1 := Lib.hid (hown.trans (by rw [h0, h1] <;> rfl))
           have HWO := Lib.hid h1
           clear hown h1
           go_wp2_with (first | (go_at_call 88; refine (Calls.later (u := u0) (l2Fields_calls A n c x _ hn hs)).mono ?_; rintro e w' ⟨rfl, u1, rfl⟩; rw [HF.out]) | (go_at_call 46; refine (l2Parts_same _ _).mono ?_; rintro e w' ⟨rfl, rfl⟩; rw [HPN.out]) | (go_at_call 89; refine (Calls.later (u := u1) (SortOk_calls _ _ _)).mono ?_; rintro e w' ⟨rfl, u2, rfl⟩) | (go_at_call 90; refine (WordOk_same _ _ _).mono ?_; rintro e w' ⟨rfl, rfl⟩; rw [HWO.out]))
           exact bodyPost_ret (v := .tuple #[.agg #[.int .i64 0, .int .i64 0], .bool false]) (by simp [results, Tryz.results71, go_sem, r0, r1]) rfl (retpost_none HN1.out (by repeat (first | exact u2.back HW.out | refine Below.setCell ?_ (by first | (simp; done) | (simp; omega)) _)))
       · have h0 := eq_false_of_ne_true h0
         have HN1 := Lib.hid (hown.trans (by rw [h0] <;> rfl))
         clear hown
         go_wp2_with (first | (go_at_call 88; refine (Calls.later (u := u0) (l2Fields_calls A n c x _ hn hs)).mono ?_; rintro e w' ⟨rfl, u1, rfl⟩; rw [HF.out]) | (go_at_call 46; refine (l2Parts_same _ _).mono ?_; rintro e w' ⟨rfl, rfl⟩; rw [HPN.out]) | (go_at_call 89; refine (Calls.later (u := u1) (SortOk_calls _ _ _)).mono ?_; rintro e w' ⟨rfl, u2, rfl⟩))
         exact bodyPost_ret (v := .tuple #[.agg #[.int .i64 0, .int .i64 0], .bool false]) (by simp [results, Tryz.results71, go_sem, r0, r1]) rfl (retpost_none HN1.out (by repeat (first | exact u2.back HW.out | refine Below.setCell ?_ (by first | (simp; done) | (simp; omega)) _)))
     · have hk := eq_false_of_ne_true hk
       rw [ownN_var hk] at hown
       by_cases h1 : sokB x.idx x.wid = true
       · have HN1 := Lib.hid (hown.trans (if_pos h1))
         have HSO := Lib.hid h1
         clear hown h1
         go_wp2_with (first | (go_at_call 88; refine (Calls.later (u := u0) (l2Fields_calls A n c x _ hn hs)).mono ?_; rintro e w' ⟨rfl, u1, rfl⟩; rw [HF.out]) | (go_at_call 46; refine (l2Parts_same _ _).mono ?_; rintro e w' ⟨rfl, rfl⟩; rw [HPN.out]) | (go_at_call 89; refine (Calls.later (u := u1) (SortOk_calls _ _ _)).mono ?_; rintro e w' ⟨rfl, u2, rfl⟩; rw [HSO.out]))
         exact bodyPost_ret (v := .tuple #[.agg #[.int .i64 x.idx, .int .i64 x.wid], .bool true]) (by simp [results, Tryz.results71, go_sem, r0, r1]) rfl (retpost_some HN1.out (by repeat (first | exact u2.back HW.out | refine Below.setCell ?_ (by first | (simp; done) | (simp; omega)) _)))
       · have h1 := eq_false_of_ne_true h1
         have HN1 := Lib.hid (hown.trans (by rw [h1] <;> rfl))
         have HSO := Lib.hid h1
         clear hown h1
         go_wp2_with (first | (go_at_call 88; refine (Calls.later (u := u0) (l2Fields_calls A n c x _ hn hs)).mono ?_; rintro e w' ⟨rfl, u1, rfl⟩; rw [HF.out]) | (go_at_call 46; refine (l2Parts_same _ _).mono ?_; rintro e w' ⟨rfl, rfl⟩; rw [HPN.out]) | (go_at_call 89; refine (Calls.later (u := u1) (SortOk_calls _ _ _)).mono ?_; rintro e w' ⟨rfl, u2, rfl⟩; rw [HSO.out]))
         exact bodyPost_ret (v := .tuple #[.agg #[.int .i64 0, .int .i64 0], .bool false]) (by simp [results, Tryz.results71, go_sem, r0, r1]) rfl (retpost_none HN1.out (by repeat (first | exact u2.back HW.out | refine Below.setCell ?_ (by first | (simp; done) | (simp; omega)) _)))
   · have hle := partsN_le x.kind
     obtain ⟨pk, hpk⟩ := Int.eq_ofNat_of_zero_le hpp
     have hpk1 : 1 ≤ pk := by omega
     have hpk3 : pk ≤ 3 := by omega
     have HPN := Lib.hid hpk
     have HZ := Lib.hid hz
     have hz1 : ¬ (pk : Int) = 0 := by omega
     have hz2 : ((pk : Int) == 0) = false := beq_eq_false_iff_ne.2 hz1
     clear hz hpp hle hpk
     go_wp2_with (first | (go_at_call 88; refine (Calls.later (u := u0) (l2Fields_calls A n c x _ hn hs)).mono ?_; rintro e w' ⟨rfl, u1, rfl⟩; rw [HF.out]) | (go_at_call 46; refine (l2Parts_same _ _).mono ?_; rintro e w' ⟨rfl, rfl⟩; rw [HPN.out]))
     have hL3 : LaterC w2 (u1.val.alloc (Obj.cells #[.int .i64 x.a, .int .i64 x.b, .int .i64 x.c] 3)) := u1.alloc _
     have p0 : (u1.val.alloc (Obj.cells #[.int .i64 x.a, .int .i64 x.b, .int .i64 x.c] 3)).cell? ⟨u1.val.heap.size, 0, none⟩ = some (.int .i64 x.a) := by go_simp
     have p1 : (u1.val.alloc (Obj.cells #[.int .i64 x.a, .int .i64 x.b, .int .i64 x.c] 3)).cell? ⟨u1.val.heap.size, 1, none⟩ = some (.int .i64 x.b) := by go_simp
     have p2 : (u1.val.alloc (Obj.cells #[.int .i64 x.a, .int .i64 x.b, .int .i64 x.c] 3)).cell? ⟨u1.val.heap.size, 2, none⟩ = some (.int .i64 x.c) := by go_simp
     generalize u1.val.alloc (Obj.cells #[.int .i64 x.a, .int .i64 x.b, .int .i64 x.c] 3) = w3 at *
     generalize u1.val.heap.size = GP at *
     have b0 := Later.re b0 hL3
     have b1 := Later.re b1 hL3
     have b2 := Later.re b2 hL3
     have b3 := Later.re b3 hL3
     have b4 := Later.re b4 hL3
     have b5 := Later.re b5 hL3
     have b6 := Later.re b6 hL3
     have b7 := Later.re b7 hL3
     have b8 := Later.re b8 hL3
     have r0 := Later.re r0 hL3
     have r1 := Later.re r1 hL3
     have f0 : ∀ u : Later w3, u.val.frozen? ⟨w.heap.size + 1, 0, none⟩ = false := fun u => by obtain ⟨v, hv⟩ := hL3.trans ⟨u, rfl⟩; rw [hv]; exact f0 v
     have f1 : ∀ u : Later w3, u.val.frozen? ⟨w.heap.size + 1, 1, none⟩ = false := fun u => by obtain ⟨v, hv⟩ := hL3.trans ⟨u, rfl⟩; rw [hv]; exact f1 v
     have HP0 := Lib.hid (show ∀ m, m < 3 → w3.cell? ⟨GP, m, none⟩ = some (.int .i64 (x.part m)) from fun m hm => by
      rcases (show m = 0 ∨ m = 1 ∨ m = 2 by omega) with rfl | rfl | rfl
      · exact p0
      · exact p1
      · exact p2)
     have HW3 := Lib.hid (show Below w.heap.size w w3 from HW.out.trans (hL3.below.mono HW.out.size))
     clear p0 p1 p2 hL3
     go_loopw [8, 10] (fun v i wr => ∃ (j : Nat) (sv : Value), j ≤ pk ∧ sv = v ∧ i = .int .i64 j ∧ Hid (wr.ownsRow w3.heap.size 44 2 sv j (sortCells ns x j) ∧ (∀ m, m < j → psOk ns x m = true)) ∧ LaterC w3 wr) (fun _ i _ => pk - (intOf i).toNat)
     case atStart => exact ⟨0, _, Nat.zero_le _, rfl, rfl, Lib.hid ⟨⟨rfl, .inl ⟨rfl, rfl⟩⟩, fun m hm => absurd hm (Nat.not_lt_zero _)⟩, LaterC.refl _⟩
     case round =>
      obtain ⟨j, sv, hj, hsv, rfl, HI, ⟨u, rfl⟩⟩ := hrel
      subst hsv
      by_cases hlt : j < pk
      · have hj3 : j < 3 := by omega
        have hj3' : (j : Int) < 3 := by omega
        have hjp : (j : Int) < partsN x.kind := by rw [HPN.out]; omega
        have hin := fields_part_in HF.out hj3 hjp
        have hpj : ∀ l : Later w3, l.val.cell? ⟨GP, j, none⟩ = some (.int .i64 (x.part j)) := Later.cell (HP0.out j hj3)
        have hps : psI ns x j = (ns.getD (x.part j).toNat Nd.zero).idx ∧ psW ns x j = (ns.getD (x.part j).toNat Nd.zero).wid := by
         unfold psI psW; rw [if_pos hjp, if_pos hjp]; exact ⟨rfl, rfl⟩
        generalize x.part j = pp at *
        obtain ⟨q, rfl⟩ := Int.eq_ofNat_of_zero_le hin.1
        have hqn : q < n := by omega
        rw [Int.toNat_natCast] at hps
        obtain ⟨b, o, rfl, hx⟩ := hA q _ (getD_at (by rw [HN.out]; exact hqn) Nd.zero)
        have hx6 : ∀ l : Later w3, l.val.cell? ⟨b, o + q * 9 + 6, none⟩ = some (.int .i64 (psI ns x j)) := by rw [hps.1]; exact hx.at_ HW3.out 6 _ rfl
        have hx7 : ∀ l : Later w3, l.val.cell? ⟨b, o + q * 9 + 7, none⟩ = some (.int .i64 (psW ns x j)) := by rw [hps.2]; exact hx.at_ HW3.out 7 _ rfl
        have hpsok : psOk ns x j = sokB (psI ns x j) (psW ns x j) := by unfold psOk; rw [decide_eq_false (by rw [HPN.out]; omega)]; rfl
        have hsucc := sortCells_succ ns x j
        have hPART := sortN_part (ns := ns) (x := x) hj3 HZ.out
        generalize psI ns x j = si at *
        generalize psW ns x j = sw at *
        have hown := HI.out.1.alloc (.cells #[.int .i64 si, .int .i64 sw] 44)
        have HOWN := Lib.hid hown
        have HNEWS := Lib.hid (World.news_of_block (heap_alloc_new u.val (.cells #[.int .i64 si, .int .i64 sw] 44)))
        have HBASE := Lib.hid (show w3.heap.size ≤ (u.val.alloc (.cells #[.int .i64 si, .int .i64 sw] 44)).heap.size by have := u.size; simp; omega)
        obtain ⟨ti, hi, hz0, hz1, hz2⟩ := info_parts info_sort
        have HTI := Lib.hid (And.intro hi (And.intro hz0 (And.intro hz1 hz2)))
        have HSUCC := Lib.hid hsucc
        have HPSOK := Lib.hid hpsok
        have HPART := Lib.hid hPART
        clear hown hps hx hA hin hi hz0 hz1 hz2 hsucc hpsok hPART
        have HS0 := Lib.hid (show (sortCells ns x j ++ [.int .i64 si, .int .i64 sw])[j * 2]? = some (.int .i64 si) by
         have hl := sortCells_length ns x j
         rw [List.getElem?_append_right (by omega), hl]; simp)
        have HS1 := Lib.hid (show (sortCells ns x j ++ [.int .i64 si, .int .i64 sw])[j * 2 + 1]? = some (.int .i64 sw) by
         have hl := sortCells_length ns x j
         rw [List.getElem?_append_right (by omega), hl]; simp)
        by_cases hso : sokB si sw = true
        · have HSO := Lib.hid hso
          clear hso
          go_wp2_with (first | (at_builtin; refine wpList_append_lies _ (by rfl) _ _ _ (by rfl) w3.heap.size 44 ti _ 2 16 Tryz.underlying114 HTI.out.1 HTI.out.2.1 HTI.out.2.2.1 HTI.out.2.2.2 rfl (by omega) sv j (sortCells ns x j) (by rfl) HOWN.out ⟨u.val.heap.size, 0, none⟩ 1 1 [.int .i64 si, .int .i64 sw] (by rfl) rfl HNEWS.out (by intro y hy; simp at hy; rcases hy with rfl | rfl <;> rfl) (by omega) (by unfold maxLen; omega) (by omega) HBASE.out (u.val.heap.size + 1) (by simp) ?_; intro g' cap' wn hown2 hgrow hat hglt; have hown2 := Lib.hid hown2; have hL := laterC_grown (u.alloc _) HOWN.out hgrow; obtain ⟨u2, hu2⟩ := hL; subst hu2; have s0 := ownsRow_cell hown2.out (j * 2) (.int .i64 si) HS0.out; have s1 := ownsRow_cell hown2.out (j * 2 + 1) (.int .i64 sw) HS1.out; clear hgrow hat hglt) | (go_at_call 89; refine (SortOk_calls _ _ _).mono ?_; rintro e w' ⟨rfl, hbel⟩; have HOWN3 := Lib.hid (ownsRow_below hown2.out hbel); obtain ⟨u3, hu3⟩ := u2.step hbel; subst hu3; clear hbel; rw [HSO.out]))
          go_roundw
          case rel =>
           refine ⟨j + 1, _, by omega, rfl, by go_num, Lib.hid ⟨?_, fun m hm => ?_⟩, ⟨u3, rfl⟩⟩
           · rw [HSUCC.out]; exact HOWN3.out
           · rcases Nat.lt_or_ge m j with g | g
             · exact HI.out.2 m g
             · obtain rfl : m = j := by omega
               rw [HPSOK.out]; exact HSO.out
          case measure => simp [intOf] <;> omega
        · have HSO := Lib.hid (eq_false_of_ne_true hso)
          have HNONE := Lib.hid (HR.out.trans (HPART.out (by rw [HPSOK.out]; exact HSO.out)))
          clear hso
          go_wp2_with (first | (at_builtin; refine wpList_append_lies _ (by rfl) _ _ _ (by rfl) w3.heap.size 44 ti _ 2 16 Tryz.underlying114 HTI.out.1 HTI.out.2.1 HTI.out.2.2.1 HTI.out.2.2.2 rfl (by omega) sv j (sortCells ns x j) (by rfl) HOWN.out ⟨u.val.heap.size, 0, none⟩ 1 1 [.int .i64 si, .int .i64 sw] (by rfl) rfl HNEWS.out (by intro y hy; simp at hy; rcases hy with rfl | rfl <;> rfl) (by omega) (by unfold maxLen; omega) (by omega) HBASE.out (u.val.heap.size + 1) (by simp) ?_; intro g' cap' wn hown2 hgrow hat hglt; have hown2 := Lib.hid hown2; have hL := laterC_grown (u.alloc _) HOWN.out hgrow; obtain ⟨u2, hu2⟩ := hL; subst hu2; have s0 := ownsRow_cell hown2.out (j * 2) (.int .i64 si) HS0.out; have s1 := ownsRow_cell hown2.out (j * 2 + 1) (.int .i64 sw) HS1.out; clear hgrow hat hglt) | (go_at_call 89; refine (SortOk_calls _ _ _).mono ?_; rintro e w' ⟨rfl, hbel⟩; have HOWN3 := Lib.hid (ownsRow_below hown2.out hbel); obtain ⟨u3, hu3⟩ := u2.step hbel; subst hu3; clear hbel; rw [HSO.out]))
          exact bodyPost_ret (v := .tuple #[.agg #[.int .i64 0, .int .i64 0], .bool false]) (by simp [results, Tryz.results71, go_sem, r0, r1]) rfl (retpost_none HNONE.out (by repeat (first | exact u3.back HW3.out | refine Below.setCell ?_ (by first | (simp; done) | (simp; omega)) _)))
      · obtain rfl : j = pk := by omega
        obtain ⟨g', cap', rfl, hcap⟩ := ownsRow_slice HI.out.1 (by omega)
        have HRES := Lib.hid (HR.out.trans (sortN_res (by rw [HN.out]; exact hl) (by rw [HN.out]; exact HF.out) HZ.out (fun m hm => by
         rcases Nat.lt_or_ge m j with g | g
         · exact HI.out.2 m g
         · unfold psOk; rw [decide_eq_true (by rw [HPN.out]; omega)]; rfl)))
        have hzero : ∀ m : Nat, j ≤ m → psI ns x m = 0 ∧ psW ns x m = 0 := fun m hm => by
         unfold psI psW; rw [if_neg (by rw [HPN.out]; omega), if_neg (by rw [HPN.out]; omega)]; exact ⟨rfl, rfl⟩
        have hcell : ∀ m, m < j → u.val.cell? ⟨g', m * 2, none⟩ = some (.int .i64 (psI ns x m)) ∧ u.val.cell? ⟨g', m * 2 + 1, none⟩ = some (.int .i64 (psW ns x m)) := fun m hm =>
         ⟨ownsRow_cell HI.out.1 _ _ (sortCells_at ns x hm).1, ownsRow_cell HI.out.1 _ _ (sortCells_at ns x hm).2⟩
        have hsk : ∀ m, m < j → sokB (psI ns x m) (psW ns x m) = true := fun m hm => by
         have := HI.out.2 m hm
         unfold psOk at this
         rw [decide_eq_false (by rw [HPN.out]; omega)] at this
         exact this
        rcases (show j = 1 ∨ j = 2 ∨ j = 3 by omega) with rfl | rfl | rfl
        · skip
          obtain ⟨c0, c1⟩ := hcell 0 (by omega)
          have s0 := sok_of (hsk 0 (by omega))
          obtain ⟨z1, y1⟩ := hzero 1 (by omega)
          rw [z1, y1] at HRES
          obtain ⟨z2, y2⟩ := hzero 2 (by omega)
          rw [z2, y2] at HRES
          generalize psI ns x 0 = ai at *
          generalize psW ns x 0 = aw at *
          clear hcell hzero hsk hA
          have HC := Lib.hid (And.intro c0 c1)
          clear c0 c1
          go_upto_region 20 with (go_at_call 91; refine (l2Result_np1 x.kind x.n x.m ai aw x.a x.b x.c x.idx x.wid x.name g' cap' _ hcap HPN.out s0 HC.out.1 HC.out.2).mono ?_; rintro e w' ⟨ri, rw', rok, rfl, hbel, hok, hval⟩; have HOK := Lib.hid hok; have HVAL := Lib.hid hval; obtain ⟨u3, hu3⟩ := u.step hbel; subst hu3; clear hok hval hbel)
          have e0 : (u3.val.alloc (.cells #[.int .i64 ri, .int .i64 rw'] 44)).cell? ⟨u3.val.heap.size, 0, none⟩ = some (.int .i64 ri) := by go_simp
          have e1 : (u3.val.alloc (.cells #[.int .i64 ri, .int .i64 rw'] 44)).cell? ⟨u3.val.heap.size, 1, none⟩ = some (.int .i64 rw') := by go_simp
          obtain ⟨u4, hu4⟩ := u3.alloc (.cells #[.int .i64 ri, .int .i64 rw'] 44)
          rw [hu4] at e0 e1 ⊢
          clear hu4
          by_cases hrok : rok = true
          · subst hrok
            obtain ⟨⟨pi, pa⟩, hp⟩ := Option.isSome_iff_exists.1 HOK.out.symm
            have hv := HVAL.out _ hp
            cases hv
            have HP := Lib.hid hp
            clear hp
            go_wp2
            exact bodyPost_ret (v := .tuple #[.agg #[.int .i64 ri, .int .i64 rw'], .bool true]) (by simp [results, Tryz.results71, go_sem, r0, r1]) rfl (retpost_some (HRES.out.trans HP.out) (by repeat (first | exact u4.back HW3.out | refine Below.setCell ?_ (by first | (simp; done) | (simp; omega)) _)))
          · have hrok := eq_false_of_ne_true hrok
            subst hrok
            have HP := Lib.hid (Option.not_isSome_iff_eq_none.1 (by rw [← HOK.out]; exact Bool.noConfusion))
            go_wp2
            exact bodyPost_ret (v := .tuple #[.agg #[.int .i64 0, .int .i64 0], .bool false]) (by simp [results, Tryz.results71, go_sem, r0, r1]) rfl (retpost_none (HRES.out.trans HP.out) (by repeat (first | exact u4.back HW3.out | refine Below.setCell ?_ (by first | (simp; done) | (simp; omega)) _)))
        · skip
          obtain ⟨c0, c1⟩ := hcell 0 (by omega)
          have s0 := sok_of (hsk 0 (by omega))
          obtain ⟨c2, c3⟩ := hcell 1 (by omega)
          have s1 := sok_of (hsk 1 (by omega))
          obtain ⟨z2, y2⟩ := hzero 2 (by omega)
          rw [z2, y2] at HRES
          generalize psI ns x 0 = ai at *
          generalize psW ns x 0 = aw at *
          generalize psI ns x 1 = bi at *
          generalize psW ns x 1 = bw at *
          clear hcell hzero hsk hA
          have HC := Lib.hid (And.intro c0 (And.intro c1 (And.intro c2 c3)))
          clear c0 c1 c2 c3
          go_upto_region 20 with (go_at_call 91; refine (l2Result_np2 x.kind x.n x.m ai aw bi bw x.a x.b x.c x.idx x.wid x.name g' cap' _ hcap HPN.out s0 s1 HC.out.1 HC.out.2.1 HC.out.2.2.1 HC.out.2.2.2).mono ?_; rintro e w' ⟨ri, rw', rok, rfl, hbel, hok, hval⟩; have HOK := Lib.hid hok; have HVAL := Lib.hid hval; obtain ⟨u3, hu3⟩ := u.step hbel; subst hu3; clear hok hval hbel)
          have e0 : (u3.val.alloc (.cells #[.int .i64 ri, .int .i64 rw'] 44)).cell? ⟨u3.val.heap.size, 0, none⟩ = some (.int .i64 ri) := by go_simp
          have e1 : (u3.val.alloc (.cells #[.int .i64 ri, .int .i64 rw'] 44)).cell? ⟨u3.val.heap.size, 1, none⟩ = some (.int .i64 rw') := by go_simp
          obtain ⟨u4, hu4⟩ := u3.alloc (.cells #[.int .i64 ri, .int .i64 rw'] 44)
          rw [hu4] at e0 e1 ⊢
          clear hu4
          by_cases hrok : rok = true
          · subst hrok
            obtain ⟨⟨pi, pa⟩, hp⟩ := Option.isSome_iff_exists.1 HOK.out.symm
            have hv := HVAL.out _ hp
            cases hv
            have HP := Lib.hid hp
            clear hp
            go_wp2
            exact bodyPost_ret (v := .tuple #[.agg #[.int .i64 ri, .int .i64 rw'], .bool true]) (by simp [results, Tryz.results71, go_sem, r0, r1]) rfl (retpost_some (HRES.out.trans HP.out) (by repeat (first | exact u4.back HW3.out | refine Below.setCell ?_ (by first | (simp; done) | (simp; omega)) _)))
          · have hrok := eq_false_of_ne_true hrok
            subst hrok
            have HP := Lib.hid (Option.not_isSome_iff_eq_none.1 (by rw [← HOK.out]; exact Bool.noConfusion))
            go_wp2
            exact bodyPost_ret (v := .tuple #[.agg #[.int .i64 0, .int .i64 0], .bool false]) (by simp [results, Tryz.results71, go_sem, r0, r1]) rfl (retpost_none (HRES.out.trans HP.out) (by repeat (first | exact u4.back HW3.out | refine Below.setCell ?_ (by first | (simp; done) | (simp; omega)) _)))
        · skip
          obtain ⟨c0, c1⟩ := hcell 0 (by omega)
          have s0 := sok_of (hsk 0 (by omega))
          obtain ⟨c2, c3⟩ := hcell 1 (by omega)
          have s1 := sok_of (hsk 1 (by omega))
          obtain ⟨c4, c5⟩ := hcell 2 (by omega)
          have s2 := sok_of (hsk 2 (by omega))
          generalize psI ns x 0 = ai at *
          generalize psW ns x 0 = aw at *
          generalize psI ns x 1 = bi at *
          generalize psW ns x 1 = bw at *
          generalize psI ns x 2 = ci at *
          generalize psW ns x 2 = cw at *
          clear hcell hzero hsk hA
          have HC := Lib.hid (And.intro c0 (And.intro c1 (And.intro c2 (And.intro c3 (And.intro c4 c5)))))
          clear c0 c1 c2 c3 c4 c5
          go_upto_region 20 with (go_at_call 91; refine (l2Result_np3 x.kind x.n x.m ai aw bi bw ci cw x.a x.b x.c x.idx x.wid x.name g' cap' _ hcap HPN.out HC.out.1 HC.out.2.1 HC.out.2.2.1 HC.out.2.2.2.1 HC.out.2.2.2.2.1 HC.out.2.2.2.2.2).mono ?_; rintro e w' ⟨ri, rw', rok, rfl, hbel, hok, hval⟩; have HOK := Lib.hid hok; have HVAL := Lib.hid hval; obtain ⟨u3, hu3⟩ := u.step hbel; subst hu3; clear hok hval hbel)
          have e0 : (u3.val.alloc (.cells #[.int .i64 ri, .int .i64 rw'] 44)).cell? ⟨u3.val.heap.size, 0, none⟩ = some (.int .i64 ri) := by go_simp
          have e1 : (u3.val.alloc (.cells #[.int .i64 ri, .int .i64 rw'] 44)).cell? ⟨u3.val.heap.size, 1, none⟩ = some (.int .i64 rw') := by go_simp
          obtain ⟨u4, hu4⟩ := u3.alloc (.cells #[.int .i64 ri, .int .i64 rw'] 44)
          rw [hu4] at e0 e1 ⊢
          clear hu4
          by_cases hrok : rok = true
          · subst hrok
            obtain ⟨⟨pi, pa⟩, hp⟩ := Option.isSome_iff_exists.1 HOK.out.symm
            have hv := HVAL.out _ hp
            cases hv
            have HP := Lib.hid hp
            clear hp
            go_wp2
            exact bodyPost_ret (v := .tuple #[.agg #[.int .i64 ri, .int .i64 rw'], .bool true]) (by simp [results, Tryz.results71, go_sem, r0, r1]) rfl (retpost_some (HRES.out.trans HP.out) (by repeat (first | exact u4.back HW3.out | refine Below.setCell ?_ (by first | (simp; done) | (simp; omega)) _)))
          · have hrok := eq_false_of_ne_true hrok
            subst hrok
            have HP := Lib.hid (Option.not_isSome_iff_eq_none.1 (by rw [← HOK.out]; exact Bool.noConfusion))
            go_wp2
            exact bodyPost_ret (v := .tuple #[.agg #[.int .i64 0, .int .i64 0], .bool false]) (by simp [results, Tryz.results71, go_sem, r0, r1]) rfl (retpost_none (HRES.out.trans HP.out) (by repeat (first | exact u4.back HW3.out | refine Below.setCell ?_ (by first | (simp; done) | (simp; omega)) _)))
end Go.Proofs.YtdojaijnejcoiaaGreat
