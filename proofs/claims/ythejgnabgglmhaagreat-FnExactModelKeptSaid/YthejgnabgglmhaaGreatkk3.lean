import Derived.Test.YthejgnabgglmhaaGreatkk0
import Derived.Test.YthejgnabgglmhaaGreatkk2
import Derived.Deep.RegionHeld3
import Derived.LoopN
set_option linter.unusedVariables false
set_option linter.unusedSimpArgs false
set_option maxRecDepth 8000
set_option maxHeartbeats 16000000
namespace Go.Proofs.YthejgnabgglmhaaGreat
open Go.RowKit
attribute [local go_sem high] eq_sort
def resN (kind n m ai aw bi bw ci cw : Int) : Option (Int × Int) :=
 if kind = 33 then (if (ai == 0 && (aw == 1)) && (bi == ci && (bw == cw)) then some (bi, bw) else none)
 else if kind = 37 then (if decide (0 < ai) && (bi == 0 && (bw == ai)) then some (0, aw) else none)
 else if kind = 38 then (if decide (0 < ai) && ((bi == 0 && (bw == ai)) && (ci == 0 && (cw == aw))) then some (ai, aw) else none)
 else if kind = 21 then (if ai == bi && (aw == bw) then some (0, 1) else none)
 else if ¬ ai = 0 ∨ ¬ bi = 0 then none
 else if kind = 29 then (if aw + bw ≤ 16 then some (0, aw + bw) else none)
 else if kind = 30 then (if 0 ≤ m ∧ m ≤ n ∧ n < aw then some (0, n - m + 1) else none)
 else if kind = 31 ∨ kind = 32 then (if 0 ≤ n ∧ n ≤ 16 - aw then some (0, aw + n) else none)
 else if kind ≤ 2 then some (0, aw)
 else if kind ≤ 5 then some (0, 1)
 else if aw = bw then some (if kind ≤ 20 then (0, aw) else (0, 1)) else none
def ResPost (r : Option (Int × Int)) (w : World) (e : Ending) (w' : World) : Prop :=
 ∃ (i a : Int) (ok : Bool), e = .returned (.tuple #[.agg #[.int .i64 i, .int .i64 a], .bool ok]) ∧ Below w.heap.size w w' ∧ ok = r.isSome ∧ ∀ p, r = some p → (i, a) = p
theorem respost_some {r : Option (Int × Int)} {i a : Int} {w w' : World} (h : r = some (i, a)) (hb : Below w.heap.size w w') : ResPost r w (.returned (.tuple #[.agg #[.int .i64 i, .int .i64 a], .bool true])) w' :=
 ⟨i, a, true, rfl, hb, by rw [h]; rfl, fun p hp => by rw [h] at hp; exact Option.some.inj hp⟩
theorem respost_none {r : Option (Int × Int)} {i a : Int} {w w' : World} (h : r = none) (hb : Below w.heap.size w w') : ResPost r w (.returned (.tuple #[.agg #[.int .i64 i, .int .i64 a], .bool false])) w' :=
 ⟨i, a, false, rfl, hb, by rw [h]; rfl, fun p hp => by rw [h] at hp; cases hp⟩
theorem res_world (k n m xa xb xc xi xw : Int) (nm : ByteArray) (w : World) : ∃ w2, ((w.alloc (Obj.cells #[.int .i64 k, .int .i64 xa, .int .i64 xb, .int .i64 xc, .int .i64 n, .int .i64 m, .int .i64 xi, .int .i64 xw, .string nm] 62)).alloc (Obj.cells #[.int .i64 0, .int .i64 0] 60)) = w2 ∧ Hid (Below w.heap.size w w2) ∧
 (∀ l : Later w2, l.val.cell? ⟨w.heap.size, 0, none⟩ = some (.int .i64 k)) ∧ (∀ l : Later w2, l.val.cell? ⟨w.heap.size, 4, none⟩ = some (.int .i64 n)) ∧ (∀ l : Later w2, l.val.cell? ⟨w.heap.size, 5, none⟩ = some (.int .i64 m)) ∧
 (∀ l : Later w2, l.val.cell? ⟨w.heap.size + 1, 0, none⟩ = some (.int .i64 0)) ∧ (∀ l : Later w2, l.val.cell? ⟨w.heap.size + 1, 1, none⟩ = some (.int .i64 0)) ∧ (∀ l : Later w2, l.val.frozen? ⟨w.heap.size + 1, 0, none⟩ = false) ∧ (∀ l : Later w2, l.val.frozen? ⟨w.heap.size + 1, 1, none⟩ = false) := by
 refine ⟨_, rfl, Lib.hid ((box_below _ _ _).alloc (by simp) _), Later.cell ?_, Later.cell ?_, Later.cell ?_, Later.cell ?_, Later.cell ?_, Later.frozen ?_ ?_, Later.frozen ?_ ?_⟩
 all_goals first | go_simp | simp
theorem l2Result_33_0 (n m ai aw bi bw ci cw xa xb xc xi xw : Int) (nm : ByteArray) (g cap : Nat) (w : World) (hcap : 3 ≤ cap) (c0 : w.cell? ⟨g, 0, none⟩ = some (.int .i64 ai)) (c1 : w.cell? ⟨g, 1, none⟩ = some (.int .i64 aw)) (c2 : w.cell? ⟨g, 2, none⟩ = some (.int .i64 bi)) (c3 : w.cell? ⟨g, 3, none⟩ = some (.int .i64 bw)) (c4 : w.cell? ⟨g, 4, none⟩ = some (.int .i64 ci)) (c5 : w.cell? ⟨g, 5, none⟩ = some (.int .i64 cw)) (h0 : (ai == 0) = false) :
 Calls Tryz.prog 78 #[.agg #[.int .i64 33, .int .i64 xa, .int .i64 xb, .int .i64 xc, .int .i64 n, .int .i64 m, .int .i64 xi, .int .i64 xw, .string nm], .slice (some ⟨g, 0, none⟩) 3 cap] w (ResPost (resN 33 n m ai aw bi bw ci cw) w) := by
 have hlt : g < w.heap.size := World.block_lt_of_cell? _ _ c0
 have HR := Lib.hid (show resN 33 n m ai aw bi bw ci cw = none by unfold resN; simp only [h0, Bool.and_false, Bool.false_and, Bool.true_and, Bool.and_true]; rfl)
 go_enter Tryz.func78, Tryz.ntmps78
 go_wp2
 obtain ⟨w2, hw2, HB, b0, b4, b5, r0, r1, f0, f1⟩ := res_world 33 n m xa xb xc xi xw nm w
 rw [hw2]
 clear hw2
 have c0 := back_cell c0 HB.out
 have c1 := back_cell c1 HB.out
 have c2 := back_cell c2 HB.out
 have c3 := back_cell c3 HB.out
 have c4 := back_cell c4 HB.out
 have c5 := back_cell c5 HB.out
 refine wp_region_two (G := w.heap.size + 1) 17 (.int .i64 bi) (.int .i64 bw) (by kernel_rfl) (by kernel_rfl) rfl (by kernel_rfl) HB.out (Nat.le_succ _) r0 r1 f0 f1 ?_
 apply Exists.intro
 refine ⟨fun W hk => ?_, ?_, ?_, ?_⟩
 · have hg : g < w.heap.size + 1 := Nat.lt_succ_of_lt hlt
   have d0 := hk _ _ _ hg c0; have d1 := hk _ _ _ hg c1; have d2 := hk _ _ _ hg c2; have d3 := hk _ _ _ hg c3; have d4 := hk _ _ _ hg c4; have d5 := hk _ _ _ hg c5
   clear hk
   simp only [List.take_succ_cons, List.take_zero]
   repeat (go_big_quiet_step ((go_at_call 59; exact Calls.later (l2Word_calls _ _))))
   exact wpQuiet_nil rfl
 · rfl
 · intro u s0 s1 t0 t1
   go_simp
 · intro u hb s0 s1
   have hbel := Lib.hid hb
   simp only [List.drop_succ_cons, List.drop_zero]
   clear r0 r1 f0 f1 hb
   go_wp2
   exact bodyPost_ret (v := .tuple #[.agg #[.int .i64 bi, .int .i64 bw], .bool false]) (by simp [results, Tryz.results78, go_sem, s0, s1]) rfl (respost_none HR.out hbel.out)
theorem l2Result_33_1 (n m ai aw bi bw ci cw xa xb xc xi xw : Int) (nm : ByteArray) (g cap : Nat) (w : World) (hcap : 3 ≤ cap) (c0 : w.cell? ⟨g, 0, none⟩ = some (.int .i64 ai)) (c1 : w.cell? ⟨g, 1, none⟩ = some (.int .i64 aw)) (c2 : w.cell? ⟨g, 2, none⟩ = some (.int .i64 bi)) (c3 : w.cell? ⟨g, 3, none⟩ = some (.int .i64 bw)) (c4 : w.cell? ⟨g, 4, none⟩ = some (.int .i64 ci)) (c5 : w.cell? ⟨g, 5, none⟩ = some (.int .i64 cw)) (h0 : (ai == 0) = true) (h1 : (aw == 1) = false) :
 Calls Tryz.prog 78 #[.agg #[.int .i64 33, .int .i64 xa, .int .i64 xb, .int .i64 xc, .int .i64 n, .int .i64 m, .int .i64 xi, .int .i64 xw, .string nm], .slice (some ⟨g, 0, none⟩) 3 cap] w (ResPost (resN 33 n m ai aw bi bw ci cw) w) := by
 have hlt : g < w.heap.size := World.block_lt_of_cell? _ _ c0
 have HR := Lib.hid (show resN 33 n m ai aw bi bw ci cw = none by unfold resN; simp only [h0, h1, Bool.and_false, Bool.false_and, Bool.true_and, Bool.and_true]; rfl)
 go_enter Tryz.func78, Tryz.ntmps78
 go_wp2
 obtain ⟨w2, hw2, HB, b0, b4, b5, r0, r1, f0, f1⟩ := res_world 33 n m xa xb xc xi xw nm w
 rw [hw2]
 clear hw2
 have c0 := back_cell c0 HB.out
 have c1 := back_cell c1 HB.out
 have c2 := back_cell c2 HB.out
 have c3 := back_cell c3 HB.out
 have c4 := back_cell c4 HB.out
 have c5 := back_cell c5 HB.out
 refine wp_region_two (G := w.heap.size + 1) 17 (.int .i64 bi) (.int .i64 bw) (by kernel_rfl) (by kernel_rfl) rfl (by kernel_rfl) HB.out (Nat.le_succ _) r0 r1 f0 f1 ?_
 apply Exists.intro
 refine ⟨fun W hk => ?_, ?_, ?_, ?_⟩
 · have hg : g < w.heap.size + 1 := Nat.lt_succ_of_lt hlt
   have d0 := hk _ _ _ hg c0; have d1 := hk _ _ _ hg c1; have d2 := hk _ _ _ hg c2; have d3 := hk _ _ _ hg c3; have d4 := hk _ _ _ hg c4; have d5 := hk _ _ _ hg c5
   clear hk
   simp only [List.take_succ_cons, List.take_zero]
   repeat (go_big_quiet_step ((go_at_call 59; exact Calls.later (l2Word_calls _ _))))
   exact wpQuiet_nil rfl
 · rfl
 · intro u s0 s1 t0 t1
   go_simp
 · intro u hb s0 s1
   have hbel := Lib.hid hb
   simp only [List.drop_succ_cons, List.drop_zero]
   clear r0 r1 f0 f1 hb
   go_wp2
   exact bodyPost_ret (v := .tuple #[.agg #[.int .i64 bi, .int .i64 bw], .bool false]) (by simp [results, Tryz.results78, go_sem, s0, s1]) rfl (respost_none HR.out hbel.out)
theorem l2Result_33_2 (n m ai aw bi bw ci cw xa xb xc xi xw : Int) (nm : ByteArray) (g cap : Nat) (w : World) (hcap : 3 ≤ cap) (c0 : w.cell? ⟨g, 0, none⟩ = some (.int .i64 ai)) (c1 : w.cell? ⟨g, 1, none⟩ = some (.int .i64 aw)) (c2 : w.cell? ⟨g, 2, none⟩ = some (.int .i64 bi)) (c3 : w.cell? ⟨g, 3, none⟩ = some (.int .i64 bw)) (c4 : w.cell? ⟨g, 4, none⟩ = some (.int .i64 ci)) (c5 : w.cell? ⟨g, 5, none⟩ = some (.int .i64 cw)) (h0 : (ai == 0) = true) (h1 : (aw == 1) = true) (h2 : (bi == ci) = false) :
 Calls Tryz.prog 78 #[.agg #[.int .i64 33, .int .i64 xa, .int .i64 xb, .int .i64 xc, .int .i64 n, .int .i64 m, .int .i64 xi, .int .i64 xw, .string nm], .slice (some ⟨g, 0, none⟩) 3 cap] w (ResPost (resN 33 n m ai aw bi bw ci cw) w) := by
 have hlt : g < w.heap.size := World.block_lt_of_cell? _ _ c0
 have HR := Lib.hid (show resN 33 n m ai aw bi bw ci cw = none by unfold resN; simp only [h0, h1, h2, Bool.and_false, Bool.false_and, Bool.true_and, Bool.and_true]; rfl)
 go_enter Tryz.func78, Tryz.ntmps78
 go_wp2
 obtain ⟨w2, hw2, HB, b0, b4, b5, r0, r1, f0, f1⟩ := res_world 33 n m xa xb xc xi xw nm w
 rw [hw2]
 clear hw2
 have c0 := back_cell c0 HB.out
 have c1 := back_cell c1 HB.out
 have c2 := back_cell c2 HB.out
 have c3 := back_cell c3 HB.out
 have c4 := back_cell c4 HB.out
 have c5 := back_cell c5 HB.out
 refine wp_region_two (G := w.heap.size + 1) 17 (.int .i64 bi) (.int .i64 bw) (by kernel_rfl) (by kernel_rfl) rfl (by kernel_rfl) HB.out (Nat.le_succ _) r0 r1 f0 f1 ?_
 apply Exists.intro
 refine ⟨fun W hk => ?_, ?_, ?_, ?_⟩
 · have hg : g < w.heap.size + 1 := Nat.lt_succ_of_lt hlt
   have d0 := hk _ _ _ hg c0; have d1 := hk _ _ _ hg c1; have d2 := hk _ _ _ hg c2; have d3 := hk _ _ _ hg c3; have d4 := hk _ _ _ hg c4; have d5 := hk _ _ _ hg c5
   clear hk
   simp only [List.take_succ_cons, List.take_zero]
   repeat (go_big_quiet_step ((go_at_call 59; exact Calls.later (l2Word_calls _ _))))
   exact wpQuiet_nil rfl
 · rfl
 · intro u s0 s1 t0 t1
   go_simp
 · intro u hb s0 s1
   have hbel := Lib.hid hb
   simp only [List.drop_succ_cons, List.drop_zero]
   clear r0 r1 f0 f1 hb
   go_wp2
   exact bodyPost_ret (v := .tuple #[.agg #[.int .i64 bi, .int .i64 bw], .bool false]) (by simp [results, Tryz.results78, go_sem, s0, s1]) rfl (respost_none HR.out hbel.out)
theorem l2Result_33_3 (n m ai aw bi bw ci cw xa xb xc xi xw : Int) (nm : ByteArray) (g cap : Nat) (w : World) (hcap : 3 ≤ cap) (c0 : w.cell? ⟨g, 0, none⟩ = some (.int .i64 ai)) (c1 : w.cell? ⟨g, 1, none⟩ = some (.int .i64 aw)) (c2 : w.cell? ⟨g, 2, none⟩ = some (.int .i64 bi)) (c3 : w.cell? ⟨g, 3, none⟩ = some (.int .i64 bw)) (c4 : w.cell? ⟨g, 4, none⟩ = some (.int .i64 ci)) (c5 : w.cell? ⟨g, 5, none⟩ = some (.int .i64 cw)) (h0 : (ai == 0) = true) (h1 : (aw == 1) = true) (h2 : (bi == ci) = true) (h3 : (bw == cw) = false) :
 Calls Tryz.prog 78 #[.agg #[.int .i64 33, .int .i64 xa, .int .i64 xb, .int .i64 xc, .int .i64 n, .int .i64 m, .int .i64 xi, .int .i64 xw, .string nm], .slice (some ⟨g, 0, none⟩) 3 cap] w (ResPost (resN 33 n m ai aw bi bw ci cw) w) := by
 have hlt : g < w.heap.size := World.block_lt_of_cell? _ _ c0
 have HR := Lib.hid (show resN 33 n m ai aw bi bw ci cw = none by unfold resN; simp only [h0, h1, h2, h3, Bool.and_false, Bool.false_and, Bool.true_and, Bool.and_true]; rfl)
 go_enter Tryz.func78, Tryz.ntmps78
 go_wp2
 obtain ⟨w2, hw2, HB, b0, b4, b5, r0, r1, f0, f1⟩ := res_world 33 n m xa xb xc xi xw nm w
 rw [hw2]
 clear hw2
 have c0 := back_cell c0 HB.out
 have c1 := back_cell c1 HB.out
 have c2 := back_cell c2 HB.out
 have c3 := back_cell c3 HB.out
 have c4 := back_cell c4 HB.out
 have c5 := back_cell c5 HB.out
 refine wp_region_two (G := w.heap.size + 1) 17 (.int .i64 bi) (.int .i64 bw) (by kernel_rfl) (by kernel_rfl) rfl (by kernel_rfl) HB.out (Nat.le_succ _) r0 r1 f0 f1 ?_
 apply Exists.intro
 refine ⟨fun W hk => ?_, ?_, ?_, ?_⟩
 · have hg : g < w.heap.size + 1 := Nat.lt_succ_of_lt hlt
   have d0 := hk _ _ _ hg c0; have d1 := hk _ _ _ hg c1; have d2 := hk _ _ _ hg c2; have d3 := hk _ _ _ hg c3; have d4 := hk _ _ _ hg c4; have d5 := hk _ _ _ hg c5
   clear hk
   simp only [List.take_succ_cons, List.take_zero]
   repeat (go_big_quiet_step ((go_at_call 59; exact Calls.later (l2Word_calls _ _))))
   exact wpQuiet_nil rfl
 · rfl
 · intro u s0 s1 t0 t1
   go_simp
 · intro u hb s0 s1
   have hbel := Lib.hid hb
   simp only [List.drop_succ_cons, List.drop_zero]
   clear r0 r1 f0 f1 hb
   go_wp2
   exact bodyPost_ret (v := .tuple #[.agg #[.int .i64 bi, .int .i64 bw], .bool false]) (by simp [results, Tryz.results78, go_sem, s0, s1]) rfl (respost_none HR.out hbel.out)
theorem l2Result_33_4 (n m ai aw bi bw ci cw xa xb xc xi xw : Int) (nm : ByteArray) (g cap : Nat) (w : World) (hcap : 3 ≤ cap) (c0 : w.cell? ⟨g, 0, none⟩ = some (.int .i64 ai)) (c1 : w.cell? ⟨g, 1, none⟩ = some (.int .i64 aw)) (c2 : w.cell? ⟨g, 2, none⟩ = some (.int .i64 bi)) (c3 : w.cell? ⟨g, 3, none⟩ = some (.int .i64 bw)) (c4 : w.cell? ⟨g, 4, none⟩ = some (.int .i64 ci)) (c5 : w.cell? ⟨g, 5, none⟩ = some (.int .i64 cw)) (h0 : (ai == 0) = true) (h1 : (aw == 1) = true) (h2 : (bi == ci) = true) (h3 : (bw == cw) = true) :
 Calls Tryz.prog 78 #[.agg #[.int .i64 33, .int .i64 xa, .int .i64 xb, .int .i64 xc, .int .i64 n, .int .i64 m, .int .i64 xi, .int .i64 xw, .string nm], .slice (some ⟨g, 0, none⟩) 3 cap] w (ResPost (resN 33 n m ai aw bi bw ci cw) w) := by
 have hlt : g < w.heap.size := World.block_lt_of_cell? _ _ c0
 have HR := Lib.hid (show resN 33 n m ai aw bi bw ci cw = some (bi, bw) by unfold resN; simp only [h0, h1, h2, h3]; rfl)
 go_enter Tryz.func78, Tryz.ntmps78
 go_wp2
 obtain ⟨w2, hw2, HB, b0, b4, b5, r0, r1, f0, f1⟩ := res_world 33 n m xa xb xc xi xw nm w
 rw [hw2]
 clear hw2
 have c0 := back_cell c0 HB.out
 have c1 := back_cell c1 HB.out
 have c2 := back_cell c2 HB.out
 have c3 := back_cell c3 HB.out
 have c4 := back_cell c4 HB.out
 have c5 := back_cell c5 HB.out
 refine wp_region_two (G := w.heap.size + 1) 17 (.int .i64 bi) (.int .i64 bw) (by kernel_rfl) (by kernel_rfl) rfl (by kernel_rfl) HB.out (Nat.le_succ _) r0 r1 f0 f1 ?_
 apply Exists.intro
 refine ⟨fun W hk => ?_, ?_, ?_, ?_⟩
 · have hg : g < w.heap.size + 1 := Nat.lt_succ_of_lt hlt
   have d0 := hk _ _ _ hg c0; have d1 := hk _ _ _ hg c1; have d2 := hk _ _ _ hg c2; have d3 := hk _ _ _ hg c3; have d4 := hk _ _ _ hg c4; have d5 := hk _ _ _ hg c5
   clear hk
   simp only [List.take_succ_cons, List.take_zero]
   repeat (go_big_quiet_step ((go_at_call 59; exact Calls.later (l2Word_calls _ _))))
   exact wpQuiet_nil rfl
 · rfl
 · intro u s0 s1 t0 t1
   go_simp
 · intro u hb s0 s1
   have hbel := Lib.hid hb
   simp only [List.drop_succ_cons, List.drop_zero]
   clear r0 r1 f0 f1 hb
   go_wp2
   exact bodyPost_ret (v := .tuple #[.agg #[.int .i64 bi, .int .i64 bw], .bool true]) (by simp [results, Tryz.results78, go_sem, s0, s1]) rfl (respost_some HR.out hbel.out)
theorem l2Result_33 (n m ai aw bi bw ci cw xa xb xc xi xw : Int) (nm : ByteArray) (g cap : Nat) (w : World) (hcap : 3 ≤ cap) (c0 : w.cell? ⟨g, 0, none⟩ = some (.int .i64 ai)) (c1 : w.cell? ⟨g, 1, none⟩ = some (.int .i64 aw)) (c2 : w.cell? ⟨g, 2, none⟩ = some (.int .i64 bi)) (c3 : w.cell? ⟨g, 3, none⟩ = some (.int .i64 bw)) (c4 : w.cell? ⟨g, 4, none⟩ = some (.int .i64 ci)) (c5 : w.cell? ⟨g, 5, none⟩ = some (.int .i64 cw)) :
 Calls Tryz.prog 78 #[.agg #[.int .i64 33, .int .i64 xa, .int .i64 xb, .int .i64 xc, .int .i64 n, .int .i64 m, .int .i64 xi, .int .i64 xw, .string nm], .slice (some ⟨g, 0, none⟩) 3 cap] w (ResPost (resN 33 n m ai aw bi bw ci cw) w) := by
 by_cases h0 : (ai == 0) = true
 rotate_left
 · exact l2Result_33_0 n m ai aw bi bw ci cw xa xb xc xi xw nm g cap w hcap c0 c1 c2 c3 c4 c5  (eq_false_of_ne_true h0)
 by_cases h1 : (aw == 1) = true
 rotate_left
 · exact l2Result_33_1 n m ai aw bi bw ci cw xa xb xc xi xw nm g cap w hcap c0 c1 c2 c3 c4 c5 h0 (eq_false_of_ne_true h1)
 by_cases h2 : (bi == ci) = true
 rotate_left
 · exact l2Result_33_2 n m ai aw bi bw ci cw xa xb xc xi xw nm g cap w hcap c0 c1 c2 c3 c4 c5 h0 h1 (eq_false_of_ne_true h2)
 by_cases h3 : (bw == cw) = true
 rotate_left
 · exact l2Result_33_3 n m ai aw bi bw ci cw xa xb xc xi xw nm g cap w hcap c0 c1 c2 c3 c4 c5 h0 h1 h2 (eq_false_of_ne_true h3)
 exact l2Result_33_4 n m ai aw bi bw ci cw xa xb xc xi xw nm g cap w hcap c0 c1 c2 c3 c4 c5 h0 h1 h2 h3
theorem l2Result_37_0 (n m ai aw bi bw ci cw xa xb xc xi xw : Int) (nm : ByteArray) (g cap : Nat) (w : World) (hcap : 2 ≤ cap) (c0 : w.cell? ⟨g, 0, none⟩ = some (.int .i64 ai)) (c1 : w.cell? ⟨g, 1, none⟩ = some (.int .i64 aw)) (c2 : w.cell? ⟨g, 2, none⟩ = some (.int .i64 bi)) (c3 : w.cell? ⟨g, 3, none⟩ = some (.int .i64 bw)) (h0 : (decide (0 < ai)) = false) :
 Calls Tryz.prog 78 #[.agg #[.int .i64 37, .int .i64 xa, .int .i64 xb, .int .i64 xc, .int .i64 n, .int .i64 m, .int .i64 xi, .int .i64 xw, .string nm], .slice (some ⟨g, 0, none⟩) 2 cap] w (ResPost (resN 37 n m ai aw bi bw ci cw) w) := by
 have hlt : g < w.heap.size := World.block_lt_of_cell? _ _ c0
 have HR := Lib.hid (show resN 37 n m ai aw bi bw ci cw = none by unfold resN; simp only [h0, Bool.and_false, Bool.false_and, Bool.true_and, Bool.and_true]; rfl)
 go_enter Tryz.func78, Tryz.ntmps78
 go_wp2
 obtain ⟨w2, hw2, HB, b0, b4, b5, r0, r1, f0, f1⟩ := res_world 37 n m xa xb xc xi xw nm w
 rw [hw2]
 clear hw2
 have c0 := back_cell c0 HB.out
 have c1 := back_cell c1 HB.out
 have c2 := back_cell c2 HB.out
 have c3 := back_cell c3 HB.out
 refine wp_region_two (G := w.heap.size + 1) 21 (.int .i64 0) (.int .i64 aw) (by kernel_rfl) (by kernel_rfl) rfl (by kernel_rfl) HB.out (Nat.le_succ _) r0 r1 f0 f1 ?_
 apply Exists.intro
 refine ⟨fun W hk => ?_, ?_, ?_, ?_⟩
 · have hg : g < w.heap.size + 1 := Nat.lt_succ_of_lt hlt
   have d0 := hk _ _ _ hg c0; have d1 := hk _ _ _ hg c1; have d2 := hk _ _ _ hg c2; have d3 := hk _ _ _ hg c3
   clear hk
   simp only [List.take_succ_cons, List.take_zero]
   repeat (go_big_quiet_step ((go_at_call 59; exact Calls.later (l2Word_calls _ _))))
   exact wpQuiet_nil rfl
 · rfl
 · intro u s0 s1 t0 t1
   go_simp
 · intro u hb s0 s1
   have hbel := Lib.hid hb
   simp only [List.drop_succ_cons, List.drop_zero]
   clear r0 r1 f0 f1 hb
   go_wp2
   exact bodyPost_ret (v := .tuple #[.agg #[.int .i64 0, .int .i64 aw], .bool false]) (by simp [results, Tryz.results78, go_sem, s0, s1]) rfl (respost_none HR.out hbel.out)
theorem l2Result_37_1 (n m ai aw bi bw ci cw xa xb xc xi xw : Int) (nm : ByteArray) (g cap : Nat) (w : World) (hcap : 2 ≤ cap) (c0 : w.cell? ⟨g, 0, none⟩ = some (.int .i64 ai)) (c1 : w.cell? ⟨g, 1, none⟩ = some (.int .i64 aw)) (c2 : w.cell? ⟨g, 2, none⟩ = some (.int .i64 bi)) (c3 : w.cell? ⟨g, 3, none⟩ = some (.int .i64 bw)) (h0 : (decide (0 < ai)) = true) (h1 : (bi == 0) = false) :
 Calls Tryz.prog 78 #[.agg #[.int .i64 37, .int .i64 xa, .int .i64 xb, .int .i64 xc, .int .i64 n, .int .i64 m, .int .i64 xi, .int .i64 xw, .string nm], .slice (some ⟨g, 0, none⟩) 2 cap] w (ResPost (resN 37 n m ai aw bi bw ci cw) w) := by
 have hlt : g < w.heap.size := World.block_lt_of_cell? _ _ c0
 have HR := Lib.hid (show resN 37 n m ai aw bi bw ci cw = none by unfold resN; simp only [h0, h1, Bool.and_false, Bool.false_and, Bool.true_and, Bool.and_true]; rfl)
 go_enter Tryz.func78, Tryz.ntmps78
 go_wp2
 obtain ⟨w2, hw2, HB, b0, b4, b5, r0, r1, f0, f1⟩ := res_world 37 n m xa xb xc xi xw nm w
 rw [hw2]
 clear hw2
 have c0 := back_cell c0 HB.out
 have c1 := back_cell c1 HB.out
 have c2 := back_cell c2 HB.out
 have c3 := back_cell c3 HB.out
 refine wp_region_two (G := w.heap.size + 1) 21 (.int .i64 0) (.int .i64 aw) (by kernel_rfl) (by kernel_rfl) rfl (by kernel_rfl) HB.out (Nat.le_succ _) r0 r1 f0 f1 ?_
 apply Exists.intro
 refine ⟨fun W hk => ?_, ?_, ?_, ?_⟩
 · have hg : g < w.heap.size + 1 := Nat.lt_succ_of_lt hlt
   have d0 := hk _ _ _ hg c0; have d1 := hk _ _ _ hg c1; have d2 := hk _ _ _ hg c2; have d3 := hk _ _ _ hg c3
   clear hk
   simp only [List.take_succ_cons, List.take_zero]
   repeat (go_big_quiet_step ((go_at_call 59; exact Calls.later (l2Word_calls _ _))))
   exact wpQuiet_nil rfl
 · rfl
 · intro u s0 s1 t0 t1
   go_simp
 · intro u hb s0 s1
   have hbel := Lib.hid hb
   simp only [List.drop_succ_cons, List.drop_zero]
   clear r0 r1 f0 f1 hb
   go_wp2
   exact bodyPost_ret (v := .tuple #[.agg #[.int .i64 0, .int .i64 aw], .bool false]) (by simp [results, Tryz.results78, go_sem, s0, s1]) rfl (respost_none HR.out hbel.out)
theorem l2Result_37_2 (n m ai aw bi bw ci cw xa xb xc xi xw : Int) (nm : ByteArray) (g cap : Nat) (w : World) (hcap : 2 ≤ cap) (c0 : w.cell? ⟨g, 0, none⟩ = some (.int .i64 ai)) (c1 : w.cell? ⟨g, 1, none⟩ = some (.int .i64 aw)) (c2 : w.cell? ⟨g, 2, none⟩ = some (.int .i64 bi)) (c3 : w.cell? ⟨g, 3, none⟩ = some (.int .i64 bw)) (h0 : (decide (0 < ai)) = true) (h1 : (bi == 0) = true) (h2 : (bw == ai) = false) :
 Calls Tryz.prog 78 #[.agg #[.int .i64 37, .int .i64 xa, .int .i64 xb, .int .i64 xc, .int .i64 n, .int .i64 m, .int .i64 xi, .int .i64 xw, .string nm], .slice (some ⟨g, 0, none⟩) 2 cap] w (ResPost (resN 37 n m ai aw bi bw ci cw) w) := by
 have hlt : g < w.heap.size := World.block_lt_of_cell? _ _ c0
 have HR := Lib.hid (show resN 37 n m ai aw bi bw ci cw = none by unfold resN; simp only [h0, h1, h2, Bool.and_false, Bool.false_and, Bool.true_and, Bool.and_true]; rfl)
 go_enter Tryz.func78, Tryz.ntmps78
 go_wp2
 obtain ⟨w2, hw2, HB, b0, b4, b5, r0, r1, f0, f1⟩ := res_world 37 n m xa xb xc xi xw nm w
 rw [hw2]
 clear hw2
 have c0 := back_cell c0 HB.out
 have c1 := back_cell c1 HB.out
 have c2 := back_cell c2 HB.out
 have c3 := back_cell c3 HB.out
 refine wp_region_two (G := w.heap.size + 1) 21 (.int .i64 0) (.int .i64 aw) (by kernel_rfl) (by kernel_rfl) rfl (by kernel_rfl) HB.out (Nat.le_succ _) r0 r1 f0 f1 ?_
 apply Exists.intro
 refine ⟨fun W hk => ?_, ?_, ?_, ?_⟩
 · have hg : g < w.heap.size + 1 := Nat.lt_succ_of_lt hlt
   have d0 := hk _ _ _ hg c0; have d1 := hk _ _ _ hg c1; have d2 := hk _ _ _ hg c2; have d3 := hk _ _ _ hg c3
   clear hk
   simp only [List.take_succ_cons, List.take_zero]
   repeat (go_big_quiet_step ((go_at_call 59; exact Calls.later (l2Word_calls _ _))))
   exact wpQuiet_nil rfl
 · rfl
 · intro u s0 s1 t0 t1
   go_simp
 · intro u hb s0 s1
   have hbel := Lib.hid hb
   simp only [List.drop_succ_cons, List.drop_zero]
   clear r0 r1 f0 f1 hb
   go_wp2
   exact bodyPost_ret (v := .tuple #[.agg #[.int .i64 0, .int .i64 aw], .bool false]) (by simp [results, Tryz.results78, go_sem, s0, s1]) rfl (respost_none HR.out hbel.out)
theorem l2Result_37_3 (n m ai aw bi bw ci cw xa xb xc xi xw : Int) (nm : ByteArray) (g cap : Nat) (w : World) (hcap : 2 ≤ cap) (c0 : w.cell? ⟨g, 0, none⟩ = some (.int .i64 ai)) (c1 : w.cell? ⟨g, 1, none⟩ = some (.int .i64 aw)) (c2 : w.cell? ⟨g, 2, none⟩ = some (.int .i64 bi)) (c3 : w.cell? ⟨g, 3, none⟩ = some (.int .i64 bw)) (h0 : (decide (0 < ai)) = true) (h1 : (bi == 0) = true) (h2 : (bw == ai) = true) :
 Calls Tryz.prog 78 #[.agg #[.int .i64 37, .int .i64 xa, .int .i64 xb, .int .i64 xc, .int .i64 n, .int .i64 m, .int .i64 xi, .int .i64 xw, .string nm], .slice (some ⟨g, 0, none⟩) 2 cap] w (ResPost (resN 37 n m ai aw bi bw ci cw) w) := by
 have hlt : g < w.heap.size := World.block_lt_of_cell? _ _ c0
 have HR := Lib.hid (show resN 37 n m ai aw bi bw ci cw = some (0, aw) by unfold resN; simp only [h0, h1, h2]; rfl)
 go_enter Tryz.func78, Tryz.ntmps78
 go_wp2
 obtain ⟨w2, hw2, HB, b0, b4, b5, r0, r1, f0, f1⟩ := res_world 37 n m xa xb xc xi xw nm w
 rw [hw2]
 clear hw2
 have c0 := back_cell c0 HB.out
 have c1 := back_cell c1 HB.out
 have c2 := back_cell c2 HB.out
 have c3 := back_cell c3 HB.out
 refine wp_region_two (G := w.heap.size + 1) 21 (.int .i64 0) (.int .i64 aw) (by kernel_rfl) (by kernel_rfl) rfl (by kernel_rfl) HB.out (Nat.le_succ _) r0 r1 f0 f1 ?_
 apply Exists.intro
 refine ⟨fun W hk => ?_, ?_, ?_, ?_⟩
 · have hg : g < w.heap.size + 1 := Nat.lt_succ_of_lt hlt
   have d0 := hk _ _ _ hg c0; have d1 := hk _ _ _ hg c1; have d2 := hk _ _ _ hg c2; have d3 := hk _ _ _ hg c3
   clear hk
   simp only [List.take_succ_cons, List.take_zero]
   repeat (go_big_quiet_step ((go_at_call 59; exact Calls.later (l2Word_calls _ _))))
   exact wpQuiet_nil rfl
 · rfl
 · intro u s0 s1 t0 t1
   go_simp
 · intro u hb s0 s1
   have hbel := Lib.hid hb
   simp only [List.drop_succ_cons, List.drop_zero]
   clear r0 r1 f0 f1 hb
   go_wp2
   exact bodyPost_ret (v := .tuple #[.agg #[.int .i64 0, .int .i64 aw], .bool true]) (by simp [results, Tryz.results78, go_sem, s0, s1]) rfl (respost_some HR.out hbel.out)
theorem l2Result_37 (n m ai aw bi bw ci cw xa xb xc xi xw : Int) (nm : ByteArray) (g cap : Nat) (w : World) (hcap : 2 ≤ cap) (c0 : w.cell? ⟨g, 0, none⟩ = some (.int .i64 ai)) (c1 : w.cell? ⟨g, 1, none⟩ = some (.int .i64 aw)) (c2 : w.cell? ⟨g, 2, none⟩ = some (.int .i64 bi)) (c3 : w.cell? ⟨g, 3, none⟩ = some (.int .i64 bw)) :
 Calls Tryz.prog 78 #[.agg #[.int .i64 37, .int .i64 xa, .int .i64 xb, .int .i64 xc, .int .i64 n, .int .i64 m, .int .i64 xi, .int .i64 xw, .string nm], .slice (some ⟨g, 0, none⟩) 2 cap] w (ResPost (resN 37 n m ai aw bi bw ci cw) w) := by
 by_cases h0 : (decide (0 < ai)) = true
 rotate_left
 · exact l2Result_37_0 n m ai aw bi bw ci cw xa xb xc xi xw nm g cap w hcap c0 c1 c2 c3  (eq_false_of_ne_true h0)
 by_cases h1 : (bi == 0) = true
 rotate_left
 · exact l2Result_37_1 n m ai aw bi bw ci cw xa xb xc xi xw nm g cap w hcap c0 c1 c2 c3 h0 (eq_false_of_ne_true h1)
 by_cases h2 : (bw == ai) = true
 rotate_left
 · exact l2Result_37_2 n m ai aw bi bw ci cw xa xb xc xi xw nm g cap w hcap c0 c1 c2 c3 h0 h1 (eq_false_of_ne_true h2)
 exact l2Result_37_3 n m ai aw bi bw ci cw xa xb xc xi xw nm g cap w hcap c0 c1 c2 c3 h0 h1 h2
theorem l2Result_38_0 (n m ai aw bi bw ci cw xa xb xc xi xw : Int) (nm : ByteArray) (g cap : Nat) (w : World) (hcap : 3 ≤ cap) (c0 : w.cell? ⟨g, 0, none⟩ = some (.int .i64 ai)) (c1 : w.cell? ⟨g, 1, none⟩ = some (.int .i64 aw)) (c2 : w.cell? ⟨g, 2, none⟩ = some (.int .i64 bi)) (c3 : w.cell? ⟨g, 3, none⟩ = some (.int .i64 bw)) (c4 : w.cell? ⟨g, 4, none⟩ = some (.int .i64 ci)) (c5 : w.cell? ⟨g, 5, none⟩ = some (.int .i64 cw)) (h0 : (decide (0 < ai)) = false) :
 Calls Tryz.prog 78 #[.agg #[.int .i64 38, .int .i64 xa, .int .i64 xb, .int .i64 xc, .int .i64 n, .int .i64 m, .int .i64 xi, .int .i64 xw, .string nm], .slice (some ⟨g, 0, none⟩) 3 cap] w (ResPost (resN 38 n m ai aw bi bw ci cw) w) := by
 have hlt : g < w.heap.size := World.block_lt_of_cell? _ _ c0
 have HR := Lib.hid (show resN 38 n m ai aw bi bw ci cw = none by unfold resN; simp only [h0, Bool.and_false, Bool.false_and, Bool.true_and, Bool.and_true]; rfl)
 go_enter Tryz.func78, Tryz.ntmps78
 go_wp2
 obtain ⟨w2, hw2, HB, b0, b4, b5, r0, r1, f0, f1⟩ := res_world 38 n m xa xb xc xi xw nm w
 rw [hw2]
 clear hw2
 have c0 := back_cell c0 HB.out
 have c1 := back_cell c1 HB.out
 have c2 := back_cell c2 HB.out
 have c3 := back_cell c3 HB.out
 have c4 := back_cell c4 HB.out
 have c5 := back_cell c5 HB.out
 refine wp_region_two (G := w.heap.size + 1) 30 (.int .i64 ai) (.int .i64 aw) (by kernel_rfl) (by kernel_rfl) rfl (by kernel_rfl) HB.out (Nat.le_succ _) r0 r1 f0 f1 ?_
 apply Exists.intro
 refine ⟨fun W hk => ?_, ?_, ?_, ?_⟩
 · have hg : g < w.heap.size + 1 := Nat.lt_succ_of_lt hlt
   have d0 := hk _ _ _ hg c0; have d1 := hk _ _ _ hg c1; have d2 := hk _ _ _ hg c2; have d3 := hk _ _ _ hg c3; have d4 := hk _ _ _ hg c4; have d5 := hk _ _ _ hg c5
   clear hk
   simp only [List.take_succ_cons, List.take_zero]
   repeat (go_big_quiet_step ((go_at_call 59; exact Calls.later (l2Word_calls _ _))))
   exact wpQuiet_nil rfl
 · rfl
 · intro u s0 s1 t0 t1
   go_simp
 · intro u hb s0 s1
   have hbel := Lib.hid hb
   simp only [List.drop_succ_cons, List.drop_zero]
   clear r0 r1 f0 f1 hb
   go_wp2
   exact bodyPost_ret (v := .tuple #[.agg #[.int .i64 ai, .int .i64 aw], .bool false]) (by simp [results, Tryz.results78, go_sem, s0, s1]) rfl (respost_none HR.out hbel.out)
theorem l2Result_38_1 (n m ai aw bi bw ci cw xa xb xc xi xw : Int) (nm : ByteArray) (g cap : Nat) (w : World) (hcap : 3 ≤ cap) (c0 : w.cell? ⟨g, 0, none⟩ = some (.int .i64 ai)) (c1 : w.cell? ⟨g, 1, none⟩ = some (.int .i64 aw)) (c2 : w.cell? ⟨g, 2, none⟩ = some (.int .i64 bi)) (c3 : w.cell? ⟨g, 3, none⟩ = some (.int .i64 bw)) (c4 : w.cell? ⟨g, 4, none⟩ = some (.int .i64 ci)) (c5 : w.cell? ⟨g, 5, none⟩ = some (.int .i64 cw)) (h0 : (decide (0 < ai)) = true) (h1 : (bi == 0) = false) :
 Calls Tryz.prog 78 #[.agg #[.int .i64 38, .int .i64 xa, .int .i64 xb, .int .i64 xc, .int .i64 n, .int .i64 m, .int .i64 xi, .int .i64 xw, .string nm], .slice (some ⟨g, 0, none⟩) 3 cap] w (ResPost (resN 38 n m ai aw bi bw ci cw) w) := by
 have hlt : g < w.heap.size := World.block_lt_of_cell? _ _ c0
 have HR := Lib.hid (show resN 38 n m ai aw bi bw ci cw = none by unfold resN; simp only [h0, h1, Bool.and_false, Bool.false_and, Bool.true_and, Bool.and_true]; rfl)
 go_enter Tryz.func78, Tryz.ntmps78
 go_wp2
 obtain ⟨w2, hw2, HB, b0, b4, b5, r0, r1, f0, f1⟩ := res_world 38 n m xa xb xc xi xw nm w
 rw [hw2]
 clear hw2
 have c0 := back_cell c0 HB.out
 have c1 := back_cell c1 HB.out
 have c2 := back_cell c2 HB.out
 have c3 := back_cell c3 HB.out
 have c4 := back_cell c4 HB.out
 have c5 := back_cell c5 HB.out
 refine wp_region_two (G := w.heap.size + 1) 30 (.int .i64 ai) (.int .i64 aw) (by kernel_rfl) (by kernel_rfl) rfl (by kernel_rfl) HB.out (Nat.le_succ _) r0 r1 f0 f1 ?_
 apply Exists.intro
 refine ⟨fun W hk => ?_, ?_, ?_, ?_⟩
 · have hg : g < w.heap.size + 1 := Nat.lt_succ_of_lt hlt
   have d0 := hk _ _ _ hg c0; have d1 := hk _ _ _ hg c1; have d2 := hk _ _ _ hg c2; have d3 := hk _ _ _ hg c3; have d4 := hk _ _ _ hg c4; have d5 := hk _ _ _ hg c5
   clear hk
   simp only [List.take_succ_cons, List.take_zero]
   repeat (go_big_quiet_step ((go_at_call 59; exact Calls.later (l2Word_calls _ _))))
   exact wpQuiet_nil rfl
 · rfl
 · intro u s0 s1 t0 t1
   go_simp
 · intro u hb s0 s1
   have hbel := Lib.hid hb
   simp only [List.drop_succ_cons, List.drop_zero]
   clear r0 r1 f0 f1 hb
   go_wp2
   exact bodyPost_ret (v := .tuple #[.agg #[.int .i64 ai, .int .i64 aw], .bool false]) (by simp [results, Tryz.results78, go_sem, s0, s1]) rfl (respost_none HR.out hbel.out)
theorem l2Result_38_2 (n m ai aw bi bw ci cw xa xb xc xi xw : Int) (nm : ByteArray) (g cap : Nat) (w : World) (hcap : 3 ≤ cap) (c0 : w.cell? ⟨g, 0, none⟩ = some (.int .i64 ai)) (c1 : w.cell? ⟨g, 1, none⟩ = some (.int .i64 aw)) (c2 : w.cell? ⟨g, 2, none⟩ = some (.int .i64 bi)) (c3 : w.cell? ⟨g, 3, none⟩ = some (.int .i64 bw)) (c4 : w.cell? ⟨g, 4, none⟩ = some (.int .i64 ci)) (c5 : w.cell? ⟨g, 5, none⟩ = some (.int .i64 cw)) (h0 : (decide (0 < ai)) = true) (h1 : (bi == 0) = true) (h2 : (bw == ai) = false) :
 Calls Tryz.prog 78 #[.agg #[.int .i64 38, .int .i64 xa, .int .i64 xb, .int .i64 xc, .int .i64 n, .int .i64 m, .int .i64 xi, .int .i64 xw, .string nm], .slice (some ⟨g, 0, none⟩) 3 cap] w (ResPost (resN 38 n m ai aw bi bw ci cw) w) := by
 have hlt : g < w.heap.size := World.block_lt_of_cell? _ _ c0
 have HR := Lib.hid (show resN 38 n m ai aw bi bw ci cw = none by unfold resN; simp only [h0, h1, h2, Bool.and_false, Bool.false_and, Bool.true_and, Bool.and_true]; rfl)
 go_enter Tryz.func78, Tryz.ntmps78
 go_wp2
 obtain ⟨w2, hw2, HB, b0, b4, b5, r0, r1, f0, f1⟩ := res_world 38 n m xa xb xc xi xw nm w
 rw [hw2]
 clear hw2
 have c0 := back_cell c0 HB.out
 have c1 := back_cell c1 HB.out
 have c2 := back_cell c2 HB.out
 have c3 := back_cell c3 HB.out
 have c4 := back_cell c4 HB.out
 have c5 := back_cell c5 HB.out
 refine wp_region_two (G := w.heap.size + 1) 30 (.int .i64 ai) (.int .i64 aw) (by kernel_rfl) (by kernel_rfl) rfl (by kernel_rfl) HB.out (Nat.le_succ _) r0 r1 f0 f1 ?_
 apply Exists.intro
 refine ⟨fun W hk => ?_, ?_, ?_, ?_⟩
 · have hg : g < w.heap.size + 1 := Nat.lt_succ_of_lt hlt
   have d0 := hk _ _ _ hg c0; have d1 := hk _ _ _ hg c1; have d2 := hk _ _ _ hg c2; have d3 := hk _ _ _ hg c3; have d4 := hk _ _ _ hg c4; have d5 := hk _ _ _ hg c5
   clear hk
   simp only [List.take_succ_cons, List.take_zero]
   repeat (go_big_quiet_step ((go_at_call 59; exact Calls.later (l2Word_calls _ _))))
   exact wpQuiet_nil rfl
 · rfl
 · intro u s0 s1 t0 t1
   go_simp
 · intro u hb s0 s1
   have hbel := Lib.hid hb
   simp only [List.drop_succ_cons, List.drop_zero]
   clear r0 r1 f0 f1 hb
   go_wp2
   exact bodyPost_ret (v := .tuple #[.agg #[.int .i64 ai, .int .i64 aw], .bool false]) (by simp [results, Tryz.results78, go_sem, s0, s1]) rfl (respost_none HR.out hbel.out)
theorem l2Result_38_3 (n m ai aw bi bw ci cw xa xb xc xi xw : Int) (nm : ByteArray) (g cap : Nat) (w : World) (hcap : 3 ≤ cap) (c0 : w.cell? ⟨g, 0, none⟩ = some (.int .i64 ai)) (c1 : w.cell? ⟨g, 1, none⟩ = some (.int .i64 aw)) (c2 : w.cell? ⟨g, 2, none⟩ = some (.int .i64 bi)) (c3 : w.cell? ⟨g, 3, none⟩ = some (.int .i64 bw)) (c4 : w.cell? ⟨g, 4, none⟩ = some (.int .i64 ci)) (c5 : w.cell? ⟨g, 5, none⟩ = some (.int .i64 cw)) (h0 : (decide (0 < ai)) = true) (h1 : (bi == 0) = true) (h2 : (bw == ai) = true) (h3 : (ci == 0) = false) :
 Calls Tryz.prog 78 #[.agg #[.int .i64 38, .int .i64 xa, .int .i64 xb, .int .i64 xc, .int .i64 n, .int .i64 m, .int .i64 xi, .int .i64 xw, .string nm], .slice (some ⟨g, 0, none⟩) 3 cap] w (ResPost (resN 38 n m ai aw bi bw ci cw) w) := by
 have hlt : g < w.heap.size := World.block_lt_of_cell? _ _ c0
 have HR := Lib.hid (show resN 38 n m ai aw bi bw ci cw = none by unfold resN; simp only [h0, h1, h2, h3, Bool.and_false, Bool.false_and, Bool.true_and, Bool.and_true]; rfl)
 go_enter Tryz.func78, Tryz.ntmps78
 go_wp2
 obtain ⟨w2, hw2, HB, b0, b4, b5, r0, r1, f0, f1⟩ := res_world 38 n m xa xb xc xi xw nm w
 rw [hw2]
 clear hw2
 have c0 := back_cell c0 HB.out
 have c1 := back_cell c1 HB.out
 have c2 := back_cell c2 HB.out
 have c3 := back_cell c3 HB.out
 have c4 := back_cell c4 HB.out
 have c5 := back_cell c5 HB.out
 refine wp_region_two (G := w.heap.size + 1) 30 (.int .i64 ai) (.int .i64 aw) (by kernel_rfl) (by kernel_rfl) rfl (by kernel_rfl) HB.out (Nat.le_succ _) r0 r1 f0 f1 ?_
 apply Exists.intro
 refine ⟨fun W hk => ?_, ?_, ?_, ?_⟩
 · have hg : g < w.heap.size + 1 := Nat.lt_succ_of_lt hlt
   have d0 := hk _ _ _ hg c0; have d1 := hk _ _ _ hg c1; have d2 := hk _ _ _ hg c2; have d3 := hk _ _ _ hg c3; have d4 := hk _ _ _ hg c4; have d5 := hk _ _ _ hg c5
   clear hk
   simp only [List.take_succ_cons, List.take_zero]
   repeat (go_big_quiet_step ((go_at_call 59; exact Calls.later (l2Word_calls _ _))))
   exact wpQuiet_nil rfl
 · rfl
 · intro u s0 s1 t0 t1
   go_simp
 · intro u hb s0 s1
   have hbel := Lib.hid hb
   simp only [List.drop_succ_cons, List.drop_zero]
   clear r0 r1 f0 f1 hb
   go_wp2
   exact bodyPost_ret (v := .tuple #[.agg #[.int .i64 ai, .int .i64 aw], .bool false]) (by simp [results, Tryz.results78, go_sem, s0, s1]) rfl (respost_none HR.out hbel.out)
theorem l2Result_38_4 (n m ai aw bi bw ci cw xa xb xc xi xw : Int) (nm : ByteArray) (g cap : Nat) (w : World) (hcap : 3 ≤ cap) (c0 : w.cell? ⟨g, 0, none⟩ = some (.int .i64 ai)) (c1 : w.cell? ⟨g, 1, none⟩ = some (.int .i64 aw)) (c2 : w.cell? ⟨g, 2, none⟩ = some (.int .i64 bi)) (c3 : w.cell? ⟨g, 3, none⟩ = some (.int .i64 bw)) (c4 : w.cell? ⟨g, 4, none⟩ = some (.int .i64 ci)) (c5 : w.cell? ⟨g, 5, none⟩ = some (.int .i64 cw)) (h0 : (decide (0 < ai)) = true) (h1 : (bi == 0) = true) (h2 : (bw == ai) = true) (h3 : (ci == 0) = true) (h4 : (cw == aw) = false) :
 Calls Tryz.prog 78 #[.agg #[.int .i64 38, .int .i64 xa, .int .i64 xb, .int .i64 xc, .int .i64 n, .int .i64 m, .int .i64 xi, .int .i64 xw, .string nm], .slice (some ⟨g, 0, none⟩) 3 cap] w (ResPost (resN 38 n m ai aw bi bw ci cw) w) := by
 have hlt : g < w.heap.size := World.block_lt_of_cell? _ _ c0
 have HR := Lib.hid (show resN 38 n m ai aw bi bw ci cw = none by unfold resN; simp only [h0, h1, h2, h3, h4, Bool.and_false, Bool.false_and, Bool.true_and, Bool.and_true]; rfl)
 go_enter Tryz.func78, Tryz.ntmps78
 go_wp2
 obtain ⟨w2, hw2, HB, b0, b4, b5, r0, r1, f0, f1⟩ := res_world 38 n m xa xb xc xi xw nm w
 rw [hw2]
 clear hw2
 have c0 := back_cell c0 HB.out
 have c1 := back_cell c1 HB.out
 have c2 := back_cell c2 HB.out
 have c3 := back_cell c3 HB.out
 have c4 := back_cell c4 HB.out
 have c5 := back_cell c5 HB.out
 refine wp_region_two (G := w.heap.size + 1) 30 (.int .i64 ai) (.int .i64 aw) (by kernel_rfl) (by kernel_rfl) rfl (by kernel_rfl) HB.out (Nat.le_succ _) r0 r1 f0 f1 ?_
 apply Exists.intro
 refine ⟨fun W hk => ?_, ?_, ?_, ?_⟩
 · have hg : g < w.heap.size + 1 := Nat.lt_succ_of_lt hlt
   have d0 := hk _ _ _ hg c0; have d1 := hk _ _ _ hg c1; have d2 := hk _ _ _ hg c2; have d3 := hk _ _ _ hg c3; have d4 := hk _ _ _ hg c4; have d5 := hk _ _ _ hg c5
   clear hk
   simp only [List.take_succ_cons, List.take_zero]
   repeat (go_big_quiet_step ((go_at_call 59; exact Calls.later (l2Word_calls _ _))))
   exact wpQuiet_nil rfl
 · rfl
 · intro u s0 s1 t0 t1
   go_simp
 · intro u hb s0 s1
   have hbel := Lib.hid hb
   simp only [List.drop_succ_cons, List.drop_zero]
   clear r0 r1 f0 f1 hb
   go_wp2
   exact bodyPost_ret (v := .tuple #[.agg #[.int .i64 ai, .int .i64 aw], .bool false]) (by simp [results, Tryz.results78, go_sem, s0, s1]) rfl (respost_none HR.out hbel.out)
theorem l2Result_38_5 (n m ai aw bi bw ci cw xa xb xc xi xw : Int) (nm : ByteArray) (g cap : Nat) (w : World) (hcap : 3 ≤ cap) (c0 : w.cell? ⟨g, 0, none⟩ = some (.int .i64 ai)) (c1 : w.cell? ⟨g, 1, none⟩ = some (.int .i64 aw)) (c2 : w.cell? ⟨g, 2, none⟩ = some (.int .i64 bi)) (c3 : w.cell? ⟨g, 3, none⟩ = some (.int .i64 bw)) (c4 : w.cell? ⟨g, 4, none⟩ = some (.int .i64 ci)) (c5 : w.cell? ⟨g, 5, none⟩ = some (.int .i64 cw)) (h0 : (decide (0 < ai)) = true) (h1 : (bi == 0) = true) (h2 : (bw == ai) = true) (h3 : (ci == 0) = true) (h4 : (cw == aw) = true) :
 Calls Tryz.prog 78 #[.agg #[.int .i64 38, .int .i64 xa, .int .i64 xb, .int .i64 xc, .int .i64 n, .int .i64 m, .int .i64 xi, .int .i64 xw, .string nm], .slice (some ⟨g, 0, none⟩) 3 cap] w (ResPost (resN 38 n m ai aw bi bw ci cw) w) := by
 have hlt : g < w.heap.size := World.block_lt_of_cell? _ _ c0
 have HR := Lib.hid (show resN 38 n m ai aw bi bw ci cw = some (ai, aw) by unfold resN; simp only [h0, h1, h2, h3, h4]; rfl)
 go_enter Tryz.func78, Tryz.ntmps78
 go_wp2
 obtain ⟨w2, hw2, HB, b0, b4, b5, r0, r1, f0, f1⟩ := res_world 38 n m xa xb xc xi xw nm w
 rw [hw2]
 clear hw2
 have c0 := back_cell c0 HB.out
 have c1 := back_cell c1 HB.out
 have c2 := back_cell c2 HB.out
 have c3 := back_cell c3 HB.out
 have c4 := back_cell c4 HB.out
 have c5 := back_cell c5 HB.out
 refine wp_region_two (G := w.heap.size + 1) 30 (.int .i64 ai) (.int .i64 aw) (by kernel_rfl) (by kernel_rfl) rfl (by kernel_rfl) HB.out (Nat.le_succ _) r0 r1 f0 f1 ?_
 apply Exists.intro
 refine ⟨fun W hk => ?_, ?_, ?_, ?_⟩
 · have hg : g < w.heap.size + 1 := Nat.lt_succ_of_lt hlt
   have d0 := hk _ _ _ hg c0; have d1 := hk _ _ _ hg c1; have d2 := hk _ _ _ hg c2; have d3 := hk _ _ _ hg c3; have d4 := hk _ _ _ hg c4; have d5 := hk _ _ _ hg c5
   clear hk
   simp only [List.take_succ_cons, List.take_zero]
   repeat (go_big_quiet_step ((go_at_call 59; exact Calls.later (l2Word_calls _ _))))
   exact wpQuiet_nil rfl
 · rfl
 · intro u s0 s1 t0 t1
   go_simp
 · intro u hb s0 s1
   have hbel := Lib.hid hb
   simp only [List.drop_succ_cons, List.drop_zero]
   clear r0 r1 f0 f1 hb
   go_wp2
   exact bodyPost_ret (v := .tuple #[.agg #[.int .i64 ai, .int .i64 aw], .bool true]) (by simp [results, Tryz.results78, go_sem, s0, s1]) rfl (respost_some HR.out hbel.out)
theorem l2Result_38 (n m ai aw bi bw ci cw xa xb xc xi xw : Int) (nm : ByteArray) (g cap : Nat) (w : World) (hcap : 3 ≤ cap) (c0 : w.cell? ⟨g, 0, none⟩ = some (.int .i64 ai)) (c1 : w.cell? ⟨g, 1, none⟩ = some (.int .i64 aw)) (c2 : w.cell? ⟨g, 2, none⟩ = some (.int .i64 bi)) (c3 : w.cell? ⟨g, 3, none⟩ = some (.int .i64 bw)) (c4 : w.cell? ⟨g, 4, none⟩ = some (.int .i64 ci)) (c5 : w.cell? ⟨g, 5, none⟩ = some (.int .i64 cw)) :
 Calls Tryz.prog 78 #[.agg #[.int .i64 38, .int .i64 xa, .int .i64 xb, .int .i64 xc, .int .i64 n, .int .i64 m, .int .i64 xi, .int .i64 xw, .string nm], .slice (some ⟨g, 0, none⟩) 3 cap] w (ResPost (resN 38 n m ai aw bi bw ci cw) w) := by
 by_cases h0 : (decide (0 < ai)) = true
 rotate_left
 · exact l2Result_38_0 n m ai aw bi bw ci cw xa xb xc xi xw nm g cap w hcap c0 c1 c2 c3 c4 c5  (eq_false_of_ne_true h0)
 by_cases h1 : (bi == 0) = true
 rotate_left
 · exact l2Result_38_1 n m ai aw bi bw ci cw xa xb xc xi xw nm g cap w hcap c0 c1 c2 c3 c4 c5 h0 (eq_false_of_ne_true h1)
 by_cases h2 : (bw == ai) = true
 rotate_left
 · exact l2Result_38_2 n m ai aw bi bw ci cw xa xb xc xi xw nm g cap w hcap c0 c1 c2 c3 c4 c5 h0 h1 (eq_false_of_ne_true h2)
 by_cases h3 : (ci == 0) = true
 rotate_left
 · exact l2Result_38_3 n m ai aw bi bw ci cw xa xb xc xi xw nm g cap w hcap c0 c1 c2 c3 c4 c5 h0 h1 h2 (eq_false_of_ne_true h3)
 by_cases h4 : (cw == aw) = true
 rotate_left
 · exact l2Result_38_4 n m ai aw bi bw ci cw xa xb xc xi xw nm g cap w hcap c0 c1 c2 c3 c4 c5 h0 h1 h2 h3 (eq_false_of_ne_true h4)
 exact l2Result_38_5 n m ai aw bi bw ci cw xa xb xc xi xw nm g cap w hcap c0 c1 c2 c3 c4 c5 h0 h1 h2 h3 h4
theorem l2Result_21_0 (n m ai aw bi bw ci cw xa xb xc xi xw : Int) (nm : ByteArray) (g cap : Nat) (w : World) (hcap : 2 ≤ cap) (c0 : w.cell? ⟨g, 0, none⟩ = some (.int .i64 ai)) (c1 : w.cell? ⟨g, 1, none⟩ = some (.int .i64 aw)) (c2 : w.cell? ⟨g, 2, none⟩ = some (.int .i64 bi)) (c3 : w.cell? ⟨g, 3, none⟩ = some (.int .i64 bw)) (h0 : (ai == bi) = false) :
 Calls Tryz.prog 78 #[.agg #[.int .i64 21, .int .i64 xa, .int .i64 xb, .int .i64 xc, .int .i64 n, .int .i64 m, .int .i64 xi, .int .i64 xw, .string nm], .slice (some ⟨g, 0, none⟩) 2 cap] w (ResPost (resN 21 n m ai aw bi bw ci cw) w) := by
 have hlt : g < w.heap.size := World.block_lt_of_cell? _ _ c0
 have HR := Lib.hid (show resN 21 n m ai aw bi bw ci cw = none by unfold resN; simp only [h0, Bool.and_false, Bool.false_and, Bool.true_and, Bool.and_true]; rfl)
 go_enter Tryz.func78, Tryz.ntmps78
 go_wp2
 obtain ⟨w2, hw2, HB, b0, b4, b5, r0, r1, f0, f1⟩ := res_world 21 n m xa xb xc xi xw nm w
 rw [hw2]
 clear hw2
 have c0 := back_cell c0 HB.out
 have c1 := back_cell c1 HB.out
 have c2 := back_cell c2 HB.out
 have c3 := back_cell c3 HB.out
 refine wp_region_two (G := w.heap.size + 1) 8 (.int .i64 0) (.int .i64 1) (by kernel_rfl) (by kernel_rfl) rfl (by kernel_rfl) HB.out (Nat.le_succ _) r0 r1 f0 f1 ?_
 apply Exists.intro
 refine ⟨fun W hk => ?_, ?_, ?_, ?_⟩
 · have hg : g < w.heap.size + 1 := Nat.lt_succ_of_lt hlt
   have d0 := hk _ _ _ hg c0; have d1 := hk _ _ _ hg c1; have d2 := hk _ _ _ hg c2; have d3 := hk _ _ _ hg c3
   clear hk
   simp only [List.take_succ_cons, List.take_zero]
   repeat (go_big_quiet_step ((go_at_call 59; exact Calls.later (l2Word_calls _ _))))
   exact wpQuiet_nil rfl
 · rfl
 · intro u s0 s1 t0 t1
   go_simp
 · intro u hb s0 s1
   have hbel := Lib.hid hb
   simp only [List.drop_succ_cons, List.drop_zero]
   clear r0 r1 f0 f1 hb
   go_wp2
   exact bodyPost_ret (v := .tuple #[.agg #[.int .i64 0, .int .i64 1], .bool false]) (by simp [results, Tryz.results78, go_sem, s0, s1]) rfl (respost_none HR.out hbel.out)
theorem l2Result_21_1 (n m ai aw bi bw ci cw xa xb xc xi xw : Int) (nm : ByteArray) (g cap : Nat) (w : World) (hcap : 2 ≤ cap) (c0 : w.cell? ⟨g, 0, none⟩ = some (.int .i64 ai)) (c1 : w.cell? ⟨g, 1, none⟩ = some (.int .i64 aw)) (c2 : w.cell? ⟨g, 2, none⟩ = some (.int .i64 bi)) (c3 : w.cell? ⟨g, 3, none⟩ = some (.int .i64 bw)) (h0 : (ai == bi) = true) (h1 : (aw == bw) = false) :
 Calls Tryz.prog 78 #[.agg #[.int .i64 21, .int .i64 xa, .int .i64 xb, .int .i64 xc, .int .i64 n, .int .i64 m, .int .i64 xi, .int .i64 xw, .string nm], .slice (some ⟨g, 0, none⟩) 2 cap] w (ResPost (resN 21 n m ai aw bi bw ci cw) w) := by
 have hlt : g < w.heap.size := World.block_lt_of_cell? _ _ c0
 have HR := Lib.hid (show resN 21 n m ai aw bi bw ci cw = none by unfold resN; simp only [h0, h1, Bool.and_false, Bool.false_and, Bool.true_and, Bool.and_true]; rfl)
 go_enter Tryz.func78, Tryz.ntmps78
 go_wp2
 obtain ⟨w2, hw2, HB, b0, b4, b5, r0, r1, f0, f1⟩ := res_world 21 n m xa xb xc xi xw nm w
 rw [hw2]
 clear hw2
 have c0 := back_cell c0 HB.out
 have c1 := back_cell c1 HB.out
 have c2 := back_cell c2 HB.out
 have c3 := back_cell c3 HB.out
 refine wp_region_two (G := w.heap.size + 1) 8 (.int .i64 0) (.int .i64 1) (by kernel_rfl) (by kernel_rfl) rfl (by kernel_rfl) HB.out (Nat.le_succ _) r0 r1 f0 f1 ?_
 apply Exists.intro
 refine ⟨fun W hk => ?_, ?_, ?_, ?_⟩
 · have hg : g < w.heap.size + 1 := Nat.lt_succ_of_lt hlt
   have d0 := hk _ _ _ hg c0; have d1 := hk _ _ _ hg c1; have d2 := hk _ _ _ hg c2; have d3 := hk _ _ _ hg c3
   clear hk
   simp only [List.take_succ_cons, List.take_zero]
   repeat (go_big_quiet_step ((go_at_call 59; exact Calls.later (l2Word_calls _ _))))
   exact wpQuiet_nil rfl
 · rfl
 · intro u s0 s1 t0 t1
   go_simp
 · intro u hb s0 s1
   have hbel := Lib.hid hb
   simp only [List.drop_succ_cons, List.drop_zero]
   clear r0 r1 f0 f1 hb
   go_wp2
   exact bodyPost_ret (v := .tuple #[.agg #[.int .i64 0, .int .i64 1], .bool false]) (by simp [results, Tryz.results78, go_sem, s0, s1]) rfl (respost_none HR.out hbel.out)
theorem l2Result_21_2 (n m ai aw bi bw ci cw xa xb xc xi xw : Int) (nm : ByteArray) (g cap : Nat) (w : World) (hcap : 2 ≤ cap) (c0 : w.cell? ⟨g, 0, none⟩ = some (.int .i64 ai)) (c1 : w.cell? ⟨g, 1, none⟩ = some (.int .i64 aw)) (c2 : w.cell? ⟨g, 2, none⟩ = some (.int .i64 bi)) (c3 : w.cell? ⟨g, 3, none⟩ = some (.int .i64 bw)) (h0 : (ai == bi) = true) (h1 : (aw == bw) = true) :
 Calls Tryz.prog 78 #[.agg #[.int .i64 21, .int .i64 xa, .int .i64 xb, .int .i64 xc, .int .i64 n, .int .i64 m, .int .i64 xi, .int .i64 xw, .string nm], .slice (some ⟨g, 0, none⟩) 2 cap] w (ResPost (resN 21 n m ai aw bi bw ci cw) w) := by
 have hlt : g < w.heap.size := World.block_lt_of_cell? _ _ c0
 have HR := Lib.hid (show resN 21 n m ai aw bi bw ci cw = some (0, 1) by unfold resN; simp only [h0, h1]; rfl)
 go_enter Tryz.func78, Tryz.ntmps78
 go_wp2
 obtain ⟨w2, hw2, HB, b0, b4, b5, r0, r1, f0, f1⟩ := res_world 21 n m xa xb xc xi xw nm w
 rw [hw2]
 clear hw2
 have c0 := back_cell c0 HB.out
 have c1 := back_cell c1 HB.out
 have c2 := back_cell c2 HB.out
 have c3 := back_cell c3 HB.out
 refine wp_region_two (G := w.heap.size + 1) 8 (.int .i64 0) (.int .i64 1) (by kernel_rfl) (by kernel_rfl) rfl (by kernel_rfl) HB.out (Nat.le_succ _) r0 r1 f0 f1 ?_
 apply Exists.intro
 refine ⟨fun W hk => ?_, ?_, ?_, ?_⟩
 · have hg : g < w.heap.size + 1 := Nat.lt_succ_of_lt hlt
   have d0 := hk _ _ _ hg c0; have d1 := hk _ _ _ hg c1; have d2 := hk _ _ _ hg c2; have d3 := hk _ _ _ hg c3
   clear hk
   simp only [List.take_succ_cons, List.take_zero]
   repeat (go_big_quiet_step ((go_at_call 59; exact Calls.later (l2Word_calls _ _))))
   exact wpQuiet_nil rfl
 · rfl
 · intro u s0 s1 t0 t1
   go_simp
 · intro u hb s0 s1
   have hbel := Lib.hid hb
   simp only [List.drop_succ_cons, List.drop_zero]
   clear r0 r1 f0 f1 hb
   go_wp2
   exact bodyPost_ret (v := .tuple #[.agg #[.int .i64 0, .int .i64 1], .bool true]) (by simp [results, Tryz.results78, go_sem, s0, s1]) rfl (respost_some HR.out hbel.out)
theorem l2Result_21 (n m ai aw bi bw ci cw xa xb xc xi xw : Int) (nm : ByteArray) (g cap : Nat) (w : World) (hcap : 2 ≤ cap) (c0 : w.cell? ⟨g, 0, none⟩ = some (.int .i64 ai)) (c1 : w.cell? ⟨g, 1, none⟩ = some (.int .i64 aw)) (c2 : w.cell? ⟨g, 2, none⟩ = some (.int .i64 bi)) (c3 : w.cell? ⟨g, 3, none⟩ = some (.int .i64 bw)) :
 Calls Tryz.prog 78 #[.agg #[.int .i64 21, .int .i64 xa, .int .i64 xb, .int .i64 xc, .int .i64 n, .int .i64 m, .int .i64 xi, .int .i64 xw, .string nm], .slice (some ⟨g, 0, none⟩) 2 cap] w (ResPost (resN 21 n m ai aw bi bw ci cw) w) := by
 by_cases h0 : (ai == bi) = true
 rotate_left
 · exact l2Result_21_0 n m ai aw bi bw ci cw xa xb xc xi xw nm g cap w hcap c0 c1 c2 c3  (eq_false_of_ne_true h0)
 by_cases h1 : (aw == bw) = true
 rotate_left
 · exact l2Result_21_1 n m ai aw bi bw ci cw xa xb xc xi xw nm g cap w hcap c0 c1 c2 c3 h0 (eq_false_of_ne_true h1)
 exact l2Result_21_2 n m ai aw bi bw ci cw xa xb xc xi xw nm g cap w hcap c0 c1 c2 c3 h0 h1
end Go.Proofs.YthejgnabgglmhaaGreat
namespace Go.Proofs.YthejgnabgglmhaaGreat
open Go.RowKit
attribute [local go_sem high] eq_sort
theorem l2Result_29_a (n m ai aw bi bw ci cw xa xb xc xi xw : Int) (nm : ByteArray) (g cap : Nat) (w : World) (hcap : 2 ≤ cap) (c0 : w.cell? ⟨g, 0, none⟩ = some (.int .i64 ai)) (c1 : w.cell? ⟨g, 1, none⟩ = some (.int .i64 aw)) (c2 : w.cell? ⟨g, 2, none⟩ = some (.int .i64 bi)) (c3 : w.cell? ⟨g, 3, none⟩ = some (.int .i64 bw)) (ha : 0 < ai) :
 Calls Tryz.prog 78 #[.agg #[.int .i64 29, .int .i64 xa, .int .i64 xb, .int .i64 xc, .int .i64 n, .int .i64 m, .int .i64 xi, .int .i64 xw, .string nm], .slice (some ⟨g, 0, none⟩) 2 cap] w (ResPost (resN 29 n m ai aw bi bw ci cw) w) := by
 have HR := Lib.hid (show resN 29 n m ai aw bi bw ci cw = none by unfold resN; rw [if_neg (by omega), if_neg (by omega), if_neg (by omega), if_neg (by omega)]; rw [if_pos (Or.inl (by omega))])
 go_enter Tryz.func78, Tryz.ntmps78
 go_wp2
 obtain ⟨w2, hw2, HB, b0, b4, b5, r0, r1, f0, f1⟩ := res_world 29 n m xa xb xc xi xw nm w
 rw [hw2]
 clear hw2
 have c0 := back_cell c0 HB.out
 have c1 := back_cell c1 HB.out
 have c2 := back_cell c2 HB.out
 have c3 := back_cell c3 HB.out
 refine at_world (w := w2) ?_
 intro u0
 refine wp_loop_rounds 3 ?_
 rw [rounds_succ]
 go_wp2
 exact bodyPost_ret (v := .tuple #[.agg #[.int .i64 0, .int .i64 (0)], .bool (false)]) (by simp [results, Tryz.results78, go_sem, r0, r1]) rfl (respost_none HR.out (by repeat (first | exact u0.back HB.out | exact HB.out | refine Below.setCell ?_ (by first | (simp; done) | (simp; omega)) _)))
theorem l2Result_29_b (n m ai aw bi bw ci cw xa xb xc xi xw : Int) (nm : ByteArray) (g cap : Nat) (w : World) (hcap : 2 ≤ cap) (c0 : w.cell? ⟨g, 0, none⟩ = some (.int .i64 ai)) (c1 : w.cell? ⟨g, 1, none⟩ = some (.int .i64 aw)) (c2 : w.cell? ⟨g, 2, none⟩ = some (.int .i64 bi)) (c3 : w.cell? ⟨g, 3, none⟩ = some (.int .i64 bw)) (ha : ai = 0) (hb : 0 < bi) :
 Calls Tryz.prog 78 #[.agg #[.int .i64 29, .int .i64 xa, .int .i64 xb, .int .i64 xc, .int .i64 n, .int .i64 m, .int .i64 xi, .int .i64 xw, .string nm], .slice (some ⟨g, 0, none⟩) 2 cap] w (ResPost (resN 29 n m ai aw bi bw ci cw) w) := by
 subst ha
 have HR := Lib.hid (show resN 29 n m 0 aw bi bw ci cw = none by unfold resN; rw [if_neg (by omega), if_neg (by omega), if_neg (by omega), if_neg (by omega)]; rw [if_pos (Or.inr (by omega))])
 go_enter Tryz.func78, Tryz.ntmps78
 go_wp2
 obtain ⟨w2, hw2, HB, b0, b4, b5, r0, r1, f0, f1⟩ := res_world 29 n m xa xb xc xi xw nm w
 rw [hw2]
 clear hw2
 have c0 := back_cell c0 HB.out
 have c1 := back_cell c1 HB.out
 have c2 := back_cell c2 HB.out
 have c3 := back_cell c3 HB.out
 refine at_world (w := w2) ?_
 intro u0
 refine wp_loop_rounds 3 ?_
 rw [rounds_succ]
 go_wp2
 rw [rounds_succ]
 go_wp2
 exact bodyPost_ret (v := .tuple #[.agg #[.int .i64 0, .int .i64 (0)], .bool (false)]) (by simp [results, Tryz.results78, go_sem, r0, r1]) rfl (respost_none HR.out (by repeat (first | exact u0.back HB.out | exact HB.out | refine Below.setCell ?_ (by first | (simp; done) | (simp; omega)) _)))
theorem l2Result_29_c (n m ci cw xa xb xc xi xw : Int) (nm : ByteArray) (p q g cap : Nat) (w : World) (hcap : 2 ≤ cap)  (hp : 1 ≤ p) (hp2 : p ≤ 16) (hq : 1 ≤ q) (hq2 : q ≤ 16) (h : (p : Int) + q ≤ 16) (c0 : w.cell? ⟨g, 0, none⟩ = some (.int .i64 0)) (c1 : w.cell? ⟨g, 1, none⟩ = some (.int .i64 p)) (c2 : w.cell? ⟨g, 2, none⟩ = some (.int .i64 0)) (c3 : w.cell? ⟨g, 3, none⟩ = some (.int .i64 q)) :
 Calls Tryz.prog 78 #[.agg #[.int .i64 29, .int .i64 xa, .int .i64 xb, .int .i64 xc, .int .i64 n, .int .i64 m, .int .i64 xi, .int .i64 xw, .string nm], .slice (some ⟨g, 0, none⟩) 2 cap] w (ResPost (resN 29 n m 0 p 0 q ci cw) w) := by
 have HR := Lib.hid (show resN 29 n m 0 p 0 q ci cw = some (0, (p : Int) + q) by
  unfold resN; rw [if_neg (by omega), if_neg (by omega), if_neg (by omega), if_neg (by omega)]; rw [if_neg (by simp)]
  rw [if_pos rfl]; simp [h])
 have HV := Lib.hid (show Value.tuple #[.int .i64 0, .int .i64 (if (p : Int) + q ≤ 16 then (p : Int) + q else 0), .bool (decide ((p : Int) + q ≤ 16))] = Value.tuple #[.int .i64 0, .int .i64 ((p : Int) + q), .bool true] by rw [if_pos h, decide_eq_true h])
 go_enter Tryz.func78, Tryz.ntmps78
 go_wp2
 obtain ⟨w2, hw2, HB, b0, b4, b5, r0, r1, f0, f1⟩ := res_world 29 n m xa xb xc xi xw nm w
 rw [hw2]
 clear hw2
 have c0 := back_cell c0 HB.out
 have c1 := back_cell c1 HB.out
 have c2 := back_cell c2 HB.out
 have c3 := back_cell c3 HB.out
 refine at_world (w := w2) ?_
 intro u0
 refine wp_loop_rounds 3 ?_
 rw [rounds_succ]
 go_wp2
 rw [rounds_succ]
 go_wp2
 rw [rounds_succ]
 go_wp2
 refine wp_region_later (w0 := w2) (by kernel_rfl) (by kernel_rfl) ⟨u0, rfl⟩ ?_
 repeat (go_big_quiet_step ((go_at_call 86; exact Calls.later_eq (Makes.of_same (WordJoin_zero p q _ hp hp2 hq hq2)) HV.out)))
 refine wpQuiet_nil ?_
 rintro _ ⟨u1, rfl⟩
 go_wp2_with (go_at_call 59; refine (Calls.later (u := u1) (l2Word_calls _ _)).mono ?_; rintro e w' ⟨rfl, u2, rfl⟩)
 exact bodyPost_ret (v := .tuple #[.agg #[.int .i64 0, .int .i64 ((p : Int) + q)], .bool (true)]) (by simp [results, Tryz.results78, go_sem, r0, r1]) rfl (respost_some HR.out (by repeat (first | exact u2.back HB.out | exact HB.out | refine Below.setCell ?_ (by first | (simp; done) | (simp; omega)) _)))
theorem l2Result_29_d (n m ci cw xa xb xc xi xw : Int) (nm : ByteArray) (p q g cap : Nat) (w : World) (hcap : 2 ≤ cap)  (hp : 1 ≤ p) (hp2 : p ≤ 16) (hq : 1 ≤ q) (hq2 : q ≤ 16) (h : ¬ ((p : Int) + q ≤ 16)) (c0 : w.cell? ⟨g, 0, none⟩ = some (.int .i64 0)) (c1 : w.cell? ⟨g, 1, none⟩ = some (.int .i64 p)) (c2 : w.cell? ⟨g, 2, none⟩ = some (.int .i64 0)) (c3 : w.cell? ⟨g, 3, none⟩ = some (.int .i64 q)) :
 Calls Tryz.prog 78 #[.agg #[.int .i64 29, .int .i64 xa, .int .i64 xb, .int .i64 xc, .int .i64 n, .int .i64 m, .int .i64 xi, .int .i64 xw, .string nm], .slice (some ⟨g, 0, none⟩) 2 cap] w (ResPost (resN 29 n m 0 p 0 q ci cw) w) := by
 have HR := Lib.hid (show resN 29 n m 0 p 0 q ci cw = none by
  unfold resN; rw [if_neg (by omega), if_neg (by omega), if_neg (by omega), if_neg (by omega)]; rw [if_neg (by simp)]
  rw [if_pos rfl]; simp [h])
 have HV := Lib.hid (show Value.tuple #[.int .i64 0, .int .i64 (if (p : Int) + q ≤ 16 then (p : Int) + q else 0), .bool (decide ((p : Int) + q ≤ 16))] = Value.tuple #[.int .i64 0, .int .i64 (0), .bool false] by rw [if_neg h, decide_eq_false h])
 go_enter Tryz.func78, Tryz.ntmps78
 go_wp2
 obtain ⟨w2, hw2, HB, b0, b4, b5, r0, r1, f0, f1⟩ := res_world 29 n m xa xb xc xi xw nm w
 rw [hw2]
 clear hw2
 have c0 := back_cell c0 HB.out
 have c1 := back_cell c1 HB.out
 have c2 := back_cell c2 HB.out
 have c3 := back_cell c3 HB.out
 refine at_world (w := w2) ?_
 intro u0
 refine wp_loop_rounds 3 ?_
 rw [rounds_succ]
 go_wp2
 rw [rounds_succ]
 go_wp2
 rw [rounds_succ]
 go_wp2
 refine wp_region_later (w0 := w2) (by kernel_rfl) (by kernel_rfl) ⟨u0, rfl⟩ ?_
 repeat (go_big_quiet_step ((go_at_call 86; exact Calls.later_eq (Makes.of_same (WordJoin_zero p q _ hp hp2 hq hq2)) HV.out)))
 refine wpQuiet_nil ?_
 rintro _ ⟨u1, rfl⟩
 go_wp2_with (go_at_call 59; refine (Calls.later (u := u1) (l2Word_calls _ _)).mono ?_; rintro e w' ⟨rfl, u2, rfl⟩)
 exact bodyPost_ret (v := .tuple #[.agg #[.int .i64 0, .int .i64 (0)], .bool (false)]) (by simp [results, Tryz.results78, go_sem, r0, r1]) rfl (respost_none HR.out (by repeat (first | exact u2.back HB.out | exact HB.out | refine Below.setCell ?_ (by first | (simp; done) | (simp; omega)) _)))
theorem l2Result_30_a (n m ai aw bi bw ci cw xa xb xc xi xw : Int) (nm : ByteArray) (g cap : Nat) (w : World) (hcap : 1 ≤ cap) (c0 : w.cell? ⟨g, 0, none⟩ = some (.int .i64 ai)) (c1 : w.cell? ⟨g, 1, none⟩ = some (.int .i64 aw)) (ha : 0 < ai) :
 Calls Tryz.prog 78 #[.agg #[.int .i64 30, .int .i64 xa, .int .i64 xb, .int .i64 xc, .int .i64 n, .int .i64 m, .int .i64 xi, .int .i64 xw, .string nm], .slice (some ⟨g, 0, none⟩) 1 cap] w (ResPost (resN 30 n m ai aw bi bw ci cw) w) := by
 have HR := Lib.hid (show resN 30 n m ai aw bi bw ci cw = none by unfold resN; rw [if_neg (by omega), if_neg (by omega), if_neg (by omega), if_neg (by omega)]; rw [if_pos (Or.inl (by omega))])
 go_enter Tryz.func78, Tryz.ntmps78
 go_wp2
 obtain ⟨w2, hw2, HB, b0, b4, b5, r0, r1, f0, f1⟩ := res_world 30 n m xa xb xc xi xw nm w
 rw [hw2]
 clear hw2
 have c0 := back_cell c0 HB.out
 have c1 := back_cell c1 HB.out
 refine at_world (w := w2) ?_
 intro u0
 refine wp_loop_rounds 2 ?_
 rw [rounds_succ]
 go_wp2
 exact bodyPost_ret (v := .tuple #[.agg #[.int .i64 0, .int .i64 (0)], .bool (false)]) (by simp [results, Tryz.results78, go_sem, r0, r1]) rfl (respost_none HR.out (by repeat (first | exact u0.back HB.out | exact HB.out | refine Below.setCell ?_ (by first | (simp; done) | (simp; omega)) _)))
theorem l2Result_30_c (n m bi bw ci cw xa xb xc xi xw : Int) (nm : ByteArray) (p g cap : Nat) (w : World) (hcap : 1 ≤ cap)  (hp : 1 ≤ p) (hp2 : p ≤ 16) (h : 0 ≤ m ∧ m ≤ n ∧ n < p) (c0 : w.cell? ⟨g, 0, none⟩ = some (.int .i64 0)) (c1 : w.cell? ⟨g, 1, none⟩ = some (.int .i64 p)) :
 Calls Tryz.prog 78 #[.agg #[.int .i64 30, .int .i64 xa, .int .i64 xb, .int .i64 xc, .int .i64 n, .int .i64 m, .int .i64 xi, .int .i64 xw, .string nm], .slice (some ⟨g, 0, none⟩) 1 cap] w (ResPost (resN 30 n m 0 p 0 bw ci cw) w) := by
 have HR := Lib.hid (show resN 30 n m 0 p 0 bw ci cw = some (0, n - m + 1) by
  unfold resN; rw [if_neg (by omega), if_neg (by omega), if_neg (by omega), if_neg (by omega)]; rw [if_neg (by simp)]
  rw [if_neg (by omega), if_pos rfl]; simp [h])
 have HV := Lib.hid (show Value.tuple #[.int .i64 0, .int .i64 (if 0 ≤ m ∧ m ≤ n ∧ n < p then n - m + 1 else 0), .bool (decide (0 ≤ m ∧ m ≤ n ∧ n < p))] = Value.tuple #[.int .i64 0, .int .i64 (n - m + 1), .bool true] by rw [if_pos h, decide_eq_true h])
 go_enter Tryz.func78, Tryz.ntmps78
 go_wp2
 obtain ⟨w2, hw2, HB, b0, b4, b5, r0, r1, f0, f1⟩ := res_world 30 n m xa xb xc xi xw nm w
 rw [hw2]
 clear hw2
 have c0 := back_cell c0 HB.out
 have c1 := back_cell c1 HB.out
 refine at_world (w := w2) ?_
 intro u0
 refine wp_loop_rounds 2 ?_
 rw [rounds_succ]
 go_wp2
 rw [rounds_succ]
 go_wp2
 refine wp_region_later (w0 := w2) (by kernel_rfl) (by kernel_rfl) ⟨u0, rfl⟩ ?_
 repeat (go_big_quiet_step ((go_at_call 87; exact Calls.later_eq (Makes.of_same (WordSlice_zero p n m _ hp hp2)) HV.out)))
 refine wpQuiet_nil ?_
 rintro _ ⟨u1, rfl⟩
 go_wp2_with (go_at_call 59; refine (Calls.later (u := u1) (l2Word_calls _ _)).mono ?_; rintro e w' ⟨rfl, u2, rfl⟩)
 exact bodyPost_ret (v := .tuple #[.agg #[.int .i64 0, .int .i64 (n - m + 1)], .bool (true)]) (by simp [results, Tryz.results78, go_sem, r0, r1]) rfl (respost_some HR.out (by repeat (first | exact u2.back HB.out | exact HB.out | refine Below.setCell ?_ (by first | (simp; done) | (simp; omega)) _)))
theorem l2Result_30_d (n m bi bw ci cw xa xb xc xi xw : Int) (nm : ByteArray) (p g cap : Nat) (w : World) (hcap : 1 ≤ cap)  (hp : 1 ≤ p) (hp2 : p ≤ 16) (h : ¬ (0 ≤ m ∧ m ≤ n ∧ n < p)) (c0 : w.cell? ⟨g, 0, none⟩ = some (.int .i64 0)) (c1 : w.cell? ⟨g, 1, none⟩ = some (.int .i64 p)) :
 Calls Tryz.prog 78 #[.agg #[.int .i64 30, .int .i64 xa, .int .i64 xb, .int .i64 xc, .int .i64 n, .int .i64 m, .int .i64 xi, .int .i64 xw, .string nm], .slice (some ⟨g, 0, none⟩) 1 cap] w (ResPost (resN 30 n m 0 p 0 bw ci cw) w) := by
 have HR := Lib.hid (show resN 30 n m 0 p 0 bw ci cw = none by
  unfold resN; rw [if_neg (by omega), if_neg (by omega), if_neg (by omega), if_neg (by omega)]; rw [if_neg (by simp)]
  rw [if_neg (by omega), if_pos rfl]; simp [h])
 have HV := Lib.hid (show Value.tuple #[.int .i64 0, .int .i64 (if 0 ≤ m ∧ m ≤ n ∧ n < p then n - m + 1 else 0), .bool (decide (0 ≤ m ∧ m ≤ n ∧ n < p))] = Value.tuple #[.int .i64 0, .int .i64 (0), .bool false] by rw [if_neg h, decide_eq_false h])
 go_enter Tryz.func78, Tryz.ntmps78
 go_wp2
 obtain ⟨w2, hw2, HB, b0, b4, b5, r0, r1, f0, f1⟩ := res_world 30 n m xa xb xc xi xw nm w
 rw [hw2]
 clear hw2
 have c0 := back_cell c0 HB.out
 have c1 := back_cell c1 HB.out
 refine at_world (w := w2) ?_
 intro u0
 refine wp_loop_rounds 2 ?_
 rw [rounds_succ]
 go_wp2
 rw [rounds_succ]
 go_wp2
 refine wp_region_later (w0 := w2) (by kernel_rfl) (by kernel_rfl) ⟨u0, rfl⟩ ?_
 repeat (go_big_quiet_step ((go_at_call 87; exact Calls.later_eq (Makes.of_same (WordSlice_zero p n m _ hp hp2)) HV.out)))
 refine wpQuiet_nil ?_
 rintro _ ⟨u1, rfl⟩
 go_wp2_with (go_at_call 59; refine (Calls.later (u := u1) (l2Word_calls _ _)).mono ?_; rintro e w' ⟨rfl, u2, rfl⟩)
 exact bodyPost_ret (v := .tuple #[.agg #[.int .i64 0, .int .i64 (0)], .bool (false)]) (by simp [results, Tryz.results78, go_sem, r0, r1]) rfl (respost_none HR.out (by repeat (first | exact u2.back HB.out | exact HB.out | refine Below.setCell ?_ (by first | (simp; done) | (simp; omega)) _)))
theorem l2Result_31_a (n m ai aw bi bw ci cw xa xb xc xi xw : Int) (nm : ByteArray) (g cap : Nat) (w : World) (hcap : 1 ≤ cap) (c0 : w.cell? ⟨g, 0, none⟩ = some (.int .i64 ai)) (c1 : w.cell? ⟨g, 1, none⟩ = some (.int .i64 aw)) (ha : 0 < ai) :
 Calls Tryz.prog 78 #[.agg #[.int .i64 31, .int .i64 xa, .int .i64 xb, .int .i64 xc, .int .i64 n, .int .i64 m, .int .i64 xi, .int .i64 xw, .string nm], .slice (some ⟨g, 0, none⟩) 1 cap] w (ResPost (resN 31 n m ai aw bi bw ci cw) w) := by
 have HR := Lib.hid (show resN 31 n m ai aw bi bw ci cw = none by unfold resN; rw [if_neg (by omega), if_neg (by omega), if_neg (by omega), if_neg (by omega)]; rw [if_pos (Or.inl (by omega))])
 go_enter Tryz.func78, Tryz.ntmps78
 go_wp2
 obtain ⟨w2, hw2, HB, b0, b4, b5, r0, r1, f0, f1⟩ := res_world 31 n m xa xb xc xi xw nm w
 rw [hw2]
 clear hw2
 have c0 := back_cell c0 HB.out
 have c1 := back_cell c1 HB.out
 refine at_world (w := w2) ?_
 intro u0
 refine wp_loop_rounds 2 ?_
 rw [rounds_succ]
 go_wp2
 exact bodyPost_ret (v := .tuple #[.agg #[.int .i64 0, .int .i64 (0)], .bool (false)]) (by simp [results, Tryz.results78, go_sem, r0, r1]) rfl (respost_none HR.out (by repeat (first | exact u0.back HB.out | exact HB.out | refine Below.setCell ?_ (by first | (simp; done) | (simp; omega)) _)))
theorem l2Result_31_c (n m bi bw ci cw xa xb xc xi xw : Int) (nm : ByteArray) (p g cap : Nat) (w : World) (hcap : 1 ≤ cap)  (hp : 1 ≤ p) (hp2 : p ≤ 16) (h : 0 ≤ n ∧ n ≤ 16 - p) (c0 : w.cell? ⟨g, 0, none⟩ = some (.int .i64 0)) (c1 : w.cell? ⟨g, 1, none⟩ = some (.int .i64 p)) :
 Calls Tryz.prog 78 #[.agg #[.int .i64 31, .int .i64 xa, .int .i64 xb, .int .i64 xc, .int .i64 n, .int .i64 m, .int .i64 xi, .int .i64 xw, .string nm], .slice (some ⟨g, 0, none⟩) 1 cap] w (ResPost (resN 31 n m 0 p 0 bw ci cw) w) := by
 have HR := Lib.hid (show resN 31 n m 0 p 0 bw ci cw = some (0, p + n) by
  unfold resN; rw [if_neg (by omega), if_neg (by omega), if_neg (by omega), if_neg (by omega)]; rw [if_neg (by simp)]
  rw [if_neg (by omega), if_neg (by omega), if_pos (by simp)]; simp [h])
 have HV := Lib.hid (show Value.tuple #[.int .i64 0, .int .i64 (if 0 ≤ n ∧ n ≤ 16 - p then p + n else 0), .bool (decide (0 ≤ n ∧ n ≤ 16 - p))] = Value.tuple #[.int .i64 0, .int .i64 (p + n), .bool true] by rw [if_pos h, decide_eq_true h])
 go_enter Tryz.func78, Tryz.ntmps78
 go_wp2
 obtain ⟨w2, hw2, HB, b0, b4, b5, r0, r1, f0, f1⟩ := res_world 31 n m xa xb xc xi xw nm w
 rw [hw2]
 clear hw2
 have c0 := back_cell c0 HB.out
 have c1 := back_cell c1 HB.out
 refine at_world (w := w2) ?_
 intro u0
 refine wp_loop_rounds 2 ?_
 rw [rounds_succ]
 go_wp2
 rw [rounds_succ]
 go_wp2
 refine wp_region_later (w0 := w2) (by kernel_rfl) (by kernel_rfl) ⟨u0, rfl⟩ ?_
 repeat (go_big_quiet_step ((go_at_call 88; exact Calls.later_eq (Makes.of_same (WordGrow_zero p n _ hp hp2)) HV.out)))
 refine wpQuiet_nil ?_
 rintro _ ⟨u1, rfl⟩
 go_wp2_with (go_at_call 59; refine (Calls.later (u := u1) (l2Word_calls _ _)).mono ?_; rintro e w' ⟨rfl, u2, rfl⟩)
 exact bodyPost_ret (v := .tuple #[.agg #[.int .i64 0, .int .i64 (p + n)], .bool (true)]) (by simp [results, Tryz.results78, go_sem, r0, r1]) rfl (respost_some HR.out (by repeat (first | exact u2.back HB.out | exact HB.out | refine Below.setCell ?_ (by first | (simp; done) | (simp; omega)) _)))
theorem l2Result_31_d (n m bi bw ci cw xa xb xc xi xw : Int) (nm : ByteArray) (p g cap : Nat) (w : World) (hcap : 1 ≤ cap)  (hp : 1 ≤ p) (hp2 : p ≤ 16) (h : ¬ (0 ≤ n ∧ n ≤ 16 - p)) (c0 : w.cell? ⟨g, 0, none⟩ = some (.int .i64 0)) (c1 : w.cell? ⟨g, 1, none⟩ = some (.int .i64 p)) :
 Calls Tryz.prog 78 #[.agg #[.int .i64 31, .int .i64 xa, .int .i64 xb, .int .i64 xc, .int .i64 n, .int .i64 m, .int .i64 xi, .int .i64 xw, .string nm], .slice (some ⟨g, 0, none⟩) 1 cap] w (ResPost (resN 31 n m 0 p 0 bw ci cw) w) := by
 have HR := Lib.hid (show resN 31 n m 0 p 0 bw ci cw = none by
  unfold resN; rw [if_neg (by omega), if_neg (by omega), if_neg (by omega), if_neg (by omega)]; rw [if_neg (by simp)]
  rw [if_neg (by omega), if_neg (by omega), if_pos (by simp)]; simp [h])
 have HV := Lib.hid (show Value.tuple #[.int .i64 0, .int .i64 (if 0 ≤ n ∧ n ≤ 16 - p then p + n else 0), .bool (decide (0 ≤ n ∧ n ≤ 16 - p))] = Value.tuple #[.int .i64 0, .int .i64 (0), .bool false] by rw [if_neg h, decide_eq_false h])
 go_enter Tryz.func78, Tryz.ntmps78
 go_wp2
 obtain ⟨w2, hw2, HB, b0, b4, b5, r0, r1, f0, f1⟩ := res_world 31 n m xa xb xc xi xw nm w
 rw [hw2]
 clear hw2
 have c0 := back_cell c0 HB.out
 have c1 := back_cell c1 HB.out
 refine at_world (w := w2) ?_
 intro u0
 refine wp_loop_rounds 2 ?_
 rw [rounds_succ]
 go_wp2
 rw [rounds_succ]
 go_wp2
 refine wp_region_later (w0 := w2) (by kernel_rfl) (by kernel_rfl) ⟨u0, rfl⟩ ?_
 repeat (go_big_quiet_step ((go_at_call 88; exact Calls.later_eq (Makes.of_same (WordGrow_zero p n _ hp hp2)) HV.out)))
 refine wpQuiet_nil ?_
 rintro _ ⟨u1, rfl⟩
 go_wp2_with (go_at_call 59; refine (Calls.later (u := u1) (l2Word_calls _ _)).mono ?_; rintro e w' ⟨rfl, u2, rfl⟩)
 exact bodyPost_ret (v := .tuple #[.agg #[.int .i64 0, .int .i64 (0)], .bool (false)]) (by simp [results, Tryz.results78, go_sem, r0, r1]) rfl (respost_none HR.out (by repeat (first | exact u2.back HB.out | exact HB.out | refine Below.setCell ?_ (by first | (simp; done) | (simp; omega)) _)))
theorem l2Result_32_a (n m ai aw bi bw ci cw xa xb xc xi xw : Int) (nm : ByteArray) (g cap : Nat) (w : World) (hcap : 1 ≤ cap) (c0 : w.cell? ⟨g, 0, none⟩ = some (.int .i64 ai)) (c1 : w.cell? ⟨g, 1, none⟩ = some (.int .i64 aw)) (ha : 0 < ai) :
 Calls Tryz.prog 78 #[.agg #[.int .i64 32, .int .i64 xa, .int .i64 xb, .int .i64 xc, .int .i64 n, .int .i64 m, .int .i64 xi, .int .i64 xw, .string nm], .slice (some ⟨g, 0, none⟩) 1 cap] w (ResPost (resN 32 n m ai aw bi bw ci cw) w) := by
 have HR := Lib.hid (show resN 32 n m ai aw bi bw ci cw = none by unfold resN; rw [if_neg (by omega), if_neg (by omega), if_neg (by omega), if_neg (by omega)]; rw [if_pos (Or.inl (by omega))])
 go_enter Tryz.func78, Tryz.ntmps78
 go_wp2
 obtain ⟨w2, hw2, HB, b0, b4, b5, r0, r1, f0, f1⟩ := res_world 32 n m xa xb xc xi xw nm w
 rw [hw2]
 clear hw2
 have c0 := back_cell c0 HB.out
 have c1 := back_cell c1 HB.out
 refine at_world (w := w2) ?_
 intro u0
 refine wp_loop_rounds 2 ?_
 rw [rounds_succ]
 go_wp2
 exact bodyPost_ret (v := .tuple #[.agg #[.int .i64 0, .int .i64 (0)], .bool (false)]) (by simp [results, Tryz.results78, go_sem, r0, r1]) rfl (respost_none HR.out (by repeat (first | exact u0.back HB.out | exact HB.out | refine Below.setCell ?_ (by first | (simp; done) | (simp; omega)) _)))
theorem l2Result_32_c (n m bi bw ci cw xa xb xc xi xw : Int) (nm : ByteArray) (p g cap : Nat) (w : World) (hcap : 1 ≤ cap)  (hp : 1 ≤ p) (hp2 : p ≤ 16) (h : 0 ≤ n ∧ n ≤ 16 - p) (c0 : w.cell? ⟨g, 0, none⟩ = some (.int .i64 0)) (c1 : w.cell? ⟨g, 1, none⟩ = some (.int .i64 p)) :
 Calls Tryz.prog 78 #[.agg #[.int .i64 32, .int .i64 xa, .int .i64 xb, .int .i64 xc, .int .i64 n, .int .i64 m, .int .i64 xi, .int .i64 xw, .string nm], .slice (some ⟨g, 0, none⟩) 1 cap] w (ResPost (resN 32 n m 0 p 0 bw ci cw) w) := by
 have HR := Lib.hid (show resN 32 n m 0 p 0 bw ci cw = some (0, p + n) by
  unfold resN; rw [if_neg (by omega), if_neg (by omega), if_neg (by omega), if_neg (by omega)]; rw [if_neg (by simp)]
  rw [if_neg (by omega), if_neg (by omega), if_pos (by simp)]; simp [h])
 have HV := Lib.hid (show Value.tuple #[.int .i64 0, .int .i64 (if 0 ≤ n ∧ n ≤ 16 - p then p + n else 0), .bool (decide (0 ≤ n ∧ n ≤ 16 - p))] = Value.tuple #[.int .i64 0, .int .i64 (p + n), .bool true] by rw [if_pos h, decide_eq_true h])
 go_enter Tryz.func78, Tryz.ntmps78
 go_wp2
 obtain ⟨w2, hw2, HB, b0, b4, b5, r0, r1, f0, f1⟩ := res_world 32 n m xa xb xc xi xw nm w
 rw [hw2]
 clear hw2
 have c0 := back_cell c0 HB.out
 have c1 := back_cell c1 HB.out
 refine at_world (w := w2) ?_
 intro u0
 refine wp_loop_rounds 2 ?_
 rw [rounds_succ]
 go_wp2
 rw [rounds_succ]
 go_wp2
 refine wp_region_later (w0 := w2) (by kernel_rfl) (by kernel_rfl) ⟨u0, rfl⟩ ?_
 repeat (go_big_quiet_step ((go_at_call 88; exact Calls.later_eq (Makes.of_same (WordGrow_zero p n _ hp hp2)) HV.out)))
 refine wpQuiet_nil ?_
 rintro _ ⟨u1, rfl⟩
 go_wp2_with (go_at_call 59; refine (Calls.later (u := u1) (l2Word_calls _ _)).mono ?_; rintro e w' ⟨rfl, u2, rfl⟩)
 exact bodyPost_ret (v := .tuple #[.agg #[.int .i64 0, .int .i64 (p + n)], .bool (true)]) (by simp [results, Tryz.results78, go_sem, r0, r1]) rfl (respost_some HR.out (by repeat (first | exact u2.back HB.out | exact HB.out | refine Below.setCell ?_ (by first | (simp; done) | (simp; omega)) _)))
theorem l2Result_32_d (n m bi bw ci cw xa xb xc xi xw : Int) (nm : ByteArray) (p g cap : Nat) (w : World) (hcap : 1 ≤ cap)  (hp : 1 ≤ p) (hp2 : p ≤ 16) (h : ¬ (0 ≤ n ∧ n ≤ 16 - p)) (c0 : w.cell? ⟨g, 0, none⟩ = some (.int .i64 0)) (c1 : w.cell? ⟨g, 1, none⟩ = some (.int .i64 p)) :
 Calls Tryz.prog 78 #[.agg #[.int .i64 32, .int .i64 xa, .int .i64 xb, .int .i64 xc, .int .i64 n, .int .i64 m, .int .i64 xi, .int .i64 xw, .string nm], .slice (some ⟨g, 0, none⟩) 1 cap] w (ResPost (resN 32 n m 0 p 0 bw ci cw) w) := by
 have HR := Lib.hid (show resN 32 n m 0 p 0 bw ci cw = none by
  unfold resN; rw [if_neg (by omega), if_neg (by omega), if_neg (by omega), if_neg (by omega)]; rw [if_neg (by simp)]
  rw [if_neg (by omega), if_neg (by omega), if_pos (by simp)]; simp [h])
 have HV := Lib.hid (show Value.tuple #[.int .i64 0, .int .i64 (if 0 ≤ n ∧ n ≤ 16 - p then p + n else 0), .bool (decide (0 ≤ n ∧ n ≤ 16 - p))] = Value.tuple #[.int .i64 0, .int .i64 (0), .bool false] by rw [if_neg h, decide_eq_false h])
 go_enter Tryz.func78, Tryz.ntmps78
 go_wp2
 obtain ⟨w2, hw2, HB, b0, b4, b5, r0, r1, f0, f1⟩ := res_world 32 n m xa xb xc xi xw nm w
 rw [hw2]
 clear hw2
 have c0 := back_cell c0 HB.out
 have c1 := back_cell c1 HB.out
 refine at_world (w := w2) ?_
 intro u0
 refine wp_loop_rounds 2 ?_
 rw [rounds_succ]
 go_wp2
 rw [rounds_succ]
 go_wp2
 refine wp_region_later (w0 := w2) (by kernel_rfl) (by kernel_rfl) ⟨u0, rfl⟩ ?_
 repeat (go_big_quiet_step ((go_at_call 88; exact Calls.later_eq (Makes.of_same (WordGrow_zero p n _ hp hp2)) HV.out)))
 refine wpQuiet_nil ?_
 rintro _ ⟨u1, rfl⟩
 go_wp2_with (go_at_call 59; refine (Calls.later (u := u1) (l2Word_calls _ _)).mono ?_; rintro e w' ⟨rfl, u2, rfl⟩)
 exact bodyPost_ret (v := .tuple #[.agg #[.int .i64 0, .int .i64 (0)], .bool (false)]) (by simp [results, Tryz.results78, go_sem, r0, r1]) rfl (respost_none HR.out (by repeat (first | exact u2.back HB.out | exact HB.out | refine Below.setCell ?_ (by first | (simp; done) | (simp; omega)) _)))
end Go.Proofs.YthejgnabgglmhaaGreat
namespace Go.Proofs.YthejgnabgglmhaaGreat
open Go.RowKit
attribute [local go_sem high] eq_sort
theorem l2Result_one_a (kind n m ai aw bi bw ci cw xa xb xc xi xw : Int) (nm : ByteArray) (g cap : Nat) (w : World) (hcap : 1 ≤ cap) (hk : 1 ≤ kind ∧ kind ≤ 5) (c0 : w.cell? ⟨g, 0, none⟩ = some (.int .i64 ai)) (c1 : w.cell? ⟨g, 1, none⟩ = some (.int .i64 aw)) (ha : 0 < ai) :
 Calls Tryz.prog 78 #[.agg #[.int .i64 kind, .int .i64 xa, .int .i64 xb, .int .i64 xc, .int .i64 n, .int .i64 m, .int .i64 xi, .int .i64 xw, .string nm], .slice (some ⟨g, 0, none⟩) 1 cap] w (ResPost (resN kind n m ai aw bi bw ci cw) w) := by
 have HR := Lib.hid (show resN kind n m ai aw bi bw ci cw = none by unfold resN; rw [if_neg (by omega), if_neg (by omega), if_neg (by omega), if_neg (by omega)]; rw [if_pos (Or.inl (by omega))])
 have k33 : (kind == 33) = false := beq_eq_false_iff_ne.2 (by omega)
 have k37 : (kind == 37) = false := beq_eq_false_iff_ne.2 (by omega)
 have k38 : (kind == 38) = false := beq_eq_false_iff_ne.2 (by omega)
 have k21 : (kind == 21) = false := beq_eq_false_iff_ne.2 (by omega)
 have k29 : (kind == 29) = false := beq_eq_false_iff_ne.2 (by omega)
 have k30 : (kind == 30) = false := beq_eq_false_iff_ne.2 (by omega)
 have k31 : (kind == 31) = false := beq_eq_false_iff_ne.2 (by omega)
 have k32 : (kind == 32) = false := beq_eq_false_iff_ne.2 (by omega)
 clear hk
 go_enter Tryz.func78, Tryz.ntmps78
 go_wp2
 obtain ⟨w2, hw2, HB, b0, b4, b5, r0, r1, f0, f1⟩ := res_world kind n m xa xb xc xi xw nm w
 rw [hw2]
 clear hw2
 have c0 := back_cell c0 HB.out
 have c1 := back_cell c1 HB.out
 refine at_world (w := w2) ?_
 intro u0
 refine wp_loop_rounds 2 ?_
 rw [rounds_succ]
 go_wp2
 exact bodyPost_ret (v := .tuple #[.agg #[.int .i64 0, .int .i64 (0)], .bool (false)]) (by simp [results, Tryz.results78, go_sem, r0, r1]) rfl (respost_none HR.out (by repeat (first | exact u0.back HB.out | exact HB.out | refine Below.setCell ?_ (by first | (simp; done) | (simp; omega)) _)))
theorem l2Result_one_c (kind n m bi bw ci cw xa xb xc xi xw : Int) (nm : ByteArray) (p g cap : Nat) (w : World) (hcap : 1 ≤ cap) (hk : 1 ≤ kind ∧ kind ≤ 5)  (hp : 1 ≤ p) (hp2 : p ≤ 16) (h : kind ≤ 2) (c0 : w.cell? ⟨g, 0, none⟩ = some (.int .i64 0)) (c1 : w.cell? ⟨g, 1, none⟩ = some (.int .i64 p)) :
 Calls Tryz.prog 78 #[.agg #[.int .i64 kind, .int .i64 xa, .int .i64 xb, .int .i64 xc, .int .i64 n, .int .i64 m, .int .i64 xi, .int .i64 xw, .string nm], .slice (some ⟨g, 0, none⟩) 1 cap] w (ResPost (resN kind n m 0 p 0 bw ci cw) w) := by
 have HR := Lib.hid (show resN kind n m 0 p 0 bw ci cw = some (0, (p : Int)) by
  unfold resN; rw [if_neg (by omega), if_neg (by omega), if_neg (by omega), if_neg (by omega)]; rw [if_neg (by simp)]
  rw [if_neg (by omega), if_neg (by omega), if_neg (by omega)]; rw [if_pos h])
 obtain ⟨vv, hvv⟩ : ∃ v : Int, v = (if kind = 1 then 2 ^ p - 1 else 0) := ⟨_, rfl⟩
 have HV := Lib.hid (show Value.tuple #[.int .i64 (if kind = 1 then 2 ^ p - 1 else 0), .int .i64 (if kind ≤ 2 then (p : Int) else 1), .bool true] = Value.tuple #[.int .i64 vv, .int .i64 p, .bool true] by rw [if_pos h, hvv])
 have HK := Lib.hid hk
 clear hvv
 have k33 : (kind == 33) = false := beq_eq_false_iff_ne.2 (by omega)
 have k37 : (kind == 37) = false := beq_eq_false_iff_ne.2 (by omega)
 have k38 : (kind == 38) = false := beq_eq_false_iff_ne.2 (by omega)
 have k21 : (kind == 21) = false := beq_eq_false_iff_ne.2 (by omega)
 have k29 : (kind == 29) = false := beq_eq_false_iff_ne.2 (by omega)
 have k30 : (kind == 30) = false := beq_eq_false_iff_ne.2 (by omega)
 have k31 : (kind == 31) = false := beq_eq_false_iff_ne.2 (by omega)
 have k32 : (kind == 32) = false := beq_eq_false_iff_ne.2 (by omega)
 clear hk
 go_enter Tryz.func78, Tryz.ntmps78
 go_wp2
 obtain ⟨w2, hw2, HB, b0, b4, b5, r0, r1, f0, f1⟩ := res_world kind n m xa xb xc xi xw nm w
 rw [hw2]
 clear hw2
 have c0 := back_cell c0 HB.out
 have c1 := back_cell c1 HB.out
 refine at_world (w := w2) ?_
 intro u0
 refine wp_loop_rounds 2 ?_
 rw [rounds_succ]
 go_wp2
 rw [rounds_succ]
 go_wp2
 refine wp_region_later (w0 := w2) (by kernel_rfl) (by kernel_rfl) ⟨u0, rfl⟩ ?_
 repeat (go_big_quiet_step ((go_at_call 89; exact Calls.later_eq (Makes.of_same (WordOne_zero kind p _ hp hp2 (by have := HK.out; omega))) HV.out)))
 refine wpQuiet_nil ?_
 rintro _ ⟨u1, rfl⟩
 go_wp2_with (go_at_call 59; refine (Calls.later (u := u1) (l2Word_calls _ _)).mono ?_; rintro e w' ⟨rfl, u2, rfl⟩)
 exact bodyPost_ret (v := .tuple #[.agg #[.int .i64 0, .int .i64 ((p : Int))], .bool (true)]) (by simp [results, Tryz.results78, go_sem, r0, r1]) rfl (respost_some HR.out (by repeat (first | exact u2.back HB.out | exact HB.out | refine Below.setCell ?_ (by first | (simp; done) | (simp; omega)) _)))
theorem l2Result_one_d (kind n m bi bw ci cw xa xb xc xi xw : Int) (nm : ByteArray) (p g cap : Nat) (w : World) (hcap : 1 ≤ cap) (hk : 1 ≤ kind ∧ kind ≤ 5)  (hp : 1 ≤ p) (hp2 : p ≤ 16) (h : ¬ kind ≤ 2) (c0 : w.cell? ⟨g, 0, none⟩ = some (.int .i64 0)) (c1 : w.cell? ⟨g, 1, none⟩ = some (.int .i64 p)) :
 Calls Tryz.prog 78 #[.agg #[.int .i64 kind, .int .i64 xa, .int .i64 xb, .int .i64 xc, .int .i64 n, .int .i64 m, .int .i64 xi, .int .i64 xw, .string nm], .slice (some ⟨g, 0, none⟩) 1 cap] w (ResPost (resN kind n m 0 p 0 bw ci cw) w) := by
 have HR := Lib.hid (show resN kind n m 0 p 0 bw ci cw = some (0, 1) by
  unfold resN; rw [if_neg (by omega), if_neg (by omega), if_neg (by omega), if_neg (by omega)]; rw [if_neg (by simp)]
  rw [if_neg (by omega), if_neg (by omega), if_neg (by omega)]; rw [if_neg h, if_pos hk.2])
 obtain ⟨vv, hvv⟩ : ∃ v : Int, v = (if kind = 1 then 2 ^ p - 1 else 0) := ⟨_, rfl⟩
 have HV := Lib.hid (show Value.tuple #[.int .i64 (if kind = 1 then 2 ^ p - 1 else 0), .int .i64 (if kind ≤ 2 then (p : Int) else 1), .bool true] = Value.tuple #[.int .i64 vv, .int .i64 1, .bool true] by rw [if_neg h, hvv])
 have HK := Lib.hid hk
 clear hvv
 have k33 : (kind == 33) = false := beq_eq_false_iff_ne.2 (by omega)
 have k37 : (kind == 37) = false := beq_eq_false_iff_ne.2 (by omega)
 have k38 : (kind == 38) = false := beq_eq_false_iff_ne.2 (by omega)
 have k21 : (kind == 21) = false := beq_eq_false_iff_ne.2 (by omega)
 have k29 : (kind == 29) = false := beq_eq_false_iff_ne.2 (by omega)
 have k30 : (kind == 30) = false := beq_eq_false_iff_ne.2 (by omega)
 have k31 : (kind == 31) = false := beq_eq_false_iff_ne.2 (by omega)
 have k32 : (kind == 32) = false := beq_eq_false_iff_ne.2 (by omega)
 clear hk
 go_enter Tryz.func78, Tryz.ntmps78
 go_wp2
 obtain ⟨w2, hw2, HB, b0, b4, b5, r0, r1, f0, f1⟩ := res_world kind n m xa xb xc xi xw nm w
 rw [hw2]
 clear hw2
 have c0 := back_cell c0 HB.out
 have c1 := back_cell c1 HB.out
 refine at_world (w := w2) ?_
 intro u0
 refine wp_loop_rounds 2 ?_
 rw [rounds_succ]
 go_wp2
 rw [rounds_succ]
 go_wp2
 refine wp_region_later (w0 := w2) (by kernel_rfl) (by kernel_rfl) ⟨u0, rfl⟩ ?_
 repeat (go_big_quiet_step ((go_at_call 89; exact Calls.later_eq (Makes.of_same (WordOne_zero kind p _ hp hp2 (by have := HK.out; omega))) HV.out)))
 refine wpQuiet_nil ?_
 rintro _ ⟨u1, rfl⟩
 go_wp2_with (go_at_call 59; refine (Calls.later (u := u1) (l2Word_calls _ _)).mono ?_; rintro e w' ⟨rfl, u2, rfl⟩)
 exact bodyPost_ret (v := .tuple #[.agg #[.int .i64 0, .int .i64 (1)], .bool (true)]) (by simp [results, Tryz.results78, go_sem, r0, r1]) rfl (respost_some HR.out (by repeat (first | exact u2.back HB.out | exact HB.out | refine Below.setCell ?_ (by first | (simp; done) | (simp; omega)) _)))
theorem l2Result_two_a (kind n m ai aw bi bw ci cw xa xb xc xi xw : Int) (nm : ByteArray) (g cap : Nat) (w : World) (hcap : 2 ≤ cap) (hk : 6 ≤ kind ∧ kind ≤ 28 ∧ kind ≠ 21) (c0 : w.cell? ⟨g, 0, none⟩ = some (.int .i64 ai)) (c1 : w.cell? ⟨g, 1, none⟩ = some (.int .i64 aw)) (c2 : w.cell? ⟨g, 2, none⟩ = some (.int .i64 bi)) (c3 : w.cell? ⟨g, 3, none⟩ = some (.int .i64 bw)) (ha : 0 < ai) :
 Calls Tryz.prog 78 #[.agg #[.int .i64 kind, .int .i64 xa, .int .i64 xb, .int .i64 xc, .int .i64 n, .int .i64 m, .int .i64 xi, .int .i64 xw, .string nm], .slice (some ⟨g, 0, none⟩) 2 cap] w (ResPost (resN kind n m ai aw bi bw ci cw) w) := by
 have HR := Lib.hid (show resN kind n m ai aw bi bw ci cw = none by unfold resN; rw [if_neg (by omega), if_neg (by omega), if_neg (by omega), if_neg (by omega)]; rw [if_pos (Or.inl (by omega))])
 have k33 : (kind == 33) = false := beq_eq_false_iff_ne.2 (by omega)
 have k37 : (kind == 37) = false := beq_eq_false_iff_ne.2 (by omega)
 have k38 : (kind == 38) = false := beq_eq_false_iff_ne.2 (by omega)
 have k21 : (kind == 21) = false := beq_eq_false_iff_ne.2 (by omega)
 have k29 : (kind == 29) = false := beq_eq_false_iff_ne.2 (by omega)
 have k30 : (kind == 30) = false := beq_eq_false_iff_ne.2 (by omega)
 have k31 : (kind == 31) = false := beq_eq_false_iff_ne.2 (by omega)
 have k32 : (kind == 32) = false := beq_eq_false_iff_ne.2 (by omega)
 clear hk
 go_enter Tryz.func78, Tryz.ntmps78
 go_wp2
 obtain ⟨w2, hw2, HB, b0, b4, b5, r0, r1, f0, f1⟩ := res_world kind n m xa xb xc xi xw nm w
 rw [hw2]
 clear hw2
 have c0 := back_cell c0 HB.out
 have c1 := back_cell c1 HB.out
 have c2 := back_cell c2 HB.out
 have c3 := back_cell c3 HB.out
 refine at_world (w := w2) ?_
 intro u0
 refine wp_loop_rounds 3 ?_
 rw [rounds_succ]
 go_wp2
 exact bodyPost_ret (v := .tuple #[.agg #[.int .i64 0, .int .i64 (0)], .bool (false)]) (by simp [results, Tryz.results78, go_sem, r0, r1]) rfl (respost_none HR.out (by repeat (first | exact u0.back HB.out | exact HB.out | refine Below.setCell ?_ (by first | (simp; done) | (simp; omega)) _)))
theorem l2Result_two_b (kind n m ai aw bi bw ci cw xa xb xc xi xw : Int) (nm : ByteArray) (g cap : Nat) (w : World) (hcap : 2 ≤ cap) (hk : 6 ≤ kind ∧ kind ≤ 28 ∧ kind ≠ 21) (c0 : w.cell? ⟨g, 0, none⟩ = some (.int .i64 ai)) (c1 : w.cell? ⟨g, 1, none⟩ = some (.int .i64 aw)) (c2 : w.cell? ⟨g, 2, none⟩ = some (.int .i64 bi)) (c3 : w.cell? ⟨g, 3, none⟩ = some (.int .i64 bw)) (ha : ai = 0) (hb : 0 < bi) :
 Calls Tryz.prog 78 #[.agg #[.int .i64 kind, .int .i64 xa, .int .i64 xb, .int .i64 xc, .int .i64 n, .int .i64 m, .int .i64 xi, .int .i64 xw, .string nm], .slice (some ⟨g, 0, none⟩) 2 cap] w (ResPost (resN kind n m ai aw bi bw ci cw) w) := by
 subst ha
 have HR := Lib.hid (show resN kind n m 0 aw bi bw ci cw = none by unfold resN; rw [if_neg (by omega), if_neg (by omega), if_neg (by omega), if_neg (by omega)]; rw [if_pos (Or.inr (by omega))])
 have k33 : (kind == 33) = false := beq_eq_false_iff_ne.2 (by omega)
 have k37 : (kind == 37) = false := beq_eq_false_iff_ne.2 (by omega)
 have k38 : (kind == 38) = false := beq_eq_false_iff_ne.2 (by omega)
 have k21 : (kind == 21) = false := beq_eq_false_iff_ne.2 (by omega)
 have k29 : (kind == 29) = false := beq_eq_false_iff_ne.2 (by omega)
 have k30 : (kind == 30) = false := beq_eq_false_iff_ne.2 (by omega)
 have k31 : (kind == 31) = false := beq_eq_false_iff_ne.2 (by omega)
 have k32 : (kind == 32) = false := beq_eq_false_iff_ne.2 (by omega)
 clear hk
 go_enter Tryz.func78, Tryz.ntmps78
 go_wp2
 obtain ⟨w2, hw2, HB, b0, b4, b5, r0, r1, f0, f1⟩ := res_world kind n m xa xb xc xi xw nm w
 rw [hw2]
 clear hw2
 have c0 := back_cell c0 HB.out
 have c1 := back_cell c1 HB.out
 have c2 := back_cell c2 HB.out
 have c3 := back_cell c3 HB.out
 refine at_world (w := w2) ?_
 intro u0
 refine wp_loop_rounds 3 ?_
 rw [rounds_succ]
 go_wp2
 rw [rounds_succ]
 go_wp2
 exact bodyPost_ret (v := .tuple #[.agg #[.int .i64 0, .int .i64 (0)], .bool (false)]) (by simp [results, Tryz.results78, go_sem, r0, r1]) rfl (respost_none HR.out (by repeat (first | exact u0.back HB.out | exact HB.out | refine Below.setCell ?_ (by first | (simp; done) | (simp; omega)) _)))
theorem l2Result_two_c (kind n m ci cw xa xb xc xi xw : Int) (nm : ByteArray) (p q g cap : Nat) (w : World) (hcap : 2 ≤ cap) (hk : 6 ≤ kind ∧ kind ≤ 28 ∧ kind ≠ 21)  (hp : 1 ≤ p) (hp2 : p ≤ 16) (hq : 1 ≤ q) (hq2 : q ≤ 16) (hpq : p = q) (h : kind ≤ 20) (c0 : w.cell? ⟨g, 0, none⟩ = some (.int .i64 0)) (c1 : w.cell? ⟨g, 1, none⟩ = some (.int .i64 p)) (c2 : w.cell? ⟨g, 2, none⟩ = some (.int .i64 0)) (c3 : w.cell? ⟨g, 3, none⟩ = some (.int .i64 q)) :
 Calls Tryz.prog 78 #[.agg #[.int .i64 kind, .int .i64 xa, .int .i64 xb, .int .i64 xc, .int .i64 n, .int .i64 m, .int .i64 xi, .int .i64 xw, .string nm], .slice (some ⟨g, 0, none⟩) 2 cap] w (ResPost (resN kind n m 0 p 0 q ci cw) w) := by
 subst hpq
 have HR := Lib.hid (show resN kind n m 0 p 0 p ci cw = some (0, (p : Int)) by
  unfold resN; rw [if_neg (by omega), if_neg (by omega), if_neg (by omega), if_neg (by omega)]; rw [if_neg (by simp)]
  rw [if_neg (by omega), if_neg (by omega), if_neg (by omega), if_neg (by omega), if_neg (by omega)]; rw [if_pos rfl, if_pos h])
 have HV := Lib.hid (show Value.tuple #[.int .i64 (twoV kind p), .int .i64 (if kind ≤ 20 then (p : Int) else 1), .bool true] = Value.tuple #[.int .i64 (twoV kind p), .int .i64 p, .bool true] by rw [if_pos h])
 have HK := Lib.hid hk
 have k33 : (kind == 33) = false := beq_eq_false_iff_ne.2 (by omega)
 have k37 : (kind == 37) = false := beq_eq_false_iff_ne.2 (by omega)
 have k38 : (kind == 38) = false := beq_eq_false_iff_ne.2 (by omega)
 have k21 : (kind == 21) = false := beq_eq_false_iff_ne.2 (by omega)
 have k29 : (kind == 29) = false := beq_eq_false_iff_ne.2 (by omega)
 have k30 : (kind == 30) = false := beq_eq_false_iff_ne.2 (by omega)
 have k31 : (kind == 31) = false := beq_eq_false_iff_ne.2 (by omega)
 have k32 : (kind == 32) = false := beq_eq_false_iff_ne.2 (by omega)
 clear hk
 go_enter Tryz.func78, Tryz.ntmps78
 go_wp2
 obtain ⟨w2, hw2, HB, b0, b4, b5, r0, r1, f0, f1⟩ := res_world kind n m xa xb xc xi xw nm w
 rw [hw2]
 clear hw2
 have c0 := back_cell c0 HB.out
 have c1 := back_cell c1 HB.out
 have c2 := back_cell c2 HB.out
 have c3 := back_cell c3 HB.out
 refine at_world (w := w2) ?_
 intro u0
 refine wp_loop_rounds 3 ?_
 rw [rounds_succ]
 go_wp2
 rw [rounds_succ]
 go_wp2
 rw [rounds_succ]
 go_wp2
 refine wp_region_later (w0 := w2) (by kernel_rfl) (by kernel_rfl) ⟨u0, rfl⟩ ?_
 repeat (go_big_quiet_step (fail))
 refine wpQuiet_nil ?_
 rintro _ ⟨u1, rfl⟩
 go_wp2
 refine wp_region_later (w0 := w2) (by kernel_rfl) (by kernel_rfl) ⟨_, rfl⟩ ?_
 repeat (go_big_quiet_step ((go_at_call 90; exact Calls.later_eq (WordTwo_zero kind p _ hp hp2 (by have := HK.out; omega) (by have := HK.out; omega)) HV.out)))
 refine wpQuiet_nil ?_
 rintro _ ⟨u1, rfl⟩
 go_wp2_with (go_at_call 59; refine (Calls.later (u := u1) (l2Word_calls _ _)).mono ?_; rintro e w' ⟨rfl, u2, rfl⟩)
 exact bodyPost_ret (v := .tuple #[.agg #[.int .i64 0, .int .i64 ((p : Int))], .bool (true)]) (by simp [results, Tryz.results78, go_sem, r0, r1]) rfl (respost_some HR.out (by repeat (first | exact u2.back HB.out | exact HB.out | refine Below.setCell ?_ (by first | (simp; done) | (simp; omega)) _)))
theorem l2Result_two_d (kind n m ci cw xa xb xc xi xw : Int) (nm : ByteArray) (p q g cap : Nat) (w : World) (hcap : 2 ≤ cap) (hk : 6 ≤ kind ∧ kind ≤ 28 ∧ kind ≠ 21)  (hp : 1 ≤ p) (hp2 : p ≤ 16) (hq : 1 ≤ q) (hq2 : q ≤ 16) (hpq : p = q) (h : ¬ kind ≤ 20) (c0 : w.cell? ⟨g, 0, none⟩ = some (.int .i64 0)) (c1 : w.cell? ⟨g, 1, none⟩ = some (.int .i64 p)) (c2 : w.cell? ⟨g, 2, none⟩ = some (.int .i64 0)) (c3 : w.cell? ⟨g, 3, none⟩ = some (.int .i64 q)) :
 Calls Tryz.prog 78 #[.agg #[.int .i64 kind, .int .i64 xa, .int .i64 xb, .int .i64 xc, .int .i64 n, .int .i64 m, .int .i64 xi, .int .i64 xw, .string nm], .slice (some ⟨g, 0, none⟩) 2 cap] w (ResPost (resN kind n m 0 p 0 q ci cw) w) := by
 subst hpq
 have HR := Lib.hid (show resN kind n m 0 p 0 p ci cw = some (0, 1) by
  unfold resN; rw [if_neg (by omega), if_neg (by omega), if_neg (by omega), if_neg (by omega)]; rw [if_neg (by simp)]
  rw [if_neg (by omega), if_neg (by omega), if_neg (by omega), if_neg (by omega), if_neg (by omega)]; rw [if_pos rfl, if_neg h])
 have HV := Lib.hid (show Value.tuple #[.int .i64 (twoV kind p), .int .i64 (if kind ≤ 20 then (p : Int) else 1), .bool true] = Value.tuple #[.int .i64 (twoV kind p), .int .i64 1, .bool true] by rw [if_neg h])
 have HK := Lib.hid hk
 have k33 : (kind == 33) = false := beq_eq_false_iff_ne.2 (by omega)
 have k37 : (kind == 37) = false := beq_eq_false_iff_ne.2 (by omega)
 have k38 : (kind == 38) = false := beq_eq_false_iff_ne.2 (by omega)
 have k21 : (kind == 21) = false := beq_eq_false_iff_ne.2 (by omega)
 have k29 : (kind == 29) = false := beq_eq_false_iff_ne.2 (by omega)
 have k30 : (kind == 30) = false := beq_eq_false_iff_ne.2 (by omega)
 have k31 : (kind == 31) = false := beq_eq_false_iff_ne.2 (by omega)
 have k32 : (kind == 32) = false := beq_eq_false_iff_ne.2 (by omega)
 clear hk
 go_enter Tryz.func78, Tryz.ntmps78
 go_wp2
 obtain ⟨w2, hw2, HB, b0, b4, b5, r0, r1, f0, f1⟩ := res_world kind n m xa xb xc xi xw nm w
 rw [hw2]
 clear hw2
 have c0 := back_cell c0 HB.out
 have c1 := back_cell c1 HB.out
 have c2 := back_cell c2 HB.out
 have c3 := back_cell c3 HB.out
 refine at_world (w := w2) ?_
 intro u0
 refine wp_loop_rounds 3 ?_
 rw [rounds_succ]
 go_wp2
 rw [rounds_succ]
 go_wp2
 rw [rounds_succ]
 go_wp2
 refine wp_region_later (w0 := w2) (by kernel_rfl) (by kernel_rfl) ⟨u0, rfl⟩ ?_
 repeat (go_big_quiet_step (fail))
 refine wpQuiet_nil ?_
 rintro _ ⟨u1, rfl⟩
 go_wp2
 refine wp_region_later (w0 := w2) (by kernel_rfl) (by kernel_rfl) ⟨_, rfl⟩ ?_
 repeat (go_big_quiet_step ((go_at_call 90; exact Calls.later_eq (WordTwo_zero kind p _ hp hp2 (by have := HK.out; omega) (by have := HK.out; omega)) HV.out)))
 refine wpQuiet_nil ?_
 rintro _ ⟨u1, rfl⟩
 go_wp2_with (go_at_call 59; refine (Calls.later (u := u1) (l2Word_calls _ _)).mono ?_; rintro e w' ⟨rfl, u2, rfl⟩)
 exact bodyPost_ret (v := .tuple #[.agg #[.int .i64 0, .int .i64 (1)], .bool (true)]) (by simp [results, Tryz.results78, go_sem, r0, r1]) rfl (respost_some HR.out (by repeat (first | exact u2.back HB.out | exact HB.out | refine Below.setCell ?_ (by first | (simp; done) | (simp; omega)) _)))
theorem l2Result_two_e (kind n m ci cw xa xb xc xi xw : Int) (nm : ByteArray) (p q g cap : Nat) (w : World) (hcap : 2 ≤ cap) (hk : 6 ≤ kind ∧ kind ≤ 28 ∧ kind ≠ 21)  (hp : 1 ≤ p) (hp2 : p ≤ 16) (hq : 1 ≤ q) (hq2 : q ≤ 16) (hpq : ¬ p = q) (c0 : w.cell? ⟨g, 0, none⟩ = some (.int .i64 0)) (c1 : w.cell? ⟨g, 1, none⟩ = some (.int .i64 p)) (c2 : w.cell? ⟨g, 2, none⟩ = some (.int .i64 0)) (c3 : w.cell? ⟨g, 3, none⟩ = some (.int .i64 q)) :
 Calls Tryz.prog 78 #[.agg #[.int .i64 kind, .int .i64 xa, .int .i64 xb, .int .i64 xc, .int .i64 n, .int .i64 m, .int .i64 xi, .int .i64 xw, .string nm], .slice (some ⟨g, 0, none⟩) 2 cap] w (ResPost (resN kind n m 0 p 0 q ci cw) w) := by
 have HR := Lib.hid (show resN kind n m 0 p 0 q ci cw = none by
  unfold resN; rw [if_neg (by omega), if_neg (by omega), if_neg (by omega), if_neg (by omega)]; rw [if_neg (by simp)]
  rw [if_neg (by omega), if_neg (by omega), if_neg (by omega), if_neg (by omega), if_neg (by omega)]; rw [if_neg (by omega)])
 have k33 : (kind == 33) = false := beq_eq_false_iff_ne.2 (by omega)
 have k37 : (kind == 37) = false := beq_eq_false_iff_ne.2 (by omega)
 have k38 : (kind == 38) = false := beq_eq_false_iff_ne.2 (by omega)
 have k21 : (kind == 21) = false := beq_eq_false_iff_ne.2 (by omega)
 have k29 : (kind == 29) = false := beq_eq_false_iff_ne.2 (by omega)
 have k30 : (kind == 30) = false := beq_eq_false_iff_ne.2 (by omega)
 have k31 : (kind == 31) = false := beq_eq_false_iff_ne.2 (by omega)
 have k32 : (kind == 32) = false := beq_eq_false_iff_ne.2 (by omega)
 have hne : ((p : Int) == (q : Int)) = false := beq_eq_false_iff_ne.2 (by omega)
 have hne2 : ¬ (p : Int) = (q : Int) := by omega
 clear hk
 go_enter Tryz.func78, Tryz.ntmps78
 go_wp2
 obtain ⟨w2, hw2, HB, b0, b4, b5, r0, r1, f0, f1⟩ := res_world kind n m xa xb xc xi xw nm w
 rw [hw2]
 clear hw2
 have c0 := back_cell c0 HB.out
 have c1 := back_cell c1 HB.out
 have c2 := back_cell c2 HB.out
 have c3 := back_cell c3 HB.out
 refine at_world (w := w2) ?_
 intro u0
 refine wp_loop_rounds 3 ?_
 rw [rounds_succ]
 go_wp2
 rw [rounds_succ]
 go_wp2
 rw [rounds_succ]
 go_wp2
 refine wp_region_later (w0 := w2) (by kernel_rfl) (by kernel_rfl) ⟨u0, rfl⟩ ?_
 repeat (go_big_quiet_step (fail))
 refine wpQuiet_nil ?_
 rintro _ ⟨u1, rfl⟩
 go_wp2_with (go_at_call 59; refine (Calls.later (u := u1) (l2Word_calls _ _)).mono ?_; rintro e w' ⟨rfl, u2, rfl⟩)
 exact bodyPost_ret (v := .tuple #[.agg #[.int .i64 0, .int .i64 (0)], .bool (false)]) (by simp [results, Tryz.results78, go_sem, r0, r1]) rfl (respost_none HR.out (by repeat (first | exact u2.back HB.out | exact HB.out | refine Below.setCell ?_ (by first | (simp; done) | (simp; omega)) _)))
end Go.Proofs.YthejgnabgglmhaaGreat
namespace Go.Proofs.YthejgnabgglmhaaGreat
open Go.RowKit
structure Sok (i a : Int) : Prop where
 i0 : 0 ≤ i
 a1 : 1 ≤ a
 a16 : a ≤ 16
theorem sok_of {i a : Int} (h : sokB i a = true) : Sok i a := by
 have := sokB_yes h
 exact ⟨by omega, by omega, by omega⟩
theorem kinds1 {k : Int} (h : partsN k = 1) : (1 ≤ k ∧ k ≤ 5) ∨ k = 30 ∨ k = 31 ∨ k = 32 := by
 unfold partsN at h
 split at h
 · omega
 · split at h
   · omega
   · split at h
     · omega
     · split at h <;> omega
theorem kinds2 {k : Int} (h : partsN k = 2) : (6 ≤ k ∧ k ≤ 28 ∧ k ≠ 21) ∨ k = 21 ∨ k = 29 ∨ k = 37 := by
 unfold partsN at h
 split at h
 · omega
 · split at h
   · omega
   · split at h
     · omega
     · split at h <;> omega
theorem kinds3 {k : Int} (h : partsN k = 3) : k = 33 ∨ k = 38 := by
 unfold partsN at h
 split at h
 · omega
 · split at h
   · omega
   · split at h
     · omega
     · split at h <;> omega
theorem l2Result_np1 (kind n m ai aw xa xb xc xi xw : Int) (nm : ByteArray) (g cap : Nat) (w : World) (hcap : 1 ≤ cap) (hk : partsN kind = 1) (hs : Sok ai aw)
 (c0 : w.cell? ⟨g, 0, none⟩ = some (.int .i64 ai)) (c1 : w.cell? ⟨g, 1, none⟩ = some (.int .i64 aw)) :
 Calls Tryz.prog 78 #[.agg #[.int .i64 kind, .int .i64 xa, .int .i64 xb, .int .i64 xc, .int .i64 n, .int .i64 m, .int .i64 xi, .int .i64 xw, .string nm], .slice (some ⟨g, 0, none⟩) 1 cap] w (ResPost (resN kind n m ai aw 0 0 0 0) w) := by
 obtain ⟨h0, h1, h2⟩ := hs
 have hkk := kinds1 hk
 by_cases ha : ai = 0
 · subst ha
   obtain ⟨p, rfl⟩ := Int.eq_ofNat_of_zero_le (show 0 ≤ aw by omega)
   have hp : 1 ≤ p := by omega
   have hp2 : p ≤ 16 := by omega
   rcases hkk with h | rfl | rfl | rfl
   · by_cases h3 : kind ≤ 2
     · exact l2Result_one_c kind n m 0 0 0 0 xa xb xc xi xw nm p g cap w hcap h hp hp2 h3 c0 c1
     · exact l2Result_one_d kind n m 0 0 0 0 xa xb xc xi xw nm p g cap w hcap h hp hp2 h3 c0 c1
   · by_cases h3 : 0 ≤ m ∧ m ≤ n ∧ n < p
     · exact l2Result_30_c n m 0 0 0 0 xa xb xc xi xw nm p g cap w hcap hp hp2 h3 c0 c1
     · exact l2Result_30_d n m 0 0 0 0 xa xb xc xi xw nm p g cap w hcap hp hp2 h3 c0 c1
   · by_cases h3 : 0 ≤ n ∧ n ≤ 16 - p
     · exact l2Result_31_c n m 0 0 0 0 xa xb xc xi xw nm p g cap w hcap hp hp2 h3 c0 c1
     · exact l2Result_31_d n m 0 0 0 0 xa xb xc xi xw nm p g cap w hcap hp hp2 h3 c0 c1
   · by_cases h3 : 0 ≤ n ∧ n ≤ 16 - p
     · exact l2Result_32_c n m 0 0 0 0 xa xb xc xi xw nm p g cap w hcap hp hp2 h3 c0 c1
     · exact l2Result_32_d n m 0 0 0 0 xa xb xc xi xw nm p g cap w hcap hp hp2 h3 c0 c1
 · have ha' : 0 < ai := by omega
   rcases hkk with h | rfl | rfl | rfl
   · exact l2Result_one_a kind n m ai aw 0 0 0 0 xa xb xc xi xw nm g cap w hcap h c0 c1 ha'
   · exact l2Result_30_a n m ai aw 0 0 0 0 xa xb xc xi xw nm g cap w hcap c0 c1 ha'
   · exact l2Result_31_a n m ai aw 0 0 0 0 xa xb xc xi xw nm g cap w hcap c0 c1 ha'
   · exact l2Result_32_a n m ai aw 0 0 0 0 xa xb xc xi xw nm g cap w hcap c0 c1 ha'
theorem l2Result_np2 (kind n m ai aw bi bw xa xb xc xi xw : Int) (nm : ByteArray) (g cap : Nat) (w : World) (hcap : 2 ≤ cap) (hk : partsN kind = 2) (hs : Sok ai aw) (hs2 : Sok bi bw)
 (c0 : w.cell? ⟨g, 0, none⟩ = some (.int .i64 ai)) (c1 : w.cell? ⟨g, 1, none⟩ = some (.int .i64 aw)) (c2 : w.cell? ⟨g, 2, none⟩ = some (.int .i64 bi)) (c3 : w.cell? ⟨g, 3, none⟩ = some (.int .i64 bw)) :
 Calls Tryz.prog 78 #[.agg #[.int .i64 kind, .int .i64 xa, .int .i64 xb, .int .i64 xc, .int .i64 n, .int .i64 m, .int .i64 xi, .int .i64 xw, .string nm], .slice (some ⟨g, 0, none⟩) 2 cap] w (ResPost (resN kind n m ai aw bi bw 0 0) w) := by
 obtain ⟨h0, h1, h2⟩ := hs
 obtain ⟨g0, g1, g2⟩ := hs2
 rcases kinds2 hk with h | rfl | rfl | rfl
 · by_cases ha : ai = 0
   · by_cases hb : bi = 0
     · subst ha; subst hb
       obtain ⟨p, rfl⟩ := Int.eq_ofNat_of_zero_le (show 0 ≤ aw by omega)
       obtain ⟨q, rfl⟩ := Int.eq_ofNat_of_zero_le (show 0 ≤ bw by omega)
       by_cases hpq : p = q
       · by_cases h3 : kind ≤ 20
         · exact l2Result_two_c kind n m 0 0 xa xb xc xi xw nm p q g cap w hcap h (by omega) (by omega) (by omega) (by omega) hpq h3 c0 c1 c2 c3
         · exact l2Result_two_d kind n m 0 0 xa xb xc xi xw nm p q g cap w hcap h (by omega) (by omega) (by omega) (by omega) hpq h3 c0 c1 c2 c3
       · exact l2Result_two_e kind n m 0 0 xa xb xc xi xw nm p q g cap w hcap h (by omega) (by omega) (by omega) (by omega) hpq c0 c1 c2 c3
     · exact l2Result_two_b kind n m ai aw bi bw 0 0 xa xb xc xi xw nm g cap w hcap h c0 c1 c2 c3 ha (by omega)
   · exact l2Result_two_a kind n m ai aw bi bw 0 0 xa xb xc xi xw nm g cap w hcap h c0 c1 c2 c3 (by omega)
 · exact l2Result_21 n m ai aw bi bw 0 0 xa xb xc xi xw nm g cap w hcap c0 c1 c2 c3
 · by_cases ha : ai = 0
   · by_cases hb : bi = 0
     · subst ha; subst hb
       obtain ⟨p, rfl⟩ := Int.eq_ofNat_of_zero_le (show 0 ≤ aw by omega)
       obtain ⟨q, rfl⟩ := Int.eq_ofNat_of_zero_le (show 0 ≤ bw by omega)
       by_cases h3 : (p : Int) + q ≤ 16
       · exact l2Result_29_c n m 0 0 xa xb xc xi xw nm p q g cap w hcap (by omega) (by omega) (by omega) (by omega) h3 c0 c1 c2 c3
       · exact l2Result_29_d n m 0 0 xa xb xc xi xw nm p q g cap w hcap (by omega) (by omega) (by omega) (by omega) h3 c0 c1 c2 c3
     · exact l2Result_29_b n m ai aw bi bw 0 0 xa xb xc xi xw nm g cap w hcap c0 c1 c2 c3 ha (by omega)
   · exact l2Result_29_a n m ai aw bi bw 0 0 xa xb xc xi xw nm g cap w hcap c0 c1 c2 c3 (by omega)
 · exact l2Result_37 n m ai aw bi bw 0 0 xa xb xc xi xw nm g cap w hcap c0 c1 c2 c3
theorem l2Result_np3 (kind n m ai aw bi bw ci cw xa xb xc xi xw : Int) (nm : ByteArray) (g cap : Nat) (w : World) (hcap : 3 ≤ cap) (hk : partsN kind = 3)
 (c0 : w.cell? ⟨g, 0, none⟩ = some (.int .i64 ai)) (c1 : w.cell? ⟨g, 1, none⟩ = some (.int .i64 aw)) (c2 : w.cell? ⟨g, 2, none⟩ = some (.int .i64 bi)) (c3 : w.cell? ⟨g, 3, none⟩ = some (.int .i64 bw)) (c4 : w.cell? ⟨g, 4, none⟩ = some (.int .i64 ci)) (c5 : w.cell? ⟨g, 5, none⟩ = some (.int .i64 cw)) :
 Calls Tryz.prog 78 #[.agg #[.int .i64 kind, .int .i64 xa, .int .i64 xb, .int .i64 xc, .int .i64 n, .int .i64 m, .int .i64 xi, .int .i64 xw, .string nm], .slice (some ⟨g, 0, none⟩) 3 cap] w (ResPost (resN kind n m ai aw bi bw ci cw) w) := by
 rcases kinds3 hk with rfl | rfl
 · exact l2Result_33 n m ai aw bi bw ci cw xa xb xc xi xw nm g cap w hcap c0 c1 c2 c3 c4 c5
 · exact l2Result_38 n m ai aw bi bw ci cw xa xb xc xi xw nm g cap w hcap c0 c1 c2 c3 c4 c5
end Go.Proofs.YthejgnabgglmhaaGreat
