import Derived.Test.YtbiilnehgdhkoaaGTa
set_option linter.unusedVariables false
set_option linter.unusedSimpArgs false
namespace Go.Proofs.Ytbiilnehgdhkoaa
open Go.RowKit
attribute [local go_sem high] eq_sort
set_option maxHeartbeats 2000000 in
set_option maxRecDepth 8000 in
theorem sortOf_29_0 (n m aw bw ci cw xa xb xc xi xw : Int) (nm : ByteArray) (w : World) (a1 : 1 ≤ aw) (a16 : aw ≤ 16) (b1 : 1 ≤ bw) (b16 : bw ≤ 16) (h : ¬ aw + bw ≤ 16) :
    Calls Try.prog 69 #[.agg #[.int .i64 29, .int .i64 xa, .int .i64 xb, .int .i64 xc, .int .i64 n, .int .i64 m, .int .i64 xi, .int .i64 xw, .string nm], .agg #[.int .i64 0, .int .i64 aw], .agg #[.int .i64 0, .int .i64 bw], .agg #[.int .i64 ci, .int .i64 cw]] w (ResPost (resN 29 n m 0 aw 0 bw ci cw) w) := by
  have HR := Lib.hid (show (resN 29 n m 0 aw 0 bw ci cw) = none by unfold resN; rw [if_neg (by omega), if_neg (by omega), if_neg (by omega), if_neg (by omega), if_neg (by simp)]; rw [if_pos rfl, if_neg h])
  have h' : (16 : Int) < aw + bw := by omega
  go_enter Try.func69, Try.ntmps69
  go_upto_region 1 with fail
  have HB := Lib.hid (show Below w.heap.size w (((((w.alloc (Obj.cells #[.int .i64 29, .int .i64 xa, .int .i64 xb, .int .i64 xc, .int .i64 n, .int .i64 m, .int .i64 xi, .int .i64 xw, .string nm] 61)).alloc (Obj.cells #[.int .i64 0, .int .i64 aw] 59)).alloc (Obj.cells #[.int .i64 0, .int .i64 bw] 59)).alloc (Obj.cells #[.int .i64 ci, .int .i64 cw] 59)).alloc (Obj.cells #[.int .i64 0, .int .i64 0] 59)) from by repeat (first | exact Below.refl _ _ | refine Below.alloc ?_ (by first | (simp; done) | (simp; omega)) _))
  have b0 : (((((w.alloc (Obj.cells #[.int .i64 29, .int .i64 xa, .int .i64 xb, .int .i64 xc, .int .i64 n, .int .i64 m, .int .i64 xi, .int .i64 xw, .string nm] 61)).alloc (Obj.cells #[.int .i64 0, .int .i64 aw] 59)).alloc (Obj.cells #[.int .i64 0, .int .i64 bw] 59)).alloc (Obj.cells #[.int .i64 ci, .int .i64 cw] 59)).alloc (Obj.cells #[.int .i64 0, .int .i64 0] 59)).cell? ⟨w.heap.size, 0, none⟩ = some (.int .i64 29) := by go_simp
  have b4 : (((((w.alloc (Obj.cells #[.int .i64 29, .int .i64 xa, .int .i64 xb, .int .i64 xc, .int .i64 n, .int .i64 m, .int .i64 xi, .int .i64 xw, .string nm] 61)).alloc (Obj.cells #[.int .i64 0, .int .i64 aw] 59)).alloc (Obj.cells #[.int .i64 0, .int .i64 bw] 59)).alloc (Obj.cells #[.int .i64 ci, .int .i64 cw] 59)).alloc (Obj.cells #[.int .i64 0, .int .i64 0] 59)).cell? ⟨w.heap.size, 4, none⟩ = some (.int .i64 n) := by go_simp
  have b5 : (((((w.alloc (Obj.cells #[.int .i64 29, .int .i64 xa, .int .i64 xb, .int .i64 xc, .int .i64 n, .int .i64 m, .int .i64 xi, .int .i64 xw, .string nm] 61)).alloc (Obj.cells #[.int .i64 0, .int .i64 aw] 59)).alloc (Obj.cells #[.int .i64 0, .int .i64 bw] 59)).alloc (Obj.cells #[.int .i64 ci, .int .i64 cw] 59)).alloc (Obj.cells #[.int .i64 0, .int .i64 0] 59)).cell? ⟨w.heap.size, 5, none⟩ = some (.int .i64 m) := by go_simp
  have b6 : (((((w.alloc (Obj.cells #[.int .i64 29, .int .i64 xa, .int .i64 xb, .int .i64 xc, .int .i64 n, .int .i64 m, .int .i64 xi, .int .i64 xw, .string nm] 61)).alloc (Obj.cells #[.int .i64 0, .int .i64 aw] 59)).alloc (Obj.cells #[.int .i64 0, .int .i64 bw] 59)).alloc (Obj.cells #[.int .i64 ci, .int .i64 cw] 59)).alloc (Obj.cells #[.int .i64 0, .int .i64 0] 59)).cell? ⟨w.heap.size, 6, none⟩ = some (.int .i64 xi) := by go_simp
  have b7 : (((((w.alloc (Obj.cells #[.int .i64 29, .int .i64 xa, .int .i64 xb, .int .i64 xc, .int .i64 n, .int .i64 m, .int .i64 xi, .int .i64 xw, .string nm] 61)).alloc (Obj.cells #[.int .i64 0, .int .i64 aw] 59)).alloc (Obj.cells #[.int .i64 0, .int .i64 bw] 59)).alloc (Obj.cells #[.int .i64 ci, .int .i64 cw] 59)).alloc (Obj.cells #[.int .i64 0, .int .i64 0] 59)).cell? ⟨w.heap.size, 7, none⟩ = some (.int .i64 xw) := by go_simp
  have d0 : (((((w.alloc (Obj.cells #[.int .i64 29, .int .i64 xa, .int .i64 xb, .int .i64 xc, .int .i64 n, .int .i64 m, .int .i64 xi, .int .i64 xw, .string nm] 61)).alloc (Obj.cells #[.int .i64 0, .int .i64 aw] 59)).alloc (Obj.cells #[.int .i64 0, .int .i64 bw] 59)).alloc (Obj.cells #[.int .i64 ci, .int .i64 cw] 59)).alloc (Obj.cells #[.int .i64 0, .int .i64 0] 59)).cell? ⟨w.heap.size + 1, 0, none⟩ = some (.int .i64 0) := by go_simp
  have d1 : (((((w.alloc (Obj.cells #[.int .i64 29, .int .i64 xa, .int .i64 xb, .int .i64 xc, .int .i64 n, .int .i64 m, .int .i64 xi, .int .i64 xw, .string nm] 61)).alloc (Obj.cells #[.int .i64 0, .int .i64 aw] 59)).alloc (Obj.cells #[.int .i64 0, .int .i64 bw] 59)).alloc (Obj.cells #[.int .i64 ci, .int .i64 cw] 59)).alloc (Obj.cells #[.int .i64 0, .int .i64 0] 59)).cell? ⟨w.heap.size + 1, 1, none⟩ = some (.int .i64 aw) := by go_simp
  have d2 : (((((w.alloc (Obj.cells #[.int .i64 29, .int .i64 xa, .int .i64 xb, .int .i64 xc, .int .i64 n, .int .i64 m, .int .i64 xi, .int .i64 xw, .string nm] 61)).alloc (Obj.cells #[.int .i64 0, .int .i64 aw] 59)).alloc (Obj.cells #[.int .i64 0, .int .i64 bw] 59)).alloc (Obj.cells #[.int .i64 ci, .int .i64 cw] 59)).alloc (Obj.cells #[.int .i64 0, .int .i64 0] 59)).cell? ⟨w.heap.size + 2, 0, none⟩ = some (.int .i64 0) := by go_simp
  have d3 : (((((w.alloc (Obj.cells #[.int .i64 29, .int .i64 xa, .int .i64 xb, .int .i64 xc, .int .i64 n, .int .i64 m, .int .i64 xi, .int .i64 xw, .string nm] 61)).alloc (Obj.cells #[.int .i64 0, .int .i64 aw] 59)).alloc (Obj.cells #[.int .i64 0, .int .i64 bw] 59)).alloc (Obj.cells #[.int .i64 ci, .int .i64 cw] 59)).alloc (Obj.cells #[.int .i64 0, .int .i64 0] 59)).cell? ⟨w.heap.size + 2, 1, none⟩ = some (.int .i64 bw) := by go_simp
  have d4 : (((((w.alloc (Obj.cells #[.int .i64 29, .int .i64 xa, .int .i64 xb, .int .i64 xc, .int .i64 n, .int .i64 m, .int .i64 xi, .int .i64 xw, .string nm] 61)).alloc (Obj.cells #[.int .i64 0, .int .i64 aw] 59)).alloc (Obj.cells #[.int .i64 0, .int .i64 bw] 59)).alloc (Obj.cells #[.int .i64 ci, .int .i64 cw] 59)).alloc (Obj.cells #[.int .i64 0, .int .i64 0] 59)).cell? ⟨w.heap.size + 3, 0, none⟩ = some (.int .i64 ci) := by go_simp
  have d5 : (((((w.alloc (Obj.cells #[.int .i64 29, .int .i64 xa, .int .i64 xb, .int .i64 xc, .int .i64 n, .int .i64 m, .int .i64 xi, .int .i64 xw, .string nm] 61)).alloc (Obj.cells #[.int .i64 0, .int .i64 aw] 59)).alloc (Obj.cells #[.int .i64 0, .int .i64 bw] 59)).alloc (Obj.cells #[.int .i64 ci, .int .i64 cw] 59)).alloc (Obj.cells #[.int .i64 0, .int .i64 0] 59)).cell? ⟨w.heap.size + 3, 1, none⟩ = some (.int .i64 cw) := by go_simp
  have r0 : (((((w.alloc (Obj.cells #[.int .i64 29, .int .i64 xa, .int .i64 xb, .int .i64 xc, .int .i64 n, .int .i64 m, .int .i64 xi, .int .i64 xw, .string nm] 61)).alloc (Obj.cells #[.int .i64 0, .int .i64 aw] 59)).alloc (Obj.cells #[.int .i64 0, .int .i64 bw] 59)).alloc (Obj.cells #[.int .i64 ci, .int .i64 cw] 59)).alloc (Obj.cells #[.int .i64 0, .int .i64 0] 59)).cell? ⟨w.heap.size + 4, 0, none⟩ = some (.int .i64 0) := by go_simp
  have r1 : (((((w.alloc (Obj.cells #[.int .i64 29, .int .i64 xa, .int .i64 xb, .int .i64 xc, .int .i64 n, .int .i64 m, .int .i64 xi, .int .i64 xw, .string nm] 61)).alloc (Obj.cells #[.int .i64 0, .int .i64 aw] 59)).alloc (Obj.cells #[.int .i64 0, .int .i64 bw] 59)).alloc (Obj.cells #[.int .i64 ci, .int .i64 cw] 59)).alloc (Obj.cells #[.int .i64 0, .int .i64 0] 59)).cell? ⟨w.heap.size + 4, 1, none⟩ = some (.int .i64 0) := by go_simp
  have f0 : (((((w.alloc (Obj.cells #[.int .i64 29, .int .i64 xa, .int .i64 xb, .int .i64 xc, .int .i64 n, .int .i64 m, .int .i64 xi, .int .i64 xw, .string nm] 61)).alloc (Obj.cells #[.int .i64 0, .int .i64 aw] 59)).alloc (Obj.cells #[.int .i64 0, .int .i64 bw] 59)).alloc (Obj.cells #[.int .i64 ci, .int .i64 cw] 59)).alloc (Obj.cells #[.int .i64 0, .int .i64 0] 59)).frozen? ⟨w.heap.size + 4, 0, none⟩ = false := by go_simp
  have f1 : (((((w.alloc (Obj.cells #[.int .i64 29, .int .i64 xa, .int .i64 xb, .int .i64 xc, .int .i64 n, .int .i64 m, .int .i64 xi, .int .i64 xw, .string nm] 61)).alloc (Obj.cells #[.int .i64 0, .int .i64 aw] 59)).alloc (Obj.cells #[.int .i64 0, .int .i64 bw] 59)).alloc (Obj.cells #[.int .i64 ci, .int .i64 cw] 59)).alloc (Obj.cells #[.int .i64 0, .int .i64 0] 59)).frozen? ⟨w.heap.size + 4, 1, none⟩ = false := by go_simp
  generalize (((((w.alloc (Obj.cells #[.int .i64 29, .int .i64 xa, .int .i64 xb, .int .i64 xc, .int .i64 n, .int .i64 m, .int .i64 xi, .int .i64 xw, .string nm] 61)).alloc (Obj.cells #[.int .i64 0, .int .i64 aw] 59)).alloc (Obj.cells #[.int .i64 0, .int .i64 bw] 59)).alloc (Obj.cells #[.int .i64 ci, .int .i64 cw] 59)).alloc (Obj.cells #[.int .i64 0, .int .i64 0] 59)) = w2 at *
  have f0 := Later.frozen f0 (World.block_lt_of_cell? _ _ r0)
  have f1 := Later.frozen f1 (World.block_lt_of_cell? _ _ r1)
  have b0 := Later.cell b0
  have b4 := Later.cell b4
  have b5 := Later.cell b5
  have b6 := Later.cell b6
  have b7 := Later.cell b7
  have d0 := Later.cell d0
  have d1 := Later.cell d1
  have d2 := Later.cell d2
  have d3 := Later.cell d3
  have d4 := Later.cell d4
  have d5 := Later.cell d5
  have r0 := Later.cell r0
  have r1 := Later.cell r1
  go_wp2
  have hfacts : ∀ W, (W = w2 ∨ W = (w2.setCell ⟨w.heap.size + 4, 0, none⟩ (.int .i64 (0))).setCell ⟨w.heap.size + 4, 1, none⟩ (.int .i64 (aw + bw))) → ∀ l : Later W, l.val.cell? ⟨w.heap.size, 0, none⟩ = some (.int .i64 29) ∧ l.val.cell? ⟨w.heap.size, 4, none⟩ = some (.int .i64 n) ∧ l.val.cell? ⟨w.heap.size, 5, none⟩ = some (.int .i64 m) ∧ l.val.cell? ⟨w.heap.size, 6, none⟩ = some (.int .i64 xi) ∧ l.val.cell? ⟨w.heap.size, 7, none⟩ = some (.int .i64 xw) ∧ l.val.cell? ⟨w.heap.size + 1, 0, none⟩ = some (.int .i64 0) ∧ l.val.cell? ⟨w.heap.size + 1, 1, none⟩ = some (.int .i64 aw) ∧ l.val.cell? ⟨w.heap.size + 2, 0, none⟩ = some (.int .i64 0) ∧ l.val.cell? ⟨w.heap.size + 2, 1, none⟩ = some (.int .i64 bw) ∧ l.val.cell? ⟨w.heap.size + 3, 0, none⟩ = some (.int .i64 ci) ∧ l.val.cell? ⟨w.heap.size + 3, 1, none⟩ = some (.int .i64 cw) := by
    rintro W (rfl | rfl) l
    · exact ⟨b0 l, b4 l, b5 l, b6 l, b7 l, d0 l, d1 l, d2 l, d3 l, d4 l, d5 l⟩
    · have ne : ∀ (b f : Nat) (v : Value), b ≠ w.heap.size + 4 → (∀ l : Later w2, l.val.cell? ⟨b, f, none⟩ = some v) → l.val.cell? ⟨b, f, none⟩ = some v := fun b f v hb h => Later.cell ((World.cell?_setCell_other _ _ _ _ (by intro e; simp only [Addr.mk.injEq] at e; omega)).trans ((World.cell?_setCell_other _ _ _ _ (by intro e; simp only [Addr.mk.injEq] at e; omega)).trans (h ⟨w2, Below.refl _ _⟩))) l
      exact ⟨ne _ _ _ (by omega) b0, ne _ _ _ (by omega) b4, ne _ _ _ (by omega) b5, ne _ _ _ (by omega) b6, ne _ _ _ (by omega) b7, ne _ _ _ (by omega) d0, ne _ _ _ (by omega) d1, ne _ _ _ (by omega) d2, ne _ _ _ (by omega) d3, ne _ _ _ (by omega) d4, ne _ _ _ (by omega) d5⟩
  have HF := Lib.hid hfacts
  clear hfacts
  refine wp_region_store' (w0 := w2) (w1 := (w2.setCell ⟨w.heap.size + 4, 0, none⟩ (.int .i64 (0))).setCell ⟨w.heap.size + 4, 1, none⟩ (.int .i64 (aw + bw))) 12 (by kernel_rfl) (by kernel_rfl) rfl (by kernel_rfl) (LaterC.refl _) ?_
  apply Exists.intro
  refine ⟨fun W hW => ?_, ?_, ?_, ?_⟩
  · have hc := HF.out W hW
    have e0 := fun l => (hc l).1; have e1 := fun l => (hc l).2.1; have e2 := fun l => (hc l).2.2.1; have e3 := fun l => (hc l).2.2.2.1; have e4 := fun l => (hc l).2.2.2.2.1; have e5 := fun l => (hc l).2.2.2.2.2.1; have e6 := fun l => (hc l).2.2.2.2.2.2.1; have e7 := fun l => (hc l).2.2.2.2.2.2.2.1; have e8 := fun l => (hc l).2.2.2.2.2.2.2.2.1; have e9 := fun l => (hc l).2.2.2.2.2.2.2.2.2.1; have e10 := fun l => (hc l).2.2.2.2.2.2.2.2.2.2
    clear hc hW
    simp only [List.take_succ_cons, List.take_zero]
    repeat (go_big_quiet_step (first | (go_at_call 34; exact Calls.later (words_calls _ _))))
    exact wpQuiet_nil rfl
  · rfl
  · intro u
    refine ⟨(u.val.setCell ⟨w.heap.size + 4, 0, none⟩ (.int .i64 (0))).setCell ⟨w.heap.size + 4, 1, none⟩ (.int .i64 (aw + bw)), ?_, u.set2 _ _ _ _⟩
    have s0 := r0 u; have s1 := r1 u; have t0 := f0 u; have t1 := f1 u
    go_simp
  · intro u
    have s0 : u.val.cell? ⟨w.heap.size + 4, 0, none⟩ = some (.int .i64 (0)) := Later.cell ((World.cell?_setCell_other _ _ _ _ (by intro e; simp only [Addr.mk.injEq] at e; omega)).trans (World.cell?_setCell_same _ _ _ (r0 ⟨w2, Below.refl _ _⟩))) u
    have s1 : u.val.cell? ⟨w.heap.size + 4, 1, none⟩ = some (.int .i64 (aw + bw)) := Later.cell (World.cell?_setCell_same _ _ _ ((World.cell?_setCell_other _ _ _ _ (by intro e; simp only [Addr.mk.injEq] at e; omega)).trans (r1 ⟨w2, Below.refl _ _⟩))) u
    have hbel := Lib.hid (u.back ((HB.out.setCell (p := ⟨w.heap.size + 4, 0, none⟩) (by simp) (.int .i64 (0))).setCell (p := ⟨w.heap.size + 4, 1, none⟩) (by simp) (.int .i64 (aw + bw))))
    simp only [List.drop_succ_cons, List.drop_zero]
    clear r0 r1 f0 f1
    go_wp2
    exact bodyPost_ret (v := .tuple #[.agg #[.int .i64 (0), .int .i64 (aw + bw)], .bool false]) (by simp [results, Try.results69, go_sem, s0, s1, h']) rfl (respost_none HR.out hbel.out)
set_option maxHeartbeats 2000000 in
set_option maxRecDepth 8000 in
theorem sortOf_29_1 (n m aw bw ci cw xa xb xc xi xw : Int) (nm : ByteArray) (w : World) (a1 : 1 ≤ aw) (a16 : aw ≤ 16) (b1 : 1 ≤ bw) (b16 : bw ≤ 16) (h : aw + bw ≤ 16) :
    Calls Try.prog 69 #[.agg #[.int .i64 29, .int .i64 xa, .int .i64 xb, .int .i64 xc, .int .i64 n, .int .i64 m, .int .i64 xi, .int .i64 xw, .string nm], .agg #[.int .i64 0, .int .i64 aw], .agg #[.int .i64 0, .int .i64 bw], .agg #[.int .i64 ci, .int .i64 cw]] w (ResPost (resN 29 n m 0 aw 0 bw ci cw) w) := by
  have HR := Lib.hid (show (resN 29 n m 0 aw 0 bw ci cw) = some (0, aw + bw) by unfold resN; rw [if_neg (by omega), if_neg (by omega), if_neg (by omega), if_neg (by omega), if_neg (by simp)]; rw [if_pos rfl, if_pos h])
  go_enter Try.func69, Try.ntmps69
  go_upto_region 1 with fail
  have HB := Lib.hid (show Below w.heap.size w (((((w.alloc (Obj.cells #[.int .i64 29, .int .i64 xa, .int .i64 xb, .int .i64 xc, .int .i64 n, .int .i64 m, .int .i64 xi, .int .i64 xw, .string nm] 61)).alloc (Obj.cells #[.int .i64 0, .int .i64 aw] 59)).alloc (Obj.cells #[.int .i64 0, .int .i64 bw] 59)).alloc (Obj.cells #[.int .i64 ci, .int .i64 cw] 59)).alloc (Obj.cells #[.int .i64 0, .int .i64 0] 59)) from by repeat (first | exact Below.refl _ _ | refine Below.alloc ?_ (by first | (simp; done) | (simp; omega)) _))
  have b0 : (((((w.alloc (Obj.cells #[.int .i64 29, .int .i64 xa, .int .i64 xb, .int .i64 xc, .int .i64 n, .int .i64 m, .int .i64 xi, .int .i64 xw, .string nm] 61)).alloc (Obj.cells #[.int .i64 0, .int .i64 aw] 59)).alloc (Obj.cells #[.int .i64 0, .int .i64 bw] 59)).alloc (Obj.cells #[.int .i64 ci, .int .i64 cw] 59)).alloc (Obj.cells #[.int .i64 0, .int .i64 0] 59)).cell? ⟨w.heap.size, 0, none⟩ = some (.int .i64 29) := by go_simp
  have b4 : (((((w.alloc (Obj.cells #[.int .i64 29, .int .i64 xa, .int .i64 xb, .int .i64 xc, .int .i64 n, .int .i64 m, .int .i64 xi, .int .i64 xw, .string nm] 61)).alloc (Obj.cells #[.int .i64 0, .int .i64 aw] 59)).alloc (Obj.cells #[.int .i64 0, .int .i64 bw] 59)).alloc (Obj.cells #[.int .i64 ci, .int .i64 cw] 59)).alloc (Obj.cells #[.int .i64 0, .int .i64 0] 59)).cell? ⟨w.heap.size, 4, none⟩ = some (.int .i64 n) := by go_simp
  have b5 : (((((w.alloc (Obj.cells #[.int .i64 29, .int .i64 xa, .int .i64 xb, .int .i64 xc, .int .i64 n, .int .i64 m, .int .i64 xi, .int .i64 xw, .string nm] 61)).alloc (Obj.cells #[.int .i64 0, .int .i64 aw] 59)).alloc (Obj.cells #[.int .i64 0, .int .i64 bw] 59)).alloc (Obj.cells #[.int .i64 ci, .int .i64 cw] 59)).alloc (Obj.cells #[.int .i64 0, .int .i64 0] 59)).cell? ⟨w.heap.size, 5, none⟩ = some (.int .i64 m) := by go_simp
  have b6 : (((((w.alloc (Obj.cells #[.int .i64 29, .int .i64 xa, .int .i64 xb, .int .i64 xc, .int .i64 n, .int .i64 m, .int .i64 xi, .int .i64 xw, .string nm] 61)).alloc (Obj.cells #[.int .i64 0, .int .i64 aw] 59)).alloc (Obj.cells #[.int .i64 0, .int .i64 bw] 59)).alloc (Obj.cells #[.int .i64 ci, .int .i64 cw] 59)).alloc (Obj.cells #[.int .i64 0, .int .i64 0] 59)).cell? ⟨w.heap.size, 6, none⟩ = some (.int .i64 xi) := by go_simp
  have b7 : (((((w.alloc (Obj.cells #[.int .i64 29, .int .i64 xa, .int .i64 xb, .int .i64 xc, .int .i64 n, .int .i64 m, .int .i64 xi, .int .i64 xw, .string nm] 61)).alloc (Obj.cells #[.int .i64 0, .int .i64 aw] 59)).alloc (Obj.cells #[.int .i64 0, .int .i64 bw] 59)).alloc (Obj.cells #[.int .i64 ci, .int .i64 cw] 59)).alloc (Obj.cells #[.int .i64 0, .int .i64 0] 59)).cell? ⟨w.heap.size, 7, none⟩ = some (.int .i64 xw) := by go_simp
  have d0 : (((((w.alloc (Obj.cells #[.int .i64 29, .int .i64 xa, .int .i64 xb, .int .i64 xc, .int .i64 n, .int .i64 m, .int .i64 xi, .int .i64 xw, .string nm] 61)).alloc (Obj.cells #[.int .i64 0, .int .i64 aw] 59)).alloc (Obj.cells #[.int .i64 0, .int .i64 bw] 59)).alloc (Obj.cells #[.int .i64 ci, .int .i64 cw] 59)).alloc (Obj.cells #[.int .i64 0, .int .i64 0] 59)).cell? ⟨w.heap.size + 1, 0, none⟩ = some (.int .i64 0) := by go_simp
  have d1 : (((((w.alloc (Obj.cells #[.int .i64 29, .int .i64 xa, .int .i64 xb, .int .i64 xc, .int .i64 n, .int .i64 m, .int .i64 xi, .int .i64 xw, .string nm] 61)).alloc (Obj.cells #[.int .i64 0, .int .i64 aw] 59)).alloc (Obj.cells #[.int .i64 0, .int .i64 bw] 59)).alloc (Obj.cells #[.int .i64 ci, .int .i64 cw] 59)).alloc (Obj.cells #[.int .i64 0, .int .i64 0] 59)).cell? ⟨w.heap.size + 1, 1, none⟩ = some (.int .i64 aw) := by go_simp
  have d2 : (((((w.alloc (Obj.cells #[.int .i64 29, .int .i64 xa, .int .i64 xb, .int .i64 xc, .int .i64 n, .int .i64 m, .int .i64 xi, .int .i64 xw, .string nm] 61)).alloc (Obj.cells #[.int .i64 0, .int .i64 aw] 59)).alloc (Obj.cells #[.int .i64 0, .int .i64 bw] 59)).alloc (Obj.cells #[.int .i64 ci, .int .i64 cw] 59)).alloc (Obj.cells #[.int .i64 0, .int .i64 0] 59)).cell? ⟨w.heap.size + 2, 0, none⟩ = some (.int .i64 0) := by go_simp
  have d3 : (((((w.alloc (Obj.cells #[.int .i64 29, .int .i64 xa, .int .i64 xb, .int .i64 xc, .int .i64 n, .int .i64 m, .int .i64 xi, .int .i64 xw, .string nm] 61)).alloc (Obj.cells #[.int .i64 0, .int .i64 aw] 59)).alloc (Obj.cells #[.int .i64 0, .int .i64 bw] 59)).alloc (Obj.cells #[.int .i64 ci, .int .i64 cw] 59)).alloc (Obj.cells #[.int .i64 0, .int .i64 0] 59)).cell? ⟨w.heap.size + 2, 1, none⟩ = some (.int .i64 bw) := by go_simp
  have d4 : (((((w.alloc (Obj.cells #[.int .i64 29, .int .i64 xa, .int .i64 xb, .int .i64 xc, .int .i64 n, .int .i64 m, .int .i64 xi, .int .i64 xw, .string nm] 61)).alloc (Obj.cells #[.int .i64 0, .int .i64 aw] 59)).alloc (Obj.cells #[.int .i64 0, .int .i64 bw] 59)).alloc (Obj.cells #[.int .i64 ci, .int .i64 cw] 59)).alloc (Obj.cells #[.int .i64 0, .int .i64 0] 59)).cell? ⟨w.heap.size + 3, 0, none⟩ = some (.int .i64 ci) := by go_simp
  have d5 : (((((w.alloc (Obj.cells #[.int .i64 29, .int .i64 xa, .int .i64 xb, .int .i64 xc, .int .i64 n, .int .i64 m, .int .i64 xi, .int .i64 xw, .string nm] 61)).alloc (Obj.cells #[.int .i64 0, .int .i64 aw] 59)).alloc (Obj.cells #[.int .i64 0, .int .i64 bw] 59)).alloc (Obj.cells #[.int .i64 ci, .int .i64 cw] 59)).alloc (Obj.cells #[.int .i64 0, .int .i64 0] 59)).cell? ⟨w.heap.size + 3, 1, none⟩ = some (.int .i64 cw) := by go_simp
  have r0 : (((((w.alloc (Obj.cells #[.int .i64 29, .int .i64 xa, .int .i64 xb, .int .i64 xc, .int .i64 n, .int .i64 m, .int .i64 xi, .int .i64 xw, .string nm] 61)).alloc (Obj.cells #[.int .i64 0, .int .i64 aw] 59)).alloc (Obj.cells #[.int .i64 0, .int .i64 bw] 59)).alloc (Obj.cells #[.int .i64 ci, .int .i64 cw] 59)).alloc (Obj.cells #[.int .i64 0, .int .i64 0] 59)).cell? ⟨w.heap.size + 4, 0, none⟩ = some (.int .i64 0) := by go_simp
  have r1 : (((((w.alloc (Obj.cells #[.int .i64 29, .int .i64 xa, .int .i64 xb, .int .i64 xc, .int .i64 n, .int .i64 m, .int .i64 xi, .int .i64 xw, .string nm] 61)).alloc (Obj.cells #[.int .i64 0, .int .i64 aw] 59)).alloc (Obj.cells #[.int .i64 0, .int .i64 bw] 59)).alloc (Obj.cells #[.int .i64 ci, .int .i64 cw] 59)).alloc (Obj.cells #[.int .i64 0, .int .i64 0] 59)).cell? ⟨w.heap.size + 4, 1, none⟩ = some (.int .i64 0) := by go_simp
  have f0 : (((((w.alloc (Obj.cells #[.int .i64 29, .int .i64 xa, .int .i64 xb, .int .i64 xc, .int .i64 n, .int .i64 m, .int .i64 xi, .int .i64 xw, .string nm] 61)).alloc (Obj.cells #[.int .i64 0, .int .i64 aw] 59)).alloc (Obj.cells #[.int .i64 0, .int .i64 bw] 59)).alloc (Obj.cells #[.int .i64 ci, .int .i64 cw] 59)).alloc (Obj.cells #[.int .i64 0, .int .i64 0] 59)).frozen? ⟨w.heap.size + 4, 0, none⟩ = false := by go_simp
  have f1 : (((((w.alloc (Obj.cells #[.int .i64 29, .int .i64 xa, .int .i64 xb, .int .i64 xc, .int .i64 n, .int .i64 m, .int .i64 xi, .int .i64 xw, .string nm] 61)).alloc (Obj.cells #[.int .i64 0, .int .i64 aw] 59)).alloc (Obj.cells #[.int .i64 0, .int .i64 bw] 59)).alloc (Obj.cells #[.int .i64 ci, .int .i64 cw] 59)).alloc (Obj.cells #[.int .i64 0, .int .i64 0] 59)).frozen? ⟨w.heap.size + 4, 1, none⟩ = false := by go_simp
  generalize (((((w.alloc (Obj.cells #[.int .i64 29, .int .i64 xa, .int .i64 xb, .int .i64 xc, .int .i64 n, .int .i64 m, .int .i64 xi, .int .i64 xw, .string nm] 61)).alloc (Obj.cells #[.int .i64 0, .int .i64 aw] 59)).alloc (Obj.cells #[.int .i64 0, .int .i64 bw] 59)).alloc (Obj.cells #[.int .i64 ci, .int .i64 cw] 59)).alloc (Obj.cells #[.int .i64 0, .int .i64 0] 59)) = w2 at *
  have f0 := Later.frozen f0 (World.block_lt_of_cell? _ _ r0)
  have f1 := Later.frozen f1 (World.block_lt_of_cell? _ _ r1)
  have b0 := Later.cell b0
  have b4 := Later.cell b4
  have b5 := Later.cell b5
  have b6 := Later.cell b6
  have b7 := Later.cell b7
  have d0 := Later.cell d0
  have d1 := Later.cell d1
  have d2 := Later.cell d2
  have d3 := Later.cell d3
  have d4 := Later.cell d4
  have d5 := Later.cell d5
  have r0 := Later.cell r0
  have r1 := Later.cell r1
  go_wp2
  have hfacts : ∀ W, (W = w2 ∨ W = (w2.setCell ⟨w.heap.size + 4, 0, none⟩ (.int .i64 (0))).setCell ⟨w.heap.size + 4, 1, none⟩ (.int .i64 (aw + bw))) → ∀ l : Later W, l.val.cell? ⟨w.heap.size, 0, none⟩ = some (.int .i64 29) ∧ l.val.cell? ⟨w.heap.size, 4, none⟩ = some (.int .i64 n) ∧ l.val.cell? ⟨w.heap.size, 5, none⟩ = some (.int .i64 m) ∧ l.val.cell? ⟨w.heap.size, 6, none⟩ = some (.int .i64 xi) ∧ l.val.cell? ⟨w.heap.size, 7, none⟩ = some (.int .i64 xw) ∧ l.val.cell? ⟨w.heap.size + 1, 0, none⟩ = some (.int .i64 0) ∧ l.val.cell? ⟨w.heap.size + 1, 1, none⟩ = some (.int .i64 aw) ∧ l.val.cell? ⟨w.heap.size + 2, 0, none⟩ = some (.int .i64 0) ∧ l.val.cell? ⟨w.heap.size + 2, 1, none⟩ = some (.int .i64 bw) ∧ l.val.cell? ⟨w.heap.size + 3, 0, none⟩ = some (.int .i64 ci) ∧ l.val.cell? ⟨w.heap.size + 3, 1, none⟩ = some (.int .i64 cw) := by
    rintro W (rfl | rfl) l
    · exact ⟨b0 l, b4 l, b5 l, b6 l, b7 l, d0 l, d1 l, d2 l, d3 l, d4 l, d5 l⟩
    · have ne : ∀ (b f : Nat) (v : Value), b ≠ w.heap.size + 4 → (∀ l : Later w2, l.val.cell? ⟨b, f, none⟩ = some v) → l.val.cell? ⟨b, f, none⟩ = some v := fun b f v hb h => Later.cell ((World.cell?_setCell_other _ _ _ _ (by intro e; simp only [Addr.mk.injEq] at e; omega)).trans ((World.cell?_setCell_other _ _ _ _ (by intro e; simp only [Addr.mk.injEq] at e; omega)).trans (h ⟨w2, Below.refl _ _⟩))) l
      exact ⟨ne _ _ _ (by omega) b0, ne _ _ _ (by omega) b4, ne _ _ _ (by omega) b5, ne _ _ _ (by omega) b6, ne _ _ _ (by omega) b7, ne _ _ _ (by omega) d0, ne _ _ _ (by omega) d1, ne _ _ _ (by omega) d2, ne _ _ _ (by omega) d3, ne _ _ _ (by omega) d4, ne _ _ _ (by omega) d5⟩
  have HF := Lib.hid hfacts
  clear hfacts
  refine wp_region_store' (w0 := w2) (w1 := (w2.setCell ⟨w.heap.size + 4, 0, none⟩ (.int .i64 (0))).setCell ⟨w.heap.size + 4, 1, none⟩ (.int .i64 (aw + bw))) 12 (by kernel_rfl) (by kernel_rfl) rfl (by kernel_rfl) (LaterC.refl _) ?_
  apply Exists.intro
  refine ⟨fun W hW => ?_, ?_, ?_, ?_⟩
  · have hc := HF.out W hW
    have e0 := fun l => (hc l).1; have e1 := fun l => (hc l).2.1; have e2 := fun l => (hc l).2.2.1; have e3 := fun l => (hc l).2.2.2.1; have e4 := fun l => (hc l).2.2.2.2.1; have e5 := fun l => (hc l).2.2.2.2.2.1; have e6 := fun l => (hc l).2.2.2.2.2.2.1; have e7 := fun l => (hc l).2.2.2.2.2.2.2.1; have e8 := fun l => (hc l).2.2.2.2.2.2.2.2.1; have e9 := fun l => (hc l).2.2.2.2.2.2.2.2.2.1; have e10 := fun l => (hc l).2.2.2.2.2.2.2.2.2.2
    clear hc hW
    simp only [List.take_succ_cons, List.take_zero]
    repeat (go_big_quiet_step (first | (go_at_call 34; exact Calls.later (words_calls _ _))))
    exact wpQuiet_nil rfl
  · rfl
  · intro u
    refine ⟨(u.val.setCell ⟨w.heap.size + 4, 0, none⟩ (.int .i64 (0))).setCell ⟨w.heap.size + 4, 1, none⟩ (.int .i64 (aw + bw)), ?_, u.set2 _ _ _ _⟩
    have s0 := r0 u; have s1 := r1 u; have t0 := f0 u; have t1 := f1 u
    go_simp
  · intro u
    have s0 : u.val.cell? ⟨w.heap.size + 4, 0, none⟩ = some (.int .i64 (0)) := Later.cell ((World.cell?_setCell_other _ _ _ _ (by intro e; simp only [Addr.mk.injEq] at e; omega)).trans (World.cell?_setCell_same _ _ _ (r0 ⟨w2, Below.refl _ _⟩))) u
    have s1 : u.val.cell? ⟨w.heap.size + 4, 1, none⟩ = some (.int .i64 (aw + bw)) := Later.cell (World.cell?_setCell_same _ _ _ ((World.cell?_setCell_other _ _ _ _ (by intro e; simp only [Addr.mk.injEq] at e; omega)).trans (r1 ⟨w2, Below.refl _ _⟩))) u
    have hbel := Lib.hid (u.back ((HB.out.setCell (p := ⟨w.heap.size + 4, 0, none⟩) (by simp) (.int .i64 (0))).setCell (p := ⟨w.heap.size + 4, 1, none⟩) (by simp) (.int .i64 (aw + bw))))
    simp only [List.drop_succ_cons, List.drop_zero]
    clear r0 r1 f0 f1
    go_wp2
    exact bodyPost_ret (v := .tuple #[.agg #[.int .i64 (0), .int .i64 (aw + bw)], .bool true]) (by simp [results, Try.results69, go_sem, s0, s1]) rfl (respost_some HR.out hbel.out)
set_option maxHeartbeats 2000000 in
set_option maxRecDepth 8000 in
theorem sortOf_s_0 (kind n m aw bw ci cw xa xb xc xi xw : Int) (nm : ByteArray) (w : World) (hk : 22 ≤ kind ∧ kind ≤ 28) (h : (aw == bw) = false) :
    Calls Try.prog 69 #[.agg #[.int .i64 kind, .int .i64 xa, .int .i64 xb, .int .i64 xc, .int .i64 n, .int .i64 m, .int .i64 xi, .int .i64 xw, .string nm], .agg #[.int .i64 0, .int .i64 aw], .agg #[.int .i64 0, .int .i64 bw], .agg #[.int .i64 ci, .int .i64 cw]] w (ResPost (resN kind n m 0 aw 0 bw ci cw) w) := by
  have HR := Lib.hid (show (resN kind n m 0 aw 0 bw ci cw) = none by unfold resN; rw [if_neg (by omega), if_neg (by omega), if_neg (by omega), if_neg (by omega), if_neg (by simp), if_neg (by omega), if_neg (by omega), if_neg (by omega), if_neg (by omega), if_neg (by omega)]; rw [if_neg (beq_eq_false_iff_ne.1 h)])
  have k33 : (kind == 33) = false := beq_eq_false_iff_ne.2 (by omega)
  have k34 : (kind == 34) = false := beq_eq_false_iff_ne.2 (by omega)
  have k35 : (kind == 35) = false := beq_eq_false_iff_ne.2 (by omega)
  have k36 : (kind == 36) = false := beq_eq_false_iff_ne.2 (by omega)
  have k37 : (kind == 37) = false := beq_eq_false_iff_ne.2 (by omega)
  have k38 : (kind == 38) = false := beq_eq_false_iff_ne.2 (by omega)
  have k21 : (kind == 21) = false := beq_eq_false_iff_ne.2 (by omega)
  have k1 : (kind == 1) = false := beq_eq_false_iff_ne.2 (by omega)
  have k2 : (kind == 2) = false := beq_eq_false_iff_ne.2 (by omega)
  have k30 : (kind == 30) = false := beq_eq_false_iff_ne.2 (by omega)
  have k31 : (kind == 31) = false := beq_eq_false_iff_ne.2 (by omega)
  have k32 : (kind == 32) = false := beq_eq_false_iff_ne.2 (by omega)
  have k29 : (kind == 29) = false := beq_eq_false_iff_ne.2 (by omega)
  have HI := Lib.hid (show inB kind 3 5 = false from inB_no (by omega))
  have HJ := Lib.hid (show inB kind 21 28 = true from inB_yes (by omega))
  clear hk
  go_enter Try.func69, Try.ntmps69
  go_upto_region 1 with fail
  have HB := Lib.hid (show Below w.heap.size w (((((w.alloc (Obj.cells #[.int .i64 kind, .int .i64 xa, .int .i64 xb, .int .i64 xc, .int .i64 n, .int .i64 m, .int .i64 xi, .int .i64 xw, .string nm] 61)).alloc (Obj.cells #[.int .i64 0, .int .i64 aw] 59)).alloc (Obj.cells #[.int .i64 0, .int .i64 bw] 59)).alloc (Obj.cells #[.int .i64 ci, .int .i64 cw] 59)).alloc (Obj.cells #[.int .i64 0, .int .i64 0] 59)) from by repeat (first | exact Below.refl _ _ | refine Below.alloc ?_ (by first | (simp; done) | (simp; omega)) _))
  have b0 : (((((w.alloc (Obj.cells #[.int .i64 kind, .int .i64 xa, .int .i64 xb, .int .i64 xc, .int .i64 n, .int .i64 m, .int .i64 xi, .int .i64 xw, .string nm] 61)).alloc (Obj.cells #[.int .i64 0, .int .i64 aw] 59)).alloc (Obj.cells #[.int .i64 0, .int .i64 bw] 59)).alloc (Obj.cells #[.int .i64 ci, .int .i64 cw] 59)).alloc (Obj.cells #[.int .i64 0, .int .i64 0] 59)).cell? ⟨w.heap.size, 0, none⟩ = some (.int .i64 kind) := by go_simp
  have b4 : (((((w.alloc (Obj.cells #[.int .i64 kind, .int .i64 xa, .int .i64 xb, .int .i64 xc, .int .i64 n, .int .i64 m, .int .i64 xi, .int .i64 xw, .string nm] 61)).alloc (Obj.cells #[.int .i64 0, .int .i64 aw] 59)).alloc (Obj.cells #[.int .i64 0, .int .i64 bw] 59)).alloc (Obj.cells #[.int .i64 ci, .int .i64 cw] 59)).alloc (Obj.cells #[.int .i64 0, .int .i64 0] 59)).cell? ⟨w.heap.size, 4, none⟩ = some (.int .i64 n) := by go_simp
  have b5 : (((((w.alloc (Obj.cells #[.int .i64 kind, .int .i64 xa, .int .i64 xb, .int .i64 xc, .int .i64 n, .int .i64 m, .int .i64 xi, .int .i64 xw, .string nm] 61)).alloc (Obj.cells #[.int .i64 0, .int .i64 aw] 59)).alloc (Obj.cells #[.int .i64 0, .int .i64 bw] 59)).alloc (Obj.cells #[.int .i64 ci, .int .i64 cw] 59)).alloc (Obj.cells #[.int .i64 0, .int .i64 0] 59)).cell? ⟨w.heap.size, 5, none⟩ = some (.int .i64 m) := by go_simp
  have b6 : (((((w.alloc (Obj.cells #[.int .i64 kind, .int .i64 xa, .int .i64 xb, .int .i64 xc, .int .i64 n, .int .i64 m, .int .i64 xi, .int .i64 xw, .string nm] 61)).alloc (Obj.cells #[.int .i64 0, .int .i64 aw] 59)).alloc (Obj.cells #[.int .i64 0, .int .i64 bw] 59)).alloc (Obj.cells #[.int .i64 ci, .int .i64 cw] 59)).alloc (Obj.cells #[.int .i64 0, .int .i64 0] 59)).cell? ⟨w.heap.size, 6, none⟩ = some (.int .i64 xi) := by go_simp
  have b7 : (((((w.alloc (Obj.cells #[.int .i64 kind, .int .i64 xa, .int .i64 xb, .int .i64 xc, .int .i64 n, .int .i64 m, .int .i64 xi, .int .i64 xw, .string nm] 61)).alloc (Obj.cells #[.int .i64 0, .int .i64 aw] 59)).alloc (Obj.cells #[.int .i64 0, .int .i64 bw] 59)).alloc (Obj.cells #[.int .i64 ci, .int .i64 cw] 59)).alloc (Obj.cells #[.int .i64 0, .int .i64 0] 59)).cell? ⟨w.heap.size, 7, none⟩ = some (.int .i64 xw) := by go_simp
  have d0 : (((((w.alloc (Obj.cells #[.int .i64 kind, .int .i64 xa, .int .i64 xb, .int .i64 xc, .int .i64 n, .int .i64 m, .int .i64 xi, .int .i64 xw, .string nm] 61)).alloc (Obj.cells #[.int .i64 0, .int .i64 aw] 59)).alloc (Obj.cells #[.int .i64 0, .int .i64 bw] 59)).alloc (Obj.cells #[.int .i64 ci, .int .i64 cw] 59)).alloc (Obj.cells #[.int .i64 0, .int .i64 0] 59)).cell? ⟨w.heap.size + 1, 0, none⟩ = some (.int .i64 0) := by go_simp
  have d1 : (((((w.alloc (Obj.cells #[.int .i64 kind, .int .i64 xa, .int .i64 xb, .int .i64 xc, .int .i64 n, .int .i64 m, .int .i64 xi, .int .i64 xw, .string nm] 61)).alloc (Obj.cells #[.int .i64 0, .int .i64 aw] 59)).alloc (Obj.cells #[.int .i64 0, .int .i64 bw] 59)).alloc (Obj.cells #[.int .i64 ci, .int .i64 cw] 59)).alloc (Obj.cells #[.int .i64 0, .int .i64 0] 59)).cell? ⟨w.heap.size + 1, 1, none⟩ = some (.int .i64 aw) := by go_simp
  have d2 : (((((w.alloc (Obj.cells #[.int .i64 kind, .int .i64 xa, .int .i64 xb, .int .i64 xc, .int .i64 n, .int .i64 m, .int .i64 xi, .int .i64 xw, .string nm] 61)).alloc (Obj.cells #[.int .i64 0, .int .i64 aw] 59)).alloc (Obj.cells #[.int .i64 0, .int .i64 bw] 59)).alloc (Obj.cells #[.int .i64 ci, .int .i64 cw] 59)).alloc (Obj.cells #[.int .i64 0, .int .i64 0] 59)).cell? ⟨w.heap.size + 2, 0, none⟩ = some (.int .i64 0) := by go_simp
  have d3 : (((((w.alloc (Obj.cells #[.int .i64 kind, .int .i64 xa, .int .i64 xb, .int .i64 xc, .int .i64 n, .int .i64 m, .int .i64 xi, .int .i64 xw, .string nm] 61)).alloc (Obj.cells #[.int .i64 0, .int .i64 aw] 59)).alloc (Obj.cells #[.int .i64 0, .int .i64 bw] 59)).alloc (Obj.cells #[.int .i64 ci, .int .i64 cw] 59)).alloc (Obj.cells #[.int .i64 0, .int .i64 0] 59)).cell? ⟨w.heap.size + 2, 1, none⟩ = some (.int .i64 bw) := by go_simp
  have d4 : (((((w.alloc (Obj.cells #[.int .i64 kind, .int .i64 xa, .int .i64 xb, .int .i64 xc, .int .i64 n, .int .i64 m, .int .i64 xi, .int .i64 xw, .string nm] 61)).alloc (Obj.cells #[.int .i64 0, .int .i64 aw] 59)).alloc (Obj.cells #[.int .i64 0, .int .i64 bw] 59)).alloc (Obj.cells #[.int .i64 ci, .int .i64 cw] 59)).alloc (Obj.cells #[.int .i64 0, .int .i64 0] 59)).cell? ⟨w.heap.size + 3, 0, none⟩ = some (.int .i64 ci) := by go_simp
  have d5 : (((((w.alloc (Obj.cells #[.int .i64 kind, .int .i64 xa, .int .i64 xb, .int .i64 xc, .int .i64 n, .int .i64 m, .int .i64 xi, .int .i64 xw, .string nm] 61)).alloc (Obj.cells #[.int .i64 0, .int .i64 aw] 59)).alloc (Obj.cells #[.int .i64 0, .int .i64 bw] 59)).alloc (Obj.cells #[.int .i64 ci, .int .i64 cw] 59)).alloc (Obj.cells #[.int .i64 0, .int .i64 0] 59)).cell? ⟨w.heap.size + 3, 1, none⟩ = some (.int .i64 cw) := by go_simp
  have r0 : (((((w.alloc (Obj.cells #[.int .i64 kind, .int .i64 xa, .int .i64 xb, .int .i64 xc, .int .i64 n, .int .i64 m, .int .i64 xi, .int .i64 xw, .string nm] 61)).alloc (Obj.cells #[.int .i64 0, .int .i64 aw] 59)).alloc (Obj.cells #[.int .i64 0, .int .i64 bw] 59)).alloc (Obj.cells #[.int .i64 ci, .int .i64 cw] 59)).alloc (Obj.cells #[.int .i64 0, .int .i64 0] 59)).cell? ⟨w.heap.size + 4, 0, none⟩ = some (.int .i64 0) := by go_simp
  have r1 : (((((w.alloc (Obj.cells #[.int .i64 kind, .int .i64 xa, .int .i64 xb, .int .i64 xc, .int .i64 n, .int .i64 m, .int .i64 xi, .int .i64 xw, .string nm] 61)).alloc (Obj.cells #[.int .i64 0, .int .i64 aw] 59)).alloc (Obj.cells #[.int .i64 0, .int .i64 bw] 59)).alloc (Obj.cells #[.int .i64 ci, .int .i64 cw] 59)).alloc (Obj.cells #[.int .i64 0, .int .i64 0] 59)).cell? ⟨w.heap.size + 4, 1, none⟩ = some (.int .i64 0) := by go_simp
  have f0 : (((((w.alloc (Obj.cells #[.int .i64 kind, .int .i64 xa, .int .i64 xb, .int .i64 xc, .int .i64 n, .int .i64 m, .int .i64 xi, .int .i64 xw, .string nm] 61)).alloc (Obj.cells #[.int .i64 0, .int .i64 aw] 59)).alloc (Obj.cells #[.int .i64 0, .int .i64 bw] 59)).alloc (Obj.cells #[.int .i64 ci, .int .i64 cw] 59)).alloc (Obj.cells #[.int .i64 0, .int .i64 0] 59)).frozen? ⟨w.heap.size + 4, 0, none⟩ = false := by go_simp
  have f1 : (((((w.alloc (Obj.cells #[.int .i64 kind, .int .i64 xa, .int .i64 xb, .int .i64 xc, .int .i64 n, .int .i64 m, .int .i64 xi, .int .i64 xw, .string nm] 61)).alloc (Obj.cells #[.int .i64 0, .int .i64 aw] 59)).alloc (Obj.cells #[.int .i64 0, .int .i64 bw] 59)).alloc (Obj.cells #[.int .i64 ci, .int .i64 cw] 59)).alloc (Obj.cells #[.int .i64 0, .int .i64 0] 59)).frozen? ⟨w.heap.size + 4, 1, none⟩ = false := by go_simp
  generalize (((((w.alloc (Obj.cells #[.int .i64 kind, .int .i64 xa, .int .i64 xb, .int .i64 xc, .int .i64 n, .int .i64 m, .int .i64 xi, .int .i64 xw, .string nm] 61)).alloc (Obj.cells #[.int .i64 0, .int .i64 aw] 59)).alloc (Obj.cells #[.int .i64 0, .int .i64 bw] 59)).alloc (Obj.cells #[.int .i64 ci, .int .i64 cw] 59)).alloc (Obj.cells #[.int .i64 0, .int .i64 0] 59)) = w2 at *
  have f0 := Later.frozen f0 (World.block_lt_of_cell? _ _ r0)
  have f1 := Later.frozen f1 (World.block_lt_of_cell? _ _ r1)
  have b0 := Later.cell b0
  have b4 := Later.cell b4
  have b5 := Later.cell b5
  have b6 := Later.cell b6
  have b7 := Later.cell b7
  have d0 := Later.cell d0
  have d1 := Later.cell d1
  have d2 := Later.cell d2
  have d3 := Later.cell d3
  have d4 := Later.cell d4
  have d5 := Later.cell d5
  have r0 := Later.cell r0
  have r1 := Later.cell r1
  go_wp2_with (first | (go_at_call 55; with_reducible refine (in_same kind 3 5 _).mono ?_; rintro e w' ⟨rfl, rfl⟩; rw [HI.out]) | (go_at_call 55; with_reducible refine (in_same kind 21 28 _).mono ?_; rintro e w' ⟨rfl, rfl⟩; rw [HJ.out]))
  have hfacts : ∀ W, (W = w2 ∨ W = (w2.setCell ⟨w.heap.size + 4, 0, none⟩ (.int .i64 (0))).setCell ⟨w.heap.size + 4, 1, none⟩ (.int .i64 (1))) → ∀ l : Later W, l.val.cell? ⟨w.heap.size, 0, none⟩ = some (.int .i64 kind) ∧ l.val.cell? ⟨w.heap.size, 4, none⟩ = some (.int .i64 n) ∧ l.val.cell? ⟨w.heap.size, 5, none⟩ = some (.int .i64 m) ∧ l.val.cell? ⟨w.heap.size, 6, none⟩ = some (.int .i64 xi) ∧ l.val.cell? ⟨w.heap.size, 7, none⟩ = some (.int .i64 xw) ∧ l.val.cell? ⟨w.heap.size + 1, 0, none⟩ = some (.int .i64 0) ∧ l.val.cell? ⟨w.heap.size + 1, 1, none⟩ = some (.int .i64 aw) ∧ l.val.cell? ⟨w.heap.size + 2, 0, none⟩ = some (.int .i64 0) ∧ l.val.cell? ⟨w.heap.size + 2, 1, none⟩ = some (.int .i64 bw) ∧ l.val.cell? ⟨w.heap.size + 3, 0, none⟩ = some (.int .i64 ci) ∧ l.val.cell? ⟨w.heap.size + 3, 1, none⟩ = some (.int .i64 cw) := by
    rintro W (rfl | rfl) l
    · exact ⟨b0 l, b4 l, b5 l, b6 l, b7 l, d0 l, d1 l, d2 l, d3 l, d4 l, d5 l⟩
    · have ne : ∀ (b f : Nat) (v : Value), b ≠ w.heap.size + 4 → (∀ l : Later w2, l.val.cell? ⟨b, f, none⟩ = some v) → l.val.cell? ⟨b, f, none⟩ = some v := fun b f v hb h => Later.cell ((World.cell?_setCell_other _ _ _ _ (by intro e; simp only [Addr.mk.injEq] at e; omega)).trans ((World.cell?_setCell_other _ _ _ _ (by intro e; simp only [Addr.mk.injEq] at e; omega)).trans (h ⟨w2, Below.refl _ _⟩))) l
      exact ⟨ne _ _ _ (by omega) b0, ne _ _ _ (by omega) b4, ne _ _ _ (by omega) b5, ne _ _ _ (by omega) b6, ne _ _ _ (by omega) b7, ne _ _ _ (by omega) d0, ne _ _ _ (by omega) d1, ne _ _ _ (by omega) d2, ne _ _ _ (by omega) d3, ne _ _ _ (by omega) d4, ne _ _ _ (by omega) d5⟩
  have HF := Lib.hid hfacts
  clear hfacts
  refine wp_region_store' (w0 := w2) (w1 := (w2.setCell ⟨w.heap.size + 4, 0, none⟩ (.int .i64 (0))).setCell ⟨w.heap.size + 4, 1, none⟩ (.int .i64 (1))) 4 (by kernel_rfl) (by kernel_rfl) rfl (by kernel_rfl) (LaterC.refl _) ?_
  apply Exists.intro
  refine ⟨fun W hW => ?_, ?_, ?_, ?_⟩
  · have hc := HF.out W hW
    have e0 := fun l => (hc l).1; have e1 := fun l => (hc l).2.1; have e2 := fun l => (hc l).2.2.1; have e3 := fun l => (hc l).2.2.2.1; have e4 := fun l => (hc l).2.2.2.2.1; have e5 := fun l => (hc l).2.2.2.2.2.1; have e6 := fun l => (hc l).2.2.2.2.2.2.1; have e7 := fun l => (hc l).2.2.2.2.2.2.2.1; have e8 := fun l => (hc l).2.2.2.2.2.2.2.2.1; have e9 := fun l => (hc l).2.2.2.2.2.2.2.2.2.1; have e10 := fun l => (hc l).2.2.2.2.2.2.2.2.2.2
    clear hc hW
    simp only [List.take_succ_cons, List.take_zero]
    repeat (go_big_quiet_step (first | (go_at_call 34; exact Calls.later (words_calls _ _))))
    exact wpQuiet_nil rfl
  · rfl
  · intro u
    refine ⟨(u.val.setCell ⟨w.heap.size + 4, 0, none⟩ (.int .i64 (0))).setCell ⟨w.heap.size + 4, 1, none⟩ (.int .i64 (1)), ?_, u.set2 _ _ _ _⟩
    have s0 := r0 u; have s1 := r1 u; have t0 := f0 u; have t1 := f1 u
    go_simp
  · intro u
    have s0 : u.val.cell? ⟨w.heap.size + 4, 0, none⟩ = some (.int .i64 (0)) := Later.cell ((World.cell?_setCell_other _ _ _ _ (by intro e; simp only [Addr.mk.injEq] at e; omega)).trans (World.cell?_setCell_same _ _ _ (r0 ⟨w2, Below.refl _ _⟩))) u
    have s1 : u.val.cell? ⟨w.heap.size + 4, 1, none⟩ = some (.int .i64 (1)) := Later.cell (World.cell?_setCell_same _ _ _ ((World.cell?_setCell_other _ _ _ _ (by intro e; simp only [Addr.mk.injEq] at e; omega)).trans (r1 ⟨w2, Below.refl _ _⟩))) u
    have hbel := Lib.hid (u.back ((HB.out.setCell (p := ⟨w.heap.size + 4, 0, none⟩) (by simp) (.int .i64 (0))).setCell (p := ⟨w.heap.size + 4, 1, none⟩) (by simp) (.int .i64 (1))))
    simp only [List.drop_succ_cons, List.drop_zero]
    clear r0 r1 f0 f1
    go_wp2
    exact bodyPost_ret (v := .tuple #[.agg #[.int .i64 (0), .int .i64 (1)], .bool false]) (by simp [results, Try.results69, go_sem, s0, s1]) rfl (respost_none HR.out hbel.out)
set_option maxHeartbeats 2000000 in
set_option maxRecDepth 8000 in
theorem sortOf_s_1 (kind n m aw bw ci cw xa xb xc xi xw : Int) (nm : ByteArray) (w : World) (hk : 22 ≤ kind ∧ kind ≤ 28) (h : (aw == bw) = true) :
    Calls Try.prog 69 #[.agg #[.int .i64 kind, .int .i64 xa, .int .i64 xb, .int .i64 xc, .int .i64 n, .int .i64 m, .int .i64 xi, .int .i64 xw, .string nm], .agg #[.int .i64 0, .int .i64 aw], .agg #[.int .i64 0, .int .i64 bw], .agg #[.int .i64 ci, .int .i64 cw]] w (ResPost (resN kind n m 0 aw 0 bw ci cw) w) := by
  have HR := Lib.hid (show (resN kind n m 0 aw 0 bw ci cw) = some (0, 1) by unfold resN; rw [if_neg (by omega), if_neg (by omega), if_neg (by omega), if_neg (by omega), if_neg (by simp), if_neg (by omega), if_neg (by omega), if_neg (by omega), if_neg (by omega), if_neg (by omega)]; rw [if_pos (beq_iff_eq.1 h)]; rw [if_neg (by omega)])
  have k33 : (kind == 33) = false := beq_eq_false_iff_ne.2 (by omega)
  have k34 : (kind == 34) = false := beq_eq_false_iff_ne.2 (by omega)
  have k35 : (kind == 35) = false := beq_eq_false_iff_ne.2 (by omega)
  have k36 : (kind == 36) = false := beq_eq_false_iff_ne.2 (by omega)
  have k37 : (kind == 37) = false := beq_eq_false_iff_ne.2 (by omega)
  have k38 : (kind == 38) = false := beq_eq_false_iff_ne.2 (by omega)
  have k21 : (kind == 21) = false := beq_eq_false_iff_ne.2 (by omega)
  have k1 : (kind == 1) = false := beq_eq_false_iff_ne.2 (by omega)
  have k2 : (kind == 2) = false := beq_eq_false_iff_ne.2 (by omega)
  have k30 : (kind == 30) = false := beq_eq_false_iff_ne.2 (by omega)
  have k31 : (kind == 31) = false := beq_eq_false_iff_ne.2 (by omega)
  have k32 : (kind == 32) = false := beq_eq_false_iff_ne.2 (by omega)
  have k29 : (kind == 29) = false := beq_eq_false_iff_ne.2 (by omega)
  have HI := Lib.hid (show inB kind 3 5 = false from inB_no (by omega))
  have HJ := Lib.hid (show inB kind 21 28 = true from inB_yes (by omega))
  clear hk
  go_enter Try.func69, Try.ntmps69
  go_upto_region 1 with fail
  have HB := Lib.hid (show Below w.heap.size w (((((w.alloc (Obj.cells #[.int .i64 kind, .int .i64 xa, .int .i64 xb, .int .i64 xc, .int .i64 n, .int .i64 m, .int .i64 xi, .int .i64 xw, .string nm] 61)).alloc (Obj.cells #[.int .i64 0, .int .i64 aw] 59)).alloc (Obj.cells #[.int .i64 0, .int .i64 bw] 59)).alloc (Obj.cells #[.int .i64 ci, .int .i64 cw] 59)).alloc (Obj.cells #[.int .i64 0, .int .i64 0] 59)) from by repeat (first | exact Below.refl _ _ | refine Below.alloc ?_ (by first | (simp; done) | (simp; omega)) _))
  have b0 : (((((w.alloc (Obj.cells #[.int .i64 kind, .int .i64 xa, .int .i64 xb, .int .i64 xc, .int .i64 n, .int .i64 m, .int .i64 xi, .int .i64 xw, .string nm] 61)).alloc (Obj.cells #[.int .i64 0, .int .i64 aw] 59)).alloc (Obj.cells #[.int .i64 0, .int .i64 bw] 59)).alloc (Obj.cells #[.int .i64 ci, .int .i64 cw] 59)).alloc (Obj.cells #[.int .i64 0, .int .i64 0] 59)).cell? ⟨w.heap.size, 0, none⟩ = some (.int .i64 kind) := by go_simp
  have b4 : (((((w.alloc (Obj.cells #[.int .i64 kind, .int .i64 xa, .int .i64 xb, .int .i64 xc, .int .i64 n, .int .i64 m, .int .i64 xi, .int .i64 xw, .string nm] 61)).alloc (Obj.cells #[.int .i64 0, .int .i64 aw] 59)).alloc (Obj.cells #[.int .i64 0, .int .i64 bw] 59)).alloc (Obj.cells #[.int .i64 ci, .int .i64 cw] 59)).alloc (Obj.cells #[.int .i64 0, .int .i64 0] 59)).cell? ⟨w.heap.size, 4, none⟩ = some (.int .i64 n) := by go_simp
  have b5 : (((((w.alloc (Obj.cells #[.int .i64 kind, .int .i64 xa, .int .i64 xb, .int .i64 xc, .int .i64 n, .int .i64 m, .int .i64 xi, .int .i64 xw, .string nm] 61)).alloc (Obj.cells #[.int .i64 0, .int .i64 aw] 59)).alloc (Obj.cells #[.int .i64 0, .int .i64 bw] 59)).alloc (Obj.cells #[.int .i64 ci, .int .i64 cw] 59)).alloc (Obj.cells #[.int .i64 0, .int .i64 0] 59)).cell? ⟨w.heap.size, 5, none⟩ = some (.int .i64 m) := by go_simp
  have b6 : (((((w.alloc (Obj.cells #[.int .i64 kind, .int .i64 xa, .int .i64 xb, .int .i64 xc, .int .i64 n, .int .i64 m, .int .i64 xi, .int .i64 xw, .string nm] 61)).alloc (Obj.cells #[.int .i64 0, .int .i64 aw] 59)).alloc (Obj.cells #[.int .i64 0, .int .i64 bw] 59)).alloc (Obj.cells #[.int .i64 ci, .int .i64 cw] 59)).alloc (Obj.cells #[.int .i64 0, .int .i64 0] 59)).cell? ⟨w.heap.size, 6, none⟩ = some (.int .i64 xi) := by go_simp
  have b7 : (((((w.alloc (Obj.cells #[.int .i64 kind, .int .i64 xa, .int .i64 xb, .int .i64 xc, .int .i64 n, .int .i64 m, .int .i64 xi, .int .i64 xw, .string nm] 61)).alloc (Obj.cells #[.int .i64 0, .int .i64 aw] 59)).alloc (Obj.cells #[.int .i64 0, .int .i64 bw] 59)).alloc (Obj.cells #[.int .i64 ci, .int .i64 cw] 59)).alloc (Obj.cells #[.int .i64 0, .int .i64 0] 59)).cell? ⟨w.heap.size, 7, none⟩ = some (.int .i64 xw) := by go_simp
  have d0 : (((((w.alloc (Obj.cells #[.int .i64 kind, .int .i64 xa, .int .i64 xb, .int .i64 xc, .int .i64 n, .int .i64 m, .int .i64 xi, .int .i64 xw, .string nm] 61)).alloc (Obj.cells #[.int .i64 0, .int .i64 aw] 59)).alloc (Obj.cells #[.int .i64 0, .int .i64 bw] 59)).alloc (Obj.cells #[.int .i64 ci, .int .i64 cw] 59)).alloc (Obj.cells #[.int .i64 0, .int .i64 0] 59)).cell? ⟨w.heap.size + 1, 0, none⟩ = some (.int .i64 0) := by go_simp
  have d1 : (((((w.alloc (Obj.cells #[.int .i64 kind, .int .i64 xa, .int .i64 xb, .int .i64 xc, .int .i64 n, .int .i64 m, .int .i64 xi, .int .i64 xw, .string nm] 61)).alloc (Obj.cells #[.int .i64 0, .int .i64 aw] 59)).alloc (Obj.cells #[.int .i64 0, .int .i64 bw] 59)).alloc (Obj.cells #[.int .i64 ci, .int .i64 cw] 59)).alloc (Obj.cells #[.int .i64 0, .int .i64 0] 59)).cell? ⟨w.heap.size + 1, 1, none⟩ = some (.int .i64 aw) := by go_simp
  have d2 : (((((w.alloc (Obj.cells #[.int .i64 kind, .int .i64 xa, .int .i64 xb, .int .i64 xc, .int .i64 n, .int .i64 m, .int .i64 xi, .int .i64 xw, .string nm] 61)).alloc (Obj.cells #[.int .i64 0, .int .i64 aw] 59)).alloc (Obj.cells #[.int .i64 0, .int .i64 bw] 59)).alloc (Obj.cells #[.int .i64 ci, .int .i64 cw] 59)).alloc (Obj.cells #[.int .i64 0, .int .i64 0] 59)).cell? ⟨w.heap.size + 2, 0, none⟩ = some (.int .i64 0) := by go_simp
  have d3 : (((((w.alloc (Obj.cells #[.int .i64 kind, .int .i64 xa, .int .i64 xb, .int .i64 xc, .int .i64 n, .int .i64 m, .int .i64 xi, .int .i64 xw, .string nm] 61)).alloc (Obj.cells #[.int .i64 0, .int .i64 aw] 59)).alloc (Obj.cells #[.int .i64 0, .int .i64 bw] 59)).alloc (Obj.cells #[.int .i64 ci, .int .i64 cw] 59)).alloc (Obj.cells #[.int .i64 0, .int .i64 0] 59)).cell? ⟨w.heap.size + 2, 1, none⟩ = some (.int .i64 bw) := by go_simp
  have d4 : (((((w.alloc (Obj.cells #[.int .i64 kind, .int .i64 xa, .int .i64 xb, .int .i64 xc, .int .i64 n, .int .i64 m, .int .i64 xi, .int .i64 xw, .string nm] 61)).alloc (Obj.cells #[.int .i64 0, .int .i64 aw] 59)).alloc (Obj.cells #[.int .i64 0, .int .i64 bw] 59)).alloc (Obj.cells #[.int .i64 ci, .int .i64 cw] 59)).alloc (Obj.cells #[.int .i64 0, .int .i64 0] 59)).cell? ⟨w.heap.size + 3, 0, none⟩ = some (.int .i64 ci) := by go_simp
  have d5 : (((((w.alloc (Obj.cells #[.int .i64 kind, .int .i64 xa, .int .i64 xb, .int .i64 xc, .int .i64 n, .int .i64 m, .int .i64 xi, .int .i64 xw, .string nm] 61)).alloc (Obj.cells #[.int .i64 0, .int .i64 aw] 59)).alloc (Obj.cells #[.int .i64 0, .int .i64 bw] 59)).alloc (Obj.cells #[.int .i64 ci, .int .i64 cw] 59)).alloc (Obj.cells #[.int .i64 0, .int .i64 0] 59)).cell? ⟨w.heap.size + 3, 1, none⟩ = some (.int .i64 cw) := by go_simp
  have r0 : (((((w.alloc (Obj.cells #[.int .i64 kind, .int .i64 xa, .int .i64 xb, .int .i64 xc, .int .i64 n, .int .i64 m, .int .i64 xi, .int .i64 xw, .string nm] 61)).alloc (Obj.cells #[.int .i64 0, .int .i64 aw] 59)).alloc (Obj.cells #[.int .i64 0, .int .i64 bw] 59)).alloc (Obj.cells #[.int .i64 ci, .int .i64 cw] 59)).alloc (Obj.cells #[.int .i64 0, .int .i64 0] 59)).cell? ⟨w.heap.size + 4, 0, none⟩ = some (.int .i64 0) := by go_simp
  have r1 : (((((w.alloc (Obj.cells #[.int .i64 kind, .int .i64 xa, .int .i64 xb, .int .i64 xc, .int .i64 n, .int .i64 m, .int .i64 xi, .int .i64 xw, .string nm] 61)).alloc (Obj.cells #[.int .i64 0, .int .i64 aw] 59)).alloc (Obj.cells #[.int .i64 0, .int .i64 bw] 59)).alloc (Obj.cells #[.int .i64 ci, .int .i64 cw] 59)).alloc (Obj.cells #[.int .i64 0, .int .i64 0] 59)).cell? ⟨w.heap.size + 4, 1, none⟩ = some (.int .i64 0) := by go_simp
  have f0 : (((((w.alloc (Obj.cells #[.int .i64 kind, .int .i64 xa, .int .i64 xb, .int .i64 xc, .int .i64 n, .int .i64 m, .int .i64 xi, .int .i64 xw, .string nm] 61)).alloc (Obj.cells #[.int .i64 0, .int .i64 aw] 59)).alloc (Obj.cells #[.int .i64 0, .int .i64 bw] 59)).alloc (Obj.cells #[.int .i64 ci, .int .i64 cw] 59)).alloc (Obj.cells #[.int .i64 0, .int .i64 0] 59)).frozen? ⟨w.heap.size + 4, 0, none⟩ = false := by go_simp
  have f1 : (((((w.alloc (Obj.cells #[.int .i64 kind, .int .i64 xa, .int .i64 xb, .int .i64 xc, .int .i64 n, .int .i64 m, .int .i64 xi, .int .i64 xw, .string nm] 61)).alloc (Obj.cells #[.int .i64 0, .int .i64 aw] 59)).alloc (Obj.cells #[.int .i64 0, .int .i64 bw] 59)).alloc (Obj.cells #[.int .i64 ci, .int .i64 cw] 59)).alloc (Obj.cells #[.int .i64 0, .int .i64 0] 59)).frozen? ⟨w.heap.size + 4, 1, none⟩ = false := by go_simp
  generalize (((((w.alloc (Obj.cells #[.int .i64 kind, .int .i64 xa, .int .i64 xb, .int .i64 xc, .int .i64 n, .int .i64 m, .int .i64 xi, .int .i64 xw, .string nm] 61)).alloc (Obj.cells #[.int .i64 0, .int .i64 aw] 59)).alloc (Obj.cells #[.int .i64 0, .int .i64 bw] 59)).alloc (Obj.cells #[.int .i64 ci, .int .i64 cw] 59)).alloc (Obj.cells #[.int .i64 0, .int .i64 0] 59)) = w2 at *
  have f0 := Later.frozen f0 (World.block_lt_of_cell? _ _ r0)
  have f1 := Later.frozen f1 (World.block_lt_of_cell? _ _ r1)
  have b0 := Later.cell b0
  have b4 := Later.cell b4
  have b5 := Later.cell b5
  have b6 := Later.cell b6
  have b7 := Later.cell b7
  have d0 := Later.cell d0
  have d1 := Later.cell d1
  have d2 := Later.cell d2
  have d3 := Later.cell d3
  have d4 := Later.cell d4
  have d5 := Later.cell d5
  have r0 := Later.cell r0
  have r1 := Later.cell r1
  go_wp2_with (first | (go_at_call 55; with_reducible refine (in_same kind 3 5 _).mono ?_; rintro e w' ⟨rfl, rfl⟩; rw [HI.out]) | (go_at_call 55; with_reducible refine (in_same kind 21 28 _).mono ?_; rintro e w' ⟨rfl, rfl⟩; rw [HJ.out]))
  have hfacts : ∀ W, (W = w2 ∨ W = (w2.setCell ⟨w.heap.size + 4, 0, none⟩ (.int .i64 (0))).setCell ⟨w.heap.size + 4, 1, none⟩ (.int .i64 (1))) → ∀ l : Later W, l.val.cell? ⟨w.heap.size, 0, none⟩ = some (.int .i64 kind) ∧ l.val.cell? ⟨w.heap.size, 4, none⟩ = some (.int .i64 n) ∧ l.val.cell? ⟨w.heap.size, 5, none⟩ = some (.int .i64 m) ∧ l.val.cell? ⟨w.heap.size, 6, none⟩ = some (.int .i64 xi) ∧ l.val.cell? ⟨w.heap.size, 7, none⟩ = some (.int .i64 xw) ∧ l.val.cell? ⟨w.heap.size + 1, 0, none⟩ = some (.int .i64 0) ∧ l.val.cell? ⟨w.heap.size + 1, 1, none⟩ = some (.int .i64 aw) ∧ l.val.cell? ⟨w.heap.size + 2, 0, none⟩ = some (.int .i64 0) ∧ l.val.cell? ⟨w.heap.size + 2, 1, none⟩ = some (.int .i64 bw) ∧ l.val.cell? ⟨w.heap.size + 3, 0, none⟩ = some (.int .i64 ci) ∧ l.val.cell? ⟨w.heap.size + 3, 1, none⟩ = some (.int .i64 cw) := by
    rintro W (rfl | rfl) l
    · exact ⟨b0 l, b4 l, b5 l, b6 l, b7 l, d0 l, d1 l, d2 l, d3 l, d4 l, d5 l⟩
    · have ne : ∀ (b f : Nat) (v : Value), b ≠ w.heap.size + 4 → (∀ l : Later w2, l.val.cell? ⟨b, f, none⟩ = some v) → l.val.cell? ⟨b, f, none⟩ = some v := fun b f v hb h => Later.cell ((World.cell?_setCell_other _ _ _ _ (by intro e; simp only [Addr.mk.injEq] at e; omega)).trans ((World.cell?_setCell_other _ _ _ _ (by intro e; simp only [Addr.mk.injEq] at e; omega)).trans (h ⟨w2, Below.refl _ _⟩))) l
      exact ⟨ne _ _ _ (by omega) b0, ne _ _ _ (by omega) b4, ne _ _ _ (by omega) b5, ne _ _ _ (by omega) b6, ne _ _ _ (by omega) b7, ne _ _ _ (by omega) d0, ne _ _ _ (by omega) d1, ne _ _ _ (by omega) d2, ne _ _ _ (by omega) d3, ne _ _ _ (by omega) d4, ne _ _ _ (by omega) d5⟩
  have HF := Lib.hid hfacts
  clear hfacts
  refine wp_region_store' (w0 := w2) (w1 := (w2.setCell ⟨w.heap.size + 4, 0, none⟩ (.int .i64 (0))).setCell ⟨w.heap.size + 4, 1, none⟩ (.int .i64 (1))) 4 (by kernel_rfl) (by kernel_rfl) rfl (by kernel_rfl) (LaterC.refl _) ?_
  apply Exists.intro
  refine ⟨fun W hW => ?_, ?_, ?_, ?_⟩
  · have hc := HF.out W hW
    have e0 := fun l => (hc l).1; have e1 := fun l => (hc l).2.1; have e2 := fun l => (hc l).2.2.1; have e3 := fun l => (hc l).2.2.2.1; have e4 := fun l => (hc l).2.2.2.2.1; have e5 := fun l => (hc l).2.2.2.2.2.1; have e6 := fun l => (hc l).2.2.2.2.2.2.1; have e7 := fun l => (hc l).2.2.2.2.2.2.2.1; have e8 := fun l => (hc l).2.2.2.2.2.2.2.2.1; have e9 := fun l => (hc l).2.2.2.2.2.2.2.2.2.1; have e10 := fun l => (hc l).2.2.2.2.2.2.2.2.2.2
    clear hc hW
    simp only [List.take_succ_cons, List.take_zero]
    repeat (go_big_quiet_step (first | (go_at_call 34; exact Calls.later (words_calls _ _))))
    exact wpQuiet_nil rfl
  · rfl
  · intro u
    refine ⟨(u.val.setCell ⟨w.heap.size + 4, 0, none⟩ (.int .i64 (0))).setCell ⟨w.heap.size + 4, 1, none⟩ (.int .i64 (1)), ?_, u.set2 _ _ _ _⟩
    have s0 := r0 u; have s1 := r1 u; have t0 := f0 u; have t1 := f1 u
    go_simp
  · intro u
    have s0 : u.val.cell? ⟨w.heap.size + 4, 0, none⟩ = some (.int .i64 (0)) := Later.cell ((World.cell?_setCell_other _ _ _ _ (by intro e; simp only [Addr.mk.injEq] at e; omega)).trans (World.cell?_setCell_same _ _ _ (r0 ⟨w2, Below.refl _ _⟩))) u
    have s1 : u.val.cell? ⟨w.heap.size + 4, 1, none⟩ = some (.int .i64 (1)) := Later.cell (World.cell?_setCell_same _ _ _ ((World.cell?_setCell_other _ _ _ _ (by intro e; simp only [Addr.mk.injEq] at e; omega)).trans (r1 ⟨w2, Below.refl _ _⟩))) u
    have hbel := Lib.hid (u.back ((HB.out.setCell (p := ⟨w.heap.size + 4, 0, none⟩) (by simp) (.int .i64 (0))).setCell (p := ⟨w.heap.size + 4, 1, none⟩) (by simp) (.int .i64 (1))))
    simp only [List.drop_succ_cons, List.drop_zero]
    clear r0 r1 f0 f1
    go_wp2
    exact bodyPost_ret (v := .tuple #[.agg #[.int .i64 (0), .int .i64 (1)], .bool true]) (by simp [results, Try.results69, go_sem, s0, s1]) rfl (respost_some HR.out hbel.out)
set_option maxHeartbeats 2000000 in
set_option maxRecDepth 8000 in
theorem sortOf_t_0 (kind n m aw bw ci cw xa xb xc xi xw : Int) (nm : ByteArray) (w : World) (hk : 6 ≤ kind ∧ kind ≤ 20) (h : (aw == bw) = false) :
    Calls Try.prog 69 #[.agg #[.int .i64 kind, .int .i64 xa, .int .i64 xb, .int .i64 xc, .int .i64 n, .int .i64 m, .int .i64 xi, .int .i64 xw, .string nm], .agg #[.int .i64 0, .int .i64 aw], .agg #[.int .i64 0, .int .i64 bw], .agg #[.int .i64 ci, .int .i64 cw]] w (ResPost (resN kind n m 0 aw 0 bw ci cw) w) := by
  have HR := Lib.hid (show (resN kind n m 0 aw 0 bw ci cw) = none by unfold resN; rw [if_neg (by omega), if_neg (by omega), if_neg (by omega), if_neg (by omega), if_neg (by simp), if_neg (by omega), if_neg (by omega), if_neg (by omega), if_neg (by omega), if_neg (by omega)]; rw [if_neg (beq_eq_false_iff_ne.1 h)])
  have k33 : (kind == 33) = false := beq_eq_false_iff_ne.2 (by omega)
  have k34 : (kind == 34) = false := beq_eq_false_iff_ne.2 (by omega)
  have k35 : (kind == 35) = false := beq_eq_false_iff_ne.2 (by omega)
  have k36 : (kind == 36) = false := beq_eq_false_iff_ne.2 (by omega)
  have k37 : (kind == 37) = false := beq_eq_false_iff_ne.2 (by omega)
  have k38 : (kind == 38) = false := beq_eq_false_iff_ne.2 (by omega)
  have k21 : (kind == 21) = false := beq_eq_false_iff_ne.2 (by omega)
  have k1 : (kind == 1) = false := beq_eq_false_iff_ne.2 (by omega)
  have k2 : (kind == 2) = false := beq_eq_false_iff_ne.2 (by omega)
  have k30 : (kind == 30) = false := beq_eq_false_iff_ne.2 (by omega)
  have k31 : (kind == 31) = false := beq_eq_false_iff_ne.2 (by omega)
  have k32 : (kind == 32) = false := beq_eq_false_iff_ne.2 (by omega)
  have k29 : (kind == 29) = false := beq_eq_false_iff_ne.2 (by omega)
  have HI := Lib.hid (show inB kind 3 5 = false from inB_no (by omega))
  have HJ := Lib.hid (show inB kind 21 28 = false from inB_no (by omega))
  clear hk
  go_enter Try.func69, Try.ntmps69
  go_upto_region 1 with fail
  have HB := Lib.hid (show Below w.heap.size w (((((w.alloc (Obj.cells #[.int .i64 kind, .int .i64 xa, .int .i64 xb, .int .i64 xc, .int .i64 n, .int .i64 m, .int .i64 xi, .int .i64 xw, .string nm] 61)).alloc (Obj.cells #[.int .i64 0, .int .i64 aw] 59)).alloc (Obj.cells #[.int .i64 0, .int .i64 bw] 59)).alloc (Obj.cells #[.int .i64 ci, .int .i64 cw] 59)).alloc (Obj.cells #[.int .i64 0, .int .i64 0] 59)) from by repeat (first | exact Below.refl _ _ | refine Below.alloc ?_ (by first | (simp; done) | (simp; omega)) _))
  have b0 : (((((w.alloc (Obj.cells #[.int .i64 kind, .int .i64 xa, .int .i64 xb, .int .i64 xc, .int .i64 n, .int .i64 m, .int .i64 xi, .int .i64 xw, .string nm] 61)).alloc (Obj.cells #[.int .i64 0, .int .i64 aw] 59)).alloc (Obj.cells #[.int .i64 0, .int .i64 bw] 59)).alloc (Obj.cells #[.int .i64 ci, .int .i64 cw] 59)).alloc (Obj.cells #[.int .i64 0, .int .i64 0] 59)).cell? ⟨w.heap.size, 0, none⟩ = some (.int .i64 kind) := by go_simp
  have b4 : (((((w.alloc (Obj.cells #[.int .i64 kind, .int .i64 xa, .int .i64 xb, .int .i64 xc, .int .i64 n, .int .i64 m, .int .i64 xi, .int .i64 xw, .string nm] 61)).alloc (Obj.cells #[.int .i64 0, .int .i64 aw] 59)).alloc (Obj.cells #[.int .i64 0, .int .i64 bw] 59)).alloc (Obj.cells #[.int .i64 ci, .int .i64 cw] 59)).alloc (Obj.cells #[.int .i64 0, .int .i64 0] 59)).cell? ⟨w.heap.size, 4, none⟩ = some (.int .i64 n) := by go_simp
  have b5 : (((((w.alloc (Obj.cells #[.int .i64 kind, .int .i64 xa, .int .i64 xb, .int .i64 xc, .int .i64 n, .int .i64 m, .int .i64 xi, .int .i64 xw, .string nm] 61)).alloc (Obj.cells #[.int .i64 0, .int .i64 aw] 59)).alloc (Obj.cells #[.int .i64 0, .int .i64 bw] 59)).alloc (Obj.cells #[.int .i64 ci, .int .i64 cw] 59)).alloc (Obj.cells #[.int .i64 0, .int .i64 0] 59)).cell? ⟨w.heap.size, 5, none⟩ = some (.int .i64 m) := by go_simp
  have b6 : (((((w.alloc (Obj.cells #[.int .i64 kind, .int .i64 xa, .int .i64 xb, .int .i64 xc, .int .i64 n, .int .i64 m, .int .i64 xi, .int .i64 xw, .string nm] 61)).alloc (Obj.cells #[.int .i64 0, .int .i64 aw] 59)).alloc (Obj.cells #[.int .i64 0, .int .i64 bw] 59)).alloc (Obj.cells #[.int .i64 ci, .int .i64 cw] 59)).alloc (Obj.cells #[.int .i64 0, .int .i64 0] 59)).cell? ⟨w.heap.size, 6, none⟩ = some (.int .i64 xi) := by go_simp
  have b7 : (((((w.alloc (Obj.cells #[.int .i64 kind, .int .i64 xa, .int .i64 xb, .int .i64 xc, .int .i64 n, .int .i64 m, .int .i64 xi, .int .i64 xw, .string nm] 61)).alloc (Obj.cells #[.int .i64 0, .int .i64 aw] 59)).alloc (Obj.cells #[.int .i64 0, .int .i64 bw] 59)).alloc (Obj.cells #[.int .i64 ci, .int .i64 cw] 59)).alloc (Obj.cells #[.int .i64 0, .int .i64 0] 59)).cell? ⟨w.heap.size, 7, none⟩ = some (.int .i64 xw) := by go_simp
  have d0 : (((((w.alloc (Obj.cells #[.int .i64 kind, .int .i64 xa, .int .i64 xb, .int .i64 xc, .int .i64 n, .int .i64 m, .int .i64 xi, .int .i64 xw, .string nm] 61)).alloc (Obj.cells #[.int .i64 0, .int .i64 aw] 59)).alloc (Obj.cells #[.int .i64 0, .int .i64 bw] 59)).alloc (Obj.cells #[.int .i64 ci, .int .i64 cw] 59)).alloc (Obj.cells #[.int .i64 0, .int .i64 0] 59)).cell? ⟨w.heap.size + 1, 0, none⟩ = some (.int .i64 0) := by go_simp
  have d1 : (((((w.alloc (Obj.cells #[.int .i64 kind, .int .i64 xa, .int .i64 xb, .int .i64 xc, .int .i64 n, .int .i64 m, .int .i64 xi, .int .i64 xw, .string nm] 61)).alloc (Obj.cells #[.int .i64 0, .int .i64 aw] 59)).alloc (Obj.cells #[.int .i64 0, .int .i64 bw] 59)).alloc (Obj.cells #[.int .i64 ci, .int .i64 cw] 59)).alloc (Obj.cells #[.int .i64 0, .int .i64 0] 59)).cell? ⟨w.heap.size + 1, 1, none⟩ = some (.int .i64 aw) := by go_simp
  have d2 : (((((w.alloc (Obj.cells #[.int .i64 kind, .int .i64 xa, .int .i64 xb, .int .i64 xc, .int .i64 n, .int .i64 m, .int .i64 xi, .int .i64 xw, .string nm] 61)).alloc (Obj.cells #[.int .i64 0, .int .i64 aw] 59)).alloc (Obj.cells #[.int .i64 0, .int .i64 bw] 59)).alloc (Obj.cells #[.int .i64 ci, .int .i64 cw] 59)).alloc (Obj.cells #[.int .i64 0, .int .i64 0] 59)).cell? ⟨w.heap.size + 2, 0, none⟩ = some (.int .i64 0) := by go_simp
  have d3 : (((((w.alloc (Obj.cells #[.int .i64 kind, .int .i64 xa, .int .i64 xb, .int .i64 xc, .int .i64 n, .int .i64 m, .int .i64 xi, .int .i64 xw, .string nm] 61)).alloc (Obj.cells #[.int .i64 0, .int .i64 aw] 59)).alloc (Obj.cells #[.int .i64 0, .int .i64 bw] 59)).alloc (Obj.cells #[.int .i64 ci, .int .i64 cw] 59)).alloc (Obj.cells #[.int .i64 0, .int .i64 0] 59)).cell? ⟨w.heap.size + 2, 1, none⟩ = some (.int .i64 bw) := by go_simp
  have d4 : (((((w.alloc (Obj.cells #[.int .i64 kind, .int .i64 xa, .int .i64 xb, .int .i64 xc, .int .i64 n, .int .i64 m, .int .i64 xi, .int .i64 xw, .string nm] 61)).alloc (Obj.cells #[.int .i64 0, .int .i64 aw] 59)).alloc (Obj.cells #[.int .i64 0, .int .i64 bw] 59)).alloc (Obj.cells #[.int .i64 ci, .int .i64 cw] 59)).alloc (Obj.cells #[.int .i64 0, .int .i64 0] 59)).cell? ⟨w.heap.size + 3, 0, none⟩ = some (.int .i64 ci) := by go_simp
  have d5 : (((((w.alloc (Obj.cells #[.int .i64 kind, .int .i64 xa, .int .i64 xb, .int .i64 xc, .int .i64 n, .int .i64 m, .int .i64 xi, .int .i64 xw, .string nm] 61)).alloc (Obj.cells #[.int .i64 0, .int .i64 aw] 59)).alloc (Obj.cells #[.int .i64 0, .int .i64 bw] 59)).alloc (Obj.cells #[.int .i64 ci, .int .i64 cw] 59)).alloc (Obj.cells #[.int .i64 0, .int .i64 0] 59)).cell? ⟨w.heap.size + 3, 1, none⟩ = some (.int .i64 cw) := by go_simp
  have r0 : (((((w.alloc (Obj.cells #[.int .i64 kind, .int .i64 xa, .int .i64 xb, .int .i64 xc, .int .i64 n, .int .i64 m, .int .i64 xi, .int .i64 xw, .string nm] 61)).alloc (Obj.cells #[.int .i64 0, .int .i64 aw] 59)).alloc (Obj.cells #[.int .i64 0, .int .i64 bw] 59)).alloc (Obj.cells #[.int .i64 ci, .int .i64 cw] 59)).alloc (Obj.cells #[.int .i64 0, .int .i64 0] 59)).cell? ⟨w.heap.size + 4, 0, none⟩ = some (.int .i64 0) := by go_simp
  have r1 : (((((w.alloc (Obj.cells #[.int .i64 kind, .int .i64 xa, .int .i64 xb, .int .i64 xc, .int .i64 n, .int .i64 m, .int .i64 xi, .int .i64 xw, .string nm] 61)).alloc (Obj.cells #[.int .i64 0, .int .i64 aw] 59)).alloc (Obj.cells #[.int .i64 0, .int .i64 bw] 59)).alloc (Obj.cells #[.int .i64 ci, .int .i64 cw] 59)).alloc (Obj.cells #[.int .i64 0, .int .i64 0] 59)).cell? ⟨w.heap.size + 4, 1, none⟩ = some (.int .i64 0) := by go_simp
  have f0 : (((((w.alloc (Obj.cells #[.int .i64 kind, .int .i64 xa, .int .i64 xb, .int .i64 xc, .int .i64 n, .int .i64 m, .int .i64 xi, .int .i64 xw, .string nm] 61)).alloc (Obj.cells #[.int .i64 0, .int .i64 aw] 59)).alloc (Obj.cells #[.int .i64 0, .int .i64 bw] 59)).alloc (Obj.cells #[.int .i64 ci, .int .i64 cw] 59)).alloc (Obj.cells #[.int .i64 0, .int .i64 0] 59)).frozen? ⟨w.heap.size + 4, 0, none⟩ = false := by go_simp
  have f1 : (((((w.alloc (Obj.cells #[.int .i64 kind, .int .i64 xa, .int .i64 xb, .int .i64 xc, .int .i64 n, .int .i64 m, .int .i64 xi, .int .i64 xw, .string nm] 61)).alloc (Obj.cells #[.int .i64 0, .int .i64 aw] 59)).alloc (Obj.cells #[.int .i64 0, .int .i64 bw] 59)).alloc (Obj.cells #[.int .i64 ci, .int .i64 cw] 59)).alloc (Obj.cells #[.int .i64 0, .int .i64 0] 59)).frozen? ⟨w.heap.size + 4, 1, none⟩ = false := by go_simp
  generalize (((((w.alloc (Obj.cells #[.int .i64 kind, .int .i64 xa, .int .i64 xb, .int .i64 xc, .int .i64 n, .int .i64 m, .int .i64 xi, .int .i64 xw, .string nm] 61)).alloc (Obj.cells #[.int .i64 0, .int .i64 aw] 59)).alloc (Obj.cells #[.int .i64 0, .int .i64 bw] 59)).alloc (Obj.cells #[.int .i64 ci, .int .i64 cw] 59)).alloc (Obj.cells #[.int .i64 0, .int .i64 0] 59)) = w2 at *
  have f0 := Later.frozen f0 (World.block_lt_of_cell? _ _ r0)
  have f1 := Later.frozen f1 (World.block_lt_of_cell? _ _ r1)
  have b0 := Later.cell b0
  have b4 := Later.cell b4
  have b5 := Later.cell b5
  have b6 := Later.cell b6
  have b7 := Later.cell b7
  have d0 := Later.cell d0
  have d1 := Later.cell d1
  have d2 := Later.cell d2
  have d3 := Later.cell d3
  have d4 := Later.cell d4
  have d5 := Later.cell d5
  have r0 := Later.cell r0
  have r1 := Later.cell r1
  go_wp2_with (first | (go_at_call 55; with_reducible refine (in_same kind 3 5 _).mono ?_; rintro e w' ⟨rfl, rfl⟩; rw [HI.out]) | (go_at_call 55; with_reducible refine (in_same kind 21 28 _).mono ?_; rintro e w' ⟨rfl, rfl⟩; rw [HJ.out]))
  have hfacts : ∀ W, (W = w2 ∨ W = (w2.setCell ⟨w.heap.size + 4, 0, none⟩ (.int .i64 (0))).setCell ⟨w.heap.size + 4, 1, none⟩ (.int .i64 (aw))) → ∀ l : Later W, l.val.cell? ⟨w.heap.size, 0, none⟩ = some (.int .i64 kind) ∧ l.val.cell? ⟨w.heap.size, 4, none⟩ = some (.int .i64 n) ∧ l.val.cell? ⟨w.heap.size, 5, none⟩ = some (.int .i64 m) ∧ l.val.cell? ⟨w.heap.size, 6, none⟩ = some (.int .i64 xi) ∧ l.val.cell? ⟨w.heap.size, 7, none⟩ = some (.int .i64 xw) ∧ l.val.cell? ⟨w.heap.size + 1, 0, none⟩ = some (.int .i64 0) ∧ l.val.cell? ⟨w.heap.size + 1, 1, none⟩ = some (.int .i64 aw) ∧ l.val.cell? ⟨w.heap.size + 2, 0, none⟩ = some (.int .i64 0) ∧ l.val.cell? ⟨w.heap.size + 2, 1, none⟩ = some (.int .i64 bw) ∧ l.val.cell? ⟨w.heap.size + 3, 0, none⟩ = some (.int .i64 ci) ∧ l.val.cell? ⟨w.heap.size + 3, 1, none⟩ = some (.int .i64 cw) := by
    rintro W (rfl | rfl) l
    · exact ⟨b0 l, b4 l, b5 l, b6 l, b7 l, d0 l, d1 l, d2 l, d3 l, d4 l, d5 l⟩
    · have ne : ∀ (b f : Nat) (v : Value), b ≠ w.heap.size + 4 → (∀ l : Later w2, l.val.cell? ⟨b, f, none⟩ = some v) → l.val.cell? ⟨b, f, none⟩ = some v := fun b f v hb h => Later.cell ((World.cell?_setCell_other _ _ _ _ (by intro e; simp only [Addr.mk.injEq] at e; omega)).trans ((World.cell?_setCell_other _ _ _ _ (by intro e; simp only [Addr.mk.injEq] at e; omega)).trans (h ⟨w2, Below.refl _ _⟩))) l
      exact ⟨ne _ _ _ (by omega) b0, ne _ _ _ (by omega) b4, ne _ _ _ (by omega) b5, ne _ _ _ (by omega) b6, ne _ _ _ (by omega) b7, ne _ _ _ (by omega) d0, ne _ _ _ (by omega) d1, ne _ _ _ (by omega) d2, ne _ _ _ (by omega) d3, ne _ _ _ (by omega) d4, ne _ _ _ (by omega) d5⟩
  have HF := Lib.hid hfacts
  clear hfacts
  refine wp_region_store' (w0 := w2) (w1 := (w2.setCell ⟨w.heap.size + 4, 0, none⟩ (.int .i64 (0))).setCell ⟨w.heap.size + 4, 1, none⟩ (.int .i64 (aw))) 4 (by kernel_rfl) (by kernel_rfl) rfl (by kernel_rfl) (LaterC.refl _) ?_
  apply Exists.intro
  refine ⟨fun W hW => ?_, ?_, ?_, ?_⟩
  · have hc := HF.out W hW
    have e0 := fun l => (hc l).1; have e1 := fun l => (hc l).2.1; have e2 := fun l => (hc l).2.2.1; have e3 := fun l => (hc l).2.2.2.1; have e4 := fun l => (hc l).2.2.2.2.1; have e5 := fun l => (hc l).2.2.2.2.2.1; have e6 := fun l => (hc l).2.2.2.2.2.2.1; have e7 := fun l => (hc l).2.2.2.2.2.2.2.1; have e8 := fun l => (hc l).2.2.2.2.2.2.2.2.1; have e9 := fun l => (hc l).2.2.2.2.2.2.2.2.2.1; have e10 := fun l => (hc l).2.2.2.2.2.2.2.2.2.2
    clear hc hW
    simp only [List.take_succ_cons, List.take_zero]
    repeat (go_big_quiet_step (first | (go_at_call 34; exact Calls.later (words_calls _ _))))
    exact wpQuiet_nil rfl
  · rfl
  · intro u
    refine ⟨(u.val.setCell ⟨w.heap.size + 4, 0, none⟩ (.int .i64 (0))).setCell ⟨w.heap.size + 4, 1, none⟩ (.int .i64 (aw)), ?_, u.set2 _ _ _ _⟩
    have s0 := r0 u; have s1 := r1 u; have t0 := f0 u; have t1 := f1 u
    go_simp
  · intro u
    have s0 : u.val.cell? ⟨w.heap.size + 4, 0, none⟩ = some (.int .i64 (0)) := Later.cell ((World.cell?_setCell_other _ _ _ _ (by intro e; simp only [Addr.mk.injEq] at e; omega)).trans (World.cell?_setCell_same _ _ _ (r0 ⟨w2, Below.refl _ _⟩))) u
    have s1 : u.val.cell? ⟨w.heap.size + 4, 1, none⟩ = some (.int .i64 (aw)) := Later.cell (World.cell?_setCell_same _ _ _ ((World.cell?_setCell_other _ _ _ _ (by intro e; simp only [Addr.mk.injEq] at e; omega)).trans (r1 ⟨w2, Below.refl _ _⟩))) u
    have hbel := Lib.hid (u.back ((HB.out.setCell (p := ⟨w.heap.size + 4, 0, none⟩) (by simp) (.int .i64 (0))).setCell (p := ⟨w.heap.size + 4, 1, none⟩) (by simp) (.int .i64 (aw))))
    simp only [List.drop_succ_cons, List.drop_zero]
    clear r0 r1 f0 f1
    go_wp2
    exact bodyPost_ret (v := .tuple #[.agg #[.int .i64 (0), .int .i64 (aw)], .bool false]) (by simp [results, Try.results69, go_sem, s0, s1]) rfl (respost_none HR.out hbel.out)
set_option maxHeartbeats 2000000 in
set_option maxRecDepth 8000 in
theorem sortOf_t_1 (kind n m aw bw ci cw xa xb xc xi xw : Int) (nm : ByteArray) (w : World) (hk : 6 ≤ kind ∧ kind ≤ 20) (h : (aw == bw) = true) :
    Calls Try.prog 69 #[.agg #[.int .i64 kind, .int .i64 xa, .int .i64 xb, .int .i64 xc, .int .i64 n, .int .i64 m, .int .i64 xi, .int .i64 xw, .string nm], .agg #[.int .i64 0, .int .i64 aw], .agg #[.int .i64 0, .int .i64 bw], .agg #[.int .i64 ci, .int .i64 cw]] w (ResPost (resN kind n m 0 aw 0 bw ci cw) w) := by
  have HR := Lib.hid (show (resN kind n m 0 aw 0 bw ci cw) = some (0, aw) by unfold resN; rw [if_neg (by omega), if_neg (by omega), if_neg (by omega), if_neg (by omega), if_neg (by simp), if_neg (by omega), if_neg (by omega), if_neg (by omega), if_neg (by omega), if_neg (by omega)]; rw [if_pos (beq_iff_eq.1 h)]; rw [if_pos hk.2])
  have k33 : (kind == 33) = false := beq_eq_false_iff_ne.2 (by omega)
  have k34 : (kind == 34) = false := beq_eq_false_iff_ne.2 (by omega)
  have k35 : (kind == 35) = false := beq_eq_false_iff_ne.2 (by omega)
  have k36 : (kind == 36) = false := beq_eq_false_iff_ne.2 (by omega)
  have k37 : (kind == 37) = false := beq_eq_false_iff_ne.2 (by omega)
  have k38 : (kind == 38) = false := beq_eq_false_iff_ne.2 (by omega)
  have k21 : (kind == 21) = false := beq_eq_false_iff_ne.2 (by omega)
  have k1 : (kind == 1) = false := beq_eq_false_iff_ne.2 (by omega)
  have k2 : (kind == 2) = false := beq_eq_false_iff_ne.2 (by omega)
  have k30 : (kind == 30) = false := beq_eq_false_iff_ne.2 (by omega)
  have k31 : (kind == 31) = false := beq_eq_false_iff_ne.2 (by omega)
  have k32 : (kind == 32) = false := beq_eq_false_iff_ne.2 (by omega)
  have k29 : (kind == 29) = false := beq_eq_false_iff_ne.2 (by omega)
  have HI := Lib.hid (show inB kind 3 5 = false from inB_no (by omega))
  have HJ := Lib.hid (show inB kind 21 28 = false from inB_no (by omega))
  clear hk
  go_enter Try.func69, Try.ntmps69
  go_upto_region 1 with fail
  have HB := Lib.hid (show Below w.heap.size w (((((w.alloc (Obj.cells #[.int .i64 kind, .int .i64 xa, .int .i64 xb, .int .i64 xc, .int .i64 n, .int .i64 m, .int .i64 xi, .int .i64 xw, .string nm] 61)).alloc (Obj.cells #[.int .i64 0, .int .i64 aw] 59)).alloc (Obj.cells #[.int .i64 0, .int .i64 bw] 59)).alloc (Obj.cells #[.int .i64 ci, .int .i64 cw] 59)).alloc (Obj.cells #[.int .i64 0, .int .i64 0] 59)) from by repeat (first | exact Below.refl _ _ | refine Below.alloc ?_ (by first | (simp; done) | (simp; omega)) _))
  have b0 : (((((w.alloc (Obj.cells #[.int .i64 kind, .int .i64 xa, .int .i64 xb, .int .i64 xc, .int .i64 n, .int .i64 m, .int .i64 xi, .int .i64 xw, .string nm] 61)).alloc (Obj.cells #[.int .i64 0, .int .i64 aw] 59)).alloc (Obj.cells #[.int .i64 0, .int .i64 bw] 59)).alloc (Obj.cells #[.int .i64 ci, .int .i64 cw] 59)).alloc (Obj.cells #[.int .i64 0, .int .i64 0] 59)).cell? ⟨w.heap.size, 0, none⟩ = some (.int .i64 kind) := by go_simp
  have b4 : (((((w.alloc (Obj.cells #[.int .i64 kind, .int .i64 xa, .int .i64 xb, .int .i64 xc, .int .i64 n, .int .i64 m, .int .i64 xi, .int .i64 xw, .string nm] 61)).alloc (Obj.cells #[.int .i64 0, .int .i64 aw] 59)).alloc (Obj.cells #[.int .i64 0, .int .i64 bw] 59)).alloc (Obj.cells #[.int .i64 ci, .int .i64 cw] 59)).alloc (Obj.cells #[.int .i64 0, .int .i64 0] 59)).cell? ⟨w.heap.size, 4, none⟩ = some (.int .i64 n) := by go_simp
  have b5 : (((((w.alloc (Obj.cells #[.int .i64 kind, .int .i64 xa, .int .i64 xb, .int .i64 xc, .int .i64 n, .int .i64 m, .int .i64 xi, .int .i64 xw, .string nm] 61)).alloc (Obj.cells #[.int .i64 0, .int .i64 aw] 59)).alloc (Obj.cells #[.int .i64 0, .int .i64 bw] 59)).alloc (Obj.cells #[.int .i64 ci, .int .i64 cw] 59)).alloc (Obj.cells #[.int .i64 0, .int .i64 0] 59)).cell? ⟨w.heap.size, 5, none⟩ = some (.int .i64 m) := by go_simp
  have b6 : (((((w.alloc (Obj.cells #[.int .i64 kind, .int .i64 xa, .int .i64 xb, .int .i64 xc, .int .i64 n, .int .i64 m, .int .i64 xi, .int .i64 xw, .string nm] 61)).alloc (Obj.cells #[.int .i64 0, .int .i64 aw] 59)).alloc (Obj.cells #[.int .i64 0, .int .i64 bw] 59)).alloc (Obj.cells #[.int .i64 ci, .int .i64 cw] 59)).alloc (Obj.cells #[.int .i64 0, .int .i64 0] 59)).cell? ⟨w.heap.size, 6, none⟩ = some (.int .i64 xi) := by go_simp
  have b7 : (((((w.alloc (Obj.cells #[.int .i64 kind, .int .i64 xa, .int .i64 xb, .int .i64 xc, .int .i64 n, .int .i64 m, .int .i64 xi, .int .i64 xw, .string nm] 61)).alloc (Obj.cells #[.int .i64 0, .int .i64 aw] 59)).alloc (Obj.cells #[.int .i64 0, .int .i64 bw] 59)).alloc (Obj.cells #[.int .i64 ci, .int .i64 cw] 59)).alloc (Obj.cells #[.int .i64 0, .int .i64 0] 59)).cell? ⟨w.heap.size, 7, none⟩ = some (.int .i64 xw) := by go_simp
  have d0 : (((((w.alloc (Obj.cells #[.int .i64 kind, .int .i64 xa, .int .i64 xb, .int .i64 xc, .int .i64 n, .int .i64 m, .int .i64 xi, .int .i64 xw, .string nm] 61)).alloc (Obj.cells #[.int .i64 0, .int .i64 aw] 59)).alloc (Obj.cells #[.int .i64 0, .int .i64 bw] 59)).alloc (Obj.cells #[.int .i64 ci, .int .i64 cw] 59)).alloc (Obj.cells #[.int .i64 0, .int .i64 0] 59)).cell? ⟨w.heap.size + 1, 0, none⟩ = some (.int .i64 0) := by go_simp
  have d1 : (((((w.alloc (Obj.cells #[.int .i64 kind, .int .i64 xa, .int .i64 xb, .int .i64 xc, .int .i64 n, .int .i64 m, .int .i64 xi, .int .i64 xw, .string nm] 61)).alloc (Obj.cells #[.int .i64 0, .int .i64 aw] 59)).alloc (Obj.cells #[.int .i64 0, .int .i64 bw] 59)).alloc (Obj.cells #[.int .i64 ci, .int .i64 cw] 59)).alloc (Obj.cells #[.int .i64 0, .int .i64 0] 59)).cell? ⟨w.heap.size + 1, 1, none⟩ = some (.int .i64 aw) := by go_simp
  have d2 : (((((w.alloc (Obj.cells #[.int .i64 kind, .int .i64 xa, .int .i64 xb, .int .i64 xc, .int .i64 n, .int .i64 m, .int .i64 xi, .int .i64 xw, .string nm] 61)).alloc (Obj.cells #[.int .i64 0, .int .i64 aw] 59)).alloc (Obj.cells #[.int .i64 0, .int .i64 bw] 59)).alloc (Obj.cells #[.int .i64 ci, .int .i64 cw] 59)).alloc (Obj.cells #[.int .i64 0, .int .i64 0] 59)).cell? ⟨w.heap.size + 2, 0, none⟩ = some (.int .i64 0) := by go_simp
  have d3 : (((((w.alloc (Obj.cells #[.int .i64 kind, .int .i64 xa, .int .i64 xb, .int .i64 xc, .int .i64 n, .int .i64 m, .int .i64 xi, .int .i64 xw, .string nm] 61)).alloc (Obj.cells #[.int .i64 0, .int .i64 aw] 59)).alloc (Obj.cells #[.int .i64 0, .int .i64 bw] 59)).alloc (Obj.cells #[.int .i64 ci, .int .i64 cw] 59)).alloc (Obj.cells #[.int .i64 0, .int .i64 0] 59)).cell? ⟨w.heap.size + 2, 1, none⟩ = some (.int .i64 bw) := by go_simp
  have d4 : (((((w.alloc (Obj.cells #[.int .i64 kind, .int .i64 xa, .int .i64 xb, .int .i64 xc, .int .i64 n, .int .i64 m, .int .i64 xi, .int .i64 xw, .string nm] 61)).alloc (Obj.cells #[.int .i64 0, .int .i64 aw] 59)).alloc (Obj.cells #[.int .i64 0, .int .i64 bw] 59)).alloc (Obj.cells #[.int .i64 ci, .int .i64 cw] 59)).alloc (Obj.cells #[.int .i64 0, .int .i64 0] 59)).cell? ⟨w.heap.size + 3, 0, none⟩ = some (.int .i64 ci) := by go_simp
  have d5 : (((((w.alloc (Obj.cells #[.int .i64 kind, .int .i64 xa, .int .i64 xb, .int .i64 xc, .int .i64 n, .int .i64 m, .int .i64 xi, .int .i64 xw, .string nm] 61)).alloc (Obj.cells #[.int .i64 0, .int .i64 aw] 59)).alloc (Obj.cells #[.int .i64 0, .int .i64 bw] 59)).alloc (Obj.cells #[.int .i64 ci, .int .i64 cw] 59)).alloc (Obj.cells #[.int .i64 0, .int .i64 0] 59)).cell? ⟨w.heap.size + 3, 1, none⟩ = some (.int .i64 cw) := by go_simp
  have r0 : (((((w.alloc (Obj.cells #[.int .i64 kind, .int .i64 xa, .int .i64 xb, .int .i64 xc, .int .i64 n, .int .i64 m, .int .i64 xi, .int .i64 xw, .string nm] 61)).alloc (Obj.cells #[.int .i64 0, .int .i64 aw] 59)).alloc (Obj.cells #[.int .i64 0, .int .i64 bw] 59)).alloc (Obj.cells #[.int .i64 ci, .int .i64 cw] 59)).alloc (Obj.cells #[.int .i64 0, .int .i64 0] 59)).cell? ⟨w.heap.size + 4, 0, none⟩ = some (.int .i64 0) := by go_simp
  have r1 : (((((w.alloc (Obj.cells #[.int .i64 kind, .int .i64 xa, .int .i64 xb, .int .i64 xc, .int .i64 n, .int .i64 m, .int .i64 xi, .int .i64 xw, .string nm] 61)).alloc (Obj.cells #[.int .i64 0, .int .i64 aw] 59)).alloc (Obj.cells #[.int .i64 0, .int .i64 bw] 59)).alloc (Obj.cells #[.int .i64 ci, .int .i64 cw] 59)).alloc (Obj.cells #[.int .i64 0, .int .i64 0] 59)).cell? ⟨w.heap.size + 4, 1, none⟩ = some (.int .i64 0) := by go_simp
  have f0 : (((((w.alloc (Obj.cells #[.int .i64 kind, .int .i64 xa, .int .i64 xb, .int .i64 xc, .int .i64 n, .int .i64 m, .int .i64 xi, .int .i64 xw, .string nm] 61)).alloc (Obj.cells #[.int .i64 0, .int .i64 aw] 59)).alloc (Obj.cells #[.int .i64 0, .int .i64 bw] 59)).alloc (Obj.cells #[.int .i64 ci, .int .i64 cw] 59)).alloc (Obj.cells #[.int .i64 0, .int .i64 0] 59)).frozen? ⟨w.heap.size + 4, 0, none⟩ = false := by go_simp
  have f1 : (((((w.alloc (Obj.cells #[.int .i64 kind, .int .i64 xa, .int .i64 xb, .int .i64 xc, .int .i64 n, .int .i64 m, .int .i64 xi, .int .i64 xw, .string nm] 61)).alloc (Obj.cells #[.int .i64 0, .int .i64 aw] 59)).alloc (Obj.cells #[.int .i64 0, .int .i64 bw] 59)).alloc (Obj.cells #[.int .i64 ci, .int .i64 cw] 59)).alloc (Obj.cells #[.int .i64 0, .int .i64 0] 59)).frozen? ⟨w.heap.size + 4, 1, none⟩ = false := by go_simp
  generalize (((((w.alloc (Obj.cells #[.int .i64 kind, .int .i64 xa, .int .i64 xb, .int .i64 xc, .int .i64 n, .int .i64 m, .int .i64 xi, .int .i64 xw, .string nm] 61)).alloc (Obj.cells #[.int .i64 0, .int .i64 aw] 59)).alloc (Obj.cells #[.int .i64 0, .int .i64 bw] 59)).alloc (Obj.cells #[.int .i64 ci, .int .i64 cw] 59)).alloc (Obj.cells #[.int .i64 0, .int .i64 0] 59)) = w2 at *
  have f0 := Later.frozen f0 (World.block_lt_of_cell? _ _ r0)
  have f1 := Later.frozen f1 (World.block_lt_of_cell? _ _ r1)
  have b0 := Later.cell b0
  have b4 := Later.cell b4
  have b5 := Later.cell b5
  have b6 := Later.cell b6
  have b7 := Later.cell b7
  have d0 := Later.cell d0
  have d1 := Later.cell d1
  have d2 := Later.cell d2
  have d3 := Later.cell d3
  have d4 := Later.cell d4
  have d5 := Later.cell d5
  have r0 := Later.cell r0
  have r1 := Later.cell r1
  go_wp2_with (first | (go_at_call 55; with_reducible refine (in_same kind 3 5 _).mono ?_; rintro e w' ⟨rfl, rfl⟩; rw [HI.out]) | (go_at_call 55; with_reducible refine (in_same kind 21 28 _).mono ?_; rintro e w' ⟨rfl, rfl⟩; rw [HJ.out]))
  have hfacts : ∀ W, (W = w2 ∨ W = (w2.setCell ⟨w.heap.size + 4, 0, none⟩ (.int .i64 (0))).setCell ⟨w.heap.size + 4, 1, none⟩ (.int .i64 (aw))) → ∀ l : Later W, l.val.cell? ⟨w.heap.size, 0, none⟩ = some (.int .i64 kind) ∧ l.val.cell? ⟨w.heap.size, 4, none⟩ = some (.int .i64 n) ∧ l.val.cell? ⟨w.heap.size, 5, none⟩ = some (.int .i64 m) ∧ l.val.cell? ⟨w.heap.size, 6, none⟩ = some (.int .i64 xi) ∧ l.val.cell? ⟨w.heap.size, 7, none⟩ = some (.int .i64 xw) ∧ l.val.cell? ⟨w.heap.size + 1, 0, none⟩ = some (.int .i64 0) ∧ l.val.cell? ⟨w.heap.size + 1, 1, none⟩ = some (.int .i64 aw) ∧ l.val.cell? ⟨w.heap.size + 2, 0, none⟩ = some (.int .i64 0) ∧ l.val.cell? ⟨w.heap.size + 2, 1, none⟩ = some (.int .i64 bw) ∧ l.val.cell? ⟨w.heap.size + 3, 0, none⟩ = some (.int .i64 ci) ∧ l.val.cell? ⟨w.heap.size + 3, 1, none⟩ = some (.int .i64 cw) := by
    rintro W (rfl | rfl) l
    · exact ⟨b0 l, b4 l, b5 l, b6 l, b7 l, d0 l, d1 l, d2 l, d3 l, d4 l, d5 l⟩
    · have ne : ∀ (b f : Nat) (v : Value), b ≠ w.heap.size + 4 → (∀ l : Later w2, l.val.cell? ⟨b, f, none⟩ = some v) → l.val.cell? ⟨b, f, none⟩ = some v := fun b f v hb h => Later.cell ((World.cell?_setCell_other _ _ _ _ (by intro e; simp only [Addr.mk.injEq] at e; omega)).trans ((World.cell?_setCell_other _ _ _ _ (by intro e; simp only [Addr.mk.injEq] at e; omega)).trans (h ⟨w2, Below.refl _ _⟩))) l
      exact ⟨ne _ _ _ (by omega) b0, ne _ _ _ (by omega) b4, ne _ _ _ (by omega) b5, ne _ _ _ (by omega) b6, ne _ _ _ (by omega) b7, ne _ _ _ (by omega) d0, ne _ _ _ (by omega) d1, ne _ _ _ (by omega) d2, ne _ _ _ (by omega) d3, ne _ _ _ (by omega) d4, ne _ _ _ (by omega) d5⟩
  have HF := Lib.hid hfacts
  clear hfacts
  refine wp_region_store' (w0 := w2) (w1 := (w2.setCell ⟨w.heap.size + 4, 0, none⟩ (.int .i64 (0))).setCell ⟨w.heap.size + 4, 1, none⟩ (.int .i64 (aw))) 4 (by kernel_rfl) (by kernel_rfl) rfl (by kernel_rfl) (LaterC.refl _) ?_
  apply Exists.intro
  refine ⟨fun W hW => ?_, ?_, ?_, ?_⟩
  · have hc := HF.out W hW
    have e0 := fun l => (hc l).1; have e1 := fun l => (hc l).2.1; have e2 := fun l => (hc l).2.2.1; have e3 := fun l => (hc l).2.2.2.1; have e4 := fun l => (hc l).2.2.2.2.1; have e5 := fun l => (hc l).2.2.2.2.2.1; have e6 := fun l => (hc l).2.2.2.2.2.2.1; have e7 := fun l => (hc l).2.2.2.2.2.2.2.1; have e8 := fun l => (hc l).2.2.2.2.2.2.2.2.1; have e9 := fun l => (hc l).2.2.2.2.2.2.2.2.2.1; have e10 := fun l => (hc l).2.2.2.2.2.2.2.2.2.2
    clear hc hW
    simp only [List.take_succ_cons, List.take_zero]
    repeat (go_big_quiet_step (first | (go_at_call 34; exact Calls.later (words_calls _ _))))
    exact wpQuiet_nil rfl
  · rfl
  · intro u
    refine ⟨(u.val.setCell ⟨w.heap.size + 4, 0, none⟩ (.int .i64 (0))).setCell ⟨w.heap.size + 4, 1, none⟩ (.int .i64 (aw)), ?_, u.set2 _ _ _ _⟩
    have s0 := r0 u; have s1 := r1 u; have t0 := f0 u; have t1 := f1 u
    go_simp
  · intro u
    have s0 : u.val.cell? ⟨w.heap.size + 4, 0, none⟩ = some (.int .i64 (0)) := Later.cell ((World.cell?_setCell_other _ _ _ _ (by intro e; simp only [Addr.mk.injEq] at e; omega)).trans (World.cell?_setCell_same _ _ _ (r0 ⟨w2, Below.refl _ _⟩))) u
    have s1 : u.val.cell? ⟨w.heap.size + 4, 1, none⟩ = some (.int .i64 (aw)) := Later.cell (World.cell?_setCell_same _ _ _ ((World.cell?_setCell_other _ _ _ _ (by intro e; simp only [Addr.mk.injEq] at e; omega)).trans (r1 ⟨w2, Below.refl _ _⟩))) u
    have hbel := Lib.hid (u.back ((HB.out.setCell (p := ⟨w.heap.size + 4, 0, none⟩) (by simp) (.int .i64 (0))).setCell (p := ⟨w.heap.size + 4, 1, none⟩) (by simp) (.int .i64 (aw))))
    simp only [List.drop_succ_cons, List.drop_zero]
    clear r0 r1 f0 f1
    go_wp2
    exact bodyPost_ret (v := .tuple #[.agg #[.int .i64 (0), .int .i64 (aw)], .bool true]) (by simp [results, Try.results69, go_sem, s0, s1]) rfl (respost_some HR.out hbel.out)
end Go.Proofs.Ytbiilnehgdhkoaa
