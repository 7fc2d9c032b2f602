import Derived.Test.YtbiilnehgdhkoaaGe
set_option linter.unusedVariables false
set_option linter.unusedSimpArgs false
namespace Go.Proofs.Ytbiilnehgdhkoaa
open Go.RowKit
attribute [local go_sem high] eq_sort
set_option maxHeartbeats 2000000 in
set_option maxRecDepth 8000 in
theorem sortOf_33_0 (n m ai aw bi bw ci cw xa xb xc xi xw : Int) (nm : ByteArray) (w : World) (h0 : (ai == 0) = false) :
    Calls Try.prog 69 #[.agg #[.int .i64 33, .int .i64 xa, .int .i64 xb, .int .i64 xc, .int .i64 n, .int .i64 m, .int .i64 xi, .int .i64 xw, .string nm], .agg #[.int .i64 ai, .int .i64 aw], .agg #[.int .i64 bi, .int .i64 bw], .agg #[.int .i64 ci, .int .i64 cw]] w (ResPost (resN 33 n m ai aw bi bw ci cw) w) := by
  have HR := Lib.hid (show resN 33 n m ai aw bi bw ci cw = none by unfold resN; simp only [h0, Bool.and_false, Bool.false_and, Bool.true_and, Bool.and_true]; rfl)
  go_enter Try.func69, Try.ntmps69
  go_upto_region 1 with fail
  have HB := Lib.hid (show Below w.heap.size w (((((w.alloc (Obj.cells #[.int .i64 33, .int .i64 xa, .int .i64 xb, .int .i64 xc, .int .i64 n, .int .i64 m, .int .i64 xi, .int .i64 xw, .string nm] 61)).alloc (Obj.cells #[.int .i64 ai, .int .i64 aw] 59)).alloc (Obj.cells #[.int .i64 bi, .int .i64 bw] 59)).alloc (Obj.cells #[.int .i64 ci, .int .i64 cw] 59)).alloc (Obj.cells #[.int .i64 0, .int .i64 0] 59)) from by repeat (first | exact Below.refl _ _ | refine Below.alloc ?_ (by first | (simp; done) | (simp; omega)) _))
  have b0 : (((((w.alloc (Obj.cells #[.int .i64 33, .int .i64 xa, .int .i64 xb, .int .i64 xc, .int .i64 n, .int .i64 m, .int .i64 xi, .int .i64 xw, .string nm] 61)).alloc (Obj.cells #[.int .i64 ai, .int .i64 aw] 59)).alloc (Obj.cells #[.int .i64 bi, .int .i64 bw] 59)).alloc (Obj.cells #[.int .i64 ci, .int .i64 cw] 59)).alloc (Obj.cells #[.int .i64 0, .int .i64 0] 59)).cell? ⟨w.heap.size, 0, none⟩ = some (.int .i64 33) := by go_simp
  have b4 : (((((w.alloc (Obj.cells #[.int .i64 33, .int .i64 xa, .int .i64 xb, .int .i64 xc, .int .i64 n, .int .i64 m, .int .i64 xi, .int .i64 xw, .string nm] 61)).alloc (Obj.cells #[.int .i64 ai, .int .i64 aw] 59)).alloc (Obj.cells #[.int .i64 bi, .int .i64 bw] 59)).alloc (Obj.cells #[.int .i64 ci, .int .i64 cw] 59)).alloc (Obj.cells #[.int .i64 0, .int .i64 0] 59)).cell? ⟨w.heap.size, 4, none⟩ = some (.int .i64 n) := by go_simp
  have b5 : (((((w.alloc (Obj.cells #[.int .i64 33, .int .i64 xa, .int .i64 xb, .int .i64 xc, .int .i64 n, .int .i64 m, .int .i64 xi, .int .i64 xw, .string nm] 61)).alloc (Obj.cells #[.int .i64 ai, .int .i64 aw] 59)).alloc (Obj.cells #[.int .i64 bi, .int .i64 bw] 59)).alloc (Obj.cells #[.int .i64 ci, .int .i64 cw] 59)).alloc (Obj.cells #[.int .i64 0, .int .i64 0] 59)).cell? ⟨w.heap.size, 5, none⟩ = some (.int .i64 m) := by go_simp
  have b6 : (((((w.alloc (Obj.cells #[.int .i64 33, .int .i64 xa, .int .i64 xb, .int .i64 xc, .int .i64 n, .int .i64 m, .int .i64 xi, .int .i64 xw, .string nm] 61)).alloc (Obj.cells #[.int .i64 ai, .int .i64 aw] 59)).alloc (Obj.cells #[.int .i64 bi, .int .i64 bw] 59)).alloc (Obj.cells #[.int .i64 ci, .int .i64 cw] 59)).alloc (Obj.cells #[.int .i64 0, .int .i64 0] 59)).cell? ⟨w.heap.size, 6, none⟩ = some (.int .i64 xi) := by go_simp
  have b7 : (((((w.alloc (Obj.cells #[.int .i64 33, .int .i64 xa, .int .i64 xb, .int .i64 xc, .int .i64 n, .int .i64 m, .int .i64 xi, .int .i64 xw, .string nm] 61)).alloc (Obj.cells #[.int .i64 ai, .int .i64 aw] 59)).alloc (Obj.cells #[.int .i64 bi, .int .i64 bw] 59)).alloc (Obj.cells #[.int .i64 ci, .int .i64 cw] 59)).alloc (Obj.cells #[.int .i64 0, .int .i64 0] 59)).cell? ⟨w.heap.size, 7, none⟩ = some (.int .i64 xw) := by go_simp
  have d0 : (((((w.alloc (Obj.cells #[.int .i64 33, .int .i64 xa, .int .i64 xb, .int .i64 xc, .int .i64 n, .int .i64 m, .int .i64 xi, .int .i64 xw, .string nm] 61)).alloc (Obj.cells #[.int .i64 ai, .int .i64 aw] 59)).alloc (Obj.cells #[.int .i64 bi, .int .i64 bw] 59)).alloc (Obj.cells #[.int .i64 ci, .int .i64 cw] 59)).alloc (Obj.cells #[.int .i64 0, .int .i64 0] 59)).cell? ⟨w.heap.size + 1, 0, none⟩ = some (.int .i64 ai) := by go_simp
  have d1 : (((((w.alloc (Obj.cells #[.int .i64 33, .int .i64 xa, .int .i64 xb, .int .i64 xc, .int .i64 n, .int .i64 m, .int .i64 xi, .int .i64 xw, .string nm] 61)).alloc (Obj.cells #[.int .i64 ai, .int .i64 aw] 59)).alloc (Obj.cells #[.int .i64 bi, .int .i64 bw] 59)).alloc (Obj.cells #[.int .i64 ci, .int .i64 cw] 59)).alloc (Obj.cells #[.int .i64 0, .int .i64 0] 59)).cell? ⟨w.heap.size + 1, 1, none⟩ = some (.int .i64 aw) := by go_simp
  have d2 : (((((w.alloc (Obj.cells #[.int .i64 33, .int .i64 xa, .int .i64 xb, .int .i64 xc, .int .i64 n, .int .i64 m, .int .i64 xi, .int .i64 xw, .string nm] 61)).alloc (Obj.cells #[.int .i64 ai, .int .i64 aw] 59)).alloc (Obj.cells #[.int .i64 bi, .int .i64 bw] 59)).alloc (Obj.cells #[.int .i64 ci, .int .i64 cw] 59)).alloc (Obj.cells #[.int .i64 0, .int .i64 0] 59)).cell? ⟨w.heap.size + 2, 0, none⟩ = some (.int .i64 bi) := by go_simp
  have d3 : (((((w.alloc (Obj.cells #[.int .i64 33, .int .i64 xa, .int .i64 xb, .int .i64 xc, .int .i64 n, .int .i64 m, .int .i64 xi, .int .i64 xw, .string nm] 61)).alloc (Obj.cells #[.int .i64 ai, .int .i64 aw] 59)).alloc (Obj.cells #[.int .i64 bi, .int .i64 bw] 59)).alloc (Obj.cells #[.int .i64 ci, .int .i64 cw] 59)).alloc (Obj.cells #[.int .i64 0, .int .i64 0] 59)).cell? ⟨w.heap.size + 2, 1, none⟩ = some (.int .i64 bw) := by go_simp
  have d4 : (((((w.alloc (Obj.cells #[.int .i64 33, .int .i64 xa, .int .i64 xb, .int .i64 xc, .int .i64 n, .int .i64 m, .int .i64 xi, .int .i64 xw, .string nm] 61)).alloc (Obj.cells #[.int .i64 ai, .int .i64 aw] 59)).alloc (Obj.cells #[.int .i64 bi, .int .i64 bw] 59)).alloc (Obj.cells #[.int .i64 ci, .int .i64 cw] 59)).alloc (Obj.cells #[.int .i64 0, .int .i64 0] 59)).cell? ⟨w.heap.size + 3, 0, none⟩ = some (.int .i64 ci) := by go_simp
  have d5 : (((((w.alloc (Obj.cells #[.int .i64 33, .int .i64 xa, .int .i64 xb, .int .i64 xc, .int .i64 n, .int .i64 m, .int .i64 xi, .int .i64 xw, .string nm] 61)).alloc (Obj.cells #[.int .i64 ai, .int .i64 aw] 59)).alloc (Obj.cells #[.int .i64 bi, .int .i64 bw] 59)).alloc (Obj.cells #[.int .i64 ci, .int .i64 cw] 59)).alloc (Obj.cells #[.int .i64 0, .int .i64 0] 59)).cell? ⟨w.heap.size + 3, 1, none⟩ = some (.int .i64 cw) := by go_simp
  have r0 : (((((w.alloc (Obj.cells #[.int .i64 33, .int .i64 xa, .int .i64 xb, .int .i64 xc, .int .i64 n, .int .i64 m, .int .i64 xi, .int .i64 xw, .string nm] 61)).alloc (Obj.cells #[.int .i64 ai, .int .i64 aw] 59)).alloc (Obj.cells #[.int .i64 bi, .int .i64 bw] 59)).alloc (Obj.cells #[.int .i64 ci, .int .i64 cw] 59)).alloc (Obj.cells #[.int .i64 0, .int .i64 0] 59)).cell? ⟨w.heap.size + 4, 0, none⟩ = some (.int .i64 0) := by go_simp
  have r1 : (((((w.alloc (Obj.cells #[.int .i64 33, .int .i64 xa, .int .i64 xb, .int .i64 xc, .int .i64 n, .int .i64 m, .int .i64 xi, .int .i64 xw, .string nm] 61)).alloc (Obj.cells #[.int .i64 ai, .int .i64 aw] 59)).alloc (Obj.cells #[.int .i64 bi, .int .i64 bw] 59)).alloc (Obj.cells #[.int .i64 ci, .int .i64 cw] 59)).alloc (Obj.cells #[.int .i64 0, .int .i64 0] 59)).cell? ⟨w.heap.size + 4, 1, none⟩ = some (.int .i64 0) := by go_simp
  have f0 : (((((w.alloc (Obj.cells #[.int .i64 33, .int .i64 xa, .int .i64 xb, .int .i64 xc, .int .i64 n, .int .i64 m, .int .i64 xi, .int .i64 xw, .string nm] 61)).alloc (Obj.cells #[.int .i64 ai, .int .i64 aw] 59)).alloc (Obj.cells #[.int .i64 bi, .int .i64 bw] 59)).alloc (Obj.cells #[.int .i64 ci, .int .i64 cw] 59)).alloc (Obj.cells #[.int .i64 0, .int .i64 0] 59)).frozen? ⟨w.heap.size + 4, 0, none⟩ = false := by go_simp
  have f1 : (((((w.alloc (Obj.cells #[.int .i64 33, .int .i64 xa, .int .i64 xb, .int .i64 xc, .int .i64 n, .int .i64 m, .int .i64 xi, .int .i64 xw, .string nm] 61)).alloc (Obj.cells #[.int .i64 ai, .int .i64 aw] 59)).alloc (Obj.cells #[.int .i64 bi, .int .i64 bw] 59)).alloc (Obj.cells #[.int .i64 ci, .int .i64 cw] 59)).alloc (Obj.cells #[.int .i64 0, .int .i64 0] 59)).frozen? ⟨w.heap.size + 4, 1, none⟩ = false := by go_simp
  generalize (((((w.alloc (Obj.cells #[.int .i64 33, .int .i64 xa, .int .i64 xb, .int .i64 xc, .int .i64 n, .int .i64 m, .int .i64 xi, .int .i64 xw, .string nm] 61)).alloc (Obj.cells #[.int .i64 ai, .int .i64 aw] 59)).alloc (Obj.cells #[.int .i64 bi, .int .i64 bw] 59)).alloc (Obj.cells #[.int .i64 ci, .int .i64 cw] 59)).alloc (Obj.cells #[.int .i64 0, .int .i64 0] 59)) = w2 at *
  have f0 := Later.frozen f0 (World.block_lt_of_cell? _ _ r0)
  have f1 := Later.frozen f1 (World.block_lt_of_cell? _ _ r1)
  have b0 := Later.cell b0
  have b4 := Later.cell b4
  have b5 := Later.cell b5
  have b6 := Later.cell b6
  have b7 := Later.cell b7
  have d0 := Later.cell d0
  have d1 := Later.cell d1
  have d2 := Later.cell d2
  have d3 := Later.cell d3
  have d4 := Later.cell d4
  have d5 := Later.cell d5
  have r0 := Later.cell r0
  have r1 := Later.cell r1
  go_wp2
  have hfacts : ∀ W, (W = w2 ∨ W = (w2.setCell ⟨w.heap.size + 4, 0, none⟩ (.int .i64 (bi))).setCell ⟨w.heap.size + 4, 1, none⟩ (.int .i64 (bw))) → ∀ l : Later W, l.val.cell? ⟨w.heap.size, 0, none⟩ = some (.int .i64 33) ∧ l.val.cell? ⟨w.heap.size, 4, none⟩ = some (.int .i64 n) ∧ l.val.cell? ⟨w.heap.size, 5, none⟩ = some (.int .i64 m) ∧ l.val.cell? ⟨w.heap.size, 6, none⟩ = some (.int .i64 xi) ∧ l.val.cell? ⟨w.heap.size, 7, none⟩ = some (.int .i64 xw) ∧ l.val.cell? ⟨w.heap.size + 1, 0, none⟩ = some (.int .i64 ai) ∧ l.val.cell? ⟨w.heap.size + 1, 1, none⟩ = some (.int .i64 aw) ∧ l.val.cell? ⟨w.heap.size + 2, 0, none⟩ = some (.int .i64 bi) ∧ l.val.cell? ⟨w.heap.size + 2, 1, none⟩ = some (.int .i64 bw) ∧ l.val.cell? ⟨w.heap.size + 3, 0, none⟩ = some (.int .i64 ci) ∧ l.val.cell? ⟨w.heap.size + 3, 1, none⟩ = some (.int .i64 cw) := by
    rintro W (rfl | rfl) l
    · exact ⟨b0 l, b4 l, b5 l, b6 l, b7 l, d0 l, d1 l, d2 l, d3 l, d4 l, d5 l⟩
    · have ne : ∀ (b f : Nat) (v : Value), b ≠ w.heap.size + 4 → (∀ l : Later w2, l.val.cell? ⟨b, f, none⟩ = some v) → l.val.cell? ⟨b, f, none⟩ = some v := fun b f v hb h => Later.cell ((World.cell?_setCell_other _ _ _ _ (by intro e; simp only [Addr.mk.injEq] at e; omega)).trans ((World.cell?_setCell_other _ _ _ _ (by intro e; simp only [Addr.mk.injEq] at e; omega)).trans (h ⟨w2, Below.refl _ _⟩))) l
      exact ⟨ne _ _ _ (by omega) b0, ne _ _ _ (by omega) b4, ne _ _ _ (by omega) b5, ne _ _ _ (by omega) b6, ne _ _ _ (by omega) b7, ne _ _ _ (by omega) d0, ne _ _ _ (by omega) d1, ne _ _ _ (by omega) d2, ne _ _ _ (by omega) d3, ne _ _ _ (by omega) d4, ne _ _ _ (by omega) d5⟩
  have HF := Lib.hid hfacts
  clear hfacts
  refine wp_region_store' (w0 := w2) (w1 := (w2.setCell ⟨w.heap.size + 4, 0, none⟩ (.int .i64 (bi))).setCell ⟨w.heap.size + 4, 1, none⟩ (.int .i64 (bw))) 9 (by kernel_rfl) (by kernel_rfl) rfl (by kernel_rfl) (LaterC.refl _) ?_
  apply Exists.intro
  refine ⟨fun W hW => ?_, ?_, ?_, ?_⟩
  · have hc := HF.out W hW
    have e0 := fun l => (hc l).1; have e1 := fun l => (hc l).2.1; have e2 := fun l => (hc l).2.2.1; have e3 := fun l => (hc l).2.2.2.1; have e4 := fun l => (hc l).2.2.2.2.1; have e5 := fun l => (hc l).2.2.2.2.2.1; have e6 := fun l => (hc l).2.2.2.2.2.2.1; have e7 := fun l => (hc l).2.2.2.2.2.2.2.1; have e8 := fun l => (hc l).2.2.2.2.2.2.2.2.1; have e9 := fun l => (hc l).2.2.2.2.2.2.2.2.2.1; have e10 := fun l => (hc l).2.2.2.2.2.2.2.2.2.2
    clear hc hW
    simp only [List.take_succ_cons, List.take_zero]
    repeat (go_big_quiet_step (first | (go_at_call 34; exact Calls.later (words_calls _ _))))
    exact wpQuiet_nil rfl
  · rfl
  · intro u
    refine ⟨(u.val.setCell ⟨w.heap.size + 4, 0, none⟩ (.int .i64 (bi))).setCell ⟨w.heap.size + 4, 1, none⟩ (.int .i64 (bw)), ?_, u.set2 _ _ _ _⟩
    have s0 := r0 u; have s1 := r1 u; have t0 := f0 u; have t1 := f1 u
    go_simp
  · intro u
    have s0 : u.val.cell? ⟨w.heap.size + 4, 0, none⟩ = some (.int .i64 (bi)) := Later.cell ((World.cell?_setCell_other _ _ _ _ (by intro e; simp only [Addr.mk.injEq] at e; omega)).trans (World.cell?_setCell_same _ _ _ (r0 ⟨w2, Below.refl _ _⟩))) u
    have s1 : u.val.cell? ⟨w.heap.size + 4, 1, none⟩ = some (.int .i64 (bw)) := Later.cell (World.cell?_setCell_same _ _ _ ((World.cell?_setCell_other _ _ _ _ (by intro e; simp only [Addr.mk.injEq] at e; omega)).trans (r1 ⟨w2, Below.refl _ _⟩))) u
    have hbel := Lib.hid (u.back ((HB.out.setCell (p := ⟨w.heap.size + 4, 0, none⟩) (by simp) (.int .i64 (bi))).setCell (p := ⟨w.heap.size + 4, 1, none⟩) (by simp) (.int .i64 (bw))))
    simp only [List.drop_succ_cons, List.drop_zero]
    clear r0 r1 f0 f1
    go_wp2
    exact bodyPost_ret (v := .tuple #[.agg #[.int .i64 (bi), .int .i64 (bw)], .bool false]) (by simp [results, Try.results69, go_sem, s0, s1]) rfl (respost_none HR.out hbel.out)
set_option maxHeartbeats 2000000 in
set_option maxRecDepth 8000 in
theorem sortOf_33_1 (n m ai aw bi bw ci cw xa xb xc xi xw : Int) (nm : ByteArray) (w : World) (h0 : (ai == 0) = true) (h1 : (aw == 1) = false) :
    Calls Try.prog 69 #[.agg #[.int .i64 33, .int .i64 xa, .int .i64 xb, .int .i64 xc, .int .i64 n, .int .i64 m, .int .i64 xi, .int .i64 xw, .string nm], .agg #[.int .i64 ai, .int .i64 aw], .agg #[.int .i64 bi, .int .i64 bw], .agg #[.int .i64 ci, .int .i64 cw]] w (ResPost (resN 33 n m ai aw bi bw ci cw) w) := by
  have HR := Lib.hid (show resN 33 n m ai aw bi bw ci cw = none by unfold resN; simp only [h0, h1, Bool.and_false, Bool.false_and, Bool.true_and, Bool.and_true]; rfl)
  go_enter Try.func69, Try.ntmps69
  go_upto_region 1 with fail
  have HB := Lib.hid (show Below w.heap.size w (((((w.alloc (Obj.cells #[.int .i64 33, .int .i64 xa, .int .i64 xb, .int .i64 xc, .int .i64 n, .int .i64 m, .int .i64 xi, .int .i64 xw, .string nm] 61)).alloc (Obj.cells #[.int .i64 ai, .int .i64 aw] 59)).alloc (Obj.cells #[.int .i64 bi, .int .i64 bw] 59)).alloc (Obj.cells #[.int .i64 ci, .int .i64 cw] 59)).alloc (Obj.cells #[.int .i64 0, .int .i64 0] 59)) from by repeat (first | exact Below.refl _ _ | refine Below.alloc ?_ (by first | (simp; done) | (simp; omega)) _))
  have b0 : (((((w.alloc (Obj.cells #[.int .i64 33, .int .i64 xa, .int .i64 xb, .int .i64 xc, .int .i64 n, .int .i64 m, .int .i64 xi, .int .i64 xw, .string nm] 61)).alloc (Obj.cells #[.int .i64 ai, .int .i64 aw] 59)).alloc (Obj.cells #[.int .i64 bi, .int .i64 bw] 59)).alloc (Obj.cells #[.int .i64 ci, .int .i64 cw] 59)).alloc (Obj.cells #[.int .i64 0, .int .i64 0] 59)).cell? ⟨w.heap.size, 0, none⟩ = some (.int .i64 33) := by go_simp
  have b4 : (((((w.alloc (Obj.cells #[.int .i64 33, .int .i64 xa, .int .i64 xb, .int .i64 xc, .int .i64 n, .int .i64 m, .int .i64 xi, .int .i64 xw, .string nm] 61)).alloc (Obj.cells #[.int .i64 ai, .int .i64 aw] 59)).alloc (Obj.cells #[.int .i64 bi, .int .i64 bw] 59)).alloc (Obj.cells #[.int .i64 ci, .int .i64 cw] 59)).alloc (Obj.cells #[.int .i64 0, .int .i64 0] 59)).cell? ⟨w.heap.size, 4, none⟩ = some (.int .i64 n) := by go_simp
  have b5 : (((((w.alloc (Obj.cells #[.int .i64 33, .int .i64 xa, .int .i64 xb, .int .i64 xc, .int .i64 n, .int .i64 m, .int .i64 xi, .int .i64 xw, .string nm] 61)).alloc (Obj.cells #[.int .i64 ai, .int .i64 aw] 59)).alloc (Obj.cells #[.int .i64 bi, .int .i64 bw] 59)).alloc (Obj.cells #[.int .i64 ci, .int .i64 cw] 59)).alloc (Obj.cells #[.int .i64 0, .int .i64 0] 59)).cell? ⟨w.heap.size, 5, none⟩ = some (.int .i64 m) := by go_simp
  have b6 : (((((w.alloc (Obj.cells #[.int .i64 33, .int .i64 xa, .int .i64 xb, .int .i64 xc, .int .i64 n, .int .i64 m, .int .i64 xi, .int .i64 xw, .string nm] 61)).alloc (Obj.cells #[.int .i64 ai, .int .i64 aw] 59)).alloc (Obj.cells #[.int .i64 bi, .int .i64 bw] 59)).alloc (Obj.cells #[.int .i64 ci, .int .i64 cw] 59)).alloc (Obj.cells #[.int .i64 0, .int .i64 0] 59)).cell? ⟨w.heap.size, 6, none⟩ = some (.int .i64 xi) := by go_simp
  have b7 : (((((w.alloc (Obj.cells #[.int .i64 33, .int .i64 xa, .int .i64 xb, .int .i64 xc, .int .i64 n, .int .i64 m, .int .i64 xi, .int .i64 xw, .string nm] 61)).alloc (Obj.cells #[.int .i64 ai, .int .i64 aw] 59)).alloc (Obj.cells #[.int .i64 bi, .int .i64 bw] 59)).alloc (Obj.cells #[.int .i64 ci, .int .i64 cw] 59)).alloc (Obj.cells #[.int .i64 0, .int .i64 0] 59)).cell? ⟨w.heap.size, 7, none⟩ = some (.int .i64 xw) := by go_simp
  have d0 : (((((w.alloc (Obj.cells #[.int .i64 33, .int .i64 xa, .int .i64 xb, .int .i64 xc, .int .i64 n, .int .i64 m, .int .i64 xi, .int .i64 xw, .string nm] 61)).alloc (Obj.cells #[.int .i64 ai, .int .i64 aw] 59)).alloc (Obj.cells #[.int .i64 bi, .int .i64 bw] 59)).alloc (Obj.cells #[.int .i64 ci, .int .i64 cw] 59)).alloc (Obj.cells #[.int .i64 0, .int .i64 0] 59)).cell? ⟨w.heap.size + 1, 0, none⟩ = some (.int .i64 ai) := by go_simp
  have d1 : (((((w.alloc (Obj.cells #[.int .i64 33, .int .i64 xa, .int .i64 xb, .int .i64 xc, .int .i64 n, .int .i64 m, .int .i64 xi, .int .i64 xw, .string nm] 61)).alloc (Obj.cells #[.int .i64 ai, .int .i64 aw] 59)).alloc (Obj.cells #[.int .i64 bi, .int .i64 bw] 59)).alloc (Obj.cells #[.int .i64 ci, .int .i64 cw] 59)).alloc (Obj.cells #[.int .i64 0, .int .i64 0] 59)).cell? ⟨w.heap.size + 1, 1, none⟩ = some (.int .i64 aw) := by go_simp
  have d2 : (((((w.alloc (Obj.cells #[.int .i64 33, .int .i64 xa, .int .i64 xb, .int .i64 xc, .int .i64 n, .int .i64 m, .int .i64 xi, .int .i64 xw, .string nm] 61)).alloc (Obj.cells #[.int .i64 ai, .int .i64 aw] 59)).alloc (Obj.cells #[.int .i64 bi, .int .i64 bw] 59)).alloc (Obj.cells #[.int .i64 ci, .int .i64 cw] 59)).alloc (Obj.cells #[.int .i64 0, .int .i64 0] 59)).cell? ⟨w.heap.size + 2, 0, none⟩ = some (.int .i64 bi) := by go_simp
  have d3 : (((((w.alloc (Obj.cells #[.int .i64 33, .int .i64 xa, .int .i64 xb, .int .i64 xc, .int .i64 n, .int .i64 m, .int .i64 xi, .int .i64 xw, .string nm] 61)).alloc (Obj.cells #[.int .i64 ai, .int .i64 aw] 59)).alloc (Obj.cells #[.int .i64 bi, .int .i64 bw] 59)).alloc (Obj.cells #[.int .i64 ci, .int .i64 cw] 59)).alloc (Obj.cells #[.int .i64 0, .int .i64 0] 59)).cell? ⟨w.heap.size + 2, 1, none⟩ = some (.int .i64 bw) := by go_simp
  have d4 : (((((w.alloc (Obj.cells #[.int .i64 33, .int .i64 xa, .int .i64 xb, .int .i64 xc, .int .i64 n, .int .i64 m, .int .i64 xi, .int .i64 xw, .string nm] 61)).alloc (Obj.cells #[.int .i64 ai, .int .i64 aw] 59)).alloc (Obj.cells #[.int .i64 bi, .int .i64 bw] 59)).alloc (Obj.cells #[.int .i64 ci, .int .i64 cw] 59)).alloc (Obj.cells #[.int .i64 0, .int .i64 0] 59)).cell? ⟨w.heap.size + 3, 0, none⟩ = some (.int .i64 ci) := by go_simp
  have d5 : (((((w.alloc (Obj.cells #[.int .i64 33, .int .i64 xa, .int .i64 xb, .int .i64 xc, .int .i64 n, .int .i64 m, .int .i64 xi, .int .i64 xw, .string nm] 61)).alloc (Obj.cells #[.int .i64 ai, .int .i64 aw] 59)).alloc (Obj.cells #[.int .i64 bi, .int .i64 bw] 59)).alloc (Obj.cells #[.int .i64 ci, .int .i64 cw] 59)).alloc (Obj.cells #[.int .i64 0, .int .i64 0] 59)).cell? ⟨w.heap.size + 3, 1, none⟩ = some (.int .i64 cw) := by go_simp
  have r0 : (((((w.alloc (Obj.cells #[.int .i64 33, .int .i64 xa, .int .i64 xb, .int .i64 xc, .int .i64 n, .int .i64 m, .int .i64 xi, .int .i64 xw, .string nm] 61)).alloc (Obj.cells #[.int .i64 ai, .int .i64 aw] 59)).alloc (Obj.cells #[.int .i64 bi, .int .i64 bw] 59)).alloc (Obj.cells #[.int .i64 ci, .int .i64 cw] 59)).alloc (Obj.cells #[.int .i64 0, .int .i64 0] 59)).cell? ⟨w.heap.size + 4, 0, none⟩ = some (.int .i64 0) := by go_simp
  have r1 : (((((w.alloc (Obj.cells #[.int .i64 33, .int .i64 xa, .int .i64 xb, .int .i64 xc, .int .i64 n, .int .i64 m, .int .i64 xi, .int .i64 xw, .string nm] 61)).alloc (Obj.cells #[.int .i64 ai, .int .i64 aw] 59)).alloc (Obj.cells #[.int .i64 bi, .int .i64 bw] 59)).alloc (Obj.cells #[.int .i64 ci, .int .i64 cw] 59)).alloc (Obj.cells #[.int .i64 0, .int .i64 0] 59)).cell? ⟨w.heap.size + 4, 1, none⟩ = some (.int .i64 0) := by go_simp
  have f0 : (((((w.alloc (Obj.cells #[.int .i64 33, .int .i64 xa, .int .i64 xb, .int .i64 xc, .int .i64 n, .int .i64 m, .int .i64 xi, .int .i64 xw, .string nm] 61)).alloc (Obj.cells #[.int .i64 ai, .int .i64 aw] 59)).alloc (Obj.cells #[.int .i64 bi, .int .i64 bw] 59)).alloc (Obj.cells #[.int .i64 ci, .int .i64 cw] 59)).alloc (Obj.cells #[.int .i64 0, .int .i64 0] 59)).frozen? ⟨w.heap.size + 4, 0, none⟩ = false := by go_simp
  have f1 : (((((w.alloc (Obj.cells #[.int .i64 33, .int .i64 xa, .int .i64 xb, .int .i64 xc, .int .i64 n, .int .i64 m, .int .i64 xi, .int .i64 xw, .string nm] 61)).alloc (Obj.cells #[.int .i64 ai, .int .i64 aw] 59)).alloc (Obj.cells #[.int .i64 bi, .int .i64 bw] 59)).alloc (Obj.cells #[.int .i64 ci, .int .i64 cw] 59)).alloc (Obj.cells #[.int .i64 0, .int .i64 0] 59)).frozen? ⟨w.heap.size + 4, 1, none⟩ = false := by go_simp
  generalize (((((w.alloc (Obj.cells #[.int .i64 33, .int .i64 xa, .int .i64 xb, .int .i64 xc, .int .i64 n, .int .i64 m, .int .i64 xi, .int .i64 xw, .string nm] 61)).alloc (Obj.cells #[.int .i64 ai, .int .i64 aw] 59)).alloc (Obj.cells #[.int .i64 bi, .int .i64 bw] 59)).alloc (Obj.cells #[.int .i64 ci, .int .i64 cw] 59)).alloc (Obj.cells #[.int .i64 0, .int .i64 0] 59)) = w2 at *
  have f0 := Later.frozen f0 (World.block_lt_of_cell? _ _ r0)
  have f1 := Later.frozen f1 (World.block_lt_of_cell? _ _ r1)
  have b0 := Later.cell b0
  have b4 := Later.cell b4
  have b5 := Later.cell b5
  have b6 := Later.cell b6
  have b7 := Later.cell b7
  have d0 := Later.cell d0
  have d1 := Later.cell d1
  have d2 := Later.cell d2
  have d3 := Later.cell d3
  have d4 := Later.cell d4
  have d5 := Later.cell d5
  have r0 := Later.cell r0
  have r1 := Later.cell r1
  go_wp2
  have hfacts : ∀ W, (W = w2 ∨ W = (w2.setCell ⟨w.heap.size + 4, 0, none⟩ (.int .i64 (bi))).setCell ⟨w.heap.size + 4, 1, none⟩ (.int .i64 (bw))) → ∀ l : Later W, l.val.cell? ⟨w.heap.size, 0, none⟩ = some (.int .i64 33) ∧ l.val.cell? ⟨w.heap.size, 4, none⟩ = some (.int .i64 n) ∧ l.val.cell? ⟨w.heap.size, 5, none⟩ = some (.int .i64 m) ∧ l.val.cell? ⟨w.heap.size, 6, none⟩ = some (.int .i64 xi) ∧ l.val.cell? ⟨w.heap.size, 7, none⟩ = some (.int .i64 xw) ∧ l.val.cell? ⟨w.heap.size + 1, 0, none⟩ = some (.int .i64 ai) ∧ l.val.cell? ⟨w.heap.size + 1, 1, none⟩ = some (.int .i64 aw) ∧ l.val.cell? ⟨w.heap.size + 2, 0, none⟩ = some (.int .i64 bi) ∧ l.val.cell? ⟨w.heap.size + 2, 1, none⟩ = some (.int .i64 bw) ∧ l.val.cell? ⟨w.heap.size + 3, 0, none⟩ = some (.int .i64 ci) ∧ l.val.cell? ⟨w.heap.size + 3, 1, none⟩ = some (.int .i64 cw) := by
    rintro W (rfl | rfl) l
    · exact ⟨b0 l, b4 l, b5 l, b6 l, b7 l, d0 l, d1 l, d2 l, d3 l, d4 l, d5 l⟩
    · have ne : ∀ (b f : Nat) (v : Value), b ≠ w.heap.size + 4 → (∀ l : Later w2, l.val.cell? ⟨b, f, none⟩ = some v) → l.val.cell? ⟨b, f, none⟩ = some v := fun b f v hb h => Later.cell ((World.cell?_setCell_other _ _ _ _ (by intro e; simp only [Addr.mk.injEq] at e; omega)).trans ((World.cell?_setCell_other _ _ _ _ (by intro e; simp only [Addr.mk.injEq] at e; omega)).trans (h ⟨w2, Below.refl _ _⟩))) l
      exact ⟨ne _ _ _ (by omega) b0, ne _ _ _ (by omega) b4, ne _ _ _ (by omega) b5, ne _ _ _ (by omega) b6, ne _ _ _ (by omega) b7, ne _ _ _ (by omega) d0, ne _ _ _ (by omega) d1, ne _ _ _ (by omega) d2, ne _ _ _ (by omega) d3, ne _ _ _ (by omega) d4, ne _ _ _ (by omega) d5⟩
  have HF := Lib.hid hfacts
  clear hfacts
  refine wp_region_store' (w0 := w2) (w1 := (w2.setCell ⟨w.heap.size + 4, 0, none⟩ (.int .i64 (bi))).setCell ⟨w.heap.size + 4, 1, none⟩ (.int .i64 (bw))) 9 (by kernel_rfl) (by kernel_rfl) rfl (by kernel_rfl) (LaterC.refl _) ?_
  apply Exists.intro
  refine ⟨fun W hW => ?_, ?_, ?_, ?_⟩
  · have hc := HF.out W hW
    have e0 := fun l => (hc l).1; have e1 := fun l => (hc l).2.1; have e2 := fun l => (hc l).2.2.1; have e3 := fun l => (hc l).2.2.2.1; have e4 := fun l => (hc l).2.2.2.2.1; have e5 := fun l => (hc l).2.2.2.2.2.1; have e6 := fun l => (hc l).2.2.2.2.2.2.1; have e7 := fun l => (hc l).2.2.2.2.2.2.2.1; have e8 := fun l => (hc l).2.2.2.2.2.2.2.2.1; have e9 := fun l => (hc l).2.2.2.2.2.2.2.2.2.1; have e10 := fun l => (hc l).2.2.2.2.2.2.2.2.2.2
    clear hc hW
    simp only [List.take_succ_cons, List.take_zero]
    repeat (go_big_quiet_step (first | (go_at_call 34; exact Calls.later (words_calls _ _))))
    exact wpQuiet_nil rfl
  · rfl
  · intro u
    refine ⟨(u.val.setCell ⟨w.heap.size + 4, 0, none⟩ (.int .i64 (bi))).setCell ⟨w.heap.size + 4, 1, none⟩ (.int .i64 (bw)), ?_, u.set2 _ _ _ _⟩
    have s0 := r0 u; have s1 := r1 u; have t0 := f0 u; have t1 := f1 u
    go_simp
  · intro u
    have s0 : u.val.cell? ⟨w.heap.size + 4, 0, none⟩ = some (.int .i64 (bi)) := Later.cell ((World.cell?_setCell_other _ _ _ _ (by intro e; simp only [Addr.mk.injEq] at e; omega)).trans (World.cell?_setCell_same _ _ _ (r0 ⟨w2, Below.refl _ _⟩))) u
    have s1 : u.val.cell? ⟨w.heap.size + 4, 1, none⟩ = some (.int .i64 (bw)) := Later.cell (World.cell?_setCell_same _ _ _ ((World.cell?_setCell_other _ _ _ _ (by intro e; simp only [Addr.mk.injEq] at e; omega)).trans (r1 ⟨w2, Below.refl _ _⟩))) u
    have hbel := Lib.hid (u.back ((HB.out.setCell (p := ⟨w.heap.size + 4, 0, none⟩) (by simp) (.int .i64 (bi))).setCell (p := ⟨w.heap.size + 4, 1, none⟩) (by simp) (.int .i64 (bw))))
    simp only [List.drop_succ_cons, List.drop_zero]
    clear r0 r1 f0 f1
    go_wp2
    exact bodyPost_ret (v := .tuple #[.agg #[.int .i64 (bi), .int .i64 (bw)], .bool false]) (by simp [results, Try.results69, go_sem, s0, s1]) rfl (respost_none HR.out hbel.out)
set_option maxHeartbeats 2000000 in
set_option maxRecDepth 8000 in
theorem sortOf_33_2 (n m ai aw bi bw ci cw xa xb xc xi xw : Int) (nm : ByteArray) (w : World) (h0 : (ai == 0) = true) (h1 : (aw == 1) = true) (h2 : (bi == ci) = false) :
    Calls Try.prog 69 #[.agg #[.int .i64 33, .int .i64 xa, .int .i64 xb, .int .i64 xc, .int .i64 n, .int .i64 m, .int .i64 xi, .int .i64 xw, .string nm], .agg #[.int .i64 ai, .int .i64 aw], .agg #[.int .i64 bi, .int .i64 bw], .agg #[.int .i64 ci, .int .i64 cw]] w (ResPost (resN 33 n m ai aw bi bw ci cw) w) := by
  have HR := Lib.hid (show resN 33 n m ai aw bi bw ci cw = none by unfold resN; simp only [h0, h1, h2, Bool.and_false, Bool.false_and, Bool.true_and, Bool.and_true]; rfl)
  go_enter Try.func69, Try.ntmps69
  go_upto_region 1 with fail
  have HB := Lib.hid (show Below w.heap.size w (((((w.alloc (Obj.cells #[.int .i64 33, .int .i64 xa, .int .i64 xb, .int .i64 xc, .int .i64 n, .int .i64 m, .int .i64 xi, .int .i64 xw, .string nm] 61)).alloc (Obj.cells #[.int .i64 ai, .int .i64 aw] 59)).alloc (Obj.cells #[.int .i64 bi, .int .i64 bw] 59)).alloc (Obj.cells #[.int .i64 ci, .int .i64 cw] 59)).alloc (Obj.cells #[.int .i64 0, .int .i64 0] 59)) from by repeat (first | exact Below.refl _ _ | refine Below.alloc ?_ (by first | (simp; done) | (simp; omega)) _))
  have b0 : (((((w.alloc (Obj.cells #[.int .i64 33, .int .i64 xa, .int .i64 xb, .int .i64 xc, .int .i64 n, .int .i64 m, .int .i64 xi, .int .i64 xw, .string nm] 61)).alloc (Obj.cells #[.int .i64 ai, .int .i64 aw] 59)).alloc (Obj.cells #[.int .i64 bi, .int .i64 bw] 59)).alloc (Obj.cells #[.int .i64 ci, .int .i64 cw] 59)).alloc (Obj.cells #[.int .i64 0, .int .i64 0] 59)).cell? ⟨w.heap.size, 0, none⟩ = some (.int .i64 33) := by go_simp
  have b4 : (((((w.alloc (Obj.cells #[.int .i64 33, .int .i64 xa, .int .i64 xb, .int .i64 xc, .int .i64 n, .int .i64 m, .int .i64 xi, .int .i64 xw, .string nm] 61)).alloc (Obj.cells #[.int .i64 ai, .int .i64 aw] 59)).alloc (Obj.cells #[.int .i64 bi, .int .i64 bw] 59)).alloc (Obj.cells #[.int .i64 ci, .int .i64 cw] 59)).alloc (Obj.cells #[.int .i64 0, .int .i64 0] 59)).cell? ⟨w.heap.size, 4, none⟩ = some (.int .i64 n) := by go_simp
  have b5 : (((((w.alloc (Obj.cells #[.int .i64 33, .int .i64 xa, .int .i64 xb, .int .i64 xc, .int .i64 n, .int .i64 m, .int .i64 xi, .int .i64 xw, .string nm] 61)).alloc (Obj.cells #[.int .i64 ai, .int .i64 aw] 59)).alloc (Obj.cells #[.int .i64 bi, .int .i64 bw] 59)).alloc (Obj.cells #[.int .i64 ci, .int .i64 cw] 59)).alloc (Obj.cells #[.int .i64 0, .int .i64 0] 59)).cell? ⟨w.heap.size, 5, none⟩ = some (.int .i64 m) := by go_simp
  have b6 : (((((w.alloc (Obj.cells #[.int .i64 33, .int .i64 xa, .int .i64 xb, .int .i64 xc, .int .i64 n, .int .i64 m, .int .i64 xi, .int .i64 xw, .string nm] 61)).alloc (Obj.cells #[.int .i64 ai, .int .i64 aw] 59)).alloc (Obj.cells #[.int .i64 bi, .int .i64 bw] 59)).alloc (Obj.cells #[.int .i64 ci, .int .i64 cw] 59)).alloc (Obj.cells #[.int .i64 0, .int .i64 0] 59)).cell? ⟨w.heap.size, 6, none⟩ = some (.int .i64 xi) := by go_simp
  have b7 : (((((w.alloc (Obj.cells #[.int .i64 33, .int .i64 xa, .int .i64 xb, .int .i64 xc, .int .i64 n, .int .i64 m, .int .i64 xi, .int .i64 xw, .string nm] 61)).alloc (Obj.cells #[.int .i64 ai, .int .i64 aw] 59)).alloc (Obj.cells #[.int .i64 bi, .int .i64 bw] 59)).alloc (Obj.cells #[.int .i64 ci, .int .i64 cw] 59)).alloc (Obj.cells #[.int .i64 0, .int .i64 0] 59)).cell? ⟨w.heap.size, 7, none⟩ = some (.int .i64 xw) := by go_simp
  have d0 : (((((w.alloc (Obj.cells #[.int .i64 33, .int .i64 xa, .int .i64 xb, .int .i64 xc, .int .i64 n, .int .i64 m, .int .i64 xi, .int .i64 xw, .string nm] 61)).alloc (Obj.cells #[.int .i64 ai, .int .i64 aw] 59)).alloc (Obj.cells #[.int .i64 bi, .int .i64 bw] 59)).alloc (Obj.cells #[.int .i64 ci, .int .i64 cw] 59)).alloc (Obj.cells #[.int .i64 0, .int .i64 0] 59)).cell? ⟨w.heap.size + 1, 0, none⟩ = some (.int .i64 ai) := by go_simp
  have d1 : (((((w.alloc (Obj.cells #[.int .i64 33, .int .i64 xa, .int .i64 xb, .int .i64 xc, .int .i64 n, .int .i64 m, .int .i64 xi, .int .i64 xw, .string nm] 61)).alloc (Obj.cells #[.int .i64 ai, .int .i64 aw] 59)).alloc (Obj.cells #[.int .i64 bi, .int .i64 bw] 59)).alloc (Obj.cells #[.int .i64 ci, .int .i64 cw] 59)).alloc (Obj.cells #[.int .i64 0, .int .i64 0] 59)).cell? ⟨w.heap.size + 1, 1, none⟩ = some (.int .i64 aw) := by go_simp
  have d2 : (((((w.alloc (Obj.cells #[.int .i64 33, .int .i64 xa, .int .i64 xb, .int .i64 xc, .int .i64 n, .int .i64 m, .int .i64 xi, .int .i64 xw, .string nm] 61)).alloc (Obj.cells #[.int .i64 ai, .int .i64 aw] 59)).alloc (Obj.cells #[.int .i64 bi, .int .i64 bw] 59)).alloc (Obj.cells #[.int .i64 ci, .int .i64 cw] 59)).alloc (Obj.cells #[.int .i64 0, .int .i64 0] 59)).cell? ⟨w.heap.size + 2, 0, none⟩ = some (.int .i64 bi) := by go_simp
  have d3 : (((((w.alloc (Obj.cells #[.int .i64 33, .int .i64 xa, .int .i64 xb, .int .i64 xc, .int .i64 n, .int .i64 m, .int .i64 xi, .int .i64 xw, .string nm] 61)).alloc (Obj.cells #[.int .i64 ai, .int .i64 aw] 59)).alloc (Obj.cells #[.int .i64 bi, .int .i64 bw] 59)).alloc (Obj.cells #[.int .i64 ci, .int .i64 cw] 59)).alloc (Obj.cells #[.int .i64 0, .int .i64 0] 59)).cell? ⟨w.heap.size + 2, 1, none⟩ = some (.int .i64 bw) := by go_simp
  have d4 : (((((w.alloc (Obj.cells #[.int .i64 33, .int .i64 xa, .int .i64 xb, .int .i64 xc, .int .i64 n, .int .i64 m, .int .i64 xi, .int .i64 xw, .string nm] 61)).alloc (Obj.cells #[.int .i64 ai, .int .i64 aw] 59)).alloc (Obj.cells #[.int .i64 bi, .int .i64 bw] 59)).alloc (Obj.cells #[.int .i64 ci, .int .i64 cw] 59)).alloc (Obj.cells #[.int .i64 0, .int .i64 0] 59)).cell? ⟨w.heap.size + 3, 0, none⟩ = some (.int .i64 ci) := by go_simp
  have d5 : (((((w.alloc (Obj.cells #[.int .i64 33, .int .i64 xa, .int .i64 xb, .int .i64 xc, .int .i64 n, .int .i64 m, .int .i64 xi, .int .i64 xw, .string nm] 61)).alloc (Obj.cells #[.int .i64 ai, .int .i64 aw] 59)).alloc (Obj.cells #[.int .i64 bi, .int .i64 bw] 59)).alloc (Obj.cells #[.int .i64 ci, .int .i64 cw] 59)).alloc (Obj.cells #[.int .i64 0, .int .i64 0] 59)).cell? ⟨w.heap.size + 3, 1, none⟩ = some (.int .i64 cw) := by go_simp
  have r0 : (((((w.alloc (Obj.cells #[.int .i64 33, .int .i64 xa, .int .i64 xb, .int .i64 xc, .int .i64 n, .int .i64 m, .int .i64 xi, .int .i64 xw, .string nm] 61)).alloc (Obj.cells #[.int .i64 ai, .int .i64 aw] 59)).alloc (Obj.cells #[.int .i64 bi, .int .i64 bw] 59)).alloc (Obj.cells #[.int .i64 ci, .int .i64 cw] 59)).alloc (Obj.cells #[.int .i64 0, .int .i64 0] 59)).cell? ⟨w.heap.size + 4, 0, none⟩ = some (.int .i64 0) := by go_simp
  have r1 : (((((w.alloc (Obj.cells #[.int .i64 33, .int .i64 xa, .int .i64 xb, .int .i64 xc, .int .i64 n, .int .i64 m, .int .i64 xi, .int .i64 xw, .string nm] 61)).alloc (Obj.cells #[.int .i64 ai, .int .i64 aw] 59)).alloc (Obj.cells #[.int .i64 bi, .int .i64 bw] 59)).alloc (Obj.cells #[.int .i64 ci, .int .i64 cw] 59)).alloc (Obj.cells #[.int .i64 0, .int .i64 0] 59)).cell? ⟨w.heap.size + 4, 1, none⟩ = some (.int .i64 0) := by go_simp
  have f0 : (((((w.alloc (Obj.cells #[.int .i64 33, .int .i64 xa, .int .i64 xb, .int .i64 xc, .int .i64 n, .int .i64 m, .int .i64 xi, .int .i64 xw, .string nm] 61)).alloc (Obj.cells #[.int .i64 ai, .int .i64 aw] 59)).alloc (Obj.cells #[.int .i64 bi, .int .i64 bw] 59)).alloc (Obj.cells #[.int .i64 ci, .int .i64 cw] 59)).alloc (Obj.cells #[.int .i64 0, .int .i64 0] 59)).frozen? ⟨w.heap.size + 4, 0, none⟩ = false := by go_simp
  have f1 : (((((w.alloc (Obj.cells #[.int .i64 33, .int .i64 xa, .int .i64 xb, .int .i64 xc, .int .i64 n, .int .i64 m, .int .i64 xi, .int .i64 xw, .string nm] 61)).alloc (Obj.cells #[.int .i64 ai, .int .i64 aw] 59)).alloc (Obj.cells #[.int .i64 bi, .int .i64 bw] 59)).alloc (Obj.cells #[.int .i64 ci, .int .i64 cw] 59)).alloc (Obj.cells #[.int .i64 0, .int .i64 0] 59)).frozen? ⟨w.heap.size + 4, 1, none⟩ = false := by go_simp
  generalize (((((w.alloc (Obj.cells #[.int .i64 33, .int .i64 xa, .int .i64 xb, .int .i64 xc, .int .i64 n, .int .i64 m, .int .i64 xi, .int .i64 xw, .string nm] 61)).alloc (Obj.cells #[.int .i64 ai, .int .i64 aw] 59)).alloc (Obj.cells #[.int .i64 bi, .int .i64 bw] 59)).alloc (Obj.cells #[.int .i64 ci, .int .i64 cw] 59)).alloc (Obj.cells #[.int .i64 0, .int .i64 0] 59)) = w2 at *
  have f0 := Later.frozen f0 (World.block_lt_of_cell? _ _ r0)
  have f1 := Later.frozen f1 (World.block_lt_of_cell? _ _ r1)
  have b0 := Later.cell b0
  have b4 := Later.cell b4
  have b5 := Later.cell b5
  have b6 := Later.cell b6
  have b7 := Later.cell b7
  have d0 := Later.cell d0
  have d1 := Later.cell d1
  have d2 := Later.cell d2
  have d3 := Later.cell d3
  have d4 := Later.cell d4
  have d5 := Later.cell d5
  have r0 := Later.cell r0
  have r1 := Later.cell r1
  go_wp2
  have hfacts : ∀ W, (W = w2 ∨ W = (w2.setCell ⟨w.heap.size + 4, 0, none⟩ (.int .i64 (bi))).setCell ⟨w.heap.size + 4, 1, none⟩ (.int .i64 (bw))) → ∀ l : Later W, l.val.cell? ⟨w.heap.size, 0, none⟩ = some (.int .i64 33) ∧ l.val.cell? ⟨w.heap.size, 4, none⟩ = some (.int .i64 n) ∧ l.val.cell? ⟨w.heap.size, 5, none⟩ = some (.int .i64 m) ∧ l.val.cell? ⟨w.heap.size, 6, none⟩ = some (.int .i64 xi) ∧ l.val.cell? ⟨w.heap.size, 7, none⟩ = some (.int .i64 xw) ∧ l.val.cell? ⟨w.heap.size + 1, 0, none⟩ = some (.int .i64 ai) ∧ l.val.cell? ⟨w.heap.size + 1, 1, none⟩ = some (.int .i64 aw) ∧ l.val.cell? ⟨w.heap.size + 2, 0, none⟩ = some (.int .i64 bi) ∧ l.val.cell? ⟨w.heap.size + 2, 1, none⟩ = some (.int .i64 bw) ∧ l.val.cell? ⟨w.heap.size + 3, 0, none⟩ = some (.int .i64 ci) ∧ l.val.cell? ⟨w.heap.size + 3, 1, none⟩ = some (.int .i64 cw) := by
    rintro W (rfl | rfl) l
    · exact ⟨b0 l, b4 l, b5 l, b6 l, b7 l, d0 l, d1 l, d2 l, d3 l, d4 l, d5 l⟩
    · have ne : ∀ (b f : Nat) (v : Value), b ≠ w.heap.size + 4 → (∀ l : Later w2, l.val.cell? ⟨b, f, none⟩ = some v) → l.val.cell? ⟨b, f, none⟩ = some v := fun b f v hb h => Later.cell ((World.cell?_setCell_other _ _ _ _ (by intro e; simp only [Addr.mk.injEq] at e; omega)).trans ((World.cell?_setCell_other _ _ _ _ (by intro e; simp only [Addr.mk.injEq] at e; omega)).trans (h ⟨w2, Below.refl _ _⟩))) l
      exact ⟨ne _ _ _ (by omega) b0, ne _ _ _ (by omega) b4, ne _ _ _ (by omega) b5, ne _ _ _ (by omega) b6, ne _ _ _ (by omega) b7, ne _ _ _ (by omega) d0, ne _ _ _ (by omega) d1, ne _ _ _ (by omega) d2, ne _ _ _ (by omega) d3, ne _ _ _ (by omega) d4, ne _ _ _ (by omega) d5⟩
  have HF := Lib.hid hfacts
  clear hfacts
  refine wp_region_store' (w0 := w2) (w1 := (w2.setCell ⟨w.heap.size + 4, 0, none⟩ (.int .i64 (bi))).setCell ⟨w.heap.size + 4, 1, none⟩ (.int .i64 (bw))) 9 (by kernel_rfl) (by kernel_rfl) rfl (by kernel_rfl) (LaterC.refl _) ?_
  apply Exists.intro
  refine ⟨fun W hW => ?_, ?_, ?_, ?_⟩
  · have hc := HF.out W hW
    have e0 := fun l => (hc l).1; have e1 := fun l => (hc l).2.1; have e2 := fun l => (hc l).2.2.1; have e3 := fun l => (hc l).2.2.2.1; have e4 := fun l => (hc l).2.2.2.2.1; have e5 := fun l => (hc l).2.2.2.2.2.1; have e6 := fun l => (hc l).2.2.2.2.2.2.1; have e7 := fun l => (hc l).2.2.2.2.2.2.2.1; have e8 := fun l => (hc l).2.2.2.2.2.2.2.2.1; have e9 := fun l => (hc l).2.2.2.2.2.2.2.2.2.1; have e10 := fun l => (hc l).2.2.2.2.2.2.2.2.2.2
    clear hc hW
    simp only [List.take_succ_cons, List.take_zero]
    repeat (go_big_quiet_step (first | (go_at_call 34; exact Calls.later (words_calls _ _))))
    exact wpQuiet_nil rfl
  · rfl
  · intro u
    refine ⟨(u.val.setCell ⟨w.heap.size + 4, 0, none⟩ (.int .i64 (bi))).setCell ⟨w.heap.size + 4, 1, none⟩ (.int .i64 (bw)), ?_, u.set2 _ _ _ _⟩
    have s0 := r0 u; have s1 := r1 u; have t0 := f0 u; have t1 := f1 u
    go_simp
  · intro u
    have s0 : u.val.cell? ⟨w.heap.size + 4, 0, none⟩ = some (.int .i64 (bi)) := Later.cell ((World.cell?_setCell_other _ _ _ _ (by intro e; simp only [Addr.mk.injEq] at e; omega)).trans (World.cell?_setCell_same _ _ _ (r0 ⟨w2, Below.refl _ _⟩))) u
    have s1 : u.val.cell? ⟨w.heap.size + 4, 1, none⟩ = some (.int .i64 (bw)) := Later.cell (World.cell?_setCell_same _ _ _ ((World.cell?_setCell_other _ _ _ _ (by intro e; simp only [Addr.mk.injEq] at e; omega)).trans (r1 ⟨w2, Below.refl _ _⟩))) u
    have hbel := Lib.hid (u.back ((HB.out.setCell (p := ⟨w.heap.size + 4, 0, none⟩) (by simp) (.int .i64 (bi))).setCell (p := ⟨w.heap.size + 4, 1, none⟩) (by simp) (.int .i64 (bw))))
    simp only [List.drop_succ_cons, List.drop_zero]
    clear r0 r1 f0 f1
    go_wp2
    exact bodyPost_ret (v := .tuple #[.agg #[.int .i64 (bi), .int .i64 (bw)], .bool false]) (by simp [results, Try.results69, go_sem, s0, s1]) rfl (respost_none HR.out hbel.out)
set_option maxHeartbeats 2000000 in
set_option maxRecDepth 8000 in
theorem sortOf_33_3 (n m ai aw bi bw ci cw xa xb xc xi xw : Int) (nm : ByteArray) (w : World) (h0 : (ai == 0) = true) (h1 : (aw == 1) = true) (h2 : (bi == ci) = true) (h3 : (bw == cw) = false) :
    Calls Try.prog 69 #[.agg #[.int .i64 33, .int .i64 xa, .int .i64 xb, .int .i64 xc, .int .i64 n, .int .i64 m, .int .i64 xi, .int .i64 xw, .string nm], .agg #[.int .i64 ai, .int .i64 aw], .agg #[.int .i64 bi, .int .i64 bw], .agg #[.int .i64 ci, .int .i64 cw]] w (ResPost (resN 33 n m ai aw bi bw ci cw) w) := by
  have HR := Lib.hid (show resN 33 n m ai aw bi bw ci cw = none by unfold resN; simp only [h0, h1, h2, h3, Bool.and_false, Bool.false_and, Bool.true_and, Bool.and_true]; rfl)
  go_enter Try.func69, Try.ntmps69
  go_upto_region 1 with fail
  have HB := Lib.hid (show Below w.heap.size w (((((w.alloc (Obj.cells #[.int .i64 33, .int .i64 xa, .int .i64 xb, .int .i64 xc, .int .i64 n, .int .i64 m, .int .i64 xi, .int .i64 xw, .string nm] 61)).alloc (Obj.cells #[.int .i64 ai, .int .i64 aw] 59)).alloc (Obj.cells #[.int .i64 bi, .int .i64 bw] 59)).alloc (Obj.cells #[.int .i64 ci, .int .i64 cw] 59)).alloc (Obj.cells #[.int .i64 0, .int .i64 0] 59)) from by repeat (first | exact Below.refl _ _ | refine Below.alloc ?_ (by first | (simp; done) | (simp; omega)) _))
  have b0 : (((((w.alloc (Obj.cells #[.int .i64 33, .int .i64 xa, .int .i64 xb, .int .i64 xc, .int .i64 n, .int .i64 m, .int .i64 xi, .int .i64 xw, .string nm] 61)).alloc (Obj.cells #[.int .i64 ai, .int .i64 aw] 59)).alloc (Obj.cells #[.int .i64 bi, .int .i64 bw] 59)).alloc (Obj.cells #[.int .i64 ci, .int .i64 cw] 59)).alloc (Obj.cells #[.int .i64 0, .int .i64 0] 59)).cell? ⟨w.heap.size, 0, none⟩ = some (.int .i64 33) := by go_simp
  have b4 : (((((w.alloc (Obj.cells #[.int .i64 33, .int .i64 xa, .int .i64 xb, .int .i64 xc, .int .i64 n, .int .i64 m, .int .i64 xi, .int .i64 xw, .string nm] 61)).alloc (Obj.cells #[.int .i64 ai, .int .i64 aw] 59)).alloc (Obj.cells #[.int .i64 bi, .int .i64 bw] 59)).alloc (Obj.cells #[.int .i64 ci, .int .i64 cw] 59)).alloc (Obj.cells #[.int .i64 0, .int .i64 0] 59)).cell? ⟨w.heap.size, 4, none⟩ = some (.int .i64 n) := by go_simp
  have b5 : (((((w.alloc (Obj.cells #[.int .i64 33, .int .i64 xa, .int .i64 xb, .int .i64 xc, .int .i64 n, .int .i64 m, .int .i64 xi, .int .i64 xw, .string nm] 61)).alloc (Obj.cells #[.int .i64 ai, .int .i64 aw] 59)).alloc (Obj.cells #[.int .i64 bi, .int .i64 bw] 59)).alloc (Obj.cells #[.int .i64 ci, .int .i64 cw] 59)).alloc (Obj.cells #[.int .i64 0, .int .i64 0] 59)).cell? ⟨w.heap.size, 5, none⟩ = some (.int .i64 m) := by go_simp
  have b6 : (((((w.alloc (Obj.cells #[.int .i64 33, .int .i64 xa, .int .i64 xb, .int .i64 xc, .int .i64 n, .int .i64 m, .int .i64 xi, .int .i64 xw, .string nm] 61)).alloc (Obj.cells #[.int .i64 ai, .int .i64 aw] 59)).alloc (Obj.cells #[.int .i64 bi, .int .i64 bw] 59)).alloc (Obj.cells #[.int .i64 ci, .int .i64 cw] 59)).alloc (Obj.cells #[.int .i64 0, .int .i64 0] 59)).cell? ⟨w.heap.size, 6, none⟩ = some (.int .i64 xi) := by go_simp
  have b7 : (((((w.alloc (Obj.cells #[.int .i64 33, .int .i64 xa, .int .i64 xb, .int .i64 xc, .int .i64 n, .int .i64 m, .int .i64 xi, .int .i64 xw, .string nm] 61)).alloc (Obj.cells #[.int .i64 ai, .int .i64 aw] 59)).alloc (Obj.cells #[.int .i64 bi, .int .i64 bw] 59)).alloc (Obj.cells #[.int .i64 ci, .int .i64 cw] 59)).alloc (Obj.cells #[.int .i64 0, .int .i64 0] 59)).cell? ⟨w.heap.size, 7, none⟩ = some (.int .i64 xw) := by go_simp
  have d0 : (((((w.alloc (Obj.cells #[.int .i64 33, .int .i64 xa, .int .i64 xb, .int .i64 xc, .int .i64 n, .int .i64 m, .int .i64 xi, .int .i64 xw, .string nm] 61)).alloc (Obj.cells #[.int .i64 ai, .int .i64 aw] 59)).alloc (Obj.cells #[.int .i64 bi, .int .i64 bw] 59)).alloc (Obj.cells #[.int .i64 ci, .int .i64 cw] 59)).alloc (Obj.cells #[.int .i64 0, .int .i64 0] 59)).cell? ⟨w.heap.size + 1, 0, none⟩ = some (.int .i64 ai) := by go_simp
  have d1 : (((((w.alloc (Obj.cells #[.int .i64 33, .int .i64 xa, .int .i64 xb, .int .i64 xc, .int .i64 n, .int .i64 m, .int .i64 xi, .int .i64 xw, .string nm] 61)).alloc (Obj.cells #[.int .i64 ai, .int .i64 aw] 59)).alloc (Obj.cells #[.int .i64 bi, .int .i64 bw] 59)).alloc (Obj.cells #[.int .i64 ci, .int .i64 cw] 59)).alloc (Obj.cells #[.int .i64 0, .int .i64 0] 59)).cell? ⟨w.heap.size + 1, 1, none⟩ = some (.int .i64 aw) := by go_simp
  have d2 : (((((w.alloc (Obj.cells #[.int .i64 33, .int .i64 xa, .int .i64 xb, .int .i64 xc, .int .i64 n, .int .i64 m, .int .i64 xi, .int .i64 xw, .string nm] 61)).alloc (Obj.cells #[.int .i64 ai, .int .i64 aw] 59)).alloc (Obj.cells #[.int .i64 bi, .int .i64 bw] 59)).alloc (Obj.cells #[.int .i64 ci, .int .i64 cw] 59)).alloc (Obj.cells #[.int .i64 0, .int .i64 0] 59)).cell? ⟨w.heap.size + 2, 0, none⟩ = some (.int .i64 bi) := by go_simp
  have d3 : (((((w.alloc (Obj.cells #[.int .i64 33, .int .i64 xa, .int .i64 xb, .int .i64 xc, .int .i64 n, .int .i64 m, .int .i64 xi, .int .i64 xw, .string nm] 61)).alloc (Obj.cells #[.int .i64 ai, .int .i64 aw] 59)).alloc (Obj.cells #[.int .i64 bi, .int .i64 bw] 59)).alloc (Obj.cells #[.int .i64 ci, .int .i64 cw] 59)).alloc (Obj.cells #[.int .i64 0, .int .i64 0] 59)).cell? ⟨w.heap.size + 2, 1, none⟩ = some (.int .i64 bw) := by go_simp
  have d4 : (((((w.alloc (Obj.cells #[.int .i64 33, .int .i64 xa, .int .i64 xb, .int .i64 xc, .int .i64 n, .int .i64 m, .int .i64 xi, .int .i64 xw, .string nm] 61)).alloc (Obj.cells #[.int .i64 ai, .int .i64 aw] 59)).alloc (Obj.cells #[.int .i64 bi, .int .i64 bw] 59)).alloc (Obj.cells #[.int .i64 ci, .int .i64 cw] 59)).alloc (Obj.cells #[.int .i64 0, .int .i64 0] 59)).cell? ⟨w.heap.size + 3, 0, none⟩ = some (.int .i64 ci) := by go_simp
  have d5 : (((((w.alloc (Obj.cells #[.int .i64 33, .int .i64 xa, .int .i64 xb, .int .i64 xc, .int .i64 n, .int .i64 m, .int .i64 xi, .int .i64 xw, .string nm] 61)).alloc (Obj.cells #[.int .i64 ai, .int .i64 aw] 59)).alloc (Obj.cells #[.int .i64 bi, .int .i64 bw] 59)).alloc (Obj.cells #[.int .i64 ci, .int .i64 cw] 59)).alloc (Obj.cells #[.int .i64 0, .int .i64 0] 59)).cell? ⟨w.heap.size + 3, 1, none⟩ = some (.int .i64 cw) := by go_simp
  have r0 : (((((w.alloc (Obj.cells #[.int .i64 33, .int .i64 xa, .int .i64 xb, .int .i64 xc, .int .i64 n, .int .i64 m, .int .i64 xi, .int .i64 xw, .string nm] 61)).alloc (Obj.cells #[.int .i64 ai, .int .i64 aw] 59)).alloc (Obj.cells #[.int .i64 bi, .int .i64 bw] 59)).alloc (Obj.cells #[.int .i64 ci, .int .i64 cw] 59)).alloc (Obj.cells #[.int .i64 0, .int .i64 0] 59)).cell? ⟨w.heap.size + 4, 0, none⟩ = some (.int .i64 0) := by go_simp
  have r1 : (((((w.alloc (Obj.cells #[.int .i64 33, .int .i64 xa, .int .i64 xb, .int .i64 xc, .int .i64 n, .int .i64 m, .int .i64 xi, .int .i64 xw, .string nm] 61)).alloc (Obj.cells #[.int .i64 ai, .int .i64 aw] 59)).alloc (Obj.cells #[.int .i64 bi, .int .i64 bw] 59)).alloc (Obj.cells #[.int .i64 ci, .int .i64 cw] 59)).alloc (Obj.cells #[.int .i64 0, .int .i64 0] 59)).cell? ⟨w.heap.size + 4, 1, none⟩ = some (.int .i64 0) := by go_simp
  have f0 : (((((w.alloc (Obj.cells #[.int .i64 33, .int .i64 xa, .int .i64 xb, .int .i64 xc, .int .i64 n, .int .i64 m, .int .i64 xi, .int .i64 xw, .string nm] 61)).alloc (Obj.cells #[.int .i64 ai, .int .i64 aw] 59)).alloc (Obj.cells #[.int .i64 bi, .int .i64 bw] 59)).alloc (Obj.cells #[.int .i64 ci, .int .i64 cw] 59)).alloc (Obj.cells #[.int .i64 0, .int .i64 0] 59)).frozen? ⟨w.heap.size + 4, 0, none⟩ = false := by go_simp
  have f1 : (((((w.alloc (Obj.cells #[.int .i64 33, .int .i64 xa, .int .i64 xb, .int .i64 xc, .int .i64 n, .int .i64 m, .int .i64 xi, .int .i64 xw, .string nm] 61)).alloc (Obj.cells #[.int .i64 ai, .int .i64 aw] 59)).alloc (Obj.cells #[.int .i64 bi, .int .i64 bw] 59)).alloc (Obj.cells #[.int .i64 ci, .int .i64 cw] 59)).alloc (Obj.cells #[.int .i64 0, .int .i64 0] 59)).frozen? ⟨w.heap.size + 4, 1, none⟩ = false := by go_simp
  generalize (((((w.alloc (Obj.cells #[.int .i64 33, .int .i64 xa, .int .i64 xb, .int .i64 xc, .int .i64 n, .int .i64 m, .int .i64 xi, .int .i64 xw, .string nm] 61)).alloc (Obj.cells #[.int .i64 ai, .int .i64 aw] 59)).alloc (Obj.cells #[.int .i64 bi, .int .i64 bw] 59)).alloc (Obj.cells #[.int .i64 ci, .int .i64 cw] 59)).alloc (Obj.cells #[.int .i64 0, .int .i64 0] 59)) = w2 at *
  have f0 := Later.frozen f0 (World.block_lt_of_cell? _ _ r0)
  have f1 := Later.frozen f1 (World.block_lt_of_cell? _ _ r1)
  have b0 := Later.cell b0
  have b4 := Later.cell b4
  have b5 := Later.cell b5
  have b6 := Later.cell b6
  have b7 := Later.cell b7
  have d0 := Later.cell d0
  have d1 := Later.cell d1
  have d2 := Later.cell d2
  have d3 := Later.cell d3
  have d4 := Later.cell d4
  have d5 := Later.cell d5
  have r0 := Later.cell r0
  have r1 := Later.cell r1
  go_wp2
  have hfacts : ∀ W, (W = w2 ∨ W = (w2.setCell ⟨w.heap.size + 4, 0, none⟩ (.int .i64 (bi))).setCell ⟨w.heap.size + 4, 1, none⟩ (.int .i64 (bw))) → ∀ l : Later W, l.val.cell? ⟨w.heap.size, 0, none⟩ = some (.int .i64 33) ∧ l.val.cell? ⟨w.heap.size, 4, none⟩ = some (.int .i64 n) ∧ l.val.cell? ⟨w.heap.size, 5, none⟩ = some (.int .i64 m) ∧ l.val.cell? ⟨w.heap.size, 6, none⟩ = some (.int .i64 xi) ∧ l.val.cell? ⟨w.heap.size, 7, none⟩ = some (.int .i64 xw) ∧ l.val.cell? ⟨w.heap.size + 1, 0, none⟩ = some (.int .i64 ai) ∧ l.val.cell? ⟨w.heap.size + 1, 1, none⟩ = some (.int .i64 aw) ∧ l.val.cell? ⟨w.heap.size + 2, 0, none⟩ = some (.int .i64 bi) ∧ l.val.cell? ⟨w.heap.size + 2, 1, none⟩ = some (.int .i64 bw) ∧ l.val.cell? ⟨w.heap.size + 3, 0, none⟩ = some (.int .i64 ci) ∧ l.val.cell? ⟨w.heap.size + 3, 1, none⟩ = some (.int .i64 cw) := by
    rintro W (rfl | rfl) l
    · exact ⟨b0 l, b4 l, b5 l, b6 l, b7 l, d0 l, d1 l, d2 l, d3 l, d4 l, d5 l⟩
    · have ne : ∀ (b f : Nat) (v : Value), b ≠ w.heap.size + 4 → (∀ l : Later w2, l.val.cell? ⟨b, f, none⟩ = some v) → l.val.cell? ⟨b, f, none⟩ = some v := fun b f v hb h => Later.cell ((World.cell?_setCell_other _ _ _ _ (by intro e; simp only [Addr.mk.injEq] at e; omega)).trans ((World.cell?_setCell_other _ _ _ _ (by intro e; simp only [Addr.mk.injEq] at e; omega)).trans (h ⟨w2, Below.refl _ _⟩))) l
      exact ⟨ne _ _ _ (by omega) b0, ne _ _ _ (by omega) b4, ne _ _ _ (by omega) b5, ne _ _ _ (by omega) b6, ne _ _ _ (by omega) b7, ne _ _ _ (by omega) d0, ne _ _ _ (by omega) d1, ne _ _ _ (by omega) d2, ne _ _ _ (by omega) d3, ne _ _ _ (by omega) d4, ne _ _ _ (by omega) d5⟩
  have HF := Lib.hid hfacts
  clear hfacts
  refine wp_region_store' (w0 := w2) (w1 := (w2.setCell ⟨w.heap.size + 4, 0, none⟩ (.int .i64 (bi))).setCell ⟨w.heap.size + 4, 1, none⟩ (.int .i64 (bw))) 9 (by kernel_rfl) (by kernel_rfl) rfl (by kernel_rfl) (LaterC.refl _) ?_
  apply Exists.intro
  refine ⟨fun W hW => ?_, ?_, ?_, ?_⟩
  · have hc := HF.out W hW
    have e0 := fun l => (hc l).1; have e1 := fun l => (hc l).2.1; have e2 := fun l => (hc l).2.2.1; have e3 := fun l => (hc l).2.2.2.1; have e4 := fun l => (hc l).2.2.2.2.1; have e5 := fun l => (hc l).2.2.2.2.2.1; have e6 := fun l => (hc l).2.2.2.2.2.2.1; have e7 := fun l => (hc l).2.2.2.2.2.2.2.1; have e8 := fun l => (hc l).2.2.2.2.2.2.2.2.1; have e9 := fun l => (hc l).2.2.2.2.2.2.2.2.2.1; have e10 := fun l => (hc l).2.2.2.2.2.2.2.2.2.2
    clear hc hW
    simp only [List.take_succ_cons, List.take_zero]
    repeat (go_big_quiet_step (first | (go_at_call 34; exact Calls.later (words_calls _ _))))
    exact wpQuiet_nil rfl
  · rfl
  · intro u
    refine ⟨(u.val.setCell ⟨w.heap.size + 4, 0, none⟩ (.int .i64 (bi))).setCell ⟨w.heap.size + 4, 1, none⟩ (.int .i64 (bw)), ?_, u.set2 _ _ _ _⟩
    have s0 := r0 u; have s1 := r1 u; have t0 := f0 u; have t1 := f1 u
    go_simp
  · intro u
    have s0 : u.val.cell? ⟨w.heap.size + 4, 0, none⟩ = some (.int .i64 (bi)) := Later.cell ((World.cell?_setCell_other _ _ _ _ (by intro e; simp only [Addr.mk.injEq] at e; omega)).trans (World.cell?_setCell_same _ _ _ (r0 ⟨w2, Below.refl _ _⟩))) u
    have s1 : u.val.cell? ⟨w.heap.size + 4, 1, none⟩ = some (.int .i64 (bw)) := Later.cell (World.cell?_setCell_same _ _ _ ((World.cell?_setCell_other _ _ _ _ (by intro e; simp only [Addr.mk.injEq] at e; omega)).trans (r1 ⟨w2, Below.refl _ _⟩))) u
    have hbel := Lib.hid (u.back ((HB.out.setCell (p := ⟨w.heap.size + 4, 0, none⟩) (by simp) (.int .i64 (bi))).setCell (p := ⟨w.heap.size + 4, 1, none⟩) (by simp) (.int .i64 (bw))))
    simp only [List.drop_succ_cons, List.drop_zero]
    clear r0 r1 f0 f1
    go_wp2
    exact bodyPost_ret (v := .tuple #[.agg #[.int .i64 (bi), .int .i64 (bw)], .bool false]) (by simp [results, Try.results69, go_sem, s0, s1]) rfl (respost_none HR.out hbel.out)
set_option maxHeartbeats 2000000 in
set_option maxRecDepth 8000 in
theorem sortOf_33_4 (n m ai aw bi bw ci cw xa xb xc xi xw : Int) (nm : ByteArray) (w : World) (h0 : (ai == 0) = true) (h1 : (aw == 1) = true) (h2 : (bi == ci) = true) (h3 : (bw == cw) = true) :
    Calls Try.prog 69 #[.agg #[.int .i64 33, .int .i64 xa, .int .i64 xb, .int .i64 xc, .int .i64 n, .int .i64 m, .int .i64 xi, .int .i64 xw, .string nm], .agg #[.int .i64 ai, .int .i64 aw], .agg #[.int .i64 bi, .int .i64 bw], .agg #[.int .i64 ci, .int .i64 cw]] w (ResPost (resN 33 n m ai aw bi bw ci cw) w) := by
  have HR := Lib.hid (show resN 33 n m ai aw bi bw ci cw = some (bi, bw) by unfold resN; simp only [h0, h1, h2, h3]; rfl)
  go_enter Try.func69, Try.ntmps69
  go_upto_region 1 with fail
  have HB := Lib.hid (show Below w.heap.size w (((((w.alloc (Obj.cells #[.int .i64 33, .int .i64 xa, .int .i64 xb, .int .i64 xc, .int .i64 n, .int .i64 m, .int .i64 xi, .int .i64 xw, .string nm] 61)).alloc (Obj.cells #[.int .i64 ai, .int .i64 aw] 59)).alloc (Obj.cells #[.int .i64 bi, .int .i64 bw] 59)).alloc (Obj.cells #[.int .i64 ci, .int .i64 cw] 59)).alloc (Obj.cells #[.int .i64 0, .int .i64 0] 59)) from by repeat (first | exact Below.refl _ _ | refine Below.alloc ?_ (by first | (simp; done) | (simp; omega)) _))
  have b0 : (((((w.alloc (Obj.cells #[.int .i64 33, .int .i64 xa, .int .i64 xb, .int .i64 xc, .int .i64 n, .int .i64 m, .int .i64 xi, .int .i64 xw, .string nm] 61)).alloc (Obj.cells #[.int .i64 ai, .int .i64 aw] 59)).alloc (Obj.cells #[.int .i64 bi, .int .i64 bw] 59)).alloc (Obj.cells #[.int .i64 ci, .int .i64 cw] 59)).alloc (Obj.cells #[.int .i64 0, .int .i64 0] 59)).cell? ⟨w.heap.size, 0, none⟩ = some (.int .i64 33) := by go_simp
  have b4 : (((((w.alloc (Obj.cells #[.int .i64 33, .int .i64 xa, .int .i64 xb, .int .i64 xc, .int .i64 n, .int .i64 m, .int .i64 xi, .int .i64 xw, .string nm] 61)).alloc (Obj.cells #[.int .i64 ai, .int .i64 aw] 59)).alloc (Obj.cells #[.int .i64 bi, .int .i64 bw] 59)).alloc (Obj.cells #[.int .i64 ci, .int .i64 cw] 59)).alloc (Obj.cells #[.int .i64 0, .int .i64 0] 59)).cell? ⟨w.heap.size, 4, none⟩ = some (.int .i64 n) := by go_simp
  have b5 : (((((w.alloc (Obj.cells #[.int .i64 33, .int .i64 xa, .int .i64 xb, .int .i64 xc, .int .i64 n, .int .i64 m, .int .i64 xi, .int .i64 xw, .string nm] 61)).alloc (Obj.cells #[.int .i64 ai, .int .i64 aw] 59)).alloc (Obj.cells #[.int .i64 bi, .int .i64 bw] 59)).alloc (Obj.cells #[.int .i64 ci, .int .i64 cw] 59)).alloc (Obj.cells #[.int .i64 0, .int .i64 0] 59)).cell? ⟨w.heap.size, 5, none⟩ = some (.int .i64 m) := by go_simp
  have b6 : (((((w.alloc (Obj.cells #[.int .i64 33, .int .i64 xa, .int .i64 xb, .int .i64 xc, .int .i64 n, .int .i64 m, .int .i64 xi, .int .i64 xw, .string nm] 61)).alloc (Obj.cells #[.int .i64 ai, .int .i64 aw] 59)).alloc (Obj.cells #[.int .i64 bi, .int .i64 bw] 59)).alloc (Obj.cells #[.int .i64 ci, .int .i64 cw] 59)).alloc (Obj.cells #[.int .i64 0, .int .i64 0] 59)).cell? ⟨w.heap.size, 6, none⟩ = some (.int .i64 xi) := by go_simp
  have b7 : (((((w.alloc (Obj.cells #[.int .i64 33, .int .i64 xa, .int .i64 xb, .int .i64 xc, .int .i64 n, .int .i64 m, .int .i64 xi, .int .i64 xw, .string nm] 61)).alloc (Obj.cells #[.int .i64 ai, .int .i64 aw] 59)).alloc (Obj.cells #[.int .i64 bi, .int .i64 bw] 59)).alloc (Obj.cells #[.int .i64 ci, .int .i64 cw] 59)).alloc (Obj.cells #[.int .i64 0, .int .i64 0] 59)).cell? ⟨w.heap.size, 7, none⟩ = some (.int .i64 xw) := by go_simp
  have d0 : (((((w.alloc (Obj.cells #[.int .i64 33, .int .i64 xa, .int .i64 xb, .int .i64 xc, .int .i64 n, .int .i64 m, .int .i64 xi, .int .i64 xw, .string nm] 61)).alloc (Obj.cells #[.int .i64 ai, .int .i64 aw] 59)).alloc (Obj.cells #[.int .i64 bi, .int .i64 bw] 59)).alloc (Obj.cells #[.int .i64 ci, .int .i64 cw] 59)).alloc (Obj.cells #[.int .i64 0, .int .i64 0] 59)).cell? ⟨w.heap.size + 1, 0, none⟩ = some (.int .i64 ai) := by go_simp
  have d1 : (((((w.alloc (Obj.cells #[.int .i64 33, .int .i64 xa, .int .i64 xb, .int .i64 xc, .int .i64 n, .int .i64 m, .int .i64 xi, .int .i64 xw, .string nm] 61)).alloc (Obj.cells #[.int .i64 ai, .int .i64 aw] 59)).alloc (Obj.cells #[.int .i64 bi, .int .i64 bw] 59)).alloc (Obj.cells #[.int .i64 ci, .int .i64 cw] 59)).alloc (Obj.cells #[.int .i64 0, .int .i64 0] 59)).cell? ⟨w.heap.size + 1, 1, none⟩ = some (.int .i64 aw) := by go_simp
  have d2 : (((((w.alloc (Obj.cells #[.int .i64 33, .int .i64 xa, .int .i64 xb, .int .i64 xc, .int .i64 n, .int .i64 m, .int .i64 xi, .int .i64 xw, .string nm] 61)).alloc (Obj.cells #[.int .i64 ai, .int .i64 aw] 59)).alloc (Obj.cells #[.int .i64 bi, .int .i64 bw] 59)).alloc (Obj.cells #[.int .i64 ci, .int .i64 cw] 59)).alloc (Obj.cells #[.int .i64 0, .int .i64 0] 59)).cell? ⟨w.heap.size + 2, 0, none⟩ = some (.int .i64 bi) := by go_simp
  have d3 : (((((w.alloc (Obj.cells #[.int .i64 33, .int .i64 xa, .int .i64 xb, .int .i64 xc, .int .i64 n, .int .i64 m, .int .i64 xi, .int .i64 xw, .string nm] 61)).alloc (Obj.cells #[.int .i64 ai, .int .i64 aw] 59)).alloc (Obj.cells #[.int .i64 bi, .int .i64 bw] 59)).alloc (Obj.cells #[.int .i64 ci, .int .i64 cw] 59)).alloc (Obj.cells #[.int .i64 0, .int .i64 0] 59)).cell? ⟨w.heap.size + 2, 1, none⟩ = some (.int .i64 bw) := by go_simp
  have d4 : (((((w.alloc (Obj.cells #[.int .i64 33, .int .i64 xa, .int .i64 xb, .int .i64 xc, .int .i64 n, .int .i64 m, .int .i64 xi, .int .i64 xw, .string nm] 61)).alloc (Obj.cells #[.int .i64 ai, .int .i64 aw] 59)).alloc (Obj.cells #[.int .i64 bi, .int .i64 bw] 59)).alloc (Obj.cells #[.int .i64 ci, .int .i64 cw] 59)).alloc (Obj.cells #[.int .i64 0, .int .i64 0] 59)).cell? ⟨w.heap.size + 3, 0, none⟩ = some (.int .i64 ci) := by go_simp
  have d5 : (((((w.alloc (Obj.cells #[.int .i64 33, .int .i64 xa, .int .i64 xb, .int .i64 xc, .int .i64 n, .int .i64 m, .int .i64 xi, .int .i64 xw, .string nm] 61)).alloc (Obj.cells #[.int .i64 ai, .int .i64 aw] 59)).alloc (Obj.cells #[.int .i64 bi, .int .i64 bw] 59)).alloc (Obj.cells #[.int .i64 ci, .int .i64 cw] 59)).alloc (Obj.cells #[.int .i64 0, .int .i64 0] 59)).cell? ⟨w.heap.size + 3, 1, none⟩ = some (.int .i64 cw) := by go_simp
  have r0 : (((((w.alloc (Obj.cells #[.int .i64 33, .int .i64 xa, .int .i64 xb, .int .i64 xc, .int .i64 n, .int .i64 m, .int .i64 xi, .int .i64 xw, .string nm] 61)).alloc (Obj.cells #[.int .i64 ai, .int .i64 aw] 59)).alloc (Obj.cells #[.int .i64 bi, .int .i64 bw] 59)).alloc (Obj.cells #[.int .i64 ci, .int .i64 cw] 59)).alloc (Obj.cells #[.int .i64 0, .int .i64 0] 59)).cell? ⟨w.heap.size + 4, 0, none⟩ = some (.int .i64 0) := by go_simp
  have r1 : (((((w.alloc (Obj.cells #[.int .i64 33, .int .i64 xa, .int .i64 xb, .int .i64 xc, .int .i64 n, .int .i64 m, .int .i64 xi, .int .i64 xw, .string nm] 61)).alloc (Obj.cells #[.int .i64 ai, .int .i64 aw] 59)).alloc (Obj.cells #[.int .i64 bi, .int .i64 bw] 59)).alloc (Obj.cells #[.int .i64 ci, .int .i64 cw] 59)).alloc (Obj.cells #[.int .i64 0, .int .i64 0] 59)).cell? ⟨w.heap.size + 4, 1, none⟩ = some (.int .i64 0) := by go_simp
  have f0 : (((((w.alloc (Obj.cells #[.int .i64 33, .int .i64 xa, .int .i64 xb, .int .i64 xc, .int .i64 n, .int .i64 m, .int .i64 xi, .int .i64 xw, .string nm] 61)).alloc (Obj.cells #[.int .i64 ai, .int .i64 aw] 59)).alloc (Obj.cells #[.int .i64 bi, .int .i64 bw] 59)).alloc (Obj.cells #[.int .i64 ci, .int .i64 cw] 59)).alloc (Obj.cells #[.int .i64 0, .int .i64 0] 59)).frozen? ⟨w.heap.size + 4, 0, none⟩ = false := by go_simp
  have f1 : (((((w.alloc (Obj.cells #[.int .i64 33, .int .i64 xa, .int .i64 xb, .int .i64 xc, .int .i64 n, .int .i64 m, .int .i64 xi, .int .i64 xw, .string nm] 61)).alloc (Obj.cells #[.int .i64 ai, .int .i64 aw] 59)).alloc (Obj.cells #[.int .i64 bi, .int .i64 bw] 59)).alloc (Obj.cells #[.int .i64 ci, .int .i64 cw] 59)).alloc (Obj.cells #[.int .i64 0, .int .i64 0] 59)).frozen? ⟨w.heap.size + 4, 1, none⟩ = false := by go_simp
  generalize (((((w.alloc (Obj.cells #[.int .i64 33, .int .i64 xa, .int .i64 xb, .int .i64 xc, .int .i64 n, .int .i64 m, .int .i64 xi, .int .i64 xw, .string nm] 61)).alloc (Obj.cells #[.int .i64 ai, .int .i64 aw] 59)).alloc (Obj.cells #[.int .i64 bi, .int .i64 bw] 59)).alloc (Obj.cells #[.int .i64 ci, .int .i64 cw] 59)).alloc (Obj.cells #[.int .i64 0, .int .i64 0] 59)) = w2 at *
  have f0 := Later.frozen f0 (World.block_lt_of_cell? _ _ r0)
  have f1 := Later.frozen f1 (World.block_lt_of_cell? _ _ r1)
  have b0 := Later.cell b0
  have b4 := Later.cell b4
  have b5 := Later.cell b5
  have b6 := Later.cell b6
  have b7 := Later.cell b7
  have d0 := Later.cell d0
  have d1 := Later.cell d1
  have d2 := Later.cell d2
  have d3 := Later.cell d3
  have d4 := Later.cell d4
  have d5 := Later.cell d5
  have r0 := Later.cell r0
  have r1 := Later.cell r1
  go_wp2
  have hfacts : ∀ W, (W = w2 ∨ W = (w2.setCell ⟨w.heap.size + 4, 0, none⟩ (.int .i64 (bi))).setCell ⟨w.heap.size + 4, 1, none⟩ (.int .i64 (bw))) → ∀ l : Later W, l.val.cell? ⟨w.heap.size, 0, none⟩ = some (.int .i64 33) ∧ l.val.cell? ⟨w.heap.size, 4, none⟩ = some (.int .i64 n) ∧ l.val.cell? ⟨w.heap.size, 5, none⟩ = some (.int .i64 m) ∧ l.val.cell? ⟨w.heap.size, 6, none⟩ = some (.int .i64 xi) ∧ l.val.cell? ⟨w.heap.size, 7, none⟩ = some (.int .i64 xw) ∧ l.val.cell? ⟨w.heap.size + 1, 0, none⟩ = some (.int .i64 ai) ∧ l.val.cell? ⟨w.heap.size + 1, 1, none⟩ = some (.int .i64 aw) ∧ l.val.cell? ⟨w.heap.size + 2, 0, none⟩ = some (.int .i64 bi) ∧ l.val.cell? ⟨w.heap.size + 2, 1, none⟩ = some (.int .i64 bw) ∧ l.val.cell? ⟨w.heap.size + 3, 0, none⟩ = some (.int .i64 ci) ∧ l.val.cell? ⟨w.heap.size + 3, 1, none⟩ = some (.int .i64 cw) := by
    rintro W (rfl | rfl) l
    · exact ⟨b0 l, b4 l, b5 l, b6 l, b7 l, d0 l, d1 l, d2 l, d3 l, d4 l, d5 l⟩
    · have ne : ∀ (b f : Nat) (v : Value), b ≠ w.heap.size + 4 → (∀ l : Later w2, l.val.cell? ⟨b, f, none⟩ = some v) → l.val.cell? ⟨b, f, none⟩ = some v := fun b f v hb h => Later.cell ((World.cell?_setCell_other _ _ _ _ (by intro e; simp only [Addr.mk.injEq] at e; omega)).trans ((World.cell?_setCell_other _ _ _ _ (by intro e; simp only [Addr.mk.injEq] at e; omega)).trans (h ⟨w2, Below.refl _ _⟩))) l
      exact ⟨ne _ _ _ (by omega) b0, ne _ _ _ (by omega) b4, ne _ _ _ (by omega) b5, ne _ _ _ (by omega) b6, ne _ _ _ (by omega) b7, ne _ _ _ (by omega) d0, ne _ _ _ (by omega) d1, ne _ _ _ (by omega) d2, ne _ _ _ (by omega) d3, ne _ _ _ (by omega) d4, ne _ _ _ (by omega) d5⟩
  have HF := Lib.hid hfacts
  clear hfacts
  refine wp_region_store' (w0 := w2) (w1 := (w2.setCell ⟨w.heap.size + 4, 0, none⟩ (.int .i64 (bi))).setCell ⟨w.heap.size + 4, 1, none⟩ (.int .i64 (bw))) 9 (by kernel_rfl) (by kernel_rfl) rfl (by kernel_rfl) (LaterC.refl _) ?_
  apply Exists.intro
  refine ⟨fun W hW => ?_, ?_, ?_, ?_⟩
  · have hc := HF.out W hW
    have e0 := fun l => (hc l).1; have e1 := fun l => (hc l).2.1; have e2 := fun l => (hc l).2.2.1; have e3 := fun l => (hc l).2.2.2.1; have e4 := fun l => (hc l).2.2.2.2.1; have e5 := fun l => (hc l).2.2.2.2.2.1; have e6 := fun l => (hc l).2.2.2.2.2.2.1; have e7 := fun l => (hc l).2.2.2.2.2.2.2.1; have e8 := fun l => (hc l).2.2.2.2.2.2.2.2.1; have e9 := fun l => (hc l).2.2.2.2.2.2.2.2.2.1; have e10 := fun l => (hc l).2.2.2.2.2.2.2.2.2.2
    clear hc hW
    simp only [List.take_succ_cons, List.take_zero]
    repeat (go_big_quiet_step (first | (go_at_call 34; exact Calls.later (words_calls _ _))))
    exact wpQuiet_nil rfl
  · rfl
  · intro u
    refine ⟨(u.val.setCell ⟨w.heap.size + 4, 0, none⟩ (.int .i64 (bi))).setCell ⟨w.heap.size + 4, 1, none⟩ (.int .i64 (bw)), ?_, u.set2 _ _ _ _⟩
    have s0 := r0 u; have s1 := r1 u; have t0 := f0 u; have t1 := f1 u
    go_simp
  · intro u
    have s0 : u.val.cell? ⟨w.heap.size + 4, 0, none⟩ = some (.int .i64 (bi)) := Later.cell ((World.cell?_setCell_other _ _ _ _ (by intro e; simp only [Addr.mk.injEq] at e; omega)).trans (World.cell?_setCell_same _ _ _ (r0 ⟨w2, Below.refl _ _⟩))) u
    have s1 : u.val.cell? ⟨w.heap.size + 4, 1, none⟩ = some (.int .i64 (bw)) := Later.cell (World.cell?_setCell_same _ _ _ ((World.cell?_setCell_other _ _ _ _ (by intro e; simp only [Addr.mk.injEq] at e; omega)).trans (r1 ⟨w2, Below.refl _ _⟩))) u
    have hbel := Lib.hid (u.back ((HB.out.setCell (p := ⟨w.heap.size + 4, 0, none⟩) (by simp) (.int .i64 (bi))).setCell (p := ⟨w.heap.size + 4, 1, none⟩) (by simp) (.int .i64 (bw))))
    simp only [List.drop_succ_cons, List.drop_zero]
    clear r0 r1 f0 f1
    go_wp2
    exact bodyPost_ret (v := .tuple #[.agg #[.int .i64 (bi), .int .i64 (bw)], .bool true]) (by simp [results, Try.results69, go_sem, s0, s1]) rfl (respost_some HR.out hbel.out)
theorem sortOf_33 (n m ai aw bi bw ci cw xa xb xc xi xw : Int) (nm : ByteArray) (w : World)  :
    Calls Try.prog 69 #[.agg #[.int .i64 33, .int .i64 xa, .int .i64 xb, .int .i64 xc, .int .i64 n, .int .i64 m, .int .i64 xi, .int .i64 xw, .string nm], .agg #[.int .i64 ai, .int .i64 aw], .agg #[.int .i64 bi, .int .i64 bw], .agg #[.int .i64 ci, .int .i64 cw]] w (ResPost (resN 33 n m ai aw bi bw ci cw) w) := by
  by_cases h0 : (ai == 0) = true
  rotate_left
  · exact sortOf_33_0 n m ai aw bi bw ci cw xa xb xc xi xw nm w  (eq_false_of_ne_true h0)
  by_cases h1 : (aw == 1) = true
  rotate_left
  · exact sortOf_33_1 n m ai aw bi bw ci cw xa xb xc xi xw nm w h0 (eq_false_of_ne_true h1)
  by_cases h2 : (bi == ci) = true
  rotate_left
  · exact sortOf_33_2 n m ai aw bi bw ci cw xa xb xc xi xw nm w h0 h1 (eq_false_of_ne_true h2)
  by_cases h3 : (bw == cw) = true
  rotate_left
  · exact sortOf_33_3 n m ai aw bi bw ci cw xa xb xc xi xw nm w h0 h1 h2 (eq_false_of_ne_true h3)
  exact sortOf_33_4 n m ai aw bi bw ci cw xa xb xc xi xw nm w h0 h1 h2 h3
set_option maxHeartbeats 2000000 in
set_option maxRecDepth 8000 in
theorem sortOf_37_0 (n m ai aw bi bw ci cw xa xb xc xi xw : Int) (nm : ByteArray) (w : World) (h0 : (decide (0 < ai)) = false) :
    Calls Try.prog 69 #[.agg #[.int .i64 37, .int .i64 xa, .int .i64 xb, .int .i64 xc, .int .i64 n, .int .i64 m, .int .i64 xi, .int .i64 xw, .string nm], .agg #[.int .i64 ai, .int .i64 aw], .agg #[.int .i64 bi, .int .i64 bw], .agg #[.int .i64 ci, .int .i64 cw]] w (ResPost (resN 37 n m ai aw bi bw ci cw) w) := by
  have HR := Lib.hid (show resN 37 n m ai aw bi bw ci cw = none by unfold resN; simp only [h0, Bool.and_false, Bool.false_and, Bool.true_and, Bool.and_true]; rfl)
  go_enter Try.func69, Try.ntmps69
  go_upto_region 1 with fail
  have HB := Lib.hid (show Below w.heap.size w (((((w.alloc (Obj.cells #[.int .i64 37, .int .i64 xa, .int .i64 xb, .int .i64 xc, .int .i64 n, .int .i64 m, .int .i64 xi, .int .i64 xw, .string nm] 61)).alloc (Obj.cells #[.int .i64 ai, .int .i64 aw] 59)).alloc (Obj.cells #[.int .i64 bi, .int .i64 bw] 59)).alloc (Obj.cells #[.int .i64 ci, .int .i64 cw] 59)).alloc (Obj.cells #[.int .i64 0, .int .i64 0] 59)) from by repeat (first | exact Below.refl _ _ | refine Below.alloc ?_ (by first | (simp; done) | (simp; omega)) _))
  have b0 : (((((w.alloc (Obj.cells #[.int .i64 37, .int .i64 xa, .int .i64 xb, .int .i64 xc, .int .i64 n, .int .i64 m, .int .i64 xi, .int .i64 xw, .string nm] 61)).alloc (Obj.cells #[.int .i64 ai, .int .i64 aw] 59)).alloc (Obj.cells #[.int .i64 bi, .int .i64 bw] 59)).alloc (Obj.cells #[.int .i64 ci, .int .i64 cw] 59)).alloc (Obj.cells #[.int .i64 0, .int .i64 0] 59)).cell? ⟨w.heap.size, 0, none⟩ = some (.int .i64 37) := by go_simp
  have b4 : (((((w.alloc (Obj.cells #[.int .i64 37, .int .i64 xa, .int .i64 xb, .int .i64 xc, .int .i64 n, .int .i64 m, .int .i64 xi, .int .i64 xw, .string nm] 61)).alloc (Obj.cells #[.int .i64 ai, .int .i64 aw] 59)).alloc (Obj.cells #[.int .i64 bi, .int .i64 bw] 59)).alloc (Obj.cells #[.int .i64 ci, .int .i64 cw] 59)).alloc (Obj.cells #[.int .i64 0, .int .i64 0] 59)).cell? ⟨w.heap.size, 4, none⟩ = some (.int .i64 n) := by go_simp
  have b5 : (((((w.alloc (Obj.cells #[.int .i64 37, .int .i64 xa, .int .i64 xb, .int .i64 xc, .int .i64 n, .int .i64 m, .int .i64 xi, .int .i64 xw, .string nm] 61)).alloc (Obj.cells #[.int .i64 ai, .int .i64 aw] 59)).alloc (Obj.cells #[.int .i64 bi, .int .i64 bw] 59)).alloc (Obj.cells #[.int .i64 ci, .int .i64 cw] 59)).alloc (Obj.cells #[.int .i64 0, .int .i64 0] 59)).cell? ⟨w.heap.size, 5, none⟩ = some (.int .i64 m) := by go_simp
  have b6 : (((((w.alloc (Obj.cells #[.int .i64 37, .int .i64 xa, .int .i64 xb, .int .i64 xc, .int .i64 n, .int .i64 m, .int .i64 xi, .int .i64 xw, .string nm] 61)).alloc (Obj.cells #[.int .i64 ai, .int .i64 aw] 59)).alloc (Obj.cells #[.int .i64 bi, .int .i64 bw] 59)).alloc (Obj.cells #[.int .i64 ci, .int .i64 cw] 59)).alloc (Obj.cells #[.int .i64 0, .int .i64 0] 59)).cell? ⟨w.heap.size, 6, none⟩ = some (.int .i64 xi) := by go_simp
  have b7 : (((((w.alloc (Obj.cells #[.int .i64 37, .int .i64 xa, .int .i64 xb, .int .i64 xc, .int .i64 n, .int .i64 m, .int .i64 xi, .int .i64 xw, .string nm] 61)).alloc (Obj.cells #[.int .i64 ai, .int .i64 aw] 59)).alloc (Obj.cells #[.int .i64 bi, .int .i64 bw] 59)).alloc (Obj.cells #[.int .i64 ci, .int .i64 cw] 59)).alloc (Obj.cells #[.int .i64 0, .int .i64 0] 59)).cell? ⟨w.heap.size, 7, none⟩ = some (.int .i64 xw) := by go_simp
  have d0 : (((((w.alloc (Obj.cells #[.int .i64 37, .int .i64 xa, .int .i64 xb, .int .i64 xc, .int .i64 n, .int .i64 m, .int .i64 xi, .int .i64 xw, .string nm] 61)).alloc (Obj.cells #[.int .i64 ai, .int .i64 aw] 59)).alloc (Obj.cells #[.int .i64 bi, .int .i64 bw] 59)).alloc (Obj.cells #[.int .i64 ci, .int .i64 cw] 59)).alloc (Obj.cells #[.int .i64 0, .int .i64 0] 59)).cell? ⟨w.heap.size + 1, 0, none⟩ = some (.int .i64 ai) := by go_simp
  have d1 : (((((w.alloc (Obj.cells #[.int .i64 37, .int .i64 xa, .int .i64 xb, .int .i64 xc, .int .i64 n, .int .i64 m, .int .i64 xi, .int .i64 xw, .string nm] 61)).alloc (Obj.cells #[.int .i64 ai, .int .i64 aw] 59)).alloc (Obj.cells #[.int .i64 bi, .int .i64 bw] 59)).alloc (Obj.cells #[.int .i64 ci, .int .i64 cw] 59)).alloc (Obj.cells #[.int .i64 0, .int .i64 0] 59)).cell? ⟨w.heap.size + 1, 1, none⟩ = some (.int .i64 aw) := by go_simp
  have d2 : (((((w.alloc (Obj.cells #[.int .i64 37, .int .i64 xa, .int .i64 xb, .int .i64 xc, .int .i64 n, .int .i64 m, .int .i64 xi, .int .i64 xw, .string nm] 61)).alloc (Obj.cells #[.int .i64 ai, .int .i64 aw] 59)).alloc (Obj.cells #[.int .i64 bi, .int .i64 bw] 59)).alloc (Obj.cells #[.int .i64 ci, .int .i64 cw] 59)).alloc (Obj.cells #[.int .i64 0, .int .i64 0] 59)).cell? ⟨w.heap.size + 2, 0, none⟩ = some (.int .i64 bi) := by go_simp
  have d3 : (((((w.alloc (Obj.cells #[.int .i64 37, .int .i64 xa, .int .i64 xb, .int .i64 xc, .int .i64 n, .int .i64 m, .int .i64 xi, .int .i64 xw, .string nm] 61)).alloc (Obj.cells #[.int .i64 ai, .int .i64 aw] 59)).alloc (Obj.cells #[.int .i64 bi, .int .i64 bw] 59)).alloc (Obj.cells #[.int .i64 ci, .int .i64 cw] 59)).alloc (Obj.cells #[.int .i64 0, .int .i64 0] 59)).cell? ⟨w.heap.size + 2, 1, none⟩ = some (.int .i64 bw) := by go_simp
  have d4 : (((((w.alloc (Obj.cells #[.int .i64 37, .int .i64 xa, .int .i64 xb, .int .i64 xc, .int .i64 n, .int .i64 m, .int .i64 xi, .int .i64 xw, .string nm] 61)).alloc (Obj.cells #[.int .i64 ai, .int .i64 aw] 59)).alloc (Obj.cells #[.int .i64 bi, .int .i64 bw] 59)).alloc (Obj.cells #[.int .i64 ci, .int .i64 cw] 59)).alloc (Obj.cells #[.int .i64 0, .int .i64 0] 59)).cell? ⟨w.heap.size + 3, 0, none⟩ = some (.int .i64 ci) := by go_simp
  have d5 : (((((w.alloc (Obj.cells #[.int .i64 37, .int .i64 xa, .int .i64 xb, .int .i64 xc, .int .i64 n, .int .i64 m, .int .i64 xi, .int .i64 xw, .string nm] 61)).alloc (Obj.cells #[.int .i64 ai, .int .i64 aw] 59)).alloc (Obj.cells #[.int .i64 bi, .int .i64 bw] 59)).alloc (Obj.cells #[.int .i64 ci, .int .i64 cw] 59)).alloc (Obj.cells #[.int .i64 0, .int .i64 0] 59)).cell? ⟨w.heap.size + 3, 1, none⟩ = some (.int .i64 cw) := by go_simp
  have r0 : (((((w.alloc (Obj.cells #[.int .i64 37, .int .i64 xa, .int .i64 xb, .int .i64 xc, .int .i64 n, .int .i64 m, .int .i64 xi, .int .i64 xw, .string nm] 61)).alloc (Obj.cells #[.int .i64 ai, .int .i64 aw] 59)).alloc (Obj.cells #[.int .i64 bi, .int .i64 bw] 59)).alloc (Obj.cells #[.int .i64 ci, .int .i64 cw] 59)).alloc (Obj.cells #[.int .i64 0, .int .i64 0] 59)).cell? ⟨w.heap.size + 4, 0, none⟩ = some (.int .i64 0) := by go_simp
  have r1 : (((((w.alloc (Obj.cells #[.int .i64 37, .int .i64 xa, .int .i64 xb, .int .i64 xc, .int .i64 n, .int .i64 m, .int .i64 xi, .int .i64 xw, .string nm] 61)).alloc (Obj.cells #[.int .i64 ai, .int .i64 aw] 59)).alloc (Obj.cells #[.int .i64 bi, .int .i64 bw] 59)).alloc (Obj.cells #[.int .i64 ci, .int .i64 cw] 59)).alloc (Obj.cells #[.int .i64 0, .int .i64 0] 59)).cell? ⟨w.heap.size + 4, 1, none⟩ = some (.int .i64 0) := by go_simp
  have f0 : (((((w.alloc (Obj.cells #[.int .i64 37, .int .i64 xa, .int .i64 xb, .int .i64 xc, .int .i64 n, .int .i64 m, .int .i64 xi, .int .i64 xw, .string nm] 61)).alloc (Obj.cells #[.int .i64 ai, .int .i64 aw] 59)).alloc (Obj.cells #[.int .i64 bi, .int .i64 bw] 59)).alloc (Obj.cells #[.int .i64 ci, .int .i64 cw] 59)).alloc (Obj.cells #[.int .i64 0, .int .i64 0] 59)).frozen? ⟨w.heap.size + 4, 0, none⟩ = false := by go_simp
  have f1 : (((((w.alloc (Obj.cells #[.int .i64 37, .int .i64 xa, .int .i64 xb, .int .i64 xc, .int .i64 n, .int .i64 m, .int .i64 xi, .int .i64 xw, .string nm] 61)).alloc (Obj.cells #[.int .i64 ai, .int .i64 aw] 59)).alloc (Obj.cells #[.int .i64 bi, .int .i64 bw] 59)).alloc (Obj.cells #[.int .i64 ci, .int .i64 cw] 59)).alloc (Obj.cells #[.int .i64 0, .int .i64 0] 59)).frozen? ⟨w.heap.size + 4, 1, none⟩ = false := by go_simp
  generalize (((((w.alloc (Obj.cells #[.int .i64 37, .int .i64 xa, .int .i64 xb, .int .i64 xc, .int .i64 n, .int .i64 m, .int .i64 xi, .int .i64 xw, .string nm] 61)).alloc (Obj.cells #[.int .i64 ai, .int .i64 aw] 59)).alloc (Obj.cells #[.int .i64 bi, .int .i64 bw] 59)).alloc (Obj.cells #[.int .i64 ci, .int .i64 cw] 59)).alloc (Obj.cells #[.int .i64 0, .int .i64 0] 59)) = w2 at *
  have f0 := Later.frozen f0 (World.block_lt_of_cell? _ _ r0)
  have f1 := Later.frozen f1 (World.block_lt_of_cell? _ _ r1)
  have b0 := Later.cell b0
  have b4 := Later.cell b4
  have b5 := Later.cell b5
  have b6 := Later.cell b6
  have b7 := Later.cell b7
  have d0 := Later.cell d0
  have d1 := Later.cell d1
  have d2 := Later.cell d2
  have d3 := Later.cell d3
  have d4 := Later.cell d4
  have d5 := Later.cell d5
  have r0 := Later.cell r0
  have r1 := Later.cell r1
  go_wp2
  have hfacts : ∀ W, (W = w2 ∨ W = (w2.setCell ⟨w.heap.size + 4, 0, none⟩ (.int .i64 (0))).setCell ⟨w.heap.size + 4, 1, none⟩ (.int .i64 (aw))) → ∀ l : Later W, l.val.cell? ⟨w.heap.size, 0, none⟩ = some (.int .i64 37) ∧ l.val.cell? ⟨w.heap.size, 4, none⟩ = some (.int .i64 n) ∧ l.val.cell? ⟨w.heap.size, 5, none⟩ = some (.int .i64 m) ∧ l.val.cell? ⟨w.heap.size, 6, none⟩ = some (.int .i64 xi) ∧ l.val.cell? ⟨w.heap.size, 7, none⟩ = some (.int .i64 xw) ∧ l.val.cell? ⟨w.heap.size + 1, 0, none⟩ = some (.int .i64 ai) ∧ l.val.cell? ⟨w.heap.size + 1, 1, none⟩ = some (.int .i64 aw) ∧ l.val.cell? ⟨w.heap.size + 2, 0, none⟩ = some (.int .i64 bi) ∧ l.val.cell? ⟨w.heap.size + 2, 1, none⟩ = some (.int .i64 bw) ∧ l.val.cell? ⟨w.heap.size + 3, 0, none⟩ = some (.int .i64 ci) ∧ l.val.cell? ⟨w.heap.size + 3, 1, none⟩ = some (.int .i64 cw) := by
    rintro W (rfl | rfl) l
    · exact ⟨b0 l, b4 l, b5 l, b6 l, b7 l, d0 l, d1 l, d2 l, d3 l, d4 l, d5 l⟩
    · have ne : ∀ (b f : Nat) (v : Value), b ≠ w.heap.size + 4 → (∀ l : Later w2, l.val.cell? ⟨b, f, none⟩ = some v) → l.val.cell? ⟨b, f, none⟩ = some v := fun b f v hb h => Later.cell ((World.cell?_setCell_other _ _ _ _ (by intro e; simp only [Addr.mk.injEq] at e; omega)).trans ((World.cell?_setCell_other _ _ _ _ (by intro e; simp only [Addr.mk.injEq] at e; omega)).trans (h ⟨w2, Below.refl _ _⟩))) l
      exact ⟨ne _ _ _ (by omega) b0, ne _ _ _ (by omega) b4, ne _ _ _ (by omega) b5, ne _ _ _ (by omega) b6, ne _ _ _ (by omega) b7, ne _ _ _ (by omega) d0, ne _ _ _ (by omega) d1, ne _ _ _ (by omega) d2, ne _ _ _ (by omega) d3, ne _ _ _ (by omega) d4, ne _ _ _ (by omega) d5⟩
  have HF := Lib.hid hfacts
  clear hfacts
  refine wp_region_store' (w0 := w2) (w1 := (w2.setCell ⟨w.heap.size + 4, 0, none⟩ (.int .i64 (0))).setCell ⟨w.heap.size + 4, 1, none⟩ (.int .i64 (aw))) 13 (by kernel_rfl) (by kernel_rfl) rfl (by kernel_rfl) (LaterC.refl _) ?_
  apply Exists.intro
  refine ⟨fun W hW => ?_, ?_, ?_, ?_⟩
  · have hc := HF.out W hW
    have e0 := fun l => (hc l).1; have e1 := fun l => (hc l).2.1; have e2 := fun l => (hc l).2.2.1; have e3 := fun l => (hc l).2.2.2.1; have e4 := fun l => (hc l).2.2.2.2.1; have e5 := fun l => (hc l).2.2.2.2.2.1; have e6 := fun l => (hc l).2.2.2.2.2.2.1; have e7 := fun l => (hc l).2.2.2.2.2.2.2.1; have e8 := fun l => (hc l).2.2.2.2.2.2.2.2.1; have e9 := fun l => (hc l).2.2.2.2.2.2.2.2.2.1; have e10 := fun l => (hc l).2.2.2.2.2.2.2.2.2.2
    clear hc hW
    simp only [List.take_succ_cons, List.take_zero]
    repeat (go_big_quiet_step (first | (go_at_call 34; exact Calls.later (words_calls _ _))))
    exact wpQuiet_nil rfl
  · rfl
  · intro u
    refine ⟨(u.val.setCell ⟨w.heap.size + 4, 0, none⟩ (.int .i64 (0))).setCell ⟨w.heap.size + 4, 1, none⟩ (.int .i64 (aw)), ?_, u.set2 _ _ _ _⟩
    have s0 := r0 u; have s1 := r1 u; have t0 := f0 u; have t1 := f1 u
    go_simp
  · intro u
    have s0 : u.val.cell? ⟨w.heap.size + 4, 0, none⟩ = some (.int .i64 (0)) := Later.cell ((World.cell?_setCell_other _ _ _ _ (by intro e; simp only [Addr.mk.injEq] at e; omega)).trans (World.cell?_setCell_same _ _ _ (r0 ⟨w2, Below.refl _ _⟩))) u
    have s1 : u.val.cell? ⟨w.heap.size + 4, 1, none⟩ = some (.int .i64 (aw)) := Later.cell (World.cell?_setCell_same _ _ _ ((World.cell?_setCell_other _ _ _ _ (by intro e; simp only [Addr.mk.injEq] at e; omega)).trans (r1 ⟨w2, Below.refl _ _⟩))) u
    have hbel := Lib.hid (u.back ((HB.out.setCell (p := ⟨w.heap.size + 4, 0, none⟩) (by simp) (.int .i64 (0))).setCell (p := ⟨w.heap.size + 4, 1, none⟩) (by simp) (.int .i64 (aw))))
    simp only [List.drop_succ_cons, List.drop_zero]
    clear r0 r1 f0 f1
    go_wp2
    exact bodyPost_ret (v := .tuple #[.agg #[.int .i64 (0), .int .i64 (aw)], .bool false]) (by simp [results, Try.results69, go_sem, s0, s1]) rfl (respost_none HR.out hbel.out)
set_option maxHeartbeats 2000000 in
set_option maxRecDepth 8000 in
theorem sortOf_37_1 (n m ai aw bi bw ci cw xa xb xc xi xw : Int) (nm : ByteArray) (w : World) (h0 : (decide (0 < ai)) = true) (h1 : (bi == 0) = false) :
    Calls Try.prog 69 #[.agg #[.int .i64 37, .int .i64 xa, .int .i64 xb, .int .i64 xc, .int .i64 n, .int .i64 m, .int .i64 xi, .int .i64 xw, .string nm], .agg #[.int .i64 ai, .int .i64 aw], .agg #[.int .i64 bi, .int .i64 bw], .agg #[.int .i64 ci, .int .i64 cw]] w (ResPost (resN 37 n m ai aw bi bw ci cw) w) := by
  have HR := Lib.hid (show resN 37 n m ai aw bi bw ci cw = none by unfold resN; simp only [h0, h1, Bool.and_false, Bool.false_and, Bool.true_and, Bool.and_true]; rfl)
  go_enter Try.func69, Try.ntmps69
  go_upto_region 1 with fail
  have HB := Lib.hid (show Below w.heap.size w (((((w.alloc (Obj.cells #[.int .i64 37, .int .i64 xa, .int .i64 xb, .int .i64 xc, .int .i64 n, .int .i64 m, .int .i64 xi, .int .i64 xw, .string nm] 61)).alloc (Obj.cells #[.int .i64 ai, .int .i64 aw] 59)).alloc (Obj.cells #[.int .i64 bi, .int .i64 bw] 59)).alloc (Obj.cells #[.int .i64 ci, .int .i64 cw] 59)).alloc (Obj.cells #[.int .i64 0, .int .i64 0] 59)) from by repeat (first | exact Below.refl _ _ | refine Below.alloc ?_ (by first | (simp; done) | (simp; omega)) _))
  have b0 : (((((w.alloc (Obj.cells #[.int .i64 37, .int .i64 xa, .int .i64 xb, .int .i64 xc, .int .i64 n, .int .i64 m, .int .i64 xi, .int .i64 xw, .string nm] 61)).alloc (Obj.cells #[.int .i64 ai, .int .i64 aw] 59)).alloc (Obj.cells #[.int .i64 bi, .int .i64 bw] 59)).alloc (Obj.cells #[.int .i64 ci, .int .i64 cw] 59)).alloc (Obj.cells #[.int .i64 0, .int .i64 0] 59)).cell? ⟨w.heap.size, 0, none⟩ = some (.int .i64 37) := by go_simp
  have b4 : (((((w.alloc (Obj.cells #[.int .i64 37, .int .i64 xa, .int .i64 xb, .int .i64 xc, .int .i64 n, .int .i64 m, .int .i64 xi, .int .i64 xw, .string nm] 61)).alloc (Obj.cells #[.int .i64 ai, .int .i64 aw] 59)).alloc (Obj.cells #[.int .i64 bi, .int .i64 bw] 59)).alloc (Obj.cells #[.int .i64 ci, .int .i64 cw] 59)).alloc (Obj.cells #[.int .i64 0, .int .i64 0] 59)).cell? ⟨w.heap.size, 4, none⟩ = some (.int .i64 n) := by go_simp
  have b5 : (((((w.alloc (Obj.cells #[.int .i64 37, .int .i64 xa, .int .i64 xb, .int .i64 xc, .int .i64 n, .int .i64 m, .int .i64 xi, .int .i64 xw, .string nm] 61)).alloc (Obj.cells #[.int .i64 ai, .int .i64 aw] 59)).alloc (Obj.cells #[.int .i64 bi, .int .i64 bw] 59)).alloc (Obj.cells #[.int .i64 ci, .int .i64 cw] 59)).alloc (Obj.cells #[.int .i64 0, .int .i64 0] 59)).cell? ⟨w.heap.size, 5, none⟩ = some (.int .i64 m) := by go_simp
  have b6 : (((((w.alloc (Obj.cells #[.int .i64 37, .int .i64 xa, .int .i64 xb, .int .i64 xc, .int .i64 n, .int .i64 m, .int .i64 xi, .int .i64 xw, .string nm] 61)).alloc (Obj.cells #[.int .i64 ai, .int .i64 aw] 59)).alloc (Obj.cells #[.int .i64 bi, .int .i64 bw] 59)).alloc (Obj.cells #[.int .i64 ci, .int .i64 cw] 59)).alloc (Obj.cells #[.int .i64 0, .int .i64 0] 59)).cell? ⟨w.heap.size, 6, none⟩ = some (.int .i64 xi) := by go_simp
  have b7 : (((((w.alloc (Obj.cells #[.int .i64 37, .int .i64 xa, .int .i64 xb, .int .i64 xc, .int .i64 n, .int .i64 m, .int .i64 xi, .int .i64 xw, .string nm] 61)).alloc (Obj.cells #[.int .i64 ai, .int .i64 aw] 59)).alloc (Obj.cells #[.int .i64 bi, .int .i64 bw] 59)).alloc (Obj.cells #[.int .i64 ci, .int .i64 cw] 59)).alloc (Obj.cells #[.int .i64 0, .int .i64 0] 59)).cell? ⟨w.heap.size, 7, none⟩ = some (.int .i64 xw) := by go_simp
  have d0 : (((((w.alloc (Obj.cells #[.int .i64 37, .int .i64 xa, .int .i64 xb, .int .i64 xc, .int .i64 n, .int .i64 m, .int .i64 xi, .int .i64 xw, .string nm] 61)).alloc (Obj.cells #[.int .i64 ai, .int .i64 aw] 59)).alloc (Obj.cells #[.int .i64 bi, .int .i64 bw] 59)).alloc (Obj.cells #[.int .i64 ci, .int .i64 cw] 59)).alloc (Obj.cells #[.int .i64 0, .int .i64 0] 59)).cell? ⟨w.heap.size + 1, 0, none⟩ = some (.int .i64 ai) := by go_simp
  have d1 : (((((w.alloc (Obj.cells #[.int .i64 37, .int .i64 xa, .int .i64 xb, .int .i64 xc, .int .i64 n, .int .i64 m, .int .i64 xi, .int .i64 xw, .string nm] 61)).alloc (Obj.cells #[.int .i64 ai, .int .i64 aw] 59)).alloc (Obj.cells #[.int .i64 bi, .int .i64 bw] 59)).alloc (Obj.cells #[.int .i64 ci, .int .i64 cw] 59)).alloc (Obj.cells #[.int .i64 0, .int .i64 0] 59)).cell? ⟨w.heap.size + 1, 1, none⟩ = some (.int .i64 aw) := by go_simp
  have d2 : (((((w.alloc (Obj.cells #[.int .i64 37, .int .i64 xa, .int .i64 xb, .int .i64 xc, .int .i64 n, .int .i64 m, .int .i64 xi, .int .i64 xw, .string nm] 61)).alloc (Obj.cells #[.int .i64 ai, .int .i64 aw] 59)).alloc (Obj.cells #[.int .i64 bi, .int .i64 bw] 59)).alloc (Obj.cells #[.int .i64 ci, .int .i64 cw] 59)).alloc (Obj.cells #[.int .i64 0, .int .i64 0] 59)).cell? ⟨w.heap.size + 2, 0, none⟩ = some (.int .i64 bi) := by go_simp
  have d3 : (((((w.alloc (Obj.cells #[.int .i64 37, .int .i64 xa, .int .i64 xb, .int .i64 xc, .int .i64 n, .int .i64 m, .int .i64 xi, .int .i64 xw, .string nm] 61)).alloc (Obj.cells #[.int .i64 ai, .int .i64 aw] 59)).alloc (Obj.cells #[.int .i64 bi, .int .i64 bw] 59)).alloc (Obj.cells #[.int .i64 ci, .int .i64 cw] 59)).alloc (Obj.cells #[.int .i64 0, .int .i64 0] 59)).cell? ⟨w.heap.size + 2, 1, none⟩ = some (.int .i64 bw) := by go_simp
  have d4 : (((((w.alloc (Obj.cells #[.int .i64 37, .int .i64 xa, .int .i64 xb, .int .i64 xc, .int .i64 n, .int .i64 m, .int .i64 xi, .int .i64 xw, .string nm] 61)).alloc (Obj.cells #[.int .i64 ai, .int .i64 aw] 59)).alloc (Obj.cells #[.int .i64 bi, .int .i64 bw] 59)).alloc (Obj.cells #[.int .i64 ci, .int .i64 cw] 59)).alloc (Obj.cells #[.int .i64 0, .int .i64 0] 59)).cell? ⟨w.heap.size + 3, 0, none⟩ = some (.int .i64 ci) := by go_simp
  have d5 : (((((w.alloc (Obj.cells #[.int .i64 37, .int .i64 xa, .int .i64 xb, .int .i64 xc, .int .i64 n, .int .i64 m, .int .i64 xi, .int .i64 xw, .string nm] 61)).alloc (Obj.cells #[.int .i64 ai, .int .i64 aw] 59)).alloc (Obj.cells #[.int .i64 bi, .int .i64 bw] 59)).alloc (Obj.cells #[.int .i64 ci, .int .i64 cw] 59)).alloc (Obj.cells #[.int .i64 0, .int .i64 0] 59)).cell? ⟨w.heap.size + 3, 1, none⟩ = some (.int .i64 cw) := by go_simp
  have r0 : (((((w.alloc (Obj.cells #[.int .i64 37, .int .i64 xa, .int .i64 xb, .int .i64 xc, .int .i64 n, .int .i64 m, .int .i64 xi, .int .i64 xw, .string nm] 61)).alloc (Obj.cells #[.int .i64 ai, .int .i64 aw] 59)).alloc (Obj.cells #[.int .i64 bi, .int .i64 bw] 59)).alloc (Obj.cells #[.int .i64 ci, .int .i64 cw] 59)).alloc (Obj.cells #[.int .i64 0, .int .i64 0] 59)).cell? ⟨w.heap.size + 4, 0, none⟩ = some (.int .i64 0) := by go_simp
  have r1 : (((((w.alloc (Obj.cells #[.int .i64 37, .int .i64 xa, .int .i64 xb, .int .i64 xc, .int .i64 n, .int .i64 m, .int .i64 xi, .int .i64 xw, .string nm] 61)).alloc (Obj.cells #[.int .i64 ai, .int .i64 aw] 59)).alloc (Obj.cells #[.int .i64 bi, .int .i64 bw] 59)).alloc (Obj.cells #[.int .i64 ci, .int .i64 cw] 59)).alloc (Obj.cells #[.int .i64 0, .int .i64 0] 59)).cell? ⟨w.heap.size + 4, 1, none⟩ = some (.int .i64 0) := by go_simp
  have f0 : (((((w.alloc (Obj.cells #[.int .i64 37, .int .i64 xa, .int .i64 xb, .int .i64 xc, .int .i64 n, .int .i64 m, .int .i64 xi, .int .i64 xw, .string nm] 61)).alloc (Obj.cells #[.int .i64 ai, .int .i64 aw] 59)).alloc (Obj.cells #[.int .i64 bi, .int .i64 bw] 59)).alloc (Obj.cells #[.int .i64 ci, .int .i64 cw] 59)).alloc (Obj.cells #[.int .i64 0, .int .i64 0] 59)).frozen? ⟨w.heap.size + 4, 0, none⟩ = false := by go_simp
  have f1 : (((((w.alloc (Obj.cells #[.int .i64 37, .int .i64 xa, .int .i64 xb, .int .i64 xc, .int .i64 n, .int .i64 m, .int .i64 xi, .int .i64 xw, .string nm] 61)).alloc (Obj.cells #[.int .i64 ai, .int .i64 aw] 59)).alloc (Obj.cells #[.int .i64 bi, .int .i64 bw] 59)).alloc (Obj.cells #[.int .i64 ci, .int .i64 cw] 59)).alloc (Obj.cells #[.int .i64 0, .int .i64 0] 59)).frozen? ⟨w.heap.size + 4, 1, none⟩ = false := by go_simp
  generalize (((((w.alloc (Obj.cells #[.int .i64 37, .int .i64 xa, .int .i64 xb, .int .i64 xc, .int .i64 n, .int .i64 m, .int .i64 xi, .int .i64 xw, .string nm] 61)).alloc (Obj.cells #[.int .i64 ai, .int .i64 aw] 59)).alloc (Obj.cells #[.int .i64 bi, .int .i64 bw] 59)).alloc (Obj.cells #[.int .i64 ci, .int .i64 cw] 59)).alloc (Obj.cells #[.int .i64 0, .int .i64 0] 59)) = w2 at *
  have f0 := Later.frozen f0 (World.block_lt_of_cell? _ _ r0)
  have f1 := Later.frozen f1 (World.block_lt_of_cell? _ _ r1)
  have b0 := Later.cell b0
  have b4 := Later.cell b4
  have b5 := Later.cell b5
  have b6 := Later.cell b6
  have b7 := Later.cell b7
  have d0 := Later.cell d0
  have d1 := Later.cell d1
  have d2 := Later.cell d2
  have d3 := Later.cell d3
  have d4 := Later.cell d4
  have d5 := Later.cell d5
  have r0 := Later.cell r0
  have r1 := Later.cell r1
  go_wp2
  have hfacts : ∀ W, (W = w2 ∨ W = (w2.setCell ⟨w.heap.size + 4, 0, none⟩ (.int .i64 (0))).setCell ⟨w.heap.size + 4, 1, none⟩ (.int .i64 (aw))) → ∀ l : Later W, l.val.cell? ⟨w.heap.size, 0, none⟩ = some (.int .i64 37) ∧ l.val.cell? ⟨w.heap.size, 4, none⟩ = some (.int .i64 n) ∧ l.val.cell? ⟨w.heap.size, 5, none⟩ = some (.int .i64 m) ∧ l.val.cell? ⟨w.heap.size, 6, none⟩ = some (.int .i64 xi) ∧ l.val.cell? ⟨w.heap.size, 7, none⟩ = some (.int .i64 xw) ∧ l.val.cell? ⟨w.heap.size + 1, 0, none⟩ = some (.int .i64 ai) ∧ l.val.cell? ⟨w.heap.size + 1, 1, none⟩ = some (.int .i64 aw) ∧ l.val.cell? ⟨w.heap.size + 2, 0, none⟩ = some (.int .i64 bi) ∧ l.val.cell? ⟨w.heap.size + 2, 1, none⟩ = some (.int .i64 bw) ∧ l.val.cell? ⟨w.heap.size + 3, 0, none⟩ = some (.int .i64 ci) ∧ l.val.cell? ⟨w.heap.size + 3, 1, none⟩ = some (.int .i64 cw) := by
    rintro W (rfl | rfl) l
    · exact ⟨b0 l, b4 l, b5 l, b6 l, b7 l, d0 l, d1 l, d2 l, d3 l, d4 l, d5 l⟩
    · have ne : ∀ (b f : Nat) (v : Value), b ≠ w.heap.size + 4 → (∀ l : Later w2, l.val.cell? ⟨b, f, none⟩ = some v) → l.val.cell? ⟨b, f, none⟩ = some v := fun b f v hb h => Later.cell ((World.cell?_setCell_other _ _ _ _ (by intro e; simp only [Addr.mk.injEq] at e; omega)).trans ((World.cell?_setCell_other _ _ _ _ (by intro e; simp only [Addr.mk.injEq] at e; omega)).trans (h ⟨w2, Below.refl _ _⟩))) l
      exact ⟨ne _ _ _ (by omega) b0, ne _ _ _ (by omega) b4, ne _ _ _ (by omega) b5, ne _ _ _ (by omega) b6, ne _ _ _ (by omega) b7, ne _ _ _ (by omega) d0, ne _ _ _ (by omega) d1, ne _ _ _ (by omega) d2, ne _ _ _ (by omega) d3, ne _ _ _ (by omega) d4, ne _ _ _ (by omega) d5⟩
  have HF := Lib.hid hfacts
  clear hfacts
  refine wp_region_store' (w0 := w2) (w1 := (w2.setCell ⟨w.heap.size + 4, 0, none⟩ (.int .i64 (0))).setCell ⟨w.heap.size + 4, 1, none⟩ (.int .i64 (aw))) 13 (by kernel_rfl) (by kernel_rfl) rfl (by kernel_rfl) (LaterC.refl _) ?_
  apply Exists.intro
  refine ⟨fun W hW => ?_, ?_, ?_, ?_⟩
  · have hc := HF.out W hW
    have e0 := fun l => (hc l).1; have e1 := fun l => (hc l).2.1; have e2 := fun l => (hc l).2.2.1; have e3 := fun l => (hc l).2.2.2.1; have e4 := fun l => (hc l).2.2.2.2.1; have e5 := fun l => (hc l).2.2.2.2.2.1; have e6 := fun l => (hc l).2.2.2.2.2.2.1; have e7 := fun l => (hc l).2.2.2.2.2.2.2.1; have e8 := fun l => (hc l).2.2.2.2.2.2.2.2.1; have e9 := fun l => (hc l).2.2.2.2.2.2.2.2.2.1; have e10 := fun l => (hc l).2.2.2.2.2.2.2.2.2.2
    clear hc hW
    simp only [List.take_succ_cons, List.take_zero]
    repeat (go_big_quiet_step (first | (go_at_call 34; exact Calls.later (words_calls _ _))))
    exact wpQuiet_nil rfl
  · rfl
  · intro u
    refine ⟨(u.val.setCell ⟨w.heap.size + 4, 0, none⟩ (.int .i64 (0))).setCell ⟨w.heap.size + 4, 1, none⟩ (.int .i64 (aw)), ?_, u.set2 _ _ _ _⟩
    have s0 := r0 u; have s1 := r1 u; have t0 := f0 u; have t1 := f1 u
    go_simp
  · intro u
    have s0 : u.val.cell? ⟨w.heap.size + 4, 0, none⟩ = some (.int .i64 (0)) := Later.cell ((World.cell?_setCell_other _ _ _ _ (by intro e; simp only [Addr.mk.injEq] at e; omega)).trans (World.cell?_setCell_same _ _ _ (r0 ⟨w2, Below.refl _ _⟩))) u
    have s1 : u.val.cell? ⟨w.heap.size + 4, 1, none⟩ = some (.int .i64 (aw)) := Later.cell (World.cell?_setCell_same _ _ _ ((World.cell?_setCell_other _ _ _ _ (by intro e; simp only [Addr.mk.injEq] at e; omega)).trans (r1 ⟨w2, Below.refl _ _⟩))) u
    have hbel := Lib.hid (u.back ((HB.out.setCell (p := ⟨w.heap.size + 4, 0, none⟩) (by simp) (.int .i64 (0))).setCell (p := ⟨w.heap.size + 4, 1, none⟩) (by simp) (.int .i64 (aw))))
    simp only [List.drop_succ_cons, List.drop_zero]
    clear r0 r1 f0 f1
    go_wp2
    exact bodyPost_ret (v := .tuple #[.agg #[.int .i64 (0), .int .i64 (aw)], .bool false]) (by simp [results, Try.results69, go_sem, s0, s1]) rfl (respost_none HR.out hbel.out)
set_option maxHeartbeats 2000000 in
set_option maxRecDepth 8000 in
theorem sortOf_37_2 (n m ai aw bi bw ci cw xa xb xc xi xw : Int) (nm : ByteArray) (w : World) (h0 : (decide (0 < ai)) = true) (h1 : (bi == 0) = true) (h2 : (bw == ai) = false) :
    Calls Try.prog 69 #[.agg #[.int .i64 37, .int .i64 xa, .int .i64 xb, .int .i64 xc, .int .i64 n, .int .i64 m, .int .i64 xi, .int .i64 xw, .string nm], .agg #[.int .i64 ai, .int .i64 aw], .agg #[.int .i64 bi, .int .i64 bw], .agg #[.int .i64 ci, .int .i64 cw]] w (ResPost (resN 37 n m ai aw bi bw ci cw) w) := by
  have HR := Lib.hid (show resN 37 n m ai aw bi bw ci cw = none by unfold resN; simp only [h0, h1, h2, Bool.and_false, Bool.false_and, Bool.true_and, Bool.and_true]; rfl)
  go_enter Try.func69, Try.ntmps69
  go_upto_region 1 with fail
  have HB := Lib.hid (show Below w.heap.size w (((((w.alloc (Obj.cells #[.int .i64 37, .int .i64 xa, .int .i64 xb, .int .i64 xc, .int .i64 n, .int .i64 m, .int .i64 xi, .int .i64 xw, .string nm] 61)).alloc (Obj.cells #[.int .i64 ai, .int .i64 aw] 59)).alloc (Obj.cells #[.int .i64 bi, .int .i64 bw] 59)).alloc (Obj.cells #[.int .i64 ci, .int .i64 cw] 59)).alloc (Obj.cells #[.int .i64 0, .int .i64 0] 59)) from by repeat (first | exact Below.refl _ _ | refine Below.alloc ?_ (by first | (simp; done) | (simp; omega)) _))
  have b0 : (((((w.alloc (Obj.cells #[.int .i64 37, .int .i64 xa, .int .i64 xb, .int .i64 xc, .int .i64 n, .int .i64 m, .int .i64 xi, .int .i64 xw, .string nm] 61)).alloc (Obj.cells #[.int .i64 ai, .int .i64 aw] 59)).alloc (Obj.cells #[.int .i64 bi, .int .i64 bw] 59)).alloc (Obj.cells #[.int .i64 ci, .int .i64 cw] 59)).alloc (Obj.cells #[.int .i64 0, .int .i64 0] 59)).cell? ⟨w.heap.size, 0, none⟩ = some (.int .i64 37) := by go_simp
  have b4 : (((((w.alloc (Obj.cells #[.int .i64 37, .int .i64 xa, .int .i64 xb, .int .i64 xc, .int .i64 n, .int .i64 m, .int .i64 xi, .int .i64 xw, .string nm] 61)).alloc (Obj.cells #[.int .i64 ai, .int .i64 aw] 59)).alloc (Obj.cells #[.int .i64 bi, .int .i64 bw] 59)).alloc (Obj.cells #[.int .i64 ci, .int .i64 cw] 59)).alloc (Obj.cells #[.int .i64 0, .int .i64 0] 59)).cell? ⟨w.heap.size, 4, none⟩ = some (.int .i64 n) := by go_simp
  have b5 : (((((w.alloc (Obj.cells #[.int .i64 37, .int .i64 xa, .int .i64 xb, .int .i64 xc, .int .i64 n, .int .i64 m, .int .i64 xi, .int .i64 xw, .string nm] 61)).alloc (Obj.cells #[.int .i64 ai, .int .i64 aw] 59)).alloc (Obj.cells #[.int .i64 bi, .int .i64 bw] 59)).alloc (Obj.cells #[.int .i64 ci, .int .i64 cw] 59)).alloc (Obj.cells #[.int .i64 0, .int .i64 0] 59)).cell? ⟨w.heap.size, 5, none⟩ = some (.int .i64 m) := by go_simp
  have b6 : (((((w.alloc (Obj.cells #[.int .i64 37, .int .i64 xa, .int .i64 xb, .int .i64 xc, .int .i64 n, .int .i64 m, .int .i64 xi, .int .i64 xw, .string nm] 61)).alloc (Obj.cells #[.int .i64 ai, .int .i64 aw] 59)).alloc (Obj.cells #[.int .i64 bi, .int .i64 bw] 59)).alloc (Obj.cells #[.int .i64 ci, .int .i64 cw] 59)).alloc (Obj.cells #[.int .i64 0, .int .i64 0] 59)).cell? ⟨w.heap.size, 6, none⟩ = some (.int .i64 xi) := by go_simp
  have b7 : (((((w.alloc (Obj.cells #[.int .i64 37, .int .i64 xa, .int .i64 xb, .int .i64 xc, .int .i64 n, .int .i64 m, .int .i64 xi, .int .i64 xw, .string nm] 61)).alloc (Obj.cells #[.int .i64 ai, .int .i64 aw] 59)).alloc (Obj.cells #[.int .i64 bi, .int .i64 bw] 59)).alloc (Obj.cells #[.int .i64 ci, .int .i64 cw] 59)).alloc (Obj.cells #[.int .i64 0, .int .i64 0] 59)).cell? ⟨w.heap.size, 7, none⟩ = some (.int .i64 xw) := by go_simp
  have d0 : (((((w.alloc (Obj.cells #[.int .i64 37, .int .i64 xa, .int .i64 xb, .int .i64 xc, .int .i64 n, .int .i64 m, .int .i64 xi, .int .i64 xw, .string nm] 61)).alloc (Obj.cells #[.int .i64 ai, .int .i64 aw] 59)).alloc (Obj.cells #[.int .i64 bi, .int .i64 bw] 59)).alloc (Obj.cells #[.int .i64 ci, .int .i64 cw] 59)).alloc (Obj.cells #[.int .i64 0, .int .i64 0] 59)).cell? ⟨w.heap.size + 1, 0, none⟩ = some (.int .i64 ai) := by go_simp
  have d1 : (((((w.alloc (Obj.cells #[.int .i64 37, .int .i64 xa, .int .i64 xb, .int .i64 xc, .int .i64 n, .int .i64 m, .int .i64 xi, .int .i64 xw, .string nm] 61)).alloc (Obj.cells #[.int .i64 ai, .int .i64 aw] 59)).alloc (Obj.cells #[.int .i64 bi, .int .i64 bw] 59)).alloc (Obj.cells #[.int .i64 ci, .int .i64 cw] 59)).alloc (Obj.cells #[.int .i64 0, .int .i64 0] 59)).cell? ⟨w.heap.size + 1, 1, none⟩ = some (.int .i64 aw) := by go_simp
  have d2 : (((((w.alloc (Obj.cells #[.int .i64 37, .int .i64 xa, .int .i64 xb, .int .i64 xc, .int .i64 n, .int .i64 m, .int .i64 xi, .int .i64 xw, .string nm] 61)).alloc (Obj.cells #[.int .i64 ai, .int .i64 aw] 59)).alloc (Obj.cells #[.int .i64 bi, .int .i64 bw] 59)).alloc (Obj.cells #[.int .i64 ci, .int .i64 cw] 59)).alloc (Obj.cells #[.int .i64 0, .int .i64 0] 59)).cell? ⟨w.heap.size + 2, 0, none⟩ = some (.int .i64 bi) := by go_simp
  have d3 : (((((w.alloc (Obj.cells #[.int .i64 37, .int .i64 xa, .int .i64 xb, .int .i64 xc, .int .i64 n, .int .i64 m, .int .i64 xi, .int .i64 xw, .string nm] 61)).alloc (Obj.cells #[.int .i64 ai, .int .i64 aw] 59)).alloc (Obj.cells #[.int .i64 bi, .int .i64 bw] 59)).alloc (Obj.cells #[.int .i64 ci, .int .i64 cw] 59)).alloc (Obj.cells #[.int .i64 0, .int .i64 0] 59)).cell? ⟨w.heap.size + 2, 1, none⟩ = some (.int .i64 bw) := by go_simp
  have d4 : (((((w.alloc (Obj.cells #[.int .i64 37, .int .i64 xa, .int .i64 xb, .int .i64 xc, .int .i64 n, .int .i64 m, .int .i64 xi, .int .i64 xw, .string nm] 61)).alloc (Obj.cells #[.int .i64 ai, .int .i64 aw] 59)).alloc (Obj.cells #[.int .i64 bi, .int .i64 bw] 59)).alloc (Obj.cells #[.int .i64 ci, .int .i64 cw] 59)).alloc (Obj.cells #[.int .i64 0, .int .i64 0] 59)).cell? ⟨w.heap.size + 3, 0, none⟩ = some (.int .i64 ci) := by go_simp
  have d5 : (((((w.alloc (Obj.cells #[.int .i64 37, .int .i64 xa, .int .i64 xb, .int .i64 xc, .int .i64 n, .int .i64 m, .int .i64 xi, .int .i64 xw, .string nm] 61)).alloc (Obj.cells #[.int .i64 ai, .int .i64 aw] 59)).alloc (Obj.cells #[.int .i64 bi, .int .i64 bw] 59)).alloc (Obj.cells #[.int .i64 ci, .int .i64 cw] 59)).alloc (Obj.cells #[.int .i64 0, .int .i64 0] 59)).cell? ⟨w.heap.size + 3, 1, none⟩ = some (.int .i64 cw) := by go_simp
  have r0 : (((((w.alloc (Obj.cells #[.int .i64 37, .int .i64 xa, .int .i64 xb, .int .i64 xc, .int .i64 n, .int .i64 m, .int .i64 xi, .int .i64 xw, .string nm] 61)).alloc (Obj.cells #[.int .i64 ai, .int .i64 aw] 59)).alloc (Obj.cells #[.int .i64 bi, .int .i64 bw] 59)).alloc (Obj.cells #[.int .i64 ci, .int .i64 cw] 59)).alloc (Obj.cells #[.int .i64 0, .int .i64 0] 59)).cell? ⟨w.heap.size + 4, 0, none⟩ = some (.int .i64 0) := by go_simp
  have r1 : (((((w.alloc (Obj.cells #[.int .i64 37, .int .i64 xa, .int .i64 xb, .int .i64 xc, .int .i64 n, .int .i64 m, .int .i64 xi, .int .i64 xw, .string nm] 61)).alloc (Obj.cells #[.int .i64 ai, .int .i64 aw] 59)).alloc (Obj.cells #[.int .i64 bi, .int .i64 bw] 59)).alloc (Obj.cells #[.int .i64 ci, .int .i64 cw] 59)).alloc (Obj.cells #[.int .i64 0, .int .i64 0] 59)).cell? ⟨w.heap.size + 4, 1, none⟩ = some (.int .i64 0) := by go_simp
  have f0 : (((((w.alloc (Obj.cells #[.int .i64 37, .int .i64 xa, .int .i64 xb, .int .i64 xc, .int .i64 n, .int .i64 m, .int .i64 xi, .int .i64 xw, .string nm] 61)).alloc (Obj.cells #[.int .i64 ai, .int .i64 aw] 59)).alloc (Obj.cells #[.int .i64 bi, .int .i64 bw] 59)).alloc (Obj.cells #[.int .i64 ci, .int .i64 cw] 59)).alloc (Obj.cells #[.int .i64 0, .int .i64 0] 59)).frozen? ⟨w.heap.size + 4, 0, none⟩ = false := by go_simp
  have f1 : (((((w.alloc (Obj.cells #[.int .i64 37, .int .i64 xa, .int .i64 xb, .int .i64 xc, .int .i64 n, .int .i64 m, .int .i64 xi, .int .i64 xw, .string nm] 61)).alloc (Obj.cells #[.int .i64 ai, .int .i64 aw] 59)).alloc (Obj.cells #[.int .i64 bi, .int .i64 bw] 59)).alloc (Obj.cells #[.int .i64 ci, .int .i64 cw] 59)).alloc (Obj.cells #[.int .i64 0, .int .i64 0] 59)).frozen? ⟨w.heap.size + 4, 1, none⟩ = false := by go_simp
  generalize (((((w.alloc (Obj.cells #[.int .i64 37, .int .i64 xa, .int .i64 xb, .int .i64 xc, .int .i64 n, .int .i64 m, .int .i64 xi, .int .i64 xw, .string nm] 61)).alloc (Obj.cells #[.int .i64 ai, .int .i64 aw] 59)).alloc (Obj.cells #[.int .i64 bi, .int .i64 bw] 59)).alloc (Obj.cells #[.int .i64 ci, .int .i64 cw] 59)).alloc (Obj.cells #[.int .i64 0, .int .i64 0] 59)) = w2 at *
  have f0 := Later.frozen f0 (World.block_lt_of_cell? _ _ r0)
  have f1 := Later.frozen f1 (World.block_lt_of_cell? _ _ r1)
  have b0 := Later.cell b0
  have b4 := Later.cell b4
  have b5 := Later.cell b5
  have b6 := Later.cell b6
  have b7 := Later.cell b7
  have d0 := Later.cell d0
  have d1 := Later.cell d1
  have d2 := Later.cell d2
  have d3 := Later.cell d3
  have d4 := Later.cell d4
  have d5 := Later.cell d5
  have r0 := Later.cell r0
  have r1 := Later.cell r1
  go_wp2
  have hfacts : ∀ W, (W = w2 ∨ W = (w2.setCell ⟨w.heap.size + 4, 0, none⟩ (.int .i64 (0))).setCell ⟨w.heap.size + 4, 1, none⟩ (.int .i64 (aw))) → ∀ l : Later W, l.val.cell? ⟨w.heap.size, 0, none⟩ = some (.int .i64 37) ∧ l.val.cell? ⟨w.heap.size, 4, none⟩ = some (.int .i64 n) ∧ l.val.cell? ⟨w.heap.size, 5, none⟩ = some (.int .i64 m) ∧ l.val.cell? ⟨w.heap.size, 6, none⟩ = some (.int .i64 xi) ∧ l.val.cell? ⟨w.heap.size, 7, none⟩ = some (.int .i64 xw) ∧ l.val.cell? ⟨w.heap.size + 1, 0, none⟩ = some (.int .i64 ai) ∧ l.val.cell? ⟨w.heap.size + 1, 1, none⟩ = some (.int .i64 aw) ∧ l.val.cell? ⟨w.heap.size + 2, 0, none⟩ = some (.int .i64 bi) ∧ l.val.cell? ⟨w.heap.size + 2, 1, none⟩ = some (.int .i64 bw) ∧ l.val.cell? ⟨w.heap.size + 3, 0, none⟩ = some (.int .i64 ci) ∧ l.val.cell? ⟨w.heap.size + 3, 1, none⟩ = some (.int .i64 cw) := by
    rintro W (rfl | rfl) l
    · exact ⟨b0 l, b4 l, b5 l, b6 l, b7 l, d0 l, d1 l, d2 l, d3 l, d4 l, d5 l⟩
    · have ne : ∀ (b f : Nat) (v : Value), b ≠ w.heap.size + 4 → (∀ l : Later w2, l.val.cell? ⟨b, f, none⟩ = some v) → l.val.cell? ⟨b, f, none⟩ = some v := fun b f v hb h => Later.cell ((World.cell?_setCell_other _ _ _ _ (by intro e; simp only [Addr.mk.injEq] at e; omega)).trans ((World.cell?_setCell_other _ _ _ _ (by intro e; simp only [Addr.mk.injEq] at e; omega)).trans (h ⟨w2, Below.refl _ _⟩))) l
      exact ⟨ne _ _ _ (by omega) b0, ne _ _ _ (by omega) b4, ne _ _ _ (by omega) b5, ne _ _ _ (by omega) b6, ne _ _ _ (by omega) b7, ne _ _ _ (by omega) d0, ne _ _ _ (by omega) d1, ne _ _ _ (by omega) d2, ne _ _ _ (by omega) d3, ne _ _ _ (by omega) d4, ne _ _ _ (by omega) d5⟩
  have HF := Lib.hid hfacts
  clear hfacts
  refine wp_region_store' (w0 := w2) (w1 := (w2.setCell ⟨w.heap.size + 4, 0, none⟩ (.int .i64 (0))).setCell ⟨w.heap.size + 4, 1, none⟩ (.int .i64 (aw))) 13 (by kernel_rfl) (by kernel_rfl) rfl (by kernel_rfl) (LaterC.refl _) ?_
  apply Exists.intro
  refine ⟨fun W hW => ?_, ?_, ?_, ?_⟩
  · have hc := HF.out W hW
    have e0 := fun l => (hc l).1; have e1 := fun l => (hc l).2.1; have e2 := fun l => (hc l).2.2.1; have e3 := fun l => (hc l).2.2.2.1; have e4 := fun l => (hc l).2.2.2.2.1; have e5 := fun l => (hc l).2.2.2.2.2.1; have e6 := fun l => (hc l).2.2.2.2.2.2.1; have e7 := fun l => (hc l).2.2.2.2.2.2.2.1; have e8 := fun l => (hc l).2.2.2.2.2.2.2.2.1; have e9 := fun l => (hc l).2.2.2.2.2.2.2.2.2.1; have e10 := fun l => (hc l).2.2.2.2.2.2.2.2.2.2
    clear hc hW
    simp only [List.take_succ_cons, List.take_zero]
    repeat (go_big_quiet_step (first | (go_at_call 34; exact Calls.later (words_calls _ _))))
    exact wpQuiet_nil rfl
  · rfl
  · intro u
    refine ⟨(u.val.setCell ⟨w.heap.size + 4, 0, none⟩ (.int .i64 (0))).setCell ⟨w.heap.size + 4, 1, none⟩ (.int .i64 (aw)), ?_, u.set2 _ _ _ _⟩
    have s0 := r0 u; have s1 := r1 u; have t0 := f0 u; have t1 := f1 u
    go_simp
  · intro u
    have s0 : u.val.cell? ⟨w.heap.size + 4, 0, none⟩ = some (.int .i64 (0)) := Later.cell ((World.cell?_setCell_other _ _ _ _ (by intro e; simp only [Addr.mk.injEq] at e; omega)).trans (World.cell?_setCell_same _ _ _ (r0 ⟨w2, Below.refl _ _⟩))) u
    have s1 : u.val.cell? ⟨w.heap.size + 4, 1, none⟩ = some (.int .i64 (aw)) := Later.cell (World.cell?_setCell_same _ _ _ ((World.cell?_setCell_other _ _ _ _ (by intro e; simp only [Addr.mk.injEq] at e; omega)).trans (r1 ⟨w2, Below.refl _ _⟩))) u
    have hbel := Lib.hid (u.back ((HB.out.setCell (p := ⟨w.heap.size + 4, 0, none⟩) (by simp) (.int .i64 (0))).setCell (p := ⟨w.heap.size + 4, 1, none⟩) (by simp) (.int .i64 (aw))))
    simp only [List.drop_succ_cons, List.drop_zero]
    clear r0 r1 f0 f1
    go_wp2
    exact bodyPost_ret (v := .tuple #[.agg #[.int .i64 (0), .int .i64 (aw)], .bool false]) (by simp [results, Try.results69, go_sem, s0, s1]) rfl (respost_none HR.out hbel.out)
set_option maxHeartbeats 2000000 in
set_option maxRecDepth 8000 in
theorem sortOf_37_3 (n m ai aw bi bw ci cw xa xb xc xi xw : Int) (nm : ByteArray) (w : World) (h0 : (decide (0 < ai)) = true) (h1 : (bi == 0) = true) (h2 : (bw == ai) = true) :
    Calls Try.prog 69 #[.agg #[.int .i64 37, .int .i64 xa, .int .i64 xb, .int .i64 xc, .int .i64 n, .int .i64 m, .int .i64 xi, .int .i64 xw, .string nm], .agg #[.int .i64 ai, .int .i64 aw], .agg #[.int .i64 bi, .int .i64 bw], .agg #[.int .i64 ci, .int .i64 cw]] w (ResPost (resN 37 n m ai aw bi bw ci cw) w) := by
  have HR := Lib.hid (show resN 37 n m ai aw bi bw ci cw = some (0, aw) by unfold resN; simp only [h0, h1, h2]; rfl)
  go_enter Try.func69, Try.ntmps69
  go_upto_region 1 with fail
  have HB := Lib.hid (show Below w.heap.size w (((((w.alloc (Obj.cells #[.int .i64 37, .int .i64 xa, .int .i64 xb, .int .i64 xc, .int .i64 n, .int .i64 m, .int .i64 xi, .int .i64 xw, .string nm] 61)).alloc (Obj.cells #[.int .i64 ai, .int .i64 aw] 59)).alloc (Obj.cells #[.int .i64 bi, .int .i64 bw] 59)).alloc (Obj.cells #[.int .i64 ci, .int .i64 cw] 59)).alloc (Obj.cells #[.int .i64 0, .int .i64 0] 59)) from by repeat (first | exact Below.refl _ _ | refine Below.alloc ?_ (by first | (simp; done) | (simp; omega)) _))
  have b0 : (((((w.alloc (Obj.cells #[.int .i64 37, .int .i64 xa, .int .i64 xb, .int .i64 xc, .int .i64 n, .int .i64 m, .int .i64 xi, .int .i64 xw, .string nm] 61)).alloc (Obj.cells #[.int .i64 ai, .int .i64 aw] 59)).alloc (Obj.cells #[.int .i64 bi, .int .i64 bw] 59)).alloc (Obj.cells #[.int .i64 ci, .int .i64 cw] 59)).alloc (Obj.cells #[.int .i64 0, .int .i64 0] 59)).cell? ⟨w.heap.size, 0, none⟩ = some (.int .i64 37) := by go_simp
  have b4 : (((((w.alloc (Obj.cells #[.int .i64 37, .int .i64 xa, .int .i64 xb, .int .i64 xc, .int .i64 n, .int .i64 m, .int .i64 xi, .int .i64 xw, .string nm] 61)).alloc (Obj.cells #[.int .i64 ai, .int .i64 aw] 59)).alloc (Obj.cells #[.int .i64 bi, .int .i64 bw] 59)).alloc (Obj.cells #[.int .i64 ci, .int .i64 cw] 59)).alloc (Obj.cells #[.int .i64 0, .int .i64 0] 59)).cell? ⟨w.heap.size, 4, none⟩ = some (.int .i64 n) := by go_simp
  have b5 : (((((w.alloc (Obj.cells #[.int .i64 37, .int .i64 xa, .int .i64 xb, .int .i64 xc, .int .i64 n, .int .i64 m, .int .i64 xi, .int .i64 xw, .string nm] 61)).alloc (Obj.cells #[.int .i64 ai, .int .i64 aw] 59)).alloc (Obj.cells #[.int .i64 bi, .int .i64 bw] 59)).alloc (Obj.cells #[.int .i64 ci, .int .i64 cw] 59)).alloc (Obj.cells #[.int .i64 0, .int .i64 0] 59)).cell? ⟨w.heap.size, 5, none⟩ = some (.int .i64 m) := by go_simp
  have b6 : (((((w.alloc (Obj.cells #[.int .i64 37, .int .i64 xa, .int .i64 xb, .int .i64 xc, .int .i64 n, .int .i64 m, .int .i64 xi, .int .i64 xw, .string nm] 61)).alloc (Obj.cells #[.int .i64 ai, .int .i64 aw] 59)).alloc (Obj.cells #[.int .i64 bi, .int .i64 bw] 59)).alloc (Obj.cells #[.int .i64 ci, .int .i64 cw] 59)).alloc (Obj.cells #[.int .i64 0, .int .i64 0] 59)).cell? ⟨w.heap.size, 6, none⟩ = some (.int .i64 xi) := by go_simp
  have b7 : (((((w.alloc (Obj.cells #[.int .i64 37, .int .i64 xa, .int .i64 xb, .int .i64 xc, .int .i64 n, .int .i64 m, .int .i64 xi, .int .i64 xw, .string nm] 61)).alloc (Obj.cells #[.int .i64 ai, .int .i64 aw] 59)).alloc (Obj.cells #[.int .i64 bi, .int .i64 bw] 59)).alloc (Obj.cells #[.int .i64 ci, .int .i64 cw] 59)).alloc (Obj.cells #[.int .i64 0, .int .i64 0] 59)).cell? ⟨w.heap.size, 7, none⟩ = some (.int .i64 xw) := by go_simp
  have d0 : (((((w.alloc (Obj.cells #[.int .i64 37, .int .i64 xa, .int .i64 xb, .int .i64 xc, .int .i64 n, .int .i64 m, .int .i64 xi, .int .i64 xw, .string nm] 61)).alloc (Obj.cells #[.int .i64 ai, .int .i64 aw] 59)).alloc (Obj.cells #[.int .i64 bi, .int .i64 bw] 59)).alloc (Obj.cells #[.int .i64 ci, .int .i64 cw] 59)).alloc (Obj.cells #[.int .i64 0, .int .i64 0] 59)).cell? ⟨w.heap.size + 1, 0, none⟩ = some (.int .i64 ai) := by go_simp
  have d1 : (((((w.alloc (Obj.cells #[.int .i64 37, .int .i64 xa, .int .i64 xb, .int .i64 xc, .int .i64 n, .int .i64 m, .int .i64 xi, .int .i64 xw, .string nm] 61)).alloc (Obj.cells #[.int .i64 ai, .int .i64 aw] 59)).alloc (Obj.cells #[.int .i64 bi, .int .i64 bw] 59)).alloc (Obj.cells #[.int .i64 ci, .int .i64 cw] 59)).alloc (Obj.cells #[.int .i64 0, .int .i64 0] 59)).cell? ⟨w.heap.size + 1, 1, none⟩ = some (.int .i64 aw) := by go_simp
  have d2 : (((((w.alloc (Obj.cells #[.int .i64 37, .int .i64 xa, .int .i64 xb, .int .i64 xc, .int .i64 n, .int .i64 m, .int .i64 xi, .int .i64 xw, .string nm] 61)).alloc (Obj.cells #[.int .i64 ai, .int .i64 aw] 59)).alloc (Obj.cells #[.int .i64 bi, .int .i64 bw] 59)).alloc (Obj.cells #[.int .i64 ci, .int .i64 cw] 59)).alloc (Obj.cells #[.int .i64 0, .int .i64 0] 59)).cell? ⟨w.heap.size + 2, 0, none⟩ = some (.int .i64 bi) := by go_simp
  have d3 : (((((w.alloc (Obj.cells #[.int .i64 37, .int .i64 xa, .int .i64 xb, .int .i64 xc, .int .i64 n, .int .i64 m, .int .i64 xi, .int .i64 xw, .string nm] 61)).alloc (Obj.cells #[.int .i64 ai, .int .i64 aw] 59)).alloc (Obj.cells #[.int .i64 bi, .int .i64 bw] 59)).alloc (Obj.cells #[.int .i64 ci, .int .i64 cw] 59)).alloc (Obj.cells #[.int .i64 0, .int .i64 0] 59)).cell? ⟨w.heap.size + 2, 1, none⟩ = some (.int .i64 bw) := by go_simp
  have d4 : (((((w.alloc (Obj.cells #[.int .i64 37, .int .i64 xa, .int .i64 xb, .int .i64 xc, .int .i64 n, .int .i64 m, .int .i64 xi, .int .i64 xw, .string nm] 61)).alloc (Obj.cells #[.int .i64 ai, .int .i64 aw] 59)).alloc (Obj.cells #[.int .i64 bi, .int .i64 bw] 59)).alloc (Obj.cells #[.int .i64 ci, .int .i64 cw] 59)).alloc (Obj.cells #[.int .i64 0, .int .i64 0] 59)).cell? ⟨w.heap.size + 3, 0, none⟩ = some (.int .i64 ci) := by go_simp
  have d5 : (((((w.alloc (Obj.cells #[.int .i64 37, .int .i64 xa, .int .i64 xb, .int .i64 xc, .int .i64 n, .int .i64 m, .int .i64 xi, .int .i64 xw, .string nm] 61)).alloc (Obj.cells #[.int .i64 ai, .int .i64 aw] 59)).alloc (Obj.cells #[.int .i64 bi, .int .i64 bw] 59)).alloc (Obj.cells #[.int .i64 ci, .int .i64 cw] 59)).alloc (Obj.cells #[.int .i64 0, .int .i64 0] 59)).cell? ⟨w.heap.size + 3, 1, none⟩ = some (.int .i64 cw) := by go_simp
  have r0 : (((((w.alloc (Obj.cells #[.int .i64 37, .int .i64 xa, .int .i64 xb, .int .i64 xc, .int .i64 n, .int .i64 m, .int .i64 xi, .int .i64 xw, .string nm] 61)).alloc (Obj.cells #[.int .i64 ai, .int .i64 aw] 59)).alloc (Obj.cells #[.int .i64 bi, .int .i64 bw] 59)).alloc (Obj.cells #[.int .i64 ci, .int .i64 cw] 59)).alloc (Obj.cells #[.int .i64 0, .int .i64 0] 59)).cell? ⟨w.heap.size + 4, 0, none⟩ = some (.int .i64 0) := by go_simp
  have r1 : (((((w.alloc (Obj.cells #[.int .i64 37, .int .i64 xa, .int .i64 xb, .int .i64 xc, .int .i64 n, .int .i64 m, .int .i64 xi, .int .i64 xw, .string nm] 61)).alloc (Obj.cells #[.int .i64 ai, .int .i64 aw] 59)).alloc (Obj.cells #[.int .i64 bi, .int .i64 bw] 59)).alloc (Obj.cells #[.int .i64 ci, .int .i64 cw] 59)).alloc (Obj.cells #[.int .i64 0, .int .i64 0] 59)).cell? ⟨w.heap.size + 4, 1, none⟩ = some (.int .i64 0) := by go_simp
  have f0 : (((((w.alloc (Obj.cells #[.int .i64 37, .int .i64 xa, .int .i64 xb, .int .i64 xc, .int .i64 n, .int .i64 m, .int .i64 xi, .int .i64 xw, .string nm] 61)).alloc (Obj.cells #[.int .i64 ai, .int .i64 aw] 59)).alloc (Obj.cells #[.int .i64 bi, .int .i64 bw] 59)).alloc (Obj.cells #[.int .i64 ci, .int .i64 cw] 59)).alloc (Obj.cells #[.int .i64 0, .int .i64 0] 59)).frozen? ⟨w.heap.size + 4, 0, none⟩ = false := by go_simp
  have f1 : (((((w.alloc (Obj.cells #[.int .i64 37, .int .i64 xa, .int .i64 xb, .int .i64 xc, .int .i64 n, .int .i64 m, .int .i64 xi, .int .i64 xw, .string nm] 61)).alloc (Obj.cells #[.int .i64 ai, .int .i64 aw] 59)).alloc (Obj.cells #[.int .i64 bi, .int .i64 bw] 59)).alloc (Obj.cells #[.int .i64 ci, .int .i64 cw] 59)).alloc (Obj.cells #[.int .i64 0, .int .i64 0] 59)).frozen? ⟨w.heap.size + 4, 1, none⟩ = false := by go_simp
  generalize (((((w.alloc (Obj.cells #[.int .i64 37, .int .i64 xa, .int .i64 xb, .int .i64 xc, .int .i64 n, .int .i64 m, .int .i64 xi, .int .i64 xw, .string nm] 61)).alloc (Obj.cells #[.int .i64 ai, .int .i64 aw] 59)).alloc (Obj.cells #[.int .i64 bi, .int .i64 bw] 59)).alloc (Obj.cells #[.int .i64 ci, .int .i64 cw] 59)).alloc (Obj.cells #[.int .i64 0, .int .i64 0] 59)) = w2 at *
  have f0 := Later.frozen f0 (World.block_lt_of_cell? _ _ r0)
  have f1 := Later.frozen f1 (World.block_lt_of_cell? _ _ r1)
  have b0 := Later.cell b0
  have b4 := Later.cell b4
  have b5 := Later.cell b5
  have b6 := Later.cell b6
  have b7 := Later.cell b7
  have d0 := Later.cell d0
  have d1 := Later.cell d1
  have d2 := Later.cell d2
  have d3 := Later.cell d3
  have d4 := Later.cell d4
  have d5 := Later.cell d5
  have r0 := Later.cell r0
  have r1 := Later.cell r1
  go_wp2
  have hfacts : ∀ W, (W = w2 ∨ W = (w2.setCell ⟨w.heap.size + 4, 0, none⟩ (.int .i64 (0))).setCell ⟨w.heap.size + 4, 1, none⟩ (.int .i64 (aw))) → ∀ l : Later W, l.val.cell? ⟨w.heap.size, 0, none⟩ = some (.int .i64 37) ∧ l.val.cell? ⟨w.heap.size, 4, none⟩ = some (.int .i64 n) ∧ l.val.cell? ⟨w.heap.size, 5, none⟩ = some (.int .i64 m) ∧ l.val.cell? ⟨w.heap.size, 6, none⟩ = some (.int .i64 xi) ∧ l.val.cell? ⟨w.heap.size, 7, none⟩ = some (.int .i64 xw) ∧ l.val.cell? ⟨w.heap.size + 1, 0, none⟩ = some (.int .i64 ai) ∧ l.val.cell? ⟨w.heap.size + 1, 1, none⟩ = some (.int .i64 aw) ∧ l.val.cell? ⟨w.heap.size + 2, 0, none⟩ = some (.int .i64 bi) ∧ l.val.cell? ⟨w.heap.size + 2, 1, none⟩ = some (.int .i64 bw) ∧ l.val.cell? ⟨w.heap.size + 3, 0, none⟩ = some (.int .i64 ci) ∧ l.val.cell? ⟨w.heap.size + 3, 1, none⟩ = some (.int .i64 cw) := by
    rintro W (rfl | rfl) l
    · exact ⟨b0 l, b4 l, b5 l, b6 l, b7 l, d0 l, d1 l, d2 l, d3 l, d4 l, d5 l⟩
    · have ne : ∀ (b f : Nat) (v : Value), b ≠ w.heap.size + 4 → (∀ l : Later w2, l.val.cell? ⟨b, f, none⟩ = some v) → l.val.cell? ⟨b, f, none⟩ = some v := fun b f v hb h => Later.cell ((World.cell?_setCell_other _ _ _ _ (by intro e; simp only [Addr.mk.injEq] at e; omega)).trans ((World.cell?_setCell_other _ _ _ _ (by intro e; simp only [Addr.mk.injEq] at e; omega)).trans (h ⟨w2, Below.refl _ _⟩))) l
      exact ⟨ne _ _ _ (by omega) b0, ne _ _ _ (by omega) b4, ne _ _ _ (by omega) b5, ne _ _ _ (by omega) b6, ne _ _ _ (by omega) b7, ne _ _ _ (by omega) d0, ne _ _ _ (by omega) d1, ne _ _ _ (by omega) d2, ne _ _ _ (by omega) d3, ne _ _ _ (by omega) d4, ne _ _ _ (by omega) d5⟩
  have HF := Lib.hid hfacts
  clear hfacts
  refine wp_region_store' (w0 := w2) (w1 := (w2.setCell ⟨w.heap.size + 4, 0, none⟩ (.int .i64 (0))).setCell ⟨w.heap.size + 4, 1, none⟩ (.int .i64 (aw))) 13 (by kernel_rfl) (by kernel_rfl) rfl (by kernel_rfl) (LaterC.refl _) ?_
  apply Exists.intro
  refine ⟨fun W hW => ?_, ?_, ?_, ?_⟩
  · have hc := HF.out W hW
    have e0 := fun l => (hc l).1; have e1 := fun l => (hc l).2.1; have e2 := fun l => (hc l).2.2.1; have e3 := fun l => (hc l).2.2.2.1; have e4 := fun l => (hc l).2.2.2.2.1; have e5 := fun l => (hc l).2.2.2.2.2.1; have e6 := fun l => (hc l).2.2.2.2.2.2.1; have e7 := fun l => (hc l).2.2.2.2.2.2.2.1; have e8 := fun l => (hc l).2.2.2.2.2.2.2.2.1; have e9 := fun l => (hc l).2.2.2.2.2.2.2.2.2.1; have e10 := fun l => (hc l).2.2.2.2.2.2.2.2.2.2
    clear hc hW
    simp only [List.take_succ_cons, List.take_zero]
    repeat (go_big_quiet_step (first | (go_at_call 34; exact Calls.later (words_calls _ _))))
    exact wpQuiet_nil rfl
  · rfl
  · intro u
    refine ⟨(u.val.setCell ⟨w.heap.size + 4, 0, none⟩ (.int .i64 (0))).setCell ⟨w.heap.size + 4, 1, none⟩ (.int .i64 (aw)), ?_, u.set2 _ _ _ _⟩
    have s0 := r0 u; have s1 := r1 u; have t0 := f0 u; have t1 := f1 u
    go_simp
  · intro u
    have s0 : u.val.cell? ⟨w.heap.size + 4, 0, none⟩ = some (.int .i64 (0)) := Later.cell ((World.cell?_setCell_other _ _ _ _ (by intro e; simp only [Addr.mk.injEq] at e; omega)).trans (World.cell?_setCell_same _ _ _ (r0 ⟨w2, Below.refl _ _⟩))) u
    have s1 : u.val.cell? ⟨w.heap.size + 4, 1, none⟩ = some (.int .i64 (aw)) := Later.cell (World.cell?_setCell_same _ _ _ ((World.cell?_setCell_other _ _ _ _ (by intro e; simp only [Addr.mk.injEq] at e; omega)).trans (r1 ⟨w2, Below.refl _ _⟩))) u
    have hbel := Lib.hid (u.back ((HB.out.setCell (p := ⟨w.heap.size + 4, 0, none⟩) (by simp) (.int .i64 (0))).setCell (p := ⟨w.heap.size + 4, 1, none⟩) (by simp) (.int .i64 (aw))))
    simp only [List.drop_succ_cons, List.drop_zero]
    clear r0 r1 f0 f1
    go_wp2
    exact bodyPost_ret (v := .tuple #[.agg #[.int .i64 (0), .int .i64 (aw)], .bool true]) (by simp [results, Try.results69, go_sem, s0, s1]) rfl (respost_some HR.out hbel.out)
theorem sortOf_37 (n m ai aw bi bw ci cw xa xb xc xi xw : Int) (nm : ByteArray) (w : World)  :
    Calls Try.prog 69 #[.agg #[.int .i64 37, .int .i64 xa, .int .i64 xb, .int .i64 xc, .int .i64 n, .int .i64 m, .int .i64 xi, .int .i64 xw, .string nm], .agg #[.int .i64 ai, .int .i64 aw], .agg #[.int .i64 bi, .int .i64 bw], .agg #[.int .i64 ci, .int .i64 cw]] w (ResPost (resN 37 n m ai aw bi bw ci cw) w) := by
  by_cases h0 : (decide (0 < ai)) = true
  rotate_left
  · exact sortOf_37_0 n m ai aw bi bw ci cw xa xb xc xi xw nm w  (eq_false_of_ne_true h0)
  by_cases h1 : (bi == 0) = true
  rotate_left
  · exact sortOf_37_1 n m ai aw bi bw ci cw xa xb xc xi xw nm w h0 (eq_false_of_ne_true h1)
  by_cases h2 : (bw == ai) = true
  rotate_left
  · exact sortOf_37_2 n m ai aw bi bw ci cw xa xb xc xi xw nm w h0 h1 (eq_false_of_ne_true h2)
  exact sortOf_37_3 n m ai aw bi bw ci cw xa xb xc xi xw nm w h0 h1 h2
set_option maxHeartbeats 2000000 in
set_option maxRecDepth 8000 in
theorem sortOf_38_0 (n m ai aw bi bw ci cw xa xb xc xi xw : Int) (nm : ByteArray) (w : World) (h0 : (decide (0 < ai)) = false) :
    Calls Try.prog 69 #[.agg #[.int .i64 38, .int .i64 xa, .int .i64 xb, .int .i64 xc, .int .i64 n, .int .i64 m, .int .i64 xi, .int .i64 xw, .string nm], .agg #[.int .i64 ai, .int .i64 aw], .agg #[.int .i64 bi, .int .i64 bw], .agg #[.int .i64 ci, .int .i64 cw]] w (ResPost (resN 38 n m ai aw bi bw ci cw) w) := by
  have HR := Lib.hid (show resN 38 n m ai aw bi bw ci cw = none by unfold resN; simp only [h0, Bool.and_false, Bool.false_and, Bool.true_and, Bool.and_true]; rfl)
  go_enter Try.func69, Try.ntmps69
  go_upto_region 1 with fail
  have HB := Lib.hid (show Below w.heap.size w (((((w.alloc (Obj.cells #[.int .i64 38, .int .i64 xa, .int .i64 xb, .int .i64 xc, .int .i64 n, .int .i64 m, .int .i64 xi, .int .i64 xw, .string nm] 61)).alloc (Obj.cells #[.int .i64 ai, .int .i64 aw] 59)).alloc (Obj.cells #[.int .i64 bi, .int .i64 bw] 59)).alloc (Obj.cells #[.int .i64 ci, .int .i64 cw] 59)).alloc (Obj.cells #[.int .i64 0, .int .i64 0] 59)) from by repeat (first | exact Below.refl _ _ | refine Below.alloc ?_ (by first | (simp; done) | (simp; omega)) _))
  have b0 : (((((w.alloc (Obj.cells #[.int .i64 38, .int .i64 xa, .int .i64 xb, .int .i64 xc, .int .i64 n, .int .i64 m, .int .i64 xi, .int .i64 xw, .string nm] 61)).alloc (Obj.cells #[.int .i64 ai, .int .i64 aw] 59)).alloc (Obj.cells #[.int .i64 bi, .int .i64 bw] 59)).alloc (Obj.cells #[.int .i64 ci, .int .i64 cw] 59)).alloc (Obj.cells #[.int .i64 0, .int .i64 0] 59)).cell? ⟨w.heap.size, 0, none⟩ = some (.int .i64 38) := by go_simp
  have b4 : (((((w.alloc (Obj.cells #[.int .i64 38, .int .i64 xa, .int .i64 xb, .int .i64 xc, .int .i64 n, .int .i64 m, .int .i64 xi, .int .i64 xw, .string nm] 61)).alloc (Obj.cells #[.int .i64 ai, .int .i64 aw] 59)).alloc (Obj.cells #[.int .i64 bi, .int .i64 bw] 59)).alloc (Obj.cells #[.int .i64 ci, .int .i64 cw] 59)).alloc (Obj.cells #[.int .i64 0, .int .i64 0] 59)).cell? ⟨w.heap.size, 4, none⟩ = some (.int .i64 n) := by go_simp
  have b5 : (((((w.alloc (Obj.cells #[.int .i64 38, .int .i64 xa, .int .i64 xb, .int .i64 xc, .int .i64 n, .int .i64 m, .int .i64 xi, .int .i64 xw, .string nm] 61)).alloc (Obj.cells #[.int .i64 ai, .int .i64 aw] 59)).alloc (Obj.cells #[.int .i64 bi, .int .i64 bw] 59)).alloc (Obj.cells #[.int .i64 ci, .int .i64 cw] 59)).alloc (Obj.cells #[.int .i64 0, .int .i64 0] 59)).cell? ⟨w.heap.size, 5, none⟩ = some (.int .i64 m) := by go_simp
  have b6 : (((((w.alloc (Obj.cells #[.int .i64 38, .int .i64 xa, .int .i64 xb, .int .i64 xc, .int .i64 n, .int .i64 m, .int .i64 xi, .int .i64 xw, .string nm] 61)).alloc (Obj.cells #[.int .i64 ai, .int .i64 aw] 59)).alloc (Obj.cells #[.int .i64 bi, .int .i64 bw] 59)).alloc (Obj.cells #[.int .i64 ci, .int .i64 cw] 59)).alloc (Obj.cells #[.int .i64 0, .int .i64 0] 59)).cell? ⟨w.heap.size, 6, none⟩ = some (.int .i64 xi) := by go_simp
  have b7 : (((((w.alloc (Obj.cells #[.int .i64 38, .int .i64 xa, .int .i64 xb, .int .i64 xc, .int .i64 n, .int .i64 m, .int .i64 xi, .int .i64 xw, .string nm] 61)).alloc (Obj.cells #[.int .i64 ai, .int .i64 aw] 59)).alloc (Obj.cells #[.int .i64 bi, .int .i64 bw] 59)).alloc (Obj.cells #[.int .i64 ci, .int .i64 cw] 59)).alloc (Obj.cells #[.int .i64 0, .int .i64 0] 59)).cell? ⟨w.heap.size, 7, none⟩ = some (.int .i64 xw) := by go_simp
  have d0 : (((((w.alloc (Obj.cells #[.int .i64 38, .int .i64 xa, .int .i64 xb, .int .i64 xc, .int .i64 n, .int .i64 m, .int .i64 xi, .int .i64 xw, .string nm] 61)).alloc (Obj.cells #[.int .i64 ai, .int .i64 aw] 59)).alloc (Obj.cells #[.int .i64 bi, .int .i64 bw] 59)).alloc (Obj.cells #[.int .i64 ci, .int .i64 cw] 59)).alloc (Obj.cells #[.int .i64 0, .int .i64 0] 59)).cell? ⟨w.heap.size + 1, 0, none⟩ = some (.int .i64 ai) := by go_simp
  have d1 : (((((w.alloc (Obj.cells #[.int .i64 38, .int .i64 xa, .int .i64 xb, .int .i64 xc, .int .i64 n, .int .i64 m, .int .i64 xi, .int .i64 xw, .string nm] 61)).alloc (Obj.cells #[.int .i64 ai, .int .i64 aw] 59)).alloc (Obj.cells #[.int .i64 bi, .int .i64 bw] 59)).alloc (Obj.cells #[.int .i64 ci, .int .i64 cw] 59)).alloc (Obj.cells #[.int .i64 0, .int .i64 0] 59)).cell? ⟨w.heap.size + 1, 1, none⟩ = some (.int .i64 aw) := by go_simp
  have d2 : (((((w.alloc (Obj.cells #[.int .i64 38, .int .i64 xa, .int .i64 xb, .int .i64 xc, .int .i64 n, .int .i64 m, .int .i64 xi, .int .i64 xw, .string nm] 61)).alloc (Obj.cells #[.int .i64 ai, .int .i64 aw] 59)).alloc (Obj.cells #[.int .i64 bi, .int .i64 bw] 59)).alloc (Obj.cells #[.int .i64 ci, .int .i64 cw] 59)).alloc (Obj.cells #[.int .i64 0, .int .i64 0] 59)).cell? ⟨w.heap.size + 2, 0, none⟩ = some (.int .i64 bi) := by go_simp
  have d3 : (((((w.alloc (Obj.cells #[.int .i64 38, .int .i64 xa, .int .i64 xb, .int .i64 xc, .int .i64 n, .int .i64 m, .int .i64 xi, .int .i64 xw, .string nm] 61)).alloc (Obj.cells #[.int .i64 ai, .int .i64 aw] 59)).alloc (Obj.cells #[.int .i64 bi, .int .i64 bw] 59)).alloc (Obj.cells #[.int .i64 ci, .int .i64 cw] 59)).alloc (Obj.cells #[.int .i64 0, .int .i64 0] 59)).cell? ⟨w.heap.size + 2, 1, none⟩ = some (.int .i64 bw) := by go_simp
  have d4 : (((((w.alloc (Obj.cells #[.int .i64 38, .int .i64 xa, .int .i64 xb, .int .i64 xc, .int .i64 n, .int .i64 m, .int .i64 xi, .int .i64 xw, .string nm] 61)).alloc (Obj.cells #[.int .i64 ai, .int .i64 aw] 59)).alloc (Obj.cells #[.int .i64 bi, .int .i64 bw] 59)).alloc (Obj.cells #[.int .i64 ci, .int .i64 cw] 59)).alloc (Obj.cells #[.int .i64 0, .int .i64 0] 59)).cell? ⟨w.heap.size + 3, 0, none⟩ = some (.int .i64 ci) := by go_simp
  have d5 : (((((w.alloc (Obj.cells #[.int .i64 38, .int .i64 xa, .int .i64 xb, .int .i64 xc, .int .i64 n, .int .i64 m, .int .i64 xi, .int .i64 xw, .string nm] 61)).alloc (Obj.cells #[.int .i64 ai, .int .i64 aw] 59)).alloc (Obj.cells #[.int .i64 bi, .int .i64 bw] 59)).alloc (Obj.cells #[.int .i64 ci, .int .i64 cw] 59)).alloc (Obj.cells #[.int .i64 0, .int .i64 0] 59)).cell? ⟨w.heap.size + 3, 1, none⟩ = some (.int .i64 cw) := by go_simp
  have r0 : (((((w.alloc (Obj.cells #[.int .i64 38, .int .i64 xa, .int .i64 xb, .int .i64 xc, .int .i64 n, .int .i64 m, .int .i64 xi, .int .i64 xw, .string nm] 61)).alloc (Obj.cells #[.int .i64 ai, .int .i64 aw] 59)).alloc (Obj.cells #[.int .i64 bi, .int .i64 bw] 59)).alloc (Obj.cells #[.int .i64 ci, .int .i64 cw] 59)).alloc (Obj.cells #[.int .i64 0, .int .i64 0] 59)).cell? ⟨w.heap.size + 4, 0, none⟩ = some (.int .i64 0) := by go_simp
  have r1 : (((((w.alloc (Obj.cells #[.int .i64 38, .int .i64 xa, .int .i64 xb, .int .i64 xc, .int .i64 n, .int .i64 m, .int .i64 xi, .int .i64 xw, .string nm] 61)).alloc (Obj.cells #[.int .i64 ai, .int .i64 aw] 59)).alloc (Obj.cells #[.int .i64 bi, .int .i64 bw] 59)).alloc (Obj.cells #[.int .i64 ci, .int .i64 cw] 59)).alloc (Obj.cells #[.int .i64 0, .int .i64 0] 59)).cell? ⟨w.heap.size + 4, 1, none⟩ = some (.int .i64 0) := by go_simp
  have f0 : (((((w.alloc (Obj.cells #[.int .i64 38, .int .i64 xa, .int .i64 xb, .int .i64 xc, .int .i64 n, .int .i64 m, .int .i64 xi, .int .i64 xw, .string nm] 61)).alloc (Obj.cells #[.int .i64 ai, .int .i64 aw] 59)).alloc (Obj.cells #[.int .i64 bi, .int .i64 bw] 59)).alloc (Obj.cells #[.int .i64 ci, .int .i64 cw] 59)).alloc (Obj.cells #[.int .i64 0, .int .i64 0] 59)).frozen? ⟨w.heap.size + 4, 0, none⟩ = false := by go_simp
  have f1 : (((((w.alloc (Obj.cells #[.int .i64 38, .int .i64 xa, .int .i64 xb, .int .i64 xc, .int .i64 n, .int .i64 m, .int .i64 xi, .int .i64 xw, .string nm] 61)).alloc (Obj.cells #[.int .i64 ai, .int .i64 aw] 59)).alloc (Obj.cells #[.int .i64 bi, .int .i64 bw] 59)).alloc (Obj.cells #[.int .i64 ci, .int .i64 cw] 59)).alloc (Obj.cells #[.int .i64 0, .int .i64 0] 59)).frozen? ⟨w.heap.size + 4, 1, none⟩ = false := by go_simp
  generalize (((((w.alloc (Obj.cells #[.int .i64 38, .int .i64 xa, .int .i64 xb, .int .i64 xc, .int .i64 n, .int .i64 m, .int .i64 xi, .int .i64 xw, .string nm] 61)).alloc (Obj.cells #[.int .i64 ai, .int .i64 aw] 59)).alloc (Obj.cells #[.int .i64 bi, .int .i64 bw] 59)).alloc (Obj.cells #[.int .i64 ci, .int .i64 cw] 59)).alloc (Obj.cells #[.int .i64 0, .int .i64 0] 59)) = w2 at *
  have f0 := Later.frozen f0 (World.block_lt_of_cell? _ _ r0)
  have f1 := Later.frozen f1 (World.block_lt_of_cell? _ _ r1)
  have b0 := Later.cell b0
  have b4 := Later.cell b4
  have b5 := Later.cell b5
  have b6 := Later.cell b6
  have b7 := Later.cell b7
  have d0 := Later.cell d0
  have d1 := Later.cell d1
  have d2 := Later.cell d2
  have d3 := Later.cell d3
  have d4 := Later.cell d4
  have d5 := Later.cell d5
  have r0 := Later.cell r0
  have r1 := Later.cell r1
  go_wp2
  have hfacts : ∀ W, (W = w2 ∨ W = (w2.setCell ⟨w.heap.size + 4, 0, none⟩ (.int .i64 (ai))).setCell ⟨w.heap.size + 4, 1, none⟩ (.int .i64 (aw))) → ∀ l : Later W, l.val.cell? ⟨w.heap.size, 0, none⟩ = some (.int .i64 38) ∧ l.val.cell? ⟨w.heap.size, 4, none⟩ = some (.int .i64 n) ∧ l.val.cell? ⟨w.heap.size, 5, none⟩ = some (.int .i64 m) ∧ l.val.cell? ⟨w.heap.size, 6, none⟩ = some (.int .i64 xi) ∧ l.val.cell? ⟨w.heap.size, 7, none⟩ = some (.int .i64 xw) ∧ l.val.cell? ⟨w.heap.size + 1, 0, none⟩ = some (.int .i64 ai) ∧ l.val.cell? ⟨w.heap.size + 1, 1, none⟩ = some (.int .i64 aw) ∧ l.val.cell? ⟨w.heap.size + 2, 0, none⟩ = some (.int .i64 bi) ∧ l.val.cell? ⟨w.heap.size + 2, 1, none⟩ = some (.int .i64 bw) ∧ l.val.cell? ⟨w.heap.size + 3, 0, none⟩ = some (.int .i64 ci) ∧ l.val.cell? ⟨w.heap.size + 3, 1, none⟩ = some (.int .i64 cw) := by
    rintro W (rfl | rfl) l
    · exact ⟨b0 l, b4 l, b5 l, b6 l, b7 l, d0 l, d1 l, d2 l, d3 l, d4 l, d5 l⟩
    · have ne : ∀ (b f : Nat) (v : Value), b ≠ w.heap.size + 4 → (∀ l : Later w2, l.val.cell? ⟨b, f, none⟩ = some v) → l.val.cell? ⟨b, f, none⟩ = some v := fun b f v hb h => Later.cell ((World.cell?_setCell_other _ _ _ _ (by intro e; simp only [Addr.mk.injEq] at e; omega)).trans ((World.cell?_setCell_other _ _ _ _ (by intro e; simp only [Addr.mk.injEq] at e; omega)).trans (h ⟨w2, Below.refl _ _⟩))) l
      exact ⟨ne _ _ _ (by omega) b0, ne _ _ _ (by omega) b4, ne _ _ _ (by omega) b5, ne _ _ _ (by omega) b6, ne _ _ _ (by omega) b7, ne _ _ _ (by omega) d0, ne _ _ _ (by omega) d1, ne _ _ _ (by omega) d2, ne _ _ _ (by omega) d3, ne _ _ _ (by omega) d4, ne _ _ _ (by omega) d5⟩
  have HF := Lib.hid hfacts
  clear hfacts
  refine wp_region_store' (w0 := w2) (w1 := (w2.setCell ⟨w.heap.size + 4, 0, none⟩ (.int .i64 (ai))).setCell ⟨w.heap.size + 4, 1, none⟩ (.int .i64 (aw))) 18 (by kernel_rfl) (by kernel_rfl) rfl (by kernel_rfl) (LaterC.refl _) ?_
  apply Exists.intro
  refine ⟨fun W hW => ?_, ?_, ?_, ?_⟩
  · have hc := HF.out W hW
    have e0 := fun l => (hc l).1; have e1 := fun l => (hc l).2.1; have e2 := fun l => (hc l).2.2.1; have e3 := fun l => (hc l).2.2.2.1; have e4 := fun l => (hc l).2.2.2.2.1; have e5 := fun l => (hc l).2.2.2.2.2.1; have e6 := fun l => (hc l).2.2.2.2.2.2.1; have e7 := fun l => (hc l).2.2.2.2.2.2.2.1; have e8 := fun l => (hc l).2.2.2.2.2.2.2.2.1; have e9 := fun l => (hc l).2.2.2.2.2.2.2.2.2.1; have e10 := fun l => (hc l).2.2.2.2.2.2.2.2.2.2
    clear hc hW
    simp only [List.take_succ_cons, List.take_zero]
    repeat (go_big_quiet_step (first | (go_at_call 34; exact Calls.later (words_calls _ _))))
    exact wpQuiet_nil rfl
  · rfl
  · intro u
    refine ⟨(u.val.setCell ⟨w.heap.size + 4, 0, none⟩ (.int .i64 (ai))).setCell ⟨w.heap.size + 4, 1, none⟩ (.int .i64 (aw)), ?_, u.set2 _ _ _ _⟩
    have s0 := r0 u; have s1 := r1 u; have t0 := f0 u; have t1 := f1 u
    go_simp
  · intro u
    have s0 : u.val.cell? ⟨w.heap.size + 4, 0, none⟩ = some (.int .i64 (ai)) := Later.cell ((World.cell?_setCell_other _ _ _ _ (by intro e; simp only [Addr.mk.injEq] at e; omega)).trans (World.cell?_setCell_same _ _ _ (r0 ⟨w2, Below.refl _ _⟩))) u
    have s1 : u.val.cell? ⟨w.heap.size + 4, 1, none⟩ = some (.int .i64 (aw)) := Later.cell (World.cell?_setCell_same _ _ _ ((World.cell?_setCell_other _ _ _ _ (by intro e; simp only [Addr.mk.injEq] at e; omega)).trans (r1 ⟨w2, Below.refl _ _⟩))) u
    have hbel := Lib.hid (u.back ((HB.out.setCell (p := ⟨w.heap.size + 4, 0, none⟩) (by simp) (.int .i64 (ai))).setCell (p := ⟨w.heap.size + 4, 1, none⟩) (by simp) (.int .i64 (aw))))
    simp only [List.drop_succ_cons, List.drop_zero]
    clear r0 r1 f0 f1
    go_wp2
    exact bodyPost_ret (v := .tuple #[.agg #[.int .i64 (ai), .int .i64 (aw)], .bool false]) (by simp [results, Try.results69, go_sem, s0, s1]) rfl (respost_none HR.out hbel.out)
set_option maxHeartbeats 2000000 in
set_option maxRecDepth 8000 in
theorem sortOf_38_1 (n m ai aw bi bw ci cw xa xb xc xi xw : Int) (nm : ByteArray) (w : World) (h0 : (decide (0 < ai)) = true) (h1 : (bi == 0) = false) :
    Calls Try.prog 69 #[.agg #[.int .i64 38, .int .i64 xa, .int .i64 xb, .int .i64 xc, .int .i64 n, .int .i64 m, .int .i64 xi, .int .i64 xw, .string nm], .agg #[.int .i64 ai, .int .i64 aw], .agg #[.int .i64 bi, .int .i64 bw], .agg #[.int .i64 ci, .int .i64 cw]] w (ResPost (resN 38 n m ai aw bi bw ci cw) w) := by
  have HR := Lib.hid (show resN 38 n m ai aw bi bw ci cw = none by unfold resN; simp only [h0, h1, Bool.and_false, Bool.false_and, Bool.true_and, Bool.and_true]; rfl)
  go_enter Try.func69, Try.ntmps69
  go_upto_region 1 with fail
  have HB := Lib.hid (show Below w.heap.size w (((((w.alloc (Obj.cells #[.int .i64 38, .int .i64 xa, .int .i64 xb, .int .i64 xc, .int .i64 n, .int .i64 m, .int .i64 xi, .int .i64 xw, .string nm] 61)).alloc (Obj.cells #[.int .i64 ai, .int .i64 aw] 59)).alloc (Obj.cells #[.int .i64 bi, .int .i64 bw] 59)).alloc (Obj.cells #[.int .i64 ci, .int .i64 cw] 59)).alloc (Obj.cells #[.int .i64 0, .int .i64 0] 59)) from by repeat (first | exact Below.refl _ _ | refine Below.alloc ?_ (by first | (simp; done) | (simp; omega)) _))
  have b0 : (((((w.alloc (Obj.cells #[.int .i64 38, .int .i64 xa, .int .i64 xb, .int .i64 xc, .int .i64 n, .int .i64 m, .int .i64 xi, .int .i64 xw, .string nm] 61)).alloc (Obj.cells #[.int .i64 ai, .int .i64 aw] 59)).alloc (Obj.cells #[.int .i64 bi, .int .i64 bw] 59)).alloc (Obj.cells #[.int .i64 ci, .int .i64 cw] 59)).alloc (Obj.cells #[.int .i64 0, .int .i64 0] 59)).cell? ⟨w.heap.size, 0, none⟩ = some (.int .i64 38) := by go_simp
  have b4 : (((((w.alloc (Obj.cells #[.int .i64 38, .int .i64 xa, .int .i64 xb, .int .i64 xc, .int .i64 n, .int .i64 m, .int .i64 xi, .int .i64 xw, .string nm] 61)).alloc (Obj.cells #[.int .i64 ai, .int .i64 aw] 59)).alloc (Obj.cells #[.int .i64 bi, .int .i64 bw] 59)).alloc (Obj.cells #[.int .i64 ci, .int .i64 cw] 59)).alloc (Obj.cells #[.int .i64 0, .int .i64 0] 59)).cell? ⟨w.heap.size, 4, none⟩ = some (.int .i64 n) := by go_simp
  have b5 : (((((w.alloc (Obj.cells #[.int .i64 38, .int .i64 xa, .int .i64 xb, .int .i64 xc, .int .i64 n, .int .i64 m, .int .i64 xi, .int .i64 xw, .string nm] 61)).alloc (Obj.cells #[.int .i64 ai, .int .i64 aw] 59)).alloc (Obj.cells #[.int .i64 bi, .int .i64 bw] 59)).alloc (Obj.cells #[.int .i64 ci, .int .i64 cw] 59)).alloc (Obj.cells #[.int .i64 0, .int .i64 0] 59)).cell? ⟨w.heap.size, 5, none⟩ = some (.int .i64 m) := by go_simp
  have b6 : (((((w.alloc (Obj.cells #[.int .i64 38, .int .i64 xa, .int .i64 xb, .int .i64 xc, .int .i64 n, .int .i64 m, .int .i64 xi, .int .i64 xw, .string nm] 61)).alloc (Obj.cells #[.int .i64 ai, .int .i64 aw] 59)).alloc (Obj.cells #[.int .i64 bi, .int .i64 bw] 59)).alloc (Obj.cells #[.int .i64 ci, .int .i64 cw] 59)).alloc (Obj.cells #[.int .i64 0, .int .i64 0] 59)).cell? ⟨w.heap.size, 6, none⟩ = some (.int .i64 xi) := by go_simp
  have b7 : (((((w.alloc (Obj.cells #[.int .i64 38, .int .i64 xa, .int .i64 xb, .int .i64 xc, .int .i64 n, .int .i64 m, .int .i64 xi, .int .i64 xw, .string nm] 61)).alloc (Obj.cells #[.int .i64 ai, .int .i64 aw] 59)).alloc (Obj.cells #[.int .i64 bi, .int .i64 bw] 59)).alloc (Obj.cells #[.int .i64 ci, .int .i64 cw] 59)).alloc (Obj.cells #[.int .i64 0, .int .i64 0] 59)).cell? ⟨w.heap.size, 7, none⟩ = some (.int .i64 xw) := by go_simp
  have d0 : (((((w.alloc (Obj.cells #[.int .i64 38, .int .i64 xa, .int .i64 xb, .int .i64 xc, .int .i64 n, .int .i64 m, .int .i64 xi, .int .i64 xw, .string nm] 61)).alloc (Obj.cells #[.int .i64 ai, .int .i64 aw] 59)).alloc (Obj.cells #[.int .i64 bi, .int .i64 bw] 59)).alloc (Obj.cells #[.int .i64 ci, .int .i64 cw] 59)).alloc (Obj.cells #[.int .i64 0, .int .i64 0] 59)).cell? ⟨w.heap.size + 1, 0, none⟩ = some (.int .i64 ai) := by go_simp
  have d1 : (((((w.alloc (Obj.cells #[.int .i64 38, .int .i64 xa, .int .i64 xb, .int .i64 xc, .int .i64 n, .int .i64 m, .int .i64 xi, .int .i64 xw, .string nm] 61)).alloc (Obj.cells #[.int .i64 ai, .int .i64 aw] 59)).alloc (Obj.cells #[.int .i64 bi, .int .i64 bw] 59)).alloc (Obj.cells #[.int .i64 ci, .int .i64 cw] 59)).alloc (Obj.cells #[.int .i64 0, .int .i64 0] 59)).cell? ⟨w.heap.size + 1, 1, none⟩ = some (.int .i64 aw) := by go_simp
  have d2 : (((((w.alloc (Obj.cells #[.int .i64 38, .int .i64 xa, .int .i64 xb, .int .i64 xc, .int .i64 n, .int .i64 m, .int .i64 xi, .int .i64 xw, .string nm] 61)).alloc (Obj.cells #[.int .i64 ai, .int .i64 aw] 59)).alloc (Obj.cells #[.int .i64 bi, .int .i64 bw] 59)).alloc (Obj.cells #[.int .i64 ci, .int .i64 cw] 59)).alloc (Obj.cells #[.int .i64 0, .int .i64 0] 59)).cell? ⟨w.heap.size + 2, 0, none⟩ = some (.int .i64 bi) := by go_simp
  have d3 : (((((w.alloc (Obj.cells #[.int .i64 38, .int .i64 xa, .int .i64 xb, .int .i64 xc, .int .i64 n, .int .i64 m, .int .i64 xi, .int .i64 xw, .string nm] 61)).alloc (Obj.cells #[.int .i64 ai, .int .i64 aw] 59)).alloc (Obj.cells #[.int .i64 bi, .int .i64 bw] 59)).alloc (Obj.cells #[.int .i64 ci, .int .i64 cw] 59)).alloc (Obj.cells #[.int .i64 0, .int .i64 0] 59)).cell? ⟨w.heap.size + 2, 1, none⟩ = some (.int .i64 bw) := by go_simp
  have d4 : (((((w.alloc (Obj.cells #[.int .i64 38, .int .i64 xa, .int .i64 xb, .int .i64 xc, .int .i64 n, .int .i64 m, .int .i64 xi, .int .i64 xw, .string nm] 61)).alloc (Obj.cells #[.int .i64 ai, .int .i64 aw] 59)).alloc (Obj.cells #[.int .i64 bi, .int .i64 bw] 59)).alloc (Obj.cells #[.int .i64 ci, .int .i64 cw] 59)).alloc (Obj.cells #[.int .i64 0, .int .i64 0] 59)).cell? ⟨w.heap.size + 3, 0, none⟩ = some (.int .i64 ci) := by go_simp
  have d5 : (((((w.alloc (Obj.cells #[.int .i64 38, .int .i64 xa, .int .i64 xb, .int .i64 xc, .int .i64 n, .int .i64 m, .int .i64 xi, .int .i64 xw, .string nm] 61)).alloc (Obj.cells #[.int .i64 ai, .int .i64 aw] 59)).alloc (Obj.cells #[.int .i64 bi, .int .i64 bw] 59)).alloc (Obj.cells #[.int .i64 ci, .int .i64 cw] 59)).alloc (Obj.cells #[.int .i64 0, .int .i64 0] 59)).cell? ⟨w.heap.size + 3, 1, none⟩ = some (.int .i64 cw) := by go_simp
  have r0 : (((((w.alloc (Obj.cells #[.int .i64 38, .int .i64 xa, .int .i64 xb, .int .i64 xc, .int .i64 n, .int .i64 m, .int .i64 xi, .int .i64 xw, .string nm] 61)).alloc (Obj.cells #[.int .i64 ai, .int .i64 aw] 59)).alloc (Obj.cells #[.int .i64 bi, .int .i64 bw] 59)).alloc (Obj.cells #[.int .i64 ci, .int .i64 cw] 59)).alloc (Obj.cells #[.int .i64 0, .int .i64 0] 59)).cell? ⟨w.heap.size + 4, 0, none⟩ = some (.int .i64 0) := by go_simp
  have r1 : (((((w.alloc (Obj.cells #[.int .i64 38, .int .i64 xa, .int .i64 xb, .int .i64 xc, .int .i64 n, .int .i64 m, .int .i64 xi, .int .i64 xw, .string nm] 61)).alloc (Obj.cells #[.int .i64 ai, .int .i64 aw] 59)).alloc (Obj.cells #[.int .i64 bi, .int .i64 bw] 59)).alloc (Obj.cells #[.int .i64 ci, .int .i64 cw] 59)).alloc (Obj.cells #[.int .i64 0, .int .i64 0] 59)).cell? ⟨w.heap.size + 4, 1, none⟩ = some (.int .i64 0) := by go_simp
  have f0 : (((((w.alloc (Obj.cells #[.int .i64 38, .int .i64 xa, .int .i64 xb, .int .i64 xc, .int .i64 n, .int .i64 m, .int .i64 xi, .int .i64 xw, .string nm] 61)).alloc (Obj.cells #[.int .i64 ai, .int .i64 aw] 59)).alloc (Obj.cells #[.int .i64 bi, .int .i64 bw] 59)).alloc (Obj.cells #[.int .i64 ci, .int .i64 cw] 59)).alloc (Obj.cells #[.int .i64 0, .int .i64 0] 59)).frozen? ⟨w.heap.size + 4, 0, none⟩ = false := by go_simp
  have f1 : (((((w.alloc (Obj.cells #[.int .i64 38, .int .i64 xa, .int .i64 xb, .int .i64 xc, .int .i64 n, .int .i64 m, .int .i64 xi, .int .i64 xw, .string nm] 61)).alloc (Obj.cells #[.int .i64 ai, .int .i64 aw] 59)).alloc (Obj.cells #[.int .i64 bi, .int .i64 bw] 59)).alloc (Obj.cells #[.int .i64 ci, .int .i64 cw] 59)).alloc (Obj.cells #[.int .i64 0, .int .i64 0] 59)).frozen? ⟨w.heap.size + 4, 1, none⟩ = false := by go_simp
  generalize (((((w.alloc (Obj.cells #[.int .i64 38, .int .i64 xa, .int .i64 xb, .int .i64 xc, .int .i64 n, .int .i64 m, .int .i64 xi, .int .i64 xw, .string nm] 61)).alloc (Obj.cells #[.int .i64 ai, .int .i64 aw] 59)).alloc (Obj.cells #[.int .i64 bi, .int .i64 bw] 59)).alloc (Obj.cells #[.int .i64 ci, .int .i64 cw] 59)).alloc (Obj.cells #[.int .i64 0, .int .i64 0] 59)) = w2 at *
  have f0 := Later.frozen f0 (World.block_lt_of_cell? _ _ r0)
  have f1 := Later.frozen f1 (World.block_lt_of_cell? _ _ r1)
  have b0 := Later.cell b0
  have b4 := Later.cell b4
  have b5 := Later.cell b5
  have b6 := Later.cell b6
  have b7 := Later.cell b7
  have d0 := Later.cell d0
  have d1 := Later.cell d1
  have d2 := Later.cell d2
  have d3 := Later.cell d3
  have d4 := Later.cell d4
  have d5 := Later.cell d5
  have r0 := Later.cell r0
  have r1 := Later.cell r1
  go_wp2
  have hfacts : ∀ W, (W = w2 ∨ W = (w2.setCell ⟨w.heap.size + 4, 0, none⟩ (.int .i64 (ai))).setCell ⟨w.heap.size + 4, 1, none⟩ (.int .i64 (aw))) → ∀ l : Later W, l.val.cell? ⟨w.heap.size, 0, none⟩ = some (.int .i64 38) ∧ l.val.cell? ⟨w.heap.size, 4, none⟩ = some (.int .i64 n) ∧ l.val.cell? ⟨w.heap.size, 5, none⟩ = some (.int .i64 m) ∧ l.val.cell? ⟨w.heap.size, 6, none⟩ = some (.int .i64 xi) ∧ l.val.cell? ⟨w.heap.size, 7, none⟩ = some (.int .i64 xw) ∧ l.val.cell? ⟨w.heap.size + 1, 0, none⟩ = some (.int .i64 ai) ∧ l.val.cell? ⟨w.heap.size + 1, 1, none⟩ = some (.int .i64 aw) ∧ l.val.cell? ⟨w.heap.size + 2, 0, none⟩ = some (.int .i64 bi) ∧ l.val.cell? ⟨w.heap.size + 2, 1, none⟩ = some (.int .i64 bw) ∧ l.val.cell? ⟨w.heap.size + 3, 0, none⟩ = some (.int .i64 ci) ∧ l.val.cell? ⟨w.heap.size + 3, 1, none⟩ = some (.int .i64 cw) := by
    rintro W (rfl | rfl) l
    · exact ⟨b0 l, b4 l, b5 l, b6 l, b7 l, d0 l, d1 l, d2 l, d3 l, d4 l, d5 l⟩
    · have ne : ∀ (b f : Nat) (v : Value), b ≠ w.heap.size + 4 → (∀ l : Later w2, l.val.cell? ⟨b, f, none⟩ = some v) → l.val.cell? ⟨b, f, none⟩ = some v := fun b f v hb h => Later.cell ((World.cell?_setCell_other _ _ _ _ (by intro e; simp only [Addr.mk.injEq] at e; omega)).trans ((World.cell?_setCell_other _ _ _ _ (by intro e; simp only [Addr.mk.injEq] at e; omega)).trans (h ⟨w2, Below.refl _ _⟩))) l
      exact ⟨ne _ _ _ (by omega) b0, ne _ _ _ (by omega) b4, ne _ _ _ (by omega) b5, ne _ _ _ (by omega) b6, ne _ _ _ (by omega) b7, ne _ _ _ (by omega) d0, ne _ _ _ (by omega) d1, ne _ _ _ (by omega) d2, ne _ _ _ (by omega) d3, ne _ _ _ (by omega) d4, ne _ _ _ (by omega) d5⟩
  have HF := Lib.hid hfacts
  clear hfacts
  refine wp_region_store' (w0 := w2) (w1 := (w2.setCell ⟨w.heap.size + 4, 0, none⟩ (.int .i64 (ai))).setCell ⟨w.heap.size + 4, 1, none⟩ (.int .i64 (aw))) 18 (by kernel_rfl) (by kernel_rfl) rfl (by kernel_rfl) (LaterC.refl _) ?_
  apply Exists.intro
  refine ⟨fun W hW => ?_, ?_, ?_, ?_⟩
  · have hc := HF.out W hW
    have e0 := fun l => (hc l).1; have e1 := fun l => (hc l).2.1; have e2 := fun l => (hc l).2.2.1; have e3 := fun l => (hc l).2.2.2.1; have e4 := fun l => (hc l).2.2.2.2.1; have e5 := fun l => (hc l).2.2.2.2.2.1; have e6 := fun l => (hc l).2.2.2.2.2.2.1; have e7 := fun l => (hc l).2.2.2.2.2.2.2.1; have e8 := fun l => (hc l).2.2.2.2.2.2.2.2.1; have e9 := fun l => (hc l).2.2.2.2.2.2.2.2.2.1; have e10 := fun l => (hc l).2.2.2.2.2.2.2.2.2.2
    clear hc hW
    simp only [List.take_succ_cons, List.take_zero]
    repeat (go_big_quiet_step (first | (go_at_call 34; exact Calls.later (words_calls _ _))))
    exact wpQuiet_nil rfl
  · rfl
  · intro u
    refine ⟨(u.val.setCell ⟨w.heap.size + 4, 0, none⟩ (.int .i64 (ai))).setCell ⟨w.heap.size + 4, 1, none⟩ (.int .i64 (aw)), ?_, u.set2 _ _ _ _⟩
    have s0 := r0 u; have s1 := r1 u; have t0 := f0 u; have t1 := f1 u
    go_simp
  · intro u
    have s0 : u.val.cell? ⟨w.heap.size + 4, 0, none⟩ = some (.int .i64 (ai)) := Later.cell ((World.cell?_setCell_other _ _ _ _ (by intro e; simp only [Addr.mk.injEq] at e; omega)).trans (World.cell?_setCell_same _ _ _ (r0 ⟨w2, Below.refl _ _⟩))) u
    have s1 : u.val.cell? ⟨w.heap.size + 4, 1, none⟩ = some (.int .i64 (aw)) := Later.cell (World.cell?_setCell_same _ _ _ ((World.cell?_setCell_other _ _ _ _ (by intro e; simp only [Addr.mk.injEq] at e; omega)).trans (r1 ⟨w2, Below.refl _ _⟩))) u
    have hbel := Lib.hid (u.back ((HB.out.setCell (p := ⟨w.heap.size + 4, 0, none⟩) (by simp) (.int .i64 (ai))).setCell (p := ⟨w.heap.size + 4, 1, none⟩) (by simp) (.int .i64 (aw))))
    simp only [List.drop_succ_cons, List.drop_zero]
    clear r0 r1 f0 f1
    go_wp2
    exact bodyPost_ret (v := .tuple #[.agg #[.int .i64 (ai), .int .i64 (aw)], .bool false]) (by simp [results, Try.results69, go_sem, s0, s1]) rfl (respost_none HR.out hbel.out)
set_option maxHeartbeats 2000000 in
set_option maxRecDepth 8000 in
theorem sortOf_38_2 (n m ai aw bi bw ci cw xa xb xc xi xw : Int) (nm : ByteArray) (w : World) (h0 : (decide (0 < ai)) = true) (h1 : (bi == 0) = true) (h2 : (bw == ai) = false) :
    Calls Try.prog 69 #[.agg #[.int .i64 38, .int .i64 xa, .int .i64 xb, .int .i64 xc, .int .i64 n, .int .i64 m, .int .i64 xi, .int .i64 xw, .string nm], .agg #[.int .i64 ai, .int .i64 aw], .agg #[.int .i64 bi, .int .i64 bw], .agg #[.int .i64 ci, .int .i64 cw]] w (ResPost (resN 38 n m ai aw bi bw ci cw) w) := by
  have HR := Lib.hid (show resN 38 n m ai aw bi bw ci cw = none by unfold resN; simp only [h0, h1, h2, Bool.and_false, Bool.false_and, Bool.true_and, Bool.and_true]; rfl)
  go_enter Try.func69, Try.ntmps69
  go_upto_region 1 with fail
  have HB := Lib.hid (show Below w.heap.size w (((((w.alloc (Obj.cells #[.int .i64 38, .int .i64 xa, .int .i64 xb, .int .i64 xc, .int .i64 n, .int .i64 m, .int .i64 xi, .int .i64 xw, .string nm] 61)).alloc (Obj.cells #[.int .i64 ai, .int .i64 aw] 59)).alloc (Obj.cells #[.int .i64 bi, .int .i64 bw] 59)).alloc (Obj.cells #[.int .i64 ci, .int .i64 cw] 59)).alloc (Obj.cells #[.int .i64 0, .int .i64 0] 59)) from by repeat (first | exact Below.refl _ _ | refine Below.alloc ?_ (by first | (simp; done) | (simp; omega)) _))
  have b0 : (((((w.alloc (Obj.cells #[.int .i64 38, .int .i64 xa, .int .i64 xb, .int .i64 xc, .int .i64 n, .int .i64 m, .int .i64 xi, .int .i64 xw, .string nm] 61)).alloc (Obj.cells #[.int .i64 ai, .int .i64 aw] 59)).alloc (Obj.cells #[.int .i64 bi, .int .i64 bw] 59)).alloc (Obj.cells #[.int .i64 ci, .int .i64 cw] 59)).alloc (Obj.cells #[.int .i64 0, .int .i64 0] 59)).cell? ⟨w.heap.size, 0, none⟩ = some (.int .i64 38) := by go_simp
  have b4 : (((((w.alloc (Obj.cells #[.int .i64 38, .int .i64 xa, .int .i64 xb, .int .i64 xc, .int .i64 n, .int .i64 m, .int .i64 xi, .int .i64 xw, .string nm] 61)).alloc (Obj.cells #[.int .i64 ai, .int .i64 aw] 59)).alloc (Obj.cells #[.int .i64 bi, .int .i64 bw] 59)).alloc (Obj.cells #[.int .i64 ci, .int .i64 cw] 59)).alloc (Obj.cells #[.int .i64 0, .int .i64 0] 59)).cell? ⟨w.heap.size, 4, none⟩ = some (.int .i64 n) := by go_simp
  have b5 : (((((w.alloc (Obj.cells #[.int .i64 38, .int .i64 xa, .int .i64 xb, .int .i64 xc, .int .i64 n, .int .i64 m, .int .i64 xi, .int .i64 xw, .string nm] 61)).alloc (Obj.cells #[.int .i64 ai, .int .i64 aw] 59)).alloc (Obj.cells #[.int .i64 bi, .int .i64 bw] 59)).alloc (Obj.cells #[.int .i64 ci, .int .i64 cw] 59)).alloc (Obj.cells #[.int .i64 0, .int .i64 0] 59)).cell? ⟨w.heap.size, 5, none⟩ = some (.int .i64 m) := by go_simp
  have b6 : (((((w.alloc (Obj.cells #[.int .i64 38, .int .i64 xa, .int .i64 xb, .int .i64 xc, .int .i64 n, .int .i64 m, .int .i64 xi, .int .i64 xw, .string nm] 61)).alloc (Obj.cells #[.int .i64 ai, .int .i64 aw] 59)).alloc (Obj.cells #[.int .i64 bi, .int .i64 bw] 59)).alloc (Obj.cells #[.int .i64 ci, .int .i64 cw] 59)).alloc (Obj.cells #[.int .i64 0, .int .i64 0] 59)).cell? ⟨w.heap.size, 6, none⟩ = some (.int .i64 xi) := by go_simp
  have b7 : (((((w.alloc (Obj.cells #[.int .i64 38, .int .i64 xa, .int .i64 xb, .int .i64 xc, .int .i64 n, .int .i64 m, .int .i64 xi, .int .i64 xw, .string nm] 61)).alloc (Obj.cells #[.int .i64 ai, .int .i64 aw] 59)).alloc (Obj.cells #[.int .i64 bi, .int .i64 bw] 59)).alloc (Obj.cells #[.int .i64 ci, .int .i64 cw] 59)).alloc (Obj.cells #[.int .i64 0, .int .i64 0] 59)).cell? ⟨w.heap.size, 7, none⟩ = some (.int .i64 xw) := by go_simp
  have d0 : (((((w.alloc (Obj.cells #[.int .i64 38, .int .i64 xa, .int .i64 xb, .int .i64 xc, .int .i64 n, .int .i64 m, .int .i64 xi, .int .i64 xw, .string nm] 61)).alloc (Obj.cells #[.int .i64 ai, .int .i64 aw] 59)).alloc (Obj.cells #[.int .i64 bi, .int .i64 bw] 59)).alloc (Obj.cells #[.int .i64 ci, .int .i64 cw] 59)).alloc (Obj.cells #[.int .i64 0, .int .i64 0] 59)).cell? ⟨w.heap.size + 1, 0, none⟩ = some (.int .i64 ai) := by go_simp
  have d1 : (((((w.alloc (Obj.cells #[.int .i64 38, .int .i64 xa, .int .i64 xb, .int .i64 xc, .int .i64 n, .int .i64 m, .int .i64 xi, .int .i64 xw, .string nm] 61)).alloc (Obj.cells #[.int .i64 ai, .int .i64 aw] 59)).alloc (Obj.cells #[.int .i64 bi, .int .i64 bw] 59)).alloc (Obj.cells #[.int .i64 ci, .int .i64 cw] 59)).alloc (Obj.cells #[.int .i64 0, .int .i64 0] 59)).cell? ⟨w.heap.size + 1, 1, none⟩ = some (.int .i64 aw) := by go_simp
  have d2 : (((((w.alloc (Obj.cells #[.int .i64 38, .int .i64 xa, .int .i64 xb, .int .i64 xc, .int .i64 n, .int .i64 m, .int .i64 xi, .int .i64 xw, .string nm] 61)).alloc (Obj.cells #[.int .i64 ai, .int .i64 aw] 59)).alloc (Obj.cells #[.int .i64 bi, .int .i64 bw] 59)).alloc (Obj.cells #[.int .i64 ci, .int .i64 cw] 59)).alloc (Obj.cells #[.int .i64 0, .int .i64 0] 59)).cell? ⟨w.heap.size + 2, 0, none⟩ = some (.int .i64 bi) := by go_simp
  have d3 : (((((w.alloc (Obj.cells #[.int .i64 38, .int .i64 xa, .int .i64 xb, .int .i64 xc, .int .i64 n, .int .i64 m, .int .i64 xi, .int .i64 xw, .string nm] 61)).alloc (Obj.cells #[.int .i64 ai, .int .i64 aw] 59)).alloc (Obj.cells #[.int .i64 bi, .int .i64 bw] 59)).alloc (Obj.cells #[.int .i64 ci, .int .i64 cw] 59)).alloc (Obj.cells #[.int .i64 0, .int .i64 0] 59)).cell? ⟨w.heap.size + 2, 1, none⟩ = some (.int .i64 bw) := by go_simp
  have d4 : (((((w.alloc (Obj.cells #[.int .i64 38, .int .i64 xa, .int .i64 xb, .int .i64 xc, .int .i64 n, .int .i64 m, .int .i64 xi, .int .i64 xw, .string nm] 61)).alloc (Obj.cells #[.int .i64 ai, .int .i64 aw] 59)).alloc (Obj.cells #[.int .i64 bi, .int .i64 bw] 59)).alloc (Obj.cells #[.int .i64 ci, .int .i64 cw] 59)).alloc (Obj.cells #[.int .i64 0, .int .i64 0] 59)).cell? ⟨w.heap.size + 3, 0, none⟩ = some (.int .i64 ci) := by go_simp
  have d5 : (((((w.alloc (Obj.cells #[.int .i64 38, .int .i64 xa, .int .i64 xb, .int .i64 xc, .int .i64 n, .int .i64 m, .int .i64 xi, .int .i64 xw, .string nm] 61)).alloc (Obj.cells #[.int .i64 ai, .int .i64 aw] 59)).alloc (Obj.cells #[.int .i64 bi, .int .i64 bw] 59)).alloc (Obj.cells #[.int .i64 ci, .int .i64 cw] 59)).alloc (Obj.cells #[.int .i64 0, .int .i64 0] 59)).cell? ⟨w.heap.size + 3, 1, none⟩ = some (.int .i64 cw) := by go_simp
  have r0 : (((((w.alloc (Obj.cells #[.int .i64 38, .int .i64 xa, .int .i64 xb, .int .i64 xc, .int .i64 n, .int .i64 m, .int .i64 xi, .int .i64 xw, .string nm] 61)).alloc (Obj.cells #[.int .i64 ai, .int .i64 aw] 59)).alloc (Obj.cells #[.int .i64 bi, .int .i64 bw] 59)).alloc (Obj.cells #[.int .i64 ci, .int .i64 cw] 59)).alloc (Obj.cells #[.int .i64 0, .int .i64 0] 59)).cell? ⟨w.heap.size + 4, 0, none⟩ = some (.int .i64 0) := by go_simp
  have r1 : (((((w.alloc (Obj.cells #[.int .i64 38, .int .i64 xa, .int .i64 xb, .int .i64 xc, .int .i64 n, .int .i64 m, .int .i64 xi, .int .i64 xw, .string nm] 61)).alloc (Obj.cells #[.int .i64 ai, .int .i64 aw] 59)).alloc (Obj.cells #[.int .i64 bi, .int .i64 bw] 59)).alloc (Obj.cells #[.int .i64 ci, .int .i64 cw] 59)).alloc (Obj.cells #[.int .i64 0, .int .i64 0] 59)).cell? ⟨w.heap.size + 4, 1, none⟩ = some (.int .i64 0) := by go_simp
  have f0 : (((((w.alloc (Obj.cells #[.int .i64 38, .int .i64 xa, .int .i64 xb, .int .i64 xc, .int .i64 n, .int .i64 m, .int .i64 xi, .int .i64 xw, .string nm] 61)).alloc (Obj.cells #[.int .i64 ai, .int .i64 aw] 59)).alloc (Obj.cells #[.int .i64 bi, .int .i64 bw] 59)).alloc (Obj.cells #[.int .i64 ci, .int .i64 cw] 59)).alloc (Obj.cells #[.int .i64 0, .int .i64 0] 59)).frozen? ⟨w.heap.size + 4, 0, none⟩ = false := by go_simp
  have f1 : (((((w.alloc (Obj.cells #[.int .i64 38, .int .i64 xa, .int .i64 xb, .int .i64 xc, .int .i64 n, .int .i64 m, .int .i64 xi, .int .i64 xw, .string nm] 61)).alloc (Obj.cells #[.int .i64 ai, .int .i64 aw] 59)).alloc (Obj.cells #[.int .i64 bi, .int .i64 bw] 59)).alloc (Obj.cells #[.int .i64 ci, .int .i64 cw] 59)).alloc (Obj.cells #[.int .i64 0, .int .i64 0] 59)).frozen? ⟨w.heap.size + 4, 1, none⟩ = false := by go_simp
  generalize (((((w.alloc (Obj.cells #[.int .i64 38, .int .i64 xa, .int .i64 xb, .int .i64 xc, .int .i64 n, .int .i64 m, .int .i64 xi, .int .i64 xw, .string nm] 61)).alloc (Obj.cells #[.int .i64 ai, .int .i64 aw] 59)).alloc (Obj.cells #[.int .i64 bi, .int .i64 bw] 59)).alloc (Obj.cells #[.int .i64 ci, .int .i64 cw] 59)).alloc (Obj.cells #[.int .i64 0, .int .i64 0] 59)) = w2 at *
  have f0 := Later.frozen f0 (World.block_lt_of_cell? _ _ r0)
  have f1 := Later.frozen f1 (World.block_lt_of_cell? _ _ r1)
  have b0 := Later.cell b0
  have b4 := Later.cell b4
  have b5 := Later.cell b5
  have b6 := Later.cell b6
  have b7 := Later.cell b7
  have d0 := Later.cell d0
  have d1 := Later.cell d1
  have d2 := Later.cell d2
  have d3 := Later.cell d3
  have d4 := Later.cell d4
  have d5 := Later.cell d5
  have r0 := Later.cell r0
  have r1 := Later.cell r1
  go_wp2
  have hfacts : ∀ W, (W = w2 ∨ W = (w2.setCell ⟨w.heap.size + 4, 0, none⟩ (.int .i64 (ai))).setCell ⟨w.heap.size + 4, 1, none⟩ (.int .i64 (aw))) → ∀ l : Later W, l.val.cell? ⟨w.heap.size, 0, none⟩ = some (.int .i64 38) ∧ l.val.cell? ⟨w.heap.size, 4, none⟩ = some (.int .i64 n) ∧ l.val.cell? ⟨w.heap.size, 5, none⟩ = some (.int .i64 m) ∧ l.val.cell? ⟨w.heap.size, 6, none⟩ = some (.int .i64 xi) ∧ l.val.cell? ⟨w.heap.size, 7, none⟩ = some (.int .i64 xw) ∧ l.val.cell? ⟨w.heap.size + 1, 0, none⟩ = some (.int .i64 ai) ∧ l.val.cell? ⟨w.heap.size + 1, 1, none⟩ = some (.int .i64 aw) ∧ l.val.cell? ⟨w.heap.size + 2, 0, none⟩ = some (.int .i64 bi) ∧ l.val.cell? ⟨w.heap.size + 2, 1, none⟩ = some (.int .i64 bw) ∧ l.val.cell? ⟨w.heap.size + 3, 0, none⟩ = some (.int .i64 ci) ∧ l.val.cell? ⟨w.heap.size + 3, 1, none⟩ = some (.int .i64 cw) := by
    rintro W (rfl | rfl) l
    · exact ⟨b0 l, b4 l, b5 l, b6 l, b7 l, d0 l, d1 l, d2 l, d3 l, d4 l, d5 l⟩
    · have ne : ∀ (b f : Nat) (v : Value), b ≠ w.heap.size + 4 → (∀ l : Later w2, l.val.cell? ⟨b, f, none⟩ = some v) → l.val.cell? ⟨b, f, none⟩ = some v := fun b f v hb h => Later.cell ((World.cell?_setCell_other _ _ _ _ (by intro e; simp only [Addr.mk.injEq] at e; omega)).trans ((World.cell?_setCell_other _ _ _ _ (by intro e; simp only [Addr.mk.injEq] at e; omega)).trans (h ⟨w2, Below.refl _ _⟩))) l
      exact ⟨ne _ _ _ (by omega) b0, ne _ _ _ (by omega) b4, ne _ _ _ (by omega) b5, ne _ _ _ (by omega) b6, ne _ _ _ (by omega) b7, ne _ _ _ (by omega) d0, ne _ _ _ (by omega) d1, ne _ _ _ (by omega) d2, ne _ _ _ (by omega) d3, ne _ _ _ (by omega) d4, ne _ _ _ (by omega) d5⟩
  have HF := Lib.hid hfacts
  clear hfacts
  refine wp_region_store' (w0 := w2) (w1 := (w2.setCell ⟨w.heap.size + 4, 0, none⟩ (.int .i64 (ai))).setCell ⟨w.heap.size + 4, 1, none⟩ (.int .i64 (aw))) 18 (by kernel_rfl) (by kernel_rfl) rfl (by kernel_rfl) (LaterC.refl _) ?_
  apply Exists.intro
  refine ⟨fun W hW => ?_, ?_, ?_, ?_⟩
  · have hc := HF.out W hW
    have e0 := fun l => (hc l).1; have e1 := fun l => (hc l).2.1; have e2 := fun l => (hc l).2.2.1; have e3 := fun l => (hc l).2.2.2.1; have e4 := fun l => (hc l).2.2.2.2.1; have e5 := fun l => (hc l).2.2.2.2.2.1; have e6 := fun l => (hc l).2.2.2.2.2.2.1; have e7 := fun l => (hc l).2.2.2.2.2.2.2.1; have e8 := fun l => (hc l).2.2.2.2.2.2.2.2.1; have e9 := fun l => (hc l).2.2.2.2.2.2.2.2.2.1; have e10 := fun l => (hc l).2.2.2.2.2.2.2.2.2.2
    clear hc hW
    simp only [List.take_succ_cons, List.take_zero]
    repeat (go_big_quiet_step (first | (go_at_call 34; exact Calls.later (words_calls _ _))))
    exact wpQuiet_nil rfl
  · rfl
  · intro u
    refine ⟨(u.val.setCell ⟨w.heap.size + 4, 0, none⟩ (.int .i64 (ai))).setCell ⟨w.heap.size + 4, 1, none⟩ (.int .i64 (aw)), ?_, u.set2 _ _ _ _⟩
    have s0 := r0 u; have s1 := r1 u; have t0 := f0 u; have t1 := f1 u
    go_simp
  · intro u
    have s0 : u.val.cell? ⟨w.heap.size + 4, 0, none⟩ = some (.int .i64 (ai)) := Later.cell ((World.cell?_setCell_other _ _ _ _ (by intro e; simp only [Addr.mk.injEq] at e; omega)).trans (World.cell?_setCell_same _ _ _ (r0 ⟨w2, Below.refl _ _⟩))) u
    have s1 : u.val.cell? ⟨w.heap.size + 4, 1, none⟩ = some (.int .i64 (aw)) := Later.cell (World.cell?_setCell_same _ _ _ ((World.cell?_setCell_other _ _ _ _ (by intro e; simp only [Addr.mk.injEq] at e; omega)).trans (r1 ⟨w2, Below.refl _ _⟩))) u
    have hbel := Lib.hid (u.back ((HB.out.setCell (p := ⟨w.heap.size + 4, 0, none⟩) (by simp) (.int .i64 (ai))).setCell (p := ⟨w.heap.size + 4, 1, none⟩) (by simp) (.int .i64 (aw))))
    simp only [List.drop_succ_cons, List.drop_zero]
    clear r0 r1 f0 f1
    go_wp2
    exact bodyPost_ret (v := .tuple #[.agg #[.int .i64 (ai), .int .i64 (aw)], .bool false]) (by simp [results, Try.results69, go_sem, s0, s1]) rfl (respost_none HR.out hbel.out)
set_option maxHeartbeats 2000000 in
set_option maxRecDepth 8000 in
theorem sortOf_38_3 (n m ai aw bi bw ci cw xa xb xc xi xw : Int) (nm : ByteArray) (w : World) (h0 : (decide (0 < ai)) = true) (h1 : (bi == 0) = true) (h2 : (bw == ai) = true) (h3 : (ci == 0) = false) :
    Calls Try.prog 69 #[.agg #[.int .i64 38, .int .i64 xa, .int .i64 xb, .int .i64 xc, .int .i64 n, .int .i64 m, .int .i64 xi, .int .i64 xw, .string nm], .agg #[.int .i64 ai, .int .i64 aw], .agg #[.int .i64 bi, .int .i64 bw], .agg #[.int .i64 ci, .int .i64 cw]] w (ResPost (resN 38 n m ai aw bi bw ci cw) w) := by
  have HR := Lib.hid (show resN 38 n m ai aw bi bw ci cw = none by unfold resN; simp only [h0, h1, h2, h3, Bool.and_false, Bool.false_and, Bool.true_and, Bool.and_true]; rfl)
  go_enter Try.func69, Try.ntmps69
  go_upto_region 1 with fail
  have HB := Lib.hid (show Below w.heap.size w (((((w.alloc (Obj.cells #[.int .i64 38, .int .i64 xa, .int .i64 xb, .int .i64 xc, .int .i64 n, .int .i64 m, .int .i64 xi, .int .i64 xw, .string nm] 61)).alloc (Obj.cells #[.int .i64 ai, .int .i64 aw] 59)).alloc (Obj.cells #[.int .i64 bi, .int .i64 bw] 59)).alloc (Obj.cells #[.int .i64 ci, .int .i64 cw] 59)).alloc (Obj.cells #[.int .i64 0, .int .i64 0] 59)) from by repeat (first | exact Below.refl _ _ | refine Below.alloc ?_ (by first | (simp; done) | (simp; omega)) _))
  have b0 : (((((w.alloc (Obj.cells #[.int .i64 38, .int .i64 xa, .int .i64 xb, .int .i64 xc, .int .i64 n, .int .i64 m, .int .i64 xi, .int .i64 xw, .string nm] 61)).alloc (Obj.cells #[.int .i64 ai, .int .i64 aw] 59)).alloc (Obj.cells #[.int .i64 bi, .int .i64 bw] 59)).alloc (Obj.cells #[.int .i64 ci, .int .i64 cw] 59)).alloc (Obj.cells #[.int .i64 0, .int .i64 0] 59)).cell? ⟨w.heap.size, 0, none⟩ = some (.int .i64 38) := by go_simp
  have b4 : (((((w.alloc (Obj.cells #[.int .i64 38, .int .i64 xa, .int .i64 xb, .int .i64 xc, .int .i64 n, .int .i64 m, .int .i64 xi, .int .i64 xw, .string nm] 61)).alloc (Obj.cells #[.int .i64 ai, .int .i64 aw] 59)).alloc (Obj.cells #[.int .i64 bi, .int .i64 bw] 59)).alloc (Obj.cells #[.int .i64 ci, .int .i64 cw] 59)).alloc (Obj.cells #[.int .i64 0, .int .i64 0] 59)).cell? ⟨w.heap.size, 4, none⟩ = some (.int .i64 n) := by go_simp
  have b5 : (((((w.alloc (Obj.cells #[.int .i64 38, .int .i64 xa, .int .i64 xb, .int .i64 xc, .int .i64 n, .int .i64 m, .int .i64 xi, .int .i64 xw, .string nm] 61)).alloc (Obj.cells #[.int .i64 ai, .int .i64 aw] 59)).alloc (Obj.cells #[.int .i64 bi, .int .i64 bw] 59)).alloc (Obj.cells #[.int .i64 ci, .int .i64 cw] 59)).alloc (Obj.cells #[.int .i64 0, .int .i64 0] 59)).cell? ⟨w.heap.size, 5, none⟩ = some (.int .i64 m) := by go_simp
  have b6 : (((((w.alloc (Obj.cells #[.int .i64 38, .int .i64 xa, .int .i64 xb, .int .i64 xc, .int .i64 n, .int .i64 m, .int .i64 xi, .int .i64 xw, .string nm] 61)).alloc (Obj.cells #[.int .i64 ai, .int .i64 aw] 59)).alloc (Obj.cells #[.int .i64 bi, .int .i64 bw] 59)).alloc (Obj.cells #[.int .i64 ci, .int .i64 cw] 59)).alloc (Obj.cells #[.int .i64 0, .int .i64 0] 59)).cell? ⟨w.heap.size, 6, none⟩ = some (.int .i64 xi) := by go_simp
  have b7 : (((((w.alloc (Obj.cells #[.int .i64 38, .int .i64 xa, .int .i64 xb, .int .i64 xc, .int .i64 n, .int .i64 m, .int .i64 xi, .int .i64 xw, .string nm] 61)).alloc (Obj.cells #[.int .i64 ai, .int .i64 aw] 59)).alloc (Obj.cells #[.int .i64 bi, .int .i64 bw] 59)).alloc (Obj.cells #[.int .i64 ci, .int .i64 cw] 59)).alloc (Obj.cells #[.int .i64 0, .int .i64 0] 59)).cell? ⟨w.heap.size, 7, none⟩ = some (.int .i64 xw) := by go_simp
  have d0 : (((((w.alloc (Obj.cells #[.int .i64 38, .int .i64 xa, .int .i64 xb, .int .i64 xc, .int .i64 n, .int .i64 m, .int .i64 xi, .int .i64 xw, .string nm] 61)).alloc (Obj.cells #[.int .i64 ai, .int .i64 aw] 59)).alloc (Obj.cells #[.int .i64 bi, .int .i64 bw] 59)).alloc (Obj.cells #[.int .i64 ci, .int .i64 cw] 59)).alloc (Obj.cells #[.int .i64 0, .int .i64 0] 59)).cell? ⟨w.heap.size + 1, 0, none⟩ = some (.int .i64 ai) := by go_simp
  have d1 : (((((w.alloc (Obj.cells #[.int .i64 38, .int .i64 xa, .int .i64 xb, .int .i64 xc, .int .i64 n, .int .i64 m, .int .i64 xi, .int .i64 xw, .string nm] 61)).alloc (Obj.cells #[.int .i64 ai, .int .i64 aw] 59)).alloc (Obj.cells #[.int .i64 bi, .int .i64 bw] 59)).alloc (Obj.cells #[.int .i64 ci, .int .i64 cw] 59)).alloc (Obj.cells #[.int .i64 0, .int .i64 0] 59)).cell? ⟨w.heap.size + 1, 1, none⟩ = some (.int .i64 aw) := by go_simp
  have d2 : (((((w.alloc (Obj.cells #[.int .i64 38, .int .i64 xa, .int .i64 xb, .int .i64 xc, .int .i64 n, .int .i64 m, .int .i64 xi, .int .i64 xw, .string nm] 61)).alloc (Obj.cells #[.int .i64 ai, .int .i64 aw] 59)).alloc (Obj.cells #[.int .i64 bi, .int .i64 bw] 59)).alloc (Obj.cells #[.int .i64 ci, .int .i64 cw] 59)).alloc (Obj.cells #[.int .i64 0, .int .i64 0] 59)).cell? ⟨w.heap.size + 2, 0, none⟩ = some (.int .i64 bi) := by go_simp
  have d3 : (((((w.alloc (Obj.cells #[.int .i64 38, .int .i64 xa, .int .i64 xb, .int .i64 xc, .int .i64 n, .int .i64 m, .int .i64 xi, .int .i64 xw, .string nm] 61)).alloc (Obj.cells #[.int .i64 ai, .int .i64 aw] 59)).alloc (Obj.cells #[.int .i64 bi, .int .i64 bw] 59)).alloc (Obj.cells #[.int .i64 ci, .int .i64 cw] 59)).alloc (Obj.cells #[.int .i64 0, .int .i64 0] 59)).cell? ⟨w.heap.size + 2, 1, none⟩ = some (.int .i64 bw) := by go_simp
  have d4 : (((((w.alloc (Obj.cells #[.int .i64 38, .int .i64 xa, .int .i64 xb, .int .i64 xc, .int .i64 n, .int .i64 m, .int .i64 xi, .int .i64 xw, .string nm] 61)).alloc (Obj.cells #[.int .i64 ai, .int .i64 aw] 59)).alloc (Obj.cells #[.int .i64 bi, .int .i64 bw] 59)).alloc (Obj.cells #[.int .i64 ci, .int .i64 cw] 59)).alloc (Obj.cells #[.int .i64 0, .int .i64 0] 59)).cell? ⟨w.heap.size + 3, 0, none⟩ = some (.int .i64 ci) := by go_simp
  have d5 : (((((w.alloc (Obj.cells #[.int .i64 38, .int .i64 xa, .int .i64 xb, .int .i64 xc, .int .i64 n, .int .i64 m, .int .i64 xi, .int .i64 xw, .string nm] 61)).alloc (Obj.cells #[.int .i64 ai, .int .i64 aw] 59)).alloc (Obj.cells #[.int .i64 bi, .int .i64 bw] 59)).alloc (Obj.cells #[.int .i64 ci, .int .i64 cw] 59)).alloc (Obj.cells #[.int .i64 0, .int .i64 0] 59)).cell? ⟨w.heap.size + 3, 1, none⟩ = some (.int .i64 cw) := by go_simp
  have r0 : (((((w.alloc (Obj.cells #[.int .i64 38, .int .i64 xa, .int .i64 xb, .int .i64 xc, .int .i64 n, .int .i64 m, .int .i64 xi, .int .i64 xw, .string nm] 61)).alloc (Obj.cells #[.int .i64 ai, .int .i64 aw] 59)).alloc (Obj.cells #[.int .i64 bi, .int .i64 bw] 59)).alloc (Obj.cells #[.int .i64 ci, .int .i64 cw] 59)).alloc (Obj.cells #[.int .i64 0, .int .i64 0] 59)).cell? ⟨w.heap.size + 4, 0, none⟩ = some (.int .i64 0) := by go_simp
  have r1 : (((((w.alloc (Obj.cells #[.int .i64 38, .int .i64 xa, .int .i64 xb, .int .i64 xc, .int .i64 n, .int .i64 m, .int .i64 xi, .int .i64 xw, .string nm] 61)).alloc (Obj.cells #[.int .i64 ai, .int .i64 aw] 59)).alloc (Obj.cells #[.int .i64 bi, .int .i64 bw] 59)).alloc (Obj.cells #[.int .i64 ci, .int .i64 cw] 59)).alloc (Obj.cells #[.int .i64 0, .int .i64 0] 59)).cell? ⟨w.heap.size + 4, 1, none⟩ = some (.int .i64 0) := by go_simp
  have f0 : (((((w.alloc (Obj.cells #[.int .i64 38, .int .i64 xa, .int .i64 xb, .int .i64 xc, .int .i64 n, .int .i64 m, .int .i64 xi, .int .i64 xw, .string nm] 61)).alloc (Obj.cells #[.int .i64 ai, .int .i64 aw] 59)).alloc (Obj.cells #[.int .i64 bi, .int .i64 bw] 59)).alloc (Obj.cells #[.int .i64 ci, .int .i64 cw] 59)).alloc (Obj.cells #[.int .i64 0, .int .i64 0] 59)).frozen? ⟨w.heap.size + 4, 0, none⟩ = false := by go_simp
  have f1 : (((((w.alloc (Obj.cells #[.int .i64 38, .int .i64 xa, .int .i64 xb, .int .i64 xc, .int .i64 n, .int .i64 m, .int .i64 xi, .int .i64 xw, .string nm] 61)).alloc (Obj.cells #[.int .i64 ai, .int .i64 aw] 59)).alloc (Obj.cells #[.int .i64 bi, .int .i64 bw] 59)).alloc (Obj.cells #[.int .i64 ci, .int .i64 cw] 59)).alloc (Obj.cells #[.int .i64 0, .int .i64 0] 59)).frozen? ⟨w.heap.size + 4, 1, none⟩ = false := by go_simp
  generalize (((((w.alloc (Obj.cells #[.int .i64 38, .int .i64 xa, .int .i64 xb, .int .i64 xc, .int .i64 n, .int .i64 m, .int .i64 xi, .int .i64 xw, .string nm] 61)).alloc (Obj.cells #[.int .i64 ai, .int .i64 aw] 59)).alloc (Obj.cells #[.int .i64 bi, .int .i64 bw] 59)).alloc (Obj.cells #[.int .i64 ci, .int .i64 cw] 59)).alloc (Obj.cells #[.int .i64 0, .int .i64 0] 59)) = w2 at *
  have f0 := Later.frozen f0 (World.block_lt_of_cell? _ _ r0)
  have f1 := Later.frozen f1 (World.block_lt_of_cell? _ _ r1)
  have b0 := Later.cell b0
  have b4 := Later.cell b4
  have b5 := Later.cell b5
  have b6 := Later.cell b6
  have b7 := Later.cell b7
  have d0 := Later.cell d0
  have d1 := Later.cell d1
  have d2 := Later.cell d2
  have d3 := Later.cell d3
  have d4 := Later.cell d4
  have d5 := Later.cell d5
  have r0 := Later.cell r0
  have r1 := Later.cell r1
  go_wp2
  have hfacts : ∀ W, (W = w2 ∨ W = (w2.setCell ⟨w.heap.size + 4, 0, none⟩ (.int .i64 (ai))).setCell ⟨w.heap.size + 4, 1, none⟩ (.int .i64 (aw))) → ∀ l : Later W, l.val.cell? ⟨w.heap.size, 0, none⟩ = some (.int .i64 38) ∧ l.val.cell? ⟨w.heap.size, 4, none⟩ = some (.int .i64 n) ∧ l.val.cell? ⟨w.heap.size, 5, none⟩ = some (.int .i64 m) ∧ l.val.cell? ⟨w.heap.size, 6, none⟩ = some (.int .i64 xi) ∧ l.val.cell? ⟨w.heap.size, 7, none⟩ = some (.int .i64 xw) ∧ l.val.cell? ⟨w.heap.size + 1, 0, none⟩ = some (.int .i64 ai) ∧ l.val.cell? ⟨w.heap.size + 1, 1, none⟩ = some (.int .i64 aw) ∧ l.val.cell? ⟨w.heap.size + 2, 0, none⟩ = some (.int .i64 bi) ∧ l.val.cell? ⟨w.heap.size + 2, 1, none⟩ = some (.int .i64 bw) ∧ l.val.cell? ⟨w.heap.size + 3, 0, none⟩ = some (.int .i64 ci) ∧ l.val.cell? ⟨w.heap.size + 3, 1, none⟩ = some (.int .i64 cw) := by
    rintro W (rfl | rfl) l
    · exact ⟨b0 l, b4 l, b5 l, b6 l, b7 l, d0 l, d1 l, d2 l, d3 l, d4 l, d5 l⟩
    · have ne : ∀ (b f : Nat) (v : Value), b ≠ w.heap.size + 4 → (∀ l : Later w2, l.val.cell? ⟨b, f, none⟩ = some v) → l.val.cell? ⟨b, f, none⟩ = some v := fun b f v hb h => Later.cell ((World.cell?_setCell_other _ _ _ _ (by intro e; simp only [Addr.mk.injEq] at e; omega)).trans ((World.cell?_setCell_other _ _ _ _ (by intro e; simp only [Addr.mk.injEq] at e; omega)).trans (h ⟨w2, Below.refl _ _⟩))) l
      exact ⟨ne _ _ _ (by omega) b0, ne _ _ _ (by omega) b4, ne _ _ _ (by omega) b5, ne _ _ _ (by omega) b6, ne _ _ _ (by omega) b7, ne _ _ _ (by omega) d0, ne _ _ _ (by omega) d1, ne _ _ _ (by omega) d2, ne _ _ _ (by omega) d3, ne _ _ _ (by omega) d4, ne _ _ _ (by omega) d5⟩
  have HF := Lib.hid hfacts
  clear hfacts
  refine wp_region_store' (w0 := w2) (w1 := (w2.setCell ⟨w.heap.size + 4, 0, none⟩ (.int .i64 (ai))).setCell ⟨w.heap.size + 4, 1, none⟩ (.int .i64 (aw))) 18 (by kernel_rfl) (by kernel_rfl) rfl (by kernel_rfl) (LaterC.refl _) ?_
  apply Exists.intro
  refine ⟨fun W hW => ?_, ?_, ?_, ?_⟩
  · have hc := HF.out W hW
    have e0 := fun l => (hc l).1; have e1 := fun l => (hc l).2.1; have e2 := fun l => (hc l).2.2.1; have e3 := fun l => (hc l).2.2.2.1; have e4 := fun l => (hc l).2.2.2.2.1; have e5 := fun l => (hc l).2.2.2.2.2.1; have e6 := fun l => (hc l).2.2.2.2.2.2.1; have e7 := fun l => (hc l).2.2.2.2.2.2.2.1; have e8 := fun l => (hc l).2.2.2.2.2.2.2.2.1; have e9 := fun l => (hc l).2.2.2.2.2.2.2.2.2.1; have e10 := fun l => (hc l).2.2.2.2.2.2.2.2.2.2
    clear hc hW
    simp only [List.take_succ_cons, List.take_zero]
    repeat (go_big_quiet_step (first | (go_at_call 34; exact Calls.later (words_calls _ _))))
    exact wpQuiet_nil rfl
  · rfl
  · intro u
    refine ⟨(u.val.setCell ⟨w.heap.size + 4, 0, none⟩ (.int .i64 (ai))).setCell ⟨w.heap.size + 4, 1, none⟩ (.int .i64 (aw)), ?_, u.set2 _ _ _ _⟩
    have s0 := r0 u; have s1 := r1 u; have t0 := f0 u; have t1 := f1 u
    go_simp
  · intro u
    have s0 : u.val.cell? ⟨w.heap.size + 4, 0, none⟩ = some (.int .i64 (ai)) := Later.cell ((World.cell?_setCell_other _ _ _ _ (by intro e; simp only [Addr.mk.injEq] at e; omega)).trans (World.cell?_setCell_same _ _ _ (r0 ⟨w2, Below.refl _ _⟩))) u
    have s1 : u.val.cell? ⟨w.heap.size + 4, 1, none⟩ = some (.int .i64 (aw)) := Later.cell (World.cell?_setCell_same _ _ _ ((World.cell?_setCell_other _ _ _ _ (by intro e; simp only [Addr.mk.injEq] at e; omega)).trans (r1 ⟨w2, Below.refl _ _⟩))) u
    have hbel := Lib.hid (u.back ((HB.out.setCell (p := ⟨w.heap.size + 4, 0, none⟩) (by simp) (.int .i64 (ai))).setCell (p := ⟨w.heap.size + 4, 1, none⟩) (by simp) (.int .i64 (aw))))
    simp only [List.drop_succ_cons, List.drop_zero]
    clear r0 r1 f0 f1
    go_wp2
    exact bodyPost_ret (v := .tuple #[.agg #[.int .i64 (ai), .int .i64 (aw)], .bool false]) (by simp [results, Try.results69, go_sem, s0, s1]) rfl (respost_none HR.out hbel.out)
set_option maxHeartbeats 2000000 in
set_option maxRecDepth 8000 in
theorem sortOf_38_4 (n m ai aw bi bw ci cw xa xb xc xi xw : Int) (nm : ByteArray) (w : World) (h0 : (decide (0 < ai)) = true) (h1 : (bi == 0) = true) (h2 : (bw == ai) = true) (h3 : (ci == 0) = true) (h4 : (cw == aw) = false) :
    Calls Try.prog 69 #[.agg #[.int .i64 38, .int .i64 xa, .int .i64 xb, .int .i64 xc, .int .i64 n, .int .i64 m, .int .i64 xi, .int .i64 xw, .string nm], .agg #[.int .i64 ai, .int .i64 aw], .agg #[.int .i64 bi, .int .i64 bw], .agg #[.int .i64 ci, .int .i64 cw]] w (ResPost (resN 38 n m ai aw bi bw ci cw) w) := by
  have HR := Lib.hid (show resN 38 n m ai aw bi bw ci cw = none by unfold resN; simp only [h0, h1, h2, h3, h4, Bool.and_false, Bool.false_and, Bool.true_and, Bool.and_true]; rfl)
  go_enter Try.func69, Try.ntmps69
  go_upto_region 1 with fail
  have HB := Lib.hid (show Below w.heap.size w (((((w.alloc (Obj.cells #[.int .i64 38, .int .i64 xa, .int .i64 xb, .int .i64 xc, .int .i64 n, .int .i64 m, .int .i64 xi, .int .i64 xw, .string nm] 61)).alloc (Obj.cells #[.int .i64 ai, .int .i64 aw] 59)).alloc (Obj.cells #[.int .i64 bi, .int .i64 bw] 59)).alloc (Obj.cells #[.int .i64 ci, .int .i64 cw] 59)).alloc (Obj.cells #[.int .i64 0, .int .i64 0] 59)) from by repeat (first | exact Below.refl _ _ | refine Below.alloc ?_ (by first | (simp; done) | (simp; omega)) _))
  have b0 : (((((w.alloc (Obj.cells #[.int .i64 38, .int .i64 xa, .int .i64 xb, .int .i64 xc, .int .i64 n, .int .i64 m, .int .i64 xi, .int .i64 xw, .string nm] 61)).alloc (Obj.cells #[.int .i64 ai, .int .i64 aw] 59)).alloc (Obj.cells #[.int .i64 bi, .int .i64 bw] 59)).alloc (Obj.cells #[.int .i64 ci, .int .i64 cw] 59)).alloc (Obj.cells #[.int .i64 0, .int .i64 0] 59)).cell? ⟨w.heap.size, 0, none⟩ = some (.int .i64 38) := by go_simp
  have b4 : (((((w.alloc (Obj.cells #[.int .i64 38, .int .i64 xa, .int .i64 xb, .int .i64 xc, .int .i64 n, .int .i64 m, .int .i64 xi, .int .i64 xw, .string nm] 61)).alloc (Obj.cells #[.int .i64 ai, .int .i64 aw] 59)).alloc (Obj.cells #[.int .i64 bi, .int .i64 bw] 59)).alloc (Obj.cells #[.int .i64 ci, .int .i64 cw] 59)).alloc (Obj.cells #[.int .i64 0, .int .i64 0] 59)).cell? ⟨w.heap.size, 4, none⟩ = some (.int .i64 n) := by go_simp
  have b5 : (((((w.alloc (Obj.cells #[.int .i64 38, .int .i64 xa, .int .i64 xb, .int .i64 xc, .int .i64 n, .int .i64 m, .int .i64 xi, .int .i64 xw, .string nm] 61)).alloc (Obj.cells #[.int .i64 ai, .int .i64 aw] 59)).alloc (Obj.cells #[.int .i64 bi, .int .i64 bw] 59)).alloc (Obj.cells #[.int .i64 ci, .int .i64 cw] 59)).alloc (Obj.cells #[.int .i64 0, .int .i64 0] 59)).cell? ⟨w.heap.size, 5, none⟩ = some (.int .i64 m) := by go_simp
  have b6 : (((((w.alloc (Obj.cells #[.int .i64 38, .int .i64 xa, .int .i64 xb, .int .i64 xc, .int .i64 n, .int .i64 m, .int .i64 xi, .int .i64 xw, .string nm] 61)).alloc (Obj.cells #[.int .i64 ai, .int .i64 aw] 59)).alloc (Obj.cells #[.int .i64 bi, .int .i64 bw] 59)).alloc (Obj.cells #[.int .i64 ci, .int .i64 cw] 59)).alloc (Obj.cells #[.int .i64 0, .int .i64 0] 59)).cell? ⟨w.heap.size, 6, none⟩ = some (.int .i64 xi) := by go_simp
  have b7 : (((((w.alloc (Obj.cells #[.int .i64 38, .int .i64 xa, .int .i64 xb, .int .i64 xc, .int .i64 n, .int .i64 m, .int .i64 xi, .int .i64 xw, .string nm] 61)).alloc (Obj.cells #[.int .i64 ai, .int .i64 aw] 59)).alloc (Obj.cells #[.int .i64 bi, .int .i64 bw] 59)).alloc (Obj.cells #[.int .i64 ci, .int .i64 cw] 59)).alloc (Obj.cells #[.int .i64 0, .int .i64 0] 59)).cell? ⟨w.heap.size, 7, none⟩ = some (.int .i64 xw) := by go_simp
  have d0 : (((((w.alloc (Obj.cells #[.int .i64 38, .int .i64 xa, .int .i64 xb, .int .i64 xc, .int .i64 n, .int .i64 m, .int .i64 xi, .int .i64 xw, .string nm] 61)).alloc (Obj.cells #[.int .i64 ai, .int .i64 aw] 59)).alloc (Obj.cells #[.int .i64 bi, .int .i64 bw] 59)).alloc (Obj.cells #[.int .i64 ci, .int .i64 cw] 59)).alloc (Obj.cells #[.int .i64 0, .int .i64 0] 59)).cell? ⟨w.heap.size + 1, 0, none⟩ = some (.int .i64 ai) := by go_simp
  have d1 : (((((w.alloc (Obj.cells #[.int .i64 38, .int .i64 xa, .int .i64 xb, .int .i64 xc, .int .i64 n, .int .i64 m, .int .i64 xi, .int .i64 xw, .string nm] 61)).alloc (Obj.cells #[.int .i64 ai, .int .i64 aw] 59)).alloc (Obj.cells #[.int .i64 bi, .int .i64 bw] 59)).alloc (Obj.cells #[.int .i64 ci, .int .i64 cw] 59)).alloc (Obj.cells #[.int .i64 0, .int .i64 0] 59)).cell? ⟨w.heap.size + 1, 1, none⟩ = some (.int .i64 aw) := by go_simp
  have d2 : (((((w.alloc (Obj.cells #[.int .i64 38, .int .i64 xa, .int .i64 xb, .int .i64 xc, .int .i64 n, .int .i64 m, .int .i64 xi, .int .i64 xw, .string nm] 61)).alloc (Obj.cells #[.int .i64 ai, .int .i64 aw] 59)).alloc (Obj.cells #[.int .i64 bi, .int .i64 bw] 59)).alloc (Obj.cells #[.int .i64 ci, .int .i64 cw] 59)).alloc (Obj.cells #[.int .i64 0, .int .i64 0] 59)).cell? ⟨w.heap.size + 2, 0, none⟩ = some (.int .i64 bi) := by go_simp
  have d3 : (((((w.alloc (Obj.cells #[.int .i64 38, .int .i64 xa, .int .i64 xb, .int .i64 xc, .int .i64 n, .int .i64 m, .int .i64 xi, .int .i64 xw, .string nm] 61)).alloc (Obj.cells #[.int .i64 ai, .int .i64 aw] 59)).alloc (Obj.cells #[.int .i64 bi, .int .i64 bw] 59)).alloc (Obj.cells #[.int .i64 ci, .int .i64 cw] 59)).alloc (Obj.cells #[.int .i64 0, .int .i64 0] 59)).cell? ⟨w.heap.size + 2, 1, none⟩ = some (.int .i64 bw) := by go_simp
  have d4 : (((((w.alloc (Obj.cells #[.int .i64 38, .int .i64 xa, .int .i64 xb, .int .i64 xc, .int .i64 n, .int .i64 m, .int .i64 xi, .int .i64 xw, .string nm] 61)).alloc (Obj.cells #[.int .i64 ai, .int .i64 aw] 59)).alloc (Obj.cells #[.int .i64 bi, .int .i64 bw] 59)).alloc (Obj.cells #[.int .i64 ci, .int .i64 cw] 59)).alloc (Obj.cells #[.int .i64 0, .int .i64 0] 59)).cell? ⟨w.heap.size + 3, 0, none⟩ = some (.int .i64 ci) := by go_simp
  have d5 : (((((w.alloc (Obj.cells #[.int .i64 38, .int .i64 xa, .int .i64 xb, .int .i64 xc, .int .i64 n, .int .i64 m, .int .i64 xi, .int .i64 xw, .string nm] 61)).alloc (Obj.cells #[.int .i64 ai, .int .i64 aw] 59)).alloc (Obj.cells #[.int .i64 bi, .int .i64 bw] 59)).alloc (Obj.cells #[.int .i64 ci, .int .i64 cw] 59)).alloc (Obj.cells #[.int .i64 0, .int .i64 0] 59)).cell? ⟨w.heap.size + 3, 1, none⟩ = some (.int .i64 cw) := by go_simp
  have r0 : (((((w.alloc (Obj.cells #[.int .i64 38, .int .i64 xa, .int .i64 xb, .int .i64 xc, .int .i64 n, .int .i64 m, .int .i64 xi, .int .i64 xw, .string nm] 61)).alloc (Obj.cells #[.int .i64 ai, .int .i64 aw] 59)).alloc (Obj.cells #[.int .i64 bi, .int .i64 bw] 59)).alloc (Obj.cells #[.int .i64 ci, .int .i64 cw] 59)).alloc (Obj.cells #[.int .i64 0, .int .i64 0] 59)).cell? ⟨w.heap.size + 4, 0, none⟩ = some (.int .i64 0) := by go_simp
  have r1 : (((((w.alloc (Obj.cells #[.int .i64 38, .int .i64 xa, .int .i64 xb, .int .i64 xc, .int .i64 n, .int .i64 m, .int .i64 xi, .int .i64 xw, .string nm] 61)).alloc (Obj.cells #[.int .i64 ai, .int .i64 aw] 59)).alloc (Obj.cells #[.int .i64 bi, .int .i64 bw] 59)).alloc (Obj.cells #[.int .i64 ci, .int .i64 cw] 59)).alloc (Obj.cells #[.int .i64 0, .int .i64 0] 59)).cell? ⟨w.heap.size + 4, 1, none⟩ = some (.int .i64 0) := by go_simp
  have f0 : (((((w.alloc (Obj.cells #[.int .i64 38, .int .i64 xa, .int .i64 xb, .int .i64 xc, .int .i64 n, .int .i64 m, .int .i64 xi, .int .i64 xw, .string nm] 61)).alloc (Obj.cells #[.int .i64 ai, .int .i64 aw] 59)).alloc (Obj.cells #[.int .i64 bi, .int .i64 bw] 59)).alloc (Obj.cells #[.int .i64 ci, .int .i64 cw] 59)).alloc (Obj.cells #[.int .i64 0, .int .i64 0] 59)).frozen? ⟨w.heap.size + 4, 0, none⟩ = false := by go_simp
  have f1 : (((((w.alloc (Obj.cells #[.int .i64 38, .int .i64 xa, .int .i64 xb, .int .i64 xc, .int .i64 n, .int .i64 m, .int .i64 xi, .int .i64 xw, .string nm] 61)).alloc (Obj.cells #[.int .i64 ai, .int .i64 aw] 59)).alloc (Obj.cells #[.int .i64 bi, .int .i64 bw] 59)).alloc (Obj.cells #[.int .i64 ci, .int .i64 cw] 59)).alloc (Obj.cells #[.int .i64 0, .int .i64 0] 59)).frozen? ⟨w.heap.size + 4, 1, none⟩ = false := by go_simp
  generalize (((((w.alloc (Obj.cells #[.int .i64 38, .int .i64 xa, .int .i64 xb, .int .i64 xc, .int .i64 n, .int .i64 m, .int .i64 xi, .int .i64 xw, .string nm] 61)).alloc (Obj.cells #[.int .i64 ai, .int .i64 aw] 59)).alloc (Obj.cells #[.int .i64 bi, .int .i64 bw] 59)).alloc (Obj.cells #[.int .i64 ci, .int .i64 cw] 59)).alloc (Obj.cells #[.int .i64 0, .int .i64 0] 59)) = w2 at *
  have f0 := Later.frozen f0 (World.block_lt_of_cell? _ _ r0)
  have f1 := Later.frozen f1 (World.block_lt_of_cell? _ _ r1)
  have b0 := Later.cell b0
  have b4 := Later.cell b4
  have b5 := Later.cell b5
  have b6 := Later.cell b6
  have b7 := Later.cell b7
  have d0 := Later.cell d0
  have d1 := Later.cell d1
  have d2 := Later.cell d2
  have d3 := Later.cell d3
  have d4 := Later.cell d4
  have d5 := Later.cell d5
  have r0 := Later.cell r0
  have r1 := Later.cell r1
  go_wp2
  have hfacts : ∀ W, (W = w2 ∨ W = (w2.setCell ⟨w.heap.size + 4, 0, none⟩ (.int .i64 (ai))).setCell ⟨w.heap.size + 4, 1, none⟩ (.int .i64 (aw))) → ∀ l : Later W, l.val.cell? ⟨w.heap.size, 0, none⟩ = some (.int .i64 38) ∧ l.val.cell? ⟨w.heap.size, 4, none⟩ = some (.int .i64 n) ∧ l.val.cell? ⟨w.heap.size, 5, none⟩ = some (.int .i64 m) ∧ l.val.cell? ⟨w.heap.size, 6, none⟩ = some (.int .i64 xi) ∧ l.val.cell? ⟨w.heap.size, 7, none⟩ = some (.int .i64 xw) ∧ l.val.cell? ⟨w.heap.size + 1, 0, none⟩ = some (.int .i64 ai) ∧ l.val.cell? ⟨w.heap.size + 1, 1, none⟩ = some (.int .i64 aw) ∧ l.val.cell? ⟨w.heap.size + 2, 0, none⟩ = some (.int .i64 bi) ∧ l.val.cell? ⟨w.heap.size + 2, 1, none⟩ = some (.int .i64 bw) ∧ l.val.cell? ⟨w.heap.size + 3, 0, none⟩ = some (.int .i64 ci) ∧ l.val.cell? ⟨w.heap.size + 3, 1, none⟩ = some (.int .i64 cw) := by
    rintro W (rfl | rfl) l
    · exact ⟨b0 l, b4 l, b5 l, b6 l, b7 l, d0 l, d1 l, d2 l, d3 l, d4 l, d5 l⟩
    · have ne : ∀ (b f : Nat) (v : Value), b ≠ w.heap.size + 4 → (∀ l : Later w2, l.val.cell? ⟨b, f, none⟩ = some v) → l.val.cell? ⟨b, f, none⟩ = some v := fun b f v hb h => Later.cell ((World.cell?_setCell_other _ _ _ _ (by intro e; simp only [Addr.mk.injEq] at e; omega)).trans ((World.cell?_setCell_other _ _ _ _ (by intro e; simp only [Addr.mk.injEq] at e; omega)).trans (h ⟨w2, Below.refl _ _⟩))) l
      exact ⟨ne _ _ _ (by omega) b0, ne _ _ _ (by omega) b4, ne _ _ _ (by omega) b5, ne _ _ _ (by omega) b6, ne _ _ _ (by omega) b7, ne _ _ _ (by omega) d0, ne _ _ _ (by omega) d1, ne _ _ _ (by omega) d2, ne _ _ _ (by omega) d3, ne _ _ _ (by omega) d4, ne _ _ _ (by omega) d5⟩
  have HF := Lib.hid hfacts
  clear hfacts
  refine wp_region_store' (w0 := w2) (w1 := (w2.setCell ⟨w.heap.size + 4, 0, none⟩ (.int .i64 (ai))).setCell ⟨w.heap.size + 4, 1, none⟩ (.int .i64 (aw))) 18 (by kernel_rfl) (by kernel_rfl) rfl (by kernel_rfl) (LaterC.refl _) ?_
  apply Exists.intro
  refine ⟨fun W hW => ?_, ?_, ?_, ?_⟩
  · have hc := HF.out W hW
    have e0 := fun l => (hc l).1; have e1 := fun l => (hc l).2.1; have e2 := fun l => (hc l).2.2.1; have e3 := fun l => (hc l).2.2.2.1; have e4 := fun l => (hc l).2.2.2.2.1; have e5 := fun l => (hc l).2.2.2.2.2.1; have e6 := fun l => (hc l).2.2.2.2.2.2.1; have e7 := fun l => (hc l).2.2.2.2.2.2.2.1; have e8 := fun l => (hc l).2.2.2.2.2.2.2.2.1; have e9 := fun l => (hc l).2.2.2.2.2.2.2.2.2.1; have e10 := fun l => (hc l).2.2.2.2.2.2.2.2.2.2
    clear hc hW
    simp only [List.take_succ_cons, List.take_zero]
    repeat (go_big_quiet_step (first | (go_at_call 34; exact Calls.later (words_calls _ _))))
    exact wpQuiet_nil rfl
  · rfl
  · intro u
    refine ⟨(u.val.setCell ⟨w.heap.size + 4, 0, none⟩ (.int .i64 (ai))).setCell ⟨w.heap.size + 4, 1, none⟩ (.int .i64 (aw)), ?_, u.set2 _ _ _ _⟩
    have s0 := r0 u; have s1 := r1 u; have t0 := f0 u; have t1 := f1 u
    go_simp
  · intro u
    have s0 : u.val.cell? ⟨w.heap.size + 4, 0, none⟩ = some (.int .i64 (ai)) := Later.cell ((World.cell?_setCell_other _ _ _ _ (by intro e; simp only [Addr.mk.injEq] at e; omega)).trans (World.cell?_setCell_same _ _ _ (r0 ⟨w2, Below.refl _ _⟩))) u
    have s1 : u.val.cell? ⟨w.heap.size + 4, 1, none⟩ = some (.int .i64 (aw)) := Later.cell (World.cell?_setCell_same _ _ _ ((World.cell?_setCell_other _ _ _ _ (by intro e; simp only [Addr.mk.injEq] at e; omega)).trans (r1 ⟨w2, Below.refl _ _⟩))) u
    have hbel := Lib.hid (u.back ((HB.out.setCell (p := ⟨w.heap.size + 4, 0, none⟩) (by simp) (.int .i64 (ai))).setCell (p := ⟨w.heap.size + 4, 1, none⟩) (by simp) (.int .i64 (aw))))
    simp only [List.drop_succ_cons, List.drop_zero]
    clear r0 r1 f0 f1
    go_wp2
    exact bodyPost_ret (v := .tuple #[.agg #[.int .i64 (ai), .int .i64 (aw)], .bool false]) (by simp [results, Try.results69, go_sem, s0, s1]) rfl (respost_none HR.out hbel.out)
set_option maxHeartbeats 2000000 in
set_option maxRecDepth 8000 in
theorem sortOf_38_5 (n m ai aw bi bw ci cw xa xb xc xi xw : Int) (nm : ByteArray) (w : World) (h0 : (decide (0 < ai)) = true) (h1 : (bi == 0) = true) (h2 : (bw == ai) = true) (h3 : (ci == 0) = true) (h4 : (cw == aw) = true) :
    Calls Try.prog 69 #[.agg #[.int .i64 38, .int .i64 xa, .int .i64 xb, .int .i64 xc, .int .i64 n, .int .i64 m, .int .i64 xi, .int .i64 xw, .string nm], .agg #[.int .i64 ai, .int .i64 aw], .agg #[.int .i64 bi, .int .i64 bw], .agg #[.int .i64 ci, .int .i64 cw]] w (ResPost (resN 38 n m ai aw bi bw ci cw) w) := by
  have HR := Lib.hid (show resN 38 n m ai aw bi bw ci cw = some (ai, aw) by unfold resN; simp only [h0, h1, h2, h3, h4]; rfl)
  go_enter Try.func69, Try.ntmps69
  go_upto_region 1 with fail
  have HB := Lib.hid (show Below w.heap.size w (((((w.alloc (Obj.cells #[.int .i64 38, .int .i64 xa, .int .i64 xb, .int .i64 xc, .int .i64 n, .int .i64 m, .int .i64 xi, .int .i64 xw, .string nm] 61)).alloc (Obj.cells #[.int .i64 ai, .int .i64 aw] 59)).alloc (Obj.cells #[.int .i64 bi, .int .i64 bw] 59)).alloc (Obj.cells #[.int .i64 ci, .int .i64 cw] 59)).alloc (Obj.cells #[.int .i64 0, .int .i64 0] 59)) from by repeat (first | exact Below.refl _ _ | refine Below.alloc ?_ (by first | (simp; done) | (simp; omega)) _))
  have b0 : (((((w.alloc (Obj.cells #[.int .i64 38, .int .i64 xa, .int .i64 xb, .int .i64 xc, .int .i64 n, .int .i64 m, .int .i64 xi, .int .i64 xw, .string nm] 61)).alloc (Obj.cells #[.int .i64 ai, .int .i64 aw] 59)).alloc (Obj.cells #[.int .i64 bi, .int .i64 bw] 59)).alloc (Obj.cells #[.int .i64 ci, .int .i64 cw] 59)).alloc (Obj.cells #[.int .i64 0, .int .i64 0] 59)).cell? ⟨w.heap.size, 0, none⟩ = some (.int .i64 38) := by go_simp
  have b4 : (((((w.alloc (Obj.cells #[.int .i64 38, .int .i64 xa, .int .i64 xb, .int .i64 xc, .int .i64 n, .int .i64 m, .int .i64 xi, .int .i64 xw, .string nm] 61)).alloc (Obj.cells #[.int .i64 ai, .int .i64 aw] 59)).alloc (Obj.cells #[.int .i64 bi, .int .i64 bw] 59)).alloc (Obj.cells #[.int .i64 ci, .int .i64 cw] 59)).alloc (Obj.cells #[.int .i64 0, .int .i64 0] 59)).cell? ⟨w.heap.size, 4, none⟩ = some (.int .i64 n) := by go_simp
  have b5 : (((((w.alloc (Obj.cells #[.int .i64 38, .int .i64 xa, .int .i64 xb, .int .i64 xc, .int .i64 n, .int .i64 m, .int .i64 xi, .int .i64 xw, .string nm] 61)).alloc (Obj.cells #[.int .i64 ai, .int .i64 aw] 59)).alloc (Obj.cells #[.int .i64 bi, .int .i64 bw] 59)).alloc (Obj.cells #[.int .i64 ci, .int .i64 cw] 59)).alloc (Obj.cells #[.int .i64 0, .int .i64 0] 59)).cell? ⟨w.heap.size, 5, none⟩ = some (.int .i64 m) := by go_simp
  have b6 : (((((w.alloc (Obj.cells #[.int .i64 38, .int .i64 xa, .int .i64 xb, .int .i64 xc, .int .i64 n, .int .i64 m, .int .i64 xi, .int .i64 xw, .string nm] 61)).alloc (Obj.cells #[.int .i64 ai, .int .i64 aw] 59)).alloc (Obj.cells #[.int .i64 bi, .int .i64 bw] 59)).alloc (Obj.cells #[.int .i64 ci, .int .i64 cw] 59)).alloc (Obj.cells #[.int .i64 0, .int .i64 0] 59)).cell? ⟨w.heap.size, 6, none⟩ = some (.int .i64 xi) := by go_simp
  have b7 : (((((w.alloc (Obj.cells #[.int .i64 38, .int .i64 xa, .int .i64 xb, .int .i64 xc, .int .i64 n, .int .i64 m, .int .i64 xi, .int .i64 xw, .string nm] 61)).alloc (Obj.cells #[.int .i64 ai, .int .i64 aw] 59)).alloc (Obj.cells #[.int .i64 bi, .int .i64 bw] 59)).alloc (Obj.cells #[.int .i64 ci, .int .i64 cw] 59)).alloc (Obj.cells #[.int .i64 0, .int .i64 0] 59)).cell? ⟨w.heap.size, 7, none⟩ = some (.int .i64 xw) := by go_simp
  have d0 : (((((w.alloc (Obj.cells #[.int .i64 38, .int .i64 xa, .int .i64 xb, .int .i64 xc, .int .i64 n, .int .i64 m, .int .i64 xi, .int .i64 xw, .string nm] 61)).alloc (Obj.cells #[.int .i64 ai, .int .i64 aw] 59)).alloc (Obj.cells #[.int .i64 bi, .int .i64 bw] 59)).alloc (Obj.cells #[.int .i64 ci, .int .i64 cw] 59)).alloc (Obj.cells #[.int .i64 0, .int .i64 0] 59)).cell? ⟨w.heap.size + 1, 0, none⟩ = some (.int .i64 ai) := by go_simp
  have d1 : (((((w.alloc (Obj.cells #[.int .i64 38, .int .i64 xa, .int .i64 xb, .int .i64 xc, .int .i64 n, .int .i64 m, .int .i64 xi, .int .i64 xw, .string nm] 61)).alloc (Obj.cells #[.int .i64 ai, .int .i64 aw] 59)).alloc (Obj.cells #[.int .i64 bi, .int .i64 bw] 59)).alloc (Obj.cells #[.int .i64 ci, .int .i64 cw] 59)).alloc (Obj.cells #[.int .i64 0, .int .i64 0] 59)).cell? ⟨w.heap.size + 1, 1, none⟩ = some (.int .i64 aw) := by go_simp
  have d2 : (((((w.alloc (Obj.cells #[.int .i64 38, .int .i64 xa, .int .i64 xb, .int .i64 xc, .int .i64 n, .int .i64 m, .int .i64 xi, .int .i64 xw, .string nm] 61)).alloc (Obj.cells #[.int .i64 ai, .int .i64 aw] 59)).alloc (Obj.cells #[.int .i64 bi, .int .i64 bw] 59)).alloc (Obj.cells #[.int .i64 ci, .int .i64 cw] 59)).alloc (Obj.cells #[.int .i64 0, .int .i64 0] 59)).cell? ⟨w.heap.size + 2, 0, none⟩ = some (.int .i64 bi) := by go_simp
  have d3 : (((((w.alloc (Obj.cells #[.int .i64 38, .int .i64 xa, .int .i64 xb, .int .i64 xc, .int .i64 n, .int .i64 m, .int .i64 xi, .int .i64 xw, .string nm] 61)).alloc (Obj.cells #[.int .i64 ai, .int .i64 aw] 59)).alloc (Obj.cells #[.int .i64 bi, .int .i64 bw] 59)).alloc (Obj.cells #[.int .i64 ci, .int .i64 cw] 59)).alloc (Obj.cells #[.int .i64 0, .int .i64 0] 59)).cell? ⟨w.heap.size + 2, 1, none⟩ = some (.int .i64 bw) := by go_simp
  have d4 : (((((w.alloc (Obj.cells #[.int .i64 38, .int .i64 xa, .int .i64 xb, .int .i64 xc, .int .i64 n, .int .i64 m, .int .i64 xi, .int .i64 xw, .string nm] 61)).alloc (Obj.cells #[.int .i64 ai, .int .i64 aw] 59)).alloc (Obj.cells #[.int .i64 bi, .int .i64 bw] 59)).alloc (Obj.cells #[.int .i64 ci, .int .i64 cw] 59)).alloc (Obj.cells #[.int .i64 0, .int .i64 0] 59)).cell? ⟨w.heap.size + 3, 0, none⟩ = some (.int .i64 ci) := by go_simp
  have d5 : (((((w.alloc (Obj.cells #[.int .i64 38, .int .i64 xa, .int .i64 xb, .int .i64 xc, .int .i64 n, .int .i64 m, .int .i64 xi, .int .i64 xw, .string nm] 61)).alloc (Obj.cells #[.int .i64 ai, .int .i64 aw] 59)).alloc (Obj.cells #[.int .i64 bi, .int .i64 bw] 59)).alloc (Obj.cells #[.int .i64 ci, .int .i64 cw] 59)).alloc (Obj.cells #[.int .i64 0, .int .i64 0] 59)).cell? ⟨w.heap.size + 3, 1, none⟩ = some (.int .i64 cw) := by go_simp
  have r0 : (((((w.alloc (Obj.cells #[.int .i64 38, .int .i64 xa, .int .i64 xb, .int .i64 xc, .int .i64 n, .int .i64 m, .int .i64 xi, .int .i64 xw, .string nm] 61)).alloc (Obj.cells #[.int .i64 ai, .int .i64 aw] 59)).alloc (Obj.cells #[.int .i64 bi, .int .i64 bw] 59)).alloc (Obj.cells #[.int .i64 ci, .int .i64 cw] 59)).alloc (Obj.cells #[.int .i64 0, .int .i64 0] 59)).cell? ⟨w.heap.size + 4, 0, none⟩ = some (.int .i64 0) := by go_simp
  have r1 : (((((w.alloc (Obj.cells #[.int .i64 38, .int .i64 xa, .int .i64 xb, .int .i64 xc, .int .i64 n, .int .i64 m, .int .i64 xi, .int .i64 xw, .string nm] 61)).alloc (Obj.cells #[.int .i64 ai, .int .i64 aw] 59)).alloc (Obj.cells #[.int .i64 bi, .int .i64 bw] 59)).alloc (Obj.cells #[.int .i64 ci, .int .i64 cw] 59)).alloc (Obj.cells #[.int .i64 0, .int .i64 0] 59)).cell? ⟨w.heap.size + 4, 1, none⟩ = some (.int .i64 0) := by go_simp
  have f0 : (((((w.alloc (Obj.cells #[.int .i64 38, .int .i64 xa, .int .i64 xb, .int .i64 xc, .int .i64 n, .int .i64 m, .int .i64 xi, .int .i64 xw, .string nm] 61)).alloc (Obj.cells #[.int .i64 ai, .int .i64 aw] 59)).alloc (Obj.cells #[.int .i64 bi, .int .i64 bw] 59)).alloc (Obj.cells #[.int .i64 ci, .int .i64 cw] 59)).alloc (Obj.cells #[.int .i64 0, .int .i64 0] 59)).frozen? ⟨w.heap.size + 4, 0, none⟩ = false := by go_simp
  have f1 : (((((w.alloc (Obj.cells #[.int .i64 38, .int .i64 xa, .int .i64 xb, .int .i64 xc, .int .i64 n, .int .i64 m, .int .i64 xi, .int .i64 xw, .string nm] 61)).alloc (Obj.cells #[.int .i64 ai, .int .i64 aw] 59)).alloc (Obj.cells #[.int .i64 bi, .int .i64 bw] 59)).alloc (Obj.cells #[.int .i64 ci, .int .i64 cw] 59)).alloc (Obj.cells #[.int .i64 0, .int .i64 0] 59)).frozen? ⟨w.heap.size + 4, 1, none⟩ = false := by go_simp
  generalize (((((w.alloc (Obj.cells #[.int .i64 38, .int .i64 xa, .int .i64 xb, .int .i64 xc, .int .i64 n, .int .i64 m, .int .i64 xi, .int .i64 xw, .string nm] 61)).alloc (Obj.cells #[.int .i64 ai, .int .i64 aw] 59)).alloc (Obj.cells #[.int .i64 bi, .int .i64 bw] 59)).alloc (Obj.cells #[.int .i64 ci, .int .i64 cw] 59)).alloc (Obj.cells #[.int .i64 0, .int .i64 0] 59)) = w2 at *
  have f0 := Later.frozen f0 (World.block_lt_of_cell? _ _ r0)
  have f1 := Later.frozen f1 (World.block_lt_of_cell? _ _ r1)
  have b0 := Later.cell b0
  have b4 := Later.cell b4
  have b5 := Later.cell b5
  have b6 := Later.cell b6
  have b7 := Later.cell b7
  have d0 := Later.cell d0
  have d1 := Later.cell d1
  have d2 := Later.cell d2
  have d3 := Later.cell d3
  have d4 := Later.cell d4
  have d5 := Later.cell d5
  have r0 := Later.cell r0
  have r1 := Later.cell r1
  go_wp2
  have hfacts : ∀ W, (W = w2 ∨ W = (w2.setCell ⟨w.heap.size + 4, 0, none⟩ (.int .i64 (ai))).setCell ⟨w.heap.size + 4, 1, none⟩ (.int .i64 (aw))) → ∀ l : Later W, l.val.cell? ⟨w.heap.size, 0, none⟩ = some (.int .i64 38) ∧ l.val.cell? ⟨w.heap.size, 4, none⟩ = some (.int .i64 n) ∧ l.val.cell? ⟨w.heap.size, 5, none⟩ = some (.int .i64 m) ∧ l.val.cell? ⟨w.heap.size, 6, none⟩ = some (.int .i64 xi) ∧ l.val.cell? ⟨w.heap.size, 7, none⟩ = some (.int .i64 xw) ∧ l.val.cell? ⟨w.heap.size + 1, 0, none⟩ = some (.int .i64 ai) ∧ l.val.cell? ⟨w.heap.size + 1, 1, none⟩ = some (.int .i64 aw) ∧ l.val.cell? ⟨w.heap.size + 2, 0, none⟩ = some (.int .i64 bi) ∧ l.val.cell? ⟨w.heap.size + 2, 1, none⟩ = some (.int .i64 bw) ∧ l.val.cell? ⟨w.heap.size + 3, 0, none⟩ = some (.int .i64 ci) ∧ l.val.cell? ⟨w.heap.size + 3, 1, none⟩ = some (.int .i64 cw) := by
    rintro W (rfl | rfl) l
    · exact ⟨b0 l, b4 l, b5 l, b6 l, b7 l, d0 l, d1 l, d2 l, d3 l, d4 l, d5 l⟩
    · have ne : ∀ (b f : Nat) (v : Value), b ≠ w.heap.size + 4 → (∀ l : Later w2, l.val.cell? ⟨b, f, none⟩ = some v) → l.val.cell? ⟨b, f, none⟩ = some v := fun b f v hb h => Later.cell ((World.cell?_setCell_other _ _ _ _ (by intro e; simp only [Addr.mk.injEq] at e; omega)).trans ((World.cell?_setCell_other _ _ _ _ (by intro e; simp only [Addr.mk.injEq] at e; omega)).trans (h ⟨w2, Below.refl _ _⟩))) l
      exact ⟨ne _ _ _ (by omega) b0, ne _ _ _ (by omega) b4, ne _ _ _ (by omega) b5, ne _ _ _ (by omega) b6, ne _ _ _ (by omega) b7, ne _ _ _ (by omega) d0, ne _ _ _ (by omega) d1, ne _ _ _ (by omega) d2, ne _ _ _ (by omega) d3, ne _ _ _ (by omega) d4, ne _ _ _ (by omega) d5⟩
  have HF := Lib.hid hfacts
  clear hfacts
  refine wp_region_store' (w0 := w2) (w1 := (w2.setCell ⟨w.heap.size + 4, 0, none⟩ (.int .i64 (ai))).setCell ⟨w.heap.size + 4, 1, none⟩ (.int .i64 (aw))) 18 (by kernel_rfl) (by kernel_rfl) rfl (by kernel_rfl) (LaterC.refl _) ?_
  apply Exists.intro
  refine ⟨fun W hW => ?_, ?_, ?_, ?_⟩
  · have hc := HF.out W hW
    have e0 := fun l => (hc l).1; have e1 := fun l => (hc l).2.1; have e2 := fun l => (hc l).2.2.1; have e3 := fun l => (hc l).2.2.2.1; have e4 := fun l => (hc l).2.2.2.2.1; have e5 := fun l => (hc l).2.2.2.2.2.1; have e6 := fun l => (hc l).2.2.2.2.2.2.1; have e7 := fun l => (hc l).2.2.2.2.2.2.2.1; have e8 := fun l => (hc l).2.2.2.2.2.2.2.2.1; have e9 := fun l => (hc l).2.2.2.2.2.2.2.2.2.1; have e10 := fun l => (hc l).2.2.2.2.2.2.2.2.2.2
    clear hc hW
    simp only [List.take_succ_cons, List.take_zero]
    repeat (go_big_quiet_step (first | (go_at_call 34; exact Calls.later (words_calls _ _))))
    exact wpQuiet_nil rfl
  · rfl
  · intro u
    refine ⟨(u.val.setCell ⟨w.heap.size + 4, 0, none⟩ (.int .i64 (ai))).setCell ⟨w.heap.size + 4, 1, none⟩ (.int .i64 (aw)), ?_, u.set2 _ _ _ _⟩
    have s0 := r0 u; have s1 := r1 u; have t0 := f0 u; have t1 := f1 u
    go_simp
  · intro u
    have s0 : u.val.cell? ⟨w.heap.size + 4, 0, none⟩ = some (.int .i64 (ai)) := Later.cell ((World.cell?_setCell_other _ _ _ _ (by intro e; simp only [Addr.mk.injEq] at e; omega)).trans (World.cell?_setCell_same _ _ _ (r0 ⟨w2, Below.refl _ _⟩))) u
    have s1 : u.val.cell? ⟨w.heap.size + 4, 1, none⟩ = some (.int .i64 (aw)) := Later.cell (World.cell?_setCell_same _ _ _ ((World.cell?_setCell_other _ _ _ _ (by intro e; simp only [Addr.mk.injEq] at e; omega)).trans (r1 ⟨w2, Below.refl _ _⟩))) u
    have hbel := Lib.hid (u.back ((HB.out.setCell (p := ⟨w.heap.size + 4, 0, none⟩) (by simp) (.int .i64 (ai))).setCell (p := ⟨w.heap.size + 4, 1, none⟩) (by simp) (.int .i64 (aw))))
    simp only [List.drop_succ_cons, List.drop_zero]
    clear r0 r1 f0 f1
    go_wp2
    exact bodyPost_ret (v := .tuple #[.agg #[.int .i64 (ai), .int .i64 (aw)], .bool true]) (by simp [results, Try.results69, go_sem, s0, s1]) rfl (respost_some HR.out hbel.out)
theorem sortOf_38 (n m ai aw bi bw ci cw xa xb xc xi xw : Int) (nm : ByteArray) (w : World)  :
    Calls Try.prog 69 #[.agg #[.int .i64 38, .int .i64 xa, .int .i64 xb, .int .i64 xc, .int .i64 n, .int .i64 m, .int .i64 xi, .int .i64 xw, .string nm], .agg #[.int .i64 ai, .int .i64 aw], .agg #[.int .i64 bi, .int .i64 bw], .agg #[.int .i64 ci, .int .i64 cw]] w (ResPost (resN 38 n m ai aw bi bw ci cw) w) := by
  by_cases h0 : (decide (0 < ai)) = true
  rotate_left
  · exact sortOf_38_0 n m ai aw bi bw ci cw xa xb xc xi xw nm w  (eq_false_of_ne_true h0)
  by_cases h1 : (bi == 0) = true
  rotate_left
  · exact sortOf_38_1 n m ai aw bi bw ci cw xa xb xc xi xw nm w h0 (eq_false_of_ne_true h1)
  by_cases h2 : (bw == ai) = true
  rotate_left
  · exact sortOf_38_2 n m ai aw bi bw ci cw xa xb xc xi xw nm w h0 h1 (eq_false_of_ne_true h2)
  by_cases h3 : (ci == 0) = true
  rotate_left
  · exact sortOf_38_3 n m ai aw bi bw ci cw xa xb xc xi xw nm w h0 h1 h2 (eq_false_of_ne_true h3)
  by_cases h4 : (cw == aw) = true
  rotate_left
  · exact sortOf_38_4 n m ai aw bi bw ci cw xa xb xc xi xw nm w h0 h1 h2 h3 (eq_false_of_ne_true h4)
  exact sortOf_38_5 n m ai aw bi bw ci cw xa xb xc xi xw nm w h0 h1 h2 h3 h4
set_option maxHeartbeats 2000000 in
set_option maxRecDepth 8000 in
theorem sortOf_21_0 (n m ai aw bi bw ci cw xa xb xc xi xw : Int) (nm : ByteArray) (w : World) (h0 : (ai == bi) = false) :
    Calls Try.prog 69 #[.agg #[.int .i64 21, .int .i64 xa, .int .i64 xb, .int .i64 xc, .int .i64 n, .int .i64 m, .int .i64 xi, .int .i64 xw, .string nm], .agg #[.int .i64 ai, .int .i64 aw], .agg #[.int .i64 bi, .int .i64 bw], .agg #[.int .i64 ci, .int .i64 cw]] w (ResPost (resN 21 n m ai aw bi bw ci cw) w) := by
  have HR := Lib.hid (show resN 21 n m ai aw bi bw ci cw = none by unfold resN; simp only [h0, Bool.and_false, Bool.false_and, Bool.true_and, Bool.and_true]; rfl)
  go_enter Try.func69, Try.ntmps69
  go_upto_region 1 with fail
  have HB := Lib.hid (show Below w.heap.size w (((((w.alloc (Obj.cells #[.int .i64 21, .int .i64 xa, .int .i64 xb, .int .i64 xc, .int .i64 n, .int .i64 m, .int .i64 xi, .int .i64 xw, .string nm] 61)).alloc (Obj.cells #[.int .i64 ai, .int .i64 aw] 59)).alloc (Obj.cells #[.int .i64 bi, .int .i64 bw] 59)).alloc (Obj.cells #[.int .i64 ci, .int .i64 cw] 59)).alloc (Obj.cells #[.int .i64 0, .int .i64 0] 59)) from by repeat (first | exact Below.refl _ _ | refine Below.alloc ?_ (by first | (simp; done) | (simp; omega)) _))
  have b0 : (((((w.alloc (Obj.cells #[.int .i64 21, .int .i64 xa, .int .i64 xb, .int .i64 xc, .int .i64 n, .int .i64 m, .int .i64 xi, .int .i64 xw, .string nm] 61)).alloc (Obj.cells #[.int .i64 ai, .int .i64 aw] 59)).alloc (Obj.cells #[.int .i64 bi, .int .i64 bw] 59)).alloc (Obj.cells #[.int .i64 ci, .int .i64 cw] 59)).alloc (Obj.cells #[.int .i64 0, .int .i64 0] 59)).cell? ⟨w.heap.size, 0, none⟩ = some (.int .i64 21) := by go_simp
  have b4 : (((((w.alloc (Obj.cells #[.int .i64 21, .int .i64 xa, .int .i64 xb, .int .i64 xc, .int .i64 n, .int .i64 m, .int .i64 xi, .int .i64 xw, .string nm] 61)).alloc (Obj.cells #[.int .i64 ai, .int .i64 aw] 59)).alloc (Obj.cells #[.int .i64 bi, .int .i64 bw] 59)).alloc (Obj.cells #[.int .i64 ci, .int .i64 cw] 59)).alloc (Obj.cells #[.int .i64 0, .int .i64 0] 59)).cell? ⟨w.heap.size, 4, none⟩ = some (.int .i64 n) := by go_simp
  have b5 : (((((w.alloc (Obj.cells #[.int .i64 21, .int .i64 xa, .int .i64 xb, .int .i64 xc, .int .i64 n, .int .i64 m, .int .i64 xi, .int .i64 xw, .string nm] 61)).alloc (Obj.cells #[.int .i64 ai, .int .i64 aw] 59)).alloc (Obj.cells #[.int .i64 bi, .int .i64 bw] 59)).alloc (Obj.cells #[.int .i64 ci, .int .i64 cw] 59)).alloc (Obj.cells #[.int .i64 0, .int .i64 0] 59)).cell? ⟨w.heap.size, 5, none⟩ = some (.int .i64 m) := by go_simp
  have b6 : (((((w.alloc (Obj.cells #[.int .i64 21, .int .i64 xa, .int .i64 xb, .int .i64 xc, .int .i64 n, .int .i64 m, .int .i64 xi, .int .i64 xw, .string nm] 61)).alloc (Obj.cells #[.int .i64 ai, .int .i64 aw] 59)).alloc (Obj.cells #[.int .i64 bi, .int .i64 bw] 59)).alloc (Obj.cells #[.int .i64 ci, .int .i64 cw] 59)).alloc (Obj.cells #[.int .i64 0, .int .i64 0] 59)).cell? ⟨w.heap.size, 6, none⟩ = some (.int .i64 xi) := by go_simp
  have b7 : (((((w.alloc (Obj.cells #[.int .i64 21, .int .i64 xa, .int .i64 xb, .int .i64 xc, .int .i64 n, .int .i64 m, .int .i64 xi, .int .i64 xw, .string nm] 61)).alloc (Obj.cells #[.int .i64 ai, .int .i64 aw] 59)).alloc (Obj.cells #[.int .i64 bi, .int .i64 bw] 59)).alloc (Obj.cells #[.int .i64 ci, .int .i64 cw] 59)).alloc (Obj.cells #[.int .i64 0, .int .i64 0] 59)).cell? ⟨w.heap.size, 7, none⟩ = some (.int .i64 xw) := by go_simp
  have d0 : (((((w.alloc (Obj.cells #[.int .i64 21, .int .i64 xa, .int .i64 xb, .int .i64 xc, .int .i64 n, .int .i64 m, .int .i64 xi, .int .i64 xw, .string nm] 61)).alloc (Obj.cells #[.int .i64 ai, .int .i64 aw] 59)).alloc (Obj.cells #[.int .i64 bi, .int .i64 bw] 59)).alloc (Obj.cells #[.int .i64 ci, .int .i64 cw] 59)).alloc (Obj.cells #[.int .i64 0, .int .i64 0] 59)).cell? ⟨w.heap.size + 1, 0, none⟩ = some (.int .i64 ai) := by go_simp
  have d1 : (((((w.alloc (Obj.cells #[.int .i64 21, .int .i64 xa, .int .i64 xb, .int .i64 xc, .int .i64 n, .int .i64 m, .int .i64 xi, .int .i64 xw, .string nm] 61)).alloc (Obj.cells #[.int .i64 ai, .int .i64 aw] 59)).alloc (Obj.cells #[.int .i64 bi, .int .i64 bw] 59)).alloc (Obj.cells #[.int .i64 ci, .int .i64 cw] 59)).alloc (Obj.cells #[.int .i64 0, .int .i64 0] 59)).cell? ⟨w.heap.size + 1, 1, none⟩ = some (.int .i64 aw) := by go_simp
  have d2 : (((((w.alloc (Obj.cells #[.int .i64 21, .int .i64 xa, .int .i64 xb, .int .i64 xc, .int .i64 n, .int .i64 m, .int .i64 xi, .int .i64 xw, .string nm] 61)).alloc (Obj.cells #[.int .i64 ai, .int .i64 aw] 59)).alloc (Obj.cells #[.int .i64 bi, .int .i64 bw] 59)).alloc (Obj.cells #[.int .i64 ci, .int .i64 cw] 59)).alloc (Obj.cells #[.int .i64 0, .int .i64 0] 59)).cell? ⟨w.heap.size + 2, 0, none⟩ = some (.int .i64 bi) := by go_simp
  have d3 : (((((w.alloc (Obj.cells #[.int .i64 21, .int .i64 xa, .int .i64 xb, .int .i64 xc, .int .i64 n, .int .i64 m, .int .i64 xi, .int .i64 xw, .string nm] 61)).alloc (Obj.cells #[.int .i64 ai, .int .i64 aw] 59)).alloc (Obj.cells #[.int .i64 bi, .int .i64 bw] 59)).alloc (Obj.cells #[.int .i64 ci, .int .i64 cw] 59)).alloc (Obj.cells #[.int .i64 0, .int .i64 0] 59)).cell? ⟨w.heap.size + 2, 1, none⟩ = some (.int .i64 bw) := by go_simp
  have d4 : (((((w.alloc (Obj.cells #[.int .i64 21, .int .i64 xa, .int .i64 xb, .int .i64 xc, .int .i64 n, .int .i64 m, .int .i64 xi, .int .i64 xw, .string nm] 61)).alloc (Obj.cells #[.int .i64 ai, .int .i64 aw] 59)).alloc (Obj.cells #[.int .i64 bi, .int .i64 bw] 59)).alloc (Obj.cells #[.int .i64 ci, .int .i64 cw] 59)).alloc (Obj.cells #[.int .i64 0, .int .i64 0] 59)).cell? ⟨w.heap.size + 3, 0, none⟩ = some (.int .i64 ci) := by go_simp
  have d5 : (((((w.alloc (Obj.cells #[.int .i64 21, .int .i64 xa, .int .i64 xb, .int .i64 xc, .int .i64 n, .int .i64 m, .int .i64 xi, .int .i64 xw, .string nm] 61)).alloc (Obj.cells #[.int .i64 ai, .int .i64 aw] 59)).alloc (Obj.cells #[.int .i64 bi, .int .i64 bw] 59)).alloc (Obj.cells #[.int .i64 ci, .int .i64 cw] 59)).alloc (Obj.cells #[.int .i64 0, .int .i64 0] 59)).cell? ⟨w.heap.size + 3, 1, none⟩ = some (.int .i64 cw) := by go_simp
  have r0 : (((((w.alloc (Obj.cells #[.int .i64 21, .int .i64 xa, .int .i64 xb, .int .i64 xc, .int .i64 n, .int .i64 m, .int .i64 xi, .int .i64 xw, .string nm] 61)).alloc (Obj.cells #[.int .i64 ai, .int .i64 aw] 59)).alloc (Obj.cells #[.int .i64 bi, .int .i64 bw] 59)).alloc (Obj.cells #[.int .i64 ci, .int .i64 cw] 59)).alloc (Obj.cells #[.int .i64 0, .int .i64 0] 59)).cell? ⟨w.heap.size + 4, 0, none⟩ = some (.int .i64 0) := by go_simp
  have r1 : (((((w.alloc (Obj.cells #[.int .i64 21, .int .i64 xa, .int .i64 xb, .int .i64 xc, .int .i64 n, .int .i64 m, .int .i64 xi, .int .i64 xw, .string nm] 61)).alloc (Obj.cells #[.int .i64 ai, .int .i64 aw] 59)).alloc (Obj.cells #[.int .i64 bi, .int .i64 bw] 59)).alloc (Obj.cells #[.int .i64 ci, .int .i64 cw] 59)).alloc (Obj.cells #[.int .i64 0, .int .i64 0] 59)).cell? ⟨w.heap.size + 4, 1, none⟩ = some (.int .i64 0) := by go_simp
  have f0 : (((((w.alloc (Obj.cells #[.int .i64 21, .int .i64 xa, .int .i64 xb, .int .i64 xc, .int .i64 n, .int .i64 m, .int .i64 xi, .int .i64 xw, .string nm] 61)).alloc (Obj.cells #[.int .i64 ai, .int .i64 aw] 59)).alloc (Obj.cells #[.int .i64 bi, .int .i64 bw] 59)).alloc (Obj.cells #[.int .i64 ci, .int .i64 cw] 59)).alloc (Obj.cells #[.int .i64 0, .int .i64 0] 59)).frozen? ⟨w.heap.size + 4, 0, none⟩ = false := by go_simp
  have f1 : (((((w.alloc (Obj.cells #[.int .i64 21, .int .i64 xa, .int .i64 xb, .int .i64 xc, .int .i64 n, .int .i64 m, .int .i64 xi, .int .i64 xw, .string nm] 61)).alloc (Obj.cells #[.int .i64 ai, .int .i64 aw] 59)).alloc (Obj.cells #[.int .i64 bi, .int .i64 bw] 59)).alloc (Obj.cells #[.int .i64 ci, .int .i64 cw] 59)).alloc (Obj.cells #[.int .i64 0, .int .i64 0] 59)).frozen? ⟨w.heap.size + 4, 1, none⟩ = false := by go_simp
  generalize (((((w.alloc (Obj.cells #[.int .i64 21, .int .i64 xa, .int .i64 xb, .int .i64 xc, .int .i64 n, .int .i64 m, .int .i64 xi, .int .i64 xw, .string nm] 61)).alloc (Obj.cells #[.int .i64 ai, .int .i64 aw] 59)).alloc (Obj.cells #[.int .i64 bi, .int .i64 bw] 59)).alloc (Obj.cells #[.int .i64 ci, .int .i64 cw] 59)).alloc (Obj.cells #[.int .i64 0, .int .i64 0] 59)) = w2 at *
  have f0 := Later.frozen f0 (World.block_lt_of_cell? _ _ r0)
  have f1 := Later.frozen f1 (World.block_lt_of_cell? _ _ r1)
  have b0 := Later.cell b0
  have b4 := Later.cell b4
  have b5 := Later.cell b5
  have b6 := Later.cell b6
  have b7 := Later.cell b7
  have d0 := Later.cell d0
  have d1 := Later.cell d1
  have d2 := Later.cell d2
  have d3 := Later.cell d3
  have d4 := Later.cell d4
  have d5 := Later.cell d5
  have r0 := Later.cell r0
  have r1 := Later.cell r1
  go_wp2
  have hfacts : ∀ W, (W = w2 ∨ W = (w2.setCell ⟨w.heap.size + 4, 0, none⟩ (.int .i64 (0))).setCell ⟨w.heap.size + 4, 1, none⟩ (.int .i64 (1))) → ∀ l : Later W, l.val.cell? ⟨w.heap.size, 0, none⟩ = some (.int .i64 21) ∧ l.val.cell? ⟨w.heap.size, 4, none⟩ = some (.int .i64 n) ∧ l.val.cell? ⟨w.heap.size, 5, none⟩ = some (.int .i64 m) ∧ l.val.cell? ⟨w.heap.size, 6, none⟩ = some (.int .i64 xi) ∧ l.val.cell? ⟨w.heap.size, 7, none⟩ = some (.int .i64 xw) ∧ l.val.cell? ⟨w.heap.size + 1, 0, none⟩ = some (.int .i64 ai) ∧ l.val.cell? ⟨w.heap.size + 1, 1, none⟩ = some (.int .i64 aw) ∧ l.val.cell? ⟨w.heap.size + 2, 0, none⟩ = some (.int .i64 bi) ∧ l.val.cell? ⟨w.heap.size + 2, 1, none⟩ = some (.int .i64 bw) ∧ l.val.cell? ⟨w.heap.size + 3, 0, none⟩ = some (.int .i64 ci) ∧ l.val.cell? ⟨w.heap.size + 3, 1, none⟩ = some (.int .i64 cw) := by
    rintro W (rfl | rfl) l
    · exact ⟨b0 l, b4 l, b5 l, b6 l, b7 l, d0 l, d1 l, d2 l, d3 l, d4 l, d5 l⟩
    · have ne : ∀ (b f : Nat) (v : Value), b ≠ w.heap.size + 4 → (∀ l : Later w2, l.val.cell? ⟨b, f, none⟩ = some v) → l.val.cell? ⟨b, f, none⟩ = some v := fun b f v hb h => Later.cell ((World.cell?_setCell_other _ _ _ _ (by intro e; simp only [Addr.mk.injEq] at e; omega)).trans ((World.cell?_setCell_other _ _ _ _ (by intro e; simp only [Addr.mk.injEq] at e; omega)).trans (h ⟨w2, Below.refl _ _⟩))) l
      exact ⟨ne _ _ _ (by omega) b0, ne _ _ _ (by omega) b4, ne _ _ _ (by omega) b5, ne _ _ _ (by omega) b6, ne _ _ _ (by omega) b7, ne _ _ _ (by omega) d0, ne _ _ _ (by omega) d1, ne _ _ _ (by omega) d2, ne _ _ _ (by omega) d3, ne _ _ _ (by omega) d4, ne _ _ _ (by omega) d5⟩
  have HF := Lib.hid hfacts
  clear hfacts
  refine wp_region_store' (w0 := w2) (w1 := (w2.setCell ⟨w.heap.size + 4, 0, none⟩ (.int .i64 (0))).setCell ⟨w.heap.size + 4, 1, none⟩ (.int .i64 (1))) 4 (by kernel_rfl) (by kernel_rfl) rfl (by kernel_rfl) (LaterC.refl _) ?_
  apply Exists.intro
  refine ⟨fun W hW => ?_, ?_, ?_, ?_⟩
  · have hc := HF.out W hW
    have e0 := fun l => (hc l).1; have e1 := fun l => (hc l).2.1; have e2 := fun l => (hc l).2.2.1; have e3 := fun l => (hc l).2.2.2.1; have e4 := fun l => (hc l).2.2.2.2.1; have e5 := fun l => (hc l).2.2.2.2.2.1; have e6 := fun l => (hc l).2.2.2.2.2.2.1; have e7 := fun l => (hc l).2.2.2.2.2.2.2.1; have e8 := fun l => (hc l).2.2.2.2.2.2.2.2.1; have e9 := fun l => (hc l).2.2.2.2.2.2.2.2.2.1; have e10 := fun l => (hc l).2.2.2.2.2.2.2.2.2.2
    clear hc hW
    simp only [List.take_succ_cons, List.take_zero]
    repeat (go_big_quiet_step (first | (go_at_call 34; exact Calls.later (words_calls _ _))))
    exact wpQuiet_nil rfl
  · rfl
  · intro u
    refine ⟨(u.val.setCell ⟨w.heap.size + 4, 0, none⟩ (.int .i64 (0))).setCell ⟨w.heap.size + 4, 1, none⟩ (.int .i64 (1)), ?_, u.set2 _ _ _ _⟩
    have s0 := r0 u; have s1 := r1 u; have t0 := f0 u; have t1 := f1 u
    go_simp
  · intro u
    have s0 : u.val.cell? ⟨w.heap.size + 4, 0, none⟩ = some (.int .i64 (0)) := Later.cell ((World.cell?_setCell_other _ _ _ _ (by intro e; simp only [Addr.mk.injEq] at e; omega)).trans (World.cell?_setCell_same _ _ _ (r0 ⟨w2, Below.refl _ _⟩))) u
    have s1 : u.val.cell? ⟨w.heap.size + 4, 1, none⟩ = some (.int .i64 (1)) := Later.cell (World.cell?_setCell_same _ _ _ ((World.cell?_setCell_other _ _ _ _ (by intro e; simp only [Addr.mk.injEq] at e; omega)).trans (r1 ⟨w2, Below.refl _ _⟩))) u
    have hbel := Lib.hid (u.back ((HB.out.setCell (p := ⟨w.heap.size + 4, 0, none⟩) (by simp) (.int .i64 (0))).setCell (p := ⟨w.heap.size + 4, 1, none⟩) (by simp) (.int .i64 (1))))
    simp only [List.drop_succ_cons, List.drop_zero]
    clear r0 r1 f0 f1
    go_wp2
    exact bodyPost_ret (v := .tuple #[.agg #[.int .i64 (0), .int .i64 (1)], .bool false]) (by simp [results, Try.results69, go_sem, s0, s1]) rfl (respost_none HR.out hbel.out)
set_option maxHeartbeats 2000000 in
set_option maxRecDepth 8000 in
theorem sortOf_21_1 (n m ai aw bi bw ci cw xa xb xc xi xw : Int) (nm : ByteArray) (w : World) (h0 : (ai == bi) = true) (h1 : (aw == bw) = false) :
    Calls Try.prog 69 #[.agg #[.int .i64 21, .int .i64 xa, .int .i64 xb, .int .i64 xc, .int .i64 n, .int .i64 m, .int .i64 xi, .int .i64 xw, .string nm], .agg #[.int .i64 ai, .int .i64 aw], .agg #[.int .i64 bi, .int .i64 bw], .agg #[.int .i64 ci, .int .i64 cw]] w (ResPost (resN 21 n m ai aw bi bw ci cw) w) := by
  have HR := Lib.hid (show resN 21 n m ai aw bi bw ci cw = none by unfold resN; simp only [h0, h1, Bool.and_false, Bool.false_and, Bool.true_and, Bool.and_true]; rfl)
  go_enter Try.func69, Try.ntmps69
  go_upto_region 1 with fail
  have HB := Lib.hid (show Below w.heap.size w (((((w.alloc (Obj.cells #[.int .i64 21, .int .i64 xa, .int .i64 xb, .int .i64 xc, .int .i64 n, .int .i64 m, .int .i64 xi, .int .i64 xw, .string nm] 61)).alloc (Obj.cells #[.int .i64 ai, .int .i64 aw] 59)).alloc (Obj.cells #[.int .i64 bi, .int .i64 bw] 59)).alloc (Obj.cells #[.int .i64 ci, .int .i64 cw] 59)).alloc (Obj.cells #[.int .i64 0, .int .i64 0] 59)) from by repeat (first | exact Below.refl _ _ | refine Below.alloc ?_ (by first | (simp; done) | (simp; omega)) _))
  have b0 : (((((w.alloc (Obj.cells #[.int .i64 21, .int .i64 xa, .int .i64 xb, .int .i64 xc, .int .i64 n, .int .i64 m, .int .i64 xi, .int .i64 xw, .string nm] 61)).alloc (Obj.cells #[.int .i64 ai, .int .i64 aw] 59)).alloc (Obj.cells #[.int .i64 bi, .int .i64 bw] 59)).alloc (Obj.cells #[.int .i64 ci, .int .i64 cw] 59)).alloc (Obj.cells #[.int .i64 0, .int .i64 0] 59)).cell? ⟨w.heap.size, 0, none⟩ = some (.int .i64 21) := by go_simp
  have b4 : (((((w.alloc (Obj.cells #[.int .i64 21, .int .i64 xa, .int .i64 xb, .int .i64 xc, .int .i64 n, .int .i64 m, .int .i64 xi, .int .i64 xw, .string nm] 61)).alloc (Obj.cells #[.int .i64 ai, .int .i64 aw] 59)).alloc (Obj.cells #[.int .i64 bi, .int .i64 bw] 59)).alloc (Obj.cells #[.int .i64 ci, .int .i64 cw] 59)).alloc (Obj.cells #[.int .i64 0, .int .i64 0] 59)).cell? ⟨w.heap.size, 4, none⟩ = some (.int .i64 n) := by go_simp
  have b5 : (((((w.alloc (Obj.cells #[.int .i64 21, .int .i64 xa, .int .i64 xb, .int .i64 xc, .int .i64 n, .int .i64 m, .int .i64 xi, .int .i64 xw, .string nm] 61)).alloc (Obj.cells #[.int .i64 ai, .int .i64 aw] 59)).alloc (Obj.cells #[.int .i64 bi, .int .i64 bw] 59)).alloc (Obj.cells #[.int .i64 ci, .int .i64 cw] 59)).alloc (Obj.cells #[.int .i64 0, .int .i64 0] 59)).cell? ⟨w.heap.size, 5, none⟩ = some (.int .i64 m) := by go_simp
  have b6 : (((((w.alloc (Obj.cells #[.int .i64 21, .int .i64 xa, .int .i64 xb, .int .i64 xc, .int .i64 n, .int .i64 m, .int .i64 xi, .int .i64 xw, .string nm] 61)).alloc (Obj.cells #[.int .i64 ai, .int .i64 aw] 59)).alloc (Obj.cells #[.int .i64 bi, .int .i64 bw] 59)).alloc (Obj.cells #[.int .i64 ci, .int .i64 cw] 59)).alloc (Obj.cells #[.int .i64 0, .int .i64 0] 59)).cell? ⟨w.heap.size, 6, none⟩ = some (.int .i64 xi) := by go_simp
  have b7 : (((((w.alloc (Obj.cells #[.int .i64 21, .int .i64 xa, .int .i64 xb, .int .i64 xc, .int .i64 n, .int .i64 m, .int .i64 xi, .int .i64 xw, .string nm] 61)).alloc (Obj.cells #[.int .i64 ai, .int .i64 aw] 59)).alloc (Obj.cells #[.int .i64 bi, .int .i64 bw] 59)).alloc (Obj.cells #[.int .i64 ci, .int .i64 cw] 59)).alloc (Obj.cells #[.int .i64 0, .int .i64 0] 59)).cell? ⟨w.heap.size, 7, none⟩ = some (.int .i64 xw) := by go_simp
  have d0 : (((((w.alloc (Obj.cells #[.int .i64 21, .int .i64 xa, .int .i64 xb, .int .i64 xc, .int .i64 n, .int .i64 m, .int .i64 xi, .int .i64 xw, .string nm] 61)).alloc (Obj.cells #[.int .i64 ai, .int .i64 aw] 59)).alloc (Obj.cells #[.int .i64 bi, .int .i64 bw] 59)).alloc (Obj.cells #[.int .i64 ci, .int .i64 cw] 59)).alloc (Obj.cells #[.int .i64 0, .int .i64 0] 59)).cell? ⟨w.heap.size + 1, 0, none⟩ = some (.int .i64 ai) := by go_simp
  have d1 : (((((w.alloc (Obj.cells #[.int .i64 21, .int .i64 xa, .int .i64 xb, .int .i64 xc, .int .i64 n, .int .i64 m, .int .i64 xi, .int .i64 xw, .string nm] 61)).alloc (Obj.cells #[.int .i64 ai, .int .i64 aw] 59)).alloc (Obj.cells #[.int .i64 bi, .int .i64 bw] 59)).alloc (Obj.cells #[.int .i64 ci, .int .i64 cw] 59)).alloc (Obj.cells #[.int .i64 0, .int .i64 0] 59)).cell? ⟨w.heap.size + 1, 1, none⟩ = some (.int .i64 aw) := by go_simp
  have d2 : (((((w.alloc (Obj.cells #[.int .i64 21, .int .i64 xa, .int .i64 xb, .int .i64 xc, .int .i64 n, .int .i64 m, .int .i64 xi, .int .i64 xw, .string nm] 61)).alloc (Obj.cells #[.int .i64 ai, .int .i64 aw] 59)).alloc (Obj.cells #[.int .i64 bi, .int .i64 bw] 59)).alloc (Obj.cells #[.int .i64 ci, .int .i64 cw] 59)).alloc (Obj.cells #[.int .i64 0, .int .i64 0] 59)).cell? ⟨w.heap.size + 2, 0, none⟩ = some (.int .i64 bi) := by go_simp
  have d3 : (((((w.alloc (Obj.cells #[.int .i64 21, .int .i64 xa, .int .i64 xb, .int .i64 xc, .int .i64 n, .int .i64 m, .int .i64 xi, .int .i64 xw, .string nm] 61)).alloc (Obj.cells #[.int .i64 ai, .int .i64 aw] 59)).alloc (Obj.cells #[.int .i64 bi, .int .i64 bw] 59)).alloc (Obj.cells #[.int .i64 ci, .int .i64 cw] 59)).alloc (Obj.cells #[.int .i64 0, .int .i64 0] 59)).cell? ⟨w.heap.size + 2, 1, none⟩ = some (.int .i64 bw) := by go_simp
  have d4 : (((((w.alloc (Obj.cells #[.int .i64 21, .int .i64 xa, .int .i64 xb, .int .i64 xc, .int .i64 n, .int .i64 m, .int .i64 xi, .int .i64 xw, .string nm] 61)).alloc (Obj.cells #[.int .i64 ai, .int .i64 aw] 59)).alloc (Obj.cells #[.int .i64 bi, .int .i64 bw] 59)).alloc (Obj.cells #[.int .i64 ci, .int .i64 cw] 59)).alloc (Obj.cells #[.int .i64 0, .int .i64 0] 59)).cell? ⟨w.heap.size + 3, 0, none⟩ = some (.int .i64 ci) := by go_simp
  have d5 : (((((w.alloc (Obj.cells #[.int .i64 21, .int .i64 xa, .int .i64 xb, .int .i64 xc, .int .i64 n, .int .i64 m, .int .i64 xi, .int .i64 xw, .string nm] 61)).alloc (Obj.cells #[.int .i64 ai, .int .i64 aw] 59)).alloc (Obj.cells #[.int .i64 bi, .int .i64 bw] 59)).alloc (Obj.cells #[.int .i64 ci, .int .i64 cw] 59)).alloc (Obj.cells #[.int .i64 0, .int .i64 0] 59)).cell? ⟨w.heap.size + 3, 1, none⟩ = some (.int .i64 cw) := by go_simp
  have r0 : (((((w.alloc (Obj.cells #[.int .i64 21, .int .i64 xa, .int .i64 xb, .int .i64 xc, .int .i64 n, .int .i64 m, .int .i64 xi, .int .i64 xw, .string nm] 61)).alloc (Obj.cells #[.int .i64 ai, .int .i64 aw] 59)).alloc (Obj.cells #[.int .i64 bi, .int .i64 bw] 59)).alloc (Obj.cells #[.int .i64 ci, .int .i64 cw] 59)).alloc (Obj.cells #[.int .i64 0, .int .i64 0] 59)).cell? ⟨w.heap.size + 4, 0, none⟩ = some (.int .i64 0) := by go_simp
  have r1 : (((((w.alloc (Obj.cells #[.int .i64 21, .int .i64 xa, .int .i64 xb, .int .i64 xc, .int .i64 n, .int .i64 m, .int .i64 xi, .int .i64 xw, .string nm] 61)).alloc (Obj.cells #[.int .i64 ai, .int .i64 aw] 59)).alloc (Obj.cells #[.int .i64 bi, .int .i64 bw] 59)).alloc (Obj.cells #[.int .i64 ci, .int .i64 cw] 59)).alloc (Obj.cells #[.int .i64 0, .int .i64 0] 59)).cell? ⟨w.heap.size + 4, 1, none⟩ = some (.int .i64 0) := by go_simp
  have f0 : (((((w.alloc (Obj.cells #[.int .i64 21, .int .i64 xa, .int .i64 xb, .int .i64 xc, .int .i64 n, .int .i64 m, .int .i64 xi, .int .i64 xw, .string nm] 61)).alloc (Obj.cells #[.int .i64 ai, .int .i64 aw] 59)).alloc (Obj.cells #[.int .i64 bi, .int .i64 bw] 59)).alloc (Obj.cells #[.int .i64 ci, .int .i64 cw] 59)).alloc (Obj.cells #[.int .i64 0, .int .i64 0] 59)).frozen? ⟨w.heap.size + 4, 0, none⟩ = false := by go_simp
  have f1 : (((((w.alloc (Obj.cells #[.int .i64 21, .int .i64 xa, .int .i64 xb, .int .i64 xc, .int .i64 n, .int .i64 m, .int .i64 xi, .int .i64 xw, .string nm] 61)).alloc (Obj.cells #[.int .i64 ai, .int .i64 aw] 59)).alloc (Obj.cells #[.int .i64 bi, .int .i64 bw] 59)).alloc (Obj.cells #[.int .i64 ci, .int .i64 cw] 59)).alloc (Obj.cells #[.int .i64 0, .int .i64 0] 59)).frozen? ⟨w.heap.size + 4, 1, none⟩ = false := by go_simp
  generalize (((((w.alloc (Obj.cells #[.int .i64 21, .int .i64 xa, .int .i64 xb, .int .i64 xc, .int .i64 n, .int .i64 m, .int .i64 xi, .int .i64 xw, .string nm] 61)).alloc (Obj.cells #[.int .i64 ai, .int .i64 aw] 59)).alloc (Obj.cells #[.int .i64 bi, .int .i64 bw] 59)).alloc (Obj.cells #[.int .i64 ci, .int .i64 cw] 59)).alloc (Obj.cells #[.int .i64 0, .int .i64 0] 59)) = w2 at *
  have f0 := Later.frozen f0 (World.block_lt_of_cell? _ _ r0)
  have f1 := Later.frozen f1 (World.block_lt_of_cell? _ _ r1)
  have b0 := Later.cell b0
  have b4 := Later.cell b4
  have b5 := Later.cell b5
  have b6 := Later.cell b6
  have b7 := Later.cell b7
  have d0 := Later.cell d0
  have d1 := Later.cell d1
  have d2 := Later.cell d2
  have d3 := Later.cell d3
  have d4 := Later.cell d4
  have d5 := Later.cell d5
  have r0 := Later.cell r0
  have r1 := Later.cell r1
  go_wp2
  have hfacts : ∀ W, (W = w2 ∨ W = (w2.setCell ⟨w.heap.size + 4, 0, none⟩ (.int .i64 (0))).setCell ⟨w.heap.size + 4, 1, none⟩ (.int .i64 (1))) → ∀ l : Later W, l.val.cell? ⟨w.heap.size, 0, none⟩ = some (.int .i64 21) ∧ l.val.cell? ⟨w.heap.size, 4, none⟩ = some (.int .i64 n) ∧ l.val.cell? ⟨w.heap.size, 5, none⟩ = some (.int .i64 m) ∧ l.val.cell? ⟨w.heap.size, 6, none⟩ = some (.int .i64 xi) ∧ l.val.cell? ⟨w.heap.size, 7, none⟩ = some (.int .i64 xw) ∧ l.val.cell? ⟨w.heap.size + 1, 0, none⟩ = some (.int .i64 ai) ∧ l.val.cell? ⟨w.heap.size + 1, 1, none⟩ = some (.int .i64 aw) ∧ l.val.cell? ⟨w.heap.size + 2, 0, none⟩ = some (.int .i64 bi) ∧ l.val.cell? ⟨w.heap.size + 2, 1, none⟩ = some (.int .i64 bw) ∧ l.val.cell? ⟨w.heap.size + 3, 0, none⟩ = some (.int .i64 ci) ∧ l.val.cell? ⟨w.heap.size + 3, 1, none⟩ = some (.int .i64 cw) := by
    rintro W (rfl | rfl) l
    · exact ⟨b0 l, b4 l, b5 l, b6 l, b7 l, d0 l, d1 l, d2 l, d3 l, d4 l, d5 l⟩
    · have ne : ∀ (b f : Nat) (v : Value), b ≠ w.heap.size + 4 → (∀ l : Later w2, l.val.cell? ⟨b, f, none⟩ = some v) → l.val.cell? ⟨b, f, none⟩ = some v := fun b f v hb h => Later.cell ((World.cell?_setCell_other _ _ _ _ (by intro e; simp only [Addr.mk.injEq] at e; omega)).trans ((World.cell?_setCell_other _ _ _ _ (by intro e; simp only [Addr.mk.injEq] at e; omega)).trans (h ⟨w2, Below.refl _ _⟩))) l
      exact ⟨ne _ _ _ (by omega) b0, ne _ _ _ (by omega) b4, ne _ _ _ (by omega) b5, ne _ _ _ (by omega) b6, ne _ _ _ (by omega) b7, ne _ _ _ (by omega) d0, ne _ _ _ (by omega) d1, ne _ _ _ (by omega) d2, ne _ _ _ (by omega) d3, ne _ _ _ (by omega) d4, ne _ _ _ (by omega) d5⟩
  have HF := Lib.hid hfacts
  clear hfacts
  refine wp_region_store' (w0 := w2) (w1 := (w2.setCell ⟨w.heap.size + 4, 0, none⟩ (.int .i64 (0))).setCell ⟨w.heap.size + 4, 1, none⟩ (.int .i64 (1))) 4 (by kernel_rfl) (by kernel_rfl) rfl (by kernel_rfl) (LaterC.refl _) ?_
  apply Exists.intro
  refine ⟨fun W hW => ?_, ?_, ?_, ?_⟩
  · have hc := HF.out W hW
    have e0 := fun l => (hc l).1; have e1 := fun l => (hc l).2.1; have e2 := fun l => (hc l).2.2.1; have e3 := fun l => (hc l).2.2.2.1; have e4 := fun l => (hc l).2.2.2.2.1; have e5 := fun l => (hc l).2.2.2.2.2.1; have e6 := fun l => (hc l).2.2.2.2.2.2.1; have e7 := fun l => (hc l).2.2.2.2.2.2.2.1; have e8 := fun l => (hc l).2.2.2.2.2.2.2.2.1; have e9 := fun l => (hc l).2.2.2.2.2.2.2.2.2.1; have e10 := fun l => (hc l).2.2.2.2.2.2.2.2.2.2
    clear hc hW
    simp only [List.take_succ_cons, List.take_zero]
    repeat (go_big_quiet_step (first | (go_at_call 34; exact Calls.later (words_calls _ _))))
    exact wpQuiet_nil rfl
  · rfl
  · intro u
    refine ⟨(u.val.setCell ⟨w.heap.size + 4, 0, none⟩ (.int .i64 (0))).setCell ⟨w.heap.size + 4, 1, none⟩ (.int .i64 (1)), ?_, u.set2 _ _ _ _⟩
    have s0 := r0 u; have s1 := r1 u; have t0 := f0 u; have t1 := f1 u
    go_simp
  · intro u
    have s0 : u.val.cell? ⟨w.heap.size + 4, 0, none⟩ = some (.int .i64 (0)) := Later.cell ((World.cell?_setCell_other _ _ _ _ (by intro e; simp only [Addr.mk.injEq] at e; omega)).trans (World.cell?_setCell_same _ _ _ (r0 ⟨w2, Below.refl _ _⟩))) u
    have s1 : u.val.cell? ⟨w.heap.size + 4, 1, none⟩ = some (.int .i64 (1)) := Later.cell (World.cell?_setCell_same _ _ _ ((World.cell?_setCell_other _ _ _ _ (by intro e; simp only [Addr.mk.injEq] at e; omega)).trans (r1 ⟨w2, Below.refl _ _⟩))) u
    have hbel := Lib.hid (u.back ((HB.out.setCell (p := ⟨w.heap.size + 4, 0, none⟩) (by simp) (.int .i64 (0))).setCell (p := ⟨w.heap.size + 4, 1, none⟩) (by simp) (.int .i64 (1))))
    simp only [List.drop_succ_cons, List.drop_zero]
    clear r0 r1 f0 f1
    go_wp2
    exact bodyPost_ret (v := .tuple #[.agg #[.int .i64 (0), .int .i64 (1)], .bool false]) (by simp [results, Try.results69, go_sem, s0, s1]) rfl (respost_none HR.out hbel.out)
set_option maxHeartbeats 2000000 in
set_option maxRecDepth 8000 in
theorem sortOf_21_2 (n m ai aw bi bw ci cw xa xb xc xi xw : Int) (nm : ByteArray) (w : World) (h0 : (ai == bi) = true) (h1 : (aw == bw) = true) :
    Calls Try.prog 69 #[.agg #[.int .i64 21, .int .i64 xa, .int .i64 xb, .int .i64 xc, .int .i64 n, .int .i64 m, .int .i64 xi, .int .i64 xw, .string nm], .agg #[.int .i64 ai, .int .i64 aw], .agg #[.int .i64 bi, .int .i64 bw], .agg #[.int .i64 ci, .int .i64 cw]] w (ResPost (resN 21 n m ai aw bi bw ci cw) w) := by
  have HR := Lib.hid (show resN 21 n m ai aw bi bw ci cw = some (0, 1) by unfold resN; simp only [h0, h1]; rfl)
  go_enter Try.func69, Try.ntmps69
  go_upto_region 1 with fail
  have HB := Lib.hid (show Below w.heap.size w (((((w.alloc (Obj.cells #[.int .i64 21, .int .i64 xa, .int .i64 xb, .int .i64 xc, .int .i64 n, .int .i64 m, .int .i64 xi, .int .i64 xw, .string nm] 61)).alloc (Obj.cells #[.int .i64 ai, .int .i64 aw] 59)).alloc (Obj.cells #[.int .i64 bi, .int .i64 bw] 59)).alloc (Obj.cells #[.int .i64 ci, .int .i64 cw] 59)).alloc (Obj.cells #[.int .i64 0, .int .i64 0] 59)) from by repeat (first | exact Below.refl _ _ | refine Below.alloc ?_ (by first | (simp; done) | (simp; omega)) _))
  have b0 : (((((w.alloc (Obj.cells #[.int .i64 21, .int .i64 xa, .int .i64 xb, .int .i64 xc, .int .i64 n, .int .i64 m, .int .i64 xi, .int .i64 xw, .string nm] 61)).alloc (Obj.cells #[.int .i64 ai, .int .i64 aw] 59)).alloc (Obj.cells #[.int .i64 bi, .int .i64 bw] 59)).alloc (Obj.cells #[.int .i64 ci, .int .i64 cw] 59)).alloc (Obj.cells #[.int .i64 0, .int .i64 0] 59)).cell? ⟨w.heap.size, 0, none⟩ = some (.int .i64 21) := by go_simp
  have b4 : (((((w.alloc (Obj.cells #[.int .i64 21, .int .i64 xa, .int .i64 xb, .int .i64 xc, .int .i64 n, .int .i64 m, .int .i64 xi, .int .i64 xw, .string nm] 61)).alloc (Obj.cells #[.int .i64 ai, .int .i64 aw] 59)).alloc (Obj.cells #[.int .i64 bi, .int .i64 bw] 59)).alloc (Obj.cells #[.int .i64 ci, .int .i64 cw] 59)).alloc (Obj.cells #[.int .i64 0, .int .i64 0] 59)).cell? ⟨w.heap.size, 4, none⟩ = some (.int .i64 n) := by go_simp
  have b5 : (((((w.alloc (Obj.cells #[.int .i64 21, .int .i64 xa, .int .i64 xb, .int .i64 xc, .int .i64 n, .int .i64 m, .int .i64 xi, .int .i64 xw, .string nm] 61)).alloc (Obj.cells #[.int .i64 ai, .int .i64 aw] 59)).alloc (Obj.cells #[.int .i64 bi, .int .i64 bw] 59)).alloc (Obj.cells #[.int .i64 ci, .int .i64 cw] 59)).alloc (Obj.cells #[.int .i64 0, .int .i64 0] 59)).cell? ⟨w.heap.size, 5, none⟩ = some (.int .i64 m) := by go_simp
  have b6 : (((((w.alloc (Obj.cells #[.int .i64 21, .int .i64 xa, .int .i64 xb, .int .i64 xc, .int .i64 n, .int .i64 m, .int .i64 xi, .int .i64 xw, .string nm] 61)).alloc (Obj.cells #[.int .i64 ai, .int .i64 aw] 59)).alloc (Obj.cells #[.int .i64 bi, .int .i64 bw] 59)).alloc (Obj.cells #[.int .i64 ci, .int .i64 cw] 59)).alloc (Obj.cells #[.int .i64 0, .int .i64 0] 59)).cell? ⟨w.heap.size, 6, none⟩ = some (.int .i64 xi) := by go_simp
  have b7 : (((((w.alloc (Obj.cells #[.int .i64 21, .int .i64 xa, .int .i64 xb, .int .i64 xc, .int .i64 n, .int .i64 m, .int .i64 xi, .int .i64 xw, .string nm] 61)).alloc (Obj.cells #[.int .i64 ai, .int .i64 aw] 59)).alloc (Obj.cells #[.int .i64 bi, .int .i64 bw] 59)).alloc (Obj.cells #[.int .i64 ci, .int .i64 cw] 59)).alloc (Obj.cells #[.int .i64 0, .int .i64 0] 59)).cell? ⟨w.heap.size, 7, none⟩ = some (.int .i64 xw) := by go_simp
  have d0 : (((((w.alloc (Obj.cells #[.int .i64 21, .int .i64 xa, .int .i64 xb, .int .i64 xc, .int .i64 n, .int .i64 m, .int .i64 xi, .int .i64 xw, .string nm] 61)).alloc (Obj.cells #[.int .i64 ai, .int .i64 aw] 59)).alloc (Obj.cells #[.int .i64 bi, .int .i64 bw] 59)).alloc (Obj.cells #[.int .i64 ci, .int .i64 cw] 59)).alloc (Obj.cells #[.int .i64 0, .int .i64 0] 59)).cell? ⟨w.heap.size + 1, 0, none⟩ = some (.int .i64 ai) := by go_simp
  have d1 : (((((w.alloc (Obj.cells #[.int .i64 21, .int .i64 xa, .int .i64 xb, .int .i64 xc, .int .i64 n, .int .i64 m, .int .i64 xi, .int .i64 xw, .string nm] 61)).alloc (Obj.cells #[.int .i64 ai, .int .i64 aw] 59)).alloc (Obj.cells #[.int .i64 bi, .int .i64 bw] 59)).alloc (Obj.cells #[.int .i64 ci, .int .i64 cw] 59)).alloc (Obj.cells #[.int .i64 0, .int .i64 0] 59)).cell? ⟨w.heap.size + 1, 1, none⟩ = some (.int .i64 aw) := by go_simp
  have d2 : (((((w.alloc (Obj.cells #[.int .i64 21, .int .i64 xa, .int .i64 xb, .int .i64 xc, .int .i64 n, .int .i64 m, .int .i64 xi, .int .i64 xw, .string nm] 61)).alloc (Obj.cells #[.int .i64 ai, .int .i64 aw] 59)).alloc (Obj.cells #[.int .i64 bi, .int .i64 bw] 59)).alloc (Obj.cells #[.int .i64 ci, .int .i64 cw] 59)).alloc (Obj.cells #[.int .i64 0, .int .i64 0] 59)).cell? ⟨w.heap.size + 2, 0, none⟩ = some (.int .i64 bi) := by go_simp
  have d3 : (((((w.alloc (Obj.cells #[.int .i64 21, .int .i64 xa, .int .i64 xb, .int .i64 xc, .int .i64 n, .int .i64 m, .int .i64 xi, .int .i64 xw, .string nm] 61)).alloc (Obj.cells #[.int .i64 ai, .int .i64 aw] 59)).alloc (Obj.cells #[.int .i64 bi, .int .i64 bw] 59)).alloc (Obj.cells #[.int .i64 ci, .int .i64 cw] 59)).alloc (Obj.cells #[.int .i64 0, .int .i64 0] 59)).cell? ⟨w.heap.size + 2, 1, none⟩ = some (.int .i64 bw) := by go_simp
  have d4 : (((((w.alloc (Obj.cells #[.int .i64 21, .int .i64 xa, .int .i64 xb, .int .i64 xc, .int .i64 n, .int .i64 m, .int .i64 xi, .int .i64 xw, .string nm] 61)).alloc (Obj.cells #[.int .i64 ai, .int .i64 aw] 59)).alloc (Obj.cells #[.int .i64 bi, .int .i64 bw] 59)).alloc (Obj.cells #[.int .i64 ci, .int .i64 cw] 59)).alloc (Obj.cells #[.int .i64 0, .int .i64 0] 59)).cell? ⟨w.heap.size + 3, 0, none⟩ = some (.int .i64 ci) := by go_simp
  have d5 : (((((w.alloc (Obj.cells #[.int .i64 21, .int .i64 xa, .int .i64 xb, .int .i64 xc, .int .i64 n, .int .i64 m, .int .i64 xi, .int .i64 xw, .string nm] 61)).alloc (Obj.cells #[.int .i64 ai, .int .i64 aw] 59)).alloc (Obj.cells #[.int .i64 bi, .int .i64 bw] 59)).alloc (Obj.cells #[.int .i64 ci, .int .i64 cw] 59)).alloc (Obj.cells #[.int .i64 0, .int .i64 0] 59)).cell? ⟨w.heap.size + 3, 1, none⟩ = some (.int .i64 cw) := by go_simp
  have r0 : (((((w.alloc (Obj.cells #[.int .i64 21, .int .i64 xa, .int .i64 xb, .int .i64 xc, .int .i64 n, .int .i64 m, .int .i64 xi, .int .i64 xw, .string nm] 61)).alloc (Obj.cells #[.int .i64 ai, .int .i64 aw] 59)).alloc (Obj.cells #[.int .i64 bi, .int .i64 bw] 59)).alloc (Obj.cells #[.int .i64 ci, .int .i64 cw] 59)).alloc (Obj.cells #[.int .i64 0, .int .i64 0] 59)).cell? ⟨w.heap.size + 4, 0, none⟩ = some (.int .i64 0) := by go_simp
  have r1 : (((((w.alloc (Obj.cells #[.int .i64 21, .int .i64 xa, .int .i64 xb, .int .i64 xc, .int .i64 n, .int .i64 m, .int .i64 xi, .int .i64 xw, .string nm] 61)).alloc (Obj.cells #[.int .i64 ai, .int .i64 aw] 59)).alloc (Obj.cells #[.int .i64 bi, .int .i64 bw] 59)).alloc (Obj.cells #[.int .i64 ci, .int .i64 cw] 59)).alloc (Obj.cells #[.int .i64 0, .int .i64 0] 59)).cell? ⟨w.heap.size + 4, 1, none⟩ = some (.int .i64 0) := by go_simp
  have f0 : (((((w.alloc (Obj.cells #[.int .i64 21, .int .i64 xa, .int .i64 xb, .int .i64 xc, .int .i64 n, .int .i64 m, .int .i64 xi, .int .i64 xw, .string nm] 61)).alloc (Obj.cells #[.int .i64 ai, .int .i64 aw] 59)).alloc (Obj.cells #[.int .i64 bi, .int .i64 bw] 59)).alloc (Obj.cells #[.int .i64 ci, .int .i64 cw] 59)).alloc (Obj.cells #[.int .i64 0, .int .i64 0] 59)).frozen? ⟨w.heap.size + 4, 0, none⟩ = false := by go_simp
  have f1 : (((((w.alloc (Obj.cells #[.int .i64 21, .int .i64 xa, .int .i64 xb, .int .i64 xc, .int .i64 n, .int .i64 m, .int .i64 xi, .int .i64 xw, .string nm] 61)).alloc (Obj.cells #[.int .i64 ai, .int .i64 aw] 59)).alloc (Obj.cells #[.int .i64 bi, .int .i64 bw] 59)).alloc (Obj.cells #[.int .i64 ci, .int .i64 cw] 59)).alloc (Obj.cells #[.int .i64 0, .int .i64 0] 59)).frozen? ⟨w.heap.size + 4, 1, none⟩ = false := by go_simp
  generalize (((((w.alloc (Obj.cells #[.int .i64 21, .int .i64 xa, .int .i64 xb, .int .i64 xc, .int .i64 n, .int .i64 m, .int .i64 xi, .int .i64 xw, .string nm] 61)).alloc (Obj.cells #[.int .i64 ai, .int .i64 aw] 59)).alloc (Obj.cells #[.int .i64 bi, .int .i64 bw] 59)).alloc (Obj.cells #[.int .i64 ci, .int .i64 cw] 59)).alloc (Obj.cells #[.int .i64 0, .int .i64 0] 59)) = w2 at *
  have f0 := Later.frozen f0 (World.block_lt_of_cell? _ _ r0)
  have f1 := Later.frozen f1 (World.block_lt_of_cell? _ _ r1)
  have b0 := Later.cell b0
  have b4 := Later.cell b4
  have b5 := Later.cell b5
  have b6 := Later.cell b6
  have b7 := Later.cell b7
  have d0 := Later.cell d0
  have d1 := Later.cell d1
  have d2 := Later.cell d2
  have d3 := Later.cell d3
  have d4 := Later.cell d4
  have d5 := Later.cell d5
  have r0 := Later.cell r0
  have r1 := Later.cell r1
  go_wp2
  have hfacts : ∀ W, (W = w2 ∨ W = (w2.setCell ⟨w.heap.size + 4, 0, none⟩ (.int .i64 (0))).setCell ⟨w.heap.size + 4, 1, none⟩ (.int .i64 (1))) → ∀ l : Later W, l.val.cell? ⟨w.heap.size, 0, none⟩ = some (.int .i64 21) ∧ l.val.cell? ⟨w.heap.size, 4, none⟩ = some (.int .i64 n) ∧ l.val.cell? ⟨w.heap.size, 5, none⟩ = some (.int .i64 m) ∧ l.val.cell? ⟨w.heap.size, 6, none⟩ = some (.int .i64 xi) ∧ l.val.cell? ⟨w.heap.size, 7, none⟩ = some (.int .i64 xw) ∧ l.val.cell? ⟨w.heap.size + 1, 0, none⟩ = some (.int .i64 ai) ∧ l.val.cell? ⟨w.heap.size + 1, 1, none⟩ = some (.int .i64 aw) ∧ l.val.cell? ⟨w.heap.size + 2, 0, none⟩ = some (.int .i64 bi) ∧ l.val.cell? ⟨w.heap.size + 2, 1, none⟩ = some (.int .i64 bw) ∧ l.val.cell? ⟨w.heap.size + 3, 0, none⟩ = some (.int .i64 ci) ∧ l.val.cell? ⟨w.heap.size + 3, 1, none⟩ = some (.int .i64 cw) := by
    rintro W (rfl | rfl) l
    · exact ⟨b0 l, b4 l, b5 l, b6 l, b7 l, d0 l, d1 l, d2 l, d3 l, d4 l, d5 l⟩
    · have ne : ∀ (b f : Nat) (v : Value), b ≠ w.heap.size + 4 → (∀ l : Later w2, l.val.cell? ⟨b, f, none⟩ = some v) → l.val.cell? ⟨b, f, none⟩ = some v := fun b f v hb h => Later.cell ((World.cell?_setCell_other _ _ _ _ (by intro e; simp only [Addr.mk.injEq] at e; omega)).trans ((World.cell?_setCell_other _ _ _ _ (by intro e; simp only [Addr.mk.injEq] at e; omega)).trans (h ⟨w2, Below.refl _ _⟩))) l
      exact ⟨ne _ _ _ (by omega) b0, ne _ _ _ (by omega) b4, ne _ _ _ (by omega) b5, ne _ _ _ (by omega) b6, ne _ _ _ (by omega) b7, ne _ _ _ (by omega) d0, ne _ _ _ (by omega) d1, ne _ _ _ (by omega) d2, ne _ _ _ (by omega) d3, ne _ _ _ (by omega) d4, ne _ _ _ (by omega) d5⟩
  have HF := Lib.hid hfacts
  clear hfacts
  refine wp_region_store' (w0 := w2) (w1 := (w2.setCell ⟨w.heap.size + 4, 0, none⟩ (.int .i64 (0))).setCell ⟨w.heap.size + 4, 1, none⟩ (.int .i64 (1))) 4 (by kernel_rfl) (by kernel_rfl) rfl (by kernel_rfl) (LaterC.refl _) ?_
  apply Exists.intro
  refine ⟨fun W hW => ?_, ?_, ?_, ?_⟩
  · have hc := HF.out W hW
    have e0 := fun l => (hc l).1; have e1 := fun l => (hc l).2.1; have e2 := fun l => (hc l).2.2.1; have e3 := fun l => (hc l).2.2.2.1; have e4 := fun l => (hc l).2.2.2.2.1; have e5 := fun l => (hc l).2.2.2.2.2.1; have e6 := fun l => (hc l).2.2.2.2.2.2.1; have e7 := fun l => (hc l).2.2.2.2.2.2.2.1; have e8 := fun l => (hc l).2.2.2.2.2.2.2.2.1; have e9 := fun l => (hc l).2.2.2.2.2.2.2.2.2.1; have e10 := fun l => (hc l).2.2.2.2.2.2.2.2.2.2
    clear hc hW
    simp only [List.take_succ_cons, List.take_zero]
    repeat (go_big_quiet_step (first | (go_at_call 34; exact Calls.later (words_calls _ _))))
    exact wpQuiet_nil rfl
  · rfl
  · intro u
    refine ⟨(u.val.setCell ⟨w.heap.size + 4, 0, none⟩ (.int .i64 (0))).setCell ⟨w.heap.size + 4, 1, none⟩ (.int .i64 (1)), ?_, u.set2 _ _ _ _⟩
    have s0 := r0 u; have s1 := r1 u; have t0 := f0 u; have t1 := f1 u
    go_simp
  · intro u
    have s0 : u.val.cell? ⟨w.heap.size + 4, 0, none⟩ = some (.int .i64 (0)) := Later.cell ((World.cell?_setCell_other _ _ _ _ (by intro e; simp only [Addr.mk.injEq] at e; omega)).trans (World.cell?_setCell_same _ _ _ (r0 ⟨w2, Below.refl _ _⟩))) u
    have s1 : u.val.cell? ⟨w.heap.size + 4, 1, none⟩ = some (.int .i64 (1)) := Later.cell (World.cell?_setCell_same _ _ _ ((World.cell?_setCell_other _ _ _ _ (by intro e; simp only [Addr.mk.injEq] at e; omega)).trans (r1 ⟨w2, Below.refl _ _⟩))) u
    have hbel := Lib.hid (u.back ((HB.out.setCell (p := ⟨w.heap.size + 4, 0, none⟩) (by simp) (.int .i64 (0))).setCell (p := ⟨w.heap.size + 4, 1, none⟩) (by simp) (.int .i64 (1))))
    simp only [List.drop_succ_cons, List.drop_zero]
    clear r0 r1 f0 f1
    go_wp2
    exact bodyPost_ret (v := .tuple #[.agg #[.int .i64 (0), .int .i64 (1)], .bool true]) (by simp [results, Try.results69, go_sem, s0, s1]) rfl (respost_some HR.out hbel.out)
theorem sortOf_21 (n m ai aw bi bw ci cw xa xb xc xi xw : Int) (nm : ByteArray) (w : World)  :
    Calls Try.prog 69 #[.agg #[.int .i64 21, .int .i64 xa, .int .i64 xb, .int .i64 xc, .int .i64 n, .int .i64 m, .int .i64 xi, .int .i64 xw, .string nm], .agg #[.int .i64 ai, .int .i64 aw], .agg #[.int .i64 bi, .int .i64 bw], .agg #[.int .i64 ci, .int .i64 cw]] w (ResPost (resN 21 n m ai aw bi bw ci cw) w) := by
  by_cases h0 : (ai == bi) = true
  rotate_left
  · exact sortOf_21_0 n m ai aw bi bw ci cw xa xb xc xi xw nm w  (eq_false_of_ne_true h0)
  by_cases h1 : (aw == bw) = true
  rotate_left
  · exact sortOf_21_1 n m ai aw bi bw ci cw xa xb xc xi xw nm w h0 (eq_false_of_ne_true h1)
  exact sortOf_21_2 n m ai aw bi bw ci cw xa xb xc xi xw nm w h0 h1
end Go.Proofs.Ytbiilnehgdhkoaa
