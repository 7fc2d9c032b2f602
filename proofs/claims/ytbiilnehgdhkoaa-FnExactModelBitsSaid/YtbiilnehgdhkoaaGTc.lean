import Derived.Test.YtbiilnehgdhkoaaGTa
set_option linter.unusedVariables false
set_option linter.unusedSimpArgs false
namespace Go.Proofs.Ytbiilnehgdhkoaa
open Go.RowKit
attribute [local go_sem high] eq_sort
set_option maxHeartbeats 2000000 in
set_option maxRecDepth 8000 in
theorem sortOf_ia (kind n m ai aw bi bw ci cw xa xb xc xi xw : Int) (nm : ByteArray) (w : World) (k33 : (kind == 33) = false) (k34 : (kind == 34) = false) (k35 : (kind == 35) = false) (k36 : (kind == 36) = false) (k37 : (kind == 37) = false) (k38 : (kind == 38) = false) (k21 : (kind == 21) = false) (ha : ¬ ai = 0) :
    Calls Try.prog 69 #[.agg #[.int .i64 kind, .int .i64 xa, .int .i64 xb, .int .i64 xc, .int .i64 n, .int .i64 m, .int .i64 xi, .int .i64 xw, .string nm], .agg #[.int .i64 ai, .int .i64 aw], .agg #[.int .i64 bi, .int .i64 bw], .agg #[.int .i64 ci, .int .i64 cw]] w (ResPost (resN kind n m ai aw bi bw ci cw) w) := by
  have HR := Lib.hid (show (resN kind n m ai aw bi bw ci cw) = none by unfold resN; simp only [beq_eq_false_iff_ne, ne_eq] at k33 k37 k38 k21; rw [if_neg k33, if_neg k37, if_neg k38, if_neg k21, if_pos (Or.inl ha)])
  have ha' : (ai != 0) = true := bne_iff_ne.2 ha
  go_enter Try.func69, Try.ntmps69
  go_upto_region 1 with fail
  have HB := Lib.hid (show Below w.heap.size w (((((w.alloc (Obj.cells #[.int .i64 kind, .int .i64 xa, .int .i64 xb, .int .i64 xc, .int .i64 n, .int .i64 m, .int .i64 xi, .int .i64 xw, .string nm] 61)).alloc (Obj.cells #[.int .i64 ai, .int .i64 aw] 59)).alloc (Obj.cells #[.int .i64 bi, .int .i64 bw] 59)).alloc (Obj.cells #[.int .i64 ci, .int .i64 cw] 59)).alloc (Obj.cells #[.int .i64 0, .int .i64 0] 59)) from by repeat (first | exact Below.refl _ _ | refine Below.alloc ?_ (by first | (simp; done) | (simp; omega)) _))
  have b0 : (((((w.alloc (Obj.cells #[.int .i64 kind, .int .i64 xa, .int .i64 xb, .int .i64 xc, .int .i64 n, .int .i64 m, .int .i64 xi, .int .i64 xw, .string nm] 61)).alloc (Obj.cells #[.int .i64 ai, .int .i64 aw] 59)).alloc (Obj.cells #[.int .i64 bi, .int .i64 bw] 59)).alloc (Obj.cells #[.int .i64 ci, .int .i64 cw] 59)).alloc (Obj.cells #[.int .i64 0, .int .i64 0] 59)).cell? ⟨w.heap.size, 0, none⟩ = some (.int .i64 kind) := by go_simp
  have b4 : (((((w.alloc (Obj.cells #[.int .i64 kind, .int .i64 xa, .int .i64 xb, .int .i64 xc, .int .i64 n, .int .i64 m, .int .i64 xi, .int .i64 xw, .string nm] 61)).alloc (Obj.cells #[.int .i64 ai, .int .i64 aw] 59)).alloc (Obj.cells #[.int .i64 bi, .int .i64 bw] 59)).alloc (Obj.cells #[.int .i64 ci, .int .i64 cw] 59)).alloc (Obj.cells #[.int .i64 0, .int .i64 0] 59)).cell? ⟨w.heap.size, 4, none⟩ = some (.int .i64 n) := by go_simp
  have b5 : (((((w.alloc (Obj.cells #[.int .i64 kind, .int .i64 xa, .int .i64 xb, .int .i64 xc, .int .i64 n, .int .i64 m, .int .i64 xi, .int .i64 xw, .string nm] 61)).alloc (Obj.cells #[.int .i64 ai, .int .i64 aw] 59)).alloc (Obj.cells #[.int .i64 bi, .int .i64 bw] 59)).alloc (Obj.cells #[.int .i64 ci, .int .i64 cw] 59)).alloc (Obj.cells #[.int .i64 0, .int .i64 0] 59)).cell? ⟨w.heap.size, 5, none⟩ = some (.int .i64 m) := by go_simp
  have b6 : (((((w.alloc (Obj.cells #[.int .i64 kind, .int .i64 xa, .int .i64 xb, .int .i64 xc, .int .i64 n, .int .i64 m, .int .i64 xi, .int .i64 xw, .string nm] 61)).alloc (Obj.cells #[.int .i64 ai, .int .i64 aw] 59)).alloc (Obj.cells #[.int .i64 bi, .int .i64 bw] 59)).alloc (Obj.cells #[.int .i64 ci, .int .i64 cw] 59)).alloc (Obj.cells #[.int .i64 0, .int .i64 0] 59)).cell? ⟨w.heap.size, 6, none⟩ = some (.int .i64 xi) := by go_simp
  have b7 : (((((w.alloc (Obj.cells #[.int .i64 kind, .int .i64 xa, .int .i64 xb, .int .i64 xc, .int .i64 n, .int .i64 m, .int .i64 xi, .int .i64 xw, .string nm] 61)).alloc (Obj.cells #[.int .i64 ai, .int .i64 aw] 59)).alloc (Obj.cells #[.int .i64 bi, .int .i64 bw] 59)).alloc (Obj.cells #[.int .i64 ci, .int .i64 cw] 59)).alloc (Obj.cells #[.int .i64 0, .int .i64 0] 59)).cell? ⟨w.heap.size, 7, none⟩ = some (.int .i64 xw) := by go_simp
  have d0 : (((((w.alloc (Obj.cells #[.int .i64 kind, .int .i64 xa, .int .i64 xb, .int .i64 xc, .int .i64 n, .int .i64 m, .int .i64 xi, .int .i64 xw, .string nm] 61)).alloc (Obj.cells #[.int .i64 ai, .int .i64 aw] 59)).alloc (Obj.cells #[.int .i64 bi, .int .i64 bw] 59)).alloc (Obj.cells #[.int .i64 ci, .int .i64 cw] 59)).alloc (Obj.cells #[.int .i64 0, .int .i64 0] 59)).cell? ⟨w.heap.size + 1, 0, none⟩ = some (.int .i64 ai) := by go_simp
  have d1 : (((((w.alloc (Obj.cells #[.int .i64 kind, .int .i64 xa, .int .i64 xb, .int .i64 xc, .int .i64 n, .int .i64 m, .int .i64 xi, .int .i64 xw, .string nm] 61)).alloc (Obj.cells #[.int .i64 ai, .int .i64 aw] 59)).alloc (Obj.cells #[.int .i64 bi, .int .i64 bw] 59)).alloc (Obj.cells #[.int .i64 ci, .int .i64 cw] 59)).alloc (Obj.cells #[.int .i64 0, .int .i64 0] 59)).cell? ⟨w.heap.size + 1, 1, none⟩ = some (.int .i64 aw) := by go_simp
  have d2 : (((((w.alloc (Obj.cells #[.int .i64 kind, .int .i64 xa, .int .i64 xb, .int .i64 xc, .int .i64 n, .int .i64 m, .int .i64 xi, .int .i64 xw, .string nm] 61)).alloc (Obj.cells #[.int .i64 ai, .int .i64 aw] 59)).alloc (Obj.cells #[.int .i64 bi, .int .i64 bw] 59)).alloc (Obj.cells #[.int .i64 ci, .int .i64 cw] 59)).alloc (Obj.cells #[.int .i64 0, .int .i64 0] 59)).cell? ⟨w.heap.size + 2, 0, none⟩ = some (.int .i64 bi) := by go_simp
  have d3 : (((((w.alloc (Obj.cells #[.int .i64 kind, .int .i64 xa, .int .i64 xb, .int .i64 xc, .int .i64 n, .int .i64 m, .int .i64 xi, .int .i64 xw, .string nm] 61)).alloc (Obj.cells #[.int .i64 ai, .int .i64 aw] 59)).alloc (Obj.cells #[.int .i64 bi, .int .i64 bw] 59)).alloc (Obj.cells #[.int .i64 ci, .int .i64 cw] 59)).alloc (Obj.cells #[.int .i64 0, .int .i64 0] 59)).cell? ⟨w.heap.size + 2, 1, none⟩ = some (.int .i64 bw) := by go_simp
  have d4 : (((((w.alloc (Obj.cells #[.int .i64 kind, .int .i64 xa, .int .i64 xb, .int .i64 xc, .int .i64 n, .int .i64 m, .int .i64 xi, .int .i64 xw, .string nm] 61)).alloc (Obj.cells #[.int .i64 ai, .int .i64 aw] 59)).alloc (Obj.cells #[.int .i64 bi, .int .i64 bw] 59)).alloc (Obj.cells #[.int .i64 ci, .int .i64 cw] 59)).alloc (Obj.cells #[.int .i64 0, .int .i64 0] 59)).cell? ⟨w.heap.size + 3, 0, none⟩ = some (.int .i64 ci) := by go_simp
  have d5 : (((((w.alloc (Obj.cells #[.int .i64 kind, .int .i64 xa, .int .i64 xb, .int .i64 xc, .int .i64 n, .int .i64 m, .int .i64 xi, .int .i64 xw, .string nm] 61)).alloc (Obj.cells #[.int .i64 ai, .int .i64 aw] 59)).alloc (Obj.cells #[.int .i64 bi, .int .i64 bw] 59)).alloc (Obj.cells #[.int .i64 ci, .int .i64 cw] 59)).alloc (Obj.cells #[.int .i64 0, .int .i64 0] 59)).cell? ⟨w.heap.size + 3, 1, none⟩ = some (.int .i64 cw) := by go_simp
  have r0 : (((((w.alloc (Obj.cells #[.int .i64 kind, .int .i64 xa, .int .i64 xb, .int .i64 xc, .int .i64 n, .int .i64 m, .int .i64 xi, .int .i64 xw, .string nm] 61)).alloc (Obj.cells #[.int .i64 ai, .int .i64 aw] 59)).alloc (Obj.cells #[.int .i64 bi, .int .i64 bw] 59)).alloc (Obj.cells #[.int .i64 ci, .int .i64 cw] 59)).alloc (Obj.cells #[.int .i64 0, .int .i64 0] 59)).cell? ⟨w.heap.size + 4, 0, none⟩ = some (.int .i64 0) := by go_simp
  have r1 : (((((w.alloc (Obj.cells #[.int .i64 kind, .int .i64 xa, .int .i64 xb, .int .i64 xc, .int .i64 n, .int .i64 m, .int .i64 xi, .int .i64 xw, .string nm] 61)).alloc (Obj.cells #[.int .i64 ai, .int .i64 aw] 59)).alloc (Obj.cells #[.int .i64 bi, .int .i64 bw] 59)).alloc (Obj.cells #[.int .i64 ci, .int .i64 cw] 59)).alloc (Obj.cells #[.int .i64 0, .int .i64 0] 59)).cell? ⟨w.heap.size + 4, 1, none⟩ = some (.int .i64 0) := by go_simp
  have f0 : (((((w.alloc (Obj.cells #[.int .i64 kind, .int .i64 xa, .int .i64 xb, .int .i64 xc, .int .i64 n, .int .i64 m, .int .i64 xi, .int .i64 xw, .string nm] 61)).alloc (Obj.cells #[.int .i64 ai, .int .i64 aw] 59)).alloc (Obj.cells #[.int .i64 bi, .int .i64 bw] 59)).alloc (Obj.cells #[.int .i64 ci, .int .i64 cw] 59)).alloc (Obj.cells #[.int .i64 0, .int .i64 0] 59)).frozen? ⟨w.heap.size + 4, 0, none⟩ = false := by go_simp
  have f1 : (((((w.alloc (Obj.cells #[.int .i64 kind, .int .i64 xa, .int .i64 xb, .int .i64 xc, .int .i64 n, .int .i64 m, .int .i64 xi, .int .i64 xw, .string nm] 61)).alloc (Obj.cells #[.int .i64 ai, .int .i64 aw] 59)).alloc (Obj.cells #[.int .i64 bi, .int .i64 bw] 59)).alloc (Obj.cells #[.int .i64 ci, .int .i64 cw] 59)).alloc (Obj.cells #[.int .i64 0, .int .i64 0] 59)).frozen? ⟨w.heap.size + 4, 1, none⟩ = false := by go_simp
  generalize (((((w.alloc (Obj.cells #[.int .i64 kind, .int .i64 xa, .int .i64 xb, .int .i64 xc, .int .i64 n, .int .i64 m, .int .i64 xi, .int .i64 xw, .string nm] 61)).alloc (Obj.cells #[.int .i64 ai, .int .i64 aw] 59)).alloc (Obj.cells #[.int .i64 bi, .int .i64 bw] 59)).alloc (Obj.cells #[.int .i64 ci, .int .i64 cw] 59)).alloc (Obj.cells #[.int .i64 0, .int .i64 0] 59)) = w2 at *
  have f0 := Later.frozen f0 (World.block_lt_of_cell? _ _ r0)
  have f1 := Later.frozen f1 (World.block_lt_of_cell? _ _ r1)
  have b0 := Later.cell b0
  have b4 := Later.cell b4
  have b5 := Later.cell b5
  have b6 := Later.cell b6
  have b7 := Later.cell b7
  have d0 := Later.cell d0
  have d1 := Later.cell d1
  have d2 := Later.cell d2
  have d3 := Later.cell d3
  have d4 := Later.cell d4
  have d5 := Later.cell d5
  have r0 := Later.cell r0
  have r1 := Later.cell r1
  refine at_world (w := w2) ?_
  intro u0
  go_wp2
  exact bodyPost_ret (v := .tuple #[.agg #[.int .i64 (0), .int .i64 (0)], .bool false]) (by simp [results, Try.results69, go_sem, r0, r1]) rfl (respost_none HR.out (by repeat (first | exact u0.back HB.out | refine Below.setCell ?_ (by first | (simp; done) | (simp; omega)) _)))
set_option maxHeartbeats 2000000 in
set_option maxRecDepth 8000 in
theorem sortOf_ib (kind n m aw bi bw ci cw xa xb xc xi xw : Int) (nm : ByteArray) (w : World) (k33 : (kind == 33) = false) (k34 : (kind == 34) = false) (k35 : (kind == 35) = false) (k36 : (kind == 36) = false) (k37 : (kind == 37) = false) (k38 : (kind == 38) = false) (k21 : (kind == 21) = false) (hb : ¬ bi = 0) :
    Calls Try.prog 69 #[.agg #[.int .i64 kind, .int .i64 xa, .int .i64 xb, .int .i64 xc, .int .i64 n, .int .i64 m, .int .i64 xi, .int .i64 xw, .string nm], .agg #[.int .i64 0, .int .i64 aw], .agg #[.int .i64 bi, .int .i64 bw], .agg #[.int .i64 ci, .int .i64 cw]] w (ResPost (resN kind n m 0 aw bi bw ci cw) w) := by
  have HR := Lib.hid (show (resN kind n m 0 aw bi bw ci cw) = none by unfold resN; simp only [beq_eq_false_iff_ne, ne_eq] at k33 k37 k38 k21; rw [if_neg k33, if_neg k37, if_neg k38, if_neg k21, if_pos (Or.inr hb)])
  have hb' : (bi != 0) = true := bne_iff_ne.2 hb
  go_enter Try.func69, Try.ntmps69
  go_upto_region 1 with fail
  have HB := Lib.hid (show Below w.heap.size w (((((w.alloc (Obj.cells #[.int .i64 kind, .int .i64 xa, .int .i64 xb, .int .i64 xc, .int .i64 n, .int .i64 m, .int .i64 xi, .int .i64 xw, .string nm] 61)).alloc (Obj.cells #[.int .i64 0, .int .i64 aw] 59)).alloc (Obj.cells #[.int .i64 bi, .int .i64 bw] 59)).alloc (Obj.cells #[.int .i64 ci, .int .i64 cw] 59)).alloc (Obj.cells #[.int .i64 0, .int .i64 0] 59)) from by repeat (first | exact Below.refl _ _ | refine Below.alloc ?_ (by first | (simp; done) | (simp; omega)) _))
  have b0 : (((((w.alloc (Obj.cells #[.int .i64 kind, .int .i64 xa, .int .i64 xb, .int .i64 xc, .int .i64 n, .int .i64 m, .int .i64 xi, .int .i64 xw, .string nm] 61)).alloc (Obj.cells #[.int .i64 0, .int .i64 aw] 59)).alloc (Obj.cells #[.int .i64 bi, .int .i64 bw] 59)).alloc (Obj.cells #[.int .i64 ci, .int .i64 cw] 59)).alloc (Obj.cells #[.int .i64 0, .int .i64 0] 59)).cell? ⟨w.heap.size, 0, none⟩ = some (.int .i64 kind) := by go_simp
  have b4 : (((((w.alloc (Obj.cells #[.int .i64 kind, .int .i64 xa, .int .i64 xb, .int .i64 xc, .int .i64 n, .int .i64 m, .int .i64 xi, .int .i64 xw, .string nm] 61)).alloc (Obj.cells #[.int .i64 0, .int .i64 aw] 59)).alloc (Obj.cells #[.int .i64 bi, .int .i64 bw] 59)).alloc (Obj.cells #[.int .i64 ci, .int .i64 cw] 59)).alloc (Obj.cells #[.int .i64 0, .int .i64 0] 59)).cell? ⟨w.heap.size, 4, none⟩ = some (.int .i64 n) := by go_simp
  have b5 : (((((w.alloc (Obj.cells #[.int .i64 kind, .int .i64 xa, .int .i64 xb, .int .i64 xc, .int .i64 n, .int .i64 m, .int .i64 xi, .int .i64 xw, .string nm] 61)).alloc (Obj.cells #[.int .i64 0, .int .i64 aw] 59)).alloc (Obj.cells #[.int .i64 bi, .int .i64 bw] 59)).alloc (Obj.cells #[.int .i64 ci, .int .i64 cw] 59)).alloc (Obj.cells #[.int .i64 0, .int .i64 0] 59)).cell? ⟨w.heap.size, 5, none⟩ = some (.int .i64 m) := by go_simp
  have b6 : (((((w.alloc (Obj.cells #[.int .i64 kind, .int .i64 xa, .int .i64 xb, .int .i64 xc, .int .i64 n, .int .i64 m, .int .i64 xi, .int .i64 xw, .string nm] 61)).alloc (Obj.cells #[.int .i64 0, .int .i64 aw] 59)).alloc (Obj.cells #[.int .i64 bi, .int .i64 bw] 59)).alloc (Obj.cells #[.int .i64 ci, .int .i64 cw] 59)).alloc (Obj.cells #[.int .i64 0, .int .i64 0] 59)).cell? ⟨w.heap.size, 6, none⟩ = some (.int .i64 xi) := by go_simp
  have b7 : (((((w.alloc (Obj.cells #[.int .i64 kind, .int .i64 xa, .int .i64 xb, .int .i64 xc, .int .i64 n, .int .i64 m, .int .i64 xi, .int .i64 xw, .string nm] 61)).alloc (Obj.cells #[.int .i64 0, .int .i64 aw] 59)).alloc (Obj.cells #[.int .i64 bi, .int .i64 bw] 59)).alloc (Obj.cells #[.int .i64 ci, .int .i64 cw] 59)).alloc (Obj.cells #[.int .i64 0, .int .i64 0] 59)).cell? ⟨w.heap.size, 7, none⟩ = some (.int .i64 xw) := by go_simp
  have d0 : (((((w.alloc (Obj.cells #[.int .i64 kind, .int .i64 xa, .int .i64 xb, .int .i64 xc, .int .i64 n, .int .i64 m, .int .i64 xi, .int .i64 xw, .string nm] 61)).alloc (Obj.cells #[.int .i64 0, .int .i64 aw] 59)).alloc (Obj.cells #[.int .i64 bi, .int .i64 bw] 59)).alloc (Obj.cells #[.int .i64 ci, .int .i64 cw] 59)).alloc (Obj.cells #[.int .i64 0, .int .i64 0] 59)).cell? ⟨w.heap.size + 1, 0, none⟩ = some (.int .i64 0) := by go_simp
  have d1 : (((((w.alloc (Obj.cells #[.int .i64 kind, .int .i64 xa, .int .i64 xb, .int .i64 xc, .int .i64 n, .int .i64 m, .int .i64 xi, .int .i64 xw, .string nm] 61)).alloc (Obj.cells #[.int .i64 0, .int .i64 aw] 59)).alloc (Obj.cells #[.int .i64 bi, .int .i64 bw] 59)).alloc (Obj.cells #[.int .i64 ci, .int .i64 cw] 59)).alloc (Obj.cells #[.int .i64 0, .int .i64 0] 59)).cell? ⟨w.heap.size + 1, 1, none⟩ = some (.int .i64 aw) := by go_simp
  have d2 : (((((w.alloc (Obj.cells #[.int .i64 kind, .int .i64 xa, .int .i64 xb, .int .i64 xc, .int .i64 n, .int .i64 m, .int .i64 xi, .int .i64 xw, .string nm] 61)).alloc (Obj.cells #[.int .i64 0, .int .i64 aw] 59)).alloc (Obj.cells #[.int .i64 bi, .int .i64 bw] 59)).alloc (Obj.cells #[.int .i64 ci, .int .i64 cw] 59)).alloc (Obj.cells #[.int .i64 0, .int .i64 0] 59)).cell? ⟨w.heap.size + 2, 0, none⟩ = some (.int .i64 bi) := by go_simp
  have d3 : (((((w.alloc (Obj.cells #[.int .i64 kind, .int .i64 xa, .int .i64 xb, .int .i64 xc, .int .i64 n, .int .i64 m, .int .i64 xi, .int .i64 xw, .string nm] 61)).alloc (Obj.cells #[.int .i64 0, .int .i64 aw] 59)).alloc (Obj.cells #[.int .i64 bi, .int .i64 bw] 59)).alloc (Obj.cells #[.int .i64 ci, .int .i64 cw] 59)).alloc (Obj.cells #[.int .i64 0, .int .i64 0] 59)).cell? ⟨w.heap.size + 2, 1, none⟩ = some (.int .i64 bw) := by go_simp
  have d4 : (((((w.alloc (Obj.cells #[.int .i64 kind, .int .i64 xa, .int .i64 xb, .int .i64 xc, .int .i64 n, .int .i64 m, .int .i64 xi, .int .i64 xw, .string nm] 61)).alloc (Obj.cells #[.int .i64 0, .int .i64 aw] 59)).alloc (Obj.cells #[.int .i64 bi, .int .i64 bw] 59)).alloc (Obj.cells #[.int .i64 ci, .int .i64 cw] 59)).alloc (Obj.cells #[.int .i64 0, .int .i64 0] 59)).cell? ⟨w.heap.size + 3, 0, none⟩ = some (.int .i64 ci) := by go_simp
  have d5 : (((((w.alloc (Obj.cells #[.int .i64 kind, .int .i64 xa, .int .i64 xb, .int .i64 xc, .int .i64 n, .int .i64 m, .int .i64 xi, .int .i64 xw, .string nm] 61)).alloc (Obj.cells #[.int .i64 0, .int .i64 aw] 59)).alloc (Obj.cells #[.int .i64 bi, .int .i64 bw] 59)).alloc (Obj.cells #[.int .i64 ci, .int .i64 cw] 59)).alloc (Obj.cells #[.int .i64 0, .int .i64 0] 59)).cell? ⟨w.heap.size + 3, 1, none⟩ = some (.int .i64 cw) := by go_simp
  have r0 : (((((w.alloc (Obj.cells #[.int .i64 kind, .int .i64 xa, .int .i64 xb, .int .i64 xc, .int .i64 n, .int .i64 m, .int .i64 xi, .int .i64 xw, .string nm] 61)).alloc (Obj.cells #[.int .i64 0, .int .i64 aw] 59)).alloc (Obj.cells #[.int .i64 bi, .int .i64 bw] 59)).alloc (Obj.cells #[.int .i64 ci, .int .i64 cw] 59)).alloc (Obj.cells #[.int .i64 0, .int .i64 0] 59)).cell? ⟨w.heap.size + 4, 0, none⟩ = some (.int .i64 0) := by go_simp
  have r1 : (((((w.alloc (Obj.cells #[.int .i64 kind, .int .i64 xa, .int .i64 xb, .int .i64 xc, .int .i64 n, .int .i64 m, .int .i64 xi, .int .i64 xw, .string nm] 61)).alloc (Obj.cells #[.int .i64 0, .int .i64 aw] 59)).alloc (Obj.cells #[.int .i64 bi, .int .i64 bw] 59)).alloc (Obj.cells #[.int .i64 ci, .int .i64 cw] 59)).alloc (Obj.cells #[.int .i64 0, .int .i64 0] 59)).cell? ⟨w.heap.size + 4, 1, none⟩ = some (.int .i64 0) := by go_simp
  have f0 : (((((w.alloc (Obj.cells #[.int .i64 kind, .int .i64 xa, .int .i64 xb, .int .i64 xc, .int .i64 n, .int .i64 m, .int .i64 xi, .int .i64 xw, .string nm] 61)).alloc (Obj.cells #[.int .i64 0, .int .i64 aw] 59)).alloc (Obj.cells #[.int .i64 bi, .int .i64 bw] 59)).alloc (Obj.cells #[.int .i64 ci, .int .i64 cw] 59)).alloc (Obj.cells #[.int .i64 0, .int .i64 0] 59)).frozen? ⟨w.heap.size + 4, 0, none⟩ = false := by go_simp
  have f1 : (((((w.alloc (Obj.cells #[.int .i64 kind, .int .i64 xa, .int .i64 xb, .int .i64 xc, .int .i64 n, .int .i64 m, .int .i64 xi, .int .i64 xw, .string nm] 61)).alloc (Obj.cells #[.int .i64 0, .int .i64 aw] 59)).alloc (Obj.cells #[.int .i64 bi, .int .i64 bw] 59)).alloc (Obj.cells #[.int .i64 ci, .int .i64 cw] 59)).alloc (Obj.cells #[.int .i64 0, .int .i64 0] 59)).frozen? ⟨w.heap.size + 4, 1, none⟩ = false := by go_simp
  generalize (((((w.alloc (Obj.cells #[.int .i64 kind, .int .i64 xa, .int .i64 xb, .int .i64 xc, .int .i64 n, .int .i64 m, .int .i64 xi, .int .i64 xw, .string nm] 61)).alloc (Obj.cells #[.int .i64 0, .int .i64 aw] 59)).alloc (Obj.cells #[.int .i64 bi, .int .i64 bw] 59)).alloc (Obj.cells #[.int .i64 ci, .int .i64 cw] 59)).alloc (Obj.cells #[.int .i64 0, .int .i64 0] 59)) = w2 at *
  have f0 := Later.frozen f0 (World.block_lt_of_cell? _ _ r0)
  have f1 := Later.frozen f1 (World.block_lt_of_cell? _ _ r1)
  have b0 := Later.cell b0
  have b4 := Later.cell b4
  have b5 := Later.cell b5
  have b6 := Later.cell b6
  have b7 := Later.cell b7
  have d0 := Later.cell d0
  have d1 := Later.cell d1
  have d2 := Later.cell d2
  have d3 := Later.cell d3
  have d4 := Later.cell d4
  have d5 := Later.cell d5
  have r0 := Later.cell r0
  have r1 := Later.cell r1
  refine at_world (w := w2) ?_
  intro u0
  go_wp2
  exact bodyPost_ret (v := .tuple #[.agg #[.int .i64 (0), .int .i64 (0)], .bool false]) (by simp [results, Try.results69, go_sem, r0, r1]) rfl (respost_none HR.out (by repeat (first | exact u0.back HB.out | refine Below.setCell ?_ (by first | (simp; done) | (simp; omega)) _)))
set_option maxHeartbeats 2000000 in
set_option maxRecDepth 8000 in
theorem sortOf_w1 (n m aw bw ci cw xa xb xc xi xw : Int) (nm : ByteArray) (w : World)  :
    Calls Try.prog 69 #[.agg #[.int .i64 1, .int .i64 xa, .int .i64 xb, .int .i64 xc, .int .i64 n, .int .i64 m, .int .i64 xi, .int .i64 xw, .string nm], .agg #[.int .i64 0, .int .i64 aw], .agg #[.int .i64 0, .int .i64 bw], .agg #[.int .i64 ci, .int .i64 cw]] w (ResPost (resN 1 n m 0 aw 0 bw ci cw) w) := by
  have HR := Lib.hid (show (resN 1 n m 0 aw 0 bw ci cw) = some (0, aw) by unfold resN; simp)
  go_enter Try.func69, Try.ntmps69
  go_upto_region 1 with fail
  have HB := Lib.hid (show Below w.heap.size w (((((w.alloc (Obj.cells #[.int .i64 1, .int .i64 xa, .int .i64 xb, .int .i64 xc, .int .i64 n, .int .i64 m, .int .i64 xi, .int .i64 xw, .string nm] 61)).alloc (Obj.cells #[.int .i64 0, .int .i64 aw] 59)).alloc (Obj.cells #[.int .i64 0, .int .i64 bw] 59)).alloc (Obj.cells #[.int .i64 ci, .int .i64 cw] 59)).alloc (Obj.cells #[.int .i64 0, .int .i64 0] 59)) from by repeat (first | exact Below.refl _ _ | refine Below.alloc ?_ (by first | (simp; done) | (simp; omega)) _))
  have b0 : (((((w.alloc (Obj.cells #[.int .i64 1, .int .i64 xa, .int .i64 xb, .int .i64 xc, .int .i64 n, .int .i64 m, .int .i64 xi, .int .i64 xw, .string nm] 61)).alloc (Obj.cells #[.int .i64 0, .int .i64 aw] 59)).alloc (Obj.cells #[.int .i64 0, .int .i64 bw] 59)).alloc (Obj.cells #[.int .i64 ci, .int .i64 cw] 59)).alloc (Obj.cells #[.int .i64 0, .int .i64 0] 59)).cell? ⟨w.heap.size, 0, none⟩ = some (.int .i64 1) := by go_simp
  have b4 : (((((w.alloc (Obj.cells #[.int .i64 1, .int .i64 xa, .int .i64 xb, .int .i64 xc, .int .i64 n, .int .i64 m, .int .i64 xi, .int .i64 xw, .string nm] 61)).alloc (Obj.cells #[.int .i64 0, .int .i64 aw] 59)).alloc (Obj.cells #[.int .i64 0, .int .i64 bw] 59)).alloc (Obj.cells #[.int .i64 ci, .int .i64 cw] 59)).alloc (Obj.cells #[.int .i64 0, .int .i64 0] 59)).cell? ⟨w.heap.size, 4, none⟩ = some (.int .i64 n) := by go_simp
  have b5 : (((((w.alloc (Obj.cells #[.int .i64 1, .int .i64 xa, .int .i64 xb, .int .i64 xc, .int .i64 n, .int .i64 m, .int .i64 xi, .int .i64 xw, .string nm] 61)).alloc (Obj.cells #[.int .i64 0, .int .i64 aw] 59)).alloc (Obj.cells #[.int .i64 0, .int .i64 bw] 59)).alloc (Obj.cells #[.int .i64 ci, .int .i64 cw] 59)).alloc (Obj.cells #[.int .i64 0, .int .i64 0] 59)).cell? ⟨w.heap.size, 5, none⟩ = some (.int .i64 m) := by go_simp
  have b6 : (((((w.alloc (Obj.cells #[.int .i64 1, .int .i64 xa, .int .i64 xb, .int .i64 xc, .int .i64 n, .int .i64 m, .int .i64 xi, .int .i64 xw, .string nm] 61)).alloc (Obj.cells #[.int .i64 0, .int .i64 aw] 59)).alloc (Obj.cells #[.int .i64 0, .int .i64 bw] 59)).alloc (Obj.cells #[.int .i64 ci, .int .i64 cw] 59)).alloc (Obj.cells #[.int .i64 0, .int .i64 0] 59)).cell? ⟨w.heap.size, 6, none⟩ = some (.int .i64 xi) := by go_simp
  have b7 : (((((w.alloc (Obj.cells #[.int .i64 1, .int .i64 xa, .int .i64 xb, .int .i64 xc, .int .i64 n, .int .i64 m, .int .i64 xi, .int .i64 xw, .string nm] 61)).alloc (Obj.cells #[.int .i64 0, .int .i64 aw] 59)).alloc (Obj.cells #[.int .i64 0, .int .i64 bw] 59)).alloc (Obj.cells #[.int .i64 ci, .int .i64 cw] 59)).alloc (Obj.cells #[.int .i64 0, .int .i64 0] 59)).cell? ⟨w.heap.size, 7, none⟩ = some (.int .i64 xw) := by go_simp
  have d0 : (((((w.alloc (Obj.cells #[.int .i64 1, .int .i64 xa, .int .i64 xb, .int .i64 xc, .int .i64 n, .int .i64 m, .int .i64 xi, .int .i64 xw, .string nm] 61)).alloc (Obj.cells #[.int .i64 0, .int .i64 aw] 59)).alloc (Obj.cells #[.int .i64 0, .int .i64 bw] 59)).alloc (Obj.cells #[.int .i64 ci, .int .i64 cw] 59)).alloc (Obj.cells #[.int .i64 0, .int .i64 0] 59)).cell? ⟨w.heap.size + 1, 0, none⟩ = some (.int .i64 0) := by go_simp
  have d1 : (((((w.alloc (Obj.cells #[.int .i64 1, .int .i64 xa, .int .i64 xb, .int .i64 xc, .int .i64 n, .int .i64 m, .int .i64 xi, .int .i64 xw, .string nm] 61)).alloc (Obj.cells #[.int .i64 0, .int .i64 aw] 59)).alloc (Obj.cells #[.int .i64 0, .int .i64 bw] 59)).alloc (Obj.cells #[.int .i64 ci, .int .i64 cw] 59)).alloc (Obj.cells #[.int .i64 0, .int .i64 0] 59)).cell? ⟨w.heap.size + 1, 1, none⟩ = some (.int .i64 aw) := by go_simp
  have d2 : (((((w.alloc (Obj.cells #[.int .i64 1, .int .i64 xa, .int .i64 xb, .int .i64 xc, .int .i64 n, .int .i64 m, .int .i64 xi, .int .i64 xw, .string nm] 61)).alloc (Obj.cells #[.int .i64 0, .int .i64 aw] 59)).alloc (Obj.cells #[.int .i64 0, .int .i64 bw] 59)).alloc (Obj.cells #[.int .i64 ci, .int .i64 cw] 59)).alloc (Obj.cells #[.int .i64 0, .int .i64 0] 59)).cell? ⟨w.heap.size + 2, 0, none⟩ = some (.int .i64 0) := by go_simp
  have d3 : (((((w.alloc (Obj.cells #[.int .i64 1, .int .i64 xa, .int .i64 xb, .int .i64 xc, .int .i64 n, .int .i64 m, .int .i64 xi, .int .i64 xw, .string nm] 61)).alloc (Obj.cells #[.int .i64 0, .int .i64 aw] 59)).alloc (Obj.cells #[.int .i64 0, .int .i64 bw] 59)).alloc (Obj.cells #[.int .i64 ci, .int .i64 cw] 59)).alloc (Obj.cells #[.int .i64 0, .int .i64 0] 59)).cell? ⟨w.heap.size + 2, 1, none⟩ = some (.int .i64 bw) := by go_simp
  have d4 : (((((w.alloc (Obj.cells #[.int .i64 1, .int .i64 xa, .int .i64 xb, .int .i64 xc, .int .i64 n, .int .i64 m, .int .i64 xi, .int .i64 xw, .string nm] 61)).alloc (Obj.cells #[.int .i64 0, .int .i64 aw] 59)).alloc (Obj.cells #[.int .i64 0, .int .i64 bw] 59)).alloc (Obj.cells #[.int .i64 ci, .int .i64 cw] 59)).alloc (Obj.cells #[.int .i64 0, .int .i64 0] 59)).cell? ⟨w.heap.size + 3, 0, none⟩ = some (.int .i64 ci) := by go_simp
  have d5 : (((((w.alloc (Obj.cells #[.int .i64 1, .int .i64 xa, .int .i64 xb, .int .i64 xc, .int .i64 n, .int .i64 m, .int .i64 xi, .int .i64 xw, .string nm] 61)).alloc (Obj.cells #[.int .i64 0, .int .i64 aw] 59)).alloc (Obj.cells #[.int .i64 0, .int .i64 bw] 59)).alloc (Obj.cells #[.int .i64 ci, .int .i64 cw] 59)).alloc (Obj.cells #[.int .i64 0, .int .i64 0] 59)).cell? ⟨w.heap.size + 3, 1, none⟩ = some (.int .i64 cw) := by go_simp
  have r0 : (((((w.alloc (Obj.cells #[.int .i64 1, .int .i64 xa, .int .i64 xb, .int .i64 xc, .int .i64 n, .int .i64 m, .int .i64 xi, .int .i64 xw, .string nm] 61)).alloc (Obj.cells #[.int .i64 0, .int .i64 aw] 59)).alloc (Obj.cells #[.int .i64 0, .int .i64 bw] 59)).alloc (Obj.cells #[.int .i64 ci, .int .i64 cw] 59)).alloc (Obj.cells #[.int .i64 0, .int .i64 0] 59)).cell? ⟨w.heap.size + 4, 0, none⟩ = some (.int .i64 0) := by go_simp
  have r1 : (((((w.alloc (Obj.cells #[.int .i64 1, .int .i64 xa, .int .i64 xb, .int .i64 xc, .int .i64 n, .int .i64 m, .int .i64 xi, .int .i64 xw, .string nm] 61)).alloc (Obj.cells #[.int .i64 0, .int .i64 aw] 59)).alloc (Obj.cells #[.int .i64 0, .int .i64 bw] 59)).alloc (Obj.cells #[.int .i64 ci, .int .i64 cw] 59)).alloc (Obj.cells #[.int .i64 0, .int .i64 0] 59)).cell? ⟨w.heap.size + 4, 1, none⟩ = some (.int .i64 0) := by go_simp
  have f0 : (((((w.alloc (Obj.cells #[.int .i64 1, .int .i64 xa, .int .i64 xb, .int .i64 xc, .int .i64 n, .int .i64 m, .int .i64 xi, .int .i64 xw, .string nm] 61)).alloc (Obj.cells #[.int .i64 0, .int .i64 aw] 59)).alloc (Obj.cells #[.int .i64 0, .int .i64 bw] 59)).alloc (Obj.cells #[.int .i64 ci, .int .i64 cw] 59)).alloc (Obj.cells #[.int .i64 0, .int .i64 0] 59)).frozen? ⟨w.heap.size + 4, 0, none⟩ = false := by go_simp
  have f1 : (((((w.alloc (Obj.cells #[.int .i64 1, .int .i64 xa, .int .i64 xb, .int .i64 xc, .int .i64 n, .int .i64 m, .int .i64 xi, .int .i64 xw, .string nm] 61)).alloc (Obj.cells #[.int .i64 0, .int .i64 aw] 59)).alloc (Obj.cells #[.int .i64 0, .int .i64 bw] 59)).alloc (Obj.cells #[.int .i64 ci, .int .i64 cw] 59)).alloc (Obj.cells #[.int .i64 0, .int .i64 0] 59)).frozen? ⟨w.heap.size + 4, 1, none⟩ = false := by go_simp
  generalize (((((w.alloc (Obj.cells #[.int .i64 1, .int .i64 xa, .int .i64 xb, .int .i64 xc, .int .i64 n, .int .i64 m, .int .i64 xi, .int .i64 xw, .string nm] 61)).alloc (Obj.cells #[.int .i64 0, .int .i64 aw] 59)).alloc (Obj.cells #[.int .i64 0, .int .i64 bw] 59)).alloc (Obj.cells #[.int .i64 ci, .int .i64 cw] 59)).alloc (Obj.cells #[.int .i64 0, .int .i64 0] 59)) = w2 at *
  have f0 := Later.frozen f0 (World.block_lt_of_cell? _ _ r0)
  have f1 := Later.frozen f1 (World.block_lt_of_cell? _ _ r1)
  have b0 := Later.cell b0
  have b4 := Later.cell b4
  have b5 := Later.cell b5
  have b6 := Later.cell b6
  have b7 := Later.cell b7
  have d0 := Later.cell d0
  have d1 := Later.cell d1
  have d2 := Later.cell d2
  have d3 := Later.cell d3
  have d4 := Later.cell d4
  have d5 := Later.cell d5
  have r0 := Later.cell r0
  have r1 := Later.cell r1
  refine at_world (w := w2) ?_
  intro u0
  go_wp2
  exact bodyPost_ret (v := .tuple #[.agg #[.int .i64 (0), .int .i64 (aw)], .bool true]) (by simp [results, Try.results69, go_sem, r0, r1]) rfl (respost_some HR.out (by repeat (first | exact u0.back HB.out | refine Below.setCell ?_ (by first | (simp; done) | (simp; omega)) _)))
set_option maxHeartbeats 2000000 in
set_option maxRecDepth 8000 in
theorem sortOf_w2 (n m aw bw ci cw xa xb xc xi xw : Int) (nm : ByteArray) (w : World)  :
    Calls Try.prog 69 #[.agg #[.int .i64 2, .int .i64 xa, .int .i64 xb, .int .i64 xc, .int .i64 n, .int .i64 m, .int .i64 xi, .int .i64 xw, .string nm], .agg #[.int .i64 0, .int .i64 aw], .agg #[.int .i64 0, .int .i64 bw], .agg #[.int .i64 ci, .int .i64 cw]] w (ResPost (resN 2 n m 0 aw 0 bw ci cw) w) := by
  have HR := Lib.hid (show (resN 2 n m 0 aw 0 bw ci cw) = some (0, aw) by unfold resN; simp)
  go_enter Try.func69, Try.ntmps69
  go_upto_region 1 with fail
  have HB := Lib.hid (show Below w.heap.size w (((((w.alloc (Obj.cells #[.int .i64 2, .int .i64 xa, .int .i64 xb, .int .i64 xc, .int .i64 n, .int .i64 m, .int .i64 xi, .int .i64 xw, .string nm] 61)).alloc (Obj.cells #[.int .i64 0, .int .i64 aw] 59)).alloc (Obj.cells #[.int .i64 0, .int .i64 bw] 59)).alloc (Obj.cells #[.int .i64 ci, .int .i64 cw] 59)).alloc (Obj.cells #[.int .i64 0, .int .i64 0] 59)) from by repeat (first | exact Below.refl _ _ | refine Below.alloc ?_ (by first | (simp; done) | (simp; omega)) _))
  have b0 : (((((w.alloc (Obj.cells #[.int .i64 2, .int .i64 xa, .int .i64 xb, .int .i64 xc, .int .i64 n, .int .i64 m, .int .i64 xi, .int .i64 xw, .string nm] 61)).alloc (Obj.cells #[.int .i64 0, .int .i64 aw] 59)).alloc (Obj.cells #[.int .i64 0, .int .i64 bw] 59)).alloc (Obj.cells #[.int .i64 ci, .int .i64 cw] 59)).alloc (Obj.cells #[.int .i64 0, .int .i64 0] 59)).cell? ⟨w.heap.size, 0, none⟩ = some (.int .i64 2) := by go_simp
  have b4 : (((((w.alloc (Obj.cells #[.int .i64 2, .int .i64 xa, .int .i64 xb, .int .i64 xc, .int .i64 n, .int .i64 m, .int .i64 xi, .int .i64 xw, .string nm] 61)).alloc (Obj.cells #[.int .i64 0, .int .i64 aw] 59)).alloc (Obj.cells #[.int .i64 0, .int .i64 bw] 59)).alloc (Obj.cells #[.int .i64 ci, .int .i64 cw] 59)).alloc (Obj.cells #[.int .i64 0, .int .i64 0] 59)).cell? ⟨w.heap.size, 4, none⟩ = some (.int .i64 n) := by go_simp
  have b5 : (((((w.alloc (Obj.cells #[.int .i64 2, .int .i64 xa, .int .i64 xb, .int .i64 xc, .int .i64 n, .int .i64 m, .int .i64 xi, .int .i64 xw, .string nm] 61)).alloc (Obj.cells #[.int .i64 0, .int .i64 aw] 59)).alloc (Obj.cells #[.int .i64 0, .int .i64 bw] 59)).alloc (Obj.cells #[.int .i64 ci, .int .i64 cw] 59)).alloc (Obj.cells #[.int .i64 0, .int .i64 0] 59)).cell? ⟨w.heap.size, 5, none⟩ = some (.int .i64 m) := by go_simp
  have b6 : (((((w.alloc (Obj.cells #[.int .i64 2, .int .i64 xa, .int .i64 xb, .int .i64 xc, .int .i64 n, .int .i64 m, .int .i64 xi, .int .i64 xw, .string nm] 61)).alloc (Obj.cells #[.int .i64 0, .int .i64 aw] 59)).alloc (Obj.cells #[.int .i64 0, .int .i64 bw] 59)).alloc (Obj.cells #[.int .i64 ci, .int .i64 cw] 59)).alloc (Obj.cells #[.int .i64 0, .int .i64 0] 59)).cell? ⟨w.heap.size, 6, none⟩ = some (.int .i64 xi) := by go_simp
  have b7 : (((((w.alloc (Obj.cells #[.int .i64 2, .int .i64 xa, .int .i64 xb, .int .i64 xc, .int .i64 n, .int .i64 m, .int .i64 xi, .int .i64 xw, .string nm] 61)).alloc (Obj.cells #[.int .i64 0, .int .i64 aw] 59)).alloc (Obj.cells #[.int .i64 0, .int .i64 bw] 59)).alloc (Obj.cells #[.int .i64 ci, .int .i64 cw] 59)).alloc (Obj.cells #[.int .i64 0, .int .i64 0] 59)).cell? ⟨w.heap.size, 7, none⟩ = some (.int .i64 xw) := by go_simp
  have d0 : (((((w.alloc (Obj.cells #[.int .i64 2, .int .i64 xa, .int .i64 xb, .int .i64 xc, .int .i64 n, .int .i64 m, .int .i64 xi, .int .i64 xw, .string nm] 61)).alloc (Obj.cells #[.int .i64 0, .int .i64 aw] 59)).alloc (Obj.cells #[.int .i64 0, .int .i64 bw] 59)).alloc (Obj.cells #[.int .i64 ci, .int .i64 cw] 59)).alloc (Obj.cells #[.int .i64 0, .int .i64 0] 59)).cell? ⟨w.heap.size + 1, 0, none⟩ = some (.int .i64 0) := by go_simp
  have d1 : (((((w.alloc (Obj.cells #[.int .i64 2, .int .i64 xa, .int .i64 xb, .int .i64 xc, .int .i64 n, .int .i64 m, .int .i64 xi, .int .i64 xw, .string nm] 61)).alloc (Obj.cells #[.int .i64 0, .int .i64 aw] 59)).alloc (Obj.cells #[.int .i64 0, .int .i64 bw] 59)).alloc (Obj.cells #[.int .i64 ci, .int .i64 cw] 59)).alloc (Obj.cells #[.int .i64 0, .int .i64 0] 59)).cell? ⟨w.heap.size + 1, 1, none⟩ = some (.int .i64 aw) := by go_simp
  have d2 : (((((w.alloc (Obj.cells #[.int .i64 2, .int .i64 xa, .int .i64 xb, .int .i64 xc, .int .i64 n, .int .i64 m, .int .i64 xi, .int .i64 xw, .string nm] 61)).alloc (Obj.cells #[.int .i64 0, .int .i64 aw] 59)).alloc (Obj.cells #[.int .i64 0, .int .i64 bw] 59)).alloc (Obj.cells #[.int .i64 ci, .int .i64 cw] 59)).alloc (Obj.cells #[.int .i64 0, .int .i64 0] 59)).cell? ⟨w.heap.size + 2, 0, none⟩ = some (.int .i64 0) := by go_simp
  have d3 : (((((w.alloc (Obj.cells #[.int .i64 2, .int .i64 xa, .int .i64 xb, .int .i64 xc, .int .i64 n, .int .i64 m, .int .i64 xi, .int .i64 xw, .string nm] 61)).alloc (Obj.cells #[.int .i64 0, .int .i64 aw] 59)).alloc (Obj.cells #[.int .i64 0, .int .i64 bw] 59)).alloc (Obj.cells #[.int .i64 ci, .int .i64 cw] 59)).alloc (Obj.cells #[.int .i64 0, .int .i64 0] 59)).cell? ⟨w.heap.size + 2, 1, none⟩ = some (.int .i64 bw) := by go_simp
  have d4 : (((((w.alloc (Obj.cells #[.int .i64 2, .int .i64 xa, .int .i64 xb, .int .i64 xc, .int .i64 n, .int .i64 m, .int .i64 xi, .int .i64 xw, .string nm] 61)).alloc (Obj.cells #[.int .i64 0, .int .i64 aw] 59)).alloc (Obj.cells #[.int .i64 0, .int .i64 bw] 59)).alloc (Obj.cells #[.int .i64 ci, .int .i64 cw] 59)).alloc (Obj.cells #[.int .i64 0, .int .i64 0] 59)).cell? ⟨w.heap.size + 3, 0, none⟩ = some (.int .i64 ci) := by go_simp
  have d5 : (((((w.alloc (Obj.cells #[.int .i64 2, .int .i64 xa, .int .i64 xb, .int .i64 xc, .int .i64 n, .int .i64 m, .int .i64 xi, .int .i64 xw, .string nm] 61)).alloc (Obj.cells #[.int .i64 0, .int .i64 aw] 59)).alloc (Obj.cells #[.int .i64 0, .int .i64 bw] 59)).alloc (Obj.cells #[.int .i64 ci, .int .i64 cw] 59)).alloc (Obj.cells #[.int .i64 0, .int .i64 0] 59)).cell? ⟨w.heap.size + 3, 1, none⟩ = some (.int .i64 cw) := by go_simp
  have r0 : (((((w.alloc (Obj.cells #[.int .i64 2, .int .i64 xa, .int .i64 xb, .int .i64 xc, .int .i64 n, .int .i64 m, .int .i64 xi, .int .i64 xw, .string nm] 61)).alloc (Obj.cells #[.int .i64 0, .int .i64 aw] 59)).alloc (Obj.cells #[.int .i64 0, .int .i64 bw] 59)).alloc (Obj.cells #[.int .i64 ci, .int .i64 cw] 59)).alloc (Obj.cells #[.int .i64 0, .int .i64 0] 59)).cell? ⟨w.heap.size + 4, 0, none⟩ = some (.int .i64 0) := by go_simp
  have r1 : (((((w.alloc (Obj.cells #[.int .i64 2, .int .i64 xa, .int .i64 xb, .int .i64 xc, .int .i64 n, .int .i64 m, .int .i64 xi, .int .i64 xw, .string nm] 61)).alloc (Obj.cells #[.int .i64 0, .int .i64 aw] 59)).alloc (Obj.cells #[.int .i64 0, .int .i64 bw] 59)).alloc (Obj.cells #[.int .i64 ci, .int .i64 cw] 59)).alloc (Obj.cells #[.int .i64 0, .int .i64 0] 59)).cell? ⟨w.heap.size + 4, 1, none⟩ = some (.int .i64 0) := by go_simp
  have f0 : (((((w.alloc (Obj.cells #[.int .i64 2, .int .i64 xa, .int .i64 xb, .int .i64 xc, .int .i64 n, .int .i64 m, .int .i64 xi, .int .i64 xw, .string nm] 61)).alloc (Obj.cells #[.int .i64 0, .int .i64 aw] 59)).alloc (Obj.cells #[.int .i64 0, .int .i64 bw] 59)).alloc (Obj.cells #[.int .i64 ci, .int .i64 cw] 59)).alloc (Obj.cells #[.int .i64 0, .int .i64 0] 59)).frozen? ⟨w.heap.size + 4, 0, none⟩ = false := by go_simp
  have f1 : (((((w.alloc (Obj.cells #[.int .i64 2, .int .i64 xa, .int .i64 xb, .int .i64 xc, .int .i64 n, .int .i64 m, .int .i64 xi, .int .i64 xw, .string nm] 61)).alloc (Obj.cells #[.int .i64 0, .int .i64 aw] 59)).alloc (Obj.cells #[.int .i64 0, .int .i64 bw] 59)).alloc (Obj.cells #[.int .i64 ci, .int .i64 cw] 59)).alloc (Obj.cells #[.int .i64 0, .int .i64 0] 59)).frozen? ⟨w.heap.size + 4, 1, none⟩ = false := by go_simp
  generalize (((((w.alloc (Obj.cells #[.int .i64 2, .int .i64 xa, .int .i64 xb, .int .i64 xc, .int .i64 n, .int .i64 m, .int .i64 xi, .int .i64 xw, .string nm] 61)).alloc (Obj.cells #[.int .i64 0, .int .i64 aw] 59)).alloc (Obj.cells #[.int .i64 0, .int .i64 bw] 59)).alloc (Obj.cells #[.int .i64 ci, .int .i64 cw] 59)).alloc (Obj.cells #[.int .i64 0, .int .i64 0] 59)) = w2 at *
  have f0 := Later.frozen f0 (World.block_lt_of_cell? _ _ r0)
  have f1 := Later.frozen f1 (World.block_lt_of_cell? _ _ r1)
  have b0 := Later.cell b0
  have b4 := Later.cell b4
  have b5 := Later.cell b5
  have b6 := Later.cell b6
  have b7 := Later.cell b7
  have d0 := Later.cell d0
  have d1 := Later.cell d1
  have d2 := Later.cell d2
  have d3 := Later.cell d3
  have d4 := Later.cell d4
  have d5 := Later.cell d5
  have r0 := Later.cell r0
  have r1 := Later.cell r1
  refine at_world (w := w2) ?_
  intro u0
  go_wp2
  exact bodyPost_ret (v := .tuple #[.agg #[.int .i64 (0), .int .i64 (aw)], .bool true]) (by simp [results, Try.results69, go_sem, r0, r1]) rfl (respost_some HR.out (by repeat (first | exact u0.back HB.out | refine Below.setCell ?_ (by first | (simp; done) | (simp; omega)) _)))
set_option maxHeartbeats 2000000 in
set_option maxRecDepth 8000 in
theorem sortOf_w3 (kind n m aw bw ci cw xa xb xc xi xw : Int) (nm : ByteArray) (w : World) (hk : 3 ≤ kind ∧ kind ≤ 5) :
    Calls Try.prog 69 #[.agg #[.int .i64 kind, .int .i64 xa, .int .i64 xb, .int .i64 xc, .int .i64 n, .int .i64 m, .int .i64 xi, .int .i64 xw, .string nm], .agg #[.int .i64 0, .int .i64 aw], .agg #[.int .i64 0, .int .i64 bw], .agg #[.int .i64 ci, .int .i64 cw]] w (ResPost (resN kind n m 0 aw 0 bw ci cw) w) := by
  have HR := Lib.hid (show (resN kind n m 0 aw 0 bw ci cw) = some (0, 1) by unfold resN; rw [if_neg (by omega), if_neg (by omega), if_neg (by omega), if_neg (by omega), if_neg (by simp), if_neg (by omega), if_neg (by omega), if_neg (by omega), if_neg (by omega), if_pos hk.2])
  have k33 : (kind == 33) = false := beq_eq_false_iff_ne.2 (by omega)
  have k34 : (kind == 34) = false := beq_eq_false_iff_ne.2 (by omega)
  have k35 : (kind == 35) = false := beq_eq_false_iff_ne.2 (by omega)
  have k36 : (kind == 36) = false := beq_eq_false_iff_ne.2 (by omega)
  have k37 : (kind == 37) = false := beq_eq_false_iff_ne.2 (by omega)
  have k38 : (kind == 38) = false := beq_eq_false_iff_ne.2 (by omega)
  have k21 : (kind == 21) = false := beq_eq_false_iff_ne.2 (by omega)
  have k1 : (kind == 1) = false := beq_eq_false_iff_ne.2 (by omega)
  have k2 : (kind == 2) = false := beq_eq_false_iff_ne.2 (by omega)
  have HI := Lib.hid (show inB kind 3 5 = true from inB_yes (by omega))
  clear hk
  go_enter Try.func69, Try.ntmps69
  go_upto_region 1 with fail
  have HB := Lib.hid (show Below w.heap.size w (((((w.alloc (Obj.cells #[.int .i64 kind, .int .i64 xa, .int .i64 xb, .int .i64 xc, .int .i64 n, .int .i64 m, .int .i64 xi, .int .i64 xw, .string nm] 61)).alloc (Obj.cells #[.int .i64 0, .int .i64 aw] 59)).alloc (Obj.cells #[.int .i64 0, .int .i64 bw] 59)).alloc (Obj.cells #[.int .i64 ci, .int .i64 cw] 59)).alloc (Obj.cells #[.int .i64 0, .int .i64 0] 59)) from by repeat (first | exact Below.refl _ _ | refine Below.alloc ?_ (by first | (simp; done) | (simp; omega)) _))
  have b0 : (((((w.alloc (Obj.cells #[.int .i64 kind, .int .i64 xa, .int .i64 xb, .int .i64 xc, .int .i64 n, .int .i64 m, .int .i64 xi, .int .i64 xw, .string nm] 61)).alloc (Obj.cells #[.int .i64 0, .int .i64 aw] 59)).alloc (Obj.cells #[.int .i64 0, .int .i64 bw] 59)).alloc (Obj.cells #[.int .i64 ci, .int .i64 cw] 59)).alloc (Obj.cells #[.int .i64 0, .int .i64 0] 59)).cell? ⟨w.heap.size, 0, none⟩ = some (.int .i64 kind) := by go_simp
  have b4 : (((((w.alloc (Obj.cells #[.int .i64 kind, .int .i64 xa, .int .i64 xb, .int .i64 xc, .int .i64 n, .int .i64 m, .int .i64 xi, .int .i64 xw, .string nm] 61)).alloc (Obj.cells #[.int .i64 0, .int .i64 aw] 59)).alloc (Obj.cells #[.int .i64 0, .int .i64 bw] 59)).alloc (Obj.cells #[.int .i64 ci, .int .i64 cw] 59)).alloc (Obj.cells #[.int .i64 0, .int .i64 0] 59)).cell? ⟨w.heap.size, 4, none⟩ = some (.int .i64 n) := by go_simp
  have b5 : (((((w.alloc (Obj.cells #[.int .i64 kind, .int .i64 xa, .int .i64 xb, .int .i64 xc, .int .i64 n, .int .i64 m, .int .i64 xi, .int .i64 xw, .string nm] 61)).alloc (Obj.cells #[.int .i64 0, .int .i64 aw] 59)).alloc (Obj.cells #[.int .i64 0, .int .i64 bw] 59)).alloc (Obj.cells #[.int .i64 ci, .int .i64 cw] 59)).alloc (Obj.cells #[.int .i64 0, .int .i64 0] 59)).cell? ⟨w.heap.size, 5, none⟩ = some (.int .i64 m) := by go_simp
  have b6 : (((((w.alloc (Obj.cells #[.int .i64 kind, .int .i64 xa, .int .i64 xb, .int .i64 xc, .int .i64 n, .int .i64 m, .int .i64 xi, .int .i64 xw, .string nm] 61)).alloc (Obj.cells #[.int .i64 0, .int .i64 aw] 59)).alloc (Obj.cells #[.int .i64 0, .int .i64 bw] 59)).alloc (Obj.cells #[.int .i64 ci, .int .i64 cw] 59)).alloc (Obj.cells #[.int .i64 0, .int .i64 0] 59)).cell? ⟨w.heap.size, 6, none⟩ = some (.int .i64 xi) := by go_simp
  have b7 : (((((w.alloc (Obj.cells #[.int .i64 kind, .int .i64 xa, .int .i64 xb, .int .i64 xc, .int .i64 n, .int .i64 m, .int .i64 xi, .int .i64 xw, .string nm] 61)).alloc (Obj.cells #[.int .i64 0, .int .i64 aw] 59)).alloc (Obj.cells #[.int .i64 0, .int .i64 bw] 59)).alloc (Obj.cells #[.int .i64 ci, .int .i64 cw] 59)).alloc (Obj.cells #[.int .i64 0, .int .i64 0] 59)).cell? ⟨w.heap.size, 7, none⟩ = some (.int .i64 xw) := by go_simp
  have d0 : (((((w.alloc (Obj.cells #[.int .i64 kind, .int .i64 xa, .int .i64 xb, .int .i64 xc, .int .i64 n, .int .i64 m, .int .i64 xi, .int .i64 xw, .string nm] 61)).alloc (Obj.cells #[.int .i64 0, .int .i64 aw] 59)).alloc (Obj.cells #[.int .i64 0, .int .i64 bw] 59)).alloc (Obj.cells #[.int .i64 ci, .int .i64 cw] 59)).alloc (Obj.cells #[.int .i64 0, .int .i64 0] 59)).cell? ⟨w.heap.size + 1, 0, none⟩ = some (.int .i64 0) := by go_simp
  have d1 : (((((w.alloc (Obj.cells #[.int .i64 kind, .int .i64 xa, .int .i64 xb, .int .i64 xc, .int .i64 n, .int .i64 m, .int .i64 xi, .int .i64 xw, .string nm] 61)).alloc (Obj.cells #[.int .i64 0, .int .i64 aw] 59)).alloc (Obj.cells #[.int .i64 0, .int .i64 bw] 59)).alloc (Obj.cells #[.int .i64 ci, .int .i64 cw] 59)).alloc (Obj.cells #[.int .i64 0, .int .i64 0] 59)).cell? ⟨w.heap.size + 1, 1, none⟩ = some (.int .i64 aw) := by go_simp
  have d2 : (((((w.alloc (Obj.cells #[.int .i64 kind, .int .i64 xa, .int .i64 xb, .int .i64 xc, .int .i64 n, .int .i64 m, .int .i64 xi, .int .i64 xw, .string nm] 61)).alloc (Obj.cells #[.int .i64 0, .int .i64 aw] 59)).alloc (Obj.cells #[.int .i64 0, .int .i64 bw] 59)).alloc (Obj.cells #[.int .i64 ci, .int .i64 cw] 59)).alloc (Obj.cells #[.int .i64 0, .int .i64 0] 59)).cell? ⟨w.heap.size + 2, 0, none⟩ = some (.int .i64 0) := by go_simp
  have d3 : (((((w.alloc (Obj.cells #[.int .i64 kind, .int .i64 xa, .int .i64 xb, .int .i64 xc, .int .i64 n, .int .i64 m, .int .i64 xi, .int .i64 xw, .string nm] 61)).alloc (Obj.cells #[.int .i64 0, .int .i64 aw] 59)).alloc (Obj.cells #[.int .i64 0, .int .i64 bw] 59)).alloc (Obj.cells #[.int .i64 ci, .int .i64 cw] 59)).alloc (Obj.cells #[.int .i64 0, .int .i64 0] 59)).cell? ⟨w.heap.size + 2, 1, none⟩ = some (.int .i64 bw) := by go_simp
  have d4 : (((((w.alloc (Obj.cells #[.int .i64 kind, .int .i64 xa, .int .i64 xb, .int .i64 xc, .int .i64 n, .int .i64 m, .int .i64 xi, .int .i64 xw, .string nm] 61)).alloc (Obj.cells #[.int .i64 0, .int .i64 aw] 59)).alloc (Obj.cells #[.int .i64 0, .int .i64 bw] 59)).alloc (Obj.cells #[.int .i64 ci, .int .i64 cw] 59)).alloc (Obj.cells #[.int .i64 0, .int .i64 0] 59)).cell? ⟨w.heap.size + 3, 0, none⟩ = some (.int .i64 ci) := by go_simp
  have d5 : (((((w.alloc (Obj.cells #[.int .i64 kind, .int .i64 xa, .int .i64 xb, .int .i64 xc, .int .i64 n, .int .i64 m, .int .i64 xi, .int .i64 xw, .string nm] 61)).alloc (Obj.cells #[.int .i64 0, .int .i64 aw] 59)).alloc (Obj.cells #[.int .i64 0, .int .i64 bw] 59)).alloc (Obj.cells #[.int .i64 ci, .int .i64 cw] 59)).alloc (Obj.cells #[.int .i64 0, .int .i64 0] 59)).cell? ⟨w.heap.size + 3, 1, none⟩ = some (.int .i64 cw) := by go_simp
  have r0 : (((((w.alloc (Obj.cells #[.int .i64 kind, .int .i64 xa, .int .i64 xb, .int .i64 xc, .int .i64 n, .int .i64 m, .int .i64 xi, .int .i64 xw, .string nm] 61)).alloc (Obj.cells #[.int .i64 0, .int .i64 aw] 59)).alloc (Obj.cells #[.int .i64 0, .int .i64 bw] 59)).alloc (Obj.cells #[.int .i64 ci, .int .i64 cw] 59)).alloc (Obj.cells #[.int .i64 0, .int .i64 0] 59)).cell? ⟨w.heap.size + 4, 0, none⟩ = some (.int .i64 0) := by go_simp
  have r1 : (((((w.alloc (Obj.cells #[.int .i64 kind, .int .i64 xa, .int .i64 xb, .int .i64 xc, .int .i64 n, .int .i64 m, .int .i64 xi, .int .i64 xw, .string nm] 61)).alloc (Obj.cells #[.int .i64 0, .int .i64 aw] 59)).alloc (Obj.cells #[.int .i64 0, .int .i64 bw] 59)).alloc (Obj.cells #[.int .i64 ci, .int .i64 cw] 59)).alloc (Obj.cells #[.int .i64 0, .int .i64 0] 59)).cell? ⟨w.heap.size + 4, 1, none⟩ = some (.int .i64 0) := by go_simp
  have f0 : (((((w.alloc (Obj.cells #[.int .i64 kind, .int .i64 xa, .int .i64 xb, .int .i64 xc, .int .i64 n, .int .i64 m, .int .i64 xi, .int .i64 xw, .string nm] 61)).alloc (Obj.cells #[.int .i64 0, .int .i64 aw] 59)).alloc (Obj.cells #[.int .i64 0, .int .i64 bw] 59)).alloc (Obj.cells #[.int .i64 ci, .int .i64 cw] 59)).alloc (Obj.cells #[.int .i64 0, .int .i64 0] 59)).frozen? ⟨w.heap.size + 4, 0, none⟩ = false := by go_simp
  have f1 : (((((w.alloc (Obj.cells #[.int .i64 kind, .int .i64 xa, .int .i64 xb, .int .i64 xc, .int .i64 n, .int .i64 m, .int .i64 xi, .int .i64 xw, .string nm] 61)).alloc (Obj.cells #[.int .i64 0, .int .i64 aw] 59)).alloc (Obj.cells #[.int .i64 0, .int .i64 bw] 59)).alloc (Obj.cells #[.int .i64 ci, .int .i64 cw] 59)).alloc (Obj.cells #[.int .i64 0, .int .i64 0] 59)).frozen? ⟨w.heap.size + 4, 1, none⟩ = false := by go_simp
  generalize (((((w.alloc (Obj.cells #[.int .i64 kind, .int .i64 xa, .int .i64 xb, .int .i64 xc, .int .i64 n, .int .i64 m, .int .i64 xi, .int .i64 xw, .string nm] 61)).alloc (Obj.cells #[.int .i64 0, .int .i64 aw] 59)).alloc (Obj.cells #[.int .i64 0, .int .i64 bw] 59)).alloc (Obj.cells #[.int .i64 ci, .int .i64 cw] 59)).alloc (Obj.cells #[.int .i64 0, .int .i64 0] 59)) = w2 at *
  have f0 := Later.frozen f0 (World.block_lt_of_cell? _ _ r0)
  have f1 := Later.frozen f1 (World.block_lt_of_cell? _ _ r1)
  have b0 := Later.cell b0
  have b4 := Later.cell b4
  have b5 := Later.cell b5
  have b6 := Later.cell b6
  have b7 := Later.cell b7
  have d0 := Later.cell d0
  have d1 := Later.cell d1
  have d2 := Later.cell d2
  have d3 := Later.cell d3
  have d4 := Later.cell d4
  have d5 := Later.cell d5
  have r0 := Later.cell r0
  have r1 := Later.cell r1
  refine at_world (w := w2) ?_
  intro u0
  go_wp2_with (first | (go_at_call 55; refine (Calls.later (u := u0) (in_calls _ _ _ _)).mono ?_; rintro e w' ⟨rfl, u1, rfl⟩; rw [HI.out]) | (go_at_call 34; refine (Calls.later (u := u1) (words_calls _ _)).mono ?_; rintro e w' ⟨rfl, u2, rfl⟩))
  exact bodyPost_ret (v := .tuple #[.agg #[.int .i64 (0), .int .i64 (1)], .bool true]) (by simp [results, Try.results69, go_sem, r0, r1]) rfl (respost_some HR.out (by repeat (first | exact u2.back HB.out | refine Below.setCell ?_ (by first | (simp; done) | (simp; omega)) _)))
end Go.Proofs.Ytbiilnehgdhkoaa
