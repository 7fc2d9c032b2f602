import Derived.Test.YtdojaijnejcoiaaGreatmc8
import Derived.Test.YtdojaijnejcoiaaGreatmc7
import Derived.Deep.RegionHeld3
import Derived.Deep.LoopGhost
set_option linter.unusedVariables false
set_option linter.unusedSimpArgs false
set_option maxRecDepth 8000
set_option maxHeartbeats 16000000
namespace Go.Proofs.YtdojaijnejcoiaaGreat
open Go.RowKit
theorem nine_set {w : World} {R : Nat} {T : TypeId} {x0 x1 x2 x3 x4 x5 x6 x7 x8 : Value} (h : OwnB w R T #[x0, x1, x2, x3, x4, x5, x6, x7, x8]) (a0 a1 a2 a3 a4 a5 a6 a7 a8 : Value) :
 OwnB (((((((((w.setCell ⟨R, 0, none⟩ a0).setCell ⟨R, 1, none⟩ a1).setCell ⟨R, 2, none⟩ a2).setCell ⟨R, 3, none⟩ a3).setCell ⟨R, 4, none⟩ a4).setCell ⟨R, 5, none⟩ a5).setCell ⟨R, 6, none⟩ a6).setCell ⟨R, 7, none⟩ a7).setCell ⟨R, 8, none⟩ a8) R T #[a0, a1, a2, a3, a4, a5, a6, a7, a8] :=
 by
 have h0 : OwnB (w.setCell ⟨R, 0, none⟩ a0) R T #[a0, x1, x2, x3, x4, x5, x6, x7, x8] := h.set 0 a0
 have h1 : OwnB ((w.setCell ⟨R, 0, none⟩ a0).setCell ⟨R, 1, none⟩ a1) R T #[a0, a1, x2, x3, x4, x5, x6, x7, x8] := h0.set 1 a1
 have h2 : OwnB (((w.setCell ⟨R, 0, none⟩ a0).setCell ⟨R, 1, none⟩ a1).setCell ⟨R, 2, none⟩ a2) R T #[a0, a1, a2, x3, x4, x5, x6, x7, x8] := h1.set 2 a2
 have h3 : OwnB ((((w.setCell ⟨R, 0, none⟩ a0).setCell ⟨R, 1, none⟩ a1).setCell ⟨R, 2, none⟩ a2).setCell ⟨R, 3, none⟩ a3) R T #[a0, a1, a2, a3, x4, x5, x6, x7, x8] := h2.set 3 a3
 have h4 : OwnB (((((w.setCell ⟨R, 0, none⟩ a0).setCell ⟨R, 1, none⟩ a1).setCell ⟨R, 2, none⟩ a2).setCell ⟨R, 3, none⟩ a3).setCell ⟨R, 4, none⟩ a4) R T #[a0, a1, a2, a3, a4, x5, x6, x7, x8] := h3.set 4 a4
 have h5 : OwnB ((((((w.setCell ⟨R, 0, none⟩ a0).setCell ⟨R, 1, none⟩ a1).setCell ⟨R, 2, none⟩ a2).setCell ⟨R, 3, none⟩ a3).setCell ⟨R, 4, none⟩ a4).setCell ⟨R, 5, none⟩ a5) R T #[a0, a1, a2, a3, a4, a5, x6, x7, x8] := h4.set 5 a5
 have h6 : OwnB (((((((w.setCell ⟨R, 0, none⟩ a0).setCell ⟨R, 1, none⟩ a1).setCell ⟨R, 2, none⟩ a2).setCell ⟨R, 3, none⟩ a3).setCell ⟨R, 4, none⟩ a4).setCell ⟨R, 5, none⟩ a5).setCell ⟨R, 6, none⟩ a6) R T #[a0, a1, a2, a3, a4, a5, a6, x7, x8] := h5.set 6 a6
 have h7 : OwnB ((((((((w.setCell ⟨R, 0, none⟩ a0).setCell ⟨R, 1, none⟩ a1).setCell ⟨R, 2, none⟩ a2).setCell ⟨R, 3, none⟩ a3).setCell ⟨R, 4, none⟩ a4).setCell ⟨R, 5, none⟩ a5).setCell ⟨R, 6, none⟩ a6).setCell ⟨R, 7, none⟩ a7) R T #[a0, a1, a2, a3, a4, a5, a6, a7, x8] := h6.set 7 a7
 have h8 : OwnB (((((((((w.setCell ⟨R, 0, none⟩ a0).setCell ⟨R, 1, none⟩ a1).setCell ⟨R, 2, none⟩ a2).setCell ⟨R, 3, none⟩ a3).setCell ⟨R, 4, none⟩ a4).setCell ⟨R, 5, none⟩ a5).setCell ⟨R, 6, none⟩ a6).setCell ⟨R, 7, none⟩ a7).setCell ⟨R, 8, none⟩ a8) R T #[a0, a1, a2, a3, a4, a5, a6, a7, a8] := h7.set 8 a8
 exact h8
theorem nine_below {w w' : World} {R B : Nat} (h : Below B w w') (hR : B ≤ R) (a0 a1 a2 a3 a4 a5 a6 a7 a8 : Value) :
 Below B w (((((((((w'.setCell ⟨R, 0, none⟩ a0).setCell ⟨R, 1, none⟩ a1).setCell ⟨R, 2, none⟩ a2).setCell ⟨R, 3, none⟩ a3).setCell ⟨R, 4, none⟩ a4).setCell ⟨R, 5, none⟩ a5).setCell ⟨R, 6, none⟩ a6).setCell ⟨R, 7, none⟩ a7).setCell ⟨R, 8, none⟩ a8) :=
 ((((((((h.setCell hR a0).setCell hR a1).setCell hR a2).setCell hR a3).setCell hR a4).setCell hR a5).setCell hR a6).setCell hR a7).setCell hR a8
theorem l9Parts_calls (x : Nd) (tv : Value) (T : List Int) (w : World) (ht : SlN enI w tv T) (hin : PartsIn T.length x) (hp : 0 ≤ partsN x.kind) (hT : T.length ≤ 1048576) :
 Makes Tryz.prog 16 #[nodeV x, tv] w (nodeV (partT T x)) := by
 obtain ⟨A, c, rfl, -, -, hA⟩ := ht
 have HIN := Lib.hid hin
 have HA := Lib.hid hA
 obtain ⟨pk, hpk⟩ := Int.eq_ofNat_of_zero_le hp
 have hpk3 : pk ≤ 3 := by have := partsN_le x.kind; omega
 have HPN := Lib.hid hpk
 obtain ⟨V, hV⟩ : ∃ V, nodeV (partT T x) = V := ⟨_, rfl⟩
 have HV := Lib.hid hV
 rw [hV]
 clear hin hA hp hpk hV
 generalize hm : T.length = m at *
 have HM := Lib.hid hm
 clear hm
 go_enter Tryz.func16, Tryz.ntmps16
 go_upto_region 1 with fail
 generalize hw2 : (w.alloc (Obj.cells #[.int .i64 x.kind, .int .i64 x.a, .int .i64 x.b, .int .i64 x.c, .int .i64 x.n, .int .i64 x.m, .int .i64 x.idx, .int .i64 x.wid, .string x.name] 46)).alloc (Obj.cells #[.int .i64 0, .int .i64 0, .int .i64 0, .int .i64 0, .int .i64 0, .int .i64 0, .int .i64 0, .int .i64 0, .string ⟨#[]⟩] 46) = W0
 have HX0 := Lib.hid (show OwnB W0 w.heap.size 46 #[.int .i64 x.kind, .int .i64 x.a, .int .i64 x.b, .int .i64 x.c, .int .i64 x.n, .int .i64 x.m, .int .i64 x.idx, .int .i64 x.wid, .string x.name] by
  rw [← hw2]
  exact (OwnB.new w 46 #[.int .i64 x.kind, .int .i64 x.a, .int .i64 x.b, .int .i64 x.c, .int .i64 x.n, .int .i64 x.m, .int .i64 x.idx, .int .i64 x.wid, .string x.name]).below (box_below _ _ _) (by simp))
 have HR0 := Lib.hid (show OwnB W0 (w.heap.size + 1) 46 #[.int .i64 0, .int .i64 0, .int .i64 0, .int .i64 0, .int .i64 0, .int .i64 0, .int .i64 0, .int .i64 0, .string ⟨#[]⟩] by
  have h := OwnB.new (w.alloc (Obj.cells #[.int .i64 x.kind, .int .i64 x.a, .int .i64 x.b, .int .i64 x.c, .int .i64 x.n, .int .i64 x.m, .int .i64 x.idx, .int .i64 x.wid, .string x.name] 46)) 46 #[.int .i64 0, .int .i64 0, .int .i64 0, .int .i64 0, .int .i64 0, .int .i64 0, .int .i64 0, .int .i64 0, .string ⟨#[]⟩]
  rw [hw2] at h
  simpa using h)
 have HB0 := Lib.hid (show Below w.heap.size w W0 by rw [← hw2]; exact ((Below.refl _ _).alloc (Nat.le_refl _) _).alloc (by simp) _)
 clear hw2
 rcases (show pk = 0 ∨ pk = 1 ∨ pk = 2 ∨ pk = 3 by omega) with rfl | rfl | rfl | rfl
 · have HX0 := Lib.hid (show OwnB W0 w.heap.size 46 #[.int .i64 x.kind, .int .i64 x.a, .int .i64 x.b, .int .i64 x.c, .int .i64 x.n, .int .i64 x.m, .int .i64 x.idx, .int .i64 x.wid, .string x.name] by have h := HX0.out; exact h)
   have q0 : W0.cell? ⟨w.heap.size, 0, none⟩ = some (.int .i64 x.kind) := HX0.out.cell 0
   have q1 : W0.cell? ⟨w.heap.size, 1, none⟩ = some (.int .i64 x.a) := HX0.out.cell 1
   have q2 : W0.cell? ⟨w.heap.size, 2, none⟩ = some (.int .i64 x.b) := HX0.out.cell 2
   have q3 : W0.cell? ⟨w.heap.size, 3, none⟩ = some (.int .i64 x.c) := HX0.out.cell 3
   have q4 : W0.cell? ⟨w.heap.size, 4, none⟩ = some (.int .i64 x.n) := HX0.out.cell 4
   have q5 : W0.cell? ⟨w.heap.size, 5, none⟩ = some (.int .i64 x.m) := HX0.out.cell 5
   have q6 : W0.cell? ⟨w.heap.size, 6, none⟩ = some (.int .i64 x.idx) := HX0.out.cell 6
   have q7 : W0.cell? ⟨w.heap.size, 7, none⟩ = some (.int .i64 x.wid) := HX0.out.cell 7
   have q8 : W0.cell? ⟨w.heap.size, 8, none⟩ = some (.string x.name) := HX0.out.cell 8
   have f1 : W0.frozen? ⟨w.heap.size, 1, none⟩ = false := HX0.out.frozen 1
   have f2 : W0.frozen? ⟨w.heap.size, 2, none⟩ = false := HX0.out.frozen 2
   have f3 : W0.frozen? ⟨w.heap.size, 3, none⟩ = false := HX0.out.frozen 3
   go_upto_region 2 with (go_at_call 46; refine (l2Parts_same _ _).mono ?_; rintro e w' ⟨rfl, rfl⟩; rw [HPN.out])
   go_upto_region 8 with fail
   have HRS := Lib.hid (nine_set HR0.out (.int .i64 x.kind) (.int .i64 x.a) (.int .i64 x.b) (.int .i64 x.c) (.int .i64 x.n) (.int .i64 x.m) (.int .i64 x.idx) (.int .i64 x.wid) (.string x.name))
   have z0 : W0.cell? ⟨w.heap.size + 1, 0, none⟩ = some (.int .i64 0) := HR0.out.cell 0
   have e0 : W0.frozen? ⟨w.heap.size + 1, 0, none⟩ = false := HR0.out.frozen 0
   have z1 : W0.cell? ⟨w.heap.size + 1, 1, none⟩ = some (.int .i64 0) := HR0.out.cell 1
   have e1 : W0.frozen? ⟨w.heap.size + 1, 1, none⟩ = false := HR0.out.frozen 1
   have z2 : W0.cell? ⟨w.heap.size + 1, 2, none⟩ = some (.int .i64 0) := HR0.out.cell 2
   have e2 : W0.frozen? ⟨w.heap.size + 1, 2, none⟩ = false := HR0.out.frozen 2
   have z3 : W0.cell? ⟨w.heap.size + 1, 3, none⟩ = some (.int .i64 0) := HR0.out.cell 3
   have e3 : W0.frozen? ⟨w.heap.size + 1, 3, none⟩ = false := HR0.out.frozen 3
   have z4 : W0.cell? ⟨w.heap.size + 1, 4, none⟩ = some (.int .i64 0) := HR0.out.cell 4
   have e4 : W0.frozen? ⟨w.heap.size + 1, 4, none⟩ = false := HR0.out.frozen 4
   have z5 : W0.cell? ⟨w.heap.size + 1, 5, none⟩ = some (.int .i64 0) := HR0.out.cell 5
   have e5 : W0.frozen? ⟨w.heap.size + 1, 5, none⟩ = false := HR0.out.frozen 5
   have z6 : W0.cell? ⟨w.heap.size + 1, 6, none⟩ = some (.int .i64 0) := HR0.out.cell 6
   have e6 : W0.frozen? ⟨w.heap.size + 1, 6, none⟩ = false := HR0.out.frozen 6
   have z7 : W0.cell? ⟨w.heap.size + 1, 7, none⟩ = some (.int .i64 0) := HR0.out.cell 7
   have e7 : W0.frozen? ⟨w.heap.size + 1, 7, none⟩ = false := HR0.out.frozen 7
   have z8 : W0.cell? ⟨w.heap.size + 1, 8, none⟩ = some (.string ⟨#[]⟩) := HR0.out.cell 8
   have e8 : W0.frozen? ⟨w.heap.size + 1, 8, none⟩ = false := HR0.out.frozen 8
   have HBF := Lib.hid (nine_below HB0.out (show w.heap.size ≤ w.heap.size + 1 by omega) (.int .i64 x.kind) (.int .i64 x.a) (.int .i64 x.b) (.int .i64 x.c) (.int .i64 x.n) (.int .i64 x.m) (.int .i64 x.idx) (.int .i64 x.wid) (.string x.name))
   have HVV := Lib.hid (show Value.agg #[.int .i64 x.kind, .int .i64 x.a, .int .i64 x.b, .int .i64 x.c, .int .i64 x.n, .int .i64 x.m, .int .i64 x.idx, .int .i64 x.wid, .string x.name] = V by
    rw [← HV.out]
    unfold nodeV partT
    rw [HPN.out]
    simp only [Int.toNat_natCast]
    simp)
   clear f1 f2 f3
   generalize w.heap.size + 1 = R at *
   go_wp2
   generalize (((((((((W0.setCell ⟨R, 0, none⟩ (.int .i64 x.kind)).setCell ⟨R, 1, none⟩ (.int .i64 x.a)).setCell ⟨R, 2, none⟩ (.int .i64 x.b)).setCell ⟨R, 3, none⟩ (.int .i64 x.c)).setCell ⟨R, 4, none⟩ (.int .i64 x.n)).setCell ⟨R, 5, none⟩ (.int .i64 x.m)).setCell ⟨R, 6, none⟩ (.int .i64 x.idx)).setCell ⟨R, 7, none⟩ (.int .i64 x.wid)).setCell ⟨R, 8, none⟩ (.string x.name)) = WF at *
   have r0 : WF.cell? ⟨R, 0, none⟩ = some (.int .i64 x.kind) := HRS.out.cell 0
   have r1 : WF.cell? ⟨R, 1, none⟩ = some (.int .i64 x.a) := HRS.out.cell 1
   have r2 : WF.cell? ⟨R, 2, none⟩ = some (.int .i64 x.b) := HRS.out.cell 2
   have r3 : WF.cell? ⟨R, 3, none⟩ = some (.int .i64 x.c) := HRS.out.cell 3
   have r4 : WF.cell? ⟨R, 4, none⟩ = some (.int .i64 x.n) := HRS.out.cell 4
   have r5 : WF.cell? ⟨R, 5, none⟩ = some (.int .i64 x.m) := HRS.out.cell 5
   have r6 : WF.cell? ⟨R, 6, none⟩ = some (.int .i64 x.idx) := HRS.out.cell 6
   have r7 : WF.cell? ⟨R, 7, none⟩ = some (.int .i64 x.wid) := HRS.out.cell 7
   have r8 : WF.cell? ⟨R, 8, none⟩ = some (.string x.name) := HRS.out.cell 8
   exact bodyPost_ret (v := .agg #[.int .i64 x.kind, .int .i64 x.a, .int .i64 x.b, .int .i64 x.c, .int .i64 x.n, .int .i64 x.m, .int .i64 x.idx, .int .i64 x.wid, .string x.name]) (by simp [results, Tryz.results16, go_sem, r0, r1, r2, r3, r4, r5, r6, r7, r8]) rfl ⟨ret_eq HVV.out, HBF.out⟩
 · have hi0 := HIN.out 0 (by omega) (by rw [HPN.out]; decide)
   obtain ⟨j0, hj0⟩ := Int.eq_ofNat_of_zero_le hi0.1
   replace hj0 : x.a = (j0 : Int) := hj0
   have hl0 : j0 < m := by have h1 := hi0.2; have h2 : x.part 0 = x.a := rfl; omega
   have hl0' : (j0 : Int) < m := by omega
   obtain ⟨bb0, bo0, hb0, hx0⟩ := HA.out j0 _ (getD_at (show j0 < T.length by rw [HM.out]; exact hl0) 0)
   subst hb0
   have HJ0 := Lib.hid hj0
   have HT0 := Lib.hid (show x.a = (j0 : Int) from hj0)
   obtain ⟨t0, ht0⟩ : ∃ t, T.getD j0 0 = t := ⟨_, rfl⟩
   rw [ht0] at hx0
   have HG0 := Lib.hid ht0
   clear ht0
   have HY0 := Lib.hid (show ∀ W, Below w.heap.size w W → W.cell? ⟨bb0, bo0 + j0, none⟩ = some (.int .i64 t0) from fun W hb => by have := (hx0.below hb) 0 _ rfl; simpa using this)
   clear hi0 hx0 hj0
   have HX0 := Lib.hid (show OwnB W0 w.heap.size 46 #[.int .i64 x.kind, .int .i64 (j0 : Int), .int .i64 x.b, .int .i64 x.c, .int .i64 x.n, .int .i64 x.m, .int .i64 x.idx, .int .i64 x.wid, .string x.name] by have h := HX0.out; rw [HJ0.out] at h; exact h)
   have q0 : W0.cell? ⟨w.heap.size, 0, none⟩ = some (.int .i64 x.kind) := HX0.out.cell 0
   have q1 : W0.cell? ⟨w.heap.size, 1, none⟩ = some (.int .i64 (j0 : Int)) := HX0.out.cell 1
   have q2 : W0.cell? ⟨w.heap.size, 2, none⟩ = some (.int .i64 x.b) := HX0.out.cell 2
   have q3 : W0.cell? ⟨w.heap.size, 3, none⟩ = some (.int .i64 x.c) := HX0.out.cell 3
   have q4 : W0.cell? ⟨w.heap.size, 4, none⟩ = some (.int .i64 x.n) := HX0.out.cell 4
   have q5 : W0.cell? ⟨w.heap.size, 5, none⟩ = some (.int .i64 x.m) := HX0.out.cell 5
   have q6 : W0.cell? ⟨w.heap.size, 6, none⟩ = some (.int .i64 x.idx) := HX0.out.cell 6
   have q7 : W0.cell? ⟨w.heap.size, 7, none⟩ = some (.int .i64 x.wid) := HX0.out.cell 7
   have q8 : W0.cell? ⟨w.heap.size, 8, none⟩ = some (.string x.name) := HX0.out.cell 8
   have f1 : W0.frozen? ⟨w.heap.size, 1, none⟩ = false := HX0.out.frozen 1
   have f2 : W0.frozen? ⟨w.heap.size, 2, none⟩ = false := HX0.out.frozen 2
   have f3 : W0.frozen? ⟨w.heap.size, 3, none⟩ = false := HX0.out.frozen 3
   have y0 := HY0.out W0 HB0.out
   go_upto_region 4 with (go_at_call 46; refine (l2Parts_same _ _).mono ?_; rintro e w' ⟨rfl, rfl⟩; rw [HPN.out])
   have HX1 := Lib.hid (show OwnB (W0.setCell ⟨w.heap.size, 1, none⟩ (.int .i64 t0)) w.heap.size 46 #[.int .i64 x.kind, .int .i64 t0, .int .i64 x.b, .int .i64 x.c, .int .i64 x.n, .int .i64 x.m, .int .i64 x.idx, .int .i64 x.wid, .string x.name] from HX0.out.set 1 (.int .i64 t0))
   have HR1 := Lib.hid (show OwnB (W0.setCell ⟨w.heap.size, 1, none⟩ (.int .i64 t0)) (w.heap.size + 1) 46 #[.int .i64 0, .int .i64 0, .int .i64 0, .int .i64 0, .int .i64 0, .int .i64 0, .int .i64 0, .int .i64 0, .string ⟨#[]⟩] from HR0.out.set_ne (by omega) _ _)
   have HB1 := Lib.hid (show Below w.heap.size w (W0.setCell ⟨w.heap.size, 1, none⟩ (.int .i64 t0)) from HB0.out.setCell (Nat.le_refl _) _)
   clear y0 q0 q1 q2 q3 q4 q5 q6 q7 q8 f1 f2 f3
   generalize W0.setCell ⟨w.heap.size, 1, none⟩ (.int .i64 t0) = W1 at *
   have q0 : W1.cell? ⟨w.heap.size, 0, none⟩ = some (.int .i64 x.kind) := HX1.out.cell 0
   have q1 : W1.cell? ⟨w.heap.size, 1, none⟩ = some (.int .i64 t0) := HX1.out.cell 1
   have q2 : W1.cell? ⟨w.heap.size, 2, none⟩ = some (.int .i64 x.b) := HX1.out.cell 2
   have q3 : W1.cell? ⟨w.heap.size, 3, none⟩ = some (.int .i64 x.c) := HX1.out.cell 3
   have q4 : W1.cell? ⟨w.heap.size, 4, none⟩ = some (.int .i64 x.n) := HX1.out.cell 4
   have q5 : W1.cell? ⟨w.heap.size, 5, none⟩ = some (.int .i64 x.m) := HX1.out.cell 5
   have q6 : W1.cell? ⟨w.heap.size, 6, none⟩ = some (.int .i64 x.idx) := HX1.out.cell 6
   have q7 : W1.cell? ⟨w.heap.size, 7, none⟩ = some (.int .i64 x.wid) := HX1.out.cell 7
   have q8 : W1.cell? ⟨w.heap.size, 8, none⟩ = some (.string x.name) := HX1.out.cell 8
   have f1 : W1.frozen? ⟨w.heap.size, 1, none⟩ = false := HX1.out.frozen 1
   have f2 : W1.frozen? ⟨w.heap.size, 2, none⟩ = false := HX1.out.frozen 2
   have f3 : W1.frozen? ⟨w.heap.size, 3, none⟩ = false := HX1.out.frozen 3
   go_upto_region 8 with fail
   have HRS := Lib.hid (nine_set HR1.out (.int .i64 x.kind) (.int .i64 t0) (.int .i64 x.b) (.int .i64 x.c) (.int .i64 x.n) (.int .i64 x.m) (.int .i64 x.idx) (.int .i64 x.wid) (.string x.name))
   have z0 : W1.cell? ⟨w.heap.size + 1, 0, none⟩ = some (.int .i64 0) := HR1.out.cell 0
   have e0 : W1.frozen? ⟨w.heap.size + 1, 0, none⟩ = false := HR1.out.frozen 0
   have z1 : W1.cell? ⟨w.heap.size + 1, 1, none⟩ = some (.int .i64 0) := HR1.out.cell 1
   have e1 : W1.frozen? ⟨w.heap.size + 1, 1, none⟩ = false := HR1.out.frozen 1
   have z2 : W1.cell? ⟨w.heap.size + 1, 2, none⟩ = some (.int .i64 0) := HR1.out.cell 2
   have e2 : W1.frozen? ⟨w.heap.size + 1, 2, none⟩ = false := HR1.out.frozen 2
   have z3 : W1.cell? ⟨w.heap.size + 1, 3, none⟩ = some (.int .i64 0) := HR1.out.cell 3
   have e3 : W1.frozen? ⟨w.heap.size + 1, 3, none⟩ = false := HR1.out.frozen 3
   have z4 : W1.cell? ⟨w.heap.size + 1, 4, none⟩ = some (.int .i64 0) := HR1.out.cell 4
   have e4 : W1.frozen? ⟨w.heap.size + 1, 4, none⟩ = false := HR1.out.frozen 4
   have z5 : W1.cell? ⟨w.heap.size + 1, 5, none⟩ = some (.int .i64 0) := HR1.out.cell 5
   have e5 : W1.frozen? ⟨w.heap.size + 1, 5, none⟩ = false := HR1.out.frozen 5
   have z6 : W1.cell? ⟨w.heap.size + 1, 6, none⟩ = some (.int .i64 0) := HR1.out.cell 6
   have e6 : W1.frozen? ⟨w.heap.size + 1, 6, none⟩ = false := HR1.out.frozen 6
   have z7 : W1.cell? ⟨w.heap.size + 1, 7, none⟩ = some (.int .i64 0) := HR1.out.cell 7
   have e7 : W1.frozen? ⟨w.heap.size + 1, 7, none⟩ = false := HR1.out.frozen 7
   have z8 : W1.cell? ⟨w.heap.size + 1, 8, none⟩ = some (.string ⟨#[]⟩) := HR1.out.cell 8
   have e8 : W1.frozen? ⟨w.heap.size + 1, 8, none⟩ = false := HR1.out.frozen 8
   have HBF := Lib.hid (nine_below HB1.out (show w.heap.size ≤ w.heap.size + 1 by omega) (.int .i64 x.kind) (.int .i64 t0) (.int .i64 x.b) (.int .i64 x.c) (.int .i64 x.n) (.int .i64 x.m) (.int .i64 x.idx) (.int .i64 x.wid) (.string x.name))
   have HVV := Lib.hid (show Value.agg #[.int .i64 x.kind, .int .i64 t0, .int .i64 x.b, .int .i64 x.c, .int .i64 x.n, .int .i64 x.m, .int .i64 x.idx, .int .i64 x.wid, .string x.name] = V by
    rw [← HV.out]
    unfold nodeV partT
    rw [HPN.out]
    simp only [HT0.out, HG0.out, Int.toNat_natCast]
    simp)
   clear f1 f2 f3
   generalize w.heap.size + 1 = R at *
   go_wp2
   generalize (((((((((W1.setCell ⟨R, 0, none⟩ (.int .i64 x.kind)).setCell ⟨R, 1, none⟩ (.int .i64 t0)).setCell ⟨R, 2, none⟩ (.int .i64 x.b)).setCell ⟨R, 3, none⟩ (.int .i64 x.c)).setCell ⟨R, 4, none⟩ (.int .i64 x.n)).setCell ⟨R, 5, none⟩ (.int .i64 x.m)).setCell ⟨R, 6, none⟩ (.int .i64 x.idx)).setCell ⟨R, 7, none⟩ (.int .i64 x.wid)).setCell ⟨R, 8, none⟩ (.string x.name)) = WF at *
   have r0 : WF.cell? ⟨R, 0, none⟩ = some (.int .i64 x.kind) := HRS.out.cell 0
   have r1 : WF.cell? ⟨R, 1, none⟩ = some (.int .i64 t0) := HRS.out.cell 1
   have r2 : WF.cell? ⟨R, 2, none⟩ = some (.int .i64 x.b) := HRS.out.cell 2
   have r3 : WF.cell? ⟨R, 3, none⟩ = some (.int .i64 x.c) := HRS.out.cell 3
   have r4 : WF.cell? ⟨R, 4, none⟩ = some (.int .i64 x.n) := HRS.out.cell 4
   have r5 : WF.cell? ⟨R, 5, none⟩ = some (.int .i64 x.m) := HRS.out.cell 5
   have r6 : WF.cell? ⟨R, 6, none⟩ = some (.int .i64 x.idx) := HRS.out.cell 6
   have r7 : WF.cell? ⟨R, 7, none⟩ = some (.int .i64 x.wid) := HRS.out.cell 7
   have r8 : WF.cell? ⟨R, 8, none⟩ = some (.string x.name) := HRS.out.cell 8
   exact bodyPost_ret (v := .agg #[.int .i64 x.kind, .int .i64 t0, .int .i64 x.b, .int .i64 x.c, .int .i64 x.n, .int .i64 x.m, .int .i64 x.idx, .int .i64 x.wid, .string x.name]) (by simp [results, Tryz.results16, go_sem, r0, r1, r2, r3, r4, r5, r6, r7, r8]) rfl ⟨ret_eq HVV.out, HBF.out⟩
 · have hi0 := HIN.out 0 (by omega) (by rw [HPN.out]; decide)
   obtain ⟨j0, hj0⟩ := Int.eq_ofNat_of_zero_le hi0.1
   replace hj0 : x.a = (j0 : Int) := hj0
   have hl0 : j0 < m := by have h1 := hi0.2; have h2 : x.part 0 = x.a := rfl; omega
   have hl0' : (j0 : Int) < m := by omega
   obtain ⟨bb0, bo0, hb0, hx0⟩ := HA.out j0 _ (getD_at (show j0 < T.length by rw [HM.out]; exact hl0) 0)
   subst hb0
   have HJ0 := Lib.hid hj0
   have HT0 := Lib.hid (show x.a = (j0 : Int) from hj0)
   obtain ⟨t0, ht0⟩ : ∃ t, T.getD j0 0 = t := ⟨_, rfl⟩
   rw [ht0] at hx0
   have HG0 := Lib.hid ht0
   clear ht0
   have HY0 := Lib.hid (show ∀ W, Below w.heap.size w W → W.cell? ⟨bb0, bo0 + j0, none⟩ = some (.int .i64 t0) from fun W hb => by have := (hx0.below hb) 0 _ rfl; simpa using this)
   clear hi0 hx0 hj0
   have hi1 := HIN.out 1 (by omega) (by rw [HPN.out]; decide)
   obtain ⟨j1, hj1⟩ := Int.eq_ofNat_of_zero_le hi1.1
   replace hj1 : x.b = (j1 : Int) := hj1
   have hl1 : j1 < m := by have h1 := hi1.2; have h2 : x.part 1 = x.b := rfl; omega
   have hl1' : (j1 : Int) < m := by omega
   obtain ⟨bb1, bo1, hb1, hx1⟩ := HA.out j1 _ (getD_at (show j1 < T.length by rw [HM.out]; exact hl1) 0)
   cases hb1
   have HJ1 := Lib.hid hj1
   have HT1 := Lib.hid (show x.b = (j1 : Int) from hj1)
   obtain ⟨t1, ht1⟩ : ∃ t, T.getD j1 0 = t := ⟨_, rfl⟩
   rw [ht1] at hx1
   have HG1 := Lib.hid ht1
   clear ht1
   have HY1 := Lib.hid (show ∀ W, Below w.heap.size w W → W.cell? ⟨bb0, bo0 + j1, none⟩ = some (.int .i64 t1) from fun W hb => by have := (hx1.below hb) 0 _ rfl; simpa using this)
   clear hi1 hx1 hj1
   have HX0 := Lib.hid (show OwnB W0 w.heap.size 46 #[.int .i64 x.kind, .int .i64 (j0 : Int), .int .i64 (j1 : Int), .int .i64 x.c, .int .i64 x.n, .int .i64 x.m, .int .i64 x.idx, .int .i64 x.wid, .string x.name] by have h := HX0.out; rw [HJ0.out] at h; rw [HJ1.out] at h; exact h)
   have q0 : W0.cell? ⟨w.heap.size, 0, none⟩ = some (.int .i64 x.kind) := HX0.out.cell 0
   have q1 : W0.cell? ⟨w.heap.size, 1, none⟩ = some (.int .i64 (j0 : Int)) := HX0.out.cell 1
   have q2 : W0.cell? ⟨w.heap.size, 2, none⟩ = some (.int .i64 (j1 : Int)) := HX0.out.cell 2
   have q3 : W0.cell? ⟨w.heap.size, 3, none⟩ = some (.int .i64 x.c) := HX0.out.cell 3
   have q4 : W0.cell? ⟨w.heap.size, 4, none⟩ = some (.int .i64 x.n) := HX0.out.cell 4
   have q5 : W0.cell? ⟨w.heap.size, 5, none⟩ = some (.int .i64 x.m) := HX0.out.cell 5
   have q6 : W0.cell? ⟨w.heap.size, 6, none⟩ = some (.int .i64 x.idx) := HX0.out.cell 6
   have q7 : W0.cell? ⟨w.heap.size, 7, none⟩ = some (.int .i64 x.wid) := HX0.out.cell 7
   have q8 : W0.cell? ⟨w.heap.size, 8, none⟩ = some (.string x.name) := HX0.out.cell 8
   have f1 : W0.frozen? ⟨w.heap.size, 1, none⟩ = false := HX0.out.frozen 1
   have f2 : W0.frozen? ⟨w.heap.size, 2, none⟩ = false := HX0.out.frozen 2
   have f3 : W0.frozen? ⟨w.heap.size, 3, none⟩ = false := HX0.out.frozen 3
   have y0 := HY0.out W0 HB0.out
   go_upto_region 4 with (go_at_call 46; refine (l2Parts_same _ _).mono ?_; rintro e w' ⟨rfl, rfl⟩; rw [HPN.out])
   have HX1 := Lib.hid (show OwnB (W0.setCell ⟨w.heap.size, 1, none⟩ (.int .i64 t0)) w.heap.size 46 #[.int .i64 x.kind, .int .i64 t0, .int .i64 (j1 : Int), .int .i64 x.c, .int .i64 x.n, .int .i64 x.m, .int .i64 x.idx, .int .i64 x.wid, .string x.name] from HX0.out.set 1 (.int .i64 t0))
   have HR1 := Lib.hid (show OwnB (W0.setCell ⟨w.heap.size, 1, none⟩ (.int .i64 t0)) (w.heap.size + 1) 46 #[.int .i64 0, .int .i64 0, .int .i64 0, .int .i64 0, .int .i64 0, .int .i64 0, .int .i64 0, .int .i64 0, .string ⟨#[]⟩] from HR0.out.set_ne (by omega) _ _)
   have HB1 := Lib.hid (show Below w.heap.size w (W0.setCell ⟨w.heap.size, 1, none⟩ (.int .i64 t0)) from HB0.out.setCell (Nat.le_refl _) _)
   clear y0 q0 q1 q2 q3 q4 q5 q6 q7 q8 f1 f2 f3
   generalize W0.setCell ⟨w.heap.size, 1, none⟩ (.int .i64 t0) = W1 at *
   have q0 : W1.cell? ⟨w.heap.size, 0, none⟩ = some (.int .i64 x.kind) := HX1.out.cell 0
   have q1 : W1.cell? ⟨w.heap.size, 1, none⟩ = some (.int .i64 t0) := HX1.out.cell 1
   have q2 : W1.cell? ⟨w.heap.size, 2, none⟩ = some (.int .i64 (j1 : Int)) := HX1.out.cell 2
   have q3 : W1.cell? ⟨w.heap.size, 3, none⟩ = some (.int .i64 x.c) := HX1.out.cell 3
   have q4 : W1.cell? ⟨w.heap.size, 4, none⟩ = some (.int .i64 x.n) := HX1.out.cell 4
   have q5 : W1.cell? ⟨w.heap.size, 5, none⟩ = some (.int .i64 x.m) := HX1.out.cell 5
   have q6 : W1.cell? ⟨w.heap.size, 6, none⟩ = some (.int .i64 x.idx) := HX1.out.cell 6
   have q7 : W1.cell? ⟨w.heap.size, 7, none⟩ = some (.int .i64 x.wid) := HX1.out.cell 7
   have q8 : W1.cell? ⟨w.heap.size, 8, none⟩ = some (.string x.name) := HX1.out.cell 8
   have f1 : W1.frozen? ⟨w.heap.size, 1, none⟩ = false := HX1.out.frozen 1
   have f2 : W1.frozen? ⟨w.heap.size, 2, none⟩ = false := HX1.out.frozen 2
   have f3 : W1.frozen? ⟨w.heap.size, 3, none⟩ = false := HX1.out.frozen 3
   have y1 := HY1.out W1 HB1.out
   go_upto_region 6 with fail
   have HX2 := Lib.hid (show OwnB (W1.setCell ⟨w.heap.size, 2, none⟩ (.int .i64 t1)) w.heap.size 46 #[.int .i64 x.kind, .int .i64 t0, .int .i64 t1, .int .i64 x.c, .int .i64 x.n, .int .i64 x.m, .int .i64 x.idx, .int .i64 x.wid, .string x.name] from HX1.out.set 2 (.int .i64 t1))
   have HR2 := Lib.hid (show OwnB (W1.setCell ⟨w.heap.size, 2, none⟩ (.int .i64 t1)) (w.heap.size + 1) 46 #[.int .i64 0, .int .i64 0, .int .i64 0, .int .i64 0, .int .i64 0, .int .i64 0, .int .i64 0, .int .i64 0, .string ⟨#[]⟩] from HR1.out.set_ne (by omega) _ _)
   have HB2 := Lib.hid (show Below w.heap.size w (W1.setCell ⟨w.heap.size, 2, none⟩ (.int .i64 t1)) from HB1.out.setCell (Nat.le_refl _) _)
   clear y1 q0 q1 q2 q3 q4 q5 q6 q7 q8 f1 f2 f3
   generalize W1.setCell ⟨w.heap.size, 2, none⟩ (.int .i64 t1) = W2 at *
   have q0 : W2.cell? ⟨w.heap.size, 0, none⟩ = some (.int .i64 x.kind) := HX2.out.cell 0
   have q1 : W2.cell? ⟨w.heap.size, 1, none⟩ = some (.int .i64 t0) := HX2.out.cell 1
   have q2 : W2.cell? ⟨w.heap.size, 2, none⟩ = some (.int .i64 t1) := HX2.out.cell 2
   have q3 : W2.cell? ⟨w.heap.size, 3, none⟩ = some (.int .i64 x.c) := HX2.out.cell 3
   have q4 : W2.cell? ⟨w.heap.size, 4, none⟩ = some (.int .i64 x.n) := HX2.out.cell 4
   have q5 : W2.cell? ⟨w.heap.size, 5, none⟩ = some (.int .i64 x.m) := HX2.out.cell 5
   have q6 : W2.cell? ⟨w.heap.size, 6, none⟩ = some (.int .i64 x.idx) := HX2.out.cell 6
   have q7 : W2.cell? ⟨w.heap.size, 7, none⟩ = some (.int .i64 x.wid) := HX2.out.cell 7
   have q8 : W2.cell? ⟨w.heap.size, 8, none⟩ = some (.string x.name) := HX2.out.cell 8
   have f1 : W2.frozen? ⟨w.heap.size, 1, none⟩ = false := HX2.out.frozen 1
   have f2 : W2.frozen? ⟨w.heap.size, 2, none⟩ = false := HX2.out.frozen 2
   have f3 : W2.frozen? ⟨w.heap.size, 3, none⟩ = false := HX2.out.frozen 3
   go_upto_region 8 with fail
   have HRS := Lib.hid (nine_set HR2.out (.int .i64 x.kind) (.int .i64 t0) (.int .i64 t1) (.int .i64 x.c) (.int .i64 x.n) (.int .i64 x.m) (.int .i64 x.idx) (.int .i64 x.wid) (.string x.name))
   have z0 : W2.cell? ⟨w.heap.size + 1, 0, none⟩ = some (.int .i64 0) := HR2.out.cell 0
   have e0 : W2.frozen? ⟨w.heap.size + 1, 0, none⟩ = false := HR2.out.frozen 0
   have z1 : W2.cell? ⟨w.heap.size + 1, 1, none⟩ = some (.int .i64 0) := HR2.out.cell 1
   have e1 : W2.frozen? ⟨w.heap.size + 1, 1, none⟩ = false := HR2.out.frozen 1
   have z2 : W2.cell? ⟨w.heap.size + 1, 2, none⟩ = some (.int .i64 0) := HR2.out.cell 2
   have e2 : W2.frozen? ⟨w.heap.size + 1, 2, none⟩ = false := HR2.out.frozen 2
   have z3 : W2.cell? ⟨w.heap.size + 1, 3, none⟩ = some (.int .i64 0) := HR2.out.cell 3
   have e3 : W2.frozen? ⟨w.heap.size + 1, 3, none⟩ = false := HR2.out.frozen 3
   have z4 : W2.cell? ⟨w.heap.size + 1, 4, none⟩ = some (.int .i64 0) := HR2.out.cell 4
   have e4 : W2.frozen? ⟨w.heap.size + 1, 4, none⟩ = false := HR2.out.frozen 4
   have z5 : W2.cell? ⟨w.heap.size + 1, 5, none⟩ = some (.int .i64 0) := HR2.out.cell 5
   have e5 : W2.frozen? ⟨w.heap.size + 1, 5, none⟩ = false := HR2.out.frozen 5
   have z6 : W2.cell? ⟨w.heap.size + 1, 6, none⟩ = some (.int .i64 0) := HR2.out.cell 6
   have e6 : W2.frozen? ⟨w.heap.size + 1, 6, none⟩ = false := HR2.out.frozen 6
   have z7 : W2.cell? ⟨w.heap.size + 1, 7, none⟩ = some (.int .i64 0) := HR2.out.cell 7
   have e7 : W2.frozen? ⟨w.heap.size + 1, 7, none⟩ = false := HR2.out.frozen 7
   have z8 : W2.cell? ⟨w.heap.size + 1, 8, none⟩ = some (.string ⟨#[]⟩) := HR2.out.cell 8
   have e8 : W2.frozen? ⟨w.heap.size + 1, 8, none⟩ = false := HR2.out.frozen 8
   have HBF := Lib.hid (nine_below HB2.out (show w.heap.size ≤ w.heap.size + 1 by omega) (.int .i64 x.kind) (.int .i64 t0) (.int .i64 t1) (.int .i64 x.c) (.int .i64 x.n) (.int .i64 x.m) (.int .i64 x.idx) (.int .i64 x.wid) (.string x.name))
   have HVV := Lib.hid (show Value.agg #[.int .i64 x.kind, .int .i64 t0, .int .i64 t1, .int .i64 x.c, .int .i64 x.n, .int .i64 x.m, .int .i64 x.idx, .int .i64 x.wid, .string x.name] = V by
    rw [← HV.out]
    unfold nodeV partT
    rw [HPN.out]
    simp only [HT0.out, HT1.out, HG0.out, HG1.out, Int.toNat_natCast]
    simp)
   clear f1 f2 f3
   generalize w.heap.size + 1 = R at *
   go_wp2
   generalize (((((((((W2.setCell ⟨R, 0, none⟩ (.int .i64 x.kind)).setCell ⟨R, 1, none⟩ (.int .i64 t0)).setCell ⟨R, 2, none⟩ (.int .i64 t1)).setCell ⟨R, 3, none⟩ (.int .i64 x.c)).setCell ⟨R, 4, none⟩ (.int .i64 x.n)).setCell ⟨R, 5, none⟩ (.int .i64 x.m)).setCell ⟨R, 6, none⟩ (.int .i64 x.idx)).setCell ⟨R, 7, none⟩ (.int .i64 x.wid)).setCell ⟨R, 8, none⟩ (.string x.name)) = WF at *
   have r0 : WF.cell? ⟨R, 0, none⟩ = some (.int .i64 x.kind) := HRS.out.cell 0
   have r1 : WF.cell? ⟨R, 1, none⟩ = some (.int .i64 t0) := HRS.out.cell 1
   have r2 : WF.cell? ⟨R, 2, none⟩ = some (.int .i64 t1) := HRS.out.cell 2
   have r3 : WF.cell? ⟨R, 3, none⟩ = some (.int .i64 x.c) := HRS.out.cell 3
   have r4 : WF.cell? ⟨R, 4, none⟩ = some (.int .i64 x.n) := HRS.out.cell 4
   have r5 : WF.cell? ⟨R, 5, none⟩ = some (.int .i64 x.m) := HRS.out.cell 5
   have r6 : WF.cell? ⟨R, 6, none⟩ = some (.int .i64 x.idx) := HRS.out.cell 6
   have r7 : WF.cell? ⟨R, 7, none⟩ = some (.int .i64 x.wid) := HRS.out.cell 7
   have r8 : WF.cell? ⟨R, 8, none⟩ = some (.string x.name) := HRS.out.cell 8
   exact bodyPost_ret (v := .agg #[.int .i64 x.kind, .int .i64 t0, .int .i64 t1, .int .i64 x.c, .int .i64 x.n, .int .i64 x.m, .int .i64 x.idx, .int .i64 x.wid, .string x.name]) (by simp [results, Tryz.results16, go_sem, r0, r1, r2, r3, r4, r5, r6, r7, r8]) rfl ⟨ret_eq HVV.out, HBF.out⟩
 · have hi0 := HIN.out 0 (by omega) (by rw [HPN.out]; decide)
   obtain ⟨j0, hj0⟩ := Int.eq_ofNat_of_zero_le hi0.1
   replace hj0 : x.a = (j0 : Int) := hj0
   have hl0 : j0 < m := by have h1 := hi0.2; have h2 : x.part 0 = x.a := rfl; omega
   have hl0' : (j0 : Int) < m := by omega
   obtain ⟨bb0, bo0, hb0, hx0⟩ := HA.out j0 _ (getD_at (show j0 < T.length by rw [HM.out]; exact hl0) 0)
   subst hb0
   have HJ0 := Lib.hid hj0
   have HT0 := Lib.hid (show x.a = (j0 : Int) from hj0)
   obtain ⟨t0, ht0⟩ : ∃ t, T.getD j0 0 = t := ⟨_, rfl⟩
   rw [ht0] at hx0
   have HG0 := Lib.hid ht0
   clear ht0
   have HY0 := Lib.hid (show ∀ W, Below w.heap.size w W → W.cell? ⟨bb0, bo0 + j0, none⟩ = some (.int .i64 t0) from fun W hb => by have := (hx0.below hb) 0 _ rfl; simpa using this)
   clear hi0 hx0 hj0
   have hi1 := HIN.out 1 (by omega) (by rw [HPN.out]; decide)
   obtain ⟨j1, hj1⟩ := Int.eq_ofNat_of_zero_le hi1.1
   replace hj1 : x.b = (j1 : Int) := hj1
   have hl1 : j1 < m := by have h1 := hi1.2; have h2 : x.part 1 = x.b := rfl; omega
   have hl1' : (j1 : Int) < m := by omega
   obtain ⟨bb1, bo1, hb1, hx1⟩ := HA.out j1 _ (getD_at (show j1 < T.length by rw [HM.out]; exact hl1) 0)
   cases hb1
   have HJ1 := Lib.hid hj1
   have HT1 := Lib.hid (show x.b = (j1 : Int) from hj1)
   obtain ⟨t1, ht1⟩ : ∃ t, T.getD j1 0 = t := ⟨_, rfl⟩
   rw [ht1] at hx1
   have HG1 := Lib.hid ht1
   clear ht1
   have HY1 := Lib.hid (show ∀ W, Below w.heap.size w W → W.cell? ⟨bb0, bo0 + j1, none⟩ = some (.int .i64 t1) from fun W hb => by have := (hx1.below hb) 0 _ rfl; simpa using this)
   clear hi1 hx1 hj1
   have hi2 := HIN.out 2 (by omega) (by rw [HPN.out]; decide)
   obtain ⟨j2, hj2⟩ := Int.eq_ofNat_of_zero_le hi2.1
   replace hj2 : x.c = (j2 : Int) := hj2
   have hl2 : j2 < m := by have h1 := hi2.2; have h2 : x.part 2 = x.c := rfl; omega
   have hl2' : (j2 : Int) < m := by omega
   obtain ⟨bb2, bo2, hb2, hx2⟩ := HA.out j2 _ (getD_at (show j2 < T.length by rw [HM.out]; exact hl2) 0)
   cases hb2
   have HJ2 := Lib.hid hj2
   have HT2 := Lib.hid (show x.c = (j2 : Int) from hj2)
   obtain ⟨t2, ht2⟩ : ∃ t, T.getD j2 0 = t := ⟨_, rfl⟩
   rw [ht2] at hx2
   have HG2 := Lib.hid ht2
   clear ht2
   have HY2 := Lib.hid (show ∀ W, Below w.heap.size w W → W.cell? ⟨bb0, bo0 + j2, none⟩ = some (.int .i64 t2) from fun W hb => by have := (hx2.below hb) 0 _ rfl; simpa using this)
   clear hi2 hx2 hj2
   have HX0 := Lib.hid (show OwnB W0 w.heap.size 46 #[.int .i64 x.kind, .int .i64 (j0 : Int), .int .i64 (j1 : Int), .int .i64 (j2 : Int), .int .i64 x.n, .int .i64 x.m, .int .i64 x.idx, .int .i64 x.wid, .string x.name] by have h := HX0.out; rw [HJ0.out] at h; rw [HJ1.out] at h; rw [HJ2.out] at h; exact h)
   have q0 : W0.cell? ⟨w.heap.size, 0, none⟩ = some (.int .i64 x.kind) := HX0.out.cell 0
   have q1 : W0.cell? ⟨w.heap.size, 1, none⟩ = some (.int .i64 (j0 : Int)) := HX0.out.cell 1
   have q2 : W0.cell? ⟨w.heap.size, 2, none⟩ = some (.int .i64 (j1 : Int)) := HX0.out.cell 2
   have q3 : W0.cell? ⟨w.heap.size, 3, none⟩ = some (.int .i64 (j2 : Int)) := HX0.out.cell 3
   have q4 : W0.cell? ⟨w.heap.size, 4, none⟩ = some (.int .i64 x.n) := HX0.out.cell 4
   have q5 : W0.cell? ⟨w.heap.size, 5, none⟩ = some (.int .i64 x.m) := HX0.out.cell 5
   have q6 : W0.cell? ⟨w.heap.size, 6, none⟩ = some (.int .i64 x.idx) := HX0.out.cell 6
   have q7 : W0.cell? ⟨w.heap.size, 7, none⟩ = some (.int .i64 x.wid) := HX0.out.cell 7
   have q8 : W0.cell? ⟨w.heap.size, 8, none⟩ = some (.string x.name) := HX0.out.cell 8
   have f1 : W0.frozen? ⟨w.heap.size, 1, none⟩ = false := HX0.out.frozen 1
   have f2 : W0.frozen? ⟨w.heap.size, 2, none⟩ = false := HX0.out.frozen 2
   have f3 : W0.frozen? ⟨w.heap.size, 3, none⟩ = false := HX0.out.frozen 3
   have y0 := HY0.out W0 HB0.out
   go_upto_region 4 with (go_at_call 46; refine (l2Parts_same _ _).mono ?_; rintro e w' ⟨rfl, rfl⟩; rw [HPN.out])
   have HX1 := Lib.hid (show OwnB (W0.setCell ⟨w.heap.size, 1, none⟩ (.int .i64 t0)) w.heap.size 46 #[.int .i64 x.kind, .int .i64 t0, .int .i64 (j1 : Int), .int .i64 (j2 : Int), .int .i64 x.n, .int .i64 x.m, .int .i64 x.idx, .int .i64 x.wid, .string x.name] from HX0.out.set 1 (.int .i64 t0))
   have HR1 := Lib.hid (show OwnB (W0.setCell ⟨w.heap.size, 1, none⟩ (.int .i64 t0)) (w.heap.size + 1) 46 #[.int .i64 0, .int .i64 0, .int .i64 0, .int .i64 0, .int .i64 0, .int .i64 0, .int .i64 0, .int .i64 0, .string ⟨#[]⟩] from HR0.out.set_ne (by omega) _ _)
   have HB1 := Lib.hid (show Below w.heap.size w (W0.setCell ⟨w.heap.size, 1, none⟩ (.int .i64 t0)) from HB0.out.setCell (Nat.le_refl _) _)
   clear y0 q0 q1 q2 q3 q4 q5 q6 q7 q8 f1 f2 f3
   generalize W0.setCell ⟨w.heap.size, 1, none⟩ (.int .i64 t0) = W1 at *
   have q0 : W1.cell? ⟨w.heap.size, 0, none⟩ = some (.int .i64 x.kind) := HX1.out.cell 0
   have q1 : W1.cell? ⟨w.heap.size, 1, none⟩ = some (.int .i64 t0) := HX1.out.cell 1
   have q2 : W1.cell? ⟨w.heap.size, 2, none⟩ = some (.int .i64 (j1 : Int)) := HX1.out.cell 2
   have q3 : W1.cell? ⟨w.heap.size, 3, none⟩ = some (.int .i64 (j2 : Int)) := HX1.out.cell 3
   have q4 : W1.cell? ⟨w.heap.size, 4, none⟩ = some (.int .i64 x.n) := HX1.out.cell 4
   have q5 : W1.cell? ⟨w.heap.size, 5, none⟩ = some (.int .i64 x.m) := HX1.out.cell 5
   have q6 : W1.cell? ⟨w.heap.size, 6, none⟩ = some (.int .i64 x.idx) := HX1.out.cell 6
   have q7 : W1.cell? ⟨w.heap.size, 7, none⟩ = some (.int .i64 x.wid) := HX1.out.cell 7
   have q8 : W1.cell? ⟨w.heap.size, 8, none⟩ = some (.string x.name) := HX1.out.cell 8
   have f1 : W1.frozen? ⟨w.heap.size, 1, none⟩ = false := HX1.out.frozen 1
   have f2 : W1.frozen? ⟨w.heap.size, 2, none⟩ = false := HX1.out.frozen 2
   have f3 : W1.frozen? ⟨w.heap.size, 3, none⟩ = false := HX1.out.frozen 3
   have y1 := HY1.out W1 HB1.out
   go_upto_region 6 with fail
   have HX2 := Lib.hid (show OwnB (W1.setCell ⟨w.heap.size, 2, none⟩ (.int .i64 t1)) w.heap.size 46 #[.int .i64 x.kind, .int .i64 t0, .int .i64 t1, .int .i64 (j2 : Int), .int .i64 x.n, .int .i64 x.m, .int .i64 x.idx, .int .i64 x.wid, .string x.name] from HX1.out.set 2 (.int .i64 t1))
   have HR2 := Lib.hid (show OwnB (W1.setCell ⟨w.heap.size, 2, none⟩ (.int .i64 t1)) (w.heap.size + 1) 46 #[.int .i64 0, .int .i64 0, .int .i64 0, .int .i64 0, .int .i64 0, .int .i64 0, .int .i64 0, .int .i64 0, .string ⟨#[]⟩] from HR1.out.set_ne (by omega) _ _)
   have HB2 := Lib.hid (show Below w.heap.size w (W1.setCell ⟨w.heap.size, 2, none⟩ (.int .i64 t1)) from HB1.out.setCell (Nat.le_refl _) _)
   clear y1 q0 q1 q2 q3 q4 q5 q6 q7 q8 f1 f2 f3
   generalize W1.setCell ⟨w.heap.size, 2, none⟩ (.int .i64 t1) = W2 at *
   have q0 : W2.cell? ⟨w.heap.size, 0, none⟩ = some (.int .i64 x.kind) := HX2.out.cell 0
   have q1 : W2.cell? ⟨w.heap.size, 1, none⟩ = some (.int .i64 t0) := HX2.out.cell 1
   have q2 : W2.cell? ⟨w.heap.size, 2, none⟩ = some (.int .i64 t1) := HX2.out.cell 2
   have q3 : W2.cell? ⟨w.heap.size, 3, none⟩ = some (.int .i64 (j2 : Int)) := HX2.out.cell 3
   have q4 : W2.cell? ⟨w.heap.size, 4, none⟩ = some (.int .i64 x.n) := HX2.out.cell 4
   have q5 : W2.cell? ⟨w.heap.size, 5, none⟩ = some (.int .i64 x.m) := HX2.out.cell 5
   have q6 : W2.cell? ⟨w.heap.size, 6, none⟩ = some (.int .i64 x.idx) := HX2.out.cell 6
   have q7 : W2.cell? ⟨w.heap.size, 7, none⟩ = some (.int .i64 x.wid) := HX2.out.cell 7
   have q8 : W2.cell? ⟨w.heap.size, 8, none⟩ = some (.string x.name) := HX2.out.cell 8
   have f1 : W2.frozen? ⟨w.heap.size, 1, none⟩ = false := HX2.out.frozen 1
   have f2 : W2.frozen? ⟨w.heap.size, 2, none⟩ = false := HX2.out.frozen 2
   have f3 : W2.frozen? ⟨w.heap.size, 3, none⟩ = false := HX2.out.frozen 3
   have y2 := HY2.out W2 HB2.out
   go_upto_region 8 with fail
   have HX3 := Lib.hid (show OwnB (W2.setCell ⟨w.heap.size, 3, none⟩ (.int .i64 t2)) w.heap.size 46 #[.int .i64 x.kind, .int .i64 t0, .int .i64 t1, .int .i64 t2, .int .i64 x.n, .int .i64 x.m, .int .i64 x.idx, .int .i64 x.wid, .string x.name] from HX2.out.set 3 (.int .i64 t2))
   have HR3 := Lib.hid (show OwnB (W2.setCell ⟨w.heap.size, 3, none⟩ (.int .i64 t2)) (w.heap.size + 1) 46 #[.int .i64 0, .int .i64 0, .int .i64 0, .int .i64 0, .int .i64 0, .int .i64 0, .int .i64 0, .int .i64 0, .string ⟨#[]⟩] from HR2.out.set_ne (by omega) _ _)
   have HB3 := Lib.hid (show Below w.heap.size w (W2.setCell ⟨w.heap.size, 3, none⟩ (.int .i64 t2)) from HB2.out.setCell (Nat.le_refl _) _)
   clear y2 q0 q1 q2 q3 q4 q5 q6 q7 q8 f1 f2 f3
   generalize W2.setCell ⟨w.heap.size, 3, none⟩ (.int .i64 t2) = W3 at *
   have q0 : W3.cell? ⟨w.heap.size, 0, none⟩ = some (.int .i64 x.kind) := HX3.out.cell 0
   have q1 : W3.cell? ⟨w.heap.size, 1, none⟩ = some (.int .i64 t0) := HX3.out.cell 1
   have q2 : W3.cell? ⟨w.heap.size, 2, none⟩ = some (.int .i64 t1) := HX3.out.cell 2
   have q3 : W3.cell? ⟨w.heap.size, 3, none⟩ = some (.int .i64 t2) := HX3.out.cell 3
   have q4 : W3.cell? ⟨w.heap.size, 4, none⟩ = some (.int .i64 x.n) := HX3.out.cell 4
   have q5 : W3.cell? ⟨w.heap.size, 5, none⟩ = some (.int .i64 x.m) := HX3.out.cell 5
   have q6 : W3.cell? ⟨w.heap.size, 6, none⟩ = some (.int .i64 x.idx) := HX3.out.cell 6
   have q7 : W3.cell? ⟨w.heap.size, 7, none⟩ = some (.int .i64 x.wid) := HX3.out.cell 7
   have q8 : W3.cell? ⟨w.heap.size, 8, none⟩ = some (.string x.name) := HX3.out.cell 8
   have f1 : W3.frozen? ⟨w.heap.size, 1, none⟩ = false := HX3.out.frozen 1
   have f2 : W3.frozen? ⟨w.heap.size, 2, none⟩ = false := HX3.out.frozen 2
   have f3 : W3.frozen? ⟨w.heap.size, 3, none⟩ = false := HX3.out.frozen 3
   go_upto_region 8 with fail
   have HRS := Lib.hid (nine_set HR3.out (.int .i64 x.kind) (.int .i64 t0) (.int .i64 t1) (.int .i64 t2) (.int .i64 x.n) (.int .i64 x.m) (.int .i64 x.idx) (.int .i64 x.wid) (.string x.name))
   have z0 : W3.cell? ⟨w.heap.size + 1, 0, none⟩ = some (.int .i64 0) := HR3.out.cell 0
   have e0 : W3.frozen? ⟨w.heap.size + 1, 0, none⟩ = false := HR3.out.frozen 0
   have z1 : W3.cell? ⟨w.heap.size + 1, 1, none⟩ = some (.int .i64 0) := HR3.out.cell 1
   have e1 : W3.frozen? ⟨w.heap.size + 1, 1, none⟩ = false := HR3.out.frozen 1
   have z2 : W3.cell? ⟨w.heap.size + 1, 2, none⟩ = some (.int .i64 0) := HR3.out.cell 2
   have e2 : W3.frozen? ⟨w.heap.size + 1, 2, none⟩ = false := HR3.out.frozen 2
   have z3 : W3.cell? ⟨w.heap.size + 1, 3, none⟩ = some (.int .i64 0) := HR3.out.cell 3
   have e3 : W3.frozen? ⟨w.heap.size + 1, 3, none⟩ = false := HR3.out.frozen 3
   have z4 : W3.cell? ⟨w.heap.size + 1, 4, none⟩ = some (.int .i64 0) := HR3.out.cell 4
   have e4 : W3.frozen? ⟨w.heap.size + 1, 4, none⟩ = false := HR3.out.frozen 4
   have z5 : W3.cell? ⟨w.heap.size + 1, 5, none⟩ = some (.int .i64 0) := HR3.out.cell 5
   have e5 : W3.frozen? ⟨w.heap.size + 1, 5, none⟩ = false := HR3.out.frozen 5
   have z6 : W3.cell? ⟨w.heap.size + 1, 6, none⟩ = some (.int .i64 0) := HR3.out.cell 6
   have e6 : W3.frozen? ⟨w.heap.size + 1, 6, none⟩ = false := HR3.out.frozen 6
   have z7 : W3.cell? ⟨w.heap.size + 1, 7, none⟩ = some (.int .i64 0) := HR3.out.cell 7
   have e7 : W3.frozen? ⟨w.heap.size + 1, 7, none⟩ = false := HR3.out.frozen 7
   have z8 : W3.cell? ⟨w.heap.size + 1, 8, none⟩ = some (.string ⟨#[]⟩) := HR3.out.cell 8
   have e8 : W3.frozen? ⟨w.heap.size + 1, 8, none⟩ = false := HR3.out.frozen 8
   have HBF := Lib.hid (nine_below HB3.out (show w.heap.size ≤ w.heap.size + 1 by omega) (.int .i64 x.kind) (.int .i64 t0) (.int .i64 t1) (.int .i64 t2) (.int .i64 x.n) (.int .i64 x.m) (.int .i64 x.idx) (.int .i64 x.wid) (.string x.name))
   have HVV := Lib.hid (show Value.agg #[.int .i64 x.kind, .int .i64 t0, .int .i64 t1, .int .i64 t2, .int .i64 x.n, .int .i64 x.m, .int .i64 x.idx, .int .i64 x.wid, .string x.name] = V by
    rw [← HV.out]
    unfold nodeV partT
    rw [HPN.out]
    simp only [HT0.out, HT1.out, HT2.out, HG0.out, HG1.out, HG2.out, Int.toNat_natCast]
    simp)
   clear f1 f2 f3
   generalize w.heap.size + 1 = R at *
   go_wp2
   generalize (((((((((W3.setCell ⟨R, 0, none⟩ (.int .i64 x.kind)).setCell ⟨R, 1, none⟩ (.int .i64 t0)).setCell ⟨R, 2, none⟩ (.int .i64 t1)).setCell ⟨R, 3, none⟩ (.int .i64 t2)).setCell ⟨R, 4, none⟩ (.int .i64 x.n)).setCell ⟨R, 5, none⟩ (.int .i64 x.m)).setCell ⟨R, 6, none⟩ (.int .i64 x.idx)).setCell ⟨R, 7, none⟩ (.int .i64 x.wid)).setCell ⟨R, 8, none⟩ (.string x.name)) = WF at *
   have r0 : WF.cell? ⟨R, 0, none⟩ = some (.int .i64 x.kind) := HRS.out.cell 0
   have r1 : WF.cell? ⟨R, 1, none⟩ = some (.int .i64 t0) := HRS.out.cell 1
   have r2 : WF.cell? ⟨R, 2, none⟩ = some (.int .i64 t1) := HRS.out.cell 2
   have r3 : WF.cell? ⟨R, 3, none⟩ = some (.int .i64 t2) := HRS.out.cell 3
   have r4 : WF.cell? ⟨R, 4, none⟩ = some (.int .i64 x.n) := HRS.out.cell 4
   have r5 : WF.cell? ⟨R, 5, none⟩ = some (.int .i64 x.m) := HRS.out.cell 5
   have r6 : WF.cell? ⟨R, 6, none⟩ = some (.int .i64 x.idx) := HRS.out.cell 6
   have r7 : WF.cell? ⟨R, 7, none⟩ = some (.int .i64 x.wid) := HRS.out.cell 7
   have r8 : WF.cell? ⟨R, 8, none⟩ = some (.string x.name) := HRS.out.cell 8
   exact bodyPost_ret (v := .agg #[.int .i64 x.kind, .int .i64 t0, .int .i64 t1, .int .i64 t2, .int .i64 x.n, .int .i64 x.m, .int .i64 x.idx, .int .i64 x.wid, .string x.name]) (by simp [results, Tryz.results16, go_sem, r0, r1, r2, r3, r4, r5, r6, r7, r8]) rfl ⟨ret_eq HVV.out, HBF.out⟩
end Go.Proofs.YtdojaijnejcoiaaGreat
namespace Go.Proofs.YtdojaijnejcoiaaGreat
open Go.RowKit
theorem parted_calls (x : Nd) (tv : Value) (T : List Int) (w : World) (ht : SlN enI w tv T) (hin : PartsIn T.length x) (hp : 0 ≤ partsN x.kind) (hT : T.length ≤ 1048576) :
 Makes Tryz.prog 24 #[nodeV x, tv] w (nodeV (partT T x)) := by
 obtain ⟨A, c, rfl, -, -, hA⟩ := ht
 have HIN := Lib.hid hin
 have HA := Lib.hid hA
 obtain ⟨pk, hpk⟩ := Int.eq_ofNat_of_zero_le hp
 have hpk3 : pk ≤ 3 := by have := partsN_le x.kind; omega
 have HPN := Lib.hid hpk
 obtain ⟨V, hV⟩ : ∃ V, nodeV (partT T x) = V := ⟨_, rfl⟩
 have HV := Lib.hid hV
 rw [hV]
 clear hin hA hp hpk hV
 generalize hm : T.length = m at *
 have HM := Lib.hid hm
 clear hm
 go_enter Tryz.func24, Tryz.ntmps24
 go_upto_region 2 with fail
 generalize hw2 : ((w.alloc (Obj.cells #[.int .i64 x.kind, .int .i64 x.a, .int .i64 x.b, .int .i64 x.c, .int .i64 x.n, .int .i64 x.m, .int .i64 x.idx, .int .i64 x.wid, .string x.name] 46)).alloc (Obj.cells #[.int .i64 0, .int .i64 0, .int .i64 0, .int .i64 0, .int .i64 0, .int .i64 0, .int .i64 0, .int .i64 0, .string ⟨#[]⟩] 46)).alloc (Obj.cells #[.pointer (some ⟨w.heap.size, 1, none⟩), .pointer (some ⟨w.heap.size, 2, none⟩), .pointer (some ⟨w.heap.size, 3, none⟩)] 86) = W0
 have HX0 := Lib.hid (show OwnB W0 w.heap.size 46 #[.int .i64 x.kind, .int .i64 x.a, .int .i64 x.b, .int .i64 x.c, .int .i64 x.n, .int .i64 x.m, .int .i64 x.idx, .int .i64 x.wid, .string x.name] by
  rw [← hw2]
  exact ((OwnB.new w 46 #[.int .i64 x.kind, .int .i64 x.a, .int .i64 x.b, .int .i64 x.c, .int .i64 x.n, .int .i64 x.m, .int .i64 x.idx, .int .i64 x.wid, .string x.name]).below (box_below _ _ _) (by simp)).below (box_below _ _ _) (by simp; omega))
 have HR0 := Lib.hid (show OwnB W0 (w.heap.size + 1) 46 #[.int .i64 0, .int .i64 0, .int .i64 0, .int .i64 0, .int .i64 0, .int .i64 0, .int .i64 0, .int .i64 0, .string ⟨#[]⟩] by
  rw [← hw2]
  have h := (OwnB.new (w.alloc (Obj.cells #[.int .i64 x.kind, .int .i64 x.a, .int .i64 x.b, .int .i64 x.c, .int .i64 x.n, .int .i64 x.m, .int .i64 x.idx, .int .i64 x.wid, .string x.name] 46)) 46 #[.int .i64 0, .int .i64 0, .int .i64 0, .int .i64 0, .int .i64 0, .int .i64 0, .int .i64 0, .int .i64 0, .string ⟨#[]⟩]).below (box_below ((w.alloc (Obj.cells #[.int .i64 x.kind, .int .i64 x.a, .int .i64 x.b, .int .i64 x.c, .int .i64 x.n, .int .i64 x.m, .int .i64 x.idx, .int .i64 x.wid, .string x.name] 46)).alloc (Obj.cells #[.int .i64 0, .int .i64 0, .int .i64 0, .int .i64 0, .int .i64 0, .int .i64 0, .int .i64 0, .int .i64 0, .string ⟨#[]⟩] 46)) #[.pointer (some ⟨w.heap.size, 1, none⟩), .pointer (some ⟨w.heap.size, 2, none⟩), .pointer (some ⟨w.heap.size, 3, none⟩)] 86) (by simp)
  simpa using h)
 have HP0 := Lib.hid (show OwnB W0 (w.heap.size + 2) 86 #[.pointer (some ⟨w.heap.size, 1, none⟩), .pointer (some ⟨w.heap.size, 2, none⟩), .pointer (some ⟨w.heap.size, 3, none⟩)] by
  rw [← hw2]
  have h := OwnB.new ((w.alloc (Obj.cells #[.int .i64 x.kind, .int .i64 x.a, .int .i64 x.b, .int .i64 x.c, .int .i64 x.n, .int .i64 x.m, .int .i64 x.idx, .int .i64 x.wid, .string x.name] 46)).alloc (Obj.cells #[.int .i64 0, .int .i64 0, .int .i64 0, .int .i64 0, .int .i64 0, .int .i64 0, .int .i64 0, .int .i64 0, .string ⟨#[]⟩] 46)) 86 #[.pointer (some ⟨w.heap.size, 1, none⟩), .pointer (some ⟨w.heap.size, 2, none⟩), .pointer (some ⟨w.heap.size, 3, none⟩)]
  simpa using h)
 have HB0 := Lib.hid (show Below w.heap.size w W0 by rw [← hw2]; exact (((Below.refl _ _).alloc (Nat.le_refl _) _).alloc (by simp) _).alloc (by simp; omega) _)
 clear hw2
 rcases (show pk = 0 ∨ pk = 1 ∨ pk = 2 ∨ pk = 3 by omega) with rfl | rfl | rfl | rfl
 · have HX0 := Lib.hid (show OwnB W0 w.heap.size 46 #[.int .i64 x.kind, .int .i64 x.a, .int .i64 x.b, .int .i64 x.c, .int .i64 x.n, .int .i64 x.m, .int .i64 x.idx, .int .i64 x.wid, .string x.name] by have h := HX0.out; exact h)
   have q0 : W0.cell? ⟨w.heap.size, 0, none⟩ = some (.int .i64 x.kind) := HX0.out.cell 0
   have q1 : W0.cell? ⟨w.heap.size, 1, none⟩ = some (.int .i64 x.a) := HX0.out.cell 1
   have q2 : W0.cell? ⟨w.heap.size, 2, none⟩ = some (.int .i64 x.b) := HX0.out.cell 2
   have q3 : W0.cell? ⟨w.heap.size, 3, none⟩ = some (.int .i64 x.c) := HX0.out.cell 3
   have q4 : W0.cell? ⟨w.heap.size, 4, none⟩ = some (.int .i64 x.n) := HX0.out.cell 4
   have q5 : W0.cell? ⟨w.heap.size, 5, none⟩ = some (.int .i64 x.m) := HX0.out.cell 5
   have q6 : W0.cell? ⟨w.heap.size, 6, none⟩ = some (.int .i64 x.idx) := HX0.out.cell 6
   have q7 : W0.cell? ⟨w.heap.size, 7, none⟩ = some (.int .i64 x.wid) := HX0.out.cell 7
   have q8 : W0.cell? ⟨w.heap.size, 8, none⟩ = some (.string x.name) := HX0.out.cell 8
   have f1 : W0.frozen? ⟨w.heap.size, 1, none⟩ = false := HX0.out.frozen 1
   have f2 : W0.frozen? ⟨w.heap.size, 2, none⟩ = false := HX0.out.frozen 2
   have f3 : W0.frozen? ⟨w.heap.size, 3, none⟩ = false := HX0.out.frozen 3
   have g0 : W0.cell? ⟨w.heap.size + 2, 0, none⟩ = some (.pointer (some ⟨w.heap.size, 1, none⟩)) := HP0.out.cell 0
   have g1 : W0.cell? ⟨w.heap.size + 2, 1, none⟩ = some (.pointer (some ⟨w.heap.size, 2, none⟩)) := HP0.out.cell 1
   have g2 : W0.cell? ⟨w.heap.size + 2, 2, none⟩ = some (.pointer (some ⟨w.heap.size, 3, none⟩)) := HP0.out.cell 2
   refine wp_loop_rounds 4 ?_
   rw [rounds_succ]
   go_upto_region 6 with (go_at_call 63; refine (parts_same _ _).mono ?_; rintro e w' ⟨rfl, rfl⟩; rw [HPN.out])
   go_wp2
   rw [rounds_succ]
   go_upto_region 6 with (go_at_call 63; refine (parts_same _ _).mono ?_; rintro e w' ⟨rfl, rfl⟩; rw [HPN.out])
   go_wp2
   rw [rounds_succ]
   go_upto_region 6 with (go_at_call 63; refine (parts_same _ _).mono ?_; rintro e w' ⟨rfl, rfl⟩; rw [HPN.out])
   go_wp2
   rw [rounds_succ]
   have HRS := Lib.hid (nine_set HR0.out (.int .i64 x.kind) (.int .i64 x.a) (.int .i64 x.b) (.int .i64 x.c) (.int .i64 x.n) (.int .i64 x.m) (.int .i64 x.idx) (.int .i64 x.wid) (.string x.name))
   have z0 : W0.cell? ⟨w.heap.size + 1, 0, none⟩ = some (.int .i64 0) := HR0.out.cell 0
   have e0 : W0.frozen? ⟨w.heap.size + 1, 0, none⟩ = false := HR0.out.frozen 0
   have z1 : W0.cell? ⟨w.heap.size + 1, 1, none⟩ = some (.int .i64 0) := HR0.out.cell 1
   have e1 : W0.frozen? ⟨w.heap.size + 1, 1, none⟩ = false := HR0.out.frozen 1
   have z2 : W0.cell? ⟨w.heap.size + 1, 2, none⟩ = some (.int .i64 0) := HR0.out.cell 2
   have e2 : W0.frozen? ⟨w.heap.size + 1, 2, none⟩ = false := HR0.out.frozen 2
   have z3 : W0.cell? ⟨w.heap.size + 1, 3, none⟩ = some (.int .i64 0) := HR0.out.cell 3
   have e3 : W0.frozen? ⟨w.heap.size + 1, 3, none⟩ = false := HR0.out.frozen 3
   have z4 : W0.cell? ⟨w.heap.size + 1, 4, none⟩ = some (.int .i64 0) := HR0.out.cell 4
   have e4 : W0.frozen? ⟨w.heap.size + 1, 4, none⟩ = false := HR0.out.frozen 4
   have z5 : W0.cell? ⟨w.heap.size + 1, 5, none⟩ = some (.int .i64 0) := HR0.out.cell 5
   have e5 : W0.frozen? ⟨w.heap.size + 1, 5, none⟩ = false := HR0.out.frozen 5
   have z6 : W0.cell? ⟨w.heap.size + 1, 6, none⟩ = some (.int .i64 0) := HR0.out.cell 6
   have e6 : W0.frozen? ⟨w.heap.size + 1, 6, none⟩ = false := HR0.out.frozen 6
   have z7 : W0.cell? ⟨w.heap.size + 1, 7, none⟩ = some (.int .i64 0) := HR0.out.cell 7
   have e7 : W0.frozen? ⟨w.heap.size + 1, 7, none⟩ = false := HR0.out.frozen 7
   have z8 : W0.cell? ⟨w.heap.size + 1, 8, none⟩ = some (.string ⟨#[]⟩) := HR0.out.cell 8
   have e8 : W0.frozen? ⟨w.heap.size + 1, 8, none⟩ = false := HR0.out.frozen 8
   have HBF := Lib.hid (nine_below HB0.out (show w.heap.size ≤ w.heap.size + 1 by omega) (.int .i64 x.kind) (.int .i64 x.a) (.int .i64 x.b) (.int .i64 x.c) (.int .i64 x.n) (.int .i64 x.m) (.int .i64 x.idx) (.int .i64 x.wid) (.string x.name))
   have HVV := Lib.hid (show Value.agg #[.int .i64 x.kind, .int .i64 x.a, .int .i64 x.b, .int .i64 x.c, .int .i64 x.n, .int .i64 x.m, .int .i64 x.idx, .int .i64 x.wid, .string x.name] = V by
    rw [← HV.out]
    unfold nodeV partT
    rw [HPN.out]
    simp only [Int.toNat_natCast]
    simp)
   clear f1 f2 f3
   generalize w.heap.size + 1 = R at *
   go_wp2
   generalize (((((((((W0.setCell ⟨R, 0, none⟩ (.int .i64 x.kind)).setCell ⟨R, 1, none⟩ (.int .i64 x.a)).setCell ⟨R, 2, none⟩ (.int .i64 x.b)).setCell ⟨R, 3, none⟩ (.int .i64 x.c)).setCell ⟨R, 4, none⟩ (.int .i64 x.n)).setCell ⟨R, 5, none⟩ (.int .i64 x.m)).setCell ⟨R, 6, none⟩ (.int .i64 x.idx)).setCell ⟨R, 7, none⟩ (.int .i64 x.wid)).setCell ⟨R, 8, none⟩ (.string x.name)) = WF at *
   have r0 : WF.cell? ⟨R, 0, none⟩ = some (.int .i64 x.kind) := HRS.out.cell 0
   have r1 : WF.cell? ⟨R, 1, none⟩ = some (.int .i64 x.a) := HRS.out.cell 1
   have r2 : WF.cell? ⟨R, 2, none⟩ = some (.int .i64 x.b) := HRS.out.cell 2
   have r3 : WF.cell? ⟨R, 3, none⟩ = some (.int .i64 x.c) := HRS.out.cell 3
   have r4 : WF.cell? ⟨R, 4, none⟩ = some (.int .i64 x.n) := HRS.out.cell 4
   have r5 : WF.cell? ⟨R, 5, none⟩ = some (.int .i64 x.m) := HRS.out.cell 5
   have r6 : WF.cell? ⟨R, 6, none⟩ = some (.int .i64 x.idx) := HRS.out.cell 6
   have r7 : WF.cell? ⟨R, 7, none⟩ = some (.int .i64 x.wid) := HRS.out.cell 7
   have r8 : WF.cell? ⟨R, 8, none⟩ = some (.string x.name) := HRS.out.cell 8
   exact bodyPost_ret (v := .agg #[.int .i64 x.kind, .int .i64 x.a, .int .i64 x.b, .int .i64 x.c, .int .i64 x.n, .int .i64 x.m, .int .i64 x.idx, .int .i64 x.wid, .string x.name]) (by simp [results, Tryz.results24, go_sem, r0, r1, r2, r3, r4, r5, r6, r7, r8]) rfl ⟨ret_eq HVV.out, HBF.out⟩
 · have hi0 := HIN.out 0 (by omega) (by rw [HPN.out]; decide)
   obtain ⟨j0, hj0⟩ := Int.eq_ofNat_of_zero_le hi0.1
   replace hj0 : x.a = (j0 : Int) := hj0
   have hl0 : j0 < m := by have h1 := hi0.2; have h2 : x.part 0 = x.a := rfl; omega
   have hl0' : (j0 : Int) < m := by omega
   obtain ⟨bb0, bo0, hb0, hx0⟩ := HA.out j0 _ (getD_at (show j0 < T.length by rw [HM.out]; exact hl0) 0)
   subst hb0
   have HJ0 := Lib.hid hj0
   have HT0 := Lib.hid (show x.a = (j0 : Int) from hj0)
   obtain ⟨t0, ht0⟩ : ∃ t, T.getD j0 0 = t := ⟨_, rfl⟩
   rw [ht0] at hx0
   have HG0 := Lib.hid ht0
   clear ht0
   have HY0 := Lib.hid (show ∀ W, Below w.heap.size w W → W.cell? ⟨bb0, bo0 + j0, none⟩ = some (.int .i64 t0) from fun W hb => by have := (hx0.below hb) 0 _ rfl; simpa using this)
   clear hi0 hx0 hj0
   have HX0 := Lib.hid (show OwnB W0 w.heap.size 46 #[.int .i64 x.kind, .int .i64 (j0 : Int), .int .i64 x.b, .int .i64 x.c, .int .i64 x.n, .int .i64 x.m, .int .i64 x.idx, .int .i64 x.wid, .string x.name] by have h := HX0.out; rw [HJ0.out] at h; exact h)
   have q0 : W0.cell? ⟨w.heap.size, 0, none⟩ = some (.int .i64 x.kind) := HX0.out.cell 0
   have q1 : W0.cell? ⟨w.heap.size, 1, none⟩ = some (.int .i64 (j0 : Int)) := HX0.out.cell 1
   have q2 : W0.cell? ⟨w.heap.size, 2, none⟩ = some (.int .i64 x.b) := HX0.out.cell 2
   have q3 : W0.cell? ⟨w.heap.size, 3, none⟩ = some (.int .i64 x.c) := HX0.out.cell 3
   have q4 : W0.cell? ⟨w.heap.size, 4, none⟩ = some (.int .i64 x.n) := HX0.out.cell 4
   have q5 : W0.cell? ⟨w.heap.size, 5, none⟩ = some (.int .i64 x.m) := HX0.out.cell 5
   have q6 : W0.cell? ⟨w.heap.size, 6, none⟩ = some (.int .i64 x.idx) := HX0.out.cell 6
   have q7 : W0.cell? ⟨w.heap.size, 7, none⟩ = some (.int .i64 x.wid) := HX0.out.cell 7
   have q8 : W0.cell? ⟨w.heap.size, 8, none⟩ = some (.string x.name) := HX0.out.cell 8
   have f1 : W0.frozen? ⟨w.heap.size, 1, none⟩ = false := HX0.out.frozen 1
   have f2 : W0.frozen? ⟨w.heap.size, 2, none⟩ = false := HX0.out.frozen 2
   have f3 : W0.frozen? ⟨w.heap.size, 3, none⟩ = false := HX0.out.frozen 3
   have g0 : W0.cell? ⟨w.heap.size + 2, 0, none⟩ = some (.pointer (some ⟨w.heap.size, 1, none⟩)) := HP0.out.cell 0
   have g1 : W0.cell? ⟨w.heap.size + 2, 1, none⟩ = some (.pointer (some ⟨w.heap.size, 2, none⟩)) := HP0.out.cell 1
   have g2 : W0.cell? ⟨w.heap.size + 2, 2, none⟩ = some (.pointer (some ⟨w.heap.size, 3, none⟩)) := HP0.out.cell 2
   refine wp_loop_rounds 4 ?_
   rw [rounds_succ]
   have y0 := HY0.out W0 HB0.out
   go_upto_region 6 with (go_at_call 63; refine (parts_same _ _).mono ?_; rintro e w' ⟨rfl, rfl⟩; rw [HPN.out])
   have HX1 := Lib.hid (show OwnB (W0.setCell ⟨w.heap.size, 1, none⟩ (.int .i64 t0)) w.heap.size 46 #[.int .i64 x.kind, .int .i64 t0, .int .i64 x.b, .int .i64 x.c, .int .i64 x.n, .int .i64 x.m, .int .i64 x.idx, .int .i64 x.wid, .string x.name] from HX0.out.set 1 (.int .i64 t0))
   have HR1 := Lib.hid (show OwnB (W0.setCell ⟨w.heap.size, 1, none⟩ (.int .i64 t0)) (w.heap.size + 1) 46 #[.int .i64 0, .int .i64 0, .int .i64 0, .int .i64 0, .int .i64 0, .int .i64 0, .int .i64 0, .int .i64 0, .string ⟨#[]⟩] from HR0.out.set_ne (by omega) _ _)
   have HP1 := Lib.hid (show OwnB (W0.setCell ⟨w.heap.size, 1, none⟩ (.int .i64 t0)) (w.heap.size + 2) 86 #[.pointer (some ⟨w.heap.size, 1, none⟩), .pointer (some ⟨w.heap.size, 2, none⟩), .pointer (some ⟨w.heap.size, 3, none⟩)] from HP0.out.set_ne (by omega) _ _)
   have HB1 := Lib.hid (show Below w.heap.size w (W0.setCell ⟨w.heap.size, 1, none⟩ (.int .i64 t0)) from HB0.out.setCell (Nat.le_refl _) _)
   clear y0 q0 q1 q2 q3 q4 q5 q6 q7 q8 f1 f2 f3 g0 g1 g2
   generalize W0.setCell ⟨w.heap.size, 1, none⟩ (.int .i64 t0) = W1 at *
   have q0 : W1.cell? ⟨w.heap.size, 0, none⟩ = some (.int .i64 x.kind) := HX1.out.cell 0
   have q1 : W1.cell? ⟨w.heap.size, 1, none⟩ = some (.int .i64 t0) := HX1.out.cell 1
   have q2 : W1.cell? ⟨w.heap.size, 2, none⟩ = some (.int .i64 x.b) := HX1.out.cell 2
   have q3 : W1.cell? ⟨w.heap.size, 3, none⟩ = some (.int .i64 x.c) := HX1.out.cell 3
   have q4 : W1.cell? ⟨w.heap.size, 4, none⟩ = some (.int .i64 x.n) := HX1.out.cell 4
   have q5 : W1.cell? ⟨w.heap.size, 5, none⟩ = some (.int .i64 x.m) := HX1.out.cell 5
   have q6 : W1.cell? ⟨w.heap.size, 6, none⟩ = some (.int .i64 x.idx) := HX1.out.cell 6
   have q7 : W1.cell? ⟨w.heap.size, 7, none⟩ = some (.int .i64 x.wid) := HX1.out.cell 7
   have q8 : W1.cell? ⟨w.heap.size, 8, none⟩ = some (.string x.name) := HX1.out.cell 8
   have f1 : W1.frozen? ⟨w.heap.size, 1, none⟩ = false := HX1.out.frozen 1
   have f2 : W1.frozen? ⟨w.heap.size, 2, none⟩ = false := HX1.out.frozen 2
   have f3 : W1.frozen? ⟨w.heap.size, 3, none⟩ = false := HX1.out.frozen 3
   have g0 : W1.cell? ⟨w.heap.size + 2, 0, none⟩ = some (.pointer (some ⟨w.heap.size, 1, none⟩)) := HP1.out.cell 0
   have g1 : W1.cell? ⟨w.heap.size + 2, 1, none⟩ = some (.pointer (some ⟨w.heap.size, 2, none⟩)) := HP1.out.cell 1
   have g2 : W1.cell? ⟨w.heap.size + 2, 2, none⟩ = some (.pointer (some ⟨w.heap.size, 3, none⟩)) := HP1.out.cell 2
   go_wp2
   rw [rounds_succ]
   go_upto_region 6 with (go_at_call 63; refine (parts_same _ _).mono ?_; rintro e w' ⟨rfl, rfl⟩; rw [HPN.out])
   go_wp2
   rw [rounds_succ]
   go_upto_region 6 with (go_at_call 63; refine (parts_same _ _).mono ?_; rintro e w' ⟨rfl, rfl⟩; rw [HPN.out])
   go_wp2
   rw [rounds_succ]
   have HRS := Lib.hid (nine_set HR1.out (.int .i64 x.kind) (.int .i64 t0) (.int .i64 x.b) (.int .i64 x.c) (.int .i64 x.n) (.int .i64 x.m) (.int .i64 x.idx) (.int .i64 x.wid) (.string x.name))
   have z0 : W1.cell? ⟨w.heap.size + 1, 0, none⟩ = some (.int .i64 0) := HR1.out.cell 0
   have e0 : W1.frozen? ⟨w.heap.size + 1, 0, none⟩ = false := HR1.out.frozen 0
   have z1 : W1.cell? ⟨w.heap.size + 1, 1, none⟩ = some (.int .i64 0) := HR1.out.cell 1
   have e1 : W1.frozen? ⟨w.heap.size + 1, 1, none⟩ = false := HR1.out.frozen 1
   have z2 : W1.cell? ⟨w.heap.size + 1, 2, none⟩ = some (.int .i64 0) := HR1.out.cell 2
   have e2 : W1.frozen? ⟨w.heap.size + 1, 2, none⟩ = false := HR1.out.frozen 2
   have z3 : W1.cell? ⟨w.heap.size + 1, 3, none⟩ = some (.int .i64 0) := HR1.out.cell 3
   have e3 : W1.frozen? ⟨w.heap.size + 1, 3, none⟩ = false := HR1.out.frozen 3
   have z4 : W1.cell? ⟨w.heap.size + 1, 4, none⟩ = some (.int .i64 0) := HR1.out.cell 4
   have e4 : W1.frozen? ⟨w.heap.size + 1, 4, none⟩ = false := HR1.out.frozen 4
   have z5 : W1.cell? ⟨w.heap.size + 1, 5, none⟩ = some (.int .i64 0) := HR1.out.cell 5
   have e5 : W1.frozen? ⟨w.heap.size + 1, 5, none⟩ = false := HR1.out.frozen 5
   have z6 : W1.cell? ⟨w.heap.size + 1, 6, none⟩ = some (.int .i64 0) := HR1.out.cell 6
   have e6 : W1.frozen? ⟨w.heap.size + 1, 6, none⟩ = false := HR1.out.frozen 6
   have z7 : W1.cell? ⟨w.heap.size + 1, 7, none⟩ = some (.int .i64 0) := HR1.out.cell 7
   have e7 : W1.frozen? ⟨w.heap.size + 1, 7, none⟩ = false := HR1.out.frozen 7
   have z8 : W1.cell? ⟨w.heap.size + 1, 8, none⟩ = some (.string ⟨#[]⟩) := HR1.out.cell 8
   have e8 : W1.frozen? ⟨w.heap.size + 1, 8, none⟩ = false := HR1.out.frozen 8
   have HBF := Lib.hid (nine_below HB1.out (show w.heap.size ≤ w.heap.size + 1 by omega) (.int .i64 x.kind) (.int .i64 t0) (.int .i64 x.b) (.int .i64 x.c) (.int .i64 x.n) (.int .i64 x.m) (.int .i64 x.idx) (.int .i64 x.wid) (.string x.name))
   have HVV := Lib.hid (show Value.agg #[.int .i64 x.kind, .int .i64 t0, .int .i64 x.b, .int .i64 x.c, .int .i64 x.n, .int .i64 x.m, .int .i64 x.idx, .int .i64 x.wid, .string x.name] = V by
    rw [← HV.out]
    unfold nodeV partT
    rw [HPN.out]
    simp only [HT0.out, HG0.out, Int.toNat_natCast]
    simp)
   clear f1 f2 f3
   generalize w.heap.size + 1 = R at *
   go_wp2
   generalize (((((((((W1.setCell ⟨R, 0, none⟩ (.int .i64 x.kind)).setCell ⟨R, 1, none⟩ (.int .i64 t0)).setCell ⟨R, 2, none⟩ (.int .i64 x.b)).setCell ⟨R, 3, none⟩ (.int .i64 x.c)).setCell ⟨R, 4, none⟩ (.int .i64 x.n)).setCell ⟨R, 5, none⟩ (.int .i64 x.m)).setCell ⟨R, 6, none⟩ (.int .i64 x.idx)).setCell ⟨R, 7, none⟩ (.int .i64 x.wid)).setCell ⟨R, 8, none⟩ (.string x.name)) = WF at *
   have r0 : WF.cell? ⟨R, 0, none⟩ = some (.int .i64 x.kind) := HRS.out.cell 0
   have r1 : WF.cell? ⟨R, 1, none⟩ = some (.int .i64 t0) := HRS.out.cell 1
   have r2 : WF.cell? ⟨R, 2, none⟩ = some (.int .i64 x.b) := HRS.out.cell 2
   have r3 : WF.cell? ⟨R, 3, none⟩ = some (.int .i64 x.c) := HRS.out.cell 3
   have r4 : WF.cell? ⟨R, 4, none⟩ = some (.int .i64 x.n) := HRS.out.cell 4
   have r5 : WF.cell? ⟨R, 5, none⟩ = some (.int .i64 x.m) := HRS.out.cell 5
   have r6 : WF.cell? ⟨R, 6, none⟩ = some (.int .i64 x.idx) := HRS.out.cell 6
   have r7 : WF.cell? ⟨R, 7, none⟩ = some (.int .i64 x.wid) := HRS.out.cell 7
   have r8 : WF.cell? ⟨R, 8, none⟩ = some (.string x.name) := HRS.out.cell 8
   exact bodyPost_ret (v := .agg #[.int .i64 x.kind, .int .i64 t0, .int .i64 x.b, .int .i64 x.c, .int .i64 x.n, .int .i64 x.m, .int .i64 x.idx, .int .i64 x.wid, .string x.name]) (by simp [results, Tryz.results24, go_sem, r0, r1, r2, r3, r4, r5, r6, r7, r8]) rfl ⟨ret_eq HVV.out, HBF.out⟩
 · have hi0 := HIN.out 0 (by omega) (by rw [HPN.out]; decide)
   obtain ⟨j0, hj0⟩ := Int.eq_ofNat_of_zero_le hi0.1
   replace hj0 : x.a = (j0 : Int) := hj0
   have hl0 : j0 < m := by have h1 := hi0.2; have h2 : x.part 0 = x.a := rfl; omega
   have hl0' : (j0 : Int) < m := by omega
   obtain ⟨bb0, bo0, hb0, hx0⟩ := HA.out j0 _ (getD_at (show j0 < T.length by rw [HM.out]; exact hl0) 0)
   subst hb0
   have HJ0 := Lib.hid hj0
   have HT0 := Lib.hid (show x.a = (j0 : Int) from hj0)
   obtain ⟨t0, ht0⟩ : ∃ t, T.getD j0 0 = t := ⟨_, rfl⟩
   rw [ht0] at hx0
   have HG0 := Lib.hid ht0
   clear ht0
   have HY0 := Lib.hid (show ∀ W, Below w.heap.size w W → W.cell? ⟨bb0, bo0 + j0, none⟩ = some (.int .i64 t0) from fun W hb => by have := (hx0.below hb) 0 _ rfl; simpa using this)
   clear hi0 hx0 hj0
   have hi1 := HIN.out 1 (by omega) (by rw [HPN.out]; decide)
   obtain ⟨j1, hj1⟩ := Int.eq_ofNat_of_zero_le hi1.1
   replace hj1 : x.b = (j1 : Int) := hj1
   have hl1 : j1 < m := by have h1 := hi1.2; have h2 : x.part 1 = x.b := rfl; omega
   have hl1' : (j1 : Int) < m := by omega
   obtain ⟨bb1, bo1, hb1, hx1⟩ := HA.out j1 _ (getD_at (show j1 < T.length by rw [HM.out]; exact hl1) 0)
   cases hb1
   have HJ1 := Lib.hid hj1
   have HT1 := Lib.hid (show x.b = (j1 : Int) from hj1)
   obtain ⟨t1, ht1⟩ : ∃ t, T.getD j1 0 = t := ⟨_, rfl⟩
   rw [ht1] at hx1
   have HG1 := Lib.hid ht1
   clear ht1
   have HY1 := Lib.hid (show ∀ W, Below w.heap.size w W → W.cell? ⟨bb0, bo0 + j1, none⟩ = some (.int .i64 t1) from fun W hb => by have := (hx1.below hb) 0 _ rfl; simpa using this)
   clear hi1 hx1 hj1
   have HX0 := Lib.hid (show OwnB W0 w.heap.size 46 #[.int .i64 x.kind, .int .i64 (j0 : Int), .int .i64 (j1 : Int), .int .i64 x.c, .int .i64 x.n, .int .i64 x.m, .int .i64 x.idx, .int .i64 x.wid, .string x.name] by have h := HX0.out; rw [HJ0.out] at h; rw [HJ1.out] at h; exact h)
   have q0 : W0.cell? ⟨w.heap.size, 0, none⟩ = some (.int .i64 x.kind) := HX0.out.cell 0
   have q1 : W0.cell? ⟨w.heap.size, 1, none⟩ = some (.int .i64 (j0 : Int)) := HX0.out.cell 1
   have q2 : W0.cell? ⟨w.heap.size, 2, none⟩ = some (.int .i64 (j1 : Int)) := HX0.out.cell 2
   have q3 : W0.cell? ⟨w.heap.size, 3, none⟩ = some (.int .i64 x.c) := HX0.out.cell 3
   have q4 : W0.cell? ⟨w.heap.size, 4, none⟩ = some (.int .i64 x.n) := HX0.out.cell 4
   have q5 : W0.cell? ⟨w.heap.size, 5, none⟩ = some (.int .i64 x.m) := HX0.out.cell 5
   have q6 : W0.cell? ⟨w.heap.size, 6, none⟩ = some (.int .i64 x.idx) := HX0.out.cell 6
   have q7 : W0.cell? ⟨w.heap.size, 7, none⟩ = some (.int .i64 x.wid) := HX0.out.cell 7
   have q8 : W0.cell? ⟨w.heap.size, 8, none⟩ = some (.string x.name) := HX0.out.cell 8
   have f1 : W0.frozen? ⟨w.heap.size, 1, none⟩ = false := HX0.out.frozen 1
   have f2 : W0.frozen? ⟨w.heap.size, 2, none⟩ = false := HX0.out.frozen 2
   have f3 : W0.frozen? ⟨w.heap.size, 3, none⟩ = false := HX0.out.frozen 3
   have g0 : W0.cell? ⟨w.heap.size + 2, 0, none⟩ = some (.pointer (some ⟨w.heap.size, 1, none⟩)) := HP0.out.cell 0
   have g1 : W0.cell? ⟨w.heap.size + 2, 1, none⟩ = some (.pointer (some ⟨w.heap.size, 2, none⟩)) := HP0.out.cell 1
   have g2 : W0.cell? ⟨w.heap.size + 2, 2, none⟩ = some (.pointer (some ⟨w.heap.size, 3, none⟩)) := HP0.out.cell 2
   refine wp_loop_rounds 4 ?_
   rw [rounds_succ]
   have y0 := HY0.out W0 HB0.out
   go_upto_region 6 with (go_at_call 63; refine (parts_same _ _).mono ?_; rintro e w' ⟨rfl, rfl⟩; rw [HPN.out])
   have HX1 := Lib.hid (show OwnB (W0.setCell ⟨w.heap.size, 1, none⟩ (.int .i64 t0)) w.heap.size 46 #[.int .i64 x.kind, .int .i64 t0, .int .i64 (j1 : Int), .int .i64 x.c, .int .i64 x.n, .int .i64 x.m, .int .i64 x.idx, .int .i64 x.wid, .string x.name] from HX0.out.set 1 (.int .i64 t0))
   have HR1 := Lib.hid (show OwnB (W0.setCell ⟨w.heap.size, 1, none⟩ (.int .i64 t0)) (w.heap.size + 1) 46 #[.int .i64 0, .int .i64 0, .int .i64 0, .int .i64 0, .int .i64 0, .int .i64 0, .int .i64 0, .int .i64 0, .string ⟨#[]⟩] from HR0.out.set_ne (by omega) _ _)
   have HP1 := Lib.hid (show OwnB (W0.setCell ⟨w.heap.size, 1, none⟩ (.int .i64 t0)) (w.heap.size + 2) 86 #[.pointer (some ⟨w.heap.size, 1, none⟩), .pointer (some ⟨w.heap.size, 2, none⟩), .pointer (some ⟨w.heap.size, 3, none⟩)] from HP0.out.set_ne (by omega) _ _)
   have HB1 := Lib.hid (show Below w.heap.size w (W0.setCell ⟨w.heap.size, 1, none⟩ (.int .i64 t0)) from HB0.out.setCell (Nat.le_refl _) _)
   clear y0 q0 q1 q2 q3 q4 q5 q6 q7 q8 f1 f2 f3 g0 g1 g2
   generalize W0.setCell ⟨w.heap.size, 1, none⟩ (.int .i64 t0) = W1 at *
   have q0 : W1.cell? ⟨w.heap.size, 0, none⟩ = some (.int .i64 x.kind) := HX1.out.cell 0
   have q1 : W1.cell? ⟨w.heap.size, 1, none⟩ = some (.int .i64 t0) := HX1.out.cell 1
   have q2 : W1.cell? ⟨w.heap.size, 2, none⟩ = some (.int .i64 (j1 : Int)) := HX1.out.cell 2
   have q3 : W1.cell? ⟨w.heap.size, 3, none⟩ = some (.int .i64 x.c) := HX1.out.cell 3
   have q4 : W1.cell? ⟨w.heap.size, 4, none⟩ = some (.int .i64 x.n) := HX1.out.cell 4
   have q5 : W1.cell? ⟨w.heap.size, 5, none⟩ = some (.int .i64 x.m) := HX1.out.cell 5
   have q6 : W1.cell? ⟨w.heap.size, 6, none⟩ = some (.int .i64 x.idx) := HX1.out.cell 6
   have q7 : W1.cell? ⟨w.heap.size, 7, none⟩ = some (.int .i64 x.wid) := HX1.out.cell 7
   have q8 : W1.cell? ⟨w.heap.size, 8, none⟩ = some (.string x.name) := HX1.out.cell 8
   have f1 : W1.frozen? ⟨w.heap.size, 1, none⟩ = false := HX1.out.frozen 1
   have f2 : W1.frozen? ⟨w.heap.size, 2, none⟩ = false := HX1.out.frozen 2
   have f3 : W1.frozen? ⟨w.heap.size, 3, none⟩ = false := HX1.out.frozen 3
   have g0 : W1.cell? ⟨w.heap.size + 2, 0, none⟩ = some (.pointer (some ⟨w.heap.size, 1, none⟩)) := HP1.out.cell 0
   have g1 : W1.cell? ⟨w.heap.size + 2, 1, none⟩ = some (.pointer (some ⟨w.heap.size, 2, none⟩)) := HP1.out.cell 1
   have g2 : W1.cell? ⟨w.heap.size + 2, 2, none⟩ = some (.pointer (some ⟨w.heap.size, 3, none⟩)) := HP1.out.cell 2
   go_wp2
   rw [rounds_succ]
   have y1 := HY1.out W1 HB1.out
   go_upto_region 6 with (go_at_call 63; refine (parts_same _ _).mono ?_; rintro e w' ⟨rfl, rfl⟩; rw [HPN.out])
   have HX2 := Lib.hid (show OwnB (W1.setCell ⟨w.heap.size, 2, none⟩ (.int .i64 t1)) w.heap.size 46 #[.int .i64 x.kind, .int .i64 t0, .int .i64 t1, .int .i64 x.c, .int .i64 x.n, .int .i64 x.m, .int .i64 x.idx, .int .i64 x.wid, .string x.name] from HX1.out.set 2 (.int .i64 t1))
   have HR2 := Lib.hid (show OwnB (W1.setCell ⟨w.heap.size, 2, none⟩ (.int .i64 t1)) (w.heap.size + 1) 46 #[.int .i64 0, .int .i64 0, .int .i64 0, .int .i64 0, .int .i64 0, .int .i64 0, .int .i64 0, .int .i64 0, .string ⟨#[]⟩] from HR1.out.set_ne (by omega) _ _)
   have HP2 := Lib.hid (show OwnB (W1.setCell ⟨w.heap.size, 2, none⟩ (.int .i64 t1)) (w.heap.size + 2) 86 #[.pointer (some ⟨w.heap.size, 1, none⟩), .pointer (some ⟨w.heap.size, 2, none⟩), .pointer (some ⟨w.heap.size, 3, none⟩)] from HP1.out.set_ne (by omega) _ _)
   have HB2 := Lib.hid (show Below w.heap.size w (W1.setCell ⟨w.heap.size, 2, none⟩ (.int .i64 t1)) from HB1.out.setCell (Nat.le_refl _) _)
   clear y1 q0 q1 q2 q3 q4 q5 q6 q7 q8 f1 f2 f3 g0 g1 g2
   generalize W1.setCell ⟨w.heap.size, 2, none⟩ (.int .i64 t1) = W2 at *
   have q0 : W2.cell? ⟨w.heap.size, 0, none⟩ = some (.int .i64 x.kind) := HX2.out.cell 0
   have q1 : W2.cell? ⟨w.heap.size, 1, none⟩ = some (.int .i64 t0) := HX2.out.cell 1
   have q2 : W2.cell? ⟨w.heap.size, 2, none⟩ = some (.int .i64 t1) := HX2.out.cell 2
   have q3 : W2.cell? ⟨w.heap.size, 3, none⟩ = some (.int .i64 x.c) := HX2.out.cell 3
   have q4 : W2.cell? ⟨w.heap.size, 4, none⟩ = some (.int .i64 x.n) := HX2.out.cell 4
   have q5 : W2.cell? ⟨w.heap.size, 5, none⟩ = some (.int .i64 x.m) := HX2.out.cell 5
   have q6 : W2.cell? ⟨w.heap.size, 6, none⟩ = some (.int .i64 x.idx) := HX2.out.cell 6
   have q7 : W2.cell? ⟨w.heap.size, 7, none⟩ = some (.int .i64 x.wid) := HX2.out.cell 7
   have q8 : W2.cell? ⟨w.heap.size, 8, none⟩ = some (.string x.name) := HX2.out.cell 8
   have f1 : W2.frozen? ⟨w.heap.size, 1, none⟩ = false := HX2.out.frozen 1
   have f2 : W2.frozen? ⟨w.heap.size, 2, none⟩ = false := HX2.out.frozen 2
   have f3 : W2.frozen? ⟨w.heap.size, 3, none⟩ = false := HX2.out.frozen 3
   have g0 : W2.cell? ⟨w.heap.size + 2, 0, none⟩ = some (.pointer (some ⟨w.heap.size, 1, none⟩)) := HP2.out.cell 0
   have g1 : W2.cell? ⟨w.heap.size + 2, 1, none⟩ = some (.pointer (some ⟨w.heap.size, 2, none⟩)) := HP2.out.cell 1
   have g2 : W2.cell? ⟨w.heap.size + 2, 2, none⟩ = some (.pointer (some ⟨w.heap.size, 3, none⟩)) := HP2.out.cell 2
   go_wp2
   rw [rounds_succ]
   go_upto_region 6 with (go_at_call 63; refine (parts_same _ _).mono ?_; rintro e w' ⟨rfl, rfl⟩; rw [HPN.out])
   go_wp2
   rw [rounds_succ]
   have HRS := Lib.hid (nine_set HR2.out (.int .i64 x.kind) (.int .i64 t0) (.int .i64 t1) (.int .i64 x.c) (.int .i64 x.n) (.int .i64 x.m) (.int .i64 x.idx) (.int .i64 x.wid) (.string x.name))
   have z0 : W2.cell? ⟨w.heap.size + 1, 0, none⟩ = some (.int .i64 0) := HR2.out.cell 0
   have e0 : W2.frozen? ⟨w.heap.size + 1, 0, none⟩ = false := HR2.out.frozen 0
   have z1 : W2.cell? ⟨w.heap.size + 1, 1, none⟩ = some (.int .i64 0) := HR2.out.cell 1
   have e1 : W2.frozen? ⟨w.heap.size + 1, 1, none⟩ = false := HR2.out.frozen 1
   have z2 : W2.cell? ⟨w.heap.size + 1, 2, none⟩ = some (.int .i64 0) := HR2.out.cell 2
   have e2 : W2.frozen? ⟨w.heap.size + 1, 2, none⟩ = false := HR2.out.frozen 2
   have z3 : W2.cell? ⟨w.heap.size + 1, 3, none⟩ = some (.int .i64 0) := HR2.out.cell 3
   have e3 : W2.frozen? ⟨w.heap.size + 1, 3, none⟩ = false := HR2.out.frozen 3
   have z4 : W2.cell? ⟨w.heap.size + 1, 4, none⟩ = some (.int .i64 0) := HR2.out.cell 4
   have e4 : W2.frozen? ⟨w.heap.size + 1, 4, none⟩ = false := HR2.out.frozen 4
   have z5 : W2.cell? ⟨w.heap.size + 1, 5, none⟩ = some (.int .i64 0) := HR2.out.cell 5
   have e5 : W2.frozen? ⟨w.heap.size + 1, 5, none⟩ = false := HR2.out.frozen 5
   have z6 : W2.cell? ⟨w.heap.size + 1, 6, none⟩ = some (.int .i64 0) := HR2.out.cell 6
   have e6 : W2.frozen? ⟨w.heap.size + 1, 6, none⟩ = false := HR2.out.frozen 6
   have z7 : W2.cell? ⟨w.heap.size + 1, 7, none⟩ = some (.int .i64 0) := HR2.out.cell 7
   have e7 : W2.frozen? ⟨w.heap.size + 1, 7, none⟩ = false := HR2.out.frozen 7
   have z8 : W2.cell? ⟨w.heap.size + 1, 8, none⟩ = some (.string ⟨#[]⟩) := HR2.out.cell 8
   have e8 : W2.frozen? ⟨w.heap.size + 1, 8, none⟩ = false := HR2.out.frozen 8
   have HBF := Lib.hid (nine_below HB2.out (show w.heap.size ≤ w.heap.size + 1 by omega) (.int .i64 x.kind) (.int .i64 t0) (.int .i64 t1) (.int .i64 x.c) (.int .i64 x.n) (.int .i64 x.m) (.int .i64 x.idx) (.int .i64 x.wid) (.string x.name))
   have HVV := Lib.hid (show Value.agg #[.int .i64 x.kind, .int .i64 t0, .int .i64 t1, .int .i64 x.c, .int .i64 x.n, .int .i64 x.m, .int .i64 x.idx, .int .i64 x.wid, .string x.name] = V by
    rw [← HV.out]
    unfold nodeV partT
    rw [HPN.out]
    simp only [HT0.out, HT1.out, HG0.out, HG1.out, Int.toNat_natCast]
    simp)
   clear f1 f2 f3
   generalize w.heap.size + 1 = R at *
   go_wp2
   generalize (((((((((W2.setCell ⟨R, 0, none⟩ (.int .i64 x.kind)).setCell ⟨R, 1, none⟩ (.int .i64 t0)).setCell ⟨R, 2, none⟩ (.int .i64 t1)).setCell ⟨R, 3, none⟩ (.int .i64 x.c)).setCell ⟨R, 4, none⟩ (.int .i64 x.n)).setCell ⟨R, 5, none⟩ (.int .i64 x.m)).setCell ⟨R, 6, none⟩ (.int .i64 x.idx)).setCell ⟨R, 7, none⟩ (.int .i64 x.wid)).setCell ⟨R, 8, none⟩ (.string x.name)) = WF at *
   have r0 : WF.cell? ⟨R, 0, none⟩ = some (.int .i64 x.kind) := HRS.out.cell 0
   have r1 : WF.cell? ⟨R, 1, none⟩ = some (.int .i64 t0) := HRS.out.cell 1
   have r2 : WF.cell? ⟨R, 2, none⟩ = some (.int .i64 t1) := HRS.out.cell 2
   have r3 : WF.cell? ⟨R, 3, none⟩ = some (.int .i64 x.c) := HRS.out.cell 3
   have r4 : WF.cell? ⟨R, 4, none⟩ = some (.int .i64 x.n) := HRS.out.cell 4
   have r5 : WF.cell? ⟨R, 5, none⟩ = some (.int .i64 x.m) := HRS.out.cell 5
   have r6 : WF.cell? ⟨R, 6, none⟩ = some (.int .i64 x.idx) := HRS.out.cell 6
   have r7 : WF.cell? ⟨R, 7, none⟩ = some (.int .i64 x.wid) := HRS.out.cell 7
   have r8 : WF.cell? ⟨R, 8, none⟩ = some (.string x.name) := HRS.out.cell 8
   exact bodyPost_ret (v := .agg #[.int .i64 x.kind, .int .i64 t0, .int .i64 t1, .int .i64 x.c, .int .i64 x.n, .int .i64 x.m, .int .i64 x.idx, .int .i64 x.wid, .string x.name]) (by simp [results, Tryz.results24, go_sem, r0, r1, r2, r3, r4, r5, r6, r7, r8]) rfl ⟨ret_eq HVV.out, HBF.out⟩
 · have hi0 := HIN.out 0 (by omega) (by rw [HPN.out]; decide)
   obtain ⟨j0, hj0⟩ := Int.eq_ofNat_of_zero_le hi0.1
   replace hj0 : x.a = (j0 : Int) := hj0
   have hl0 : j0 < m := by have h1 := hi0.2; have h2 : x.part 0 = x.a := rfl; omega
   have hl0' : (j0 : Int) < m := by omega
   obtain ⟨bb0, bo0, hb0, hx0⟩ := HA.out j0 _ (getD_at (show j0 < T.length by rw [HM.out]; exact hl0) 0)
   subst hb0
   have HJ0 := Lib.hid hj0
   have HT0 := Lib.hid (show x.a = (j0 : Int) from hj0)
   obtain ⟨t0, ht0⟩ : ∃ t, T.getD j0 0 = t := ⟨_, rfl⟩
   rw [ht0] at hx0
   have HG0 := Lib.hid ht0
   clear ht0
   have HY0 := Lib.hid (show ∀ W, Below w.heap.size w W → W.cell? ⟨bb0, bo0 + j0, none⟩ = some (.int .i64 t0) from fun W hb => by have := (hx0.below hb) 0 _ rfl; simpa using this)
   clear hi0 hx0 hj0
   have hi1 := HIN.out 1 (by omega) (by rw [HPN.out]; decide)
   obtain ⟨j1, hj1⟩ := Int.eq_ofNat_of_zero_le hi1.1
   replace hj1 : x.b = (j1 : Int) := hj1
   have hl1 : j1 < m := by have h1 := hi1.2; have h2 : x.part 1 = x.b := rfl; omega
   have hl1' : (j1 : Int) < m := by omega
   obtain ⟨bb1, bo1, hb1, hx1⟩ := HA.out j1 _ (getD_at (show j1 < T.length by rw [HM.out]; exact hl1) 0)
   cases hb1
   have HJ1 := Lib.hid hj1
   have HT1 := Lib.hid (show x.b = (j1 : Int) from hj1)
   obtain ⟨t1, ht1⟩ : ∃ t, T.getD j1 0 = t := ⟨_, rfl⟩
   rw [ht1] at hx1
   have HG1 := Lib.hid ht1
   clear ht1
   have HY1 := Lib.hid (show ∀ W, Below w.heap.size w W → W.cell? ⟨bb0, bo0 + j1, none⟩ = some (.int .i64 t1) from fun W hb => by have := (hx1.below hb) 0 _ rfl; simpa using this)
   clear hi1 hx1 hj1
   have hi2 := HIN.out 2 (by omega) (by rw [HPN.out]; decide)
   obtain ⟨j2, hj2⟩ := Int.eq_ofNat_of_zero_le hi2.1
   replace hj2 : x.c = (j2 : Int) := hj2
   have hl2 : j2 < m := by have h1 := hi2.2; have h2 : x.part 2 = x.c := rfl; omega
   have hl2' : (j2 : Int) < m := by omega
   obtain ⟨bb2, bo2, hb2, hx2⟩ := HA.out j2 _ (getD_at (show j2 < T.length by rw [HM.out]; exact hl2) 0)
   cases hb2
   have HJ2 := Lib.hid hj2
   have HT2 := Lib.hid (show x.c = (j2 : Int) from hj2)
   obtain ⟨t2, ht2⟩ : ∃ t, T.getD j2 0 = t := ⟨_, rfl⟩
   rw [ht2] at hx2
   have HG2 := Lib.hid ht2
   clear ht2
   have HY2 := Lib.hid (show ∀ W, Below w.heap.size w W → W.cell? ⟨bb0, bo0 + j2, none⟩ = some (.int .i64 t2) from fun W hb => by have := (hx2.below hb) 0 _ rfl; simpa using this)
   clear hi2 hx2 hj2
   have HX0 := Lib.hid (show OwnB W0 w.heap.size 46 #[.int .i64 x.kind, .int .i64 (j0 : Int), .int .i64 (j1 : Int), .int .i64 (j2 : Int), .int .i64 x.n, .int .i64 x.m, .int .i64 x.idx, .int .i64 x.wid, .string x.name] by have h := HX0.out; rw [HJ0.out] at h; rw [HJ1.out] at h; rw [HJ2.out] at h; exact h)
   have q0 : W0.cell? ⟨w.heap.size, 0, none⟩ = some (.int .i64 x.kind) := HX0.out.cell 0
   have q1 : W0.cell? ⟨w.heap.size, 1, none⟩ = some (.int .i64 (j0 : Int)) := HX0.out.cell 1
   have q2 : W0.cell? ⟨w.heap.size, 2, none⟩ = some (.int .i64 (j1 : Int)) := HX0.out.cell 2
   have q3 : W0.cell? ⟨w.heap.size, 3, none⟩ = some (.int .i64 (j2 : Int)) := HX0.out.cell 3
   have q4 : W0.cell? ⟨w.heap.size, 4, none⟩ = some (.int .i64 x.n) := HX0.out.cell 4
   have q5 : W0.cell? ⟨w.heap.size, 5, none⟩ = some (.int .i64 x.m) := HX0.out.cell 5
   have q6 : W0.cell? ⟨w.heap.size, 6, none⟩ = some (.int .i64 x.idx) := HX0.out.cell 6
   have q7 : W0.cell? ⟨w.heap.size, 7, none⟩ = some (.int .i64 x.wid) := HX0.out.cell 7
   have q8 : W0.cell? ⟨w.heap.size, 8, none⟩ = some (.string x.name) := HX0.out.cell 8
   have f1 : W0.frozen? ⟨w.heap.size, 1, none⟩ = false := HX0.out.frozen 1
   have f2 : W0.frozen? ⟨w.heap.size, 2, none⟩ = false := HX0.out.frozen 2
   have f3 : W0.frozen? ⟨w.heap.size, 3, none⟩ = false := HX0.out.frozen 3
   have g0 : W0.cell? ⟨w.heap.size + 2, 0, none⟩ = some (.pointer (some ⟨w.heap.size, 1, none⟩)) := HP0.out.cell 0
   have g1 : W0.cell? ⟨w.heap.size + 2, 1, none⟩ = some (.pointer (some ⟨w.heap.size, 2, none⟩)) := HP0.out.cell 1
   have g2 : W0.cell? ⟨w.heap.size + 2, 2, none⟩ = some (.pointer (some ⟨w.heap.size, 3, none⟩)) := HP0.out.cell 2
   refine wp_loop_rounds 4 ?_
   rw [rounds_succ]
   have y0 := HY0.out W0 HB0.out
   go_upto_region 6 with (go_at_call 63; refine (parts_same _ _).mono ?_; rintro e w' ⟨rfl, rfl⟩; rw [HPN.out])
   have HX1 := Lib.hid (show OwnB (W0.setCell ⟨w.heap.size, 1, none⟩ (.int .i64 t0)) w.heap.size 46 #[.int .i64 x.kind, .int .i64 t0, .int .i64 (j1 : Int), .int .i64 (j2 : Int), .int .i64 x.n, .int .i64 x.m, .int .i64 x.idx, .int .i64 x.wid, .string x.name] from HX0.out.set 1 (.int .i64 t0))
   have HR1 := Lib.hid (show OwnB (W0.setCell ⟨w.heap.size, 1, none⟩ (.int .i64 t0)) (w.heap.size + 1) 46 #[.int .i64 0, .int .i64 0, .int .i64 0, .int .i64 0, .int .i64 0, .int .i64 0, .int .i64 0, .int .i64 0, .string ⟨#[]⟩] from HR0.out.set_ne (by omega) _ _)
   have HP1 := Lib.hid (show OwnB (W0.setCell ⟨w.heap.size, 1, none⟩ (.int .i64 t0)) (w.heap.size + 2) 86 #[.pointer (some ⟨w.heap.size, 1, none⟩), .pointer (some ⟨w.heap.size, 2, none⟩), .pointer (some ⟨w.heap.size, 3, none⟩)] from HP0.out.set_ne (by omega) _ _)
   have HB1 := Lib.hid (show Below w.heap.size w (W0.setCell ⟨w.heap.size, 1, none⟩ (.int .i64 t0)) from HB0.out.setCell (Nat.le_refl _) _)
   clear y0 q0 q1 q2 q3 q4 q5 q6 q7 q8 f1 f2 f3 g0 g1 g2
   generalize W0.setCell ⟨w.heap.size, 1, none⟩ (.int .i64 t0) = W1 at *
   have q0 : W1.cell? ⟨w.heap.size, 0, none⟩ = some (.int .i64 x.kind) := HX1.out.cell 0
   have q1 : W1.cell? ⟨w.heap.size, 1, none⟩ = some (.int .i64 t0) := HX1.out.cell 1
   have q2 : W1.cell? ⟨w.heap.size, 2, none⟩ = some (.int .i64 (j1 : Int)) := HX1.out.cell 2
   have q3 : W1.cell? ⟨w.heap.size, 3, none⟩ = some (.int .i64 (j2 : Int)) := HX1.out.cell 3
   have q4 : W1.cell? ⟨w.heap.size, 4, none⟩ = some (.int .i64 x.n) := HX1.out.cell 4
   have q5 : W1.cell? ⟨w.heap.size, 5, none⟩ = some (.int .i64 x.m) := HX1.out.cell 5
   have q6 : W1.cell? ⟨w.heap.size, 6, none⟩ = some (.int .i64 x.idx) := HX1.out.cell 6
   have q7 : W1.cell? ⟨w.heap.size, 7, none⟩ = some (.int .i64 x.wid) := HX1.out.cell 7
   have q8 : W1.cell? ⟨w.heap.size, 8, none⟩ = some (.string x.name) := HX1.out.cell 8
   have f1 : W1.frozen? ⟨w.heap.size, 1, none⟩ = false := HX1.out.frozen 1
   have f2 : W1.frozen? ⟨w.heap.size, 2, none⟩ = false := HX1.out.frozen 2
   have f3 : W1.frozen? ⟨w.heap.size, 3, none⟩ = false := HX1.out.frozen 3
   have g0 : W1.cell? ⟨w.heap.size + 2, 0, none⟩ = some (.pointer (some ⟨w.heap.size, 1, none⟩)) := HP1.out.cell 0
   have g1 : W1.cell? ⟨w.heap.size + 2, 1, none⟩ = some (.pointer (some ⟨w.heap.size, 2, none⟩)) := HP1.out.cell 1
   have g2 : W1.cell? ⟨w.heap.size + 2, 2, none⟩ = some (.pointer (some ⟨w.heap.size, 3, none⟩)) := HP1.out.cell 2
   go_wp2
   rw [rounds_succ]
   have y1 := HY1.out W1 HB1.out
   go_upto_region 6 with (go_at_call 63; refine (parts_same _ _).mono ?_; rintro e w' ⟨rfl, rfl⟩; rw [HPN.out])
   have HX2 := Lib.hid (show OwnB (W1.setCell ⟨w.heap.size, 2, none⟩ (.int .i64 t1)) w.heap.size 46 #[.int .i64 x.kind, .int .i64 t0, .int .i64 t1, .int .i64 (j2 : Int), .int .i64 x.n, .int .i64 x.m, .int .i64 x.idx, .int .i64 x.wid, .string x.name] from HX1.out.set 2 (.int .i64 t1))
   have HR2 := Lib.hid (show OwnB (W1.setCell ⟨w.heap.size, 2, none⟩ (.int .i64 t1)) (w.heap.size + 1) 46 #[.int .i64 0, .int .i64 0, .int .i64 0, .int .i64 0, .int .i64 0, .int .i64 0, .int .i64 0, .int .i64 0, .string ⟨#[]⟩] from HR1.out.set_ne (by omega) _ _)
   have HP2 := Lib.hid (show OwnB (W1.setCell ⟨w.heap.size, 2, none⟩ (.int .i64 t1)) (w.heap.size + 2) 86 #[.pointer (some ⟨w.heap.size, 1, none⟩), .pointer (some ⟨w.heap.size, 2, none⟩), .pointer (some ⟨w.heap.size, 3, none⟩)] from HP1.out.set_ne (by omega) _ _)
   have HB2 := Lib.hid (show Below w.heap.size w (W1.setCell ⟨w.heap.size, 2, none⟩ (.int .i64 t1)) from HB1.out.setCell (Nat.le_refl _) _)
   clear y1 q0 q1 q2 q3 q4 q5 q6 q7 q8 f1 f2 f3 g0 g1 g2
   generalize W1.setCell ⟨w.heap.size, 2, none⟩ (.int .i64 t1) = W2 at *
   have q0 : W2.cell? ⟨w.heap.size, 0, none⟩ = some (.int .i64 x.kind) := HX2.out.cell 0
   have q1 : W2.cell? ⟨w.heap.size, 1, none⟩ = some (.int .i64 t0) := HX2.out.cell 1
   have q2 : W2.cell? ⟨w.heap.size, 2, none⟩ = some (.int .i64 t1) := HX2.out.cell 2
   have q3 : W2.cell? ⟨w.heap.size, 3, none⟩ = some (.int .i64 (j2 : Int)) := HX2.out.cell 3
   have q4 : W2.cell? ⟨w.heap.size, 4, none⟩ = some (.int .i64 x.n) := HX2.out.cell 4
   have q5 : W2.cell? ⟨w.heap.size, 5, none⟩ = some (.int .i64 x.m) := HX2.out.cell 5
   have q6 : W2.cell? ⟨w.heap.size, 6, none⟩ = some (.int .i64 x.idx) := HX2.out.cell 6
   have q7 : W2.cell? ⟨w.heap.size, 7, none⟩ = some (.int .i64 x.wid) := HX2.out.cell 7
   have q8 : W2.cell? ⟨w.heap.size, 8, none⟩ = some (.string x.name) := HX2.out.cell 8
   have f1 : W2.frozen? ⟨w.heap.size, 1, none⟩ = false := HX2.out.frozen 1
   have f2 : W2.frozen? ⟨w.heap.size, 2, none⟩ = false := HX2.out.frozen 2
   have f3 : W2.frozen? ⟨w.heap.size, 3, none⟩ = false := HX2.out.frozen 3
   have g0 : W2.cell? ⟨w.heap.size + 2, 0, none⟩ = some (.pointer (some ⟨w.heap.size, 1, none⟩)) := HP2.out.cell 0
   have g1 : W2.cell? ⟨w.heap.size + 2, 1, none⟩ = some (.pointer (some ⟨w.heap.size, 2, none⟩)) := HP2.out.cell 1
   have g2 : W2.cell? ⟨w.heap.size + 2, 2, none⟩ = some (.pointer (some ⟨w.heap.size, 3, none⟩)) := HP2.out.cell 2
   go_wp2
   rw [rounds_succ]
   have y2 := HY2.out W2 HB2.out
   go_upto_region 6 with (go_at_call 63; refine (parts_same _ _).mono ?_; rintro e w' ⟨rfl, rfl⟩; rw [HPN.out])
   have HX3 := Lib.hid (show OwnB (W2.setCell ⟨w.heap.size, 3, none⟩ (.int .i64 t2)) w.heap.size 46 #[.int .i64 x.kind, .int .i64 t0, .int .i64 t1, .int .i64 t2, .int .i64 x.n, .int .i64 x.m, .int .i64 x.idx, .int .i64 x.wid, .string x.name] from HX2.out.set 3 (.int .i64 t2))
   have HR3 := Lib.hid (show OwnB (W2.setCell ⟨w.heap.size, 3, none⟩ (.int .i64 t2)) (w.heap.size + 1) 46 #[.int .i64 0, .int .i64 0, .int .i64 0, .int .i64 0, .int .i64 0, .int .i64 0, .int .i64 0, .int .i64 0, .string ⟨#[]⟩] from HR2.out.set_ne (by omega) _ _)
   have HP3 := Lib.hid (show OwnB (W2.setCell ⟨w.heap.size, 3, none⟩ (.int .i64 t2)) (w.heap.size + 2) 86 #[.pointer (some ⟨w.heap.size, 1, none⟩), .pointer (some ⟨w.heap.size, 2, none⟩), .pointer (some ⟨w.heap.size, 3, none⟩)] from HP2.out.set_ne (by omega) _ _)
   have HB3 := Lib.hid (show Below w.heap.size w (W2.setCell ⟨w.heap.size, 3, none⟩ (.int .i64 t2)) from HB2.out.setCell (Nat.le_refl _) _)
   clear y2 q0 q1 q2 q3 q4 q5 q6 q7 q8 f1 f2 f3 g0 g1 g2
   generalize W2.setCell ⟨w.heap.size, 3, none⟩ (.int .i64 t2) = W3 at *
   have q0 : W3.cell? ⟨w.heap.size, 0, none⟩ = some (.int .i64 x.kind) := HX3.out.cell 0
   have q1 : W3.cell? ⟨w.heap.size, 1, none⟩ = some (.int .i64 t0) := HX3.out.cell 1
   have q2 : W3.cell? ⟨w.heap.size, 2, none⟩ = some (.int .i64 t1) := HX3.out.cell 2
   have q3 : W3.cell? ⟨w.heap.size, 3, none⟩ = some (.int .i64 t2) := HX3.out.cell 3
   have q4 : W3.cell? ⟨w.heap.size, 4, none⟩ = some (.int .i64 x.n) := HX3.out.cell 4
   have q5 : W3.cell? ⟨w.heap.size, 5, none⟩ = some (.int .i64 x.m) := HX3.out.cell 5
   have q6 : W3.cell? ⟨w.heap.size, 6, none⟩ = some (.int .i64 x.idx) := HX3.out.cell 6
   have q7 : W3.cell? ⟨w.heap.size, 7, none⟩ = some (.int .i64 x.wid) := HX3.out.cell 7
   have q8 : W3.cell? ⟨w.heap.size, 8, none⟩ = some (.string x.name) := HX3.out.cell 8
   have f1 : W3.frozen? ⟨w.heap.size, 1, none⟩ = false := HX3.out.frozen 1
   have f2 : W3.frozen? ⟨w.heap.size, 2, none⟩ = false := HX3.out.frozen 2
   have f3 : W3.frozen? ⟨w.heap.size, 3, none⟩ = false := HX3.out.frozen 3
   have g0 : W3.cell? ⟨w.heap.size + 2, 0, none⟩ = some (.pointer (some ⟨w.heap.size, 1, none⟩)) := HP3.out.cell 0
   have g1 : W3.cell? ⟨w.heap.size + 2, 1, none⟩ = some (.pointer (some ⟨w.heap.size, 2, none⟩)) := HP3.out.cell 1
   have g2 : W3.cell? ⟨w.heap.size + 2, 2, none⟩ = some (.pointer (some ⟨w.heap.size, 3, none⟩)) := HP3.out.cell 2
   go_wp2
   rw [rounds_succ]
   have HRS := Lib.hid (nine_set HR3.out (.int .i64 x.kind) (.int .i64 t0) (.int .i64 t1) (.int .i64 t2) (.int .i64 x.n) (.int .i64 x.m) (.int .i64 x.idx) (.int .i64 x.wid) (.string x.name))
   have z0 : W3.cell? ⟨w.heap.size + 1, 0, none⟩ = some (.int .i64 0) := HR3.out.cell 0
   have e0 : W3.frozen? ⟨w.heap.size + 1, 0, none⟩ = false := HR3.out.frozen 0
   have z1 : W3.cell? ⟨w.heap.size + 1, 1, none⟩ = some (.int .i64 0) := HR3.out.cell 1
   have e1 : W3.frozen? ⟨w.heap.size + 1, 1, none⟩ = false := HR3.out.frozen 1
   have z2 : W3.cell? ⟨w.heap.size + 1, 2, none⟩ = some (.int .i64 0) := HR3.out.cell 2
   have e2 : W3.frozen? ⟨w.heap.size + 1, 2, none⟩ = false := HR3.out.frozen 2
   have z3 : W3.cell? ⟨w.heap.size + 1, 3, none⟩ = some (.int .i64 0) := HR3.out.cell 3
   have e3 : W3.frozen? ⟨w.heap.size + 1, 3, none⟩ = false := HR3.out.frozen 3
   have z4 : W3.cell? ⟨w.heap.size + 1, 4, none⟩ = some (.int .i64 0) := HR3.out.cell 4
   have e4 : W3.frozen? ⟨w.heap.size + 1, 4, none⟩ = false := HR3.out.frozen 4
   have z5 : W3.cell? ⟨w.heap.size + 1, 5, none⟩ = some (.int .i64 0) := HR3.out.cell 5
   have e5 : W3.frozen? ⟨w.heap.size + 1, 5, none⟩ = false := HR3.out.frozen 5
   have z6 : W3.cell? ⟨w.heap.size + 1, 6, none⟩ = some (.int .i64 0) := HR3.out.cell 6
   have e6 : W3.frozen? ⟨w.heap.size + 1, 6, none⟩ = false := HR3.out.frozen 6
   have z7 : W3.cell? ⟨w.heap.size + 1, 7, none⟩ = some (.int .i64 0) := HR3.out.cell 7
   have e7 : W3.frozen? ⟨w.heap.size + 1, 7, none⟩ = false := HR3.out.frozen 7
   have z8 : W3.cell? ⟨w.heap.size + 1, 8, none⟩ = some (.string ⟨#[]⟩) := HR3.out.cell 8
   have e8 : W3.frozen? ⟨w.heap.size + 1, 8, none⟩ = false := HR3.out.frozen 8
   have HBF := Lib.hid (nine_below HB3.out (show w.heap.size ≤ w.heap.size + 1 by omega) (.int .i64 x.kind) (.int .i64 t0) (.int .i64 t1) (.int .i64 t2) (.int .i64 x.n) (.int .i64 x.m) (.int .i64 x.idx) (.int .i64 x.wid) (.string x.name))
   have HVV := Lib.hid (show Value.agg #[.int .i64 x.kind, .int .i64 t0, .int .i64 t1, .int .i64 t2, .int .i64 x.n, .int .i64 x.m, .int .i64 x.idx, .int .i64 x.wid, .string x.name] = V by
    rw [← HV.out]
    unfold nodeV partT
    rw [HPN.out]
    simp only [HT0.out, HT1.out, HT2.out, HG0.out, HG1.out, HG2.out, Int.toNat_natCast]
    simp)
   clear f1 f2 f3
   generalize w.heap.size + 1 = R at *
   go_wp2
   generalize (((((((((W3.setCell ⟨R, 0, none⟩ (.int .i64 x.kind)).setCell ⟨R, 1, none⟩ (.int .i64 t0)).setCell ⟨R, 2, none⟩ (.int .i64 t1)).setCell ⟨R, 3, none⟩ (.int .i64 t2)).setCell ⟨R, 4, none⟩ (.int .i64 x.n)).setCell ⟨R, 5, none⟩ (.int .i64 x.m)).setCell ⟨R, 6, none⟩ (.int .i64 x.idx)).setCell ⟨R, 7, none⟩ (.int .i64 x.wid)).setCell ⟨R, 8, none⟩ (.string x.name)) = WF at *
   have r0 : WF.cell? ⟨R, 0, none⟩ = some (.int .i64 x.kind) := HRS.out.cell 0
   have r1 : WF.cell? ⟨R, 1, none⟩ = some (.int .i64 t0) := HRS.out.cell 1
   have r2 : WF.cell? ⟨R, 2, none⟩ = some (.int .i64 t1) := HRS.out.cell 2
   have r3 : WF.cell? ⟨R, 3, none⟩ = some (.int .i64 t2) := HRS.out.cell 3
   have r4 : WF.cell? ⟨R, 4, none⟩ = some (.int .i64 x.n) := HRS.out.cell 4
   have r5 : WF.cell? ⟨R, 5, none⟩ = some (.int .i64 x.m) := HRS.out.cell 5
   have r6 : WF.cell? ⟨R, 6, none⟩ = some (.int .i64 x.idx) := HRS.out.cell 6
   have r7 : WF.cell? ⟨R, 7, none⟩ = some (.int .i64 x.wid) := HRS.out.cell 7
   have r8 : WF.cell? ⟨R, 8, none⟩ = some (.string x.name) := HRS.out.cell 8
   exact bodyPost_ret (v := .agg #[.int .i64 x.kind, .int .i64 t0, .int .i64 t1, .int .i64 t2, .int .i64 x.n, .int .i64 x.m, .int .i64 x.idx, .int .i64 x.wid, .string x.name]) (by simp [results, Tryz.results24, go_sem, r0, r1, r2, r3, r4, r5, r6, r7, r8]) rfl ⟨ret_eq HVV.out, HBF.out⟩
end Go.Proofs.YtdojaijnejcoiaaGreat
namespace Go.Proofs.YtdojaijnejcoiaaGreat
open Go.RowKit
def OwnL (w : World) (g : Nat) (L : List Bool) : Prop := OwnB w g 4 (L.map Value.bool).toArray
theorem OwnL.lt {w : World} {g : Nat} {L : List Bool} (h : OwnL w g L) : g < w.heap.size := OwnB.lt h
theorem OwnL.cell {w : World} {g : Nat} {L : List Bool} (h : OwnL w g L) {j : Nat} (hj : j < L.length) : w.cell? ⟨g, j, none⟩ = some (.bool (L.getD j false)) := by
 refine (OwnB.cell h j).trans ?_
 rw [List.getElem?_toArray, List.getElem?_map, getD_at hj false]
 rfl
theorem OwnL.frozen {w : World} {g : Nat} {L : List Bool} (h : OwnL w g L) (j : Nat) : w.frozen? ⟨g, j, none⟩ = false := OwnB.frozen h j
theorem OwnL.set {w : World} {g : Nat} {L : List Bool} (h : OwnL w g L) (j : Nat) : OwnL (w.setCell ⟨g, j, none⟩ (.bool true)) g (L.set j true) := by
 have := OwnB.set h j (.bool true)
 unfold OwnL
 rw [List.map_set]
 simpa using this
theorem OwnL.below {w w' : World} {g : Nat} {L : List Bool} (h : OwnL w g L) (hb : Below w.heap.size w w') : OwnL w' g L := OwnB.below h hb (OwnB.lt h)
theorem OwnL.but {S : Nat → Prop} {w w' : World} {g : Nat} {L : List Bool} (h : OwnL w g L) (hb : But S w w') (hg : ¬ S g) : OwnL w' g L := OwnB.but h hb hg
theorem OwnL.made (w : World) (n : Nat) : OwnL (w.alloc (.cells (madeCells #[.bool false] n) 4)) w.heap.size (List.replicate n false) := by
 have h := OwnB.new w 4 (madeCells #[.bool false] n)
 unfold OwnL
 have e : madeCells #[Value.bool false] n = ((List.replicate n false).map Value.bool).toArray := by
  apply Array.ext_getElem?
  intro j
  simp only [List.getElem?_toArray, List.getElem?_map]
  rcases Nat.lt_or_ge j n with g | g
  · rw [madeCells_get _ _ _ g, List.getElem?_replicate, if_pos g]; rfl
  · rw [Array.getElem?_eq_none (by rw [size_madeCells]; exact g), List.getElem?_eq_none (by simpa using g)]; rfl
 rw [← e]
 exact h
def asB : Option Value → Bool
 | some (.bool b) => b
 | _ => false
theorem OwnL.of {w : World} {g n : Nat} {cs : Array Value} {T : Nat → Prop} (h : OwnB w g 4 cs) (hb : BoolsAt cs n T) : ∃ K : List Bool, K.length = n ∧ OwnL w g K ∧ ∀ j, j < n → (tt K j ↔ T j) := by
 obtain ⟨h1, h2⟩ := hb
 refine ⟨(List.range n).map (fun j => asB cs[j]?), by simp, ?_, fun j hj => ?_⟩
 · unfold OwnL
   have e : cs = (((List.range n).map (fun j => asB cs[j]?)).map Value.bool).toArray := by
    apply Array.ext_getElem?
    intro j
    simp only [List.getElem?_toArray, List.getElem?_map]
    rcases Nat.lt_or_ge j n with g | g
    · obtain ⟨v, hv, -⟩ := h2 j g
      rw [List.getElem?_range g]
      simp [hv, asB]
    · rw [Array.getElem?_eq_none (by omega), List.getElem?_eq_none (by simpa using g)]
      rfl
   rw [← e]
   exact h
 · obtain ⟨v, hv, ht⟩ := h2 j hj
   unfold tt
   rw [List.getD_eq_getElem?_getD, List.getElem?_map, List.getElem?_range hj]
   simp [hv, asB]
   exact ht
def StepJ (ns : List Nd) (a k : Nat) (L L' : List Bool) (more : Bool) : Prop :=
 L'.length = L.length ∧ (∀ j, tt L' j ↔ tt L j ∨ (Reach ns a j ∧ j < k)) ∧ fls L' ≤ fls L ∧ (more = true → fls L' < fls L) ∧ (more = false → ∀ j, j < k → Reach ns a j → tt L j)
theorem StepJ.start (ns : List Nd) (a : Nat) (L : List Bool) : StepJ ns a 0 L L false :=
 ⟨rfl, fun j => ⟨.inl, fun h => h.elim id fun h => absurd h.2 (Nat.not_lt_zero _)⟩, Nat.le_refl _, fun h => (by cases h), fun _ j hj => absurd hj (Nat.not_lt_zero _)⟩
theorem StepJ.skip {ns : List Nd} {a k : Nat} {L L' : List Bool} {more : Bool} (h : StepJ ns a k L L' more) (hk : Reach ns a k → tt L' k) : StepJ ns a (k + 1) L L' more := by
 obtain ⟨h1, h2, h3, h4, h5⟩ := h
 have key : Reach ns a k → tt L k := fun hr => by
  rcases (h2 k).1 (hk hr) with g | g
  · exact g
  · exact absurd g.2 (Nat.lt_irrefl _)
 refine ⟨h1, fun j => ?_, h3, h4, fun hm j hj hr => ?_⟩
 · rw [h2 j]
   constructor
   · rintro (g | g)
     · exact .inl g
     · exact .inr ⟨g.1, by omega⟩
   · rintro (g | ⟨g1, g2⟩)
     · exact .inl g
     · rcases Nat.lt_or_ge j k with e | e
       · exact .inr ⟨g1, e⟩
       · obtain rfl : j = k := by omega
         exact .inl (key g1)
 · rcases Nat.lt_or_ge j k with e | e
   · exact h5 hm j e hr
   · obtain rfl : j = k := by omega
     exact key hr
theorem StepJ.set {ns : List Nd} {a k : Nat} {L L' : List Bool} {more : Bool} (h : StepJ ns a k L L' more) (hk : k < L'.length) (hr : Reach ns a k) (hn : ¬ tt L' k) : StepJ ns a (k + 1) L (L'.set k true) true := by
 obtain ⟨h1, h2, h3, h4, h5⟩ := h
 have hf := fls_set hk hn
 refine ⟨by rw [List.length_set]; exact h1, fun j => ?_, by omega, fun _ => by omega, fun hm => by cases hm⟩
 rw [tt_set hk, h2 j]
 constructor
 · rintro ((g | g) | rfl)
   · exact .inl g
   · exact .inr ⟨g.1, by omega⟩
   · exact .inr ⟨hr, by omega⟩
 · rintro (g | ⟨g1, g2⟩)
   · exact .inl (.inl g)
   · rcases Nat.lt_or_ge j k with e | e
     · exact .inl (.inr ⟨g1, e⟩)
     · exact .inr (by omega)
theorem StepJ.done {ns : List Nd} {a b : Nat} {L L' : List Bool} {more : Bool} (h : StepJ ns a (a + 1) L L' more) (hd : Down ns b) (hab : a < b) : JoinP ns a L L' more := by
 obtain ⟨h1, h2, h3, h4, h5⟩ := h
 have hl : ∀ j, Reach ns a j → j < a + 1 := fun j hj => by have := hj.le hd hab; omega
 exact ⟨h1, fun j => (h2 j).trans ⟨fun g => g.elim .inl (fun g => .inr g.1), fun g => g.elim .inl (fun g => .inr ⟨g, hl j g⟩)⟩, h3, h4, fun hm j hr => h5 hm j (hl j hr) hr⟩
def JoinPost (g : Nat) (ns : List Nd) (a : Nat) (L : List Bool) (w : World) (e : Ending) (w' : World) : Prop := ∃ L' more, e = .returned (.bool more) ∧ But (fun b => b = g) w w' ∧ OwnL w' g L' ∧ JoinP ns a L L' more
theorem l9Join_calls (mv : Value) (M : Md) (g a : Nat) (L : List Bool) (w : World) (hM : MdAt w mv M) (hO : OwnL w g L) (hl : L.length = M.nodes.length) (ha : a < M.nodes.length) (hd : Down M.nodes M.nodes.length) :
 Calls Tryz.prog 44 #[mv, .slice (some ⟨g, 0, none⟩) M.nodes.length M.nodes.length, .int .i64 (a : Int)] w fun e w' => JoinPost g M.nodes a L w e w' := by
 have HM := Lib.hid hM
 have HO := Lib.hid hO
 have HD := Lib.hid hd
 obtain ⟨s0, s1, s2, s3, s4, rfl, h0s, -, -, -, -⟩ := hM.at_
 have HS := Lib.hid h0s
 obtain ⟨A, c, rfl, hnc, hc', -⟩ := h0s
 have hn2 : M.nodes.length ≤ 281474976710656 := Nat.le_trans hnc hc'
 clear hM hO hd hnc hc'
 generalize hn : M.nodes.length = n at *
 have HN := Lib.hid hn
 have HLN := Lib.hid hl
 clear hn
 go_enter Tryz.func44, Tryz.ntmps44
 have HB := Lib.hid (box_below w #[.slice A n c, s1, s2, s3, s4] 31)
 have m0 := box_cell w #[.slice A n c, s1, s2, s3, s4] 31 0 _ rfl
 go_upto_region 1 with fail
 have HO1 := Lib.hid (HO.out.below HB.out)
 have HS1 := Lib.hid (HS.out.below HB.out)
 have HGL := Lib.hid HO.out.lt
 have HSZ := Lib.hid (show w.heap.size < (w.alloc (.cells #[.slice A n c, s1, s2, s3, s4] 31)).heap.size by simp)
 generalize w.alloc (.cells #[.slice A n c, s1, s2, s3, s4] 31) = w1 at *
 replace m0 : ∀ u : Later w1, u.val.cell? ⟨w.heap.size, 0, none⟩ = some (.slice A n c) := m0
 refine at_world (w := w1) ?_
 intro u0
 go_upto_region 2 with (go_at_call 78; have hlm := l2Made_calls _ M.nodes a _ (HS1.out.later u0) (by rw [HN.out]; exact ha) (by rw [HN.out]; exact HD.out); rw [HN.out] at hlm; refine hlm.mono ?_; rintro e w' ⟨cs, rfl, hb, hown, hat⟩; clear hlm; have HMA := Lib.hid (And.intro hown hat); have HGM := Lib.hid (Nat.lt_of_lt_of_le HSZ.out u0.size); obtain ⟨u1, hu1⟩ := u0.step hb; subst hu1; clear hb hown hat)
 have hgm : g ≠ u0.val.heap.size := by have h1 := HGL.out; have h2 := HGM.out; omega
 obtain ⟨K, hk1, hk2, hk3⟩ := OwnL.of HMA.out.1 HMA.out.2
 have HK := Lib.hid (And.intro hk1 hk3)
 have HKW := Lib.hid hk2
 have HOW := Lib.hid (HO1.out.below u1.prop)
 have HBW := Lib.hid (u1.back HB.out)
 clear hk1 hk2 hk3 HMA HO1
 generalize u0.val.heap.size = gm at *
 generalize u1.val = W at *
 refine at_world (w := W) ?_
 intro w0
 go_upto_region 4 with fail
 have HO3 := Lib.hid (HOW.out.below w0.prop)
 have HK3 := Lib.hid (HKW.out.below w0.prop)
 have HB3 := Lib.hid (But.of_below (S := fun b => b = g) w0.prop)
 go_loopw [8, 9] (fun mr i wr => ∃ (k : Nat) (more : Bool) (L' : List Bool), k ≤ a + 1 ∧ mr = .bool more ∧ i = .int .i64 k ∧ Hid (OwnL wr g L' ∧ OwnL wr gm K ∧ StepJ M.nodes a k L L' more ∧ But (fun b => b = g) W wr)) (fun _ i _ => a + 1 - (intOf i).toNat)
 case atStart => exact ⟨0, false, L, Nat.zero_le _, rfl, rfl, Lib.hid ⟨HO3.out, HK3.out, StepJ.start _ _ _, HB3.out⟩⟩
 case round =>
  obtain ⟨k, more, L', hk, rfl, rfl, HI⟩ := hrel
  by_cases hlt : k < a + 1
  · have hka : (k : Int) ≤ (a : Int) := by omega
    have hkn : k < n := by omega
    have hkn2 : (k : Int) < (n : Int) := by omega
    have hL : k < L'.length := by have := HI.out.2.2.1.1; omega
    have c0 := HI.out.1.cell hL
    have f0 := HI.out.1.frozen k
    have d0 := HI.out.2.1.cell (show k < K.length by rw [HK.out.1]; exact hkn)
    have HR := Lib.hid (HK.out.2 k hkn)
    generalize hv : K.getD k false = v at *
    have HV := Lib.hid hv
    clear hv
    cases v
    · have HN2 := Lib.hid (show StepJ M.nodes a (k + 1) L L' more from HI.out.2.2.1.skip (fun hr => by have := HR.out.2 hr; unfold tt at this; rw [HV.out] at this; cases this))
      go_wp2
      go_roundw
      case rel => exact ⟨k + 1, more, L', by omega, rfl, by go_num, Lib.hid ⟨HI.out.1, HI.out.2.1, HN2.out, HI.out.2.2.2⟩⟩
      case measure => simp [intOf] <;> omega
    · have HRE := Lib.hid (HR.out.1 HV.out)
      generalize hu : L'.getD k false = q at *
      have HU := Lib.hid hu
      clear hu
      cases q
      · have HN2 := Lib.hid (show StepJ M.nodes a (k + 1) L (L'.set k true) true from HI.out.2.2.1.set hL HRE.out (fun h => by unfold tt at h; rw [HU.out] at h; cases h))
        have HB2 := Lib.hid (show But (fun b => b = g) W (wr.setCell ⟨g, k, none⟩ (.bool true)) from But.setCell HI.out.2.2.2 rfl _)
        have HKK := Lib.hid (show OwnL (wr.setCell ⟨g, k, none⟩ (.bool true)) gm K from HI.out.2.1.but (But.setCell (S := fun b => b = g) (But.refl _ _) rfl _) (fun e => hgm e.symm))
        go_wp2
        go_roundw
        case rel => exact ⟨k + 1, true, _, by omega, rfl, by go_num, Lib.hid ⟨HI.out.1.set k, HKK.out, HN2.out, HB2.out⟩⟩
        case measure => simp [intOf] <;> omega
      · have HN2 := Lib.hid (show StepJ M.nodes a (k + 1) L L' more from HI.out.2.2.1.skip (fun _ => HU.out))
        go_wp2
        go_roundw
        case rel => exact ⟨k + 1, more, L', by omega, rfl, by go_num, Lib.hid ⟨HI.out.1, HI.out.2.1, HN2.out, HI.out.2.2.2⟩⟩
        case measure => simp [intOf] <;> omega
  · obtain rfl : k = a + 1 := by omega
    have hle : ¬ ((a + 1 : Nat) : Int) ≤ (a : Int) := by omega
    have hle2 : ¬ (a : Int) + 1 ≤ (a : Int) := by omega
    go_wp2
    refine bodyPost_ret (v := .bool more) (by simp [results, Tryz.results44, go_sem]) rfl ?_
    exact ⟨L', more, rfl, (But.of_below HBW.out).trans HI.out.2.2.2, HI.out.1, HI.out.2.2.1.done HD.out ha⟩
end Go.Proofs.YtdojaijnejcoiaaGreat
