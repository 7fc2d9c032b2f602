import Derived.Test.YtdojaijnejcoiaaGreatmc5
import Derived.Deep.RegionHeld3
import Derived.Test.YtdojaijnejcoiaaGreatmc3
import Derived.Lib.AppendZeros
import Derived.Laws.OwnMore
import Derived.LoopN
import Derived.Maps.Own
import Derived.Maps.OwnSet
import Derived.Maps.Views
import Derived.StringKeys
set_option linter.unusedVariables false
set_option linter.unusedSimpArgs false
set_option maxRecDepth 8000
set_option maxHeartbeats 16000000
namespace Go.Proofs.YtdojaijnejcoiaaGreat
open Go.RowKit
attribute [local go_sem high] eq_sort
theorem nodesOk_calls (mv : Value) (M : Md) (w : World) (hM : MdAt w mv M) (hnm : ∀ x, x ∈ M.nodes → x.name.size ≤ 140737488351232) :
 Makes Tryz.prog 49 #[mv] w (.bool (nodesB M.nodes)) := by
 obtain ⟨s0, s1, s2, s3, s4, rfl, hS, -, -, -, -⟩ := hM.at_
 obtain ⟨A, c, rfl, hnc, hc', hA⟩ := hS
 clear hM
 obtain ⟨R, hR⟩ : ∃ R, R = nodesB M.nodes := ⟨_, rfl⟩
 rw [← hR]
 have HNO := Lib.hid (show ∀ k, k < M.nodes.length → nodeB M.nodes k = false → R = false from fun k h1 h2 => hR.trans (nodes_no h1 h2))
 have HYES := Lib.hid (show (∀ j, j < M.nodes.length → nodeB M.nodes j = true) → R = true from fun h => hR.trans (nodes_yes h))
 have HNM := Lib.hid hnm
 clear hR hnm
 generalize M.nodes = ns at *
 generalize hN : ns.length = n at *
 have HN := Lib.hid hN
 have HNC := Lib.hid hnc
 have HC := Lib.hid hc'
 have hn : n ≤ 281474976710656 := Nat.le_trans hnc hc'
 clear hN
 have HA := Lib.hid hA
 go_enter Tryz.func49, Tryz.ntmps49
 go_wp2
 have HB := Lib.hid (box_below w #[.slice A n c, s1, s2, s3, s4] 31)
 have m0 := box_cell w #[.slice A n c, s1, s2, s3, s4] 31 0 _ rfl
 generalize w.alloc (.cells #[.slice A n c, s1, s2, s3, s4] 31) = w1 at *
 have m0 : ∀ u : Later w1, u.val.cell? ⟨w.heap.size, 0, none⟩ = some (.slice A n c) := m0
 generalize w.heap.size = g0 at m0 ⊢
 go_loopw [10] (fun i wr => ∃ k : Nat, k ≤ n ∧ i = .int .i64 k ∧ Hid (∀ j, j < k → nodeB ns j = true) ∧ LaterC w1 wr) (fun i _ => n - (intOf i).toNat)
 case atStart => exact ⟨0, Nat.zero_le _, rfl, Lib.hid (fun i hi => absurd hi (Nat.not_lt_zero _)), LaterC.refl _⟩
 case round =>
  obtain ⟨k, hk, rfl, hto, ⟨u, rfl⟩⟩ := hrel
  by_cases hlt : k < n
  · have hlt' : (k : Int) < n := by omega
    have hkc : (k : Int) ≤ c := by omega
    have hmem : ns.getD k Nd.zero ∈ ns := List.mem_of_getElem? (getD_at (by rw [HN.out]; exact hlt) _)
    have HSZ := Lib.hid (HNM.out _ hmem)
    clear hmem
    obtain ⟨g, o, rfl, hx⟩ := hA k _ (getD_at (by rw [HN.out]; exact hlt) Nd.zero)
    have HSL := Lib.hid (show SlAt enNd w (.slice (some ⟨g, o, none⟩) k c) (ns.take k) from SlAt.take HN.out HNC.out HC.out HA.out (Nat.le_of_lt hlt))
    have HNB := Lib.hid (show nodeB ns k = decide (sortN (ns.take k) (ns.getD k Nd.zero) = some ((ns.getD k Nd.zero).idx, (ns.getD k Nd.zero).wid)) from rfl)
    generalize ns.getD k Nd.zero = x at *
    have q : ∀ (f : Nat) (v : Value), (enNd.cells x)[f]? = some v → ∀ l : Later w1, l.val.cell? ⟨g, o + k * 9 + f, none⟩ = some v := fun f v hv => hx.at_ HB.out f v hv
    have q0 : ∀ l : Later w1, l.val.cell? ⟨g, o + k * 9, none⟩ = some (.int .i64 x.kind) := hx.at_ HB.out 0 _ rfl
    have q1 := q 1 _ rfl
    have q2 := q 2 _ rfl
    have q3 := q 3 _ rfl
    have q4 := q 4 _ rfl
    have q5 := q 5 _ rfl
    have q6 := q 6 _ rfl
    have q7 := q 7 _ rfl
    have q8 := q 8 _ rfl
    clear hx hA q
    go_upto_region 4 with fail
    have p0 : (u.val.alloc (Obj.cells #[.int .i64 x.kind, .int .i64 x.a, .int .i64 x.b, .int .i64 x.c, .int .i64 x.n, .int .i64 x.m, .int .i64 x.idx, .int .i64 x.wid, .string x.name] 46)).cell? ⟨u.val.heap.size, 0, none⟩ = some (.int .i64 x.kind) := by go_simp
    have p1 : (u.val.alloc (Obj.cells #[.int .i64 x.kind, .int .i64 x.a, .int .i64 x.b, .int .i64 x.c, .int .i64 x.n, .int .i64 x.m, .int .i64 x.idx, .int .i64 x.wid, .string x.name] 46)).cell? ⟨u.val.heap.size, 1, none⟩ = some (.int .i64 x.a) := by go_simp
    have p2 : (u.val.alloc (Obj.cells #[.int .i64 x.kind, .int .i64 x.a, .int .i64 x.b, .int .i64 x.c, .int .i64 x.n, .int .i64 x.m, .int .i64 x.idx, .int .i64 x.wid, .string x.name] 46)).cell? ⟨u.val.heap.size, 2, none⟩ = some (.int .i64 x.b) := by go_simp
    have p3 : (u.val.alloc (Obj.cells #[.int .i64 x.kind, .int .i64 x.a, .int .i64 x.b, .int .i64 x.c, .int .i64 x.n, .int .i64 x.m, .int .i64 x.idx, .int .i64 x.wid, .string x.name] 46)).cell? ⟨u.val.heap.size, 3, none⟩ = some (.int .i64 x.c) := by go_simp
    have p4 : (u.val.alloc (Obj.cells #[.int .i64 x.kind, .int .i64 x.a, .int .i64 x.b, .int .i64 x.c, .int .i64 x.n, .int .i64 x.m, .int .i64 x.idx, .int .i64 x.wid, .string x.name] 46)).cell? ⟨u.val.heap.size, 4, none⟩ = some (.int .i64 x.n) := by go_simp
    have p5 : (u.val.alloc (Obj.cells #[.int .i64 x.kind, .int .i64 x.a, .int .i64 x.b, .int .i64 x.c, .int .i64 x.n, .int .i64 x.m, .int .i64 x.idx, .int .i64 x.wid, .string x.name] 46)).cell? ⟨u.val.heap.size, 5, none⟩ = some (.int .i64 x.m) := by go_simp
    have p6 : (u.val.alloc (Obj.cells #[.int .i64 x.kind, .int .i64 x.a, .int .i64 x.b, .int .i64 x.c, .int .i64 x.n, .int .i64 x.m, .int .i64 x.idx, .int .i64 x.wid, .string x.name] 46)).cell? ⟨u.val.heap.size, 6, none⟩ = some (.int .i64 x.idx) := by go_simp
    have p7 : (u.val.alloc (Obj.cells #[.int .i64 x.kind, .int .i64 x.a, .int .i64 x.b, .int .i64 x.c, .int .i64 x.n, .int .i64 x.m, .int .i64 x.idx, .int .i64 x.wid, .string x.name] 46)).cell? ⟨u.val.heap.size, 7, none⟩ = some (.int .i64 x.wid) := by go_simp
    have p8 : (u.val.alloc (Obj.cells #[.int .i64 x.kind, .int .i64 x.a, .int .i64 x.b, .int .i64 x.c, .int .i64 x.n, .int .i64 x.m, .int .i64 x.idx, .int .i64 x.wid, .string x.name] 46)).cell? ⟨u.val.heap.size, 8, none⟩ = some (.string x.name) := by go_simp
    have hL5 : LaterC w1 (u.val.alloc (Obj.cells #[.int .i64 x.kind, .int .i64 x.a, .int .i64 x.b, .int .i64 x.c, .int .i64 x.n, .int .i64 x.m, .int .i64 x.idx, .int .i64 x.wid, .string x.name] 46)) := u.alloc _
    generalize (u.val.alloc (Obj.cells #[.int .i64 x.kind, .int .i64 x.a, .int .i64 x.b, .int .i64 x.c, .int .i64 x.n, .int .i64 x.m, .int .i64 x.idx, .int .i64 x.wid, .string x.name] 46)) = w5 at *
    generalize u.val.heap.size = GX at *
    have n0 := Later.re m0 hL5
    have HL5 := Lib.hid hL5
    have HB5 := Lib.hid (HB.out.trans (hL5.below.mono HB.out.size))
    have p0 := Later.cell p0
    have p1 := Later.cell p1
    have p2 := Later.cell p2
    have p3 := Later.cell p3
    have p4 := Later.cell p4
    have p5 := Later.cell p5
    have p6 := Later.cell p6
    have p7 := Later.cell p7
    have p8 := Later.cell p8
    have HQL := Lib.hid (show ∀ W, LaterC w5 W → W.cell? ⟨g0, 0, none⟩ = some (.slice (some ⟨g, o, none⟩) n c) ∧ W.cell? ⟨GX, 0, none⟩ = some (.int .i64 x.kind) ∧ W.cell? ⟨GX, 1, none⟩ = some (.int .i64 x.a) ∧ W.cell? ⟨GX, 2, none⟩ = some (.int .i64 x.b) ∧ W.cell? ⟨GX, 3, none⟩ = some (.int .i64 x.c) ∧ W.cell? ⟨GX, 4, none⟩ = some (.int .i64 x.n) ∧ W.cell? ⟨GX, 5, none⟩ = some (.int .i64 x.m) ∧ W.cell? ⟨GX, 6, none⟩ = some (.int .i64 x.idx) ∧ W.cell? ⟨GX, 7, none⟩ = some (.int .i64 x.wid) ∧ W.cell? ⟨GX, 8, none⟩ = some (.string x.name) from fun W h => by obtain ⟨v, rfl⟩ := h; exact ⟨n0 v, p0 v, p1 v, p2 v, p3 v, p4 v, p5 v, p6 v, p7 v, p8 v⟩)
    clear m0 q0 q1 q2 q3 q4 q5 q6 q7 q8 hL5
    refine at_world (w := w5) ?_
    intro u
    cases hr : sortN (ns.take k) x with
    | none =>
      have HV := Lib.hid (show retV (sortN (ns.take k) x) = .tuple #[.agg #[.int .i64 0, .int .i64 0], .bool false] by rw [hr]; rfl)
      have HR := Lib.hid (HNO.out k hlt (by rw [HNB.out, hr]; rfl))
      clear hto hr
      go_wp2
      go_region_held3 (fun w' => w'.cell? ⟨g0, 0, none⟩ = some (.slice (some ⟨g, o, none⟩) n c) ∧ w'.cell? ⟨GX, 0, none⟩ = some (.int .i64 x.kind) ∧ w'.cell? ⟨GX, 1, none⟩ = some (.int .i64 x.a) ∧ w'.cell? ⟨GX, 2, none⟩ = some (.int .i64 x.b) ∧ w'.cell? ⟨GX, 3, none⟩ = some (.int .i64 x.c) ∧ w'.cell? ⟨GX, 4, none⟩ = some (.int .i64 x.n) ∧ w'.cell? ⟨GX, 5, none⟩ = some (.int .i64 x.m) ∧ w'.cell? ⟨GX, 6, none⟩ = some (.int .i64 x.idx) ∧ w'.cell? ⟨GX, 7, none⟩ = some (.int .i64 x.wid) ∧ w'.cell? ⟨GX, 8, none⟩ = some (.string x.name)) ((refine HQL.out _ ?_; repeat (first | exact ⟨_, rfl⟩ | refine LaterC.drew' ?_ | refine LaterC.alloc' ?_ _ | exact LaterC.setCell' (LaterC.alloc' ⟨_, rfl⟩ _) _ _ (Later.size _) | refine LaterC.setCell' ?_ _ _ (by first | exact Later.size _ | (simp; exact Later.size _))))) (first | (go_at_call 80; refine (NodeSort'_calls _ (ns.take k) x _ (HSL.out.below (below_of HB5.out (by repeat (first | exact ⟨_, rfl⟩ | refine LaterC.drew' ?_ | refine LaterC.alloc' ?_ _ | exact LaterC.setCell' (LaterC.alloc' ⟨_, rfl⟩ _) _ _ (Later.size _) | refine LaterC.setCell' ?_ _ _ (by first | exact Later.size _ | (simp; exact Later.size _)))))) HSZ.out).mono ?_; rintro e w' ⟨rfl, hbel⟩; rw [HV.out]; have bx0 := keepcell hbel (a := ⟨u.val.heap.size, 0, none⟩) (v := .int .i64 0); have bx1 := keepcell hbel (a := ⟨u.val.heap.size, 1, none⟩) (v := .int .i64 0); have bf0 := keepfrozen hbel (a := ⟨u.val.heap.size, 0, none⟩) (v := .int .i64 0); have bf1 := keepfrozen hbel (a := ⟨u.val.heap.size, 1, none⟩) (v := .int .i64 0); obtain ⟨u2, hu2⟩ := laterC_step (w1 := w5) (by repeat (first | exact ⟨_, rfl⟩ | refine LaterC.drew' ?_ | refine LaterC.alloc' ?_ _ | exact LaterC.setCell' (LaterC.alloc' ⟨_, rfl⟩ _) _ _ (Later.size _) | refine LaterC.setCell' ?_ _ _ (by first | exact Later.size _ | (simp; exact Later.size _)))) hbel; subst hu2; clear hbel))
      · have e0 : (u2.val.alloc (Obj.cells #[.int .i64 0, .int .i64 0] 44)).cell? ⟨u2.val.heap.size, 0, none⟩ = some (.int .i64 0) := by go_simp
        have e1 : (u2.val.alloc (Obj.cells #[.int .i64 0, .int .i64 0] 44)).cell? ⟨u2.val.heap.size, 1, none⟩ = some (.int .i64 0) := by go_simp
        have hL : LaterC w5 (u2.val.alloc (Obj.cells #[.int .i64 0, .int .i64 0] 44)) := by repeat (first | exact ⟨_, rfl⟩ | refine LaterC.drew' ?_ | refine LaterC.alloc' ?_ _ | exact LaterC.setCell' (LaterC.alloc' ⟨_, rfl⟩ _) _ _ (Later.size _) | refine LaterC.setCell' ?_ _ _ (by first | exact Later.size _ | (simp; exact Later.size _)))
        try clear bx0 bx1 bf0 bf1
        generalize (u2.val.alloc (Obj.cells #[.int .i64 0, .int .i64 0] 44)) = w4 at *
        generalize u2.val.heap.size = G at *
        have HL := Lib.hid hL
        have n0 := Later.re n0 hL
        have n6 := Later.re p6 hL
        have n7 := Later.re p7 hL
        have e0 := Later.cell e0
        have e1 := Later.cell e1
        clear p0 p1 p2 p3 p4 p5 p6 p7 p8 hL
        refine at_world (w := w4) ?_
        intro u3
        go_wp2
        go_ret
        exact ⟨ret_eq (congrArg Value.bool HR.out.symm), HB.out.trans (((HL5.out.trans HL.out).trans ⟨u3, rfl⟩).below.mono HB.out.size)⟩
      · have e0 : ((u2.val.setCell ⟨u.val.heap.size, 0, none⟩ (.int .i64 0)).setCell ⟨u.val.heap.size, 1, none⟩ (.int .i64 0)).cell? ⟨u.val.heap.size, 0, none⟩ = some (.int .i64 0) := (World.cell?_setCell_other _ _ _ _ (by intro e; simp only [Addr.mk.injEq] at e; omega)).trans (World.cell?_setCell_same _ _ _ (bx0 (by go_simp)))
        have e1 : ((u2.val.setCell ⟨u.val.heap.size, 0, none⟩ (.int .i64 0)).setCell ⟨u.val.heap.size, 1, none⟩ (.int .i64 0)).cell? ⟨u.val.heap.size, 1, none⟩ = some (.int .i64 0) := World.cell?_setCell_same _ _ _ ((World.cell?_setCell_other _ _ _ _ (by intro e; simp only [Addr.mk.injEq] at e; omega)).trans (bx1 (by go_simp)))
        have hL : LaterC w5 ((u2.val.setCell ⟨u.val.heap.size, 0, none⟩ (.int .i64 0)).setCell ⟨u.val.heap.size, 1, none⟩ (.int .i64 0)) := by repeat (first | exact ⟨_, rfl⟩ | refine LaterC.drew' ?_ | refine LaterC.alloc' ?_ _ | exact LaterC.setCell' (LaterC.alloc' ⟨_, rfl⟩ _) _ _ (Later.size _) | refine LaterC.setCell' ?_ _ _ (by first | exact Later.size _ | (simp; exact Later.size _)))
        try clear bx0 bx1 bf0 bf1
        generalize ((u2.val.setCell ⟨u.val.heap.size, 0, none⟩ (.int .i64 0)).setCell ⟨u.val.heap.size, 1, none⟩ (.int .i64 0)) = w4 at *
        generalize u.val.heap.size = G at *
        have HL := Lib.hid hL
        have n0 := Later.re n0 hL
        have n6 := Later.re p6 hL
        have n7 := Later.re p7 hL
        have e0 := Later.cell e0
        have e1 := Later.cell e1
        clear p0 p1 p2 p3 p4 p5 p6 p7 p8 hL
        refine at_world (w := w4) ?_
        intro u3
        go_wp2
        go_ret
        exact ⟨ret_eq (congrArg Value.bool HR.out.symm), HB.out.trans (((HL5.out.trans HL.out).trans ⟨u3, rfl⟩).below.mono HB.out.size)⟩
    | some p =>
      obtain ⟨pi, pa⟩ := p
      have HV := Lib.hid (show retV (sortN (ns.take k) x) = .tuple #[.agg #[.int .i64 pi, .int .i64 pa], .bool true] by rw [hr]; rfl)
      by_cases he : (pi == x.idx && (pa == x.wid)) = true
      · have HTO := Lib.hid (show ∀ j, j < k + 1 → nodeB ns j = true from fun j hj => by
         rcases Nat.lt_or_ge j k with g | g
         · exact hto.out j g
         · obtain rfl : j = k := by omega
           rw [HNB.out, hr]
           simp only [Bool.and_eq_true, beq_iff_eq] at he
           rw [he.1, he.2]
           exact decide_eq_true rfl)
        clear hto hr
        go_wp2
        go_region_held3 (fun w' => w'.cell? ⟨g0, 0, none⟩ = some (.slice (some ⟨g, o, none⟩) n c) ∧ w'.cell? ⟨GX, 0, none⟩ = some (.int .i64 x.kind) ∧ w'.cell? ⟨GX, 1, none⟩ = some (.int .i64 x.a) ∧ w'.cell? ⟨GX, 2, none⟩ = some (.int .i64 x.b) ∧ w'.cell? ⟨GX, 3, none⟩ = some (.int .i64 x.c) ∧ w'.cell? ⟨GX, 4, none⟩ = some (.int .i64 x.n) ∧ w'.cell? ⟨GX, 5, none⟩ = some (.int .i64 x.m) ∧ w'.cell? ⟨GX, 6, none⟩ = some (.int .i64 x.idx) ∧ w'.cell? ⟨GX, 7, none⟩ = some (.int .i64 x.wid) ∧ w'.cell? ⟨GX, 8, none⟩ = some (.string x.name)) ((refine HQL.out _ ?_; repeat (first | exact ⟨_, rfl⟩ | refine LaterC.drew' ?_ | refine LaterC.alloc' ?_ _ | exact LaterC.setCell' (LaterC.alloc' ⟨_, rfl⟩ _) _ _ (Later.size _) | refine LaterC.setCell' ?_ _ _ (by first | exact Later.size _ | (simp; exact Later.size _))))) (first | (go_at_call 80; refine (NodeSort'_calls _ (ns.take k) x _ (HSL.out.below (below_of HB5.out (by repeat (first | exact ⟨_, rfl⟩ | refine LaterC.drew' ?_ | refine LaterC.alloc' ?_ _ | exact LaterC.setCell' (LaterC.alloc' ⟨_, rfl⟩ _) _ _ (Later.size _) | refine LaterC.setCell' ?_ _ _ (by first | exact Later.size _ | (simp; exact Later.size _)))))) HSZ.out).mono ?_; rintro e w' ⟨rfl, hbel⟩; rw [HV.out]; have bx0 := keepcell hbel (a := ⟨u.val.heap.size, 0, none⟩) (v := .int .i64 0); have bx1 := keepcell hbel (a := ⟨u.val.heap.size, 1, none⟩) (v := .int .i64 0); have bf0 := keepfrozen hbel (a := ⟨u.val.heap.size, 0, none⟩) (v := .int .i64 0); have bf1 := keepfrozen hbel (a := ⟨u.val.heap.size, 1, none⟩) (v := .int .i64 0); obtain ⟨u2, hu2⟩ := laterC_step (w1 := w5) (by repeat (first | exact ⟨_, rfl⟩ | refine LaterC.drew' ?_ | refine LaterC.alloc' ?_ _ | exact LaterC.setCell' (LaterC.alloc' ⟨_, rfl⟩ _) _ _ (Later.size _) | refine LaterC.setCell' ?_ _ _ (by first | exact Later.size _ | (simp; exact Later.size _)))) hbel; subst hu2; clear hbel))
        · have e0 : (u2.val.alloc (Obj.cells #[.int .i64 pi, .int .i64 pa] 44)).cell? ⟨u2.val.heap.size, 0, none⟩ = some (.int .i64 pi) := by go_simp
          have e1 : (u2.val.alloc (Obj.cells #[.int .i64 pi, .int .i64 pa] 44)).cell? ⟨u2.val.heap.size, 1, none⟩ = some (.int .i64 pa) := by go_simp
          have hL : LaterC w5 (u2.val.alloc (Obj.cells #[.int .i64 pi, .int .i64 pa] 44)) := by repeat (first | exact ⟨_, rfl⟩ | refine LaterC.drew' ?_ | refine LaterC.alloc' ?_ _ | exact LaterC.setCell' (LaterC.alloc' ⟨_, rfl⟩ _) _ _ (Later.size _) | refine LaterC.setCell' ?_ _ _ (by first | exact Later.size _ | (simp; exact Later.size _)))
          try clear bx0 bx1 bf0 bf1
          generalize (u2.val.alloc (Obj.cells #[.int .i64 pi, .int .i64 pa] 44)) = w4 at *
          generalize u2.val.heap.size = G at *
          have HL := Lib.hid hL
          have n0 := Later.re n0 hL
          have n6 := Later.re p6 hL
          have n7 := Later.re p7 hL
          have e0 := Later.cell e0
          have e1 := Later.cell e1
          clear p0 p1 p2 p3 p4 p5 p6 p7 p8 hL
          refine at_world (w := w4) ?_
          intro u3
          go_wp2
          go_roundw
          case rel => exact ⟨k + 1, by omega, by go_num, HTO, (HL5.out.trans HL.out).trans ⟨u3, rfl⟩⟩
          case measure => simp [intOf] <;> omega
        · have e0 : ((u2.val.setCell ⟨u.val.heap.size, 0, none⟩ (.int .i64 pi)).setCell ⟨u.val.heap.size, 1, none⟩ (.int .i64 pa)).cell? ⟨u.val.heap.size, 0, none⟩ = some (.int .i64 pi) := (World.cell?_setCell_other _ _ _ _ (by intro e; simp only [Addr.mk.injEq] at e; omega)).trans (World.cell?_setCell_same _ _ _ (bx0 (by go_simp)))
          have e1 : ((u2.val.setCell ⟨u.val.heap.size, 0, none⟩ (.int .i64 pi)).setCell ⟨u.val.heap.size, 1, none⟩ (.int .i64 pa)).cell? ⟨u.val.heap.size, 1, none⟩ = some (.int .i64 pa) := World.cell?_setCell_same _ _ _ ((World.cell?_setCell_other _ _ _ _ (by intro e; simp only [Addr.mk.injEq] at e; omega)).trans (bx1 (by go_simp)))
          have hL : LaterC w5 ((u2.val.setCell ⟨u.val.heap.size, 0, none⟩ (.int .i64 pi)).setCell ⟨u.val.heap.size, 1, none⟩ (.int .i64 pa)) := by repeat (first | exact ⟨_, rfl⟩ | refine LaterC.drew' ?_ | refine LaterC.alloc' ?_ _ | exact LaterC.setCell' (LaterC.alloc' ⟨_, rfl⟩ _) _ _ (Later.size _) | refine LaterC.setCell' ?_ _ _ (by first | exact Later.size _ | (simp; exact Later.size _)))
          try clear bx0 bx1 bf0 bf1
          generalize ((u2.val.setCell ⟨u.val.heap.size, 0, none⟩ (.int .i64 pi)).setCell ⟨u.val.heap.size, 1, none⟩ (.int .i64 pa)) = w4 at *
          generalize u.val.heap.size = G at *
          have HL := Lib.hid hL
          have n0 := Later.re n0 hL
          have n6 := Later.re p6 hL
          have n7 := Later.re p7 hL
          have e0 := Later.cell e0
          have e1 := Later.cell e1
          clear p0 p1 p2 p3 p4 p5 p6 p7 p8 hL
          refine at_world (w := w4) ?_
          intro u3
          go_wp2
          go_roundw
          case rel => exact ⟨k + 1, by omega, by go_num, HTO, (HL5.out.trans HL.out).trans ⟨u3, rfl⟩⟩
          case measure => simp [intOf] <;> omega
      · have he := eq_false_of_ne_true he
        have HR := Lib.hid (HNO.out k hlt (by
         rw [HNB.out, hr]
         refine decide_eq_false (fun h => ?_)
         cases h
         simp at he))
        clear hto hr
        go_wp2
        go_region_held3 (fun w' => w'.cell? ⟨g0, 0, none⟩ = some (.slice (some ⟨g, o, none⟩) n c) ∧ w'.cell? ⟨GX, 0, none⟩ = some (.int .i64 x.kind) ∧ w'.cell? ⟨GX, 1, none⟩ = some (.int .i64 x.a) ∧ w'.cell? ⟨GX, 2, none⟩ = some (.int .i64 x.b) ∧ w'.cell? ⟨GX, 3, none⟩ = some (.int .i64 x.c) ∧ w'.cell? ⟨GX, 4, none⟩ = some (.int .i64 x.n) ∧ w'.cell? ⟨GX, 5, none⟩ = some (.int .i64 x.m) ∧ w'.cell? ⟨GX, 6, none⟩ = some (.int .i64 x.idx) ∧ w'.cell? ⟨GX, 7, none⟩ = some (.int .i64 x.wid) ∧ w'.cell? ⟨GX, 8, none⟩ = some (.string x.name)) ((refine HQL.out _ ?_; repeat (first | exact ⟨_, rfl⟩ | refine LaterC.drew' ?_ | refine LaterC.alloc' ?_ _ | exact LaterC.setCell' (LaterC.alloc' ⟨_, rfl⟩ _) _ _ (Later.size _) | refine LaterC.setCell' ?_ _ _ (by first | exact Later.size _ | (simp; exact Later.size _))))) (first | (go_at_call 80; refine (NodeSort'_calls _ (ns.take k) x _ (HSL.out.below (below_of HB5.out (by repeat (first | exact ⟨_, rfl⟩ | refine LaterC.drew' ?_ | refine LaterC.alloc' ?_ _ | exact LaterC.setCell' (LaterC.alloc' ⟨_, rfl⟩ _) _ _ (Later.size _) | refine LaterC.setCell' ?_ _ _ (by first | exact Later.size _ | (simp; exact Later.size _)))))) HSZ.out).mono ?_; rintro e w' ⟨rfl, hbel⟩; rw [HV.out]; have bx0 := keepcell hbel (a := ⟨u.val.heap.size, 0, none⟩) (v := .int .i64 0); have bx1 := keepcell hbel (a := ⟨u.val.heap.size, 1, none⟩) (v := .int .i64 0); have bf0 := keepfrozen hbel (a := ⟨u.val.heap.size, 0, none⟩) (v := .int .i64 0); have bf1 := keepfrozen hbel (a := ⟨u.val.heap.size, 1, none⟩) (v := .int .i64 0); obtain ⟨u2, hu2⟩ := laterC_step (w1 := w5) (by repeat (first | exact ⟨_, rfl⟩ | refine LaterC.drew' ?_ | refine LaterC.alloc' ?_ _ | exact LaterC.setCell' (LaterC.alloc' ⟨_, rfl⟩ _) _ _ (Later.size _) | refine LaterC.setCell' ?_ _ _ (by first | exact Later.size _ | (simp; exact Later.size _)))) hbel; subst hu2; clear hbel))
        · have e0 : (u2.val.alloc (Obj.cells #[.int .i64 pi, .int .i64 pa] 44)).cell? ⟨u2.val.heap.size, 0, none⟩ = some (.int .i64 pi) := by go_simp
          have e1 : (u2.val.alloc (Obj.cells #[.int .i64 pi, .int .i64 pa] 44)).cell? ⟨u2.val.heap.size, 1, none⟩ = some (.int .i64 pa) := by go_simp
          have hL : LaterC w5 (u2.val.alloc (Obj.cells #[.int .i64 pi, .int .i64 pa] 44)) := by repeat (first | exact ⟨_, rfl⟩ | refine LaterC.drew' ?_ | refine LaterC.alloc' ?_ _ | exact LaterC.setCell' (LaterC.alloc' ⟨_, rfl⟩ _) _ _ (Later.size _) | refine LaterC.setCell' ?_ _ _ (by first | exact Later.size _ | (simp; exact Later.size _)))
          try clear bx0 bx1 bf0 bf1
          generalize (u2.val.alloc (Obj.cells #[.int .i64 pi, .int .i64 pa] 44)) = w4 at *
          generalize u2.val.heap.size = G at *
          have HL := Lib.hid hL
          have n0 := Later.re n0 hL
          have n6 := Later.re p6 hL
          have n7 := Later.re p7 hL
          have e0 := Later.cell e0
          have e1 := Later.cell e1
          clear p0 p1 p2 p3 p4 p5 p6 p7 p8 hL
          refine at_world (w := w4) ?_
          intro u3
          go_wp2
          go_ret
          exact ⟨ret_eq (congrArg Value.bool HR.out.symm), HB.out.trans (((HL5.out.trans HL.out).trans ⟨u3, rfl⟩).below.mono HB.out.size)⟩
        · have e0 : ((u2.val.setCell ⟨u.val.heap.size, 0, none⟩ (.int .i64 pi)).setCell ⟨u.val.heap.size, 1, none⟩ (.int .i64 pa)).cell? ⟨u.val.heap.size, 0, none⟩ = some (.int .i64 pi) := (World.cell?_setCell_other _ _ _ _ (by intro e; simp only [Addr.mk.injEq] at e; omega)).trans (World.cell?_setCell_same _ _ _ (bx0 (by go_simp)))
          have e1 : ((u2.val.setCell ⟨u.val.heap.size, 0, none⟩ (.int .i64 pi)).setCell ⟨u.val.heap.size, 1, none⟩ (.int .i64 pa)).cell? ⟨u.val.heap.size, 1, none⟩ = some (.int .i64 pa) := World.cell?_setCell_same _ _ _ ((World.cell?_setCell_other _ _ _ _ (by intro e; simp only [Addr.mk.injEq] at e; omega)).trans (bx1 (by go_simp)))
          have hL : LaterC w5 ((u2.val.setCell ⟨u.val.heap.size, 0, none⟩ (.int .i64 pi)).setCell ⟨u.val.heap.size, 1, none⟩ (.int .i64 pa)) := by repeat (first | exact ⟨_, rfl⟩ | refine LaterC.drew' ?_ | refine LaterC.alloc' ?_ _ | exact LaterC.setCell' (LaterC.alloc' ⟨_, rfl⟩ _) _ _ (Later.size _) | refine LaterC.setCell' ?_ _ _ (by first | exact Later.size _ | (simp; exact Later.size _)))
          try clear bx0 bx1 bf0 bf1
          generalize ((u2.val.setCell ⟨u.val.heap.size, 0, none⟩ (.int .i64 pi)).setCell ⟨u.val.heap.size, 1, none⟩ (.int .i64 pa)) = w4 at *
          generalize u.val.heap.size = G at *
          have HL := Lib.hid hL
          have n0 := Later.re n0 hL
          have n6 := Later.re p6 hL
          have n7 := Later.re p7 hL
          have e0 := Later.cell e0
          have e1 := Later.cell e1
          clear p0 p1 p2 p3 p4 p5 p6 p7 p8 hL
          refine at_world (w := w4) ?_
          intro u3
          go_wp2
          go_ret
          exact ⟨ret_eq (congrArg Value.bool HR.out.symm), HB.out.trans (((HL5.out.trans HL.out).trans ⟨u3, rfl⟩).below.mono HB.out.size)⟩
  · obtain rfl : k = n := by omega
    have HR := Lib.hid (HYES.out hto.out)
    clear hto hA
    go_wp2
    go_ret
    exact ⟨ret_eq (congrArg Value.bool HR.out.symm), u.back HB.out⟩
end Go.Proofs.YtdojaijnejcoiaaGreat
namespace Go.Proofs.YtdojaijnejcoiaaGreat
open Go.RowKit
def MadeP (ns : List Nd) (i : Nat) : Prop := ∃ j, Reach ns i j ∧ kindB ns j = true
theorem made_step {ns : List Nd} {i : Nat} : MadeP ns i ↔ kindB ns i = true ∨ ∃ p, IsPart ns i p ∧ MadeP ns p := by
 constructor
 · rintro ⟨j, h, hk⟩
   rcases h.cases_head with rfl | ⟨p, hp, hr⟩
   · exact .inl hk
   · exact .inr ⟨p, hp, j, hr, hk⟩
 · rintro (h | ⟨p, hp, j, hr, hk⟩)
   · exact ⟨i, .self, h⟩
   · exact ⟨j, hr.head hp, hk⟩
theorem fixed_made {ns : List Nd} {a : Nat} : fixedB ns a = true ↔ ¬ MadeP ns a := by
 have : fixedB ns a = true ↔ Fixed ns a := by simp [fixedB]
 rw [this]
 constructor
 · rintro h ⟨j, hr, hk⟩
   rw [h j hr] at hk; cases hk
 · intro h j hr
   exact eq_false_of_ne_true (fun hk => h ⟨j, hr, hk⟩)
theorem BoolsAt.setV {cs : Array Value} {n i : Nat} {T T' : Nat → Prop} (h : BoolsAt cs n T) (v : Bool) (ho : ∀ j, j ≠ i → (T' j ↔ T j)) (hi : v = true ↔ T' i) : BoolsAt (cs.setIfInBounds i (.bool v)) n T' := by
 refine ⟨by simp [h.1], fun j hj => ?_⟩
 by_cases e : j = i
 · subst e
   exact ⟨v, by rw [Array.getElem?_setIfInBounds_self_of_lt (by rw [h.1]; exact hj)], hi⟩
 · obtain ⟨u, h1, h2⟩ := h.2 j hj
   exact ⟨u, by rw [Array.getElem?_setIfInBounds_ne (fun h => e h.symm)]; exact h1, h2.trans (ho j e).symm⟩
theorem kind_in (ns : List Nd) (k : Nat) : inB (ns.getD k Nd.zero).kind 35 36 = kindB ns k := by
 rw [in3536]; unfold kindB; rw [Bool.or_comm]
theorem made_calls (mv : Value) (M : Md) (w : World) (hM : MdAt w mv M) (hd : Down M.nodes M.nodes.length) (hpos : ∀ x, x ∈ M.nodes → 0 ≤ partsN x.kind) :
 Calls Tryz.prog 51 #[mv] w fun e w' => ∃ g cs, e = .returned (.slice (some ⟨g, 0, none⟩) M.nodes.length M.nodes.length) ∧ Below w.heap.size w w' ∧ w.heap.size ≤ g ∧ OwnB w' g 4 cs ∧ BoolsAt cs M.nodes.length (MadeP M.nodes) := by
 obtain ⟨s0, s1, s2, s3, s4, rfl, hS, -, -, -, -⟩ := hM.at_
 obtain ⟨A, c, rfl, hnc, hc', hA⟩ := hS
 clear hM
 generalize M.nodes = ns at *
 generalize hN : ns.length = n at *
 have HN := Lib.hid hN
 have HD := Lib.hid hd
 have HPOS := Lib.hid hpos
 have hn : n ≤ 281474976710656 := Nat.le_trans hnc hc'
 clear hN hd hc' hnc hpos
 have hmk := make_any (P := Tryz.prog) 41 4 (.bool false) 1 1 Tryz.underlying41 (by kernel_rfl) n (by omega) (by omega)
 simp only [Value.cells, Nat.mul_one] at hmk
 go_enter Tryz.func51, Tryz.ntmps51
 have HB1 := Lib.hid (box_below w #[.slice A n c, s1, s2, s3, s4] 31)
 have m0 := box_cell w #[.slice A n c, s1, s2, s3, s4] 31 0 _ rfl
 have m0 : ∀ u : Later (w.alloc (.cells #[.slice A n c, s1, s2, s3, s4] 31)), u.val.cell? ⟨w.heap.size, 0, none⟩ = some (.slice A n c) := m0
 have hsz1 : (w.alloc (.cells #[.slice A n c, s1, s2, s3, s4] 31)).heap.size = w.heap.size + 1 := by simp
 go_upto_region 1 with fail
 generalize w.alloc (.cells #[.slice A n c, s1, s2, s3, s4] 31) = w1 at *
 refine at_world (w := w1) ?_
 intro u0
 go_upto_region 2 with fail
 have HO := Lib.hid (OwnB.new u0.val 4 (madeCells #[.bool false] n))
 have HT := Lib.hid ((BoolsAt.made n).congr (T' := fun j => j < 0 ∧ MadeP ns j) (fun j => by simp))
 have hL2 : LaterC w1 (u0.val.alloc (.cells (madeCells #[.bool false] n) 4)) := u0.alloc _
 have hgo : w1.heap.size ≤ u0.val.heap.size := u0.size
 clear hmk
 generalize madeCells #[.bool false] n = cs0 at *
 generalize u0.val.alloc (.cells cs0 4) = w2 at *
 generalize u0.val.heap.size = GO at *
 obtain ⟨v2, rfl⟩ := hL2
 clear u0
 go_wp2
 go_loopw [15] (fun i wr => ∃ k : Nat, k ≤ n ∧ i = .int .i64 k ∧ ∃ cs : Array Value, Hid (OwnB wr GO 4 cs ∧ BoolsAt cs n (fun j => j < k ∧ MadeP ns j)) ∧ LaterC w1 wr) (fun i _ => n - (intOf i).toNat)
 case atStart => exact ⟨0, Nat.zero_le _, rfl, cs0, Lib.hid ⟨HO.out, HT.out⟩, ⟨v2, rfl⟩⟩
 case round =>
  obtain ⟨k, hk, rfl, cs, HI, ⟨u, rfl⟩⟩ := hrel
  by_cases hlt : k < n
  · have hlt' : (k : Int) < n := by omega
    obtain ⟨g, o, rfl, hx⟩ := hA k _ (getD_at (by rw [HN.out]; exact hlt) Nd.zero)
    have hpx := HPOS.out _ (List.mem_of_getElem? (getD_at (by rw [HN.out]; exact hlt) Nd.zero))
    have hkin := kind_in ns k
    have hdk := HD.out k hlt
    have hst := made_step (ns := ns) (i := k)
    have hisp : ∀ p, IsPart ns k p ↔ ∃ m : Nat, m < 3 ∧ (m : Int) < partsN (ns.getD k Nd.zero).kind ∧ (ns.getD k Nd.zero).part m = p := fun p => Iff.rfl
    generalize ns.getD k Nd.zero = x at *
    have q0 : ∀ l : Later w1, l.val.cell? ⟨g, o + k * 9, none⟩ = some (.int .i64 x.kind) := hx.at_ HB1.out 0 _ rfl
    have q1 : ∀ l : Later w1, l.val.cell? ⟨g, o + k * 9 + 1, none⟩ = some (.int .i64 x.a) := hx.at_ HB1.out 1 _ rfl
    have q2 : ∀ l : Later w1, l.val.cell? ⟨g, o + k * 9 + 2, none⟩ = some (.int .i64 x.b) := hx.at_ HB1.out 2 _ rfl
    have q3 : ∀ l : Later w1, l.val.cell? ⟨g, o + k * 9 + 3, none⟩ = some (.int .i64 x.c) := hx.at_ HB1.out 3 _ rfl
    have q4 : ∀ l : Later w1, l.val.cell? ⟨g, o + k * 9 + 4, none⟩ = some (.int .i64 x.n) := hx.at_ HB1.out 4 _ rfl
    have q5 : ∀ l : Later w1, l.val.cell? ⟨g, o + k * 9 + 5, none⟩ = some (.int .i64 x.m) := hx.at_ HB1.out 5 _ rfl
    have q6 : ∀ l : Later w1, l.val.cell? ⟨g, o + k * 9 + 6, none⟩ = some (.int .i64 x.idx) := hx.at_ HB1.out 6 _ rfl
    have q7 : ∀ l : Later w1, l.val.cell? ⟨g, o + k * 9 + 7, none⟩ = some (.int .i64 x.wid) := hx.at_ HB1.out 7 _ rfl
    have q8 : ∀ l : Later w1, l.val.cell? ⟨g, o + k * 9 + 8, none⟩ = some (.string x.name) := hx.at_ HB1.out 8 _ rfl
    obtain ⟨pk, hpk⟩ := Int.eq_ofNat_of_zero_le hpx
    have hpk3 : pk ≤ 3 := by have := partsN_le x.kind; omega
    have hpk3' : (pk : Int) ≤ 3 := by omega
    have HPN := Lib.hid hpk
    have HDK := Lib.hid hdk
    have HST := Lib.hid hst
    have HISP := Lib.hid hisp
    have HKIN := Lib.hid hkin
    obtain ⟨vb, hvb, -⟩ := HI.out.2.2 k hlt
    have hgoc : u.val.cell? ⟨GO, k, none⟩ = some (.bool vb) := (HI.out.1.cell k).trans hvb
    have hgof : u.val.frozen? ⟨GO, k, none⟩ = false := HI.out.1.frozen k
    have hgolt : GO < u.val.heap.size := HI.out.1.lt
    have hgone : ¬ GO = u.val.heap.size := by omega
    clear hx hA hpx hkin hdk hst hisp hpk hvb
    go_upto_region 6 with (go_at_call 81; refine (named_same _ _).mono ?_; rintro e w' ⟨rfl, rfl⟩)
    have x0 : ((u.val.setCell ⟨GO, k, none⟩ (.bool (inB x.kind 35 36))).alloc (Obj.cells #[.int .i64 x.kind, .int .i64 x.a, .int .i64 x.b, .int .i64 x.c, .int .i64 x.n, .int .i64 x.m, .int .i64 x.idx, .int .i64 x.wid, .string x.name] 46)).cell? ⟨u.val.heap.size, 0, none⟩ = some (.int .i64 x.kind) := by go_simp
    have x1 : ((u.val.setCell ⟨GO, k, none⟩ (.bool (inB x.kind 35 36))).alloc (Obj.cells #[.int .i64 x.kind, .int .i64 x.a, .int .i64 x.b, .int .i64 x.c, .int .i64 x.n, .int .i64 x.m, .int .i64 x.idx, .int .i64 x.wid, .string x.name] 46)).cell? ⟨u.val.heap.size, 1, none⟩ = some (.int .i64 x.a) := by go_simp
    have x2 : ((u.val.setCell ⟨GO, k, none⟩ (.bool (inB x.kind 35 36))).alloc (Obj.cells #[.int .i64 x.kind, .int .i64 x.a, .int .i64 x.b, .int .i64 x.c, .int .i64 x.n, .int .i64 x.m, .int .i64 x.idx, .int .i64 x.wid, .string x.name] 46)).cell? ⟨u.val.heap.size, 2, none⟩ = some (.int .i64 x.b) := by go_simp
    have x3 : ((u.val.setCell ⟨GO, k, none⟩ (.bool (inB x.kind 35 36))).alloc (Obj.cells #[.int .i64 x.kind, .int .i64 x.a, .int .i64 x.b, .int .i64 x.c, .int .i64 x.n, .int .i64 x.m, .int .i64 x.idx, .int .i64 x.wid, .string x.name] 46)).cell? ⟨u.val.heap.size, 3, none⟩ = some (.int .i64 x.c) := by go_simp
    have hO5 : OwnB ((u.val.setCell ⟨GO, k, none⟩ (.bool (inB x.kind 35 36))).alloc (Obj.cells #[.int .i64 x.kind, .int .i64 x.a, .int .i64 x.b, .int .i64 x.c, .int .i64 x.n, .int .i64 x.m, .int .i64 x.idx, .int .i64 x.wid, .string x.name] 46)) GO 4 (cs.setIfInBounds k (.bool (inB x.kind 35 36))) := (HI.out.1.set k _).below (box_below _ _ _) (HI.out.1.set k (.bool (inB x.kind 35 36))).lt
    have hL5 : LaterC w1 ((u.val.setCell ⟨GO, k, none⟩ (.bool (inB x.kind 35 36))).alloc (Obj.cells #[.int .i64 x.kind, .int .i64 x.a, .int .i64 x.b, .int .i64 x.c, .int .i64 x.n, .int .i64 x.m, .int .i64 x.idx, .int .i64 x.wid, .string x.name] 46)) := LaterC.alloc' (LaterC.setCell' ⟨u, rfl⟩ _ _ hgo) _
    have hB5 : BoolsAt (cs.setIfInBounds k (.bool (inB x.kind 35 36))) n (fun j => (j < k ∧ MadeP ns j) ∨ (j = k ∧ (kindB ns k = true ∨ ∃ m' : Nat, m' < 0 ∧ MadeP ns (x.part m').toNat))) := HI.out.2.setV _ (fun j hj => by
     constructor
     · rintro (h | ⟨h, -⟩)
       · exact h
       · exact absurd h hj
     · exact fun h => .inl h) (by
     rw [HKIN.out]
     constructor
     · exact fun h => .inr ⟨rfl, .inl h⟩
     · rintro (⟨h, -⟩ | ⟨-, h | ⟨m', h, -⟩⟩)
       · omega
       · exact h
       · omega)
    generalize cs.setIfInBounds k (.bool (inB x.kind 35 36)) = cs5 at *
    generalize ((u.val.setCell ⟨GO, k, none⟩ (.bool (inB x.kind 35 36))).alloc (Obj.cells #[.int .i64 x.kind, .int .i64 x.a, .int .i64 x.b, .int .i64 x.c, .int .i64 x.n, .int .i64 x.m, .int .i64 x.idx, .int .i64 x.wid, .string x.name] 46)) = w5 at *
    generalize u.val.heap.size = GX at *
    have HO5 := Lib.hid hO5
    have HB5 := Lib.hid hB5
    have HL5 := Lib.hid hL5
    have x0 := Later.cell x0
    have x1 := Later.cell x1
    have x2 := Later.cell x2
    have x3 := Later.cell x3
    clear hO5 hB5 hL5 hgoc hgof hgolt hgone HI
    have HQ := Lib.hid (show ∀ W, LaterC w5 W → W.cell? ⟨GX, 0, none⟩ = some (.int .i64 x.kind) ∧ W.cell? ⟨GX, 1, none⟩ = some (.int .i64 x.a) ∧ W.cell? ⟨GX, 2, none⟩ = some (.int .i64 x.b) ∧ W.cell? ⟨GX, 3, none⟩ = some (.int .i64 x.c) from fun W h => by obtain ⟨v, rfl⟩ := h; exact ⟨x0 v, x1 v, x2 v, x3 v⟩)
    go_cut [36, 37, 38] (fun s l i wx => s = .slice (some ⟨w5.heap.size, 0, none⟩) pk 3 ∧ l = .int .i64 pk ∧ i = .int .i64 0 ∧ wx = (w5.alloc (Obj.cells #[.int .i64 x.a, .int .i64 x.b, .int .i64 x.c] 3)).drew)
    case first =>
     go_region_held3 (fun w' => w'.cell? ⟨GX, 0, none⟩ = some (.int .i64 x.kind) ∧ w'.cell? ⟨GX, 1, none⟩ = some (.int .i64 x.a) ∧ w'.cell? ⟨GX, 2, none⟩ = some (.int .i64 x.b) ∧ w'.cell? ⟨GX, 3, none⟩ = some (.int .i64 x.c)) ((refine HQ.out _ ?_; repeat (first | exact LaterC.refl _ | refine LaterC.drew' ?_ | refine LaterC.alloc' ?_ _))) (first | (go_at_call 63; refine (parts_same _ _).mono ?_; rintro e w' ⟨rfl, rfl⟩; rw [HPN.out]))
     all_goals go_wp2
     all_goals go_meet
     all_goals (case rel => exact ⟨rfl, rfl, rfl, rfl⟩)
    case rest =>
     obtain ⟨rfl, rfl, rfl, rfl⟩ := hcut
     have HO6 := Lib.hid (show OwnB (w5.alloc (Obj.cells #[.int .i64 x.a, .int .i64 x.b, .int .i64 x.c] 3)).drew GO 4 cs5 from HO5.out.below (show Below w5.heap.size w5 (w5.alloc (Obj.cells #[.int .i64 x.a, .int .i64 x.b, .int .i64 x.c] 3)).drew from (box_below _ _ _).drew) HO5.out.lt)
     have HP6 := Lib.hid (show OwnB (w5.alloc (Obj.cells #[.int .i64 x.a, .int .i64 x.b, .int .i64 x.c] 3)).drew w5.heap.size 3 #[.int .i64 x.a, .int .i64 x.b, .int .i64 x.c] from OwnB.new w5 3 #[.int .i64 x.a, .int .i64 x.b, .int .i64 x.c])
     have hL6 : LaterC w1 (w5.alloc (Obj.cells #[.int .i64 x.a, .int .i64 x.b, .int .i64 x.c] 3)).drew := LaterC.drew' (LaterC.alloc' HL5.out _)
     have HNE := Lib.hid (show GO < w5.heap.size from HO5.out.lt)
     generalize (w5.alloc (Obj.cells #[.int .i64 x.a, .int .i64 x.b, .int .i64 x.c] 3)).drew = w6 at *
     generalize w5.heap.size = GP at *
     have HL6 := Lib.hid hL6
     clear hL6 x0 x1 x2 x3
     go_wp2
     go_loopw [38] (fun i wi => ∃ m : Nat, m ≤ pk ∧ i = .int .i64 m ∧ ∃ cs' : Array Value, Hid (OwnB wi GO 4 cs' ∧ OwnB wi GP 3 #[.int .i64 x.a, .int .i64 x.b, .int .i64 x.c] ∧ BoolsAt cs' n (fun j => (j < k ∧ MadeP ns j) ∨ (j = k ∧ (kindB ns k = true ∨ ∃ m' : Nat, m' < m ∧ MadeP ns (x.part m').toNat))) ∧ LaterC w1 wi)) (fun i _ => pk - (intOf i).toNat)
     case atStart => exact ⟨0, Nat.zero_le _, rfl, cs5, Lib.hid ⟨HO6.out, HP6.out, HB5.out, HL6.out⟩⟩
     case round =>
      obtain ⟨m, hm, rfl, cs', HI⟩ := hrel
      by_cases hlm : m < pk
      · have hm3 : m < 3 := by omega
        have hmk : (m : Int) < pk := by omega
        have hin := HDK.out m hm3 (by rw [HPN.out]; omega)
        have hpm : wr.cell? ⟨GP, m, none⟩ = some (.int .i64 (x.part m)) := by
         rw [HI.out.2.1.cell m]
         rcases (show m = 0 ∨ m = 1 ∨ m = 2 by omega) with rfl | rfl | rfl <;> rfl
        generalize hpp : x.part m = pp at *
        obtain ⟨q, rfl⟩ := Int.eq_ofNat_of_zero_le hin.1
        have hqk : q < k := by omega
        have hqn : q < n := by omega
        have HPP := Lib.hid hpp
        clear hin hpp
        obtain ⟨v0, hv0, ht0⟩ := HI.out.2.2.1.2 k hlt
        obtain ⟨v1, hv1, ht1⟩ := HI.out.2.2.1.2 q hqn
        have c0 : wr.cell? ⟨GO, k, none⟩ = some (.bool v0) := (HI.out.1.cell k).trans hv0
        have c1 : wr.cell? ⟨GO, q, none⟩ = some (.bool v1) := (HI.out.1.cell q).trans hv1
        have hfz : wr.frozen? ⟨GO, k, none⟩ = false := HI.out.1.frozen k
        have hs0 : v0 = true ↔ (kindB ns k = true ∨ ∃ m' : Nat, m' < m ∧ MadeP ns (x.part m').toNat) := ht0.trans ⟨fun h => by
         rcases h with ⟨h, -⟩ | ⟨-, h⟩
         · omega
         · exact h, fun h => .inr ⟨rfl, h⟩⟩
        have hs1 : v1 = true ↔ MadeP ns q := ht1.trans ⟨fun h => by
         rcases h with ⟨-, h⟩ | ⟨h, -⟩
         · exact h
         · omega, fun h => .inl ⟨hqk, h⟩⟩
        have hnext : ∀ v : Bool, (v = true ↔ (v0 = true ∨ v1 = true)) → Hid (OwnB (wr.setCell ⟨GO, k, none⟩ (.bool v)) GO 4 (cs'.setIfInBounds k (.bool v)) ∧ OwnB (wr.setCell ⟨GO, k, none⟩ (.bool v)) GP 3 #[.int .i64 x.a, .int .i64 x.b, .int .i64 x.c] ∧ BoolsAt (cs'.setIfInBounds k (.bool v)) n (fun j => (j < k ∧ MadeP ns j) ∨ (j = k ∧ (kindB ns k = true ∨ ∃ m' : Nat, m' < m + 1 ∧ MadeP ns (x.part m').toNat))) ∧ LaterC w1 (wr.setCell ⟨GO, k, none⟩ (.bool v))) := fun v hv => Lib.hid
         ⟨HI.out.1.set _ _, HI.out.2.1.set_ne (by have := HNE.out; omega) _ _, HI.out.2.2.1.setV v (fun j hj => by
          constructor
          · rintro (h | ⟨h, -⟩)
            · exact .inl h
            · exact absurd h hj
          · rintro (h | ⟨h, -⟩)
            · exact .inl h
            · exact absurd h hj) (by
          rw [hv, hs0, hs1]
          constructor
          · rintro ((h | ⟨m', h1, h2⟩) | h)
            · exact .inr ⟨rfl, .inl h⟩
            · exact .inr ⟨rfl, .inr ⟨m', by omega, h2⟩⟩
            · exact .inr ⟨rfl, .inr ⟨m, by omega, by rw [HPP.out]; exact h⟩⟩
          · rintro (⟨h, -⟩ | ⟨-, h | ⟨m', h1, h2⟩⟩)
            · omega
            · exact .inl (.inl h)
            · rcases Nat.lt_or_ge m' m with g | g
              · exact .inl (.inr ⟨m', g, h2⟩)
              · obtain rfl : m' = m := by omega
                rw [HPP.out] at h2
                exact .inr h2), LaterC.setCell' HI.out.2.2.2 _ _ hgo⟩
        clear hs0 hs1 ht0 ht1 hv0 hv1
        cases v0
        · have HN2 := hnext v1 (by simp)
          clear hnext
          go_wp2
          go_roundw
          case rel => exact ⟨m + 1, by omega, by go_num, _, HN2⟩
          case measure => simp [intOf] <;> omega
        · have HN2 := hnext true (by simp)
          clear hnext
          go_wp2
          go_roundw
          case rel => exact ⟨m + 1, by omega, by go_num, _, HN2⟩
          case measure => simp [intOf] <;> omega
      · obtain rfl : m = pk := by omega
        have HN2 := Lib.hid (show OwnB wr GO 4 cs' ∧ BoolsAt cs' n (fun j => j < k + 1 ∧ MadeP ns j) from ⟨HI.out.1, HI.out.2.2.1.congr (fun j => by
         constructor
         · rintro ⟨h1, h2⟩
           rcases Nat.lt_or_ge j k with g | g
           · exact .inl ⟨g, h2⟩
           · obtain rfl : j = k := by omega
             refine .inr ⟨rfl, ?_⟩
             rcases HST.out.1 h2 with h | ⟨p, hp, h⟩
             · exact .inl h
             · obtain ⟨m', h3, h4, h5⟩ := (HISP.out p).1 hp
               exact .inr ⟨m', by rw [HPN.out] at h4; omega, by rw [h5, Int.toNat_natCast]; exact h⟩
         · rintro (⟨h1, h2⟩ | ⟨rfl, h⟩)
           · exact ⟨by omega, h2⟩
           · refine ⟨by omega, HST.out.2 ?_⟩
             rcases h with h | ⟨m', h1, h2⟩
             · exact .inl h
             · have hlt2 : (m' : Int) < partsN x.kind := by rw [HPN.out]; omega
               have hd2 := HDK.out m' (by omega) hlt2
               exact .inr ⟨_, (HISP.out _).2 ⟨m', by omega, hlt2, (Int.toNat_of_nonneg hd2.1).symm⟩, h2⟩)⟩)
        obtain ⟨u9, rfl⟩ := HI.out.2.2.2
        clear HI
        go_wp2
        go_roundw
        case rel => exact ⟨k + 1, by omega, by go_num, cs', HN2, ⟨u9, rfl⟩⟩
        case measure => simp [intOf] <;> omega
  · obtain rfl : k = n := by omega
    clear hA
    go_wp2
    go_ret
    refine ⟨_, cs, rfl, u.back HB1.out, by omega, HI.out.1, ⟨HI.out.2.1, fun j hj => by obtain ⟨v, h1, h2⟩ := HI.out.2.2 j hj; exact ⟨v, h1, h2.trans ⟨fun h => h.2, fun h => ⟨hj, h⟩⟩⟩⟩⟩
end Go.Proofs.YtdojaijnejcoiaaGreat
namespace Go.Proofs.YtdojaijnejcoiaaGreat
open Go.RowKit
theorem isPlace_calls (s1 s2 s3 s4 : Value) (A : Option Addr) (n c : Nat) (a : Int) (w : World) (hn : n ≤ 281474976710656) :
 Makes Tryz.prog 59 #[.agg #[.slice A n c, s1, s2, s3, s4], .int .i64 a] w (.bool (inB a 0 ((n : Int) - 1))) := by
 go_enter Tryz.func59, Tryz.ntmps59
 go_wp2_with (go_at_call 84; refine (in_same _ _ _ _).mono ?_; rintro e w' ⟨rfl, rfl⟩)
 go_ret
 exact ⟨rfl, (Below.refl _ _).alloc (Nat.le_refl _) _⟩
theorem bits_calls (mv : Value) (M : Md) (kind : Int) (w : World) (hM : MdAt w mv M) :
 Makes Tryz.prog 61 #[mv, .int .i64 kind] w (.int .i64 (allN kind M.nodes)) := by
 obtain ⟨s0, s1, s2, s3, s4, rfl, hS, -, -, -, -⟩ := hM.at_
 obtain ⟨A, c, rfl, hnc, hc', hA⟩ := hS
 clear hM
 generalize hN : M.nodes.length = n at *
 have HN := Lib.hid hN
 clear hN
 have hn : n ≤ 281474976710656 := Nat.le_trans hnc hc'
 clear hc' hnc
 go_enter Tryz.func61, Tryz.ntmps61
 go_wp2
 generalize hw1 : w.alloc (Obj.cells #[.slice A n c, s1, s2, s3, s4] 31) = w1
 have hb0 : ∀ u : Later w1, u.val.cell? ⟨w.heap.size, 0, none⟩ = some (.slice A n c) := Later.cell (by rw [← hw1]; simp)
 have HB := Lib.hid (show Below w.heap.size w w1 by rw [← hw1]; exact (Below.refl _ _).alloc (Nat.le_refl _) _)
 clear hw1
 go_loopw [5, 11] (fun s i wr => ∃ (k : Nat) (t : Int), k ≤ n ∧ i = .int .i64 k ∧ s = .int .i64 t ∧ 0 ≤ t ∧ t ≤ 64 * k ∧ Hid (allN kind (M.nodes.take k) = t) ∧ LaterC w1 wr) (fun _ i _ => n - (intOf i).toNat)
 case atStart => exact ⟨0, 0, Nat.zero_le _, rfl, rfl, by omega, by omega, Lib.hid (by simp [allN]), LaterC.refl _⟩
 case round =>
  obtain ⟨k, t, hk, rfl, rfl, ht0, ht1, HT, ⟨u, rfl⟩⟩ := hrel
  by_cases hlt : k < n
  · have hget := getD_at (show k < M.nodes.length by rw [HN.out]; exact hlt) Nd.zero
    obtain ⟨b, o, rfl, hx⟩ := hA k _ hget
    have HST := Lib.hid (allN_step (kind := kind) (l := M.nodes) (k := k) (by rw [HN.out]; exact hlt))
    generalize hxe : M.nodes.getD k Nd.zero = x at hx
    rw [hxe] at HST
    have p0 : ∀ l : Later w1, l.val.cell? ⟨b, o + k * 9, none⟩ = some (.int .i64 x.kind) := hx.at_ HB.out 0 _ rfl
    have p1 : ∀ l : Later w1, l.val.cell? ⟨b, o + k * 9 + 1, none⟩ = some (.int .i64 x.a) := hx.at_ HB.out 1 _ rfl
    have p2 : ∀ l : Later w1, l.val.cell? ⟨b, o + k * 9 + 2, none⟩ = some (.int .i64 x.b) := hx.at_ HB.out 2 _ rfl
    have p3 : ∀ l : Later w1, l.val.cell? ⟨b, o + k * 9 + 3, none⟩ = some (.int .i64 x.c) := hx.at_ HB.out 3 _ rfl
    have p4 : ∀ l : Later w1, l.val.cell? ⟨b, o + k * 9 + 4, none⟩ = some (.int .i64 x.n) := hx.at_ HB.out 4 _ rfl
    have p5 : ∀ l : Later w1, l.val.cell? ⟨b, o + k * 9 + 5, none⟩ = some (.int .i64 x.m) := hx.at_ HB.out 5 _ rfl
    have p6 : ∀ l : Later w1, l.val.cell? ⟨b, o + k * 9 + 6, none⟩ = some (.int .i64 x.idx) := hx.at_ HB.out 6 _ rfl
    have p7 : ∀ l : Later w1, l.val.cell? ⟨b, o + k * 9 + 7, none⟩ = some (.int .i64 x.wid) := hx.at_ HB.out 7 _ rfl
    have p8 : ∀ l : Later w1, l.val.cell? ⟨b, o + k * 9 + 8, none⟩ = some (.string x.name) := hx.at_ HB.out 8 _ rfl
    clear hx hget hxe hA
    go_upto_region 5 with fail
    have y0 : (u.val.alloc (Obj.cells #[.int .i64 x.kind, .int .i64 x.a, .int .i64 x.b, .int .i64 x.c, .int .i64 x.n, .int .i64 x.m, .int .i64 x.idx, .int .i64 x.wid, .string x.name] 46)).cell? ⟨u.val.heap.size, 0, none⟩ = some (.int .i64 x.kind) := by go_simp
    have y6 : (u.val.alloc (Obj.cells #[.int .i64 x.kind, .int .i64 x.a, .int .i64 x.b, .int .i64 x.c, .int .i64 x.n, .int .i64 x.m, .int .i64 x.idx, .int .i64 x.wid, .string x.name] 46)).cell? ⟨u.val.heap.size, 6, none⟩ = some (.int .i64 x.idx) := by go_simp
    have y7 : (u.val.alloc (Obj.cells #[.int .i64 x.kind, .int .i64 x.a, .int .i64 x.b, .int .i64 x.c, .int .i64 x.n, .int .i64 x.m, .int .i64 x.idx, .int .i64 x.wid, .string x.name] 46)).cell? ⟨u.val.heap.size, 7, none⟩ = some (.int .i64 x.wid) := by go_simp
    have hL5 : LaterC w1 (u.val.alloc (Obj.cells #[.int .i64 x.kind, .int .i64 x.a, .int .i64 x.b, .int .i64 x.c, .int .i64 x.n, .int .i64 x.m, .int .i64 x.idx, .int .i64 x.wid, .string x.name] 46)) := u.alloc _
    generalize (u.val.alloc (Obj.cells #[.int .i64 x.kind, .int .i64 x.a, .int .i64 x.b, .int .i64 x.c, .int .i64 x.n, .int .i64 x.m, .int .i64 x.idx, .int .i64 x.wid, .string x.name] 46)) = w5 at *
    generalize u.val.heap.size = GX at *
    have HL5 := Lib.hid hL5
    have y0 := Later.cell y0
    have y6 := Later.cell y6
    have y7 := Later.cell y7
    clear p0 p1 p2 p3 p4 p5 p6 p7 p8 hL5
    refine at_world (w := w5) ?_
    intro u
    by_cases hkd : x.kind = kind
    · have hb := bitsN_bd x.idx x.wid
      have HE := Lib.hid (show allN kind (M.nodes.take (k + 1)) = t + bitsN x.idx x.wid by rw [HST.out, HT.out]; unfold bitsIf; rw [if_pos hkd])
      clear HST HT
      subst hkd
      obtain ⟨y, hy⟩ : ∃ y, y = bitsN x.idx x.wid := ⟨_, rfl⟩
      have HY := Lib.hid hy.symm
      rw [← hy] at hb HE
      clear hy
      go_wp2_with (go_at_call 85; refine (Calls.later (u := u) (SortBits'_calls x.idx x.wid _)).mono ?_; rintro e w' ⟨rfl, u1, rfl⟩; rw [HY.out])
      go_roundw
      case rel => exact ⟨k + 1, t + y, by omega, by go_num, by go_num, by omega, by push_cast; omega, HE, HL5.out.trans ⟨u1, rfl⟩⟩
      case measure => simp [intOf] <;> omega
    · have HE := Lib.hid (show allN kind (M.nodes.take (k + 1)) = t by rw [HST.out, HT.out]; unfold bitsIf; rw [if_neg hkd]; omega)
      have hne : (x.kind == kind) = false := by simpa using hkd
      clear HST HT
      go_wp2
      go_roundw
      case rel => exact ⟨k + 1, t, by omega, by go_num, rfl, by omega, by push_cast; omega, HE, HL5.out.trans ⟨u, rfl⟩⟩
      case measure => simp [intOf] <;> omega
  · obtain rfl : k = n := by omega
    have HR := Lib.hid (show allN kind M.nodes = t by rw [← HT.out, ← HN.out, List.take_length])
    clear hA HT
    go_wp2
    go_ret
    exact ⟨ret_eq (congrArg (Value.int .i64) HR.out.symm), HB.out.trans (u.prop.mono HB.out.size)⟩
end Go.Proofs.YtdojaijnejcoiaaGreat
namespace Go.Proofs.YtdojaijnejcoiaaGreat
open Go.RowKit
attribute [local go_sem high] eq_sort
def eqB (x y : Nd) : Bool := x.idx == y.idx && x.wid == y.wid
def wrdB (x y : Nd) : Bool := y.idx == 0 && y.wid == x.wid
def placedB (ns : List Nd) (b : Bd) : Bool := inB b.st 0 ((ns.length : Int) - 1) && (inB b.nd 0 ((ns.length : Int) - 1) && ((ns.getD b.st.toNat Nd.zero).kind == 36))
theorem bound_eq (ns : List Nd) (b : Bd) : boundB ns b = (placedB ns b && eqB (ns.getD b.st.toNat Nd.zero) (ns.getD b.nd.toNat Nd.zero)) := by
 unfold boundB placedB eqB
 simp only [Bool.and_assoc]
theorem init_eq (ns : List Nd) (b : Bd) : initB ns b = (placedB ns b && (eqB (ns.getD b.st.toNat Nd.zero) (ns.getD b.nd.toNat Nd.zero) || wrdB (ns.getD b.st.toNat Nd.zero) (ns.getD b.nd.toNat Nd.zero)) && fixedB ns b.nd.toNat) := by
 have hw : wordB ns b = (placedB ns b && wrdB (ns.getD b.st.toNat Nd.zero) (ns.getD b.nd.toNat Nd.zero)) := by
  unfold wordB placedB wrdB
  simp only [Bool.and_assoc]
 have key : boundB ns (wordBd ns b) = (placedB ns b && (eqB (ns.getD b.st.toNat Nd.zero) (ns.getD b.nd.toNat Nd.zero) || wrdB (ns.getD b.st.toNat Nd.zero) (ns.getD b.nd.toNat Nd.zero))) := by
  unfold wordBd
  split
  · rename_i h
    have h' := h
    rw [hw, Bool.and_eq_true] at h'
    have hp := h'.1
    unfold placedB at hp
    simp only [Bool.and_eq_true] at hp
    rw [h'.1, h'.2, Bool.or_true, Bool.true_and, bound_eq]
    show (inB b.st 0 ((ns.length : Int) - 1) && (inB b.st 0 ((ns.length : Int) - 1) && ((ns.getD b.st.toNat Nd.zero).kind == 36)) && ((ns.getD b.st.toNat Nd.zero).idx == (ns.getD b.st.toNat Nd.zero).idx && (ns.getD b.st.toNat Nd.zero).wid == (ns.getD b.st.toNat Nd.zero).wid)) = true
    rw [hp.1, hp.2.2, beq_self_eq_true, beq_self_eq_true]; rfl
  · rename_i h
    rw [bound_eq]
    have h' := eq_false_of_ne_true h
    rw [hw] at h'
    cases hp : placedB ns b with
    | false => rfl
    | true =>
      rw [hp, Bool.true_and] at h'
      rw [h', Bool.or_false]
 unfold initB
 rw [key]
noncomputable def bindOkB (ns : List Nd) (b : Bd) (i : Bool) : Bool := if i = true then initB ns b else boundB ns b
theorem bindOk_no {ns : List Nd} {b : Bd} {i : Bool} (h : placedB ns b = false) : bindOkB ns b i = false := by
 unfold bindOkB
 cases i
 · rw [if_neg Bool.false_ne_true, bound_eq, h]; rfl
 · rw [if_pos rfl, init_eq, h]; rfl
theorem bindOk_calls (mv : Value) (M : Md) (b : Bd) (i : Bool) (g2 : Nat) (cs : Array Value) (w : World) (hM : MdAt w mv M) (hO : OwnB w g2 4 cs) (hB : BoolsAt cs M.nodes.length (MadeP M.nodes)) :
 Makes Tryz.prog 54 #[mv, .agg #[.int .i64 b.st, .int .i64 b.nd], .slice (some ⟨g2, 0, none⟩) M.nodes.length M.nodes.length, .bool i] w (.bool (bindOkB M.nodes b i)) := by
 obtain ⟨bs, bn⟩ := b
 dsimp only
 obtain ⟨s0, s1, s2, s3, s4, rfl, hS, -, -, -, -⟩ := hM.at_
 obtain ⟨A, c, rfl, hnc, hc', hA⟩ := hS
 clear hM
 obtain ⟨R, hR⟩ : ∃ R, R = bindOkB M.nodes ⟨bs, bn⟩ i := ⟨_, rfl⟩
 rw [← hR]
 have HNO := Lib.hid (show placedB M.nodes ⟨bs, bn⟩ = false → R = false from fun h => hR.trans (bindOk_no h))
 have HR := Lib.hid hR
 clear hR
 have HP := Lib.hid (show placedB M.nodes ⟨bs, bn⟩ = (inB bs 0 ((M.nodes.length : Int) - 1) && (inB bn 0 ((M.nodes.length : Int) - 1) && ((M.nodes.getD bs.toNat Nd.zero).kind == 36))) from rfl)
 generalize M.nodes = ns at *
 generalize hN : ns.length = n at *
 have HN := Lib.hid hN
 have HBO := Lib.hid hB
 have HO := Lib.hid hO
 clear hN hB hO
 have hn : n ≤ 281474976710656 := Nat.le_trans hnc hc'
 clear hc' hnc
 go_enter Tryz.func54, Tryz.ntmps54
 go_upto_region 1 with fail
 have HB := Lib.hid (show Below w.heap.size w ((w.alloc (Obj.cells #[.slice A n c, s1, s2, s3, s4] 31)).alloc (Obj.cells #[.int .i64 bs, .int .i64 bn] 57)) from (box_below _ _ _).alloc (by simp) _)
 have m0 : ((w.alloc (Obj.cells #[.slice A n c, s1, s2, s3, s4] 31)).alloc (Obj.cells #[.int .i64 bs, .int .i64 bn] 57)).cell? ⟨w.heap.size, 0, none⟩ = some (.slice A n c) := by go_simp
 have m1 : ((w.alloc (Obj.cells #[.slice A n c, s1, s2, s3, s4] 31)).alloc (Obj.cells #[.int .i64 bs, .int .i64 bn] 57)).cell? ⟨w.heap.size, 1, none⟩ = some s1 := by go_simp
 have m2 : ((w.alloc (Obj.cells #[.slice A n c, s1, s2, s3, s4] 31)).alloc (Obj.cells #[.int .i64 bs, .int .i64 bn] 57)).cell? ⟨w.heap.size, 2, none⟩ = some s2 := by go_simp
 have m3 : ((w.alloc (Obj.cells #[.slice A n c, s1, s2, s3, s4] 31)).alloc (Obj.cells #[.int .i64 bs, .int .i64 bn] 57)).cell? ⟨w.heap.size, 3, none⟩ = some s3 := by go_simp
 have m4 : ((w.alloc (Obj.cells #[.slice A n c, s1, s2, s3, s4] 31)).alloc (Obj.cells #[.int .i64 bs, .int .i64 bn] 57)).cell? ⟨w.heap.size, 4, none⟩ = some s4 := by go_simp
 have d0 : ((w.alloc (Obj.cells #[.slice A n c, s1, s2, s3, s4] 31)).alloc (Obj.cells #[.int .i64 bs, .int .i64 bn] 57)).cell? ⟨w.heap.size + 1, 0, none⟩ = some (.int .i64 bs) := by go_simp
 have d1 : ((w.alloc (Obj.cells #[.slice A n c, s1, s2, s3, s4] 31)).alloc (Obj.cells #[.int .i64 bs, .int .i64 bn] 57)).cell? ⟨w.heap.size + 1, 1, none⟩ = some (.int .i64 bn) := by go_simp
 generalize (w.alloc (Obj.cells #[.slice A n c, s1, s2, s3, s4] 31)).alloc (Obj.cells #[.int .i64 bs, .int .i64 bn] 57) = w1 at *
 have m0 := Later.cell m0
 have m1 := Later.cell m1
 have m2 := Later.cell m2
 have m3 := Later.cell m3
 have m4 := Later.cell m4
 have d0 := Later.cell d0
 have d1 := Later.cell d1
 refine at_world (w := w1) ?_
 intro u0
 by_cases hs : inB bs 0 ((n : Int) - 1) = true
 rotate_left
 · have hs := eq_false_of_ne_true hs
   have HS := Lib.hid hs
   have HR0 := Lib.hid (HNO.out (by rw [HP.out, hs]; rfl))
   clear hs hA
   go_wp2_with (go_at_call 59; with_reducible refine (Calls.later (u := u0) (isPlace_calls s1 s2 s3 s4 A n c bs _ hn)).mono ?_; rintro e w' ⟨rfl, u1, rfl⟩; rw [HS.out])
   go_ret
   exact ⟨ret_eq (congrArg Value.bool HR0.out.symm), u1.back HB.out⟩
 have HS := Lib.hid hs
 have hs2 := of_inB hs
 by_cases ht : inB bn 0 ((n : Int) - 1) = true
 rotate_left
 · have ht := eq_false_of_ne_true ht
   have HT := Lib.hid ht
   have HR0 := Lib.hid (HNO.out (by rw [HP.out, hs, ht]; rfl))
   clear hs ht hA
   go_wp2_with (first | (go_at_call 59; with_reducible refine (Calls.later (u := u0) (isPlace_calls s1 s2 s3 s4 A n c bs _ hn)).mono ?_; rintro e w' ⟨rfl, u1, rfl⟩; rw [HS.out]) | (go_at_call 59; with_reducible refine (Calls.later (u := u1) (isPlace_calls s1 s2 s3 s4 A n c bn _ hn)).mono ?_; rintro e w' ⟨rfl, u2, rfl⟩; rw [HT.out]))
   go_ret
   exact ⟨ret_eq (congrArg Value.bool HR0.out.symm), u2.back HB.out⟩
 have HT := Lib.hid ht
 have ht2 := of_inB ht
 obtain ⟨p, rfl⟩ := Int.eq_ofNat_of_zero_le hs2.1
 obtain ⟨q, rfl⟩ := Int.eq_ofNat_of_zero_le ht2.1
 have hp : p < n := by omega
 have hq : q < n := by omega
 obtain ⟨g, o, rfl, hx⟩ := hA p _ (getD_at (by rw [HN.out]; exact hp) Nd.zero)
 obtain ⟨g', o', hg, hy⟩ := hA q _ (getD_at (by rw [HN.out]; exact hq) Nd.zero)
 cases hg
 rw [hs, ht, Bool.true_and, Bool.true_and, Int.toNat_natCast] at HP
 have HBD := Lib.hid (bound_eq ns ⟨p, q⟩)
 have HIN := Lib.hid (init_eq ns ⟨p, q⟩)
 simp only [Int.toNat_natCast] at HBD HIN
 rw [HP.out] at HNO HBD HIN
 clear hs ht hs2 ht2 hA HP
 generalize ns.getD p Nd.zero = x at *
 generalize ns.getD q Nd.zero = y at *
 have p0 : ∀ l : Later w1, l.val.cell? ⟨g, o + p * 9, none⟩ = some (.int .i64 x.kind) := hx.at_ HB.out 0 _ rfl
 have p6 : ∀ l : Later w1, l.val.cell? ⟨g, o + p * 9 + 6, none⟩ = some (.int .i64 x.idx) := hx.at_ HB.out 6 _ rfl
 have p7 : ∀ l : Later w1, l.val.cell? ⟨g, o + p * 9 + 7, none⟩ = some (.int .i64 x.wid) := hx.at_ HB.out 7 _ rfl
 have q6 : ∀ l : Later w1, l.val.cell? ⟨g, o + q * 9 + 6, none⟩ = some (.int .i64 y.idx) := hy.at_ HB.out 6 _ rfl
 have q7 : ∀ l : Later w1, l.val.cell? ⟨g, o + q * 9 + 7, none⟩ = some (.int .i64 y.wid) := hy.at_ HB.out 7 _ rfl
 clear hx hy
 by_cases hk : (x.kind == 36) = true
 rotate_left
 · have hk := eq_false_of_ne_true hk
   have hk' : (x.kind != 36) = true := by rw [bne, hk]; rfl
   have HR0 := Lib.hid (HNO.out hk)
   go_wp2_with (first | (go_at_call 59; with_reducible refine (Calls.later (u := u0) (isPlace_calls s1 s2 s3 s4 (some ⟨g, o, none⟩) n c (p : Int) _ hn)).mono ?_; rintro e w' ⟨rfl, u1, rfl⟩; rw [HS.out]) | (go_at_call 59; with_reducible refine (Calls.later (u := u1) (isPlace_calls s1 s2 s3 s4 (some ⟨g, o, none⟩) n c (q : Int) _ hn)).mono ?_; rintro e w' ⟨rfl, u2, rfl⟩; rw [HT.out]))
   go_ret
   exact ⟨ret_eq (congrArg Value.bool HR0.out.symm), u2.back HB.out⟩
 have hk' : (x.kind != 36) = false := by rw [bne, hk]; rfl
 have HKK := Lib.hid hk
 go_upto_region 3 with (first | (go_at_call 59; with_reducible refine (Calls.later (u := u0) (isPlace_calls s1 s2 s3 s4 (some ⟨g, o, none⟩) n c (p : Int) _ hn)).mono ?_; rintro e w' ⟨rfl, u1, rfl⟩; rw [HS.out]) | (go_at_call 59; with_reducible refine (Calls.later (u := u1) (isPlace_calls s1 s2 s3 s4 (some ⟨g, o, none⟩) n c (q : Int) _ hn)).mono ?_; rintro e w' ⟨rfl, u2, rfl⟩; rw [HT.out]))
 obtain ⟨v, hv, hvt⟩ := HBO.out.2 q hq
 have hmd : ∀ l : Later w1, l.val.cell? ⟨g2, q, none⟩ = some (.bool v) := fun l => ((HO.out.below (l.back HB.out) HO.out.lt).cell q).trans hv
 have HVT := Lib.hid hvt
 have HMD := Lib.hid hmd
 have HQ := Lib.hid (show ∀ W, LaterC w1 W → W.cell? ⟨w.heap.size, 0, none⟩ = some (.slice (some ⟨g, o, none⟩) n c) ∧ W.cell? ⟨w.heap.size + 1, 0, none⟩ = some (.int .i64 p) ∧ W.cell? ⟨w.heap.size + 1, 1, none⟩ = some (.int .i64 q) ∧ W.cell? ⟨g, o + p * 9 + 6, none⟩ = some (.int .i64 x.idx) ∧ W.cell? ⟨g, o + p * 9 + 7, none⟩ = some (.int .i64 x.wid) ∧ W.cell? ⟨g, o + q * 9 + 6, none⟩ = some (.int .i64 y.idx) ∧ W.cell? ⟨g, o + q * 9 + 7, none⟩ = some (.int .i64 y.wid) from fun W h => by obtain ⟨l, rfl⟩ := h; exact ⟨m0 l, d0 l, d1 l, p6 l, p7 l, q6 l, q7 l⟩)
 clear hv hvt hmd
 go_cut [9, 10] (fun s t wx => ∃ G1 G2, s = .pointer (some ⟨G1, 0, none⟩) ∧ t = .pointer (some ⟨G2, 0, none⟩) ∧ LaterC w1 wx ∧ wx.cell? ⟨G1, 0, none⟩ = some (.int .i64 x.idx) ∧ wx.cell? ⟨G1, 1, none⟩ = some (.int .i64 x.wid) ∧ wx.cell? ⟨G2, 0, none⟩ = some (.int .i64 y.idx) ∧ wx.cell? ⟨G2, 1, none⟩ = some (.int .i64 y.wid))
 case first =>
  go_region_held3 (fun w' => w'.cell? ⟨w.heap.size, 0, none⟩ = some (.slice (some ⟨g, o, none⟩) n c) ∧ w'.cell? ⟨w.heap.size + 1, 0, none⟩ = some (.int .i64 p) ∧ w'.cell? ⟨w.heap.size + 1, 1, none⟩ = some (.int .i64 q) ∧ w'.cell? ⟨g, o + p * 9 + 6, none⟩ = some (.int .i64 x.idx) ∧ w'.cell? ⟨g, o + p * 9 + 7, none⟩ = some (.int .i64 x.wid) ∧ w'.cell? ⟨g, o + q * 9 + 6, none⟩ = some (.int .i64 y.idx) ∧ w'.cell? ⟨g, o + q * 9 + 7, none⟩ = some (.int .i64 y.wid)) ((refine HQ.out _ ?_; repeat (first | exact ⟨_, rfl⟩ | refine LaterC.drew' ?_ | refine LaterC.alloc' ?_ _ | refine LaterC.setCell' ?_ _ _ (by first | exact Later.size _ | (simp; exact Later.size _) | (have := u2.size; simp; omega))))) (fail)
  all_goals go_wp2
  all_goals go_meet
  all_goals (case rel => exact ⟨_, _, rfl, rfl, by repeat (first | exact ⟨_, rfl⟩ | refine LaterC.drew' ?_ | refine LaterC.alloc' ?_ _ | refine LaterC.setCell' ?_ _ _ (by first | exact Later.size _ | (simp; exact Later.size _) | (have := u2.size; simp; omega))), by go_simp, by go_simp, by go_simp, by go_simp⟩)
 case rest =>
  obtain ⟨G1, G2, rfl, rfl, hL, z0, z1, z2, z3⟩ := hcut
  have HL := Lib.hid hL
  have n0 := Later.re m0 hL
  have e0 := Later.re d0 hL
  have e1 := Later.re d1 hL
  have HMD2 := Later.re HMD.out hL
  have z0 := Later.cell z0
  have z1 := Later.cell z1
  have z2 := Later.cell z2
  have z3 := Later.cell z3
  clear m0 m1 m2 m3 m4 d0 d1 p0 p6 p7 q6 q7 hk hk' HQ hL
  refine at_world (w := wc) ?_
  intro u4
  cases i
  · have hb : R = (x.idx == y.idx && (x.wid == y.wid)) := by
     rw [HR.out]; unfold bindOkB; rw [if_neg Bool.false_ne_true, HBD.out, HKK.out]; rfl
    have HB2 := Lib.hid hb
    clear hb
    by_cases he : (x.idx == y.idx && (x.wid == y.wid)) = true
    · have HR0 := Lib.hid (HB2.out.trans he)
      go_wp2
      go_ret
      exact ⟨ret_eq (congrArg Value.bool HR0.out.symm), HB.out.trans ((HL.out.trans ⟨u4, rfl⟩).below.mono HB.out.size)⟩
    · have he := eq_false_of_ne_true he
      have HR0 := Lib.hid (HB2.out.trans he)
      go_wp2
      go_ret
      exact ⟨ret_eq (congrArg Value.bool HR0.out.symm), HB.out.trans ((HL.out.trans ⟨u4, rfl⟩).below.mono HB.out.size)⟩
  · have hb : R = (((x.idx == y.idx && (x.wid == y.wid)) || (y.idx == 0 && (y.wid == x.wid))) && !v) := by
     rw [HR.out]; unfold bindOkB; rw [if_pos rfl, HIN.out, HKK.out, Bool.true_and]
     have hf : fixedB ns q = !v := by
      cases v
      · exact fixed_made.2 (fun h => by have := HVT.out.2 h; cases this)
      · exact eq_false_of_ne_true (fun h => fixed_made.1 h (HVT.out.1 rfl))
     rw [hf]; rfl
    have HB2 := Lib.hid hb
    clear hb
    by_cases he : (x.idx == y.idx && (x.wid == y.wid)) = true
    · have HR0 := Lib.hid (show R = !v by rw [HB2.out, he]; rfl)
      go_wp2
      refine wp_region_later (w0 := wc) (by kernel_rfl) (by kernel_rfl) ⟨u4, rfl⟩ ?_
      repeat (go_big_quiet_step ((go_at_call 60; exact Calls.later (words_calls _ _))))
      refine wpQuiet_nil ?_
      rintro _ ⟨u5, rfl⟩
      go_wp2
      go_ret
      exact ⟨ret_eq (congrArg Value.bool HR0.out.symm), HB.out.trans ((HL.out.trans ⟨u5, rfl⟩).below.mono HB.out.size)⟩
    · have he := eq_false_of_ne_true he
      by_cases hw : (y.idx == 0 && (y.wid == x.wid)) = true
      · have HR0 := Lib.hid (show R = !v by rw [HB2.out, he, hw]; rfl)
        go_wp2
        refine wp_region_later (w0 := wc) (by kernel_rfl) (by kernel_rfl) ⟨u4, rfl⟩ ?_
        repeat (go_big_quiet_step ((go_at_call 60; exact Calls.later (words_calls _ _))))
        refine wpQuiet_nil ?_
        rintro _ ⟨u5, rfl⟩
        go_wp2
        go_ret
        exact ⟨ret_eq (congrArg Value.bool HR0.out.symm), HB.out.trans ((HL.out.trans ⟨u5, rfl⟩).below.mono HB.out.size)⟩
      · have hw := eq_false_of_ne_true hw
        have HR0 := Lib.hid (show R = false by rw [HB2.out, he, hw]; rfl)
        go_wp2
        refine wp_region_later (w0 := wc) (by kernel_rfl) (by kernel_rfl) ⟨u4, rfl⟩ ?_
        repeat (go_big_quiet_step ((go_at_call 60; exact Calls.later (words_calls _ _))))
        refine wpQuiet_nil ?_
        rintro _ ⟨u5, rfl⟩
        go_wp2
        go_ret
        exact ⟨ret_eq (congrArg Value.bool HR0.out.symm), HB.out.trans ((HL.out.trans ⟨u5, rfl⟩).below.mono HB.out.size)⟩
end Go.Proofs.YtdojaijnejcoiaaGreat
namespace Go.Proofs.YtdojaijnejcoiaaGreat
open Go.RowKit
def ModelBox (w : World) (b : Nat) (M : Md) : Prop := ∃ s0 s1 s2 s3 s4 : Value, MdAt w (.agg #[s0, s1, s2, s3, s4]) M ∧ w.cell? ⟨b, 0, none⟩ = some s0 ∧ w.cell? ⟨b, 1, none⟩ = some s1 ∧ w.cell? ⟨b, 2, none⟩ = some s2 ∧ w.cell? ⟨b, 3, none⟩ = some s3 ∧ w.cell? ⟨b, 4, none⟩ = some s4
def MadeBox (w : World) (b : Nat) (M : Md) : Prop := ∃ (g : Nat) (cs : Array Value), w.cell? ⟨b, 0, none⟩ = some (.slice (some ⟨g, 0, none⟩) M.nodes.length M.nodes.length) ∧ OwnB w g 4 cs ∧ BoolsAt cs M.nodes.length (MadeP M.nodes)
theorem ModelBox.below {w w' : World} {b : Nat} {M : Md} (h : ModelBox w b M) (hb : Below w.heap.size w w') : ModelBox w' b M := by
 obtain ⟨s0, s1, s2, s3, s4, hM, h0, h1, h2, h3, h4⟩ := h
 exact ⟨s0, s1, s2, s3, s4, hM.below hb, keepcell hb h0, keepcell hb h1, keepcell hb h2, keepcell hb h3, keepcell hb h4⟩
theorem MadeBox.below {w w' : World} {b : Nat} {M : Md} (h : MadeBox w b M) (hb : Below w.heap.size w w') : MadeBox w' b M := by
 obtain ⟨g, cs, h0, hO, hB⟩ := h
 exact ⟨g, cs, keepcell hb h0, hO.below hb hO.lt, hB⟩
theorem closure1_calls (M : Md) (Bm Bx : Nat) (b : Bd) (w : World) (hM : ModelBox w Bm M) (hB : MadeBox w Bx M) :
 Makes Tryz.prog 53 #[.agg #[.int .i64 b.st, .int .i64 b.nd], .pointer (some ⟨Bm, 0, none⟩), .pointer (some ⟨Bx, 0, none⟩)] w (.bool (!bindOkB M.nodes b true)) := by
 obtain ⟨s0, s1, s2, s3, s4, hM, h0, h1, h2, h3, h4⟩ := hM
 obtain ⟨g, cs, hc, hO, hB⟩ := hB
 obtain ⟨bs, bn⟩ := b
 dsimp only
 have hbel := box_below w #[.int .i64 bs, .int .i64 bn] 57
 have HM := Lib.hid (hM.below hbel)
 have HO := Lib.hid (hO.below hbel hO.lt)
 have HB := Lib.hid hB
 have HBL := Lib.hid hbel
 obtain ⟨v, hv⟩ : ∃ v, v = bindOkB M.nodes ⟨bs, bn⟩ true := ⟨_, rfl⟩
 have HV := Lib.hid hv.symm
 rw [← hv]
 have n0 := keepcell hbel h0
 have n1 := keepcell hbel h1
 have n2 := keepcell hbel h2
 have n3 := keepcell hbel h3
 have n4 := keepcell hbel h4
 have nc := keepcell hbel hc
 clear hM hO hB hbel hv h0 h1 h2 h3 h4 hc
 go_enter Tryz.func53, Tryz.ntmps53
 go_wp2_with (go_at_call 54; refine (bindOk_calls _ M ⟨bs, bn⟩ true g cs _ HM.out HO.out HB.out).mono ?_; rintro e w' ⟨rfl, hb2⟩; rw [HV.out]; have HB2 := Lib.hid hb2; clear hb2)
 go_ret
 exact ⟨rfl, HBL.out.trans (HB2.out.mono HBL.out.size)⟩
theorem index1_calls (M : Md) (Bm Bx : Nat) (sv : Value) (xs : List Bd) (w : World) (hM : ModelBox w Bm M) (hB : MadeBox w Bx M) (hS : SlAt enBd w sv xs) :
 Calls Tryz.prog 67 #[sv, (.func (.func 53) #[] #[.pointer (some ⟨Bm, 0, none⟩), .pointer (some ⟨Bx, 0, none⟩)])] w fun e w' => ∃ z : Int, e = .returned (.int .i64 z) ∧ Below w.heap.size w w' ∧ decide (0 ≤ z) = !(xs.all fun b => bindOkB M.nodes b true) := by
 obtain ⟨A, c, rfl, hnc, hc', hA⟩ := hS
 have HNO := Lib.hid (show ∀ k, k < xs.length → bindOkB M.nodes (xs.getD k Bd.zero) true = false → (xs.all fun b => bindOkB M.nodes b true) = false from fun k h1 h2 => all_no h1 h2)
 have HYES := Lib.hid (show (∀ k, k < xs.length → bindOkB M.nodes (xs.getD k Bd.zero) true = true) → (xs.all fun b => bindOkB M.nodes b true) = true from fun h => all_yes (z := Bd.zero) h)
 generalize (xs.all fun b => bindOkB M.nodes b true) = R at *
 generalize hN : xs.length = n at *
 have HN := Lib.hid hN
 have HM := Lib.hid hM
 have HB := Lib.hid hB
 have hn : n ≤ 281474976710656 := Nat.le_trans hnc hc'
 clear hN hM hB hc' hnc
 go_enter Tryz.func67, Tryz.ntmps67
 go_wp2
 go_loopw [8] (fun i wr => ∃ k : Nat, k ≤ n ∧ i = .int .i64 k ∧ Hid (∀ j, j < k → bindOkB M.nodes (xs.getD j Bd.zero) true = true) ∧ LaterC w wr) (fun i _ => n - (intOf i).toNat)
 case atStart => exact ⟨0, Nat.zero_le _, rfl, Lib.hid (fun j hj => absurd hj (Nat.not_lt_zero _)), LaterC.refl _⟩
 case round =>
  obtain ⟨k, hk, rfl, hto, ⟨u, rfl⟩⟩ := hrel
  by_cases hlt : k < n
  · have hlt' : (k : Int) < n := by omega
    obtain ⟨g, o, rfl, hx⟩ := hA k _ (getD_at (by rw [HN.out]; exact hlt) Bd.zero)
    generalize hxe : xs.getD k Bd.zero = x at hx
    have HX := Lib.hid hxe
    clear hxe
    obtain ⟨bs, bn⟩ := x
    have p0 : ∀ l : Later w, l.val.cell? ⟨g, o + k * 2, none⟩ = some (.int .i64 bs) := hx.at_ (Below.refl _ _) 0 _ rfl
    have p1 : ∀ l : Later w, l.val.cell? ⟨g, o + k * 2 + 1, none⟩ = some (.int .i64 bn) := hx.at_ (Below.refl _ _) 1 _ rfl
    clear hx hA
    by_cases hv : bindOkB M.nodes ⟨bs, bn⟩ true = true
    · have HV := Lib.hid hv
      have HTO := Lib.hid (show ∀ j, j < k + 1 → bindOkB M.nodes (xs.getD j Bd.zero) true = true from fun j hj => by
       rcases Nat.lt_or_ge j k with g | g
       · exact hto.out j g
       · obtain rfl : j = k := by omega
         rw [HX.out]; exact hv)
      clear hv hto
      go_wp2_with (go_at_call 53; refine (Calls.later (u := u) (closure1_calls M Bm Bx ⟨bs, bn⟩ _ (HM.out.below u.prop) (HB.out.below u.prop))).mono ?_; rintro e w' ⟨rfl, u1, rfl⟩; rw [HV.out])
      go_roundw
      case rel => exact ⟨k + 1, by omega, by go_num, HTO, ⟨u1, rfl⟩⟩
      case measure => simp [intOf] <;> omega
    · have hv := eq_false_of_ne_true hv
      have HV := Lib.hid hv
      have HR := Lib.hid (HNO.out k hlt (by rw [HX.out]; exact hv))
      clear hv hto
      go_wp2_with (go_at_call 53; refine (Calls.later (u := u) (closure1_calls M Bm Bx ⟨bs, bn⟩ _ (HM.out.below u.prop) (HB.out.below u.prop))).mono ?_; rintro e w' ⟨rfl, u1, rfl⟩; rw [HV.out])
      go_ret
      exact ⟨_, rfl, u1.prop, by rw [HR.out]; simp⟩
  · obtain rfl : k = n := by omega
    have HR := Lib.hid (HYES.out hto.out)
    clear hto hA
    go_wp2
    go_ret
    exact ⟨_, rfl, u.prop, by rw [HR.out]; simp⟩
theorem contains1_calls (M : Md) (Bm Bx : Nat) (sv : Value) (xs : List Bd) (w : World) (hM : ModelBox w Bm M) (hB : MadeBox w Bx M) (hS : SlAt enBd w sv xs) :
 Makes Tryz.prog 52 #[sv, (.func (.func 53) #[] #[.pointer (some ⟨Bm, 0, none⟩), .pointer (some ⟨Bx, 0, none⟩)])] w (.bool (!(xs.all fun b => bindOkB M.nodes b true))) := by
 have HM := Lib.hid hM
 have HB := Lib.hid hB
 have HS := Lib.hid hS
 clear hM hB hS
 go_enter Tryz.func52, Tryz.ntmps52
 go_wp2_with (go_at_call 67; refine (index1_calls M Bm Bx sv xs _ HM.out HB.out HS.out).mono ?_; rintro e w' ⟨z, rfl, hb2, hz⟩; have HB2 := Lib.hid hb2; have HZ := Lib.hid hz; clear hb2 hz)
 go_ret
 exact ⟨ret_eq (congrArg Value.bool HZ.out), HB2.out⟩
theorem closure2_calls (M : Md) (Bm Bx : Nat) (b : Bd) (w : World) (hM : ModelBox w Bm M) (hB : MadeBox w Bx M) :
 Makes Tryz.prog 55 #[.agg #[.int .i64 b.st, .int .i64 b.nd], .pointer (some ⟨Bm, 0, none⟩), .pointer (some ⟨Bx, 0, none⟩)] w (.bool (!bindOkB M.nodes b false)) := by
 obtain ⟨s0, s1, s2, s3, s4, hM, h0, h1, h2, h3, h4⟩ := hM
 obtain ⟨g, cs, hc, hO, hB⟩ := hB
 obtain ⟨bs, bn⟩ := b
 dsimp only
 have hbel := box_below w #[.int .i64 bs, .int .i64 bn] 57
 have HM := Lib.hid (hM.below hbel)
 have HO := Lib.hid (hO.below hbel hO.lt)
 have HB := Lib.hid hB
 have HBL := Lib.hid hbel
 obtain ⟨v, hv⟩ : ∃ v, v = bindOkB M.nodes ⟨bs, bn⟩ false := ⟨_, rfl⟩
 have HV := Lib.hid hv.symm
 rw [← hv]
 have n0 := keepcell hbel h0
 have n1 := keepcell hbel h1
 have n2 := keepcell hbel h2
 have n3 := keepcell hbel h3
 have n4 := keepcell hbel h4
 have nc := keepcell hbel hc
 clear hM hO hB hbel hv h0 h1 h2 h3 h4 hc
 go_enter Tryz.func55, Tryz.ntmps55
 go_wp2_with (go_at_call 54; refine (bindOk_calls _ M ⟨bs, bn⟩ false g cs _ HM.out HO.out HB.out).mono ?_; rintro e w' ⟨rfl, hb2⟩; rw [HV.out]; have HB2 := Lib.hid hb2; clear hb2)
 go_ret
 exact ⟨rfl, HBL.out.trans (HB2.out.mono HBL.out.size)⟩
theorem index2_calls (M : Md) (Bm Bx : Nat) (sv : Value) (xs : List Bd) (w : World) (hM : ModelBox w Bm M) (hB : MadeBox w Bx M) (hS : SlAt enBd w sv xs) :
 Calls Tryz.prog 67 #[sv, (.func (.func 55) #[] #[.pointer (some ⟨Bm, 0, none⟩), .pointer (some ⟨Bx, 0, none⟩)])] w fun e w' => ∃ z : Int, e = .returned (.int .i64 z) ∧ Below w.heap.size w w' ∧ decide (0 ≤ z) = !(xs.all fun b => bindOkB M.nodes b false) := by
 obtain ⟨A, c, rfl, hnc, hc', hA⟩ := hS
 have HNO := Lib.hid (show ∀ k, k < xs.length → bindOkB M.nodes (xs.getD k Bd.zero) false = false → (xs.all fun b => bindOkB M.nodes b false) = false from fun k h1 h2 => all_no h1 h2)
 have HYES := Lib.hid (show (∀ k, k < xs.length → bindOkB M.nodes (xs.getD k Bd.zero) false = true) → (xs.all fun b => bindOkB M.nodes b false) = true from fun h => all_yes (z := Bd.zero) h)
 generalize (xs.all fun b => bindOkB M.nodes b false) = R at *
 generalize hN : xs.length = n at *
 have HN := Lib.hid hN
 have HM := Lib.hid hM
 have HB := Lib.hid hB
 have hn : n ≤ 281474976710656 := Nat.le_trans hnc hc'
 clear hN hM hB hc' hnc
 go_enter Tryz.func67, Tryz.ntmps67
 go_wp2
 go_loopw [8] (fun i wr => ∃ k : Nat, k ≤ n ∧ i = .int .i64 k ∧ Hid (∀ j, j < k → bindOkB M.nodes (xs.getD j Bd.zero) false = true) ∧ LaterC w wr) (fun i _ => n - (intOf i).toNat)
 case atStart => exact ⟨0, Nat.zero_le _, rfl, Lib.hid (fun j hj => absurd hj (Nat.not_lt_zero _)), LaterC.refl _⟩
 case round =>
  obtain ⟨k, hk, rfl, hto, ⟨u, rfl⟩⟩ := hrel
  by_cases hlt : k < n
  · have hlt' : (k : Int) < n := by omega
    obtain ⟨g, o, rfl, hx⟩ := hA k _ (getD_at (by rw [HN.out]; exact hlt) Bd.zero)
    generalize hxe : xs.getD k Bd.zero = x at hx
    have HX := Lib.hid hxe
    clear hxe
    obtain ⟨bs, bn⟩ := x
    have p0 : ∀ l : Later w, l.val.cell? ⟨g, o + k * 2, none⟩ = some (.int .i64 bs) := hx.at_ (Below.refl _ _) 0 _ rfl
    have p1 : ∀ l : Later w, l.val.cell? ⟨g, o + k * 2 + 1, none⟩ = some (.int .i64 bn) := hx.at_ (Below.refl _ _) 1 _ rfl
    clear hx hA
    by_cases hv : bindOkB M.nodes ⟨bs, bn⟩ false = true
    · have HV := Lib.hid hv
      have HTO := Lib.hid (show ∀ j, j < k + 1 → bindOkB M.nodes (xs.getD j Bd.zero) false = true from fun j hj => by
       rcases Nat.lt_or_ge j k with g | g
       · exact hto.out j g
       · obtain rfl : j = k := by omega
         rw [HX.out]; exact hv)
      clear hv hto
      go_wp2_with (go_at_call 55; refine (Calls.later (u := u) (closure2_calls M Bm Bx ⟨bs, bn⟩ _ (HM.out.below u.prop) (HB.out.below u.prop))).mono ?_; rintro e w' ⟨rfl, u1, rfl⟩; rw [HV.out])
      go_roundw
      case rel => exact ⟨k + 1, by omega, by go_num, HTO, ⟨u1, rfl⟩⟩
      case measure => simp [intOf] <;> omega
    · have hv := eq_false_of_ne_true hv
      have HV := Lib.hid hv
      have HR := Lib.hid (HNO.out k hlt (by rw [HX.out]; exact hv))
      clear hv hto
      go_wp2_with (go_at_call 55; refine (Calls.later (u := u) (closure2_calls M Bm Bx ⟨bs, bn⟩ _ (HM.out.below u.prop) (HB.out.below u.prop))).mono ?_; rintro e w' ⟨rfl, u1, rfl⟩; rw [HV.out])
      go_ret
      exact ⟨_, rfl, u1.prop, by rw [HR.out]; simp⟩
  · obtain rfl : k = n := by omega
    have HR := Lib.hid (HYES.out hto.out)
    clear hto hA
    go_wp2
    go_ret
    exact ⟨_, rfl, u.prop, by rw [HR.out]; simp⟩
theorem contains2_calls (M : Md) (Bm Bx : Nat) (sv : Value) (xs : List Bd) (w : World) (hM : ModelBox w Bm M) (hB : MadeBox w Bx M) (hS : SlAt enBd w sv xs) :
 Makes Tryz.prog 52 #[sv, (.func (.func 55) #[] #[.pointer (some ⟨Bm, 0, none⟩), .pointer (some ⟨Bx, 0, none⟩)])] w (.bool (!(xs.all fun b => bindOkB M.nodes b false))) := by
 have HM := Lib.hid hM
 have HB := Lib.hid hB
 have HS := Lib.hid hS
 clear hM hB hS
 go_enter Tryz.func52, Tryz.ntmps52
 go_wp2_with (go_at_call 67; refine (index2_calls M Bm Bx sv xs _ HM.out HB.out HS.out).mono ?_; rintro e w' ⟨z, rfl, hb2, hz⟩; have HB2 := Lib.hid hb2; have HZ := Lib.hid hz; clear hb2 hz)
 go_ret
 exact ⟨ret_eq (congrArg Value.bool HZ.out), HB2.out⟩
end Go.Proofs.YtdojaijnejcoiaaGreat
namespace Go.Proofs.YtdojaijnejcoiaaGreat
open Go.RowKit
attribute [local go_sem high] eq_sort
theorem closure3_calls (M : Md) (Bm : Nat) (a : Int) (w : World) (hM : ModelBox w Bm M) :
 Makes Tryz.prog 58 #[.int .i64 a, .pointer (some ⟨Bm, 0, none⟩)] w (.bool (!propB M.nodes a)) := by
 obtain ⟨s0, s1, s2, s3, s4, hM, h0, h1, h2, h3, h4⟩ := hM
 obtain ⟨t0, t1, t2, t3, t4, he, hS, -, -, -, -⟩ := hM.at_
 cases he
 obtain ⟨A, c, rfl, hnc, hc', hA⟩ := hS
 clear hM
 obtain ⟨R, hR⟩ : ∃ R, R = propB M.nodes a := ⟨_, rfl⟩
 rw [← hR]
 have hR2 : R = (inB a 0 ((M.nodes.length : Int) - 1) && w1B (M.nodes.getD a.toNat Nd.zero)) := hR
 clear hR
 generalize M.nodes = ns at *
 generalize hN : ns.length = n at *
 have HN := Lib.hid hN
 have HR := Lib.hid hR2
 have hn : n ≤ 281474976710656 := Nat.le_trans hnc hc'
 clear hN hc' hnc hR2
 have n0 := Later.cell h0
 have n1 := Later.cell h1
 have n2 := Later.cell h2
 have n3 := Later.cell h3
 have n4 := Later.cell h4
 clear h0 h1 h2 h3 h4
 by_cases hi : inB a 0 ((n : Int) - 1) = true
 · have HI := Lib.hid hi
   have hi2 := of_inB hi
   obtain ⟨p, rfl⟩ := Int.eq_ofNat_of_zero_le hi2.1
   have hp : p < n := by omega
   obtain ⟨g, o, rfl, hx⟩ := hA p _ (getD_at (by rw [HN.out]; exact hp) Nd.zero)
   rw [hi, Bool.true_and, Int.toNat_natCast] at HR
   generalize ns.getD p Nd.zero = x at *
   have p6 : ∀ l : Later w, l.val.cell? ⟨g, o + p * 9 + 6, none⟩ = some (.int .i64 x.idx) := hx.at_ (Below.refl _ _) 6 _ rfl
   have p7 : ∀ l : Later w, l.val.cell? ⟨g, o + p * 9 + 7, none⟩ = some (.int .i64 x.wid) := hx.at_ (Below.refl _ _) 7 _ rfl
   clear hx hA hi hi2
   by_cases hw : (x.idx == 0 && (x.wid == 1)) = true
   · have HR0 := Lib.hid (show (!R) = false by rw [HR.out]; unfold w1B; rw [hw]; rfl)
     go_enter Tryz.func58, Tryz.ntmps58
     go_wp2
     refine wp_region_later (w0 := w) (by kernel_rfl) (by kernel_rfl) (LaterC.refl _) ?_
     repeat (go_big_quiet_step (first | (go_at_call 59; exact Calls.later_eq (isPlace_calls _ _ _ _ _ n c (p : Int) _ hn) (congrArg Value.bool HI.out)) | (go_at_call 60; exact Calls.later (words_calls _ _))))
     refine wpQuiet_nil ?_
     rintro _ ⟨u5, rfl⟩
     go_wp2
     go_ret
     exact ⟨ret_eq (congrArg Value.bool HR0.out.symm), u5.prop⟩
   · have hw := eq_false_of_ne_true hw
     have HR0 := Lib.hid (show (!R) = true by rw [HR.out]; unfold w1B; rw [hw]; rfl)
     go_enter Tryz.func58, Tryz.ntmps58
     go_wp2
     refine wp_region_later (w0 := w) (by kernel_rfl) (by kernel_rfl) (LaterC.refl _) ?_
     repeat (go_big_quiet_step (first | (go_at_call 59; exact Calls.later_eq (isPlace_calls _ _ _ _ _ n c (p : Int) _ hn) (congrArg Value.bool HI.out)) | (go_at_call 60; exact Calls.later (words_calls _ _))))
     refine wpQuiet_nil ?_
     rintro _ ⟨u5, rfl⟩
     go_wp2
     go_ret
     exact ⟨ret_eq (congrArg Value.bool HR0.out.symm), u5.prop⟩
 · have hi := eq_false_of_ne_true hi
   have HI := Lib.hid hi
   have HR0 := Lib.hid (show (!R) = true by rw [HR.out, hi]; rfl)
   clear hi hA
   go_enter Tryz.func58, Tryz.ntmps58
   go_wp2
   refine wp_region_later (w0 := w) (by kernel_rfl) (by kernel_rfl) (LaterC.refl _) ?_
   repeat (go_big_quiet_step (first | (go_at_call 59; exact Calls.later_eq (isPlace_calls _ _ _ _ _ n c a _ hn) (congrArg Value.bool HI.out)) | (go_at_call 60; exact Calls.later (words_calls _ _))))
   refine wpQuiet_nil ?_
   rintro _ ⟨u5, rfl⟩
   go_wp2
   go_ret
   exact ⟨ret_eq (congrArg Value.bool HR0.out.symm), u5.prop⟩
theorem index3_calls (M : Md) (Bm : Nat) (sv : Value) (xs : List Int) (w : World) (hM : ModelBox w Bm M) (hS : SlN enI w sv xs) :
 Calls Tryz.prog 82 #[sv, (.func (.func 58) #[] #[.pointer (some ⟨Bm, 0, none⟩)])] w fun e w' => ∃ z : Int, e = .returned (.int .i64 z) ∧ Below w.heap.size w w' ∧ decide (0 ≤ z) = !propsB M.nodes xs := by
 obtain ⟨A, c, rfl, hnc, hn, hA⟩ := hS
 have HNO := Lib.hid (show ∀ k, k < xs.length → propB M.nodes (xs.getD k 0) = false → propsB M.nodes xs = false from fun k h1 h2 => props_no h1 h2)
 have HYES := Lib.hid (show (∀ k, k < xs.length → propB M.nodes (xs.getD k 0) = true) → propsB M.nodes xs = true from fun h => props_yes (fun i hi => h i hi))
 generalize propsB M.nodes xs = R at *
 generalize hN : xs.length = n at *
 have HN := Lib.hid hN
 have HM := Lib.hid hM
 clear hN hM hnc
 go_enter Tryz.func82, Tryz.ntmps82
 go_wp2
 go_loopw [8] (fun i wr => ∃ k : Nat, k ≤ n ∧ i = .int .i64 k ∧ Hid (∀ j, j < k → propB M.nodes (xs.getD j 0) = true) ∧ LaterC w wr) (fun i _ => n - (intOf i).toNat)
 case atStart => exact ⟨0, Nat.zero_le _, rfl, Lib.hid (fun j hj => absurd hj (Nat.not_lt_zero _)), LaterC.refl _⟩
 case round =>
  obtain ⟨k, hk, rfl, hto, ⟨u, rfl⟩⟩ := hrel
  by_cases hlt : k < n
  · have hlt' : (k : Int) < n := by omega
    obtain ⟨g, o, rfl, hx⟩ := hA k _ (getD_at (by rw [HN.out]; exact hlt) 0)
    generalize hxe : xs.getD k 0 = x at hx
    have HX := Lib.hid hxe
    clear hxe
    have p0 : ∀ l : Later w, l.val.cell? ⟨g, o + k, none⟩ = some (.int .i64 x) := hx.int (Below.refl _ _)
    clear hx hA
    by_cases hv : propB M.nodes x = true
    · have HV := Lib.hid hv
      have HTO := Lib.hid (show ∀ j, j < k + 1 → propB M.nodes (xs.getD j 0) = true from fun j hj => by
       rcases Nat.lt_or_ge j k with g | g
       · exact hto.out j g
       · obtain rfl : j = k := by omega
         rw [HX.out]; exact hv)
      clear hv hto
      go_wp2_with (go_at_call 58; refine (Calls.later (u := u) (closure3_calls M Bm x _ (HM.out.below u.prop))).mono ?_; rintro e w' ⟨rfl, u1, rfl⟩; rw [HV.out])
      go_roundw
      case rel => exact ⟨k + 1, by omega, by go_num, HTO, ⟨u1, rfl⟩⟩
      case measure => simp [intOf] <;> omega
    · have hv := eq_false_of_ne_true hv
      have HV := Lib.hid hv
      have HR := Lib.hid (HNO.out k hlt (by rw [HX.out]; exact hv))
      clear hv hto
      go_wp2_with (go_at_call 58; refine (Calls.later (u := u) (closure3_calls M Bm x _ (HM.out.below u.prop))).mono ?_; rintro e w' ⟨rfl, u1, rfl⟩; rw [HV.out])
      go_ret
      exact ⟨_, rfl, u1.prop, by rw [HR.out]; simp⟩
  · obtain rfl : k = n := by omega
    have HR := Lib.hid (HYES.out hto.out)
    clear hto hA
    go_wp2
    go_ret
    exact ⟨_, rfl, u.prop, by rw [HR.out]; simp⟩
theorem contains3_calls (M : Md) (Bm : Nat) (sv : Value) (xs : List Int) (w : World) (hM : ModelBox w Bm M) (hS : SlN enI w sv xs) :
 Makes Tryz.prog 56 #[sv, (.func (.func 58) #[] #[.pointer (some ⟨Bm, 0, none⟩)])] w (.bool (!propsB M.nodes xs)) := by
 have HM := Lib.hid hM
 have HS := Lib.hid hS
 clear hM hS
 go_enter Tryz.func56, Tryz.ntmps56
 go_wp2_with (go_at_call 82; refine (index3_calls M Bm sv xs _ HM.out HS.out).mono ?_; rintro e w' ⟨z, rfl, hb2, hz⟩; have HB2 := Lib.hid hb2; have HZ := Lib.hid hz; clear hb2 hz)
 go_ret
 exact ⟨ret_eq (congrArg Value.bool HZ.out), HB2.out⟩
end Go.Proofs.YtdojaijnejcoiaaGreat
namespace Go.Proofs.YtdojaijnejcoiaaGreat
open Go.RowKit
theorem info_int : (Tryz.prog.info? 3).map (fun i => (i.zero, i.size, i.bytes)) = some (some (.int .i64 0), 1, 8) := by kernel_rfl
theorem append_none (w : World) (ty : TypeId) (base : Nat) (v : Value) (n : Nat) (xs : List Value) (hown : w.ownsRow base 3 1 v n xs) (A : Option Addr) (c : Nat) :
 (Builtin.append_ #[24, 24] ty #[v, .slice A 0 c]).run Tryz.prog w = .ok v w := by
 obtain ⟨i, hi, hz, hs, hb⟩ := info_parts info_int
 have ht := Tryz.underlying24
 have hl : ∀ (a : Addr) (w : World), (loadCells a 0).run Tryz.prog w = .ok #[] w := fun _ _ => rfl
 rcases hown.2 with ⟨rfl, rfl⟩ | ⟨g, cap, cur, rfl, _, _, hnc, _⟩ <;> cases A <;>
  simp [Builtin.append_, run_underlying ht, sizeOf, typeInfo, hi, Builtin.lenOf, Builtin.firstCells, storeCells, *]
theorem append_list (w : World) (ty : TypeId) (base : Nat) (v : Value) (n : Nat) (xs : List Value) (hown : w.ownsRow base 3 1 v n xs) (hbase : base ≤ w.heap.size) (A : Option Addr) (c : Nat) (ys : List Int)
 (hA : ∀ i x, ys[i]? = some x → ∃ b o, A = some ⟨b, o, none⟩ ∧ CellsAt enI w b o i x) (hlen : n + ys.length ≤ 1000) :
 ∃ v' w', (Builtin.append_ #[24, 24] ty #[v, .slice A ys.length c]).run Tryz.prog w = .ok v' w' ∧ w'.ownsRow base 3 1 v' (n + ys.length) (xs ++ ys.map (Value.int .i64)) ∧ w.grownBy w' v.ownBlock := by
 rcases Nat.eq_zero_or_pos ys.length with h0 | h0
 · rw [h0]
   have : ys = [] := List.eq_nil_of_length_eq_zero h0
   subst this
   exact ⟨v, w, append_none w ty base v n xs hown A c, by simpa using hown, World.grownBy.refl w _⟩
 · obtain ⟨i, hi, hz, hs, hb⟩ := info_parts info_int
   obtain ⟨b, o, rfl, -⟩ := hA 0 _ (getD_at h0 0)
   obtain ⟨v', w', hr, hown', hg, -⟩ := run_append_own (P := Tryz.prog) w base 24 ty 3 i (.int .i64 0) 1 8 Tryz.underlying24 hi hz hs hb rfl (by omega) v n xs hown ⟨b, o, none⟩ ys.length c (ys.map (Value.int .i64)) (by simp) (fun j u hu => by
    rw [List.getElem?_map] at hu
    obtain ⟨y, hy, rfl⟩ := Option.map_eq_some_iff.1 hu
    obtain ⟨b', o', he, hc⟩ := hA j y hy
    cases he
    have hadd : (⟨b, o, none⟩ : Addr).add j = ⟨b, o + j, none⟩ := by unfold Addr.add; split <;> simp_all
    rw [hadd]
    have := hc 0 _ rfl
    simpa using this) (fun u hu => by
    obtain ⟨y, -, rfl⟩ := List.mem_map.1 hu
    rfl) (by unfold maxLen; omega) (by omega) hbase
   exact ⟨v', w', hr, hown', hg⟩
theorem Grow_calls (n : Nat) (w : World) (hn : n ≤ 1000) :
 Calls Tryz.prog 83 #[.slice none 0 0, .int .i64 n] w fun e w' => ∃ v, e = .returned v ∧ Below w.heap.size w w' ∧ w'.ownsRow w.heap.size 3 1 v 0 [] := by
 rcases Nat.eq_zero_or_pos n with rfl | hpos
 · go_enter Tryz.func83, Tryz.ntmps83
   go_wp2
   go_ret
   exact ⟨_, rfl, Below.refl _ _, rfl, .inl ⟨rfl, rfl⟩⟩
 · obtain ⟨i, hi, hz, hs, hb⟩ := info_parts info_int
   have hr := fun ty => Lib.run_append_nil_zeros (P := Tryz.prog) w 24 3 ty 3 i (.int .i64 0) .i64 .i64 Tryz.underlying24 Tryz.underlying3 hi hz n hpos (by omega) (by omega) (by rw [hb]; omega)
   have hcap := grownCap_ge w n 0 3
   have hmax := grownCap_le_maxLen w n 0 3 (by unfold maxLen; omega)
   generalize hG : grownCap w n 0 3 = G at *
   have hpos' : (0 : Int) < n := by omega
   have HR := Lib.hid hr
   clear hr hG hz hs hb hi
   go_enter Tryz.func83, Tryz.ntmps83
   go_wp2_with (at_builtin; refine Lib.wpList_append_run _ (by rfl) _ _ _ _ (by rfl) _ _ (by rfl) (by rfl) _ _ (HR.out _) ?_)
   go_ret
   refine ⟨_, rfl, (box_below w _ _).drew, rfl, .inr ⟨w.heap.size, G, _, rfl, Nat.le_refl _, OwnB.new w _ _, Nat.zero_le _, hmax, ?_, by simp⟩⟩
   simp [size_zeroCells]
   omega
theorem owned_list {w : World} {base n : Nat} {v : Value} {xs : List Int} (h : w.ownsRow base 3 1 v n (xs.map (Value.int .i64))) (hn : n = xs.length) (hn2 : n ≤ 1000) : SlN enI w v xs := by
 subst hn
 rcases h.2 with ⟨rfl, h0⟩ | ⟨g, cap, cur, rfl, _, _, hc, _⟩
 · have : xs = [] := List.eq_nil_of_length_eq_zero h0
   subst this
   exact ⟨none, 0, rfl, Nat.le_refl _, by simp, fun i x hx => by simp at hx⟩
 · refine ⟨some ⟨g, 0, none⟩, cap, rfl, hc, by omega, fun i x hx => ⟨g, 0, rfl, fun f u hu => ?_⟩⟩
   have hf : f = 0 := by
    have := (List.getElem?_eq_some_iff.1 hu).1
    simpa using this
   subst hf
   have hu' : u = .int .i64 x := by simpa using hu.symm
   subst hu'
   have := h.cells (g := g) rfl i (.int .i64 x) (by rw [List.getElem?_map, hx]; rfl)
   have hadd : (⟨g, 0, none⟩ : Addr).add i = ⟨g, i, none⟩ := by unfold Addr.add; split <;> simp_all
   rw [hadd] at this
   simpa using this
theorem Concat_calls (GS : Nat) (v1 v2 : Value) (xs ys : List Int) (w : World) (h1 : SlAt enI w v1 xs) (h2 : SlAt enI w v2 ys) (c1 : w.cell? ⟨GS, 0, none⟩ = some v1) (c2 : w.cell? ⟨GS, 1, none⟩ = some v2) (hl : xs.length + ys.length ≤ 1000) :
 Calls Tryz.prog 57 #[.slice (some ⟨GS, 0, none⟩) 2 2] w fun e w' => ∃ v, e = .returned v ∧ Below w.heap.size w w' ∧ SlN enI w' v (xs ++ ys) := by
 have H1 := Lib.hid h1
 have H2 := Lib.hid h2
 obtain ⟨A, c, rfl, -, -, -⟩ := h1
 obtain ⟨A', c', rfl, -, -, -⟩ := h2
 have d1 := Later.cell c1
 have d2 := Later.cell c2
 have hn1 : (xs.length : Int) ≤ 1000 := by omega
 have hn2 : (ys.length : Int) ≤ 1000 := by omega
 have hn3 : (xs.length : Int) + ys.length ≤ 1000 := by omega
 have hp1 : (0 : Int) ≤ xs.length := by omega
 have hp2 : (0 : Int) ≤ ys.length := by omega
 obtain ⟨n, hn⟩ : ∃ n, n = xs.length := ⟨_, rfl⟩
 obtain ⟨m, hm⟩ : ∃ m, m = ys.length := ⟨_, rfl⟩
 have HN := Lib.hid hn
 have HM := Lib.hid hm
 have HL := Lib.hid hl
 rw [← hn] at c1 d1 hn1 hn3 hp1 hl H1
 rw [← hm] at c2 d2 hn2 hn3 hp2 hl H2
 clear hn hm c1 c2
 go_enter Tryz.func57, Tryz.ntmps57
 go_upto_region 1 with fail
 refine at_world (w := w) ?_
 intro u0
 go_wp2
 refine wp_loop_rounds 3 ?_
 rw [rounds_succ]
 go_wp2
 rw [rounds_succ]
 go_wp2
 rw [rounds_succ]
 go_wp2_with (go_at_call 83; refine (Grow_calls (n + m) _ (by omega)).mono ?_; rintro e w' ⟨gv, rfl, hb, hown⟩; have HB := Lib.hid hb; have HOWN := Lib.hid hown; clear hb hown)
 have HU := Lib.hid u0.prop
 have K1 := Lib.hid (H1.out.later u0)
 have K2 := Lib.hid (H2.out.later u0)
 have e1 := Later.re d1 ⟨u0, rfl⟩
 have e2 := Later.re d2 ⟨u0, rfl⟩
 clear d1 d2
 generalize u0.val = W0 at *
 obtain ⟨u1, hu1⟩ := laterC_step (w1 := W0) (LaterC.refl _) HB.out
 subst hu1
 have hS1 := K1.out.later u1
 obtain ⟨A1, c1, he1, -, -, hA1⟩ := hS1
 rw [← HN.out] at he1
 cases he1
 obtain ⟨x1, w1', hr1, ho1, hg1⟩ := append_list u1.val 24 W0.heap.size gv 0 [] HOWN.out u1.size A c xs hA1 (by have := HL.out; omega)
 obtain ⟨u2, hu2⟩ := laterC_grown ⟨u1, rfl⟩ HOWN.out hg1
 subst hu2
 have hS2 := K2.out.later u2
 obtain ⟨A2, c2, he2, -, -, hA2⟩ := hS2
 rw [← HM.out] at he2
 cases he2
 obtain ⟨x2, w2', hr2, ho2, hg2⟩ := append_list u2.val 24 W0.heap.size x1 (0 + xs.length) ([] ++ xs.map (Value.int .i64)) ho1 u2.size A' c' ys hA2 (by have := HL.out; omega)
 obtain ⟨u3, hu3⟩ := laterC_grown ⟨u2, rfl⟩ ho1 hg2
 subst hu3
 rw [← HN.out] at hr1
 rw [← HM.out] at hr2
 have HR1 := Lib.hid hr1
 have HR2 := Lib.hid hr2
 have HO2 := Lib.hid ho2
 clear hr1 hr2 ho1 ho2 hg1 hg2 hA1 hA2
 refine wp_loop_rounds 3 ?_
 rw [rounds_succ]
 go_wp2_with (at_builtin; refine Lib.wpList_append_run _ (by rfl) _ _ _ _ (by rfl) _ _ (by rfl) (by rfl) _ _ HR1.out ?_)
 rw [rounds_succ]
 go_wp2_with (at_builtin; refine Lib.wpList_append_run _ (by rfl) _ _ _ _ (by rfl) _ _ (by rfl) (by rfl) _ _ HR2.out ?_)
 rw [rounds_succ]
 go_wp2
 go_ret
 refine ⟨_, rfl, HU.out.trans (u3.prop.mono HU.out.size), owned_list (n := 0 + xs.length + ys.length) (base := W0.heap.size) ?_ (by simp) (by have := HL.out; omega)⟩
 have := HO2.out
 rw [List.nil_append, ← List.map_append] at this
 exact this
end Go.Proofs.YtdojaijnejcoiaaGreat
namespace Go.Proofs.YtdojaijnejcoiaaGreat
open Go.RowKit
def Seen (w : World) (k : TypeId) (b n : Nat) (S : Lit → Prop) : Prop :=
 ∃ D : DataW Nat, w.ownsMap Tryz.prog k (plainElem Tryz.prog 4) b n D ∧ Maps.IsMap D ∧ ∀ kl, ∃ c : Bool, D.atKey kl (.lit (.bool false)) = .lit (.bool c) ∧ (c = true ↔ S kl)
theorem Seen.made (w : World) (k : TypeId) : Seen (w.alloc (.map #[] 0)) k w.heap.size 0 (fun _ => False) :=
 ⟨.map [], World.ownsMap_made w _ _ _, Maps.isMap_empty, fun kl => ⟨false, rfl, by simp⟩⟩
theorem Seen.lt {w : World} {k : TypeId} {b n : Nat} {S : Lit → Prop} (h : Seen w k b n S) : b < w.heap.size := by
 obtain ⟨D, h, -⟩ := h
 exact h.lt
theorem Seen.alloc {w : World} {k : TypeId} {b n : Nat} {S : Lit → Prop} (h : Seen w k b n S) (o : Obj) : Seen (w.alloc o) k b n S := by
 obtain ⟨D, h, r⟩ := h
 exact ⟨D, h.alloc o, r⟩
theorem info_bool : (Tryz.prog.info? 4).map (fun i => (i.zero, i.size, i.bytes)) = some (some (.bool false), 1, 1) := by kernel_rfl
theorem zero_bool (w : World) : (zeroValue 4).run Tryz.prog w = .ok (.bool false) w := by
 obtain ⟨i, hi, hz, -, -⟩ := info_parts info_bool
 simp [zeroValue, typeInfo, hi, hz]
theorem plain_bool_inv {P : Program} {e : TypeId} (he : P.underlying e = some .bool) {v : Value} {z : DataW Nat × List MemPlace} (h : plainElem P e v = some z) : ∃ c, v = .bool c ∧ z = (.lit (.bool c), []) := by
 unfold plainElem at h
 rw [he] at h
 cases v <;> simp at h
 exact ⟨_, rfl, h.symm⟩
theorem Seen.look {w : World} {k t : TypeId} {b n : Nat} {S : Lit → Prop} (h : Seen w k b n S) (K : Maps.Keyed Tryz.prog k) (ht : Tryz.prog.underlying t = some (.map k 4)) {key : Value} {kl : Lit} (hkey : keyOf Tryz.prog k key = some kl) :
 ∃ c : Bool, (Instr.lookup t (.map (some b)) key false).run Tryz.prog w = .ok (.bool c) w ∧ (c = true ↔ S kl) := by
 obtain ⟨D, h, -, hS⟩ := h
 obtain ⟨v, ps, hrun, hv⟩ := h.lookup K ht (zero_bool w) (plainElem_bool Tryz.underlying4 false) hkey
 obtain ⟨c, rfl, hc⟩ := plain_bool_inv Tryz.underlying4 hv
 simp only [Prod.mk.injEq] at hc
 obtain ⟨c', h1, h2⟩ := hS kl
 rw [hc.1] at h1
 cases h1
 exact ⟨c, hrun, h2⟩
theorem Seen.put {w : World} {k t : TypeId} {b n : Nat} {S T : Lit → Prop} (h : Seen w k b n S) (K : Maps.Keyed Tryz.prog k) (ht : Tryz.prog.underlying t = some (.map k 4)) (hn : n < maxLen) {key : Value} {kl : Lit} (hkey : keyOf Tryz.prog k key = some kl) (hk : WideAt.IsKeyLit kl)
 (hT : ∀ x, T x ↔ S x ∨ x = kl) : ∃ w', (Instr.mapUpdate t (.map (some b)) key (.bool true)).run Tryz.prog w = .ok () w' ∧ Seen w' k b (n + 1) T ∧ w.grownBy w' (some b) := by
 obtain ⟨D, h, hD, hS⟩ := h
 obtain ⟨w', hrun, hown, hg⟩ := h.update K ht hn hkey (plainElem_bool Tryz.underlying4 true)
 refine ⟨w', hrun, ⟨_, hown, hD.put _ _, fun x => ?_⟩, hg⟩
 by_cases e : x = kl
 · subst e
   exact ⟨true, Maps.atKey_put_same hD hk _ _, by simp [hT]⟩
 · obtain ⟨c, h1, h2⟩ := hS x
   exact ⟨c, (Maps.atKey_put_other e _ _).trans h1, by rw [h2, hT]; simp [e]⟩
theorem laterC_map {w1 W w' : World} {b : Nat} (h : LaterC w1 W) (hb : w1.heap.size ≤ b) (hg : W.grownBy w' (some b)) : LaterC w1 w' := by
 have hB := h.below
 refine .of (hB.trans ⟨hg.os, hg.tape, hg.output, hg.size, fun k hk => hg.block k (Nat.lt_of_lt_of_le hk hB.size) (fun e => ?_)⟩)
 cases e
 omega
end Go.Proofs.YtdojaijnejcoiaaGreat
