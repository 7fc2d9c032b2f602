import Derived.Test.YtdojaijnejcoiaaGreatmc3
import Derived.Deep.RegionHeld3
set_option linter.unusedVariables false
set_option linter.unusedSimpArgs false
set_option maxRecDepth 8000
set_option maxHeartbeats 16000000
namespace Go.Proofs.YtdojaijnejcoiaaGreat
open Go.RowKit
attribute [local go_sem high] eq_sort
def nodeB (ns : List Nd) (i : Nat) : Bool := decide (sortN (ns.take i) (ns.getD i Nd.zero) = some ((ns.getD i Nd.zero).idx, (ns.getD i Nd.zero).wid))
def nodesB (ns : List Nd) : Bool := (List.range ns.length).all (nodeB ns)
theorem nodes_no {ns : List Nd} {k : Nat} (hk : k < ns.length) (h : nodeB ns k = false) : nodesB ns = false := by
 unfold nodesB
 rw [List.all_eq_false]
 exact ⟨k, List.mem_range.2 hk, by rw [h]; exact Bool.false_ne_true⟩
theorem nodes_yes {ns : List Nd} (h : ∀ i, i < ns.length → nodeB ns i = true) : nodesB ns = true := by
 unfold nodesB
 rw [List.all_eq_true]
 exact fun i hi => h i (List.mem_range.1 hi)
theorem SlAt.take {α : Type} {E : En α} {w : World} {b o n c : Nat} {xs : List α} (hn : xs.length = n) (hc : n ≤ c) (hc2 : c ≤ 281474976710656) (h : ∀ i x, xs[i]? = some x → ∃ b' o', some (⟨b, o, none⟩ : Addr) = some ⟨b', o', none⟩ ∧ CellsAt E w b' o' i x) {k : Nat} (hk : k ≤ n) : SlAt E w (.slice (some ⟨b, o, none⟩) k c) (xs.take k) := by
 have hl : (xs.take k).length = k := by rw [List.length_take]; omega
 refine ⟨some ⟨b, o, none⟩, c, by rw [hl], by omega, hc2, fun i x hx => h i x ?_⟩
 rw [List.getElem?_take] at hx
 split at hx
 · exact hx
 · cases hx
theorem LaterC.drew' {w1 W : World} (h : LaterC w1 W) : LaterC w1 W.drew := by obtain ⟨u, rfl⟩ := h; exact u.drew
theorem LaterC.alloc' {w1 W : World} (h : LaterC w1 W) (o : Obj) : LaterC w1 (W.alloc o) := by obtain ⟨u, rfl⟩ := h; exact u.alloc o
theorem LaterC.setCell' {w1 W : World} (h : LaterC w1 W) (p : Addr) (v : Value) (hp : w1.heap.size ≤ p.block) : LaterC w1 (W.setCell p v) := .of (h.below.setCell hp v)
theorem LaterC.size {w1 W : World} (h : LaterC w1 W) : w1.heap.size ≤ W.heap.size := by obtain ⟨u, rfl⟩ := h; exact u.size
theorem keepcell {W w' : World} (hb : Below W.heap.size W w') {a : Addr} {v : Value} (h : W.cell? a = some v) : w'.cell? a = some v := (hb.cell (World.block_lt_of_cell? _ _ h)).trans h
theorem keepfrozen {W w' : World} (hb : Below W.heap.size W w') {a : Addr} {v : Value} (h : W.cell? a = some v) : w'.frozen? a = W.frozen? a := hb.frozen (World.block_lt_of_cell? _ _ h)
theorem below_of {w w1 W : World} (hb : Below w.heap.size w w1) (h : LaterC w1 W) : Below w.heap.size w W := hb.trans (h.below.mono hb.size)
theorem laterC_step {w1 W w' : World} (h : LaterC w1 W) (hb : Below W.heap.size W w') : LaterC w1 w' := by obtain ⟨u, rfl⟩ := h; exact u.step hb
theorem l2Nodes_calls (mv : Value) (M : Md) (w : World) (hM : MdAt w mv M) (hnm : ∀ x, x ∈ M.nodes → x.name.size ≤ 140737488351232) :
 Makes Tryz.prog 39 #[mv] w (.bool (nodesB M.nodes)) := by
 obtain ⟨s0, s1, s2, s3, s4, rfl, hS, -, -, -, -⟩ := hM.at_
 obtain ⟨A, c, rfl, hnc, hc', hA⟩ := hS
 clear hM
 obtain ⟨R, hR⟩ : ∃ R, R = nodesB M.nodes := ⟨_, rfl⟩
 rw [← hR]
 have HNO := Lib.hid (show ∀ k, k < M.nodes.length → nodeB M.nodes k = false → R = false from fun k h1 h2 => hR.trans (nodes_no h1 h2))
 have HYES := Lib.hid (show (∀ j, j < M.nodes.length → nodeB M.nodes j = true) → R = true from fun h => hR.trans (nodes_yes h))
 have HNM := Lib.hid hnm
 clear hR hnm
 generalize M.nodes = ns at *
 generalize hN : ns.length = n at *
 have HN := Lib.hid hN
 have HNC := Lib.hid hnc
 have HC := Lib.hid hc'
 have hn : n ≤ 281474976710656 := Nat.le_trans hnc hc'
 clear hN
 have HA := Lib.hid hA
 go_enter Tryz.func39, Tryz.ntmps39
 go_wp2
 have HB := Lib.hid (box_below w #[.slice A n c, s1, s2, s3, s4] 31)
 have m0 := box_cell w #[.slice A n c, s1, s2, s3, s4] 31 0 _ rfl
 generalize w.alloc (.cells #[.slice A n c, s1, s2, s3, s4] 31) = w1 at *
 have m0 : ∀ u : Later w1, u.val.cell? ⟨w.heap.size, 0, none⟩ = some (.slice A n c) := m0
 generalize w.heap.size = g0 at m0 ⊢
 go_loopw [3] (fun i wr => ∃ k : Nat, k ≤ n ∧ i = .int .i64 k ∧ Hid (∀ j, j < k → nodeB ns j = true) ∧ LaterC w1 wr) (fun i _ => n - (intOf i).toNat)
 case atStart => exact ⟨0, Nat.zero_le _, rfl, Lib.hid (fun i hi => absurd hi (Nat.not_lt_zero _)), LaterC.refl _⟩
 case round =>
  obtain ⟨k, hk, rfl, hto, ⟨u, rfl⟩⟩ := hrel
  by_cases hlt : k < n
  · have hlt' : (k : Int) < n := by omega
    have hkc : (k : Int) ≤ c := by omega
    have hmem : ns.getD k Nd.zero ∈ ns := List.mem_of_getElem? (getD_at (by rw [HN.out]; exact hlt) _)
    have HSZ := Lib.hid (HNM.out _ hmem)
    clear hmem
    obtain ⟨g, o, rfl, hx⟩ := hA k _ (getD_at (by rw [HN.out]; exact hlt) Nd.zero)
    have HSL := Lib.hid (show SlAt enNd w (.slice (some ⟨g, o, none⟩) k c) (ns.take k) from SlAt.take HN.out HNC.out HC.out HA.out (Nat.le_of_lt hlt))
    have HNB := Lib.hid (show nodeB ns k = decide (sortN (ns.take k) (ns.getD k Nd.zero) = some ((ns.getD k Nd.zero).idx, (ns.getD k Nd.zero).wid)) from rfl)
    generalize ns.getD k Nd.zero = x at *
    have q : ∀ (f : Nat) (v : Value), (enNd.cells x)[f]? = some v → ∀ l : Later w1, l.val.cell? ⟨g, o + k * 9 + f, none⟩ = some v := fun f v hv => hx.at_ HB.out f v hv
    have q0 : ∀ l : Later w1, l.val.cell? ⟨g, o + k * 9, none⟩ = some (.int .i64 x.kind) := hx.at_ HB.out 0 _ rfl
    have q1 := q 1 _ rfl
    have q2 := q 2 _ rfl
    have q3 := q 3 _ rfl
    have q4 := q 4 _ rfl
    have q5 := q 5 _ rfl
    have q6 := q 6 _ rfl
    have q7 := q 7 _ rfl
    have q8 := q 8 _ rfl
    clear hx hA q
    have HQ := Lib.hid (show ∀ u : Later w1, u.val.cell? ⟨g0, 0, none⟩ = some (.slice (some ⟨g, o, none⟩) n c) ∧ u.val.cell? ⟨g, o + k * 9, none⟩ = some (.int .i64 x.kind) ∧ u.val.cell? ⟨g, o + k * 9 + 1, none⟩ = some (.int .i64 x.a) ∧ u.val.cell? ⟨g, o + k * 9 + 2, none⟩ = some (.int .i64 x.b) ∧ u.val.cell? ⟨g, o + k * 9 + 3, none⟩ = some (.int .i64 x.c) ∧ u.val.cell? ⟨g, o + k * 9 + 4, none⟩ = some (.int .i64 x.n) ∧ u.val.cell? ⟨g, o + k * 9 + 5, none⟩ = some (.int .i64 x.m) ∧ u.val.cell? ⟨g, o + k * 9 + 6, none⟩ = some (.int .i64 x.idx) ∧ u.val.cell? ⟨g, o + k * 9 + 7, none⟩ = some (.int .i64 x.wid) ∧ u.val.cell? ⟨g, o + k * 9 + 8, none⟩ = some (.string x.name) from fun u => ⟨m0 u, q0 u, q1 u, q2 u, q3 u, q4 u, q5 u, q6 u, q7 u, q8 u⟩)
    have HQL := Lib.hid (show ∀ W, LaterC w1 W → W.cell? ⟨g0, 0, none⟩ = some (.slice (some ⟨g, o, none⟩) n c) ∧ W.cell? ⟨g, o + k * 9, none⟩ = some (.int .i64 x.kind) ∧ W.cell? ⟨g, o + k * 9 + 1, none⟩ = some (.int .i64 x.a) ∧ W.cell? ⟨g, o + k * 9 + 2, none⟩ = some (.int .i64 x.b) ∧ W.cell? ⟨g, o + k * 9 + 3, none⟩ = some (.int .i64 x.c) ∧ W.cell? ⟨g, o + k * 9 + 4, none⟩ = some (.int .i64 x.n) ∧ W.cell? ⟨g, o + k * 9 + 5, none⟩ = some (.int .i64 x.m) ∧ W.cell? ⟨g, o + k * 9 + 6, none⟩ = some (.int .i64 x.idx) ∧ W.cell? ⟨g, o + k * 9 + 7, none⟩ = some (.int .i64 x.wid) ∧ W.cell? ⟨g, o + k * 9 + 8, none⟩ = some (.string x.name) from fun W h => by obtain ⟨v, rfl⟩ := h; exact HQ.out v)
    clear HQ
    cases hr : sortN (ns.take k) x with
    | none =>
      have HV := Lib.hid (show retV (sortN (ns.take k) x) = .tuple #[.agg #[.int .i64 0, .int .i64 0], .bool false] by rw [hr]; rfl)
      have HR := Lib.hid (HNO.out k hlt (by rw [HNB.out, hr]; rfl))
      clear hto hr
      go_wp2
      go_region_held3 (fun w' => w'.cell? ⟨g0, 0, none⟩ = some (.slice (some ⟨g, o, none⟩) n c) ∧ w'.cell? ⟨g, o + k * 9, none⟩ = some (.int .i64 x.kind) ∧ w'.cell? ⟨g, o + k * 9 + 1, none⟩ = some (.int .i64 x.a) ∧ w'.cell? ⟨g, o + k * 9 + 2, none⟩ = some (.int .i64 x.b) ∧ w'.cell? ⟨g, o + k * 9 + 3, none⟩ = some (.int .i64 x.c) ∧ w'.cell? ⟨g, o + k * 9 + 4, none⟩ = some (.int .i64 x.n) ∧ w'.cell? ⟨g, o + k * 9 + 5, none⟩ = some (.int .i64 x.m) ∧ w'.cell? ⟨g, o + k * 9 + 6, none⟩ = some (.int .i64 x.idx) ∧ w'.cell? ⟨g, o + k * 9 + 7, none⟩ = some (.int .i64 x.wid) ∧ w'.cell? ⟨g, o + k * 9 + 8, none⟩ = some (.string x.name)) ((refine HQL.out _ ?_; repeat (first | exact ⟨_, rfl⟩ | refine LaterC.drew' ?_ | refine LaterC.alloc' ?_ _ | exact LaterC.setCell' (LaterC.alloc' ⟨_, rfl⟩ _) _ _ (Later.size _) | refine LaterC.setCell' ?_ _ _ (by first | exact Later.size _ | (simp; exact Later.size _))))) (first | (go_at_call 71; refine (NodeSort_calls _ (ns.take k) x _ (HSL.out.below (below_of HB.out (by repeat (first | exact ⟨_, rfl⟩ | refine LaterC.drew' ?_ | refine LaterC.alloc' ?_ _ | exact LaterC.setCell' (LaterC.alloc' ⟨_, rfl⟩ _) _ _ (Later.size _) | refine LaterC.setCell' ?_ _ _ (by first | exact Later.size _ | (simp; exact Later.size _)))))) HSZ.out).mono ?_; rintro e w' ⟨rfl, hbel⟩; rw [HV.out]; have bx0 := keepcell hbel (a := ⟨u.val.heap.size, 0, none⟩) (v := .int .i64 0); have bx1 := keepcell hbel (a := ⟨u.val.heap.size, 1, none⟩) (v := .int .i64 0); have bf0 := keepfrozen hbel (a := ⟨u.val.heap.size, 0, none⟩) (v := .int .i64 0); have bf1 := keepfrozen hbel (a := ⟨u.val.heap.size, 1, none⟩) (v := .int .i64 0); obtain ⟨u2, hu2⟩ := laterC_step (w1 := w1) (by repeat (first | exact ⟨_, rfl⟩ | refine LaterC.drew' ?_ | refine LaterC.alloc' ?_ _ | exact LaterC.setCell' (LaterC.alloc' ⟨_, rfl⟩ _) _ _ (Later.size _) | refine LaterC.setCell' ?_ _ _ (by first | exact Later.size _ | (simp; exact Later.size _)))) hbel; subst hu2; clear hbel))
      · have e0 : (u2.val.alloc (Obj.cells #[.int .i64 0, .int .i64 0] 44)).cell? ⟨u2.val.heap.size, 0, none⟩ = some (.int .i64 0) := by go_simp
        have e1 : (u2.val.alloc (Obj.cells #[.int .i64 0, .int .i64 0] 44)).cell? ⟨u2.val.heap.size, 1, none⟩ = some (.int .i64 0) := by go_simp
        have hL : LaterC w1 (u2.val.alloc (Obj.cells #[.int .i64 0, .int .i64 0] 44)) := by repeat (first | exact ⟨_, rfl⟩ | refine LaterC.drew' ?_ | refine LaterC.alloc' ?_ _ | exact LaterC.setCell' (LaterC.alloc' ⟨_, rfl⟩ _) _ _ (Later.size _) | refine LaterC.setCell' ?_ _ _ (by first | exact Later.size _ | (simp; exact Later.size _)))
        try clear bx0 bx1 bf0 bf1
        generalize (u2.val.alloc (Obj.cells #[.int .i64 0, .int .i64 0] 44)) = w4 at *
        generalize u2.val.heap.size = G at *
        have HL := Lib.hid hL
        have n0 := Later.re m0 hL
        have n6 := Later.re q6 hL
        have n7 := Later.re q7 hL
        have e0 := Later.cell e0
        have e1 := Later.cell e1
        clear m0 q0 q1 q2 q3 q4 q5 q6 q7 q8 hL
        refine at_world (w := w4) ?_
        intro u3
        go_wp2
        refine wp_region_later (w0 := w4) (by kernel_rfl) (by kernel_rfl) ⟨u3, rfl⟩ ?_
        repeat (go_big_quiet_step (fail))
        refine wpQuiet_nil ?_
        rintro _ ⟨u5, rfl⟩
        go_wp2
        go_ret
        exact ⟨ret_eq (congrArg Value.bool HR.out.symm), HB.out.trans ((HL.out.trans ⟨u5, rfl⟩).below.mono HB.out.size)⟩
      · have e0 : ((u2.val.setCell ⟨u.val.heap.size, 0, none⟩ (.int .i64 0)).setCell ⟨u.val.heap.size, 1, none⟩ (.int .i64 0)).cell? ⟨u.val.heap.size, 0, none⟩ = some (.int .i64 0) := (World.cell?_setCell_other _ _ _ _ (by intro e; simp only [Addr.mk.injEq] at e; omega)).trans (World.cell?_setCell_same _ _ _ (bx0 (by go_simp)))
        have e1 : ((u2.val.setCell ⟨u.val.heap.size, 0, none⟩ (.int .i64 0)).setCell ⟨u.val.heap.size, 1, none⟩ (.int .i64 0)).cell? ⟨u.val.heap.size, 1, none⟩ = some (.int .i64 0) := World.cell?_setCell_same _ _ _ ((World.cell?_setCell_other _ _ _ _ (by intro e; simp only [Addr.mk.injEq] at e; omega)).trans (bx1 (by go_simp)))
        have hL : LaterC w1 ((u2.val.setCell ⟨u.val.heap.size, 0, none⟩ (.int .i64 0)).setCell ⟨u.val.heap.size, 1, none⟩ (.int .i64 0)) := by repeat (first | exact ⟨_, rfl⟩ | refine LaterC.drew' ?_ | refine LaterC.alloc' ?_ _ | exact LaterC.setCell' (LaterC.alloc' ⟨_, rfl⟩ _) _ _ (Later.size _) | refine LaterC.setCell' ?_ _ _ (by first | exact Later.size _ | (simp; exact Later.size _)))
        try clear bx0 bx1 bf0 bf1
        generalize ((u2.val.setCell ⟨u.val.heap.size, 0, none⟩ (.int .i64 0)).setCell ⟨u.val.heap.size, 1, none⟩ (.int .i64 0)) = w4 at *
        generalize u.val.heap.size = G at *
        have HL := Lib.hid hL
        have n0 := Later.re m0 hL
        have n6 := Later.re q6 hL
        have n7 := Later.re q7 hL
        have e0 := Later.cell e0
        have e1 := Later.cell e1
        clear m0 q0 q1 q2 q3 q4 q5 q6 q7 q8 hL
        refine at_world (w := w4) ?_
        intro u3
        go_wp2
        refine wp_region_later (w0 := w4) (by kernel_rfl) (by kernel_rfl) ⟨u3, rfl⟩ ?_
        repeat (go_big_quiet_step (fail))
        refine wpQuiet_nil ?_
        rintro _ ⟨u5, rfl⟩
        go_wp2
        go_ret
        exact ⟨ret_eq (congrArg Value.bool HR.out.symm), HB.out.trans ((HL.out.trans ⟨u5, rfl⟩).below.mono HB.out.size)⟩
    | some p =>
      obtain ⟨pi, pa⟩ := p
      have HV := Lib.hid (show retV (sortN (ns.take k) x) = .tuple #[.agg #[.int .i64 pi, .int .i64 pa], .bool true] by rw [hr]; rfl)
      by_cases he : (pi == x.idx && (pa == x.wid)) = true
      · have HTO := Lib.hid (show ∀ j, j < k + 1 → nodeB ns j = true from fun j hj => by
         rcases Nat.lt_or_ge j k with g | g
         · exact hto.out j g
         · obtain rfl : j = k := by omega
           rw [HNB.out, hr]
           simp only [Bool.and_eq_true, beq_iff_eq] at he
           rw [he.1, he.2]
           exact decide_eq_true rfl)
        clear hto hr
        go_wp2
        go_region_held3 (fun w' => w'.cell? ⟨g0, 0, none⟩ = some (.slice (some ⟨g, o, none⟩) n c) ∧ w'.cell? ⟨g, o + k * 9, none⟩ = some (.int .i64 x.kind) ∧ w'.cell? ⟨g, o + k * 9 + 1, none⟩ = some (.int .i64 x.a) ∧ w'.cell? ⟨g, o + k * 9 + 2, none⟩ = some (.int .i64 x.b) ∧ w'.cell? ⟨g, o + k * 9 + 3, none⟩ = some (.int .i64 x.c) ∧ w'.cell? ⟨g, o + k * 9 + 4, none⟩ = some (.int .i64 x.n) ∧ w'.cell? ⟨g, o + k * 9 + 5, none⟩ = some (.int .i64 x.m) ∧ w'.cell? ⟨g, o + k * 9 + 6, none⟩ = some (.int .i64 x.idx) ∧ w'.cell? ⟨g, o + k * 9 + 7, none⟩ = some (.int .i64 x.wid) ∧ w'.cell? ⟨g, o + k * 9 + 8, none⟩ = some (.string x.name)) ((refine HQL.out _ ?_; repeat (first | exact ⟨_, rfl⟩ | refine LaterC.drew' ?_ | refine LaterC.alloc' ?_ _ | exact LaterC.setCell' (LaterC.alloc' ⟨_, rfl⟩ _) _ _ (Later.size _) | refine LaterC.setCell' ?_ _ _ (by first | exact Later.size _ | (simp; exact Later.size _))))) (first | (go_at_call 71; refine (NodeSort_calls _ (ns.take k) x _ (HSL.out.below (below_of HB.out (by repeat (first | exact ⟨_, rfl⟩ | refine LaterC.drew' ?_ | refine LaterC.alloc' ?_ _ | exact LaterC.setCell' (LaterC.alloc' ⟨_, rfl⟩ _) _ _ (Later.size _) | refine LaterC.setCell' ?_ _ _ (by first | exact Later.size _ | (simp; exact Later.size _)))))) HSZ.out).mono ?_; rintro e w' ⟨rfl, hbel⟩; rw [HV.out]; have bx0 := keepcell hbel (a := ⟨u.val.heap.size, 0, none⟩) (v := .int .i64 0); have bx1 := keepcell hbel (a := ⟨u.val.heap.size, 1, none⟩) (v := .int .i64 0); have bf0 := keepfrozen hbel (a := ⟨u.val.heap.size, 0, none⟩) (v := .int .i64 0); have bf1 := keepfrozen hbel (a := ⟨u.val.heap.size, 1, none⟩) (v := .int .i64 0); obtain ⟨u2, hu2⟩ := laterC_step (w1 := w1) (by repeat (first | exact ⟨_, rfl⟩ | refine LaterC.drew' ?_ | refine LaterC.alloc' ?_ _ | exact LaterC.setCell' (LaterC.alloc' ⟨_, rfl⟩ _) _ _ (Later.size _) | refine LaterC.setCell' ?_ _ _ (by first | exact Later.size _ | (simp; exact Later.size _)))) hbel; subst hu2; clear hbel))
        · have e0 : (u2.val.alloc (Obj.cells #[.int .i64 pi, .int .i64 pa] 44)).cell? ⟨u2.val.heap.size, 0, none⟩ = some (.int .i64 pi) := by go_simp
          have e1 : (u2.val.alloc (Obj.cells #[.int .i64 pi, .int .i64 pa] 44)).cell? ⟨u2.val.heap.size, 1, none⟩ = some (.int .i64 pa) := by go_simp
          have hL : LaterC w1 (u2.val.alloc (Obj.cells #[.int .i64 pi, .int .i64 pa] 44)) := by repeat (first | exact ⟨_, rfl⟩ | refine LaterC.drew' ?_ | refine LaterC.alloc' ?_ _ | exact LaterC.setCell' (LaterC.alloc' ⟨_, rfl⟩ _) _ _ (Later.size _) | refine LaterC.setCell' ?_ _ _ (by first | exact Later.size _ | (simp; exact Later.size _)))
          try clear bx0 bx1 bf0 bf1
          generalize (u2.val.alloc (Obj.cells #[.int .i64 pi, .int .i64 pa] 44)) = w4 at *
          generalize u2.val.heap.size = G at *
          have HL := Lib.hid hL
          have n0 := Later.re m0 hL
          have n6 := Later.re q6 hL
          have n7 := Later.re q7 hL
          have e0 := Later.cell e0
          have e1 := Later.cell e1
          clear m0 q0 q1 q2 q3 q4 q5 q6 q7 q8 hL
          refine at_world (w := w4) ?_
          intro u3
          go_wp2
          refine wp_region_later (w0 := w4) (by kernel_rfl) (by kernel_rfl) ⟨u3, rfl⟩ ?_
          repeat (go_big_quiet_step (fail))
          refine wpQuiet_nil ?_
          rintro _ ⟨u5, rfl⟩
          go_wp2
          go_roundw
          case rel => exact ⟨k + 1, by omega, by go_num, HTO, HL.out.trans ⟨u5, rfl⟩⟩
          case measure => simp [intOf] <;> omega
        · have e0 : ((u2.val.setCell ⟨u.val.heap.size, 0, none⟩ (.int .i64 pi)).setCell ⟨u.val.heap.size, 1, none⟩ (.int .i64 pa)).cell? ⟨u.val.heap.size, 0, none⟩ = some (.int .i64 pi) := (World.cell?_setCell_other _ _ _ _ (by intro e; simp only [Addr.mk.injEq] at e; omega)).trans (World.cell?_setCell_same _ _ _ (bx0 (by go_simp)))
          have e1 : ((u2.val.setCell ⟨u.val.heap.size, 0, none⟩ (.int .i64 pi)).setCell ⟨u.val.heap.size, 1, none⟩ (.int .i64 pa)).cell? ⟨u.val.heap.size, 1, none⟩ = some (.int .i64 pa) := World.cell?_setCell_same _ _ _ ((World.cell?_setCell_other _ _ _ _ (by intro e; simp only [Addr.mk.injEq] at e; omega)).trans (bx1 (by go_simp)))
          have hL : LaterC w1 ((u2.val.setCell ⟨u.val.heap.size, 0, none⟩ (.int .i64 pi)).setCell ⟨u.val.heap.size, 1, none⟩ (.int .i64 pa)) := by repeat (first | exact ⟨_, rfl⟩ | refine LaterC.drew' ?_ | refine LaterC.alloc' ?_ _ | exact LaterC.setCell' (LaterC.alloc' ⟨_, rfl⟩ _) _ _ (Later.size _) | refine LaterC.setCell' ?_ _ _ (by first | exact Later.size _ | (simp; exact Later.size _)))
          try clear bx0 bx1 bf0 bf1
          generalize ((u2.val.setCell ⟨u.val.heap.size, 0, none⟩ (.int .i64 pi)).setCell ⟨u.val.heap.size, 1, none⟩ (.int .i64 pa)) = w4 at *
          generalize u.val.heap.size = G at *
          have HL := Lib.hid hL
          have n0 := Later.re m0 hL
          have n6 := Later.re q6 hL
          have n7 := Later.re q7 hL
          have e0 := Later.cell e0
          have e1 := Later.cell e1
          clear m0 q0 q1 q2 q3 q4 q5 q6 q7 q8 hL
          refine at_world (w := w4) ?_
          intro u3
          go_wp2
          refine wp_region_later (w0 := w4) (by kernel_rfl) (by kernel_rfl) ⟨u3, rfl⟩ ?_
          repeat (go_big_quiet_step (fail))
          refine wpQuiet_nil ?_
          rintro _ ⟨u5, rfl⟩
          go_wp2
          go_roundw
          case rel => exact ⟨k + 1, by omega, by go_num, HTO, HL.out.trans ⟨u5, rfl⟩⟩
          case measure => simp [intOf] <;> omega
      · have he := eq_false_of_ne_true he
        have HR := Lib.hid (HNO.out k hlt (by
         rw [HNB.out, hr]
         refine decide_eq_false (fun h => ?_)
         cases h
         simp at he))
        clear hto hr
        go_wp2
        go_region_held3 (fun w' => w'.cell? ⟨g0, 0, none⟩ = some (.slice (some ⟨g, o, none⟩) n c) ∧ w'.cell? ⟨g, o + k * 9, none⟩ = some (.int .i64 x.kind) ∧ w'.cell? ⟨g, o + k * 9 + 1, none⟩ = some (.int .i64 x.a) ∧ w'.cell? ⟨g, o + k * 9 + 2, none⟩ = some (.int .i64 x.b) ∧ w'.cell? ⟨g, o + k * 9 + 3, none⟩ = some (.int .i64 x.c) ∧ w'.cell? ⟨g, o + k * 9 + 4, none⟩ = some (.int .i64 x.n) ∧ w'.cell? ⟨g, o + k * 9 + 5, none⟩ = some (.int .i64 x.m) ∧ w'.cell? ⟨g, o + k * 9 + 6, none⟩ = some (.int .i64 x.idx) ∧ w'.cell? ⟨g, o + k * 9 + 7, none⟩ = some (.int .i64 x.wid) ∧ w'.cell? ⟨g, o + k * 9 + 8, none⟩ = some (.string x.name)) ((refine HQL.out _ ?_; repeat (first | exact ⟨_, rfl⟩ | refine LaterC.drew' ?_ | refine LaterC.alloc' ?_ _ | exact LaterC.setCell' (LaterC.alloc' ⟨_, rfl⟩ _) _ _ (Later.size _) | refine LaterC.setCell' ?_ _ _ (by first | exact Later.size _ | (simp; exact Later.size _))))) (first | (go_at_call 71; refine (NodeSort_calls _ (ns.take k) x _ (HSL.out.below (below_of HB.out (by repeat (first | exact ⟨_, rfl⟩ | refine LaterC.drew' ?_ | refine LaterC.alloc' ?_ _ | exact LaterC.setCell' (LaterC.alloc' ⟨_, rfl⟩ _) _ _ (Later.size _) | refine LaterC.setCell' ?_ _ _ (by first | exact Later.size _ | (simp; exact Later.size _)))))) HSZ.out).mono ?_; rintro e w' ⟨rfl, hbel⟩; rw [HV.out]; have bx0 := keepcell hbel (a := ⟨u.val.heap.size, 0, none⟩) (v := .int .i64 0); have bx1 := keepcell hbel (a := ⟨u.val.heap.size, 1, none⟩) (v := .int .i64 0); have bf0 := keepfrozen hbel (a := ⟨u.val.heap.size, 0, none⟩) (v := .int .i64 0); have bf1 := keepfrozen hbel (a := ⟨u.val.heap.size, 1, none⟩) (v := .int .i64 0); obtain ⟨u2, hu2⟩ := laterC_step (w1 := w1) (by repeat (first | exact ⟨_, rfl⟩ | refine LaterC.drew' ?_ | refine LaterC.alloc' ?_ _ | exact LaterC.setCell' (LaterC.alloc' ⟨_, rfl⟩ _) _ _ (Later.size _) | refine LaterC.setCell' ?_ _ _ (by first | exact Later.size _ | (simp; exact Later.size _)))) hbel; subst hu2; clear hbel))
        · have e0 : (u2.val.alloc (Obj.cells #[.int .i64 pi, .int .i64 pa] 44)).cell? ⟨u2.val.heap.size, 0, none⟩ = some (.int .i64 pi) := by go_simp
          have e1 : (u2.val.alloc (Obj.cells #[.int .i64 pi, .int .i64 pa] 44)).cell? ⟨u2.val.heap.size, 1, none⟩ = some (.int .i64 pa) := by go_simp
          have hL : LaterC w1 (u2.val.alloc (Obj.cells #[.int .i64 pi, .int .i64 pa] 44)) := by repeat (first | exact ⟨_, rfl⟩ | refine LaterC.drew' ?_ | refine LaterC.alloc' ?_ _ | exact LaterC.setCell' (LaterC.alloc' ⟨_, rfl⟩ _) _ _ (Later.size _) | refine LaterC.setCell' ?_ _ _ (by first | exact Later.size _ | (simp; exact Later.size _)))
          try clear bx0 bx1 bf0 bf1
          generalize (u2.val.alloc (Obj.cells #[.int .i64 pi, .int .i64 pa] 44)) = w4 at *
          generalize u2.val.heap.size = G at *
          have HL := Lib.hid hL
          have n0 := Later.re m0 hL
          have n6 := Later.re q6 hL
          have n7 := Later.re q7 hL
          have e0 := Later.cell e0
          have e1 := Later.cell e1
          clear m0 q0 q1 q2 q3 q4 q5 q6 q7 q8 hL
          refine at_world (w := w4) ?_
          intro u3
          go_wp2
          refine wp_region_later (w0 := w4) (by kernel_rfl) (by kernel_rfl) ⟨u3, rfl⟩ ?_
          repeat (go_big_quiet_step (fail))
          refine wpQuiet_nil ?_
          rintro _ ⟨u5, rfl⟩
          go_wp2
          go_ret
          exact ⟨ret_eq (congrArg Value.bool HR.out.symm), HB.out.trans ((HL.out.trans ⟨u5, rfl⟩).below.mono HB.out.size)⟩
        · have e0 : ((u2.val.setCell ⟨u.val.heap.size, 0, none⟩ (.int .i64 pi)).setCell ⟨u.val.heap.size, 1, none⟩ (.int .i64 pa)).cell? ⟨u.val.heap.size, 0, none⟩ = some (.int .i64 pi) := (World.cell?_setCell_other _ _ _ _ (by intro e; simp only [Addr.mk.injEq] at e; omega)).trans (World.cell?_setCell_same _ _ _ (bx0 (by go_simp)))
          have e1 : ((u2.val.setCell ⟨u.val.heap.size, 0, none⟩ (.int .i64 pi)).setCell ⟨u.val.heap.size, 1, none⟩ (.int .i64 pa)).cell? ⟨u.val.heap.size, 1, none⟩ = some (.int .i64 pa) := World.cell?_setCell_same _ _ _ ((World.cell?_setCell_other _ _ _ _ (by intro e; simp only [Addr.mk.injEq] at e; omega)).trans (bx1 (by go_simp)))
          have hL : LaterC w1 ((u2.val.setCell ⟨u.val.heap.size, 0, none⟩ (.int .i64 pi)).setCell ⟨u.val.heap.size, 1, none⟩ (.int .i64 pa)) := by repeat (first | exact ⟨_, rfl⟩ | refine LaterC.drew' ?_ | refine LaterC.alloc' ?_ _ | exact LaterC.setCell' (LaterC.alloc' ⟨_, rfl⟩ _) _ _ (Later.size _) | refine LaterC.setCell' ?_ _ _ (by first | exact Later.size _ | (simp; exact Later.size _)))
          try clear bx0 bx1 bf0 bf1
          generalize ((u2.val.setCell ⟨u.val.heap.size, 0, none⟩ (.int .i64 pi)).setCell ⟨u.val.heap.size, 1, none⟩ (.int .i64 pa)) = w4 at *
          generalize u.val.heap.size = G at *
          have HL := Lib.hid hL
          have n0 := Later.re m0 hL
          have n6 := Later.re q6 hL
          have n7 := Later.re q7 hL
          have e0 := Later.cell e0
          have e1 := Later.cell e1
          clear m0 q0 q1 q2 q3 q4 q5 q6 q7 q8 hL
          refine at_world (w := w4) ?_
          intro u3
          go_wp2
          refine wp_region_later (w0 := w4) (by kernel_rfl) (by kernel_rfl) ⟨u3, rfl⟩ ?_
          repeat (go_big_quiet_step (fail))
          refine wpQuiet_nil ?_
          rintro _ ⟨u5, rfl⟩
          go_wp2
          go_ret
          exact ⟨ret_eq (congrArg Value.bool HR.out.symm), HB.out.trans ((HL.out.trans ⟨u5, rfl⟩).below.mono HB.out.size)⟩
  · obtain rfl : k = n := by omega
    have HR := Lib.hid (HYES.out hto.out)
    clear hto hA
    go_wp2
    go_ret
    exact ⟨ret_eq (congrArg Value.bool HR.out.symm), u.back HB.out⟩
end Go.Proofs.YtdojaijnejcoiaaGreat
namespace Go.Proofs.YtdojaijnejcoiaaGreat
open Go.RowKit
def bigB (M : Md) : Bool := decide (60 < M.nodes.length) || (decide (60 < M.inits.length) || (decide (60 < M.nexts.length) || (decide (4 < M.bads.length) || decide (4 < M.holds.length))))
noncomputable def codeN (M : Md) : Int :=
 if bigB M = true then 1
 else if nodesB M.nodes = false then 2
 else if twiceB M = true then 3
 else if bindsB M = false then 4
 else if propsB M.nodes M.bads = false then 5
 else if propsB M.nodes M.holds = false then 5
 else if 8 < allN 36 M.nodes then 6
 else if 5 < allN 35 M.nodes then 6
 else 0
theorem nodes_down {ns : List Nd} (h : nodesB ns = true) : Down ns ns.length := by
 intro i hi m hm hk
 unfold nodesB at h
 rw [List.all_eq_true] at h
 have h1 := h i (List.mem_range.2 hi)
 unfold nodeB at h1
 have h2 := of_decide_eq_true h1
 by_cases hf : fieldsB (ns.take i).length (ns.getD i Nd.zero) = true
 · have := fields_part_in hf hm hk
   rw [List.length_take] at this
   omega
 · rw [sortN_bad (eq_false_of_ne_true hf)] at h2
   cases h2
theorem ModelCode_calls (mv : Value) (M : Md) (w : World) (hM : MdAt w mv M) (hnm : ∀ x, x ∈ M.nodes → x.name.size ≤ 140737488351232) :
 Makes Tryz.prog 14 #[mv] w (.int .i64 (codeN M)) := by
 have HM := Lib.hid hM
 have HNM := Lib.hid hnm
 obtain ⟨s0, s1, s2, s3, s4, rfl, h0, h1, h2, h3, h4⟩ := hM.at_
 have HS3 := Lib.hid h3
 have HS4 := Lib.hid h4
 obtain ⟨A0, c0, rfl, hl0, hc0, -⟩ := h0
 obtain ⟨A1, c1, rfl, hl1, hc1, -⟩ := h1
 obtain ⟨A2, c2, rfl, hl2, hc2, -⟩ := h2
 obtain ⟨A3, c3, rfl, hl3, hc3, -⟩ := h3
 obtain ⟨A4, c4, rfl, hl4, hc4, -⟩ := h4
 clear hM hnm
 have hbig : bigB M = (decide (60 < M.nodes.length) || (decide (60 < M.inits.length) || (decide (60 < M.nexts.length) || (decide (4 < M.bads.length) || decide (4 < M.holds.length))))) := rfl
 generalize hn0 : M.nodes.length = n0 at *
 generalize hn1 : M.inits.length = n1 at *
 generalize hn2 : M.nexts.length = n2 at *
 generalize hn3 : M.bads.length = n3 at *
 generalize hn4 : M.holds.length = n4 at *
 have HN0 := Lib.hid hn0
 clear hn0 hn1 hn2 hn3 hn4
 obtain ⟨R, hR⟩ : ∃ R, R = codeN M := ⟨_, rfl⟩
 rw [← hR]
 unfold codeN at hR
 have HR0 := Lib.hid hR
 clear hR
 have HBIG := Lib.hid hbig
 clear hbig
 go_enter Tryz.func14, Tryz.ntmps14
 have HB := Lib.hid (box_below w #[.slice A0 n0 c0, .slice A1 n1 c1, .slice A2 n2 c2, .slice A3 n3 c3, .slice A4 n4 c4] 31)
 have m := fun f v h => box_cell w #[.slice A0 n0 c0, .slice A1 n1 c1, .slice A2 n2 c2, .slice A3 n3 c3, .slice A4 n4 c4] 31 f v h
 have m0 := m 0 _ rfl
 have m1 := m 1 _ rfl
 have m2 := m 2 _ rfl
 have m3 := m 3 _ rfl
 have m4 := m 4 _ rfl
 clear m
 go_upto_region 1 with fail
 generalize w.alloc (.cells #[.slice A0 n0 c0, .slice A1 n1 c1, .slice A2 n2 c2, .slice A3 n3 c3, .slice A4 n4 c4] 31) = w1 at *
 have m0 : ∀ u : Later w1, u.val.cell? ⟨w.heap.size, 0, none⟩ = some (.slice A0 n0 c0) := m0
 have m1 : ∀ u : Later w1, u.val.cell? ⟨w.heap.size, 1, none⟩ = some (.slice A1 n1 c1) := m1
 have m2 : ∀ u : Later w1, u.val.cell? ⟨w.heap.size, 2, none⟩ = some (.slice A2 n2 c2) := m2
 have m3 : ∀ u : Later w1, u.val.cell? ⟨w.heap.size, 3, none⟩ = some (.slice A3 n3 c3) := m3
 have m4 : ∀ u : Later w1, u.val.cell? ⟨w.heap.size, 4, none⟩ = some (.slice A4 n4 c4) := m4
 have HS3 := Lib.hid (HS3.out.below HB.out)
 have HS4 := Lib.hid (HS4.out.below HB.out)
 have HM1 := Lib.hid (HM.out.below HB.out)
 generalize w.heap.size = g0 at m0 m1 m2 m3 m4 ⊢
 refine at_world (w := w1) ?_
 intro u0
 go_cut [3] (fun c wx => c = .bool (bigB M) ∧ wx = u0.val)
 case first =>
  by_cases h0 : 60 < n0
  · have HW := Lib.hid (show bigB M = true by rw [HBIG.out]; simp [h0])
    have h0' : (60 : Int) < n0 := by omega
    go_wp2
    go_meet
    case rel => exact ⟨congrArg Value.bool HW.out.symm, rfl⟩
  · have h0' : ¬ (60 : Int) < n0 := by omega
    by_cases h1 : 60 < n1
    · have HW := Lib.hid (show bigB M = true by rw [HBIG.out]; simp [h0, h1])
      have h1' : (60 : Int) < n1 := by omega
      go_wp2
      go_meet
      case rel => exact ⟨congrArg Value.bool HW.out.symm, rfl⟩
    · have h1' : ¬ (60 : Int) < n1 := by omega
      by_cases h2 : 60 < n2
      · have HW := Lib.hid (show bigB M = true by rw [HBIG.out]; simp [h0, h1, h2])
        have h2' : (60 : Int) < n2 := by omega
        go_wp2
        go_meet
        case rel => exact ⟨congrArg Value.bool HW.out.symm, rfl⟩
      · have h2' : ¬ (60 : Int) < n2 := by omega
        by_cases h3 : 4 < n3
        · have HW := Lib.hid (show bigB M = true by rw [HBIG.out]; simp [h0, h1, h2, h3])
          have h3' : (4 : Int) < n3 := by omega
          go_wp2
          go_meet
          case rel => exact ⟨congrArg Value.bool HW.out.symm, rfl⟩
        · have h3' : ¬ (4 : Int) < n3 := by omega
          by_cases h4 : 4 < n4
          · have HW := Lib.hid (show bigB M = true by rw [HBIG.out]; simp [h0, h1, h2, h3, h4])
            have h4' : (4 : Int) < n4 := by omega
            go_wp2
            go_meet
            case rel => exact ⟨congrArg Value.bool HW.out.symm, rfl⟩
          · have h4' : ¬ (4 : Int) < n4 := by omega
            have HW := Lib.hid (show bigB M = false by rw [HBIG.out]; simp [h0, h1, h2, h3, h4])
            go_wp2
            go_meet
            case rel => exact ⟨congrArg Value.bool HW.out.symm, rfl⟩
 case rest =>
  obtain ⟨rfl, rfl⟩ := hcut
  clear HBIG
  cases hbig : bigB M with
  | true =>
    have HR := Lib.hid (HR0.out.trans (if_pos hbig))
    clear hbig
    go_wp2
    go_ret
    exact ⟨ret_eq (congrArg (Value.int .i64) HR.out.symm), HB.out.trans (u0.prop.mono HB.out.size)⟩
  | false =>
    have HR1 := Lib.hid (HR0.out.trans (if_neg (by rw [hbig]; exact Bool.noConfusion)))
    clear hbig
    by_cases h0 : nodesB M.nodes = false
    · have HR := Lib.hid (HR1.out.trans (if_pos h0))
      have HNODES := Lib.hid h0
      clear h0
      go_wp2_with (first | (go_at_call 39; refine (Calls.later (u := u0) (l2Nodes_calls _ M _ (HM1.out.later _) HNM.out)).mono ?_; rintro e w' ⟨rfl, u1, rfl⟩; rw [HNODES.out]))
      go_ret
      exact ⟨ret_eq (congrArg (Value.int .i64) HR.out.symm), HB.out.trans (u1.prop.mono HB.out.size)⟩
    · have HR2 := Lib.hid (HR1.out.trans (if_neg h0))
      have HNODES := Lib.hid (eq_true_of_ne_false h0)
      have HD := Lib.hid (nodes_down HNODES.out)
      clear h0
      by_cases h1 : twiceB M = true
      · have HR := Lib.hid (HR2.out.trans (if_pos h1))
        have HTWICE := Lib.hid h1
        clear h1
        go_wp2_with (first | (go_at_call 39; refine (Calls.later (u := u0) (l2Nodes_calls _ M _ (HM1.out.later _) HNM.out)).mono ?_; rintro e w' ⟨rfl, u1, rfl⟩; rw [HNODES.out]) | (go_at_call 40; refine (Calls.later (u := u1) (l2Twice_calls _ M _ (HM1.out.later _))).mono ?_; rintro e w' ⟨rfl, u2, rfl⟩; rw [HTWICE.out]))
        go_ret
        exact ⟨ret_eq (congrArg (Value.int .i64) HR.out.symm), HB.out.trans (u2.prop.mono HB.out.size)⟩
      · have HR3 := Lib.hid (HR2.out.trans (if_neg h1))
        have HTWICE := Lib.hid (eq_false_of_ne_true h1)
        clear h1
        by_cases h2 : bindsB M = false
        · have HR := Lib.hid (HR3.out.trans (if_pos h2))
          have HBINDS := Lib.hid h2
          clear h2
          go_wp2_with (first | (go_at_call 39; refine (Calls.later (u := u0) (l2Nodes_calls _ M _ (HM1.out.later _) HNM.out)).mono ?_; rintro e w' ⟨rfl, u1, rfl⟩; rw [HNODES.out]) | (go_at_call 40; refine (Calls.later (u := u1) (l2Twice_calls _ M _ (HM1.out.later _))).mono ?_; rintro e w' ⟨rfl, u2, rfl⟩; rw [HTWICE.out]) | (go_at_call 41; refine (Calls.later (u := u2) (l2Binds_calls _ M _ (HM1.out.later _) HD.out)).mono ?_; rintro e w' ⟨rfl, u3, rfl⟩; rw [HBINDS.out]))
          go_ret
          exact ⟨ret_eq (congrArg (Value.int .i64) HR.out.symm), HB.out.trans (u3.prop.mono HB.out.size)⟩
        · have HR4 := Lib.hid (HR3.out.trans (if_neg h2))
          have HBINDS := Lib.hid (eq_true_of_ne_false h2)
          clear h2
          by_cases h3 : propsB M.nodes M.bads = false
          · have HR := Lib.hid (HR4.out.trans (if_pos h3))
            have HP1 := Lib.hid h3
            clear h3
            go_wp2_with (first | (go_at_call 39; refine (Calls.later (u := u0) (l2Nodes_calls _ M _ (HM1.out.later _) HNM.out)).mono ?_; rintro e w' ⟨rfl, u1, rfl⟩; rw [HNODES.out]) | (go_at_call 40; refine (Calls.later (u := u1) (l2Twice_calls _ M _ (HM1.out.later _))).mono ?_; rintro e w' ⟨rfl, u2, rfl⟩; rw [HTWICE.out]) | (go_at_call 41; refine (Calls.later (u := u2) (l2Binds_calls _ M _ (HM1.out.later _) HD.out)).mono ?_; rintro e w' ⟨rfl, u3, rfl⟩; rw [HBINDS.out]) | (go_at_call 42; with_reducible refine (Calls.later (u := u3) (l2Props_calls _ (.slice A3 n3 c3) M M.bads _ (HM1.out.later _) (HS3.out.later _))).mono ?_; rintro e w' ⟨rfl, u4, rfl⟩; rw [HP1.out]))
            go_ret
            exact ⟨ret_eq (congrArg (Value.int .i64) HR.out.symm), HB.out.trans (u4.prop.mono HB.out.size)⟩
          · have HR5 := Lib.hid (HR4.out.trans (if_neg h3))
            have HP1 := Lib.hid (eq_true_of_ne_false h3)
            clear h3
            by_cases h4 : propsB M.nodes M.holds = false
            · have HR := Lib.hid (HR5.out.trans (if_pos h4))
              have HP2 := Lib.hid h4
              clear h4
              go_wp2_with (first | (go_at_call 39; refine (Calls.later (u := u0) (l2Nodes_calls _ M _ (HM1.out.later _) HNM.out)).mono ?_; rintro e w' ⟨rfl, u1, rfl⟩; rw [HNODES.out]) | (go_at_call 40; refine (Calls.later (u := u1) (l2Twice_calls _ M _ (HM1.out.later _))).mono ?_; rintro e w' ⟨rfl, u2, rfl⟩; rw [HTWICE.out]) | (go_at_call 41; refine (Calls.later (u := u2) (l2Binds_calls _ M _ (HM1.out.later _) HD.out)).mono ?_; rintro e w' ⟨rfl, u3, rfl⟩; rw [HBINDS.out]) | (go_at_call 42; with_reducible refine (Calls.later (u := u3) (l2Props_calls _ (.slice A3 n3 c3) M M.bads _ (HM1.out.later _) (HS3.out.later _))).mono ?_; rintro e w' ⟨rfl, u4, rfl⟩; rw [HP1.out]) | (go_at_call 42; with_reducible refine (Calls.later (u := u4) (l2Props_calls _ (.slice A4 n4 c4) M M.holds _ (HM1.out.later _) (HS4.out.later _))).mono ?_; rintro e w' ⟨rfl, u5, rfl⟩; rw [HP2.out]))
              go_ret
              exact ⟨ret_eq (congrArg (Value.int .i64) HR.out.symm), HB.out.trans (u5.prop.mono HB.out.size)⟩
            · have HR6 := Lib.hid (HR5.out.trans (if_neg h4))
              have HP2 := Lib.hid (eq_true_of_ne_false h4)
              clear h4
              obtain ⟨x36, hx36⟩ : ∃ x, x = allN 36 M.nodes := ⟨_, rfl⟩
              obtain ⟨x35, hx35⟩ : ∃ x, x = allN 35 M.nodes := ⟨_, rfl⟩
              have HA1 := Lib.hid hx36.symm
              have HA2 := Lib.hid hx35.symm
              clear hx36 hx35
              rw [HA1.out, HA2.out] at HR6
              by_cases h8 : 8 < x36
              · have HR := Lib.hid (HR6.out.trans (if_pos h8))
                go_wp2_with (first | (go_at_call 39; refine (Calls.later (u := u0) (l2Nodes_calls _ M _ (HM1.out.later _) HNM.out)).mono ?_; rintro e w' ⟨rfl, u1, rfl⟩; rw [HNODES.out]) | (go_at_call 40; refine (Calls.later (u := u1) (l2Twice_calls _ M _ (HM1.out.later _))).mono ?_; rintro e w' ⟨rfl, u2, rfl⟩; rw [HTWICE.out]) | (go_at_call 41; refine (Calls.later (u := u2) (l2Binds_calls _ M _ (HM1.out.later _) HD.out)).mono ?_; rintro e w' ⟨rfl, u3, rfl⟩; rw [HBINDS.out]) | (go_at_call 42; with_reducible refine (Calls.later (u := u3) (l2Props_calls _ (.slice A3 n3 c3) M M.bads _ (HM1.out.later _) (HS3.out.later _))).mono ?_; rintro e w' ⟨rfl, u4, rfl⟩; rw [HP1.out]) | (go_at_call 42; with_reducible refine (Calls.later (u := u4) (l2Props_calls _ (.slice A4 n4 c4) M M.holds _ (HM1.out.later _) (HS4.out.later _))).mono ?_; rintro e w' ⟨rfl, u5, rfl⟩; rw [HP2.out]) | (go_at_call 43; with_reducible refine (Calls.later (u := u5) (l2All_calls _ M 36 _ (HM1.out.later _))).mono ?_; rintro e w' ⟨rfl, u6, rfl⟩; rw [HA1.out]))
                go_ret
                exact ⟨ret_eq (congrArg (Value.int .i64) HR.out.symm), HB.out.trans (u6.prop.mono HB.out.size)⟩
              · have HR7 := Lib.hid (HR6.out.trans (if_neg h8))
                by_cases h5 : 5 < x35
                · have HR := Lib.hid (HR7.out.trans (if_pos h5))
                  go_wp2_with (first | (go_at_call 39; refine (Calls.later (u := u0) (l2Nodes_calls _ M _ (HM1.out.later _) HNM.out)).mono ?_; rintro e w' ⟨rfl, u1, rfl⟩; rw [HNODES.out]) | (go_at_call 40; refine (Calls.later (u := u1) (l2Twice_calls _ M _ (HM1.out.later _))).mono ?_; rintro e w' ⟨rfl, u2, rfl⟩; rw [HTWICE.out]) | (go_at_call 41; refine (Calls.later (u := u2) (l2Binds_calls _ M _ (HM1.out.later _) HD.out)).mono ?_; rintro e w' ⟨rfl, u3, rfl⟩; rw [HBINDS.out]) | (go_at_call 42; with_reducible refine (Calls.later (u := u3) (l2Props_calls _ (.slice A3 n3 c3) M M.bads _ (HM1.out.later _) (HS3.out.later _))).mono ?_; rintro e w' ⟨rfl, u4, rfl⟩; rw [HP1.out]) | (go_at_call 42; with_reducible refine (Calls.later (u := u4) (l2Props_calls _ (.slice A4 n4 c4) M M.holds _ (HM1.out.later _) (HS4.out.later _))).mono ?_; rintro e w' ⟨rfl, u5, rfl⟩; rw [HP2.out]) | (go_at_call 43; with_reducible refine (Calls.later (u := u5) (l2All_calls _ M 36 _ (HM1.out.later _))).mono ?_; rintro e w' ⟨rfl, u6, rfl⟩; rw [HA1.out]) | (go_at_call 43; with_reducible refine (Calls.later (u := u6) (l2All_calls _ M 35 _ (HM1.out.later _))).mono ?_; rintro e w' ⟨rfl, u7, rfl⟩; rw [HA2.out]))
                  go_ret
                  exact ⟨ret_eq (congrArg (Value.int .i64) HR.out.symm), HB.out.trans (u7.prop.mono HB.out.size)⟩
                · have HR := Lib.hid (HR7.out.trans (if_neg h5))
                  go_wp2_with (first | (go_at_call 39; refine (Calls.later (u := u0) (l2Nodes_calls _ M _ (HM1.out.later _) HNM.out)).mono ?_; rintro e w' ⟨rfl, u1, rfl⟩; rw [HNODES.out]) | (go_at_call 40; refine (Calls.later (u := u1) (l2Twice_calls _ M _ (HM1.out.later _))).mono ?_; rintro e w' ⟨rfl, u2, rfl⟩; rw [HTWICE.out]) | (go_at_call 41; refine (Calls.later (u := u2) (l2Binds_calls _ M _ (HM1.out.later _) HD.out)).mono ?_; rintro e w' ⟨rfl, u3, rfl⟩; rw [HBINDS.out]) | (go_at_call 42; with_reducible refine (Calls.later (u := u3) (l2Props_calls _ (.slice A3 n3 c3) M M.bads _ (HM1.out.later _) (HS3.out.later _))).mono ?_; rintro e w' ⟨rfl, u4, rfl⟩; rw [HP1.out]) | (go_at_call 42; with_reducible refine (Calls.later (u := u4) (l2Props_calls _ (.slice A4 n4 c4) M M.holds _ (HM1.out.later _) (HS4.out.later _))).mono ?_; rintro e w' ⟨rfl, u5, rfl⟩; rw [HP2.out]) | (go_at_call 43; with_reducible refine (Calls.later (u := u5) (l2All_calls _ M 36 _ (HM1.out.later _))).mono ?_; rintro e w' ⟨rfl, u6, rfl⟩; rw [HA1.out]) | (go_at_call 43; with_reducible refine (Calls.later (u := u6) (l2All_calls _ M 35 _ (HM1.out.later _))).mono ?_; rintro e w' ⟨rfl, u7, rfl⟩; rw [HA2.out]))
                  go_ret
                  exact ⟨ret_eq (congrArg (Value.int .i64) HR.out.symm), HB.out.trans (u7.prop.mono HB.out.size)⟩
end Go.Proofs.YtdojaijnejcoiaaGreat
namespace Go.Proofs.YtdojaijnejcoiaaGreat
open Go.RowKit
attribute [local go_sem high] eq_sort
theorem here {w2 : World} {a : Addr} {v : Value} (h : ∀ l : Later w2, l.val.cell? a = some v) : w2.cell? a = some v := h ⟨w2, Below.refl _ _⟩
theorem sort_world (k n m ai aw bi bw ci cw xa xb xc xi xw : Int) (nm : ByteArray) (w : World) : ∃ w2, (((((w.alloc (Obj.cells #[.int .i64 k, .int .i64 xa, .int .i64 xb, .int .i64 xc, .int .i64 n, .int .i64 m, .int .i64 xi, .int .i64 xw, .string nm] 46)).alloc (Obj.cells #[.int .i64 ai, .int .i64 aw] 44)).alloc (Obj.cells #[.int .i64 bi, .int .i64 bw] 44)).alloc (Obj.cells #[.int .i64 ci, .int .i64 cw] 44)).alloc (Obj.cells #[.int .i64 0, .int .i64 0] 44)) = w2 ∧ Hid (Below w.heap.size w w2) ∧ (∀ l : Later w2, l.val.cell? ⟨w.heap.size, 0, none⟩ = some (.int .i64 k)) ∧ (∀ l : Later w2, l.val.cell? ⟨w.heap.size, 4, none⟩ = some (.int .i64 n)) ∧ (∀ l : Later w2, l.val.cell? ⟨w.heap.size, 5, none⟩ = some (.int .i64 m)) ∧ (∀ l : Later w2, l.val.cell? ⟨w.heap.size, 6, none⟩ = some (.int .i64 xi)) ∧ (∀ l : Later w2, l.val.cell? ⟨w.heap.size, 7, none⟩ = some (.int .i64 xw)) ∧ (∀ l : Later w2, l.val.cell? ⟨w.heap.size + 1, 0, none⟩ = some (.int .i64 ai)) ∧ (∀ l : Later w2, l.val.cell? ⟨w.heap.size + 1, 1, none⟩ = some (.int .i64 aw)) ∧ (∀ l : Later w2, l.val.cell? ⟨w.heap.size + 2, 0, none⟩ = some (.int .i64 bi)) ∧ (∀ l : Later w2, l.val.cell? ⟨w.heap.size + 2, 1, none⟩ = some (.int .i64 bw)) ∧ (∀ l : Later w2, l.val.cell? ⟨w.heap.size + 3, 0, none⟩ = some (.int .i64 ci)) ∧ (∀ l : Later w2, l.val.cell? ⟨w.heap.size + 3, 1, none⟩ = some (.int .i64 cw)) ∧ (∀ l : Later w2, l.val.cell? ⟨w.heap.size + 4, 0, none⟩ = some (.int .i64 0)) ∧ (∀ l : Later w2, l.val.cell? ⟨w.heap.size + 4, 1, none⟩ = some (.int .i64 0)) ∧ (∀ l : Later w2, l.val.frozen? ⟨w.heap.size + 4, 0, none⟩ = false) ∧ (∀ l : Later w2, l.val.frozen? ⟨w.heap.size + 4, 1, none⟩ = false) := by
 refine ⟨_, rfl, Lib.hid (by repeat (first | exact Below.refl _ _ | refine Below.alloc ?_ (by first | (simp; done) | (simp; omega)) _)), Later.cell ?_, Later.cell ?_, Later.cell ?_, Later.cell ?_, Later.cell ?_, Later.cell ?_, Later.cell ?_, Later.cell ?_, Later.cell ?_, Later.cell ?_, Later.cell ?_, Later.cell ?_, Later.cell ?_, Later.frozen ?_ ?_, Later.frozen ?_ ?_⟩
 all_goals first | go_simp | simp
theorem sortOf_33_0 (n m ai aw bi bw ci cw xa xb xc xi xw : Int) (nm : ByteArray) (w : World) (h0 : (ai == 0) = false) :
 Calls Tryz.prog 95 #[.agg #[.int .i64 33, .int .i64 xa, .int .i64 xb, .int .i64 xc, .int .i64 n, .int .i64 m, .int .i64 xi, .int .i64 xw, .string nm], .agg #[.int .i64 ai, .int .i64 aw], .agg #[.int .i64 bi, .int .i64 bw], .agg #[.int .i64 ci, .int .i64 cw]] w (ResPost (resN 33 n m ai aw bi bw ci cw) w) := by
 have HR := Lib.hid (show (resN 33 n m ai aw bi bw ci cw) = none by unfold resN; simp only [h0, Bool.and_false, Bool.false_and, Bool.true_and, Bool.and_true]; rfl)
 go_enter Tryz.func95, Tryz.ntmps95
 go_upto_region 1 with fail
 obtain ⟨w2, hw2, HB, b0, b4, b5, b6, b7, d0, d1, d2, d3, d4, d5, r0, r1, f0, f1⟩ := sort_world 33 n m ai aw bi bw ci cw xa xb xc xi xw nm w
 rw [hw2]
 clear hw2
 have p0 := here b0; have p1 := here b4; have p2 := here b5; have p3 := here b6; have p4 := here b7; have p5 := here d0; have p6 := here d1; have p7 := here d2; have p8 := here d3; have p9 := here d4; have p10 := here d5
 go_wp2
 clear p0 p1 p2 p3 p4 p5 p6 p7 p8 p9 p10
 refine wp_region_two (G := w.heap.size + 4) 9 (.int .i64 (bi)) (.int .i64 (bw)) (by kernel_rfl) (by kernel_rfl) rfl (by kernel_rfl) HB.out (Nat.le_add_right _ _) r0 r1 f0 f1 ?_
 apply Exists.intro
 refine ⟨fun W hk => ?_, ?_, ?_, ?_⟩
 · have e0 := hk _ _ _ (by omega) b0; have e1 := hk _ _ _ (by omega) b4; have e2 := hk _ _ _ (by omega) b5; have e3 := hk _ _ _ (by omega) b6; have e4 := hk _ _ _ (by omega) b7; have e5 := hk _ _ _ (by omega) d0; have e6 := hk _ _ _ (by omega) d1; have e7 := hk _ _ _ (by omega) d2; have e8 := hk _ _ _ (by omega) d3; have e9 := hk _ _ _ (by omega) d4; have e10 := hk _ _ _ (by omega) d5
   clear hk
   simp only [List.take_succ_cons, List.take_zero]
   repeat (go_big_quiet_step (first | (go_at_call 60; exact Calls.later (words_calls _ _))))
   exact wpQuiet_nil rfl
 · rfl
 · intro u s0 s1 t0 t1
   go_simp
 · intro u hb s0 s1
   have hbel := Lib.hid hb
   simp only [List.drop_succ_cons, List.drop_zero]
   clear r0 r1 f0 f1 hb
   go_wp2
   exact bodyPost_ret (v := .tuple #[.agg #[.int .i64 (bi), .int .i64 (bw)], .bool false]) (by simp [results, Tryz.results95, go_sem, s0, s1]) rfl (respost_none HR.out hbel.out)
theorem sortOf_33_1 (n m ai aw bi bw ci cw xa xb xc xi xw : Int) (nm : ByteArray) (w : World) (h0 : (ai == 0) = true) (h1 : (aw == 1) = false) :
 Calls Tryz.prog 95 #[.agg #[.int .i64 33, .int .i64 xa, .int .i64 xb, .int .i64 xc, .int .i64 n, .int .i64 m, .int .i64 xi, .int .i64 xw, .string nm], .agg #[.int .i64 ai, .int .i64 aw], .agg #[.int .i64 bi, .int .i64 bw], .agg #[.int .i64 ci, .int .i64 cw]] w (ResPost (resN 33 n m ai aw bi bw ci cw) w) := by
 have HR := Lib.hid (show (resN 33 n m ai aw bi bw ci cw) = none by unfold resN; simp only [h0, h1, Bool.and_false, Bool.false_and, Bool.true_and, Bool.and_true]; rfl)
 go_enter Tryz.func95, Tryz.ntmps95
 go_upto_region 1 with fail
 obtain ⟨w2, hw2, HB, b0, b4, b5, b6, b7, d0, d1, d2, d3, d4, d5, r0, r1, f0, f1⟩ := sort_world 33 n m ai aw bi bw ci cw xa xb xc xi xw nm w
 rw [hw2]
 clear hw2
 have p0 := here b0; have p1 := here b4; have p2 := here b5; have p3 := here b6; have p4 := here b7; have p5 := here d0; have p6 := here d1; have p7 := here d2; have p8 := here d3; have p9 := here d4; have p10 := here d5
 go_wp2
 clear p0 p1 p2 p3 p4 p5 p6 p7 p8 p9 p10
 refine wp_region_two (G := w.heap.size + 4) 9 (.int .i64 (bi)) (.int .i64 (bw)) (by kernel_rfl) (by kernel_rfl) rfl (by kernel_rfl) HB.out (Nat.le_add_right _ _) r0 r1 f0 f1 ?_
 apply Exists.intro
 refine ⟨fun W hk => ?_, ?_, ?_, ?_⟩
 · have e0 := hk _ _ _ (by omega) b0; have e1 := hk _ _ _ (by omega) b4; have e2 := hk _ _ _ (by omega) b5; have e3 := hk _ _ _ (by omega) b6; have e4 := hk _ _ _ (by omega) b7; have e5 := hk _ _ _ (by omega) d0; have e6 := hk _ _ _ (by omega) d1; have e7 := hk _ _ _ (by omega) d2; have e8 := hk _ _ _ (by omega) d3; have e9 := hk _ _ _ (by omega) d4; have e10 := hk _ _ _ (by omega) d5
   clear hk
   simp only [List.take_succ_cons, List.take_zero]
   repeat (go_big_quiet_step (first | (go_at_call 60; exact Calls.later (words_calls _ _))))
   exact wpQuiet_nil rfl
 · rfl
 · intro u s0 s1 t0 t1
   go_simp
 · intro u hb s0 s1
   have hbel := Lib.hid hb
   simp only [List.drop_succ_cons, List.drop_zero]
   clear r0 r1 f0 f1 hb
   go_wp2
   exact bodyPost_ret (v := .tuple #[.agg #[.int .i64 (bi), .int .i64 (bw)], .bool false]) (by simp [results, Tryz.results95, go_sem, s0, s1]) rfl (respost_none HR.out hbel.out)
theorem sortOf_33_2 (n m ai aw bi bw ci cw xa xb xc xi xw : Int) (nm : ByteArray) (w : World) (h0 : (ai == 0) = true) (h1 : (aw == 1) = true) (h2 : (bi == ci) = false) :
 Calls Tryz.prog 95 #[.agg #[.int .i64 33, .int .i64 xa, .int .i64 xb, .int .i64 xc, .int .i64 n, .int .i64 m, .int .i64 xi, .int .i64 xw, .string nm], .agg #[.int .i64 ai, .int .i64 aw], .agg #[.int .i64 bi, .int .i64 bw], .agg #[.int .i64 ci, .int .i64 cw]] w (ResPost (resN 33 n m ai aw bi bw ci cw) w) := by
 have HR := Lib.hid (show (resN 33 n m ai aw bi bw ci cw) = none by unfold resN; simp only [h0, h1, h2, Bool.and_false, Bool.false_and, Bool.true_and, Bool.and_true]; rfl)
 go_enter Tryz.func95, Tryz.ntmps95
 go_upto_region 1 with fail
 obtain ⟨w2, hw2, HB, b0, b4, b5, b6, b7, d0, d1, d2, d3, d4, d5, r0, r1, f0, f1⟩ := sort_world 33 n m ai aw bi bw ci cw xa xb xc xi xw nm w
 rw [hw2]
 clear hw2
 have p0 := here b0; have p1 := here b4; have p2 := here b5; have p3 := here b6; have p4 := here b7; have p5 := here d0; have p6 := here d1; have p7 := here d2; have p8 := here d3; have p9 := here d4; have p10 := here d5
 go_wp2
 clear p0 p1 p2 p3 p4 p5 p6 p7 p8 p9 p10
 refine wp_region_two (G := w.heap.size + 4) 9 (.int .i64 (bi)) (.int .i64 (bw)) (by kernel_rfl) (by kernel_rfl) rfl (by kernel_rfl) HB.out (Nat.le_add_right _ _) r0 r1 f0 f1 ?_
 apply Exists.intro
 refine ⟨fun W hk => ?_, ?_, ?_, ?_⟩
 · have e0 := hk _ _ _ (by omega) b0; have e1 := hk _ _ _ (by omega) b4; have e2 := hk _ _ _ (by omega) b5; have e3 := hk _ _ _ (by omega) b6; have e4 := hk _ _ _ (by omega) b7; have e5 := hk _ _ _ (by omega) d0; have e6 := hk _ _ _ (by omega) d1; have e7 := hk _ _ _ (by omega) d2; have e8 := hk _ _ _ (by omega) d3; have e9 := hk _ _ _ (by omega) d4; have e10 := hk _ _ _ (by omega) d5
   clear hk
   simp only [List.take_succ_cons, List.take_zero]
   repeat (go_big_quiet_step (first | (go_at_call 60; exact Calls.later (words_calls _ _))))
   exact wpQuiet_nil rfl
 · rfl
 · intro u s0 s1 t0 t1
   go_simp
 · intro u hb s0 s1
   have hbel := Lib.hid hb
   simp only [List.drop_succ_cons, List.drop_zero]
   clear r0 r1 f0 f1 hb
   go_wp2
   exact bodyPost_ret (v := .tuple #[.agg #[.int .i64 (bi), .int .i64 (bw)], .bool false]) (by simp [results, Tryz.results95, go_sem, s0, s1]) rfl (respost_none HR.out hbel.out)
theorem sortOf_33_3 (n m ai aw bi bw ci cw xa xb xc xi xw : Int) (nm : ByteArray) (w : World) (h0 : (ai == 0) = true) (h1 : (aw == 1) = true) (h2 : (bi == ci) = true) (h3 : (bw == cw) = false) :
 Calls Tryz.prog 95 #[.agg #[.int .i64 33, .int .i64 xa, .int .i64 xb, .int .i64 xc, .int .i64 n, .int .i64 m, .int .i64 xi, .int .i64 xw, .string nm], .agg #[.int .i64 ai, .int .i64 aw], .agg #[.int .i64 bi, .int .i64 bw], .agg #[.int .i64 ci, .int .i64 cw]] w (ResPost (resN 33 n m ai aw bi bw ci cw) w) := by
 have HR := Lib.hid (show (resN 33 n m ai aw bi bw ci cw) = none by unfold resN; simp only [h0, h1, h2, h3, Bool.and_false, Bool.false_and, Bool.true_and, Bool.and_true]; rfl)
 go_enter Tryz.func95, Tryz.ntmps95
 go_upto_region 1 with fail
 obtain ⟨w2, hw2, HB, b0, b4, b5, b6, b7, d0, d1, d2, d3, d4, d5, r0, r1, f0, f1⟩ := sort_world 33 n m ai aw bi bw ci cw xa xb xc xi xw nm w
 rw [hw2]
 clear hw2
 have p0 := here b0; have p1 := here b4; have p2 := here b5; have p3 := here b6; have p4 := here b7; have p5 := here d0; have p6 := here d1; have p7 := here d2; have p8 := here d3; have p9 := here d4; have p10 := here d5
 go_wp2
 clear p0 p1 p2 p3 p4 p5 p6 p7 p8 p9 p10
 refine wp_region_two (G := w.heap.size + 4) 9 (.int .i64 (bi)) (.int .i64 (bw)) (by kernel_rfl) (by kernel_rfl) rfl (by kernel_rfl) HB.out (Nat.le_add_right _ _) r0 r1 f0 f1 ?_
 apply Exists.intro
 refine ⟨fun W hk => ?_, ?_, ?_, ?_⟩
 · have e0 := hk _ _ _ (by omega) b0; have e1 := hk _ _ _ (by omega) b4; have e2 := hk _ _ _ (by omega) b5; have e3 := hk _ _ _ (by omega) b6; have e4 := hk _ _ _ (by omega) b7; have e5 := hk _ _ _ (by omega) d0; have e6 := hk _ _ _ (by omega) d1; have e7 := hk _ _ _ (by omega) d2; have e8 := hk _ _ _ (by omega) d3; have e9 := hk _ _ _ (by omega) d4; have e10 := hk _ _ _ (by omega) d5
   clear hk
   simp only [List.take_succ_cons, List.take_zero]
   repeat (go_big_quiet_step (first | (go_at_call 60; exact Calls.later (words_calls _ _))))
   exact wpQuiet_nil rfl
 · rfl
 · intro u s0 s1 t0 t1
   go_simp
 · intro u hb s0 s1
   have hbel := Lib.hid hb
   simp only [List.drop_succ_cons, List.drop_zero]
   clear r0 r1 f0 f1 hb
   go_wp2
   exact bodyPost_ret (v := .tuple #[.agg #[.int .i64 (bi), .int .i64 (bw)], .bool false]) (by simp [results, Tryz.results95, go_sem, s0, s1]) rfl (respost_none HR.out hbel.out)
theorem sortOf_33_4 (n m ai aw bi bw ci cw xa xb xc xi xw : Int) (nm : ByteArray) (w : World) (h0 : (ai == 0) = true) (h1 : (aw == 1) = true) (h2 : (bi == ci) = true) (h3 : (bw == cw) = true) :
 Calls Tryz.prog 95 #[.agg #[.int .i64 33, .int .i64 xa, .int .i64 xb, .int .i64 xc, .int .i64 n, .int .i64 m, .int .i64 xi, .int .i64 xw, .string nm], .agg #[.int .i64 ai, .int .i64 aw], .agg #[.int .i64 bi, .int .i64 bw], .agg #[.int .i64 ci, .int .i64 cw]] w (ResPost (resN 33 n m ai aw bi bw ci cw) w) := by
 have HR := Lib.hid (show (resN 33 n m ai aw bi bw ci cw) = some (bi, bw) by unfold resN; simp only [h0, h1, h2, h3]; rfl)
 go_enter Tryz.func95, Tryz.ntmps95
 go_upto_region 1 with fail
 obtain ⟨w2, hw2, HB, b0, b4, b5, b6, b7, d0, d1, d2, d3, d4, d5, r0, r1, f0, f1⟩ := sort_world 33 n m ai aw bi bw ci cw xa xb xc xi xw nm w
 rw [hw2]
 clear hw2
 have p0 := here b0; have p1 := here b4; have p2 := here b5; have p3 := here b6; have p4 := here b7; have p5 := here d0; have p6 := here d1; have p7 := here d2; have p8 := here d3; have p9 := here d4; have p10 := here d5
 go_wp2
 clear p0 p1 p2 p3 p4 p5 p6 p7 p8 p9 p10
 refine wp_region_two (G := w.heap.size + 4) 9 (.int .i64 (bi)) (.int .i64 (bw)) (by kernel_rfl) (by kernel_rfl) rfl (by kernel_rfl) HB.out (Nat.le_add_right _ _) r0 r1 f0 f1 ?_
 apply Exists.intro
 refine ⟨fun W hk => ?_, ?_, ?_, ?_⟩
 · have e0 := hk _ _ _ (by omega) b0; have e1 := hk _ _ _ (by omega) b4; have e2 := hk _ _ _ (by omega) b5; have e3 := hk _ _ _ (by omega) b6; have e4 := hk _ _ _ (by omega) b7; have e5 := hk _ _ _ (by omega) d0; have e6 := hk _ _ _ (by omega) d1; have e7 := hk _ _ _ (by omega) d2; have e8 := hk _ _ _ (by omega) d3; have e9 := hk _ _ _ (by omega) d4; have e10 := hk _ _ _ (by omega) d5
   clear hk
   simp only [List.take_succ_cons, List.take_zero]
   repeat (go_big_quiet_step (first | (go_at_call 60; exact Calls.later (words_calls _ _))))
   exact wpQuiet_nil rfl
 · rfl
 · intro u s0 s1 t0 t1
   go_simp
 · intro u hb s0 s1
   have hbel := Lib.hid hb
   simp only [List.drop_succ_cons, List.drop_zero]
   clear r0 r1 f0 f1 hb
   go_wp2
   exact bodyPost_ret (v := .tuple #[.agg #[.int .i64 (bi), .int .i64 (bw)], .bool true]) (by simp [results, Tryz.results95, go_sem, s0, s1]) rfl (respost_some HR.out hbel.out)
theorem sortOf_33 (n m ai aw bi bw ci cw xa xb xc xi xw : Int) (nm : ByteArray) (w : World)  :
 Calls Tryz.prog 95 #[.agg #[.int .i64 33, .int .i64 xa, .int .i64 xb, .int .i64 xc, .int .i64 n, .int .i64 m, .int .i64 xi, .int .i64 xw, .string nm], .agg #[.int .i64 ai, .int .i64 aw], .agg #[.int .i64 bi, .int .i64 bw], .agg #[.int .i64 ci, .int .i64 cw]] w (ResPost (resN 33 n m ai aw bi bw ci cw) w) := by
 by_cases h0 : (ai == 0) = true
 rotate_left
 · exact sortOf_33_0 n m ai aw bi bw ci cw xa xb xc xi xw nm w  (eq_false_of_ne_true h0)
 by_cases h1 : (aw == 1) = true
 rotate_left
 · exact sortOf_33_1 n m ai aw bi bw ci cw xa xb xc xi xw nm w h0 (eq_false_of_ne_true h1)
 by_cases h2 : (bi == ci) = true
 rotate_left
 · exact sortOf_33_2 n m ai aw bi bw ci cw xa xb xc xi xw nm w h0 h1 (eq_false_of_ne_true h2)
 by_cases h3 : (bw == cw) = true
 rotate_left
 · exact sortOf_33_3 n m ai aw bi bw ci cw xa xb xc xi xw nm w h0 h1 h2 (eq_false_of_ne_true h3)
 exact sortOf_33_4 n m ai aw bi bw ci cw xa xb xc xi xw nm w h0 h1 h2 h3
theorem sortOf_37_0 (n m ai aw bi bw ci cw xa xb xc xi xw : Int) (nm : ByteArray) (w : World) (h0 : (decide (0 < ai)) = false) :
 Calls Tryz.prog 95 #[.agg #[.int .i64 37, .int .i64 xa, .int .i64 xb, .int .i64 xc, .int .i64 n, .int .i64 m, .int .i64 xi, .int .i64 xw, .string nm], .agg #[.int .i64 ai, .int .i64 aw], .agg #[.int .i64 bi, .int .i64 bw], .agg #[.int .i64 ci, .int .i64 cw]] w (ResPost (resN 37 n m ai aw bi bw ci cw) w) := by
 have HR := Lib.hid (show (resN 37 n m ai aw bi bw ci cw) = none by unfold resN; simp only [h0, Bool.and_false, Bool.false_and, Bool.true_and, Bool.and_true]; rfl)
 go_enter Tryz.func95, Tryz.ntmps95
 go_upto_region 1 with fail
 obtain ⟨w2, hw2, HB, b0, b4, b5, b6, b7, d0, d1, d2, d3, d4, d5, r0, r1, f0, f1⟩ := sort_world 37 n m ai aw bi bw ci cw xa xb xc xi xw nm w
 rw [hw2]
 clear hw2
 have p0 := here b0; have p1 := here b4; have p2 := here b5; have p3 := here b6; have p4 := here b7; have p5 := here d0; have p6 := here d1; have p7 := here d2; have p8 := here d3; have p9 := here d4; have p10 := here d5
 go_wp2
 clear p0 p1 p2 p3 p4 p5 p6 p7 p8 p9 p10
 refine wp_region_two (G := w.heap.size + 4) 13 (.int .i64 (0)) (.int .i64 (aw)) (by kernel_rfl) (by kernel_rfl) rfl (by kernel_rfl) HB.out (Nat.le_add_right _ _) r0 r1 f0 f1 ?_
 apply Exists.intro
 refine ⟨fun W hk => ?_, ?_, ?_, ?_⟩
 · have e0 := hk _ _ _ (by omega) b0; have e1 := hk _ _ _ (by omega) b4; have e2 := hk _ _ _ (by omega) b5; have e3 := hk _ _ _ (by omega) b6; have e4 := hk _ _ _ (by omega) b7; have e5 := hk _ _ _ (by omega) d0; have e6 := hk _ _ _ (by omega) d1; have e7 := hk _ _ _ (by omega) d2; have e8 := hk _ _ _ (by omega) d3; have e9 := hk _ _ _ (by omega) d4; have e10 := hk _ _ _ (by omega) d5
   clear hk
   simp only [List.take_succ_cons, List.take_zero]
   repeat (go_big_quiet_step (first | (go_at_call 60; exact Calls.later (words_calls _ _))))
   exact wpQuiet_nil rfl
 · rfl
 · intro u s0 s1 t0 t1
   go_simp
 · intro u hb s0 s1
   have hbel := Lib.hid hb
   simp only [List.drop_succ_cons, List.drop_zero]
   clear r0 r1 f0 f1 hb
   go_wp2
   exact bodyPost_ret (v := .tuple #[.agg #[.int .i64 (0), .int .i64 (aw)], .bool false]) (by simp [results, Tryz.results95, go_sem, s0, s1]) rfl (respost_none HR.out hbel.out)
theorem sortOf_37_1 (n m ai aw bi bw ci cw xa xb xc xi xw : Int) (nm : ByteArray) (w : World) (h0 : (decide (0 < ai)) = true) (h1 : (bi == 0) = false) :
 Calls Tryz.prog 95 #[.agg #[.int .i64 37, .int .i64 xa, .int .i64 xb, .int .i64 xc, .int .i64 n, .int .i64 m, .int .i64 xi, .int .i64 xw, .string nm], .agg #[.int .i64 ai, .int .i64 aw], .agg #[.int .i64 bi, .int .i64 bw], .agg #[.int .i64 ci, .int .i64 cw]] w (ResPost (resN 37 n m ai aw bi bw ci cw) w) := by
 have HR := Lib.hid (show (resN 37 n m ai aw bi bw ci cw) = none by unfold resN; simp only [h0, h1, Bool.and_false, Bool.false_and, Bool.true_and, Bool.and_true]; rfl)
 go_enter Tryz.func95, Tryz.ntmps95
 go_upto_region 1 with fail
 obtain ⟨w2, hw2, HB, b0, b4, b5, b6, b7, d0, d1, d2, d3, d4, d5, r0, r1, f0, f1⟩ := sort_world 37 n m ai aw bi bw ci cw xa xb xc xi xw nm w
 rw [hw2]
 clear hw2
 have p0 := here b0; have p1 := here b4; have p2 := here b5; have p3 := here b6; have p4 := here b7; have p5 := here d0; have p6 := here d1; have p7 := here d2; have p8 := here d3; have p9 := here d4; have p10 := here d5
 go_wp2
 clear p0 p1 p2 p3 p4 p5 p6 p7 p8 p9 p10
 refine wp_region_two (G := w.heap.size + 4) 13 (.int .i64 (0)) (.int .i64 (aw)) (by kernel_rfl) (by kernel_rfl) rfl (by kernel_rfl) HB.out (Nat.le_add_right _ _) r0 r1 f0 f1 ?_
 apply Exists.intro
 refine ⟨fun W hk => ?_, ?_, ?_, ?_⟩
 · have e0 := hk _ _ _ (by omega) b0; have e1 := hk _ _ _ (by omega) b4; have e2 := hk _ _ _ (by omega) b5; have e3 := hk _ _ _ (by omega) b6; have e4 := hk _ _ _ (by omega) b7; have e5 := hk _ _ _ (by omega) d0; have e6 := hk _ _ _ (by omega) d1; have e7 := hk _ _ _ (by omega) d2; have e8 := hk _ _ _ (by omega) d3; have e9 := hk _ _ _ (by omega) d4; have e10 := hk _ _ _ (by omega) d5
   clear hk
   simp only [List.take_succ_cons, List.take_zero]
   repeat (go_big_quiet_step (first | (go_at_call 60; exact Calls.later (words_calls _ _))))
   exact wpQuiet_nil rfl
 · rfl
 · intro u s0 s1 t0 t1
   go_simp
 · intro u hb s0 s1
   have hbel := Lib.hid hb
   simp only [List.drop_succ_cons, List.drop_zero]
   clear r0 r1 f0 f1 hb
   go_wp2
   exact bodyPost_ret (v := .tuple #[.agg #[.int .i64 (0), .int .i64 (aw)], .bool false]) (by simp [results, Tryz.results95, go_sem, s0, s1]) rfl (respost_none HR.out hbel.out)
theorem sortOf_37_2 (n m ai aw bi bw ci cw xa xb xc xi xw : Int) (nm : ByteArray) (w : World) (h0 : (decide (0 < ai)) = true) (h1 : (bi == 0) = true) (h2 : (bw == ai) = false) :
 Calls Tryz.prog 95 #[.agg #[.int .i64 37, .int .i64 xa, .int .i64 xb, .int .i64 xc, .int .i64 n, .int .i64 m, .int .i64 xi, .int .i64 xw, .string nm], .agg #[.int .i64 ai, .int .i64 aw], .agg #[.int .i64 bi, .int .i64 bw], .agg #[.int .i64 ci, .int .i64 cw]] w (ResPost (resN 37 n m ai aw bi bw ci cw) w) := by
 have HR := Lib.hid (show (resN 37 n m ai aw bi bw ci cw) = none by unfold resN; simp only [h0, h1, h2, Bool.and_false, Bool.false_and, Bool.true_and, Bool.and_true]; rfl)
 go_enter Tryz.func95, Tryz.ntmps95
 go_upto_region 1 with fail
 obtain ⟨w2, hw2, HB, b0, b4, b5, b6, b7, d0, d1, d2, d3, d4, d5, r0, r1, f0, f1⟩ := sort_world 37 n m ai aw bi bw ci cw xa xb xc xi xw nm w
 rw [hw2]
 clear hw2
 have p0 := here b0; have p1 := here b4; have p2 := here b5; have p3 := here b6; have p4 := here b7; have p5 := here d0; have p6 := here d1; have p7 := here d2; have p8 := here d3; have p9 := here d4; have p10 := here d5
 go_wp2
 clear p0 p1 p2 p3 p4 p5 p6 p7 p8 p9 p10
 refine wp_region_two (G := w.heap.size + 4) 13 (.int .i64 (0)) (.int .i64 (aw)) (by kernel_rfl) (by kernel_rfl) rfl (by kernel_rfl) HB.out (Nat.le_add_right _ _) r0 r1 f0 f1 ?_
 apply Exists.intro
 refine ⟨fun W hk => ?_, ?_, ?_, ?_⟩
 · have e0 := hk _ _ _ (by omega) b0; have e1 := hk _ _ _ (by omega) b4; have e2 := hk _ _ _ (by omega) b5; have e3 := hk _ _ _ (by omega) b6; have e4 := hk _ _ _ (by omega) b7; have e5 := hk _ _ _ (by omega) d0; have e6 := hk _ _ _ (by omega) d1; have e7 := hk _ _ _ (by omega) d2; have e8 := hk _ _ _ (by omega) d3; have e9 := hk _ _ _ (by omega) d4; have e10 := hk _ _ _ (by omega) d5
   clear hk
   simp only [List.take_succ_cons, List.take_zero]
   repeat (go_big_quiet_step (first | (go_at_call 60; exact Calls.later (words_calls _ _))))
   exact wpQuiet_nil rfl
 · rfl
 · intro u s0 s1 t0 t1
   go_simp
 · intro u hb s0 s1
   have hbel := Lib.hid hb
   simp only [List.drop_succ_cons, List.drop_zero]
   clear r0 r1 f0 f1 hb
   go_wp2
   exact bodyPost_ret (v := .tuple #[.agg #[.int .i64 (0), .int .i64 (aw)], .bool false]) (by simp [results, Tryz.results95, go_sem, s0, s1]) rfl (respost_none HR.out hbel.out)
theorem sortOf_37_3 (n m ai aw bi bw ci cw xa xb xc xi xw : Int) (nm : ByteArray) (w : World) (h0 : (decide (0 < ai)) = true) (h1 : (bi == 0) = true) (h2 : (bw == ai) = true) :
 Calls Tryz.prog 95 #[.agg #[.int .i64 37, .int .i64 xa, .int .i64 xb, .int .i64 xc, .int .i64 n, .int .i64 m, .int .i64 xi, .int .i64 xw, .string nm], .agg #[.int .i64 ai, .int .i64 aw], .agg #[.int .i64 bi, .int .i64 bw], .agg #[.int .i64 ci, .int .i64 cw]] w (ResPost (resN 37 n m ai aw bi bw ci cw) w) := by
 have HR := Lib.hid (show (resN 37 n m ai aw bi bw ci cw) = some (0, aw) by unfold resN; simp only [h0, h1, h2]; rfl)
 go_enter Tryz.func95, Tryz.ntmps95
 go_upto_region 1 with fail
 obtain ⟨w2, hw2, HB, b0, b4, b5, b6, b7, d0, d1, d2, d3, d4, d5, r0, r1, f0, f1⟩ := sort_world 37 n m ai aw bi bw ci cw xa xb xc xi xw nm w
 rw [hw2]
 clear hw2
 have p0 := here b0; have p1 := here b4; have p2 := here b5; have p3 := here b6; have p4 := here b7; have p5 := here d0; have p6 := here d1; have p7 := here d2; have p8 := here d3; have p9 := here d4; have p10 := here d5
 go_wp2
 clear p0 p1 p2 p3 p4 p5 p6 p7 p8 p9 p10
 refine wp_region_two (G := w.heap.size + 4) 13 (.int .i64 (0)) (.int .i64 (aw)) (by kernel_rfl) (by kernel_rfl) rfl (by kernel_rfl) HB.out (Nat.le_add_right _ _) r0 r1 f0 f1 ?_
 apply Exists.intro
 refine ⟨fun W hk => ?_, ?_, ?_, ?_⟩
 · have e0 := hk _ _ _ (by omega) b0; have e1 := hk _ _ _ (by omega) b4; have e2 := hk _ _ _ (by omega) b5; have e3 := hk _ _ _ (by omega) b6; have e4 := hk _ _ _ (by omega) b7; have e5 := hk _ _ _ (by omega) d0; have e6 := hk _ _ _ (by omega) d1; have e7 := hk _ _ _ (by omega) d2; have e8 := hk _ _ _ (by omega) d3; have e9 := hk _ _ _ (by omega) d4; have e10 := hk _ _ _ (by omega) d5
   clear hk
   simp only [List.take_succ_cons, List.take_zero]
   repeat (go_big_quiet_step (first | (go_at_call 60; exact Calls.later (words_calls _ _))))
   exact wpQuiet_nil rfl
 · rfl
 · intro u s0 s1 t0 t1
   go_simp
 · intro u hb s0 s1
   have hbel := Lib.hid hb
   simp only [List.drop_succ_cons, List.drop_zero]
   clear r0 r1 f0 f1 hb
   go_wp2
   exact bodyPost_ret (v := .tuple #[.agg #[.int .i64 (0), .int .i64 (aw)], .bool true]) (by simp [results, Tryz.results95, go_sem, s0, s1]) rfl (respost_some HR.out hbel.out)
theorem sortOf_37 (n m ai aw bi bw ci cw xa xb xc xi xw : Int) (nm : ByteArray) (w : World)  :
 Calls Tryz.prog 95 #[.agg #[.int .i64 37, .int .i64 xa, .int .i64 xb, .int .i64 xc, .int .i64 n, .int .i64 m, .int .i64 xi, .int .i64 xw, .string nm], .agg #[.int .i64 ai, .int .i64 aw], .agg #[.int .i64 bi, .int .i64 bw], .agg #[.int .i64 ci, .int .i64 cw]] w (ResPost (resN 37 n m ai aw bi bw ci cw) w) := by
 by_cases h0 : (decide (0 < ai)) = true
 rotate_left
 · exact sortOf_37_0 n m ai aw bi bw ci cw xa xb xc xi xw nm w  (eq_false_of_ne_true h0)
 by_cases h1 : (bi == 0) = true
 rotate_left
 · exact sortOf_37_1 n m ai aw bi bw ci cw xa xb xc xi xw nm w h0 (eq_false_of_ne_true h1)
 by_cases h2 : (bw == ai) = true
 rotate_left
 · exact sortOf_37_2 n m ai aw bi bw ci cw xa xb xc xi xw nm w h0 h1 (eq_false_of_ne_true h2)
 exact sortOf_37_3 n m ai aw bi bw ci cw xa xb xc xi xw nm w h0 h1 h2
theorem sortOf_38_0 (n m ai aw bi bw ci cw xa xb xc xi xw : Int) (nm : ByteArray) (w : World) (h0 : (decide (0 < ai)) = false) :
 Calls Tryz.prog 95 #[.agg #[.int .i64 38, .int .i64 xa, .int .i64 xb, .int .i64 xc, .int .i64 n, .int .i64 m, .int .i64 xi, .int .i64 xw, .string nm], .agg #[.int .i64 ai, .int .i64 aw], .agg #[.int .i64 bi, .int .i64 bw], .agg #[.int .i64 ci, .int .i64 cw]] w (ResPost (resN 38 n m ai aw bi bw ci cw) w) := by
 have HR := Lib.hid (show (resN 38 n m ai aw bi bw ci cw) = none by unfold resN; simp only [h0, Bool.and_false, Bool.false_and, Bool.true_and, Bool.and_true]; rfl)
 go_enter Tryz.func95, Tryz.ntmps95
 go_upto_region 1 with fail
 obtain ⟨w2, hw2, HB, b0, b4, b5, b6, b7, d0, d1, d2, d3, d4, d5, r0, r1, f0, f1⟩ := sort_world 38 n m ai aw bi bw ci cw xa xb xc xi xw nm w
 rw [hw2]
 clear hw2
 have p0 := here b0; have p1 := here b4; have p2 := here b5; have p3 := here b6; have p4 := here b7; have p5 := here d0; have p6 := here d1; have p7 := here d2; have p8 := here d3; have p9 := here d4; have p10 := here d5
 go_wp2
 clear p0 p1 p2 p3 p4 p5 p6 p7 p8 p9 p10
 refine wp_region_two (G := w.heap.size + 4) 18 (.int .i64 (ai)) (.int .i64 (aw)) (by kernel_rfl) (by kernel_rfl) rfl (by kernel_rfl) HB.out (Nat.le_add_right _ _) r0 r1 f0 f1 ?_
 apply Exists.intro
 refine ⟨fun W hk => ?_, ?_, ?_, ?_⟩
 · have e0 := hk _ _ _ (by omega) b0; have e1 := hk _ _ _ (by omega) b4; have e2 := hk _ _ _ (by omega) b5; have e3 := hk _ _ _ (by omega) b6; have e4 := hk _ _ _ (by omega) b7; have e5 := hk _ _ _ (by omega) d0; have e6 := hk _ _ _ (by omega) d1; have e7 := hk _ _ _ (by omega) d2; have e8 := hk _ _ _ (by omega) d3; have e9 := hk _ _ _ (by omega) d4; have e10 := hk _ _ _ (by omega) d5
   clear hk
   simp only [List.take_succ_cons, List.take_zero]
   repeat (go_big_quiet_step (first | (go_at_call 60; exact Calls.later (words_calls _ _))))
   exact wpQuiet_nil rfl
 · rfl
 · intro u s0 s1 t0 t1
   go_simp
 · intro u hb s0 s1
   have hbel := Lib.hid hb
   simp only [List.drop_succ_cons, List.drop_zero]
   clear r0 r1 f0 f1 hb
   go_wp2
   exact bodyPost_ret (v := .tuple #[.agg #[.int .i64 (ai), .int .i64 (aw)], .bool false]) (by simp [results, Tryz.results95, go_sem, s0, s1]) rfl (respost_none HR.out hbel.out)
theorem sortOf_38_1 (n m ai aw bi bw ci cw xa xb xc xi xw : Int) (nm : ByteArray) (w : World) (h0 : (decide (0 < ai)) = true) (h1 : (bi == 0) = false) :
 Calls Tryz.prog 95 #[.agg #[.int .i64 38, .int .i64 xa, .int .i64 xb, .int .i64 xc, .int .i64 n, .int .i64 m, .int .i64 xi, .int .i64 xw, .string nm], .agg #[.int .i64 ai, .int .i64 aw], .agg #[.int .i64 bi, .int .i64 bw], .agg #[.int .i64 ci, .int .i64 cw]] w (ResPost (resN 38 n m ai aw bi bw ci cw) w) := by
 have HR := Lib.hid (show (resN 38 n m ai aw bi bw ci cw) = none by unfold resN; simp only [h0, h1, Bool.and_false, Bool.false_and, Bool.true_and, Bool.and_true]; rfl)
 go_enter Tryz.func95, Tryz.ntmps95
 go_upto_region 1 with fail
 obtain ⟨w2, hw2, HB, b0, b4, b5, b6, b7, d0, d1, d2, d3, d4, d5, r0, r1, f0, f1⟩ := sort_world 38 n m ai aw bi bw ci cw xa xb xc xi xw nm w
 rw [hw2]
 clear hw2
 have p0 := here b0; have p1 := here b4; have p2 := here b5; have p3 := here b6; have p4 := here b7; have p5 := here d0; have p6 := here d1; have p7 := here d2; have p8 := here d3; have p9 := here d4; have p10 := here d5
 go_wp2
 clear p0 p1 p2 p3 p4 p5 p6 p7 p8 p9 p10
 refine wp_region_two (G := w.heap.size + 4) 18 (.int .i64 (ai)) (.int .i64 (aw)) (by kernel_rfl) (by kernel_rfl) rfl (by kernel_rfl) HB.out (Nat.le_add_right _ _) r0 r1 f0 f1 ?_
 apply Exists.intro
 refine ⟨fun W hk => ?_, ?_, ?_, ?_⟩
 · have e0 := hk _ _ _ (by omega) b0; have e1 := hk _ _ _ (by omega) b4; have e2 := hk _ _ _ (by omega) b5; have e3 := hk _ _ _ (by omega) b6; have e4 := hk _ _ _ (by omega) b7; have e5 := hk _ _ _ (by omega) d0; have e6 := hk _ _ _ (by omega) d1; have e7 := hk _ _ _ (by omega) d2; have e8 := hk _ _ _ (by omega) d3; have e9 := hk _ _ _ (by omega) d4; have e10 := hk _ _ _ (by omega) d5
   clear hk
   simp only [List.take_succ_cons, List.take_zero]
   repeat (go_big_quiet_step (first | (go_at_call 60; exact Calls.later (words_calls _ _))))
   exact wpQuiet_nil rfl
 · rfl
 · intro u s0 s1 t0 t1
   go_simp
 · intro u hb s0 s1
   have hbel := Lib.hid hb
   simp only [List.drop_succ_cons, List.drop_zero]
   clear r0 r1 f0 f1 hb
   go_wp2
   exact bodyPost_ret (v := .tuple #[.agg #[.int .i64 (ai), .int .i64 (aw)], .bool false]) (by simp [results, Tryz.results95, go_sem, s0, s1]) rfl (respost_none HR.out hbel.out)
theorem sortOf_38_2 (n m ai aw bi bw ci cw xa xb xc xi xw : Int) (nm : ByteArray) (w : World) (h0 : (decide (0 < ai)) = true) (h1 : (bi == 0) = true) (h2 : (bw == ai) = false) :
 Calls Tryz.prog 95 #[.agg #[.int .i64 38, .int .i64 xa, .int .i64 xb, .int .i64 xc, .int .i64 n, .int .i64 m, .int .i64 xi, .int .i64 xw, .string nm], .agg #[.int .i64 ai, .int .i64 aw], .agg #[.int .i64 bi, .int .i64 bw], .agg #[.int .i64 ci, .int .i64 cw]] w (ResPost (resN 38 n m ai aw bi bw ci cw) w) := by
 have HR := Lib.hid (show (resN 38 n m ai aw bi bw ci cw) = none by unfold resN; simp only [h0, h1, h2, Bool.and_false, Bool.false_and, Bool.true_and, Bool.and_true]; rfl)
 go_enter Tryz.func95, Tryz.ntmps95
 go_upto_region 1 with fail
 obtain ⟨w2, hw2, HB, b0, b4, b5, b6, b7, d0, d1, d2, d3, d4, d5, r0, r1, f0, f1⟩ := sort_world 38 n m ai aw bi bw ci cw xa xb xc xi xw nm w
 rw [hw2]
 clear hw2
 have p0 := here b0; have p1 := here b4; have p2 := here b5; have p3 := here b6; have p4 := here b7; have p5 := here d0; have p6 := here d1; have p7 := here d2; have p8 := here d3; have p9 := here d4; have p10 := here d5
 go_wp2
 clear p0 p1 p2 p3 p4 p5 p6 p7 p8 p9 p10
 refine wp_region_two (G := w.heap.size + 4) 18 (.int .i64 (ai)) (.int .i64 (aw)) (by kernel_rfl) (by kernel_rfl) rfl (by kernel_rfl) HB.out (Nat.le_add_right _ _) r0 r1 f0 f1 ?_
 apply Exists.intro
 refine ⟨fun W hk => ?_, ?_, ?_, ?_⟩
 · have e0 := hk _ _ _ (by omega) b0; have e1 := hk _ _ _ (by omega) b4; have e2 := hk _ _ _ (by omega) b5; have e3 := hk _ _ _ (by omega) b6; have e4 := hk _ _ _ (by omega) b7; have e5 := hk _ _ _ (by omega) d0; have e6 := hk _ _ _ (by omega) d1; have e7 := hk _ _ _ (by omega) d2; have e8 := hk _ _ _ (by omega) d3; have e9 := hk _ _ _ (by omega) d4; have e10 := hk _ _ _ (by omega) d5
   clear hk
   simp only [List.take_succ_cons, List.take_zero]
   repeat (go_big_quiet_step (first | (go_at_call 60; exact Calls.later (words_calls _ _))))
   exact wpQuiet_nil rfl
 · rfl
 · intro u s0 s1 t0 t1
   go_simp
 · intro u hb s0 s1
   have hbel := Lib.hid hb
   simp only [List.drop_succ_cons, List.drop_zero]
   clear r0 r1 f0 f1 hb
   go_wp2
   exact bodyPost_ret (v := .tuple #[.agg #[.int .i64 (ai), .int .i64 (aw)], .bool false]) (by simp [results, Tryz.results95, go_sem, s0, s1]) rfl (respost_none HR.out hbel.out)
theorem sortOf_38_3 (n m ai aw bi bw ci cw xa xb xc xi xw : Int) (nm : ByteArray) (w : World) (h0 : (decide (0 < ai)) = true) (h1 : (bi == 0) = true) (h2 : (bw == ai) = true) (h3 : (ci == 0) = false) :
 Calls Tryz.prog 95 #[.agg #[.int .i64 38, .int .i64 xa, .int .i64 xb, .int .i64 xc, .int .i64 n, .int .i64 m, .int .i64 xi, .int .i64 xw, .string nm], .agg #[.int .i64 ai, .int .i64 aw], .agg #[.int .i64 bi, .int .i64 bw], .agg #[.int .i64 ci, .int .i64 cw]] w (ResPost (resN 38 n m ai aw bi bw ci cw) w) := by
 have HR := Lib.hid (show (resN 38 n m ai aw bi bw ci cw) = none by unfold resN; simp only [h0, h1, h2, h3, Bool.and_false, Bool.false_and, Bool.true_and, Bool.and_true]; rfl)
 go_enter Tryz.func95, Tryz.ntmps95
 go_upto_region 1 with fail
 obtain ⟨w2, hw2, HB, b0, b4, b5, b6, b7, d0, d1, d2, d3, d4, d5, r0, r1, f0, f1⟩ := sort_world 38 n m ai aw bi bw ci cw xa xb xc xi xw nm w
 rw [hw2]
 clear hw2
 have p0 := here b0; have p1 := here b4; have p2 := here b5; have p3 := here b6; have p4 := here b7; have p5 := here d0; have p6 := here d1; have p7 := here d2; have p8 := here d3; have p9 := here d4; have p10 := here d5
 go_wp2
 clear p0 p1 p2 p3 p4 p5 p6 p7 p8 p9 p10
 refine wp_region_two (G := w.heap.size + 4) 18 (.int .i64 (ai)) (.int .i64 (aw)) (by kernel_rfl) (by kernel_rfl) rfl (by kernel_rfl) HB.out (Nat.le_add_right _ _) r0 r1 f0 f1 ?_
 apply Exists.intro
 refine ⟨fun W hk => ?_, ?_, ?_, ?_⟩
 · have e0 := hk _ _ _ (by omega) b0; have e1 := hk _ _ _ (by omega) b4; have e2 := hk _ _ _ (by omega) b5; have e3 := hk _ _ _ (by omega) b6; have e4 := hk _ _ _ (by omega) b7; have e5 := hk _ _ _ (by omega) d0; have e6 := hk _ _ _ (by omega) d1; have e7 := hk _ _ _ (by omega) d2; have e8 := hk _ _ _ (by omega) d3; have e9 := hk _ _ _ (by omega) d4; have e10 := hk _ _ _ (by omega) d5
   clear hk
   simp only [List.take_succ_cons, List.take_zero]
   repeat (go_big_quiet_step (first | (go_at_call 60; exact Calls.later (words_calls _ _))))
   exact wpQuiet_nil rfl
 · rfl
 · intro u s0 s1 t0 t1
   go_simp
 · intro u hb s0 s1
   have hbel := Lib.hid hb
   simp only [List.drop_succ_cons, List.drop_zero]
   clear r0 r1 f0 f1 hb
   go_wp2
   exact bodyPost_ret (v := .tuple #[.agg #[.int .i64 (ai), .int .i64 (aw)], .bool false]) (by simp [results, Tryz.results95, go_sem, s0, s1]) rfl (respost_none HR.out hbel.out)
theorem sortOf_38_4 (n m ai aw bi bw ci cw xa xb xc xi xw : Int) (nm : ByteArray) (w : World) (h0 : (decide (0 < ai)) = true) (h1 : (bi == 0) = true) (h2 : (bw == ai) = true) (h3 : (ci == 0) = true) (h4 : (cw == aw) = false) :
 Calls Tryz.prog 95 #[.agg #[.int .i64 38, .int .i64 xa, .int .i64 xb, .int .i64 xc, .int .i64 n, .int .i64 m, .int .i64 xi, .int .i64 xw, .string nm], .agg #[.int .i64 ai, .int .i64 aw], .agg #[.int .i64 bi, .int .i64 bw], .agg #[.int .i64 ci, .int .i64 cw]] w (ResPost (resN 38 n m ai aw bi bw ci cw) w) := by
 have HR := Lib.hid (show (resN 38 n m ai aw bi bw ci cw) = none by unfold resN; simp only [h0, h1, h2, h3, h4, Bool.and_false, Bool.false_and, Bool.true_and, Bool.and_true]; rfl)
 go_enter Tryz.func95, Tryz.ntmps95
 go_upto_region 1 with fail
 obtain ⟨w2, hw2, HB, b0, b4, b5, b6, b7, d0, d1, d2, d3, d4, d5, r0, r1, f0, f1⟩ := sort_world 38 n m ai aw bi bw ci cw xa xb xc xi xw nm w
 rw [hw2]
 clear hw2
 have p0 := here b0; have p1 := here b4; have p2 := here b5; have p3 := here b6; have p4 := here b7; have p5 := here d0; have p6 := here d1; have p7 := here d2; have p8 := here d3; have p9 := here d4; have p10 := here d5
 go_wp2
 clear p0 p1 p2 p3 p4 p5 p6 p7 p8 p9 p10
 refine wp_region_two (G := w.heap.size + 4) 18 (.int .i64 (ai)) (.int .i64 (aw)) (by kernel_rfl) (by kernel_rfl) rfl (by kernel_rfl) HB.out (Nat.le_add_right _ _) r0 r1 f0 f1 ?_
 apply Exists.intro
 refine ⟨fun W hk => ?_, ?_, ?_, ?_⟩
 · have e0 := hk _ _ _ (by omega) b0; have e1 := hk _ _ _ (by omega) b4; have e2 := hk _ _ _ (by omega) b5; have e3 := hk _ _ _ (by omega) b6; have e4 := hk _ _ _ (by omega) b7; have e5 := hk _ _ _ (by omega) d0; have e6 := hk _ _ _ (by omega) d1; have e7 := hk _ _ _ (by omega) d2; have e8 := hk _ _ _ (by omega) d3; have e9 := hk _ _ _ (by omega) d4; have e10 := hk _ _ _ (by omega) d5
   clear hk
   simp only [List.take_succ_cons, List.take_zero]
   repeat (go_big_quiet_step (first | (go_at_call 60; exact Calls.later (words_calls _ _))))
   exact wpQuiet_nil rfl
 · rfl
 · intro u s0 s1 t0 t1
   go_simp
 · intro u hb s0 s1
   have hbel := Lib.hid hb
   simp only [List.drop_succ_cons, List.drop_zero]
   clear r0 r1 f0 f1 hb
   go_wp2
   exact bodyPost_ret (v := .tuple #[.agg #[.int .i64 (ai), .int .i64 (aw)], .bool false]) (by simp [results, Tryz.results95, go_sem, s0, s1]) rfl (respost_none HR.out hbel.out)
theorem sortOf_38_5 (n m ai aw bi bw ci cw xa xb xc xi xw : Int) (nm : ByteArray) (w : World) (h0 : (decide (0 < ai)) = true) (h1 : (bi == 0) = true) (h2 : (bw == ai) = true) (h3 : (ci == 0) = true) (h4 : (cw == aw) = true) :
 Calls Tryz.prog 95 #[.agg #[.int .i64 38, .int .i64 xa, .int .i64 xb, .int .i64 xc, .int .i64 n, .int .i64 m, .int .i64 xi, .int .i64 xw, .string nm], .agg #[.int .i64 ai, .int .i64 aw], .agg #[.int .i64 bi, .int .i64 bw], .agg #[.int .i64 ci, .int .i64 cw]] w (ResPost (resN 38 n m ai aw bi bw ci cw) w) := by
 have HR := Lib.hid (show (resN 38 n m ai aw bi bw ci cw) = some (ai, aw) by unfold resN; simp only [h0, h1, h2, h3, h4]; rfl)
 go_enter Tryz.func95, Tryz.ntmps95
 go_upto_region 1 with fail
 obtain ⟨w2, hw2, HB, b0, b4, b5, b6, b7, d0, d1, d2, d3, d4, d5, r0, r1, f0, f1⟩ := sort_world 38 n m ai aw bi bw ci cw xa xb xc xi xw nm w
 rw [hw2]
 clear hw2
 have p0 := here b0; have p1 := here b4; have p2 := here b5; have p3 := here b6; have p4 := here b7; have p5 := here d0; have p6 := here d1; have p7 := here d2; have p8 := here d3; have p9 := here d4; have p10 := here d5
 go_wp2
 clear p0 p1 p2 p3 p4 p5 p6 p7 p8 p9 p10
 refine wp_region_two (G := w.heap.size + 4) 18 (.int .i64 (ai)) (.int .i64 (aw)) (by kernel_rfl) (by kernel_rfl) rfl (by kernel_rfl) HB.out (Nat.le_add_right _ _) r0 r1 f0 f1 ?_
 apply Exists.intro
 refine ⟨fun W hk => ?_, ?_, ?_, ?_⟩
 · have e0 := hk _ _ _ (by omega) b0; have e1 := hk _ _ _ (by omega) b4; have e2 := hk _ _ _ (by omega) b5; have e3 := hk _ _ _ (by omega) b6; have e4 := hk _ _ _ (by omega) b7; have e5 := hk _ _ _ (by omega) d0; have e6 := hk _ _ _ (by omega) d1; have e7 := hk _ _ _ (by omega) d2; have e8 := hk _ _ _ (by omega) d3; have e9 := hk _ _ _ (by omega) d4; have e10 := hk _ _ _ (by omega) d5
   clear hk
   simp only [List.take_succ_cons, List.take_zero]
   repeat (go_big_quiet_step (first | (go_at_call 60; exact Calls.later (words_calls _ _))))
   exact wpQuiet_nil rfl
 · rfl
 · intro u s0 s1 t0 t1
   go_simp
 · intro u hb s0 s1
   have hbel := Lib.hid hb
   simp only [List.drop_succ_cons, List.drop_zero]
   clear r0 r1 f0 f1 hb
   go_wp2
   exact bodyPost_ret (v := .tuple #[.agg #[.int .i64 (ai), .int .i64 (aw)], .bool true]) (by simp [results, Tryz.results95, go_sem, s0, s1]) rfl (respost_some HR.out hbel.out)
theorem sortOf_38 (n m ai aw bi bw ci cw xa xb xc xi xw : Int) (nm : ByteArray) (w : World)  :
 Calls Tryz.prog 95 #[.agg #[.int .i64 38, .int .i64 xa, .int .i64 xb, .int .i64 xc, .int .i64 n, .int .i64 m, .int .i64 xi, .int .i64 xw, .string nm], .agg #[.int .i64 ai, .int .i64 aw], .agg #[.int .i64 bi, .int .i64 bw], .agg #[.int .i64 ci, .int .i64 cw]] w (ResPost (resN 38 n m ai aw bi bw ci cw) w) := by
 by_cases h0 : (decide (0 < ai)) = true
 rotate_left
 · exact sortOf_38_0 n m ai aw bi bw ci cw xa xb xc xi xw nm w  (eq_false_of_ne_true h0)
 by_cases h1 : (bi == 0) = true
 rotate_left
 · exact sortOf_38_1 n m ai aw bi bw ci cw xa xb xc xi xw nm w h0 (eq_false_of_ne_true h1)
 by_cases h2 : (bw == ai) = true
 rotate_left
 · exact sortOf_38_2 n m ai aw bi bw ci cw xa xb xc xi xw nm w h0 h1 (eq_false_of_ne_true h2)
 by_cases h3 : (ci == 0) = true
 rotate_left
 · exact sortOf_38_3 n m ai aw bi bw ci cw xa xb xc xi xw nm w h0 h1 h2 (eq_false_of_ne_true h3)
 by_cases h4 : (cw == aw) = true
 rotate_left
 · exact sortOf_38_4 n m ai aw bi bw ci cw xa xb xc xi xw nm w h0 h1 h2 h3 (eq_false_of_ne_true h4)
 exact sortOf_38_5 n m ai aw bi bw ci cw xa xb xc xi xw nm w h0 h1 h2 h3 h4
theorem sortOf_21_0 (n m ai aw bi bw ci cw xa xb xc xi xw : Int) (nm : ByteArray) (w : World) (h0 : (ai == bi) = false) :
 Calls Tryz.prog 95 #[.agg #[.int .i64 21, .int .i64 xa, .int .i64 xb, .int .i64 xc, .int .i64 n, .int .i64 m, .int .i64 xi, .int .i64 xw, .string nm], .agg #[.int .i64 ai, .int .i64 aw], .agg #[.int .i64 bi, .int .i64 bw], .agg #[.int .i64 ci, .int .i64 cw]] w (ResPost (resN 21 n m ai aw bi bw ci cw) w) := by
 have HR := Lib.hid (show (resN 21 n m ai aw bi bw ci cw) = none by unfold resN; simp only [h0, Bool.and_false, Bool.false_and, Bool.true_and, Bool.and_true]; rfl)
 go_enter Tryz.func95, Tryz.ntmps95
 go_upto_region 1 with fail
 obtain ⟨w2, hw2, HB, b0, b4, b5, b6, b7, d0, d1, d2, d3, d4, d5, r0, r1, f0, f1⟩ := sort_world 21 n m ai aw bi bw ci cw xa xb xc xi xw nm w
 rw [hw2]
 clear hw2
 have p0 := here b0; have p1 := here b4; have p2 := here b5; have p3 := here b6; have p4 := here b7; have p5 := here d0; have p6 := here d1; have p7 := here d2; have p8 := here d3; have p9 := here d4; have p10 := here d5
 go_wp2
 clear p0 p1 p2 p3 p4 p5 p6 p7 p8 p9 p10
 refine wp_region_two (G := w.heap.size + 4) 4 (.int .i64 (0)) (.int .i64 (1)) (by kernel_rfl) (by kernel_rfl) rfl (by kernel_rfl) HB.out (Nat.le_add_right _ _) r0 r1 f0 f1 ?_
 apply Exists.intro
 refine ⟨fun W hk => ?_, ?_, ?_, ?_⟩
 · have e0 := hk _ _ _ (by omega) b0; have e1 := hk _ _ _ (by omega) b4; have e2 := hk _ _ _ (by omega) b5; have e3 := hk _ _ _ (by omega) b6; have e4 := hk _ _ _ (by omega) b7; have e5 := hk _ _ _ (by omega) d0; have e6 := hk _ _ _ (by omega) d1; have e7 := hk _ _ _ (by omega) d2; have e8 := hk _ _ _ (by omega) d3; have e9 := hk _ _ _ (by omega) d4; have e10 := hk _ _ _ (by omega) d5
   clear hk
   simp only [List.take_succ_cons, List.take_zero]
   repeat (go_big_quiet_step (first | (go_at_call 60; exact Calls.later (words_calls _ _))))
   exact wpQuiet_nil rfl
 · rfl
 · intro u s0 s1 t0 t1
   go_simp
 · intro u hb s0 s1
   have hbel := Lib.hid hb
   simp only [List.drop_succ_cons, List.drop_zero]
   clear r0 r1 f0 f1 hb
   go_wp2
   exact bodyPost_ret (v := .tuple #[.agg #[.int .i64 (0), .int .i64 (1)], .bool false]) (by simp [results, Tryz.results95, go_sem, s0, s1]) rfl (respost_none HR.out hbel.out)
theorem sortOf_21_1 (n m ai aw bi bw ci cw xa xb xc xi xw : Int) (nm : ByteArray) (w : World) (h0 : (ai == bi) = true) (h1 : (aw == bw) = false) :
 Calls Tryz.prog 95 #[.agg #[.int .i64 21, .int .i64 xa, .int .i64 xb, .int .i64 xc, .int .i64 n, .int .i64 m, .int .i64 xi, .int .i64 xw, .string nm], .agg #[.int .i64 ai, .int .i64 aw], .agg #[.int .i64 bi, .int .i64 bw], .agg #[.int .i64 ci, .int .i64 cw]] w (ResPost (resN 21 n m ai aw bi bw ci cw) w) := by
 have HR := Lib.hid (show (resN 21 n m ai aw bi bw ci cw) = none by unfold resN; simp only [h0, h1, Bool.and_false, Bool.false_and, Bool.true_and, Bool.and_true]; rfl)
 go_enter Tryz.func95, Tryz.ntmps95
 go_upto_region 1 with fail
 obtain ⟨w2, hw2, HB, b0, b4, b5, b6, b7, d0, d1, d2, d3, d4, d5, r0, r1, f0, f1⟩ := sort_world 21 n m ai aw bi bw ci cw xa xb xc xi xw nm w
 rw [hw2]
 clear hw2
 have p0 := here b0; have p1 := here b4; have p2 := here b5; have p3 := here b6; have p4 := here b7; have p5 := here d0; have p6 := here d1; have p7 := here d2; have p8 := here d3; have p9 := here d4; have p10 := here d5
 go_wp2
 clear p0 p1 p2 p3 p4 p5 p6 p7 p8 p9 p10
 refine wp_region_two (G := w.heap.size + 4) 4 (.int .i64 (0)) (.int .i64 (1)) (by kernel_rfl) (by kernel_rfl) rfl (by kernel_rfl) HB.out (Nat.le_add_right _ _) r0 r1 f0 f1 ?_
 apply Exists.intro
 refine ⟨fun W hk => ?_, ?_, ?_, ?_⟩
 · have e0 := hk _ _ _ (by omega) b0; have e1 := hk _ _ _ (by omega) b4; have e2 := hk _ _ _ (by omega) b5; have e3 := hk _ _ _ (by omega) b6; have e4 := hk _ _ _ (by omega) b7; have e5 := hk _ _ _ (by omega) d0; have e6 := hk _ _ _ (by omega) d1; have e7 := hk _ _ _ (by omega) d2; have e8 := hk _ _ _ (by omega) d3; have e9 := hk _ _ _ (by omega) d4; have e10 := hk _ _ _ (by omega) d5
   clear hk
   simp only [List.take_succ_cons, List.take_zero]
   repeat (go_big_quiet_step (first | (go_at_call 60; exact Calls.later (words_calls _ _))))
   exact wpQuiet_nil rfl
 · rfl
 · intro u s0 s1 t0 t1
   go_simp
 · intro u hb s0 s1
   have hbel := Lib.hid hb
   simp only [List.drop_succ_cons, List.drop_zero]
   clear r0 r1 f0 f1 hb
   go_wp2
   exact bodyPost_ret (v := .tuple #[.agg #[.int .i64 (0), .int .i64 (1)], .bool false]) (by simp [results, Tryz.results95, go_sem, s0, s1]) rfl (respost_none HR.out hbel.out)
theorem sortOf_21_2 (n m ai aw bi bw ci cw xa xb xc xi xw : Int) (nm : ByteArray) (w : World) (h0 : (ai == bi) = true) (h1 : (aw == bw) = true) :
 Calls Tryz.prog 95 #[.agg #[.int .i64 21, .int .i64 xa, .int .i64 xb, .int .i64 xc, .int .i64 n, .int .i64 m, .int .i64 xi, .int .i64 xw, .string nm], .agg #[.int .i64 ai, .int .i64 aw], .agg #[.int .i64 bi, .int .i64 bw], .agg #[.int .i64 ci, .int .i64 cw]] w (ResPost (resN 21 n m ai aw bi bw ci cw) w) := by
 have HR := Lib.hid (show (resN 21 n m ai aw bi bw ci cw) = some (0, 1) by unfold resN; simp only [h0, h1]; rfl)
 go_enter Tryz.func95, Tryz.ntmps95
 go_upto_region 1 with fail
 obtain ⟨w2, hw2, HB, b0, b4, b5, b6, b7, d0, d1, d2, d3, d4, d5, r0, r1, f0, f1⟩ := sort_world 21 n m ai aw bi bw ci cw xa xb xc xi xw nm w
 rw [hw2]
 clear hw2
 have p0 := here b0; have p1 := here b4; have p2 := here b5; have p3 := here b6; have p4 := here b7; have p5 := here d0; have p6 := here d1; have p7 := here d2; have p8 := here d3; have p9 := here d4; have p10 := here d5
 go_wp2
 clear p0 p1 p2 p3 p4 p5 p6 p7 p8 p9 p10
 refine wp_region_two (G := w.heap.size + 4) 4 (.int .i64 (0)) (.int .i64 (1)) (by kernel_rfl) (by kernel_rfl) rfl (by kernel_rfl) HB.out (Nat.le_add_right _ _) r0 r1 f0 f1 ?_
 apply Exists.intro
 refine ⟨fun W hk => ?_, ?_, ?_, ?_⟩
 · have e0 := hk _ _ _ (by omega) b0; have e1 := hk _ _ _ (by omega) b4; have e2 := hk _ _ _ (by omega) b5; have e3 := hk _ _ _ (by omega) b6; have e4 := hk _ _ _ (by omega) b7; have e5 := hk _ _ _ (by omega) d0; have e6 := hk _ _ _ (by omega) d1; have e7 := hk _ _ _ (by omega) d2; have e8 := hk _ _ _ (by omega) d3; have e9 := hk _ _ _ (by omega) d4; have e10 := hk _ _ _ (by omega) d5
   clear hk
   simp only [List.take_succ_cons, List.take_zero]
   repeat (go_big_quiet_step (first | (go_at_call 60; exact Calls.later (words_calls _ _))))
   exact wpQuiet_nil rfl
 · rfl
 · intro u s0 s1 t0 t1
   go_simp
 · intro u hb s0 s1
   have hbel := Lib.hid hb
   simp only [List.drop_succ_cons, List.drop_zero]
   clear r0 r1 f0 f1 hb
   go_wp2
   exact bodyPost_ret (v := .tuple #[.agg #[.int .i64 (0), .int .i64 (1)], .bool true]) (by simp [results, Tryz.results95, go_sem, s0, s1]) rfl (respost_some HR.out hbel.out)
theorem sortOf_21 (n m ai aw bi bw ci cw xa xb xc xi xw : Int) (nm : ByteArray) (w : World)  :
 Calls Tryz.prog 95 #[.agg #[.int .i64 21, .int .i64 xa, .int .i64 xb, .int .i64 xc, .int .i64 n, .int .i64 m, .int .i64 xi, .int .i64 xw, .string nm], .agg #[.int .i64 ai, .int .i64 aw], .agg #[.int .i64 bi, .int .i64 bw], .agg #[.int .i64 ci, .int .i64 cw]] w (ResPost (resN 21 n m ai aw bi bw ci cw) w) := by
 by_cases h0 : (ai == bi) = true
 rotate_left
 · exact sortOf_21_0 n m ai aw bi bw ci cw xa xb xc xi xw nm w  (eq_false_of_ne_true h0)
 by_cases h1 : (aw == bw) = true
 rotate_left
 · exact sortOf_21_1 n m ai aw bi bw ci cw xa xb xc xi xw nm w h0 (eq_false_of_ne_true h1)
 exact sortOf_21_2 n m ai aw bi bw ci cw xa xb xc xi xw nm w h0 h1
end Go.Proofs.YtdojaijnejcoiaaGreat
namespace Go.Proofs.YtdojaijnejcoiaaGreat
open Go.RowKit
attribute [local go_sem high] eq_sort
theorem sortOf_35_true (n m ai aw bi bw ci cw xa xb xc xi xw : Int) (nm : ByteArray) (w : World) (r : Option (Int × Int)) (hr : r = some (xi, xw)) (h : sokB xi xw = true) :
 Calls Tryz.prog 95 #[.agg #[.int .i64 35, .int .i64 xa, .int .i64 xb, .int .i64 xc, .int .i64 n, .int .i64 m, .int .i64 xi, .int .i64 xw, .string nm], .agg #[.int .i64 ai, .int .i64 aw], .agg #[.int .i64 bi, .int .i64 bw], .agg #[.int .i64 ci, .int .i64 cw]] w (ResPost (r) w) := by
 have HR := Lib.hid (show (r) = some (xi, xw) by exact hr)
 have HSO := Lib.hid h
 clear h hr
 go_enter Tryz.func95, Tryz.ntmps95
 go_upto_region 1 with fail
 obtain ⟨w2, hw2, HB, b0, b4, b5, b6, b7, d0, d1, d2, d3, d4, d5, r0, r1, f0, f1⟩ := sort_world 35 n m ai aw bi bw ci cw xa xb xc xi xw nm w
 rw [hw2]
 clear hw2
 have p0 := here b0; have p1 := here b4; have p2 := here b5; have p3 := here b6; have p4 := here b7; have p5 := here d0; have p6 := here d1; have p7 := here d2; have p8 := here d3; have p9 := here d4; have p10 := here d5
 go_wp2
 clear p0 p1 p2 p3 p4 p5 p6 p7 p8 p9 p10
 refine wp_region_two (G := w.heap.size + 4) 5 (.int .i64 (xi)) (.int .i64 (xw)) (by kernel_rfl) (by kernel_rfl) rfl (by kernel_rfl) HB.out (Nat.le_add_right _ _) r0 r1 f0 f1 ?_
 apply Exists.intro
 refine ⟨fun W hk => ?_, ?_, ?_, ?_⟩
 · have e0 := hk _ _ _ (by omega) b0; have e1 := hk _ _ _ (by omega) b4; have e2 := hk _ _ _ (by omega) b5; have e3 := hk _ _ _ (by omega) b6; have e4 := hk _ _ _ (by omega) b7; have e5 := hk _ _ _ (by omega) d0; have e6 := hk _ _ _ (by omega) d1; have e7 := hk _ _ _ (by omega) d2; have e8 := hk _ _ _ (by omega) d3; have e9 := hk _ _ _ (by omega) d4; have e10 := hk _ _ _ (by omega) d5
   clear hk
   simp only [List.take_succ_cons, List.take_zero]
   repeat (go_big_quiet_step (first | (go_at_call 94; exact Calls.later_eq (SortOk'_calls xi xw _) (congrArg Value.bool HSO.out))))
   exact wpQuiet_nil rfl
 · rfl
 · intro u s0 s1 t0 t1
   go_simp
 · intro u hb s0 s1
   have hbel := Lib.hid hb
   simp only [List.drop_succ_cons, List.drop_zero]
   clear r0 r1 f0 f1 hb
   go_wp2
   exact bodyPost_ret (v := .tuple #[.agg #[.int .i64 (xi), .int .i64 (xw)], .bool true]) (by simp [results, Tryz.results95, go_sem, s0, s1]) rfl (respost_some HR.out hbel.out)
theorem sortOf_35_false (n m ai aw bi bw ci cw xa xb xc xi xw : Int) (nm : ByteArray) (w : World) (r : Option (Int × Int)) (hr : r = none) (h : sokB xi xw = false) :
 Calls Tryz.prog 95 #[.agg #[.int .i64 35, .int .i64 xa, .int .i64 xb, .int .i64 xc, .int .i64 n, .int .i64 m, .int .i64 xi, .int .i64 xw, .string nm], .agg #[.int .i64 ai, .int .i64 aw], .agg #[.int .i64 bi, .int .i64 bw], .agg #[.int .i64 ci, .int .i64 cw]] w (ResPost (r) w) := by
 have HR := Lib.hid (show (r) = none by exact hr)
 have HSO := Lib.hid h
 clear h hr
 go_enter Tryz.func95, Tryz.ntmps95
 go_upto_region 1 with fail
 obtain ⟨w2, hw2, HB, b0, b4, b5, b6, b7, d0, d1, d2, d3, d4, d5, r0, r1, f0, f1⟩ := sort_world 35 n m ai aw bi bw ci cw xa xb xc xi xw nm w
 rw [hw2]
 clear hw2
 have p0 := here b0; have p1 := here b4; have p2 := here b5; have p3 := here b6; have p4 := here b7; have p5 := here d0; have p6 := here d1; have p7 := here d2; have p8 := here d3; have p9 := here d4; have p10 := here d5
 go_wp2
 clear p0 p1 p2 p3 p4 p5 p6 p7 p8 p9 p10
 refine wp_region_two (G := w.heap.size + 4) 5 (.int .i64 (xi)) (.int .i64 (xw)) (by kernel_rfl) (by kernel_rfl) rfl (by kernel_rfl) HB.out (Nat.le_add_right _ _) r0 r1 f0 f1 ?_
 apply Exists.intro
 refine ⟨fun W hk => ?_, ?_, ?_, ?_⟩
 · have e0 := hk _ _ _ (by omega) b0; have e1 := hk _ _ _ (by omega) b4; have e2 := hk _ _ _ (by omega) b5; have e3 := hk _ _ _ (by omega) b6; have e4 := hk _ _ _ (by omega) b7; have e5 := hk _ _ _ (by omega) d0; have e6 := hk _ _ _ (by omega) d1; have e7 := hk _ _ _ (by omega) d2; have e8 := hk _ _ _ (by omega) d3; have e9 := hk _ _ _ (by omega) d4; have e10 := hk _ _ _ (by omega) d5
   clear hk
   simp only [List.take_succ_cons, List.take_zero]
   repeat (go_big_quiet_step (first | (go_at_call 94; exact Calls.later_eq (SortOk'_calls xi xw _) (congrArg Value.bool HSO.out))))
   exact wpQuiet_nil rfl
 · rfl
 · intro u s0 s1 t0 t1
   go_simp
 · intro u hb s0 s1
   have hbel := Lib.hid hb
   simp only [List.drop_succ_cons, List.drop_zero]
   clear r0 r1 f0 f1 hb
   go_wp2
   exact bodyPost_ret (v := .tuple #[.agg #[.int .i64 (xi), .int .i64 (xw)], .bool false]) (by simp [results, Tryz.results95, go_sem, s0, s1]) rfl (respost_none HR.out hbel.out)
theorem sortOf_36_true (n m ai aw bi bw ci cw xa xb xc xi xw : Int) (nm : ByteArray) (w : World) (r : Option (Int × Int)) (hr : r = some (xi, xw)) (h : sokB xi xw = true) :
 Calls Tryz.prog 95 #[.agg #[.int .i64 36, .int .i64 xa, .int .i64 xb, .int .i64 xc, .int .i64 n, .int .i64 m, .int .i64 xi, .int .i64 xw, .string nm], .agg #[.int .i64 ai, .int .i64 aw], .agg #[.int .i64 bi, .int .i64 bw], .agg #[.int .i64 ci, .int .i64 cw]] w (ResPost (r) w) := by
 have HR := Lib.hid (show (r) = some (xi, xw) by exact hr)
 have HSO := Lib.hid h
 clear h hr
 go_enter Tryz.func95, Tryz.ntmps95
 go_upto_region 1 with fail
 obtain ⟨w2, hw2, HB, b0, b4, b5, b6, b7, d0, d1, d2, d3, d4, d5, r0, r1, f0, f1⟩ := sort_world 36 n m ai aw bi bw ci cw xa xb xc xi xw nm w
 rw [hw2]
 clear hw2
 have p0 := here b0; have p1 := here b4; have p2 := here b5; have p3 := here b6; have p4 := here b7; have p5 := here d0; have p6 := here d1; have p7 := here d2; have p8 := here d3; have p9 := here d4; have p10 := here d5
 go_wp2
 clear p0 p1 p2 p3 p4 p5 p6 p7 p8 p9 p10
 refine wp_region_two (G := w.heap.size + 4) 5 (.int .i64 (xi)) (.int .i64 (xw)) (by kernel_rfl) (by kernel_rfl) rfl (by kernel_rfl) HB.out (Nat.le_add_right _ _) r0 r1 f0 f1 ?_
 apply Exists.intro
 refine ⟨fun W hk => ?_, ?_, ?_, ?_⟩
 · have e0 := hk _ _ _ (by omega) b0; have e1 := hk _ _ _ (by omega) b4; have e2 := hk _ _ _ (by omega) b5; have e3 := hk _ _ _ (by omega) b6; have e4 := hk _ _ _ (by omega) b7; have e5 := hk _ _ _ (by omega) d0; have e6 := hk _ _ _ (by omega) d1; have e7 := hk _ _ _ (by omega) d2; have e8 := hk _ _ _ (by omega) d3; have e9 := hk _ _ _ (by omega) d4; have e10 := hk _ _ _ (by omega) d5
   clear hk
   simp only [List.take_succ_cons, List.take_zero]
   repeat (go_big_quiet_step (first | (go_at_call 94; exact Calls.later_eq (SortOk'_calls xi xw _) (congrArg Value.bool HSO.out))))
   exact wpQuiet_nil rfl
 · rfl
 · intro u s0 s1 t0 t1
   go_simp
 · intro u hb s0 s1
   have hbel := Lib.hid hb
   simp only [List.drop_succ_cons, List.drop_zero]
   clear r0 r1 f0 f1 hb
   go_wp2
   exact bodyPost_ret (v := .tuple #[.agg #[.int .i64 (xi), .int .i64 (xw)], .bool true]) (by simp [results, Tryz.results95, go_sem, s0, s1]) rfl (respost_some HR.out hbel.out)
theorem sortOf_36_false (n m ai aw bi bw ci cw xa xb xc xi xw : Int) (nm : ByteArray) (w : World) (r : Option (Int × Int)) (hr : r = none) (h : sokB xi xw = false) :
 Calls Tryz.prog 95 #[.agg #[.int .i64 36, .int .i64 xa, .int .i64 xb, .int .i64 xc, .int .i64 n, .int .i64 m, .int .i64 xi, .int .i64 xw, .string nm], .agg #[.int .i64 ai, .int .i64 aw], .agg #[.int .i64 bi, .int .i64 bw], .agg #[.int .i64 ci, .int .i64 cw]] w (ResPost (r) w) := by
 have HR := Lib.hid (show (r) = none by exact hr)
 have HSO := Lib.hid h
 clear h hr
 go_enter Tryz.func95, Tryz.ntmps95
 go_upto_region 1 with fail
 obtain ⟨w2, hw2, HB, b0, b4, b5, b6, b7, d0, d1, d2, d3, d4, d5, r0, r1, f0, f1⟩ := sort_world 36 n m ai aw bi bw ci cw xa xb xc xi xw nm w
 rw [hw2]
 clear hw2
 have p0 := here b0; have p1 := here b4; have p2 := here b5; have p3 := here b6; have p4 := here b7; have p5 := here d0; have p6 := here d1; have p7 := here d2; have p8 := here d3; have p9 := here d4; have p10 := here d5
 go_wp2
 clear p0 p1 p2 p3 p4 p5 p6 p7 p8 p9 p10
 refine wp_region_two (G := w.heap.size + 4) 5 (.int .i64 (xi)) (.int .i64 (xw)) (by kernel_rfl) (by kernel_rfl) rfl (by kernel_rfl) HB.out (Nat.le_add_right _ _) r0 r1 f0 f1 ?_
 apply Exists.intro
 refine ⟨fun W hk => ?_, ?_, ?_, ?_⟩
 · have e0 := hk _ _ _ (by omega) b0; have e1 := hk _ _ _ (by omega) b4; have e2 := hk _ _ _ (by omega) b5; have e3 := hk _ _ _ (by omega) b6; have e4 := hk _ _ _ (by omega) b7; have e5 := hk _ _ _ (by omega) d0; have e6 := hk _ _ _ (by omega) d1; have e7 := hk _ _ _ (by omega) d2; have e8 := hk _ _ _ (by omega) d3; have e9 := hk _ _ _ (by omega) d4; have e10 := hk _ _ _ (by omega) d5
   clear hk
   simp only [List.take_succ_cons, List.take_zero]
   repeat (go_big_quiet_step (first | (go_at_call 94; exact Calls.later_eq (SortOk'_calls xi xw _) (congrArg Value.bool HSO.out))))
   exact wpQuiet_nil rfl
 · rfl
 · intro u s0 s1 t0 t1
   go_simp
 · intro u hb s0 s1
   have hbel := Lib.hid hb
   simp only [List.drop_succ_cons, List.drop_zero]
   clear r0 r1 f0 f1 hb
   go_wp2
   exact bodyPost_ret (v := .tuple #[.agg #[.int .i64 (xi), .int .i64 (xw)], .bool false]) (by simp [results, Tryz.results95, go_sem, s0, s1]) rfl (respost_none HR.out hbel.out)
theorem sortOf_34_0 (n m ai aw bi bw ci cw xa xb xc xi xw : Int) (nm : ByteArray) (w : World) (r : Option (Int × Int)) (hr : r = none) (h0 : (xi == 0) = false) :
 Calls Tryz.prog 95 #[.agg #[.int .i64 34, .int .i64 xa, .int .i64 xb, .int .i64 xc, .int .i64 n, .int .i64 m, .int .i64 xi, .int .i64 xw, .string nm], .agg #[.int .i64 ai, .int .i64 aw], .agg #[.int .i64 bi, .int .i64 bw], .agg #[.int .i64 ci, .int .i64 cw]] w (ResPost (r) w) := by
 have HR := Lib.hid (show (r) = none by exact hr)
 clear hr
 go_enter Tryz.func95, Tryz.ntmps95
 go_upto_region 1 with fail
 obtain ⟨w2, hw2, HB, b0, b4, b5, b6, b7, d0, d1, d2, d3, d4, d5, r0, r1, f0, f1⟩ := sort_world 34 n m ai aw bi bw ci cw xa xb xc xi xw nm w
 rw [hw2]
 clear hw2
 have p0 := here b0; have p1 := here b4; have p2 := here b5; have p3 := here b6; have p4 := here b7; have p5 := here d0; have p6 := here d1; have p7 := here d2; have p8 := here d3; have p9 := here d4; have p10 := here d5
 go_wp2
 clear p0 p1 p2 p3 p4 p5 p6 p7 p8 p9 p10
 refine wp_region_two (G := w.heap.size + 4) 14 (.int .i64 (xi)) (.int .i64 (xw)) (by kernel_rfl) (by kernel_rfl) rfl (by kernel_rfl) HB.out (Nat.le_add_right _ _) r0 r1 f0 f1 ?_
 apply Exists.intro
 refine ⟨fun W hk => ?_, ?_, ?_, ?_⟩
 · have e0 := hk _ _ _ (by omega) b0; have e1 := hk _ _ _ (by omega) b4; have e2 := hk _ _ _ (by omega) b5; have e3 := hk _ _ _ (by omega) b6; have e4 := hk _ _ _ (by omega) b7; have e5 := hk _ _ _ (by omega) d0; have e6 := hk _ _ _ (by omega) d1; have e7 := hk _ _ _ (by omega) d2; have e8 := hk _ _ _ (by omega) d3; have e9 := hk _ _ _ (by omega) d4; have e10 := hk _ _ _ (by omega) d5
   clear hk
   simp only [List.take_succ_cons, List.take_zero]
   repeat (go_big_quiet_step (first | (go_at_call 60; exact Calls.later (words_calls _ _))))
   exact wpQuiet_nil rfl
 · rfl
 · intro u s0 s1 t0 t1
   go_simp
 · intro u hb s0 s1
   have hbel := Lib.hid hb
   simp only [List.drop_succ_cons, List.drop_zero]
   clear r0 r1 f0 f1 hb
   go_wp2
   exact bodyPost_ret (v := .tuple #[.agg #[.int .i64 (xi), .int .i64 (xw)], .bool false]) (by simp [results, Tryz.results95, go_sem, s0, s1]) rfl (respost_none HR.out hbel.out)
theorem sortOf_34_1 (n m ai aw bi bw ci cw xa xb xc xi xw : Int) (nm : ByteArray) (w : World) (r : Option (Int × Int)) (hr : r = none) (h0 : (xi == 0) = true) (h : wokB xw n = false) :
 Calls Tryz.prog 95 #[.agg #[.int .i64 34, .int .i64 xa, .int .i64 xb, .int .i64 xc, .int .i64 n, .int .i64 m, .int .i64 xi, .int .i64 xw, .string nm], .agg #[.int .i64 ai, .int .i64 aw], .agg #[.int .i64 bi, .int .i64 bw], .agg #[.int .i64 ci, .int .i64 cw]] w (ResPost (r) w) := by
 have HR := Lib.hid (show (r) = none by exact hr)
 have HWO := Lib.hid h
 clear h hr
 go_enter Tryz.func95, Tryz.ntmps95
 go_upto_region 1 with fail
 obtain ⟨w2, hw2, HB, b0, b4, b5, b6, b7, d0, d1, d2, d3, d4, d5, r0, r1, f0, f1⟩ := sort_world 34 n m ai aw bi bw ci cw xa xb xc xi xw nm w
 rw [hw2]
 clear hw2
 have p0 := here b0; have p1 := here b4; have p2 := here b5; have p3 := here b6; have p4 := here b7; have p5 := here d0; have p6 := here d1; have p7 := here d2; have p8 := here d3; have p9 := here d4; have p10 := here d5
 go_wp2
 clear p0 p1 p2 p3 p4 p5 p6 p7 p8 p9 p10
 refine wp_region_two (G := w.heap.size + 4) 14 (.int .i64 (xi)) (.int .i64 (xw)) (by kernel_rfl) (by kernel_rfl) rfl (by kernel_rfl) HB.out (Nat.le_add_right _ _) r0 r1 f0 f1 ?_
 apply Exists.intro
 refine ⟨fun W hk => ?_, ?_, ?_, ?_⟩
 · have e0 := hk _ _ _ (by omega) b0; have e1 := hk _ _ _ (by omega) b4; have e2 := hk _ _ _ (by omega) b5; have e3 := hk _ _ _ (by omega) b6; have e4 := hk _ _ _ (by omega) b7; have e5 := hk _ _ _ (by omega) d0; have e6 := hk _ _ _ (by omega) d1; have e7 := hk _ _ _ (by omega) d2; have e8 := hk _ _ _ (by omega) d3; have e9 := hk _ _ _ (by omega) d4; have e10 := hk _ _ _ (by omega) d5
   clear hk
   simp only [List.take_succ_cons, List.take_zero]
   repeat (go_big_quiet_step (first | (go_at_call 106; exact Calls.later_eq (Makes.of_same (WordOk'_same xw n _)) (congrArg Value.bool HWO.out))))
   exact wpQuiet_nil rfl
 · rfl
 · intro u s0 s1 t0 t1
   go_simp
 · intro u hb s0 s1
   have hbel := Lib.hid hb
   simp only [List.drop_succ_cons, List.drop_zero]
   clear r0 r1 f0 f1 hb
   go_wp2
   exact bodyPost_ret (v := .tuple #[.agg #[.int .i64 (xi), .int .i64 (xw)], .bool false]) (by simp [results, Tryz.results95, go_sem, s0, s1]) rfl (respost_none HR.out hbel.out)
theorem sortOf_34_2 (n m ai aw bi bw ci cw xa xb xc xi xw : Int) (nm : ByteArray) (w : World) (r : Option (Int × Int)) (hr : r = some (xi, xw)) (h0 : (xi == 0) = true) (h : wokB xw n = true) :
 Calls Tryz.prog 95 #[.agg #[.int .i64 34, .int .i64 xa, .int .i64 xb, .int .i64 xc, .int .i64 n, .int .i64 m, .int .i64 xi, .int .i64 xw, .string nm], .agg #[.int .i64 ai, .int .i64 aw], .agg #[.int .i64 bi, .int .i64 bw], .agg #[.int .i64 ci, .int .i64 cw]] w (ResPost (r) w) := by
 have HR := Lib.hid (show (r) = some (xi, xw) by exact hr)
 have HWO := Lib.hid h
 clear h hr
 go_enter Tryz.func95, Tryz.ntmps95
 go_upto_region 1 with fail
 obtain ⟨w2, hw2, HB, b0, b4, b5, b6, b7, d0, d1, d2, d3, d4, d5, r0, r1, f0, f1⟩ := sort_world 34 n m ai aw bi bw ci cw xa xb xc xi xw nm w
 rw [hw2]
 clear hw2
 have p0 := here b0; have p1 := here b4; have p2 := here b5; have p3 := here b6; have p4 := here b7; have p5 := here d0; have p6 := here d1; have p7 := here d2; have p8 := here d3; have p9 := here d4; have p10 := here d5
 go_wp2
 clear p0 p1 p2 p3 p4 p5 p6 p7 p8 p9 p10
 refine wp_region_two (G := w.heap.size + 4) 14 (.int .i64 (xi)) (.int .i64 (xw)) (by kernel_rfl) (by kernel_rfl) rfl (by kernel_rfl) HB.out (Nat.le_add_right _ _) r0 r1 f0 f1 ?_
 apply Exists.intro
 refine ⟨fun W hk => ?_, ?_, ?_, ?_⟩
 · have e0 := hk _ _ _ (by omega) b0; have e1 := hk _ _ _ (by omega) b4; have e2 := hk _ _ _ (by omega) b5; have e3 := hk _ _ _ (by omega) b6; have e4 := hk _ _ _ (by omega) b7; have e5 := hk _ _ _ (by omega) d0; have e6 := hk _ _ _ (by omega) d1; have e7 := hk _ _ _ (by omega) d2; have e8 := hk _ _ _ (by omega) d3; have e9 := hk _ _ _ (by omega) d4; have e10 := hk _ _ _ (by omega) d5
   clear hk
   simp only [List.take_succ_cons, List.take_zero]
   repeat (go_big_quiet_step (first | (go_at_call 106; exact Calls.later_eq (Makes.of_same (WordOk'_same xw n _)) (congrArg Value.bool HWO.out))))
   exact wpQuiet_nil rfl
 · rfl
 · intro u s0 s1 t0 t1
   go_simp
 · intro u hb s0 s1
   have hbel := Lib.hid hb
   simp only [List.drop_succ_cons, List.drop_zero]
   clear r0 r1 f0 f1 hb
   go_wp2
   exact bodyPost_ret (v := .tuple #[.agg #[.int .i64 (xi), .int .i64 (xw)], .bool true]) (by simp [results, Tryz.results95, go_sem, s0, s1]) rfl (respost_some HR.out hbel.out)
end Go.Proofs.YtdojaijnejcoiaaGreat
