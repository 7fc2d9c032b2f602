import Derived.Test.YtbiilnehgdhkoaaGc
import Derived.Deep.RegionHeld3
import Derived.LoopN
set_option linter.unusedVariables false
set_option linter.unusedSimpArgs false
namespace Go.Proofs.Ytbiilnehgdhkoaa
open Go.RowKit
attribute [local go_sem high] eq_sort
theorem l2Word_exact (n : Int) (w : World) : Calls Try.prog 43 #[.int .i64 n] w fun e w' => e = .returned (.agg #[.int .i64 0, .int .i64 n]) ∧ w' = w.alloc (.cells #[.int .i64 0, .int .i64 n] 59) := by
  go_enter Try.func43, Try.ntmps43
  go_wp2
  exact bodyPost_ret (v := .agg #[.int .i64 0, .int .i64 n]) (by simp [results, Try.results43, go_sem]) rfl ⟨rfl, rfl⟩
/-! The sort of a node by its parts'. -/
def resN (kind n m ai aw bi bw ci cw : Int) : Option (Int × Int) :=
  if kind = 33 then (if (ai == 0 && (aw == 1)) && (bi == ci && (bw == cw)) then some (bi, bw) else none)
  else if kind = 37 then (if decide (0 < ai) && (bi == 0 && (bw == ai)) then some (0, aw) else none)
  else if kind = 38 then (if decide (0 < ai) && ((bi == 0 && (bw == ai)) && (ci == 0 && (cw == aw))) then some (ai, aw) else none)
  else if kind = 21 then (if ai == bi && (aw == bw) then some (0, 1) else none)
  else if ¬ ai = 0 ∨ ¬ bi = 0 then none
  else if kind = 29 then (if aw + bw ≤ 16 then some (0, aw + bw) else none)
  else if kind = 30 then (if 0 ≤ m ∧ m ≤ n ∧ n < aw then some (0, n - m + 1) else none)
  else if kind = 31 ∨ kind = 32 then (if 0 ≤ n ∧ n ≤ 16 - aw then some (0, aw + n) else none)
  else if kind ≤ 2 then some (0, aw)
  else if kind ≤ 5 then some (0, 1)
  else if aw = bw then some (if kind ≤ 20 then (0, aw) else (0, 1)) else none
/-- What is handed back: a sort, and whether it is one. -/
def ResPost (r : Option (Int × Int)) (w : World) (e : Ending) (w' : World) : Prop :=
  ∃ (i a : Int) (ok : Bool), e = .returned (.tuple #[.agg #[.int .i64 i, .int .i64 a], .bool ok]) ∧ Below w.heap.size w w' ∧ ok = r.isSome ∧ ∀ p, r = some p → (i, a) = p
theorem respost_some {r : Option (Int × Int)} {i a : Int} {w w' : World} (h : r = some (i, a)) (hb : Below w.heap.size w w') : ResPost r w (.returned (.tuple #[.agg #[.int .i64 i, .int .i64 a], .bool true])) w' :=
  ⟨i, a, true, rfl, hb, by rw [h]; rfl, fun p hp => by rw [h] at hp; exact Option.some.inj hp⟩
theorem respost_none {r : Option (Int × Int)} {i a : Int} {w w' : World} (h : r = none) (hb : Below w.heap.size w w') : ResPost r w (.returned (.tuple #[.agg #[.int .i64 i, .int .i64 a], .bool false])) w' :=
  ⟨i, a, false, rfl, hb, by rw [h]; rfl, fun p hp => by rw [h] at hp; cases hp⟩
set_option maxHeartbeats 2000000 in
set_option maxRecDepth 8000 in
theorem l2Result_33_0 (n m ai aw bi bw ci cw xa xb xc xi xw : Int) (nm : ByteArray) (g cap : Nat) (w : World) (hcap : 3 ≤ cap) (c0 : w.cell? ⟨g, 0, none⟩ = some (.int .i64 ai)) (c1 : w.cell? ⟨g, 1, none⟩ = some (.int .i64 aw)) (c2 : w.cell? ⟨g, 2, none⟩ = some (.int .i64 bi)) (c3 : w.cell? ⟨g, 3, none⟩ = some (.int .i64 bw)) (c4 : w.cell? ⟨g, 4, none⟩ = some (.int .i64 ci)) (c5 : w.cell? ⟨g, 5, none⟩ = some (.int .i64 cw)) (h0 : (ai == 0) = false) :
    Calls Try.prog 63 #[.agg #[.int .i64 33, .int .i64 xa, .int .i64 xb, .int .i64 xc, .int .i64 n, .int .i64 m, .int .i64 xi, .int .i64 xw, .string nm], .slice (some ⟨g, 0, none⟩) 3 cap] w (ResPost (resN 33 n m ai aw bi bw ci cw) w) := by
  have hlt : g < w.heap.size := World.block_lt_of_cell? _ _ c0
  have HR := Lib.hid (show resN 33 n m ai aw bi bw ci cw = none by unfold resN; simp only [h0, Bool.and_false, Bool.false_and, Bool.true_and, Bool.and_true]; rfl)
  go_enter Try.func63, Try.ntmps63
  go_wp2
  have HB := Lib.hid (show Below w.heap.size w ((w.alloc (Obj.cells #[.int .i64 33, .int .i64 xa, .int .i64 xb, .int .i64 xc, .int .i64 n, .int .i64 m, .int .i64 xi, .int .i64 xw, .string nm] 61)).alloc (Obj.cells #[.int .i64 0, .int .i64 0] 59)) from (box_below _ _ _).alloc (by simp) _)
  have b0 : ((w.alloc (Obj.cells #[.int .i64 33, .int .i64 xa, .int .i64 xb, .int .i64 xc, .int .i64 n, .int .i64 m, .int .i64 xi, .int .i64 xw, .string nm] 61)).alloc (Obj.cells #[.int .i64 0, .int .i64 0] 59)).cell? ⟨w.heap.size, 0, none⟩ = some (.int .i64 33) := by go_simp
  have b4 : ((w.alloc (Obj.cells #[.int .i64 33, .int .i64 xa, .int .i64 xb, .int .i64 xc, .int .i64 n, .int .i64 m, .int .i64 xi, .int .i64 xw, .string nm] 61)).alloc (Obj.cells #[.int .i64 0, .int .i64 0] 59)).cell? ⟨w.heap.size, 4, none⟩ = some (.int .i64 n) := by go_simp
  have b5 : ((w.alloc (Obj.cells #[.int .i64 33, .int .i64 xa, .int .i64 xb, .int .i64 xc, .int .i64 n, .int .i64 m, .int .i64 xi, .int .i64 xw, .string nm] 61)).alloc (Obj.cells #[.int .i64 0, .int .i64 0] 59)).cell? ⟨w.heap.size, 5, none⟩ = some (.int .i64 m) := by go_simp
  have r0 : ((w.alloc (Obj.cells #[.int .i64 33, .int .i64 xa, .int .i64 xb, .int .i64 xc, .int .i64 n, .int .i64 m, .int .i64 xi, .int .i64 xw, .string nm] 61)).alloc (Obj.cells #[.int .i64 0, .int .i64 0] 59)).cell? ⟨w.heap.size + 1, 0, none⟩ = some (.int .i64 0) := by go_simp
  have f0 : ((w.alloc (Obj.cells #[.int .i64 33, .int .i64 xa, .int .i64 xb, .int .i64 xc, .int .i64 n, .int .i64 m, .int .i64 xi, .int .i64 xw, .string nm] 61)).alloc (Obj.cells #[.int .i64 0, .int .i64 0] 59)).frozen? ⟨w.heap.size + 1, 0, none⟩ = false := by go_simp
  have r1 : ((w.alloc (Obj.cells #[.int .i64 33, .int .i64 xa, .int .i64 xb, .int .i64 xc, .int .i64 n, .int .i64 m, .int .i64 xi, .int .i64 xw, .string nm] 61)).alloc (Obj.cells #[.int .i64 0, .int .i64 0] 59)).cell? ⟨w.heap.size + 1, 1, none⟩ = some (.int .i64 0) := by go_simp
  have f1 : ((w.alloc (Obj.cells #[.int .i64 33, .int .i64 xa, .int .i64 xb, .int .i64 xc, .int .i64 n, .int .i64 m, .int .i64 xi, .int .i64 xw, .string nm] 61)).alloc (Obj.cells #[.int .i64 0, .int .i64 0] 59)).frozen? ⟨w.heap.size + 1, 1, none⟩ = false := by go_simp
  generalize ((w.alloc (Obj.cells #[.int .i64 33, .int .i64 xa, .int .i64 xb, .int .i64 xc, .int .i64 n, .int .i64 m, .int .i64 xi, .int .i64 xw, .string nm] 61)).alloc (Obj.cells #[.int .i64 0, .int .i64 0] 59)) = w2 at *
  have f0 := Later.frozen f0 (World.block_lt_of_cell? _ _ r0)
  have f1 := Later.frozen f1 (World.block_lt_of_cell? _ _ r1)
  have b0 := Later.cell b0
  have b4 := Later.cell b4
  have b5 := Later.cell b5
  have r0 := Later.cell r0
  have r1 := Later.cell r1
  have c0 : ∀ l : Later w2, l.val.cell? ⟨g, 0, none⟩ = some (.int .i64 ai) := fun l => Later.cell c0 ⟨l.val, l.back HB.out⟩
  have c1 : ∀ l : Later w2, l.val.cell? ⟨g, 1, none⟩ = some (.int .i64 aw) := fun l => Later.cell c1 ⟨l.val, l.back HB.out⟩
  have c2 : ∀ l : Later w2, l.val.cell? ⟨g, 2, none⟩ = some (.int .i64 bi) := fun l => Later.cell c2 ⟨l.val, l.back HB.out⟩
  have c3 : ∀ l : Later w2, l.val.cell? ⟨g, 3, none⟩ = some (.int .i64 bw) := fun l => Later.cell c3 ⟨l.val, l.back HB.out⟩
  have c4 : ∀ l : Later w2, l.val.cell? ⟨g, 4, none⟩ = some (.int .i64 ci) := fun l => Later.cell c4 ⟨l.val, l.back HB.out⟩
  have c5 : ∀ l : Later w2, l.val.cell? ⟨g, 5, none⟩ = some (.int .i64 cw) := fun l => Later.cell c5 ⟨l.val, l.back HB.out⟩
  have hfacts : ∀ W, (W = w2 ∨ W = (w2.setCell ⟨w.heap.size + 1, 0, none⟩ (.int .i64 bi)).setCell ⟨w.heap.size + 1, 1, none⟩ (.int .i64 bw)) → ∀ l : Later W, l.val.cell? ⟨g, 0, none⟩ = some (.int .i64 ai) ∧ l.val.cell? ⟨g, 1, none⟩ = some (.int .i64 aw) ∧ l.val.cell? ⟨g, 2, none⟩ = some (.int .i64 bi) ∧ l.val.cell? ⟨g, 3, none⟩ = some (.int .i64 bw) ∧ l.val.cell? ⟨g, 4, none⟩ = some (.int .i64 ci) ∧ l.val.cell? ⟨g, 5, none⟩ = some (.int .i64 cw) := by
    rintro W (rfl | rfl) l
    · exact ⟨c0 l, c1 l, c2 l, c3 l, c4 l, c5 l⟩
    · have ne : ∀ (f : Nat) (v : Value), (∀ l : Later w2, l.val.cell? ⟨g, f, none⟩ = some v) → l.val.cell? ⟨g, f, none⟩ = some v := fun f v h => Later.cell ((World.cell?_setCell_other _ _ _ _ (by intro e; simp only [Addr.mk.injEq] at e; omega)).trans ((World.cell?_setCell_other _ _ _ _ (by intro e; simp only [Addr.mk.injEq] at e; omega)).trans (h ⟨w2, Below.refl _ _⟩))) l
      exact ⟨ne _ _ c0, ne _ _ c1, ne _ _ c2, ne _ _ c3, ne _ _ c4, ne _ _ c5⟩
  have HF := Lib.hid hfacts
  clear hfacts
  refine wp_region_store' (w0 := w2) (w1 := (w2.setCell ⟨w.heap.size + 1, 0, none⟩ (.int .i64 bi)).setCell ⟨w.heap.size + 1, 1, none⟩ (.int .i64 bw)) 17 (by kernel_rfl) (by kernel_rfl) rfl (by kernel_rfl) (LaterC.refl _) ?_
  apply Exists.intro
  refine ⟨fun W hW => ?_, ?_, ?_, ?_⟩
  · have hc := HF.out W hW
    have d0 := fun l => (hc l).1; have d1 := fun l => (hc l).2.1; have d2 := fun l => (hc l).2.2.1; have d3 := fun l => (hc l).2.2.2.1; have d4 := fun l => (hc l).2.2.2.2.1; have d5 := fun l => (hc l).2.2.2.2.2
    clear hc hW
    simp only [List.take_succ_cons, List.take_zero]
    repeat (go_big_quiet_step ((go_at_call 43; exact Calls.later (l2Word_calls _ _))))
    exact wpQuiet_nil rfl
  · rfl
  · intro u
    refine ⟨(u.val.setCell ⟨w.heap.size + 1, 0, none⟩ (.int .i64 bi)).setCell ⟨w.heap.size + 1, 1, none⟩ (.int .i64 bw), ?_, u.set2 _ _ _ _⟩
    have s0 := r0 u; have s1 := r1 u; have t0 := f0 u; have t1 := f1 u
    go_simp
  · intro u
    have s0 : u.val.cell? ⟨w.heap.size + 1, 0, none⟩ = some (.int .i64 bi) := Later.cell ((World.cell?_setCell_other _ _ _ _ (by intro e; simp only [Addr.mk.injEq] at e; omega)).trans (World.cell?_setCell_same _ _ _ (r0 ⟨w2, Below.refl _ _⟩))) u
    have s1 : u.val.cell? ⟨w.heap.size + 1, 1, none⟩ = some (.int .i64 bw) := Later.cell (World.cell?_setCell_same _ _ _ ((World.cell?_setCell_other _ _ _ _ (by intro e; simp only [Addr.mk.injEq] at e; omega)).trans (r1 ⟨w2, Below.refl _ _⟩))) u
    have hbel := Lib.hid (u.back ((HB.out.setCell (p := ⟨w.heap.size + 1, 0, none⟩) (by simp) (.int .i64 bi)).setCell (p := ⟨w.heap.size + 1, 1, none⟩) (by simp) (.int .i64 bw)))
    simp only [List.drop_succ_cons, List.drop_zero]
    clear r0 r1 f0 f1
    go_wp2
    exact bodyPost_ret (v := .tuple #[.agg #[.int .i64 bi, .int .i64 bw], .bool false]) (by simp [results, Try.results63, go_sem, s0, s1]) rfl (respost_none HR.out hbel.out)
set_option maxHeartbeats 2000000 in
set_option maxRecDepth 8000 in
theorem l2Result_33_1 (n m ai aw bi bw ci cw xa xb xc xi xw : Int) (nm : ByteArray) (g cap : Nat) (w : World) (hcap : 3 ≤ cap) (c0 : w.cell? ⟨g, 0, none⟩ = some (.int .i64 ai)) (c1 : w.cell? ⟨g, 1, none⟩ = some (.int .i64 aw)) (c2 : w.cell? ⟨g, 2, none⟩ = some (.int .i64 bi)) (c3 : w.cell? ⟨g, 3, none⟩ = some (.int .i64 bw)) (c4 : w.cell? ⟨g, 4, none⟩ = some (.int .i64 ci)) (c5 : w.cell? ⟨g, 5, none⟩ = some (.int .i64 cw)) (h0 : (ai == 0) = true) (h1 : (aw == 1) = false) :
    Calls Try.prog 63 #[.agg #[.int .i64 33, .int .i64 xa, .int .i64 xb, .int .i64 xc, .int .i64 n, .int .i64 m, .int .i64 xi, .int .i64 xw, .string nm], .slice (some ⟨g, 0, none⟩) 3 cap] w (ResPost (resN 33 n m ai aw bi bw ci cw) w) := by
  have hlt : g < w.heap.size := World.block_lt_of_cell? _ _ c0
  have HR := Lib.hid (show resN 33 n m ai aw bi bw ci cw = none by unfold resN; simp only [h0, h1, Bool.and_false, Bool.false_and, Bool.true_and, Bool.and_true]; rfl)
  go_enter Try.func63, Try.ntmps63
  go_wp2
  have HB := Lib.hid (show Below w.heap.size w ((w.alloc (Obj.cells #[.int .i64 33, .int .i64 xa, .int .i64 xb, .int .i64 xc, .int .i64 n, .int .i64 m, .int .i64 xi, .int .i64 xw, .string nm] 61)).alloc (Obj.cells #[.int .i64 0, .int .i64 0] 59)) from (box_below _ _ _).alloc (by simp) _)
  have b0 : ((w.alloc (Obj.cells #[.int .i64 33, .int .i64 xa, .int .i64 xb, .int .i64 xc, .int .i64 n, .int .i64 m, .int .i64 xi, .int .i64 xw, .string nm] 61)).alloc (Obj.cells #[.int .i64 0, .int .i64 0] 59)).cell? ⟨w.heap.size, 0, none⟩ = some (.int .i64 33) := by go_simp
  have b4 : ((w.alloc (Obj.cells #[.int .i64 33, .int .i64 xa, .int .i64 xb, .int .i64 xc, .int .i64 n, .int .i64 m, .int .i64 xi, .int .i64 xw, .string nm] 61)).alloc (Obj.cells #[.int .i64 0, .int .i64 0] 59)).cell? ⟨w.heap.size, 4, none⟩ = some (.int .i64 n) := by go_simp
  have b5 : ((w.alloc (Obj.cells #[.int .i64 33, .int .i64 xa, .int .i64 xb, .int .i64 xc, .int .i64 n, .int .i64 m, .int .i64 xi, .int .i64 xw, .string nm] 61)).alloc (Obj.cells #[.int .i64 0, .int .i64 0] 59)).cell? ⟨w.heap.size, 5, none⟩ = some (.int .i64 m) := by go_simp
  have r0 : ((w.alloc (Obj.cells #[.int .i64 33, .int .i64 xa, .int .i64 xb, .int .i64 xc, .int .i64 n, .int .i64 m, .int .i64 xi, .int .i64 xw, .string nm] 61)).alloc (Obj.cells #[.int .i64 0, .int .i64 0] 59)).cell? ⟨w.heap.size + 1, 0, none⟩ = some (.int .i64 0) := by go_simp
  have f0 : ((w.alloc (Obj.cells #[.int .i64 33, .int .i64 xa, .int .i64 xb, .int .i64 xc, .int .i64 n, .int .i64 m, .int .i64 xi, .int .i64 xw, .string nm] 61)).alloc (Obj.cells #[.int .i64 0, .int .i64 0] 59)).frozen? ⟨w.heap.size + 1, 0, none⟩ = false := by go_simp
  have r1 : ((w.alloc (Obj.cells #[.int .i64 33, .int .i64 xa, .int .i64 xb, .int .i64 xc, .int .i64 n, .int .i64 m, .int .i64 xi, .int .i64 xw, .string nm] 61)).alloc (Obj.cells #[.int .i64 0, .int .i64 0] 59)).cell? ⟨w.heap.size + 1, 1, none⟩ = some (.int .i64 0) := by go_simp
  have f1 : ((w.alloc (Obj.cells #[.int .i64 33, .int .i64 xa, .int .i64 xb, .int .i64 xc, .int .i64 n, .int .i64 m, .int .i64 xi, .int .i64 xw, .string nm] 61)).alloc (Obj.cells #[.int .i64 0, .int .i64 0] 59)).frozen? ⟨w.heap.size + 1, 1, none⟩ = false := by go_simp
  generalize ((w.alloc (Obj.cells #[.int .i64 33, .int .i64 xa, .int .i64 xb, .int .i64 xc, .int .i64 n, .int .i64 m, .int .i64 xi, .int .i64 xw, .string nm] 61)).alloc (Obj.cells #[.int .i64 0, .int .i64 0] 59)) = w2 at *
  have f0 := Later.frozen f0 (World.block_lt_of_cell? _ _ r0)
  have f1 := Later.frozen f1 (World.block_lt_of_cell? _ _ r1)
  have b0 := Later.cell b0
  have b4 := Later.cell b4
  have b5 := Later.cell b5
  have r0 := Later.cell r0
  have r1 := Later.cell r1
  have c0 : ∀ l : Later w2, l.val.cell? ⟨g, 0, none⟩ = some (.int .i64 ai) := fun l => Later.cell c0 ⟨l.val, l.back HB.out⟩
  have c1 : ∀ l : Later w2, l.val.cell? ⟨g, 1, none⟩ = some (.int .i64 aw) := fun l => Later.cell c1 ⟨l.val, l.back HB.out⟩
  have c2 : ∀ l : Later w2, l.val.cell? ⟨g, 2, none⟩ = some (.int .i64 bi) := fun l => Later.cell c2 ⟨l.val, l.back HB.out⟩
  have c3 : ∀ l : Later w2, l.val.cell? ⟨g, 3, none⟩ = some (.int .i64 bw) := fun l => Later.cell c3 ⟨l.val, l.back HB.out⟩
  have c4 : ∀ l : Later w2, l.val.cell? ⟨g, 4, none⟩ = some (.int .i64 ci) := fun l => Later.cell c4 ⟨l.val, l.back HB.out⟩
  have c5 : ∀ l : Later w2, l.val.cell? ⟨g, 5, none⟩ = some (.int .i64 cw) := fun l => Later.cell c5 ⟨l.val, l.back HB.out⟩
  have hfacts : ∀ W, (W = w2 ∨ W = (w2.setCell ⟨w.heap.size + 1, 0, none⟩ (.int .i64 bi)).setCell ⟨w.heap.size + 1, 1, none⟩ (.int .i64 bw)) → ∀ l : Later W, l.val.cell? ⟨g, 0, none⟩ = some (.int .i64 ai) ∧ l.val.cell? ⟨g, 1, none⟩ = some (.int .i64 aw) ∧ l.val.cell? ⟨g, 2, none⟩ = some (.int .i64 bi) ∧ l.val.cell? ⟨g, 3, none⟩ = some (.int .i64 bw) ∧ l.val.cell? ⟨g, 4, none⟩ = some (.int .i64 ci) ∧ l.val.cell? ⟨g, 5, none⟩ = some (.int .i64 cw) := by
    rintro W (rfl | rfl) l
    · exact ⟨c0 l, c1 l, c2 l, c3 l, c4 l, c5 l⟩
    · have ne : ∀ (f : Nat) (v : Value), (∀ l : Later w2, l.val.cell? ⟨g, f, none⟩ = some v) → l.val.cell? ⟨g, f, none⟩ = some v := fun f v h => Later.cell ((World.cell?_setCell_other _ _ _ _ (by intro e; simp only [Addr.mk.injEq] at e; omega)).trans ((World.cell?_setCell_other _ _ _ _ (by intro e; simp only [Addr.mk.injEq] at e; omega)).trans (h ⟨w2, Below.refl _ _⟩))) l
      exact ⟨ne _ _ c0, ne _ _ c1, ne _ _ c2, ne _ _ c3, ne _ _ c4, ne _ _ c5⟩
  have HF := Lib.hid hfacts
  clear hfacts
  refine wp_region_store' (w0 := w2) (w1 := (w2.setCell ⟨w.heap.size + 1, 0, none⟩ (.int .i64 bi)).setCell ⟨w.heap.size + 1, 1, none⟩ (.int .i64 bw)) 17 (by kernel_rfl) (by kernel_rfl) rfl (by kernel_rfl) (LaterC.refl _) ?_
  apply Exists.intro
  refine ⟨fun W hW => ?_, ?_, ?_, ?_⟩
  · have hc := HF.out W hW
    have d0 := fun l => (hc l).1; have d1 := fun l => (hc l).2.1; have d2 := fun l => (hc l).2.2.1; have d3 := fun l => (hc l).2.2.2.1; have d4 := fun l => (hc l).2.2.2.2.1; have d5 := fun l => (hc l).2.2.2.2.2
    clear hc hW
    simp only [List.take_succ_cons, List.take_zero]
    repeat (go_big_quiet_step ((go_at_call 43; exact Calls.later (l2Word_calls _ _))))
    exact wpQuiet_nil rfl
  · rfl
  · intro u
    refine ⟨(u.val.setCell ⟨w.heap.size + 1, 0, none⟩ (.int .i64 bi)).setCell ⟨w.heap.size + 1, 1, none⟩ (.int .i64 bw), ?_, u.set2 _ _ _ _⟩
    have s0 := r0 u; have s1 := r1 u; have t0 := f0 u; have t1 := f1 u
    go_simp
  · intro u
    have s0 : u.val.cell? ⟨w.heap.size + 1, 0, none⟩ = some (.int .i64 bi) := Later.cell ((World.cell?_setCell_other _ _ _ _ (by intro e; simp only [Addr.mk.injEq] at e; omega)).trans (World.cell?_setCell_same _ _ _ (r0 ⟨w2, Below.refl _ _⟩))) u
    have s1 : u.val.cell? ⟨w.heap.size + 1, 1, none⟩ = some (.int .i64 bw) := Later.cell (World.cell?_setCell_same _ _ _ ((World.cell?_setCell_other _ _ _ _ (by intro e; simp only [Addr.mk.injEq] at e; omega)).trans (r1 ⟨w2, Below.refl _ _⟩))) u
    have hbel := Lib.hid (u.back ((HB.out.setCell (p := ⟨w.heap.size + 1, 0, none⟩) (by simp) (.int .i64 bi)).setCell (p := ⟨w.heap.size + 1, 1, none⟩) (by simp) (.int .i64 bw)))
    simp only [List.drop_succ_cons, List.drop_zero]
    clear r0 r1 f0 f1
    go_wp2
    exact bodyPost_ret (v := .tuple #[.agg #[.int .i64 bi, .int .i64 bw], .bool false]) (by simp [results, Try.results63, go_sem, s0, s1]) rfl (respost_none HR.out hbel.out)
set_option maxHeartbeats 2000000 in
set_option maxRecDepth 8000 in
theorem l2Result_33_2 (n m ai aw bi bw ci cw xa xb xc xi xw : Int) (nm : ByteArray) (g cap : Nat) (w : World) (hcap : 3 ≤ cap) (c0 : w.cell? ⟨g, 0, none⟩ = some (.int .i64 ai)) (c1 : w.cell? ⟨g, 1, none⟩ = some (.int .i64 aw)) (c2 : w.cell? ⟨g, 2, none⟩ = some (.int .i64 bi)) (c3 : w.cell? ⟨g, 3, none⟩ = some (.int .i64 bw)) (c4 : w.cell? ⟨g, 4, none⟩ = some (.int .i64 ci)) (c5 : w.cell? ⟨g, 5, none⟩ = some (.int .i64 cw)) (h0 : (ai == 0) = true) (h1 : (aw == 1) = true) (h2 : (bi == ci) = false) :
    Calls Try.prog 63 #[.agg #[.int .i64 33, .int .i64 xa, .int .i64 xb, .int .i64 xc, .int .i64 n, .int .i64 m, .int .i64 xi, .int .i64 xw, .string nm], .slice (some ⟨g, 0, none⟩) 3 cap] w (ResPost (resN 33 n m ai aw bi bw ci cw) w) := by
  have hlt : g < w.heap.size := World.block_lt_of_cell? _ _ c0
  have HR := Lib.hid (show resN 33 n m ai aw bi bw ci cw = none by unfold resN; simp only [h0, h1, h2, Bool.and_false, Bool.false_and, Bool.true_and, Bool.and_true]; rfl)
  go_enter Try.func63, Try.ntmps63
  go_wp2
  have HB := Lib.hid (show Below w.heap.size w ((w.alloc (Obj.cells #[.int .i64 33, .int .i64 xa, .int .i64 xb, .int .i64 xc, .int .i64 n, .int .i64 m, .int .i64 xi, .int .i64 xw, .string nm] 61)).alloc (Obj.cells #[.int .i64 0, .int .i64 0] 59)) from (box_below _ _ _).alloc (by simp) _)
  have b0 : ((w.alloc (Obj.cells #[.int .i64 33, .int .i64 xa, .int .i64 xb, .int .i64 xc, .int .i64 n, .int .i64 m, .int .i64 xi, .int .i64 xw, .string nm] 61)).alloc (Obj.cells #[.int .i64 0, .int .i64 0] 59)).cell? ⟨w.heap.size, 0, none⟩ = some (.int .i64 33) := by go_simp
  have b4 : ((w.alloc (Obj.cells #[.int .i64 33, .int .i64 xa, .int .i64 xb, .int .i64 xc, .int .i64 n, .int .i64 m, .int .i64 xi, .int .i64 xw, .string nm] 61)).alloc (Obj.cells #[.int .i64 0, .int .i64 0] 59)).cell? ⟨w.heap.size, 4, none⟩ = some (.int .i64 n) := by go_simp
  have b5 : ((w.alloc (Obj.cells #[.int .i64 33, .int .i64 xa, .int .i64 xb, .int .i64 xc, .int .i64 n, .int .i64 m, .int .i64 xi, .int .i64 xw, .string nm] 61)).alloc (Obj.cells #[.int .i64 0, .int .i64 0] 59)).cell? ⟨w.heap.size, 5, none⟩ = some (.int .i64 m) := by go_simp
  have r0 : ((w.alloc (Obj.cells #[.int .i64 33, .int .i64 xa, .int .i64 xb, .int .i64 xc, .int .i64 n, .int .i64 m, .int .i64 xi, .int .i64 xw, .string nm] 61)).alloc (Obj.cells #[.int .i64 0, .int .i64 0] 59)).cell? ⟨w.heap.size + 1, 0, none⟩ = some (.int .i64 0) := by go_simp
  have f0 : ((w.alloc (Obj.cells #[.int .i64 33, .int .i64 xa, .int .i64 xb, .int .i64 xc, .int .i64 n, .int .i64 m, .int .i64 xi, .int .i64 xw, .string nm] 61)).alloc (Obj.cells #[.int .i64 0, .int .i64 0] 59)).frozen? ⟨w.heap.size + 1, 0, none⟩ = false := by go_simp
  have r1 : ((w.alloc (Obj.cells #[.int .i64 33, .int .i64 xa, .int .i64 xb, .int .i64 xc, .int .i64 n, .int .i64 m, .int .i64 xi, .int .i64 xw, .string nm] 61)).alloc (Obj.cells #[.int .i64 0, .int .i64 0] 59)).cell? ⟨w.heap.size + 1, 1, none⟩ = some (.int .i64 0) := by go_simp
  have f1 : ((w.alloc (Obj.cells #[.int .i64 33, .int .i64 xa, .int .i64 xb, .int .i64 xc, .int .i64 n, .int .i64 m, .int .i64 xi, .int .i64 xw, .string nm] 61)).alloc (Obj.cells #[.int .i64 0, .int .i64 0] 59)).frozen? ⟨w.heap.size + 1, 1, none⟩ = false := by go_simp
  generalize ((w.alloc (Obj.cells #[.int .i64 33, .int .i64 xa, .int .i64 xb, .int .i64 xc, .int .i64 n, .int .i64 m, .int .i64 xi, .int .i64 xw, .string nm] 61)).alloc (Obj.cells #[.int .i64 0, .int .i64 0] 59)) = w2 at *
  have f0 := Later.frozen f0 (World.block_lt_of_cell? _ _ r0)
  have f1 := Later.frozen f1 (World.block_lt_of_cell? _ _ r1)
  have b0 := Later.cell b0
  have b4 := Later.cell b4
  have b5 := Later.cell b5
  have r0 := Later.cell r0
  have r1 := Later.cell r1
  have c0 : ∀ l : Later w2, l.val.cell? ⟨g, 0, none⟩ = some (.int .i64 ai) := fun l => Later.cell c0 ⟨l.val, l.back HB.out⟩
  have c1 : ∀ l : Later w2, l.val.cell? ⟨g, 1, none⟩ = some (.int .i64 aw) := fun l => Later.cell c1 ⟨l.val, l.back HB.out⟩
  have c2 : ∀ l : Later w2, l.val.cell? ⟨g, 2, none⟩ = some (.int .i64 bi) := fun l => Later.cell c2 ⟨l.val, l.back HB.out⟩
  have c3 : ∀ l : Later w2, l.val.cell? ⟨g, 3, none⟩ = some (.int .i64 bw) := fun l => Later.cell c3 ⟨l.val, l.back HB.out⟩
  have c4 : ∀ l : Later w2, l.val.cell? ⟨g, 4, none⟩ = some (.int .i64 ci) := fun l => Later.cell c4 ⟨l.val, l.back HB.out⟩
  have c5 : ∀ l : Later w2, l.val.cell? ⟨g, 5, none⟩ = some (.int .i64 cw) := fun l => Later.cell c5 ⟨l.val, l.back HB.out⟩
  have hfacts : ∀ W, (W = w2 ∨ W = (w2.setCell ⟨w.heap.size + 1, 0, none⟩ (.int .i64 bi)).setCell ⟨w.heap.size + 1, 1, none⟩ (.int .i64 bw)) → ∀ l : Later W, l.val.cell? ⟨g, 0, none⟩ = some (.int .i64 ai) ∧ l.val.cell? ⟨g, 1, none⟩ = some (.int .i64 aw) ∧ l.val.cell? ⟨g, 2, none⟩ = some (.int .i64 bi) ∧ l.val.cell? ⟨g, 3, none⟩ = some (.int .i64 bw) ∧ l.val.cell? ⟨g, 4, none⟩ = some (.int .i64 ci) ∧ l.val.cell? ⟨g, 5, none⟩ = some (.int .i64 cw) := by
    rintro W (rfl | rfl) l
    · exact ⟨c0 l, c1 l, c2 l, c3 l, c4 l, c5 l⟩
    · have ne : ∀ (f : Nat) (v : Value), (∀ l : Later w2, l.val.cell? ⟨g, f, none⟩ = some v) → l.val.cell? ⟨g, f, none⟩ = some v := fun f v h => Later.cell ((World.cell?_setCell_other _ _ _ _ (by intro e; simp only [Addr.mk.injEq] at e; omega)).trans ((World.cell?_setCell_other _ _ _ _ (by intro e; simp only [Addr.mk.injEq] at e; omega)).trans (h ⟨w2, Below.refl _ _⟩))) l
      exact ⟨ne _ _ c0, ne _ _ c1, ne _ _ c2, ne _ _ c3, ne _ _ c4, ne _ _ c5⟩
  have HF := Lib.hid hfacts
  clear hfacts
  refine wp_region_store' (w0 := w2) (w1 := (w2.setCell ⟨w.heap.size + 1, 0, none⟩ (.int .i64 bi)).setCell ⟨w.heap.size + 1, 1, none⟩ (.int .i64 bw)) 17 (by kernel_rfl) (by kernel_rfl) rfl (by kernel_rfl) (LaterC.refl _) ?_
  apply Exists.intro
  refine ⟨fun W hW => ?_, ?_, ?_, ?_⟩
  · have hc := HF.out W hW
    have d0 := fun l => (hc l).1; have d1 := fun l => (hc l).2.1; have d2 := fun l => (hc l).2.2.1; have d3 := fun l => (hc l).2.2.2.1; have d4 := fun l => (hc l).2.2.2.2.1; have d5 := fun l => (hc l).2.2.2.2.2
    clear hc hW
    simp only [List.take_succ_cons, List.take_zero]
    repeat (go_big_quiet_step ((go_at_call 43; exact Calls.later (l2Word_calls _ _))))
    exact wpQuiet_nil rfl
  · rfl
  · intro u
    refine ⟨(u.val.setCell ⟨w.heap.size + 1, 0, none⟩ (.int .i64 bi)).setCell ⟨w.heap.size + 1, 1, none⟩ (.int .i64 bw), ?_, u.set2 _ _ _ _⟩
    have s0 := r0 u; have s1 := r1 u; have t0 := f0 u; have t1 := f1 u
    go_simp
  · intro u
    have s0 : u.val.cell? ⟨w.heap.size + 1, 0, none⟩ = some (.int .i64 bi) := Later.cell ((World.cell?_setCell_other _ _ _ _ (by intro e; simp only [Addr.mk.injEq] at e; omega)).trans (World.cell?_setCell_same _ _ _ (r0 ⟨w2, Below.refl _ _⟩))) u
    have s1 : u.val.cell? ⟨w.heap.size + 1, 1, none⟩ = some (.int .i64 bw) := Later.cell (World.cell?_setCell_same _ _ _ ((World.cell?_setCell_other _ _ _ _ (by intro e; simp only [Addr.mk.injEq] at e; omega)).trans (r1 ⟨w2, Below.refl _ _⟩))) u
    have hbel := Lib.hid (u.back ((HB.out.setCell (p := ⟨w.heap.size + 1, 0, none⟩) (by simp) (.int .i64 bi)).setCell (p := ⟨w.heap.size + 1, 1, none⟩) (by simp) (.int .i64 bw)))
    simp only [List.drop_succ_cons, List.drop_zero]
    clear r0 r1 f0 f1
    go_wp2
    exact bodyPost_ret (v := .tuple #[.agg #[.int .i64 bi, .int .i64 bw], .bool false]) (by simp [results, Try.results63, go_sem, s0, s1]) rfl (respost_none HR.out hbel.out)
set_option maxHeartbeats 2000000 in
set_option maxRecDepth 8000 in
theorem l2Result_33_3 (n m ai aw bi bw ci cw xa xb xc xi xw : Int) (nm : ByteArray) (g cap : Nat) (w : World) (hcap : 3 ≤ cap) (c0 : w.cell? ⟨g, 0, none⟩ = some (.int .i64 ai)) (c1 : w.cell? ⟨g, 1, none⟩ = some (.int .i64 aw)) (c2 : w.cell? ⟨g, 2, none⟩ = some (.int .i64 bi)) (c3 : w.cell? ⟨g, 3, none⟩ = some (.int .i64 bw)) (c4 : w.cell? ⟨g, 4, none⟩ = some (.int .i64 ci)) (c5 : w.cell? ⟨g, 5, none⟩ = some (.int .i64 cw)) (h0 : (ai == 0) = true) (h1 : (aw == 1) = true) (h2 : (bi == ci) = true) (h3 : (bw == cw) = false) :
    Calls Try.prog 63 #[.agg #[.int .i64 33, .int .i64 xa, .int .i64 xb, .int .i64 xc, .int .i64 n, .int .i64 m, .int .i64 xi, .int .i64 xw, .string nm], .slice (some ⟨g, 0, none⟩) 3 cap] w (ResPost (resN 33 n m ai aw bi bw ci cw) w) := by
  have hlt : g < w.heap.size := World.block_lt_of_cell? _ _ c0
  have HR := Lib.hid (show resN 33 n m ai aw bi bw ci cw = none by unfold resN; simp only [h0, h1, h2, h3, Bool.and_false, Bool.false_and, Bool.true_and, Bool.and_true]; rfl)
  go_enter Try.func63, Try.ntmps63
  go_wp2
  have HB := Lib.hid (show Below w.heap.size w ((w.alloc (Obj.cells #[.int .i64 33, .int .i64 xa, .int .i64 xb, .int .i64 xc, .int .i64 n, .int .i64 m, .int .i64 xi, .int .i64 xw, .string nm] 61)).alloc (Obj.cells #[.int .i64 0, .int .i64 0] 59)) from (box_below _ _ _).alloc (by simp) _)
  have b0 : ((w.alloc (Obj.cells #[.int .i64 33, .int .i64 xa, .int .i64 xb, .int .i64 xc, .int .i64 n, .int .i64 m, .int .i64 xi, .int .i64 xw, .string nm] 61)).alloc (Obj.cells #[.int .i64 0, .int .i64 0] 59)).cell? ⟨w.heap.size, 0, none⟩ = some (.int .i64 33) := by go_simp
  have b4 : ((w.alloc (Obj.cells #[.int .i64 33, .int .i64 xa, .int .i64 xb, .int .i64 xc, .int .i64 n, .int .i64 m, .int .i64 xi, .int .i64 xw, .string nm] 61)).alloc (Obj.cells #[.int .i64 0, .int .i64 0] 59)).cell? ⟨w.heap.size, 4, none⟩ = some (.int .i64 n) := by go_simp
  have b5 : ((w.alloc (Obj.cells #[.int .i64 33, .int .i64 xa, .int .i64 xb, .int .i64 xc, .int .i64 n, .int .i64 m, .int .i64 xi, .int .i64 xw, .string nm] 61)).alloc (Obj.cells #[.int .i64 0, .int .i64 0] 59)).cell? ⟨w.heap.size, 5, none⟩ = some (.int .i64 m) := by go_simp
  have r0 : ((w.alloc (Obj.cells #[.int .i64 33, .int .i64 xa, .int .i64 xb, .int .i64 xc, .int .i64 n, .int .i64 m, .int .i64 xi, .int .i64 xw, .string nm] 61)).alloc (Obj.cells #[.int .i64 0, .int .i64 0] 59)).cell? ⟨w.heap.size + 1, 0, none⟩ = some (.int .i64 0) := by go_simp
  have f0 : ((w.alloc (Obj.cells #[.int .i64 33, .int .i64 xa, .int .i64 xb, .int .i64 xc, .int .i64 n, .int .i64 m, .int .i64 xi, .int .i64 xw, .string nm] 61)).alloc (Obj.cells #[.int .i64 0, .int .i64 0] 59)).frozen? ⟨w.heap.size + 1, 0, none⟩ = false := by go_simp
  have r1 : ((w.alloc (Obj.cells #[.int .i64 33, .int .i64 xa, .int .i64 xb, .int .i64 xc, .int .i64 n, .int .i64 m, .int .i64 xi, .int .i64 xw, .string nm] 61)).alloc (Obj.cells #[.int .i64 0, .int .i64 0] 59)).cell? ⟨w.heap.size + 1, 1, none⟩ = some (.int .i64 0) := by go_simp
  have f1 : ((w.alloc (Obj.cells #[.int .i64 33, .int .i64 xa, .int .i64 xb, .int .i64 xc, .int .i64 n, .int .i64 m, .int .i64 xi, .int .i64 xw, .string nm] 61)).alloc (Obj.cells #[.int .i64 0, .int .i64 0] 59)).frozen? ⟨w.heap.size + 1, 1, none⟩ = false := by go_simp
  generalize ((w.alloc (Obj.cells #[.int .i64 33, .int .i64 xa, .int .i64 xb, .int .i64 xc, .int .i64 n, .int .i64 m, .int .i64 xi, .int .i64 xw, .string nm] 61)).alloc (Obj.cells #[.int .i64 0, .int .i64 0] 59)) = w2 at *
  have f0 := Later.frozen f0 (World.block_lt_of_cell? _ _ r0)
  have f1 := Later.frozen f1 (World.block_lt_of_cell? _ _ r1)
  have b0 := Later.cell b0
  have b4 := Later.cell b4
  have b5 := Later.cell b5
  have r0 := Later.cell r0
  have r1 := Later.cell r1
  have c0 : ∀ l : Later w2, l.val.cell? ⟨g, 0, none⟩ = some (.int .i64 ai) := fun l => Later.cell c0 ⟨l.val, l.back HB.out⟩
  have c1 : ∀ l : Later w2, l.val.cell? ⟨g, 1, none⟩ = some (.int .i64 aw) := fun l => Later.cell c1 ⟨l.val, l.back HB.out⟩
  have c2 : ∀ l : Later w2, l.val.cell? ⟨g, 2, none⟩ = some (.int .i64 bi) := fun l => Later.cell c2 ⟨l.val, l.back HB.out⟩
  have c3 : ∀ l : Later w2, l.val.cell? ⟨g, 3, none⟩ = some (.int .i64 bw) := fun l => Later.cell c3 ⟨l.val, l.back HB.out⟩
  have c4 : ∀ l : Later w2, l.val.cell? ⟨g, 4, none⟩ = some (.int .i64 ci) := fun l => Later.cell c4 ⟨l.val, l.back HB.out⟩
  have c5 : ∀ l : Later w2, l.val.cell? ⟨g, 5, none⟩ = some (.int .i64 cw) := fun l => Later.cell c5 ⟨l.val, l.back HB.out⟩
  have hfacts : ∀ W, (W = w2 ∨ W = (w2.setCell ⟨w.heap.size + 1, 0, none⟩ (.int .i64 bi)).setCell ⟨w.heap.size + 1, 1, none⟩ (.int .i64 bw)) → ∀ l : Later W, l.val.cell? ⟨g, 0, none⟩ = some (.int .i64 ai) ∧ l.val.cell? ⟨g, 1, none⟩ = some (.int .i64 aw) ∧ l.val.cell? ⟨g, 2, none⟩ = some (.int .i64 bi) ∧ l.val.cell? ⟨g, 3, none⟩ = some (.int .i64 bw) ∧ l.val.cell? ⟨g, 4, none⟩ = some (.int .i64 ci) ∧ l.val.cell? ⟨g, 5, none⟩ = some (.int .i64 cw) := by
    rintro W (rfl | rfl) l
    · exact ⟨c0 l, c1 l, c2 l, c3 l, c4 l, c5 l⟩
    · have ne : ∀ (f : Nat) (v : Value), (∀ l : Later w2, l.val.cell? ⟨g, f, none⟩ = some v) → l.val.cell? ⟨g, f, none⟩ = some v := fun f v h => Later.cell ((World.cell?_setCell_other _ _ _ _ (by intro e; simp only [Addr.mk.injEq] at e; omega)).trans ((World.cell?_setCell_other _ _ _ _ (by intro e; simp only [Addr.mk.injEq] at e; omega)).trans (h ⟨w2, Below.refl _ _⟩))) l
      exact ⟨ne _ _ c0, ne _ _ c1, ne _ _ c2, ne _ _ c3, ne _ _ c4, ne _ _ c5⟩
  have HF := Lib.hid hfacts
  clear hfacts
  refine wp_region_store' (w0 := w2) (w1 := (w2.setCell ⟨w.heap.size + 1, 0, none⟩ (.int .i64 bi)).setCell ⟨w.heap.size + 1, 1, none⟩ (.int .i64 bw)) 17 (by kernel_rfl) (by kernel_rfl) rfl (by kernel_rfl) (LaterC.refl _) ?_
  apply Exists.intro
  refine ⟨fun W hW => ?_, ?_, ?_, ?_⟩
  · have hc := HF.out W hW
    have d0 := fun l => (hc l).1; have d1 := fun l => (hc l).2.1; have d2 := fun l => (hc l).2.2.1; have d3 := fun l => (hc l).2.2.2.1; have d4 := fun l => (hc l).2.2.2.2.1; have d5 := fun l => (hc l).2.2.2.2.2
    clear hc hW
    simp only [List.take_succ_cons, List.take_zero]
    repeat (go_big_quiet_step ((go_at_call 43; exact Calls.later (l2Word_calls _ _))))
    exact wpQuiet_nil rfl
  · rfl
  · intro u
    refine ⟨(u.val.setCell ⟨w.heap.size + 1, 0, none⟩ (.int .i64 bi)).setCell ⟨w.heap.size + 1, 1, none⟩ (.int .i64 bw), ?_, u.set2 _ _ _ _⟩
    have s0 := r0 u; have s1 := r1 u; have t0 := f0 u; have t1 := f1 u
    go_simp
  · intro u
    have s0 : u.val.cell? ⟨w.heap.size + 1, 0, none⟩ = some (.int .i64 bi) := Later.cell ((World.cell?_setCell_other _ _ _ _ (by intro e; simp only [Addr.mk.injEq] at e; omega)).trans (World.cell?_setCell_same _ _ _ (r0 ⟨w2, Below.refl _ _⟩))) u
    have s1 : u.val.cell? ⟨w.heap.size + 1, 1, none⟩ = some (.int .i64 bw) := Later.cell (World.cell?_setCell_same _ _ _ ((World.cell?_setCell_other _ _ _ _ (by intro e; simp only [Addr.mk.injEq] at e; omega)).trans (r1 ⟨w2, Below.refl _ _⟩))) u
    have hbel := Lib.hid (u.back ((HB.out.setCell (p := ⟨w.heap.size + 1, 0, none⟩) (by simp) (.int .i64 bi)).setCell (p := ⟨w.heap.size + 1, 1, none⟩) (by simp) (.int .i64 bw)))
    simp only [List.drop_succ_cons, List.drop_zero]
    clear r0 r1 f0 f1
    go_wp2
    exact bodyPost_ret (v := .tuple #[.agg #[.int .i64 bi, .int .i64 bw], .bool false]) (by simp [results, Try.results63, go_sem, s0, s1]) rfl (respost_none HR.out hbel.out)
set_option maxHeartbeats 2000000 in
set_option maxRecDepth 8000 in
theorem l2Result_33_4 (n m ai aw bi bw ci cw xa xb xc xi xw : Int) (nm : ByteArray) (g cap : Nat) (w : World) (hcap : 3 ≤ cap) (c0 : w.cell? ⟨g, 0, none⟩ = some (.int .i64 ai)) (c1 : w.cell? ⟨g, 1, none⟩ = some (.int .i64 aw)) (c2 : w.cell? ⟨g, 2, none⟩ = some (.int .i64 bi)) (c3 : w.cell? ⟨g, 3, none⟩ = some (.int .i64 bw)) (c4 : w.cell? ⟨g, 4, none⟩ = some (.int .i64 ci)) (c5 : w.cell? ⟨g, 5, none⟩ = some (.int .i64 cw)) (h0 : (ai == 0) = true) (h1 : (aw == 1) = true) (h2 : (bi == ci) = true) (h3 : (bw == cw) = true) :
    Calls Try.prog 63 #[.agg #[.int .i64 33, .int .i64 xa, .int .i64 xb, .int .i64 xc, .int .i64 n, .int .i64 m, .int .i64 xi, .int .i64 xw, .string nm], .slice (some ⟨g, 0, none⟩) 3 cap] w (ResPost (resN 33 n m ai aw bi bw ci cw) w) := by
  have hlt : g < w.heap.size := World.block_lt_of_cell? _ _ c0
  have HR := Lib.hid (show resN 33 n m ai aw bi bw ci cw = some (bi, bw) by unfold resN; simp only [h0, h1, h2, h3]; rfl)
  go_enter Try.func63, Try.ntmps63
  go_wp2
  have HB := Lib.hid (show Below w.heap.size w ((w.alloc (Obj.cells #[.int .i64 33, .int .i64 xa, .int .i64 xb, .int .i64 xc, .int .i64 n, .int .i64 m, .int .i64 xi, .int .i64 xw, .string nm] 61)).alloc (Obj.cells #[.int .i64 0, .int .i64 0] 59)) from (box_below _ _ _).alloc (by simp) _)
  have b0 : ((w.alloc (Obj.cells #[.int .i64 33, .int .i64 xa, .int .i64 xb, .int .i64 xc, .int .i64 n, .int .i64 m, .int .i64 xi, .int .i64 xw, .string nm] 61)).alloc (Obj.cells #[.int .i64 0, .int .i64 0] 59)).cell? ⟨w.heap.size, 0, none⟩ = some (.int .i64 33) := by go_simp
  have b4 : ((w.alloc (Obj.cells #[.int .i64 33, .int .i64 xa, .int .i64 xb, .int .i64 xc, .int .i64 n, .int .i64 m, .int .i64 xi, .int .i64 xw, .string nm] 61)).alloc (Obj.cells #[.int .i64 0, .int .i64 0] 59)).cell? ⟨w.heap.size, 4, none⟩ = some (.int .i64 n) := by go_simp
  have b5 : ((w.alloc (Obj.cells #[.int .i64 33, .int .i64 xa, .int .i64 xb, .int .i64 xc, .int .i64 n, .int .i64 m, .int .i64 xi, .int .i64 xw, .string nm] 61)).alloc (Obj.cells #[.int .i64 0, .int .i64 0] 59)).cell? ⟨w.heap.size, 5, none⟩ = some (.int .i64 m) := by go_simp
  have r0 : ((w.alloc (Obj.cells #[.int .i64 33, .int .i64 xa, .int .i64 xb, .int .i64 xc, .int .i64 n, .int .i64 m, .int .i64 xi, .int .i64 xw, .string nm] 61)).alloc (Obj.cells #[.int .i64 0, .int .i64 0] 59)).cell? ⟨w.heap.size + 1, 0, none⟩ = some (.int .i64 0) := by go_simp
  have f0 : ((w.alloc (Obj.cells #[.int .i64 33, .int .i64 xa, .int .i64 xb, .int .i64 xc, .int .i64 n, .int .i64 m, .int .i64 xi, .int .i64 xw, .string nm] 61)).alloc (Obj.cells #[.int .i64 0, .int .i64 0] 59)).frozen? ⟨w.heap.size + 1, 0, none⟩ = false := by go_simp
  have r1 : ((w.alloc (Obj.cells #[.int .i64 33, .int .i64 xa, .int .i64 xb, .int .i64 xc, .int .i64 n, .int .i64 m, .int .i64 xi, .int .i64 xw, .string nm] 61)).alloc (Obj.cells #[.int .i64 0, .int .i64 0] 59)).cell? ⟨w.heap.size + 1, 1, none⟩ = some (.int .i64 0) := by go_simp
  have f1 : ((w.alloc (Obj.cells #[.int .i64 33, .int .i64 xa, .int .i64 xb, .int .i64 xc, .int .i64 n, .int .i64 m, .int .i64 xi, .int .i64 xw, .string nm] 61)).alloc (Obj.cells #[.int .i64 0, .int .i64 0] 59)).frozen? ⟨w.heap.size + 1, 1, none⟩ = false := by go_simp
  generalize ((w.alloc (Obj.cells #[.int .i64 33, .int .i64 xa, .int .i64 xb, .int .i64 xc, .int .i64 n, .int .i64 m, .int .i64 xi, .int .i64 xw, .string nm] 61)).alloc (Obj.cells #[.int .i64 0, .int .i64 0] 59)) = w2 at *
  have f0 := Later.frozen f0 (World.block_lt_of_cell? _ _ r0)
  have f1 := Later.frozen f1 (World.block_lt_of_cell? _ _ r1)
  have b0 := Later.cell b0
  have b4 := Later.cell b4
  have b5 := Later.cell b5
  have r0 := Later.cell r0
  have r1 := Later.cell r1
  have c0 : ∀ l : Later w2, l.val.cell? ⟨g, 0, none⟩ = some (.int .i64 ai) := fun l => Later.cell c0 ⟨l.val, l.back HB.out⟩
  have c1 : ∀ l : Later w2, l.val.cell? ⟨g, 1, none⟩ = some (.int .i64 aw) := fun l => Later.cell c1 ⟨l.val, l.back HB.out⟩
  have c2 : ∀ l : Later w2, l.val.cell? ⟨g, 2, none⟩ = some (.int .i64 bi) := fun l => Later.cell c2 ⟨l.val, l.back HB.out⟩
  have c3 : ∀ l : Later w2, l.val.cell? ⟨g, 3, none⟩ = some (.int .i64 bw) := fun l => Later.cell c3 ⟨l.val, l.back HB.out⟩
  have c4 : ∀ l : Later w2, l.val.cell? ⟨g, 4, none⟩ = some (.int .i64 ci) := fun l => Later.cell c4 ⟨l.val, l.back HB.out⟩
  have c5 : ∀ l : Later w2, l.val.cell? ⟨g, 5, none⟩ = some (.int .i64 cw) := fun l => Later.cell c5 ⟨l.val, l.back HB.out⟩
  have hfacts : ∀ W, (W = w2 ∨ W = (w2.setCell ⟨w.heap.size + 1, 0, none⟩ (.int .i64 bi)).setCell ⟨w.heap.size + 1, 1, none⟩ (.int .i64 bw)) → ∀ l : Later W, l.val.cell? ⟨g, 0, none⟩ = some (.int .i64 ai) ∧ l.val.cell? ⟨g, 1, none⟩ = some (.int .i64 aw) ∧ l.val.cell? ⟨g, 2, none⟩ = some (.int .i64 bi) ∧ l.val.cell? ⟨g, 3, none⟩ = some (.int .i64 bw) ∧ l.val.cell? ⟨g, 4, none⟩ = some (.int .i64 ci) ∧ l.val.cell? ⟨g, 5, none⟩ = some (.int .i64 cw) := by
    rintro W (rfl | rfl) l
    · exact ⟨c0 l, c1 l, c2 l, c3 l, c4 l, c5 l⟩
    · have ne : ∀ (f : Nat) (v : Value), (∀ l : Later w2, l.val.cell? ⟨g, f, none⟩ = some v) → l.val.cell? ⟨g, f, none⟩ = some v := fun f v h => Later.cell ((World.cell?_setCell_other _ _ _ _ (by intro e; simp only [Addr.mk.injEq] at e; omega)).trans ((World.cell?_setCell_other _ _ _ _ (by intro e; simp only [Addr.mk.injEq] at e; omega)).trans (h ⟨w2, Below.refl _ _⟩))) l
      exact ⟨ne _ _ c0, ne _ _ c1, ne _ _ c2, ne _ _ c3, ne _ _ c4, ne _ _ c5⟩
  have HF := Lib.hid hfacts
  clear hfacts
  refine wp_region_store' (w0 := w2) (w1 := (w2.setCell ⟨w.heap.size + 1, 0, none⟩ (.int .i64 bi)).setCell ⟨w.heap.size + 1, 1, none⟩ (.int .i64 bw)) 17 (by kernel_rfl) (by kernel_rfl) rfl (by kernel_rfl) (LaterC.refl _) ?_
  apply Exists.intro
  refine ⟨fun W hW => ?_, ?_, ?_, ?_⟩
  · have hc := HF.out W hW
    have d0 := fun l => (hc l).1; have d1 := fun l => (hc l).2.1; have d2 := fun l => (hc l).2.2.1; have d3 := fun l => (hc l).2.2.2.1; have d4 := fun l => (hc l).2.2.2.2.1; have d5 := fun l => (hc l).2.2.2.2.2
    clear hc hW
    simp only [List.take_succ_cons, List.take_zero]
    repeat (go_big_quiet_step ((go_at_call 43; exact Calls.later (l2Word_calls _ _))))
    exact wpQuiet_nil rfl
  · rfl
  · intro u
    refine ⟨(u.val.setCell ⟨w.heap.size + 1, 0, none⟩ (.int .i64 bi)).setCell ⟨w.heap.size + 1, 1, none⟩ (.int .i64 bw), ?_, u.set2 _ _ _ _⟩
    have s0 := r0 u; have s1 := r1 u; have t0 := f0 u; have t1 := f1 u
    go_simp
  · intro u
    have s0 : u.val.cell? ⟨w.heap.size + 1, 0, none⟩ = some (.int .i64 bi) := Later.cell ((World.cell?_setCell_other _ _ _ _ (by intro e; simp only [Addr.mk.injEq] at e; omega)).trans (World.cell?_setCell_same _ _ _ (r0 ⟨w2, Below.refl _ _⟩))) u
    have s1 : u.val.cell? ⟨w.heap.size + 1, 1, none⟩ = some (.int .i64 bw) := Later.cell (World.cell?_setCell_same _ _ _ ((World.cell?_setCell_other _ _ _ _ (by intro e; simp only [Addr.mk.injEq] at e; omega)).trans (r1 ⟨w2, Below.refl _ _⟩))) u
    have hbel := Lib.hid (u.back ((HB.out.setCell (p := ⟨w.heap.size + 1, 0, none⟩) (by simp) (.int .i64 bi)).setCell (p := ⟨w.heap.size + 1, 1, none⟩) (by simp) (.int .i64 bw)))
    simp only [List.drop_succ_cons, List.drop_zero]
    clear r0 r1 f0 f1
    go_wp2
    exact bodyPost_ret (v := .tuple #[.agg #[.int .i64 bi, .int .i64 bw], .bool true]) (by simp [results, Try.results63, go_sem, s0, s1]) rfl (respost_some HR.out hbel.out)
theorem l2Result_33 (n m ai aw bi bw ci cw xa xb xc xi xw : Int) (nm : ByteArray) (g cap : Nat) (w : World) (hcap : 3 ≤ cap) (c0 : w.cell? ⟨g, 0, none⟩ = some (.int .i64 ai)) (c1 : w.cell? ⟨g, 1, none⟩ = some (.int .i64 aw)) (c2 : w.cell? ⟨g, 2, none⟩ = some (.int .i64 bi)) (c3 : w.cell? ⟨g, 3, none⟩ = some (.int .i64 bw)) (c4 : w.cell? ⟨g, 4, none⟩ = some (.int .i64 ci)) (c5 : w.cell? ⟨g, 5, none⟩ = some (.int .i64 cw)) :
    Calls Try.prog 63 #[.agg #[.int .i64 33, .int .i64 xa, .int .i64 xb, .int .i64 xc, .int .i64 n, .int .i64 m, .int .i64 xi, .int .i64 xw, .string nm], .slice (some ⟨g, 0, none⟩) 3 cap] w (ResPost (resN 33 n m ai aw bi bw ci cw) w) := by
  by_cases h0 : (ai == 0) = true
  rotate_left
  · exact l2Result_33_0 n m ai aw bi bw ci cw xa xb xc xi xw nm g cap w hcap c0 c1 c2 c3 c4 c5  (eq_false_of_ne_true h0)
  by_cases h1 : (aw == 1) = true
  rotate_left
  · exact l2Result_33_1 n m ai aw bi bw ci cw xa xb xc xi xw nm g cap w hcap c0 c1 c2 c3 c4 c5 h0 (eq_false_of_ne_true h1)
  by_cases h2 : (bi == ci) = true
  rotate_left
  · exact l2Result_33_2 n m ai aw bi bw ci cw xa xb xc xi xw nm g cap w hcap c0 c1 c2 c3 c4 c5 h0 h1 (eq_false_of_ne_true h2)
  by_cases h3 : (bw == cw) = true
  rotate_left
  · exact l2Result_33_3 n m ai aw bi bw ci cw xa xb xc xi xw nm g cap w hcap c0 c1 c2 c3 c4 c5 h0 h1 h2 (eq_false_of_ne_true h3)
  exact l2Result_33_4 n m ai aw bi bw ci cw xa xb xc xi xw nm g cap w hcap c0 c1 c2 c3 c4 c5 h0 h1 h2 h3
set_option maxHeartbeats 2000000 in
set_option maxRecDepth 8000 in
theorem l2Result_37_0 (n m ai aw bi bw ci cw xa xb xc xi xw : Int) (nm : ByteArray) (g cap : Nat) (w : World) (hcap : 2 ≤ cap) (c0 : w.cell? ⟨g, 0, none⟩ = some (.int .i64 ai)) (c1 : w.cell? ⟨g, 1, none⟩ = some (.int .i64 aw)) (c2 : w.cell? ⟨g, 2, none⟩ = some (.int .i64 bi)) (c3 : w.cell? ⟨g, 3, none⟩ = some (.int .i64 bw)) (h0 : (decide (0 < ai)) = false) :
    Calls Try.prog 63 #[.agg #[.int .i64 37, .int .i64 xa, .int .i64 xb, .int .i64 xc, .int .i64 n, .int .i64 m, .int .i64 xi, .int .i64 xw, .string nm], .slice (some ⟨g, 0, none⟩) 2 cap] w (ResPost (resN 37 n m ai aw bi bw ci cw) w) := by
  have hlt : g < w.heap.size := World.block_lt_of_cell? _ _ c0
  have HR := Lib.hid (show resN 37 n m ai aw bi bw ci cw = none by unfold resN; simp only [h0, Bool.and_false, Bool.false_and, Bool.true_and, Bool.and_true]; rfl)
  go_enter Try.func63, Try.ntmps63
  go_wp2
  have HB := Lib.hid (show Below w.heap.size w ((w.alloc (Obj.cells #[.int .i64 37, .int .i64 xa, .int .i64 xb, .int .i64 xc, .int .i64 n, .int .i64 m, .int .i64 xi, .int .i64 xw, .string nm] 61)).alloc (Obj.cells #[.int .i64 0, .int .i64 0] 59)) from (box_below _ _ _).alloc (by simp) _)
  have b0 : ((w.alloc (Obj.cells #[.int .i64 37, .int .i64 xa, .int .i64 xb, .int .i64 xc, .int .i64 n, .int .i64 m, .int .i64 xi, .int .i64 xw, .string nm] 61)).alloc (Obj.cells #[.int .i64 0, .int .i64 0] 59)).cell? ⟨w.heap.size, 0, none⟩ = some (.int .i64 37) := by go_simp
  have b4 : ((w.alloc (Obj.cells #[.int .i64 37, .int .i64 xa, .int .i64 xb, .int .i64 xc, .int .i64 n, .int .i64 m, .int .i64 xi, .int .i64 xw, .string nm] 61)).alloc (Obj.cells #[.int .i64 0, .int .i64 0] 59)).cell? ⟨w.heap.size, 4, none⟩ = some (.int .i64 n) := by go_simp
  have b5 : ((w.alloc (Obj.cells #[.int .i64 37, .int .i64 xa, .int .i64 xb, .int .i64 xc, .int .i64 n, .int .i64 m, .int .i64 xi, .int .i64 xw, .string nm] 61)).alloc (Obj.cells #[.int .i64 0, .int .i64 0] 59)).cell? ⟨w.heap.size, 5, none⟩ = some (.int .i64 m) := by go_simp
  have r0 : ((w.alloc (Obj.cells #[.int .i64 37, .int .i64 xa, .int .i64 xb, .int .i64 xc, .int .i64 n, .int .i64 m, .int .i64 xi, .int .i64 xw, .string nm] 61)).alloc (Obj.cells #[.int .i64 0, .int .i64 0] 59)).cell? ⟨w.heap.size + 1, 0, none⟩ = some (.int .i64 0) := by go_simp
  have f0 : ((w.alloc (Obj.cells #[.int .i64 37, .int .i64 xa, .int .i64 xb, .int .i64 xc, .int .i64 n, .int .i64 m, .int .i64 xi, .int .i64 xw, .string nm] 61)).alloc (Obj.cells #[.int .i64 0, .int .i64 0] 59)).frozen? ⟨w.heap.size + 1, 0, none⟩ = false := by go_simp
  have r1 : ((w.alloc (Obj.cells #[.int .i64 37, .int .i64 xa, .int .i64 xb, .int .i64 xc, .int .i64 n, .int .i64 m, .int .i64 xi, .int .i64 xw, .string nm] 61)).alloc (Obj.cells #[.int .i64 0, .int .i64 0] 59)).cell? ⟨w.heap.size + 1, 1, none⟩ = some (.int .i64 0) := by go_simp
  have f1 : ((w.alloc (Obj.cells #[.int .i64 37, .int .i64 xa, .int .i64 xb, .int .i64 xc, .int .i64 n, .int .i64 m, .int .i64 xi, .int .i64 xw, .string nm] 61)).alloc (Obj.cells #[.int .i64 0, .int .i64 0] 59)).frozen? ⟨w.heap.size + 1, 1, none⟩ = false := by go_simp
  generalize ((w.alloc (Obj.cells #[.int .i64 37, .int .i64 xa, .int .i64 xb, .int .i64 xc, .int .i64 n, .int .i64 m, .int .i64 xi, .int .i64 xw, .string nm] 61)).alloc (Obj.cells #[.int .i64 0, .int .i64 0] 59)) = w2 at *
  have f0 := Later.frozen f0 (World.block_lt_of_cell? _ _ r0)
  have f1 := Later.frozen f1 (World.block_lt_of_cell? _ _ r1)
  have b0 := Later.cell b0
  have b4 := Later.cell b4
  have b5 := Later.cell b5
  have r0 := Later.cell r0
  have r1 := Later.cell r1
  have c0 : ∀ l : Later w2, l.val.cell? ⟨g, 0, none⟩ = some (.int .i64 ai) := fun l => Later.cell c0 ⟨l.val, l.back HB.out⟩
  have c1 : ∀ l : Later w2, l.val.cell? ⟨g, 1, none⟩ = some (.int .i64 aw) := fun l => Later.cell c1 ⟨l.val, l.back HB.out⟩
  have c2 : ∀ l : Later w2, l.val.cell? ⟨g, 2, none⟩ = some (.int .i64 bi) := fun l => Later.cell c2 ⟨l.val, l.back HB.out⟩
  have c3 : ∀ l : Later w2, l.val.cell? ⟨g, 3, none⟩ = some (.int .i64 bw) := fun l => Later.cell c3 ⟨l.val, l.back HB.out⟩
  have hfacts : ∀ W, (W = w2 ∨ W = (w2.setCell ⟨w.heap.size + 1, 0, none⟩ (.int .i64 0)).setCell ⟨w.heap.size + 1, 1, none⟩ (.int .i64 aw)) → ∀ l : Later W, l.val.cell? ⟨g, 0, none⟩ = some (.int .i64 ai) ∧ l.val.cell? ⟨g, 1, none⟩ = some (.int .i64 aw) ∧ l.val.cell? ⟨g, 2, none⟩ = some (.int .i64 bi) ∧ l.val.cell? ⟨g, 3, none⟩ = some (.int .i64 bw) := by
    rintro W (rfl | rfl) l
    · exact ⟨c0 l, c1 l, c2 l, c3 l⟩
    · have ne : ∀ (f : Nat) (v : Value), (∀ l : Later w2, l.val.cell? ⟨g, f, none⟩ = some v) → l.val.cell? ⟨g, f, none⟩ = some v := fun f v h => Later.cell ((World.cell?_setCell_other _ _ _ _ (by intro e; simp only [Addr.mk.injEq] at e; omega)).trans ((World.cell?_setCell_other _ _ _ _ (by intro e; simp only [Addr.mk.injEq] at e; omega)).trans (h ⟨w2, Below.refl _ _⟩))) l
      exact ⟨ne _ _ c0, ne _ _ c1, ne _ _ c2, ne _ _ c3⟩
  have HF := Lib.hid hfacts
  clear hfacts
  refine wp_region_store' (w0 := w2) (w1 := (w2.setCell ⟨w.heap.size + 1, 0, none⟩ (.int .i64 0)).setCell ⟨w.heap.size + 1, 1, none⟩ (.int .i64 aw)) 21 (by kernel_rfl) (by kernel_rfl) rfl (by kernel_rfl) (LaterC.refl _) ?_
  apply Exists.intro
  refine ⟨fun W hW => ?_, ?_, ?_, ?_⟩
  · have hc := HF.out W hW
    have d0 := fun l => (hc l).1; have d1 := fun l => (hc l).2.1; have d2 := fun l => (hc l).2.2.1; have d3 := fun l => (hc l).2.2.2
    clear hc hW
    simp only [List.take_succ_cons, List.take_zero]
    repeat (go_big_quiet_step ((go_at_call 43; exact Calls.later (l2Word_calls _ _))))
    exact wpQuiet_nil rfl
  · rfl
  · intro u
    refine ⟨(u.val.setCell ⟨w.heap.size + 1, 0, none⟩ (.int .i64 0)).setCell ⟨w.heap.size + 1, 1, none⟩ (.int .i64 aw), ?_, u.set2 _ _ _ _⟩
    have s0 := r0 u; have s1 := r1 u; have t0 := f0 u; have t1 := f1 u
    go_simp
  · intro u
    have s0 : u.val.cell? ⟨w.heap.size + 1, 0, none⟩ = some (.int .i64 0) := Later.cell ((World.cell?_setCell_other _ _ _ _ (by intro e; simp only [Addr.mk.injEq] at e; omega)).trans (World.cell?_setCell_same _ _ _ (r0 ⟨w2, Below.refl _ _⟩))) u
    have s1 : u.val.cell? ⟨w.heap.size + 1, 1, none⟩ = some (.int .i64 aw) := Later.cell (World.cell?_setCell_same _ _ _ ((World.cell?_setCell_other _ _ _ _ (by intro e; simp only [Addr.mk.injEq] at e; omega)).trans (r1 ⟨w2, Below.refl _ _⟩))) u
    have hbel := Lib.hid (u.back ((HB.out.setCell (p := ⟨w.heap.size + 1, 0, none⟩) (by simp) (.int .i64 0)).setCell (p := ⟨w.heap.size + 1, 1, none⟩) (by simp) (.int .i64 aw)))
    simp only [List.drop_succ_cons, List.drop_zero]
    clear r0 r1 f0 f1
    go_wp2
    exact bodyPost_ret (v := .tuple #[.agg #[.int .i64 0, .int .i64 aw], .bool false]) (by simp [results, Try.results63, go_sem, s0, s1]) rfl (respost_none HR.out hbel.out)
set_option maxHeartbeats 2000000 in
set_option maxRecDepth 8000 in
theorem l2Result_37_1 (n m ai aw bi bw ci cw xa xb xc xi xw : Int) (nm : ByteArray) (g cap : Nat) (w : World) (hcap : 2 ≤ cap) (c0 : w.cell? ⟨g, 0, none⟩ = some (.int .i64 ai)) (c1 : w.cell? ⟨g, 1, none⟩ = some (.int .i64 aw)) (c2 : w.cell? ⟨g, 2, none⟩ = some (.int .i64 bi)) (c3 : w.cell? ⟨g, 3, none⟩ = some (.int .i64 bw)) (h0 : (decide (0 < ai)) = true) (h1 : (bi == 0) = false) :
    Calls Try.prog 63 #[.agg #[.int .i64 37, .int .i64 xa, .int .i64 xb, .int .i64 xc, .int .i64 n, .int .i64 m, .int .i64 xi, .int .i64 xw, .string nm], .slice (some ⟨g, 0, none⟩) 2 cap] w (ResPost (resN 37 n m ai aw bi bw ci cw) w) := by
  have hlt : g < w.heap.size := World.block_lt_of_cell? _ _ c0
  have HR := Lib.hid (show resN 37 n m ai aw bi bw ci cw = none by unfold resN; simp only [h0, h1, Bool.and_false, Bool.false_and, Bool.true_and, Bool.and_true]; rfl)
  go_enter Try.func63, Try.ntmps63
  go_wp2
  have HB := Lib.hid (show Below w.heap.size w ((w.alloc (Obj.cells #[.int .i64 37, .int .i64 xa, .int .i64 xb, .int .i64 xc, .int .i64 n, .int .i64 m, .int .i64 xi, .int .i64 xw, .string nm] 61)).alloc (Obj.cells #[.int .i64 0, .int .i64 0] 59)) from (box_below _ _ _).alloc (by simp) _)
  have b0 : ((w.alloc (Obj.cells #[.int .i64 37, .int .i64 xa, .int .i64 xb, .int .i64 xc, .int .i64 n, .int .i64 m, .int .i64 xi, .int .i64 xw, .string nm] 61)).alloc (Obj.cells #[.int .i64 0, .int .i64 0] 59)).cell? ⟨w.heap.size, 0, none⟩ = some (.int .i64 37) := by go_simp
  have b4 : ((w.alloc (Obj.cells #[.int .i64 37, .int .i64 xa, .int .i64 xb, .int .i64 xc, .int .i64 n, .int .i64 m, .int .i64 xi, .int .i64 xw, .string nm] 61)).alloc (Obj.cells #[.int .i64 0, .int .i64 0] 59)).cell? ⟨w.heap.size, 4, none⟩ = some (.int .i64 n) := by go_simp
  have b5 : ((w.alloc (Obj.cells #[.int .i64 37, .int .i64 xa, .int .i64 xb, .int .i64 xc, .int .i64 n, .int .i64 m, .int .i64 xi, .int .i64 xw, .string nm] 61)).alloc (Obj.cells #[.int .i64 0, .int .i64 0] 59)).cell? ⟨w.heap.size, 5, none⟩ = some (.int .i64 m) := by go_simp
  have r0 : ((w.alloc (Obj.cells #[.int .i64 37, .int .i64 xa, .int .i64 xb, .int .i64 xc, .int .i64 n, .int .i64 m, .int .i64 xi, .int .i64 xw, .string nm] 61)).alloc (Obj.cells #[.int .i64 0, .int .i64 0] 59)).cell? ⟨w.heap.size + 1, 0, none⟩ = some (.int .i64 0) := by go_simp
  have f0 : ((w.alloc (Obj.cells #[.int .i64 37, .int .i64 xa, .int .i64 xb, .int .i64 xc, .int .i64 n, .int .i64 m, .int .i64 xi, .int .i64 xw, .string nm] 61)).alloc (Obj.cells #[.int .i64 0, .int .i64 0] 59)).frozen? ⟨w.heap.size + 1, 0, none⟩ = false := by go_simp
  have r1 : ((w.alloc (Obj.cells #[.int .i64 37, .int .i64 xa, .int .i64 xb, .int .i64 xc, .int .i64 n, .int .i64 m, .int .i64 xi, .int .i64 xw, .string nm] 61)).alloc (Obj.cells #[.int .i64 0, .int .i64 0] 59)).cell? ⟨w.heap.size + 1, 1, none⟩ = some (.int .i64 0) := by go_simp
  have f1 : ((w.alloc (Obj.cells #[.int .i64 37, .int .i64 xa, .int .i64 xb, .int .i64 xc, .int .i64 n, .int .i64 m, .int .i64 xi, .int .i64 xw, .string nm] 61)).alloc (Obj.cells #[.int .i64 0, .int .i64 0] 59)).frozen? ⟨w.heap.size + 1, 1, none⟩ = false := by go_simp
  generalize ((w.alloc (Obj.cells #[.int .i64 37, .int .i64 xa, .int .i64 xb, .int .i64 xc, .int .i64 n, .int .i64 m, .int .i64 xi, .int .i64 xw, .string nm] 61)).alloc (Obj.cells #[.int .i64 0, .int .i64 0] 59)) = w2 at *
  have f0 := Later.frozen f0 (World.block_lt_of_cell? _ _ r0)
  have f1 := Later.frozen f1 (World.block_lt_of_cell? _ _ r1)
  have b0 := Later.cell b0
  have b4 := Later.cell b4
  have b5 := Later.cell b5
  have r0 := Later.cell r0
  have r1 := Later.cell r1
  have c0 : ∀ l : Later w2, l.val.cell? ⟨g, 0, none⟩ = some (.int .i64 ai) := fun l => Later.cell c0 ⟨l.val, l.back HB.out⟩
  have c1 : ∀ l : Later w2, l.val.cell? ⟨g, 1, none⟩ = some (.int .i64 aw) := fun l => Later.cell c1 ⟨l.val, l.back HB.out⟩
  have c2 : ∀ l : Later w2, l.val.cell? ⟨g, 2, none⟩ = some (.int .i64 bi) := fun l => Later.cell c2 ⟨l.val, l.back HB.out⟩
  have c3 : ∀ l : Later w2, l.val.cell? ⟨g, 3, none⟩ = some (.int .i64 bw) := fun l => Later.cell c3 ⟨l.val, l.back HB.out⟩
  have hfacts : ∀ W, (W = w2 ∨ W = (w2.setCell ⟨w.heap.size + 1, 0, none⟩ (.int .i64 0)).setCell ⟨w.heap.size + 1, 1, none⟩ (.int .i64 aw)) → ∀ l : Later W, l.val.cell? ⟨g, 0, none⟩ = some (.int .i64 ai) ∧ l.val.cell? ⟨g, 1, none⟩ = some (.int .i64 aw) ∧ l.val.cell? ⟨g, 2, none⟩ = some (.int .i64 bi) ∧ l.val.cell? ⟨g, 3, none⟩ = some (.int .i64 bw) := by
    rintro W (rfl | rfl) l
    · exact ⟨c0 l, c1 l, c2 l, c3 l⟩
    · have ne : ∀ (f : Nat) (v : Value), (∀ l : Later w2, l.val.cell? ⟨g, f, none⟩ = some v) → l.val.cell? ⟨g, f, none⟩ = some v := fun f v h => Later.cell ((World.cell?_setCell_other _ _ _ _ (by intro e; simp only [Addr.mk.injEq] at e; omega)).trans ((World.cell?_setCell_other _ _ _ _ (by intro e; simp only [Addr.mk.injEq] at e; omega)).trans (h ⟨w2, Below.refl _ _⟩))) l
      exact ⟨ne _ _ c0, ne _ _ c1, ne _ _ c2, ne _ _ c3⟩
  have HF := Lib.hid hfacts
  clear hfacts
  refine wp_region_store' (w0 := w2) (w1 := (w2.setCell ⟨w.heap.size + 1, 0, none⟩ (.int .i64 0)).setCell ⟨w.heap.size + 1, 1, none⟩ (.int .i64 aw)) 21 (by kernel_rfl) (by kernel_rfl) rfl (by kernel_rfl) (LaterC.refl _) ?_
  apply Exists.intro
  refine ⟨fun W hW => ?_, ?_, ?_, ?_⟩
  · have hc := HF.out W hW
    have d0 := fun l => (hc l).1; have d1 := fun l => (hc l).2.1; have d2 := fun l => (hc l).2.2.1; have d3 := fun l => (hc l).2.2.2
    clear hc hW
    simp only [List.take_succ_cons, List.take_zero]
    repeat (go_big_quiet_step ((go_at_call 43; exact Calls.later (l2Word_calls _ _))))
    exact wpQuiet_nil rfl
  · rfl
  · intro u
    refine ⟨(u.val.setCell ⟨w.heap.size + 1, 0, none⟩ (.int .i64 0)).setCell ⟨w.heap.size + 1, 1, none⟩ (.int .i64 aw), ?_, u.set2 _ _ _ _⟩
    have s0 := r0 u; have s1 := r1 u; have t0 := f0 u; have t1 := f1 u
    go_simp
  · intro u
    have s0 : u.val.cell? ⟨w.heap.size + 1, 0, none⟩ = some (.int .i64 0) := Later.cell ((World.cell?_setCell_other _ _ _ _ (by intro e; simp only [Addr.mk.injEq] at e; omega)).trans (World.cell?_setCell_same _ _ _ (r0 ⟨w2, Below.refl _ _⟩))) u
    have s1 : u.val.cell? ⟨w.heap.size + 1, 1, none⟩ = some (.int .i64 aw) := Later.cell (World.cell?_setCell_same _ _ _ ((World.cell?_setCell_other _ _ _ _ (by intro e; simp only [Addr.mk.injEq] at e; omega)).trans (r1 ⟨w2, Below.refl _ _⟩))) u
    have hbel := Lib.hid (u.back ((HB.out.setCell (p := ⟨w.heap.size + 1, 0, none⟩) (by simp) (.int .i64 0)).setCell (p := ⟨w.heap.size + 1, 1, none⟩) (by simp) (.int .i64 aw)))
    simp only [List.drop_succ_cons, List.drop_zero]
    clear r0 r1 f0 f1
    go_wp2
    exact bodyPost_ret (v := .tuple #[.agg #[.int .i64 0, .int .i64 aw], .bool false]) (by simp [results, Try.results63, go_sem, s0, s1]) rfl (respost_none HR.out hbel.out)
set_option maxHeartbeats 2000000 in
set_option maxRecDepth 8000 in
theorem l2Result_37_2 (n m ai aw bi bw ci cw xa xb xc xi xw : Int) (nm : ByteArray) (g cap : Nat) (w : World) (hcap : 2 ≤ cap) (c0 : w.cell? ⟨g, 0, none⟩ = some (.int .i64 ai)) (c1 : w.cell? ⟨g, 1, none⟩ = some (.int .i64 aw)) (c2 : w.cell? ⟨g, 2, none⟩ = some (.int .i64 bi)) (c3 : w.cell? ⟨g, 3, none⟩ = some (.int .i64 bw)) (h0 : (decide (0 < ai)) = true) (h1 : (bi == 0) = true) (h2 : (bw == ai) = false) :
    Calls Try.prog 63 #[.agg #[.int .i64 37, .int .i64 xa, .int .i64 xb, .int .i64 xc, .int .i64 n, .int .i64 m, .int .i64 xi, .int .i64 xw, .string nm], .slice (some ⟨g, 0, none⟩) 2 cap] w (ResPost (resN 37 n m ai aw bi bw ci cw) w) := by
  have hlt : g < w.heap.size := World.block_lt_of_cell? _ _ c0
  have HR := Lib.hid (show resN 37 n m ai aw bi bw ci cw = none by unfold resN; simp only [h0, h1, h2, Bool.and_false, Bool.false_and, Bool.true_and, Bool.and_true]; rfl)
  go_enter Try.func63, Try.ntmps63
  go_wp2
  have HB := Lib.hid (show Below w.heap.size w ((w.alloc (Obj.cells #[.int .i64 37, .int .i64 xa, .int .i64 xb, .int .i64 xc, .int .i64 n, .int .i64 m, .int .i64 xi, .int .i64 xw, .string nm] 61)).alloc (Obj.cells #[.int .i64 0, .int .i64 0] 59)) from (box_below _ _ _).alloc (by simp) _)
  have b0 : ((w.alloc (Obj.cells #[.int .i64 37, .int .i64 xa, .int .i64 xb, .int .i64 xc, .int .i64 n, .int .i64 m, .int .i64 xi, .int .i64 xw, .string nm] 61)).alloc (Obj.cells #[.int .i64 0, .int .i64 0] 59)).cell? ⟨w.heap.size, 0, none⟩ = some (.int .i64 37) := by go_simp
  have b4 : ((w.alloc (Obj.cells #[.int .i64 37, .int .i64 xa, .int .i64 xb, .int .i64 xc, .int .i64 n, .int .i64 m, .int .i64 xi, .int .i64 xw, .string nm] 61)).alloc (Obj.cells #[.int .i64 0, .int .i64 0] 59)).cell? ⟨w.heap.size, 4, none⟩ = some (.int .i64 n) := by go_simp
  have b5 : ((w.alloc (Obj.cells #[.int .i64 37, .int .i64 xa, .int .i64 xb, .int .i64 xc, .int .i64 n, .int .i64 m, .int .i64 xi, .int .i64 xw, .string nm] 61)).alloc (Obj.cells #[.int .i64 0, .int .i64 0] 59)).cell? ⟨w.heap.size, 5, none⟩ = some (.int .i64 m) := by go_simp
  have r0 : ((w.alloc (Obj.cells #[.int .i64 37, .int .i64 xa, .int .i64 xb, .int .i64 xc, .int .i64 n, .int .i64 m, .int .i64 xi, .int .i64 xw, .string nm] 61)).alloc (Obj.cells #[.int .i64 0, .int .i64 0] 59)).cell? ⟨w.heap.size + 1, 0, none⟩ = some (.int .i64 0) := by go_simp
  have f0 : ((w.alloc (Obj.cells #[.int .i64 37, .int .i64 xa, .int .i64 xb, .int .i64 xc, .int .i64 n, .int .i64 m, .int .i64 xi, .int .i64 xw, .string nm] 61)).alloc (Obj.cells #[.int .i64 0, .int .i64 0] 59)).frozen? ⟨w.heap.size + 1, 0, none⟩ = false := by go_simp
  have r1 : ((w.alloc (Obj.cells #[.int .i64 37, .int .i64 xa, .int .i64 xb, .int .i64 xc, .int .i64 n, .int .i64 m, .int .i64 xi, .int .i64 xw, .string nm] 61)).alloc (Obj.cells #[.int .i64 0, .int .i64 0] 59)).cell? ⟨w.heap.size + 1, 1, none⟩ = some (.int .i64 0) := by go_simp
  have f1 : ((w.alloc (Obj.cells #[.int .i64 37, .int .i64 xa, .int .i64 xb, .int .i64 xc, .int .i64 n, .int .i64 m, .int .i64 xi, .int .i64 xw, .string nm] 61)).alloc (Obj.cells #[.int .i64 0, .int .i64 0] 59)).frozen? ⟨w.heap.size + 1, 1, none⟩ = false := by go_simp
  generalize ((w.alloc (Obj.cells #[.int .i64 37, .int .i64 xa, .int .i64 xb, .int .i64 xc, .int .i64 n, .int .i64 m, .int .i64 xi, .int .i64 xw, .string nm] 61)).alloc (Obj.cells #[.int .i64 0, .int .i64 0] 59)) = w2 at *
  have f0 := Later.frozen f0 (World.block_lt_of_cell? _ _ r0)
  have f1 := Later.frozen f1 (World.block_lt_of_cell? _ _ r1)
  have b0 := Later.cell b0
  have b4 := Later.cell b4
  have b5 := Later.cell b5
  have r0 := Later.cell r0
  have r1 := Later.cell r1
  have c0 : ∀ l : Later w2, l.val.cell? ⟨g, 0, none⟩ = some (.int .i64 ai) := fun l => Later.cell c0 ⟨l.val, l.back HB.out⟩
  have c1 : ∀ l : Later w2, l.val.cell? ⟨g, 1, none⟩ = some (.int .i64 aw) := fun l => Later.cell c1 ⟨l.val, l.back HB.out⟩
  have c2 : ∀ l : Later w2, l.val.cell? ⟨g, 2, none⟩ = some (.int .i64 bi) := fun l => Later.cell c2 ⟨l.val, l.back HB.out⟩
  have c3 : ∀ l : Later w2, l.val.cell? ⟨g, 3, none⟩ = some (.int .i64 bw) := fun l => Later.cell c3 ⟨l.val, l.back HB.out⟩
  have hfacts : ∀ W, (W = w2 ∨ W = (w2.setCell ⟨w.heap.size + 1, 0, none⟩ (.int .i64 0)).setCell ⟨w.heap.size + 1, 1, none⟩ (.int .i64 aw)) → ∀ l : Later W, l.val.cell? ⟨g, 0, none⟩ = some (.int .i64 ai) ∧ l.val.cell? ⟨g, 1, none⟩ = some (.int .i64 aw) ∧ l.val.cell? ⟨g, 2, none⟩ = some (.int .i64 bi) ∧ l.val.cell? ⟨g, 3, none⟩ = some (.int .i64 bw) := by
    rintro W (rfl | rfl) l
    · exact ⟨c0 l, c1 l, c2 l, c3 l⟩
    · have ne : ∀ (f : Nat) (v : Value), (∀ l : Later w2, l.val.cell? ⟨g, f, none⟩ = some v) → l.val.cell? ⟨g, f, none⟩ = some v := fun f v h => Later.cell ((World.cell?_setCell_other _ _ _ _ (by intro e; simp only [Addr.mk.injEq] at e; omega)).trans ((World.cell?_setCell_other _ _ _ _ (by intro e; simp only [Addr.mk.injEq] at e; omega)).trans (h ⟨w2, Below.refl _ _⟩))) l
      exact ⟨ne _ _ c0, ne _ _ c1, ne _ _ c2, ne _ _ c3⟩
  have HF := Lib.hid hfacts
  clear hfacts
  refine wp_region_store' (w0 := w2) (w1 := (w2.setCell ⟨w.heap.size + 1, 0, none⟩ (.int .i64 0)).setCell ⟨w.heap.size + 1, 1, none⟩ (.int .i64 aw)) 21 (by kernel_rfl) (by kernel_rfl) rfl (by kernel_rfl) (LaterC.refl _) ?_
  apply Exists.intro
  refine ⟨fun W hW => ?_, ?_, ?_, ?_⟩
  · have hc := HF.out W hW
    have d0 := fun l => (hc l).1; have d1 := fun l => (hc l).2.1; have d2 := fun l => (hc l).2.2.1; have d3 := fun l => (hc l).2.2.2
    clear hc hW
    simp only [List.take_succ_cons, List.take_zero]
    repeat (go_big_quiet_step ((go_at_call 43; exact Calls.later (l2Word_calls _ _))))
    exact wpQuiet_nil rfl
  · rfl
  · intro u
    refine ⟨(u.val.setCell ⟨w.heap.size + 1, 0, none⟩ (.int .i64 0)).setCell ⟨w.heap.size + 1, 1, none⟩ (.int .i64 aw), ?_, u.set2 _ _ _ _⟩
    have s0 := r0 u; have s1 := r1 u; have t0 := f0 u; have t1 := f1 u
    go_simp
  · intro u
    have s0 : u.val.cell? ⟨w.heap.size + 1, 0, none⟩ = some (.int .i64 0) := Later.cell ((World.cell?_setCell_other _ _ _ _ (by intro e; simp only [Addr.mk.injEq] at e; omega)).trans (World.cell?_setCell_same _ _ _ (r0 ⟨w2, Below.refl _ _⟩))) u
    have s1 : u.val.cell? ⟨w.heap.size + 1, 1, none⟩ = some (.int .i64 aw) := Later.cell (World.cell?_setCell_same _ _ _ ((World.cell?_setCell_other _ _ _ _ (by intro e; simp only [Addr.mk.injEq] at e; omega)).trans (r1 ⟨w2, Below.refl _ _⟩))) u
    have hbel := Lib.hid (u.back ((HB.out.setCell (p := ⟨w.heap.size + 1, 0, none⟩) (by simp) (.int .i64 0)).setCell (p := ⟨w.heap.size + 1, 1, none⟩) (by simp) (.int .i64 aw)))
    simp only [List.drop_succ_cons, List.drop_zero]
    clear r0 r1 f0 f1
    go_wp2
    exact bodyPost_ret (v := .tuple #[.agg #[.int .i64 0, .int .i64 aw], .bool false]) (by simp [results, Try.results63, go_sem, s0, s1]) rfl (respost_none HR.out hbel.out)
set_option maxHeartbeats 2000000 in
set_option maxRecDepth 8000 in
theorem l2Result_37_3 (n m ai aw bi bw ci cw xa xb xc xi xw : Int) (nm : ByteArray) (g cap : Nat) (w : World) (hcap : 2 ≤ cap) (c0 : w.cell? ⟨g, 0, none⟩ = some (.int .i64 ai)) (c1 : w.cell? ⟨g, 1, none⟩ = some (.int .i64 aw)) (c2 : w.cell? ⟨g, 2, none⟩ = some (.int .i64 bi)) (c3 : w.cell? ⟨g, 3, none⟩ = some (.int .i64 bw)) (h0 : (decide (0 < ai)) = true) (h1 : (bi == 0) = true) (h2 : (bw == ai) = true) :
    Calls Try.prog 63 #[.agg #[.int .i64 37, .int .i64 xa, .int .i64 xb, .int .i64 xc, .int .i64 n, .int .i64 m, .int .i64 xi, .int .i64 xw, .string nm], .slice (some ⟨g, 0, none⟩) 2 cap] w (ResPost (resN 37 n m ai aw bi bw ci cw) w) := by
  have hlt : g < w.heap.size := World.block_lt_of_cell? _ _ c0
  have HR := Lib.hid (show resN 37 n m ai aw bi bw ci cw = some (0, aw) by unfold resN; simp only [h0, h1, h2]; rfl)
  go_enter Try.func63, Try.ntmps63
  go_wp2
  have HB := Lib.hid (show Below w.heap.size w ((w.alloc (Obj.cells #[.int .i64 37, .int .i64 xa, .int .i64 xb, .int .i64 xc, .int .i64 n, .int .i64 m, .int .i64 xi, .int .i64 xw, .string nm] 61)).alloc (Obj.cells #[.int .i64 0, .int .i64 0] 59)) from (box_below _ _ _).alloc (by simp) _)
  have b0 : ((w.alloc (Obj.cells #[.int .i64 37, .int .i64 xa, .int .i64 xb, .int .i64 xc, .int .i64 n, .int .i64 m, .int .i64 xi, .int .i64 xw, .string nm] 61)).alloc (Obj.cells #[.int .i64 0, .int .i64 0] 59)).cell? ⟨w.heap.size, 0, none⟩ = some (.int .i64 37) := by go_simp
  have b4 : ((w.alloc (Obj.cells #[.int .i64 37, .int .i64 xa, .int .i64 xb, .int .i64 xc, .int .i64 n, .int .i64 m, .int .i64 xi, .int .i64 xw, .string nm] 61)).alloc (Obj.cells #[.int .i64 0, .int .i64 0] 59)).cell? ⟨w.heap.size, 4, none⟩ = some (.int .i64 n) := by go_simp
  have b5 : ((w.alloc (Obj.cells #[.int .i64 37, .int .i64 xa, .int .i64 xb, .int .i64 xc, .int .i64 n, .int .i64 m, .int .i64 xi, .int .i64 xw, .string nm] 61)).alloc (Obj.cells #[.int .i64 0, .int .i64 0] 59)).cell? ⟨w.heap.size, 5, none⟩ = some (.int .i64 m) := by go_simp
  have r0 : ((w.alloc (Obj.cells #[.int .i64 37, .int .i64 xa, .int .i64 xb, .int .i64 xc, .int .i64 n, .int .i64 m, .int .i64 xi, .int .i64 xw, .string nm] 61)).alloc (Obj.cells #[.int .i64 0, .int .i64 0] 59)).cell? ⟨w.heap.size + 1, 0, none⟩ = some (.int .i64 0) := by go_simp
  have f0 : ((w.alloc (Obj.cells #[.int .i64 37, .int .i64 xa, .int .i64 xb, .int .i64 xc, .int .i64 n, .int .i64 m, .int .i64 xi, .int .i64 xw, .string nm] 61)).alloc (Obj.cells #[.int .i64 0, .int .i64 0] 59)).frozen? ⟨w.heap.size + 1, 0, none⟩ = false := by go_simp
  have r1 : ((w.alloc (Obj.cells #[.int .i64 37, .int .i64 xa, .int .i64 xb, .int .i64 xc, .int .i64 n, .int .i64 m, .int .i64 xi, .int .i64 xw, .string nm] 61)).alloc (Obj.cells #[.int .i64 0, .int .i64 0] 59)).cell? ⟨w.heap.size + 1, 1, none⟩ = some (.int .i64 0) := by go_simp
  have f1 : ((w.alloc (Obj.cells #[.int .i64 37, .int .i64 xa, .int .i64 xb, .int .i64 xc, .int .i64 n, .int .i64 m, .int .i64 xi, .int .i64 xw, .string nm] 61)).alloc (Obj.cells #[.int .i64 0, .int .i64 0] 59)).frozen? ⟨w.heap.size + 1, 1, none⟩ = false := by go_simp
  generalize ((w.alloc (Obj.cells #[.int .i64 37, .int .i64 xa, .int .i64 xb, .int .i64 xc, .int .i64 n, .int .i64 m, .int .i64 xi, .int .i64 xw, .string nm] 61)).alloc (Obj.cells #[.int .i64 0, .int .i64 0] 59)) = w2 at *
  have f0 := Later.frozen f0 (World.block_lt_of_cell? _ _ r0)
  have f1 := Later.frozen f1 (World.block_lt_of_cell? _ _ r1)
  have b0 := Later.cell b0
  have b4 := Later.cell b4
  have b5 := Later.cell b5
  have r0 := Later.cell r0
  have r1 := Later.cell r1
  have c0 : ∀ l : Later w2, l.val.cell? ⟨g, 0, none⟩ = some (.int .i64 ai) := fun l => Later.cell c0 ⟨l.val, l.back HB.out⟩
  have c1 : ∀ l : Later w2, l.val.cell? ⟨g, 1, none⟩ = some (.int .i64 aw) := fun l => Later.cell c1 ⟨l.val, l.back HB.out⟩
  have c2 : ∀ l : Later w2, l.val.cell? ⟨g, 2, none⟩ = some (.int .i64 bi) := fun l => Later.cell c2 ⟨l.val, l.back HB.out⟩
  have c3 : ∀ l : Later w2, l.val.cell? ⟨g, 3, none⟩ = some (.int .i64 bw) := fun l => Later.cell c3 ⟨l.val, l.back HB.out⟩
  have hfacts : ∀ W, (W = w2 ∨ W = (w2.setCell ⟨w.heap.size + 1, 0, none⟩ (.int .i64 0)).setCell ⟨w.heap.size + 1, 1, none⟩ (.int .i64 aw)) → ∀ l : Later W, l.val.cell? ⟨g, 0, none⟩ = some (.int .i64 ai) ∧ l.val.cell? ⟨g, 1, none⟩ = some (.int .i64 aw) ∧ l.val.cell? ⟨g, 2, none⟩ = some (.int .i64 bi) ∧ l.val.cell? ⟨g, 3, none⟩ = some (.int .i64 bw) := by
    rintro W (rfl | rfl) l
    · exact ⟨c0 l, c1 l, c2 l, c3 l⟩
    · have ne : ∀ (f : Nat) (v : Value), (∀ l : Later w2, l.val.cell? ⟨g, f, none⟩ = some v) → l.val.cell? ⟨g, f, none⟩ = some v := fun f v h => Later.cell ((World.cell?_setCell_other _ _ _ _ (by intro e; simp only [Addr.mk.injEq] at e; omega)).trans ((World.cell?_setCell_other _ _ _ _ (by intro e; simp only [Addr.mk.injEq] at e; omega)).trans (h ⟨w2, Below.refl _ _⟩))) l
      exact ⟨ne _ _ c0, ne _ _ c1, ne _ _ c2, ne _ _ c3⟩
  have HF := Lib.hid hfacts
  clear hfacts
  refine wp_region_store' (w0 := w2) (w1 := (w2.setCell ⟨w.heap.size + 1, 0, none⟩ (.int .i64 0)).setCell ⟨w.heap.size + 1, 1, none⟩ (.int .i64 aw)) 21 (by kernel_rfl) (by kernel_rfl) rfl (by kernel_rfl) (LaterC.refl _) ?_
  apply Exists.intro
  refine ⟨fun W hW => ?_, ?_, ?_, ?_⟩
  · have hc := HF.out W hW
    have d0 := fun l => (hc l).1; have d1 := fun l => (hc l).2.1; have d2 := fun l => (hc l).2.2.1; have d3 := fun l => (hc l).2.2.2
    clear hc hW
    simp only [List.take_succ_cons, List.take_zero]
    repeat (go_big_quiet_step ((go_at_call 43; exact Calls.later (l2Word_calls _ _))))
    exact wpQuiet_nil rfl
  · rfl
  · intro u
    refine ⟨(u.val.setCell ⟨w.heap.size + 1, 0, none⟩ (.int .i64 0)).setCell ⟨w.heap.size + 1, 1, none⟩ (.int .i64 aw), ?_, u.set2 _ _ _ _⟩
    have s0 := r0 u; have s1 := r1 u; have t0 := f0 u; have t1 := f1 u
    go_simp
  · intro u
    have s0 : u.val.cell? ⟨w.heap.size + 1, 0, none⟩ = some (.int .i64 0) := Later.cell ((World.cell?_setCell_other _ _ _ _ (by intro e; simp only [Addr.mk.injEq] at e; omega)).trans (World.cell?_setCell_same _ _ _ (r0 ⟨w2, Below.refl _ _⟩))) u
    have s1 : u.val.cell? ⟨w.heap.size + 1, 1, none⟩ = some (.int .i64 aw) := Later.cell (World.cell?_setCell_same _ _ _ ((World.cell?_setCell_other _ _ _ _ (by intro e; simp only [Addr.mk.injEq] at e; omega)).trans (r1 ⟨w2, Below.refl _ _⟩))) u
    have hbel := Lib.hid (u.back ((HB.out.setCell (p := ⟨w.heap.size + 1, 0, none⟩) (by simp) (.int .i64 0)).setCell (p := ⟨w.heap.size + 1, 1, none⟩) (by simp) (.int .i64 aw)))
    simp only [List.drop_succ_cons, List.drop_zero]
    clear r0 r1 f0 f1
    go_wp2
    exact bodyPost_ret (v := .tuple #[.agg #[.int .i64 0, .int .i64 aw], .bool true]) (by simp [results, Try.results63, go_sem, s0, s1]) rfl (respost_some HR.out hbel.out)
theorem l2Result_37 (n m ai aw bi bw ci cw xa xb xc xi xw : Int) (nm : ByteArray) (g cap : Nat) (w : World) (hcap : 2 ≤ cap) (c0 : w.cell? ⟨g, 0, none⟩ = some (.int .i64 ai)) (c1 : w.cell? ⟨g, 1, none⟩ = some (.int .i64 aw)) (c2 : w.cell? ⟨g, 2, none⟩ = some (.int .i64 bi)) (c3 : w.cell? ⟨g, 3, none⟩ = some (.int .i64 bw)) :
    Calls Try.prog 63 #[.agg #[.int .i64 37, .int .i64 xa, .int .i64 xb, .int .i64 xc, .int .i64 n, .int .i64 m, .int .i64 xi, .int .i64 xw, .string nm], .slice (some ⟨g, 0, none⟩) 2 cap] w (ResPost (resN 37 n m ai aw bi bw ci cw) w) := by
  by_cases h0 : (decide (0 < ai)) = true
  rotate_left
  · exact l2Result_37_0 n m ai aw bi bw ci cw xa xb xc xi xw nm g cap w hcap c0 c1 c2 c3  (eq_false_of_ne_true h0)
  by_cases h1 : (bi == 0) = true
  rotate_left
  · exact l2Result_37_1 n m ai aw bi bw ci cw xa xb xc xi xw nm g cap w hcap c0 c1 c2 c3 h0 (eq_false_of_ne_true h1)
  by_cases h2 : (bw == ai) = true
  rotate_left
  · exact l2Result_37_2 n m ai aw bi bw ci cw xa xb xc xi xw nm g cap w hcap c0 c1 c2 c3 h0 h1 (eq_false_of_ne_true h2)
  exact l2Result_37_3 n m ai aw bi bw ci cw xa xb xc xi xw nm g cap w hcap c0 c1 c2 c3 h0 h1 h2
set_option maxHeartbeats 2000000 in
set_option maxRecDepth 8000 in
theorem l2Result_38_0 (n m ai aw bi bw ci cw xa xb xc xi xw : Int) (nm : ByteArray) (g cap : Nat) (w : World) (hcap : 3 ≤ cap) (c0 : w.cell? ⟨g, 0, none⟩ = some (.int .i64 ai)) (c1 : w.cell? ⟨g, 1, none⟩ = some (.int .i64 aw)) (c2 : w.cell? ⟨g, 2, none⟩ = some (.int .i64 bi)) (c3 : w.cell? ⟨g, 3, none⟩ = some (.int .i64 bw)) (c4 : w.cell? ⟨g, 4, none⟩ = some (.int .i64 ci)) (c5 : w.cell? ⟨g, 5, none⟩ = some (.int .i64 cw)) (h0 : (decide (0 < ai)) = false) :
    Calls Try.prog 63 #[.agg #[.int .i64 38, .int .i64 xa, .int .i64 xb, .int .i64 xc, .int .i64 n, .int .i64 m, .int .i64 xi, .int .i64 xw, .string nm], .slice (some ⟨g, 0, none⟩) 3 cap] w (ResPost (resN 38 n m ai aw bi bw ci cw) w) := by
  have hlt : g < w.heap.size := World.block_lt_of_cell? _ _ c0
  have HR := Lib.hid (show resN 38 n m ai aw bi bw ci cw = none by unfold resN; simp only [h0, Bool.and_false, Bool.false_and, Bool.true_and, Bool.and_true]; rfl)
  go_enter Try.func63, Try.ntmps63
  go_wp2
  have HB := Lib.hid (show Below w.heap.size w ((w.alloc (Obj.cells #[.int .i64 38, .int .i64 xa, .int .i64 xb, .int .i64 xc, .int .i64 n, .int .i64 m, .int .i64 xi, .int .i64 xw, .string nm] 61)).alloc (Obj.cells #[.int .i64 0, .int .i64 0] 59)) from (box_below _ _ _).alloc (by simp) _)
  have b0 : ((w.alloc (Obj.cells #[.int .i64 38, .int .i64 xa, .int .i64 xb, .int .i64 xc, .int .i64 n, .int .i64 m, .int .i64 xi, .int .i64 xw, .string nm] 61)).alloc (Obj.cells #[.int .i64 0, .int .i64 0] 59)).cell? ⟨w.heap.size, 0, none⟩ = some (.int .i64 38) := by go_simp
  have b4 : ((w.alloc (Obj.cells #[.int .i64 38, .int .i64 xa, .int .i64 xb, .int .i64 xc, .int .i64 n, .int .i64 m, .int .i64 xi, .int .i64 xw, .string nm] 61)).alloc (Obj.cells #[.int .i64 0, .int .i64 0] 59)).cell? ⟨w.heap.size, 4, none⟩ = some (.int .i64 n) := by go_simp
  have b5 : ((w.alloc (Obj.cells #[.int .i64 38, .int .i64 xa, .int .i64 xb, .int .i64 xc, .int .i64 n, .int .i64 m, .int .i64 xi, .int .i64 xw, .string nm] 61)).alloc (Obj.cells #[.int .i64 0, .int .i64 0] 59)).cell? ⟨w.heap.size, 5, none⟩ = some (.int .i64 m) := by go_simp
  have r0 : ((w.alloc (Obj.cells #[.int .i64 38, .int .i64 xa, .int .i64 xb, .int .i64 xc, .int .i64 n, .int .i64 m, .int .i64 xi, .int .i64 xw, .string nm] 61)).alloc (Obj.cells #[.int .i64 0, .int .i64 0] 59)).cell? ⟨w.heap.size + 1, 0, none⟩ = some (.int .i64 0) := by go_simp
  have f0 : ((w.alloc (Obj.cells #[.int .i64 38, .int .i64 xa, .int .i64 xb, .int .i64 xc, .int .i64 n, .int .i64 m, .int .i64 xi, .int .i64 xw, .string nm] 61)).alloc (Obj.cells #[.int .i64 0, .int .i64 0] 59)).frozen? ⟨w.heap.size + 1, 0, none⟩ = false := by go_simp
  have r1 : ((w.alloc (Obj.cells #[.int .i64 38, .int .i64 xa, .int .i64 xb, .int .i64 xc, .int .i64 n, .int .i64 m, .int .i64 xi, .int .i64 xw, .string nm] 61)).alloc (Obj.cells #[.int .i64 0, .int .i64 0] 59)).cell? ⟨w.heap.size + 1, 1, none⟩ = some (.int .i64 0) := by go_simp
  have f1 : ((w.alloc (Obj.cells #[.int .i64 38, .int .i64 xa, .int .i64 xb, .int .i64 xc, .int .i64 n, .int .i64 m, .int .i64 xi, .int .i64 xw, .string nm] 61)).alloc (Obj.cells #[.int .i64 0, .int .i64 0] 59)).frozen? ⟨w.heap.size + 1, 1, none⟩ = false := by go_simp
  generalize ((w.alloc (Obj.cells #[.int .i64 38, .int .i64 xa, .int .i64 xb, .int .i64 xc, .int .i64 n, .int .i64 m, .int .i64 xi, .int .i64 xw, .string nm] 61)).alloc (Obj.cells #[.int .i64 0, .int .i64 0] 59)) = w2 at *
  have f0 := Later.frozen f0 (World.block_lt_of_cell? _ _ r0)
  have f1 := Later.frozen f1 (World.block_lt_of_cell? _ _ r1)
  have b0 := Later.cell b0
  have b4 := Later.cell b4
  have b5 := Later.cell b5
  have r0 := Later.cell r0
  have r1 := Later.cell r1
  have c0 : ∀ l : Later w2, l.val.cell? ⟨g, 0, none⟩ = some (.int .i64 ai) := fun l => Later.cell c0 ⟨l.val, l.back HB.out⟩
  have c1 : ∀ l : Later w2, l.val.cell? ⟨g, 1, none⟩ = some (.int .i64 aw) := fun l => Later.cell c1 ⟨l.val, l.back HB.out⟩
  have c2 : ∀ l : Later w2, l.val.cell? ⟨g, 2, none⟩ = some (.int .i64 bi) := fun l => Later.cell c2 ⟨l.val, l.back HB.out⟩
  have c3 : ∀ l : Later w2, l.val.cell? ⟨g, 3, none⟩ = some (.int .i64 bw) := fun l => Later.cell c3 ⟨l.val, l.back HB.out⟩
  have c4 : ∀ l : Later w2, l.val.cell? ⟨g, 4, none⟩ = some (.int .i64 ci) := fun l => Later.cell c4 ⟨l.val, l.back HB.out⟩
  have c5 : ∀ l : Later w2, l.val.cell? ⟨g, 5, none⟩ = some (.int .i64 cw) := fun l => Later.cell c5 ⟨l.val, l.back HB.out⟩
  have hfacts : ∀ W, (W = w2 ∨ W = (w2.setCell ⟨w.heap.size + 1, 0, none⟩ (.int .i64 ai)).setCell ⟨w.heap.size + 1, 1, none⟩ (.int .i64 aw)) → ∀ l : Later W, l.val.cell? ⟨g, 0, none⟩ = some (.int .i64 ai) ∧ l.val.cell? ⟨g, 1, none⟩ = some (.int .i64 aw) ∧ l.val.cell? ⟨g, 2, none⟩ = some (.int .i64 bi) ∧ l.val.cell? ⟨g, 3, none⟩ = some (.int .i64 bw) ∧ l.val.cell? ⟨g, 4, none⟩ = some (.int .i64 ci) ∧ l.val.cell? ⟨g, 5, none⟩ = some (.int .i64 cw) := by
    rintro W (rfl | rfl) l
    · exact ⟨c0 l, c1 l, c2 l, c3 l, c4 l, c5 l⟩
    · have ne : ∀ (f : Nat) (v : Value), (∀ l : Later w2, l.val.cell? ⟨g, f, none⟩ = some v) → l.val.cell? ⟨g, f, none⟩ = some v := fun f v h => Later.cell ((World.cell?_setCell_other _ _ _ _ (by intro e; simp only [Addr.mk.injEq] at e; omega)).trans ((World.cell?_setCell_other _ _ _ _ (by intro e; simp only [Addr.mk.injEq] at e; omega)).trans (h ⟨w2, Below.refl _ _⟩))) l
      exact ⟨ne _ _ c0, ne _ _ c1, ne _ _ c2, ne _ _ c3, ne _ _ c4, ne _ _ c5⟩
  have HF := Lib.hid hfacts
  clear hfacts
  refine wp_region_store' (w0 := w2) (w1 := (w2.setCell ⟨w.heap.size + 1, 0, none⟩ (.int .i64 ai)).setCell ⟨w.heap.size + 1, 1, none⟩ (.int .i64 aw)) 30 (by kernel_rfl) (by kernel_rfl) rfl (by kernel_rfl) (LaterC.refl _) ?_
  apply Exists.intro
  refine ⟨fun W hW => ?_, ?_, ?_, ?_⟩
  · have hc := HF.out W hW
    have d0 := fun l => (hc l).1; have d1 := fun l => (hc l).2.1; have d2 := fun l => (hc l).2.2.1; have d3 := fun l => (hc l).2.2.2.1; have d4 := fun l => (hc l).2.2.2.2.1; have d5 := fun l => (hc l).2.2.2.2.2
    clear hc hW
    simp only [List.take_succ_cons, List.take_zero]
    repeat (go_big_quiet_step ((go_at_call 43; exact Calls.later (l2Word_calls _ _))))
    exact wpQuiet_nil rfl
  · rfl
  · intro u
    refine ⟨(u.val.setCell ⟨w.heap.size + 1, 0, none⟩ (.int .i64 ai)).setCell ⟨w.heap.size + 1, 1, none⟩ (.int .i64 aw), ?_, u.set2 _ _ _ _⟩
    have s0 := r0 u; have s1 := r1 u; have t0 := f0 u; have t1 := f1 u
    go_simp
  · intro u
    have s0 : u.val.cell? ⟨w.heap.size + 1, 0, none⟩ = some (.int .i64 ai) := Later.cell ((World.cell?_setCell_other _ _ _ _ (by intro e; simp only [Addr.mk.injEq] at e; omega)).trans (World.cell?_setCell_same _ _ _ (r0 ⟨w2, Below.refl _ _⟩))) u
    have s1 : u.val.cell? ⟨w.heap.size + 1, 1, none⟩ = some (.int .i64 aw) := Later.cell (World.cell?_setCell_same _ _ _ ((World.cell?_setCell_other _ _ _ _ (by intro e; simp only [Addr.mk.injEq] at e; omega)).trans (r1 ⟨w2, Below.refl _ _⟩))) u
    have hbel := Lib.hid (u.back ((HB.out.setCell (p := ⟨w.heap.size + 1, 0, none⟩) (by simp) (.int .i64 ai)).setCell (p := ⟨w.heap.size + 1, 1, none⟩) (by simp) (.int .i64 aw)))
    simp only [List.drop_succ_cons, List.drop_zero]
    clear r0 r1 f0 f1
    go_wp2
    exact bodyPost_ret (v := .tuple #[.agg #[.int .i64 ai, .int .i64 aw], .bool false]) (by simp [results, Try.results63, go_sem, s0, s1]) rfl (respost_none HR.out hbel.out)
set_option maxHeartbeats 2000000 in
set_option maxRecDepth 8000 in
theorem l2Result_38_1 (n m ai aw bi bw ci cw xa xb xc xi xw : Int) (nm : ByteArray) (g cap : Nat) (w : World) (hcap : 3 ≤ cap) (c0 : w.cell? ⟨g, 0, none⟩ = some (.int .i64 ai)) (c1 : w.cell? ⟨g, 1, none⟩ = some (.int .i64 aw)) (c2 : w.cell? ⟨g, 2, none⟩ = some (.int .i64 bi)) (c3 : w.cell? ⟨g, 3, none⟩ = some (.int .i64 bw)) (c4 : w.cell? ⟨g, 4, none⟩ = some (.int .i64 ci)) (c5 : w.cell? ⟨g, 5, none⟩ = some (.int .i64 cw)) (h0 : (decide (0 < ai)) = true) (h1 : (bi == 0) = false) :
    Calls Try.prog 63 #[.agg #[.int .i64 38, .int .i64 xa, .int .i64 xb, .int .i64 xc, .int .i64 n, .int .i64 m, .int .i64 xi, .int .i64 xw, .string nm], .slice (some ⟨g, 0, none⟩) 3 cap] w (ResPost (resN 38 n m ai aw bi bw ci cw) w) := by
  have hlt : g < w.heap.size := World.block_lt_of_cell? _ _ c0
  have HR := Lib.hid (show resN 38 n m ai aw bi bw ci cw = none by unfold resN; simp only [h0, h1, Bool.and_false, Bool.false_and, Bool.true_and, Bool.and_true]; rfl)
  go_enter Try.func63, Try.ntmps63
  go_wp2
  have HB := Lib.hid (show Below w.heap.size w ((w.alloc (Obj.cells #[.int .i64 38, .int .i64 xa, .int .i64 xb, .int .i64 xc, .int .i64 n, .int .i64 m, .int .i64 xi, .int .i64 xw, .string nm] 61)).alloc (Obj.cells #[.int .i64 0, .int .i64 0] 59)) from (box_below _ _ _).alloc (by simp) _)
  have b0 : ((w.alloc (Obj.cells #[.int .i64 38, .int .i64 xa, .int .i64 xb, .int .i64 xc, .int .i64 n, .int .i64 m, .int .i64 xi, .int .i64 xw, .string nm] 61)).alloc (Obj.cells #[.int .i64 0, .int .i64 0] 59)).cell? ⟨w.heap.size, 0, none⟩ = some (.int .i64 38) := by go_simp
  have b4 : ((w.alloc (Obj.cells #[.int .i64 38, .int .i64 xa, .int .i64 xb, .int .i64 xc, .int .i64 n, .int .i64 m, .int .i64 xi, .int .i64 xw, .string nm] 61)).alloc (Obj.cells #[.int .i64 0, .int .i64 0] 59)).cell? ⟨w.heap.size, 4, none⟩ = some (.int .i64 n) := by go_simp
  have b5 : ((w.alloc (Obj.cells #[.int .i64 38, .int .i64 xa, .int .i64 xb, .int .i64 xc, .int .i64 n, .int .i64 m, .int .i64 xi, .int .i64 xw, .string nm] 61)).alloc (Obj.cells #[.int .i64 0, .int .i64 0] 59)).cell? ⟨w.heap.size, 5, none⟩ = some (.int .i64 m) := by go_simp
  have r0 : ((w.alloc (Obj.cells #[.int .i64 38, .int .i64 xa, .int .i64 xb, .int .i64 xc, .int .i64 n, .int .i64 m, .int .i64 xi, .int .i64 xw, .string nm] 61)).alloc (Obj.cells #[.int .i64 0, .int .i64 0] 59)).cell? ⟨w.heap.size + 1, 0, none⟩ = some (.int .i64 0) := by go_simp
  have f0 : ((w.alloc (Obj.cells #[.int .i64 38, .int .i64 xa, .int .i64 xb, .int .i64 xc, .int .i64 n, .int .i64 m, .int .i64 xi, .int .i64 xw, .string nm] 61)).alloc (Obj.cells #[.int .i64 0, .int .i64 0] 59)).frozen? ⟨w.heap.size + 1, 0, none⟩ = false := by go_simp
  have r1 : ((w.alloc (Obj.cells #[.int .i64 38, .int .i64 xa, .int .i64 xb, .int .i64 xc, .int .i64 n, .int .i64 m, .int .i64 xi, .int .i64 xw, .string nm] 61)).alloc (Obj.cells #[.int .i64 0, .int .i64 0] 59)).cell? ⟨w.heap.size + 1, 1, none⟩ = some (.int .i64 0) := by go_simp
  have f1 : ((w.alloc (Obj.cells #[.int .i64 38, .int .i64 xa, .int .i64 xb, .int .i64 xc, .int .i64 n, .int .i64 m, .int .i64 xi, .int .i64 xw, .string nm] 61)).alloc (Obj.cells #[.int .i64 0, .int .i64 0] 59)).frozen? ⟨w.heap.size + 1, 1, none⟩ = false := by go_simp
  generalize ((w.alloc (Obj.cells #[.int .i64 38, .int .i64 xa, .int .i64 xb, .int .i64 xc, .int .i64 n, .int .i64 m, .int .i64 xi, .int .i64 xw, .string nm] 61)).alloc (Obj.cells #[.int .i64 0, .int .i64 0] 59)) = w2 at *
  have f0 := Later.frozen f0 (World.block_lt_of_cell? _ _ r0)
  have f1 := Later.frozen f1 (World.block_lt_of_cell? _ _ r1)
  have b0 := Later.cell b0
  have b4 := Later.cell b4
  have b5 := Later.cell b5
  have r0 := Later.cell r0
  have r1 := Later.cell r1
  have c0 : ∀ l : Later w2, l.val.cell? ⟨g, 0, none⟩ = some (.int .i64 ai) := fun l => Later.cell c0 ⟨l.val, l.back HB.out⟩
  have c1 : ∀ l : Later w2, l.val.cell? ⟨g, 1, none⟩ = some (.int .i64 aw) := fun l => Later.cell c1 ⟨l.val, l.back HB.out⟩
  have c2 : ∀ l : Later w2, l.val.cell? ⟨g, 2, none⟩ = some (.int .i64 bi) := fun l => Later.cell c2 ⟨l.val, l.back HB.out⟩
  have c3 : ∀ l : Later w2, l.val.cell? ⟨g, 3, none⟩ = some (.int .i64 bw) := fun l => Later.cell c3 ⟨l.val, l.back HB.out⟩
  have c4 : ∀ l : Later w2, l.val.cell? ⟨g, 4, none⟩ = some (.int .i64 ci) := fun l => Later.cell c4 ⟨l.val, l.back HB.out⟩
  have c5 : ∀ l : Later w2, l.val.cell? ⟨g, 5, none⟩ = some (.int .i64 cw) := fun l => Later.cell c5 ⟨l.val, l.back HB.out⟩
  have hfacts : ∀ W, (W = w2 ∨ W = (w2.setCell ⟨w.heap.size + 1, 0, none⟩ (.int .i64 ai)).setCell ⟨w.heap.size + 1, 1, none⟩ (.int .i64 aw)) → ∀ l : Later W, l.val.cell? ⟨g, 0, none⟩ = some (.int .i64 ai) ∧ l.val.cell? ⟨g, 1, none⟩ = some (.int .i64 aw) ∧ l.val.cell? ⟨g, 2, none⟩ = some (.int .i64 bi) ∧ l.val.cell? ⟨g, 3, none⟩ = some (.int .i64 bw) ∧ l.val.cell? ⟨g, 4, none⟩ = some (.int .i64 ci) ∧ l.val.cell? ⟨g, 5, none⟩ = some (.int .i64 cw) := by
    rintro W (rfl | rfl) l
    · exact ⟨c0 l, c1 l, c2 l, c3 l, c4 l, c5 l⟩
    · have ne : ∀ (f : Nat) (v : Value), (∀ l : Later w2, l.val.cell? ⟨g, f, none⟩ = some v) → l.val.cell? ⟨g, f, none⟩ = some v := fun f v h => Later.cell ((World.cell?_setCell_other _ _ _ _ (by intro e; simp only [Addr.mk.injEq] at e; omega)).trans ((World.cell?_setCell_other _ _ _ _ (by intro e; simp only [Addr.mk.injEq] at e; omega)).trans (h ⟨w2, Below.refl _ _⟩))) l
      exact ⟨ne _ _ c0, ne _ _ c1, ne _ _ c2, ne _ _ c3, ne _ _ c4, ne _ _ c5⟩
  have HF := Lib.hid hfacts
  clear hfacts
  refine wp_region_store' (w0 := w2) (w1 := (w2.setCell ⟨w.heap.size + 1, 0, none⟩ (.int .i64 ai)).setCell ⟨w.heap.size + 1, 1, none⟩ (.int .i64 aw)) 30 (by kernel_rfl) (by kernel_rfl) rfl (by kernel_rfl) (LaterC.refl _) ?_
  apply Exists.intro
  refine ⟨fun W hW => ?_, ?_, ?_, ?_⟩
  · have hc := HF.out W hW
    have d0 := fun l => (hc l).1; have d1 := fun l => (hc l).2.1; have d2 := fun l => (hc l).2.2.1; have d3 := fun l => (hc l).2.2.2.1; have d4 := fun l => (hc l).2.2.2.2.1; have d5 := fun l => (hc l).2.2.2.2.2
    clear hc hW
    simp only [List.take_succ_cons, List.take_zero]
    repeat (go_big_quiet_step ((go_at_call 43; exact Calls.later (l2Word_calls _ _))))
    exact wpQuiet_nil rfl
  · rfl
  · intro u
    refine ⟨(u.val.setCell ⟨w.heap.size + 1, 0, none⟩ (.int .i64 ai)).setCell ⟨w.heap.size + 1, 1, none⟩ (.int .i64 aw), ?_, u.set2 _ _ _ _⟩
    have s0 := r0 u; have s1 := r1 u; have t0 := f0 u; have t1 := f1 u
    go_simp
  · intro u
    have s0 : u.val.cell? ⟨w.heap.size + 1, 0, none⟩ = some (.int .i64 ai) := Later.cell ((World.cell?_setCell_other _ _ _ _ (by intro e; simp only [Addr.mk.injEq] at e; omega)).trans (World.cell?_setCell_same _ _ _ (r0 ⟨w2, Below.refl _ _⟩))) u
    have s1 : u.val.cell? ⟨w.heap.size + 1, 1, none⟩ = some (.int .i64 aw) := Later.cell (World.cell?_setCell_same _ _ _ ((World.cell?_setCell_other _ _ _ _ (by intro e; simp only [Addr.mk.injEq] at e; omega)).trans (r1 ⟨w2, Below.refl _ _⟩))) u
    have hbel := Lib.hid (u.back ((HB.out.setCell (p := ⟨w.heap.size + 1, 0, none⟩) (by simp) (.int .i64 ai)).setCell (p := ⟨w.heap.size + 1, 1, none⟩) (by simp) (.int .i64 aw)))
    simp only [List.drop_succ_cons, List.drop_zero]
    clear r0 r1 f0 f1
    go_wp2
    exact bodyPost_ret (v := .tuple #[.agg #[.int .i64 ai, .int .i64 aw], .bool false]) (by simp [results, Try.results63, go_sem, s0, s1]) rfl (respost_none HR.out hbel.out)
set_option maxHeartbeats 2000000 in
set_option maxRecDepth 8000 in
theorem l2Result_38_2 (n m ai aw bi bw ci cw xa xb xc xi xw : Int) (nm : ByteArray) (g cap : Nat) (w : World) (hcap : 3 ≤ cap) (c0 : w.cell? ⟨g, 0, none⟩ = some (.int .i64 ai)) (c1 : w.cell? ⟨g, 1, none⟩ = some (.int .i64 aw)) (c2 : w.cell? ⟨g, 2, none⟩ = some (.int .i64 bi)) (c3 : w.cell? ⟨g, 3, none⟩ = some (.int .i64 bw)) (c4 : w.cell? ⟨g, 4, none⟩ = some (.int .i64 ci)) (c5 : w.cell? ⟨g, 5, none⟩ = some (.int .i64 cw)) (h0 : (decide (0 < ai)) = true) (h1 : (bi == 0) = true) (h2 : (bw == ai) = false) :
    Calls Try.prog 63 #[.agg #[.int .i64 38, .int .i64 xa, .int .i64 xb, .int .i64 xc, .int .i64 n, .int .i64 m, .int .i64 xi, .int .i64 xw, .string nm], .slice (some ⟨g, 0, none⟩) 3 cap] w (ResPost (resN 38 n m ai aw bi bw ci cw) w) := by
  have hlt : g < w.heap.size := World.block_lt_of_cell? _ _ c0
  have HR := Lib.hid (show resN 38 n m ai aw bi bw ci cw = none by unfold resN; simp only [h0, h1, h2, Bool.and_false, Bool.false_and, Bool.true_and, Bool.and_true]; rfl)
  go_enter Try.func63, Try.ntmps63
  go_wp2
  have HB := Lib.hid (show Below w.heap.size w ((w.alloc (Obj.cells #[.int .i64 38, .int .i64 xa, .int .i64 xb, .int .i64 xc, .int .i64 n, .int .i64 m, .int .i64 xi, .int .i64 xw, .string nm] 61)).alloc (Obj.cells #[.int .i64 0, .int .i64 0] 59)) from (box_below _ _ _).alloc (by simp) _)
  have b0 : ((w.alloc (Obj.cells #[.int .i64 38, .int .i64 xa, .int .i64 xb, .int .i64 xc, .int .i64 n, .int .i64 m, .int .i64 xi, .int .i64 xw, .string nm] 61)).alloc (Obj.cells #[.int .i64 0, .int .i64 0] 59)).cell? ⟨w.heap.size, 0, none⟩ = some (.int .i64 38) := by go_simp
  have b4 : ((w.alloc (Obj.cells #[.int .i64 38, .int .i64 xa, .int .i64 xb, .int .i64 xc, .int .i64 n, .int .i64 m, .int .i64 xi, .int .i64 xw, .string nm] 61)).alloc (Obj.cells #[.int .i64 0, .int .i64 0] 59)).cell? ⟨w.heap.size, 4, none⟩ = some (.int .i64 n) := by go_simp
  have b5 : ((w.alloc (Obj.cells #[.int .i64 38, .int .i64 xa, .int .i64 xb, .int .i64 xc, .int .i64 n, .int .i64 m, .int .i64 xi, .int .i64 xw, .string nm] 61)).alloc (Obj.cells #[.int .i64 0, .int .i64 0] 59)).cell? ⟨w.heap.size, 5, none⟩ = some (.int .i64 m) := by go_simp
  have r0 : ((w.alloc (Obj.cells #[.int .i64 38, .int .i64 xa, .int .i64 xb, .int .i64 xc, .int .i64 n, .int .i64 m, .int .i64 xi, .int .i64 xw, .string nm] 61)).alloc (Obj.cells #[.int .i64 0, .int .i64 0] 59)).cell? ⟨w.heap.size + 1, 0, none⟩ = some (.int .i64 0) := by go_simp
  have f0 : ((w.alloc (Obj.cells #[.int .i64 38, .int .i64 xa, .int .i64 xb, .int .i64 xc, .int .i64 n, .int .i64 m, .int .i64 xi, .int .i64 xw, .string nm] 61)).alloc (Obj.cells #[.int .i64 0, .int .i64 0] 59)).frozen? ⟨w.heap.size + 1, 0, none⟩ = false := by go_simp
  have r1 : ((w.alloc (Obj.cells #[.int .i64 38, .int .i64 xa, .int .i64 xb, .int .i64 xc, .int .i64 n, .int .i64 m, .int .i64 xi, .int .i64 xw, .string nm] 61)).alloc (Obj.cells #[.int .i64 0, .int .i64 0] 59)).cell? ⟨w.heap.size + 1, 1, none⟩ = some (.int .i64 0) := by go_simp
  have f1 : ((w.alloc (Obj.cells #[.int .i64 38, .int .i64 xa, .int .i64 xb, .int .i64 xc, .int .i64 n, .int .i64 m, .int .i64 xi, .int .i64 xw, .string nm] 61)).alloc (Obj.cells #[.int .i64 0, .int .i64 0] 59)).frozen? ⟨w.heap.size + 1, 1, none⟩ = false := by go_simp
  generalize ((w.alloc (Obj.cells #[.int .i64 38, .int .i64 xa, .int .i64 xb, .int .i64 xc, .int .i64 n, .int .i64 m, .int .i64 xi, .int .i64 xw, .string nm] 61)).alloc (Obj.cells #[.int .i64 0, .int .i64 0] 59)) = w2 at *
  have f0 := Later.frozen f0 (World.block_lt_of_cell? _ _ r0)
  have f1 := Later.frozen f1 (World.block_lt_of_cell? _ _ r1)
  have b0 := Later.cell b0
  have b4 := Later.cell b4
  have b5 := Later.cell b5
  have r0 := Later.cell r0
  have r1 := Later.cell r1
  have c0 : ∀ l : Later w2, l.val.cell? ⟨g, 0, none⟩ = some (.int .i64 ai) := fun l => Later.cell c0 ⟨l.val, l.back HB.out⟩
  have c1 : ∀ l : Later w2, l.val.cell? ⟨g, 1, none⟩ = some (.int .i64 aw) := fun l => Later.cell c1 ⟨l.val, l.back HB.out⟩
  have c2 : ∀ l : Later w2, l.val.cell? ⟨g, 2, none⟩ = some (.int .i64 bi) := fun l => Later.cell c2 ⟨l.val, l.back HB.out⟩
  have c3 : ∀ l : Later w2, l.val.cell? ⟨g, 3, none⟩ = some (.int .i64 bw) := fun l => Later.cell c3 ⟨l.val, l.back HB.out⟩
  have c4 : ∀ l : Later w2, l.val.cell? ⟨g, 4, none⟩ = some (.int .i64 ci) := fun l => Later.cell c4 ⟨l.val, l.back HB.out⟩
  have c5 : ∀ l : Later w2, l.val.cell? ⟨g, 5, none⟩ = some (.int .i64 cw) := fun l => Later.cell c5 ⟨l.val, l.back HB.out⟩
  have hfacts : ∀ W, (W = w2 ∨ W = (w2.setCell ⟨w.heap.size + 1, 0, none⟩ (.int .i64 ai)).setCell ⟨w.heap.size + 1, 1, none⟩ (.int .i64 aw)) → ∀ l : Later W, l.val.cell? ⟨g, 0, none⟩ = some (.int .i64 ai) ∧ l.val.cell? ⟨g, 1, none⟩ = some (.int .i64 aw) ∧ l.val.cell? ⟨g, 2, none⟩ = some (.int .i64 bi) ∧ l.val.cell? ⟨g, 3, none⟩ = some (.int .i64 bw) ∧ l.val.cell? ⟨g, 4, none⟩ = some (.int .i64 ci) ∧ l.val.cell? ⟨g, 5, none⟩ = some (.int .i64 cw) := by
    rintro W (rfl | rfl) l
    · exact ⟨c0 l, c1 l, c2 l, c3 l, c4 l, c5 l⟩
    · have ne : ∀ (f : Nat) (v : Value), (∀ l : Later w2, l.val.cell? ⟨g, f, none⟩ = some v) → l.val.cell? ⟨g, f, none⟩ = some v := fun f v h => Later.cell ((World.cell?_setCell_other _ _ _ _ (by intro e; simp only [Addr.mk.injEq] at e; omega)).trans ((World.cell?_setCell_other _ _ _ _ (by intro e; simp only [Addr.mk.injEq] at e; omega)).trans (h ⟨w2, Below.refl _ _⟩))) l
      exact ⟨ne _ _ c0, ne _ _ c1, ne _ _ c2, ne _ _ c3, ne _ _ c4, ne _ _ c5⟩
  have HF := Lib.hid hfacts
  clear hfacts
  refine wp_region_store' (w0 := w2) (w1 := (w2.setCell ⟨w.heap.size + 1, 0, none⟩ (.int .i64 ai)).setCell ⟨w.heap.size + 1, 1, none⟩ (.int .i64 aw)) 30 (by kernel_rfl) (by kernel_rfl) rfl (by kernel_rfl) (LaterC.refl _) ?_
  apply Exists.intro
  refine ⟨fun W hW => ?_, ?_, ?_, ?_⟩
  · have hc := HF.out W hW
    have d0 := fun l => (hc l).1; have d1 := fun l => (hc l).2.1; have d2 := fun l => (hc l).2.2.1; have d3 := fun l => (hc l).2.2.2.1; have d4 := fun l => (hc l).2.2.2.2.1; have d5 := fun l => (hc l).2.2.2.2.2
    clear hc hW
    simp only [List.take_succ_cons, List.take_zero]
    repeat (go_big_quiet_step ((go_at_call 43; exact Calls.later (l2Word_calls _ _))))
    exact wpQuiet_nil rfl
  · rfl
  · intro u
    refine ⟨(u.val.setCell ⟨w.heap.size + 1, 0, none⟩ (.int .i64 ai)).setCell ⟨w.heap.size + 1, 1, none⟩ (.int .i64 aw), ?_, u.set2 _ _ _ _⟩
    have s0 := r0 u; have s1 := r1 u; have t0 := f0 u; have t1 := f1 u
    go_simp
  · intro u
    have s0 : u.val.cell? ⟨w.heap.size + 1, 0, none⟩ = some (.int .i64 ai) := Later.cell ((World.cell?_setCell_other _ _ _ _ (by intro e; simp only [Addr.mk.injEq] at e; omega)).trans (World.cell?_setCell_same _ _ _ (r0 ⟨w2, Below.refl _ _⟩))) u
    have s1 : u.val.cell? ⟨w.heap.size + 1, 1, none⟩ = some (.int .i64 aw) := Later.cell (World.cell?_setCell_same _ _ _ ((World.cell?_setCell_other _ _ _ _ (by intro e; simp only [Addr.mk.injEq] at e; omega)).trans (r1 ⟨w2, Below.refl _ _⟩))) u
    have hbel := Lib.hid (u.back ((HB.out.setCell (p := ⟨w.heap.size + 1, 0, none⟩) (by simp) (.int .i64 ai)).setCell (p := ⟨w.heap.size + 1, 1, none⟩) (by simp) (.int .i64 aw)))
    simp only [List.drop_succ_cons, List.drop_zero]
    clear r0 r1 f0 f1
    go_wp2
    exact bodyPost_ret (v := .tuple #[.agg #[.int .i64 ai, .int .i64 aw], .bool false]) (by simp [results, Try.results63, go_sem, s0, s1]) rfl (respost_none HR.out hbel.out)
set_option maxHeartbeats 2000000 in
set_option maxRecDepth 8000 in
theorem l2Result_38_3 (n m ai aw bi bw ci cw xa xb xc xi xw : Int) (nm : ByteArray) (g cap : Nat) (w : World) (hcap : 3 ≤ cap) (c0 : w.cell? ⟨g, 0, none⟩ = some (.int .i64 ai)) (c1 : w.cell? ⟨g, 1, none⟩ = some (.int .i64 aw)) (c2 : w.cell? ⟨g, 2, none⟩ = some (.int .i64 bi)) (c3 : w.cell? ⟨g, 3, none⟩ = some (.int .i64 bw)) (c4 : w.cell? ⟨g, 4, none⟩ = some (.int .i64 ci)) (c5 : w.cell? ⟨g, 5, none⟩ = some (.int .i64 cw)) (h0 : (decide (0 < ai)) = true) (h1 : (bi == 0) = true) (h2 : (bw == ai) = true) (h3 : (ci == 0) = false) :
    Calls Try.prog 63 #[.agg #[.int .i64 38, .int .i64 xa, .int .i64 xb, .int .i64 xc, .int .i64 n, .int .i64 m, .int .i64 xi, .int .i64 xw, .string nm], .slice (some ⟨g, 0, none⟩) 3 cap] w (ResPost (resN 38 n m ai aw bi bw ci cw) w) := by
  have hlt : g < w.heap.size := World.block_lt_of_cell? _ _ c0
  have HR := Lib.hid (show resN 38 n m ai aw bi bw ci cw = none by unfold resN; simp only [h0, h1, h2, h3, Bool.and_false, Bool.false_and, Bool.true_and, Bool.and_true]; rfl)
  go_enter Try.func63, Try.ntmps63
  go_wp2
  have HB := Lib.hid (show Below w.heap.size w ((w.alloc (Obj.cells #[.int .i64 38, .int .i64 xa, .int .i64 xb, .int .i64 xc, .int .i64 n, .int .i64 m, .int .i64 xi, .int .i64 xw, .string nm] 61)).alloc (Obj.cells #[.int .i64 0, .int .i64 0] 59)) from (box_below _ _ _).alloc (by simp) _)
  have b0 : ((w.alloc (Obj.cells #[.int .i64 38, .int .i64 xa, .int .i64 xb, .int .i64 xc, .int .i64 n, .int .i64 m, .int .i64 xi, .int .i64 xw, .string nm] 61)).alloc (Obj.cells #[.int .i64 0, .int .i64 0] 59)).cell? ⟨w.heap.size, 0, none⟩ = some (.int .i64 38) := by go_simp
  have b4 : ((w.alloc (Obj.cells #[.int .i64 38, .int .i64 xa, .int .i64 xb, .int .i64 xc, .int .i64 n, .int .i64 m, .int .i64 xi, .int .i64 xw, .string nm] 61)).alloc (Obj.cells #[.int .i64 0, .int .i64 0] 59)).cell? ⟨w.heap.size, 4, none⟩ = some (.int .i64 n) := by go_simp
  have b5 : ((w.alloc (Obj.cells #[.int .i64 38, .int .i64 xa, .int .i64 xb, .int .i64 xc, .int .i64 n, .int .i64 m, .int .i64 xi, .int .i64 xw, .string nm] 61)).alloc (Obj.cells #[.int .i64 0, .int .i64 0] 59)).cell? ⟨w.heap.size, 5, none⟩ = some (.int .i64 m) := by go_simp
  have r0 : ((w.alloc (Obj.cells #[.int .i64 38, .int .i64 xa, .int .i64 xb, .int .i64 xc, .int .i64 n, .int .i64 m, .int .i64 xi, .int .i64 xw, .string nm] 61)).alloc (Obj.cells #[.int .i64 0, .int .i64 0] 59)).cell? ⟨w.heap.size + 1, 0, none⟩ = some (.int .i64 0) := by go_simp
  have f0 : ((w.alloc (Obj.cells #[.int .i64 38, .int .i64 xa, .int .i64 xb, .int .i64 xc, .int .i64 n, .int .i64 m, .int .i64 xi, .int .i64 xw, .string nm] 61)).alloc (Obj.cells #[.int .i64 0, .int .i64 0] 59)).frozen? ⟨w.heap.size + 1, 0, none⟩ = false := by go_simp
  have r1 : ((w.alloc (Obj.cells #[.int .i64 38, .int .i64 xa, .int .i64 xb, .int .i64 xc, .int .i64 n, .int .i64 m, .int .i64 xi, .int .i64 xw, .string nm] 61)).alloc (Obj.cells #[.int .i64 0, .int .i64 0] 59)).cell? ⟨w.heap.size + 1, 1, none⟩ = some (.int .i64 0) := by go_simp
  have f1 : ((w.alloc (Obj.cells #[.int .i64 38, .int .i64 xa, .int .i64 xb, .int .i64 xc, .int .i64 n, .int .i64 m, .int .i64 xi, .int .i64 xw, .string nm] 61)).alloc (Obj.cells #[.int .i64 0, .int .i64 0] 59)).frozen? ⟨w.heap.size + 1, 1, none⟩ = false := by go_simp
  generalize ((w.alloc (Obj.cells #[.int .i64 38, .int .i64 xa, .int .i64 xb, .int .i64 xc, .int .i64 n, .int .i64 m, .int .i64 xi, .int .i64 xw, .string nm] 61)).alloc (Obj.cells #[.int .i64 0, .int .i64 0] 59)) = w2 at *
  have f0 := Later.frozen f0 (World.block_lt_of_cell? _ _ r0)
  have f1 := Later.frozen f1 (World.block_lt_of_cell? _ _ r1)
  have b0 := Later.cell b0
  have b4 := Later.cell b4
  have b5 := Later.cell b5
  have r0 := Later.cell r0
  have r1 := Later.cell r1
  have c0 : ∀ l : Later w2, l.val.cell? ⟨g, 0, none⟩ = some (.int .i64 ai) := fun l => Later.cell c0 ⟨l.val, l.back HB.out⟩
  have c1 : ∀ l : Later w2, l.val.cell? ⟨g, 1, none⟩ = some (.int .i64 aw) := fun l => Later.cell c1 ⟨l.val, l.back HB.out⟩
  have c2 : ∀ l : Later w2, l.val.cell? ⟨g, 2, none⟩ = some (.int .i64 bi) := fun l => Later.cell c2 ⟨l.val, l.back HB.out⟩
  have c3 : ∀ l : Later w2, l.val.cell? ⟨g, 3, none⟩ = some (.int .i64 bw) := fun l => Later.cell c3 ⟨l.val, l.back HB.out⟩
  have c4 : ∀ l : Later w2, l.val.cell? ⟨g, 4, none⟩ = some (.int .i64 ci) := fun l => Later.cell c4 ⟨l.val, l.back HB.out⟩
  have c5 : ∀ l : Later w2, l.val.cell? ⟨g, 5, none⟩ = some (.int .i64 cw) := fun l => Later.cell c5 ⟨l.val, l.back HB.out⟩
  have hfacts : ∀ W, (W = w2 ∨ W = (w2.setCell ⟨w.heap.size + 1, 0, none⟩ (.int .i64 ai)).setCell ⟨w.heap.size + 1, 1, none⟩ (.int .i64 aw)) → ∀ l : Later W, l.val.cell? ⟨g, 0, none⟩ = some (.int .i64 ai) ∧ l.val.cell? ⟨g, 1, none⟩ = some (.int .i64 aw) ∧ l.val.cell? ⟨g, 2, none⟩ = some (.int .i64 bi) ∧ l.val.cell? ⟨g, 3, none⟩ = some (.int .i64 bw) ∧ l.val.cell? ⟨g, 4, none⟩ = some (.int .i64 ci) ∧ l.val.cell? ⟨g, 5, none⟩ = some (.int .i64 cw) := by
    rintro W (rfl | rfl) l
    · exact ⟨c0 l, c1 l, c2 l, c3 l, c4 l, c5 l⟩
    · have ne : ∀ (f : Nat) (v : Value), (∀ l : Later w2, l.val.cell? ⟨g, f, none⟩ = some v) → l.val.cell? ⟨g, f, none⟩ = some v := fun f v h => Later.cell ((World.cell?_setCell_other _ _ _ _ (by intro e; simp only [Addr.mk.injEq] at e; omega)).trans ((World.cell?_setCell_other _ _ _ _ (by intro e; simp only [Addr.mk.injEq] at e; omega)).trans (h ⟨w2, Below.refl _ _⟩))) l
      exact ⟨ne _ _ c0, ne _ _ c1, ne _ _ c2, ne _ _ c3, ne _ _ c4, ne _ _ c5⟩
  have HF := Lib.hid hfacts
  clear hfacts
  refine wp_region_store' (w0 := w2) (w1 := (w2.setCell ⟨w.heap.size + 1, 0, none⟩ (.int .i64 ai)).setCell ⟨w.heap.size + 1, 1, none⟩ (.int .i64 aw)) 30 (by kernel_rfl) (by kernel_rfl) rfl (by kernel_rfl) (LaterC.refl _) ?_
  apply Exists.intro
  refine ⟨fun W hW => ?_, ?_, ?_, ?_⟩
  · have hc := HF.out W hW
    have d0 := fun l => (hc l).1; have d1 := fun l => (hc l).2.1; have d2 := fun l => (hc l).2.2.1; have d3 := fun l => (hc l).2.2.2.1; have d4 := fun l => (hc l).2.2.2.2.1; have d5 := fun l => (hc l).2.2.2.2.2
    clear hc hW
    simp only [List.take_succ_cons, List.take_zero]
    repeat (go_big_quiet_step ((go_at_call 43; exact Calls.later (l2Word_calls _ _))))
    exact wpQuiet_nil rfl
  · rfl
  · intro u
    refine ⟨(u.val.setCell ⟨w.heap.size + 1, 0, none⟩ (.int .i64 ai)).setCell ⟨w.heap.size + 1, 1, none⟩ (.int .i64 aw), ?_, u.set2 _ _ _ _⟩
    have s0 := r0 u; have s1 := r1 u; have t0 := f0 u; have t1 := f1 u
    go_simp
  · intro u
    have s0 : u.val.cell? ⟨w.heap.size + 1, 0, none⟩ = some (.int .i64 ai) := Later.cell ((World.cell?_setCell_other _ _ _ _ (by intro e; simp only [Addr.mk.injEq] at e; omega)).trans (World.cell?_setCell_same _ _ _ (r0 ⟨w2, Below.refl _ _⟩))) u
    have s1 : u.val.cell? ⟨w.heap.size + 1, 1, none⟩ = some (.int .i64 aw) := Later.cell (World.cell?_setCell_same _ _ _ ((World.cell?_setCell_other _ _ _ _ (by intro e; simp only [Addr.mk.injEq] at e; omega)).trans (r1 ⟨w2, Below.refl _ _⟩))) u
    have hbel := Lib.hid (u.back ((HB.out.setCell (p := ⟨w.heap.size + 1, 0, none⟩) (by simp) (.int .i64 ai)).setCell (p := ⟨w.heap.size + 1, 1, none⟩) (by simp) (.int .i64 aw)))
    simp only [List.drop_succ_cons, List.drop_zero]
    clear r0 r1 f0 f1
    go_wp2
    exact bodyPost_ret (v := .tuple #[.agg #[.int .i64 ai, .int .i64 aw], .bool false]) (by simp [results, Try.results63, go_sem, s0, s1]) rfl (respost_none HR.out hbel.out)
set_option maxHeartbeats 2000000 in
set_option maxRecDepth 8000 in
theorem l2Result_38_4 (n m ai aw bi bw ci cw xa xb xc xi xw : Int) (nm : ByteArray) (g cap : Nat) (w : World) (hcap : 3 ≤ cap) (c0 : w.cell? ⟨g, 0, none⟩ = some (.int .i64 ai)) (c1 : w.cell? ⟨g, 1, none⟩ = some (.int .i64 aw)) (c2 : w.cell? ⟨g, 2, none⟩ = some (.int .i64 bi)) (c3 : w.cell? ⟨g, 3, none⟩ = some (.int .i64 bw)) (c4 : w.cell? ⟨g, 4, none⟩ = some (.int .i64 ci)) (c5 : w.cell? ⟨g, 5, none⟩ = some (.int .i64 cw)) (h0 : (decide (0 < ai)) = true) (h1 : (bi == 0) = true) (h2 : (bw == ai) = true) (h3 : (ci == 0) = true) (h4 : (cw == aw) = false) :
    Calls Try.prog 63 #[.agg #[.int .i64 38, .int .i64 xa, .int .i64 xb, .int .i64 xc, .int .i64 n, .int .i64 m, .int .i64 xi, .int .i64 xw, .string nm], .slice (some ⟨g, 0, none⟩) 3 cap] w (ResPost (resN 38 n m ai aw bi bw ci cw) w) := by
  have hlt : g < w.heap.size := World.block_lt_of_cell? _ _ c0
  have HR := Lib.hid (show resN 38 n m ai aw bi bw ci cw = none by unfold resN; simp only [h0, h1, h2, h3, h4, Bool.and_false, Bool.false_and, Bool.true_and, Bool.and_true]; rfl)
  go_enter Try.func63, Try.ntmps63
  go_wp2
  have HB := Lib.hid (show Below w.heap.size w ((w.alloc (Obj.cells #[.int .i64 38, .int .i64 xa, .int .i64 xb, .int .i64 xc, .int .i64 n, .int .i64 m, .int .i64 xi, .int .i64 xw, .string nm] 61)).alloc (Obj.cells #[.int .i64 0, .int .i64 0] 59)) from (box_below _ _ _).alloc (by simp) _)
  have b0 : ((w.alloc (Obj.cells #[.int .i64 38, .int .i64 xa, .int .i64 xb, .int .i64 xc, .int .i64 n, .int .i64 m, .int .i64 xi, .int .i64 xw, .string nm] 61)).alloc (Obj.cells #[.int .i64 0, .int .i64 0] 59)).cell? ⟨w.heap.size, 0, none⟩ = some (.int .i64 38) := by go_simp
  have b4 : ((w.alloc (Obj.cells #[.int .i64 38, .int .i64 xa, .int .i64 xb, .int .i64 xc, .int .i64 n, .int .i64 m, .int .i64 xi, .int .i64 xw, .string nm] 61)).alloc (Obj.cells #[.int .i64 0, .int .i64 0] 59)).cell? ⟨w.heap.size, 4, none⟩ = some (.int .i64 n) := by go_simp
  have b5 : ((w.alloc (Obj.cells #[.int .i64 38, .int .i64 xa, .int .i64 xb, .int .i64 xc, .int .i64 n, .int .i64 m, .int .i64 xi, .int .i64 xw, .string nm] 61)).alloc (Obj.cells #[.int .i64 0, .int .i64 0] 59)).cell? ⟨w.heap.size, 5, none⟩ = some (.int .i64 m) := by go_simp
  have r0 : ((w.alloc (Obj.cells #[.int .i64 38, .int .i64 xa, .int .i64 xb, .int .i64 xc, .int .i64 n, .int .i64 m, .int .i64 xi, .int .i64 xw, .string nm] 61)).alloc (Obj.cells #[.int .i64 0, .int .i64 0] 59)).cell? ⟨w.heap.size + 1, 0, none⟩ = some (.int .i64 0) := by go_simp
  have f0 : ((w.alloc (Obj.cells #[.int .i64 38, .int .i64 xa, .int .i64 xb, .int .i64 xc, .int .i64 n, .int .i64 m, .int .i64 xi, .int .i64 xw, .string nm] 61)).alloc (Obj.cells #[.int .i64 0, .int .i64 0] 59)).frozen? ⟨w.heap.size + 1, 0, none⟩ = false := by go_simp
  have r1 : ((w.alloc (Obj.cells #[.int .i64 38, .int .i64 xa, .int .i64 xb, .int .i64 xc, .int .i64 n, .int .i64 m, .int .i64 xi, .int .i64 xw, .string nm] 61)).alloc (Obj.cells #[.int .i64 0, .int .i64 0] 59)).cell? ⟨w.heap.size + 1, 1, none⟩ = some (.int .i64 0) := by go_simp
  have f1 : ((w.alloc (Obj.cells #[.int .i64 38, .int .i64 xa, .int .i64 xb, .int .i64 xc, .int .i64 n, .int .i64 m, .int .i64 xi, .int .i64 xw, .string nm] 61)).alloc (Obj.cells #[.int .i64 0, .int .i64 0] 59)).frozen? ⟨w.heap.size + 1, 1, none⟩ = false := by go_simp
  generalize ((w.alloc (Obj.cells #[.int .i64 38, .int .i64 xa, .int .i64 xb, .int .i64 xc, .int .i64 n, .int .i64 m, .int .i64 xi, .int .i64 xw, .string nm] 61)).alloc (Obj.cells #[.int .i64 0, .int .i64 0] 59)) = w2 at *
  have f0 := Later.frozen f0 (World.block_lt_of_cell? _ _ r0)
  have f1 := Later.frozen f1 (World.block_lt_of_cell? _ _ r1)
  have b0 := Later.cell b0
  have b4 := Later.cell b4
  have b5 := Later.cell b5
  have r0 := Later.cell r0
  have r1 := Later.cell r1
  have c0 : ∀ l : Later w2, l.val.cell? ⟨g, 0, none⟩ = some (.int .i64 ai) := fun l => Later.cell c0 ⟨l.val, l.back HB.out⟩
  have c1 : ∀ l : Later w2, l.val.cell? ⟨g, 1, none⟩ = some (.int .i64 aw) := fun l => Later.cell c1 ⟨l.val, l.back HB.out⟩
  have c2 : ∀ l : Later w2, l.val.cell? ⟨g, 2, none⟩ = some (.int .i64 bi) := fun l => Later.cell c2 ⟨l.val, l.back HB.out⟩
  have c3 : ∀ l : Later w2, l.val.cell? ⟨g, 3, none⟩ = some (.int .i64 bw) := fun l => Later.cell c3 ⟨l.val, l.back HB.out⟩
  have c4 : ∀ l : Later w2, l.val.cell? ⟨g, 4, none⟩ = some (.int .i64 ci) := fun l => Later.cell c4 ⟨l.val, l.back HB.out⟩
  have c5 : ∀ l : Later w2, l.val.cell? ⟨g, 5, none⟩ = some (.int .i64 cw) := fun l => Later.cell c5 ⟨l.val, l.back HB.out⟩
  have hfacts : ∀ W, (W = w2 ∨ W = (w2.setCell ⟨w.heap.size + 1, 0, none⟩ (.int .i64 ai)).setCell ⟨w.heap.size + 1, 1, none⟩ (.int .i64 aw)) → ∀ l : Later W, l.val.cell? ⟨g, 0, none⟩ = some (.int .i64 ai) ∧ l.val.cell? ⟨g, 1, none⟩ = some (.int .i64 aw) ∧ l.val.cell? ⟨g, 2, none⟩ = some (.int .i64 bi) ∧ l.val.cell? ⟨g, 3, none⟩ = some (.int .i64 bw) ∧ l.val.cell? ⟨g, 4, none⟩ = some (.int .i64 ci) ∧ l.val.cell? ⟨g, 5, none⟩ = some (.int .i64 cw) := by
    rintro W (rfl | rfl) l
    · exact ⟨c0 l, c1 l, c2 l, c3 l, c4 l, c5 l⟩
    · have ne : ∀ (f : Nat) (v : Value), (∀ l : Later w2, l.val.cell? ⟨g, f, none⟩ = some v) → l.val.cell? ⟨g, f, none⟩ = some v := fun f v h => Later.cell ((World.cell?_setCell_other _ _ _ _ (by intro e; simp only [Addr.mk.injEq] at e; omega)).trans ((World.cell?_setCell_other _ _ _ _ (by intro e; simp only [Addr.mk.injEq] at e; omega)).trans (h ⟨w2, Below.refl _ _⟩))) l
      exact ⟨ne _ _ c0, ne _ _ c1, ne _ _ c2, ne _ _ c3, ne _ _ c4, ne _ _ c5⟩
  have HF := Lib.hid hfacts
  clear hfacts
  refine wp_region_store' (w0 := w2) (w1 := (w2.setCell ⟨w.heap.size + 1, 0, none⟩ (.int .i64 ai)).setCell ⟨w.heap.size + 1, 1, none⟩ (.int .i64 aw)) 30 (by kernel_rfl) (by kernel_rfl) rfl (by kernel_rfl) (LaterC.refl _) ?_
  apply Exists.intro
  refine ⟨fun W hW => ?_, ?_, ?_, ?_⟩
  · have hc := HF.out W hW
    have d0 := fun l => (hc l).1; have d1 := fun l => (hc l).2.1; have d2 := fun l => (hc l).2.2.1; have d3 := fun l => (hc l).2.2.2.1; have d4 := fun l => (hc l).2.2.2.2.1; have d5 := fun l => (hc l).2.2.2.2.2
    clear hc hW
    simp only [List.take_succ_cons, List.take_zero]
    repeat (go_big_quiet_step ((go_at_call 43; exact Calls.later (l2Word_calls _ _))))
    exact wpQuiet_nil rfl
  · rfl
  · intro u
    refine ⟨(u.val.setCell ⟨w.heap.size + 1, 0, none⟩ (.int .i64 ai)).setCell ⟨w.heap.size + 1, 1, none⟩ (.int .i64 aw), ?_, u.set2 _ _ _ _⟩
    have s0 := r0 u; have s1 := r1 u; have t0 := f0 u; have t1 := f1 u
    go_simp
  · intro u
    have s0 : u.val.cell? ⟨w.heap.size + 1, 0, none⟩ = some (.int .i64 ai) := Later.cell ((World.cell?_setCell_other _ _ _ _ (by intro e; simp only [Addr.mk.injEq] at e; omega)).trans (World.cell?_setCell_same _ _ _ (r0 ⟨w2, Below.refl _ _⟩))) u
    have s1 : u.val.cell? ⟨w.heap.size + 1, 1, none⟩ = some (.int .i64 aw) := Later.cell (World.cell?_setCell_same _ _ _ ((World.cell?_setCell_other _ _ _ _ (by intro e; simp only [Addr.mk.injEq] at e; omega)).trans (r1 ⟨w2, Below.refl _ _⟩))) u
    have hbel := Lib.hid (u.back ((HB.out.setCell (p := ⟨w.heap.size + 1, 0, none⟩) (by simp) (.int .i64 ai)).setCell (p := ⟨w.heap.size + 1, 1, none⟩) (by simp) (.int .i64 aw)))
    simp only [List.drop_succ_cons, List.drop_zero]
    clear r0 r1 f0 f1
    go_wp2
    exact bodyPost_ret (v := .tuple #[.agg #[.int .i64 ai, .int .i64 aw], .bool false]) (by simp [results, Try.results63, go_sem, s0, s1]) rfl (respost_none HR.out hbel.out)
set_option maxHeartbeats 2000000 in
set_option maxRecDepth 8000 in
theorem l2Result_38_5 (n m ai aw bi bw ci cw xa xb xc xi xw : Int) (nm : ByteArray) (g cap : Nat) (w : World) (hcap : 3 ≤ cap) (c0 : w.cell? ⟨g, 0, none⟩ = some (.int .i64 ai)) (c1 : w.cell? ⟨g, 1, none⟩ = some (.int .i64 aw)) (c2 : w.cell? ⟨g, 2, none⟩ = some (.int .i64 bi)) (c3 : w.cell? ⟨g, 3, none⟩ = some (.int .i64 bw)) (c4 : w.cell? ⟨g, 4, none⟩ = some (.int .i64 ci)) (c5 : w.cell? ⟨g, 5, none⟩ = some (.int .i64 cw)) (h0 : (decide (0 < ai)) = true) (h1 : (bi == 0) = true) (h2 : (bw == ai) = true) (h3 : (ci == 0) = true) (h4 : (cw == aw) = true) :
    Calls Try.prog 63 #[.agg #[.int .i64 38, .int .i64 xa, .int .i64 xb, .int .i64 xc, .int .i64 n, .int .i64 m, .int .i64 xi, .int .i64 xw, .string nm], .slice (some ⟨g, 0, none⟩) 3 cap] w (ResPost (resN 38 n m ai aw bi bw ci cw) w) := by
  have hlt : g < w.heap.size := World.block_lt_of_cell? _ _ c0
  have HR := Lib.hid (show resN 38 n m ai aw bi bw ci cw = some (ai, aw) by unfold resN; simp only [h0, h1, h2, h3, h4]; rfl)
  go_enter Try.func63, Try.ntmps63
  go_wp2
  have HB := Lib.hid (show Below w.heap.size w ((w.alloc (Obj.cells #[.int .i64 38, .int .i64 xa, .int .i64 xb, .int .i64 xc, .int .i64 n, .int .i64 m, .int .i64 xi, .int .i64 xw, .string nm] 61)).alloc (Obj.cells #[.int .i64 0, .int .i64 0] 59)) from (box_below _ _ _).alloc (by simp) _)
  have b0 : ((w.alloc (Obj.cells #[.int .i64 38, .int .i64 xa, .int .i64 xb, .int .i64 xc, .int .i64 n, .int .i64 m, .int .i64 xi, .int .i64 xw, .string nm] 61)).alloc (Obj.cells #[.int .i64 0, .int .i64 0] 59)).cell? ⟨w.heap.size, 0, none⟩ = some (.int .i64 38) := by go_simp
  have b4 : ((w.alloc (Obj.cells #[.int .i64 38, .int .i64 xa, .int .i64 xb, .int .i64 xc, .int .i64 n, .int .i64 m, .int .i64 xi, .int .i64 xw, .string nm] 61)).alloc (Obj.cells #[.int .i64 0, .int .i64 0] 59)).cell? ⟨w.heap.size, 4, none⟩ = some (.int .i64 n) := by go_simp
  have b5 : ((w.alloc (Obj.cells #[.int .i64 38, .int .i64 xa, .int .i64 xb, .int .i64 xc, .int .i64 n, .int .i64 m, .int .i64 xi, .int .i64 xw, .string nm] 61)).alloc (Obj.cells #[.int .i64 0, .int .i64 0] 59)).cell? ⟨w.heap.size, 5, none⟩ = some (.int .i64 m) := by go_simp
  have r0 : ((w.alloc (Obj.cells #[.int .i64 38, .int .i64 xa, .int .i64 xb, .int .i64 xc, .int .i64 n, .int .i64 m, .int .i64 xi, .int .i64 xw, .string nm] 61)).alloc (Obj.cells #[.int .i64 0, .int .i64 0] 59)).cell? ⟨w.heap.size + 1, 0, none⟩ = some (.int .i64 0) := by go_simp
  have f0 : ((w.alloc (Obj.cells #[.int .i64 38, .int .i64 xa, .int .i64 xb, .int .i64 xc, .int .i64 n, .int .i64 m, .int .i64 xi, .int .i64 xw, .string nm] 61)).alloc (Obj.cells #[.int .i64 0, .int .i64 0] 59)).frozen? ⟨w.heap.size + 1, 0, none⟩ = false := by go_simp
  have r1 : ((w.alloc (Obj.cells #[.int .i64 38, .int .i64 xa, .int .i64 xb, .int .i64 xc, .int .i64 n, .int .i64 m, .int .i64 xi, .int .i64 xw, .string nm] 61)).alloc (Obj.cells #[.int .i64 0, .int .i64 0] 59)).cell? ⟨w.heap.size + 1, 1, none⟩ = some (.int .i64 0) := by go_simp
  have f1 : ((w.alloc (Obj.cells #[.int .i64 38, .int .i64 xa, .int .i64 xb, .int .i64 xc, .int .i64 n, .int .i64 m, .int .i64 xi, .int .i64 xw, .string nm] 61)).alloc (Obj.cells #[.int .i64 0, .int .i64 0] 59)).frozen? ⟨w.heap.size + 1, 1, none⟩ = false := by go_simp
  generalize ((w.alloc (Obj.cells #[.int .i64 38, .int .i64 xa, .int .i64 xb, .int .i64 xc, .int .i64 n, .int .i64 m, .int .i64 xi, .int .i64 xw, .string nm] 61)).alloc (Obj.cells #[.int .i64 0, .int .i64 0] 59)) = w2 at *
  have f0 := Later.frozen f0 (World.block_lt_of_cell? _ _ r0)
  have f1 := Later.frozen f1 (World.block_lt_of_cell? _ _ r1)
  have b0 := Later.cell b0
  have b4 := Later.cell b4
  have b5 := Later.cell b5
  have r0 := Later.cell r0
  have r1 := Later.cell r1
  have c0 : ∀ l : Later w2, l.val.cell? ⟨g, 0, none⟩ = some (.int .i64 ai) := fun l => Later.cell c0 ⟨l.val, l.back HB.out⟩
  have c1 : ∀ l : Later w2, l.val.cell? ⟨g, 1, none⟩ = some (.int .i64 aw) := fun l => Later.cell c1 ⟨l.val, l.back HB.out⟩
  have c2 : ∀ l : Later w2, l.val.cell? ⟨g, 2, none⟩ = some (.int .i64 bi) := fun l => Later.cell c2 ⟨l.val, l.back HB.out⟩
  have c3 : ∀ l : Later w2, l.val.cell? ⟨g, 3, none⟩ = some (.int .i64 bw) := fun l => Later.cell c3 ⟨l.val, l.back HB.out⟩
  have c4 : ∀ l : Later w2, l.val.cell? ⟨g, 4, none⟩ = some (.int .i64 ci) := fun l => Later.cell c4 ⟨l.val, l.back HB.out⟩
  have c5 : ∀ l : Later w2, l.val.cell? ⟨g, 5, none⟩ = some (.int .i64 cw) := fun l => Later.cell c5 ⟨l.val, l.back HB.out⟩
  have hfacts : ∀ W, (W = w2 ∨ W = (w2.setCell ⟨w.heap.size + 1, 0, none⟩ (.int .i64 ai)).setCell ⟨w.heap.size + 1, 1, none⟩ (.int .i64 aw)) → ∀ l : Later W, l.val.cell? ⟨g, 0, none⟩ = some (.int .i64 ai) ∧ l.val.cell? ⟨g, 1, none⟩ = some (.int .i64 aw) ∧ l.val.cell? ⟨g, 2, none⟩ = some (.int .i64 bi) ∧ l.val.cell? ⟨g, 3, none⟩ = some (.int .i64 bw) ∧ l.val.cell? ⟨g, 4, none⟩ = some (.int .i64 ci) ∧ l.val.cell? ⟨g, 5, none⟩ = some (.int .i64 cw) := by
    rintro W (rfl | rfl) l
    · exact ⟨c0 l, c1 l, c2 l, c3 l, c4 l, c5 l⟩
    · have ne : ∀ (f : Nat) (v : Value), (∀ l : Later w2, l.val.cell? ⟨g, f, none⟩ = some v) → l.val.cell? ⟨g, f, none⟩ = some v := fun f v h => Later.cell ((World.cell?_setCell_other _ _ _ _ (by intro e; simp only [Addr.mk.injEq] at e; omega)).trans ((World.cell?_setCell_other _ _ _ _ (by intro e; simp only [Addr.mk.injEq] at e; omega)).trans (h ⟨w2, Below.refl _ _⟩))) l
      exact ⟨ne _ _ c0, ne _ _ c1, ne _ _ c2, ne _ _ c3, ne _ _ c4, ne _ _ c5⟩
  have HF := Lib.hid hfacts
  clear hfacts
  refine wp_region_store' (w0 := w2) (w1 := (w2.setCell ⟨w.heap.size + 1, 0, none⟩ (.int .i64 ai)).setCell ⟨w.heap.size + 1, 1, none⟩ (.int .i64 aw)) 30 (by kernel_rfl) (by kernel_rfl) rfl (by kernel_rfl) (LaterC.refl _) ?_
  apply Exists.intro
  refine ⟨fun W hW => ?_, ?_, ?_, ?_⟩
  · have hc := HF.out W hW
    have d0 := fun l => (hc l).1; have d1 := fun l => (hc l).2.1; have d2 := fun l => (hc l).2.2.1; have d3 := fun l => (hc l).2.2.2.1; have d4 := fun l => (hc l).2.2.2.2.1; have d5 := fun l => (hc l).2.2.2.2.2
    clear hc hW
    simp only [List.take_succ_cons, List.take_zero]
    repeat (go_big_quiet_step ((go_at_call 43; exact Calls.later (l2Word_calls _ _))))
    exact wpQuiet_nil rfl
  · rfl
  · intro u
    refine ⟨(u.val.setCell ⟨w.heap.size + 1, 0, none⟩ (.int .i64 ai)).setCell ⟨w.heap.size + 1, 1, none⟩ (.int .i64 aw), ?_, u.set2 _ _ _ _⟩
    have s0 := r0 u; have s1 := r1 u; have t0 := f0 u; have t1 := f1 u
    go_simp
  · intro u
    have s0 : u.val.cell? ⟨w.heap.size + 1, 0, none⟩ = some (.int .i64 ai) := Later.cell ((World.cell?_setCell_other _ _ _ _ (by intro e; simp only [Addr.mk.injEq] at e; omega)).trans (World.cell?_setCell_same _ _ _ (r0 ⟨w2, Below.refl _ _⟩))) u
    have s1 : u.val.cell? ⟨w.heap.size + 1, 1, none⟩ = some (.int .i64 aw) := Later.cell (World.cell?_setCell_same _ _ _ ((World.cell?_setCell_other _ _ _ _ (by intro e; simp only [Addr.mk.injEq] at e; omega)).trans (r1 ⟨w2, Below.refl _ _⟩))) u
    have hbel := Lib.hid (u.back ((HB.out.setCell (p := ⟨w.heap.size + 1, 0, none⟩) (by simp) (.int .i64 ai)).setCell (p := ⟨w.heap.size + 1, 1, none⟩) (by simp) (.int .i64 aw)))
    simp only [List.drop_succ_cons, List.drop_zero]
    clear r0 r1 f0 f1
    go_wp2
    exact bodyPost_ret (v := .tuple #[.agg #[.int .i64 ai, .int .i64 aw], .bool true]) (by simp [results, Try.results63, go_sem, s0, s1]) rfl (respost_some HR.out hbel.out)
theorem l2Result_38 (n m ai aw bi bw ci cw xa xb xc xi xw : Int) (nm : ByteArray) (g cap : Nat) (w : World) (hcap : 3 ≤ cap) (c0 : w.cell? ⟨g, 0, none⟩ = some (.int .i64 ai)) (c1 : w.cell? ⟨g, 1, none⟩ = some (.int .i64 aw)) (c2 : w.cell? ⟨g, 2, none⟩ = some (.int .i64 bi)) (c3 : w.cell? ⟨g, 3, none⟩ = some (.int .i64 bw)) (c4 : w.cell? ⟨g, 4, none⟩ = some (.int .i64 ci)) (c5 : w.cell? ⟨g, 5, none⟩ = some (.int .i64 cw)) :
    Calls Try.prog 63 #[.agg #[.int .i64 38, .int .i64 xa, .int .i64 xb, .int .i64 xc, .int .i64 n, .int .i64 m, .int .i64 xi, .int .i64 xw, .string nm], .slice (some ⟨g, 0, none⟩) 3 cap] w (ResPost (resN 38 n m ai aw bi bw ci cw) w) := by
  by_cases h0 : (decide (0 < ai)) = true
  rotate_left
  · exact l2Result_38_0 n m ai aw bi bw ci cw xa xb xc xi xw nm g cap w hcap c0 c1 c2 c3 c4 c5  (eq_false_of_ne_true h0)
  by_cases h1 : (bi == 0) = true
  rotate_left
  · exact l2Result_38_1 n m ai aw bi bw ci cw xa xb xc xi xw nm g cap w hcap c0 c1 c2 c3 c4 c5 h0 (eq_false_of_ne_true h1)
  by_cases h2 : (bw == ai) = true
  rotate_left
  · exact l2Result_38_2 n m ai aw bi bw ci cw xa xb xc xi xw nm g cap w hcap c0 c1 c2 c3 c4 c5 h0 h1 (eq_false_of_ne_true h2)
  by_cases h3 : (ci == 0) = true
  rotate_left
  · exact l2Result_38_3 n m ai aw bi bw ci cw xa xb xc xi xw nm g cap w hcap c0 c1 c2 c3 c4 c5 h0 h1 h2 (eq_false_of_ne_true h3)
  by_cases h4 : (cw == aw) = true
  rotate_left
  · exact l2Result_38_4 n m ai aw bi bw ci cw xa xb xc xi xw nm g cap w hcap c0 c1 c2 c3 c4 c5 h0 h1 h2 h3 (eq_false_of_ne_true h4)
  exact l2Result_38_5 n m ai aw bi bw ci cw xa xb xc xi xw nm g cap w hcap c0 c1 c2 c3 c4 c5 h0 h1 h2 h3 h4
set_option maxHeartbeats 2000000 in
set_option maxRecDepth 8000 in
theorem l2Result_21_0 (n m ai aw bi bw ci cw xa xb xc xi xw : Int) (nm : ByteArray) (g cap : Nat) (w : World) (hcap : 2 ≤ cap) (c0 : w.cell? ⟨g, 0, none⟩ = some (.int .i64 ai)) (c1 : w.cell? ⟨g, 1, none⟩ = some (.int .i64 aw)) (c2 : w.cell? ⟨g, 2, none⟩ = some (.int .i64 bi)) (c3 : w.cell? ⟨g, 3, none⟩ = some (.int .i64 bw)) (h0 : (ai == bi) = false) :
    Calls Try.prog 63 #[.agg #[.int .i64 21, .int .i64 xa, .int .i64 xb, .int .i64 xc, .int .i64 n, .int .i64 m, .int .i64 xi, .int .i64 xw, .string nm], .slice (some ⟨g, 0, none⟩) 2 cap] w (ResPost (resN 21 n m ai aw bi bw ci cw) w) := by
  have hlt : g < w.heap.size := World.block_lt_of_cell? _ _ c0
  have HR := Lib.hid (show resN 21 n m ai aw bi bw ci cw = none by unfold resN; simp only [h0, Bool.and_false, Bool.false_and, Bool.true_and, Bool.and_true]; rfl)
  go_enter Try.func63, Try.ntmps63
  go_wp2
  have HB := Lib.hid (show Below w.heap.size w ((w.alloc (Obj.cells #[.int .i64 21, .int .i64 xa, .int .i64 xb, .int .i64 xc, .int .i64 n, .int .i64 m, .int .i64 xi, .int .i64 xw, .string nm] 61)).alloc (Obj.cells #[.int .i64 0, .int .i64 0] 59)) from (box_below _ _ _).alloc (by simp) _)
  have b0 : ((w.alloc (Obj.cells #[.int .i64 21, .int .i64 xa, .int .i64 xb, .int .i64 xc, .int .i64 n, .int .i64 m, .int .i64 xi, .int .i64 xw, .string nm] 61)).alloc (Obj.cells #[.int .i64 0, .int .i64 0] 59)).cell? ⟨w.heap.size, 0, none⟩ = some (.int .i64 21) := by go_simp
  have b4 : ((w.alloc (Obj.cells #[.int .i64 21, .int .i64 xa, .int .i64 xb, .int .i64 xc, .int .i64 n, .int .i64 m, .int .i64 xi, .int .i64 xw, .string nm] 61)).alloc (Obj.cells #[.int .i64 0, .int .i64 0] 59)).cell? ⟨w.heap.size, 4, none⟩ = some (.int .i64 n) := by go_simp
  have b5 : ((w.alloc (Obj.cells #[.int .i64 21, .int .i64 xa, .int .i64 xb, .int .i64 xc, .int .i64 n, .int .i64 m, .int .i64 xi, .int .i64 xw, .string nm] 61)).alloc (Obj.cells #[.int .i64 0, .int .i64 0] 59)).cell? ⟨w.heap.size, 5, none⟩ = some (.int .i64 m) := by go_simp
  have r0 : ((w.alloc (Obj.cells #[.int .i64 21, .int .i64 xa, .int .i64 xb, .int .i64 xc, .int .i64 n, .int .i64 m, .int .i64 xi, .int .i64 xw, .string nm] 61)).alloc (Obj.cells #[.int .i64 0, .int .i64 0] 59)).cell? ⟨w.heap.size + 1, 0, none⟩ = some (.int .i64 0) := by go_simp
  have f0 : ((w.alloc (Obj.cells #[.int .i64 21, .int .i64 xa, .int .i64 xb, .int .i64 xc, .int .i64 n, .int .i64 m, .int .i64 xi, .int .i64 xw, .string nm] 61)).alloc (Obj.cells #[.int .i64 0, .int .i64 0] 59)).frozen? ⟨w.heap.size + 1, 0, none⟩ = false := by go_simp
  have r1 : ((w.alloc (Obj.cells #[.int .i64 21, .int .i64 xa, .int .i64 xb, .int .i64 xc, .int .i64 n, .int .i64 m, .int .i64 xi, .int .i64 xw, .string nm] 61)).alloc (Obj.cells #[.int .i64 0, .int .i64 0] 59)).cell? ⟨w.heap.size + 1, 1, none⟩ = some (.int .i64 0) := by go_simp
  have f1 : ((w.alloc (Obj.cells #[.int .i64 21, .int .i64 xa, .int .i64 xb, .int .i64 xc, .int .i64 n, .int .i64 m, .int .i64 xi, .int .i64 xw, .string nm] 61)).alloc (Obj.cells #[.int .i64 0, .int .i64 0] 59)).frozen? ⟨w.heap.size + 1, 1, none⟩ = false := by go_simp
  generalize ((w.alloc (Obj.cells #[.int .i64 21, .int .i64 xa, .int .i64 xb, .int .i64 xc, .int .i64 n, .int .i64 m, .int .i64 xi, .int .i64 xw, .string nm] 61)).alloc (Obj.cells #[.int .i64 0, .int .i64 0] 59)) = w2 at *
  have f0 := Later.frozen f0 (World.block_lt_of_cell? _ _ r0)
  have f1 := Later.frozen f1 (World.block_lt_of_cell? _ _ r1)
  have b0 := Later.cell b0
  have b4 := Later.cell b4
  have b5 := Later.cell b5
  have r0 := Later.cell r0
  have r1 := Later.cell r1
  have c0 : ∀ l : Later w2, l.val.cell? ⟨g, 0, none⟩ = some (.int .i64 ai) := fun l => Later.cell c0 ⟨l.val, l.back HB.out⟩
  have c1 : ∀ l : Later w2, l.val.cell? ⟨g, 1, none⟩ = some (.int .i64 aw) := fun l => Later.cell c1 ⟨l.val, l.back HB.out⟩
  have c2 : ∀ l : Later w2, l.val.cell? ⟨g, 2, none⟩ = some (.int .i64 bi) := fun l => Later.cell c2 ⟨l.val, l.back HB.out⟩
  have c3 : ∀ l : Later w2, l.val.cell? ⟨g, 3, none⟩ = some (.int .i64 bw) := fun l => Later.cell c3 ⟨l.val, l.back HB.out⟩
  have hfacts : ∀ W, (W = w2 ∨ W = (w2.setCell ⟨w.heap.size + 1, 0, none⟩ (.int .i64 0)).setCell ⟨w.heap.size + 1, 1, none⟩ (.int .i64 1)) → ∀ l : Later W, l.val.cell? ⟨g, 0, none⟩ = some (.int .i64 ai) ∧ l.val.cell? ⟨g, 1, none⟩ = some (.int .i64 aw) ∧ l.val.cell? ⟨g, 2, none⟩ = some (.int .i64 bi) ∧ l.val.cell? ⟨g, 3, none⟩ = some (.int .i64 bw) := by
    rintro W (rfl | rfl) l
    · exact ⟨c0 l, c1 l, c2 l, c3 l⟩
    · have ne : ∀ (f : Nat) (v : Value), (∀ l : Later w2, l.val.cell? ⟨g, f, none⟩ = some v) → l.val.cell? ⟨g, f, none⟩ = some v := fun f v h => Later.cell ((World.cell?_setCell_other _ _ _ _ (by intro e; simp only [Addr.mk.injEq] at e; omega)).trans ((World.cell?_setCell_other _ _ _ _ (by intro e; simp only [Addr.mk.injEq] at e; omega)).trans (h ⟨w2, Below.refl _ _⟩))) l
      exact ⟨ne _ _ c0, ne _ _ c1, ne _ _ c2, ne _ _ c3⟩
  have HF := Lib.hid hfacts
  clear hfacts
  refine wp_region_store' (w0 := w2) (w1 := (w2.setCell ⟨w.heap.size + 1, 0, none⟩ (.int .i64 0)).setCell ⟨w.heap.size + 1, 1, none⟩ (.int .i64 1)) 8 (by kernel_rfl) (by kernel_rfl) rfl (by kernel_rfl) (LaterC.refl _) ?_
  apply Exists.intro
  refine ⟨fun W hW => ?_, ?_, ?_, ?_⟩
  · have hc := HF.out W hW
    have d0 := fun l => (hc l).1; have d1 := fun l => (hc l).2.1; have d2 := fun l => (hc l).2.2.1; have d3 := fun l => (hc l).2.2.2
    clear hc hW
    simp only [List.take_succ_cons, List.take_zero]
    repeat (go_big_quiet_step ((go_at_call 43; exact Calls.later (l2Word_calls _ _))))
    exact wpQuiet_nil rfl
  · rfl
  · intro u
    refine ⟨(u.val.setCell ⟨w.heap.size + 1, 0, none⟩ (.int .i64 0)).setCell ⟨w.heap.size + 1, 1, none⟩ (.int .i64 1), ?_, u.set2 _ _ _ _⟩
    have s0 := r0 u; have s1 := r1 u; have t0 := f0 u; have t1 := f1 u
    go_simp
  · intro u
    have s0 : u.val.cell? ⟨w.heap.size + 1, 0, none⟩ = some (.int .i64 0) := Later.cell ((World.cell?_setCell_other _ _ _ _ (by intro e; simp only [Addr.mk.injEq] at e; omega)).trans (World.cell?_setCell_same _ _ _ (r0 ⟨w2, Below.refl _ _⟩))) u
    have s1 : u.val.cell? ⟨w.heap.size + 1, 1, none⟩ = some (.int .i64 1) := Later.cell (World.cell?_setCell_same _ _ _ ((World.cell?_setCell_other _ _ _ _ (by intro e; simp only [Addr.mk.injEq] at e; omega)).trans (r1 ⟨w2, Below.refl _ _⟩))) u
    have hbel := Lib.hid (u.back ((HB.out.setCell (p := ⟨w.heap.size + 1, 0, none⟩) (by simp) (.int .i64 0)).setCell (p := ⟨w.heap.size + 1, 1, none⟩) (by simp) (.int .i64 1)))
    simp only [List.drop_succ_cons, List.drop_zero]
    clear r0 r1 f0 f1
    go_wp2
    exact bodyPost_ret (v := .tuple #[.agg #[.int .i64 0, .int .i64 1], .bool false]) (by simp [results, Try.results63, go_sem, s0, s1]) rfl (respost_none HR.out hbel.out)
set_option maxHeartbeats 2000000 in
set_option maxRecDepth 8000 in
theorem l2Result_21_1 (n m ai aw bi bw ci cw xa xb xc xi xw : Int) (nm : ByteArray) (g cap : Nat) (w : World) (hcap : 2 ≤ cap) (c0 : w.cell? ⟨g, 0, none⟩ = some (.int .i64 ai)) (c1 : w.cell? ⟨g, 1, none⟩ = some (.int .i64 aw)) (c2 : w.cell? ⟨g, 2, none⟩ = some (.int .i64 bi)) (c3 : w.cell? ⟨g, 3, none⟩ = some (.int .i64 bw)) (h0 : (ai == bi) = true) (h1 : (aw == bw) = false) :
    Calls Try.prog 63 #[.agg #[.int .i64 21, .int .i64 xa, .int .i64 xb, .int .i64 xc, .int .i64 n, .int .i64 m, .int .i64 xi, .int .i64 xw, .string nm], .slice (some ⟨g, 0, none⟩) 2 cap] w (ResPost (resN 21 n m ai aw bi bw ci cw) w) := by
  have hlt : g < w.heap.size := World.block_lt_of_cell? _ _ c0
  have HR := Lib.hid (show resN 21 n m ai aw bi bw ci cw = none by unfold resN; simp only [h0, h1, Bool.and_false, Bool.false_and, Bool.true_and, Bool.and_true]; rfl)
  go_enter Try.func63, Try.ntmps63
  go_wp2
  have HB := Lib.hid (show Below w.heap.size w ((w.alloc (Obj.cells #[.int .i64 21, .int .i64 xa, .int .i64 xb, .int .i64 xc, .int .i64 n, .int .i64 m, .int .i64 xi, .int .i64 xw, .string nm] 61)).alloc (Obj.cells #[.int .i64 0, .int .i64 0] 59)) from (box_below _ _ _).alloc (by simp) _)
  have b0 : ((w.alloc (Obj.cells #[.int .i64 21, .int .i64 xa, .int .i64 xb, .int .i64 xc, .int .i64 n, .int .i64 m, .int .i64 xi, .int .i64 xw, .string nm] 61)).alloc (Obj.cells #[.int .i64 0, .int .i64 0] 59)).cell? ⟨w.heap.size, 0, none⟩ = some (.int .i64 21) := by go_simp
  have b4 : ((w.alloc (Obj.cells #[.int .i64 21, .int .i64 xa, .int .i64 xb, .int .i64 xc, .int .i64 n, .int .i64 m, .int .i64 xi, .int .i64 xw, .string nm] 61)).alloc (Obj.cells #[.int .i64 0, .int .i64 0] 59)).cell? ⟨w.heap.size, 4, none⟩ = some (.int .i64 n) := by go_simp
  have b5 : ((w.alloc (Obj.cells #[.int .i64 21, .int .i64 xa, .int .i64 xb, .int .i64 xc, .int .i64 n, .int .i64 m, .int .i64 xi, .int .i64 xw, .string nm] 61)).alloc (Obj.cells #[.int .i64 0, .int .i64 0] 59)).cell? ⟨w.heap.size, 5, none⟩ = some (.int .i64 m) := by go_simp
  have r0 : ((w.alloc (Obj.cells #[.int .i64 21, .int .i64 xa, .int .i64 xb, .int .i64 xc, .int .i64 n, .int .i64 m, .int .i64 xi, .int .i64 xw, .string nm] 61)).alloc (Obj.cells #[.int .i64 0, .int .i64 0] 59)).cell? ⟨w.heap.size + 1, 0, none⟩ = some (.int .i64 0) := by go_simp
  have f0 : ((w.alloc (Obj.cells #[.int .i64 21, .int .i64 xa, .int .i64 xb, .int .i64 xc, .int .i64 n, .int .i64 m, .int .i64 xi, .int .i64 xw, .string nm] 61)).alloc (Obj.cells #[.int .i64 0, .int .i64 0] 59)).frozen? ⟨w.heap.size + 1, 0, none⟩ = false := by go_simp
  have r1 : ((w.alloc (Obj.cells #[.int .i64 21, .int .i64 xa, .int .i64 xb, .int .i64 xc, .int .i64 n, .int .i64 m, .int .i64 xi, .int .i64 xw, .string nm] 61)).alloc (Obj.cells #[.int .i64 0, .int .i64 0] 59)).cell? ⟨w.heap.size + 1, 1, none⟩ = some (.int .i64 0) := by go_simp
  have f1 : ((w.alloc (Obj.cells #[.int .i64 21, .int .i64 xa, .int .i64 xb, .int .i64 xc, .int .i64 n, .int .i64 m, .int .i64 xi, .int .i64 xw, .string nm] 61)).alloc (Obj.cells #[.int .i64 0, .int .i64 0] 59)).frozen? ⟨w.heap.size + 1, 1, none⟩ = false := by go_simp
  generalize ((w.alloc (Obj.cells #[.int .i64 21, .int .i64 xa, .int .i64 xb, .int .i64 xc, .int .i64 n, .int .i64 m, .int .i64 xi, .int .i64 xw, .string nm] 61)).alloc (Obj.cells #[.int .i64 0, .int .i64 0] 59)) = w2 at *
  have f0 := Later.frozen f0 (World.block_lt_of_cell? _ _ r0)
  have f1 := Later.frozen f1 (World.block_lt_of_cell? _ _ r1)
  have b0 := Later.cell b0
  have b4 := Later.cell b4
  have b5 := Later.cell b5
  have r0 := Later.cell r0
  have r1 := Later.cell r1
  have c0 : ∀ l : Later w2, l.val.cell? ⟨g, 0, none⟩ = some (.int .i64 ai) := fun l => Later.cell c0 ⟨l.val, l.back HB.out⟩
  have c1 : ∀ l : Later w2, l.val.cell? ⟨g, 1, none⟩ = some (.int .i64 aw) := fun l => Later.cell c1 ⟨l.val, l.back HB.out⟩
  have c2 : ∀ l : Later w2, l.val.cell? ⟨g, 2, none⟩ = some (.int .i64 bi) := fun l => Later.cell c2 ⟨l.val, l.back HB.out⟩
  have c3 : ∀ l : Later w2, l.val.cell? ⟨g, 3, none⟩ = some (.int .i64 bw) := fun l => Later.cell c3 ⟨l.val, l.back HB.out⟩
  have hfacts : ∀ W, (W = w2 ∨ W = (w2.setCell ⟨w.heap.size + 1, 0, none⟩ (.int .i64 0)).setCell ⟨w.heap.size + 1, 1, none⟩ (.int .i64 1)) → ∀ l : Later W, l.val.cell? ⟨g, 0, none⟩ = some (.int .i64 ai) ∧ l.val.cell? ⟨g, 1, none⟩ = some (.int .i64 aw) ∧ l.val.cell? ⟨g, 2, none⟩ = some (.int .i64 bi) ∧ l.val.cell? ⟨g, 3, none⟩ = some (.int .i64 bw) := by
    rintro W (rfl | rfl) l
    · exact ⟨c0 l, c1 l, c2 l, c3 l⟩
    · have ne : ∀ (f : Nat) (v : Value), (∀ l : Later w2, l.val.cell? ⟨g, f, none⟩ = some v) → l.val.cell? ⟨g, f, none⟩ = some v := fun f v h => Later.cell ((World.cell?_setCell_other _ _ _ _ (by intro e; simp only [Addr.mk.injEq] at e; omega)).trans ((World.cell?_setCell_other _ _ _ _ (by intro e; simp only [Addr.mk.injEq] at e; omega)).trans (h ⟨w2, Below.refl _ _⟩))) l
      exact ⟨ne _ _ c0, ne _ _ c1, ne _ _ c2, ne _ _ c3⟩
  have HF := Lib.hid hfacts
  clear hfacts
  refine wp_region_store' (w0 := w2) (w1 := (w2.setCell ⟨w.heap.size + 1, 0, none⟩ (.int .i64 0)).setCell ⟨w.heap.size + 1, 1, none⟩ (.int .i64 1)) 8 (by kernel_rfl) (by kernel_rfl) rfl (by kernel_rfl) (LaterC.refl _) ?_
  apply Exists.intro
  refine ⟨fun W hW => ?_, ?_, ?_, ?_⟩
  · have hc := HF.out W hW
    have d0 := fun l => (hc l).1; have d1 := fun l => (hc l).2.1; have d2 := fun l => (hc l).2.2.1; have d3 := fun l => (hc l).2.2.2
    clear hc hW
    simp only [List.take_succ_cons, List.take_zero]
    repeat (go_big_quiet_step ((go_at_call 43; exact Calls.later (l2Word_calls _ _))))
    exact wpQuiet_nil rfl
  · rfl
  · intro u
    refine ⟨(u.val.setCell ⟨w.heap.size + 1, 0, none⟩ (.int .i64 0)).setCell ⟨w.heap.size + 1, 1, none⟩ (.int .i64 1), ?_, u.set2 _ _ _ _⟩
    have s0 := r0 u; have s1 := r1 u; have t0 := f0 u; have t1 := f1 u
    go_simp
  · intro u
    have s0 : u.val.cell? ⟨w.heap.size + 1, 0, none⟩ = some (.int .i64 0) := Later.cell ((World.cell?_setCell_other _ _ _ _ (by intro e; simp only [Addr.mk.injEq] at e; omega)).trans (World.cell?_setCell_same _ _ _ (r0 ⟨w2, Below.refl _ _⟩))) u
    have s1 : u.val.cell? ⟨w.heap.size + 1, 1, none⟩ = some (.int .i64 1) := Later.cell (World.cell?_setCell_same _ _ _ ((World.cell?_setCell_other _ _ _ _ (by intro e; simp only [Addr.mk.injEq] at e; omega)).trans (r1 ⟨w2, Below.refl _ _⟩))) u
    have hbel := Lib.hid (u.back ((HB.out.setCell (p := ⟨w.heap.size + 1, 0, none⟩) (by simp) (.int .i64 0)).setCell (p := ⟨w.heap.size + 1, 1, none⟩) (by simp) (.int .i64 1)))
    simp only [List.drop_succ_cons, List.drop_zero]
    clear r0 r1 f0 f1
    go_wp2
    exact bodyPost_ret (v := .tuple #[.agg #[.int .i64 0, .int .i64 1], .bool false]) (by simp [results, Try.results63, go_sem, s0, s1]) rfl (respost_none HR.out hbel.out)
set_option maxHeartbeats 2000000 in
set_option maxRecDepth 8000 in
theorem l2Result_21_2 (n m ai aw bi bw ci cw xa xb xc xi xw : Int) (nm : ByteArray) (g cap : Nat) (w : World) (hcap : 2 ≤ cap) (c0 : w.cell? ⟨g, 0, none⟩ = some (.int .i64 ai)) (c1 : w.cell? ⟨g, 1, none⟩ = some (.int .i64 aw)) (c2 : w.cell? ⟨g, 2, none⟩ = some (.int .i64 bi)) (c3 : w.cell? ⟨g, 3, none⟩ = some (.int .i64 bw)) (h0 : (ai == bi) = true) (h1 : (aw == bw) = true) :
    Calls Try.prog 63 #[.agg #[.int .i64 21, .int .i64 xa, .int .i64 xb, .int .i64 xc, .int .i64 n, .int .i64 m, .int .i64 xi, .int .i64 xw, .string nm], .slice (some ⟨g, 0, none⟩) 2 cap] w (ResPost (resN 21 n m ai aw bi bw ci cw) w) := by
  have hlt : g < w.heap.size := World.block_lt_of_cell? _ _ c0
  have HR := Lib.hid (show resN 21 n m ai aw bi bw ci cw = some (0, 1) by unfold resN; simp only [h0, h1]; rfl)
  go_enter Try.func63, Try.ntmps63
  go_wp2
  have HB := Lib.hid (show Below w.heap.size w ((w.alloc (Obj.cells #[.int .i64 21, .int .i64 xa, .int .i64 xb, .int .i64 xc, .int .i64 n, .int .i64 m, .int .i64 xi, .int .i64 xw, .string nm] 61)).alloc (Obj.cells #[.int .i64 0, .int .i64 0] 59)) from (box_below _ _ _).alloc (by simp) _)
  have b0 : ((w.alloc (Obj.cells #[.int .i64 21, .int .i64 xa, .int .i64 xb, .int .i64 xc, .int .i64 n, .int .i64 m, .int .i64 xi, .int .i64 xw, .string nm] 61)).alloc (Obj.cells #[.int .i64 0, .int .i64 0] 59)).cell? ⟨w.heap.size, 0, none⟩ = some (.int .i64 21) := by go_simp
  have b4 : ((w.alloc (Obj.cells #[.int .i64 21, .int .i64 xa, .int .i64 xb, .int .i64 xc, .int .i64 n, .int .i64 m, .int .i64 xi, .int .i64 xw, .string nm] 61)).alloc (Obj.cells #[.int .i64 0, .int .i64 0] 59)).cell? ⟨w.heap.size, 4, none⟩ = some (.int .i64 n) := by go_simp
  have b5 : ((w.alloc (Obj.cells #[.int .i64 21, .int .i64 xa, .int .i64 xb, .int .i64 xc, .int .i64 n, .int .i64 m, .int .i64 xi, .int .i64 xw, .string nm] 61)).alloc (Obj.cells #[.int .i64 0, .int .i64 0] 59)).cell? ⟨w.heap.size, 5, none⟩ = some (.int .i64 m) := by go_simp
  have r0 : ((w.alloc (Obj.cells #[.int .i64 21, .int .i64 xa, .int .i64 xb, .int .i64 xc, .int .i64 n, .int .i64 m, .int .i64 xi, .int .i64 xw, .string nm] 61)).alloc (Obj.cells #[.int .i64 0, .int .i64 0] 59)).cell? ⟨w.heap.size + 1, 0, none⟩ = some (.int .i64 0) := by go_simp
  have f0 : ((w.alloc (Obj.cells #[.int .i64 21, .int .i64 xa, .int .i64 xb, .int .i64 xc, .int .i64 n, .int .i64 m, .int .i64 xi, .int .i64 xw, .string nm] 61)).alloc (Obj.cells #[.int .i64 0, .int .i64 0] 59)).frozen? ⟨w.heap.size + 1, 0, none⟩ = false := by go_simp
  have r1 : ((w.alloc (Obj.cells #[.int .i64 21, .int .i64 xa, .int .i64 xb, .int .i64 xc, .int .i64 n, .int .i64 m, .int .i64 xi, .int .i64 xw, .string nm] 61)).alloc (Obj.cells #[.int .i64 0, .int .i64 0] 59)).cell? ⟨w.heap.size + 1, 1, none⟩ = some (.int .i64 0) := by go_simp
  have f1 : ((w.alloc (Obj.cells #[.int .i64 21, .int .i64 xa, .int .i64 xb, .int .i64 xc, .int .i64 n, .int .i64 m, .int .i64 xi, .int .i64 xw, .string nm] 61)).alloc (Obj.cells #[.int .i64 0, .int .i64 0] 59)).frozen? ⟨w.heap.size + 1, 1, none⟩ = false := by go_simp
  generalize ((w.alloc (Obj.cells #[.int .i64 21, .int .i64 xa, .int .i64 xb, .int .i64 xc, .int .i64 n, .int .i64 m, .int .i64 xi, .int .i64 xw, .string nm] 61)).alloc (Obj.cells #[.int .i64 0, .int .i64 0] 59)) = w2 at *
  have f0 := Later.frozen f0 (World.block_lt_of_cell? _ _ r0)
  have f1 := Later.frozen f1 (World.block_lt_of_cell? _ _ r1)
  have b0 := Later.cell b0
  have b4 := Later.cell b4
  have b5 := Later.cell b5
  have r0 := Later.cell r0
  have r1 := Later.cell r1
  have c0 : ∀ l : Later w2, l.val.cell? ⟨g, 0, none⟩ = some (.int .i64 ai) := fun l => Later.cell c0 ⟨l.val, l.back HB.out⟩
  have c1 : ∀ l : Later w2, l.val.cell? ⟨g, 1, none⟩ = some (.int .i64 aw) := fun l => Later.cell c1 ⟨l.val, l.back HB.out⟩
  have c2 : ∀ l : Later w2, l.val.cell? ⟨g, 2, none⟩ = some (.int .i64 bi) := fun l => Later.cell c2 ⟨l.val, l.back HB.out⟩
  have c3 : ∀ l : Later w2, l.val.cell? ⟨g, 3, none⟩ = some (.int .i64 bw) := fun l => Later.cell c3 ⟨l.val, l.back HB.out⟩
  have hfacts : ∀ W, (W = w2 ∨ W = (w2.setCell ⟨w.heap.size + 1, 0, none⟩ (.int .i64 0)).setCell ⟨w.heap.size + 1, 1, none⟩ (.int .i64 1)) → ∀ l : Later W, l.val.cell? ⟨g, 0, none⟩ = some (.int .i64 ai) ∧ l.val.cell? ⟨g, 1, none⟩ = some (.int .i64 aw) ∧ l.val.cell? ⟨g, 2, none⟩ = some (.int .i64 bi) ∧ l.val.cell? ⟨g, 3, none⟩ = some (.int .i64 bw) := by
    rintro W (rfl | rfl) l
    · exact ⟨c0 l, c1 l, c2 l, c3 l⟩
    · have ne : ∀ (f : Nat) (v : Value), (∀ l : Later w2, l.val.cell? ⟨g, f, none⟩ = some v) → l.val.cell? ⟨g, f, none⟩ = some v := fun f v h => Later.cell ((World.cell?_setCell_other _ _ _ _ (by intro e; simp only [Addr.mk.injEq] at e; omega)).trans ((World.cell?_setCell_other _ _ _ _ (by intro e; simp only [Addr.mk.injEq] at e; omega)).trans (h ⟨w2, Below.refl _ _⟩))) l
      exact ⟨ne _ _ c0, ne _ _ c1, ne _ _ c2, ne _ _ c3⟩
  have HF := Lib.hid hfacts
  clear hfacts
  refine wp_region_store' (w0 := w2) (w1 := (w2.setCell ⟨w.heap.size + 1, 0, none⟩ (.int .i64 0)).setCell ⟨w.heap.size + 1, 1, none⟩ (.int .i64 1)) 8 (by kernel_rfl) (by kernel_rfl) rfl (by kernel_rfl) (LaterC.refl _) ?_
  apply Exists.intro
  refine ⟨fun W hW => ?_, ?_, ?_, ?_⟩
  · have hc := HF.out W hW
    have d0 := fun l => (hc l).1; have d1 := fun l => (hc l).2.1; have d2 := fun l => (hc l).2.2.1; have d3 := fun l => (hc l).2.2.2
    clear hc hW
    simp only [List.take_succ_cons, List.take_zero]
    repeat (go_big_quiet_step ((go_at_call 43; exact Calls.later (l2Word_calls _ _))))
    exact wpQuiet_nil rfl
  · rfl
  · intro u
    refine ⟨(u.val.setCell ⟨w.heap.size + 1, 0, none⟩ (.int .i64 0)).setCell ⟨w.heap.size + 1, 1, none⟩ (.int .i64 1), ?_, u.set2 _ _ _ _⟩
    have s0 := r0 u; have s1 := r1 u; have t0 := f0 u; have t1 := f1 u
    go_simp
  · intro u
    have s0 : u.val.cell? ⟨w.heap.size + 1, 0, none⟩ = some (.int .i64 0) := Later.cell ((World.cell?_setCell_other _ _ _ _ (by intro e; simp only [Addr.mk.injEq] at e; omega)).trans (World.cell?_setCell_same _ _ _ (r0 ⟨w2, Below.refl _ _⟩))) u
    have s1 : u.val.cell? ⟨w.heap.size + 1, 1, none⟩ = some (.int .i64 1) := Later.cell (World.cell?_setCell_same _ _ _ ((World.cell?_setCell_other _ _ _ _ (by intro e; simp only [Addr.mk.injEq] at e; omega)).trans (r1 ⟨w2, Below.refl _ _⟩))) u
    have hbel := Lib.hid (u.back ((HB.out.setCell (p := ⟨w.heap.size + 1, 0, none⟩) (by simp) (.int .i64 0)).setCell (p := ⟨w.heap.size + 1, 1, none⟩) (by simp) (.int .i64 1)))
    simp only [List.drop_succ_cons, List.drop_zero]
    clear r0 r1 f0 f1
    go_wp2
    exact bodyPost_ret (v := .tuple #[.agg #[.int .i64 0, .int .i64 1], .bool true]) (by simp [results, Try.results63, go_sem, s0, s1]) rfl (respost_some HR.out hbel.out)
theorem l2Result_21 (n m ai aw bi bw ci cw xa xb xc xi xw : Int) (nm : ByteArray) (g cap : Nat) (w : World) (hcap : 2 ≤ cap) (c0 : w.cell? ⟨g, 0, none⟩ = some (.int .i64 ai)) (c1 : w.cell? ⟨g, 1, none⟩ = some (.int .i64 aw)) (c2 : w.cell? ⟨g, 2, none⟩ = some (.int .i64 bi)) (c3 : w.cell? ⟨g, 3, none⟩ = some (.int .i64 bw)) :
    Calls Try.prog 63 #[.agg #[.int .i64 21, .int .i64 xa, .int .i64 xb, .int .i64 xc, .int .i64 n, .int .i64 m, .int .i64 xi, .int .i64 xw, .string nm], .slice (some ⟨g, 0, none⟩) 2 cap] w (ResPost (resN 21 n m ai aw bi bw ci cw) w) := by
  by_cases h0 : (ai == bi) = true
  rotate_left
  · exact l2Result_21_0 n m ai aw bi bw ci cw xa xb xc xi xw nm g cap w hcap c0 c1 c2 c3  (eq_false_of_ne_true h0)
  by_cases h1 : (aw == bw) = true
  rotate_left
  · exact l2Result_21_1 n m ai aw bi bw ci cw xa xb xc xi xw nm g cap w hcap c0 c1 c2 c3 h0 (eq_false_of_ne_true h1)
  exact l2Result_21_2 n m ai aw bi bw ci cw xa xb xc xi xw nm g cap w hcap c0 c1 c2 c3 h0 h1
end Go.Proofs.Ytbiilnehgdhkoaa
