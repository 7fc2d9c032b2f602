import Derived.Test.YtbenebcphaiohaaGreatet11
import Derived.Test.YtbenebcphaiohaaGreatet10
import Derived.Test.YtbenebcphaiohaaGreatet2
import Derived.Deep.Cut
import Derived.Test.YtbenebcphaiohaaGreatet8
set_option linter.unusedVariables false
set_option linter.unusedSimpArgs false
set_option maxRecDepth 8000
set_option maxHeartbeats 16000000
namespace Go.Proofs.YtbenebcphaiohaaGreat
open Go.RowKit
def NotIn (g : Nat) (s : Value) : Prop := ∀ b o n c, s = .slice (some ⟨b, o, none⟩) n c → b ≠ g
def OutV (g : Nat) (w : World) (e : Ending) (w' : World) (xs : List Int) : Prop :=
 ∃ s, e = .returned (.agg #[s]) ∧ Below w.heap.size w w' ∧ SlN enI w' s xs ∧ NotIn g s
theorem rowI_notIn {w : World} {s : Value} {xs : List Int} {g lo : Nat} (h : RowI w s xs) (hb : ∀ b, s.ownBlock = some b → lo ≤ b) (hg : g < lo) : NotIn g s := by
 obtain ⟨-, ⟨rfl, -⟩ | ⟨g', cap, cur, rfl, -⟩⟩ := h
 · intro b o n c e; cases e
 · intro b o n c e
   cases e
   have h := hb _ rfl
   simp at h ⊢
   omega
theorem value_done {w w1 w' : World} {u1 : Later w1} {s : Value} {xs : List Int} {g : Nat} (h0 : Below w.heap.size w w1) (h1 : w.heap.size + 3 ≤ w1.heap.size) (hb : Below u1.val.heap.size u1.val w') (hr : RowI w' s xs) (hg : ∀ b, s.ownBlock = some b → u1.val.heap.size ≤ b) (hgw : g < w.heap.size) :
 Below w.heap.size w (w'.setCell ⟨w.heap.size + 2, 0, none⟩ s) ∧ SlN enI (w'.setCell ⟨w.heap.size + 2, 0, none⟩ s) s xs ∧ NotIn g s := by
 have hs := u1.size
 refine ⟨((h0.trans (u1.prop.mono h0.size)).trans (hb.mono (by omega))).setCell (by simp) _, (hr.set (fun b hb' e => ?_) _).slN, rowI_notIn hr hg (by omega)⟩
 have := hg b hb'
 simp at e
 omega
theorem value_facts : (∀ (fn : Fn) (first cap : Array Value) (w : World), (Instr.makeFunc fn first cap).run Tryz.prog w = .ok (.func fn first cap) w) ∧
 (∀ (args : Array Value) (w : World), (callFunc 197 args).run Tryz.prog w = .ok (.enter 197 args) w) ∧
 (∀ (args : Array Value) (w : World), (callFunc 198 args).run Tryz.prog w = .ok (.enter 198 args) w) ∧
 (∀ (args : Array Value) (w : World), (callFunc 147 args).run Tryz.prog w = .ok (.enter 147 args) w) ∧
 ∀ (i a : Int) (w : World), (Instr.field 34 (.agg #[.int .i64 i, .int .i64 a]) 1).run Tryz.prog w = .ok (.int .i64 a) w :=
 ⟨fun _ _ _ _ => rfl, fun _ _ => rfl, fun _ _ => rfl, fun _ _ => rfl, fun _ _ _ => rfl⟩
theorem value_world (k a b c n m xi xw : Int) (nm : ByteArray) (bv ov I d : Nat) (w : World) : ∃ W1, (((w.alloc (Obj.cells #[.int .i64 k, .int .i64 a, .int .i64 b, .int .i64 c, .int .i64 n, .int .i64 m, .int .i64 xi, .int .i64 xw, .string nm] 38)).alloc (Obj.cells #[.slice (some ⟨bv, ov, none⟩) I d] 29)).alloc (Obj.cells #[.slice none 0 0] 40)) = W1 ∧ Hid (Below w.heap.size w W1) ∧ Hid (w.heap.size + 3 ≤ W1.heap.size) ∧ (∀ u : Later W1, u.val.cell? ⟨w.heap.size, 0, none⟩ = some (.int .i64 k)) ∧ (∀ u : Later W1, u.val.cell? ⟨w.heap.size, 1, none⟩ = some (.int .i64 a)) ∧ (∀ u : Later W1, u.val.cell? ⟨w.heap.size, 2, none⟩ = some (.int .i64 b)) ∧ (∀ u : Later W1, u.val.cell? ⟨w.heap.size, 3, none⟩ = some (.int .i64 c)) ∧ (∀ u : Later W1, u.val.cell? ⟨w.heap.size, 4, none⟩ = some (.int .i64 n)) ∧ (∀ u : Later W1, u.val.cell? ⟨w.heap.size, 5, none⟩ = some (.int .i64 m)) ∧
 (∀ u : Later W1, u.val.cell? ⟨w.heap.size + 1, 0, none⟩ = some (.slice (some ⟨bv, ov, none⟩) I d)) ∧ (∀ u : Later W1, u.val.cell? ⟨w.heap.size + 1 + 1, 0, none⟩ = some (.slice none 0 0)) ∧ (∀ u : Later W1, u.val.frozen? ⟨w.heap.size + 1 + 1, 0, none⟩ = false) := by
 refine ⟨_, rfl, Lib.hid ((((Below.refl _ _).alloc (Nat.le_refl _) _).alloc (by simp) _).alloc (by simp [Nat.add_assoc]) _), Lib.hid (by simp), Later.cell ?_, Later.cell ?_, Later.cell ?_, Later.cell ?_, Later.cell ?_, Later.cell ?_, Later.cell ?_, Later.cell ?_, Later.frozen ?_ ?_⟩
 all_goals first | go_simp | simp
theorem vNode_34 (a b cc : Int) (n m xi xw : Int) (nm : ByteArray) (Bm bn on N c bv ov I d p : Nat) (w : World) (hN : N ≤ 281474976710656) (hI : I ≤ 281474976710656) (hbv : bv < w.heap.size) (hm : w.cell? ⟨Bm, 0, none⟩ = some (.slice (some ⟨bn, on, none⟩) N c)) :
 Calls Tryz.prog 148 #[.agg #[.int .i64 34, .int .i64 a, .int .i64 b, .int .i64 cc, .int .i64 n, .int .i64 m, .int .i64 xi, .int .i64 xw, .string nm], .slice (some ⟨bv, ov, none⟩) I d, .func (.func 147) #[] #[.pointer (some ⟨Bm, 0, none⟩)]] w fun e w' => OutV bv w e w' [n] := by
 obtain ⟨hmf, heg1, heg2, heg3, hfd⟩ := value_facts
 unfold OutV
 go_enter Tryz.func148, Tryz.ntmps148
 go_upto_region 3 with fail
 obtain ⟨W1, hW1, HB, HG, x0, x1, x2, x3, x4, x5, xv, xr, xf⟩ := value_world 34 a b cc n m xi xw nm bv ov I d w
 rw [hW1]
 clear hW1
 have hm := Later.cell (keepcell HB.out hm)
 have HCL := Lib.hid (fun (l : Later W1) (p b1 o1 c1 : Nat) (v : Int) (h1 : p < I) (h2 : l.val.cell? ⟨bv, ov + p, none⟩ = some (.slice (some ⟨b1, o1, none⟩) 1 c1)) (h3 : l.val.cell? ⟨b1, o1, none⟩ = some (.int .i64 v)) => cell_same (w.heap.size + 1) bv ov I d p b1 o1 c1 v l.val (xv l) h1 h2 h3)
 have HSR := Lib.hid (fun (l : Later W1) (p : Nat) (xi xw : Int) (h1 : p < N) (h2 : l.val.cell? ⟨bn, on + p * 9 + 6, none⟩ = some (.int .i64 xi)) (h3 : l.val.cell? ⟨bn, on + p * 9 + 7, none⟩ = some (.int .i64 xw)) => sorts_calls Bm bn on N c p xi xw l.val (hm l) h1 h2 h3)
 refine at_world (w := W1) ?_
 intro u1
 go_wp2_with (go_at_call 198; refine (word_calls n u1.val).mono ?_; rintro e w' ⟨s, rfl, hb, hr, hg⟩; obtain ⟨sA, sn, sc, rfl⟩ := rowI_slice hr; have f0 : w'.frozen? ⟨w.heap.size + 1 + 1, 0, none⟩ = false := (lift_frozen (later_step u1 hb) xf) ⟨w', Below.refl _ _⟩; have r0 : w'.cell? ⟨w.heap.size + 1 + 1, 0, none⟩ = some (.slice none 0 0) := (lift_cell (later_step u1 hb) xr) ⟨w', Below.refl _ _⟩; have HD := Lib.hid (And.intro hb (And.intro hr (And.intro hg r0))); clear hb hr hg)
 have hd := value_done (u1 := u1) HB.out HG.out HD.out.1 HD.out.2.1 HD.out.2.2.1 hbv
 have rc := World.cell?_setCell_same _ _ (Value.slice sA sn sc) HD.out.2.2.2
 exact bodyPost_ret (v := .agg #[.slice sA sn sc]) (by simp [results, Tryz.results148, go_sem, rc]) rfl ⟨_, rfl, hd.1, hd.2.1, hd.2.2⟩
theorem vNode_33t (cc : Int) (n m xi xw : Int) (nm : ByteArray) (Bm bn on N c bv ov I d p : Nat) (q l2 c2 b1 o1 c1 : Nat) (A2 : Option Addr) (ys : List Int) (w : World) (hN : N ≤ 281474976710656) (hI : I ≤ 281474976710656) (hbv : bv < w.heap.size) (hm : w.cell? ⟨Bm, 0, none⟩ = some (.slice (some ⟨bn, on, none⟩) N c)) (hpI : p < I) (hsa : w.cell? ⟨bv, ov + p, none⟩ = some (.slice (some ⟨b1, o1, none⟩) 1 c1)) (hva : w.cell? ⟨b1, o1, none⟩ = some (.int .i64 1)) (hqI : q < I) (hsb : w.cell? ⟨bv, ov + q, none⟩ = some (.slice A2 l2 c2)) (hys : SlN enI w (.slice A2 l2 c2) ys) (hno : NotIn bv (.slice A2 l2 c2)) :
 Calls Tryz.prog 148 #[.agg #[.int .i64 33, .int .i64 (p : Int), .int .i64 (q : Int), .int .i64 cc, .int .i64 n, .int .i64 m, .int .i64 xi, .int .i64 xw, .string nm], .slice (some ⟨bv, ov, none⟩) I d, .func (.func 147) #[] #[.pointer (some ⟨Bm, 0, none⟩)]] w fun e w' => OutV bv w e w' ys := by
 obtain ⟨hmf, heg1, heg2, heg3, hfd⟩ := value_facts
 unfold OutV
 go_enter Tryz.func148, Tryz.ntmps148
 go_upto_region 3 with fail
 obtain ⟨W1, hW1, HB, HG, x0, x1, x2, x3, x4, x5, xv, xr, xf⟩ := value_world 33 (p : Int) (q : Int) cc n m xi xw nm bv ov I d w
 rw [hW1]
 clear hW1
 have hm := Later.cell (keepcell HB.out hm)
 have hsa := Later.cell (keepcell HB.out hsa)
 have hva := Later.cell (keepcell HB.out hva)
 have hsb := Later.cell (keepcell HB.out hsb)
 have HCL := Lib.hid (fun (l : Later W1) (p b1 o1 c1 : Nat) (v : Int) (h1 : p < I) (h2 : l.val.cell? ⟨bv, ov + p, none⟩ = some (.slice (some ⟨b1, o1, none⟩) 1 c1)) (h3 : l.val.cell? ⟨b1, o1, none⟩ = some (.int .i64 v)) => cell_same (w.heap.size + 1) bv ov I d p b1 o1 c1 v l.val (xv l) h1 h2 h3)
 have HSR := Lib.hid (fun (l : Later W1) (p : Nat) (xi xw : Int) (h1 : p < N) (h2 : l.val.cell? ⟨bn, on + p * 9 + 6, none⟩ = some (.int .i64 xi)) (h3 : l.val.cell? ⟨bn, on + p * 9 + 7, none⟩ = some (.int .i64 xw)) => sorts_calls Bm bn on N c p xi xw l.val (hm l) h1 h2 h3)
 refine at_world (w := W1) ?_
 intro u1
 have hqI' : (q : Int) < I := by omega
 have HC1 := Lib.hid (HCL.out u1 p b1 o1 c1 1 hpI (hsa u1) (hva u1))
 have HYS := Lib.hid hys
 clear hys
 go_wp2_with (go_at_call 197; refine HC1.out.mono ?_; rintro e w' ⟨rfl, rfl⟩)
 have hbl : Below w.heap.size w (u1.val.setCell ⟨w.heap.size + 1 + 1, 0, none⟩ (.slice A2 l2 c2)) := (u1.back HB.out).setCell (by simp [Nat.add_assoc]) _
 have rc := World.cell?_setCell_same _ _ (Value.slice A2 l2 c2) (xr u1)
 exact bodyPost_ret (v := .agg #[.slice A2 l2 c2]) (by simp [results, Tryz.results148, go_sem, rc]) rfl ⟨_, rfl, hbl, HYS.out.below hbl, hno⟩
theorem vNode_33f (b : Int) (n m xi xw : Int) (nm : ByteArray) (Bm bn on N c bv ov I d p : Nat) (r l2 c2 b1 o1 c1 : Nat) (A2 : Option Addr) (ys : List Int) (a : Int) (hne : a ≠ 1) (w : World) (hN : N ≤ 281474976710656) (hI : I ≤ 281474976710656) (hbv : bv < w.heap.size) (hm : w.cell? ⟨Bm, 0, none⟩ = some (.slice (some ⟨bn, on, none⟩) N c)) (hpI : p < I) (hsa : w.cell? ⟨bv, ov + p, none⟩ = some (.slice (some ⟨b1, o1, none⟩) 1 c1)) (hva : w.cell? ⟨b1, o1, none⟩ = some (.int .i64 a)) (hqI : r < I) (hsb : w.cell? ⟨bv, ov + r, none⟩ = some (.slice A2 l2 c2)) (hys : SlN enI w (.slice A2 l2 c2) ys) (hno : NotIn bv (.slice A2 l2 c2)) :
 Calls Tryz.prog 148 #[.agg #[.int .i64 33, .int .i64 (p : Int), .int .i64 b, .int .i64 (r : Int), .int .i64 n, .int .i64 m, .int .i64 xi, .int .i64 xw, .string nm], .slice (some ⟨bv, ov, none⟩) I d, .func (.func 147) #[] #[.pointer (some ⟨Bm, 0, none⟩)]] w fun e w' => OutV bv w e w' ys := by
 obtain ⟨hmf, heg1, heg2, heg3, hfd⟩ := value_facts
 unfold OutV
 go_enter Tryz.func148, Tryz.ntmps148
 go_upto_region 3 with fail
 obtain ⟨W1, hW1, HB, HG, x0, x1, x2, x3, x4, x5, xv, xr, xf⟩ := value_world 33 (p : Int) b (r : Int) n m xi xw nm bv ov I d w
 rw [hW1]
 clear hW1
 have hm := Later.cell (keepcell HB.out hm)
 have hsa := Later.cell (keepcell HB.out hsa)
 have hva := Later.cell (keepcell HB.out hva)
 have hsb := Later.cell (keepcell HB.out hsb)
 have HCL := Lib.hid (fun (l : Later W1) (p b1 o1 c1 : Nat) (v : Int) (h1 : p < I) (h2 : l.val.cell? ⟨bv, ov + p, none⟩ = some (.slice (some ⟨b1, o1, none⟩) 1 c1)) (h3 : l.val.cell? ⟨b1, o1, none⟩ = some (.int .i64 v)) => cell_same (w.heap.size + 1) bv ov I d p b1 o1 c1 v l.val (xv l) h1 h2 h3)
 have HSR := Lib.hid (fun (l : Later W1) (p : Nat) (xi xw : Int) (h1 : p < N) (h2 : l.val.cell? ⟨bn, on + p * 9 + 6, none⟩ = some (.int .i64 xi)) (h3 : l.val.cell? ⟨bn, on + p * 9 + 7, none⟩ = some (.int .i64 xw)) => sorts_calls Bm bn on N c p xi xw l.val (hm l) h1 h2 h3)
 refine at_world (w := W1) ?_
 intro u1
 have hqI' : (r : Int) < I := by omega
 have HC1 := Lib.hid (HCL.out u1 p b1 o1 c1 a hpI (hsa u1) (hva u1))
 have HYS := Lib.hid hys
 have hne1 : (a == 1) = false := beq_eq_false_iff_ne.2 hne
 clear hys
 go_wp2_with (go_at_call 197; refine HC1.out.mono ?_; rintro e w' ⟨rfl, rfl⟩)
 have hbl : Below w.heap.size w (u1.val.setCell ⟨w.heap.size + 1 + 1, 0, none⟩ (.slice A2 l2 c2)) := (u1.back HB.out).setCell (by simp [Nat.add_assoc]) _
 have rc := World.cell?_setCell_same _ _ (Value.slice A2 l2 c2) (xr u1)
 exact bodyPost_ret (v := .agg #[.slice A2 l2 c2]) (by simp [results, Tryz.results148, go_sem, rc]) rfl ⟨_, rfl, hbl, HYS.out.below hbl, hno⟩
theorem vNode_37 (cc : Int) (n m xi xw : Int) (nm : ByteArray) (Bm bn on N c bv ov I d p : Nat) (q l1 c1 b1 o1 b2 o2 c2 y : Nat) (z : Int) (w : World) (hN : N ≤ 281474976710656) (hI : I ≤ 281474976710656) (hbv : bv < w.heap.size) (hm : w.cell? ⟨Bm, 0, none⟩ = some (.slice (some ⟨bn, on, none⟩) N c)) (hpI : p < I) (hsa : w.cell? ⟨bv, ov + p, none⟩ = some (.slice (some ⟨b1, o1, none⟩) l1 c1)) (hqI : q < I) (hsb : w.cell? ⟨bv, ov + q, none⟩ = some (.slice (some ⟨b2, o2, none⟩) 1 c2)) (hvb : w.cell? ⟨b2, o2, none⟩ = some (.int .i64 (y : Int))) (hy : y < l1) (hl1 : l1 ≤ 281474976710656) (hz : w.cell? ⟨b1, o1 + y, none⟩ = some (.int .i64 z)) :
 Calls Tryz.prog 148 #[.agg #[.int .i64 37, .int .i64 (p : Int), .int .i64 (q : Int), .int .i64 cc, .int .i64 n, .int .i64 m, .int .i64 xi, .int .i64 xw, .string nm], .slice (some ⟨bv, ov, none⟩) I d, .func (.func 147) #[] #[.pointer (some ⟨Bm, 0, none⟩)]] w fun e w' => OutV bv w e w' [z] := by
 obtain ⟨hmf, heg1, heg2, heg3, hfd⟩ := value_facts
 unfold OutV
 go_enter Tryz.func148, Tryz.ntmps148
 go_upto_region 3 with fail
 obtain ⟨W1, hW1, HB, HG, x0, x1, x2, x3, x4, x5, xv, xr, xf⟩ := value_world 37 (p : Int) (q : Int) cc n m xi xw nm bv ov I d w
 rw [hW1]
 clear hW1
 have hm := Later.cell (keepcell HB.out hm)
 have hsa := Later.cell (keepcell HB.out hsa)
 have hsb := Later.cell (keepcell HB.out hsb)
 have hvb := Later.cell (keepcell HB.out hvb)
 have hz := Later.cell (keepcell HB.out hz)
 have HCL := Lib.hid (fun (l : Later W1) (p b1 o1 c1 : Nat) (v : Int) (h1 : p < I) (h2 : l.val.cell? ⟨bv, ov + p, none⟩ = some (.slice (some ⟨b1, o1, none⟩) 1 c1)) (h3 : l.val.cell? ⟨b1, o1, none⟩ = some (.int .i64 v)) => cell_same (w.heap.size + 1) bv ov I d p b1 o1 c1 v l.val (xv l) h1 h2 h3)
 have HSR := Lib.hid (fun (l : Later W1) (p : Nat) (xi xw : Int) (h1 : p < N) (h2 : l.val.cell? ⟨bn, on + p * 9 + 6, none⟩ = some (.int .i64 xi)) (h3 : l.val.cell? ⟨bn, on + p * 9 + 7, none⟩ = some (.int .i64 xw)) => sorts_calls Bm bn on N c p xi xw l.val (hm l) h1 h2 h3)
 refine at_world (w := W1) ?_
 intro u1
 have hpI' : (p : Int) < I := by omega
 have hqI' : (q : Int) < I := by omega
 have hy' : (y : Int) < l1 := by omega
 go_upto_region 13 with fail
 refine wp_region_later_tail (w0 := W1) 13 (by kernel_rfl) (by kernel_rfl) ⟨u1, rfl⟩ ?_
 simp only [List.take_succ_cons, List.take_zero, List.drop_succ_cons, List.drop_zero]
 repeat (go_big_quiet_step (first | (go_at_call 197; exact Calls.later (Makes.of_same (HCL.out _ q b2 o2 c2 (y : Int) hqI (hsb _) (hvb _))))))
 refine wpQuiet_nil ?_
 rintro _ ⟨u2, rfl⟩
 go_wp2_with (go_at_call 198; refine (word_calls z u2.val).mono ?_; rintro e w' ⟨s, rfl, hb, hr, hg⟩; obtain ⟨sA, sn, sc, rfl⟩ := rowI_slice hr; have f0 : w'.frozen? ⟨w.heap.size + 1 + 1, 0, none⟩ = false := (lift_frozen (later_step u2 hb) xf) ⟨w', Below.refl _ _⟩; have r0 : w'.cell? ⟨w.heap.size + 1 + 1, 0, none⟩ = some (.slice none 0 0) := (lift_cell (later_step u2 hb) xr) ⟨w', Below.refl _ _⟩; have HD := Lib.hid (And.intro hb (And.intro hr (And.intro hg r0))); clear hb hr hg)
 have hd := value_done (u1 := u2) HB.out HG.out HD.out.1 HD.out.2.1 HD.out.2.2.1 hbv
 have rc := World.cell?_setCell_same _ _ (Value.slice sA sn sc) HD.out.2.2.2
 exact bodyPost_ret (v := .agg #[.slice sA sn sc]) (by simp [results, Tryz.results148, go_sem, rc]) rfl ⟨_, rfl, hd.1, hd.2.1, hd.2.2⟩
theorem vNode_21 (cc : Int) (n m xi xw : Int) (nm : ByteArray) (Bm bn on N c bv ov I d p : Nat) (q l1 c1 l2 c2 : Nat) (A1 A2 : Option Addr) (xs ys : List Int) (w : World) (hN : N ≤ 281474976710656) (hI : I ≤ 281474976710656) (hbv : bv < w.heap.size) (hm : w.cell? ⟨Bm, 0, none⟩ = some (.slice (some ⟨bn, on, none⟩) N c)) (hpI : p < I) (hsa : w.cell? ⟨bv, ov + p, none⟩ = some (.slice A1 l1 c1)) (hxs : SlN enI w (.slice A1 l1 c1) xs) (hqI : q < I) (hsb : w.cell? ⟨bv, ov + q, none⟩ = some (.slice A2 l2 c2)) (hys : SlN enI w (.slice A2 l2 c2) ys) :
 Calls Tryz.prog 148 #[.agg #[.int .i64 21, .int .i64 (p : Int), .int .i64 (q : Int), .int .i64 cc, .int .i64 n, .int .i64 m, .int .i64 xi, .int .i64 xw, .string nm], .slice (some ⟨bv, ov, none⟩) I d, .func (.func 147) #[] #[.pointer (some ⟨Bm, 0, none⟩)]] w fun e w' => OutV bv w e w' [yes (decide (xs = ys))] := by
 obtain ⟨hmf, heg1, heg2, heg3, hfd⟩ := value_facts
 unfold OutV
 go_enter Tryz.func148, Tryz.ntmps148
 go_upto_region 3 with fail
 obtain ⟨W1, hW1, HB, HG, x0, x1, x2, x3, x4, x5, xv, xr, xf⟩ := value_world 21 (p : Int) (q : Int) cc n m xi xw nm bv ov I d w
 rw [hW1]
 clear hW1
 have hm := Later.cell (keepcell HB.out hm)
 have hsa := Later.cell (keepcell HB.out hsa)
 have hxs := hxs.below HB.out
 have hsb := Later.cell (keepcell HB.out hsb)
 have hys := hys.below HB.out
 have HCL := Lib.hid (fun (l : Later W1) (p b1 o1 c1 : Nat) (v : Int) (h1 : p < I) (h2 : l.val.cell? ⟨bv, ov + p, none⟩ = some (.slice (some ⟨b1, o1, none⟩) 1 c1)) (h3 : l.val.cell? ⟨b1, o1, none⟩ = some (.int .i64 v)) => cell_same (w.heap.size + 1) bv ov I d p b1 o1 c1 v l.val (xv l) h1 h2 h3)
 have HSR := Lib.hid (fun (l : Later W1) (p : Nat) (xi xw : Int) (h1 : p < N) (h2 : l.val.cell? ⟨bn, on + p * 9 + 6, none⟩ = some (.int .i64 xi)) (h3 : l.val.cell? ⟨bn, on + p * 9 + 7, none⟩ = some (.int .i64 xw)) => sorts_calls Bm bn on N c p xi xw l.val (hm l) h1 h2 h3)
 refine at_world (w := W1) ?_
 intro u1
 have hpI' : (p : Int) < I := by omega
 have hqI' : (q : Int) < I := by omega
 have HEQ := Lib.hid (fun l : Later W1 => equalI_calls (.slice A1 l1 c1) (.slice A2 l2 c2) xs ys l.val (hxs.later l) (hys.later l))
 clear hxs hys
 go_upto_region 11 with fail
 refine wp_region_later_tail (w0 := W1) 15 (by kernel_rfl) (by kernel_rfl) ⟨u1, rfl⟩ ?_
 simp only [List.take_succ_cons, List.take_zero, List.drop_succ_cons, List.drop_zero]
 repeat (go_big_quiet_step (first | (go_at_call 188; exact Calls.later (HEQ.out _)) | (go_at_call 199; exact Calls.later (Makes.of_same (bit_same _ _)))))
 refine wpQuiet_nil ?_
 rintro _ ⟨u2, rfl⟩
 go_wp2_with (go_at_call 198; refine (word_calls (yes (decide (xs = ys))) u2.val).mono ?_; rintro e w' ⟨s, rfl, hb, hr, hg⟩; obtain ⟨sA, sn, sc, rfl⟩ := rowI_slice hr; have f0 : w'.frozen? ⟨w.heap.size + 1 + 1, 0, none⟩ = false := (lift_frozen (later_step u2 hb) xf) ⟨w', Below.refl _ _⟩; have r0 : w'.cell? ⟨w.heap.size + 1 + 1, 0, none⟩ = some (.slice none 0 0) := (lift_cell (later_step u2 hb) xr) ⟨w', Below.refl _ _⟩; have HD := Lib.hid (And.intro hb (And.intro hr (And.intro hg r0))); clear hb hr hg)
 have hd := value_done (u1 := u2) HB.out HG.out HD.out.1 HD.out.2.1 HD.out.2.2.1 hbv
 have rc := World.cell?_setCell_same _ _ (Value.slice sA sn sc) HD.out.2.2.2
 exact bodyPost_ret (v := .agg #[.slice sA sn sc]) (by simp [results, Tryz.results148, go_sem, rc]) rfl ⟨_, rfl, hd.1, hd.2.1, hd.2.2⟩
theorem vNode_29 (cc : Int) (n m xi xw : Int) (nm : ByteArray) (Bm bn on N c bv ov I d p : Nat) (q b1 o1 c1 b2 o2 c2 : Nat) (a bb : Int) (wa wb ib : Int) (w : World) (hN : N ≤ 281474976710656) (hI : I ≤ 281474976710656) (hbv : bv < w.heap.size) (hm : w.cell? ⟨Bm, 0, none⟩ = some (.slice (some ⟨bn, on, none⟩) N c)) (hpI : p < I) (hsa : w.cell? ⟨bv, ov + p, none⟩ = some (.slice (some ⟨b1, o1, none⟩) 1 c1)) (hva : w.cell? ⟨b1, o1, none⟩ = some (.int .i64 a)) (hqI : q < I) (hsb : w.cell? ⟨bv, ov + q, none⟩ = some (.slice (some ⟨b2, o2, none⟩) 1 c2)) (hvb : w.cell? ⟨b2, o2, none⟩ = some (.int .i64 bb)) (hq : q < N) (hib : w.cell? ⟨bn, on + q * 9 + 6, none⟩ = some (.int .i64 ib)) (hwb : w.cell? ⟨bn, on + q * 9 + 7, none⟩ = some (.int .i64 wb)) (ha : Wo wa a) (hb : Wo wb bb) (hs : wa + wb ≤ 16) :
 Calls Tryz.prog 148 #[.agg #[.int .i64 29, .int .i64 (p : Int), .int .i64 (q : Int), .int .i64 cc, .int .i64 n, .int .i64 m, .int .i64 xi, .int .i64 xw, .string nm], .slice (some ⟨bv, ov, none⟩) I d, .func (.func 147) #[] #[.pointer (some ⟨Bm, 0, none⟩)]] w fun e w' => OutV bv w e w' [a * 2 ^ wb.toNat + bb] := by
 obtain ⟨hmf, heg1, heg2, heg3, hfd⟩ := value_facts
 unfold OutV
 go_enter Tryz.func148, Tryz.ntmps148
 go_upto_region 3 with fail
 obtain ⟨W1, hW1, HB, HG, x0, x1, x2, x3, x4, x5, xv, xr, xf⟩ := value_world 29 (p : Int) (q : Int) cc n m xi xw nm bv ov I d w
 rw [hW1]
 clear hW1
 have hm := Later.cell (keepcell HB.out hm)
 have hsa := Later.cell (keepcell HB.out hsa)
 have hva := Later.cell (keepcell HB.out hva)
 have hsb := Later.cell (keepcell HB.out hsb)
 have hvb := Later.cell (keepcell HB.out hvb)
 have hib := Later.cell (keepcell HB.out hib)
 have hwb := Later.cell (keepcell HB.out hwb)
 have HCL := Lib.hid (fun (l : Later W1) (p b1 o1 c1 : Nat) (v : Int) (h1 : p < I) (h2 : l.val.cell? ⟨bv, ov + p, none⟩ = some (.slice (some ⟨b1, o1, none⟩) 1 c1)) (h3 : l.val.cell? ⟨b1, o1, none⟩ = some (.int .i64 v)) => cell_same (w.heap.size + 1) bv ov I d p b1 o1 c1 v l.val (xv l) h1 h2 h3)
 have HSR := Lib.hid (fun (l : Later W1) (p : Nat) (xi xw : Int) (h1 : p < N) (h2 : l.val.cell? ⟨bn, on + p * 9 + 6, none⟩ = some (.int .i64 xi)) (h3 : l.val.cell? ⟨bn, on + p * 9 + 7, none⟩ = some (.int .i64 xw)) => sorts_calls Bm bn on N c p xi xw l.val (hm l) h1 h2 h3)
 refine at_world (w := W1) ?_
 intro u1
 have h1 := ha.wd.lo
 have h2 := hb.wd.lo
 have ha0 := ha.lo
 have ha1 := ha.top
 have hb0 := hb.lo
 have hb1 := hb.top
 obtain ⟨p1, p2⟩ := pow60 (i := wb.toNat) (by omega)
 have p3 := hb.wd.le
 have p4 : 0 ≤ a * 2 ^ wb.toNat := Int.mul_nonneg ha0 (by omega)
 have p5 : a * 2 ^ wb.toNat ≤ 65536 * 65536 := Int.mul_le_mul (by omega) (by omega) (by omega) (by omega)
 have p6 : a * 2 ^ wb.toNat ≤ 4294967296 := by omega
 clear p5
 go_upto_region 19 with fail
 refine wp_region_later_tail (w0 := W1) 16 (by kernel_rfl) (by kernel_rfl) ⟨u1, rfl⟩ ?_
 simp only [List.take_succ_cons, List.take_zero, List.drop_succ_cons, List.drop_zero]
 repeat (go_big_quiet_step (first | (go_at_call 197; first | (with_reducible exact Calls.later (Makes.of_same (HCL.out _ p b1 o1 c1 a hpI (hsa _) (hva _)))) | (with_reducible exact Calls.later (Makes.of_same (HCL.out _ q b2 o2 c2 bb hqI (hsb _) (hvb _))))) | (go_at_call 147; exact Calls.later (HSR.out _ q ib wb hq (hib _) (hwb _)))))
 refine wpQuiet_nil ?_
 rintro _ ⟨u2, rfl⟩
 go_wp2_with (go_at_call 198; refine (word_calls (a * 2 ^ wb.toNat + bb) u2.val).mono ?_; rintro e w' ⟨s, rfl, hb, hr, hg⟩; obtain ⟨sA, sn, sc, rfl⟩ := rowI_slice hr; have f0 : w'.frozen? ⟨w.heap.size + 1 + 1, 0, none⟩ = false := (lift_frozen (later_step u2 hb) xf) ⟨w', Below.refl _ _⟩; have r0 : w'.cell? ⟨w.heap.size + 1 + 1, 0, none⟩ = some (.slice none 0 0) := (lift_cell (later_step u2 hb) xr) ⟨w', Below.refl _ _⟩; have HD := Lib.hid (And.intro hb (And.intro hr (And.intro hg r0))); clear hb hr hg)
 have hd := value_done (u1 := u2) HB.out HG.out HD.out.1 HD.out.2.1 HD.out.2.2.1 hbv
 have rc := World.cell?_setCell_same _ _ (Value.slice sA sn sc) HD.out.2.2.2
 exact bodyPost_ret (v := .agg #[.slice sA sn sc]) (by simp [results, Tryz.results148, go_sem, rc]) rfl ⟨_, rfl, hd.1, hd.2.1, hd.2.2⟩
theorem vNode_30 (b cc : Int) (n m xi xw : Int) (nm : ByteArray) (Bm bn on N c bv ov I d p : Nat) (b1 o1 c1 : Nat) (a wa : Int) (w : World) (hN : N ≤ 281474976710656) (hI : I ≤ 281474976710656) (hbv : bv < w.heap.size) (hm : w.cell? ⟨Bm, 0, none⟩ = some (.slice (some ⟨bn, on, none⟩) N c)) (hpI : p < I) (hsa : w.cell? ⟨bv, ov + p, none⟩ = some (.slice (some ⟨b1, o1, none⟩) 1 c1)) (hva : w.cell? ⟨b1, o1, none⟩ = some (.int .i64 a)) (ha : Wo wa a) (hm0 : 0 ≤ m) (hmn : m ≤ n) (hnw : n < wa) :
 Calls Tryz.prog 148 #[.agg #[.int .i64 30, .int .i64 (p : Int), .int .i64 b, .int .i64 cc, .int .i64 n, .int .i64 m, .int .i64 xi, .int .i64 xw, .string nm], .slice (some ⟨bv, ov, none⟩) I d, .func (.func 147) #[] #[.pointer (some ⟨Bm, 0, none⟩)]] w fun e w' => OutV bv w e w' [Go.bits .and .i64 (a / 2 ^ m.toNat) (2 ^ (n - m + 1).toNat - 1)] := by
 obtain ⟨hmf, heg1, heg2, heg3, hfd⟩ := value_facts
 unfold OutV
 go_enter Tryz.func148, Tryz.ntmps148
 go_upto_region 3 with fail
 obtain ⟨W1, hW1, HB, HG, x0, x1, x2, x3, x4, x5, xv, xr, xf⟩ := value_world 30 (p : Int) b cc n m xi xw nm bv ov I d w
 rw [hW1]
 clear hW1
 have hm := Later.cell (keepcell HB.out hm)
 have hsa := Later.cell (keepcell HB.out hsa)
 have hva := Later.cell (keepcell HB.out hva)
 have HCL := Lib.hid (fun (l : Later W1) (p b1 o1 c1 : Nat) (v : Int) (h1 : p < I) (h2 : l.val.cell? ⟨bv, ov + p, none⟩ = some (.slice (some ⟨b1, o1, none⟩) 1 c1)) (h3 : l.val.cell? ⟨b1, o1, none⟩ = some (.int .i64 v)) => cell_same (w.heap.size + 1) bv ov I d p b1 o1 c1 v l.val (xv l) h1 h2 h3)
 have HSR := Lib.hid (fun (l : Later W1) (p : Nat) (xi xw : Int) (h1 : p < N) (h2 : l.val.cell? ⟨bn, on + p * 9 + 6, none⟩ = some (.int .i64 xi)) (h3 : l.val.cell? ⟨bn, on + p * 9 + 7, none⟩ = some (.int .i64 xw)) => sorts_calls Bm bn on N c p xi xw l.val (hm l) h1 h2 h3)
 refine at_world (w := W1) ?_
 intro u1
 have h1 := ha.wd.lo
 have h2 := ha.wd.hi
 have ha0 := ha.lo
 have ha1 := ha.top
 obtain ⟨p1, p2⟩ := pow60 (i := m.toNat) (by omega)
 obtain ⟨p3, p4⟩ := pow60 (i := (n - m + 1).toNat) (by omega)
 have p5 : 0 ≤ a / 2 ^ m.toNat := Int.ediv_nonneg ha0 (by omega)
 go_upto_region 21 with fail
 refine wp_region_later_tail (w0 := W1) 16 (by kernel_rfl) (by kernel_rfl) ⟨u1, rfl⟩ ?_
 simp only [List.take_succ_cons, List.take_zero, List.drop_succ_cons, List.drop_zero]
 repeat (go_big_quiet_step (first | (go_at_call 197; exact Calls.later (Makes.of_same (HCL.out _ p b1 o1 c1 a hpI (hsa _) (hva _)))) | (go_at_call 80; exact Calls.later (Makes.of_same (mask_same (n - m + 1) _ (by omega) (by omega))))))
 refine wpQuiet_nil ?_
 rintro _ ⟨u2, rfl⟩
 go_wp2_with (go_at_call 198; refine (word_calls (Go.bits .and .i64 (a / 2 ^ m.toNat) (2 ^ (n - m + 1).toNat - 1)) u2.val).mono ?_; rintro e w' ⟨s, rfl, hb, hr, hg⟩; obtain ⟨sA, sn, sc, rfl⟩ := rowI_slice hr; have f0 : w'.frozen? ⟨w.heap.size + 1 + 1, 0, none⟩ = false := (lift_frozen (later_step u2 hb) xf) ⟨w', Below.refl _ _⟩; have r0 : w'.cell? ⟨w.heap.size + 1 + 1, 0, none⟩ = some (.slice none 0 0) := (lift_cell (later_step u2 hb) xr) ⟨w', Below.refl _ _⟩; have HD := Lib.hid (And.intro hb (And.intro hr (And.intro hg r0))); clear hb hr hg)
 have hd := value_done (u1 := u2) HB.out HG.out HD.out.1 HD.out.2.1 HD.out.2.2.1 hbv
 have rc := World.cell?_setCell_same _ _ (Value.slice sA sn sc) HD.out.2.2.2
 exact bodyPost_ret (v := .agg #[.slice sA sn sc]) (by simp [results, Tryz.results148, go_sem, rc]) rfl ⟨_, rfl, hd.1, hd.2.1, hd.2.2⟩
theorem vNode_31 (b cc : Int) (n m xi xw : Int) (nm : ByteArray) (Bm bn on N c bv ov I d p : Nat) (b1 o1 c1 : Nat) (a ia wa : Int) (w : World) (hN : N ≤ 281474976710656) (hI : I ≤ 281474976710656) (hbv : bv < w.heap.size) (hm : w.cell? ⟨Bm, 0, none⟩ = some (.slice (some ⟨bn, on, none⟩) N c)) (hpI : p < I) (hsa : w.cell? ⟨bv, ov + p, none⟩ = some (.slice (some ⟨b1, o1, none⟩) 1 c1)) (hva : w.cell? ⟨b1, o1, none⟩ = some (.int .i64 a)) (hp : p < N) (hia : w.cell? ⟨bn, on + p * 9 + 6, none⟩ = some (.int .i64 ia)) (hwa : w.cell? ⟨bn, on + p * 9 + 7, none⟩ = some (.int .i64 wa)) (ha : Wo wa a) (hn0 : 0 ≤ n) (hnw : wa + n ≤ 16) :
 Calls Tryz.prog 148 #[.agg #[.int .i64 31, .int .i64 (p : Int), .int .i64 b, .int .i64 cc, .int .i64 n, .int .i64 m, .int .i64 xi, .int .i64 xw, .string nm], .slice (some ⟨bv, ov, none⟩) I d, .func (.func 147) #[] #[.pointer (some ⟨Bm, 0, none⟩)]] w fun e w' => OutV bv w e w' [grow1 wa a n false] := by
 obtain ⟨hmf, heg1, heg2, heg3, hfd⟩ := value_facts
 unfold OutV
 go_enter Tryz.func148, Tryz.ntmps148
 go_upto_region 3 with fail
 obtain ⟨W1, hW1, HB, HG, x0, x1, x2, x3, x4, x5, xv, xr, xf⟩ := value_world 31 (p : Int) b cc n m xi xw nm bv ov I d w
 rw [hW1]
 clear hW1
 have hm := Later.cell (keepcell HB.out hm)
 have hsa := Later.cell (keepcell HB.out hsa)
 have hva := Later.cell (keepcell HB.out hva)
 have hia := Later.cell (keepcell HB.out hia)
 have hwa := Later.cell (keepcell HB.out hwa)
 have HCL := Lib.hid (fun (l : Later W1) (p b1 o1 c1 : Nat) (v : Int) (h1 : p < I) (h2 : l.val.cell? ⟨bv, ov + p, none⟩ = some (.slice (some ⟨b1, o1, none⟩) 1 c1)) (h3 : l.val.cell? ⟨b1, o1, none⟩ = some (.int .i64 v)) => cell_same (w.heap.size + 1) bv ov I d p b1 o1 c1 v l.val (xv l) h1 h2 h3)
 have HSR := Lib.hid (fun (l : Later W1) (p : Nat) (xi xw : Int) (h1 : p < N) (h2 : l.val.cell? ⟨bn, on + p * 9 + 6, none⟩ = some (.int .i64 xi)) (h3 : l.val.cell? ⟨bn, on + p * 9 + 7, none⟩ = some (.int .i64 xw)) => sorts_calls Bm bn on N c p xi xw l.val (hm l) h1 h2 h3)
 refine at_world (w := W1) ?_
 intro u1
 go_upto_region 24 with fail
 refine wp_region_later_tail (w0 := W1) 16 (by kernel_rfl) (by kernel_rfl) ⟨u1, rfl⟩ ?_
 simp only [List.take_succ_cons, List.take_zero, List.drop_succ_cons, List.drop_zero]
 repeat (go_big_quiet_step (first | (go_at_call 197; exact Calls.later (Makes.of_same (HCL.out _ p b1 o1 c1 a hpI (hsa _) (hva _)))) | (go_at_call 147; exact Calls.later (HSR.out _ p ia wa hp (hia _) (hwa _))) | (go_at_call 200; exact Calls.later_eq (Makes.of_same (grow_same wa a n false ha hn0 hnw _)) (show _ = Value.int .i64 (grow1 wa a n false) from rfl))))
 refine wpQuiet_nil ?_
 rintro _ ⟨u2, rfl⟩
 go_wp2_with (go_at_call 198; refine (word_calls (grow1 wa a n false) u2.val).mono ?_; rintro e w' ⟨s, rfl, hb, hr, hg⟩; obtain ⟨sA, sn, sc, rfl⟩ := rowI_slice hr; have f0 : w'.frozen? ⟨w.heap.size + 1 + 1, 0, none⟩ = false := (lift_frozen (later_step u2 hb) xf) ⟨w', Below.refl _ _⟩; have r0 : w'.cell? ⟨w.heap.size + 1 + 1, 0, none⟩ = some (.slice none 0 0) := (lift_cell (later_step u2 hb) xr) ⟨w', Below.refl _ _⟩; have HD := Lib.hid (And.intro hb (And.intro hr (And.intro hg r0))); clear hb hr hg)
 have hd := value_done (u1 := u2) HB.out HG.out HD.out.1 HD.out.2.1 HD.out.2.2.1 hbv
 have rc := World.cell?_setCell_same _ _ (Value.slice sA sn sc) HD.out.2.2.2
 exact bodyPost_ret (v := .agg #[.slice sA sn sc]) (by simp [results, Tryz.results148, go_sem, rc]) rfl ⟨_, rfl, hd.1, hd.2.1, hd.2.2⟩
theorem vNode_32 (b cc : Int) (n m xi xw : Int) (nm : ByteArray) (Bm bn on N c bv ov I d p : Nat) (b1 o1 c1 : Nat) (a ia wa : Int) (w : World) (hN : N ≤ 281474976710656) (hI : I ≤ 281474976710656) (hbv : bv < w.heap.size) (hm : w.cell? ⟨Bm, 0, none⟩ = some (.slice (some ⟨bn, on, none⟩) N c)) (hpI : p < I) (hsa : w.cell? ⟨bv, ov + p, none⟩ = some (.slice (some ⟨b1, o1, none⟩) 1 c1)) (hva : w.cell? ⟨b1, o1, none⟩ = some (.int .i64 a)) (hp : p < N) (hia : w.cell? ⟨bn, on + p * 9 + 6, none⟩ = some (.int .i64 ia)) (hwa : w.cell? ⟨bn, on + p * 9 + 7, none⟩ = some (.int .i64 wa)) (ha : Wo wa a) (hn0 : 0 ≤ n) (hnw : wa + n ≤ 16) :
 Calls Tryz.prog 148 #[.agg #[.int .i64 32, .int .i64 (p : Int), .int .i64 b, .int .i64 cc, .int .i64 n, .int .i64 m, .int .i64 xi, .int .i64 xw, .string nm], .slice (some ⟨bv, ov, none⟩) I d, .func (.func 147) #[] #[.pointer (some ⟨Bm, 0, none⟩)]] w fun e w' => OutV bv w e w' [grow1 wa a n true] := by
 obtain ⟨hmf, heg1, heg2, heg3, hfd⟩ := value_facts
 unfold OutV
 go_enter Tryz.func148, Tryz.ntmps148
 go_upto_region 3 with fail
 obtain ⟨W1, hW1, HB, HG, x0, x1, x2, x3, x4, x5, xv, xr, xf⟩ := value_world 32 (p : Int) b cc n m xi xw nm bv ov I d w
 rw [hW1]
 clear hW1
 have hm := Later.cell (keepcell HB.out hm)
 have hsa := Later.cell (keepcell HB.out hsa)
 have hva := Later.cell (keepcell HB.out hva)
 have hia := Later.cell (keepcell HB.out hia)
 have hwa := Later.cell (keepcell HB.out hwa)
 have HCL := Lib.hid (fun (l : Later W1) (p b1 o1 c1 : Nat) (v : Int) (h1 : p < I) (h2 : l.val.cell? ⟨bv, ov + p, none⟩ = some (.slice (some ⟨b1, o1, none⟩) 1 c1)) (h3 : l.val.cell? ⟨b1, o1, none⟩ = some (.int .i64 v)) => cell_same (w.heap.size + 1) bv ov I d p b1 o1 c1 v l.val (xv l) h1 h2 h3)
 have HSR := Lib.hid (fun (l : Later W1) (p : Nat) (xi xw : Int) (h1 : p < N) (h2 : l.val.cell? ⟨bn, on + p * 9 + 6, none⟩ = some (.int .i64 xi)) (h3 : l.val.cell? ⟨bn, on + p * 9 + 7, none⟩ = some (.int .i64 xw)) => sorts_calls Bm bn on N c p xi xw l.val (hm l) h1 h2 h3)
 refine at_world (w := W1) ?_
 intro u1
 go_upto_region 24 with fail
 refine wp_region_later_tail (w0 := W1) 16 (by kernel_rfl) (by kernel_rfl) ⟨u1, rfl⟩ ?_
 simp only [List.take_succ_cons, List.take_zero, List.drop_succ_cons, List.drop_zero]
 repeat (go_big_quiet_step (first | (go_at_call 197; exact Calls.later (Makes.of_same (HCL.out _ p b1 o1 c1 a hpI (hsa _) (hva _)))) | (go_at_call 147; exact Calls.later (HSR.out _ p ia wa hp (hia _) (hwa _))) | (go_at_call 200; exact Calls.later_eq (Makes.of_same (grow_same wa a n true ha hn0 hnw _)) (show _ = Value.int .i64 (grow1 wa a n true) from rfl))))
 refine wpQuiet_nil ?_
 rintro _ ⟨u2, rfl⟩
 go_wp2_with (go_at_call 198; refine (word_calls (grow1 wa a n true) u2.val).mono ?_; rintro e w' ⟨s, rfl, hb, hr, hg⟩; obtain ⟨sA, sn, sc, rfl⟩ := rowI_slice hr; have f0 : w'.frozen? ⟨w.heap.size + 1 + 1, 0, none⟩ = false := (lift_frozen (later_step u2 hb) xf) ⟨w', Below.refl _ _⟩; have r0 : w'.cell? ⟨w.heap.size + 1 + 1, 0, none⟩ = some (.slice none 0 0) := (lift_cell (later_step u2 hb) xr) ⟨w', Below.refl _ _⟩; have HD := Lib.hid (And.intro hb (And.intro hr (And.intro hg r0))); clear hb hr hg)
 have hd := value_done (u1 := u2) HB.out HG.out HD.out.1 HD.out.2.1 HD.out.2.2.1 hbv
 have rc := World.cell?_setCell_same _ _ (Value.slice sA sn sc) HD.out.2.2.2
 exact bodyPost_ret (v := .agg #[.slice sA sn sc]) (by simp [results, Tryz.results148, go_sem, rc]) rfl ⟨_, rfl, hd.1, hd.2.1, hd.2.2⟩
theorem vNode_one (k b cc : Int) (n m xi xw : Int) (nm : ByteArray) (Bm bn on N c bv ov I d p : Nat) (b1 o1 c1 : Nat) (a ia wa : Int) (w : World) (hN : N ≤ 281474976710656) (hI : I ≤ 281474976710656) (hbv : bv < w.heap.size) (hm : w.cell? ⟨Bm, 0, none⟩ = some (.slice (some ⟨bn, on, none⟩) N c)) (hpI : p < I) (hsa : w.cell? ⟨bv, ov + p, none⟩ = some (.slice (some ⟨b1, o1, none⟩) 1 c1)) (hva : w.cell? ⟨b1, o1, none⟩ = some (.int .i64 a)) (hp : p < N) (hia : w.cell? ⟨bn, on + p * 9 + 6, none⟩ = some (.int .i64 ia)) (hwa : w.cell? ⟨bn, on + p * 9 + 7, none⟩ = some (.int .i64 wa)) (ha : Wo wa a) (hk1 : 1 ≤ k) (hk5 : k ≤ 5) :
 Calls Tryz.prog 148 #[.agg #[.int .i64 k, .int .i64 (p : Int), .int .i64 b, .int .i64 cc, .int .i64 n, .int .i64 m, .int .i64 xi, .int .i64 xw, .string nm], .slice (some ⟨bv, ov, none⟩) I d, .func (.func 147) #[] #[.pointer (some ⟨Bm, 0, none⟩)]] w fun e w' => OutV bv w e w' [one1 k wa a] := by
 obtain ⟨hmf, heg1, heg2, heg3, hfd⟩ := value_facts
 unfold OutV
 go_enter Tryz.func148, Tryz.ntmps148
 go_upto_region 3 with fail
 obtain ⟨W1, hW1, HB, HG, x0, x1, x2, x3, x4, x5, xv, xr, xf⟩ := value_world k (p : Int) b cc n m xi xw nm bv ov I d w
 rw [hW1]
 clear hW1
 have hm := Later.cell (keepcell HB.out hm)
 have hsa := Later.cell (keepcell HB.out hsa)
 have hva := Later.cell (keepcell HB.out hva)
 have hia := Later.cell (keepcell HB.out hia)
 have hwa := Later.cell (keepcell HB.out hwa)
 have HCL := Lib.hid (fun (l : Later W1) (p b1 o1 c1 : Nat) (v : Int) (h1 : p < I) (h2 : l.val.cell? ⟨bv, ov + p, none⟩ = some (.slice (some ⟨b1, o1, none⟩) 1 c1)) (h3 : l.val.cell? ⟨b1, o1, none⟩ = some (.int .i64 v)) => cell_same (w.heap.size + 1) bv ov I d p b1 o1 c1 v l.val (xv l) h1 h2 h3)
 have HSR := Lib.hid (fun (l : Later W1) (p : Nat) (xi xw : Int) (h1 : p < N) (h2 : l.val.cell? ⟨bn, on + p * 9 + 6, none⟩ = some (.int .i64 xi)) (h3 : l.val.cell? ⟨bn, on + p * 9 + 7, none⟩ = some (.int .i64 xw)) => sorts_calls Bm bn on N c p xi xw l.val (hm l) h1 h2 h3)
 refine at_world (w := W1) ?_
 intro u1
 have k34 : (k == 34) = false := beq_eq_false_iff_ne.2 (by omega)
 have k33 : (k == 33) = false := beq_eq_false_iff_ne.2 (by omega)
 have k21 : (k == 21) = false := beq_eq_false_iff_ne.2 (by omega)
 have k37 : (k == 37) = false := beq_eq_false_iff_ne.2 (by omega)
 have k38 : (k == 38) = false := beq_eq_false_iff_ne.2 (by omega)
 have k29 : (k == 29) = false := beq_eq_false_iff_ne.2 (by omega)
 have k30 : (k == 30) = false := beq_eq_false_iff_ne.2 (by omega)
 have k31 : (k == 31) = false := beq_eq_false_iff_ne.2 (by omega)
 have k32 : (k == 32) = false := beq_eq_false_iff_ne.2 (by omega)
 have hpt := parts_same k
 rw [(partsN_eq k).2.1 ⟨hk1, hk5⟩] at hpt
 have HPT := Lib.hid hpt
 clear hpt
 go_upto_region 26 with (go_at_call 75; refine (HPT.out _).mono ?_; rintro e w' ⟨rfl, rfl⟩)
 refine wp_region_later (w0 := W1) (by kernel_rfl) (by kernel_rfl) ⟨u1, rfl⟩ ?_
 repeat (go_big_quiet_step (first | (go_at_call 197; exact Calls.later (Makes.of_same (HCL.out _ p b1 o1 c1 a hpI (hsa _) (hva _)))) | (go_at_call 147; exact Calls.later (HSR.out _ p ia wa hp (hia _) (hwa _))) | (go_at_call 201; exact Calls.later (Makes.of_same (one_same k wa a hk1 hk5 ha _)))))
 refine wpQuiet_nil ?_
 rintro _ ⟨u2, rfl⟩
 go_wp2_with (go_at_call 198; refine (word_calls (one1 k wa a) u2.val).mono ?_; rintro e w' ⟨s, rfl, hb, hr, hg⟩; obtain ⟨sA, sn, sc, rfl⟩ := rowI_slice hr; have f0 : w'.frozen? ⟨w.heap.size + 1 + 1, 0, none⟩ = false := (lift_frozen (later_step u2 hb) xf) ⟨w', Below.refl _ _⟩; have r0 : w'.cell? ⟨w.heap.size + 1 + 1, 0, none⟩ = some (.slice none 0 0) := (lift_cell (later_step u2 hb) xr) ⟨w', Below.refl _ _⟩; have HD := Lib.hid (And.intro hb (And.intro hr (And.intro hg r0))); clear hb hr hg)
 have hd := value_done (u1 := u2) HB.out HG.out HD.out.1 HD.out.2.1 HD.out.2.2.1 hbv
 have rc := World.cell?_setCell_same _ _ (Value.slice sA sn sc) HD.out.2.2.2
 exact bodyPost_ret (v := .agg #[.slice sA sn sc]) (by simp [results, Tryz.results148, go_sem, rc]) rfl ⟨_, rfl, hd.1, hd.2.1, hd.2.2⟩
theorem vNode_two (k cc : Int) (n m xi xw : Int) (nm : ByteArray) (Bm bn on N c bv ov I d p : Nat) (q b1 o1 c1 b2 o2 c2 : Nat) (a bb : Int) (ia wa : Int) (w : World) (hN : N ≤ 281474976710656) (hI : I ≤ 281474976710656) (hbv : bv < w.heap.size) (hm : w.cell? ⟨Bm, 0, none⟩ = some (.slice (some ⟨bn, on, none⟩) N c)) (hpI : p < I) (hsa : w.cell? ⟨bv, ov + p, none⟩ = some (.slice (some ⟨b1, o1, none⟩) 1 c1)) (hva : w.cell? ⟨b1, o1, none⟩ = some (.int .i64 a)) (hqI : q < I) (hsb : w.cell? ⟨bv, ov + q, none⟩ = some (.slice (some ⟨b2, o2, none⟩) 1 c2)) (hvb : w.cell? ⟨b2, o2, none⟩ = some (.int .i64 bb)) (hp : p < N) (hia : w.cell? ⟨bn, on + p * 9 + 6, none⟩ = some (.int .i64 ia)) (hwa : w.cell? ⟨bn, on + p * 9 + 7, none⟩ = some (.int .i64 wa)) (ha : Wo wa a) (hb : Wo wa bb) (hk6 : 6 ≤ k) (hk28 : k ≤ 28) (hk21 : k ≠ 21) :
 Calls Tryz.prog 148 #[.agg #[.int .i64 k, .int .i64 (p : Int), .int .i64 (q : Int), .int .i64 cc, .int .i64 n, .int .i64 m, .int .i64 xi, .int .i64 xw, .string nm], .slice (some ⟨bv, ov, none⟩) I d, .func (.func 147) #[] #[.pointer (some ⟨Bm, 0, none⟩)]] w fun e w' => OutV bv w e w' [two1 k wa a bb] := by
 obtain ⟨hmf, heg1, heg2, heg3, hfd⟩ := value_facts
 unfold OutV
 go_enter Tryz.func148, Tryz.ntmps148
 go_upto_region 3 with fail
 obtain ⟨W1, hW1, HB, HG, x0, x1, x2, x3, x4, x5, xv, xr, xf⟩ := value_world k (p : Int) (q : Int) cc n m xi xw nm bv ov I d w
 rw [hW1]
 clear hW1
 have hm := Later.cell (keepcell HB.out hm)
 have hsa := Later.cell (keepcell HB.out hsa)
 have hva := Later.cell (keepcell HB.out hva)
 have hsb := Later.cell (keepcell HB.out hsb)
 have hvb := Later.cell (keepcell HB.out hvb)
 have hia := Later.cell (keepcell HB.out hia)
 have hwa := Later.cell (keepcell HB.out hwa)
 have HCL := Lib.hid (fun (l : Later W1) (p b1 o1 c1 : Nat) (v : Int) (h1 : p < I) (h2 : l.val.cell? ⟨bv, ov + p, none⟩ = some (.slice (some ⟨b1, o1, none⟩) 1 c1)) (h3 : l.val.cell? ⟨b1, o1, none⟩ = some (.int .i64 v)) => cell_same (w.heap.size + 1) bv ov I d p b1 o1 c1 v l.val (xv l) h1 h2 h3)
 have HSR := Lib.hid (fun (l : Later W1) (p : Nat) (xi xw : Int) (h1 : p < N) (h2 : l.val.cell? ⟨bn, on + p * 9 + 6, none⟩ = some (.int .i64 xi)) (h3 : l.val.cell? ⟨bn, on + p * 9 + 7, none⟩ = some (.int .i64 xw)) => sorts_calls Bm bn on N c p xi xw l.val (hm l) h1 h2 h3)
 refine at_world (w := W1) ?_
 intro u1
 have k34 : (k == 34) = false := beq_eq_false_iff_ne.2 (by omega)
 have k33 : (k == 33) = false := beq_eq_false_iff_ne.2 (by omega)
 have k21 : (k == 21) = false := beq_eq_false_iff_ne.2 (by omega)
 have k37 : (k == 37) = false := beq_eq_false_iff_ne.2 (by omega)
 have k38 : (k == 38) = false := beq_eq_false_iff_ne.2 (by omega)
 have k29 : (k == 29) = false := beq_eq_false_iff_ne.2 (by omega)
 have k30 : (k == 30) = false := beq_eq_false_iff_ne.2 (by omega)
 have k31 : (k == 31) = false := beq_eq_false_iff_ne.2 (by omega)
 have k32 : (k == 32) = false := beq_eq_false_iff_ne.2 (by omega)
 have hpt := parts_same k
 rw [(partsN_eq k).2.2.1 ⟨hk6, by omega⟩] at hpt
 have HPT := Lib.hid hpt
 clear hpt
 go_upto_region 28 with (go_at_call 75; refine (HPT.out _).mono ?_; rintro e w' ⟨rfl, rfl⟩)
 refine wp_region_later (w0 := W1) (by kernel_rfl) (by kernel_rfl) ⟨u1, rfl⟩ ?_
 repeat (go_big_quiet_step (first | (go_at_call 197; first | (with_reducible exact Calls.later (Makes.of_same (HCL.out _ p b1 o1 c1 a hpI (hsa _) (hva _)))) | (with_reducible exact Calls.later (Makes.of_same (HCL.out _ q b2 o2 c2 bb hqI (hsb _) (hvb _))))) | (go_at_call 147; exact Calls.later (HSR.out _ p ia wa hp (hia _) (hwa _))) | (go_at_call 202; exact Calls.later (two_full k wa a bb hk6 hk28 ha hb _))))
 refine wpQuiet_nil ?_
 rintro _ ⟨u2, rfl⟩
 go_wp2_with (go_at_call 198; refine (word_calls (two1 k wa a bb) u2.val).mono ?_; rintro e w' ⟨s, rfl, hb, hr, hg⟩; obtain ⟨sA, sn, sc, rfl⟩ := rowI_slice hr; have f0 : w'.frozen? ⟨w.heap.size + 1 + 1, 0, none⟩ = false := (lift_frozen (later_step u2 hb) xf) ⟨w', Below.refl _ _⟩; have r0 : w'.cell? ⟨w.heap.size + 1 + 1, 0, none⟩ = some (.slice none 0 0) := (lift_cell (later_step u2 hb) xr) ⟨w', Below.refl _ _⟩; have HD := Lib.hid (And.intro hb (And.intro hr (And.intro hg r0))); clear hb hr hg)
 have hd := value_done (u1 := u2) HB.out HG.out HD.out.1 HD.out.2.1 HD.out.2.2.1 hbv
 have rc := World.cell?_setCell_same _ _ (Value.slice sA sn sc) HD.out.2.2.2
 exact bodyPost_ret (v := .agg #[.slice sA sn sc]) (by simp [results, Tryz.results148, go_sem, rc]) rfl ⟨_, rfl, hd.1, hd.2.1, hd.2.2⟩
theorem vNode_38 (n m xi xw : Int) (nm : ByteArray) (Bm bn on N c bv ov I d p : Nat) (q r l1 c1 b2 o2 c2 b3 o3 c3 y : Nat) (A1 : Option Addr) (xs : List Int) (z : Int) (w : World) (hN : N ≤ 281474976710656) (hI : I ≤ 281474976710656) (hbv : bv < w.heap.size) (hm : w.cell? ⟨Bm, 0, none⟩ = some (.slice (some ⟨bn, on, none⟩) N c)) (hpI : p < I) (hsa : w.cell? ⟨bv, ov + p, none⟩ = some (.slice A1 l1 c1)) (hxs : SlN enI w (.slice A1 l1 c1) xs) (hxl : xs.length ≤ 1048576) (hqI : q < I) (hsb : w.cell? ⟨bv, ov + q, none⟩ = some (.slice (some ⟨b2, o2, none⟩) 1 c2)) (hvb : w.cell? ⟨b2, o2, none⟩ = some (.int .i64 (y : Int))) (hrI : r < I) (hsc : w.cell? ⟨bv, ov + r, none⟩ = some (.slice (some ⟨b3, o3, none⟩) 1 c3)) (hvc : w.cell? ⟨b3, o3, none⟩ = some (.int .i64 z)) (hy : y < xs.length) :
 Calls Tryz.prog 148 #[.agg #[.int .i64 38, .int .i64 (p : Int), .int .i64 (q : Int), .int .i64 (r : Int), .int .i64 n, .int .i64 m, .int .i64 xi, .int .i64 xw, .string nm], .slice (some ⟨bv, ov, none⟩) I d, .func (.func 147) #[] #[.pointer (some ⟨Bm, 0, none⟩)]] w fun e w' => OutV bv w e w' (xs.set y z) := by
 obtain ⟨hmf, heg1, heg2, heg3, hfd⟩ := value_facts
 unfold OutV
 go_enter Tryz.func148, Tryz.ntmps148
 go_upto_region 3 with fail
 obtain ⟨W1, hW1, HB, HG, x0, x1, x2, x3, x4, x5, xv, xr, xf⟩ := value_world 38 (p : Int) (q : Int) (r : Int) n m xi xw nm bv ov I d w
 rw [hW1]
 clear hW1
 have hm := Later.cell (keepcell HB.out hm)
 have hsa := Later.cell (keepcell HB.out hsa)
 have hxs := hxs.below HB.out
 have hsb := Later.cell (keepcell HB.out hsb)
 have hvb := Later.cell (keepcell HB.out hvb)
 have hsc := Later.cell (keepcell HB.out hsc)
 have hvc := Later.cell (keepcell HB.out hvc)
 have HCL := Lib.hid (fun (l : Later W1) (p b1 o1 c1 : Nat) (v : Int) (h1 : p < I) (h2 : l.val.cell? ⟨bv, ov + p, none⟩ = some (.slice (some ⟨b1, o1, none⟩) 1 c1)) (h3 : l.val.cell? ⟨b1, o1, none⟩ = some (.int .i64 v)) => cell_same (w.heap.size + 1) bv ov I d p b1 o1 c1 v l.val (xv l) h1 h2 h3)
 have HSR := Lib.hid (fun (l : Later W1) (p : Nat) (xi xw : Int) (h1 : p < N) (h2 : l.val.cell? ⟨bn, on + p * 9 + 6, none⟩ = some (.int .i64 xi)) (h3 : l.val.cell? ⟨bn, on + p * 9 + 7, none⟩ = some (.int .i64 xw)) => sorts_calls Bm bn on N c p xi xw l.val (hm l) h1 h2 h3)
 refine at_world (w := W1) ?_
 intro u1
 have hpI' : (p : Int) < I := by omega
 have HCI := Lib.hid (cloneInts_calls (.slice A1 l1 c1) xs u1.val (hxs.later u1) (by omega) hxl)
 clear hxs
 go_upto_region 16 with (go_at_call 146; refine (HCI.out).mono ?_; rintro e w' ⟨s, rfl, hb, hr, hg⟩; obtain ⟨g, cap, rfl, hown⟩ := rowI_some hr (by omega); have HD := Lib.hid (And.intro hb (And.intro hr hg)); clear hb hr hg hown)
 obtain ⟨W2, hW2⟩ : ∃ W2, W2 = w'.alloc (Obj.cells #[.slice (some ⟨g, 0, none⟩) xs.length cap] 40) := ⟨_, rfl⟩
 obtain ⟨gb, hgb⟩ : ∃ g, g = w'.heap.size := ⟨_, rfl⟩
 rw [← hW2, ← hgb]
 have hb1 : Below u1.val.heap.size u1.val W2 := hW2 ▸ HD.out.1.alloc (HD.out.1.size) _
 have hb2 : Below w'.heap.size w' W2 := hW2 ▸ (Below.refl _ _).alloc (Nat.le_refl _) _
 have hr2 : RowI W2 (.slice (some ⟨g, 0, none⟩) xs.length cap) xs := HD.out.2.1.below hb2
 have hgu : u1.val.heap.size ≤ g := HD.out.2.2 g rfl
 have hgw : g < w'.heap.size := HD.out.2.1.lt rfl
 have hL2 : LaterC W1 W2 := later_step u1 hb1
 have d0 : ∀ u : Later W2, u.val.cell? ⟨gb, 0, none⟩ = some (.slice (some ⟨g, 0, none⟩) xs.length cap) := Later.cell (by rw [hW2, hgb]; simp)
 obtain ⟨t0, ht0⟩ := rowI_cell hr2 hy
 have d1 := Later.cell ht0
 have d2 : ∀ u : Later W2, u.val.frozen? ⟨g, y, none⟩ = false := Later.frozen (rowI_frozen hr2 y) (World.block_lt_of_cell? _ _ ht0)
 have x2 := lift_cell hL2 x2
 have x3 := lift_cell hL2 x3
 have xv := lift_cell hL2 xv
 have xr := lift_cell hL2 xr
 have xf := lift_frozen hL2 xf
 have hsb := lift_cell hL2 hsb
 have hvb := lift_cell hL2 hvb
 have hsc := lift_cell hL2 hsc
 have hvc := lift_cell hL2 hvc
 have HH := Lib.hid (And.intro hb1 (And.intro hr2 (And.intro hgu (And.intro hgw (show gb ≠ g by omega)))))
 have hyl : (y : Int) < xs.length := by omega
 have HG2 := Lib.hid (show w.heap.size + 1 + 1 < u1.val.heap.size by have h1 := HG.out; have h2 := u1.size; omega)
 have HCB := Lib.hid (fun (l : Later W2) => cell_same (w.heap.size + 1) bv ov I d q b2 o2 c2 (y : Int) l.val (xv l) hqI (hsb l) (hvb l))
 have HCC := Lib.hid (fun (l : Later W2) => cell_same (w.heap.size + 1) bv ov I d r b3 o3 c3 z l.val (xv l) hrI (hsc l) (hvc l))
 clear hb1 hb2 hr2 hgu hgw hL2 hW2 ht0 hgb
 refine wp_region_later_tail (w0 := W2) 11 (by kernel_rfl) (by kernel_rfl) (LaterC.refl _) ?_
 simp only [List.take_succ_cons, List.take_zero, List.drop_succ_cons, List.drop_zero]
 repeat (go_big_quiet_step ((go_at_call 197; first | (with_reducible exact Calls.later (Makes.of_same (HCB.out _))) | (with_reducible exact Calls.later (Makes.of_same (HCC.out _))))))
 refine wpQuiet_nil ?_
 rintro _ ⟨u2, rfl⟩
 go_upto_region 17 with fail
 have e0 : (u2.val.setCell ⟨g, y, none⟩ (.int .i64 z)).cell? ⟨gb, 0, none⟩ = some (.slice (some ⟨g, 0, none⟩) xs.length cap) := (World.cell?_setCell_far _ _ _ _ (fun e => HH.out.2.2.2.2 e.symm)).trans (d0 u2)
 have e1 : (u2.val.setCell ⟨g, y, none⟩ (.int .i64 z)).cell? ⟨w.heap.size + 1 + 1, 0, none⟩ = some (.slice none 0 0) := (World.cell?_setCell_far _ _ _ _ (fun e => by have h1 := HH.out.2.2.1; have h2 := HG2.out; simp at e; omega)).trans (xr u2)
 have e2 : (u2.val.setCell ⟨g, y, none⟩ (.int .i64 z)).frozen? ⟨w.heap.size + 1 + 1, 0, none⟩ = false := by simpa using xf u2
 have hd := value_done (u1 := u1) (w' := u2.val.setCell ⟨g, y, none⟩ (.int .i64 z)) HB.out HG.out ((HH.out.1.trans (u2.prop.mono HH.out.1.size)).setCell HH.out.2.2.1 _) ((HH.out.2.1.below u2.prop).putAt hy z) (fun b hb => by cases hb; exact HH.out.2.2.1) hbv
 generalize u2.val.setCell ⟨g, y, none⟩ (.int .i64 z) = W3 at *
 go_wp2
 have rc := World.cell?_setCell_same _ _ (Value.slice (some ⟨g, 0, none⟩) xs.length cap) e1
 exact bodyPost_ret (v := .agg #[.slice (some ⟨g, 0, none⟩) xs.length cap]) (by simp [results, Tryz.results148, go_sem, rc]) rfl ⟨_, rfl, hd.1, hd.2.1, hd.2.2⟩
theorem part_at' {ns : List Nd} {L : List (List Int)} {i p g : Nat} {bn on : Nat} {w : World} (h : PartAt ns i (p : Int)) (hi : L.length = i) (hin : i ≤ ns.length)
 (hA : ∀ (i : Nat) (x : Nd), ns[i]? = some x → CellsAt enNd w bn on i x)
 (hB : ∀ (i : Nat) (xs : List Int), L[i]? = some xs → ∃ sv, w.cell? ⟨g, i, none⟩ = some sv ∧ SlN enI w sv xs ∧ NotIn g sv) :
 p < ns.length ∧ w.cell? ⟨bn, on + p * 9 + 6, none⟩ = some (.int .i64 (pN ns (p : Int)).idx) ∧ w.cell? ⟨bn, on + p * 9 + 7, none⟩ = some (.int .i64 (pN ns (p : Int)).wid) ∧ ∃ sv, w.cell? ⟨g, 0 + p, none⟩ = some sv ∧ SlN enI w sv (vN L (p : Int)) ∧ NotIn g sv := by
 have h2 := h.hi
 have e1 := hA p _ (getD_at (show p < ns.length by omega) Nd.zero)
 obtain ⟨sv, e4, e5, e6⟩ := hB p _ (getD_at (show p < L.length by omega) [])
 exact ⟨by omega, e1 6 _ rfl, e1 7 _ rfl, sv, by rw [Nat.zero_add]; exact e4, e5, e6⟩
theorem value_calls (nv : Value) (ns : List Nd) (x : Nd) (L : List (List Int)) (i g I d Bm : Nat) (w : World) (hm : w.cell? ⟨Bm, 0, none⟩ = some nv) (hS : SlN enNd w nv ns) (hB : ∀ (i : Nat) (xs : List Int), L[i]? = some xs → ∃ sv, w.cell? ⟨g, i, none⟩ = some sv ∧ SlN enI w sv xs ∧ NotIn g sv) (hI : I ≤ 281474976710656) (hiI : i ≤ I) (hg : g < w.heap.size)
 (hi : L.length = i) (hin : i ≤ ns.length) (hns : 0 < ns.length) (hk : Kinds ns i x) (hp : x.kind ≠ 35 ∧ x.kind ≠ 36) (hL : ∀ p, PartAt ns i p → valB (pN ns p) (vN L p) = true) :
 Calls Tryz.prog 148 #[nodeV x, .slice (some ⟨g, 0, none⟩) I d, .func (.func 147) #[] #[.pointer (some ⟨Bm, 0, none⟩)]] w fun e w' => OutV g w e w' (if x.kind = 34 then [x.n] else reckN ns x L) := by
 obtain ⟨A, c, rfl, hnc, hc', hA⟩ := hS
 obtain ⟨bn, on, rfl, -⟩ := hA 0 _ (getD_at hns Nd.zero)
 have hA : ∀ (i : Nat) (x : Nd), ns[i]? = some x → CellsAt enNd w bn on i x := fun i x h => by
  obtain ⟨b, o, e, hc⟩ := hA i x h
  cases e
  exact hc
 obtain ⟨k, a, b, cc, n, m, xi, xw, nm⟩ := x
 unfold reckN
 dsimp only [nodeV]
 dsimp only at hp ⊢
 rcases hk with ⟨k0, -⟩ | ⟨k0, -⟩ | ⟨k0, ha, hb, hc, h1, h2, h3, h4, h5, h6⟩ | ⟨k0, ha, hb, h1, h2, h3, h4, h5⟩ | ⟨k0, ha, hb, hc, h1, h2, h3, h4, h5, h6, h7⟩ | ⟨k0, ha, hb, h1, h2, h3, h4⟩ | ⟨k0, ha, hb, h1, h2, h3, h4, h5⟩ | ⟨k0, ha, h1, h2, h3, h4, h5, h6⟩ | ⟨k0, ha, h1, h2, h3, h4, h5⟩ | ⟨k0, ha, h1, h2, h3⟩ | ⟨k0, ha, hb, h1, h2, h3, h4, h5⟩
 · dsimp only at *
   subst k0
   rw [if_pos rfl]
   exact vNode_34 _ _ _ _ _ _ _ _ Bm bn on _ _ g 0 I d 0 w hc' hI hg hm
 · exact absurd k0 (by dsimp only; omega)
 · dsimp only at *
   subst k0
   obtain ⟨p, rfl⟩ := Int.eq_ofNat_of_zero_le ha.lo
   obtain ⟨a1, a2, a3, sa, a4, a5, a7⟩ := part_at' ha hi hin hA hB
   obtain ⟨va, ea, wa, ca⟩ := part_word ha (hL _ ha) h1
   rw [ea] at a5
   obtain ⟨b1, o1, c1, rfl, a6⟩ := slN_word a5
   rw [if_neg (by decide), if_pos rfl, ca]
   by_cases hv : va = 1
   · subst hv
     rw [if_pos rfl]
     obtain ⟨q, rfl⟩ := Int.eq_ofNat_of_zero_le hb.lo
     obtain ⟨q1, q2, q3, sb, q4, q5, q7⟩ := part_at' hb hi hin hA hB
     have hvs := val_short (hL _ hb)
     obtain ⟨A2, c2, rfl, q6⟩ := q5
     exact vNode_33t _ _ _ _ _ _ Bm bn on _ _ g 0 I d p q _ _ b1 o1 c1 A2 _ w hc' hI hg hm (by have := ha.hi; omega) a4 a6 (by have := hb.hi; omega) q4 ⟨A2, c2, rfl, q6⟩ q7
   · rw [if_neg hv]
     obtain ⟨q, rfl⟩ := Int.eq_ofNat_of_zero_le hc.lo
     obtain ⟨q1, q2, q3, sb, q4, q5, q7⟩ := part_at' hc hi hin hA hB
     have hvs := val_short (hL _ hc)
     obtain ⟨A2, c2, rfl, q6⟩ := q5
     exact vNode_33f _ _ _ _ _ _ Bm bn on _ _ g 0 I d p q _ _ b1 o1 c1 A2 _ _ hv w hc' hI hg hm (by have := ha.hi; omega) a4 a6 (by have := hc.hi; omega) q4 ⟨A2, c2, rfl, q6⟩ q7
 · dsimp only at *
   subst k0
   obtain ⟨p, rfl⟩ := Int.eq_ofNat_of_zero_le ha.lo
   obtain ⟨a1, a2, a3, sa, a4, a5, a7⟩ := part_at' ha hi hin hA hB
   obtain ⟨hl, hc⟩ := part_val (hL _ ha) ha.sok
   obtain ⟨q, rfl⟩ := Int.eq_ofNat_of_zero_le hb.lo
   obtain ⟨q1, q2, q3, sb, q4, q5, q7⟩ := part_at' hb hi hin hA hB
   obtain ⟨vb, eb, wb, cb⟩ := part_word hb (hL _ hb) h2
   rw [eb] at q5
   obtain ⟨b2, o2, c2, rfl, q6⟩ := slN_word q5
   obtain ⟨A1, c1, rfl, hl1, hl2, a6⟩ := a5
   rw [h3] at wb
   have hlt := wo_nat wb
   obtain ⟨y, rfl⟩ := Int.eq_ofNat_of_zero_le wb.lo
   rw [Int.toNat_natCast, ← hl] at hlt
   obtain ⟨b1, o1, rfl, hx⟩ := a6 y _ (getD_at hlt 0)
   have hx0 := hx 0 _ rfl
   rw [if_neg (by decide), if_neg (by decide), if_pos rfl, cb, Int.toNat_natCast]
   exact vNode_37 _ _ _ _ _ _ Bm bn on _ _ g 0 I d p q _ c1 b1 o1 b2 o2 c2 y _ w hc' hI hg hm (by have := ha.hi; omega) a4 (by have := hb.hi; omega) q4 q6 hlt hl2 (by simpa using hx0)
 · dsimp only at *
   subst k0
   obtain ⟨p, rfl⟩ := Int.eq_ofNat_of_zero_le ha.lo
   obtain ⟨a1, a2, a3, sa, a4, a5, a7⟩ := part_at' ha hi hin hA hB
   obtain ⟨hl, -⟩ := part_val (hL _ ha) ha.sok
   have hvs := val_short (hL _ ha)
   obtain ⟨q, rfl⟩ := Int.eq_ofNat_of_zero_le hb.lo
   obtain ⟨q1, q2, q3, sb, q4, q5, q7⟩ := part_at' hb hi hin hA hB
   obtain ⟨vb, eb, wb, cb⟩ := part_word hb (hL _ hb) h2
   rw [eb] at q5
   obtain ⟨b2, o2, c2, rfl, q6⟩ := slN_word q5
   obtain ⟨r, rfl⟩ := Int.eq_ofNat_of_zero_le hc.lo
   obtain ⟨r1, r2, r3, sc, r4, r5, r7⟩ := part_at' hc hi hin hA hB
   obtain ⟨vc, ec, wc, cc⟩ := part_word hc (hL _ hc) h4
   rw [ec] at r5
   obtain ⟨b3, o3, c3, rfl, r6⟩ := slN_word r5
   have a5' := a5
   obtain ⟨A1, c1, rfl, -⟩ := a5'
   rw [h3] at wb
   have hlt := wo_nat wb
   obtain ⟨y, rfl⟩ := Int.eq_ofNat_of_zero_le wb.lo
   rw [Int.toNat_natCast, ← hl] at hlt
   rw [if_neg (by decide), if_neg (by decide), if_neg (by decide), if_pos rfl, cb, cc, Int.toNat_natCast]
   exact vNode_38 _ _ _ _ _ Bm bn on _ _ g 0 I d p q r _ c1 b2 o2 c2 b3 o3 c3 y A1 _ _ w hc' hI hg hm (by have := ha.hi; omega) a4 a5 (by omega) (by have := hb.hi; omega) q4 q6 (by have := hc.hi; omega) r4 r6 hlt
 · dsimp only at *
   subst k0
   obtain ⟨p, rfl⟩ := Int.eq_ofNat_of_zero_le ha.lo
   obtain ⟨a1, a2, a3, sa, a4, a5, a7⟩ := part_at' ha hi hin hA hB
   obtain ⟨hl, -⟩ := part_val (hL _ ha) ha.sok
   obtain ⟨q, rfl⟩ := Int.eq_ofNat_of_zero_le hb.lo
   obtain ⟨q1, q2, q3, sb, q4, q5, q7⟩ := part_at' hb hi hin hA hB
   obtain ⟨hl', -⟩ := part_val (hL _ hb) hb.sok
   have a5' := a5
   have q5' := q5
   obtain ⟨A1, c1, rfl, -⟩ := a5'
   obtain ⟨A2, c2, rfl, -⟩ := q5'
   rw [if_neg (by decide), if_neg (by decide), if_neg (by decide), if_neg (by decide), if_pos rfl]
   exact vNode_21 _ _ _ _ _ _ Bm bn on _ _ g 0 I d p q _ c1 _ c2 A1 A2 _ _ w hc' hI hg hm (by have := ha.hi; omega) a4 a5 (by have := hb.hi; omega) q4 q5
 · dsimp only at *
   subst k0
   obtain ⟨p, rfl⟩ := Int.eq_ofNat_of_zero_le ha.lo
   obtain ⟨a1, a2, a3, sa, a4, a5, a7⟩ := part_at' ha hi hin hA hB
   obtain ⟨va, ea, wa, ca⟩ := part_word ha (hL _ ha) h1
   rw [ea] at a5
   obtain ⟨b1, o1, c1, rfl, a6⟩ := slN_word a5
   obtain ⟨q, rfl⟩ := Int.eq_ofNat_of_zero_le hb.lo
   obtain ⟨q1, q2, q3, sb, q4, q5, q7⟩ := part_at' hb hi hin hA hB
   obtain ⟨vb, eb, wb, cb⟩ := part_word hb (hL _ hb) h2
   rw [eb] at q5
   obtain ⟨b2, o2, c2, rfl, q6⟩ := slN_word q5
   rw [if_neg (by decide), if_neg (by decide), if_neg (by decide), if_neg (by decide), if_neg (by decide), if_pos rfl, ca, cb]
   exact vNode_29 _ _ _ _ _ _ Bm bn on _ _ g 0 I d p q b1 o1 c1 b2 o2 c2 va vb _ _ _ w hc' hI hg hm (by have := ha.hi; omega) a4 a6 (by have := hb.hi; omega) q4 q6 q1 q2 q3 wa wb h3
 · dsimp only at *
   subst k0
   obtain ⟨p, rfl⟩ := Int.eq_ofNat_of_zero_le ha.lo
   obtain ⟨a1, a2, a3, sa, a4, a5, a7⟩ := part_at' ha hi hin hA hB
   obtain ⟨va, ea, wa, ca⟩ := part_word ha (hL _ ha) h1
   rw [ea] at a5
   obtain ⟨b1, o1, c1, rfl, a6⟩ := slN_word a5
   rw [if_neg (by decide), if_neg (by decide), if_neg (by decide), if_neg (by decide), if_neg (by decide), if_neg (by decide), if_pos rfl, ca]
   exact (by rw [← and_mask _ _ (by have := wa.wd.hi; omega)]; exact vNode_30 _ _ _ _ _ _ _ Bm bn on _ _ g 0 I d p b1 o1 c1 va _ w hc' hI hg hm (by have := ha.hi; omega) a4 a6 wa h2 h3 h4)
 · dsimp only at *
   obtain ⟨p, rfl⟩ := Int.eq_ofNat_of_zero_le ha.lo
   obtain ⟨a1, a2, a3, sa, a4, a5, a7⟩ := part_at' ha hi hin hA hB
   obtain ⟨va, ea, wa, ca⟩ := part_word ha (hL _ ha) h1
   rw [ea] at a5
   obtain ⟨b1, o1, c1, rfl, a6⟩ := slN_word a5
   rw [if_neg (by omega), if_neg (by omega), if_neg (by omega), if_neg (by omega), if_neg (by omega), if_neg (by omega), if_neg (by omega), if_pos k0, ca]
   rcases k0 with rfl | rfl
   · exact vNode_31 _ _ _ _ _ _ _ Bm bn on _ _ g 0 I d p b1 o1 c1 va _ _ w hc' hI hg hm (by have := ha.hi; omega) a4 a6 a1 a2 a3 wa h2 h3
   · exact vNode_32 _ _ _ _ _ _ _ Bm bn on _ _ g 0 I d p b1 o1 c1 va _ _ w hc' hI hg hm (by have := ha.hi; omega) a4 a6 a1 a2 a3 wa h2 h3
 · dsimp only at *
   obtain ⟨p, rfl⟩ := Int.eq_ofNat_of_zero_le ha.lo
   obtain ⟨a1, a2, a3, sa, a4, a5, a7⟩ := part_at' ha hi hin hA hB
   obtain ⟨va, ea, wa, ca⟩ := part_word ha (hL _ ha) h1
   rw [ea] at a5
   obtain ⟨b1, o1, c1, rfl, a6⟩ := slN_word a5
   rw [if_neg (by omega), if_neg (by omega), if_neg (by omega), if_neg (by omega), if_neg (by omega), if_neg (by omega), if_neg (by omega), if_neg (by omega), if_pos k0.2, ca]
   exact vNode_one _ _ _ _ _ _ _ _ Bm bn on _ _ g 0 I d p b1 o1 c1 va _ _ w hc' hI hg hm (by have := ha.hi; omega) a4 a6 a1 a2 a3 wa k0.1 k0.2
 · dsimp only at *
   obtain ⟨p, rfl⟩ := Int.eq_ofNat_of_zero_le ha.lo
   obtain ⟨a1, a2, a3, sa, a4, a5, a7⟩ := part_at' ha hi hin hA hB
   obtain ⟨va, ea, wa, ca⟩ := part_word ha (hL _ ha) h1
   rw [ea] at a5
   obtain ⟨b1, o1, c1, rfl, a6⟩ := slN_word a5
   obtain ⟨q, rfl⟩ := Int.eq_ofNat_of_zero_le hb.lo
   obtain ⟨q1, q2, q3, sb, q4, q5, q7⟩ := part_at' hb hi hin hA hB
   obtain ⟨vb, eb, wb, cb⟩ := part_word hb (hL _ hb) h2
   rw [eb] at q5
   obtain ⟨b2, o2, c2, rfl, q6⟩ := slN_word q5
   rw [← h3] at wb
   rw [if_neg (by omega), if_neg (by omega), if_neg (by omega), if_neg (by omega), if_neg (by omega), if_neg (by omega), if_neg (by omega), if_neg (by omega), if_neg (by omega), ca, cb]
   exact vNode_two _ _ _ _ _ _ _ Bm bn on _ _ g 0 I d p q b1 o1 c1 b2 o2 c2 va vb _ _ w hc' hI hg hm (by have := ha.hi; omega) a4 a6 (by have := hb.hi; omega) q4 q6 a1 a2 a3 wa wb k0.1 k0.2.1 k0.2.2
theorem fits_vals {kind : Int} {ns : List Nd} {L : List (List Int)} (h : fitsB ns (placesN kind ns ns.length) L = true) {q : Nat} (hq : q < L.length) : (L.getD q []).length ≤ 4 := val_short ((fits_parts h).2 q hq)
theorem AccV.vlAt {lo : Nat} {w : World} {v : Value} {svs : List Value} {L : List (List Int)} (h : AccV lo w v svs L) (hl : L.length ≤ 281474976710656) : VlAt w v L := (h.rowVs hl).vlAt
theorem step_done {U W2 w3 : World} {v2 : Later W2} {s : Value} {xs : List Int} (hW : Below U.heap.size U W2) (hG : W2.heap.size = U.heap.size + 2) (hb : Below v2.val.heap.size v2.val w3) (hr : RowI w3 s xs) (hg : ∀ b, s.ownBlock = some b → v2.val.heap.size ≤ b) :
 Below U.heap.size U (w3.setCell ⟨U.heap.size + 1, 0, none⟩ s) ∧ RowI (w3.setCell ⟨U.heap.size + 1, 0, none⟩ s) s xs ∧ ∀ b, s.ownBlock = some b → U.heap.size ≤ b := by
 have hs := v2.size
 refine ⟨((hW.trans (v2.prop.mono hW.size)).trans (hb.mono (by omega))).setCell (by simp) _, hr.set (fun b hb' e => ?_) _, fun b hb' => ?_⟩
 · have := hg b hb'
   simp at e
   omega
 · have := hg b hb'
   omega
theorem l4All_calls (mv sv iv : Value) (M : Md) (S I : List (List Int)) (w : World) (hM : MdAt w mv M) (hS : VlAt w sv S) (hI : VlAt w iv I) (hn : nodesB M.nodes = true) (hfS : fitsB M.nodes (placesN 36 M.nodes M.nodes.length) S = true) (hfI : fitsB M.nodes (placesN 35 M.nodes M.nodes.length) I = true) (h60 : M.nodes.length ≤ 1048576) :
 Calls Tryz.prog 109 #[mv, sv, iv] w fun e w' => ∃ v svs, e = .returned v ∧ Below w.heap.size w w' ∧ AccV w.heap.size w' v svs (evalN M.nodes S I M.nodes.length) := by
 obtain ⟨s0, s1, s2, s3, s4, rfl, hSl, -, -, -, -⟩ := hM.at_
 have HSN := Lib.hid hSl.slN
 obtain ⟨A, c, rfl, hnc, hc', hA⟩ := hSl
 obtain ⟨B, d, rfl, hmd, hd', hB⟩ := hS
 obtain ⟨D, f, rfl, hnf, hf', hD⟩ := hI
 clear hM
 have HK := Lib.hid (fun (k : Nat) (hk : k < M.nodes.length) => node_kinds hn hk)
 have HFS := Lib.hid (fun (k : Nat) (hk : k < M.nodes.length) (h : ((M.nodes.getD k Nd.zero).kind == 36) = true) => fits_place hfS hk h)
 have HFI := Lib.hid (fun (k : Nat) (hk : k < M.nodes.length) (h : ((M.nodes.getD k Nd.zero).kind == 35) = true) => fits_place hfI hk h)
 have HLS := Lib.hid (fun (q : Nat) (hq : q < S.length) => fits_vals hfS hq)
 have HLI := Lib.hid (fun (q : Nat) (hq : q < I.length) => fits_vals hfI hq)
 have HOK := Lib.hid (evalN_ok hn hfS hfI)
 generalize hN : M.nodes.length = n at *
 have HN := Lib.hid hN
 generalize hQ : S.length = q at *
 generalize hT : I.length = t at *
 have HQ := Lib.hid hQ
 have HT := Lib.hid hT
 have hn2 : n ≤ 281474976710656 := Nat.le_trans hnc hc'
 clear hN hQ hT hn hfS hfI
 go_enter Tryz.func109, Tryz.ntmps109
 go_wp2
 generalize hw1 : w.alloc (Obj.cells #[.slice A n c, s1, s2, s3, s4] 27) = w1
 have hb0 : ∀ u : Later w1, u.val.cell? ⟨w.heap.size, 0, none⟩ = some (.slice A n c) := Later.cell (by rw [← hw1]; simp)
 have HB := Lib.hid (show Below w.heap.size w w1 by rw [← hw1]; exact (Below.refl _ _).alloc (Nat.le_refl _) _)
 clear hw1
 go_loopw [7, 8, 9, 10] (fun o a b i wr => ∃ (k : Nat) (svs : List Value) (ov : Value) (pa pb : Nat), k ≤ n ∧ i = .int .i64 k ∧ ov = o ∧ a = .int .i64 (pa : Int) ∧ b = .int .i64 (pb : Int) ∧ pa ≤ k ∧ pb ≤ k ∧ Hid (pa = (placesN 36 M.nodes k).length ∧ pb = (placesN 35 M.nodes k).length ∧ AccV w1.heap.size wr ov svs (evalN M.nodes S I k)) ∧ LaterC w1 wr) (fun _ _ _ i _ => n - (intOf i).toNat)
 case atStart => exact ⟨0, [], _, 0, 0, Nat.zero_le _, rfl, rfl, rfl, rfl, Nat.le_refl _, Nat.le_refl _, Lib.hid ⟨rfl, rfl, AccV.nil _ _⟩, LaterC.refl _⟩
 case round =>
  obtain ⟨k, svs, ov, pa, pb, hk, rfl, hov, rfl, rfl, hpa, hpb, HAC, ⟨u, rfl⟩⟩ := hrel
  subst hov
  by_cases hlt : k < n
  · have hlt' : (k : Int) < n := by omega
    have hgn := getD_at (show k < M.nodes.length by rw [HN.out]; exact hlt) Nd.zero
    obtain ⟨bn, on, rfl, hnx⟩ := hA k _ hgn
    have HX := Lib.hid (show M.nodes.getD k Nd.zero = M.nodes.getD k Nd.zero from rfl)
    have HKX := Lib.hid (HK.out k hlt)
    have HFSX := Lib.hid (HFS.out k hlt)
    have HFIX := Lib.hid (HFI.out k hlt)
    have HEV := Lib.hid (show evalN M.nodes S I (k + 1) = evalN M.nodes S I k ++ [stepN M.nodes S I k (evalN M.nodes S I k)] from rfl)
    have HST := Lib.hid (show stepN M.nodes S I k (evalN M.nodes S I k) = if (M.nodes.getD k Nd.zero).kind = 34 then [(M.nodes.getD k Nd.zero).n] else if (M.nodes.getD k Nd.zero).kind = 36 then S.getD (placesN 36 M.nodes k).length [] else if (M.nodes.getD k Nd.zero).kind = 35 then I.getD (placesN 35 M.nodes k).length [] else reckN M.nodes (M.nodes.getD k Nd.zero) (evalN M.nodes S I k) from rfl)
    have HP6 := Lib.hid (show ((M.nodes.getD k Nd.zero).kind == 36) = true → placesN 36 M.nodes (k + 1) = placesN 36 M.nodes k ++ [(k : Int)] from placesN_yes)
    have HP6n := Lib.hid (show ((M.nodes.getD k Nd.zero).kind == 36) = false → placesN 36 M.nodes (k + 1) = placesN 36 M.nodes k from placesN_no)
    have HP5 := Lib.hid (show ((M.nodes.getD k Nd.zero).kind == 35) = true → placesN 35 M.nodes (k + 1) = placesN 35 M.nodes k ++ [(k : Int)] from placesN_yes)
    have HP5n := Lib.hid (show ((M.nodes.getD k Nd.zero).kind == 35) = false → placesN 35 M.nodes (k + 1) = placesN 35 M.nodes k from placesN_no)
    generalize stepN M.nodes S I k (evalN M.nodes S I k) = nw at *
    clear HX
    generalize hxe : M.nodes.getD k Nd.zero = x at *
    clear hxe
    have p0 : ∀ l : Later w1, l.val.cell? ⟨bn, on + k * 9, none⟩ = some (.int .i64 x.kind) := hnx.at_ HB.out 0 _ rfl
    have p1 : ∀ l : Later w1, l.val.cell? ⟨bn, on + k * 9 + 1, none⟩ = some (.int .i64 x.a) := hnx.at_ HB.out 1 _ rfl
    have p2 : ∀ l : Later w1, l.val.cell? ⟨bn, on + k * 9 + 2, none⟩ = some (.int .i64 x.b) := hnx.at_ HB.out 2 _ rfl
    have p3 : ∀ l : Later w1, l.val.cell? ⟨bn, on + k * 9 + 3, none⟩ = some (.int .i64 x.c) := hnx.at_ HB.out 3 _ rfl
    have p4 : ∀ l : Later w1, l.val.cell? ⟨bn, on + k * 9 + 4, none⟩ = some (.int .i64 x.n) := hnx.at_ HB.out 4 _ rfl
    have p5 : ∀ l : Later w1, l.val.cell? ⟨bn, on + k * 9 + 5, none⟩ = some (.int .i64 x.m) := hnx.at_ HB.out 5 _ rfl
    have p6 : ∀ l : Later w1, l.val.cell? ⟨bn, on + k * 9 + 6, none⟩ = some (.int .i64 x.idx) := hnx.at_ HB.out 6 _ rfl
    have p7 : ∀ l : Later w1, l.val.cell? ⟨bn, on + k * 9 + 7, none⟩ = some (.int .i64 x.wid) := hnx.at_ HB.out 7 _ rfl
    have p8 : ∀ l : Later w1, l.val.cell? ⟨bn, on + k * 9 + 8, none⟩ = some (.string x.name) := hnx.at_ HB.out 8 _ rfl
    have HSL := Lib.hid (show svs.length = k from HAC.out.2.2.2.1.trans (evalN_length _ _ _ _))
    have hsl : svs.length ≤ 1048576 := by have := HSL.out; omega
    have HVL := Lib.hid (show ∀ l : Later u.val, VlAt l.val ov (evalN M.nodes S I k) from fun l => (HAC.out.2.2.vlAt (by rw [evalN_length]; omega)).later l)
    clear hgn hnx
    go_upto_region 9 with fail
    have m0 : ∀ l : Later ((u.val.alloc (Obj.cells #[.int .i64 x.kind, .int .i64 x.a, .int .i64 x.b, .int .i64 x.c, .int .i64 x.n, .int .i64 x.m, .int .i64 x.idx, .int .i64 x.wid, .string x.name] 38)).alloc (Obj.cells #[.slice none 0 0] 40)), l.val.cell? ⟨u.val.heap.size, 0, none⟩ = some (.int .i64 x.kind) := Later.cell (by simp)
    have m1 : ∀ l : Later ((u.val.alloc (Obj.cells #[.int .i64 x.kind, .int .i64 x.a, .int .i64 x.b, .int .i64 x.c, .int .i64 x.n, .int .i64 x.m, .int .i64 x.idx, .int .i64 x.wid, .string x.name] 38)).alloc (Obj.cells #[.slice none 0 0] 40)), l.val.cell? ⟨u.val.heap.size, 1, none⟩ = some (.int .i64 x.a) := Later.cell (by simp)
    have m2 : ∀ l : Later ((u.val.alloc (Obj.cells #[.int .i64 x.kind, .int .i64 x.a, .int .i64 x.b, .int .i64 x.c, .int .i64 x.n, .int .i64 x.m, .int .i64 x.idx, .int .i64 x.wid, .string x.name] 38)).alloc (Obj.cells #[.slice none 0 0] 40)), l.val.cell? ⟨u.val.heap.size, 2, none⟩ = some (.int .i64 x.b) := Later.cell (by simp)
    have m3 : ∀ l : Later ((u.val.alloc (Obj.cells #[.int .i64 x.kind, .int .i64 x.a, .int .i64 x.b, .int .i64 x.c, .int .i64 x.n, .int .i64 x.m, .int .i64 x.idx, .int .i64 x.wid, .string x.name] 38)).alloc (Obj.cells #[.slice none 0 0] 40)), l.val.cell? ⟨u.val.heap.size, 3, none⟩ = some (.int .i64 x.c) := Later.cell (by simp)
    have m4 : ∀ l : Later ((u.val.alloc (Obj.cells #[.int .i64 x.kind, .int .i64 x.a, .int .i64 x.b, .int .i64 x.c, .int .i64 x.n, .int .i64 x.m, .int .i64 x.idx, .int .i64 x.wid, .string x.name] 38)).alloc (Obj.cells #[.slice none 0 0] 40)), l.val.cell? ⟨u.val.heap.size, 4, none⟩ = some (.int .i64 x.n) := Later.cell (by simp)
    have m5 : ∀ l : Later ((u.val.alloc (Obj.cells #[.int .i64 x.kind, .int .i64 x.a, .int .i64 x.b, .int .i64 x.c, .int .i64 x.n, .int .i64 x.m, .int .i64 x.idx, .int .i64 x.wid, .string x.name] 38)).alloc (Obj.cells #[.slice none 0 0] 40)), l.val.cell? ⟨u.val.heap.size, 5, none⟩ = some (.int .i64 x.m) := Later.cell (by simp)
    have m6 : ∀ l : Later ((u.val.alloc (Obj.cells #[.int .i64 x.kind, .int .i64 x.a, .int .i64 x.b, .int .i64 x.c, .int .i64 x.n, .int .i64 x.m, .int .i64 x.idx, .int .i64 x.wid, .string x.name] 38)).alloc (Obj.cells #[.slice none 0 0] 40)), l.val.cell? ⟨u.val.heap.size, 6, none⟩ = some (.int .i64 x.idx) := Later.cell (by simp)
    have m7 : ∀ l : Later ((u.val.alloc (Obj.cells #[.int .i64 x.kind, .int .i64 x.a, .int .i64 x.b, .int .i64 x.c, .int .i64 x.n, .int .i64 x.m, .int .i64 x.idx, .int .i64 x.wid, .string x.name] 38)).alloc (Obj.cells #[.slice none 0 0] 40)), l.val.cell? ⟨u.val.heap.size, 7, none⟩ = some (.int .i64 x.wid) := Later.cell (by simp)
    have m8 : ∀ l : Later ((u.val.alloc (Obj.cells #[.int .i64 x.kind, .int .i64 x.a, .int .i64 x.b, .int .i64 x.c, .int .i64 x.n, .int .i64 x.m, .int .i64 x.idx, .int .i64 x.wid, .string x.name] 38)).alloc (Obj.cells #[.slice none 0 0] 40)), l.val.cell? ⟨u.val.heap.size, 8, none⟩ = some (.string x.name) := Later.cell (by simp)
    have mv : ∀ l : Later ((u.val.alloc (Obj.cells #[.int .i64 x.kind, .int .i64 x.a, .int .i64 x.b, .int .i64 x.c, .int .i64 x.n, .int .i64 x.m, .int .i64 x.idx, .int .i64 x.wid, .string x.name] 38)).alloc (Obj.cells #[.slice none 0 0] 40)), l.val.cell? ⟨u.val.heap.size + 1, 0, none⟩ = some (.slice none 0 0) := Later.cell (by simp)
    have mf : ∀ l : Later ((u.val.alloc (Obj.cells #[.int .i64 x.kind, .int .i64 x.a, .int .i64 x.b, .int .i64 x.c, .int .i64 x.n, .int .i64 x.m, .int .i64 x.idx, .int .i64 x.wid, .string x.name] 38)).alloc (Obj.cells #[.slice none 0 0] 40)), l.val.frozen? ⟨u.val.heap.size + 1, 0, none⟩ = false := Later.frozen (by simp) (by simp)
    have HW := Lib.hid (show Below u.val.heap.size u.val ((u.val.alloc (Obj.cells #[.int .i64 x.kind, .int .i64 x.a, .int .i64 x.b, .int .i64 x.c, .int .i64 x.n, .int .i64 x.m, .int .i64 x.idx, .int .i64 x.wid, .string x.name] 38)).alloc (Obj.cells #[.slice none 0 0] 40)) from ((Below.refl _ _).alloc (Nat.le_refl _) _).alloc (by simp) _)
    have HGW := Lib.hid (show ((u.val.alloc (Obj.cells #[.int .i64 x.kind, .int .i64 x.a, .int .i64 x.b, .int .i64 x.c, .int .i64 x.n, .int .i64 x.m, .int .i64 x.idx, .int .i64 x.wid, .string x.name] 38)).alloc (Obj.cells #[.slice none 0 0] 40)).heap.size = u.val.heap.size + 2 by simp)
    generalize ((u.val.alloc (Obj.cells #[.int .i64 x.kind, .int .i64 x.a, .int .i64 x.b, .int .i64 x.c, .int .i64 x.n, .int .i64 x.m, .int .i64 x.idx, .int .i64 x.wid, .string x.name] 38)).alloc (Obj.cells #[.slice none 0 0] 40)) = W2 at *
    have hL2 : LaterC w1 W2 := u.step HW.out
    have hb0 := lift_cell hL2 hb0
    have HU := Lib.hid (show w1.heap.size ≤ u.val.heap.size from u.size)
    have HS2 := Lib.hid (show ∀ l : Later W2, SlN enNd l.val (.slice (some ⟨bn, on, none⟩) n c) M.nodes from fun l => by
     have h := (((HSN.out.below HB.out).below hL2.below).later l)
     exact h)
    have HV2 := Lib.hid (show ∀ l : Later W2, VlAt l.val ov (evalN M.nodes S I k) from fun l => (((HAC.out.2.2.vlAt (by rw [evalN_length]; omega)).below HW.out).later l))
    have HBW := Lib.hid (show Below w.heap.size w W2 from HB.out.trans (hL2.below.mono HB.out.size))
    clear p0 p1 p2 p3 p4 p5 p6 p7 p8 hL2 HVL
    refine at_world (w := W2) ?_
    intro v2
    by_cases k34 : x.kind = 34
    · have hk36 : (x.kind == 36) = false := beq_eq_false_iff_ne.2 (by omega)
      have hk35 : (x.kind == 35) = false := beq_eq_false_iff_ne.2 (by omega)
      have HCT := Lib.hid (calls_newV (l4One_calls x.n v2.val) (HST.out.trans (if_pos k34)).symm)
      have HA6 := Lib.hid (HP6n.out hk36)
      have HA5 := Lib.hid (HP5n.out hk35)
      clear hA hB hD
      go_wp2_with (first | (at_builtin; refine wpList_append_acc (by rfl) _ _ (by rfl) w1 u.val _ _ w3.heap.size ov (.slice sA sn sc) svs _ nw (by rfl) HAC.out.2.2 ⟨u, rfl⟩ HD2.out.1 HD2.out.2.1 HD2.out.2.2 hsl (box_below _ _ _) (OwnB.new' _ _ _ _ (by simp)) (by rfl) ?_; intro v' u2 hac; have HAC2 := Lib.hid hac; clear hac) | (go_at_call 180; refine (HCT.out).mono ?_; rintro e w3 ⟨s, rfl, hb, hr, hg⟩; obtain ⟨sA, sn, sc, rfl⟩ := rowI_slice hr; have f0 : w3.frozen? ⟨u.val.heap.size + 1, 0, none⟩ = false := (lift_frozen (later_step v2 hb) mf) ⟨w3, Below.refl _ _⟩; have r0 : w3.cell? ⟨u.val.heap.size + 1, 0, none⟩ = some (.slice none 0 0) := (lift_cell (later_step v2 hb) mv) ⟨w3, Below.refl _ _⟩; have HD2 := Lib.hid (step_done HW.out HGW.out hb hr hg); have HS3 := Lib.hid (show u.val.heap.size ≤ w3.heap.size from (HW.out.trans ((v2.prop.mono HW.out.size).trans (hb.mono (Nat.le_trans HW.out.size v2.size)))).size); clear hb hr hg))
      go_roundw
      case rel => exact ⟨k + 1, _, _, pa, pb, by omega, by go_num, rfl, by go_num, by go_num, by omega, by omega, Lib.hid ⟨by rw [HA6.out, HAC.out.1] <;> simp, by rw [HA5.out, HAC.out.2.1] <;> simp, by rw [HEV.out]; exact HAC2.out⟩, ⟨u2, rfl⟩⟩
      case measure => simp [intOf] <;> omega
    · by_cases k36 : x.kind = 36
      · have hk36 : (x.kind == 36) = true := beq_iff_eq.2 k36
        have hk35 : (x.kind == 35) = false := beq_eq_false_iff_ne.2 (by omega)
        have hk34 : (x.kind == 34) = false := beq_eq_false_iff_ne.2 k34
        have HA6 := Lib.hid (HP6.out hk36)
        have HA5 := Lib.hid (HP5n.out hk35)
        have hplt : pa < q := by have h := (HFSX.out hk36).1; rw [← HAC.out.1] at h; exact h
        have hplt' : (pa : Int) < q := by omega
        obtain ⟨bs, os, sx, rfl, hcs, hsx⟩ := hB pa _ (getD_at (show pa < S.length by rw [HQ.out]; exact hplt) [])
        have hsh := hsx
        obtain ⟨A3, c3, rfl, -⟩ := hsh
        have hcs := Later.cell (keepcell HBW.out hcs)
        have HCT := Lib.hid (calls_newV (l4Copy_calls _ _ v2.val ((hsx.below HBW.out).later v2) (by have h := HLS.out pa hplt; omega)) (show S.getD pa [] = nw by rw [HST.out, if_neg k34, if_pos k36, HAC.out.1]))
        clear hA hB hD hsx
        generalize (S.getD pa []).length = l3 at *
        go_wp2_with (first | (at_builtin; refine wpList_append_acc (by rfl) _ _ (by rfl) w1 u.val _ _ w3.heap.size ov (.slice sA sn sc) svs _ nw (by rfl) HAC.out.2.2 ⟨u, rfl⟩ HD2.out.1 HD2.out.2.1 HD2.out.2.2 hsl (box_below _ _ _) (OwnB.new' _ _ _ _ (by simp)) (by rfl) ?_; intro v' u2 hac; have HAC2 := Lib.hid hac; clear hac) | (go_at_call 181; refine (HCT.out).mono ?_; rintro e w3 ⟨s, rfl, hb, hr, hg⟩; obtain ⟨sA, sn, sc, rfl⟩ := rowI_slice hr; have f0 : w3.frozen? ⟨u.val.heap.size + 1, 0, none⟩ = false := (lift_frozen (later_step v2 hb) mf) ⟨w3, Below.refl _ _⟩; have r0 : w3.cell? ⟨u.val.heap.size + 1, 0, none⟩ = some (.slice none 0 0) := (lift_cell (later_step v2 hb) mv) ⟨w3, Below.refl _ _⟩; have HD2 := Lib.hid (step_done HW.out HGW.out hb hr hg); have HS3 := Lib.hid (show u.val.heap.size ≤ w3.heap.size from (HW.out.trans ((v2.prop.mono HW.out.size).trans (hb.mono (Nat.le_trans HW.out.size v2.size)))).size); clear hb hr hg))
        go_roundw
        case rel => exact ⟨k + 1, _, _, pa + 1, pb, by omega, by go_num, rfl, by go_num, by go_num, by omega, by omega, Lib.hid ⟨by rw [HA6.out, HAC.out.1] <;> simp, by rw [HA5.out, HAC.out.2.1] <;> simp, by rw [HEV.out]; exact HAC2.out⟩, ⟨u2, rfl⟩⟩
        case measure => simp [intOf] <;> omega
      · by_cases k35 : x.kind = 35
        · have hk36 : (x.kind == 36) = false := beq_eq_false_iff_ne.2 k36
          have hk35 : (x.kind == 35) = true := beq_iff_eq.2 k35
          have hk34 : (x.kind == 34) = false := beq_eq_false_iff_ne.2 k34
          have HA6 := Lib.hid (HP6n.out hk36)
          have HA5 := Lib.hid (HP5.out hk35)
          have hplt : pb < t := by have h := (HFIX.out hk35).1; rw [← HAC.out.2.1] at h; exact h
          have hplt' : (pb : Int) < t := by omega
          obtain ⟨bs, os, sx, rfl, hcs, hsx⟩ := hD pb _ (getD_at (show pb < I.length by rw [HT.out]; exact hplt) [])
          have hsh := hsx
          obtain ⟨A3, c3, rfl, -⟩ := hsh
          have hcs := Later.cell (keepcell HBW.out hcs)
          have HCT := Lib.hid (calls_newV (l4Copy_calls _ _ v2.val ((hsx.below HBW.out).later v2) (by have h := HLI.out pb hplt; omega)) (show I.getD pb [] = nw by rw [HST.out, if_neg k34, if_neg k36, if_pos k35, HAC.out.2.1]))
          clear hA hB hD hsx
          generalize (I.getD pb []).length = l3 at *
          go_wp2_with (first | (at_builtin; refine wpList_append_acc (by rfl) _ _ (by rfl) w1 u.val _ _ w3.heap.size ov (.slice sA sn sc) svs _ nw (by rfl) HAC.out.2.2 ⟨u, rfl⟩ HD2.out.1 HD2.out.2.1 HD2.out.2.2 hsl (box_below _ _ _) (OwnB.new' _ _ _ _ (by simp)) (by rfl) ?_; intro v' u2 hac; have HAC2 := Lib.hid hac; clear hac) | (go_at_call 181; refine (HCT.out).mono ?_; rintro e w3 ⟨s, rfl, hb, hr, hg⟩; obtain ⟨sA, sn, sc, rfl⟩ := rowI_slice hr; have f0 : w3.frozen? ⟨u.val.heap.size + 1, 0, none⟩ = false := (lift_frozen (later_step v2 hb) mf) ⟨w3, Below.refl _ _⟩; have r0 : w3.cell? ⟨u.val.heap.size + 1, 0, none⟩ = some (.slice none 0 0) := (lift_cell (later_step v2 hb) mv) ⟨w3, Below.refl _ _⟩; have HD2 := Lib.hid (step_done HW.out HGW.out hb hr hg); have HS3 := Lib.hid (show u.val.heap.size ≤ w3.heap.size from (HW.out.trans ((v2.prop.mono HW.out.size).trans (hb.mono (Nat.le_trans HW.out.size v2.size)))).size); clear hb hr hg))
          go_roundw
          case rel => exact ⟨k + 1, _, _, pa, pb + 1, by omega, by go_num, rfl, by go_num, by go_num, by omega, by omega, Lib.hid ⟨by rw [HA6.out, HAC.out.1] <;> simp, by rw [HA5.out, HAC.out.2.1] <;> simp, by rw [HEV.out]; exact HAC2.out⟩, ⟨u2, rfl⟩⟩
          case measure => simp [intOf] <;> omega
        · have hk36 : (x.kind == 36) = false := beq_eq_false_iff_ne.2 k36
          have hk35 : (x.kind == 35) = false := beq_eq_false_iff_ne.2 k35
          have hk34 : (x.kind == 34) = false := beq_eq_false_iff_ne.2 k34
          have HA6 := Lib.hid (HP6n.out hk36)
          have HA5 := Lib.hid (HP5n.out hk35)
          have HCT := Lib.hid (calls_newV (l4Node_calls _ _ M.nodes x (evalN M.nodes S I k) k v2.val (HS2.out v2) (HV2.out v2) (evalN_length _ _ _ _) (by rw [HN.out]; exact hk) HKX.out (fun e => by have := kinds0 e; omega) (fun p hp => HOK.out k hk p.toNat (by have h1 := hp.lo; have h2 := hp.hi; omega))) (show reckN M.nodes x (evalN M.nodes S I k) = nw by rw [HST.out, if_neg k34, if_neg k36, if_neg k35]))
          clear hA hB hD
          go_wp2_with (first | (at_builtin; refine wpList_append_acc (by rfl) _ _ (by rfl) w1 u.val _ _ w3.heap.size ov (.slice sA sn sc) svs _ nw (by rfl) HAC.out.2.2 ⟨u, rfl⟩ HD2.out.1 HD2.out.2.1 HD2.out.2.2 hsl (box_below _ _ _) (OwnB.new' _ _ _ _ (by simp)) (by rfl) ?_; intro v' u2 hac; have HAC2 := Lib.hid hac; clear hac) | (go_at_call 182; refine (HCT.out).mono ?_; rintro e w3 ⟨s, rfl, hb, hr, hg⟩; obtain ⟨sA, sn, sc, rfl⟩ := rowI_slice hr; have f0 : w3.frozen? ⟨u.val.heap.size + 1, 0, none⟩ = false := (lift_frozen (later_step v2 hb) mf) ⟨w3, Below.refl _ _⟩; have r0 : w3.cell? ⟨u.val.heap.size + 1, 0, none⟩ = some (.slice none 0 0) := (lift_cell (later_step v2 hb) mv) ⟨w3, Below.refl _ _⟩; have HD2 := Lib.hid (step_done HW.out HGW.out hb hr hg); have HS3 := Lib.hid (show u.val.heap.size ≤ w3.heap.size from (HW.out.trans ((v2.prop.mono HW.out.size).trans (hb.mono (Nat.le_trans HW.out.size v2.size)))).size); clear hb hr hg))
          go_roundw
          case rel => exact ⟨k + 1, _, _, pa, pb, by omega, by go_num, rfl, by go_num, by go_num, by omega, by omega, Lib.hid ⟨by rw [HA6.out, HAC.out.1] <;> simp, by rw [HA5.out, HAC.out.2.1] <;> simp, by rw [HEV.out]; exact HAC2.out⟩, ⟨u2, rfl⟩⟩
          case measure => simp [intOf] <;> omega
  · obtain rfl : k = n := by omega
    clear hA hB hD
    go_wp2
    go_ret
    exact ⟨_, svs, rfl, u.back HB.out, HAC.out.2.2.mono HB.out.size⟩
def HoldsV (w : World) (g n : Nat) (L : List (List Int)) : Prop :=
 ∃ cs, OwnB w g 40 cs ∧ cs.size = n ∧ ∀ (j : Nat) (xs : List Int), L[j]? = some xs → ∃ sv, cs[j]? = some sv ∧ SlN enI w sv xs ∧ NotIn g sv
theorem SlN.putAt {w : World} {g k : Nat} {sv v : Value} {xs : List Int} (h : SlN enI w sv xs) (hn : NotIn g sv) : SlN enI (w.setCell ⟨g, k, none⟩ v) sv xs := by
 obtain ⟨A, c, rfl, h1, h2, h3⟩ := h
 refine ⟨A, c, rfl, h1, h2, fun i x hx => ?_⟩
 obtain ⟨b, o, rfl, hc⟩ := h3 i x hx
 exact ⟨b, o, rfl, fun f u hu => (World.cell?_setCell_far _ _ _ _ (fun e => hn b o _ _ rfl e.symm)).trans (hc f u hu)⟩
theorem HoldsV.below {w w' : World} {g n : Nat} {L : List (List Int)} (h : HoldsV w g n L) (hb : Below w.heap.size w w') : HoldsV w' g n L := by
 obtain ⟨cs, h1, h2, h3⟩ := h
 refine ⟨cs, h1.below hb h1.lt, h2, fun j xs hx => ?_⟩
 obtain ⟨sv, e1, e2, e3⟩ := h3 j xs hx
 exact ⟨sv, e1, e2.below hb, e3⟩
theorem HoldsV.put {w : World} {g n k : Nat} {L : List (List Int)} {s : Value} {xs : List Int} (h : HoldsV w g n L) (hk : L.length = k) (hkn : k < n) (hs : SlN enI w s xs) (hn : NotIn g s) : HoldsV (w.setCell ⟨g, k, none⟩ s) g n (L ++ [xs]) := by
 obtain ⟨cs, h1, h2, h3⟩ := h
 refine ⟨cs.setIfInBounds k s, h1.set k s, by simpa using h2, fun j ys hx => ?_⟩
 rcases snoc_get hx with hx | ⟨rfl, rfl⟩
 · obtain ⟨sv, e1, e2, e3⟩ := h3 j ys hx
   have hj := (List.getElem?_eq_some_iff.1 hx).1
   refine ⟨sv, ?_, e2.putAt e3, e3⟩
   rw [Array.getElem?_setIfInBounds_ne (by omega)]
   exact e1
 · rw [hk]
   exact ⟨s, Array.getElem?_setIfInBounds_self_of_lt (by omega), hs.putAt hn, hn⟩
theorem HoldsV.lt {w : World} {g n : Nat} {L : List (List Int)} (h : HoldsV w g n L) : g < w.heap.size := by obtain ⟨cs, h1, -⟩ := h; exact h1.lt
theorem HoldsV.cell {w : World} {g n : Nat} {L : List (List Int)} (h : HoldsV w g n L) {i : Nat} (hi : i < n) : ∃ v, w.cell? ⟨g, i, none⟩ = some v := by
 obtain ⟨cs, h1, h2, -⟩ := h
 exact ⟨cs[i]'(by omega), (h1.cell i).trans (Array.getElem?_eq_getElem _)⟩
theorem HoldsV.frozen {w : World} {g n : Nat} {L : List (List Int)} (h : HoldsV w g n L) (i : Nat) : w.frozen? ⟨g, i, none⟩ = false := by
 obtain ⟨cs, h1, -⟩ := h
 exact h1.frozen i
theorem HoldsV.at_ {w : World} {g n : Nat} {L : List (List Int)} (h : HoldsV w g n L) (i : Nat) (xs : List Int) (hx : L[i]? = some xs) : ∃ sv, w.cell? ⟨g, i, none⟩ = some sv ∧ SlN enI w sv xs ∧ NotIn g sv := by
 obtain ⟨cs, h1, h2, h3⟩ := h
 obtain ⟨sv, e1, e2⟩ := h3 i xs hx
 exact ⟨sv, (h1.cell i).trans e1, e2⟩
theorem HoldsV.vlAt {w : World} {g n : Nat} {L : List (List Int)} (h : HoldsV w g n L) (hl : L.length = n) (hn : n ≤ 281474976710656) : VlAt w (.slice (some ⟨g, 0, none⟩) n n) L := by
 subst hl
 refine ⟨_, _, rfl, Nat.le_refl _, hn, fun i xs hx => ?_⟩
 obtain ⟨sv, e1, e2, -⟩ := h.at_ i xs hx
 exact ⟨g, 0, sv, rfl, by rw [Nat.zero_add]; exact e1, e2⟩
theorem SlN.notIn {w : World} {sv : Value} {xs : List Int} {g : Nat} (h : SlN enI w sv xs) (h0 : 0 < xs.length) (hg : w.heap.size ≤ g) : NotIn g sv := by
 obtain ⟨A, c, rfl, -, -, h3⟩ := h
 obtain ⟨b, o, rfl, hc⟩ := h3 0 _ (getD_at h0 0)
 have h1 := World.block_lt_of_cell? _ _ (hc 0 _ rfl)
 intro b' o' n' c' e
 cases e
 simp at h1
 omega
theorem VlAt.tail {w : World} {A : Option Addr} {n c : Nat} {L : List (List Int)} {q : Nat} (h : VlAt w (.slice A n c) (L.drop q)) (hq : q < L.length) : ∃ b o sx, A = some ⟨b, o, none⟩ ∧ n = L.length - q ∧ w.cell? ⟨b, o, none⟩ = some sx ∧ SlN enI w sx (L.getD q []) ∧ n ≤ c ∧ n ≤ 281474976710656 ∧ VlAt w (.slice (some ⟨b, o + 1, none⟩) (n - 1) (c - 1)) (L.drop (q + 1)) := by
 obtain ⟨A', c', e, h1, h2, h3⟩ := h
 cases e
 have hl : (L.drop q).length = L.length - q := List.length_drop
 have h0 : (L.drop q)[0]? = some (L.getD q []) := by rw [List.getElem?_drop, Nat.add_zero]; exact getD_at hq []
 obtain ⟨b, o, sx, rfl, e1, e2⟩ := h3 0 _ h0
 refine ⟨b, o, sx, rfl, hl, by simpa using e1, e2, h1, h2, ?_⟩
 refine ⟨_, _, by rw [show (L.drop (q + 1)).length = (L.drop q).length - 1 by rw [List.length_drop, List.length_drop]; omega], by rw [List.length_drop]; omega, by rw [List.length_drop]; omega, fun i xs hx => ?_⟩
 obtain ⟨b', o', sv, e, e3, e4⟩ := h3 (i + 1) xs (by rw [List.getElem?_drop] at hx ⊢; rw [← hx]; congr 1; omega)
 cases e
 exact ⟨b, o + 1, sv, rfl, by rw [Nat.add_assoc, Nat.add_comm 1 i]; exact e3, e4⟩
theorem vl_if {w : World} {A A' : Option Addr} {n c : Nat} {L : List (List Int)} (h : VlAt w (.slice A' (n - 1) (c - 1)) L) (hn : n ≤ c) : VlAt w (.slice (if c = 1 then A else A') (n - 1) (c - 1)) L := by
 split
 · rename_i e
   obtain ⟨A2, c2, e2, h1, h2, h3⟩ := h
   injection e2 with e3 e4 e5
   refine ⟨A, c2, by rw [e4, e5], h1, h2, fun i xs hx => ?_⟩
   have := (List.getElem?_eq_some_iff.1 hx).1
   omega
 · exact h
theorem eval_calls (mv sv iv : Value) (M : Md) (S I : List (List Int)) (w : World) (hM : MdAt w mv M) (hS : VlAt w sv S) (hI : VlAt w iv I) (hn : nodesB M.nodes = true) (hfS : fitsB M.nodes (placesN 36 M.nodes M.nodes.length) S = true) (hfI : fitsB M.nodes (placesN 35 M.nodes M.nodes.length) I = true) (h60 : M.nodes.length ≤ 1048576) :
 Calls Tryz.prog 73 #[mv, sv, iv] w fun e w' => ∃ v, e = .returned v ∧ Below w.heap.size w w' ∧ VlAt w' v (evalN M.nodes S I M.nodes.length) := by
 obtain ⟨s0, s1, s2, s3, s4, rfl, hSl, -, -, -, -⟩ := hM.at_
 have HSN := Lib.hid hSl.slN
 obtain ⟨A, c, rfl, hnc, hc', hA⟩ := hSl
 clear hM
 have HVS := Lib.hid hS
 have HVI := Lib.hid hI
 obtain ⟨B, d, rfl, -, -, -⟩ := hS
 obtain ⟨D, f, rfl, -, -, -⟩ := hI
 have HK := Lib.hid (fun (k : Nat) (hk : k < M.nodes.length) => node_kinds hn hk)
 have HFS := Lib.hid (fun (k : Nat) (hk : k < M.nodes.length) (h : ((M.nodes.getD k Nd.zero).kind == 36) = true) => fits_place hfS hk h)
 have HFI := Lib.hid (fun (k : Nat) (hk : k < M.nodes.length) (h : ((M.nodes.getD k Nd.zero).kind == 35) = true) => fits_place hfI hk h)
 have HOK := Lib.hid (evalN_ok hn hfS hfI)
 generalize hN : M.nodes.length = n at *
 have HN := Lib.hid hN
 have hn2 : n ≤ 281474976710656 := Nat.le_trans hnc hc'
 generalize hQ : S.length = q at *
 generalize hT : I.length = t at *
 have HQ := Lib.hid hQ
 have HT := Lib.hid hT
 clear hN hn hfS hfI hQ hT
 have hmf : ∀ (fn : Fn) (first cap : Array Value) (w : World), (Instr.makeFunc fn first cap).run Tryz.prog w = .ok (.func fn first cap) w := fun _ _ _ _ => rfl
 have hmk := make_any (P := Tryz.prog) 29 40 (.agg #[.slice none 0 0]) 1 24 Tryz.underlying29 (by kernel_rfl) n (by omega) (by omega)
 simp only [Value.cells, Nat.mul_one] at hmk
 go_enter Tryz.func73, Tryz.ntmps73
 go_wp2
 have HB1 := Lib.hid (box_below w #[.slice A n c, s1, s2, s3, s4] 27)
 have hb0 : ∀ u : Later (w.alloc (Obj.cells #[.slice A n c, s1, s2, s3, s4] 27)), u.val.cell? ⟨w.heap.size, 0, none⟩ = some (.slice A n c) := Later.cell (by simp)
 have HSZ1 := Lib.hid (show (w.alloc (Obj.cells #[.slice A n c, s1, s2, s3, s4] 27)).heap.size = w.heap.size + 1 by simp)
 generalize w.alloc (Obj.cells #[.slice A n c, s1, s2, s3, s4] 27) = w1 at *
 have HO := Lib.hid (show OwnB (w1.alloc (Obj.cells (madeCells #[.slice none 0 0] n) 40)) (w.heap.size + 1) 40 (madeCells #[.slice none 0 0] n) from HSZ1.out ▸ OwnB.new w1 40 (madeCells #[.slice none 0 0] n))
 have HL0 := Lib.hid (show LaterC w1 (w1.alloc (Obj.cells (madeCells #[.slice none 0 0] n) 40)) from LaterC.alloc' (LaterC.refl _) _)
 have HSZ := Lib.hid (size_madeCells #[.slice none 0 0] n)
 generalize madeCells #[.slice none 0 0] n = cs0 at *
 generalize w1.alloc (Obj.cells cs0 40) = w2 at *
 clear hmk
 go_loopw [1, 2, 19] (fun a b i wr => ∃ (k pa pb cS cI : Nat) (AS AI : Option Addr), k ≤ n ∧ i = .int .i64 k ∧ a = .slice AS (q - pa) cS ∧ b = .slice AI (t - pb) cI ∧ Hid (pa = (placesN 36 M.nodes k).length ∧ pb = (placesN 35 M.nodes k).length ∧ VlAt w1 (.slice AS (q - pa) cS) (S.drop pa) ∧ VlAt w1 (.slice AI (t - pb) cI) (I.drop pb) ∧ HoldsV wr (w.heap.size + 1) n (evalN M.nodes S I k)) ∧ LaterC w1 wr) (fun _ _ i _ => n - (intOf i).toNat)
 case atStart => exact ⟨0, 0, 0, d, f, B, D, Nat.zero_le _, rfl, rfl, rfl, Lib.hid ⟨rfl, rfl, HVS.out.below HB1.out, HVI.out.below HB1.out, ⟨cs0, HO.out, HSZ.out, fun j xs hx => by simp [evalN] at hx⟩⟩, HL0.out⟩
 case round =>
  obtain ⟨k, pa, pb, cS, cI, AS, AI, hk, rfl, rfl, rfl, HR, ⟨u, rfl⟩⟩ := hrel
  by_cases hlt : k < n
  · have hlt' : (k : Int) < n := by omega
    have hgn := getD_at (show k < M.nodes.length by rw [HN.out]; exact hlt) Nd.zero
    obtain ⟨bn, on, rfl, hnx⟩ := hA k _ hgn
    have HKX := Lib.hid (HK.out k hlt)
    have HFSX := Lib.hid (HFS.out k hlt)
    have HFIX := Lib.hid (HFI.out k hlt)
    have HEV := Lib.hid (show evalN M.nodes S I (k + 1) = evalN M.nodes S I k ++ [stepN M.nodes S I k (evalN M.nodes S I k)] from rfl)
    have HST := Lib.hid (show stepN M.nodes S I k (evalN M.nodes S I k) = if (M.nodes.getD k Nd.zero).kind = 34 then [(M.nodes.getD k Nd.zero).n] else if (M.nodes.getD k Nd.zero).kind = 36 then S.getD (placesN 36 M.nodes k).length [] else if (M.nodes.getD k Nd.zero).kind = 35 then I.getD (placesN 35 M.nodes k).length [] else reckN M.nodes (M.nodes.getD k Nd.zero) (evalN M.nodes S I k) from rfl)
    have HP6 := Lib.hid (show ((M.nodes.getD k Nd.zero).kind == 36) = true → placesN 36 M.nodes (k + 1) = placesN 36 M.nodes k ++ [(k : Int)] from placesN_yes)
    have HP6n := Lib.hid (show ((M.nodes.getD k Nd.zero).kind == 36) = false → placesN 36 M.nodes (k + 1) = placesN 36 M.nodes k from placesN_no)
    have HP5 := Lib.hid (show ((M.nodes.getD k Nd.zero).kind == 35) = true → placesN 35 M.nodes (k + 1) = placesN 35 M.nodes k ++ [(k : Int)] from placesN_yes)
    have HP5n := Lib.hid (show ((M.nodes.getD k Nd.zero).kind == 35) = false → placesN 35 M.nodes (k + 1) = placesN 35 M.nodes k from placesN_no)
    generalize stepN M.nodes S I k (evalN M.nodes S I k) = nw at *
    generalize hxe : M.nodes.getD k Nd.zero = x at *
    clear hxe
    have p0 : ∀ l : Later w1, l.val.cell? ⟨bn, on + k * 9, none⟩ = some (.int .i64 x.kind) := hnx.at_ (HB1.out) 0 _ rfl
    have p1 : ∀ l : Later w1, l.val.cell? ⟨bn, on + k * 9 + 1, none⟩ = some (.int .i64 x.a) := hnx.at_ (HB1.out) 1 _ rfl
    have p2 : ∀ l : Later w1, l.val.cell? ⟨bn, on + k * 9 + 2, none⟩ = some (.int .i64 x.b) := hnx.at_ (HB1.out) 2 _ rfl
    have p3 : ∀ l : Later w1, l.val.cell? ⟨bn, on + k * 9 + 3, none⟩ = some (.int .i64 x.c) := hnx.at_ (HB1.out) 3 _ rfl
    have p4 : ∀ l : Later w1, l.val.cell? ⟨bn, on + k * 9 + 4, none⟩ = some (.int .i64 x.n) := hnx.at_ (HB1.out) 4 _ rfl
    have p5 : ∀ l : Later w1, l.val.cell? ⟨bn, on + k * 9 + 5, none⟩ = some (.int .i64 x.m) := hnx.at_ (HB1.out) 5 _ rfl
    have p6 : ∀ l : Later w1, l.val.cell? ⟨bn, on + k * 9 + 6, none⟩ = some (.int .i64 x.idx) := hnx.at_ (HB1.out) 6 _ rfl
    have p7 : ∀ l : Later w1, l.val.cell? ⟨bn, on + k * 9 + 7, none⟩ = some (.int .i64 x.wid) := hnx.at_ (HB1.out) 7 _ rfl
    have p8 : ∀ l : Later w1, l.val.cell? ⟨bn, on + k * 9 + 8, none⟩ = some (.string x.name) := hnx.at_ (HB1.out) 8 _ rfl
    clear hgn hnx hA
    go_upto_region 6 with fail
    have m0 : ∀ l : Later (u.val.alloc (Obj.cells #[.int .i64 x.kind, .int .i64 x.a, .int .i64 x.b, .int .i64 x.c, .int .i64 x.n, .int .i64 x.m, .int .i64 x.idx, .int .i64 x.wid, .string x.name] 38)), l.val.cell? ⟨u.val.heap.size, 0, none⟩ = some (.int .i64 x.kind) := Later.cell (by simp)
    have m1 : ∀ l : Later (u.val.alloc (Obj.cells #[.int .i64 x.kind, .int .i64 x.a, .int .i64 x.b, .int .i64 x.c, .int .i64 x.n, .int .i64 x.m, .int .i64 x.idx, .int .i64 x.wid, .string x.name] 38)), l.val.cell? ⟨u.val.heap.size, 1, none⟩ = some (.int .i64 x.a) := Later.cell (by simp)
    have m2 : ∀ l : Later (u.val.alloc (Obj.cells #[.int .i64 x.kind, .int .i64 x.a, .int .i64 x.b, .int .i64 x.c, .int .i64 x.n, .int .i64 x.m, .int .i64 x.idx, .int .i64 x.wid, .string x.name] 38)), l.val.cell? ⟨u.val.heap.size, 2, none⟩ = some (.int .i64 x.b) := Later.cell (by simp)
    have m3 : ∀ l : Later (u.val.alloc (Obj.cells #[.int .i64 x.kind, .int .i64 x.a, .int .i64 x.b, .int .i64 x.c, .int .i64 x.n, .int .i64 x.m, .int .i64 x.idx, .int .i64 x.wid, .string x.name] 38)), l.val.cell? ⟨u.val.heap.size, 3, none⟩ = some (.int .i64 x.c) := Later.cell (by simp)
    have m4 : ∀ l : Later (u.val.alloc (Obj.cells #[.int .i64 x.kind, .int .i64 x.a, .int .i64 x.b, .int .i64 x.c, .int .i64 x.n, .int .i64 x.m, .int .i64 x.idx, .int .i64 x.wid, .string x.name] 38)), l.val.cell? ⟨u.val.heap.size, 4, none⟩ = some (.int .i64 x.n) := Later.cell (by simp)
    have m5 : ∀ l : Later (u.val.alloc (Obj.cells #[.int .i64 x.kind, .int .i64 x.a, .int .i64 x.b, .int .i64 x.c, .int .i64 x.n, .int .i64 x.m, .int .i64 x.idx, .int .i64 x.wid, .string x.name] 38)), l.val.cell? ⟨u.val.heap.size, 5, none⟩ = some (.int .i64 x.m) := Later.cell (by simp)
    have m6 : ∀ l : Later (u.val.alloc (Obj.cells #[.int .i64 x.kind, .int .i64 x.a, .int .i64 x.b, .int .i64 x.c, .int .i64 x.n, .int .i64 x.m, .int .i64 x.idx, .int .i64 x.wid, .string x.name] 38)), l.val.cell? ⟨u.val.heap.size, 6, none⟩ = some (.int .i64 x.idx) := Later.cell (by simp)
    have m7 : ∀ l : Later (u.val.alloc (Obj.cells #[.int .i64 x.kind, .int .i64 x.a, .int .i64 x.b, .int .i64 x.c, .int .i64 x.n, .int .i64 x.m, .int .i64 x.idx, .int .i64 x.wid, .string x.name] 38)), l.val.cell? ⟨u.val.heap.size, 7, none⟩ = some (.int .i64 x.wid) := Later.cell (by simp)
    have m8 : ∀ l : Later (u.val.alloc (Obj.cells #[.int .i64 x.kind, .int .i64 x.a, .int .i64 x.b, .int .i64 x.c, .int .i64 x.n, .int .i64 x.m, .int .i64 x.idx, .int .i64 x.wid, .string x.name] 38)), l.val.cell? ⟨u.val.heap.size, 8, none⟩ = some (.string x.name) := Later.cell (by simp)
    have HW := Lib.hid (show Below u.val.heap.size u.val (u.val.alloc (Obj.cells #[.int .i64 x.kind, .int .i64 x.a, .int .i64 x.b, .int .i64 x.c, .int .i64 x.n, .int .i64 x.m, .int .i64 x.idx, .int .i64 x.wid, .string x.name] 38)) from (Below.refl _ _).alloc (Nat.le_refl _) _)
    generalize (u.val.alloc (Obj.cells #[.int .i64 x.kind, .int .i64 x.a, .int .i64 x.b, .int .i64 x.c, .int .i64 x.n, .int .i64 x.m, .int .i64 x.idx, .int .i64 x.wid, .string x.name] 38)) = W2 at *
    have hL2 : LaterC w1 W2 := u.step HW.out
    have HV2 := Lib.hid (HR.out.2.2.2.2.below HW.out)
    have hb2 := lift_cell hL2 hb0
    have HBW := Lib.hid (show Below w.heap.size w W2 from HB1.out.trans (hL2.below.mono HB1.out.size))
    have HW1 := Lib.hid hL2
    clear p0 p1 p2 p3 p4 p5 p6 p7 p8 hL2
    refine at_world (w := W2) ?_
    intro v2
    by_cases k36 : x.kind = 36
    · have hk36 : (x.kind == 36) = true := beq_iff_eq.2 k36
      have hk35 : (x.kind == 35) = false := beq_eq_false_iff_ne.2 (by omega)
      have HA6 := Lib.hid (HP6.out hk36)
      have HA5 := Lib.hid (HP5n.out hk35)
      have hfx := HFSX.out hk36
      rw [← HR.out.1] at hfx
      obtain ⟨hplt, hval⟩ := hfx
      have hsok : sokB x.idx x.wid = true := by
       rcases HKX.out with g | g | g | g | g | g | g | g | g | g | g
       · exact absurd g.1 (by omega)
       · exact g.2
       all_goals exact absurd g.1 (by omega)
      have hpos : 0 < (S.getD pa []).length := by rw [(part_val hval hsok).1]; exact Nat.two_pow_pos _
      obtain ⟨bs, os, sx, rfl, -, hcs, hsx, hle, hle2, htl⟩ := VlAt.tail HR.out.2.2.1 (show pa < S.length by rw [HQ.out]; exact hplt)
      have HNO := Lib.hid (hsx.notIn hpos (Nat.le_of_eq HSZ1.out) : NotIn (w.heap.size + 1) sx)
      have HSX := Lib.hid hsx
      obtain ⟨A3, c3, rfl, -⟩ := hsx
      have HTL := htl
      clear htl
      have HNW := Lib.hid (show nw = S.getD pa [] by rw [HST.out, if_neg (by omega), if_pos k36, HR.out.1])
      have hcs := lift_cell HW1.out (Later.cell hcs)
      obtain ⟨r, hr⟩ : ∃ r, r = q - pa := ⟨_, rfl⟩
      rw [← hr] at hle hle2 HTL ⊢
      have hlp0 : 0 < r := by omega
      have hlp : (1 : Int) ≤ (r : Int) := by omega
      have hlp2 : (0 : Int) < (r : Int) := by omega
      have hlp3 : r ≠ 0 := by omega
      have HRR := Lib.hid hr
      clear hr
      clear hval
      have HTL := Lib.hid HTL
      go_upto_region 9 with fail
      have HV3 := Lib.hid (HV2.out.below v2.prop)
      obtain ⟨z0, hz0⟩ := HV3.out.cell hlt
      have f0 := HV3.out.frozen k
      have hcs2 := hcs v2
      have HQL := Lib.hid (show q - (pa + 1) = r - 1 by rw [HRR.out]; omega)
      have HRC := Lib.hid hle
      go_region_law (fail)
      all_goals
       go_wp2
       go_roundw
       case rel =>
        refine ⟨k + 1, pa + 1, pb, cS - 1, cI, _, _, by omega, by go_num, by rw [HQL.out], rfl, Lib.hid ⟨by rw [HA6.out, HR.out.1] <;> simp, by rw [HA5.out, HR.out.2.1] <;> simp, by rw [HQL.out]; exact vl_if HTL.out HRC.out, HR.out.2.2.2.1, ?_⟩, ?_⟩
        · rw [HEV.out, HNW.out]
          have hbd : Below v2.val.heap.size v2.val _ := (by repeat (first | exact Below.refl _ _ | refine Below.drew ?_))
          exact HoldsV.put (HV3.out.below hbd) (evalN_length _ _ _ _) hlt (((HSX.out.below HW1.out.below).later v2).below hbd) HNO.out
        · first | refine LaterC.drew' (LaterC.setCell' ?_ _ _ ?_) | refine LaterC.setCell' ?_ _ _ ?_
          · refine LaterC.trans HW1.out (LaterC.trans ⟨v2, rfl⟩ ?_)
            repeat (first | exact LaterC.refl _ | refine LaterC.drew' ?_)
          · exact Nat.le_of_eq HSZ1.out
       case measure => simp [intOf] <;> omega
    · by_cases k35 : x.kind = 35
      · have hk36 : (x.kind == 36) = false := beq_eq_false_iff_ne.2 (by omega)
        have hk35 : (x.kind == 35) = true := beq_iff_eq.2 k35
        have HA6 := Lib.hid (HP6n.out hk36)
        have HA5 := Lib.hid (HP5.out hk35)
        have hfx := HFIX.out hk35
        rw [← HR.out.2.1] at hfx
        obtain ⟨hplt, hval⟩ := hfx
        have hsok : sokB x.idx x.wid = true := by
         rcases HKX.out with g | g | g | g | g | g | g | g | g | g | g
         · exact absurd g.1 (by omega)
         · exact g.2
         all_goals exact absurd g.1 (by omega)
        have hpos : 0 < (I.getD pb []).length := by rw [(part_val hval hsok).1]; exact Nat.two_pow_pos _
        obtain ⟨bs, os, sx, rfl, -, hcs, hsx, hle, hle2, htl⟩ := VlAt.tail HR.out.2.2.2.1 (show pb < I.length by rw [HT.out]; exact hplt)
        have HNO := Lib.hid (hsx.notIn hpos (Nat.le_of_eq HSZ1.out) : NotIn (w.heap.size + 1) sx)
        have HSX := Lib.hid hsx
        obtain ⟨A3, c3, rfl, -⟩ := hsx
        have HTL := htl
        clear htl
        have HNW := Lib.hid (show nw = I.getD pb [] by rw [HST.out, if_neg (by omega), if_neg k36, if_pos k35, HR.out.2.1])
        have hcs := lift_cell HW1.out (Later.cell hcs)
        obtain ⟨r, hr⟩ : ∃ r, r = t - pb := ⟨_, rfl⟩
        rw [← hr] at hle hle2 HTL ⊢
        have hlp0 : 0 < r := by omega
        have hlp : (1 : Int) ≤ (r : Int) := by omega
        have hlp2 : (0 : Int) < (r : Int) := by omega
        have hlp3 : r ≠ 0 := by omega
        have HRR := Lib.hid hr
        clear hr
        clear hval
        have HTL := Lib.hid HTL
        go_upto_region 11 with fail
        have HV3 := Lib.hid (HV2.out.below v2.prop)
        obtain ⟨z0, hz0⟩ := HV3.out.cell hlt
        have f0 := HV3.out.frozen k
        have hcs2 := hcs v2
        have HQL := Lib.hid (show t - (pb + 1) = r - 1 by rw [HRR.out]; omega)
        have HRC := Lib.hid hle
        go_region_law (fail)
        all_goals
         go_wp2
         go_roundw
         case rel =>
          refine ⟨k + 1, pa, pb + 1, cS, cI - 1, _, _, by omega, by go_num, rfl, by rw [HQL.out], Lib.hid ⟨by rw [HA6.out, HR.out.1] <;> simp, by rw [HA5.out, HR.out.2.1] <;> simp, HR.out.2.2.1, by rw [HQL.out]; exact vl_if HTL.out HRC.out, ?_⟩, ?_⟩
          · rw [HEV.out, HNW.out]
            have hbd : Below v2.val.heap.size v2.val _ := (by repeat (first | exact Below.refl _ _ | refine Below.drew ?_))
            exact HoldsV.put (HV3.out.below hbd) (evalN_length _ _ _ _) hlt (((HSX.out.below HW1.out.below).later v2).below hbd) HNO.out
          · first | refine LaterC.drew' (LaterC.setCell' ?_ _ _ ?_) | refine LaterC.setCell' ?_ _ _ ?_
            · refine LaterC.trans HW1.out (LaterC.trans ⟨v2, rfl⟩ ?_)
              repeat (first | exact LaterC.refl _ | refine LaterC.drew' ?_)
            · exact Nat.le_of_eq HSZ1.out
         case measure => simp [intOf] <;> omega
      · have hk36 : (x.kind == 36) = false := beq_eq_false_iff_ne.2 k36
        have hk35 : (x.kind == 35) = false := beq_eq_false_iff_ne.2 k35
        have HA6 := Lib.hid (HP6n.out hk36)
        have HA5 := Lib.hid (HP5n.out hk35)
        have HV3 := Lib.hid (HV2.out.below v2.prop)
        have HNW := Lib.hid (show nw = if x.kind = 34 then [x.n] else reckN M.nodes x (evalN M.nodes S I k) by rw [HST.out, if_neg k36, if_neg k35])
        have HSN2 := Lib.hid (show SlN enNd v2.val (.slice (some ⟨bn, on, none⟩) n c) M.nodes from (HSN.out.below HBW.out).later v2)
        have HCV := Lib.hid (value_calls (.slice (some ⟨bn, on, none⟩) n c) M.nodes x (evalN M.nodes S I k) k (w.heap.size + 1) n n w.heap.size v2.val (hb2 v2) HSN2.out HV3.out.at_ hn2 hk HV3.out.lt (evalN_length _ _ _ _) (by rw [HN.out]; exact hk) (by rw [HN.out]; omega) HKX.out ⟨k35, k36⟩ (fun p hp => HOK.out k hk p.toNat (by have h1 := hp.lo; have h2 := hp.hi; omega)))
        rw [← HNW.out] at HCV
        go_wp2_with (go_at_call 148; refine (HCV.out).mono ?_; rintro e w' ⟨s, rfl, hb, hs, hn⟩; have HVN := Lib.hid (HV3.out.below hb); have HD := Lib.hid (And.intro hb (And.intro hs hn)); obtain ⟨sA, sc, rfl, -⟩ := hs; obtain ⟨z0, hz0⟩ := HVN.out.cell hlt; have f0 := HVN.out.frozen k; clear hb hn)
        go_roundw
        case rel =>
         refine ⟨k + 1, pa, pb, cS, cI, _, _, by omega, by go_num, rfl, rfl, Lib.hid ⟨by rw [HA6.out, HR.out.1] <;> simp, by rw [HA5.out, HR.out.2.1] <;> simp, HR.out.2.2.1, HR.out.2.2.2.1, ?_⟩, ?_⟩
         · rw [HEV.out]
           exact HoldsV.put HVN.out (evalN_length _ _ _ _) hlt HD.out.2.1 HD.out.2.2
         · exact LaterC.setCell' (laterC_step (LaterC.trans HW1.out ⟨v2, rfl⟩) HD.out.1) _ _ (Nat.le_of_eq HSZ1.out)
        case measure => simp [intOf] <;> omega
  · obtain rfl : k = n := by omega
    clear hA
    go_wp2
    go_ret
    exact ⟨_, rfl, u.back HB1.out, HR.out.2.2.2.2.vlAt (evalN_length _ _ _ _) hn2⟩
abbrev evalL (M : Md) (S I : List (List Int)) : List (List Int) := evalN M.nodes S I M.nodes.length
noncomputable def bothK (M : Md) (S I : List (List Int)) : Bool := fitsK 36 M S && fitsK 35 M I
noncomputable def holdsK (M : Md) (S I : List (List Int)) : Bool := bothK M S I && M.holds.all (isB (evalL M S I))
noncomputable def badK (M : Md) (S I : List (List Int)) : Int := if bothK M S I = true then firstN (isB (evalL M S I)) M.bads else -1
theorem codeN_parts {M : Md} (h : codeN M = 0) : bigB M = false ∧ nodesB M.nodes = true ∧ twiceB M = false ∧ bindsB M = true ∧ propsB M.nodes M.bads = true ∧ propsB M.nodes M.holds = true := by
 unfold codeN at h
 split at h
 · omega
 split at h
 · omega
 split at h
 · omega
 split at h
 · omega
 split at h
 · omega
 split at h
 · omega
 rename_i h1 h2 h3 h4 h5 h6
 exact ⟨by simpa using h1, by simpa using h2, by simpa using h3, by simpa using h4, by simpa using h5, by simpa using h6⟩
theorem fitsK_code {kind : Int} {M : Md} {L : List (List Int)} (h : fitsK kind M L = true) : codeN M = 0 ∧ fitsB M.nodes (placesN kind M.nodes M.nodes.length) L = true := by
 unfold fitsK at h
 split at h
 · exact ⟨‹_›, h⟩
 · cases h
theorem one_at {ns : List Nd} {L : List (List Int)} {xs : List Int} (hp : propsB ns xs = true) (hl : L.length = ns.length) (hv : ∀ j, j < ns.length → valB (ns.getD j Nd.zero) (L.getD j []) = true) : OneAt L xs := by
 intro i p hx
 unfold propsB at hp
 have h := List.all_eq_true.1 hp p (List.mem_of_getElem? hx)
 unfold propB w1B at h
 simp only [Bool.and_eq_true, beq_iff_eq] at h
 obtain ⟨h1, h2, h3⟩ := h
 have h1 := of_inB h1
 obtain ⟨q, rfl⟩ := Int.eq_ofNat_of_zero_le h1.1
 rw [Int.toNat_natCast] at h2 h3
 have hval := hv q (by omega)
 unfold valB at hval
 rw [h2, h3] at hval
 obtain ⟨v, e, hw⟩ := val_word hval (by decide)
 refine ⟨q, rfl, by omega, v, e, ?_⟩
 have h4 := hw.lo
 have h5 := hw.hi
 have : (2 : Int) ^ (1 : Int).toNat = 2 := by decide
 omega
theorem eval_one {M : Md} {S I : List (List Int)} (h : bothK M S I = true) : codeN M = 0 ∧ nodesB M.nodes = true ∧ fitsB M.nodes (placesN 36 M.nodes M.nodes.length) S = true ∧ fitsB M.nodes (placesN 35 M.nodes M.nodes.length) I = true ∧ OneAt (evalL M S I) M.holds ∧ OneAt (evalL M S I) M.bads := by
 unfold bothK at h
 rw [Bool.and_eq_true] at h
 obtain ⟨h1, h2⟩ := fitsK_code h.1
 obtain ⟨-, h3⟩ := fitsK_code h.2
 obtain ⟨-, g1, -, -, g2, g3⟩ := codeN_parts h1
 have hok := evalN_ok g1 h2 h3 M.nodes.length (Nat.le_refl _)
 exact ⟨h1, g1, h2, h3, one_at g3 (evalN_length _ _ _ _) hok, one_at g2 (evalN_length _ _ _ _) hok⟩
theorem RowVs.nil (lo : Nat) (w : World) : RowVs lo w (.slice none 0 0) [] [] := ⟨by simp, rfl, .inl ⟨rfl, rfl⟩, fun i sv xs hi => by simp at hi, fun i j si sj b hi => by simp at hi⟩
theorem sok_mk {i a : Int} (h : 0 ≤ i ∧ i ≤ 2 ∧ 1 ≤ a ∧ a ≤ 16) : sokB i a = true := by
 unfold sokB widB
 rw [inB_yes ⟨h.1, h.2.1⟩, inB_yes ⟨h.2.2.1, h.2.2.2⟩]
 rfl
theorem kinds_sok {ns : List Nd} {i : Nat} {x : Nd} (h : Kinds ns i x) : sokB x.idx x.wid = true := by
 rcases h with ⟨k, h1, h2⟩ | ⟨k, h1⟩ | ⟨k, ha, hb, hc, h1, h2, h3, h4, h5, h6⟩ | ⟨k, ha, hb, h1, h2, h3, h4, h5⟩ | ⟨k, ha, hb, hc, h1, h2, h3, h4, h5, h6, h7⟩ | ⟨k, ha, hb, h1, h2, h3, h4⟩ | ⟨k, ha, hb, h1, h2, h3, h4, h5⟩ | ⟨k, ha, h1, h2, h3, h4, h5, h6⟩ | ⟨k, ha, h1, h2, h3, h4, h5⟩ | ⟨k, ha, h1, h2, h3⟩ | ⟨k, ha, hb, h1, h2, h3, h4, h5⟩
 · have := wokB_yes h2
   exact sok_mk (by omega)
 · exact h1
 · have := sok_word hb.sok
   exact sok_mk (by omega)
 · have := sok_word ha.sok
   exact sok_mk (by omega)
 · have := sok_word ha.sok
   exact sok_mk (by omega)
 · exact sok_mk (by omega)
 · have := sok_word ha.sok
   have := sok_word hb.sok
   exact sok_mk (by omega)
 · have := sok_word ha.sok
   exact sok_mk (by omega)
 · have := sok_word ha.sok
   exact sok_mk (by omega)
 · have := sok_word ha.sok
   unfold one2 at h3
   split at h3 <;> exact sok_mk (by omega)
 · have := sok_word ha.sok
   unfold two2 at h5
   split at h5 <;> exact sok_mk (by omega)
theorem node_sok {ns : List Nd} {i : Nat} (h : nodesB ns = true) (hi : i < ns.length) : sokB (ns.getD i Nd.zero).idx (ns.getD i Nd.zero).wid = true := kinds_sok (node_kinds h hi)
theorem val_one {i a : Int} {xs : List Int} (h : valN i a xs = true) (hs : sokB i a = true) : 0 < xs.length ∧ xs.length ≤ 4 := by
 have h1 := (val_parts h).1
 have h2 := cells_bits i a
 have h3 : 0 < cellsN i a := by
  unfold cellsN
  rw [if_pos hs]
  exact pow_pos_i i
 omega
end Go.Proofs.YtbenebcphaiohaaGreat
