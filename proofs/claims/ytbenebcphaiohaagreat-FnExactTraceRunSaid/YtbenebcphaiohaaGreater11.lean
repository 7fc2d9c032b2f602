import Derived.Test.YtbenebcphaiohaaGreater10
import Derived.Test.YtbenebcphaiohaaGreater8
import Derived.Test.YtbenebcphaiohaaGreater2
import Derived.Deep.Cut
set_option linter.unusedVariables false
set_option linter.unusedSimpArgs false
set_option maxRecDepth 8000
set_option maxHeartbeats 16000000
namespace Go.Proofs.YtbenebcphaiohaaGreat
open Go.RowKit
theorem RowI.putAt {w : World} {g n cap : Nat} {xs : List Int} (h : RowI w (.slice (some ⟨g, 0, none⟩) n cap) xs) {j : Nat} (hj : j < xs.length) (y : Int) : RowI (w.setCell ⟨g, j, none⟩ (.int .i64 y)) (.slice (some ⟨g, 0, none⟩) n cap) (xs.set j y) := by
 obtain ⟨hl, ⟨h0, -⟩ | ⟨g', cap', cur, hv, ho, hc, hs, hf⟩⟩ := h
 · cases h0
 · cases hv
   refine ⟨by simpa using hl, .inr ⟨g, cap, cur.setIfInBounds j (.int .i64 y), by simp, ho.set _ _, by simpa using hc, by simpa using hs, fun i x hx => ?_⟩⟩
   rw [List.getElem?_set] at hx
   by_cases e : j = i
   · subst e
     rw [if_pos rfl, if_pos hj] at hx
     cases hx
     rw [Array.getElem?_setIfInBounds_self_of_lt (by omega)]
   · rw [if_neg e] at hx
     rw [Array.getElem?_setIfInBounds_ne (by omega)]
     exact hf i x hx
theorem rowI_cell {w : World} {g n cap : Nat} {xs : List Int} (h : RowI w (.slice (some ⟨g, 0, none⟩) n cap) xs) {j : Nat} (hj : j < xs.length) : ∃ v, w.cell? ⟨g, j, none⟩ = some v := by
 obtain ⟨hl, ⟨h0, -⟩ | ⟨g', cap', cur, hv, ho, hc, hs, hf⟩⟩ := h
 · cases h0
 · cases hv
   exact ⟨_, (ho.cell j).trans (hf j _ (getD_at hj 0))⟩
theorem rowI_frozen {w : World} {g n cap : Nat} {xs : List Int} (h : RowI w (.slice (some ⟨g, 0, none⟩) n cap) xs) (j : Nat) : w.frozen? ⟨g, j, none⟩ = false := by
 obtain ⟨hl, ⟨h0, -⟩ | ⟨g', cap', cur, hv, ho, hc, hs, hf⟩⟩ := h
 · cases h0
 · cases hv
   exact ho.frozen j
theorem rowI_some {w : World} {v : Value} {xs : List Int} (h : RowI w v xs) (h0 : 0 < xs.length) : ∃ g cap, v = .slice (some ⟨g, 0, none⟩) xs.length cap ∧ g < w.heap.size := by
 obtain ⟨-, ⟨-, rfl⟩ | ⟨g, cap, cur, rfl, ho, -⟩⟩ := h
 · simp at h0
 · exact ⟨g, cap, rfl, ho.lt⟩
theorem cNode_29 (cc : Int) (n m xi xw : Int) (nm : ByteArray) (bn on N c bv ov I d p : Nat) (wa : Int) (q b1 o1 c1 b2 o2 c2 : Nat) (a bb : Int) (wb : Int) (w : World) (hN : N ≤ 281474976710656) (hI : I ≤ 281474976710656) (hp : p < N) (hpI : p < I) (hw : w.cell? ⟨bn, on + p * 9 + 7, none⟩ = some (.int .i64 wa)) (hsa : w.cell? ⟨bv, ov + p, none⟩ = some (.slice (some ⟨b1, o1, none⟩) 1 c1)) (hva : w.cell? ⟨b1, o1, none⟩ = some (.int .i64 a)) (hq : q < N) (hqI : q < I) (hsb : w.cell? ⟨bv, ov + q, none⟩ = some (.slice (some ⟨b2, o2, none⟩) 1 c2)) (hvb : w.cell? ⟨b2, o2, none⟩ = some (.int .i64 bb)) (hwb : w.cell? ⟨bn, on + q * 9 + 7, none⟩ = some (.int .i64 wb)) (ha : Wo wa a) (hb : Wo wb bb) (hs : wa + wb ≤ 16) :
 Calls Tryz.prog 182 #[.slice (some ⟨bn, on, none⟩) N c, .agg #[.int .i64 29, .int .i64 (p : Int), .int .i64 (q : Int), .int .i64 cc, .int .i64 n, .int .i64 m, .int .i64 xi, .int .i64 xw, .string nm], .slice (some ⟨bv, ov, none⟩) I d] w fun e w' => NewV w.heap.size w e w' [a * 2 ^ wb.toNat + bb] := by
 have hp' : (p : Int) < N := by omega
 have hpI' : (p : Int) < I := by omega
 unfold NewV
 go_enter Tryz.func182, Tryz.ntmps182
 go_upto_region 1 with fail
 obtain ⟨W0, hW0, HB, HG, x0, x1, x2, x3, x4, x5, xr, xf⟩ := node_world 29 (p : Int) (q : Int) cc n m xi xw nm w
 rw [hW0]
 clear hW0
 have hw := Later.cell (keepcell HB.out hw)
 have hsa := Later.cell (keepcell HB.out hsa)
 have hva := Later.cell (keepcell HB.out hva)
 have hsb := Later.cell (keepcell HB.out hsb)
 have hvb := Later.cell (keepcell HB.out hvb)
 have hwb := Later.cell (keepcell HB.out hwb)
 refine at_world (w := W0) ?_
 intro u0
 go_upto_region 2 with fail
 obtain ⟨W1, hW1⟩ : ∃ W1, W1 = u0.val.alloc (Obj.cells #[.slice (some ⟨b1, o1, none⟩) 1 c1] 40) := ⟨_, rfl⟩
 have hL : LaterC W0 W1 := hW1 ▸ LaterC.alloc' ⟨u0, rfl⟩ _
 obtain ⟨ga, hga⟩ : ∃ g, g = u0.val.heap.size := ⟨_, rfl⟩
 have xa : ∀ u : Later W1, u.val.cell? ⟨ga, 0, none⟩ = some (.slice (some ⟨b1, o1, none⟩) 1 c1) := Later.cell (by rw [hW1, hga]; simp)
 rw [← hW1, ← hga]
 have x0 := lift_cell hL x0
 have x1 := lift_cell hL x1
 have x2 := lift_cell hL x2
 have x3 := lift_cell hL x3
 have x4 := lift_cell hL x4
 have x5 := lift_cell hL x5
 have xr := lift_cell hL xr
 have xf : ∀ u : Later W1, u.val.frozen? ⟨w.heap.size + 1, 0, none⟩ = false := lift_frozen hL xf
 have hw := lift_cell hL hw
 have hva := lift_cell hL hva
 have hsb := lift_cell hL hsb
 have hvb := lift_cell hL hvb
 have hwb := lift_cell hL hwb
 have HB := Lib.hid (show Below w.heap.size w W1 from HB.out.trans (hL.below.mono HB.out.size))
 have HG := Lib.hid (show w.heap.size + 2 ≤ W1.heap.size by have h1 := HG.out; have h2 := hL.size; omega)
 clear hsa hL hga hW1
 refine at_world (w := W1) ?_
 intro u1
 go_upto_region 3 with fail
 have hqI' : (q : Int) < I := by omega
 have hq' : (q : Int) < N := by omega
 go_upto_region 18 with fail
 refine wp_region_later (w0 := W1) (by kernel_rfl) (by kernel_rfl) ⟨u1, rfl⟩ ?_
 repeat (go_big_quiet_step ((go_at_call 214; exact Calls.later (Makes.of_same (WordJoin_full wa a wb bb ha hb hs _)))))
 refine wpQuiet_nil ?_
 rintro _ ⟨u2, rfl⟩
 go_wp2_with (go_at_call 180; refine (l4One_calls (a * 2 ^ wb.toNat + bb) u2.val).mono ?_; rintro e w' ⟨s, rfl, hb, hr, hg⟩; obtain ⟨sA, sn, sc, rfl⟩ := rowI_slice hr; have f0 : w'.frozen? ⟨w.heap.size + 1, 0, none⟩ = false := (lift_frozen (later_step u2 hb) xf) ⟨w', Below.refl _ _⟩; have r0 : w'.cell? ⟨w.heap.size + 1, 0, none⟩ = some (.slice none 0 0) := (lift_cell (later_step u2 hb) xr) ⟨w', Below.refl _ _⟩; have HD := Lib.hid (And.intro hb (And.intro hr (And.intro hg r0))); clear hb hr hg)
 have hd := node_done (u1 := u2) HB.out HG.out HD.out.1 HD.out.2.1 HD.out.2.2.1
 have rc := World.cell?_setCell_same _ _ (Value.slice sA sn sc) HD.out.2.2.2
 exact bodyPost_ret (v := .agg #[.slice sA sn sc]) (by simp [results, Tryz.results182, go_sem, rc]) rfl ⟨_, rfl, hd.1, hd.2.1, hd.2.2⟩
theorem cNode_30 (b cc : Int) (n m xi xw : Int) (nm : ByteArray) (bn on N c bv ov I d p : Nat) (wa : Int) (b1 o1 c1 : Nat) (a : Int) (w : World) (hN : N ≤ 281474976710656) (hI : I ≤ 281474976710656) (hp : p < N) (hpI : p < I) (hw : w.cell? ⟨bn, on + p * 9 + 7, none⟩ = some (.int .i64 wa)) (hsa : w.cell? ⟨bv, ov + p, none⟩ = some (.slice (some ⟨b1, o1, none⟩) 1 c1)) (hva : w.cell? ⟨b1, o1, none⟩ = some (.int .i64 a)) (ha : Wo wa a) (hm0 : 0 ≤ m) (hmn : m ≤ n) (hnw : n < wa) :
 Calls Tryz.prog 182 #[.slice (some ⟨bn, on, none⟩) N c, .agg #[.int .i64 30, .int .i64 (p : Int), .int .i64 b, .int .i64 cc, .int .i64 n, .int .i64 m, .int .i64 xi, .int .i64 xw, .string nm], .slice (some ⟨bv, ov, none⟩) I d] w fun e w' => NewV w.heap.size w e w' [a / 2 ^ m.toNat % 2 ^ (n - m + 1).toNat] := by
 have hp' : (p : Int) < N := by omega
 have hpI' : (p : Int) < I := by omega
 unfold NewV
 go_enter Tryz.func182, Tryz.ntmps182
 go_upto_region 1 with fail
 obtain ⟨W0, hW0, HB, HG, x0, x1, x2, x3, x4, x5, xr, xf⟩ := node_world 30 (p : Int) b cc n m xi xw nm w
 rw [hW0]
 clear hW0
 have hw := Later.cell (keepcell HB.out hw)
 have hsa := Later.cell (keepcell HB.out hsa)
 have hva := Later.cell (keepcell HB.out hva)
 refine at_world (w := W0) ?_
 intro u0
 go_upto_region 2 with fail
 obtain ⟨W1, hW1⟩ : ∃ W1, W1 = u0.val.alloc (Obj.cells #[.slice (some ⟨b1, o1, none⟩) 1 c1] 40) := ⟨_, rfl⟩
 have hL : LaterC W0 W1 := hW1 ▸ LaterC.alloc' ⟨u0, rfl⟩ _
 obtain ⟨ga, hga⟩ : ∃ g, g = u0.val.heap.size := ⟨_, rfl⟩
 have xa : ∀ u : Later W1, u.val.cell? ⟨ga, 0, none⟩ = some (.slice (some ⟨b1, o1, none⟩) 1 c1) := Later.cell (by rw [hW1, hga]; simp)
 rw [← hW1, ← hga]
 have x0 := lift_cell hL x0
 have x1 := lift_cell hL x1
 have x2 := lift_cell hL x2
 have x3 := lift_cell hL x3
 have x4 := lift_cell hL x4
 have x5 := lift_cell hL x5
 have xr := lift_cell hL xr
 have xf : ∀ u : Later W1, u.val.frozen? ⟨w.heap.size + 1, 0, none⟩ = false := lift_frozen hL xf
 have hw := lift_cell hL hw
 have hva := lift_cell hL hva
 have HB := Lib.hid (show Below w.heap.size w W1 from HB.out.trans (hL.below.mono HB.out.size))
 have HG := Lib.hid (show w.heap.size + 2 ≤ W1.heap.size by have h1 := HG.out; have h2 := hL.size; omega)
 clear hsa hL hga hW1
 refine at_world (w := W1) ?_
 intro u1
 go_upto_region 3 with fail
 go_upto_region 20 with fail
 refine wp_region_later (w0 := W1) (by kernel_rfl) (by kernel_rfl) ⟨u1, rfl⟩ ?_
 repeat (go_big_quiet_step ((go_at_call 215; exact Calls.later (Makes.of_same (WordSlice_full wa a n m ha hm0 hmn hnw _)))))
 refine wpQuiet_nil ?_
 rintro _ ⟨u2, rfl⟩
 go_wp2_with (go_at_call 180; refine (l4One_calls (a / 2 ^ m.toNat % 2 ^ (n - m + 1).toNat) u2.val).mono ?_; rintro e w' ⟨s, rfl, hb, hr, hg⟩; obtain ⟨sA, sn, sc, rfl⟩ := rowI_slice hr; have f0 : w'.frozen? ⟨w.heap.size + 1, 0, none⟩ = false := (lift_frozen (later_step u2 hb) xf) ⟨w', Below.refl _ _⟩; have r0 : w'.cell? ⟨w.heap.size + 1, 0, none⟩ = some (.slice none 0 0) := (lift_cell (later_step u2 hb) xr) ⟨w', Below.refl _ _⟩; have HD := Lib.hid (And.intro hb (And.intro hr (And.intro hg r0))); clear hb hr hg)
 have hd := node_done (u1 := u2) HB.out HG.out HD.out.1 HD.out.2.1 HD.out.2.2.1
 have rc := World.cell?_setCell_same _ _ (Value.slice sA sn sc) HD.out.2.2.2
 exact bodyPost_ret (v := .agg #[.slice sA sn sc]) (by simp [results, Tryz.results182, go_sem, rc]) rfl ⟨_, rfl, hd.1, hd.2.1, hd.2.2⟩
theorem cNode_31 (b cc : Int) (n m xi xw : Int) (nm : ByteArray) (bn on N c bv ov I d p : Nat) (wa : Int) (b1 o1 c1 : Nat) (a : Int) (w : World) (hN : N ≤ 281474976710656) (hI : I ≤ 281474976710656) (hp : p < N) (hpI : p < I) (hw : w.cell? ⟨bn, on + p * 9 + 7, none⟩ = some (.int .i64 wa)) (hsa : w.cell? ⟨bv, ov + p, none⟩ = some (.slice (some ⟨b1, o1, none⟩) 1 c1)) (hva : w.cell? ⟨b1, o1, none⟩ = some (.int .i64 a)) (ha : Wo wa a) (hn0 : 0 ≤ n) (hnw : wa + n ≤ 16) :
 Calls Tryz.prog 182 #[.slice (some ⟨bn, on, none⟩) N c, .agg #[.int .i64 31, .int .i64 (p : Int), .int .i64 b, .int .i64 cc, .int .i64 n, .int .i64 m, .int .i64 xi, .int .i64 xw, .string nm], .slice (some ⟨bv, ov, none⟩) I d] w fun e w' => NewV w.heap.size w e w' [grow1 wa a n false] := by
 have hp' : (p : Int) < N := by omega
 have hpI' : (p : Int) < I := by omega
 unfold NewV
 go_enter Tryz.func182, Tryz.ntmps182
 go_upto_region 1 with fail
 obtain ⟨W0, hW0, HB, HG, x0, x1, x2, x3, x4, x5, xr, xf⟩ := node_world 31 (p : Int) b cc n m xi xw nm w
 rw [hW0]
 clear hW0
 have hw := Later.cell (keepcell HB.out hw)
 have hsa := Later.cell (keepcell HB.out hsa)
 have hva := Later.cell (keepcell HB.out hva)
 refine at_world (w := W0) ?_
 intro u0
 go_upto_region 2 with fail
 obtain ⟨W1, hW1⟩ : ∃ W1, W1 = u0.val.alloc (Obj.cells #[.slice (some ⟨b1, o1, none⟩) 1 c1] 40) := ⟨_, rfl⟩
 have hL : LaterC W0 W1 := hW1 ▸ LaterC.alloc' ⟨u0, rfl⟩ _
 obtain ⟨ga, hga⟩ : ∃ g, g = u0.val.heap.size := ⟨_, rfl⟩
 have xa : ∀ u : Later W1, u.val.cell? ⟨ga, 0, none⟩ = some (.slice (some ⟨b1, o1, none⟩) 1 c1) := Later.cell (by rw [hW1, hga]; simp)
 rw [← hW1, ← hga]
 have x0 := lift_cell hL x0
 have x1 := lift_cell hL x1
 have x2 := lift_cell hL x2
 have x3 := lift_cell hL x3
 have x4 := lift_cell hL x4
 have x5 := lift_cell hL x5
 have xr := lift_cell hL xr
 have xf : ∀ u : Later W1, u.val.frozen? ⟨w.heap.size + 1, 0, none⟩ = false := lift_frozen hL xf
 have hw := lift_cell hL hw
 have hva := lift_cell hL hva
 have HB := Lib.hid (show Below w.heap.size w W1 from HB.out.trans (hL.below.mono HB.out.size))
 have HG := Lib.hid (show w.heap.size + 2 ≤ W1.heap.size by have h1 := HG.out; have h2 := hL.size; omega)
 clear hsa hL hga hW1
 refine at_world (w := W1) ?_
 intro u1
 go_upto_region 3 with fail
 go_upto_region 22 with fail
 refine wp_region_later (w0 := W1) (by kernel_rfl) (by kernel_rfl) ⟨u1, rfl⟩ ?_
 repeat (go_big_quiet_step ((go_at_call 216; exact Calls.later (Makes.of_same (WordGrow_full wa a n false ha hn0 hnw _)))))
 refine wpQuiet_nil ?_
 rintro _ ⟨u2, rfl⟩
 go_wp2_with (go_at_call 180; refine (l4One_calls (grow1 wa a n false) u2.val).mono ?_; rintro e w' ⟨s, rfl, hb, hr, hg⟩; obtain ⟨sA, sn, sc, rfl⟩ := rowI_slice hr; have f0 : w'.frozen? ⟨w.heap.size + 1, 0, none⟩ = false := (lift_frozen (later_step u2 hb) xf) ⟨w', Below.refl _ _⟩; have r0 : w'.cell? ⟨w.heap.size + 1, 0, none⟩ = some (.slice none 0 0) := (lift_cell (later_step u2 hb) xr) ⟨w', Below.refl _ _⟩; have HD := Lib.hid (And.intro hb (And.intro hr (And.intro hg r0))); clear hb hr hg)
 have hd := node_done (u1 := u2) HB.out HG.out HD.out.1 HD.out.2.1 HD.out.2.2.1
 have rc := World.cell?_setCell_same _ _ (Value.slice sA sn sc) HD.out.2.2.2
 exact bodyPost_ret (v := .agg #[.slice sA sn sc]) (by simp [results, Tryz.results182, go_sem, rc]) rfl ⟨_, rfl, hd.1, hd.2.1, hd.2.2⟩
theorem cNode_32 (b cc : Int) (n m xi xw : Int) (nm : ByteArray) (bn on N c bv ov I d p : Nat) (wa : Int) (b1 o1 c1 : Nat) (a : Int) (w : World) (hN : N ≤ 281474976710656) (hI : I ≤ 281474976710656) (hp : p < N) (hpI : p < I) (hw : w.cell? ⟨bn, on + p * 9 + 7, none⟩ = some (.int .i64 wa)) (hsa : w.cell? ⟨bv, ov + p, none⟩ = some (.slice (some ⟨b1, o1, none⟩) 1 c1)) (hva : w.cell? ⟨b1, o1, none⟩ = some (.int .i64 a)) (ha : Wo wa a) (hn0 : 0 ≤ n) (hnw : wa + n ≤ 16) :
 Calls Tryz.prog 182 #[.slice (some ⟨bn, on, none⟩) N c, .agg #[.int .i64 32, .int .i64 (p : Int), .int .i64 b, .int .i64 cc, .int .i64 n, .int .i64 m, .int .i64 xi, .int .i64 xw, .string nm], .slice (some ⟨bv, ov, none⟩) I d] w fun e w' => NewV w.heap.size w e w' [grow1 wa a n true] := by
 have hp' : (p : Int) < N := by omega
 have hpI' : (p : Int) < I := by omega
 unfold NewV
 go_enter Tryz.func182, Tryz.ntmps182
 go_upto_region 1 with fail
 obtain ⟨W0, hW0, HB, HG, x0, x1, x2, x3, x4, x5, xr, xf⟩ := node_world 32 (p : Int) b cc n m xi xw nm w
 rw [hW0]
 clear hW0
 have hw := Later.cell (keepcell HB.out hw)
 have hsa := Later.cell (keepcell HB.out hsa)
 have hva := Later.cell (keepcell HB.out hva)
 refine at_world (w := W0) ?_
 intro u0
 go_upto_region 2 with fail
 obtain ⟨W1, hW1⟩ : ∃ W1, W1 = u0.val.alloc (Obj.cells #[.slice (some ⟨b1, o1, none⟩) 1 c1] 40) := ⟨_, rfl⟩
 have hL : LaterC W0 W1 := hW1 ▸ LaterC.alloc' ⟨u0, rfl⟩ _
 obtain ⟨ga, hga⟩ : ∃ g, g = u0.val.heap.size := ⟨_, rfl⟩
 have xa : ∀ u : Later W1, u.val.cell? ⟨ga, 0, none⟩ = some (.slice (some ⟨b1, o1, none⟩) 1 c1) := Later.cell (by rw [hW1, hga]; simp)
 rw [← hW1, ← hga]
 have x0 := lift_cell hL x0
 have x1 := lift_cell hL x1
 have x2 := lift_cell hL x2
 have x3 := lift_cell hL x3
 have x4 := lift_cell hL x4
 have x5 := lift_cell hL x5
 have xr := lift_cell hL xr
 have xf : ∀ u : Later W1, u.val.frozen? ⟨w.heap.size + 1, 0, none⟩ = false := lift_frozen hL xf
 have hw := lift_cell hL hw
 have hva := lift_cell hL hva
 have HB := Lib.hid (show Below w.heap.size w W1 from HB.out.trans (hL.below.mono HB.out.size))
 have HG := Lib.hid (show w.heap.size + 2 ≤ W1.heap.size by have h1 := HG.out; have h2 := hL.size; omega)
 clear hsa hL hga hW1
 refine at_world (w := W1) ?_
 intro u1
 go_upto_region 3 with fail
 go_upto_region 22 with fail
 refine wp_region_later (w0 := W1) (by kernel_rfl) (by kernel_rfl) ⟨u1, rfl⟩ ?_
 repeat (go_big_quiet_step ((go_at_call 216; exact Calls.later (Makes.of_same (WordGrow_full wa a n true ha hn0 hnw _)))))
 refine wpQuiet_nil ?_
 rintro _ ⟨u2, rfl⟩
 go_wp2_with (go_at_call 180; refine (l4One_calls (grow1 wa a n true) u2.val).mono ?_; rintro e w' ⟨s, rfl, hb, hr, hg⟩; obtain ⟨sA, sn, sc, rfl⟩ := rowI_slice hr; have f0 : w'.frozen? ⟨w.heap.size + 1, 0, none⟩ = false := (lift_frozen (later_step u2 hb) xf) ⟨w', Below.refl _ _⟩; have r0 : w'.cell? ⟨w.heap.size + 1, 0, none⟩ = some (.slice none 0 0) := (lift_cell (later_step u2 hb) xr) ⟨w', Below.refl _ _⟩; have HD := Lib.hid (And.intro hb (And.intro hr (And.intro hg r0))); clear hb hr hg)
 have hd := node_done (u1 := u2) HB.out HG.out HD.out.1 HD.out.2.1 HD.out.2.2.1
 have rc := World.cell?_setCell_same _ _ (Value.slice sA sn sc) HD.out.2.2.2
 exact bodyPost_ret (v := .agg #[.slice sA sn sc]) (by simp [results, Tryz.results182, go_sem, rc]) rfl ⟨_, rfl, hd.1, hd.2.1, hd.2.2⟩
theorem cNode_one (k b cc : Int) (n m xi xw : Int) (nm : ByteArray) (bn on N c bv ov I d p : Nat) (wa : Int) (b1 o1 c1 : Nat) (a : Int) (w : World) (hN : N ≤ 281474976710656) (hI : I ≤ 281474976710656) (hp : p < N) (hpI : p < I) (hw : w.cell? ⟨bn, on + p * 9 + 7, none⟩ = some (.int .i64 wa)) (hsa : w.cell? ⟨bv, ov + p, none⟩ = some (.slice (some ⟨b1, o1, none⟩) 1 c1)) (hva : w.cell? ⟨b1, o1, none⟩ = some (.int .i64 a)) (ha : Wo wa a) (hk1 : 1 ≤ k) (hk5 : k ≤ 5) :
 Calls Tryz.prog 182 #[.slice (some ⟨bn, on, none⟩) N c, .agg #[.int .i64 k, .int .i64 (p : Int), .int .i64 b, .int .i64 cc, .int .i64 n, .int .i64 m, .int .i64 xi, .int .i64 xw, .string nm], .slice (some ⟨bv, ov, none⟩) I d] w fun e w' => NewV w.heap.size w e w' [one1 k wa a] := by
 have hp' : (p : Int) < N := by omega
 have hpI' : (p : Int) < I := by omega
 unfold NewV
 go_enter Tryz.func182, Tryz.ntmps182
 go_upto_region 1 with fail
 obtain ⟨W0, hW0, HB, HG, x0, x1, x2, x3, x4, x5, xr, xf⟩ := node_world k (p : Int) b cc n m xi xw nm w
 rw [hW0]
 clear hW0
 have hw := Later.cell (keepcell HB.out hw)
 have hsa := Later.cell (keepcell HB.out hsa)
 have hva := Later.cell (keepcell HB.out hva)
 refine at_world (w := W0) ?_
 intro u0
 go_upto_region 2 with fail
 obtain ⟨W1, hW1⟩ : ∃ W1, W1 = u0.val.alloc (Obj.cells #[.slice (some ⟨b1, o1, none⟩) 1 c1] 40) := ⟨_, rfl⟩
 have hL : LaterC W0 W1 := hW1 ▸ LaterC.alloc' ⟨u0, rfl⟩ _
 obtain ⟨ga, hga⟩ : ∃ g, g = u0.val.heap.size := ⟨_, rfl⟩
 have xa : ∀ u : Later W1, u.val.cell? ⟨ga, 0, none⟩ = some (.slice (some ⟨b1, o1, none⟩) 1 c1) := Later.cell (by rw [hW1, hga]; simp)
 rw [← hW1, ← hga]
 have x0 := lift_cell hL x0
 have x1 := lift_cell hL x1
 have x2 := lift_cell hL x2
 have x3 := lift_cell hL x3
 have x4 := lift_cell hL x4
 have x5 := lift_cell hL x5
 have xr := lift_cell hL xr
 have xf : ∀ u : Later W1, u.val.frozen? ⟨w.heap.size + 1, 0, none⟩ = false := lift_frozen hL xf
 have hw := lift_cell hL hw
 have hva := lift_cell hL hva
 have HB := Lib.hid (show Below w.heap.size w W1 from HB.out.trans (hL.below.mono HB.out.size))
 have HG := Lib.hid (show w.heap.size + 2 ≤ W1.heap.size by have h1 := HG.out; have h2 := hL.size; omega)
 clear hsa hL hga hW1
 refine at_world (w := W1) ?_
 intro u1
 go_upto_region 3 with fail
 have k33 : (k == 33) = false := beq_eq_false_iff_ne.2 (by omega)
 have k37 : (k == 37) = false := beq_eq_false_iff_ne.2 (by omega)
 have k38 : (k == 38) = false := beq_eq_false_iff_ne.2 (by omega)
 have k21 : (k == 21) = false := beq_eq_false_iff_ne.2 (by omega)
 have k29 : (k == 29) = false := beq_eq_false_iff_ne.2 (by omega)
 have k30 : (k == 30) = false := beq_eq_false_iff_ne.2 (by omega)
 have k31 : (k == 31) = false := beq_eq_false_iff_ne.2 (by omega)
 have k32 : (k == 32) = false := beq_eq_false_iff_ne.2 (by omega)
 have hpt := l2Parts_same k
 rw [(partsN_eq k).2.1 ⟨hk1, hk5⟩] at hpt
 have HPT := Lib.hid hpt
 clear hpt
 go_upto_region 24 with (go_at_call 158; refine (HPT.out _).mono ?_; rintro e w' ⟨rfl, rfl⟩)
 refine wp_region_later (w0 := W1) (by kernel_rfl) (by kernel_rfl) ⟨u1, rfl⟩ ?_
 repeat (go_big_quiet_step ((go_at_call 217; exact Calls.later (Makes.of_same (WordOne_full k wa a hk1 hk5 ha _)))))
 refine wpQuiet_nil ?_
 rintro _ ⟨u2, rfl⟩
 go_wp2_with (go_at_call 180; refine (l4One_calls (one1 k wa a) u2.val).mono ?_; rintro e w' ⟨s, rfl, hb, hr, hg⟩; obtain ⟨sA, sn, sc, rfl⟩ := rowI_slice hr; have f0 : w'.frozen? ⟨w.heap.size + 1, 0, none⟩ = false := (lift_frozen (later_step u2 hb) xf) ⟨w', Below.refl _ _⟩; have r0 : w'.cell? ⟨w.heap.size + 1, 0, none⟩ = some (.slice none 0 0) := (lift_cell (later_step u2 hb) xr) ⟨w', Below.refl _ _⟩; have HD := Lib.hid (And.intro hb (And.intro hr (And.intro hg r0))); clear hb hr hg)
 have hd := node_done (u1 := u2) HB.out HG.out HD.out.1 HD.out.2.1 HD.out.2.2.1
 have rc := World.cell?_setCell_same _ _ (Value.slice sA sn sc) HD.out.2.2.2
 exact bodyPost_ret (v := .agg #[.slice sA sn sc]) (by simp [results, Tryz.results182, go_sem, rc]) rfl ⟨_, rfl, hd.1, hd.2.1, hd.2.2⟩
theorem cNode_two (k cc : Int) (n m xi xw : Int) (nm : ByteArray) (bn on N c bv ov I d p : Nat) (wa : Int) (q b1 o1 c1 b2 o2 c2 : Nat) (a bb : Int) (w : World) (hN : N ≤ 281474976710656) (hI : I ≤ 281474976710656) (hp : p < N) (hpI : p < I) (hw : w.cell? ⟨bn, on + p * 9 + 7, none⟩ = some (.int .i64 wa)) (hsa : w.cell? ⟨bv, ov + p, none⟩ = some (.slice (some ⟨b1, o1, none⟩) 1 c1)) (hva : w.cell? ⟨b1, o1, none⟩ = some (.int .i64 a)) (hq : q < N) (hqI : q < I) (hsb : w.cell? ⟨bv, ov + q, none⟩ = some (.slice (some ⟨b2, o2, none⟩) 1 c2)) (hvb : w.cell? ⟨b2, o2, none⟩ = some (.int .i64 bb)) (ha : Wo wa a) (hb : Wo wa bb) (hk6 : 6 ≤ k) (hk28 : k ≤ 28) (hk21 : k ≠ 21) :
 Calls Tryz.prog 182 #[.slice (some ⟨bn, on, none⟩) N c, .agg #[.int .i64 k, .int .i64 (p : Int), .int .i64 (q : Int), .int .i64 cc, .int .i64 n, .int .i64 m, .int .i64 xi, .int .i64 xw, .string nm], .slice (some ⟨bv, ov, none⟩) I d] w fun e w' => NewV w.heap.size w e w' [two1 k wa a bb] := by
 have hp' : (p : Int) < N := by omega
 have hpI' : (p : Int) < I := by omega
 unfold NewV
 go_enter Tryz.func182, Tryz.ntmps182
 go_upto_region 1 with fail
 obtain ⟨W0, hW0, HB, HG, x0, x1, x2, x3, x4, x5, xr, xf⟩ := node_world k (p : Int) (q : Int) cc n m xi xw nm w
 rw [hW0]
 clear hW0
 have hw := Later.cell (keepcell HB.out hw)
 have hsa := Later.cell (keepcell HB.out hsa)
 have hva := Later.cell (keepcell HB.out hva)
 have hsb := Later.cell (keepcell HB.out hsb)
 have hvb := Later.cell (keepcell HB.out hvb)
 refine at_world (w := W0) ?_
 intro u0
 go_upto_region 2 with fail
 obtain ⟨W1, hW1⟩ : ∃ W1, W1 = u0.val.alloc (Obj.cells #[.slice (some ⟨b1, o1, none⟩) 1 c1] 40) := ⟨_, rfl⟩
 have hL : LaterC W0 W1 := hW1 ▸ LaterC.alloc' ⟨u0, rfl⟩ _
 obtain ⟨ga, hga⟩ : ∃ g, g = u0.val.heap.size := ⟨_, rfl⟩
 have xa : ∀ u : Later W1, u.val.cell? ⟨ga, 0, none⟩ = some (.slice (some ⟨b1, o1, none⟩) 1 c1) := Later.cell (by rw [hW1, hga]; simp)
 rw [← hW1, ← hga]
 have x0 := lift_cell hL x0
 have x1 := lift_cell hL x1
 have x2 := lift_cell hL x2
 have x3 := lift_cell hL x3
 have x4 := lift_cell hL x4
 have x5 := lift_cell hL x5
 have xr := lift_cell hL xr
 have xf : ∀ u : Later W1, u.val.frozen? ⟨w.heap.size + 1, 0, none⟩ = false := lift_frozen hL xf
 have hw := lift_cell hL hw
 have hva := lift_cell hL hva
 have hsb := lift_cell hL hsb
 have hvb := lift_cell hL hvb
 have HB := Lib.hid (show Below w.heap.size w W1 from HB.out.trans (hL.below.mono HB.out.size))
 have HG := Lib.hid (show w.heap.size + 2 ≤ W1.heap.size by have h1 := HG.out; have h2 := hL.size; omega)
 clear hsa hL hga hW1
 refine at_world (w := W1) ?_
 intro u1
 go_upto_region 3 with fail
 have hqI' : (q : Int) < I := by omega
 have k33 : (k == 33) = false := beq_eq_false_iff_ne.2 (by omega)
 have k37 : (k == 37) = false := beq_eq_false_iff_ne.2 (by omega)
 have k38 : (k == 38) = false := beq_eq_false_iff_ne.2 (by omega)
 have k21 : (k == 21) = false := beq_eq_false_iff_ne.2 (by omega)
 have k29 : (k == 29) = false := beq_eq_false_iff_ne.2 (by omega)
 have k30 : (k == 30) = false := beq_eq_false_iff_ne.2 (by omega)
 have k31 : (k == 31) = false := beq_eq_false_iff_ne.2 (by omega)
 have k32 : (k == 32) = false := beq_eq_false_iff_ne.2 (by omega)
 have hpt := l2Parts_same k
 rw [(partsN_eq k).2.2.1 ⟨hk6, by omega⟩] at hpt
 have HPT := Lib.hid hpt
 clear hpt
 go_upto_region 4 with (go_at_call 158; refine (HPT.out _).mono ?_; rintro e w' ⟨rfl, rfl⟩)
 refine wp_region_later (w0 := W1) (by kernel_rfl) (by kernel_rfl) ⟨u1, rfl⟩ ?_
 repeat (go_big_quiet_step ((go_at_call 218; exact Calls.later (WordTwo_full k wa a bb hk6 hk28 ha hb _))))
 refine wpQuiet_nil ?_
 rintro _ ⟨u2, rfl⟩
 go_wp2_with (go_at_call 180; refine (l4One_calls (two1 k wa a bb) u2.val).mono ?_; rintro e w' ⟨s, rfl, hb, hr, hg⟩; obtain ⟨sA, sn, sc, rfl⟩ := rowI_slice hr; have f0 : w'.frozen? ⟨w.heap.size + 1, 0, none⟩ = false := (lift_frozen (later_step u2 hb) xf) ⟨w', Below.refl _ _⟩; have r0 : w'.cell? ⟨w.heap.size + 1, 0, none⟩ = some (.slice none 0 0) := (lift_cell (later_step u2 hb) xr) ⟨w', Below.refl _ _⟩; have HD := Lib.hid (And.intro hb (And.intro hr (And.intro hg r0))); clear hb hr hg)
 have hd := node_done (u1 := u2) HB.out HG.out HD.out.1 HD.out.2.1 HD.out.2.2.1
 have rc := World.cell?_setCell_same _ _ (Value.slice sA sn sc) HD.out.2.2.2
 exact bodyPost_ret (v := .agg #[.slice sA sn sc]) (by simp [results, Tryz.results182, go_sem, rc]) rfl ⟨_, rfl, hd.1, hd.2.1, hd.2.2⟩
theorem cNode_38 (n m xi xw : Int) (nm : ByteArray) (bn on N c bv ov I d p : Nat) (wa : Int) (q r l1 c1 b2 o2 c2 b3 o3 c3 y : Nat) (A1 : Option Addr) (xs : List Int) (z : Int) (w : World) (hN : N ≤ 281474976710656) (hI : I ≤ 281474976710656) (hp : p < N) (hpI : p < I) (hw : w.cell? ⟨bn, on + p * 9 + 7, none⟩ = some (.int .i64 wa)) (hsa : w.cell? ⟨bv, ov + p, none⟩ = some (.slice A1 l1 c1)) (hxs : SlN enI w (.slice A1 l1 c1) xs) (hxl : xs.length ≤ 1048576) (hqI : q < I) (hrI : r < I) (hsb : w.cell? ⟨bv, ov + q, none⟩ = some (.slice (some ⟨b2, o2, none⟩) 1 c2)) (hvb : w.cell? ⟨b2, o2, none⟩ = some (.int .i64 (y : Int))) (hsc : w.cell? ⟨bv, ov + r, none⟩ = some (.slice (some ⟨b3, o3, none⟩) 1 c3)) (hvc : w.cell? ⟨b3, o3, none⟩ = some (.int .i64 z)) (hy : y < xs.length) :
 Calls Tryz.prog 182 #[.slice (some ⟨bn, on, none⟩) N c, .agg #[.int .i64 38, .int .i64 (p : Int), .int .i64 (q : Int), .int .i64 (r : Int), .int .i64 n, .int .i64 m, .int .i64 xi, .int .i64 xw, .string nm], .slice (some ⟨bv, ov, none⟩) I d] w fun e w' => NewV w.heap.size w e w' (xs.set y z) := by
 have hp' : (p : Int) < N := by omega
 have hpI' : (p : Int) < I := by omega
 unfold NewV
 go_enter Tryz.func182, Tryz.ntmps182
 go_upto_region 1 with fail
 obtain ⟨W0, hW0, HB, HG, x0, x1, x2, x3, x4, x5, xr, xf⟩ := node_world 38 (p : Int) (q : Int) (r : Int) n m xi xw nm w
 rw [hW0]
 clear hW0
 have hw := Later.cell (keepcell HB.out hw)
 have hsa := Later.cell (keepcell HB.out hsa)
 have hxs := hxs.below HB.out
 have hsb := Later.cell (keepcell HB.out hsb)
 have hvb := Later.cell (keepcell HB.out hvb)
 have hsc := Later.cell (keepcell HB.out hsc)
 have hvc := Later.cell (keepcell HB.out hvc)
 refine at_world (w := W0) ?_
 intro u0
 go_upto_region 2 with fail
 obtain ⟨W1, hW1⟩ : ∃ W1, W1 = u0.val.alloc (Obj.cells #[.slice A1 l1 c1] 40) := ⟨_, rfl⟩
 have hL : LaterC W0 W1 := hW1 ▸ LaterC.alloc' ⟨u0, rfl⟩ _
 obtain ⟨ga, hga⟩ : ∃ g, g = u0.val.heap.size := ⟨_, rfl⟩
 have xa : ∀ u : Later W1, u.val.cell? ⟨ga, 0, none⟩ = some (.slice A1 l1 c1) := Later.cell (by rw [hW1, hga]; simp)
 rw [← hW1, ← hga]
 have x0 := lift_cell hL x0
 have x1 := lift_cell hL x1
 have x2 := lift_cell hL x2
 have x3 := lift_cell hL x3
 have x4 := lift_cell hL x4
 have x5 := lift_cell hL x5
 have xr := lift_cell hL xr
 have xf : ∀ u : Later W1, u.val.frozen? ⟨w.heap.size + 1, 0, none⟩ = false := lift_frozen hL xf
 have hw := lift_cell hL hw
 have hxs := hxs.below (hL.below)
 have hsb := lift_cell hL hsb
 have hvb := lift_cell hL hvb
 have hsc := lift_cell hL hsc
 have hvc := lift_cell hL hvc
 have HB := Lib.hid (show Below w.heap.size w W1 from HB.out.trans (hL.below.mono HB.out.size))
 have HG := Lib.hid (show w.heap.size + 2 ≤ W1.heap.size by have h1 := HG.out; have h2 := hL.size; omega)
 clear hsa hL hga hW1
 refine at_world (w := W1) ?_
 intro u1
 go_upto_region 3 with fail
 have hqI' : (q : Int) < I := by omega
 have hrI' : (r : Int) < I := by omega
 have HCP := Lib.hid (l4Copy_calls (.slice A1 l1 c1) xs u1.val (hxs.later u1) hxl)
 clear hxs
 go_upto_region 13 with (go_at_call 181; refine (HCP.out).mono ?_; rintro e w' ⟨s, rfl, hb, hr, hg⟩; obtain ⟨g, cap, rfl, hown⟩ := rowI_some hr (by omega); have HD := Lib.hid (And.intro hb (And.intro hr hg)); clear hb hr hg hown)
 obtain ⟨W2, hW2⟩ : ∃ W2, W2 = w'.alloc (Obj.cells #[.slice (some ⟨g, 0, none⟩) xs.length cap] 40) := ⟨_, rfl⟩
 obtain ⟨gb, hgb⟩ : ∃ g, g = w'.heap.size := ⟨_, rfl⟩
 rw [← hW2, ← hgb]
 have hb1 : Below u1.val.heap.size u1.val W2 := hW2 ▸ HD.out.1.alloc (HD.out.1.size) _
 have hb2 : Below w'.heap.size w' W2 := hW2 ▸ (Below.refl _ _).alloc (Nat.le_refl _) _
 have hr2 : RowI W2 (.slice (some ⟨g, 0, none⟩) xs.length cap) xs := HD.out.2.1.below hb2
 have hgu : u1.val.heap.size ≤ g := HD.out.2.2 g rfl
 have hgw : g < w'.heap.size := HD.out.2.1.lt rfl
 have hL2 : LaterC W1 W2 := later_step u1 hb1
 have d0 : ∀ u : Later W2, u.val.cell? ⟨gb, 0, none⟩ = some (.slice (some ⟨g, 0, none⟩) xs.length cap) := Later.cell (by rw [hW2, hgb]; simp)
 obtain ⟨t0, ht0⟩ := rowI_cell hr2 hy
 have d1 := Later.cell ht0
 have d2 : ∀ u : Later W2, u.val.frozen? ⟨g, y, none⟩ = false := Later.frozen (rowI_frozen hr2 y) (World.block_lt_of_cell? _ _ ht0)
 have x2 := lift_cell hL2 x2
 have x3 := lift_cell hL2 x3
 have xr := lift_cell hL2 xr
 have xf := lift_frozen hL2 xf
 have hsb := lift_cell hL2 hsb
 have hvb := lift_cell hL2 hvb
 have hsc := lift_cell hL2 hsc
 have hvc := lift_cell hL2 hvc
 have HH := Lib.hid (And.intro hb1 (And.intro hr2 (And.intro hgu (And.intro hgw (show gb ≠ g by omega)))))
 have hyl : (y : Int) < xs.length := by omega
 have HG2 := Lib.hid (show w.heap.size + 1 < u1.val.heap.size by have h1 := HG.out; have h2 := u1.size; omega)
 clear hb1 hb2 hr2 hgu hgw hL2 hW2 ht0 hgb
 refine wp_region_later_tail (w0 := W2) 19 (by kernel_rfl) (by kernel_rfl) (LaterC.refl _) ?_
 simp only [List.take_succ_cons, List.take_zero, List.drop_succ_cons, List.drop_zero]
 repeat (go_big_quiet_step (fail))
 refine wpQuiet_nil ?_
 rintro _ ⟨u2, rfl⟩
 go_upto_region 14 with fail
 have e0 : (u2.val.setCell ⟨g, y, none⟩ (.int .i64 z)).cell? ⟨gb, 0, none⟩ = some (.slice (some ⟨g, 0, none⟩) xs.length cap) := (World.cell?_setCell_far _ _ _ _ (fun e => HH.out.2.2.2.2 e.symm)).trans (d0 u2)
 have e1 : (u2.val.setCell ⟨g, y, none⟩ (.int .i64 z)).cell? ⟨w.heap.size + 1, 0, none⟩ = some (.slice none 0 0) := (World.cell?_setCell_far _ _ _ _ (fun e => by have h1 := HH.out.2.2.1; have h2 := HG2.out; simp at e; omega)).trans (xr u2)
 have e2 : (u2.val.setCell ⟨g, y, none⟩ (.int .i64 z)).frozen? ⟨w.heap.size + 1, 0, none⟩ = false := by simpa using xf u2
 have hd := node_done (u1 := u1) (w' := u2.val.setCell ⟨g, y, none⟩ (.int .i64 z)) HB.out HG.out ((HH.out.1.trans (u2.prop.mono HH.out.1.size)).setCell HH.out.2.2.1 _) ((HH.out.2.1.below u2.prop).putAt hy z) (fun b hb => by cases hb; exact HH.out.2.2.1)
 generalize u2.val.setCell ⟨g, y, none⟩ (.int .i64 z) = W3 at *
 go_wp2
 have rc := World.cell?_setCell_same _ _ (Value.slice (some ⟨g, 0, none⟩) xs.length cap) e1
 exact bodyPost_ret (v := .agg #[.slice (some ⟨g, 0, none⟩) xs.length cap]) (by simp [results, Tryz.results182, go_sem, rc]) rfl ⟨_, rfl, hd.1, hd.2.1, hd.2.2⟩
theorem slN_word {w : World} {sv : Value} {v : Int} (h : SlN enI w sv [v]) : ∃ b o c, sv = .slice (some ⟨b, o, none⟩) 1 c ∧ w.cell? ⟨b, o, none⟩ = some (.int .i64 v) := by
 obtain ⟨A, c, rfl, -, -, h3⟩ := h
 obtain ⟨b, o, rfl, hc⟩ := h3 0 v rfl
 exact ⟨b, o, c, rfl, by have := hc 0 _ rfl; simpa using this⟩
theorem part_at {ns : List Nd} {L : List (List Int)} {i p : Nat} {bn on bv ov : Nat} {w : World} (h : PartAt ns i (p : Int)) (hi : L.length = i) (hin : i ≤ ns.length)
 (hA : ∀ (i : Nat) (x : Nd), ns[i]? = some x → CellsAt enNd w bn on i x)
 (hB : ∀ (i : Nat) (xs : List Int), L[i]? = some xs → ∃ sv, w.cell? ⟨bv, ov + i, none⟩ = some sv ∧ SlN enI w sv xs) :
 p < ns.length ∧ p < L.length ∧ w.cell? ⟨bn, on + p * 9 + 7, none⟩ = some (.int .i64 (pN ns (p : Int)).wid) ∧ ∃ sv, w.cell? ⟨bv, ov + p, none⟩ = some sv ∧ SlN enI w sv (vN L (p : Int)) := by
 have h2 := h.hi
 have e1 := hA p _ (getD_at (show p < ns.length by omega) Nd.zero)
 obtain ⟨sv, e4, e5⟩ := hB p _ (getD_at (show p < L.length by omega) [])
 exact ⟨by omega, by omega, e1 7 _ rfl, sv, e4, e5⟩
theorem val_short {i a : Int} {xs : List Int} (h : valN i a xs = true) : xs.length ≤ 4 := by
 have h1 := (val_parts h).1
 have h2 := (cells_bits i a).2.2
 omega
theorem calls_newV {P : Program} {f : FuncId} {args : Array Value} {w : World} {xs ys : List Int} (h : Calls P f args w fun e w' => NewV w.heap.size w e w' xs) (e : xs = ys) : Calls P f args w fun e w' => NewV w.heap.size w e w' ys := e ▸ h
theorem l4Node_calls (nv vv : Value) (ns : List Nd) (x : Nd) (L : List (List Int)) (i : Nat) (w : World) (hS : SlN enNd w nv ns) (hV : VlAt w vv L) (hi : L.length = i) (hin : i ≤ ns.length) (hk : Kinds ns i x) (hp : partsN x.kind ≠ 0) (hL : ∀ p, PartAt ns i p → valB (pN ns p) (vN L p) = true) :
 Calls Tryz.prog 182 #[nv, nodeV x, vv] w fun e w' => NewV w.heap.size w e w' (reckN ns x L) := by
 obtain ⟨A, c, rfl, hnc, hc', hA⟩ := hS
 obtain ⟨B, d, rfl, hmd, hd', hB⟩ := hV
 have hi0 : 0 < i := by
  rcases hk with ⟨k, -⟩ | ⟨k, -⟩ | ⟨-, ha, -⟩ | ⟨-, ha, -⟩ | ⟨-, ha, -⟩ | ⟨-, ha, -⟩ | ⟨-, ha, -⟩ | ⟨-, ha, -⟩ | ⟨-, ha, -⟩ | ⟨-, ha, -⟩ | ⟨-, ha, -⟩
  · exact absurd ((partsN_eq x.kind).2.2.2.2.2.1 (by omega)) hp
  · exact absurd ((partsN_eq x.kind).2.2.2.2.2.1 (by omega)) hp
  all_goals
   have h1 := ha.lo
   have h2 := ha.hi
   omega
 obtain ⟨bn, on, rfl, -⟩ := hA 0 _ (getD_at (show 0 < ns.length by omega) Nd.zero)
 obtain ⟨bv, ov, -, rfl, -, -⟩ := hB 0 _ (getD_at (show 0 < L.length by omega) [])
 have hA : ∀ (i : Nat) (x : Nd), ns[i]? = some x → CellsAt enNd w bn on i x := fun i x h => by
  obtain ⟨b, o, e, hc⟩ := hA i x h
  cases e
  exact hc
 have hB : ∀ (i : Nat) (xs : List Int), L[i]? = some xs → ∃ sv, w.cell? ⟨bv, ov + i, none⟩ = some sv ∧ SlN enI w sv xs := fun i x h => by
  obtain ⟨b, o, sv, e, hc, hs⟩ := hB i x h
  cases e
  exact ⟨sv, hc, hs⟩
 obtain ⟨k, a, b, cc, n, m, xi, xw, nm⟩ := x
 unfold reckN
 dsimp only [nodeV]
 dsimp only at hp
 rcases hk with ⟨k0, -⟩ | ⟨k0, -⟩ | ⟨k0, ha, hb, hc, h1, h2, h3, h4, h5, h6⟩ | ⟨k0, ha, hb, h1, h2, h3, h4, h5⟩ | ⟨k0, ha, hb, hc, h1, h2, h3, h4, h5, h6, h7⟩ | ⟨k0, ha, hb, h1, h2, h3, h4⟩ | ⟨k0, ha, hb, h1, h2, h3, h4, h5⟩ | ⟨k0, ha, h1, h2, h3, h4, h5, h6⟩ | ⟨k0, ha, h1, h2, h3, h4, h5⟩ | ⟨k0, ha, h1, h2, h3⟩ | ⟨k0, ha, hb, h1, h2, h3, h4, h5⟩
 · exact absurd ((partsN_eq k).2.2.2.2.2.1 (by dsimp only at k0; omega)) hp
 · exact absurd ((partsN_eq k).2.2.2.2.2.1 (by dsimp only at k0; omega)) hp
 · dsimp only at *
   subst k0
   obtain ⟨p, rfl⟩ := Int.eq_ofNat_of_zero_le ha.lo
   obtain ⟨a1, a2, a3, sa, a4, a5⟩ := part_at ha hi hin hA hB
   obtain ⟨va, ea, wa, ca⟩ := part_word ha (hL _ ha) h1
   rw [ea] at a5
   obtain ⟨b1, o1, c1, rfl, a6⟩ := slN_word a5
   rw [if_pos rfl, ca]
   by_cases hv : va = 1
   · subst hv
     rw [if_pos rfl]
     obtain ⟨q, rfl⟩ := Int.eq_ofNat_of_zero_le hb.lo
     obtain ⟨q1, q2, q3, sb, q4, q5⟩ := part_at hb hi hin hA hB
     have hvs := val_short (hL _ hb)
     obtain ⟨A2, c2, rfl, q6⟩ := q5
     exact cNode_33t _ _ _ _ _ _ bn on _ _ bv ov _ _ p _ q _ _ b1 o1 c1 A2 _ w hc' hd' a1 a2 a3 a4 a6 q2 q4 ⟨A2, c2, rfl, q6⟩ (by omega)
   · rw [if_neg hv]
     obtain ⟨q, rfl⟩ := Int.eq_ofNat_of_zero_le hc.lo
     obtain ⟨q1, q2, q3, sb, q4, q5⟩ := part_at hc hi hin hA hB
     have hvs := val_short (hL _ hc)
     obtain ⟨A2, c2, rfl, q6⟩ := q5
     exact cNode_33f _ _ _ _ _ _ bn on _ _ bv ov _ _ p _ q _ _ b1 o1 c1 A2 _ _ hv w hc' hd' a1 a2 a3 a4 a6 q2 q4 ⟨A2, c2, rfl, q6⟩ (by omega)
 · dsimp only at *
   subst k0
   obtain ⟨p, rfl⟩ := Int.eq_ofNat_of_zero_le ha.lo
   obtain ⟨a1, a2, a3, sa, a4, a5⟩ := part_at ha hi hin hA hB
   obtain ⟨hl, hc⟩ := part_val (hL _ ha) ha.sok
   obtain ⟨q, rfl⟩ := Int.eq_ofNat_of_zero_le hb.lo
   obtain ⟨q1, q2, q3, sb, q4, q5⟩ := part_at hb hi hin hA hB
   obtain ⟨vb, eb, wb, cb⟩ := part_word hb (hL _ hb) h2
   rw [eb] at q5
   obtain ⟨b2, o2, c2, rfl, q6⟩ := slN_word q5
   obtain ⟨A1, c1, rfl, hl1, hl2, a6⟩ := a5
   rw [h3] at wb
   have hlt := wo_nat wb
   obtain ⟨y, rfl⟩ := Int.eq_ofNat_of_zero_le wb.lo
   rw [Int.toNat_natCast, ← hl] at hlt
   obtain ⟨b1, o1, rfl, hx⟩ := a6 y _ (getD_at hlt 0)
   have hx0 := hx 0 _ rfl
   rw [if_neg (by decide), if_pos rfl, cb, Int.toNat_natCast]
   exact cNode_37 _ _ _ _ _ _ bn on _ _ bv ov _ _ p _ q _ c1 b1 o1 b2 o2 c2 y _ w hc' hd' a1 a2 a3 a4 q2 q4 q6 hlt hl2 (by simpa using hx0)
 · dsimp only at *
   subst k0
   obtain ⟨p, rfl⟩ := Int.eq_ofNat_of_zero_le ha.lo
   obtain ⟨a1, a2, a3, sa, a4, a5⟩ := part_at ha hi hin hA hB
   obtain ⟨hl, -⟩ := part_val (hL _ ha) ha.sok
   have hvs := val_short (hL _ ha)
   obtain ⟨q, rfl⟩ := Int.eq_ofNat_of_zero_le hb.lo
   obtain ⟨q1, q2, q3, sb, q4, q5⟩ := part_at hb hi hin hA hB
   obtain ⟨vb, eb, wb, cb⟩ := part_word hb (hL _ hb) h2
   rw [eb] at q5
   obtain ⟨b2, o2, c2, rfl, q6⟩ := slN_word q5
   obtain ⟨r, rfl⟩ := Int.eq_ofNat_of_zero_le hc.lo
   obtain ⟨r1, r2, r3, sc, r4, r5⟩ := part_at hc hi hin hA hB
   obtain ⟨vc, ec, wc, cc⟩ := part_word hc (hL _ hc) h4
   rw [ec] at r5
   obtain ⟨b3, o3, c3, rfl, r6⟩ := slN_word r5
   have a5' := a5
   obtain ⟨A1, c1, rfl, -⟩ := a5'
   rw [h3] at wb
   have hlt := wo_nat wb
   obtain ⟨y, rfl⟩ := Int.eq_ofNat_of_zero_le wb.lo
   rw [Int.toNat_natCast, ← hl] at hlt
   rw [if_neg (by decide), if_neg (by decide), if_pos rfl, cb, cc, Int.toNat_natCast]
   exact cNode_38 _ _ _ _ _ bn on _ _ bv ov _ _ p _ q r _ c1 b2 o2 c2 b3 o3 c3 y A1 _ _ w hc' hd' a1 a2 a3 a4 a5 (by omega) q2 r2 q4 q6 r4 r6 hlt
 · dsimp only at *
   subst k0
   obtain ⟨p, rfl⟩ := Int.eq_ofNat_of_zero_le ha.lo
   obtain ⟨a1, a2, a3, sa, a4, a5⟩ := part_at ha hi hin hA hB
   obtain ⟨hl, -⟩ := part_val (hL _ ha) ha.sok
   obtain ⟨q, rfl⟩ := Int.eq_ofNat_of_zero_le hb.lo
   obtain ⟨q1, q2, q3, sb, q4, q5⟩ := part_at hb hi hin hA hB
   obtain ⟨hl', -⟩ := part_val (hL _ hb) hb.sok
   have a5' := a5
   have q5' := q5
   obtain ⟨A1, c1, rfl, -⟩ := a5'
   obtain ⟨A2, c2, rfl, -⟩ := q5'
   rw [if_neg (by decide), if_neg (by decide), if_neg (by decide), if_pos rfl]
   exact cNode_21 _ _ _ _ _ _ bn on _ _ bv ov _ _ p _ q _ c1 _ c2 A1 A2 _ _ w hc' hd' a1 a2 a3 a4 a5 q2 q4 q5 (by rw [hl, hl', h1])
 · dsimp only at *
   subst k0
   obtain ⟨p, rfl⟩ := Int.eq_ofNat_of_zero_le ha.lo
   obtain ⟨a1, a2, a3, sa, a4, a5⟩ := part_at ha hi hin hA hB
   obtain ⟨va, ea, wa, ca⟩ := part_word ha (hL _ ha) h1
   rw [ea] at a5
   obtain ⟨b1, o1, c1, rfl, a6⟩ := slN_word a5
   obtain ⟨q, rfl⟩ := Int.eq_ofNat_of_zero_le hb.lo
   obtain ⟨q1, q2, q3, sb, q4, q5⟩ := part_at hb hi hin hA hB
   obtain ⟨vb, eb, wb, cb⟩ := part_word hb (hL _ hb) h2
   rw [eb] at q5
   obtain ⟨b2, o2, c2, rfl, q6⟩ := slN_word q5
   rw [if_neg (by decide), if_neg (by decide), if_neg (by decide), if_neg (by decide), if_pos rfl, ca, cb]
   exact cNode_29 _ _ _ _ _ _ bn on _ _ bv ov _ _ p _ q b1 o1 c1 b2 o2 c2 va vb _ w hc' hd' a1 a2 a3 a4 a6 q1 q2 q4 q6 q3 wa wb h3
 · dsimp only at *
   subst k0
   obtain ⟨p, rfl⟩ := Int.eq_ofNat_of_zero_le ha.lo
   obtain ⟨a1, a2, a3, sa, a4, a5⟩ := part_at ha hi hin hA hB
   obtain ⟨va, ea, wa, ca⟩ := part_word ha (hL _ ha) h1
   rw [ea] at a5
   obtain ⟨b1, o1, c1, rfl, a6⟩ := slN_word a5
   rw [if_neg (by decide), if_neg (by decide), if_neg (by decide), if_neg (by decide), if_neg (by decide), if_pos rfl, ca]
   exact cNode_30 _ _ _ _ _ _ _ bn on _ _ bv ov _ _ p _ b1 o1 c1 va w hc' hd' a1 a2 a3 a4 a6 wa h2 h3 h4
 · dsimp only at *
   obtain ⟨p, rfl⟩ := Int.eq_ofNat_of_zero_le ha.lo
   obtain ⟨a1, a2, a3, sa, a4, a5⟩ := part_at ha hi hin hA hB
   obtain ⟨va, ea, wa, ca⟩ := part_word ha (hL _ ha) h1
   rw [ea] at a5
   obtain ⟨b1, o1, c1, rfl, a6⟩ := slN_word a5
   rw [if_neg (by omega), if_neg (by omega), if_neg (by omega), if_neg (by omega), if_neg (by omega), if_neg (by omega), if_pos k0, ca]
   rcases k0 with rfl | rfl
   · exact cNode_31 _ _ _ _ _ _ _ bn on _ _ bv ov _ _ p _ b1 o1 c1 va w hc' hd' a1 a2 a3 a4 a6 wa h2 h3
   · exact cNode_32 _ _ _ _ _ _ _ bn on _ _ bv ov _ _ p _ b1 o1 c1 va w hc' hd' a1 a2 a3 a4 a6 wa h2 h3
 · dsimp only at *
   obtain ⟨p, rfl⟩ := Int.eq_ofNat_of_zero_le ha.lo
   obtain ⟨a1, a2, a3, sa, a4, a5⟩ := part_at ha hi hin hA hB
   obtain ⟨va, ea, wa, ca⟩ := part_word ha (hL _ ha) h1
   rw [ea] at a5
   obtain ⟨b1, o1, c1, rfl, a6⟩ := slN_word a5
   rw [if_neg (by omega), if_neg (by omega), if_neg (by omega), if_neg (by omega), if_neg (by omega), if_neg (by omega), if_neg (by omega), if_pos k0.2, ca]
   exact cNode_one _ _ _ _ _ _ _ _ bn on _ _ bv ov _ _ p _ b1 o1 c1 va w hc' hd' a1 a2 a3 a4 a6 wa k0.1 k0.2
 · dsimp only at *
   obtain ⟨p, rfl⟩ := Int.eq_ofNat_of_zero_le ha.lo
   obtain ⟨a1, a2, a3, sa, a4, a5⟩ := part_at ha hi hin hA hB
   obtain ⟨va, ea, wa, ca⟩ := part_word ha (hL _ ha) h1
   rw [ea] at a5
   obtain ⟨b1, o1, c1, rfl, a6⟩ := slN_word a5
   obtain ⟨q, rfl⟩ := Int.eq_ofNat_of_zero_le hb.lo
   obtain ⟨q1, q2, q3, sb, q4, q5⟩ := part_at hb hi hin hA hB
   obtain ⟨vb, eb, wb, cb⟩ := part_word hb (hL _ hb) h2
   rw [eb] at q5
   obtain ⟨b2, o2, c2, rfl, q6⟩ := slN_word q5
   rw [← h3] at wb
   rw [if_neg (by omega), if_neg (by omega), if_neg (by omega), if_neg (by omega), if_neg (by omega), if_neg (by omega), if_neg (by omega), if_neg (by omega), ca, cb]
   exact cNode_two _ _ _ _ _ _ _ bn on _ _ bv ov _ _ p _ q b1 o1 c1 b2 o2 c2 va vb w hc' hd' a1 a2 a3 a4 a6 q1 q2 q4 q6 wa wb k0.1 k0.2.1 k0.2.2
def OneAt (L : List (List Int)) (xs : List Int) : Prop := ∀ (i : Nat) (p : Int), xs[i]? = some p → ∃ q : Nat, p = q ∧ q < L.length ∧ ∃ v, L.getD q [] = [v] ∧ (v = 0 ∨ v = 1)
theorem equalI_calls (s1 s2 : Value) (xs ys : List Int) (w : World) (h1 : SlN enI w s1 xs) (h2 : SlN enI w s2 ys) :
 Makes Tryz.prog 188 #[s1, s2] w (.bool (decide (xs = ys))) := by
 obtain ⟨A, c, rfl, hnc, hc', hA⟩ := h1
 obtain ⟨B, d, rfl, hmd, hd', hB⟩ := h2
 obtain ⟨R, hR⟩ : ∃ r, r = decide (xs = ys) := ⟨_, rfl⟩
 rw [← hR]
 have HR := Lib.hid hR
 clear hR
 by_cases hl : xs.length = ys.length
 · rw [← hl] at hmd hd' ⊢
   have HLL := Lib.hid hl
   clear hl
   generalize hM : xs.length = m at *
   have HM := Lib.hid hM
   clear hM
   have hnn : ((m : Int) != (m : Int)) = false := by simp
   go_enter Tryz.func188, Tryz.ntmps188
   go_wp2
   go_loopw [13] (fun i wr => ∃ (j : Nat), j ≤ m ∧ i = .int .i64 j ∧ Hid (∀ i, i < j → xs.getD i 0 = ys.getD i 0) ∧ LaterC w wr) (fun i _ => m - (intOf i).toNat)
   case atStart => exact ⟨0, Nat.zero_le _, rfl, Lib.hid (fun i h => absurd h (Nat.not_lt_zero _)), LaterC.refl _⟩
   case round =>
    obtain ⟨j, hj, rfl, HTO, ⟨u, rfl⟩⟩ := hrel
    by_cases hlt : j < m
    · have hlt' : (j : Int) < m := by omega
      have hgx := getD_at (show j < xs.length by rw [HM.out]; exact hlt) 0
      obtain ⟨bx, ox, rfl, hx⟩ := hA j _ hgx
      have hgy := getD_at (show j < ys.length by rw [← HLL.out]; exact hlt) 0
      obtain ⟨by_, oy, rfl, hy⟩ := hB j _ hgy
      have p0 : ∀ l : Later w, l.val.cell? ⟨bx, ox + j, none⟩ = some (.int .i64 (xs.getD j 0)) := hx.int (Below.refl _ _)
      have p1 : ∀ l : Later w, l.val.cell? ⟨by_, oy + j, none⟩ = some (.int .i64 (ys.getD j 0)) := hy.int (Below.refl _ _)
      generalize hxe : xs.getD j 0 = x at *
      generalize hye : ys.getD j 0 = y at *
      have HXE := Lib.hid hxe
      have HYE := Lib.hid hye
      clear hA hB hx hy hgx hgy hxe hye
      by_cases he : x = y
      · subst he
        have hne : (x != x) = false := by simp
        go_wp2
        refine wp_region_later (w0 := w) (by kernel_rfl) (by kernel_rfl) ⟨_, rfl⟩ ?_
        repeat (go_big_quiet_step (fail))
        refine wpQuiet_nil ?_
        rintro _ ⟨u1, rfl⟩
        go_wp2
        go_roundw
        case rel => exact ⟨j + 1, by omega, by go_num, Lib.hid (fun i hi => by
         rcases Nat.lt_or_ge i j with g | g
         · exact HTO.out i g
         · obtain rfl : i = j := by omega
           rw [HXE.out, HYE.out]), ⟨u1, rfl⟩⟩
        case measure => simp [intOf] <;> omega
      · have hne : (x != y) = true := by simpa using he
        have HF := Lib.hid (show R = false by rw [HR.out]; exact decide_eq_false (fun e => he (by rw [← HXE.out, ← HYE.out, e])))
        go_wp2
        refine wp_region_later (w0 := w) (by kernel_rfl) (by kernel_rfl) ⟨_, rfl⟩ ?_
        repeat (go_big_quiet_step (fail))
        refine wpQuiet_nil ?_
        rintro _ ⟨u1, rfl⟩
        go_wp2
        go_ret
        exact ⟨ret_eq (congrArg Value.bool HF.out.symm), u1.back (Below.refl _ _)⟩
    · obtain rfl : j = m := by omega
      have HT := Lib.hid (show R = true by
       rw [HR.out]
       refine decide_eq_true ?_
       have hly : ys.length = j := by rw [← HLL.out]
       refine List.ext_getElem? fun i => ?_
       rcases Nat.lt_or_ge i j with g | g
       · rw [getD_at (show i < xs.length by rw [HM.out]; exact g) 0, getD_at (show i < ys.length by rw [hly]; exact g) 0, HTO.out i g]
       · rw [List.getElem?_eq_none (by rw [HM.out]; exact g), List.getElem?_eq_none (by rw [hly]; exact g)])
      clear hA hB
      go_wp2
      go_ret
      exact ⟨ret_eq (congrArg Value.bool HT.out.symm), u.back (Below.refl _ _)⟩
 · have HF := Lib.hid (show R = false by rw [HR.out]; exact decide_eq_false (fun e => hl (by rw [e])))
   have hne : ((xs.length : Int) != (ys.length : Int)) = true := by simp; omega
   clear hA hB HR
   generalize xs.length = m at *
   generalize ys.length = m2 at *
   go_enter Tryz.func188, Tryz.ntmps188
   go_wp2
   go_ret
   exact ⟨ret_eq (congrArg Value.bool HF.out.symm), Below.refl _ _⟩
theorem cell_same (B bv ov I d p b1 o1 c1 : Nat) (v : Int) (w : World) (h : w.cell? ⟨B, 0, none⟩ = some (.slice (some ⟨bv, ov, none⟩) I d)) (hp : p < I) (h1 : w.cell? ⟨bv, ov + p, none⟩ = some (.slice (some ⟨b1, o1, none⟩) 1 c1)) (h2 : w.cell? ⟨b1, o1, none⟩ = some (.int .i64 v)) :
 Calls Tryz.prog 197 #[.int .i64 (p : Int), .pointer (some ⟨B, 0, none⟩)] w fun e w' => e = .returned (.int .i64 v) ∧ w = w' := by
 have hp' : (p : Int) < I := by omega
 go_enter Tryz.func197, Tryz.ntmps197
 go_wp2
 go_ret
 exact ⟨rfl, rfl⟩
theorem word_calls (v : Int) (w : World) : Calls Tryz.prog 198 #[.int .i64 v] w fun e w' => NewV w.heap.size w e w' [v] := by
 unfold NewV
 go_enter Tryz.func198, Tryz.ntmps198
 go_wp2
 refine bodyPost_ret (v := .agg #[.slice (some ⟨w.heap.size + 1, 0, none⟩) 1 1]) (by simp [results, Tryz.results198, go_sem]) rfl ?_
 have ho : OwnB ((w.alloc (Obj.cells #[Value.slice (some ⟨w.heap.size + 1, 0, none⟩) 1 1] 40)).alloc (Obj.cells #[Value.int .i64 v] 3)) (w.heap.size + 1) 3 #[.int .i64 v] := by
  have h := OwnB.new (w.alloc (Obj.cells #[Value.slice (some ⟨w.heap.size + 1, 0, none⟩) 1 1] 40)) 3 #[Value.int .i64 v]
  simpa using h
 refine ⟨_, rfl, ((Below.refl _ _).alloc (Nat.le_refl _) _).alloc (by simp) _, ⟨by simp, .inr ⟨_, 1, #[.int .i64 v], by simp, ho, by simp, rfl, fun i x hx => ?_⟩⟩, fun b hb => by simp [Value.ownBlock] at hb; omega⟩
 obtain rfl : i = 0 := by have := (List.getElem?_eq_some_iff.1 hx).1; simpa using this
 simp at hx
 rw [hx]; rfl
theorem sorts_calls (B bn on N c p : Nat) (xi xw : Int) (w : World) (h : w.cell? ⟨B, 0, none⟩ = some (.slice (some ⟨bn, on, none⟩) N c)) (hp : p < N) (h6 : w.cell? ⟨bn, on + p * 9 + 6, none⟩ = some (.int .i64 xi)) (h7 : w.cell? ⟨bn, on + p * 9 + 7, none⟩ = some (.int .i64 xw)) :
 Makes Tryz.prog 147 #[.int .i64 (p : Int), .pointer (some ⟨B, 0, none⟩)] w (.agg #[.int .i64 xi, .int .i64 xw]) := by
 have hp' : (p : Int) < N := by omega
 have h := Later.cell h
 have h6 := Later.cell h6
 have h7 := Later.cell h7
 go_enter Tryz.func147, Tryz.ntmps147
 go_upto_region 1 with fail
 have x0 : ∀ l : Later (w.alloc (Obj.cells #[.int .i64 0, .int .i64 0] 34)), l.val.cell? ⟨w.heap.size, 0, none⟩ = some (.int .i64 0) := Later.cell (by simp)
 have x1 : ∀ l : Later (w.alloc (Obj.cells #[.int .i64 0, .int .i64 0] 34)), l.val.cell? ⟨w.heap.size, 1, none⟩ = some (.int .i64 0) := Later.cell (by simp)
 have f0 : ∀ l : Later (w.alloc (Obj.cells #[.int .i64 0, .int .i64 0] 34)), l.val.frozen? ⟨w.heap.size, 0, none⟩ = false := Later.frozen (by simp) (by simp)
 have f1 : ∀ l : Later (w.alloc (Obj.cells #[.int .i64 0, .int .i64 0] 34)), l.val.frozen? ⟨w.heap.size, 1, none⟩ = false := Later.frozen (by simp) (by simp)
 have HB := Lib.hid (show Below w.heap.size w (w.alloc (Obj.cells #[.int .i64 0, .int .i64 0] 34)) from (Below.refl _ _).alloc (Nat.le_refl _) _)
 have hL : LaterC w (w.alloc (Obj.cells #[.int .i64 0, .int .i64 0] 34)) := LaterC.alloc' (LaterC.refl _) _
 generalize w.alloc (Obj.cells #[.int .i64 0, .int .i64 0] 34) = w1 at *
 have h := lift_cell hL h
 have h6 := lift_cell hL h6
 have h7 := lift_cell hL h7
 clear hL
 refine at_world (w := w1) ?_
 intro u1
 go_wp2
 have e0 : ((u1.val.setCell ⟨w.heap.size, 0, none⟩ (.int .i64 xi)).setCell ⟨w.heap.size, 1, none⟩ (.int .i64 xw)).cell? ⟨w.heap.size, 0, none⟩ = some (.int .i64 xi) := (World.cell?_setCell_other _ _ _ _ (by intro e; simp only [Addr.mk.injEq] at e; omega)).trans (World.cell?_setCell_same _ _ _ (x0 u1))
 have e1 : ((u1.val.setCell ⟨w.heap.size, 0, none⟩ (.int .i64 xi)).setCell ⟨w.heap.size, 1, none⟩ (.int .i64 xw)).cell? ⟨w.heap.size, 1, none⟩ = some (.int .i64 xw) := World.cell?_setCell_same _ _ _ ((World.cell?_setCell_other _ _ _ _ (by intro e; simp only [Addr.mk.injEq] at e; omega)).trans (x1 u1))
 exact bodyPost_ret (v := .agg #[.int .i64 xi, .int .i64 xw]) (by simp [results, Tryz.results147, go_sem, e0, e1]) rfl ⟨rfl, ((u1.back HB.out).setCell (Nat.le_refl _) _).setCell (Nat.le_refl _) _⟩
theorem addr_add (b o j : Nat) : (⟨b, o, none⟩ : Addr).add j = ⟨b, o + j, none⟩ := by
 unfold Addr.add; split <;> simp_all
theorem cloneIntsA_calls (sv : Value) (xs : List Int) (w : World) (hS : SlN enI w sv xs) (h0 : 0 < xs.length) (hl : xs.length ≤ 1048576) :
 Calls Tryz.prog 146 #[sv] w fun e w' => ∃ s, e = .returned s ∧ Below w.heap.size w w' ∧ AccI w.heap.size w' s xs := by
 obtain ⟨A, c, rfl, hnc, hc', hA⟩ := hS
 obtain ⟨b, o, rfl, -⟩ := hA 0 _ (getD_at h0 0)
 have hnews : ∀ (j : Nat) (u : Value), (xs.map (Value.int .i64))[j]? = some u → w.cell? ((⟨b, o, none⟩ : Addr).add j) = some u := fun j u hu => by
  rw [List.getElem?_map] at hu
  cases hx : xs[j]? with
  | none => rw [hx] at hu; cases hu
  | some x =>
    rw [hx] at hu
    cases hu
    obtain ⟨b', o', e, hc⟩ := hA j x hx
    cases e
    have := hc 0 _ rfl
    rw [addr_add]
    simpa using this
 have HNEWS := Lib.hid hnews
 have HLM := Lib.hid (show (xs.map (Value.int .i64)).length = xs.length * 1 by simp)
 have HONE := Lib.hid (show ∀ u ∈ xs.map (Value.int .i64), u.oneCell' = true from fun u hu => by
  obtain ⟨x, -, rfl⟩ := List.mem_map.1 hu
  rfl)
 obtain ⟨ti, hti⟩ := info_parts info_int
 have HTI := Lib.hid hti
 have HOWN0 := Lib.hid (World.ownsRow_nil w w.heap.size 3 1)
 have HX := Lib.hid (show ∀ (wn : World) (g cap : Nat), wn.ownsRow w.heap.size 3 1 (.slice (some ⟨g, 0, none⟩) (0 + xs.length) cap) (0 + xs.length) ([] ++ xs.map (Value.int .i64)) → AccI w.heap.size wn (.slice (some ⟨g, 0, none⟩) xs.length cap) xs from fun wn g cap h => by
  rw [Nat.zero_add, List.nil_append] at h
  exact h)
 have hn : Hid (xs.length ≤ 1048576) := Lib.hid hl
 clear hti hnews hA
 obtain ⟨L, hL⟩ : ∃ L, L = xs.map (Value.int .i64) := ⟨_, rfl⟩
 rw [← hL] at HNEWS HLM HONE HX
 clear hL
 go_enter Tryz.func146, Tryz.ntmps146
 go_wp2_with (at_builtin; refine wpList_append_lies _ (by rfl) _ _ _ (by rfl) w.heap.size 3 ti _ 1 8 Tryz.underlying25 HTI.out.1 HTI.out.2.1 HTI.out.2.2.1 HTI.out.2.2.2 rfl (by omega) (.slice none 0 0) 0 [] (by rfl) HOWN0.out ⟨b, o, none⟩ xs.length c L (by rfl) HLM.out HNEWS.out HONE.out h0 (by unfold maxLen; omega) (by omega) (Nat.le_refl _) w.heap.size rfl ?_; intro g cap wn hown2 hgrow hat hglt; have HOWN2 := Lib.hid (HX.out wn g cap hown2); have HGR := Lib.hid hgrow; clear hgrow hat hglt hown2)
 go_ret
 exact ⟨.slice (some ⟨g, 0, none⟩) xs.length cap, rfl, (But.of_grown HGR.out).below (fun k hk => by cases hk) (Nat.le_refl _), HOWN2.out⟩
theorem cloneInts_calls (sv : Value) (xs : List Int) (w : World) (hS : SlN enI w sv xs) (h0 : 0 < xs.length) (hl : xs.length ≤ 1048576) :
 Calls Tryz.prog 146 #[sv] w fun e w' => ∃ s, e = .returned s ∧ Below w.heap.size w w' ∧ RowI w' s xs ∧ ∀ b, s.ownBlock = some b → w.heap.size ≤ b :=
 (cloneIntsA_calls sv xs w hS h0 hl).mono fun e w' ⟨s, he, hb, ha⟩ => ⟨s, he, hb, accI_rowI ha (by omega), fun b hb => (ha.lt b hb).1⟩
def NotIn (g : Nat) (s : Value) : Prop := ∀ b o n c, s = .slice (some ⟨b, o, none⟩) n c → b ≠ g
def OutV (g : Nat) (w : World) (e : Ending) (w' : World) (xs : List Int) : Prop :=
 ∃ s, e = .returned (.agg #[s]) ∧ Below w.heap.size w w' ∧ SlN enI w' s xs ∧ NotIn g s
theorem rowI_notIn {w : World} {s : Value} {xs : List Int} {g lo : Nat} (h : RowI w s xs) (hb : ∀ b, s.ownBlock = some b → lo ≤ b) (hg : g < lo) : NotIn g s := by
 obtain ⟨-, ⟨rfl, -⟩ | ⟨g', cap, cur, rfl, -⟩⟩ := h
 · intro b o n c e; cases e
 · intro b o n c e
   cases e
   have h := hb _ rfl
   simp at h ⊢
   omega
theorem value_done {w w1 w' : World} {u1 : Later w1} {s : Value} {xs : List Int} {g : Nat} (h0 : Below w.heap.size w w1) (h1 : w.heap.size + 3 ≤ w1.heap.size) (hb : Below u1.val.heap.size u1.val w') (hr : RowI w' s xs) (hg : ∀ b, s.ownBlock = some b → u1.val.heap.size ≤ b) (hgw : g < w.heap.size) :
 Below w.heap.size w (w'.setCell ⟨w.heap.size + 2, 0, none⟩ s) ∧ SlN enI (w'.setCell ⟨w.heap.size + 2, 0, none⟩ s) s xs ∧ NotIn g s := by
 have hs := u1.size
 refine ⟨((h0.trans (u1.prop.mono h0.size)).trans (hb.mono (by omega))).setCell (by simp) _, (hr.set (fun b hb' e => ?_) _).slN, rowI_notIn hr hg (by omega)⟩
 have := hg b hb'
 simp at e
 omega
theorem value_facts : (∀ (fn : Fn) (first cap : Array Value) (w : World), (Instr.makeFunc fn first cap).run Tryz.prog w = .ok (.func fn first cap) w) ∧
 (∀ (args : Array Value) (w : World), (callFunc 197 args).run Tryz.prog w = .ok (.enter 197 args) w) ∧
 (∀ (args : Array Value) (w : World), (callFunc 198 args).run Tryz.prog w = .ok (.enter 198 args) w) ∧
 (∀ (args : Array Value) (w : World), (callFunc 147 args).run Tryz.prog w = .ok (.enter 147 args) w) ∧
 ∀ (i a : Int) (w : World), (Instr.field 34 (.agg #[.int .i64 i, .int .i64 a]) 1).run Tryz.prog w = .ok (.int .i64 a) w :=
 ⟨fun _ _ _ _ => rfl, fun _ _ => rfl, fun _ _ => rfl, fun _ _ => rfl, fun _ _ _ => rfl⟩
theorem value_world (k a b c n m xi xw : Int) (nm : ByteArray) (bv ov I d : Nat) (w : World) : ∃ W1, (((w.alloc (Obj.cells #[.int .i64 k, .int .i64 a, .int .i64 b, .int .i64 c, .int .i64 n, .int .i64 m, .int .i64 xi, .int .i64 xw, .string nm] 38)).alloc (Obj.cells #[.slice (some ⟨bv, ov, none⟩) I d] 29)).alloc (Obj.cells #[.slice none 0 0] 40)) = W1 ∧ Hid (Below w.heap.size w W1) ∧ Hid (w.heap.size + 3 ≤ W1.heap.size) ∧ (∀ u : Later W1, u.val.cell? ⟨w.heap.size, 0, none⟩ = some (.int .i64 k)) ∧ (∀ u : Later W1, u.val.cell? ⟨w.heap.size, 1, none⟩ = some (.int .i64 a)) ∧ (∀ u : Later W1, u.val.cell? ⟨w.heap.size, 2, none⟩ = some (.int .i64 b)) ∧ (∀ u : Later W1, u.val.cell? ⟨w.heap.size, 3, none⟩ = some (.int .i64 c)) ∧ (∀ u : Later W1, u.val.cell? ⟨w.heap.size, 4, none⟩ = some (.int .i64 n)) ∧ (∀ u : Later W1, u.val.cell? ⟨w.heap.size, 5, none⟩ = some (.int .i64 m)) ∧
 (∀ u : Later W1, u.val.cell? ⟨w.heap.size + 1, 0, none⟩ = some (.slice (some ⟨bv, ov, none⟩) I d)) ∧ (∀ u : Later W1, u.val.cell? ⟨w.heap.size + 1 + 1, 0, none⟩ = some (.slice none 0 0)) ∧ (∀ u : Later W1, u.val.frozen? ⟨w.heap.size + 1 + 1, 0, none⟩ = false) := by
 refine ⟨_, rfl, Lib.hid ((((Below.refl _ _).alloc (Nat.le_refl _) _).alloc (by simp) _).alloc (by simp [Nat.add_assoc]) _), Lib.hid (by simp), Later.cell ?_, Later.cell ?_, Later.cell ?_, Later.cell ?_, Later.cell ?_, Later.cell ?_, Later.cell ?_, Later.cell ?_, Later.frozen ?_ ?_⟩
 all_goals first | go_simp | simp
theorem vNode_34 (a b cc : Int) (n m xi xw : Int) (nm : ByteArray) (Bm bn on N c bv ov I d p : Nat) (w : World) (hN : N ≤ 281474976710656) (hI : I ≤ 281474976710656) (hbv : bv < w.heap.size) (hm : w.cell? ⟨Bm, 0, none⟩ = some (.slice (some ⟨bn, on, none⟩) N c)) :
 Calls Tryz.prog 148 #[.agg #[.int .i64 34, .int .i64 a, .int .i64 b, .int .i64 cc, .int .i64 n, .int .i64 m, .int .i64 xi, .int .i64 xw, .string nm], .slice (some ⟨bv, ov, none⟩) I d, .func (.func 147) #[] #[.pointer (some ⟨Bm, 0, none⟩)]] w fun e w' => OutV bv w e w' [n] := by
 obtain ⟨hmf, heg1, heg2, heg3, hfd⟩ := value_facts
 unfold OutV
 go_enter Tryz.func148, Tryz.ntmps148
 go_upto_region 3 with fail
 obtain ⟨W1, hW1, HB, HG, x0, x1, x2, x3, x4, x5, xv, xr, xf⟩ := value_world 34 a b cc n m xi xw nm bv ov I d w
 rw [hW1]
 clear hW1
 have hm := Later.cell (keepcell HB.out hm)
 have HCL := Lib.hid (fun (l : Later W1) (p b1 o1 c1 : Nat) (v : Int) (h1 : p < I) (h2 : l.val.cell? ⟨bv, ov + p, none⟩ = some (.slice (some ⟨b1, o1, none⟩) 1 c1)) (h3 : l.val.cell? ⟨b1, o1, none⟩ = some (.int .i64 v)) => cell_same (w.heap.size + 1) bv ov I d p b1 o1 c1 v l.val (xv l) h1 h2 h3)
 have HSR := Lib.hid (fun (l : Later W1) (p : Nat) (xi xw : Int) (h1 : p < N) (h2 : l.val.cell? ⟨bn, on + p * 9 + 6, none⟩ = some (.int .i64 xi)) (h3 : l.val.cell? ⟨bn, on + p * 9 + 7, none⟩ = some (.int .i64 xw)) => sorts_calls Bm bn on N c p xi xw l.val (hm l) h1 h2 h3)
 refine at_world (w := W1) ?_
 intro u1
 go_wp2_with (go_at_call 198; refine (word_calls n u1.val).mono ?_; rintro e w' ⟨s, rfl, hb, hr, hg⟩; obtain ⟨sA, sn, sc, rfl⟩ := rowI_slice hr; have f0 : w'.frozen? ⟨w.heap.size + 1 + 1, 0, none⟩ = false := (lift_frozen (later_step u1 hb) xf) ⟨w', Below.refl _ _⟩; have r0 : w'.cell? ⟨w.heap.size + 1 + 1, 0, none⟩ = some (.slice none 0 0) := (lift_cell (later_step u1 hb) xr) ⟨w', Below.refl _ _⟩; have HD := Lib.hid (And.intro hb (And.intro hr (And.intro hg r0))); clear hb hr hg)
 have hd := value_done (u1 := u1) HB.out HG.out HD.out.1 HD.out.2.1 HD.out.2.2.1 hbv
 have rc := World.cell?_setCell_same _ _ (Value.slice sA sn sc) HD.out.2.2.2
 exact bodyPost_ret (v := .agg #[.slice sA sn sc]) (by simp [results, Tryz.results148, go_sem, rc]) rfl ⟨_, rfl, hd.1, hd.2.1, hd.2.2⟩
theorem vNode_33t (cc : Int) (n m xi xw : Int) (nm : ByteArray) (Bm bn on N c bv ov I d p : Nat) (q l2 c2 b1 o1 c1 : Nat) (A2 : Option Addr) (ys : List Int) (w : World) (hN : N ≤ 281474976710656) (hI : I ≤ 281474976710656) (hbv : bv < w.heap.size) (hm : w.cell? ⟨Bm, 0, none⟩ = some (.slice (some ⟨bn, on, none⟩) N c)) (hpI : p < I) (hsa : w.cell? ⟨bv, ov + p, none⟩ = some (.slice (some ⟨b1, o1, none⟩) 1 c1)) (hva : w.cell? ⟨b1, o1, none⟩ = some (.int .i64 1)) (hqI : q < I) (hsb : w.cell? ⟨bv, ov + q, none⟩ = some (.slice A2 l2 c2)) (hys : SlN enI w (.slice A2 l2 c2) ys) (hno : NotIn bv (.slice A2 l2 c2)) :
 Calls Tryz.prog 148 #[.agg #[.int .i64 33, .int .i64 (p : Int), .int .i64 (q : Int), .int .i64 cc, .int .i64 n, .int .i64 m, .int .i64 xi, .int .i64 xw, .string nm], .slice (some ⟨bv, ov, none⟩) I d, .func (.func 147) #[] #[.pointer (some ⟨Bm, 0, none⟩)]] w fun e w' => OutV bv w e w' ys := by
 obtain ⟨hmf, heg1, heg2, heg3, hfd⟩ := value_facts
 unfold OutV
 go_enter Tryz.func148, Tryz.ntmps148
 go_upto_region 3 with fail
 obtain ⟨W1, hW1, HB, HG, x0, x1, x2, x3, x4, x5, xv, xr, xf⟩ := value_world 33 (p : Int) (q : Int) cc n m xi xw nm bv ov I d w
 rw [hW1]
 clear hW1
 have hm := Later.cell (keepcell HB.out hm)
 have hsa := Later.cell (keepcell HB.out hsa)
 have hva := Later.cell (keepcell HB.out hva)
 have hsb := Later.cell (keepcell HB.out hsb)
 have HCL := Lib.hid (fun (l : Later W1) (p b1 o1 c1 : Nat) (v : Int) (h1 : p < I) (h2 : l.val.cell? ⟨bv, ov + p, none⟩ = some (.slice (some ⟨b1, o1, none⟩) 1 c1)) (h3 : l.val.cell? ⟨b1, o1, none⟩ = some (.int .i64 v)) => cell_same (w.heap.size + 1) bv ov I d p b1 o1 c1 v l.val (xv l) h1 h2 h3)
 have HSR := Lib.hid (fun (l : Later W1) (p : Nat) (xi xw : Int) (h1 : p < N) (h2 : l.val.cell? ⟨bn, on + p * 9 + 6, none⟩ = some (.int .i64 xi)) (h3 : l.val.cell? ⟨bn, on + p * 9 + 7, none⟩ = some (.int .i64 xw)) => sorts_calls Bm bn on N c p xi xw l.val (hm l) h1 h2 h3)
 refine at_world (w := W1) ?_
 intro u1
 have hqI' : (q : Int) < I := by omega
 have HC1 := Lib.hid (HCL.out u1 p b1 o1 c1 1 hpI (hsa u1) (hva u1))
 have HYS := Lib.hid hys
 clear hys
 go_wp2_with (go_at_call 197; refine HC1.out.mono ?_; rintro e w' ⟨rfl, rfl⟩)
 have hbl : Below w.heap.size w (u1.val.setCell ⟨w.heap.size + 1 + 1, 0, none⟩ (.slice A2 l2 c2)) := (u1.back HB.out).setCell (by simp [Nat.add_assoc]) _
 have rc := World.cell?_setCell_same _ _ (Value.slice A2 l2 c2) (xr u1)
 exact bodyPost_ret (v := .agg #[.slice A2 l2 c2]) (by simp [results, Tryz.results148, go_sem, rc]) rfl ⟨_, rfl, hbl, HYS.out.below hbl, hno⟩
theorem vNode_33f (b : Int) (n m xi xw : Int) (nm : ByteArray) (Bm bn on N c bv ov I d p : Nat) (r l2 c2 b1 o1 c1 : Nat) (A2 : Option Addr) (ys : List Int) (a : Int) (hne : a ≠ 1) (w : World) (hN : N ≤ 281474976710656) (hI : I ≤ 281474976710656) (hbv : bv < w.heap.size) (hm : w.cell? ⟨Bm, 0, none⟩ = some (.slice (some ⟨bn, on, none⟩) N c)) (hpI : p < I) (hsa : w.cell? ⟨bv, ov + p, none⟩ = some (.slice (some ⟨b1, o1, none⟩) 1 c1)) (hva : w.cell? ⟨b1, o1, none⟩ = some (.int .i64 a)) (hqI : r < I) (hsb : w.cell? ⟨bv, ov + r, none⟩ = some (.slice A2 l2 c2)) (hys : SlN enI w (.slice A2 l2 c2) ys) (hno : NotIn bv (.slice A2 l2 c2)) :
 Calls Tryz.prog 148 #[.agg #[.int .i64 33, .int .i64 (p : Int), .int .i64 b, .int .i64 (r : Int), .int .i64 n, .int .i64 m, .int .i64 xi, .int .i64 xw, .string nm], .slice (some ⟨bv, ov, none⟩) I d, .func (.func 147) #[] #[.pointer (some ⟨Bm, 0, none⟩)]] w fun e w' => OutV bv w e w' ys := by
 obtain ⟨hmf, heg1, heg2, heg3, hfd⟩ := value_facts
 unfold OutV
 go_enter Tryz.func148, Tryz.ntmps148
 go_upto_region 3 with fail
 obtain ⟨W1, hW1, HB, HG, x0, x1, x2, x3, x4, x5, xv, xr, xf⟩ := value_world 33 (p : Int) b (r : Int) n m xi xw nm bv ov I d w
 rw [hW1]
 clear hW1
 have hm := Later.cell (keepcell HB.out hm)
 have hsa := Later.cell (keepcell HB.out hsa)
 have hva := Later.cell (keepcell HB.out hva)
 have hsb := Later.cell (keepcell HB.out hsb)
 have HCL := Lib.hid (fun (l : Later W1) (p b1 o1 c1 : Nat) (v : Int) (h1 : p < I) (h2 : l.val.cell? ⟨bv, ov + p, none⟩ = some (.slice (some ⟨b1, o1, none⟩) 1 c1)) (h3 : l.val.cell? ⟨b1, o1, none⟩ = some (.int .i64 v)) => cell_same (w.heap.size + 1) bv ov I d p b1 o1 c1 v l.val (xv l) h1 h2 h3)
 have HSR := Lib.hid (fun (l : Later W1) (p : Nat) (xi xw : Int) (h1 : p < N) (h2 : l.val.cell? ⟨bn, on + p * 9 + 6, none⟩ = some (.int .i64 xi)) (h3 : l.val.cell? ⟨bn, on + p * 9 + 7, none⟩ = some (.int .i64 xw)) => sorts_calls Bm bn on N c p xi xw l.val (hm l) h1 h2 h3)
 refine at_world (w := W1) ?_
 intro u1
 have hqI' : (r : Int) < I := by omega
 have HC1 := Lib.hid (HCL.out u1 p b1 o1 c1 a hpI (hsa u1) (hva u1))
 have HYS := Lib.hid hys
 have hne1 : (a == 1) = false := beq_eq_false_iff_ne.2 hne
 clear hys
 go_wp2_with (go_at_call 197; refine HC1.out.mono ?_; rintro e w' ⟨rfl, rfl⟩)
 have hbl : Below w.heap.size w (u1.val.setCell ⟨w.heap.size + 1 + 1, 0, none⟩ (.slice A2 l2 c2)) := (u1.back HB.out).setCell (by simp [Nat.add_assoc]) _
 have rc := World.cell?_setCell_same _ _ (Value.slice A2 l2 c2) (xr u1)
 exact bodyPost_ret (v := .agg #[.slice A2 l2 c2]) (by simp [results, Tryz.results148, go_sem, rc]) rfl ⟨_, rfl, hbl, HYS.out.below hbl, hno⟩
theorem vNode_37 (cc : Int) (n m xi xw : Int) (nm : ByteArray) (Bm bn on N c bv ov I d p : Nat) (q l1 c1 b1 o1 b2 o2 c2 y : Nat) (z : Int) (w : World) (hN : N ≤ 281474976710656) (hI : I ≤ 281474976710656) (hbv : bv < w.heap.size) (hm : w.cell? ⟨Bm, 0, none⟩ = some (.slice (some ⟨bn, on, none⟩) N c)) (hpI : p < I) (hsa : w.cell? ⟨bv, ov + p, none⟩ = some (.slice (some ⟨b1, o1, none⟩) l1 c1)) (hqI : q < I) (hsb : w.cell? ⟨bv, ov + q, none⟩ = some (.slice (some ⟨b2, o2, none⟩) 1 c2)) (hvb : w.cell? ⟨b2, o2, none⟩ = some (.int .i64 (y : Int))) (hy : y < l1) (hl1 : l1 ≤ 281474976710656) (hz : w.cell? ⟨b1, o1 + y, none⟩ = some (.int .i64 z)) :
 Calls Tryz.prog 148 #[.agg #[.int .i64 37, .int .i64 (p : Int), .int .i64 (q : Int), .int .i64 cc, .int .i64 n, .int .i64 m, .int .i64 xi, .int .i64 xw, .string nm], .slice (some ⟨bv, ov, none⟩) I d, .func (.func 147) #[] #[.pointer (some ⟨Bm, 0, none⟩)]] w fun e w' => OutV bv w e w' [z] := by
 obtain ⟨hmf, heg1, heg2, heg3, hfd⟩ := value_facts
 unfold OutV
 go_enter Tryz.func148, Tryz.ntmps148
 go_upto_region 3 with fail
 obtain ⟨W1, hW1, HB, HG, x0, x1, x2, x3, x4, x5, xv, xr, xf⟩ := value_world 37 (p : Int) (q : Int) cc n m xi xw nm bv ov I d w
 rw [hW1]
 clear hW1
 have hm := Later.cell (keepcell HB.out hm)
 have hsa := Later.cell (keepcell HB.out hsa)
 have hsb := Later.cell (keepcell HB.out hsb)
 have hvb := Later.cell (keepcell HB.out hvb)
 have hz := Later.cell (keepcell HB.out hz)
 have HCL := Lib.hid (fun (l : Later W1) (p b1 o1 c1 : Nat) (v : Int) (h1 : p < I) (h2 : l.val.cell? ⟨bv, ov + p, none⟩ = some (.slice (some ⟨b1, o1, none⟩) 1 c1)) (h3 : l.val.cell? ⟨b1, o1, none⟩ = some (.int .i64 v)) => cell_same (w.heap.size + 1) bv ov I d p b1 o1 c1 v l.val (xv l) h1 h2 h3)
 have HSR := Lib.hid (fun (l : Later W1) (p : Nat) (xi xw : Int) (h1 : p < N) (h2 : l.val.cell? ⟨bn, on + p * 9 + 6, none⟩ = some (.int .i64 xi)) (h3 : l.val.cell? ⟨bn, on + p * 9 + 7, none⟩ = some (.int .i64 xw)) => sorts_calls Bm bn on N c p xi xw l.val (hm l) h1 h2 h3)
 refine at_world (w := W1) ?_
 intro u1
 have hpI' : (p : Int) < I := by omega
 have hqI' : (q : Int) < I := by omega
 have hy' : (y : Int) < l1 := by omega
 go_upto_region 13 with fail
 refine wp_region_later_tail (w0 := W1) 13 (by kernel_rfl) (by kernel_rfl) ⟨u1, rfl⟩ ?_
 simp only [List.take_succ_cons, List.take_zero, List.drop_succ_cons, List.drop_zero]
 repeat (go_big_quiet_step (first | (go_at_call 197; exact Calls.later (Makes.of_same (HCL.out _ q b2 o2 c2 (y : Int) hqI (hsb _) (hvb _))))))
 refine wpQuiet_nil ?_
 rintro _ ⟨u2, rfl⟩
 go_wp2_with (go_at_call 198; refine (word_calls z u2.val).mono ?_; rintro e w' ⟨s, rfl, hb, hr, hg⟩; obtain ⟨sA, sn, sc, rfl⟩ := rowI_slice hr; have f0 : w'.frozen? ⟨w.heap.size + 1 + 1, 0, none⟩ = false := (lift_frozen (later_step u2 hb) xf) ⟨w', Below.refl _ _⟩; have r0 : w'.cell? ⟨w.heap.size + 1 + 1, 0, none⟩ = some (.slice none 0 0) := (lift_cell (later_step u2 hb) xr) ⟨w', Below.refl _ _⟩; have HD := Lib.hid (And.intro hb (And.intro hr (And.intro hg r0))); clear hb hr hg)
 have hd := value_done (u1 := u2) HB.out HG.out HD.out.1 HD.out.2.1 HD.out.2.2.1 hbv
 have rc := World.cell?_setCell_same _ _ (Value.slice sA sn sc) HD.out.2.2.2
 exact bodyPost_ret (v := .agg #[.slice sA sn sc]) (by simp [results, Tryz.results148, go_sem, rc]) rfl ⟨_, rfl, hd.1, hd.2.1, hd.2.2⟩
theorem vNode_21 (cc : Int) (n m xi xw : Int) (nm : ByteArray) (Bm bn on N c bv ov I d p : Nat) (q l1 c1 l2 c2 : Nat) (A1 A2 : Option Addr) (xs ys : List Int) (w : World) (hN : N ≤ 281474976710656) (hI : I ≤ 281474976710656) (hbv : bv < w.heap.size) (hm : w.cell? ⟨Bm, 0, none⟩ = some (.slice (some ⟨bn, on, none⟩) N c)) (hpI : p < I) (hsa : w.cell? ⟨bv, ov + p, none⟩ = some (.slice A1 l1 c1)) (hxs : SlN enI w (.slice A1 l1 c1) xs) (hqI : q < I) (hsb : w.cell? ⟨bv, ov + q, none⟩ = some (.slice A2 l2 c2)) (hys : SlN enI w (.slice A2 l2 c2) ys) :
 Calls Tryz.prog 148 #[.agg #[.int .i64 21, .int .i64 (p : Int), .int .i64 (q : Int), .int .i64 cc, .int .i64 n, .int .i64 m, .int .i64 xi, .int .i64 xw, .string nm], .slice (some ⟨bv, ov, none⟩) I d, .func (.func 147) #[] #[.pointer (some ⟨Bm, 0, none⟩)]] w fun e w' => OutV bv w e w' [yes (decide (xs = ys))] := by
 obtain ⟨hmf, heg1, heg2, heg3, hfd⟩ := value_facts
 unfold OutV
 go_enter Tryz.func148, Tryz.ntmps148
 go_upto_region 3 with fail
 obtain ⟨W1, hW1, HB, HG, x0, x1, x2, x3, x4, x5, xv, xr, xf⟩ := value_world 21 (p : Int) (q : Int) cc n m xi xw nm bv ov I d w
 rw [hW1]
 clear hW1
 have hm := Later.cell (keepcell HB.out hm)
 have hsa := Later.cell (keepcell HB.out hsa)
 have hxs := hxs.below HB.out
 have hsb := Later.cell (keepcell HB.out hsb)
 have hys := hys.below HB.out
 have HCL := Lib.hid (fun (l : Later W1) (p b1 o1 c1 : Nat) (v : Int) (h1 : p < I) (h2 : l.val.cell? ⟨bv, ov + p, none⟩ = some (.slice (some ⟨b1, o1, none⟩) 1 c1)) (h3 : l.val.cell? ⟨b1, o1, none⟩ = some (.int .i64 v)) => cell_same (w.heap.size + 1) bv ov I d p b1 o1 c1 v l.val (xv l) h1 h2 h3)
 have HSR := Lib.hid (fun (l : Later W1) (p : Nat) (xi xw : Int) (h1 : p < N) (h2 : l.val.cell? ⟨bn, on + p * 9 + 6, none⟩ = some (.int .i64 xi)) (h3 : l.val.cell? ⟨bn, on + p * 9 + 7, none⟩ = some (.int .i64 xw)) => sorts_calls Bm bn on N c p xi xw l.val (hm l) h1 h2 h3)
 refine at_world (w := W1) ?_
 intro u1
 have hpI' : (p : Int) < I := by omega
 have hqI' : (q : Int) < I := by omega
 have HEQ := Lib.hid (fun l : Later W1 => equalI_calls (.slice A1 l1 c1) (.slice A2 l2 c2) xs ys l.val (hxs.later l) (hys.later l))
 clear hxs hys
 go_upto_region 11 with fail
 refine wp_region_later_tail (w0 := W1) 15 (by kernel_rfl) (by kernel_rfl) ⟨u1, rfl⟩ ?_
 simp only [List.take_succ_cons, List.take_zero, List.drop_succ_cons, List.drop_zero]
 repeat (go_big_quiet_step (first | (go_at_call 188; exact Calls.later (HEQ.out _)) | (go_at_call 199; exact Calls.later (Makes.of_same (bit_same _ _)))))
 refine wpQuiet_nil ?_
 rintro _ ⟨u2, rfl⟩
 go_wp2_with (go_at_call 198; refine (word_calls (yes (decide (xs = ys))) u2.val).mono ?_; rintro e w' ⟨s, rfl, hb, hr, hg⟩; obtain ⟨sA, sn, sc, rfl⟩ := rowI_slice hr; have f0 : w'.frozen? ⟨w.heap.size + 1 + 1, 0, none⟩ = false := (lift_frozen (later_step u2 hb) xf) ⟨w', Below.refl _ _⟩; have r0 : w'.cell? ⟨w.heap.size + 1 + 1, 0, none⟩ = some (.slice none 0 0) := (lift_cell (later_step u2 hb) xr) ⟨w', Below.refl _ _⟩; have HD := Lib.hid (And.intro hb (And.intro hr (And.intro hg r0))); clear hb hr hg)
 have hd := value_done (u1 := u2) HB.out HG.out HD.out.1 HD.out.2.1 HD.out.2.2.1 hbv
 have rc := World.cell?_setCell_same _ _ (Value.slice sA sn sc) HD.out.2.2.2
 exact bodyPost_ret (v := .agg #[.slice sA sn sc]) (by simp [results, Tryz.results148, go_sem, rc]) rfl ⟨_, rfl, hd.1, hd.2.1, hd.2.2⟩
theorem vNode_29 (cc : Int) (n m xi xw : Int) (nm : ByteArray) (Bm bn on N c bv ov I d p : Nat) (q b1 o1 c1 b2 o2 c2 : Nat) (a bb : Int) (wa wb ib : Int) (w : World) (hN : N ≤ 281474976710656) (hI : I ≤ 281474976710656) (hbv : bv < w.heap.size) (hm : w.cell? ⟨Bm, 0, none⟩ = some (.slice (some ⟨bn, on, none⟩) N c)) (hpI : p < I) (hsa : w.cell? ⟨bv, ov + p, none⟩ = some (.slice (some ⟨b1, o1, none⟩) 1 c1)) (hva : w.cell? ⟨b1, o1, none⟩ = some (.int .i64 a)) (hqI : q < I) (hsb : w.cell? ⟨bv, ov + q, none⟩ = some (.slice (some ⟨b2, o2, none⟩) 1 c2)) (hvb : w.cell? ⟨b2, o2, none⟩ = some (.int .i64 bb)) (hq : q < N) (hib : w.cell? ⟨bn, on + q * 9 + 6, none⟩ = some (.int .i64 ib)) (hwb : w.cell? ⟨bn, on + q * 9 + 7, none⟩ = some (.int .i64 wb)) (ha : Wo wa a) (hb : Wo wb bb) (hs : wa + wb ≤ 16) :
 Calls Tryz.prog 148 #[.agg #[.int .i64 29, .int .i64 (p : Int), .int .i64 (q : Int), .int .i64 cc, .int .i64 n, .int .i64 m, .int .i64 xi, .int .i64 xw, .string nm], .slice (some ⟨bv, ov, none⟩) I d, .func (.func 147) #[] #[.pointer (some ⟨Bm, 0, none⟩)]] w fun e w' => OutV bv w e w' [a * 2 ^ wb.toNat + bb] := by
 obtain ⟨hmf, heg1, heg2, heg3, hfd⟩ := value_facts
 unfold OutV
 go_enter Tryz.func148, Tryz.ntmps148
 go_upto_region 3 with fail
 obtain ⟨W1, hW1, HB, HG, x0, x1, x2, x3, x4, x5, xv, xr, xf⟩ := value_world 29 (p : Int) (q : Int) cc n m xi xw nm bv ov I d w
 rw [hW1]
 clear hW1
 have hm := Later.cell (keepcell HB.out hm)
 have hsa := Later.cell (keepcell HB.out hsa)
 have hva := Later.cell (keepcell HB.out hva)
 have hsb := Later.cell (keepcell HB.out hsb)
 have hvb := Later.cell (keepcell HB.out hvb)
 have hib := Later.cell (keepcell HB.out hib)
 have hwb := Later.cell (keepcell HB.out hwb)
 have HCL := Lib.hid (fun (l : Later W1) (p b1 o1 c1 : Nat) (v : Int) (h1 : p < I) (h2 : l.val.cell? ⟨bv, ov + p, none⟩ = some (.slice (some ⟨b1, o1, none⟩) 1 c1)) (h3 : l.val.cell? ⟨b1, o1, none⟩ = some (.int .i64 v)) => cell_same (w.heap.size + 1) bv ov I d p b1 o1 c1 v l.val (xv l) h1 h2 h3)
 have HSR := Lib.hid (fun (l : Later W1) (p : Nat) (xi xw : Int) (h1 : p < N) (h2 : l.val.cell? ⟨bn, on + p * 9 + 6, none⟩ = some (.int .i64 xi)) (h3 : l.val.cell? ⟨bn, on + p * 9 + 7, none⟩ = some (.int .i64 xw)) => sorts_calls Bm bn on N c p xi xw l.val (hm l) h1 h2 h3)
 refine at_world (w := W1) ?_
 intro u1
 have h1 := ha.wd.lo
 have h2 := hb.wd.lo
 have ha0 := ha.lo
 have ha1 := ha.top
 have hb0 := hb.lo
 have hb1 := hb.top
 obtain ⟨p1, p2⟩ := pow60 (i := wb.toNat) (by omega)
 have p3 := hb.wd.le
 have p4 : 0 ≤ a * 2 ^ wb.toNat := Int.mul_nonneg ha0 (by omega)
 have p5 : a * 2 ^ wb.toNat ≤ 65536 * 65536 := Int.mul_le_mul (by omega) (by omega) (by omega) (by omega)
 have p6 : a * 2 ^ wb.toNat ≤ 4294967296 := by omega
 clear p5
 go_upto_region 19 with fail
 refine wp_region_later_tail (w0 := W1) 16 (by kernel_rfl) (by kernel_rfl) ⟨u1, rfl⟩ ?_
 simp only [List.take_succ_cons, List.take_zero, List.drop_succ_cons, List.drop_zero]
 repeat (go_big_quiet_step (first | (go_at_call 197; first | (with_reducible exact Calls.later (Makes.of_same (HCL.out _ p b1 o1 c1 a hpI (hsa _) (hva _)))) | (with_reducible exact Calls.later (Makes.of_same (HCL.out _ q b2 o2 c2 bb hqI (hsb _) (hvb _))))) | (go_at_call 147; exact Calls.later (HSR.out _ q ib wb hq (hib _) (hwb _)))))
 refine wpQuiet_nil ?_
 rintro _ ⟨u2, rfl⟩
 go_wp2_with (go_at_call 198; refine (word_calls (a * 2 ^ wb.toNat + bb) u2.val).mono ?_; rintro e w' ⟨s, rfl, hb, hr, hg⟩; obtain ⟨sA, sn, sc, rfl⟩ := rowI_slice hr; have f0 : w'.frozen? ⟨w.heap.size + 1 + 1, 0, none⟩ = false := (lift_frozen (later_step u2 hb) xf) ⟨w', Below.refl _ _⟩; have r0 : w'.cell? ⟨w.heap.size + 1 + 1, 0, none⟩ = some (.slice none 0 0) := (lift_cell (later_step u2 hb) xr) ⟨w', Below.refl _ _⟩; have HD := Lib.hid (And.intro hb (And.intro hr (And.intro hg r0))); clear hb hr hg)
 have hd := value_done (u1 := u2) HB.out HG.out HD.out.1 HD.out.2.1 HD.out.2.2.1 hbv
 have rc := World.cell?_setCell_same _ _ (Value.slice sA sn sc) HD.out.2.2.2
 exact bodyPost_ret (v := .agg #[.slice sA sn sc]) (by simp [results, Tryz.results148, go_sem, rc]) rfl ⟨_, rfl, hd.1, hd.2.1, hd.2.2⟩
theorem vNode_30 (b cc : Int) (n m xi xw : Int) (nm : ByteArray) (Bm bn on N c bv ov I d p : Nat) (b1 o1 c1 : Nat) (a wa : Int) (w : World) (hN : N ≤ 281474976710656) (hI : I ≤ 281474976710656) (hbv : bv < w.heap.size) (hm : w.cell? ⟨Bm, 0, none⟩ = some (.slice (some ⟨bn, on, none⟩) N c)) (hpI : p < I) (hsa : w.cell? ⟨bv, ov + p, none⟩ = some (.slice (some ⟨b1, o1, none⟩) 1 c1)) (hva : w.cell? ⟨b1, o1, none⟩ = some (.int .i64 a)) (ha : Wo wa a) (hm0 : 0 ≤ m) (hmn : m ≤ n) (hnw : n < wa) :
 Calls Tryz.prog 148 #[.agg #[.int .i64 30, .int .i64 (p : Int), .int .i64 b, .int .i64 cc, .int .i64 n, .int .i64 m, .int .i64 xi, .int .i64 xw, .string nm], .slice (some ⟨bv, ov, none⟩) I d, .func (.func 147) #[] #[.pointer (some ⟨Bm, 0, none⟩)]] w fun e w' => OutV bv w e w' [Go.bits .and .i64 (a / 2 ^ m.toNat) (2 ^ (n - m + 1).toNat - 1)] := by
 obtain ⟨hmf, heg1, heg2, heg3, hfd⟩ := value_facts
 unfold OutV
 go_enter Tryz.func148, Tryz.ntmps148
 go_upto_region 3 with fail
 obtain ⟨W1, hW1, HB, HG, x0, x1, x2, x3, x4, x5, xv, xr, xf⟩ := value_world 30 (p : Int) b cc n m xi xw nm bv ov I d w
 rw [hW1]
 clear hW1
 have hm := Later.cell (keepcell HB.out hm)
 have hsa := Later.cell (keepcell HB.out hsa)
 have hva := Later.cell (keepcell HB.out hva)
 have HCL := Lib.hid (fun (l : Later W1) (p b1 o1 c1 : Nat) (v : Int) (h1 : p < I) (h2 : l.val.cell? ⟨bv, ov + p, none⟩ = some (.slice (some ⟨b1, o1, none⟩) 1 c1)) (h3 : l.val.cell? ⟨b1, o1, none⟩ = some (.int .i64 v)) => cell_same (w.heap.size + 1) bv ov I d p b1 o1 c1 v l.val (xv l) h1 h2 h3)
 have HSR := Lib.hid (fun (l : Later W1) (p : Nat) (xi xw : Int) (h1 : p < N) (h2 : l.val.cell? ⟨bn, on + p * 9 + 6, none⟩ = some (.int .i64 xi)) (h3 : l.val.cell? ⟨bn, on + p * 9 + 7, none⟩ = some (.int .i64 xw)) => sorts_calls Bm bn on N c p xi xw l.val (hm l) h1 h2 h3)
 refine at_world (w := W1) ?_
 intro u1
 have h1 := ha.wd.lo
 have h2 := ha.wd.hi
 have ha0 := ha.lo
 have ha1 := ha.top
 obtain ⟨p1, p2⟩ := pow60 (i := m.toNat) (by omega)
 obtain ⟨p3, p4⟩ := pow60 (i := (n - m + 1).toNat) (by omega)
 have p5 : 0 ≤ a / 2 ^ m.toNat := Int.ediv_nonneg ha0 (by omega)
 go_upto_region 21 with fail
 refine wp_region_later_tail (w0 := W1) 16 (by kernel_rfl) (by kernel_rfl) ⟨u1, rfl⟩ ?_
 simp only [List.take_succ_cons, List.take_zero, List.drop_succ_cons, List.drop_zero]
 repeat (go_big_quiet_step (first | (go_at_call 197; exact Calls.later (Makes.of_same (HCL.out _ p b1 o1 c1 a hpI (hsa _) (hva _)))) | (go_at_call 80; exact Calls.later (Makes.of_same (mask_same (n - m + 1) _ (by omega) (by omega))))))
 refine wpQuiet_nil ?_
 rintro _ ⟨u2, rfl⟩
 go_wp2_with (go_at_call 198; refine (word_calls (Go.bits .and .i64 (a / 2 ^ m.toNat) (2 ^ (n - m + 1).toNat - 1)) u2.val).mono ?_; rintro e w' ⟨s, rfl, hb, hr, hg⟩; obtain ⟨sA, sn, sc, rfl⟩ := rowI_slice hr; have f0 : w'.frozen? ⟨w.heap.size + 1 + 1, 0, none⟩ = false := (lift_frozen (later_step u2 hb) xf) ⟨w', Below.refl _ _⟩; have r0 : w'.cell? ⟨w.heap.size + 1 + 1, 0, none⟩ = some (.slice none 0 0) := (lift_cell (later_step u2 hb) xr) ⟨w', Below.refl _ _⟩; have HD := Lib.hid (And.intro hb (And.intro hr (And.intro hg r0))); clear hb hr hg)
 have hd := value_done (u1 := u2) HB.out HG.out HD.out.1 HD.out.2.1 HD.out.2.2.1 hbv
 have rc := World.cell?_setCell_same _ _ (Value.slice sA sn sc) HD.out.2.2.2
 exact bodyPost_ret (v := .agg #[.slice sA sn sc]) (by simp [results, Tryz.results148, go_sem, rc]) rfl ⟨_, rfl, hd.1, hd.2.1, hd.2.2⟩
theorem vNode_31 (b cc : Int) (n m xi xw : Int) (nm : ByteArray) (Bm bn on N c bv ov I d p : Nat) (b1 o1 c1 : Nat) (a ia wa : Int) (w : World) (hN : N ≤ 281474976710656) (hI : I ≤ 281474976710656) (hbv : bv < w.heap.size) (hm : w.cell? ⟨Bm, 0, none⟩ = some (.slice (some ⟨bn, on, none⟩) N c)) (hpI : p < I) (hsa : w.cell? ⟨bv, ov + p, none⟩ = some (.slice (some ⟨b1, o1, none⟩) 1 c1)) (hva : w.cell? ⟨b1, o1, none⟩ = some (.int .i64 a)) (hp : p < N) (hia : w.cell? ⟨bn, on + p * 9 + 6, none⟩ = some (.int .i64 ia)) (hwa : w.cell? ⟨bn, on + p * 9 + 7, none⟩ = some (.int .i64 wa)) (ha : Wo wa a) (hn0 : 0 ≤ n) (hnw : wa + n ≤ 16) :
 Calls Tryz.prog 148 #[.agg #[.int .i64 31, .int .i64 (p : Int), .int .i64 b, .int .i64 cc, .int .i64 n, .int .i64 m, .int .i64 xi, .int .i64 xw, .string nm], .slice (some ⟨bv, ov, none⟩) I d, .func (.func 147) #[] #[.pointer (some ⟨Bm, 0, none⟩)]] w fun e w' => OutV bv w e w' [grow1 wa a n false] := by
 obtain ⟨hmf, heg1, heg2, heg3, hfd⟩ := value_facts
 unfold OutV
 go_enter Tryz.func148, Tryz.ntmps148
 go_upto_region 3 with fail
 obtain ⟨W1, hW1, HB, HG, x0, x1, x2, x3, x4, x5, xv, xr, xf⟩ := value_world 31 (p : Int) b cc n m xi xw nm bv ov I d w
 rw [hW1]
 clear hW1
 have hm := Later.cell (keepcell HB.out hm)
 have hsa := Later.cell (keepcell HB.out hsa)
 have hva := Later.cell (keepcell HB.out hva)
 have hia := Later.cell (keepcell HB.out hia)
 have hwa := Later.cell (keepcell HB.out hwa)
 have HCL := Lib.hid (fun (l : Later W1) (p b1 o1 c1 : Nat) (v : Int) (h1 : p < I) (h2 : l.val.cell? ⟨bv, ov + p, none⟩ = some (.slice (some ⟨b1, o1, none⟩) 1 c1)) (h3 : l.val.cell? ⟨b1, o1, none⟩ = some (.int .i64 v)) => cell_same (w.heap.size + 1) bv ov I d p b1 o1 c1 v l.val (xv l) h1 h2 h3)
 have HSR := Lib.hid (fun (l : Later W1) (p : Nat) (xi xw : Int) (h1 : p < N) (h2 : l.val.cell? ⟨bn, on + p * 9 + 6, none⟩ = some (.int .i64 xi)) (h3 : l.val.cell? ⟨bn, on + p * 9 + 7, none⟩ = some (.int .i64 xw)) => sorts_calls Bm bn on N c p xi xw l.val (hm l) h1 h2 h3)
 refine at_world (w := W1) ?_
 intro u1
 go_upto_region 24 with fail
 refine wp_region_later_tail (w0 := W1) 16 (by kernel_rfl) (by kernel_rfl) ⟨u1, rfl⟩ ?_
 simp only [List.take_succ_cons, List.take_zero, List.drop_succ_cons, List.drop_zero]
 repeat (go_big_quiet_step (first | (go_at_call 197; exact Calls.later (Makes.of_same (HCL.out _ p b1 o1 c1 a hpI (hsa _) (hva _)))) | (go_at_call 147; exact Calls.later (HSR.out _ p ia wa hp (hia _) (hwa _))) | (go_at_call 200; exact Calls.later_eq (Makes.of_same (grow_same wa a n false ha hn0 hnw _)) (show _ = Value.int .i64 (grow1 wa a n false) from rfl))))
 refine wpQuiet_nil ?_
 rintro _ ⟨u2, rfl⟩
 go_wp2_with (go_at_call 198; refine (word_calls (grow1 wa a n false) u2.val).mono ?_; rintro e w' ⟨s, rfl, hb, hr, hg⟩; obtain ⟨sA, sn, sc, rfl⟩ := rowI_slice hr; have f0 : w'.frozen? ⟨w.heap.size + 1 + 1, 0, none⟩ = false := (lift_frozen (later_step u2 hb) xf) ⟨w', Below.refl _ _⟩; have r0 : w'.cell? ⟨w.heap.size + 1 + 1, 0, none⟩ = some (.slice none 0 0) := (lift_cell (later_step u2 hb) xr) ⟨w', Below.refl _ _⟩; have HD := Lib.hid (And.intro hb (And.intro hr (And.intro hg r0))); clear hb hr hg)
 have hd := value_done (u1 := u2) HB.out HG.out HD.out.1 HD.out.2.1 HD.out.2.2.1 hbv
 have rc := World.cell?_setCell_same _ _ (Value.slice sA sn sc) HD.out.2.2.2
 exact bodyPost_ret (v := .agg #[.slice sA sn sc]) (by simp [results, Tryz.results148, go_sem, rc]) rfl ⟨_, rfl, hd.1, hd.2.1, hd.2.2⟩
theorem vNode_32 (b cc : Int) (n m xi xw : Int) (nm : ByteArray) (Bm bn on N c bv ov I d p : Nat) (b1 o1 c1 : Nat) (a ia wa : Int) (w : World) (hN : N ≤ 281474976710656) (hI : I ≤ 281474976710656) (hbv : bv < w.heap.size) (hm : w.cell? ⟨Bm, 0, none⟩ = some (.slice (some ⟨bn, on, none⟩) N c)) (hpI : p < I) (hsa : w.cell? ⟨bv, ov + p, none⟩ = some (.slice (some ⟨b1, o1, none⟩) 1 c1)) (hva : w.cell? ⟨b1, o1, none⟩ = some (.int .i64 a)) (hp : p < N) (hia : w.cell? ⟨bn, on + p * 9 + 6, none⟩ = some (.int .i64 ia)) (hwa : w.cell? ⟨bn, on + p * 9 + 7, none⟩ = some (.int .i64 wa)) (ha : Wo wa a) (hn0 : 0 ≤ n) (hnw : wa + n ≤ 16) :
 Calls Tryz.prog 148 #[.agg #[.int .i64 32, .int .i64 (p : Int), .int .i64 b, .int .i64 cc, .int .i64 n, .int .i64 m, .int .i64 xi, .int .i64 xw, .string nm], .slice (some ⟨bv, ov, none⟩) I d, .func (.func 147) #[] #[.pointer (some ⟨Bm, 0, none⟩)]] w fun e w' => OutV bv w e w' [grow1 wa a n true] := by
 obtain ⟨hmf, heg1, heg2, heg3, hfd⟩ := value_facts
 unfold OutV
 go_enter Tryz.func148, Tryz.ntmps148
 go_upto_region 3 with fail
 obtain ⟨W1, hW1, HB, HG, x0, x1, x2, x3, x4, x5, xv, xr, xf⟩ := value_world 32 (p : Int) b cc n m xi xw nm bv ov I d w
 rw [hW1]
 clear hW1
 have hm := Later.cell (keepcell HB.out hm)
 have hsa := Later.cell (keepcell HB.out hsa)
 have hva := Later.cell (keepcell HB.out hva)
 have hia := Later.cell (keepcell HB.out hia)
 have hwa := Later.cell (keepcell HB.out hwa)
 have HCL := Lib.hid (fun (l : Later W1) (p b1 o1 c1 : Nat) (v : Int) (h1 : p < I) (h2 : l.val.cell? ⟨bv, ov + p, none⟩ = some (.slice (some ⟨b1, o1, none⟩) 1 c1)) (h3 : l.val.cell? ⟨b1, o1, none⟩ = some (.int .i64 v)) => cell_same (w.heap.size + 1) bv ov I d p b1 o1 c1 v l.val (xv l) h1 h2 h3)
 have HSR := Lib.hid (fun (l : Later W1) (p : Nat) (xi xw : Int) (h1 : p < N) (h2 : l.val.cell? ⟨bn, on + p * 9 + 6, none⟩ = some (.int .i64 xi)) (h3 : l.val.cell? ⟨bn, on + p * 9 + 7, none⟩ = some (.int .i64 xw)) => sorts_calls Bm bn on N c p xi xw l.val (hm l) h1 h2 h3)
 refine at_world (w := W1) ?_
 intro u1
 go_upto_region 24 with fail
 refine wp_region_later_tail (w0 := W1) 16 (by kernel_rfl) (by kernel_rfl) ⟨u1, rfl⟩ ?_
 simp only [List.take_succ_cons, List.take_zero, List.drop_succ_cons, List.drop_zero]
 repeat (go_big_quiet_step (first | (go_at_call 197; exact Calls.later (Makes.of_same (HCL.out _ p b1 o1 c1 a hpI (hsa _) (hva _)))) | (go_at_call 147; exact Calls.later (HSR.out _ p ia wa hp (hia _) (hwa _))) | (go_at_call 200; exact Calls.later_eq (Makes.of_same (grow_same wa a n true ha hn0 hnw _)) (show _ = Value.int .i64 (grow1 wa a n true) from rfl))))
 refine wpQuiet_nil ?_
 rintro _ ⟨u2, rfl⟩
 go_wp2_with (go_at_call 198; refine (word_calls (grow1 wa a n true) u2.val).mono ?_; rintro e w' ⟨s, rfl, hb, hr, hg⟩; obtain ⟨sA, sn, sc, rfl⟩ := rowI_slice hr; have f0 : w'.frozen? ⟨w.heap.size + 1 + 1, 0, none⟩ = false := (lift_frozen (later_step u2 hb) xf) ⟨w', Below.refl _ _⟩; have r0 : w'.cell? ⟨w.heap.size + 1 + 1, 0, none⟩ = some (.slice none 0 0) := (lift_cell (later_step u2 hb) xr) ⟨w', Below.refl _ _⟩; have HD := Lib.hid (And.intro hb (And.intro hr (And.intro hg r0))); clear hb hr hg)
 have hd := value_done (u1 := u2) HB.out HG.out HD.out.1 HD.out.2.1 HD.out.2.2.1 hbv
 have rc := World.cell?_setCell_same _ _ (Value.slice sA sn sc) HD.out.2.2.2
 exact bodyPost_ret (v := .agg #[.slice sA sn sc]) (by simp [results, Tryz.results148, go_sem, rc]) rfl ⟨_, rfl, hd.1, hd.2.1, hd.2.2⟩
theorem vNode_one (k b cc : Int) (n m xi xw : Int) (nm : ByteArray) (Bm bn on N c bv ov I d p : Nat) (b1 o1 c1 : Nat) (a ia wa : Int) (w : World) (hN : N ≤ 281474976710656) (hI : I ≤ 281474976710656) (hbv : bv < w.heap.size) (hm : w.cell? ⟨Bm, 0, none⟩ = some (.slice (some ⟨bn, on, none⟩) N c)) (hpI : p < I) (hsa : w.cell? ⟨bv, ov + p, none⟩ = some (.slice (some ⟨b1, o1, none⟩) 1 c1)) (hva : w.cell? ⟨b1, o1, none⟩ = some (.int .i64 a)) (hp : p < N) (hia : w.cell? ⟨bn, on + p * 9 + 6, none⟩ = some (.int .i64 ia)) (hwa : w.cell? ⟨bn, on + p * 9 + 7, none⟩ = some (.int .i64 wa)) (ha : Wo wa a) (hk1 : 1 ≤ k) (hk5 : k ≤ 5) :
 Calls Tryz.prog 148 #[.agg #[.int .i64 k, .int .i64 (p : Int), .int .i64 b, .int .i64 cc, .int .i64 n, .int .i64 m, .int .i64 xi, .int .i64 xw, .string nm], .slice (some ⟨bv, ov, none⟩) I d, .func (.func 147) #[] #[.pointer (some ⟨Bm, 0, none⟩)]] w fun e w' => OutV bv w e w' [one1 k wa a] := by
 obtain ⟨hmf, heg1, heg2, heg3, hfd⟩ := value_facts
 unfold OutV
 go_enter Tryz.func148, Tryz.ntmps148
 go_upto_region 3 with fail
 obtain ⟨W1, hW1, HB, HG, x0, x1, x2, x3, x4, x5, xv, xr, xf⟩ := value_world k (p : Int) b cc n m xi xw nm bv ov I d w
 rw [hW1]
 clear hW1
 have hm := Later.cell (keepcell HB.out hm)
 have hsa := Later.cell (keepcell HB.out hsa)
 have hva := Later.cell (keepcell HB.out hva)
 have hia := Later.cell (keepcell HB.out hia)
 have hwa := Later.cell (keepcell HB.out hwa)
 have HCL := Lib.hid (fun (l : Later W1) (p b1 o1 c1 : Nat) (v : Int) (h1 : p < I) (h2 : l.val.cell? ⟨bv, ov + p, none⟩ = some (.slice (some ⟨b1, o1, none⟩) 1 c1)) (h3 : l.val.cell? ⟨b1, o1, none⟩ = some (.int .i64 v)) => cell_same (w.heap.size + 1) bv ov I d p b1 o1 c1 v l.val (xv l) h1 h2 h3)
 have HSR := Lib.hid (fun (l : Later W1) (p : Nat) (xi xw : Int) (h1 : p < N) (h2 : l.val.cell? ⟨bn, on + p * 9 + 6, none⟩ = some (.int .i64 xi)) (h3 : l.val.cell? ⟨bn, on + p * 9 + 7, none⟩ = some (.int .i64 xw)) => sorts_calls Bm bn on N c p xi xw l.val (hm l) h1 h2 h3)
 refine at_world (w := W1) ?_
 intro u1
 have k34 : (k == 34) = false := beq_eq_false_iff_ne.2 (by omega)
 have k33 : (k == 33) = false := beq_eq_false_iff_ne.2 (by omega)
 have k21 : (k == 21) = false := beq_eq_false_iff_ne.2 (by omega)
 have k37 : (k == 37) = false := beq_eq_false_iff_ne.2 (by omega)
 have k38 : (k == 38) = false := beq_eq_false_iff_ne.2 (by omega)
 have k29 : (k == 29) = false := beq_eq_false_iff_ne.2 (by omega)
 have k30 : (k == 30) = false := beq_eq_false_iff_ne.2 (by omega)
 have k31 : (k == 31) = false := beq_eq_false_iff_ne.2 (by omega)
 have k32 : (k == 32) = false := beq_eq_false_iff_ne.2 (by omega)
 have hpt := parts_same k
 rw [(partsN_eq k).2.1 ⟨hk1, hk5⟩] at hpt
 have HPT := Lib.hid hpt
 clear hpt
 go_upto_region 26 with (go_at_call 75; refine (HPT.out _).mono ?_; rintro e w' ⟨rfl, rfl⟩)
 refine wp_region_later (w0 := W1) (by kernel_rfl) (by kernel_rfl) ⟨u1, rfl⟩ ?_
 repeat (go_big_quiet_step (first | (go_at_call 197; exact Calls.later (Makes.of_same (HCL.out _ p b1 o1 c1 a hpI (hsa _) (hva _)))) | (go_at_call 147; exact Calls.later (HSR.out _ p ia wa hp (hia _) (hwa _))) | (go_at_call 201; exact Calls.later (Makes.of_same (one_same k wa a hk1 hk5 ha _)))))
 refine wpQuiet_nil ?_
 rintro _ ⟨u2, rfl⟩
 go_wp2_with (go_at_call 198; refine (word_calls (one1 k wa a) u2.val).mono ?_; rintro e w' ⟨s, rfl, hb, hr, hg⟩; obtain ⟨sA, sn, sc, rfl⟩ := rowI_slice hr; have f0 : w'.frozen? ⟨w.heap.size + 1 + 1, 0, none⟩ = false := (lift_frozen (later_step u2 hb) xf) ⟨w', Below.refl _ _⟩; have r0 : w'.cell? ⟨w.heap.size + 1 + 1, 0, none⟩ = some (.slice none 0 0) := (lift_cell (later_step u2 hb) xr) ⟨w', Below.refl _ _⟩; have HD := Lib.hid (And.intro hb (And.intro hr (And.intro hg r0))); clear hb hr hg)
 have hd := value_done (u1 := u2) HB.out HG.out HD.out.1 HD.out.2.1 HD.out.2.2.1 hbv
 have rc := World.cell?_setCell_same _ _ (Value.slice sA sn sc) HD.out.2.2.2
 exact bodyPost_ret (v := .agg #[.slice sA sn sc]) (by simp [results, Tryz.results148, go_sem, rc]) rfl ⟨_, rfl, hd.1, hd.2.1, hd.2.2⟩
theorem vNode_two (k cc : Int) (n m xi xw : Int) (nm : ByteArray) (Bm bn on N c bv ov I d p : Nat) (q b1 o1 c1 b2 o2 c2 : Nat) (a bb : Int) (ia wa : Int) (w : World) (hN : N ≤ 281474976710656) (hI : I ≤ 281474976710656) (hbv : bv < w.heap.size) (hm : w.cell? ⟨Bm, 0, none⟩ = some (.slice (some ⟨bn, on, none⟩) N c)) (hpI : p < I) (hsa : w.cell? ⟨bv, ov + p, none⟩ = some (.slice (some ⟨b1, o1, none⟩) 1 c1)) (hva : w.cell? ⟨b1, o1, none⟩ = some (.int .i64 a)) (hqI : q < I) (hsb : w.cell? ⟨bv, ov + q, none⟩ = some (.slice (some ⟨b2, o2, none⟩) 1 c2)) (hvb : w.cell? ⟨b2, o2, none⟩ = some (.int .i64 bb)) (hp : p < N) (hia : w.cell? ⟨bn, on + p * 9 + 6, none⟩ = some (.int .i64 ia)) (hwa : w.cell? ⟨bn, on + p * 9 + 7, none⟩ = some (.int .i64 wa)) (ha : Wo wa a) (hb : Wo wa bb) (hk6 : 6 ≤ k) (hk28 : k ≤ 28) (hk21 : k ≠ 21) :
 Calls Tryz.prog 148 #[.agg #[.int .i64 k, .int .i64 (p : Int), .int .i64 (q : Int), .int .i64 cc, .int .i64 n, .int .i64 m, .int .i64 xi, .int .i64 xw, .string nm], .slice (some ⟨bv, ov, none⟩) I d, .func (.func 147) #[] #[.pointer (some ⟨Bm, 0, none⟩)]] w fun e w' => OutV bv w e w' [two1 k wa a bb] := by
 obtain ⟨hmf, heg1, heg2, heg3, hfd⟩ := value_facts
 unfold OutV
 go_enter Tryz.func148, Tryz.ntmps148
 go_upto_region 3 with fail
 obtain ⟨W1, hW1, HB, HG, x0, x1, x2, x3, x4, x5, xv, xr, xf⟩ := value_world k (p : Int) (q : Int) cc n m xi xw nm bv ov I d w
 rw [hW1]
 clear hW1
 have hm := Later.cell (keepcell HB.out hm)
 have hsa := Later.cell (keepcell HB.out hsa)
 have hva := Later.cell (keepcell HB.out hva)
 have hsb := Later.cell (keepcell HB.out hsb)
 have hvb := Later.cell (keepcell HB.out hvb)
 have hia := Later.cell (keepcell HB.out hia)
 have hwa := Later.cell (keepcell HB.out hwa)
 have HCL := Lib.hid (fun (l : Later W1) (p b1 o1 c1 : Nat) (v : Int) (h1 : p < I) (h2 : l.val.cell? ⟨bv, ov + p, none⟩ = some (.slice (some ⟨b1, o1, none⟩) 1 c1)) (h3 : l.val.cell? ⟨b1, o1, none⟩ = some (.int .i64 v)) => cell_same (w.heap.size + 1) bv ov I d p b1 o1 c1 v l.val (xv l) h1 h2 h3)
 have HSR := Lib.hid (fun (l : Later W1) (p : Nat) (xi xw : Int) (h1 : p < N) (h2 : l.val.cell? ⟨bn, on + p * 9 + 6, none⟩ = some (.int .i64 xi)) (h3 : l.val.cell? ⟨bn, on + p * 9 + 7, none⟩ = some (.int .i64 xw)) => sorts_calls Bm bn on N c p xi xw l.val (hm l) h1 h2 h3)
 refine at_world (w := W1) ?_
 intro u1
 have k34 : (k == 34) = false := beq_eq_false_iff_ne.2 (by omega)
 have k33 : (k == 33) = false := beq_eq_false_iff_ne.2 (by omega)
 have k21 : (k == 21) = false := beq_eq_false_iff_ne.2 (by omega)
 have k37 : (k == 37) = false := beq_eq_false_iff_ne.2 (by omega)
 have k38 : (k == 38) = false := beq_eq_false_iff_ne.2 (by omega)
 have k29 : (k == 29) = false := beq_eq_false_iff_ne.2 (by omega)
 have k30 : (k == 30) = false := beq_eq_false_iff_ne.2 (by omega)
 have k31 : (k == 31) = false := beq_eq_false_iff_ne.2 (by omega)
 have k32 : (k == 32) = false := beq_eq_false_iff_ne.2 (by omega)
 have hpt := parts_same k
 rw [(partsN_eq k).2.2.1 ⟨hk6, by omega⟩] at hpt
 have HPT := Lib.hid hpt
 clear hpt
 go_upto_region 28 with (go_at_call 75; refine (HPT.out _).mono ?_; rintro e w' ⟨rfl, rfl⟩)
 refine wp_region_later (w0 := W1) (by kernel_rfl) (by kernel_rfl) ⟨u1, rfl⟩ ?_
 repeat (go_big_quiet_step (first | (go_at_call 197; first | (with_reducible exact Calls.later (Makes.of_same (HCL.out _ p b1 o1 c1 a hpI (hsa _) (hva _)))) | (with_reducible exact Calls.later (Makes.of_same (HCL.out _ q b2 o2 c2 bb hqI (hsb _) (hvb _))))) | (go_at_call 147; exact Calls.later (HSR.out _ p ia wa hp (hia _) (hwa _))) | (go_at_call 202; exact Calls.later (two_full k wa a bb hk6 hk28 ha hb _))))
 refine wpQuiet_nil ?_
 rintro _ ⟨u2, rfl⟩
 go_wp2_with (go_at_call 198; refine (word_calls (two1 k wa a bb) u2.val).mono ?_; rintro e w' ⟨s, rfl, hb, hr, hg⟩; obtain ⟨sA, sn, sc, rfl⟩ := rowI_slice hr; have f0 : w'.frozen? ⟨w.heap.size + 1 + 1, 0, none⟩ = false := (lift_frozen (later_step u2 hb) xf) ⟨w', Below.refl _ _⟩; have r0 : w'.cell? ⟨w.heap.size + 1 + 1, 0, none⟩ = some (.slice none 0 0) := (lift_cell (later_step u2 hb) xr) ⟨w', Below.refl _ _⟩; have HD := Lib.hid (And.intro hb (And.intro hr (And.intro hg r0))); clear hb hr hg)
 have hd := value_done (u1 := u2) HB.out HG.out HD.out.1 HD.out.2.1 HD.out.2.2.1 hbv
 have rc := World.cell?_setCell_same _ _ (Value.slice sA sn sc) HD.out.2.2.2
 exact bodyPost_ret (v := .agg #[.slice sA sn sc]) (by simp [results, Tryz.results148, go_sem, rc]) rfl ⟨_, rfl, hd.1, hd.2.1, hd.2.2⟩
theorem vNode_38 (n m xi xw : Int) (nm : ByteArray) (Bm bn on N c bv ov I d p : Nat) (q r l1 c1 b2 o2 c2 b3 o3 c3 y : Nat) (A1 : Option Addr) (xs : List Int) (z : Int) (w : World) (hN : N ≤ 281474976710656) (hI : I ≤ 281474976710656) (hbv : bv < w.heap.size) (hm : w.cell? ⟨Bm, 0, none⟩ = some (.slice (some ⟨bn, on, none⟩) N c)) (hpI : p < I) (hsa : w.cell? ⟨bv, ov + p, none⟩ = some (.slice A1 l1 c1)) (hxs : SlN enI w (.slice A1 l1 c1) xs) (hxl : xs.length ≤ 1048576) (hqI : q < I) (hsb : w.cell? ⟨bv, ov + q, none⟩ = some (.slice (some ⟨b2, o2, none⟩) 1 c2)) (hvb : w.cell? ⟨b2, o2, none⟩ = some (.int .i64 (y : Int))) (hrI : r < I) (hsc : w.cell? ⟨bv, ov + r, none⟩ = some (.slice (some ⟨b3, o3, none⟩) 1 c3)) (hvc : w.cell? ⟨b3, o3, none⟩ = some (.int .i64 z)) (hy : y < xs.length) :
 Calls Tryz.prog 148 #[.agg #[.int .i64 38, .int .i64 (p : Int), .int .i64 (q : Int), .int .i64 (r : Int), .int .i64 n, .int .i64 m, .int .i64 xi, .int .i64 xw, .string nm], .slice (some ⟨bv, ov, none⟩) I d, .func (.func 147) #[] #[.pointer (some ⟨Bm, 0, none⟩)]] w fun e w' => OutV bv w e w' (xs.set y z) := by
 obtain ⟨hmf, heg1, heg2, heg3, hfd⟩ := value_facts
 unfold OutV
 go_enter Tryz.func148, Tryz.ntmps148
 go_upto_region 3 with fail
 obtain ⟨W1, hW1, HB, HG, x0, x1, x2, x3, x4, x5, xv, xr, xf⟩ := value_world 38 (p : Int) (q : Int) (r : Int) n m xi xw nm bv ov I d w
 rw [hW1]
 clear hW1
 have hm := Later.cell (keepcell HB.out hm)
 have hsa := Later.cell (keepcell HB.out hsa)
 have hxs := hxs.below HB.out
 have hsb := Later.cell (keepcell HB.out hsb)
 have hvb := Later.cell (keepcell HB.out hvb)
 have hsc := Later.cell (keepcell HB.out hsc)
 have hvc := Later.cell (keepcell HB.out hvc)
 have HCL := Lib.hid (fun (l : Later W1) (p b1 o1 c1 : Nat) (v : Int) (h1 : p < I) (h2 : l.val.cell? ⟨bv, ov + p, none⟩ = some (.slice (some ⟨b1, o1, none⟩) 1 c1)) (h3 : l.val.cell? ⟨b1, o1, none⟩ = some (.int .i64 v)) => cell_same (w.heap.size + 1) bv ov I d p b1 o1 c1 v l.val (xv l) h1 h2 h3)
 have HSR := Lib.hid (fun (l : Later W1) (p : Nat) (xi xw : Int) (h1 : p < N) (h2 : l.val.cell? ⟨bn, on + p * 9 + 6, none⟩ = some (.int .i64 xi)) (h3 : l.val.cell? ⟨bn, on + p * 9 + 7, none⟩ = some (.int .i64 xw)) => sorts_calls Bm bn on N c p xi xw l.val (hm l) h1 h2 h3)
 refine at_world (w := W1) ?_
 intro u1
 have hpI' : (p : Int) < I := by omega
 have HCI := Lib.hid (cloneInts_calls (.slice A1 l1 c1) xs u1.val (hxs.later u1) (by omega) hxl)
 clear hxs
 go_upto_region 16 with (go_at_call 146; refine (HCI.out).mono ?_; rintro e w' ⟨s, rfl, hb, hr, hg⟩; obtain ⟨g, cap, rfl, hown⟩ := rowI_some hr (by omega); have HD := Lib.hid (And.intro hb (And.intro hr hg)); clear hb hr hg hown)
 obtain ⟨W2, hW2⟩ : ∃ W2, W2 = w'.alloc (Obj.cells #[.slice (some ⟨g, 0, none⟩) xs.length cap] 40) := ⟨_, rfl⟩
 obtain ⟨gb, hgb⟩ : ∃ g, g = w'.heap.size := ⟨_, rfl⟩
 rw [← hW2, ← hgb]
 have hb1 : Below u1.val.heap.size u1.val W2 := hW2 ▸ HD.out.1.alloc (HD.out.1.size) _
 have hb2 : Below w'.heap.size w' W2 := hW2 ▸ (Below.refl _ _).alloc (Nat.le_refl _) _
 have hr2 : RowI W2 (.slice (some ⟨g, 0, none⟩) xs.length cap) xs := HD.out.2.1.below hb2
 have hgu : u1.val.heap.size ≤ g := HD.out.2.2 g rfl
 have hgw : g < w'.heap.size := HD.out.2.1.lt rfl
 have hL2 : LaterC W1 W2 := later_step u1 hb1
 have d0 : ∀ u : Later W2, u.val.cell? ⟨gb, 0, none⟩ = some (.slice (some ⟨g, 0, none⟩) xs.length cap) := Later.cell (by rw [hW2, hgb]; simp)
 obtain ⟨t0, ht0⟩ := rowI_cell hr2 hy
 have d1 := Later.cell ht0
 have d2 : ∀ u : Later W2, u.val.frozen? ⟨g, y, none⟩ = false := Later.frozen (rowI_frozen hr2 y) (World.block_lt_of_cell? _ _ ht0)
 have x2 := lift_cell hL2 x2
 have x3 := lift_cell hL2 x3
 have xv := lift_cell hL2 xv
 have xr := lift_cell hL2 xr
 have xf := lift_frozen hL2 xf
 have hsb := lift_cell hL2 hsb
 have hvb := lift_cell hL2 hvb
 have hsc := lift_cell hL2 hsc
 have hvc := lift_cell hL2 hvc
 have HH := Lib.hid (And.intro hb1 (And.intro hr2 (And.intro hgu (And.intro hgw (show gb ≠ g by omega)))))
 have hyl : (y : Int) < xs.length := by omega
 have HG2 := Lib.hid (show w.heap.size + 1 + 1 < u1.val.heap.size by have h1 := HG.out; have h2 := u1.size; omega)
 have HCB := Lib.hid (fun (l : Later W2) => cell_same (w.heap.size + 1) bv ov I d q b2 o2 c2 (y : Int) l.val (xv l) hqI (hsb l) (hvb l))
 have HCC := Lib.hid (fun (l : Later W2) => cell_same (w.heap.size + 1) bv ov I d r b3 o3 c3 z l.val (xv l) hrI (hsc l) (hvc l))
 clear hb1 hb2 hr2 hgu hgw hL2 hW2 ht0 hgb
 refine wp_region_later_tail (w0 := W2) 11 (by kernel_rfl) (by kernel_rfl) (LaterC.refl _) ?_
 simp only [List.take_succ_cons, List.take_zero, List.drop_succ_cons, List.drop_zero]
 repeat (go_big_quiet_step ((go_at_call 197; first | (with_reducible exact Calls.later (Makes.of_same (HCB.out _))) | (with_reducible exact Calls.later (Makes.of_same (HCC.out _))))))
 refine wpQuiet_nil ?_
 rintro _ ⟨u2, rfl⟩
 go_upto_region 17 with fail
 have e0 : (u2.val.setCell ⟨g, y, none⟩ (.int .i64 z)).cell? ⟨gb, 0, none⟩ = some (.slice (some ⟨g, 0, none⟩) xs.length cap) := (World.cell?_setCell_far _ _ _ _ (fun e => HH.out.2.2.2.2 e.symm)).trans (d0 u2)
 have e1 : (u2.val.setCell ⟨g, y, none⟩ (.int .i64 z)).cell? ⟨w.heap.size + 1 + 1, 0, none⟩ = some (.slice none 0 0) := (World.cell?_setCell_far _ _ _ _ (fun e => by have h1 := HH.out.2.2.1; have h2 := HG2.out; simp at e; omega)).trans (xr u2)
 have e2 : (u2.val.setCell ⟨g, y, none⟩ (.int .i64 z)).frozen? ⟨w.heap.size + 1 + 1, 0, none⟩ = false := by simpa using xf u2
 have hd := value_done (u1 := u1) (w' := u2.val.setCell ⟨g, y, none⟩ (.int .i64 z)) HB.out HG.out ((HH.out.1.trans (u2.prop.mono HH.out.1.size)).setCell HH.out.2.2.1 _) ((HH.out.2.1.below u2.prop).putAt hy z) (fun b hb => by cases hb; exact HH.out.2.2.1) hbv
 generalize u2.val.setCell ⟨g, y, none⟩ (.int .i64 z) = W3 at *
 go_wp2
 have rc := World.cell?_setCell_same _ _ (Value.slice (some ⟨g, 0, none⟩) xs.length cap) e1
 exact bodyPost_ret (v := .agg #[.slice (some ⟨g, 0, none⟩) xs.length cap]) (by simp [results, Tryz.results148, go_sem, rc]) rfl ⟨_, rfl, hd.1, hd.2.1, hd.2.2⟩
end Go.Proofs.YtbenebcphaiohaaGreat
