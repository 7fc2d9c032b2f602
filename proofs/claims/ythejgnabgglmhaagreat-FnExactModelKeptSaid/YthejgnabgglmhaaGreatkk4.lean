import Derived.Test.YthejgnabgglmhaaGreatkk3
import Derived.Deep.AppendLies
import Derived.Deep.RegionHeld3
set_option linter.unusedVariables false
set_option linter.unusedSimpArgs false
set_option maxRecDepth 8000
set_option maxHeartbeats 16000000
namespace Go.Proofs.YthejgnabgglmhaaGreat
open Go.RowKit
def psI (ns : List Nd) (x : Nd) (m : Nat) : Int := if (m : Int) < partsN x.kind then (ns.getD (x.part m).toNat Nd.zero).idx else 0
def psW (ns : List Nd) (x : Nd) (m : Nat) : Int := if (m : Int) < partsN x.kind then (ns.getD (x.part m).toNat Nd.zero).wid else 0
def psOk (ns : List Nd) (x : Nd) (m : Nat) : Bool := decide (partsN x.kind ≤ m) || sokB (psI ns x m) (psW ns x m)
def ownN (x : Nd) : Option (Int × Int) :=
 if (if (x.kind == 34) = true then (x.idx == 0 && wokB x.wid x.n) else sokB x.idx x.wid) = true then some (x.idx, x.wid) else none
theorem ownN_const {x : Nd} (h : (x.kind == 34) = true) : ownN x = if (x.idx == 0 && wokB x.wid x.n) = true then some (x.idx, x.wid) else none := by
 unfold ownN; rw [h]; rfl
theorem ownN_var {x : Nd} (h : (x.kind == 34) = false) : ownN x = if sokB x.idx x.wid = true then some (x.idx, x.wid) else none := by
 unfold ownN; rw [h]; rfl
def sortN (ns : List Nd) (x : Nd) : Option (Int × Int) :=
 if 60 < ns.length then none
 else if fieldsB ns.length x = false then none
 else if partsN x.kind = 0 then ownN x
 else if (psOk ns x 0 && psOk ns x 1 && psOk ns x 2) = true then resN x.kind x.n x.m (psI ns x 0) (psW ns x 0) (psI ns x 1) (psW ns x 1) (psI ns x 2) (psW ns x 2)
 else none
theorem sortN_long {ns : List Nd} {x : Nd} (h : 60 < ns.length) : sortN ns x = none := by unfold sortN; rw [if_pos h]
theorem sortN_bad {ns : List Nd} {x : Nd} (h : fieldsB ns.length x = false) : sortN ns x = none := by
 unfold sortN
 by_cases h0 : 60 < ns.length
 · rw [if_pos h0]
 · rw [if_neg h0, if_pos h]
theorem sortN_own {ns : List Nd} {x : Nd} (h : ¬ 60 < ns.length) (h1 : fieldsB ns.length x = true) (h2 : partsN x.kind = 0) : sortN ns x = ownN x := by
 unfold sortN; rw [if_neg h, if_neg (by rw [h1]; exact Bool.noConfusion), if_pos h2]
theorem sortN_part {ns : List Nd} {x : Nd} {m : Nat} (hm : m < 3) (h2 : ¬ partsN x.kind = 0) (h3 : psOk ns x m = false) : sortN ns x = none := by
 unfold sortN
 by_cases h0 : 60 < ns.length
 · rw [if_pos h0]
 · by_cases h1 : fieldsB ns.length x = false
   · rw [if_neg h0, if_pos h1]
   · rw [if_neg h0, if_neg h1, if_neg h2, if_neg]
     rcases (show m = 0 ∨ m = 1 ∨ m = 2 by omega) with rfl | rfl | rfl <;> rw [h3] <;> simp
theorem sortN_res {ns : List Nd} {x : Nd} (h : ¬ 60 < ns.length) (h1 : fieldsB ns.length x = true) (h2 : ¬ partsN x.kind = 0) (h3 : ∀ m, m < 3 → psOk ns x m = true) :
 sortN ns x = resN x.kind x.n x.m (psI ns x 0) (psW ns x 0) (psI ns x 1) (psW ns x 1) (psI ns x 2) (psW ns x 2) := by
 unfold sortN; rw [if_neg h, if_neg (by rw [h1]; exact Bool.noConfusion), if_neg h2, h3 0 (by omega), h3 1 (by omega), h3 2 (by omega)]; rfl
theorem fields_part_in {len : Int} {x : Nd} {m : Nat} (h : fieldsB len x = true) (hm : m < 3) (hk : (m : Int) < partsN x.kind) : 0 ≤ x.part m ∧ x.part m ≤ len - 1 := by
 by_cases hp : partB (partsN x.kind) len m (x.part m) = true
 · unfold partB at hp
   rw [if_pos hk] at hp
   exact of_inB hp
 · rw [fields_part hm (eq_false_of_ne_true hp)] at h
   cases h
theorem fields_pos {len : Int} {x : Nd} (h : fieldsB len x = true) : 0 ≤ partsN x.kind := by
 by_cases hp : partsN x.kind < 0
 · rw [fields_neg hp] at h; cases h
 · omega
def sortCells (ns : List Nd) (x : Nd) (j : Nat) : List Value := (List.range j).flatMap fun m => [.int .i64 (psI ns x m), .int .i64 (psW ns x m)]
theorem sortCells_succ (ns : List Nd) (x : Nd) (j : Nat) : sortCells ns x (j + 1) = sortCells ns x j ++ [.int .i64 (psI ns x j), .int .i64 (psW ns x j)] := by
 unfold sortCells; rw [List.range_succ, List.flatMap_append]; rfl
theorem sortCells_length (ns : List Nd) (x : Nd) (j : Nat) : (sortCells ns x j).length = j * 2 := by
 induction j with
 | zero => rfl
 | succ j ih => rw [sortCells_succ, List.length_append, ih]; simp; omega
theorem sortCells_at (ns : List Nd) (x : Nd) {j m : Nat} (h : m < j) : (sortCells ns x j)[m * 2]? = some (.int .i64 (psI ns x m)) ∧ (sortCells ns x j)[m * 2 + 1]? = some (.int .i64 (psW ns x m)) := by
 induction j with
 | zero => omega
 | succ j ih =>
   rw [sortCells_succ]
   rcases Nat.lt_or_ge m j with g | g
   · have := ih g
     have hl := sortCells_length ns x j
     rw [List.getElem?_append_left (by omega), List.getElem?_append_left (by omega)]
     exact this
   · obtain rfl : m = j := by omega
     have hl := sortCells_length ns x m
     rw [List.getElem?_append_right (by omega), List.getElem?_append_right (by omega), hl]
     simp
theorem ownsRow_cell {w : World} {b : Nat} {e : TypeId} {g n cap : Nat} {xs : List Value} (h : w.ownsRow b e 2 (.slice (some ⟨g, 0, none⟩) n cap) n xs) (i : Nat) (u : Value) (hu : xs[i]? = some u) : w.cell? ⟨g, i, none⟩ = some u := by
 have := h.cells (g := g) rfl i u hu
 have hadd : (⟨g, 0, none⟩ : Addr).add i = ⟨g, i, none⟩ := by unfold Addr.add; split <;> simp_all
 rwa [hadd] at this
theorem ownsRow_below {w w' : World} {b : Nat} {e : TypeId} {s n : Nat} {v : Value} {xs : List Value} (h : w.ownsRow b e s v n xs) (hb : Below w.heap.size w w') : w'.ownsRow b e s v n xs := by
 refine ⟨h.1, ?_⟩
 rcases h.2 with hn | ⟨g, cap, cur, rfl, hbg, hg, rest⟩
 · exact .inl hn
 · refine .inr ⟨g, cap, cur, rfl, hbg, ?_, rest⟩
   rw [hb.block g ?_]
   · exact hg
   · rcases Nat.lt_or_ge g w.heap.size with hlt | hge
     · exact hlt
     · rw [Array.getElem?_eq_none hge] at hg; cases hg
theorem ownsRow_slice {w : World} {b : Nat} {e : TypeId} {s n : Nat} {v : Value} {xs : List Value} (h : w.ownsRow b e s v n xs) (hn : 0 < n) : ∃ g cap, v = .slice (some ⟨g, 0, none⟩) n cap ∧ n ≤ cap := by
 rcases h.2 with ⟨_, h0⟩ | ⟨g, cap, cur, hv, _, _, hc, _⟩
 · omega
 · exact ⟨g, cap, hv, hc⟩
theorem laterC_grown {w3 wa w1 : World} {e : TypeId} {s n : Nat} {v : Value} {xs : List Value} (hL : LaterC w3 wa) (hown : wa.ownsRow w3.heap.size e s v n xs) (hg : wa.grownBy w1 v.ownBlock) : LaterC w3 w1 := by
 have hb := hL.below
 refine .of (hb.trans ⟨hg.os, hg.tape, hg.output, hg.size, fun k hk => hg.block k (Nat.lt_of_lt_of_le hk hb.size) (fun e => ?_)⟩)
 have := (hown.lt k e.symm).1
 omega
theorem info_sort : (Tryz.prog.info? 60).map (fun i => (i.zero, i.size, i.bytes)) = some (some (.agg #[.int .i64 0, .int .i64 0]), 2, 16) := by kernel_rfl
def retV (r : Option (Int × Int)) : Value := match r with
 | some p => .tuple #[.agg #[.int .i64 p.1, .int .i64 p.2], .bool true]
 | none => .tuple #[.agg #[.int .i64 0, .int .i64 0], .bool false]
def RetPost (r : Option (Int × Int)) (w : World) (e : Ending) (w' : World) : Prop := e = .returned (retV r) ∧ Below w.heap.size w w'
theorem retpost_some {r : Option (Int × Int)} {i a : Int} {w w' : World} (h : r = some (i, a)) (hb : Below w.heap.size w w') : RetPost r w (.returned (.tuple #[.agg #[.int .i64 i, .int .i64 a], .bool true])) w' :=
 ⟨by rw [h]; rfl, hb⟩
theorem retpost_none {r : Option (Int × Int)} {w w' : World} (h : r = none) (hb : Below w.heap.size w w') : RetPost r w (.returned (.tuple #[.agg #[.int .i64 0, .int .i64 0], .bool false])) w' :=
 ⟨by rw [h]; rfl, hb⟩
theorem NodeSort_calls (sv : Value) (ns : List Nd) (x : Nd) (w : World) (hS : SlAt enNd w sv ns) (hs : x.name.size ≤ 140737488351232) :
 Calls Tryz.prog 56 #[sv, .agg #[.int .i64 x.kind, .int .i64 x.a, .int .i64 x.b, .int .i64 x.c, .int .i64 x.n, .int .i64 x.m, .int .i64 x.idx, .int .i64 x.wid, .string x.name]] w (RetPost (sortN ns x) w) := by
 have HS := Lib.hid hS
 obtain ⟨A, c, rfl, hnc, hc', hA⟩ := hS
 obtain ⟨R, hR⟩ : ∃ R, R = sortN ns x := ⟨_, rfl⟩
 rw [← hR]
 have HLONG := Lib.hid (show 60 < ns.length → R = none from fun h => hR.trans (sortN_long h))
 have HBAD := Lib.hid (show fieldsB ns.length x = false → R = none from fun h => hR.trans (sortN_bad h))
 have HR := Lib.hid hR
 clear hR
 generalize hN : ns.length = n at *
 have HN := Lib.hid hN
 have hn : n ≤ 281474976710656 := Nat.le_trans hnc hc'
 clear hc' hnc hN
 go_enter Tryz.func56, Tryz.ntmps56
 go_upto_region 1 with fail
 have HW := Lib.hid (show Below w.heap.size w ((w.alloc (Obj.cells #[.int .i64 x.kind, .int .i64 x.a, .int .i64 x.b, .int .i64 x.c, .int .i64 x.n, .int .i64 x.m, .int .i64 x.idx, .int .i64 x.wid, .string x.name] 62)).alloc (Obj.cells #[.int .i64 0, .int .i64 0] 60)) from (box_below _ _ _).alloc (by simp) _)
 have b0 : ((w.alloc (Obj.cells #[.int .i64 x.kind, .int .i64 x.a, .int .i64 x.b, .int .i64 x.c, .int .i64 x.n, .int .i64 x.m, .int .i64 x.idx, .int .i64 x.wid, .string x.name] 62)).alloc (Obj.cells #[.int .i64 0, .int .i64 0] 60)).cell? ⟨w.heap.size, 0, none⟩ = some (.int .i64 x.kind) := by go_simp
 have b1 : ((w.alloc (Obj.cells #[.int .i64 x.kind, .int .i64 x.a, .int .i64 x.b, .int .i64 x.c, .int .i64 x.n, .int .i64 x.m, .int .i64 x.idx, .int .i64 x.wid, .string x.name] 62)).alloc (Obj.cells #[.int .i64 0, .int .i64 0] 60)).cell? ⟨w.heap.size, 1, none⟩ = some (.int .i64 x.a) := by go_simp
 have b2 : ((w.alloc (Obj.cells #[.int .i64 x.kind, .int .i64 x.a, .int .i64 x.b, .int .i64 x.c, .int .i64 x.n, .int .i64 x.m, .int .i64 x.idx, .int .i64 x.wid, .string x.name] 62)).alloc (Obj.cells #[.int .i64 0, .int .i64 0] 60)).cell? ⟨w.heap.size, 2, none⟩ = some (.int .i64 x.b) := by go_simp
 have b3 : ((w.alloc (Obj.cells #[.int .i64 x.kind, .int .i64 x.a, .int .i64 x.b, .int .i64 x.c, .int .i64 x.n, .int .i64 x.m, .int .i64 x.idx, .int .i64 x.wid, .string x.name] 62)).alloc (Obj.cells #[.int .i64 0, .int .i64 0] 60)).cell? ⟨w.heap.size, 3, none⟩ = some (.int .i64 x.c) := by go_simp
 have b4 : ((w.alloc (Obj.cells #[.int .i64 x.kind, .int .i64 x.a, .int .i64 x.b, .int .i64 x.c, .int .i64 x.n, .int .i64 x.m, .int .i64 x.idx, .int .i64 x.wid, .string x.name] 62)).alloc (Obj.cells #[.int .i64 0, .int .i64 0] 60)).cell? ⟨w.heap.size, 4, none⟩ = some (.int .i64 x.n) := by go_simp
 have b5 : ((w.alloc (Obj.cells #[.int .i64 x.kind, .int .i64 x.a, .int .i64 x.b, .int .i64 x.c, .int .i64 x.n, .int .i64 x.m, .int .i64 x.idx, .int .i64 x.wid, .string x.name] 62)).alloc (Obj.cells #[.int .i64 0, .int .i64 0] 60)).cell? ⟨w.heap.size, 5, none⟩ = some (.int .i64 x.m) := by go_simp
 have b6 : ((w.alloc (Obj.cells #[.int .i64 x.kind, .int .i64 x.a, .int .i64 x.b, .int .i64 x.c, .int .i64 x.n, .int .i64 x.m, .int .i64 x.idx, .int .i64 x.wid, .string x.name] 62)).alloc (Obj.cells #[.int .i64 0, .int .i64 0] 60)).cell? ⟨w.heap.size, 6, none⟩ = some (.int .i64 x.idx) := by go_simp
 have b7 : ((w.alloc (Obj.cells #[.int .i64 x.kind, .int .i64 x.a, .int .i64 x.b, .int .i64 x.c, .int .i64 x.n, .int .i64 x.m, .int .i64 x.idx, .int .i64 x.wid, .string x.name] 62)).alloc (Obj.cells #[.int .i64 0, .int .i64 0] 60)).cell? ⟨w.heap.size, 7, none⟩ = some (.int .i64 x.wid) := by go_simp
 have b8 : ((w.alloc (Obj.cells #[.int .i64 x.kind, .int .i64 x.a, .int .i64 x.b, .int .i64 x.c, .int .i64 x.n, .int .i64 x.m, .int .i64 x.idx, .int .i64 x.wid, .string x.name] 62)).alloc (Obj.cells #[.int .i64 0, .int .i64 0] 60)).cell? ⟨w.heap.size, 8, none⟩ = some (.string x.name) := by go_simp
 have r0 : ((w.alloc (Obj.cells #[.int .i64 x.kind, .int .i64 x.a, .int .i64 x.b, .int .i64 x.c, .int .i64 x.n, .int .i64 x.m, .int .i64 x.idx, .int .i64 x.wid, .string x.name] 62)).alloc (Obj.cells #[.int .i64 0, .int .i64 0] 60)).cell? ⟨w.heap.size + 1, 0, none⟩ = some (.int .i64 0) := by go_simp
 have f0 : ((w.alloc (Obj.cells #[.int .i64 x.kind, .int .i64 x.a, .int .i64 x.b, .int .i64 x.c, .int .i64 x.n, .int .i64 x.m, .int .i64 x.idx, .int .i64 x.wid, .string x.name] 62)).alloc (Obj.cells #[.int .i64 0, .int .i64 0] 60)).frozen? ⟨w.heap.size + 1, 0, none⟩ = false := by go_simp
 have r1 : ((w.alloc (Obj.cells #[.int .i64 x.kind, .int .i64 x.a, .int .i64 x.b, .int .i64 x.c, .int .i64 x.n, .int .i64 x.m, .int .i64 x.idx, .int .i64 x.wid, .string x.name] 62)).alloc (Obj.cells #[.int .i64 0, .int .i64 0] 60)).cell? ⟨w.heap.size + 1, 1, none⟩ = some (.int .i64 0) := by go_simp
 have f1 : ((w.alloc (Obj.cells #[.int .i64 x.kind, .int .i64 x.a, .int .i64 x.b, .int .i64 x.c, .int .i64 x.n, .int .i64 x.m, .int .i64 x.idx, .int .i64 x.wid, .string x.name] 62)).alloc (Obj.cells #[.int .i64 0, .int .i64 0] 60)).frozen? ⟨w.heap.size + 1, 1, none⟩ = false := by go_simp
 generalize ((w.alloc (Obj.cells #[.int .i64 x.kind, .int .i64 x.a, .int .i64 x.b, .int .i64 x.c, .int .i64 x.n, .int .i64 x.m, .int .i64 x.idx, .int .i64 x.wid, .string x.name] 62)).alloc (Obj.cells #[.int .i64 0, .int .i64 0] 60)) = w2 at *
 have f0 := Later.frozen f0 (World.block_lt_of_cell? _ _ r0)
 have f1 := Later.frozen f1 (World.block_lt_of_cell? _ _ r1)
 have b0 := Later.cell b0
 have b1 := Later.cell b1
 have b2 := Later.cell b2
 have b3 := Later.cell b3
 have b4 := Later.cell b4
 have b5 := Later.cell b5
 have b6 := Later.cell b6
 have b7 := Later.cell b7
 have b8 := Later.cell b8
 have r0 := Later.cell r0
 have r1 := Later.cell r1
 refine at_world (w := w2) ?_
 intro u0
 by_cases hl : 60 < n
 · have HNONE := Lib.hid (HLONG.out hl)
   have hl' : (60 : Int) < n := by omega
   clear hA
   go_wp2
   exact bodyPost_ret (v := .tuple #[.agg #[.int .i64 0, .int .i64 0], .bool false]) (by simp [results, Tryz.results56, go_sem, r0, r1]) rfl (retpost_none HNONE.out (by repeat (first | exact u0.back HW.out | refine Below.setCell ?_ (by first | (simp; done) | (simp; omega)) _)))
 · have hl' : ¬ (60 : Int) < n := by omega
   by_cases hf : fieldsB n x = true
   rotate_left
   · have hf := eq_false_of_ne_true hf
     have HF := Lib.hid hf
     have HNONE := Lib.hid (HBAD.out hf)
     clear hA hf
     go_wp2_with (go_at_call 74; refine (Calls.later (u := u0) (l2Fields_calls A n c x _ hn hs)).mono ?_; rintro e w' ⟨rfl, u1, rfl⟩; rw [HF.out])
     exact bodyPost_ret (v := .tuple #[.agg #[.int .i64 0, .int .i64 0], .bool false]) (by simp [results, Tryz.results56, go_sem, r0, r1]) rfl (retpost_none HNONE.out (by repeat (first | exact u1.back HW.out | refine Below.setCell ?_ (by first | (simp; done) | (simp; omega)) _)))
   have HF := Lib.hid hf
   have hpp := fields_pos hf
   clear hf
   by_cases hz : partsN x.kind = 0
   · have HPN := Lib.hid hz
     have hown := HR.out.trans (sortN_own (by rw [HN.out]; exact hl) (by rw [HN.out]; exact HF.out) hz)
     clear hA hz hpp
     by_cases hk : (x.kind == 34) = true
     · rw [ownN_const hk] at hown
       by_cases h0 : (x.idx == 0) = true
       · by_cases h1 : wokB x.wid x.n = true
         · have HN1 := Lib.hid (hown.trans (by rw [h0, h1] <;> rfl))
           have HWO := Lib.hid h1
           clear hown h1
           go_wp2_with (first | (go_at_call 74; refine (Calls.later (u := u0) (l2Fields_calls A n c x _ hn hs)).mono ?_; rintro e w' ⟨rfl, u1, rfl⟩; rw [HF.out]) | (go_at_call 75; refine (l2Parts_same _ _).mono ?_; rintro e w' ⟨rfl, rfl⟩; rw [HPN.out]) | (go_at_call 76; refine (Calls.later (u := u1) (SortOk_calls _ _ _)).mono ?_; rintro e w' ⟨rfl, u2, rfl⟩) | (go_at_call 77; refine (WordOk_same _ _ _).mono ?_; rintro e w' ⟨rfl, rfl⟩; rw [HWO.out]))
           exact bodyPost_ret (v := .tuple #[.agg #[.int .i64 x.idx, .int .i64 x.wid], .bool true]) (by simp [results, Tryz.results56, go_sem, r0, r1]) rfl (retpost_some HN1.out (by repeat (first | exact u2.back HW.out | refine Below.setCell ?_ (by first | (simp; done) | (simp; omega)) _)))
         · have h1 := eq_false_of_ne_true h1
           have HN1 := Lib.hid (hown.trans (by rw [h0, h1] <;> rfl))
           have HWO := Lib.hid h1
           clear hown h1
           go_wp2_with (first | (go_at_call 74; refine (Calls.later (u := u0) (l2Fields_calls A n c x _ hn hs)).mono ?_; rintro e w' ⟨rfl, u1, rfl⟩; rw [HF.out]) | (go_at_call 75; refine (l2Parts_same _ _).mono ?_; rintro e w' ⟨rfl, rfl⟩; rw [HPN.out]) | (go_at_call 76; refine (Calls.later (u := u1) (SortOk_calls _ _ _)).mono ?_; rintro e w' ⟨rfl, u2, rfl⟩) | (go_at_call 77; refine (WordOk_same _ _ _).mono ?_; rintro e w' ⟨rfl, rfl⟩; rw [HWO.out]))
           exact bodyPost_ret (v := .tuple #[.agg #[.int .i64 0, .int .i64 0], .bool false]) (by simp [results, Tryz.results56, go_sem, r0, r1]) rfl (retpost_none HN1.out (by repeat (first | exact u2.back HW.out | refine Below.setCell ?_ (by first | (simp; done) | (simp; omega)) _)))
       · have h0 := eq_false_of_ne_true h0
         have HN1 := Lib.hid (hown.trans (by rw [h0] <;> rfl))
         clear hown
         go_wp2_with (first | (go_at_call 74; refine (Calls.later (u := u0) (l2Fields_calls A n c x _ hn hs)).mono ?_; rintro e w' ⟨rfl, u1, rfl⟩; rw [HF.out]) | (go_at_call 75; refine (l2Parts_same _ _).mono ?_; rintro e w' ⟨rfl, rfl⟩; rw [HPN.out]) | (go_at_call 76; refine (Calls.later (u := u1) (SortOk_calls _ _ _)).mono ?_; rintro e w' ⟨rfl, u2, rfl⟩))
         exact bodyPost_ret (v := .tuple #[.agg #[.int .i64 0, .int .i64 0], .bool false]) (by simp [results, Tryz.results56, go_sem, r0, r1]) rfl (retpost_none HN1.out (by repeat (first | exact u2.back HW.out | refine Below.setCell ?_ (by first | (simp; done) | (simp; omega)) _)))
     · have hk := eq_false_of_ne_true hk
       rw [ownN_var hk] at hown
       by_cases h1 : sokB x.idx x.wid = true
       · have HN1 := Lib.hid (hown.trans (if_pos h1))
         have HSO := Lib.hid h1
         clear hown h1
         go_wp2_with (first | (go_at_call 74; refine (Calls.later (u := u0) (l2Fields_calls A n c x _ hn hs)).mono ?_; rintro e w' ⟨rfl, u1, rfl⟩; rw [HF.out]) | (go_at_call 75; refine (l2Parts_same _ _).mono ?_; rintro e w' ⟨rfl, rfl⟩; rw [HPN.out]) | (go_at_call 76; refine (Calls.later (u := u1) (SortOk_calls _ _ _)).mono ?_; rintro e w' ⟨rfl, u2, rfl⟩; rw [HSO.out]))
         exact bodyPost_ret (v := .tuple #[.agg #[.int .i64 x.idx, .int .i64 x.wid], .bool true]) (by simp [results, Tryz.results56, go_sem, r0, r1]) rfl (retpost_some HN1.out (by repeat (first | exact u2.back HW.out | refine Below.setCell ?_ (by first | (simp; done) | (simp; omega)) _)))
       · have h1 := eq_false_of_ne_true h1
         have HN1 := Lib.hid (hown.trans (by rw [h1] <;> rfl))
         have HSO := Lib.hid h1
         clear hown h1
         go_wp2_with (first | (go_at_call 74; refine (Calls.later (u := u0) (l2Fields_calls A n c x _ hn hs)).mono ?_; rintro e w' ⟨rfl, u1, rfl⟩; rw [HF.out]) | (go_at_call 75; refine (l2Parts_same _ _).mono ?_; rintro e w' ⟨rfl, rfl⟩; rw [HPN.out]) | (go_at_call 76; refine (Calls.later (u := u1) (SortOk_calls _ _ _)).mono ?_; rintro e w' ⟨rfl, u2, rfl⟩; rw [HSO.out]))
         exact bodyPost_ret (v := .tuple #[.agg #[.int .i64 0, .int .i64 0], .bool false]) (by simp [results, Tryz.results56, go_sem, r0, r1]) rfl (retpost_none HN1.out (by repeat (first | exact u2.back HW.out | refine Below.setCell ?_ (by first | (simp; done) | (simp; omega)) _)))
   · have hle := partsN_le x.kind
     obtain ⟨pk, hpk⟩ := Int.eq_ofNat_of_zero_le hpp
     have hpk1 : 1 ≤ pk := by omega
     have hpk3 : pk ≤ 3 := by omega
     have HPN := Lib.hid hpk
     have HZ := Lib.hid hz
     have hz1 : ¬ (pk : Int) = 0 := by omega
     have hz2 : ((pk : Int) == 0) = false := beq_eq_false_iff_ne.2 hz1
     clear hz hpp hle hpk
     go_wp2_with (first | (go_at_call 74; refine (Calls.later (u := u0) (l2Fields_calls A n c x _ hn hs)).mono ?_; rintro e w' ⟨rfl, u1, rfl⟩; rw [HF.out]) | (go_at_call 75; refine (l2Parts_same _ _).mono ?_; rintro e w' ⟨rfl, rfl⟩; rw [HPN.out]))
     have hL3 : LaterC w2 (u1.val.alloc (Obj.cells #[.int .i64 x.a, .int .i64 x.b, .int .i64 x.c] 3)) := u1.alloc _
     have p0 : (u1.val.alloc (Obj.cells #[.int .i64 x.a, .int .i64 x.b, .int .i64 x.c] 3)).cell? ⟨u1.val.heap.size, 0, none⟩ = some (.int .i64 x.a) := by go_simp
     have p1 : (u1.val.alloc (Obj.cells #[.int .i64 x.a, .int .i64 x.b, .int .i64 x.c] 3)).cell? ⟨u1.val.heap.size, 1, none⟩ = some (.int .i64 x.b) := by go_simp
     have p2 : (u1.val.alloc (Obj.cells #[.int .i64 x.a, .int .i64 x.b, .int .i64 x.c] 3)).cell? ⟨u1.val.heap.size, 2, none⟩ = some (.int .i64 x.c) := by go_simp
     generalize u1.val.alloc (Obj.cells #[.int .i64 x.a, .int .i64 x.b, .int .i64 x.c] 3) = w3 at *
     generalize u1.val.heap.size = GP at *
     have b0 := Later.re b0 hL3
     have b1 := Later.re b1 hL3
     have b2 := Later.re b2 hL3
     have b3 := Later.re b3 hL3
     have b4 := Later.re b4 hL3
     have b5 := Later.re b5 hL3
     have b6 := Later.re b6 hL3
     have b7 := Later.re b7 hL3
     have b8 := Later.re b8 hL3
     have r0 := Later.re r0 hL3
     have r1 := Later.re r1 hL3
     have f0 : ∀ u : Later w3, u.val.frozen? ⟨w.heap.size + 1, 0, none⟩ = false := fun u => by obtain ⟨v, hv⟩ := hL3.trans ⟨u, rfl⟩; rw [hv]; exact f0 v
     have f1 : ∀ u : Later w3, u.val.frozen? ⟨w.heap.size + 1, 1, none⟩ = false := fun u => by obtain ⟨v, hv⟩ := hL3.trans ⟨u, rfl⟩; rw [hv]; exact f1 v
     have HP0 := Lib.hid (show ∀ m, m < 3 → w3.cell? ⟨GP, m, none⟩ = some (.int .i64 (x.part m)) from fun m hm => by
      rcases (show m = 0 ∨ m = 1 ∨ m = 2 by omega) with rfl | rfl | rfl
      · exact p0
      · exact p1
      · exact p2)
     have HW3 := Lib.hid (show Below w.heap.size w w3 from HW.out.trans (hL3.below.mono HW.out.size))
     clear p0 p1 p2 hL3
     go_loopw [8, 10] (fun v i wr => ∃ (j : Nat) (sv : Value), j ≤ pk ∧ sv = v ∧ i = .int .i64 j ∧ Hid (wr.ownsRow w3.heap.size 60 2 sv j (sortCells ns x j) ∧ (∀ m, m < j → psOk ns x m = true)) ∧ LaterC w3 wr) (fun _ i _ => pk - (intOf i).toNat)
     case atStart => exact ⟨0, _, Nat.zero_le _, rfl, rfl, Lib.hid ⟨⟨rfl, .inl ⟨rfl, rfl⟩⟩, fun m hm => absurd hm (Nat.not_lt_zero _)⟩, LaterC.refl _⟩
     case round =>
      obtain ⟨j, sv, hj, hsv, rfl, HI, ⟨u, rfl⟩⟩ := hrel
      subst hsv
      by_cases hlt : j < pk
      · have hj3 : j < 3 := by omega
        have hj3' : (j : Int) < 3 := by omega
        have hjp : (j : Int) < partsN x.kind := by rw [HPN.out]; omega
        have hin := fields_part_in HF.out hj3 hjp
        have hpj : ∀ l : Later w3, l.val.cell? ⟨GP, j, none⟩ = some (.int .i64 (x.part j)) := Later.cell (HP0.out j hj3)
        have hps : psI ns x j = (ns.getD (x.part j).toNat Nd.zero).idx ∧ psW ns x j = (ns.getD (x.part j).toNat Nd.zero).wid := by
         unfold psI psW; rw [if_pos hjp, if_pos hjp]; exact ⟨rfl, rfl⟩
        generalize x.part j = pp at *
        obtain ⟨q, rfl⟩ := Int.eq_ofNat_of_zero_le hin.1
        have hqn : q < n := by omega
        rw [Int.toNat_natCast] at hps
        obtain ⟨b, o, rfl, hx⟩ := hA q _ (getD_at (by rw [HN.out]; exact hqn) Nd.zero)
        have hx6 : ∀ l : Later w3, l.val.cell? ⟨b, o + q * 9 + 6, none⟩ = some (.int .i64 (psI ns x j)) := by rw [hps.1]; exact hx.at_ HW3.out 6 _ rfl
        have hx7 : ∀ l : Later w3, l.val.cell? ⟨b, o + q * 9 + 7, none⟩ = some (.int .i64 (psW ns x j)) := by rw [hps.2]; exact hx.at_ HW3.out 7 _ rfl
        have hpsok : psOk ns x j = sokB (psI ns x j) (psW ns x j) := by unfold psOk; rw [decide_eq_false (by rw [HPN.out]; omega)]; rfl
        have hsucc := sortCells_succ ns x j
        have hPART := sortN_part (ns := ns) (x := x) hj3 HZ.out
        generalize psI ns x j = si at *
        generalize psW ns x j = sw at *
        have hown := HI.out.1.alloc (.cells #[.int .i64 si, .int .i64 sw] 60)
        have HOWN := Lib.hid hown
        have HNEWS := Lib.hid (World.news_of_block (heap_alloc_new u.val (.cells #[.int .i64 si, .int .i64 sw] 60)))
        have HBASE := Lib.hid (show w3.heap.size ≤ (u.val.alloc (.cells #[.int .i64 si, .int .i64 sw] 60)).heap.size by have := u.size; simp; omega)
        obtain ⟨ti, hi, hz0, hz1, hz2⟩ := info_parts info_sort
        have HTI := Lib.hid (And.intro hi (And.intro hz0 (And.intro hz1 hz2)))
        have HSUCC := Lib.hid hsucc
        have HPSOK := Lib.hid hpsok
        have HPART := Lib.hid hPART
        clear hown hps hx hA hin hi hz0 hz1 hz2 hsucc hpsok hPART
        have HS0 := Lib.hid (show (sortCells ns x j ++ [.int .i64 si, .int .i64 sw])[j * 2]? = some (.int .i64 si) by
         have hl := sortCells_length ns x j
         rw [List.getElem?_append_right (by omega), hl]; simp)
        have HS1 := Lib.hid (show (sortCells ns x j ++ [.int .i64 si, .int .i64 sw])[j * 2 + 1]? = some (.int .i64 sw) by
         have hl := sortCells_length ns x j
         rw [List.getElem?_append_right (by omega), hl]; simp)
        by_cases hso : sokB si sw = true
        · have HSO := Lib.hid hso
          clear hso
          go_wp2_with (first | (at_builtin; refine wpList_append_lies _ (by rfl) _ _ _ (by rfl) w3.heap.size 60 ti _ 2 16 Tryz.underlying104 HTI.out.1 HTI.out.2.1 HTI.out.2.2.1 HTI.out.2.2.2 rfl (by omega) sv j (sortCells ns x j) (by rfl) HOWN.out ⟨u.val.heap.size, 0, none⟩ 1 1 [.int .i64 si, .int .i64 sw] (by rfl) rfl HNEWS.out (by intro y hy; simp at hy; rcases hy with rfl | rfl <;> rfl) (by omega) (by unfold maxLen; omega) (by omega) HBASE.out (u.val.heap.size + 1) (by simp) ?_; intro g' cap' wn hown2 hgrow hat hglt; have hown2 := Lib.hid hown2; have hL := laterC_grown (u.alloc _) HOWN.out hgrow; obtain ⟨u2, hu2⟩ := hL; subst hu2; have s0 := ownsRow_cell hown2.out (j * 2) (.int .i64 si) HS0.out; have s1 := ownsRow_cell hown2.out (j * 2 + 1) (.int .i64 sw) HS1.out; clear hgrow hat hglt) | (go_at_call 76; refine (SortOk_calls _ _ _).mono ?_; rintro e w' ⟨rfl, hbel⟩; have HOWN3 := Lib.hid (ownsRow_below hown2.out hbel); obtain ⟨u3, hu3⟩ := u2.step hbel; subst hu3; clear hbel; rw [HSO.out]))
          go_roundw
          case rel =>
           refine ⟨j + 1, _, by omega, rfl, by go_num, Lib.hid ⟨?_, fun m hm => ?_⟩, ⟨u3, rfl⟩⟩
           · rw [HSUCC.out]; exact HOWN3.out
           · rcases Nat.lt_or_ge m j with g | g
             · exact HI.out.2 m g
             · obtain rfl : m = j := by omega
               rw [HPSOK.out]; exact HSO.out
          case measure => simp [intOf] <;> omega
        · have HSO := Lib.hid (eq_false_of_ne_true hso)
          have HNONE := Lib.hid (HR.out.trans (HPART.out (by rw [HPSOK.out]; exact HSO.out)))
          clear hso
          go_wp2_with (first | (at_builtin; refine wpList_append_lies _ (by rfl) _ _ _ (by rfl) w3.heap.size 60 ti _ 2 16 Tryz.underlying104 HTI.out.1 HTI.out.2.1 HTI.out.2.2.1 HTI.out.2.2.2 rfl (by omega) sv j (sortCells ns x j) (by rfl) HOWN.out ⟨u.val.heap.size, 0, none⟩ 1 1 [.int .i64 si, .int .i64 sw] (by rfl) rfl HNEWS.out (by intro y hy; simp at hy; rcases hy with rfl | rfl <;> rfl) (by omega) (by unfold maxLen; omega) (by omega) HBASE.out (u.val.heap.size + 1) (by simp) ?_; intro g' cap' wn hown2 hgrow hat hglt; have hown2 := Lib.hid hown2; have hL := laterC_grown (u.alloc _) HOWN.out hgrow; obtain ⟨u2, hu2⟩ := hL; subst hu2; have s0 := ownsRow_cell hown2.out (j * 2) (.int .i64 si) HS0.out; have s1 := ownsRow_cell hown2.out (j * 2 + 1) (.int .i64 sw) HS1.out; clear hgrow hat hglt) | (go_at_call 76; refine (SortOk_calls _ _ _).mono ?_; rintro e w' ⟨rfl, hbel⟩; have HOWN3 := Lib.hid (ownsRow_below hown2.out hbel); obtain ⟨u3, hu3⟩ := u2.step hbel; subst hu3; clear hbel; rw [HSO.out]))
          exact bodyPost_ret (v := .tuple #[.agg #[.int .i64 0, .int .i64 0], .bool false]) (by simp [results, Tryz.results56, go_sem, r0, r1]) rfl (retpost_none HNONE.out (by repeat (first | exact u3.back HW3.out | refine Below.setCell ?_ (by first | (simp; done) | (simp; omega)) _)))
      · obtain rfl : j = pk := by omega
        obtain ⟨g', cap', rfl, hcap⟩ := ownsRow_slice HI.out.1 (by omega)
        have HRES := Lib.hid (HR.out.trans (sortN_res (by rw [HN.out]; exact hl) (by rw [HN.out]; exact HF.out) HZ.out (fun m hm => by
         rcases Nat.lt_or_ge m j with g | g
         · exact HI.out.2 m g
         · unfold psOk; rw [decide_eq_true (by rw [HPN.out]; omega)]; rfl)))
        have hzero : ∀ m : Nat, j ≤ m → psI ns x m = 0 ∧ psW ns x m = 0 := fun m hm => by
         unfold psI psW; rw [if_neg (by rw [HPN.out]; omega), if_neg (by rw [HPN.out]; omega)]; exact ⟨rfl, rfl⟩
        have hcell : ∀ m, m < j → u.val.cell? ⟨g', m * 2, none⟩ = some (.int .i64 (psI ns x m)) ∧ u.val.cell? ⟨g', m * 2 + 1, none⟩ = some (.int .i64 (psW ns x m)) := fun m hm =>
         ⟨ownsRow_cell HI.out.1 _ _ (sortCells_at ns x hm).1, ownsRow_cell HI.out.1 _ _ (sortCells_at ns x hm).2⟩
        have hsk : ∀ m, m < j → sokB (psI ns x m) (psW ns x m) = true := fun m hm => by
         have := HI.out.2 m hm
         unfold psOk at this
         rw [decide_eq_false (by rw [HPN.out]; omega)] at this
         exact this
        rcases (show j = 1 ∨ j = 2 ∨ j = 3 by omega) with rfl | rfl | rfl
        · skip
          obtain ⟨c0, c1⟩ := hcell 0 (by omega)
          have s0 := sok_of (hsk 0 (by omega))
          obtain ⟨z1, y1⟩ := hzero 1 (by omega)
          rw [z1, y1] at HRES
          obtain ⟨z2, y2⟩ := hzero 2 (by omega)
          rw [z2, y2] at HRES
          generalize psI ns x 0 = ai at *
          generalize psW ns x 0 = aw at *
          clear hcell hzero hsk hA
          have HC := Lib.hid (And.intro c0 c1)
          clear c0 c1
          go_upto_region 20 with (go_at_call 78; refine (l2Result_np1 x.kind x.n x.m ai aw x.a x.b x.c x.idx x.wid x.name g' cap' _ hcap HPN.out s0 HC.out.1 HC.out.2).mono ?_; rintro e w' ⟨ri, rw', rok, rfl, hbel, hok, hval⟩; have HOK := Lib.hid hok; have HVAL := Lib.hid hval; obtain ⟨u3, hu3⟩ := u.step hbel; subst hu3; clear hok hval hbel)
          have e0 : (u3.val.alloc (.cells #[.int .i64 ri, .int .i64 rw'] 60)).cell? ⟨u3.val.heap.size, 0, none⟩ = some (.int .i64 ri) := by go_simp
          have e1 : (u3.val.alloc (.cells #[.int .i64 ri, .int .i64 rw'] 60)).cell? ⟨u3.val.heap.size, 1, none⟩ = some (.int .i64 rw') := by go_simp
          obtain ⟨u4, hu4⟩ := u3.alloc (.cells #[.int .i64 ri, .int .i64 rw'] 60)
          rw [hu4] at e0 e1 ⊢
          clear hu4
          by_cases hrok : rok = true
          · subst hrok
            obtain ⟨⟨pi, pa⟩, hp⟩ := Option.isSome_iff_exists.1 HOK.out.symm
            have hv := HVAL.out _ hp
            cases hv
            have HP := Lib.hid hp
            clear hp
            go_wp2
            exact bodyPost_ret (v := .tuple #[.agg #[.int .i64 ri, .int .i64 rw'], .bool true]) (by simp [results, Tryz.results56, go_sem, r0, r1]) rfl (retpost_some (HRES.out.trans HP.out) (by repeat (first | exact u4.back HW3.out | refine Below.setCell ?_ (by first | (simp; done) | (simp; omega)) _)))
          · have hrok := eq_false_of_ne_true hrok
            subst hrok
            have HP := Lib.hid (Option.not_isSome_iff_eq_none.1 (by rw [← HOK.out]; exact Bool.noConfusion))
            go_wp2
            exact bodyPost_ret (v := .tuple #[.agg #[.int .i64 0, .int .i64 0], .bool false]) (by simp [results, Tryz.results56, go_sem, r0, r1]) rfl (retpost_none (HRES.out.trans HP.out) (by repeat (first | exact u4.back HW3.out | refine Below.setCell ?_ (by first | (simp; done) | (simp; omega)) _)))
        · skip
          obtain ⟨c0, c1⟩ := hcell 0 (by omega)
          have s0 := sok_of (hsk 0 (by omega))
          obtain ⟨c2, c3⟩ := hcell 1 (by omega)
          have s1 := sok_of (hsk 1 (by omega))
          obtain ⟨z2, y2⟩ := hzero 2 (by omega)
          rw [z2, y2] at HRES
          generalize psI ns x 0 = ai at *
          generalize psW ns x 0 = aw at *
          generalize psI ns x 1 = bi at *
          generalize psW ns x 1 = bw at *
          clear hcell hzero hsk hA
          have HC := Lib.hid (And.intro c0 (And.intro c1 (And.intro c2 c3)))
          clear c0 c1 c2 c3
          go_upto_region 20 with (go_at_call 78; refine (l2Result_np2 x.kind x.n x.m ai aw bi bw x.a x.b x.c x.idx x.wid x.name g' cap' _ hcap HPN.out s0 s1 HC.out.1 HC.out.2.1 HC.out.2.2.1 HC.out.2.2.2).mono ?_; rintro e w' ⟨ri, rw', rok, rfl, hbel, hok, hval⟩; have HOK := Lib.hid hok; have HVAL := Lib.hid hval; obtain ⟨u3, hu3⟩ := u.step hbel; subst hu3; clear hok hval hbel)
          have e0 : (u3.val.alloc (.cells #[.int .i64 ri, .int .i64 rw'] 60)).cell? ⟨u3.val.heap.size, 0, none⟩ = some (.int .i64 ri) := by go_simp
          have e1 : (u3.val.alloc (.cells #[.int .i64 ri, .int .i64 rw'] 60)).cell? ⟨u3.val.heap.size, 1, none⟩ = some (.int .i64 rw') := by go_simp
          obtain ⟨u4, hu4⟩ := u3.alloc (.cells #[.int .i64 ri, .int .i64 rw'] 60)
          rw [hu4] at e0 e1 ⊢
          clear hu4
          by_cases hrok : rok = true
          · subst hrok
            obtain ⟨⟨pi, pa⟩, hp⟩ := Option.isSome_iff_exists.1 HOK.out.symm
            have hv := HVAL.out _ hp
            cases hv
            have HP := Lib.hid hp
            clear hp
            go_wp2
            exact bodyPost_ret (v := .tuple #[.agg #[.int .i64 ri, .int .i64 rw'], .bool true]) (by simp [results, Tryz.results56, go_sem, r0, r1]) rfl (retpost_some (HRES.out.trans HP.out) (by repeat (first | exact u4.back HW3.out | refine Below.setCell ?_ (by first | (simp; done) | (simp; omega)) _)))
          · have hrok := eq_false_of_ne_true hrok
            subst hrok
            have HP := Lib.hid (Option.not_isSome_iff_eq_none.1 (by rw [← HOK.out]; exact Bool.noConfusion))
            go_wp2
            exact bodyPost_ret (v := .tuple #[.agg #[.int .i64 0, .int .i64 0], .bool false]) (by simp [results, Tryz.results56, go_sem, r0, r1]) rfl (retpost_none (HRES.out.trans HP.out) (by repeat (first | exact u4.back HW3.out | refine Below.setCell ?_ (by first | (simp; done) | (simp; omega)) _)))
        · skip
          obtain ⟨c0, c1⟩ := hcell 0 (by omega)
          have s0 := sok_of (hsk 0 (by omega))
          obtain ⟨c2, c3⟩ := hcell 1 (by omega)
          have s1 := sok_of (hsk 1 (by omega))
          obtain ⟨c4, c5⟩ := hcell 2 (by omega)
          have s2 := sok_of (hsk 2 (by omega))
          generalize psI ns x 0 = ai at *
          generalize psW ns x 0 = aw at *
          generalize psI ns x 1 = bi at *
          generalize psW ns x 1 = bw at *
          generalize psI ns x 2 = ci at *
          generalize psW ns x 2 = cw at *
          clear hcell hzero hsk hA
          have HC := Lib.hid (And.intro c0 (And.intro c1 (And.intro c2 (And.intro c3 (And.intro c4 c5)))))
          clear c0 c1 c2 c3 c4 c5
          go_upto_region 20 with (go_at_call 78; refine (l2Result_np3 x.kind x.n x.m ai aw bi bw ci cw x.a x.b x.c x.idx x.wid x.name g' cap' _ hcap HPN.out HC.out.1 HC.out.2.1 HC.out.2.2.1 HC.out.2.2.2.1 HC.out.2.2.2.2.1 HC.out.2.2.2.2.2).mono ?_; rintro e w' ⟨ri, rw', rok, rfl, hbel, hok, hval⟩; have HOK := Lib.hid hok; have HVAL := Lib.hid hval; obtain ⟨u3, hu3⟩ := u.step hbel; subst hu3; clear hok hval hbel)
          have e0 : (u3.val.alloc (.cells #[.int .i64 ri, .int .i64 rw'] 60)).cell? ⟨u3.val.heap.size, 0, none⟩ = some (.int .i64 ri) := by go_simp
          have e1 : (u3.val.alloc (.cells #[.int .i64 ri, .int .i64 rw'] 60)).cell? ⟨u3.val.heap.size, 1, none⟩ = some (.int .i64 rw') := by go_simp
          obtain ⟨u4, hu4⟩ := u3.alloc (.cells #[.int .i64 ri, .int .i64 rw'] 60)
          rw [hu4] at e0 e1 ⊢
          clear hu4
          by_cases hrok : rok = true
          · subst hrok
            obtain ⟨⟨pi, pa⟩, hp⟩ := Option.isSome_iff_exists.1 HOK.out.symm
            have hv := HVAL.out _ hp
            cases hv
            have HP := Lib.hid hp
            clear hp
            go_wp2
            exact bodyPost_ret (v := .tuple #[.agg #[.int .i64 ri, .int .i64 rw'], .bool true]) (by simp [results, Tryz.results56, go_sem, r0, r1]) rfl (retpost_some (HRES.out.trans HP.out) (by repeat (first | exact u4.back HW3.out | refine Below.setCell ?_ (by first | (simp; done) | (simp; omega)) _)))
          · have hrok := eq_false_of_ne_true hrok
            subst hrok
            have HP := Lib.hid (Option.not_isSome_iff_eq_none.1 (by rw [← HOK.out]; exact Bool.noConfusion))
            go_wp2
            exact bodyPost_ret (v := .tuple #[.agg #[.int .i64 0, .int .i64 0], .bool false]) (by simp [results, Tryz.results56, go_sem, r0, r1]) rfl (retpost_none (HRES.out.trans HP.out) (by repeat (first | exact u4.back HW3.out | refine Below.setCell ?_ (by first | (simp; done) | (simp; omega)) _)))
end Go.Proofs.YthejgnabgglmhaaGreat
namespace Go.Proofs.YthejgnabgglmhaaGreat
open Go.RowKit
attribute [local go_sem high] eq_sort
def nodeB (ns : List Nd) (i : Nat) : Bool := decide (sortN (ns.take i) (ns.getD i Nd.zero) = some ((ns.getD i Nd.zero).idx, (ns.getD i Nd.zero).wid))
def nodesB (ns : List Nd) : Bool := (List.range ns.length).all (nodeB ns)
theorem nodes_no {ns : List Nd} {k : Nat} (hk : k < ns.length) (h : nodeB ns k = false) : nodesB ns = false := by
 unfold nodesB
 rw [List.all_eq_false]
 exact ⟨k, List.mem_range.2 hk, by rw [h]; exact Bool.false_ne_true⟩
theorem nodes_yes {ns : List Nd} (h : ∀ i, i < ns.length → nodeB ns i = true) : nodesB ns = true := by
 unfold nodesB
 rw [List.all_eq_true]
 exact fun i hi => h i (List.mem_range.1 hi)
theorem SlAt.take {α : Type} {E : En α} {w : World} {b o n c : Nat} {xs : List α} (hn : xs.length = n) (hc : n ≤ c) (hc2 : c ≤ 281474976710656) (h : ∀ i x, xs[i]? = some x → ∃ b' o', some (⟨b, o, none⟩ : Addr) = some ⟨b', o', none⟩ ∧ CellsAt E w b' o' i x) {k : Nat} (hk : k ≤ n) : SlAt E w (.slice (some ⟨b, o, none⟩) k c) (xs.take k) := by
 have hl : (xs.take k).length = k := by rw [List.length_take]; omega
 refine ⟨some ⟨b, o, none⟩, c, by rw [hl], by omega, hc2, fun i x hx => h i x ?_⟩
 rw [List.getElem?_take] at hx
 split at hx
 · exact hx
 · cases hx
theorem LaterC.drew' {w1 W : World} (h : LaterC w1 W) : LaterC w1 W.drew := by obtain ⟨u, rfl⟩ := h; exact u.drew
theorem LaterC.alloc' {w1 W : World} (h : LaterC w1 W) (o : Obj) : LaterC w1 (W.alloc o) := by obtain ⟨u, rfl⟩ := h; exact u.alloc o
theorem LaterC.setCell' {w1 W : World} (h : LaterC w1 W) (p : Addr) (v : Value) (hp : w1.heap.size ≤ p.block) : LaterC w1 (W.setCell p v) := .of (h.below.setCell hp v)
theorem LaterC.size {w1 W : World} (h : LaterC w1 W) : w1.heap.size ≤ W.heap.size := by obtain ⟨u, rfl⟩ := h; exact u.size
theorem keepcell {W w' : World} (hb : Below W.heap.size W w') {a : Addr} {v : Value} (h : W.cell? a = some v) : w'.cell? a = some v := (hb.cell (World.block_lt_of_cell? _ _ h)).trans h
theorem keepfrozen {W w' : World} (hb : Below W.heap.size W w') {a : Addr} {v : Value} (h : W.cell? a = some v) : w'.frozen? a = W.frozen? a := hb.frozen (World.block_lt_of_cell? _ _ h)
theorem below_of {w w1 W : World} (hb : Below w.heap.size w w1) (h : LaterC w1 W) : Below w.heap.size w W := hb.trans (h.below.mono hb.size)
theorem laterC_step {w1 W w' : World} (h : LaterC w1 W) (hb : Below W.heap.size W w') : LaterC w1 w' := by obtain ⟨u, rfl⟩ := h; exact u.step hb
theorem l2Nodes_calls (mv : Value) (M : Md) (w : World) (hM : MdAt w mv M) (hnm : ∀ x, x ∈ M.nodes → x.name.size ≤ 140737488351232) :
 Makes Tryz.prog 28 #[mv] w (.bool (nodesB M.nodes)) := by
 obtain ⟨s0, s1, s2, s3, s4, rfl, hS, -, -, -, -⟩ := hM.at_
 obtain ⟨A, c, rfl, hnc, hc', hA⟩ := hS
 clear hM
 obtain ⟨R, hR⟩ : ∃ R, R = nodesB M.nodes := ⟨_, rfl⟩
 rw [← hR]
 have HNO := Lib.hid (show ∀ k, k < M.nodes.length → nodeB M.nodes k = false → R = false from fun k h1 h2 => hR.trans (nodes_no h1 h2))
 have HYES := Lib.hid (show (∀ j, j < M.nodes.length → nodeB M.nodes j = true) → R = true from fun h => hR.trans (nodes_yes h))
 have HNM := Lib.hid hnm
 clear hR hnm
 generalize M.nodes = ns at *
 generalize hN : ns.length = n at *
 have HN := Lib.hid hN
 have HNC := Lib.hid hnc
 have HC := Lib.hid hc'
 have hn : n ≤ 281474976710656 := Nat.le_trans hnc hc'
 clear hN
 have HA := Lib.hid hA
 go_enter Tryz.func28, Tryz.ntmps28
 go_wp2
 have HB := Lib.hid (box_below w #[.slice A n c, s1, s2, s3, s4] 32)
 have m0 := box_cell w #[.slice A n c, s1, s2, s3, s4] 32 0 _ rfl
 generalize w.alloc (.cells #[.slice A n c, s1, s2, s3, s4] 32) = w1 at *
 have m0 : ∀ u : Later w1, u.val.cell? ⟨w.heap.size, 0, none⟩ = some (.slice A n c) := m0
 generalize w.heap.size = g0 at m0 ⊢
 go_loopw [3] (fun i wr => ∃ k : Nat, k ≤ n ∧ i = .int .i64 k ∧ Hid (∀ j, j < k → nodeB ns j = true) ∧ LaterC w1 wr) (fun i _ => n - (intOf i).toNat)
 case atStart => exact ⟨0, Nat.zero_le _, rfl, Lib.hid (fun i hi => absurd hi (Nat.not_lt_zero _)), LaterC.refl _⟩
 case round =>
  obtain ⟨k, hk, rfl, hto, ⟨u, rfl⟩⟩ := hrel
  by_cases hlt : k < n
  · have hlt' : (k : Int) < n := by omega
    have hkc : (k : Int) ≤ c := by omega
    have hmem : ns.getD k Nd.zero ∈ ns := List.mem_of_getElem? (getD_at (by rw [HN.out]; exact hlt) _)
    have HSZ := Lib.hid (HNM.out _ hmem)
    clear hmem
    obtain ⟨g, o, rfl, hx⟩ := hA k _ (getD_at (by rw [HN.out]; exact hlt) Nd.zero)
    have HSL := Lib.hid (show SlAt enNd w (.slice (some ⟨g, o, none⟩) k c) (ns.take k) from SlAt.take HN.out HNC.out HC.out HA.out (Nat.le_of_lt hlt))
    have HNB := Lib.hid (show nodeB ns k = decide (sortN (ns.take k) (ns.getD k Nd.zero) = some ((ns.getD k Nd.zero).idx, (ns.getD k Nd.zero).wid)) from rfl)
    generalize ns.getD k Nd.zero = x at *
    have q : ∀ (f : Nat) (v : Value), (enNd.cells x)[f]? = some v → ∀ l : Later w1, l.val.cell? ⟨g, o + k * 9 + f, none⟩ = some v := fun f v hv => hx.at_ HB.out f v hv
    have q0 : ∀ l : Later w1, l.val.cell? ⟨g, o + k * 9, none⟩ = some (.int .i64 x.kind) := hx.at_ HB.out 0 _ rfl
    have q1 := q 1 _ rfl
    have q2 := q 2 _ rfl
    have q3 := q 3 _ rfl
    have q4 := q 4 _ rfl
    have q5 := q 5 _ rfl
    have q6 := q 6 _ rfl
    have q7 := q 7 _ rfl
    have q8 := q 8 _ rfl
    clear hx hA q
    have HQ := Lib.hid (show ∀ u : Later w1, u.val.cell? ⟨g0, 0, none⟩ = some (.slice (some ⟨g, o, none⟩) n c) ∧ u.val.cell? ⟨g, o + k * 9, none⟩ = some (.int .i64 x.kind) ∧ u.val.cell? ⟨g, o + k * 9 + 1, none⟩ = some (.int .i64 x.a) ∧ u.val.cell? ⟨g, o + k * 9 + 2, none⟩ = some (.int .i64 x.b) ∧ u.val.cell? ⟨g, o + k * 9 + 3, none⟩ = some (.int .i64 x.c) ∧ u.val.cell? ⟨g, o + k * 9 + 4, none⟩ = some (.int .i64 x.n) ∧ u.val.cell? ⟨g, o + k * 9 + 5, none⟩ = some (.int .i64 x.m) ∧ u.val.cell? ⟨g, o + k * 9 + 6, none⟩ = some (.int .i64 x.idx) ∧ u.val.cell? ⟨g, o + k * 9 + 7, none⟩ = some (.int .i64 x.wid) ∧ u.val.cell? ⟨g, o + k * 9 + 8, none⟩ = some (.string x.name) from fun u => ⟨m0 u, q0 u, q1 u, q2 u, q3 u, q4 u, q5 u, q6 u, q7 u, q8 u⟩)
    have HQL := Lib.hid (show ∀ W, LaterC w1 W → W.cell? ⟨g0, 0, none⟩ = some (.slice (some ⟨g, o, none⟩) n c) ∧ W.cell? ⟨g, o + k * 9, none⟩ = some (.int .i64 x.kind) ∧ W.cell? ⟨g, o + k * 9 + 1, none⟩ = some (.int .i64 x.a) ∧ W.cell? ⟨g, o + k * 9 + 2, none⟩ = some (.int .i64 x.b) ∧ W.cell? ⟨g, o + k * 9 + 3, none⟩ = some (.int .i64 x.c) ∧ W.cell? ⟨g, o + k * 9 + 4, none⟩ = some (.int .i64 x.n) ∧ W.cell? ⟨g, o + k * 9 + 5, none⟩ = some (.int .i64 x.m) ∧ W.cell? ⟨g, o + k * 9 + 6, none⟩ = some (.int .i64 x.idx) ∧ W.cell? ⟨g, o + k * 9 + 7, none⟩ = some (.int .i64 x.wid) ∧ W.cell? ⟨g, o + k * 9 + 8, none⟩ = some (.string x.name) from fun W h => by obtain ⟨v, rfl⟩ := h; exact HQ.out v)
    clear HQ
    cases hr : sortN (ns.take k) x with
    | none =>
      have HV := Lib.hid (show retV (sortN (ns.take k) x) = .tuple #[.agg #[.int .i64 0, .int .i64 0], .bool false] by rw [hr]; rfl)
      have HR := Lib.hid (HNO.out k hlt (by rw [HNB.out, hr]; rfl))
      clear hto hr
      go_wp2
      go_region_held3 (fun w' => w'.cell? ⟨g0, 0, none⟩ = some (.slice (some ⟨g, o, none⟩) n c) ∧ w'.cell? ⟨g, o + k * 9, none⟩ = some (.int .i64 x.kind) ∧ w'.cell? ⟨g, o + k * 9 + 1, none⟩ = some (.int .i64 x.a) ∧ w'.cell? ⟨g, o + k * 9 + 2, none⟩ = some (.int .i64 x.b) ∧ w'.cell? ⟨g, o + k * 9 + 3, none⟩ = some (.int .i64 x.c) ∧ w'.cell? ⟨g, o + k * 9 + 4, none⟩ = some (.int .i64 x.n) ∧ w'.cell? ⟨g, o + k * 9 + 5, none⟩ = some (.int .i64 x.m) ∧ w'.cell? ⟨g, o + k * 9 + 6, none⟩ = some (.int .i64 x.idx) ∧ w'.cell? ⟨g, o + k * 9 + 7, none⟩ = some (.int .i64 x.wid) ∧ w'.cell? ⟨g, o + k * 9 + 8, none⟩ = some (.string x.name)) ((refine HQL.out _ ?_; repeat (first | exact ⟨_, rfl⟩ | refine LaterC.drew' ?_ | refine LaterC.alloc' ?_ _ | exact LaterC.setCell' (LaterC.alloc' ⟨_, rfl⟩ _) _ _ (Later.size _) | refine LaterC.setCell' ?_ _ _ (by first | exact Later.size _ | (simp; exact Later.size _))))) (first | (go_at_call 56; refine (NodeSort_calls _ (ns.take k) x _ (HSL.out.below (below_of HB.out (by repeat (first | exact ⟨_, rfl⟩ | refine LaterC.drew' ?_ | refine LaterC.alloc' ?_ _ | exact LaterC.setCell' (LaterC.alloc' ⟨_, rfl⟩ _) _ _ (Later.size _) | refine LaterC.setCell' ?_ _ _ (by first | exact Later.size _ | (simp; exact Later.size _)))))) HSZ.out).mono ?_; rintro e w' ⟨rfl, hbel⟩; rw [HV.out]; have bx0 := keepcell hbel (a := ⟨u.val.heap.size, 0, none⟩) (v := .int .i64 0); have bx1 := keepcell hbel (a := ⟨u.val.heap.size, 1, none⟩) (v := .int .i64 0); have bf0 := keepfrozen hbel (a := ⟨u.val.heap.size, 0, none⟩) (v := .int .i64 0); have bf1 := keepfrozen hbel (a := ⟨u.val.heap.size, 1, none⟩) (v := .int .i64 0); obtain ⟨u2, hu2⟩ := laterC_step (w1 := w1) (by repeat (first | exact ⟨_, rfl⟩ | refine LaterC.drew' ?_ | refine LaterC.alloc' ?_ _ | exact LaterC.setCell' (LaterC.alloc' ⟨_, rfl⟩ _) _ _ (Later.size _) | refine LaterC.setCell' ?_ _ _ (by first | exact Later.size _ | (simp; exact Later.size _)))) hbel; subst hu2; clear hbel))
      · have e0 : (u2.val.alloc (Obj.cells #[.int .i64 0, .int .i64 0] 60)).cell? ⟨u2.val.heap.size, 0, none⟩ = some (.int .i64 0) := by go_simp
        have e1 : (u2.val.alloc (Obj.cells #[.int .i64 0, .int .i64 0] 60)).cell? ⟨u2.val.heap.size, 1, none⟩ = some (.int .i64 0) := by go_simp
        have hL : LaterC w1 (u2.val.alloc (Obj.cells #[.int .i64 0, .int .i64 0] 60)) := by repeat (first | exact ⟨_, rfl⟩ | refine LaterC.drew' ?_ | refine LaterC.alloc' ?_ _ | exact LaterC.setCell' (LaterC.alloc' ⟨_, rfl⟩ _) _ _ (Later.size _) | refine LaterC.setCell' ?_ _ _ (by first | exact Later.size _ | (simp; exact Later.size _)))
        try clear bx0 bx1 bf0 bf1
        generalize (u2.val.alloc (Obj.cells #[.int .i64 0, .int .i64 0] 60)) = w4 at *
        generalize u2.val.heap.size = G at *
        have HL := Lib.hid hL
        have n0 := Later.re m0 hL
        have n6 := Later.re q6 hL
        have n7 := Later.re q7 hL
        have e0 := Later.cell e0
        have e1 := Later.cell e1
        clear m0 q0 q1 q2 q3 q4 q5 q6 q7 q8 hL
        refine at_world (w := w4) ?_
        intro u3
        go_wp2
        refine wp_region_later (w0 := w4) (by kernel_rfl) (by kernel_rfl) ⟨u3, rfl⟩ ?_
        repeat (go_big_quiet_step (fail))
        refine wpQuiet_nil ?_
        rintro _ ⟨u5, rfl⟩
        go_wp2
        go_ret
        exact ⟨ret_eq (congrArg Value.bool HR.out.symm), HB.out.trans ((HL.out.trans ⟨u5, rfl⟩).below.mono HB.out.size)⟩
      · have e0 : ((u2.val.setCell ⟨u.val.heap.size, 0, none⟩ (.int .i64 0)).setCell ⟨u.val.heap.size, 1, none⟩ (.int .i64 0)).cell? ⟨u.val.heap.size, 0, none⟩ = some (.int .i64 0) := (World.cell?_setCell_other _ _ _ _ (by intro e; simp only [Addr.mk.injEq] at e; omega)).trans (World.cell?_setCell_same _ _ _ (bx0 (by go_simp)))
        have e1 : ((u2.val.setCell ⟨u.val.heap.size, 0, none⟩ (.int .i64 0)).setCell ⟨u.val.heap.size, 1, none⟩ (.int .i64 0)).cell? ⟨u.val.heap.size, 1, none⟩ = some (.int .i64 0) := World.cell?_setCell_same _ _ _ ((World.cell?_setCell_other _ _ _ _ (by intro e; simp only [Addr.mk.injEq] at e; omega)).trans (bx1 (by go_simp)))
        have hL : LaterC w1 ((u2.val.setCell ⟨u.val.heap.size, 0, none⟩ (.int .i64 0)).setCell ⟨u.val.heap.size, 1, none⟩ (.int .i64 0)) := by repeat (first | exact ⟨_, rfl⟩ | refine LaterC.drew' ?_ | refine LaterC.alloc' ?_ _ | exact LaterC.setCell' (LaterC.alloc' ⟨_, rfl⟩ _) _ _ (Later.size _) | refine LaterC.setCell' ?_ _ _ (by first | exact Later.size _ | (simp; exact Later.size _)))
        try clear bx0 bx1 bf0 bf1
        generalize ((u2.val.setCell ⟨u.val.heap.size, 0, none⟩ (.int .i64 0)).setCell ⟨u.val.heap.size, 1, none⟩ (.int .i64 0)) = w4 at *
        generalize u.val.heap.size = G at *
        have HL := Lib.hid hL
        have n0 := Later.re m0 hL
        have n6 := Later.re q6 hL
        have n7 := Later.re q7 hL
        have e0 := Later.cell e0
        have e1 := Later.cell e1
        clear m0 q0 q1 q2 q3 q4 q5 q6 q7 q8 hL
        refine at_world (w := w4) ?_
        intro u3
        go_wp2
        refine wp_region_later (w0 := w4) (by kernel_rfl) (by kernel_rfl) ⟨u3, rfl⟩ ?_
        repeat (go_big_quiet_step (fail))
        refine wpQuiet_nil ?_
        rintro _ ⟨u5, rfl⟩
        go_wp2
        go_ret
        exact ⟨ret_eq (congrArg Value.bool HR.out.symm), HB.out.trans ((HL.out.trans ⟨u5, rfl⟩).below.mono HB.out.size)⟩
    | some p =>
      obtain ⟨pi, pa⟩ := p
      have HV := Lib.hid (show retV (sortN (ns.take k) x) = .tuple #[.agg #[.int .i64 pi, .int .i64 pa], .bool true] by rw [hr]; rfl)
      by_cases he : (pi == x.idx && (pa == x.wid)) = true
      · have HTO := Lib.hid (show ∀ j, j < k + 1 → nodeB ns j = true from fun j hj => by
         rcases Nat.lt_or_ge j k with g | g
         · exact hto.out j g
         · obtain rfl : j = k := by omega
           rw [HNB.out, hr]
           simp only [Bool.and_eq_true, beq_iff_eq] at he
           rw [he.1, he.2]
           exact decide_eq_true rfl)
        clear hto hr
        go_wp2
        go_region_held3 (fun w' => w'.cell? ⟨g0, 0, none⟩ = some (.slice (some ⟨g, o, none⟩) n c) ∧ w'.cell? ⟨g, o + k * 9, none⟩ = some (.int .i64 x.kind) ∧ w'.cell? ⟨g, o + k * 9 + 1, none⟩ = some (.int .i64 x.a) ∧ w'.cell? ⟨g, o + k * 9 + 2, none⟩ = some (.int .i64 x.b) ∧ w'.cell? ⟨g, o + k * 9 + 3, none⟩ = some (.int .i64 x.c) ∧ w'.cell? ⟨g, o + k * 9 + 4, none⟩ = some (.int .i64 x.n) ∧ w'.cell? ⟨g, o + k * 9 + 5, none⟩ = some (.int .i64 x.m) ∧ w'.cell? ⟨g, o + k * 9 + 6, none⟩ = some (.int .i64 x.idx) ∧ w'.cell? ⟨g, o + k * 9 + 7, none⟩ = some (.int .i64 x.wid) ∧ w'.cell? ⟨g, o + k * 9 + 8, none⟩ = some (.string x.name)) ((refine HQL.out _ ?_; repeat (first | exact ⟨_, rfl⟩ | refine LaterC.drew' ?_ | refine LaterC.alloc' ?_ _ | exact LaterC.setCell' (LaterC.alloc' ⟨_, rfl⟩ _) _ _ (Later.size _) | refine LaterC.setCell' ?_ _ _ (by first | exact Later.size _ | (simp; exact Later.size _))))) (first | (go_at_call 56; refine (NodeSort_calls _ (ns.take k) x _ (HSL.out.below (below_of HB.out (by repeat (first | exact ⟨_, rfl⟩ | refine LaterC.drew' ?_ | refine LaterC.alloc' ?_ _ | exact LaterC.setCell' (LaterC.alloc' ⟨_, rfl⟩ _) _ _ (Later.size _) | refine LaterC.setCell' ?_ _ _ (by first | exact Later.size _ | (simp; exact Later.size _)))))) HSZ.out).mono ?_; rintro e w' ⟨rfl, hbel⟩; rw [HV.out]; have bx0 := keepcell hbel (a := ⟨u.val.heap.size, 0, none⟩) (v := .int .i64 0); have bx1 := keepcell hbel (a := ⟨u.val.heap.size, 1, none⟩) (v := .int .i64 0); have bf0 := keepfrozen hbel (a := ⟨u.val.heap.size, 0, none⟩) (v := .int .i64 0); have bf1 := keepfrozen hbel (a := ⟨u.val.heap.size, 1, none⟩) (v := .int .i64 0); obtain ⟨u2, hu2⟩ := laterC_step (w1 := w1) (by repeat (first | exact ⟨_, rfl⟩ | refine LaterC.drew' ?_ | refine LaterC.alloc' ?_ _ | exact LaterC.setCell' (LaterC.alloc' ⟨_, rfl⟩ _) _ _ (Later.size _) | refine LaterC.setCell' ?_ _ _ (by first | exact Later.size _ | (simp; exact Later.size _)))) hbel; subst hu2; clear hbel))
        · have e0 : (u2.val.alloc (Obj.cells #[.int .i64 pi, .int .i64 pa] 60)).cell? ⟨u2.val.heap.size, 0, none⟩ = some (.int .i64 pi) := by go_simp
          have e1 : (u2.val.alloc (Obj.cells #[.int .i64 pi, .int .i64 pa] 60)).cell? ⟨u2.val.heap.size, 1, none⟩ = some (.int .i64 pa) := by go_simp
          have hL : LaterC w1 (u2.val.alloc (Obj.cells #[.int .i64 pi, .int .i64 pa] 60)) := by repeat (first | exact ⟨_, rfl⟩ | refine LaterC.drew' ?_ | refine LaterC.alloc' ?_ _ | exact LaterC.setCell' (LaterC.alloc' ⟨_, rfl⟩ _) _ _ (Later.size _) | refine LaterC.setCell' ?_ _ _ (by first | exact Later.size _ | (simp; exact Later.size _)))
          try clear bx0 bx1 bf0 bf1
          generalize (u2.val.alloc (Obj.cells #[.int .i64 pi, .int .i64 pa] 60)) = w4 at *
          generalize u2.val.heap.size = G at *
          have HL := Lib.hid hL
          have n0 := Later.re m0 hL
          have n6 := Later.re q6 hL
          have n7 := Later.re q7 hL
          have e0 := Later.cell e0
          have e1 := Later.cell e1
          clear m0 q0 q1 q2 q3 q4 q5 q6 q7 q8 hL
          refine at_world (w := w4) ?_
          intro u3
          go_wp2
          refine wp_region_later (w0 := w4) (by kernel_rfl) (by kernel_rfl) ⟨u3, rfl⟩ ?_
          repeat (go_big_quiet_step (fail))
          refine wpQuiet_nil ?_
          rintro _ ⟨u5, rfl⟩
          go_wp2
          go_roundw
          case rel => exact ⟨k + 1, by omega, by go_num, HTO, HL.out.trans ⟨u5, rfl⟩⟩
          case measure => simp [intOf] <;> omega
        · have e0 : ((u2.val.setCell ⟨u.val.heap.size, 0, none⟩ (.int .i64 pi)).setCell ⟨u.val.heap.size, 1, none⟩ (.int .i64 pa)).cell? ⟨u.val.heap.size, 0, none⟩ = some (.int .i64 pi) := (World.cell?_setCell_other _ _ _ _ (by intro e; simp only [Addr.mk.injEq] at e; omega)).trans (World.cell?_setCell_same _ _ _ (bx0 (by go_simp)))
          have e1 : ((u2.val.setCell ⟨u.val.heap.size, 0, none⟩ (.int .i64 pi)).setCell ⟨u.val.heap.size, 1, none⟩ (.int .i64 pa)).cell? ⟨u.val.heap.size, 1, none⟩ = some (.int .i64 pa) := World.cell?_setCell_same _ _ _ ((World.cell?_setCell_other _ _ _ _ (by intro e; simp only [Addr.mk.injEq] at e; omega)).trans (bx1 (by go_simp)))
          have hL : LaterC w1 ((u2.val.setCell ⟨u.val.heap.size, 0, none⟩ (.int .i64 pi)).setCell ⟨u.val.heap.size, 1, none⟩ (.int .i64 pa)) := by repeat (first | exact ⟨_, rfl⟩ | refine LaterC.drew' ?_ | refine LaterC.alloc' ?_ _ | exact LaterC.setCell' (LaterC.alloc' ⟨_, rfl⟩ _) _ _ (Later.size _) | refine LaterC.setCell' ?_ _ _ (by first | exact Later.size _ | (simp; exact Later.size _)))
          try clear bx0 bx1 bf0 bf1
          generalize ((u2.val.setCell ⟨u.val.heap.size, 0, none⟩ (.int .i64 pi)).setCell ⟨u.val.heap.size, 1, none⟩ (.int .i64 pa)) = w4 at *
          generalize u.val.heap.size = G at *
          have HL := Lib.hid hL
          have n0 := Later.re m0 hL
          have n6 := Later.re q6 hL
          have n7 := Later.re q7 hL
          have e0 := Later.cell e0
          have e1 := Later.cell e1
          clear m0 q0 q1 q2 q3 q4 q5 q6 q7 q8 hL
          refine at_world (w := w4) ?_
          intro u3
          go_wp2
          refine wp_region_later (w0 := w4) (by kernel_rfl) (by kernel_rfl) ⟨u3, rfl⟩ ?_
          repeat (go_big_quiet_step (fail))
          refine wpQuiet_nil ?_
          rintro _ ⟨u5, rfl⟩
          go_wp2
          go_roundw
          case rel => exact ⟨k + 1, by omega, by go_num, HTO, HL.out.trans ⟨u5, rfl⟩⟩
          case measure => simp [intOf] <;> omega
      · have he := eq_false_of_ne_true he
        have HR := Lib.hid (HNO.out k hlt (by
         rw [HNB.out, hr]
         refine decide_eq_false (fun h => ?_)
         cases h
         simp at he))
        clear hto hr
        go_wp2
        go_region_held3 (fun w' => w'.cell? ⟨g0, 0, none⟩ = some (.slice (some ⟨g, o, none⟩) n c) ∧ w'.cell? ⟨g, o + k * 9, none⟩ = some (.int .i64 x.kind) ∧ w'.cell? ⟨g, o + k * 9 + 1, none⟩ = some (.int .i64 x.a) ∧ w'.cell? ⟨g, o + k * 9 + 2, none⟩ = some (.int .i64 x.b) ∧ w'.cell? ⟨g, o + k * 9 + 3, none⟩ = some (.int .i64 x.c) ∧ w'.cell? ⟨g, o + k * 9 + 4, none⟩ = some (.int .i64 x.n) ∧ w'.cell? ⟨g, o + k * 9 + 5, none⟩ = some (.int .i64 x.m) ∧ w'.cell? ⟨g, o + k * 9 + 6, none⟩ = some (.int .i64 x.idx) ∧ w'.cell? ⟨g, o + k * 9 + 7, none⟩ = some (.int .i64 x.wid) ∧ w'.cell? ⟨g, o + k * 9 + 8, none⟩ = some (.string x.name)) ((refine HQL.out _ ?_; repeat (first | exact ⟨_, rfl⟩ | refine LaterC.drew' ?_ | refine LaterC.alloc' ?_ _ | exact LaterC.setCell' (LaterC.alloc' ⟨_, rfl⟩ _) _ _ (Later.size _) | refine LaterC.setCell' ?_ _ _ (by first | exact Later.size _ | (simp; exact Later.size _))))) (first | (go_at_call 56; refine (NodeSort_calls _ (ns.take k) x _ (HSL.out.below (below_of HB.out (by repeat (first | exact ⟨_, rfl⟩ | refine LaterC.drew' ?_ | refine LaterC.alloc' ?_ _ | exact LaterC.setCell' (LaterC.alloc' ⟨_, rfl⟩ _) _ _ (Later.size _) | refine LaterC.setCell' ?_ _ _ (by first | exact Later.size _ | (simp; exact Later.size _)))))) HSZ.out).mono ?_; rintro e w' ⟨rfl, hbel⟩; rw [HV.out]; have bx0 := keepcell hbel (a := ⟨u.val.heap.size, 0, none⟩) (v := .int .i64 0); have bx1 := keepcell hbel (a := ⟨u.val.heap.size, 1, none⟩) (v := .int .i64 0); have bf0 := keepfrozen hbel (a := ⟨u.val.heap.size, 0, none⟩) (v := .int .i64 0); have bf1 := keepfrozen hbel (a := ⟨u.val.heap.size, 1, none⟩) (v := .int .i64 0); obtain ⟨u2, hu2⟩ := laterC_step (w1 := w1) (by repeat (first | exact ⟨_, rfl⟩ | refine LaterC.drew' ?_ | refine LaterC.alloc' ?_ _ | exact LaterC.setCell' (LaterC.alloc' ⟨_, rfl⟩ _) _ _ (Later.size _) | refine LaterC.setCell' ?_ _ _ (by first | exact Later.size _ | (simp; exact Later.size _)))) hbel; subst hu2; clear hbel))
        · have e0 : (u2.val.alloc (Obj.cells #[.int .i64 pi, .int .i64 pa] 60)).cell? ⟨u2.val.heap.size, 0, none⟩ = some (.int .i64 pi) := by go_simp
          have e1 : (u2.val.alloc (Obj.cells #[.int .i64 pi, .int .i64 pa] 60)).cell? ⟨u2.val.heap.size, 1, none⟩ = some (.int .i64 pa) := by go_simp
          have hL : LaterC w1 (u2.val.alloc (Obj.cells #[.int .i64 pi, .int .i64 pa] 60)) := by repeat (first | exact ⟨_, rfl⟩ | refine LaterC.drew' ?_ | refine LaterC.alloc' ?_ _ | exact LaterC.setCell' (LaterC.alloc' ⟨_, rfl⟩ _) _ _ (Later.size _) | refine LaterC.setCell' ?_ _ _ (by first | exact Later.size _ | (simp; exact Later.size _)))
          try clear bx0 bx1 bf0 bf1
          generalize (u2.val.alloc (Obj.cells #[.int .i64 pi, .int .i64 pa] 60)) = w4 at *
          generalize u2.val.heap.size = G at *
          have HL := Lib.hid hL
          have n0 := Later.re m0 hL
          have n6 := Later.re q6 hL
          have n7 := Later.re q7 hL
          have e0 := Later.cell e0
          have e1 := Later.cell e1
          clear m0 q0 q1 q2 q3 q4 q5 q6 q7 q8 hL
          refine at_world (w := w4) ?_
          intro u3
          go_wp2
          refine wp_region_later (w0 := w4) (by kernel_rfl) (by kernel_rfl) ⟨u3, rfl⟩ ?_
          repeat (go_big_quiet_step (fail))
          refine wpQuiet_nil ?_
          rintro _ ⟨u5, rfl⟩
          go_wp2
          go_ret
          exact ⟨ret_eq (congrArg Value.bool HR.out.symm), HB.out.trans ((HL.out.trans ⟨u5, rfl⟩).below.mono HB.out.size)⟩
        · have e0 : ((u2.val.setCell ⟨u.val.heap.size, 0, none⟩ (.int .i64 pi)).setCell ⟨u.val.heap.size, 1, none⟩ (.int .i64 pa)).cell? ⟨u.val.heap.size, 0, none⟩ = some (.int .i64 pi) := (World.cell?_setCell_other _ _ _ _ (by intro e; simp only [Addr.mk.injEq] at e; omega)).trans (World.cell?_setCell_same _ _ _ (bx0 (by go_simp)))
          have e1 : ((u2.val.setCell ⟨u.val.heap.size, 0, none⟩ (.int .i64 pi)).setCell ⟨u.val.heap.size, 1, none⟩ (.int .i64 pa)).cell? ⟨u.val.heap.size, 1, none⟩ = some (.int .i64 pa) := World.cell?_setCell_same _ _ _ ((World.cell?_setCell_other _ _ _ _ (by intro e; simp only [Addr.mk.injEq] at e; omega)).trans (bx1 (by go_simp)))
          have hL : LaterC w1 ((u2.val.setCell ⟨u.val.heap.size, 0, none⟩ (.int .i64 pi)).setCell ⟨u.val.heap.size, 1, none⟩ (.int .i64 pa)) := by repeat (first | exact ⟨_, rfl⟩ | refine LaterC.drew' ?_ | refine LaterC.alloc' ?_ _ | exact LaterC.setCell' (LaterC.alloc' ⟨_, rfl⟩ _) _ _ (Later.size _) | refine LaterC.setCell' ?_ _ _ (by first | exact Later.size _ | (simp; exact Later.size _)))
          try clear bx0 bx1 bf0 bf1
          generalize ((u2.val.setCell ⟨u.val.heap.size, 0, none⟩ (.int .i64 pi)).setCell ⟨u.val.heap.size, 1, none⟩ (.int .i64 pa)) = w4 at *
          generalize u.val.heap.size = G at *
          have HL := Lib.hid hL
          have n0 := Later.re m0 hL
          have n6 := Later.re q6 hL
          have n7 := Later.re q7 hL
          have e0 := Later.cell e0
          have e1 := Later.cell e1
          clear m0 q0 q1 q2 q3 q4 q5 q6 q7 q8 hL
          refine at_world (w := w4) ?_
          intro u3
          go_wp2
          refine wp_region_later (w0 := w4) (by kernel_rfl) (by kernel_rfl) ⟨u3, rfl⟩ ?_
          repeat (go_big_quiet_step (fail))
          refine wpQuiet_nil ?_
          rintro _ ⟨u5, rfl⟩
          go_wp2
          go_ret
          exact ⟨ret_eq (congrArg Value.bool HR.out.symm), HB.out.trans ((HL.out.trans ⟨u5, rfl⟩).below.mono HB.out.size)⟩
  · obtain rfl : k = n := by omega
    have HR := Lib.hid (HYES.out hto.out)
    clear hto hA
    go_wp2
    go_ret
    exact ⟨ret_eq (congrArg Value.bool HR.out.symm), u.back HB.out⟩
end Go.Proofs.YthejgnabgglmhaaGreat
namespace Go.Proofs.YthejgnabgglmhaaGreat
open Go.RowKit
def bigB (M : Md) : Bool := decide (60 < M.nodes.length) || (decide (60 < M.inits.length) || (decide (60 < M.nexts.length) || (decide (4 < M.bads.length) || decide (4 < M.holds.length))))
noncomputable def codeN (M : Md) : Int :=
 if bigB M = true then 1
 else if nodesB M.nodes = false then 2
 else if twiceB M = true then 3
 else if bindsB M = false then 4
 else if propsB M.nodes M.bads = false then 5
 else if propsB M.nodes M.holds = false then 5
 else if 8 < allN 36 M.nodes then 6
 else if 5 < allN 35 M.nodes then 6
 else 0
theorem nodes_down {ns : List Nd} (h : nodesB ns = true) : Down ns ns.length := by
 intro i hi m hm hk
 unfold nodesB at h
 rw [List.all_eq_true] at h
 have h1 := h i (List.mem_range.2 hi)
 unfold nodeB at h1
 have h2 := of_decide_eq_true h1
 by_cases hf : fieldsB (ns.take i).length (ns.getD i Nd.zero) = true
 · have := fields_part_in hf hm hk
   rw [List.length_take] at this
   omega
 · rw [sortN_bad (eq_false_of_ne_true hf)] at h2
   cases h2
theorem ModelCode_calls (mv : Value) (M : Md) (w : World) (hM : MdAt w mv M) (hnm : ∀ x, x ∈ M.nodes → x.name.size ≤ 140737488351232) :
 Makes Tryz.prog 16 #[mv] w (.int .i64 (codeN M)) := by
 have HM := Lib.hid hM
 have HNM := Lib.hid hnm
 obtain ⟨s0, s1, s2, s3, s4, rfl, h0, h1, h2, h3, h4⟩ := hM.at_
 have HS3 := Lib.hid h3
 have HS4 := Lib.hid h4
 obtain ⟨A0, c0, rfl, hl0, hc0, -⟩ := h0
 obtain ⟨A1, c1, rfl, hl1, hc1, -⟩ := h1
 obtain ⟨A2, c2, rfl, hl2, hc2, -⟩ := h2
 obtain ⟨A3, c3, rfl, hl3, hc3, -⟩ := h3
 obtain ⟨A4, c4, rfl, hl4, hc4, -⟩ := h4
 clear hM hnm
 have hbig : bigB M = (decide (60 < M.nodes.length) || (decide (60 < M.inits.length) || (decide (60 < M.nexts.length) || (decide (4 < M.bads.length) || decide (4 < M.holds.length))))) := rfl
 generalize hn0 : M.nodes.length = n0 at *
 generalize hn1 : M.inits.length = n1 at *
 generalize hn2 : M.nexts.length = n2 at *
 generalize hn3 : M.bads.length = n3 at *
 generalize hn4 : M.holds.length = n4 at *
 have HN0 := Lib.hid hn0
 clear hn0 hn1 hn2 hn3 hn4
 obtain ⟨R, hR⟩ : ∃ R, R = codeN M := ⟨_, rfl⟩
 rw [← hR]
 unfold codeN at hR
 have HR0 := Lib.hid hR
 clear hR
 have HBIG := Lib.hid hbig
 clear hbig
 go_enter Tryz.func16, Tryz.ntmps16
 have HB := Lib.hid (box_below w #[.slice A0 n0 c0, .slice A1 n1 c1, .slice A2 n2 c2, .slice A3 n3 c3, .slice A4 n4 c4] 32)
 have m := fun f v h => box_cell w #[.slice A0 n0 c0, .slice A1 n1 c1, .slice A2 n2 c2, .slice A3 n3 c3, .slice A4 n4 c4] 32 f v h
 have m0 := m 0 _ rfl
 have m1 := m 1 _ rfl
 have m2 := m 2 _ rfl
 have m3 := m 3 _ rfl
 have m4 := m 4 _ rfl
 clear m
 go_upto_region 1 with fail
 generalize w.alloc (.cells #[.slice A0 n0 c0, .slice A1 n1 c1, .slice A2 n2 c2, .slice A3 n3 c3, .slice A4 n4 c4] 32) = w1 at *
 have m0 : ∀ u : Later w1, u.val.cell? ⟨w.heap.size, 0, none⟩ = some (.slice A0 n0 c0) := m0
 have m1 : ∀ u : Later w1, u.val.cell? ⟨w.heap.size, 1, none⟩ = some (.slice A1 n1 c1) := m1
 have m2 : ∀ u : Later w1, u.val.cell? ⟨w.heap.size, 2, none⟩ = some (.slice A2 n2 c2) := m2
 have m3 : ∀ u : Later w1, u.val.cell? ⟨w.heap.size, 3, none⟩ = some (.slice A3 n3 c3) := m3
 have m4 : ∀ u : Later w1, u.val.cell? ⟨w.heap.size, 4, none⟩ = some (.slice A4 n4 c4) := m4
 have HS3 := Lib.hid (HS3.out.below HB.out)
 have HS4 := Lib.hid (HS4.out.below HB.out)
 have HM1 := Lib.hid (HM.out.below HB.out)
 generalize w.heap.size = g0 at m0 m1 m2 m3 m4 ⊢
 refine at_world (w := w1) ?_
 intro u0
 go_cut [3] (fun c wx => c = .bool (bigB M) ∧ wx = u0.val)
 case first =>
  by_cases h0 : 60 < n0
  · have HW := Lib.hid (show bigB M = true by rw [HBIG.out]; simp [h0])
    have h0' : (60 : Int) < n0 := by omega
    go_wp2
    go_meet
    case rel => exact ⟨congrArg Value.bool HW.out.symm, rfl⟩
  · have h0' : ¬ (60 : Int) < n0 := by omega
    by_cases h1 : 60 < n1
    · have HW := Lib.hid (show bigB M = true by rw [HBIG.out]; simp [h0, h1])
      have h1' : (60 : Int) < n1 := by omega
      go_wp2
      go_meet
      case rel => exact ⟨congrArg Value.bool HW.out.symm, rfl⟩
    · have h1' : ¬ (60 : Int) < n1 := by omega
      by_cases h2 : 60 < n2
      · have HW := Lib.hid (show bigB M = true by rw [HBIG.out]; simp [h0, h1, h2])
        have h2' : (60 : Int) < n2 := by omega
        go_wp2
        go_meet
        case rel => exact ⟨congrArg Value.bool HW.out.symm, rfl⟩
      · have h2' : ¬ (60 : Int) < n2 := by omega
        by_cases h3 : 4 < n3
        · have HW := Lib.hid (show bigB M = true by rw [HBIG.out]; simp [h0, h1, h2, h3])
          have h3' : (4 : Int) < n3 := by omega
          go_wp2
          go_meet
          case rel => exact ⟨congrArg Value.bool HW.out.symm, rfl⟩
        · have h3' : ¬ (4 : Int) < n3 := by omega
          by_cases h4 : 4 < n4
          · have HW := Lib.hid (show bigB M = true by rw [HBIG.out]; simp [h0, h1, h2, h3, h4])
            have h4' : (4 : Int) < n4 := by omega
            go_wp2
            go_meet
            case rel => exact ⟨congrArg Value.bool HW.out.symm, rfl⟩
          · have h4' : ¬ (4 : Int) < n4 := by omega
            have HW := Lib.hid (show bigB M = false by rw [HBIG.out]; simp [h0, h1, h2, h3, h4])
            go_wp2
            go_meet
            case rel => exact ⟨congrArg Value.bool HW.out.symm, rfl⟩
 case rest =>
  obtain ⟨rfl, rfl⟩ := hcut
  clear HBIG
  cases hbig : bigB M with
  | true =>
    have HR := Lib.hid (HR0.out.trans (if_pos hbig))
    clear hbig
    go_wp2
    go_ret
    exact ⟨ret_eq (congrArg (Value.int .i64) HR.out.symm), HB.out.trans (u0.prop.mono HB.out.size)⟩
  | false =>
    have HR1 := Lib.hid (HR0.out.trans (if_neg (by rw [hbig]; exact Bool.noConfusion)))
    clear hbig
    by_cases h0 : nodesB M.nodes = false
    · have HR := Lib.hid (HR1.out.trans (if_pos h0))
      have HNODES := Lib.hid h0
      clear h0
      go_wp2_with (first | (go_at_call 28; refine (Calls.later (u := u0) (l2Nodes_calls _ M _ (HM1.out.later _) HNM.out)).mono ?_; rintro e w' ⟨rfl, u1, rfl⟩; rw [HNODES.out]))
      go_ret
      exact ⟨ret_eq (congrArg (Value.int .i64) HR.out.symm), HB.out.trans (u1.prop.mono HB.out.size)⟩
    · have HR2 := Lib.hid (HR1.out.trans (if_neg h0))
      have HNODES := Lib.hid (eq_true_of_ne_false h0)
      have HD := Lib.hid (nodes_down HNODES.out)
      clear h0
      by_cases h1 : twiceB M = true
      · have HR := Lib.hid (HR2.out.trans (if_pos h1))
        have HTWICE := Lib.hid h1
        clear h1
        go_wp2_with (first | (go_at_call 28; refine (Calls.later (u := u0) (l2Nodes_calls _ M _ (HM1.out.later _) HNM.out)).mono ?_; rintro e w' ⟨rfl, u1, rfl⟩; rw [HNODES.out]) | (go_at_call 29; refine (Calls.later (u := u1) (l2Twice_calls _ M _ (HM1.out.later _))).mono ?_; rintro e w' ⟨rfl, u2, rfl⟩; rw [HTWICE.out]))
        go_ret
        exact ⟨ret_eq (congrArg (Value.int .i64) HR.out.symm), HB.out.trans (u2.prop.mono HB.out.size)⟩
      · have HR3 := Lib.hid (HR2.out.trans (if_neg h1))
        have HTWICE := Lib.hid (eq_false_of_ne_true h1)
        clear h1
        by_cases h2 : bindsB M = false
        · have HR := Lib.hid (HR3.out.trans (if_pos h2))
          have HBINDS := Lib.hid h2
          clear h2
          go_wp2_with (first | (go_at_call 28; refine (Calls.later (u := u0) (l2Nodes_calls _ M _ (HM1.out.later _) HNM.out)).mono ?_; rintro e w' ⟨rfl, u1, rfl⟩; rw [HNODES.out]) | (go_at_call 29; refine (Calls.later (u := u1) (l2Twice_calls _ M _ (HM1.out.later _))).mono ?_; rintro e w' ⟨rfl, u2, rfl⟩; rw [HTWICE.out]) | (go_at_call 30; refine (Calls.later (u := u2) (l2Binds_calls _ M _ (HM1.out.later _) HD.out)).mono ?_; rintro e w' ⟨rfl, u3, rfl⟩; rw [HBINDS.out]))
          go_ret
          exact ⟨ret_eq (congrArg (Value.int .i64) HR.out.symm), HB.out.trans (u3.prop.mono HB.out.size)⟩
        · have HR4 := Lib.hid (HR3.out.trans (if_neg h2))
          have HBINDS := Lib.hid (eq_true_of_ne_false h2)
          clear h2
          by_cases h3 : propsB M.nodes M.bads = false
          · have HR := Lib.hid (HR4.out.trans (if_pos h3))
            have HP1 := Lib.hid h3
            clear h3
            go_wp2_with (first | (go_at_call 28; refine (Calls.later (u := u0) (l2Nodes_calls _ M _ (HM1.out.later _) HNM.out)).mono ?_; rintro e w' ⟨rfl, u1, rfl⟩; rw [HNODES.out]) | (go_at_call 29; refine (Calls.later (u := u1) (l2Twice_calls _ M _ (HM1.out.later _))).mono ?_; rintro e w' ⟨rfl, u2, rfl⟩; rw [HTWICE.out]) | (go_at_call 30; refine (Calls.later (u := u2) (l2Binds_calls _ M _ (HM1.out.later _) HD.out)).mono ?_; rintro e w' ⟨rfl, u3, rfl⟩; rw [HBINDS.out]) | (go_at_call 31; with_reducible refine (Calls.later (u := u3) (l2Props_calls _ (.slice A3 n3 c3) M M.bads _ (HM1.out.later _) (HS3.out.later _))).mono ?_; rintro e w' ⟨rfl, u4, rfl⟩; rw [HP1.out]))
            go_ret
            exact ⟨ret_eq (congrArg (Value.int .i64) HR.out.symm), HB.out.trans (u4.prop.mono HB.out.size)⟩
          · have HR5 := Lib.hid (HR4.out.trans (if_neg h3))
            have HP1 := Lib.hid (eq_true_of_ne_false h3)
            clear h3
            by_cases h4 : propsB M.nodes M.holds = false
            · have HR := Lib.hid (HR5.out.trans (if_pos h4))
              have HP2 := Lib.hid h4
              clear h4
              go_wp2_with (first | (go_at_call 28; refine (Calls.later (u := u0) (l2Nodes_calls _ M _ (HM1.out.later _) HNM.out)).mono ?_; rintro e w' ⟨rfl, u1, rfl⟩; rw [HNODES.out]) | (go_at_call 29; refine (Calls.later (u := u1) (l2Twice_calls _ M _ (HM1.out.later _))).mono ?_; rintro e w' ⟨rfl, u2, rfl⟩; rw [HTWICE.out]) | (go_at_call 30; refine (Calls.later (u := u2) (l2Binds_calls _ M _ (HM1.out.later _) HD.out)).mono ?_; rintro e w' ⟨rfl, u3, rfl⟩; rw [HBINDS.out]) | (go_at_call 31; with_reducible refine (Calls.later (u := u3) (l2Props_calls _ (.slice A3 n3 c3) M M.bads _ (HM1.out.later _) (HS3.out.later _))).mono ?_; rintro e w' ⟨rfl, u4, rfl⟩; rw [HP1.out]) | (go_at_call 31; with_reducible refine (Calls.later (u := u4) (l2Props_calls _ (.slice A4 n4 c4) M M.holds _ (HM1.out.later _) (HS4.out.later _))).mono ?_; rintro e w' ⟨rfl, u5, rfl⟩; rw [HP2.out]))
              go_ret
              exact ⟨ret_eq (congrArg (Value.int .i64) HR.out.symm), HB.out.trans (u5.prop.mono HB.out.size)⟩
            · have HR6 := Lib.hid (HR5.out.trans (if_neg h4))
              have HP2 := Lib.hid (eq_true_of_ne_false h4)
              clear h4
              obtain ⟨x36, hx36⟩ : ∃ x, x = allN 36 M.nodes := ⟨_, rfl⟩
              obtain ⟨x35, hx35⟩ : ∃ x, x = allN 35 M.nodes := ⟨_, rfl⟩
              have HA1 := Lib.hid hx36.symm
              have HA2 := Lib.hid hx35.symm
              clear hx36 hx35
              rw [HA1.out, HA2.out] at HR6
              by_cases h8 : 8 < x36
              · have HR := Lib.hid (HR6.out.trans (if_pos h8))
                go_wp2_with (first | (go_at_call 28; refine (Calls.later (u := u0) (l2Nodes_calls _ M _ (HM1.out.later _) HNM.out)).mono ?_; rintro e w' ⟨rfl, u1, rfl⟩; rw [HNODES.out]) | (go_at_call 29; refine (Calls.later (u := u1) (l2Twice_calls _ M _ (HM1.out.later _))).mono ?_; rintro e w' ⟨rfl, u2, rfl⟩; rw [HTWICE.out]) | (go_at_call 30; refine (Calls.later (u := u2) (l2Binds_calls _ M _ (HM1.out.later _) HD.out)).mono ?_; rintro e w' ⟨rfl, u3, rfl⟩; rw [HBINDS.out]) | (go_at_call 31; with_reducible refine (Calls.later (u := u3) (l2Props_calls _ (.slice A3 n3 c3) M M.bads _ (HM1.out.later _) (HS3.out.later _))).mono ?_; rintro e w' ⟨rfl, u4, rfl⟩; rw [HP1.out]) | (go_at_call 31; with_reducible refine (Calls.later (u := u4) (l2Props_calls _ (.slice A4 n4 c4) M M.holds _ (HM1.out.later _) (HS4.out.later _))).mono ?_; rintro e w' ⟨rfl, u5, rfl⟩; rw [HP2.out]) | (go_at_call 32; with_reducible refine (Calls.later (u := u5) (l2All_calls _ M 36 _ (HM1.out.later _))).mono ?_; rintro e w' ⟨rfl, u6, rfl⟩; rw [HA1.out]))
                go_ret
                exact ⟨ret_eq (congrArg (Value.int .i64) HR.out.symm), HB.out.trans (u6.prop.mono HB.out.size)⟩
              · have HR7 := Lib.hid (HR6.out.trans (if_neg h8))
                by_cases h5 : 5 < x35
                · have HR := Lib.hid (HR7.out.trans (if_pos h5))
                  go_wp2_with (first | (go_at_call 28; refine (Calls.later (u := u0) (l2Nodes_calls _ M _ (HM1.out.later _) HNM.out)).mono ?_; rintro e w' ⟨rfl, u1, rfl⟩; rw [HNODES.out]) | (go_at_call 29; refine (Calls.later (u := u1) (l2Twice_calls _ M _ (HM1.out.later _))).mono ?_; rintro e w' ⟨rfl, u2, rfl⟩; rw [HTWICE.out]) | (go_at_call 30; refine (Calls.later (u := u2) (l2Binds_calls _ M _ (HM1.out.later _) HD.out)).mono ?_; rintro e w' ⟨rfl, u3, rfl⟩; rw [HBINDS.out]) | (go_at_call 31; with_reducible refine (Calls.later (u := u3) (l2Props_calls _ (.slice A3 n3 c3) M M.bads _ (HM1.out.later _) (HS3.out.later _))).mono ?_; rintro e w' ⟨rfl, u4, rfl⟩; rw [HP1.out]) | (go_at_call 31; with_reducible refine (Calls.later (u := u4) (l2Props_calls _ (.slice A4 n4 c4) M M.holds _ (HM1.out.later _) (HS4.out.later _))).mono ?_; rintro e w' ⟨rfl, u5, rfl⟩; rw [HP2.out]) | (go_at_call 32; with_reducible refine (Calls.later (u := u5) (l2All_calls _ M 36 _ (HM1.out.later _))).mono ?_; rintro e w' ⟨rfl, u6, rfl⟩; rw [HA1.out]) | (go_at_call 32; with_reducible refine (Calls.later (u := u6) (l2All_calls _ M 35 _ (HM1.out.later _))).mono ?_; rintro e w' ⟨rfl, u7, rfl⟩; rw [HA2.out]))
                  go_ret
                  exact ⟨ret_eq (congrArg (Value.int .i64) HR.out.symm), HB.out.trans (u7.prop.mono HB.out.size)⟩
                · have HR := Lib.hid (HR7.out.trans (if_neg h5))
                  go_wp2_with (first | (go_at_call 28; refine (Calls.later (u := u0) (l2Nodes_calls _ M _ (HM1.out.later _) HNM.out)).mono ?_; rintro e w' ⟨rfl, u1, rfl⟩; rw [HNODES.out]) | (go_at_call 29; refine (Calls.later (u := u1) (l2Twice_calls _ M _ (HM1.out.later _))).mono ?_; rintro e w' ⟨rfl, u2, rfl⟩; rw [HTWICE.out]) | (go_at_call 30; refine (Calls.later (u := u2) (l2Binds_calls _ M _ (HM1.out.later _) HD.out)).mono ?_; rintro e w' ⟨rfl, u3, rfl⟩; rw [HBINDS.out]) | (go_at_call 31; with_reducible refine (Calls.later (u := u3) (l2Props_calls _ (.slice A3 n3 c3) M M.bads _ (HM1.out.later _) (HS3.out.later _))).mono ?_; rintro e w' ⟨rfl, u4, rfl⟩; rw [HP1.out]) | (go_at_call 31; with_reducible refine (Calls.later (u := u4) (l2Props_calls _ (.slice A4 n4 c4) M M.holds _ (HM1.out.later _) (HS4.out.later _))).mono ?_; rintro e w' ⟨rfl, u5, rfl⟩; rw [HP2.out]) | (go_at_call 32; with_reducible refine (Calls.later (u := u5) (l2All_calls _ M 36 _ (HM1.out.later _))).mono ?_; rintro e w' ⟨rfl, u6, rfl⟩; rw [HA1.out]) | (go_at_call 32; with_reducible refine (Calls.later (u := u6) (l2All_calls _ M 35 _ (HM1.out.later _))).mono ?_; rintro e w' ⟨rfl, u7, rfl⟩; rw [HA2.out]))
                  go_ret
                  exact ⟨ret_eq (congrArg (Value.int .i64) HR.out.symm), HB.out.trans (u7.prop.mono HB.out.size)⟩
end Go.Proofs.YthejgnabgglmhaaGreat
