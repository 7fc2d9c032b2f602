import Derived.Test.YtdojaijnejcoiaaGreatmc0
import Derived.Deep.RegionHeld3
import Derived.Deep.Cut
import Derived.Deep.CutRange
import Derived.Deep.DeepCutAuto
set_option linter.unusedVariables false
set_option linter.unusedSimpArgs false
set_option maxRecDepth 8000
set_option maxHeartbeats 16000000
namespace Go.Proofs.YtdojaijnejcoiaaGreat
open Go.RowKit
theorem OwnB.keep {w : World} {g b i : Nat} {T : TypeId} {cs : Array Value} (h : OwnB w g T cs) (hne : b ≠ g) (u : Value) : OwnB (w.setCell ⟨b, i, none⟩ u) g T cs := by
 unfold OwnB at h ⊢
 simp [World.setCell, Array.getElem?_modify, h, hne]
theorem OwnB.alloc {w : World} {g : Nat} {T : TypeId} {cs : Array Value} (h : OwnB w g T cs) (o : Obj) : OwnB (w.alloc o) g T cs := (heap_alloc_old w o h.lt).trans h
theorem OwnB.new' (w : World) (T : TypeId) (cs : Array Value) (g : Nat) (hg : w.heap.size = g) : OwnB (w.alloc (.cells cs T)) g T cs := hg ▸ OwnB.new w T cs
abbrev slOf {α : Type} (g : Nat) (xs : List α) : Value := .slice (some ⟨g, 0, none⟩) xs.length xs.length
def FreshG {α : Type} (E : En α) (T : TypeId) (w0 w : World) (g : Nat) (xs : List α) : Prop :=
 ∃ cs, w0.heap.size ≤ g ∧ OwnB w g T cs ∧ cs.size = xs.length * E.sz ∧ Filled E xs xs.length cs
theorem Fresh.at_ {α : Type} {E : En α} {T : TypeId} {w0 w : World} {v : Value} {xs : List α} (h : Fresh E T w0 w v xs) : ∃ g, v = slOf g xs ∧ FreshG E T w0 w g xs := by
 obtain ⟨g, cs, hv, r⟩ := h
 exact ⟨g, hv, cs, r⟩
theorem FreshG.lt {α : Type} {E : En α} {T : TypeId} {w0 w : World} {g : Nat} {xs : List α} (h : FreshG E T w0 w g xs) : g < w.heap.size := by
 obtain ⟨cs, hg, ho, -⟩ := h
 exact ho.lt
theorem FreshG.ge {α : Type} {E : En α} {T : TypeId} {w0 w : World} {g : Nat} {xs : List α} (h : FreshG E T w0 w g xs) : w0.heap.size ≤ g := by
 obtain ⟨cs, hg, -⟩ := h
 exact hg
theorem FreshG.below {α : Type} {E : En α} {T : TypeId} {w0 w w' : World} {g : Nat} {xs : List α} (h : FreshG E T w0 w g xs) (hb : Below w.heap.size w w') : FreshG E T w0 w' g xs := by
 obtain ⟨cs, hg, ho, hs, hf⟩ := h
 exact ⟨cs, hg, ho.below hb ho.lt, hs, hf⟩
theorem FreshG.keep {α : Type} {E : En α} {T : TypeId} {w0 w : World} {g : Nat} {xs : List α} (h : FreshG E T w0 w g xs) {b i : Nat} (hb : b < w0.heap.size) (u : Value) : FreshG E T w0 (w.setCell ⟨b, i, none⟩ u) g xs := by
 obtain ⟨cs, hg, ho, hs, hf⟩ := h
 exact ⟨cs, hg, ho.keep (by omega) u, hs, hf⟩
theorem FreshG.mono {α : Type} {E : En α} {T : TypeId} {w0 w1 w : World} {g : Nat} {xs : List α} (h : FreshG E T w1 w g xs) (hl : w0.heap.size ≤ w1.heap.size) : FreshG E T w0 w g xs := by
 obtain ⟨cs, hg, r⟩ := h
 exact ⟨cs, Nat.le_trans hl hg, r⟩
theorem FreshG.slAt {α : Type} {E : En α} {T : TypeId} {w0 w : World} {g : Nat} {xs : List α} (h : FreshG E T w0 w g xs) (hl : xs.length ≤ 281474976710656) : SlAt E w (slOf g xs) xs := by
 obtain ⟨cs, hg, ho, hs, hf⟩ := h
 exact ⟨_, _, rfl, Nat.le_refl _, hl, fun i x hx => ⟨g, 0, rfl, fun f u hu => by
  rw [ho.cell, Nat.zero_add]
  exact hf i x (List.getElem?_eq_some_iff.1 hx).1 hx f u hu⟩⟩
theorem toModel_calls (mv : Value) (M : Md) (w : World) (hM : MdAt w mv M) (h0 : M.nodes.length ≤ 1048576) (h1 : M.inits.length ≤ 1048576) (h2 : M.nexts.length ≤ 1048576) (h3 : M.bads.length ≤ 1048576) (h4 : M.holds.length ≤ 1048576) :
 Calls Tryz.prog 6 #[mv] w fun e w' => ∃ g0 g1 g2 g3 g4, e = .returned (.agg #[slOf g0 M.nodes, slOf g1 M.inits, slOf g2 M.nexts, slOf g3 M.bads, slOf g4 M.holds]) ∧ Below w.heap.size w w' ∧ g0 < g1 ∧ g1 < g2 ∧ g2 < g3 ∧ g3 < g4 ∧ FreshG enNd 46 w w' g0 M.nodes ∧ FreshG enBd 57 w w' g1 M.inits ∧ FreshG enBd 57 w w' g2 M.nexts ∧ FreshG enI 3 w w' g3 M.bads ∧ FreshG enI 3 w w' g4 M.holds := by
 obtain ⟨s0, s1, s2, s3, s4, rfl, S0, S1, S2, S3, S4⟩ := hM.at_
 clear hM
 have HS := Lib.hid (show _ ∧ _ ∧ _ ∧ _ ∧ _ from ⟨S0, S1, S2, S3, S4⟩)
 clear S0 S1 S2 S3 S4
 go_enter Tryz.func6, Tryz.ntmps6
 go_wp2_with fail
 have HA0 := Lib.hid (show OwnB (((w.alloc (Obj.cells #[s0, s1, s2, s3, s4] 26)).alloc (Obj.cells #[.slice none 0 0, .slice none 0 0, .slice none 0 0, .slice none 0 0, .slice none 0 0] 31)).alloc (Obj.cells #[.slice none 0 0, .slice none 0 0, .slice none 0 0, .slice none 0 0, .slice none 0 0] 31)) w.heap.size 26 #[s0, s1, s2, s3, s4] from ((OwnB.new w _ _).alloc _).alloc _)
 have HR0 := Lib.hid (show OwnB (((w.alloc (Obj.cells #[s0, s1, s2, s3, s4] 26)).alloc (Obj.cells #[.slice none 0 0, .slice none 0 0, .slice none 0 0, .slice none 0 0, .slice none 0 0] 31)).alloc (Obj.cells #[.slice none 0 0, .slice none 0 0, .slice none 0 0, .slice none 0 0, .slice none 0 0] 31)) (w.heap.size + 1) 31 #[.slice none 0 0, .slice none 0 0, .slice none 0 0, .slice none 0 0, .slice none 0 0] from (OwnB.new' _ _ _ _ (by simp)).alloc _)
 have HL0 := Lib.hid (show OwnB (((w.alloc (Obj.cells #[s0, s1, s2, s3, s4] 26)).alloc (Obj.cells #[.slice none 0 0, .slice none 0 0, .slice none 0 0, .slice none 0 0, .slice none 0 0] 31)).alloc (Obj.cells #[.slice none 0 0, .slice none 0 0, .slice none 0 0, .slice none 0 0, .slice none 0 0] 31)) (w.heap.size + 1 + 1) 31 #[.slice none 0 0, .slice none 0 0, .slice none 0 0, .slice none 0 0, .slice none 0 0] from OwnB.new' _ _ _ _ (by simp))
 have HB0 := Lib.hid (show Below w.heap.size w (((w.alloc (Obj.cells #[s0, s1, s2, s3, s4] 26)).alloc (Obj.cells #[.slice none 0 0, .slice none 0 0, .slice none 0 0, .slice none 0 0, .slice none 0 0] 31)).alloc (Obj.cells #[.slice none 0 0, .slice none 0 0, .slice none 0 0, .slice none 0 0, .slice none 0 0] 31)) by
  refine Below.alloc (Below.alloc (Below.alloc (Below.refl _ _) (Nat.le_refl _) _) ?_ _) ?_ _ <;> first | (simp; done) | (simp; omega))
 generalize ((w.alloc (Obj.cells #[s0, s1, s2, s3, s4] 26)).alloc (Obj.cells #[.slice none 0 0, .slice none 0 0, .slice none 0 0, .slice none 0 0, .slice none 0 0] 31)).alloc (Obj.cells #[.slice none 0 0, .slice none 0 0, .slice none 0 0, .slice none 0 0, .slice none 0 0] 31) = v0 at *
 refine (toNodeS_calls s0 M.nodes v0 (HS.out.1.below HB0.out) h0).mono ?_
 rintro e u0 ⟨t0, rfl, hb0, hfr0⟩
 obtain ⟨g0, rfl, hf0⟩ := hfr0.at_
 clear hfr0
 have HA0' := Lib.hid (HA0.out.below hb0 HA0.out.lt)
 have HR0' := Lib.hid (HR0.out.below hb0 HR0.out.lt)
 have HL0' := Lib.hid (HL0.out.below hb0 HL0.out.lt)
 have HB0' := Lib.hid (HB0.out.trans (hb0.mono HB0.out.size))
 have HZ0 := Lib.hid (show w.heap.size + 1 + 1 < v0.heap.size from HL0.out.lt)
 have HF0 := Lib.hid hf0
 clear hb0 hf0 HA0 HR0 HL0 HB0
 have q0 : u0.cell? ⟨w.heap.size + 1 + 1, 0, none⟩ = some (.slice none 0 0) := HL0'.out.cell 0
 have r0 : u0.frozen? ⟨w.heap.size + 1 + 1, 0, none⟩ = false := HL0'.out.frozen 0
 have a0 : u0.cell? ⟨w.heap.size, 1, none⟩ = some s1 := HA0'.out.cell 1
 go_wp2_with fail
 clear a0 q0 r0
 have HA1 := Lib.hid (HA0'.out.keep (b := w.heap.size + 1 + 1) (i := 0) (by omega) (slOf g0 M.nodes))
 have HR1 := Lib.hid (HR0'.out.keep (b := w.heap.size + 1 + 1) (i := 0) (by omega) (slOf g0 M.nodes))
 have HL1 := Lib.hid (HL0'.out.set 0 (slOf g0 M.nodes))
 have HB1 := Lib.hid (HB0'.out.setCell (p := ⟨w.heap.size + 1 + 1, 0, none⟩) (by show _ ≤ w.heap.size + 1 + 1; omega) (slOf g0 M.nodes))
 have HG0 := Lib.hid (HF0.out.keep (b := w.heap.size + 1 + 1) (i := 0) HZ0.out (slOf g0 M.nodes))
 clear HF0; rename Hid (FreshG _ _ _ (u0.setCell _ _) g0 _) => HF0
 clear HA0' HR0' HL0' HB0'
 have HF0L := Lib.hid (HF0.out.lt)
 generalize u0.setCell ⟨w.heap.size + 1 + 1, 0, none⟩ (slOf g0 M.nodes) = v1 at *
 refine (toBindS_calls s1 M.inits v1 (HS.out.2.1.below HB1.out) h1).mono ?_
 rintro e u1 ⟨t1, rfl, hb1, hfr1⟩
 obtain ⟨g1, rfl, hf1⟩ := hfr1.at_
 clear hfr1
 have HA1' := Lib.hid (HA1.out.below hb1 HA1.out.lt)
 have HR1' := Lib.hid (HR1.out.below hb1 HR1.out.lt)
 have HL1' := Lib.hid (HL1.out.below hb1 HL1.out.lt)
 have HB1' := Lib.hid (HB1.out.trans (hb1.mono HB1.out.size))
 have HZ1 := Lib.hid (show w.heap.size + 1 + 1 < v1.heap.size from HL1.out.lt)
 have HF0_1 := Lib.hid (HF0.out.below hb1)
 clear HF0; rename Hid (FreshG _ _ _ u1 g0 _) => HF0
 have HF1 := Lib.hid hf1
 clear hb1 hf1 HA1 HR1 HL1 HB1
 have q1 : u1.cell? ⟨w.heap.size + 1 + 1, 1, none⟩ = some (.slice none 0 0) := HL1'.out.cell 1
 have r1 : u1.frozen? ⟨w.heap.size + 1 + 1, 1, none⟩ = false := HL1'.out.frozen 1
 have a1 : u1.cell? ⟨w.heap.size, 2, none⟩ = some s2 := HA1'.out.cell 2
 go_wp2_with fail
 clear a1 q1 r1
 have HA2 := Lib.hid (HA1'.out.keep (b := w.heap.size + 1 + 1) (i := 1) (by omega) (slOf g1 M.inits))
 have HR2 := Lib.hid (HR1'.out.keep (b := w.heap.size + 1 + 1) (i := 1) (by omega) (slOf g1 M.inits))
 have HL2 := Lib.hid (HL1'.out.set 1 (slOf g1 M.inits))
 have HB2 := Lib.hid (HB1'.out.setCell (p := ⟨w.heap.size + 1 + 1, 1, none⟩) (by show _ ≤ w.heap.size + 1 + 1; omega) (slOf g1 M.inits))
 have HG0 := Lib.hid (HF0.out.keep (b := w.heap.size + 1 + 1) (i := 1) HZ0.out (slOf g1 M.inits))
 clear HF0; rename Hid (FreshG _ _ _ (u1.setCell _ _) g0 _) => HF0
 have HG1 := Lib.hid (HF1.out.keep (b := w.heap.size + 1 + 1) (i := 1) HZ1.out (slOf g1 M.inits))
 clear HF1; rename Hid (FreshG _ _ _ (u1.setCell _ _) g1 _) => HF1
 clear HA1' HR1' HL1' HB1'
 have HF1L := Lib.hid (HF1.out.lt)
 generalize u1.setCell ⟨w.heap.size + 1 + 1, 1, none⟩ (slOf g1 M.inits) = v2 at *
 refine (toBindS_calls s2 M.nexts v2 (HS.out.2.2.1.below HB2.out) h2).mono ?_
 rintro e u2 ⟨t2, rfl, hb2, hfr2⟩
 obtain ⟨g2, rfl, hf2⟩ := hfr2.at_
 clear hfr2
 have HA2' := Lib.hid (HA2.out.below hb2 HA2.out.lt)
 have HR2' := Lib.hid (HR2.out.below hb2 HR2.out.lt)
 have HL2' := Lib.hid (HL2.out.below hb2 HL2.out.lt)
 have HB2' := Lib.hid (HB2.out.trans (hb2.mono HB2.out.size))
 have HZ2 := Lib.hid (show w.heap.size + 1 + 1 < v2.heap.size from HL2.out.lt)
 have HF0_2 := Lib.hid (HF0.out.below hb2)
 clear HF0; rename Hid (FreshG _ _ _ u2 g0 _) => HF0
 have HF1_2 := Lib.hid (HF1.out.below hb2)
 clear HF1; rename Hid (FreshG _ _ _ u2 g1 _) => HF1
 have HF2 := Lib.hid hf2
 clear hb2 hf2 HA2 HR2 HL2 HB2
 have q2 : u2.cell? ⟨w.heap.size + 1 + 1, 2, none⟩ = some (.slice none 0 0) := HL2'.out.cell 2
 have r2 : u2.frozen? ⟨w.heap.size + 1 + 1, 2, none⟩ = false := HL2'.out.frozen 2
 have a2 : u2.cell? ⟨w.heap.size, 3, none⟩ = some s3 := HA2'.out.cell 3
 go_wp2_with fail
 clear a2 q2 r2
 have HA3 := Lib.hid (HA2'.out.keep (b := w.heap.size + 1 + 1) (i := 2) (by omega) (slOf g2 M.nexts))
 have HR3 := Lib.hid (HR2'.out.keep (b := w.heap.size + 1 + 1) (i := 2) (by omega) (slOf g2 M.nexts))
 have HL3 := Lib.hid (HL2'.out.set 2 (slOf g2 M.nexts))
 have HB3 := Lib.hid (HB2'.out.setCell (p := ⟨w.heap.size + 1 + 1, 2, none⟩) (by show _ ≤ w.heap.size + 1 + 1; omega) (slOf g2 M.nexts))
 have HG0 := Lib.hid (HF0.out.keep (b := w.heap.size + 1 + 1) (i := 2) HZ0.out (slOf g2 M.nexts))
 clear HF0; rename Hid (FreshG _ _ _ (u2.setCell _ _) g0 _) => HF0
 have HG1 := Lib.hid (HF1.out.keep (b := w.heap.size + 1 + 1) (i := 2) HZ1.out (slOf g2 M.nexts))
 clear HF1; rename Hid (FreshG _ _ _ (u2.setCell _ _) g1 _) => HF1
 have HG2 := Lib.hid (HF2.out.keep (b := w.heap.size + 1 + 1) (i := 2) HZ2.out (slOf g2 M.nexts))
 clear HF2; rename Hid (FreshG _ _ _ (u2.setCell _ _) g2 _) => HF2
 clear HA2' HR2' HL2' HB2'
 have HF2L := Lib.hid (HF2.out.lt)
 generalize u2.setCell ⟨w.heap.size + 1 + 1, 2, none⟩ (slOf g2 M.nexts) = v3 at *
 refine (toIntS_calls s3 M.bads v3 (HS.out.2.2.2.1.below HB3.out) h3).mono ?_
 rintro e u3 ⟨t3, rfl, hb3, hfr3⟩
 obtain ⟨g3, rfl, hf3⟩ := hfr3.at_
 clear hfr3
 have HA3' := Lib.hid (HA3.out.below hb3 HA3.out.lt)
 have HR3' := Lib.hid (HR3.out.below hb3 HR3.out.lt)
 have HL3' := Lib.hid (HL3.out.below hb3 HL3.out.lt)
 have HB3' := Lib.hid (HB3.out.trans (hb3.mono HB3.out.size))
 have HZ3 := Lib.hid (show w.heap.size + 1 + 1 < v3.heap.size from HL3.out.lt)
 have HF0_3 := Lib.hid (HF0.out.below hb3)
 clear HF0; rename Hid (FreshG _ _ _ u3 g0 _) => HF0
 have HF1_3 := Lib.hid (HF1.out.below hb3)
 clear HF1; rename Hid (FreshG _ _ _ u3 g1 _) => HF1
 have HF2_3 := Lib.hid (HF2.out.below hb3)
 clear HF2; rename Hid (FreshG _ _ _ u3 g2 _) => HF2
 have HF3 := Lib.hid hf3
 clear hb3 hf3 HA3 HR3 HL3 HB3
 have q3 : u3.cell? ⟨w.heap.size + 1 + 1, 3, none⟩ = some (.slice none 0 0) := HL3'.out.cell 3
 have r3 : u3.frozen? ⟨w.heap.size + 1 + 1, 3, none⟩ = false := HL3'.out.frozen 3
 have a3 : u3.cell? ⟨w.heap.size, 4, none⟩ = some s4 := HA3'.out.cell 4
 go_wp2_with fail
 clear a3 q3 r3
 have HA4 := Lib.hid (HA3'.out.keep (b := w.heap.size + 1 + 1) (i := 3) (by omega) (slOf g3 M.bads))
 have HR4 := Lib.hid (HR3'.out.keep (b := w.heap.size + 1 + 1) (i := 3) (by omega) (slOf g3 M.bads))
 have HL4 := Lib.hid (HL3'.out.set 3 (slOf g3 M.bads))
 have HB4 := Lib.hid (HB3'.out.setCell (p := ⟨w.heap.size + 1 + 1, 3, none⟩) (by show _ ≤ w.heap.size + 1 + 1; omega) (slOf g3 M.bads))
 have HG0 := Lib.hid (HF0.out.keep (b := w.heap.size + 1 + 1) (i := 3) HZ0.out (slOf g3 M.bads))
 clear HF0; rename Hid (FreshG _ _ _ (u3.setCell _ _) g0 _) => HF0
 have HG1 := Lib.hid (HF1.out.keep (b := w.heap.size + 1 + 1) (i := 3) HZ1.out (slOf g3 M.bads))
 clear HF1; rename Hid (FreshG _ _ _ (u3.setCell _ _) g1 _) => HF1
 have HG2 := Lib.hid (HF2.out.keep (b := w.heap.size + 1 + 1) (i := 3) HZ2.out (slOf g3 M.bads))
 clear HF2; rename Hid (FreshG _ _ _ (u3.setCell _ _) g2 _) => HF2
 have HG3 := Lib.hid (HF3.out.keep (b := w.heap.size + 1 + 1) (i := 3) HZ3.out (slOf g3 M.bads))
 clear HF3; rename Hid (FreshG _ _ _ (u3.setCell _ _) g3 _) => HF3
 clear HA3' HR3' HL3' HB3'
 have HF3L := Lib.hid (HF3.out.lt)
 generalize u3.setCell ⟨w.heap.size + 1 + 1, 3, none⟩ (slOf g3 M.bads) = v4 at *
 refine (toIntS_calls s4 M.holds v4 (HS.out.2.2.2.2.below HB4.out) h4).mono ?_
 rintro e u4 ⟨t4, rfl, hb4, hfr4⟩
 obtain ⟨g4, rfl, hf4⟩ := hfr4.at_
 clear hfr4
 have HA4' := Lib.hid (HA4.out.below hb4 HA4.out.lt)
 have HR4' := Lib.hid (HR4.out.below hb4 HR4.out.lt)
 have HL4' := Lib.hid (HL4.out.below hb4 HL4.out.lt)
 have HB4' := Lib.hid (HB4.out.trans (hb4.mono HB4.out.size))
 have HZ4 := Lib.hid (show w.heap.size + 1 + 1 < v4.heap.size from HL4.out.lt)
 have HF0_4 := Lib.hid (HF0.out.below hb4)
 clear HF0; rename Hid (FreshG _ _ _ u4 g0 _) => HF0
 have HF1_4 := Lib.hid (HF1.out.below hb4)
 clear HF1; rename Hid (FreshG _ _ _ u4 g1 _) => HF1
 have HF2_4 := Lib.hid (HF2.out.below hb4)
 clear HF2; rename Hid (FreshG _ _ _ u4 g2 _) => HF2
 have HF3_4 := Lib.hid (HF3.out.below hb4)
 clear HF3; rename Hid (FreshG _ _ _ u4 g3 _) => HF3
 have HF4 := Lib.hid hf4
 clear hb4 hf4 HA4 HR4 HL4 HB4
 have q4 : u4.cell? ⟨w.heap.size + 1 + 1, 4, none⟩ = some (.slice none 0 0) := HL4'.out.cell 4
 have r4 : u4.frozen? ⟨w.heap.size + 1 + 1, 4, none⟩ = false := HL4'.out.frozen 4
 have q0 : u4.cell? ⟨w.heap.size + 1 + 1, 0, none⟩ = some (slOf g0 M.nodes) := HL4'.out.cell 0
 have q1 : u4.cell? ⟨w.heap.size + 1 + 1, 1, none⟩ = some (slOf g1 M.inits) := HL4'.out.cell 1
 have q2 : u4.cell? ⟨w.heap.size + 1 + 1, 2, none⟩ = some (slOf g2 M.nexts) := HL4'.out.cell 2
 have q3 : u4.cell? ⟨w.heap.size + 1 + 1, 3, none⟩ = some (slOf g3 M.bads) := HL4'.out.cell 3
 have d0 : u4.cell? ⟨w.heap.size + 1, 0, none⟩ = some (.slice none 0 0) := HR4'.out.cell 0
 have e0 : u4.frozen? ⟨w.heap.size + 1, 0, none⟩ = false := HR4'.out.frozen 0
 have d1 : u4.cell? ⟨w.heap.size + 1, 1, none⟩ = some (.slice none 0 0) := HR4'.out.cell 1
 have e1 : u4.frozen? ⟨w.heap.size + 1, 1, none⟩ = false := HR4'.out.frozen 1
 have d2 : u4.cell? ⟨w.heap.size + 1, 2, none⟩ = some (.slice none 0 0) := HR4'.out.cell 2
 have e2 : u4.frozen? ⟨w.heap.size + 1, 2, none⟩ = false := HR4'.out.frozen 2
 have d3 : u4.cell? ⟨w.heap.size + 1, 3, none⟩ = some (.slice none 0 0) := HR4'.out.cell 3
 have e3 : u4.frozen? ⟨w.heap.size + 1, 3, none⟩ = false := HR4'.out.frozen 3
 have d4 : u4.cell? ⟨w.heap.size + 1, 4, none⟩ = some (.slice none 0 0) := HR4'.out.cell 4
 have e4 : u4.frozen? ⟨w.heap.size + 1, 4, none⟩ = false := HR4'.out.frozen 4
 go_wp2_with fail
 have N01 : g0 < g1 := Nat.lt_of_lt_of_le HF0L.out HF1.out.ge
 have N12 : g1 < g2 := Nat.lt_of_lt_of_le HF1L.out HF2.out.ge
 have N23 : g2 < g3 := Nat.lt_of_lt_of_le HF2L.out HF3.out.ge
 have N34 : g3 < g4 := Nat.lt_of_lt_of_le HF3L.out HF4.out.ge
 refine bodyPost_ret (v := .agg #[slOf g0 M.nodes, slOf g1 M.inits, slOf g2 M.nexts, slOf g3 M.bads, slOf g4 M.holds])  ?_ rfl ⟨g0, g1, g2, g3, g4, rfl, ?_, N01, N12, N23, N34, ?_, ?_, ?_, ?_, ?_⟩
 · simp [results, Tryz.results6, go_sem, d0, d1, d2, d3, d4]
 · repeat (with_reducible refine Below.setCell ?_ ?_ _)
   · with_reducible exact HB4'.out
   all_goals (simp only [Nat.le_add_right, Nat.le_refl]; try omega)
 · refine FreshG.mono (w1 := v0) ?_ (by have := HZ0.out; omega)
   have hz := HZ0.out
   repeat (with_reducible refine FreshG.keep ?_ ?_ _)
   · with_reducible exact HF0.out
   all_goals omega
 · refine FreshG.mono (w1 := v1) ?_ (by have := HZ1.out; omega)
   have hz := HZ1.out
   repeat (with_reducible refine FreshG.keep ?_ ?_ _)
   · with_reducible exact HF1.out
   all_goals omega
 · refine FreshG.mono (w1 := v2) ?_ (by have := HZ2.out; omega)
   have hz := HZ2.out
   repeat (with_reducible refine FreshG.keep ?_ ?_ _)
   · with_reducible exact HF2.out
   all_goals omega
 · refine FreshG.mono (w1 := v3) ?_ (by have := HZ3.out; omega)
   have hz := HZ3.out
   repeat (with_reducible refine FreshG.keep ?_ ?_ _)
   · with_reducible exact HF3.out
   all_goals omega
 · refine FreshG.mono (w1 := v4) ?_ (by have := HZ4.out; omega)
   have hz := HZ4.out
   repeat (with_reducible refine FreshG.keep ?_ ?_ _)
   · with_reducible exact HF4.out
   all_goals omega
end Go.Proofs.YtdojaijnejcoiaaGreat
namespace Go.Proofs.YtdojaijnejcoiaaGreat
open Go.RowKit
def lessV (left : Int) (n : Nat) : Int := if left - n < 0 then -1 else left - n
theorem lessV_neg {left : Int} {n : Nat} (h : left - n < 0) : lessV left n = -1 := if_pos h
theorem lessV_pos {left : Int} {n : Nat} (h : ¬ left - n < 0) : lessV left n = left - n := if_neg h
theorem szIntS_same (A : Option Addr) (n c : Nat) (left : Int) (hn : n ≤ 281474976710656) (h0 : 0 ≤ left) (h1 : left ≤ 1048576) (w : World) :
 Calls Tryz.prog 13 #[.slice A n c, .int .i64 left] w fun e w' => e = .returned (.int .i64 (lessV left n)) ∧ w = w' := by
 go_enter Tryz.func13, Tryz.ntmps13
 by_cases hlt : left - (n : Int) < 0
 · go_wp2
   go_ret
   exact ⟨congrArg (fun x => Ending.returned (.int .i64 x)) (lessV_neg (by omega)).symm, rfl⟩
 · go_wp2
   go_ret
   exact ⟨congrArg (fun x => Ending.returned (.int .i64 x)) (lessV_pos (by omega)).symm, rfl⟩
theorem szBindS_same (A : Option Addr) (n c : Nat) (left : Int) (hn : n ≤ 281474976710656) (h0 : 0 ≤ left) (h1 : left ≤ 1048576) (w : World) :
 Calls Tryz.prog 12 #[.slice A n c, .int .i64 left] w fun e w' => e = .returned (.int .i64 (lessV left n)) ∧ w = w' := by
 go_enter Tryz.func12, Tryz.ntmps12
 by_cases hlt : left - (n : Int) < 0
 · go_wp2
   go_ret
   exact ⟨congrArg (fun x => Ending.returned (.int .i64 x)) (lessV_neg (by omega)).symm, rfl⟩
 · go_wp2
   go_ret
   exact ⟨congrArg (fun x => Ending.returned (.int .i64 x)) (lessV_pos (by omega)).symm, rfl⟩
theorem szNode_calls (x : Nd) (left : Int) (hn : x.name.size ≤ 281474976710656) (h0 : 0 ≤ left) (h1 : left ≤ 1048576) (w : World) :
 Makes Tryz.prog 38 #[nodeV x, .int .i64 left] w (.int .i64 (lessV left x.name.size)) := by
 obtain ⟨k, a, b, c, n, m, i, d, s⟩ := x
 simp only [nodeV] at *
 go_enter Tryz.func38, Tryz.ntmps38
 by_cases hlt : left - (s.size : Int) < 0
 · go_wp2
   go_ret
   exact ⟨congrArg (fun x => Ending.returned (.int .i64 x)) (lessV_neg (by omega)).symm, box_below _ _ _⟩
 · go_wp2
   go_ret
   exact ⟨congrArg (fun x => Ending.returned (.int .i64 x)) (lessV_pos (by omega)).symm, box_below _ _ _⟩
end Go.Proofs.YtdojaijnejcoiaaGreat
namespace Go.Proofs.YtdojaijnejcoiaaGreat
open Go.RowKit
def LeftOf (left : Int) (n : Nat) (r : Int) : Prop := r = -1 ∨ (0 ≤ r ∧ r + n ≤ left)
theorem szNodeS_calls (w : World) (A : Option Addr) (c : Nat) (xs : List Nd) (left : Int) (hS : ∀ i x, xs[i]? = some x → ∃ b o, A = some ⟨b, o, none⟩ ∧ CellsAt enNd w b o i x) (hn : xs.length ≤ 281474976710656) (hm : ∀ x ∈ xs, x.name.size ≤ 281474976710656) (h0 : 0 ≤ left) (h1 : left ≤ 1048576) :
 Calls Tryz.prog 11 #[.slice A xs.length c, .int .i64 left] w fun e w' => ∃ r : Int, e = .returned (.int .i64 r) ∧ Below w.heap.size w w' ∧ LeftOf left xs.length r := by
 generalize hN : xs.length = n at *
 have HN := Lib.hid hN
 clear hN
 go_enter Tryz.func11, Tryz.ntmps11
 by_cases hlt : left - (n : Int) < 0
 · go_wp2
   go_ret
   exact ⟨_, rfl, Below.refl _ _, .inl rfl⟩
 · go_wp2
   go_loopw [1, 5] (fun l i wr => ∃ (k : Nat) (r : Int), k ≤ n ∧ i = .int .i64 k ∧ l = .int .i64 r ∧ 0 ≤ r ∧ r ≤ left - n ∧ Hid (Below w.heap.size w wr)) (fun _ i _ => n - (intOf i).toNat)
   case atStart => exact ⟨0, left - n, Nat.zero_le _, rfl, by go_num, by omega, by omega, Lib.hid (Below.refl _ _)⟩
   case round =>
    obtain ⟨k, r, hk, rfl, rfl, hr0, hr1, HI⟩ := hrel
    by_cases hlt2 : k < n
    · have hget := getD_at (show k < xs.length by rw [HN.out]; exact hlt2) Nd.zero
      obtain ⟨b, o, rfl, hx⟩ := hS k _ hget
      have hmx := hm _ (List.mem_of_getElem? hget)
      generalize xs.getD k Nd.zero = x at hx hmx
      have hsrc : ∀ f u, (enNd.cells x)[f]? = some u → wr.cell? ⟨b, o + k * 9 + f, none⟩ = some u := fun f u hu => (HI.out.cell (World.block_lt_of_cell? _ _ (hx f u hu))).trans (hx f u hu)
      have p0 : wr.cell? ⟨b, o + k * 9, none⟩ = some (.int .i64 x.kind) := hsrc 0 _ rfl
      have p1 : wr.cell? ⟨b, o + k * 9 + 1, none⟩ = some (.int .i64 x.a) := hsrc 1 _ rfl
      have p2 : wr.cell? ⟨b, o + k * 9 + 2, none⟩ = some (.int .i64 x.b) := hsrc 2 _ rfl
      have p3 : wr.cell? ⟨b, o + k * 9 + 3, none⟩ = some (.int .i64 x.c) := hsrc 3 _ rfl
      have p4 : wr.cell? ⟨b, o + k * 9 + 4, none⟩ = some (.int .i64 x.n) := hsrc 4 _ rfl
      have p5 : wr.cell? ⟨b, o + k * 9 + 5, none⟩ = some (.int .i64 x.m) := hsrc 5 _ rfl
      have p6 : wr.cell? ⟨b, o + k * 9 + 6, none⟩ = some (.int .i64 x.idx) := hsrc 6 _ rfl
      have p7 : wr.cell? ⟨b, o + k * 9 + 7, none⟩ = some (.int .i64 x.wid) := hsrc 7 _ rfl
      have p8 : wr.cell? ⟨b, o + k * 9 + 8, none⟩ = some (.string x.name) := hsrc 8 _ rfl
      clear hx hS hsrc hget hm
      go_wp2_with fail
      refine calls_at fun u => (Calls.later (szNode_calls x r hmx hr0 (by omega) _)).mono ?_
      rintro e w' ⟨rfl, u1, rfl⟩
      have HB2 := Lib.hid (HI.out.trans (u1.prop.mono HI.out.size))
      clear p0 p1 p2 p3 p4 p5 p6 p7 p8
      by_cases hl3 : r - (x.name.size : Int) < 0
      · rw [lessV_neg hl3]
        go_wp2
        go_ret
        exact ⟨_, rfl, HB2.out, .inl rfl⟩
      · rw [lessV_pos hl3]
        have hl4 : (r - (x.name.size : Int) < 0) = False := eq_false hl3
        go_wp2
        go_roundw
        case rel => exact ⟨k + 1, r - x.name.size, by omega, by go_num, rfl, by omega, by omega, HB2⟩
        case measure => simp [intOf]; omega
    · obtain rfl : k = n := by omega
      clear hS
      go_wp2
      go_ret
      exact ⟨_, rfl, HI.out, .inr ⟨hr0, by omega⟩⟩
end Go.Proofs.YtdojaijnejcoiaaGreat
namespace Go.Proofs.YtdojaijnejcoiaaGreat
open Go.RowKit
theorem szModel_calls (mv : Value) (M : Md) (w : World) (hM : MdAt w mv M) (hm : ∀ x ∈ M.nodes, x.name.size ≤ 281474976710656) :
 Calls Tryz.prog 4 #[mv, .int .i64 1048576] w fun e w' => ∃ r : Int, e = .returned (.int .i64 r) ∧ Below w.heap.size w w' ∧ LeftOf 1048576 (M.nodes.length + M.inits.length + M.nexts.length + M.bads.length + M.holds.length) r := by
 obtain ⟨s0, s1, s2, s3, s4, rfl, S0, S1, S2, S3, S4⟩ := hM.at_
 clear hM
 obtain ⟨A0, c0, rfl, hc0, hc0', hA0⟩ := S0
 obtain ⟨A1, c1, rfl, hc1, hc1', hA1⟩ := S1
 obtain ⟨A2, c2, rfl, hc2, hc2', hA2⟩ := S2
 obtain ⟨A3, c3, rfl, hc3, hc3', hA3⟩ := S3
 obtain ⟨A4, c4, rfl, hc4, hc4', hA4⟩ := S4
 clear hA1
 clear hA2
 clear hA3
 clear hA4
 generalize hN0 : M.nodes.length = n0 at *
 have HN0 := Lib.hid hN0
 clear hN0
 generalize hN1 : M.inits.length = n1 at *
 have HN1 := Lib.hid hN1
 clear hN1
 generalize hN2 : M.nexts.length = n2 at *
 have HN2 := Lib.hid hN2
 clear hN2
 generalize hN3 : M.bads.length = n3 at *
 have HN3 := Lib.hid hN3
 clear hN3
 generalize hN4 : M.holds.length = n4 at *
 have HN4 := Lib.hid hN4
 clear hN4
 go_enter Tryz.func4, Tryz.ntmps4
 go_wp2_with fail
 have HB := Lib.hid (box_below w #[.slice A0 n0 c0, .slice A1 n1 c1, .slice A2 n2 c2, .slice A3 n3 c3, .slice A4 n4 c4] 26)
 have b1 : (w.alloc (.cells #[.slice A0 n0 c0, .slice A1 n1 c1, .slice A2 n2 c2, .slice A3 n3 c3, .slice A4 n4 c4] 26)).cell? ⟨w.heap.size, 1, none⟩ = some (.slice A1 n1 c1) := by go_simp
 have b2 : (w.alloc (.cells #[.slice A0 n0 c0, .slice A1 n1 c1, .slice A2 n2 c2, .slice A3 n3 c3, .slice A4 n4 c4] 26)).cell? ⟨w.heap.size, 2, none⟩ = some (.slice A2 n2 c2) := by go_simp
 have b3 : (w.alloc (.cells #[.slice A0 n0 c0, .slice A1 n1 c1, .slice A2 n2 c2, .slice A3 n3 c3, .slice A4 n4 c4] 26)).cell? ⟨w.heap.size, 3, none⟩ = some (.slice A3 n3 c3) := by go_simp
 have b4 : (w.alloc (.cells #[.slice A0 n0 c0, .slice A1 n1 c1, .slice A2 n2 c2, .slice A3 n3 c3, .slice A4 n4 c4] 26)).cell? ⟨w.heap.size, 4, none⟩ = some (.slice A4 n4 c4) := by go_simp
 generalize w.alloc (.cells #[.slice A0 n0 c0, .slice A1 n1 c1, .slice A2 n2 c2, .slice A3 n3 c3, .slice A4 n4 c4] 26) = v0 at *
 have hS0 : ∀ i x, M.nodes[i]? = some x → ∃ b o, A0 = some ⟨b, o, none⟩ ∧ CellsAt enNd v0 b o i x := fun i x hx => by
  obtain ⟨b, o, h1, h2⟩ := hA0 i x hx
  exact ⟨b, o, h1, h2.below HB.out⟩
 have h0 := szNodeS_calls v0 A0 c0 M.nodes 1048576 hS0 (by rw [HN0.out]; omega) hm (by omega) (by omega)
 rw [HN0.out] at h0
 clear hA0 hS0 hm
 refine h0.mono ?_
 rintro e u0 ⟨r0, rfl, hb0, hl0⟩
 clear h0
 have HB0 := Lib.hid (HB.out.trans (hb0.mono HB.out.size))
 have q1 : u0.cell? ⟨w.heap.size, 1, none⟩ = some (.slice A1 n1 c1) := (hb0.cell (World.block_lt_of_cell? _ _ b1)).trans b1
 clear b1
 have q2 : u0.cell? ⟨w.heap.size, 2, none⟩ = some (.slice A2 n2 c2) := (hb0.cell (World.block_lt_of_cell? _ _ b2)).trans b2
 clear b2
 have q3 : u0.cell? ⟨w.heap.size, 3, none⟩ = some (.slice A3 n3 c3) := (hb0.cell (World.block_lt_of_cell? _ _ b3)).trans b3
 clear b3
 have q4 : u0.cell? ⟨w.heap.size, 4, none⟩ = some (.slice A4 n4 c4) := (hb0.cell (World.block_lt_of_cell? _ _ b4)).trans b4
 clear b4
 rcases hl0 with rfl | ⟨hp0, hq0⟩
 · skip
   go_wp2
   go_ret
   exact ⟨_, rfl, HB0.out, .inl rfl⟩
 · skip
   have hp0' : (r0 < 0) = False := eq_false (by omega)
   go_wp2_with fail
   refine (szBindS_same A1 n1 c1 r0 (by omega) hp0 (by omega) _).mono ?_
   rintro e w' ⟨rfl, rfl⟩
   by_cases hl1 : r0 - (n1 : Int) < 0
   · rw [lessV_neg hl1]
     go_wp2
     go_ret
     exact ⟨_, rfl, HB0.out, .inl rfl⟩
   · rw [lessV_pos hl1]
     obtain ⟨r1, hr1⟩ : ∃ r : Int, r = r0 - n1 := ⟨_, rfl⟩
     rw [← hr1]
     have hp1 : 0 ≤ r1 := by omega
     have hq1 : r1 + ((n0 : Int) + (n1 : Int)) ≤ 1048576 := by omega
     clear hr1
     go_wp2_with fail
     refine (szBindS_same A2 n2 c2 r1 (by omega) hp1 (by omega) _).mono ?_
     rintro e w' ⟨rfl, rfl⟩
     by_cases hl2 : r1 - (n2 : Int) < 0
     · rw [lessV_neg hl2]
       go_wp2
       go_ret
       exact ⟨_, rfl, HB0.out, .inl rfl⟩
     · rw [lessV_pos hl2]
       obtain ⟨r2, hr2⟩ : ∃ r : Int, r = r1 - n2 := ⟨_, rfl⟩
       rw [← hr2]
       have hp2 : 0 ≤ r2 := by omega
       have hq2 : r2 + ((n0 : Int) + (n1 : Int) + (n2 : Int)) ≤ 1048576 := by omega
       clear hr2
       go_wp2_with fail
       refine (szIntS_same A3 n3 c3 r2 (by omega) hp2 (by omega) _).mono ?_
       rintro e w' ⟨rfl, rfl⟩
       by_cases hl3 : r2 - (n3 : Int) < 0
       · rw [lessV_neg hl3]
         go_wp2
         go_ret
         exact ⟨_, rfl, HB0.out, .inl rfl⟩
       · rw [lessV_pos hl3]
         obtain ⟨r3, hr3⟩ : ∃ r : Int, r = r2 - n3 := ⟨_, rfl⟩
         rw [← hr3]
         have hp3 : 0 ≤ r3 := by omega
         have hq3 : r3 + ((n0 : Int) + (n1 : Int) + (n2 : Int) + (n3 : Int)) ≤ 1048576 := by omega
         clear hr3
         go_wp2_with fail
         refine (szIntS_same A4 n4 c4 r3 (by omega) hp3 (by omega) _).mono ?_
         rintro e w' ⟨rfl, rfl⟩
         by_cases hl4 : r3 - (n4 : Int) < 0
         · rw [lessV_neg hl4]
           go_wp2
           go_ret
           exact ⟨_, rfl, HB0.out, .inl rfl⟩
         · rw [lessV_pos hl4]
           obtain ⟨r4, hr4⟩ : ∃ r : Int, r = r3 - n4 := ⟨_, rfl⟩
           rw [← hr4]
           have hp4 : 0 ≤ r4 := by omega
           have hq4 : r4 + ((n0 : Int) + (n1 : Int) + (n2 : Int) + (n3 : Int) + (n4 : Int)) ≤ 1048576 := by omega
           clear hr4
           go_wp2
           go_ret
           refine ⟨r4, rfl, HB0.out, ?_⟩
           unfold LeftOf
           right
           refine ⟨hp4, ?_⟩
           push_cast
           omega
end Go.Proofs.YtdojaijnejcoiaaGreat
namespace Go.Proofs.YtdojaijnejcoiaaGreat
open Go.RowKit
theorem eqSort_calls (i a : Int) (w : World) : Makes Tryz.prog 87 #[.agg #[.int .i64 i, .int .i64 a], .agg #[.int .i64 i, .int .i64 a]] w (.bool true) := by
 go_enter Tryz.func87, Tryz.ntmps87
 go_wp2
 go_ret
 exact ⟨rfl, by refine Below.alloc (Below.alloc (Below.refl _ _) (Nat.le_refl _) _) ?_ _ <;> first | (simp; done) | (simp; omega)⟩
theorem eqBind_calls (i a : Int) (w : World) : Makes Tryz.prog 69 #[.agg #[.int .i64 i, .int .i64 a], .agg #[.int .i64 i, .int .i64 a]] w (.bool true) := by
 go_enter Tryz.func69, Tryz.ntmps69
 go_wp2
 go_ret
 exact ⟨rfl, by refine Below.alloc (Below.alloc (Below.refl _ _) (Nat.le_refl _) _) ?_ _ <;> first | (simp; done) | (simp; omega)⟩
theorem eqNode_calls (x : Nd) (w : World) : Makes Tryz.prog 68 #[nodeV x, nodeV x] w (.bool true) := by
 obtain ⟨k, a, b, c, n, m, i, d, s⟩ := x
 simp only [nodeV]
 go_enter Tryz.func68, Tryz.ntmps68
 go_wp2_with fail
 refine calls_at fun u => (Calls.later (eqSort_calls _ _ _)).mono ?_
 rintro e w' ⟨rfl, u1, rfl⟩
 have c8 : u1.val.cell? ⟨w.heap.size, 8, none⟩ = some (.string s) := by refine Later.cell ?_ u1; go_simp
 have d8 : u1.val.cell? ⟨w.heap.size + 1, 8, none⟩ = some (.string s) := by refine Later.cell ?_ u1; go_simp
 have HB := Lib.hid (u1.back (show Below w.heap.size w _ by refine Below.alloc (Below.alloc (Below.refl _ _) (Nat.le_refl _) _) ?_ _ <;> first | (simp; done) | (simp; omega)))
 go_wp2
 go_ret
 exact ⟨rfl, HB.out⟩
end Go.Proofs.YtdojaijnejcoiaaGreat
namespace Go.Proofs.YtdojaijnejcoiaaGreat
open Go.RowKit
end Go.Proofs.YtdojaijnejcoiaaGreat
namespace Go.Proofs.YtdojaijnejcoiaaGreat
open Go.RowKit
end Go.Proofs.YtdojaijnejcoiaaGreat
namespace Go.Proofs.YtdojaijnejcoiaaGreat
open Go.RowKit
def againRow (xs : List Bd) (k m : Nat) : Prop := ∀ j, j < m → (xs.getD k Bd.zero).st ≠ (xs.getD j Bd.zero).st
def againTo (xs : List Bd) (k : Nat) : Prop := ∀ i, i < k → againRow xs i i
noncomputable def againB (xs : List Bd) : Bool := @decide (¬ againTo xs xs.length) (Classical.propDecidable _)
theorem again_yes {xs : List Bd} {k m : Nat} (hk : k < xs.length) (hm : m < k) (h : (xs.getD k Bd.zero).st = (xs.getD m Bd.zero).st) : againB xs = true := by
 unfold againB
 rw [@decide_eq_true_iff]
 exact fun h' => h' k hk m hm h
theorem again_no {xs : List Bd} (h : againTo xs xs.length) : againB xs = false := by
 unfold againB
 rw [@decide_eq_false_iff_not]
 exact fun h' => h' h
theorem l2Again_calls (sv : Value) (xs : List Bd) (w : World) (hS : SlAt enBd w sv xs) :
 Makes Tryz.prog 72 #[sv] w (.bool (againB xs)) := by
 obtain ⟨A, c, rfl, hnc, hc', hA⟩ := hS
 generalize hN : xs.length = n at *
 have HN := Lib.hid hN
 clear hN
 have hn : n ≤ 281474976710656 := Nat.le_trans hnc hc'
 clear hc' hnc
 go_enter Tryz.func72, Tryz.ntmps72
 go_wp2
 go_loopw [3] (fun i wr => ∃ k : Nat, k ≤ n ∧ i = .int .i64 k ∧ Hid (againTo xs k) ∧ LaterC w wr) (fun i _ => n - (intOf i).toNat)
 case atStart => exact ⟨0, Nat.zero_le _, rfl, Lib.hid (fun i hi => absurd hi (Nat.not_lt_zero _)), LaterC.refl w⟩
 case round =>
  obtain ⟨k, hk, rfl, hto, ⟨u, rfl⟩⟩ := hrel
  by_cases hlt : k < n
  · have hget := getD_at (show k < xs.length by rw [HN.out]; exact hlt) Bd.zero
    obtain ⟨b, o, rfl, hx⟩ := hA k _ hget
    have p0 : ∀ l : Later w, l.val.cell? ⟨b, o + k * 2, none⟩ = some (.int .i64 (xs.getD k Bd.zero).st) := hx.at_ (Below.refl _ _) 0 _ rfl
    generalize hxe : (xs.getD k Bd.zero).st = x at p0
    have HX := Lib.hid hxe
    clear hx hget hxe
    go_wp2
    go_loopw [4] (fun i wr => ∃ m : Nat, m ≤ k ∧ i = .int .i64 m ∧ Hid (againRow xs k m) ∧ LaterC w wr) (fun i _ => k - (intOf i).toNat)
    case atStart => exact ⟨0, Nat.zero_le _, rfl, Lib.hid (fun i hi => absurd hi (Nat.not_lt_zero _)), ⟨u, rfl⟩⟩
    case round =>
     obtain ⟨m, hm, rfl, hro, ⟨u1, rfl⟩⟩ := hrel
     by_cases hlt2 : m < k
     · have hget := getD_at (show m < xs.length by rw [HN.out]; omega) Bd.zero
       obtain ⟨b', o', hb, hy⟩ := hA m _ hget
       cases hb
       have q0 : ∀ l : Later w, l.val.cell? ⟨b, o + m * 2, none⟩ = some (.int .i64 (xs.getD m Bd.zero).st) := hy.at_ (Below.refl _ _) 0 _ rfl
       generalize hye : (xs.getD m Bd.zero).st = y at q0
       by_cases heq : x = y
       · have HR := Lib.hid (again_yes (xs := xs) (k := k) (m := m) (by rw [HN.out]; exact hlt) hlt2 (by rw [HX.out, hye]; exact heq))
         clear hy hget hye hA
         subst heq
         go_wp2
         refine wp_region_later (w0 := w) (by kernel_rfl) (by kernel_rfl) ⟨_, rfl⟩ ?_
         repeat (go_big_quiet_step (fail))
         refine wpQuiet_nil ?_
         rintro _ ⟨u2, rfl⟩
         go_wp2
         go_ret
         exact ⟨ret_eq (congrArg Value.bool HR.out.symm), u2.prop⟩
       · have hro' : Hid (againRow xs k (m + 1)) := Lib.hid (fun j hj => by
          rcases Nat.lt_or_ge j m with g | g
          · exact hro.out j g
          · obtain rfl : j = m := by omega
            rw [HX.out, hye]; exact heq)
         have hne : (x == y) = false := by simpa using heq
         clear hy hget hye hA hro
         go_wp2
         refine wp_region_later (w0 := w) (by kernel_rfl) (by kernel_rfl) ⟨_, rfl⟩ ?_
         repeat (go_big_quiet_step (fail))
         refine wpQuiet_nil ?_
         rintro _ ⟨u2, rfl⟩
         go_wp2
         go_roundw
         case rel => exact ⟨m + 1, by omega, by go_num, hro', ⟨u2, rfl⟩⟩
         case measure => simp [intOf]; omega
     · obtain rfl : m = k := by omega
       have hto' : Hid (againTo xs (m + 1)) := Lib.hid (fun i hi => by
        rcases Nat.lt_or_ge i m with g | g
        · exact hto.out i g
        · obtain rfl : i = m := by omega
          exact hro.out)
       clear hA hro hto
       go_wp2
       go_roundw
       case rel => exact ⟨m + 1, by omega, by go_num, hto', ⟨u1, rfl⟩⟩
       case measure => simp [intOf]; omega
  · obtain rfl : k = n := by omega
    have HR := Lib.hid (again_no (xs := xs) (by rw [HN.out]; exact hto.out))
    clear hA hto
    go_wp2
    go_ret
    exact ⟨ret_eq (congrArg Value.bool HR.out.symm), u.prop⟩
end Go.Proofs.YtdojaijnejcoiaaGreat
namespace Go.Proofs.YtdojaijnejcoiaaGreat
open Go.RowKit
def bitsIf (kind : Int) (x : Nd) : Int := if x.kind = kind then bitsN x.idx x.wid else 0
def allN (kind : Int) (l : List Nd) : Int := (l.map (bitsIf kind)).sum
theorem allN_step {kind : Int} {l : List Nd} {k : Nat} (hk : k < l.length) : allN kind (l.take (k + 1)) = allN kind (l.take k) + bitsIf kind (l.getD k Nd.zero) := by
 unfold allN
 rw [List.take_add_one, getD_at hk Nd.zero]
 simp
theorem bitsN_bd (i a : Int) : 0 ≤ bitsN i a ∧ bitsN i a ≤ 64 := by
 by_cases h : sokB i a = true
 · have := bitsN_yes h
   omega
 · have h0 : bitsN i a = 0 := by unfold bitsN; rw [if_neg h]
   omega
theorem l2All_calls (mv : Value) (M : Md) (kind : Int) (w : World) (hM : MdAt w mv M) :
 Makes Tryz.prog 43 #[mv, .int .i64 kind] w (.int .i64 (allN kind M.nodes)) := by
 obtain ⟨s0, s1, s2, s3, s4, rfl, hS, -, -, -, -⟩ := hM.at_
 obtain ⟨A, c, rfl, hnc, hc', hA⟩ := hS
 clear hM
 generalize hN : M.nodes.length = n at *
 have HN := Lib.hid hN
 clear hN
 have hn : n ≤ 281474976710656 := Nat.le_trans hnc hc'
 clear hc' hnc
 go_enter Tryz.func43, Tryz.ntmps43
 go_wp2
 generalize hw1 : w.alloc (Obj.cells #[.slice A n c, s1, s2, s3, s4] 31) = w1
 have hb0 : ∀ u : Later w1, u.val.cell? ⟨w.heap.size, 0, none⟩ = some (.slice A n c) := Later.cell (by rw [← hw1]; simp)
 have HB := Lib.hid (show Below w.heap.size w w1 by rw [← hw1]; exact (Below.refl _ _).alloc (Nat.le_refl _) _)
 clear hw1
 go_loopw [5, 6] (fun s i wr => ∃ (k : Nat) (t : Int), k ≤ n ∧ i = .int .i64 k ∧ s = .int .i64 t ∧ 0 ≤ t ∧ t ≤ 64 * k ∧ Hid (allN kind (M.nodes.take k) = t) ∧ LaterC w1 wr) (fun _ i _ => n - (intOf i).toNat)
 case atStart => exact ⟨0, 0, Nat.zero_le _, rfl, rfl, by omega, by omega, Lib.hid (by simp [allN]), LaterC.refl _⟩
 case round =>
  obtain ⟨k, t, hk, rfl, rfl, ht0, ht1, HT, ⟨u, rfl⟩⟩ := hrel
  by_cases hlt : k < n
  · have hget := getD_at (show k < M.nodes.length by rw [HN.out]; exact hlt) Nd.zero
    obtain ⟨b, o, rfl, hx⟩ := hA k _ hget
    have HST := Lib.hid (allN_step (kind := kind) (l := M.nodes) (k := k) (by rw [HN.out]; exact hlt))
    generalize hxe : M.nodes.getD k Nd.zero = x at hx
    rw [hxe] at HST
    have p0 : ∀ l : Later w1, l.val.cell? ⟨b, o + k * 9, none⟩ = some (.int .i64 x.kind) := hx.at_ HB.out 0 _ rfl
    have p6 : ∀ l : Later w1, l.val.cell? ⟨b, o + k * 9 + 6, none⟩ = some (.int .i64 x.idx) := hx.at_ HB.out 6 _ rfl
    have p7 : ∀ l : Later w1, l.val.cell? ⟨b, o + k * 9 + 7, none⟩ = some (.int .i64 x.wid) := hx.at_ HB.out 7 _ rfl
    clear hx hget hxe hA
    by_cases hkd : x.kind = kind
    · have hb := bitsN_bd x.idx x.wid
      have HE := Lib.hid (show allN kind (M.nodes.take (k + 1)) = t + bitsN x.idx x.wid by rw [HST.out, HT.out]; unfold bitsIf; rw [if_pos hkd])
      clear HST HT
      subst hkd
      go_wp2_with fail
      refine (Calls.later (u := u) (SortBits_calls x.idx x.wid _)).mono ?_
      rintro e w' ⟨rfl, u1, rfl⟩
      generalize bitsN x.idx x.wid = y at *
      go_wp2
      go_roundw
      case rel => exact ⟨k + 1, t + y, by omega, by go_num, by go_num, by omega, by push_cast; omega, HE, ⟨u1, rfl⟩⟩
      case measure => simp [intOf]; omega
    · have HE := Lib.hid (show allN kind (M.nodes.take (k + 1)) = t by rw [HST.out, HT.out]; unfold bitsIf; rw [if_neg hkd]; omega)
      have hne : (x.kind == kind) = false := by simpa using hkd
      clear HST HT
      go_wp2
      go_roundw
      case rel => exact ⟨k + 1, t, by omega, by go_num, rfl, by omega, by push_cast; omega, HE, ⟨u, rfl⟩⟩
      case measure => simp [intOf]; omega
  · obtain rfl : k = n := by omega
    have HR := Lib.hid (show allN kind M.nodes = t by rw [← HT.out, ← HN.out, List.take_length])
    clear hA HT
    go_wp2
    go_ret
    exact ⟨ret_eq (congrArg (Value.int .i64) HR.out.symm), HB.out.trans (u.prop.mono HB.out.size)⟩
end Go.Proofs.YtdojaijnejcoiaaGreat
namespace Go.Proofs.YtdojaijnejcoiaaGreat
open Go.RowKit
theorem bytes_inj {a b : ByteArray} (h : a.toList = b.toList) : a = b := by
 rw [ByteArray.toList_eq, ByteArray.toList_eq] at h
 exact ByteArray.ext (Array.toList_inj.mp h)
def sameN (x y : Nd) : Prop := x.name.toList ≠ [] ∧ x.name.toList = y.name.toList
def nameRow (xs : List Nd) (k m : Nat) : Prop := ∀ j, j < m → ¬ sameN (xs.getD k Nd.zero) (xs.getD j Nd.zero)
def nameTo (xs : List Nd) (k : Nat) : Prop := ∀ i, i < k → nameRow xs i i
noncomputable def namedTwice (xs : List Nd) : Bool := @decide (¬ nameTo xs xs.length) (Classical.propDecidable _)
theorem named_yes {xs : List Nd} {k m : Nat} (hk : k < xs.length) (hm : m < k) (h : sameN (xs.getD k Nd.zero) (xs.getD m Nd.zero)) : namedTwice xs = true := by
 unfold namedTwice
 rw [@decide_eq_true_iff]
 exact fun h' => h' k hk m hm h
theorem named_no {xs : List Nd} (h : nameTo xs xs.length) : namedTwice xs = false := by
 unfold namedTwice
 rw [@decide_eq_false_iff_not]
 exact fun h' => h' h
noncomputable def twiceB (M : Md) : Bool := namedTwice M.nodes || (againB M.inits || againB M.nexts)
theorem l2Twice_calls (mv : Value) (M : Md) (w : World) (hM : MdAt w mv M) :
 Makes Tryz.prog 40 #[mv] w (.bool (twiceB M)) := by
 obtain ⟨s0, s1, s2, s3, s4, rfl, hS, hS1, hS2, -, -⟩ := hM.at_
 obtain ⟨A, c, rfl, hnc, hc', hA⟩ := hS
 clear hM
 generalize hN : M.nodes.length = n at *
 have HN := Lib.hid hN
 clear hN
 have hn : n ≤ 281474976710656 := Nat.le_trans hnc hc'
 clear hc' hnc
 have H1 := Lib.hid hS1
 have H2 := Lib.hid hS2
 clear hS1 hS2
 go_enter Tryz.func40, Tryz.ntmps40
 go_wp2
 generalize hw1 : w.alloc (Obj.cells #[.slice A n c, s1, s2, s3, s4] 31) = w1
 have hb0 : ∀ u : Later w1, u.val.cell? ⟨w.heap.size, 0, none⟩ = some (.slice A n c) := Later.cell (by rw [← hw1]; simp)
 have hb1 : ∀ u : Later w1, u.val.cell? ⟨w.heap.size, 1, none⟩ = some s1 := Later.cell (by rw [← hw1]; simp)
 have hb2 : ∀ u : Later w1, u.val.cell? ⟨w.heap.size, 2, none⟩ = some s2 := Later.cell (by rw [← hw1]; simp)
 have HB := Lib.hid (show Below w.heap.size w w1 by rw [← hw1]; exact (Below.refl _ _).alloc (Nat.le_refl _) _)
 clear hw1
 go_loopw [3] (fun i wr => ∃ k : Nat, k ≤ n ∧ i = .int .i64 k ∧ Hid (nameTo M.nodes k) ∧ LaterC w1 wr) (fun i _ => n - (intOf i).toNat)
 case atStart => exact ⟨0, Nat.zero_le _, rfl, Lib.hid (fun i hi => absurd hi (Nat.not_lt_zero _)), LaterC.refl w1⟩
 case round =>
  obtain ⟨k, hk, rfl, hto, ⟨u, rfl⟩⟩ := hrel
  by_cases hlt : k < n
  · have hget := getD_at (show k < M.nodes.length by rw [HN.out]; exact hlt) Nd.zero
    obtain ⟨b, o, rfl, hx⟩ := hA k _ hget
    have p8 : ∀ l : Later w1, l.val.cell? ⟨b, o + k * 9 + 8, none⟩ = some (.string (M.nodes.getD k Nd.zero).name) := hx.at_ HB.out 8 _ rfl
    generalize hxe : (M.nodes.getD k Nd.zero).name = x at p8
    have HX := Lib.hid hxe
    clear hx hget hxe
    go_wp2
    go_loopw [4] (fun i wr => ∃ m : Nat, m ≤ k ∧ i = .int .i64 m ∧ Hid (nameRow M.nodes k m) ∧ LaterC w1 wr) (fun i _ => k - (intOf i).toNat)
    case atStart => exact ⟨0, Nat.zero_le _, rfl, Lib.hid (fun i hi => absurd hi (Nat.not_lt_zero _)), ⟨u, rfl⟩⟩
    case round =>
     obtain ⟨m, hm, rfl, hro, ⟨u1, rfl⟩⟩ := hrel
     by_cases hlt2 : m < k
     · have hget := getD_at (show m < M.nodes.length by rw [HN.out]; omega) Nd.zero
       obtain ⟨b', o', hb, hy⟩ := hA m _ hget
       cases hb
       have q8 : ∀ l : Later w1, l.val.cell? ⟨b, o + m * 9 + 8, none⟩ = some (.string (M.nodes.getD m Nd.zero).name) := hy.at_ HB.out 8 _ rfl
       generalize hye : (M.nodes.getD m Nd.zero).name = y at q8
       by_cases hem : x.toList = []
       · have hro' : Hid (nameRow M.nodes k (m + 1)) := Lib.hid (fun j hj => by
          intro hs
          exact hs.1 (by rw [HX.out]; exact hem))
         clear hy hget hye hA hro
         go_wp2
         refine wp_region_later (w0 := w1) (by kernel_rfl) (by kernel_rfl) ⟨_, rfl⟩ ?_
         repeat (go_big_quiet_step (fail))
         refine wpQuiet_nil ?_
         rintro _ ⟨u2, rfl⟩
         go_wp2
         go_roundw
         case rel => exact ⟨m + 1, by omega, by go_num, hro', ⟨u2, rfl⟩⟩
         case measure => simp [intOf]; omega
       · have hem2 : x.toList.isEmpty = false := by simpa using hem
         by_cases heq : x.toList = y.toList
         · have HR := Lib.hid (named_yes (xs := M.nodes) (k := k) (m := m) (by rw [HN.out]; exact hlt) hlt2 ⟨by rw [HX.out]; exact hem, by rw [HX.out, hye]; exact heq⟩)
           clear hy hget hye hA
           obtain rfl := bytes_inj heq
           go_wp2
           refine wp_region_later (w0 := w1) (by kernel_rfl) (by kernel_rfl) ⟨_, rfl⟩ ?_
           repeat (go_big_quiet_step (fail))
           refine wpQuiet_nil ?_
           rintro _ ⟨u2, rfl⟩
           go_wp2
           go_ret
           exact ⟨ret_eq (congrArg Value.bool (by unfold twiceB; rw [HR.out]; rfl)), HB.out.trans (u2.prop.mono HB.out.size)⟩
         · have hro' : Hid (nameRow M.nodes k (m + 1)) := Lib.hid (fun j hj => by
            rcases Nat.lt_or_ge j m with g | g
            · exact hro.out j g
            · obtain rfl : j = m := by omega
              intro hs
              exact heq (by rw [← HX.out, ← hye]; exact hs.2))
           have hne : (x.toList == y.toList) = false := by simpa using heq
           clear hy hget hye hA hro
           go_wp2
           refine wp_region_later (w0 := w1) (by kernel_rfl) (by kernel_rfl) ⟨_, rfl⟩ ?_
           repeat (go_big_quiet_step (fail))
           refine wpQuiet_nil ?_
           rintro _ ⟨u2, rfl⟩
           go_wp2
           go_roundw
           case rel => exact ⟨m + 1, by omega, by go_num, hro', ⟨u2, rfl⟩⟩
           case measure => simp [intOf]; omega
     · obtain rfl : m = k := by omega
       have hto' : Hid (nameTo M.nodes (m + 1)) := Lib.hid (fun i hi => by
        rcases Nat.lt_or_ge i m with g | g
        · exact hto.out i g
        · obtain rfl : i = m := by omega
          exact hro.out)
       clear hA hro hto
       go_wp2
       go_roundw
       case rel => exact ⟨m + 1, by omega, by go_num, hto', ⟨u1, rfl⟩⟩
       case measure => simp [intOf]; omega
  · obtain rfl : k = n := by omega
    have HR := Lib.hid (named_no (xs := M.nodes) (by rw [HN.out]; exact hto.out))
    clear hA hto
    have HV : Hid (twiceB M = (againB M.inits || againB M.nexts)) := Lib.hid (by unfold twiceB; rw [HR.out]; rfl)
    go_wp2_with fail
    refine (Calls.later (u := u) (l2Again_calls s1 M.inits _ ((H1.out.below HB.out).later u))).mono ?_
    rintro e w' ⟨rfl, u1, rfl⟩
    by_cases ha : againB M.inits = true
    · have HV2 := Lib.hid (HV.out.trans (by rw [ha]; rfl) : twiceB M = true)
      rw [ha]
      go_wp2
      go_ret
      exact ⟨ret_eq (congrArg Value.bool HV2.out.symm), HB.out.trans (u1.prop.mono HB.out.size)⟩
    · have ha := eq_false_of_ne_true ha
      have HV2 := Lib.hid (HV.out.trans (by rw [ha]; rfl) : twiceB M = againB M.nexts)
      rw [ha]
      go_wp2_with fail
      refine (Calls.later (u := u1) (l2Again_calls s2 M.nexts _ ((H2.out.below HB.out).later u1))).mono ?_
      rintro e w' ⟨rfl, u2, rfl⟩
      go_wp2
      go_ret
      exact ⟨ret_eq (congrArg Value.bool HV2.out.symm), HB.out.trans (u2.prop.mono HB.out.size)⟩
end Go.Proofs.YtdojaijnejcoiaaGreat
namespace Go.Proofs.YtdojaijnejcoiaaGreat
open Go.RowKit
attribute [local go_sem high] eq_sort
theorem of_inB {x lo hi : Int} (h : inB x lo hi = true) : lo ≤ x ∧ x ≤ hi := by
 by_cases h2 : lo ≤ x ∧ x ≤ hi
 · exact h2
 · rw [inB_no h2] at h; cases h
def boundB (ns : List Nd) (b : Bd) : Bool := inB b.st 0 ((ns.length : Int) - 1) && (inB b.nd 0 ((ns.length : Int) - 1) && (((ns.getD b.st.toNat Nd.zero).kind == 36) && ((ns.getD b.st.toNat Nd.zero).idx == (ns.getD b.nd.toNat Nd.zero).idx && (ns.getD b.st.toNat Nd.zero).wid == (ns.getD b.nd.toNat Nd.zero).wid)))
theorem l2Bound_calls (mv : Value) (M : Md) (b : Bd) (w : World) (hM : MdAt w mv M) :
 Makes Tryz.prog 75 #[mv, .agg #[.int .i64 b.st, .int .i64 b.nd]] w (.bool (boundB M.nodes b)) := by
 obtain ⟨s0, s1, s2, s3, s4, rfl, hS, -, -, -, -⟩ := hM.at_
 obtain ⟨A, c, rfl, hnc, hc', hA⟩ := hS
 clear hM
 obtain ⟨R, hR⟩ : ∃ R, R = boundB M.nodes b := ⟨_, rfl⟩
 have HRR := Lib.hid hR
 rw [← hR]
 unfold boundB at hR
 have HR0 := Lib.hid hR
 clear hR
 obtain ⟨bs, bn⟩ := b
 simp only at HR0 ⊢
 generalize hN : M.nodes.length = n at *
 have HN := Lib.hid hN
 clear hN
 have hn : n ≤ 281474976710656 := Nat.le_trans hnc hc'
 clear hc' hnc
 go_enter Tryz.func75, Tryz.ntmps75
 go_wp2
 have HB := Lib.hid (show Below w.heap.size w ((w.alloc (Obj.cells #[.slice A n c, s1, s2, s3, s4] 31)).alloc (Obj.cells #[.int .i64 bs, .int .i64 bn] 57)) by
  refine Below.alloc (Below.alloc (Below.refl _ _) (Nat.le_refl _) _) ?_ _ <;> first | (simp; done) | (simp; omega))
 have m0 : ((w.alloc (Obj.cells #[.slice A n c, s1, s2, s3, s4] 31)).alloc (Obj.cells #[.int .i64 bs, .int .i64 bn] 57)).cell? ⟨w.heap.size, 0, none⟩ = some (.slice A n c) := by go_simp
 have m1 : ((w.alloc (Obj.cells #[.slice A n c, s1, s2, s3, s4] 31)).alloc (Obj.cells #[.int .i64 bs, .int .i64 bn] 57)).cell? ⟨w.heap.size + 1, 0, none⟩ = some (.int .i64 bs) := by go_simp
 have m2 : ((w.alloc (Obj.cells #[.slice A n c, s1, s2, s3, s4] 31)).alloc (Obj.cells #[.int .i64 bs, .int .i64 bn] 57)).cell? ⟨w.heap.size + 1, 1, none⟩ = some (.int .i64 bn) := by go_simp
 generalize (w.alloc (Obj.cells #[.slice A n c, s1, s2, s3, s4] 31)).alloc (Obj.cells #[.int .i64 bs, .int .i64 bn] 57) = w1 at *
 have m0 := Later.cell m0
 have m1 := Later.cell m1
 have m2 := Later.cell m2
 by_cases hs : inB bs 0 ((n : Int) - 1) = true
 · have HS := Lib.hid hs
   have hs2 := of_inB hs
   clear hs
   by_cases ht : inB bn 0 ((n : Int) - 1) = true
   · have HT := Lib.hid ht
     have ht2 := of_inB ht
     clear ht
     obtain ⟨i, rfl⟩ := Int.eq_ofNat_of_zero_le hs2.1
     obtain ⟨j, rfl⟩ := Int.eq_ofNat_of_zero_le ht2.1
     have hi : i < n := by omega
     have hj : j < n := by omega
     obtain ⟨g, o, rfl, hx⟩ := hA i _ (getD_at (by rw [HN.out]; exact hi) Nd.zero)
     obtain ⟨g', o', hg, hy⟩ := hA j _ (getD_at (by rw [HN.out]; exact hj) Nd.zero)
     cases hg
     rw [HS.out, HT.out, Bool.true_and, Bool.true_and, Int.toNat_natCast, Int.toNat_natCast] at HR0
     generalize M.nodes.getD i Nd.zero = x at hx HR0
     generalize M.nodes.getD j Nd.zero = y at hy HR0
     have p0 : ∀ l : Later w1, l.val.cell? ⟨g, o + i * 9, none⟩ = some (.int .i64 x.kind) := hx.at_ HB.out 0 _ rfl
     have p6 : ∀ l : Later w1, l.val.cell? ⟨g, o + i * 9 + 6, none⟩ = some (.int .i64 x.idx) := hx.at_ HB.out 6 _ rfl
     have p7 : ∀ l : Later w1, l.val.cell? ⟨g, o + i * 9 + 7, none⟩ = some (.int .i64 x.wid) := hx.at_ HB.out 7 _ rfl
     have q6 : ∀ l : Later w1, l.val.cell? ⟨g, o + j * 9 + 6, none⟩ = some (.int .i64 y.idx) := hy.at_ HB.out 6 _ rfl
     have q7 : ∀ l : Later w1, l.val.cell? ⟨g, o + j * 9 + 7, none⟩ = some (.int .i64 y.wid) := hy.at_ HB.out 7 _ rfl
     clear hx hy hA
     by_cases hk : (x.kind == 36) = true
     · have HR := Lib.hid (HR0.out.trans (by rw [hk, Bool.true_and]))
       refine wp_region_later (w0 := w1) (by kernel_rfl) (by kernel_rfl) (LaterC.refl _) ?_
       repeat (go_big_quiet_step (first | (go_at_call 73; with_reducible exact Calls.later_eq (l1In_calls (i : Int) 0 ((n : Int) - 1) _) (congrArg Value.bool HS.out)) | (go_at_call 73; with_reducible exact Calls.later_eq (l1In_calls (j : Int) 0 ((n : Int) - 1) _) (congrArg Value.bool HT.out))))
       refine wpQuiet_nil ?_
       rintro _ ⟨u1, rfl⟩
       go_wp2
       go_ret
       exact ⟨ret_eq (congrArg Value.bool HR.out.symm), u1.back HB.out⟩
     · have hk := eq_false_of_ne_true hk
       have HR := Lib.hid (show R = false by rw [HR0.out, hk, Bool.false_and])
       refine wp_region_later (w0 := w1) (by kernel_rfl) (by kernel_rfl) (LaterC.refl _) ?_
       repeat (go_big_quiet_step (first | (go_at_call 73; with_reducible exact Calls.later_eq (l1In_calls (i : Int) 0 ((n : Int) - 1) _) (congrArg Value.bool HS.out)) | (go_at_call 73; with_reducible exact Calls.later_eq (l1In_calls (j : Int) 0 ((n : Int) - 1) _) (congrArg Value.bool HT.out))))
       refine wpQuiet_nil ?_
       rintro _ ⟨u1, rfl⟩
       go_wp2
       go_ret
       exact ⟨ret_eq (congrArg Value.bool HR.out.symm), u1.back HB.out⟩
   · have HT := Lib.hid (eq_false_of_ne_true ht)
     have HR := Lib.hid (show R = false by rw [HR0.out, HS.out, HT.out, Bool.true_and, Bool.false_and])
     clear ht hA
     refine wp_region_later (w0 := w1) (by kernel_rfl) (by kernel_rfl) (LaterC.refl _) ?_
     repeat (go_big_quiet_step (first | (go_at_call 73; with_reducible exact Calls.later_eq (l1In_calls bs 0 ((n : Int) - 1) _) (congrArg Value.bool HS.out)) | (go_at_call 73; with_reducible exact Calls.later_eq (l1In_calls bn 0 ((n : Int) - 1) _) (congrArg Value.bool HT.out))))
     refine wpQuiet_nil ?_
     rintro _ ⟨u1, rfl⟩
     go_wp2
     go_ret
     exact ⟨ret_eq (congrArg Value.bool HR.out.symm), u1.back HB.out⟩
 · have HS := Lib.hid (eq_false_of_ne_true hs)
   have HR := Lib.hid (show R = false by rw [HR0.out, HS.out, Bool.false_and])
   clear hs hA
   refine wp_region_later (w0 := w1) (by kernel_rfl) (by kernel_rfl) (LaterC.refl _) ?_
   repeat (go_big_quiet_step ((go_at_call 73; with_reducible exact Calls.later_eq (l1In_calls bs 0 ((n : Int) - 1) _) (congrArg Value.bool HS.out))))
   refine wpQuiet_nil ?_
   rintro _ ⟨u1, rfl⟩
   go_wp2
   go_ret
   exact ⟨ret_eq (congrArg Value.bool HR.out.symm), u1.back HB.out⟩
end Go.Proofs.YtdojaijnejcoiaaGreat
namespace Go.Proofs.YtdojaijnejcoiaaGreat
open Go.RowKit
def partB (k len : Int) (i : Nat) (p : Int) : Bool := if (i : Int) < k then inB p 0 (len - 1) else p == 0
def Nd.part (x : Nd) (i : Nat) : Int := if i = 0 then x.a else if i = 1 then x.b else x.c
def nameOkB (x : Nd) : Bool := if inB x.kind 35 36 = true then nameB x.name else x.name.size == 0
def mOkB (x : Nd) : Bool := x.kind == 30 || x.m == 0
def nOkB (x : Nd) : Bool := x.n == 0 || (x.kind == 30 || x.kind == 31 || x.kind == 32 || x.kind == 34)
def fieldsB (len : Int) (x : Nd) : Bool :=
 !decide (partsN x.kind < 0) && (partB (partsN x.kind) len 0 x.a && partB (partsN x.kind) len 1 x.b && partB (partsN x.kind) len 2 x.c) && (nameOkB x && mOkB x && nOkB x)
theorem fields_neg {len : Int} {x : Nd} (h : partsN x.kind < 0) : fieldsB len x = false := by
 unfold fieldsB; rw [decide_eq_true h]; rfl
def partsTo (k len : Int) (x : Nd) (i : Nat) : Prop := ∀ j, j < i → partB k len j (x.part j) = true
theorem fields_part {len : Int} {x : Nd} {i : Nat} (hi : i < 3) (h : partB (partsN x.kind) len i (x.part i) = false) : fieldsB len x = false := by
 unfold fieldsB
 rcases (show i = 0 ∨ i = 1 ∨ i = 2 by omega) with rfl | rfl | rfl
 · rw [show x.part 0 = x.a from rfl] at h; rw [h]; simp
 · rw [show x.part 1 = x.b from rfl] at h; rw [h]; simp
 · rw [show x.part 2 = x.c from rfl] at h; rw [h]; simp
theorem fields_rest {len : Int} {x : Nd} (h0 : ¬ partsN x.kind < 0) (h : partsTo (partsN x.kind) len x 3) : fieldsB len x = (nameOkB x && mOkB x && nOkB x) := by
 unfold fieldsB
 have a := h 0 (by omega); have b := h 1 (by omega); have c := h 2 (by omega)
 rw [show x.part 0 = x.a from rfl] at a
 rw [show x.part 1 = x.b from rfl] at b
 rw [show x.part 2 = x.c from rfl] at c
 rw [a, b, c, decide_eq_false h0]; rfl
end Go.Proofs.YtdojaijnejcoiaaGreat
namespace Go.Proofs.YtdojaijnejcoiaaGreat
open Go.RowKit
def IsPart (ns : List Nd) (q j : Nat) : Prop := ∃ m : Nat, m < 3 ∧ (m : Int) < partsN (ns.getD q Nd.zero).kind ∧ (ns.getD q Nd.zero).part m = j
inductive Reach (ns : List Nd) (a : Nat) : Nat → Prop where
 | self : Reach ns a a
 | step {q j : Nat} : Reach ns a q → IsPart ns q j → Reach ns a j
def Down (ns : List Nd) (a : Nat) : Prop := ∀ i, i < a → ∀ m : Nat, m < 3 → (m : Int) < partsN (ns.getD i Nd.zero).kind → 0 ≤ (ns.getD i Nd.zero).part m ∧ (ns.getD i Nd.zero).part m < i
theorem Reach.le {ns : List Nd} {a b j : Nat} (hd : Down ns b) (hab : a < b) (h : Reach ns a j) : j ≤ a := by
 induction h with
 | self => exact Nat.le_refl _
 | step _ hp ih =>
   obtain ⟨m, h3, hm, he⟩ := hp
   have := hd _ (Nat.lt_of_le_of_lt ih hab) m h3 hm
   omega
theorem IsPart.lt {ns : List Nd} {a q j : Nat} (hd : Down ns a) (hq : q < a) (h : IsPart ns q j) : j < q := by
 obtain ⟨m, h3, hm, he⟩ := h
 have := hd _ hq m h3 hm
 omega
theorem Reach.head {ns : List Nd} {a p j : Nat} (hp : IsPart ns a p) (h : Reach ns p j) : Reach ns a j := by
 induction h with
 | self => exact .step .self hp
 | step _ hq ih => exact .step ih hq
theorem Reach.cases_head {ns : List Nd} {a j : Nat} (h : Reach ns a j) : j = a ∨ ∃ p, IsPart ns a p ∧ Reach ns p j := by
 induction h with
 | self => exact .inl rfl
 | step h1 hp ih =>
   rcases ih with rfl | ⟨p, h2, h3⟩
   · exact .inr ⟨_, hp, .self⟩
   · exact .inr ⟨p, h2, .step h3 hp⟩
def Marked (ns : List Nd) (a k : Nat) (j : Nat) : Prop := j = a ∨ ∃ q, k ≤ q ∧ q ≤ a ∧ Reach ns a q ∧ IsPart ns q j
theorem marked_all {ns : List Nd} {a b j : Nat} (hd : Down ns b) (hab : a < b) : Marked ns a 0 j ↔ Reach ns a j := by
 constructor
 · rintro (rfl | ⟨q, -, -, h, hp⟩)
   · exact .self
   · exact .step h hp
 · intro h
   cases h with
   | self => exact .inl rfl
   | step h hp => exact .inr ⟨_, Nat.zero_le _, h.le hd hab, h, hp⟩
theorem marked_at {ns : List Nd} {a b k : Nat} (hd : Down ns b) (hab : a < b) : Marked ns a (k + 1) k ↔ Reach ns a k := by
 constructor
 · rintro (rfl | ⟨q, -, -, h, hp⟩)
   · exact .self
   · exact .step h hp
 · intro h
   cases h with
   | self => exact .inl rfl
   | step h hp => 
     have h1 := h.le hd hab
     exact .inr ⟨_, hp.lt hd (by omega), h1, h, hp⟩
theorem marked_no {ns : List Nd} {a k j : Nat} (h : ¬ Reach ns a k) : Marked ns a k j ↔ Marked ns a (k + 1) j := by
 constructor
 · rintro (rfl | ⟨q, h1, h2, h3, h4⟩)
   · exact .inl rfl
   · rcases Nat.lt_or_ge k q with g | g
     · exact .inr ⟨q, g, h2, h3, h4⟩
     · obtain rfl : q = k := by omega
       exact absurd h3 h
 · rintro (rfl | ⟨q, h1, h2, h3, h4⟩)
   · exact .inl rfl
   · exact .inr ⟨q, by omega, h2, h3, h4⟩
theorem marked_yes {ns : List Nd} {a b k j : Nat} (hd : Down ns b) (hab : a < b) (h : Reach ns a k) : Marked ns a k j ↔ Marked ns a (k + 1) j ∨ IsPart ns k j := by
 constructor
 · rintro (rfl | ⟨q, h1, h2, h3, h4⟩)
   · exact .inl (.inl rfl)
   · rcases Nat.lt_or_ge k q with g | g
     · exact .inl (.inr ⟨q, g, h2, h3, h4⟩)
     · obtain rfl : q = k := by omega
       exact .inr h4
 · rintro ((rfl | ⟨q, h1, h2, h3, h4⟩) | h4)
   · exact .inl rfl
   · exact .inr ⟨q, by omega, h2, h3, h4⟩
   · exact .inr ⟨k, Nat.le_refl _, h.le hd hab, h, h4⟩
def BoolsAt (cs : Array Value) (n : Nat) (T : Nat → Prop) : Prop := cs.size = n ∧ ∀ j, j < n → ∃ v : Bool, cs[j]? = some (.bool v) ∧ (v = true ↔ T j)
theorem BoolsAt.set {cs : Array Value} {n i : Nat} {T T' : Nat → Prop} (h : BoolsAt cs n T) (hi : i < n) (ht : ∀ j, T' j ↔ T j ∨ j = i) : BoolsAt (cs.setIfInBounds i (.bool true)) n T' := by
 refine ⟨by simp [h.1], fun j hj => ?_⟩
 by_cases e : j = i
 · subst e
   exact ⟨true, by rw [Array.getElem?_setIfInBounds_self_of_lt (by rw [h.1]; exact hj)], by simp [ht]⟩
 · obtain ⟨v, h1, h2⟩ := h.2 j hj
   refine ⟨v, by rw [Array.getElem?_setIfInBounds_ne (fun h => e h.symm)]; exact h1, ?_⟩
   rw [h2, ht]
   simp [e]
theorem BoolsAt.congr {cs : Array Value} {n : Nat} {T T' : Nat → Prop} (h : BoolsAt cs n T) (ht : ∀ j, T' j ↔ T j) : BoolsAt cs n T' :=
 ⟨h.1, fun j hj => by obtain ⟨v, h1, h2⟩ := h.2 j hj; exact ⟨v, h1, h2.trans (ht j).symm⟩⟩
end Go.Proofs.YtdojaijnejcoiaaGreat
namespace Go.Proofs.YtdojaijnejcoiaaGreat
open Go.RowKit
theorem partsN_le (k : Int) : partsN k ≤ 3 := by
 unfold partsN
 repeat' split
 all_goals omega
theorem OwnB.set_ne {w : World} {g b : Nat} {T : TypeId} {cs : Array Value} (h : OwnB w g T cs) (hb : g ≠ b) (i : Nat) (u : Value) : OwnB (w.setCell ⟨b, i, none⟩ u) g T cs := by
 unfold OwnB at h ⊢
 simp [World.setCell, Array.getElem?_modify, h, show ¬ b = g from fun e => hb e.symm]
theorem madeCells_get (z : Value) (n j : Nat) (hj : j < n) : (madeCells #[z] n)[j]? = some z := by
 simp [madeCells, hj, Nat.mod_one]
theorem BoolsAt.made (n : Nat) : BoolsAt (madeCells #[.bool false] n) n (fun _ => False) :=
 ⟨size_madeCells _ _, fun j hj => ⟨false, madeCells_get _ _ _ hj, by simp⟩⟩
theorem l2Made_calls (sv : Value) (ns : List Nd) (a : Nat) (w : World) (hS : SlAt enNd w sv ns) (ha : a < ns.length) (hd : Down ns ns.length) :
 Calls Tryz.prog 78 #[sv, .int .i64 a] w fun e w' => ∃ cs, e = .returned (.slice (some ⟨w.heap.size, 0, none⟩) ns.length ns.length) ∧ Below w.heap.size w w' ∧ OwnB w' w.heap.size 4 cs ∧ BoolsAt cs ns.length (Reach ns a) := by
 obtain ⟨A, c, rfl, hnc, hc', hA⟩ := hS
 generalize hN : ns.length = n at *
 have HN := Lib.hid hN
 clear hN
 have HD := Lib.hid hd
 have hn : n ≤ 281474976710656 := Nat.le_trans hnc hc'
 clear hc' hnc hd
 have hmk := make_any (P := Tryz.prog) 41 4 (.bool false) 1 1 Tryz.underlying41 (by kernel_rfl) n (by omega) (by omega)
 simp only [Value.cells, Nat.mul_one] at hmk
 go_enter Tryz.func78, Tryz.ntmps78
 have km := madeCells_get (.bool false) n a ha
 have HO := Lib.hid (OwnB.new w 4 ((madeCells #[.bool false] n).setIfInBounds a (.bool true)))
 have HT := Lib.hid ((BoolsAt.made n).set (T' := Marked ns a (a + 1)) ha (fun j => by
  constructor
  · rintro (rfl | ⟨q, h1, h2, -, -⟩)
    · exact .inr rfl
    · omega
  · rintro (h | rfl)
    · exact h.elim
    · exact .inl rfl))
 have HB := Lib.hid (box_below w ((madeCells #[.bool false] n).setIfInBounds a (.bool true)) 4)
 go_wp2
 clear km hmk
 generalize (madeCells #[.bool false] n).setIfInBounds a (.bool true) = cs0 at *
 generalize w.alloc (.cells cs0 4) = w2 at *
 go_loopw [6] (fun i wr => ∃ (k : Nat) (z : Int), k ≤ a + 1 ∧ z = (k : Int) - 1 ∧ i = .int .i64 z ∧ ∃ cs : Array Value, Hid (OwnB wr w.heap.size 4 cs ∧ BoolsAt cs n (Marked ns a k) ∧ Below w.heap.size w wr)) (fun i _ => (intOf i + 1).toNat)
 case atStart => exact ⟨a + 1, a, Nat.le_refl _, by omega, rfl, cs0, Lib.hid ⟨HO.out, HT.out, HB.out⟩⟩
 case round =>
  obtain ⟨k, z, hk, hz, rfl, cs, HI⟩ := hrel
  rcases Nat.eq_zero_or_pos k with rfl | hpos
  · have hz0 : ¬ (0 ≤ z) := by omega
    clear hA hk hz
    go_wp2
    go_ret
    exact ⟨rfl, HI.out.2.2, cs, HI.out.1, HI.out.2.1.congr (fun j => (marked_all HD.out ha).symm)⟩
  · obtain ⟨q, rfl⟩ : ∃ q, k = q + 1 := ⟨k - 1, by omega⟩
    obtain rfl : z = (q : Int) := by omega
    have hqn : q < n := by omega
    have hqa : q ≤ a := by omega
    clear hk hz hpos
    obtain ⟨v, hv, hvt⟩ := HI.out.2.1.2 q hqn
    have HV := Lib.hid hvt
    have hld : wr.cell? ⟨w.heap.size, q, none⟩ = some (.bool v) := (HI.out.1.cell q).trans hv
    clear hv hvt
    cases v
    · have hno : ¬ Reach ns a q := fun h => by
       have := HV.out.2 ((marked_at HD.out ha).2 h); cases this
      have HI2 := Lib.hid (show OwnB wr w.heap.size 4 cs ∧ BoolsAt cs n (Marked ns a q) ∧ Below w.heap.size w wr from ⟨HI.out.1, HI.out.2.1.congr (fun j => marked_no hno), HI.out.2.2⟩)
      clear hA HV hno HI
      go_wp2
      go_roundw
      case rel => exact ⟨q, (q : Int) - 1, by omega, rfl, rfl, cs, HI2⟩
      case measure => simp [intOf] <;> omega
    · have hre : Reach ns a q := (marked_at HD.out ha).1 (HV.out.1 rfl)
      obtain ⟨g, o, rfl, hx⟩ := hA q _ (getD_at (by rw [HN.out]; exact hqn) Nd.zero)
      generalize hxe : ns.getD q Nd.zero = x at hx
      have HX := Lib.hid hxe
      clear hxe
      have HXX := Lib.hid hx
      have p1 : wr.cell? ⟨g, o + q * 9 + 1, none⟩ = some (.int .i64 x.a) := hx.at_ HI.out.2.2 1 _ rfl ⟨wr, Below.refl _ _⟩
      have p2 : wr.cell? ⟨g, o + q * 9 + 2, none⟩ = some (.int .i64 x.b) := hx.at_ HI.out.2.2 2 _ rfl ⟨wr, Below.refl _ _⟩
      have p3 : wr.cell? ⟨g, o + q * 9 + 3, none⟩ = some (.int .i64 x.c) := hx.at_ HI.out.2.2 3 _ rfl ⟨wr, Below.refl _ _⟩
      have HRE := Lib.hid hre
      clear hx hA HV hre
      go_wp2
      go_region_held3 (fun w' => w'.cell? ⟨g, o + q * 9 + 1, none⟩ = some (.int .i64 x.a) ∧ w'.cell? ⟨g, o + q * 9 + 2, none⟩ = some (.int .i64 x.b) ∧ w'.cell? ⟨g, o + q * 9 + 3, none⟩ = some (.int .i64 x.c)) (go_keep) (fail)
      have HO3 := Lib.hid (show OwnB (wr.alloc (Obj.cells #[Value.int IntKind.i64 x.a, Value.int IntKind.i64 x.b, Value.int IntKind.i64 x.c] 3)).drew wr.heap.size 3 #[Value.int IntKind.i64 x.a, Value.int IntKind.i64 x.b, Value.int IntKind.i64 x.c] from OwnB.new wr _ _)
      have HB3 := Lib.hid (show Below wr.heap.size wr (wr.alloc (Obj.cells #[Value.int IntKind.i64 x.a, Value.int IntKind.i64 x.b, Value.int IntKind.i64 x.c] 3)).drew from (box_below wr _ _).drew)
      have HLT := Lib.hid (show w.heap.size < wr.heap.size from HI.out.1.lt)
      have HI3 := Lib.hid (show OwnB (wr.alloc (Obj.cells #[Value.int IntKind.i64 x.a, Value.int IntKind.i64 x.b, Value.int IntKind.i64 x.c] 3)).drew w.heap.size 4 cs ∧ Below w.heap.size w (wr.alloc (Obj.cells #[Value.int IntKind.i64 x.a, Value.int IntKind.i64 x.b, Value.int IntKind.i64 x.c] 3)).drew from ⟨HI.out.1.below HB3.out HLT.out, HI.out.2.2.trans (HB3.out.mono HI.out.2.2.size)⟩)
      have HM3 := Lib.hid HI.out.2.1
      clear HB3 HI
      generalize (wr.alloc (Obj.cells #[Value.int IntKind.i64 x.a, Value.int IntKind.i64 x.b, Value.int IntKind.i64 x.c] 3)).drew = w3 at *
      generalize hB : wr.heap.size = B at *
      clear p1 p2 p3 hB hld
      go_wp2
      go_loopw [8] (fun i wi => ∃ (m : Nat), (m : Int) ≤ 3 ∧ i = .int .i64 m ∧ ∃ cs' : Array Value, Hid (OwnB wi w.heap.size 4 cs' ∧ BoolsAt cs' n (fun j => Marked ns a (q + 1) j ∨ ∃ m' : Nat, m' < m ∧ (m' : Int) < partsN x.kind ∧ x.part m' = j) ∧ OwnB wi B 3 #[Value.int IntKind.i64 x.a, Value.int IntKind.i64 x.b, Value.int IntKind.i64 x.c] ∧ Below w.heap.size w wi)) (fun i _ => 3 - (intOf i).toNat)
      case atStart => exact ⟨0, by omega, rfl, cs, Lib.hid ⟨HI3.out.1, HM3.out.congr (fun j => by simp), HO3.out, HI3.out.2⟩⟩
      case round =>
       obtain ⟨m, hm, rfl, cs', HI⟩ := hrel
       have p0 : wr.cell? ⟨g, o + q * 9, none⟩ = some (.int .i64 x.kind) := HXX.out.at_ HI.out.2.2.2 0 _ rfl ⟨_, Below.refl _ _⟩
       by_cases hlt : (m : Int) < partsN x.kind
       · have hm3 : m < 3 := by have := partsN_le x.kind; omega
         have hdn := HD.out q hqn m hm3 (by rw [HX.out]; exact hlt)
         rw [HX.out] at hdn
         have hpart : IsPart ns q (x.part m).toNat := ⟨m, hm3, by rw [HX.out]; exact hlt, by rw [HX.out, Int.toNat_of_nonneg hdn.1]⟩
         have hl : wr.cell? ⟨B, m, none⟩ = some (.int .i64 (x.part m)) := by
          rw [HI.out.2.2.1.cell m]
          rcases (show m = 0 ∨ m = 1 ∨ m = 2 by omega) with rfl | rfl | rfl <;> rfl
         generalize hp : x.part m = pp at *
         obtain ⟨p, rfl⟩ := Int.eq_ofNat_of_zero_le hdn.1
         have hpn : p < n := by omega
         have HP := Lib.hid hp
         clear hp hdn hpart
         obtain ⟨vb, hvb, -⟩ := HI.out.2.1.2 p hpn
         have hgc : wr.cell? ⟨w.heap.size, p, none⟩ = some (.bool vb) := (HI.out.1.cell p).trans hvb
         have hgf : wr.frozen? ⟨w.heap.size, p, none⟩ = false := HI.out.1.frozen p
         have HI2 := Lib.hid (show OwnB (wr.setCell ⟨w.heap.size, p, none⟩ (.bool true)) w.heap.size 4 (cs'.setIfInBounds p (.bool true)) ∧ BoolsAt (cs'.setIfInBounds p (.bool true)) n (fun j => Marked ns a (q + 1) j ∨ ∃ m' : Nat, m' < m + 1 ∧ (m' : Int) < partsN x.kind ∧ x.part m' = j) ∧ OwnB (wr.setCell ⟨w.heap.size, p, none⟩ (.bool true)) B 3 #[Value.int IntKind.i64 x.a, Value.int IntKind.i64 x.b, Value.int IntKind.i64 x.c] ∧ Below w.heap.size w (wr.setCell ⟨w.heap.size, p, none⟩ (.bool true)) from
          ⟨HI.out.1.set _ _, HI.out.2.1.set hpn (fun j => by
           constructor
           · rintro (h | ⟨m', h1, h2, h3⟩)
             · exact .inl (.inl h)
             · rcases Nat.lt_or_ge m' m with g | g
               · exact .inl (.inr ⟨m', g, h2, h3⟩)
               · obtain rfl : m' = m := by omega
                 right
                 rw [HP.out] at h3
                 omega
           · rintro ((h | ⟨m', h1, h2, h3⟩) | rfl)
             · exact .inl h
             · exact .inr ⟨m', by omega, h2, h3⟩
             · exact .inr ⟨m, by omega, hlt, HP.out⟩), HI.out.2.2.1.set_ne (by have := HLT.out; omega) _ _, HI.out.2.2.2.setCell (Nat.le_refl _) _⟩)
         clear HI hvb
         go_wp2_with (go_at_call 46; refine (l2Parts_same _ _).mono ?_; rintro e w' ⟨rfl, rfl⟩)
         go_roundw
         case rel => exact ⟨m + 1, by omega, by go_num, _, HI2⟩
         case measure => simp [intOf] <;> omega
       · have HI2 := Lib.hid (show OwnB wr w.heap.size 4 cs' ∧ BoolsAt cs' n (Marked ns a q) ∧ Below w.heap.size w wr from
          ⟨HI.out.1, HI.out.2.1.congr (fun j => by
           rw [marked_yes HD.out ha HRE.out]
           refine or_congr_right ⟨?_, ?_⟩
           · rintro ⟨m', h3, h1, h2⟩
             rw [HX.out] at h1 h2
             exact ⟨m', by omega, h1, h2⟩
           · rintro ⟨m', h3, h1, h2⟩
             exact ⟨m', by have := partsN_le x.kind; omega, by rw [HX.out]; exact h1, by rw [HX.out]; exact h2⟩), HI.out.2.2.2⟩)
         clear HI
         go_wp2_with (go_at_call 46; refine (l2Parts_same _ _).mono ?_; rintro e w' ⟨rfl, rfl⟩)
         go_roundw
         case rel => exact ⟨q, (q : Int) - 1, by omega, rfl, rfl, _, HI2⟩
         case measure => simp [intOf] <;> omega
end Go.Proofs.YtdojaijnejcoiaaGreat
namespace Go.Proofs.YtdojaijnejcoiaaGreat
open Go.RowKit
def kindB (ns : List Nd) (j : Nat) : Bool := (ns.getD j Nd.zero).kind == 36 || (ns.getD j Nd.zero).kind == 35
def Fixed (ns : List Nd) (a : Nat) : Prop := ∀ j, Reach ns a j → kindB ns j = false
open Classical in
noncomputable def fixedB (ns : List Nd) (a : Nat) : Bool := decide (Fixed ns a)
theorem fixedB_no {ns : List Nd} {a j : Nat} (h : Reach ns a j) (hk : kindB ns j = true) : fixedB ns a = false := by
 have : ¬ Fixed ns a := fun hf => by rw [hf j h] at hk; cases hk
 simp [fixedB, this]
theorem fixedB_yes {ns : List Nd} {a b : Nat} (hd : Down ns b) (hab : a < b) (h : ∀ j, j < a + 1 → Reach ns a j → kindB ns j = false) : fixedB ns a = true := by
 have : Fixed ns a := fun j hj => h j (by have := hj.le hd hab; omega) hj
 simp [fixedB, this]
theorem l2Fixed_calls (mv : Value) (M : Md) (a : Nat) (w : World) (hM : MdAt w mv M) (ha : a < M.nodes.length) (hd : Down M.nodes M.nodes.length) :
 Makes Tryz.prog 76 #[mv, .int .i64 a] w (.bool (fixedB M.nodes a)) := by
 obtain ⟨s0, s1, s2, s3, s4, rfl, hS, -, -, -, -⟩ := hM.at_
 have HS := Lib.hid hS
 obtain ⟨A, c, rfl, hnc, hc', hA⟩ := hS
 clear hM
 obtain ⟨R, hR⟩ : ∃ R, R = fixedB M.nodes a := ⟨_, rfl⟩
 have HR := Lib.hid hR
 rw [← hR]
 clear hR
 have HNO := Lib.hid (show ∀ j, Reach M.nodes a j → kindB M.nodes j = true → R = false from fun j h1 h2 => HR.out.trans (fixedB_no h1 h2))
 have HYES := Lib.hid (show (∀ j, j < a + 1 → Reach M.nodes a j → kindB M.nodes j = false) → R = true from fun h => HR.out.trans (fixedB_yes hd ha h))
 generalize hN : M.nodes.length = n at *
 have HN := Lib.hid hN
 clear hN
 have HD := Lib.hid hd
 have hn : n ≤ 281474976710656 := Nat.le_trans hnc hc'
 clear hc' hnc hd HR
 have HB0 := Lib.hid (box_below w #[.slice A n c, s1, s2, s3, s4] 31)
 have m0 := box_cell w #[.slice A n c, s1, s2, s3, s4] 31 0 _ rfl
 have HM0 := Lib.hid m0
 have m1 : (w.alloc (.cells #[.slice A n c, s1, s2, s3, s4] 31)).cell? ⟨w.heap.size, 0, none⟩ = some (.slice A n c) := m0 ⟨_, Below.refl _ _⟩
 clear m0
 go_enter Tryz.func76, Tryz.ntmps76
 go_wp2_with (go_at_call 78; refine (l2Made_calls _ M.nodes a _ (HS.out.below HB0.out) (by rw [HN.out]; exact ha) (by rw [HN.out]; exact HD.out)).mono ?_; rintro e w' ⟨cs, rfl, hb, ho, hat⟩; rw [HN.out] at hat ⊢; have HB1 := Lib.hid hb; have HO1 := Lib.hid ho; have HAT := Lib.hid hat; clear hb ho hat)
 have HB := Lib.hid (HB0.out.trans (HB1.out.mono HB0.out.size))
 have m1 : w'.cell? ⟨w.heap.size, 0, none⟩ = some (.slice A n c) := HM0.out ⟨w', HB1.out⟩
 simp only [World.size_alloc] at HO1 ⊢
 generalize w.heap.size + 1 = g2 at *
 clear HB0 HB1 HM0
 go_loop [6] (fun i => ∃ k : Nat, k ≤ a + 1 ∧ i = .int .i64 k ∧ Hid (∀ j, j < k → Reach M.nodes a j → kindB M.nodes j = false)) (fun i => a + 1 - (intOf i).toNat)
 case atStart => exact ⟨0, Nat.zero_le _, rfl, Lib.hid (fun j hj => absurd hj (Nat.not_lt_zero _))⟩
 case round =>
  obtain ⟨k, hk, rfl, hto⟩ := hrel
  by_cases hlt : k ≤ a
  · have hkn : k < n := by omega
    have hle : (k : Int) ≤ (a : Int) := by omega
    obtain ⟨v, hv, hvt⟩ := HAT.out.2 k hkn
    have HV := Lib.hid hvt
    have hld : w'.cell? ⟨g2, k, none⟩ = some (.bool v) := (HO1.out.cell k).trans hv
    clear hv hvt
    have hnext : (Reach M.nodes a k → kindB M.nodes k = false) → Hid (∀ j, j < k + 1 → Reach M.nodes a j → kindB M.nodes j = false) := fun h => Lib.hid (fun j hj => by
     rcases Nat.lt_or_ge j k with g | g
     · exact hto.out j g
     · obtain rfl : j = k := by omega
       exact h)
    clear hto
    cases v
    · have HI2 := hnext (fun h => by have := HV.out.2 h; cases this)
      clear hnext hA HV
      go_wp2
      go_round
      case rel => exact ⟨k + 1, by omega, by go_num, HI2⟩
      case measure => simp [intOf] <;> omega
    · have hre := HV.out.1 rfl
      obtain ⟨g, o, rfl, hx⟩ := hA k _ (getD_at (by rw [HN.out]; exact hkn) Nd.zero)
      have hkb : kindB M.nodes k = ((M.nodes.getD k Nd.zero).kind == 36 || (M.nodes.getD k Nd.zero).kind == 35) := rfl
      have hbad : kindB M.nodes k = true → R = false := fun h => HNO.out k hre h
      generalize M.nodes.getD k Nd.zero = x at *
      have p0 : w'.cell? ⟨g, o + k * 9, none⟩ = some (.int .i64 x.kind) := hx.at_ HB.out 0 _ rfl ⟨_, Below.refl _ _⟩
      clear hx hA HV hre
      by_cases h1 : (x.kind == 36) = true
      · have HR := Lib.hid (hbad (by rw [hkb, h1]; rfl))
        clear hbad hkb hnext
        go_wp2
        go_ret
        exact ⟨ret_eq (congrArg Value.bool HR.out.symm), HB.out⟩
      · have h1 := eq_false_of_ne_true h1
        by_cases h2 : (x.kind == 35) = true
        · have HR := Lib.hid (hbad (by rw [hkb, h1, h2]; rfl))
          clear hbad hkb hnext
          go_wp2
          go_ret
          exact ⟨ret_eq (congrArg Value.bool HR.out.symm), HB.out⟩
        · have h2 := eq_false_of_ne_true h2
          have HI2 := hnext (fun _ => by rw [hkb, h1, h2]; rfl)
          clear hbad hkb hnext
          go_wp2
          go_round
          case rel => exact ⟨k + 1, by omega, by go_num, HI2⟩
          case measure => simp [intOf] <;> omega
  · have hle : ¬ (k : Int) ≤ (a : Int) := by omega
    obtain rfl : k = a + 1 := by omega
    have HR := Lib.hid (HYES.out hto.out)
    clear hto hA
    go_wp2
    go_ret
    exact ⟨ret_eq (congrArg Value.bool HR.out.symm), HB.out⟩
end Go.Proofs.YtdojaijnejcoiaaGreat
namespace Go.Proofs.YtdojaijnejcoiaaGreat
open Go.RowKit
attribute [local go_sem high] eq_sort
def wordB (ns : List Nd) (b : Bd) : Bool := inB b.st 0 ((ns.length : Int) - 1) && (inB b.nd 0 ((ns.length : Int) - 1) && (((ns.getD b.st.toNat Nd.zero).kind == 36) && ((ns.getD b.nd.toNat Nd.zero).idx == 0 && (ns.getD b.nd.toNat Nd.zero).wid == (ns.getD b.st.toNat Nd.zero).wid)))
def wordBd (ns : List Nd) (b : Bd) : Bd := if wordB ns b = true then ⟨b.st, b.st⟩ else b
noncomputable def initB (ns : List Nd) (b : Bd) : Bool := boundB ns (wordBd ns b) && fixedB ns b.nd.toNat
noncomputable def bindsB (M : Md) : Bool := M.inits.all (initB M.nodes) && M.nexts.all (boundB M.nodes)
theorem all_no {α : Type} {xs : List α} {p : α → Bool} {k : Nat} {z : α} (hk : k < xs.length) (h : p (xs.getD k z) = false) : xs.all p = false := by
 rw [List.all_eq_false]
 refine ⟨xs.getD k z, ?_, by rw [h]; exact Bool.false_ne_true⟩
 exact List.mem_of_getElem? (getD_at hk z)
theorem all_yes {α : Type} {xs : List α} {p : α → Bool} {z : α} (h : ∀ i, i < xs.length → p (xs.getD i z) = true) : xs.all p = true := by
 rw [List.all_eq_true]
 intro x hx
 obtain ⟨i, hi, e⟩ := List.getElem_of_mem hx
 have := h i hi
 rw [List.getD_eq_getElem?_getD, List.getElem?_eq_getElem hi] at this
 rw [← e]; exact this
theorem bound_nd {ns : List Nd} {b : Bd} (h : boundB ns (wordBd ns b) = true) : 0 ≤ b.nd ∧ b.nd ≤ (ns.length : Int) - 1 := by
 unfold wordBd at h
 split at h
 · rename_i hw
   unfold wordB at hw
   simp only [Bool.and_eq_true] at hw
   exact of_inB hw.2.1
 · unfold boundB at h
   simp only [Bool.and_eq_true] at h
   exact of_inB h.2.1
theorem Later.re {w1 w2 : World} {a : Addr} {v : Value} (h : ∀ l : Later w1, l.val.cell? a = some v) (hb : LaterC w1 w2) : ∀ l : Later w2, l.val.cell? a = some v := by
 obtain ⟨u, rfl⟩ := hb
 exact Later.cell (h u)
theorem LaterC.trans {w1 w2 w3 : World} (h : LaterC w1 w2) (h' : LaterC w2 w3) : LaterC w1 w3 := by
 obtain ⟨u, rfl⟩ := h
 obtain ⟨u', rfl⟩ := h'
 exact u.step u'.prop
theorem LaterC.of {w1 w2 : World} (h : Below w1.heap.size w1 w2) : LaterC w1 w2 := ⟨⟨w2, h⟩, rfl⟩
theorem LaterC.below {w1 w2 : World} (h : LaterC w1 w2) : Below w1.heap.size w1 w2 := by
 obtain ⟨u, rfl⟩ := h
 exact u.prop
theorem at_world {φ : World → Prop} {w : World} (h : ∀ u : Later w, φ u.val) : φ w := h ⟨w, Below.refl _ _⟩
theorem l2Binds_calls (mv : Value) (M : Md) (w : World) (hM : MdAt w mv M) (hd : Down M.nodes M.nodes.length) :
 Makes Tryz.prog 41 #[mv] w (.bool (bindsB M)) := by
 have HM := Lib.hid hM
 obtain ⟨s0, s1, s2, s3, s4, rfl, hN, hI, hX, -, -⟩ := hM.at_
 obtain ⟨A0, c0, rfl, hl0, hc0, hN⟩ := hN
 obtain ⟨A1, c1, rfl, hl1, hc1, hI⟩ := hI
 obtain ⟨A2, c2, rfl, hl2, hc2, hX⟩ := hX
 clear hM
 obtain ⟨R, hR⟩ : ∃ R, R = bindsB M := ⟨_, rfl⟩
 rw [← hR]
 unfold bindsB at hR
 have HNO1 := Lib.hid (show ∀ k, k < M.inits.length → initB M.nodes (M.inits.getD k Bd.zero) = false → R = false from fun k h1 h2 => by rw [hR, all_no h1 h2]; rfl)
 have HR := Lib.hid hR
 clear hR
 generalize hn0 : M.nodes.length = n0 at *
 generalize hn1 : M.inits.length = n1 at *
 generalize hn2 : M.nexts.length = n2 at *
 have HN0 := Lib.hid hn0
 have HN1 := Lib.hid hn1
 have HN2 := Lib.hid hn2
 have HD := Lib.hid hd
 clear hn0 hn1 hn2 hd
 go_enter Tryz.func41, Tryz.ntmps41
 go_wp2
 generalize hw1 : w.alloc (Obj.cells #[.slice A0 n0 c0, .slice A1 n1 c1, .slice A2 n2 c2, s3, s4] 31) = w1
 have mA0 : ∀ u : Later w1, u.val.cell? ⟨w.heap.size, 0, none⟩ = some (.slice A0 n0 c0) := Later.cell (by rw [← hw1]; simp)
 have mA1 : ∀ u : Later w1, u.val.cell? ⟨w.heap.size, 1, none⟩ = some (.slice A1 n1 c1) := Later.cell (by rw [← hw1]; simp)
 have mA2 : ∀ u : Later w1, u.val.cell? ⟨w.heap.size, 2, none⟩ = some (.slice A2 n2 c2) := Later.cell (by rw [← hw1]; simp)
 have mA3 : ∀ u : Later w1, u.val.cell? ⟨w.heap.size, 3, none⟩ = some s3 := Later.cell (by rw [← hw1]; simp)
 have mA4 : ∀ u : Later w1, u.val.cell? ⟨w.heap.size, 4, none⟩ = some s4 := Later.cell (by rw [← hw1]; simp)
 have HB := Lib.hid (show Below w.heap.size w w1 by rw [← hw1]; exact (Below.refl _ _).alloc (Nat.le_refl _) _)
 clear hw1
 generalize w.heap.size = g0 at mA0 mA1 mA2 mA3 mA4 ⊢
 go_loopw [3] (fun i wr => ∃ k : Nat, k ≤ n1 ∧ i = .int .i64 k ∧ Hid (∀ j, j < k → initB M.nodes (M.inits.getD j Bd.zero) = true) ∧ LaterC w1 wr) (fun i _ => n1 - (intOf i).toNat)
 case atStart => exact ⟨0, Nat.zero_le _, rfl, Lib.hid (fun i hi => absurd hi (Nat.not_lt_zero _)), LaterC.refl _⟩
 case round =>
  obtain ⟨k, hk, rfl, hto, ⟨u, rfl⟩⟩ := hrel
  by_cases hlt : k < n1
  · obtain ⟨g, o, rfl, hx⟩ := hI k _ (getD_at (by rw [HN1.out]; exact hlt) Bd.zero)
    have hno := HNO1.out k hlt
    generalize hxe : M.inits.getD k Bd.zero = x at hx hno
    have HX := Lib.hid hxe
    have HNO := Lib.hid hno
    clear hxe hno
    obtain ⟨bs, bn⟩ := x
    have p0 : ∀ l : Later w1, l.val.cell? ⟨g, o + k * 2, none⟩ = some (.int .i64 bs) := hx.at_ HB.out 0 _ rfl
    have p1 : ∀ l : Later w1, l.val.cell? ⟨g, o + k * 2 + 1, none⟩ = some (.int .i64 bn) := hx.at_ HB.out 1 _ rfl
    clear hx hI
    go_wp2
    have q0 : ((u.val.alloc (Obj.cells #[Value.int IntKind.i64 bs, Value.int IntKind.i64 bn] 57)).alloc (Obj.cells #[Value.int IntKind.i64 bs, Value.int IntKind.i64 bn] 57)).cell? ⟨u.val.heap.size, 0, none⟩ = some (.int .i64 bs) := by go_simp
    have q1 : ((u.val.alloc (Obj.cells #[Value.int IntKind.i64 bs, Value.int IntKind.i64 bn] 57)).alloc (Obj.cells #[Value.int IntKind.i64 bs, Value.int IntKind.i64 bn] 57)).cell? ⟨u.val.heap.size, 1, none⟩ = some (.int .i64 bn) := by go_simp
    have q2 : ((u.val.alloc (Obj.cells #[Value.int IntKind.i64 bs, Value.int IntKind.i64 bn] 57)).alloc (Obj.cells #[Value.int IntKind.i64 bs, Value.int IntKind.i64 bn] 57)).cell? ⟨u.val.heap.size + 1, 0, none⟩ = some (.int .i64 bs) := by go_simp
    have q3 : ((u.val.alloc (Obj.cells #[Value.int IntKind.i64 bs, Value.int IntKind.i64 bn] 57)).alloc (Obj.cells #[Value.int IntKind.i64 bs, Value.int IntKind.i64 bn] 57)).cell? ⟨u.val.heap.size + 1, 1, none⟩ = some (.int .i64 bn) := by go_simp
    have q4 : ((u.val.alloc (Obj.cells #[Value.int IntKind.i64 bs, Value.int IntKind.i64 bn] 57)).alloc (Obj.cells #[Value.int IntKind.i64 bs, Value.int IntKind.i64 bn] 57)).frozen? ⟨u.val.heap.size + 1, 1, none⟩ = false := by go_simp
    have hL2 : LaterC w1 ((u.val.alloc (Obj.cells #[Value.int IntKind.i64 bs, Value.int IntKind.i64 bn] 57)).alloc (Obj.cells #[Value.int IntKind.i64 bs, Value.int IntKind.i64 bn] 57)) := u.step ((box_below _ _ _).alloc (by simp) _)
    have hG1 : w1.heap.size ≤ u.val.heap.size := u.size
    generalize ((u.val.alloc (Obj.cells #[Value.int IntKind.i64 bs, Value.int IntKind.i64 bn] 57)).alloc (Obj.cells #[Value.int IntKind.i64 bs, Value.int IntKind.i64 bn] 57)) = w2 at *
    generalize u.val.heap.size = G at *
    have q4 := Later.frozen q4 (World.block_lt_of_cell? _ _ q3)
    have q0 := Later.cell q0
    have q1 := Later.cell q1
    have q2 := Later.cell q2
    have q3 := Later.cell q3
    have hg0 : g0 < G := Nat.lt_of_lt_of_le (World.block_lt_of_cell? _ _ (mA0 ⟨w1, Below.refl _ _⟩)) hG1
    have mB0 := Later.re mA0 hL2
    have mB1 := Later.re mA1 hL2
    have mB2 := Later.re mA2 hL2
    have mB3 := Later.re mA3 hL2
    have mB4 := Later.re mA4 hL2
    have HL2 := Lib.hid hL2
    clear mA0 mA1 mA2 mA3 mA4 hL2
    obtain ⟨cnd, hcnd⟩ : ∃ c, c = wordB M.nodes ⟨bs, bn⟩ := ⟨_, rfl⟩
    have HC := Lib.hid hcnd
    unfold wordB at hcnd
    simp only at hcnd
    rw [HN0.out] at hcnd
    have HC0 := Lib.hid hcnd
    clear hcnd
    go_cut [64] (fun c wx => c = .bool cnd ∧ LaterC w2 wx)
    case first =>
     by_cases hs : inB bs 0 ((n0 : Int) - 1) = true
     · have HS := Lib.hid hs
       have hs2 := of_inB hs
       clear hs
       by_cases ht : inB bn 0 ((n0 : Int) - 1) = true
       · have HT := Lib.hid ht
         have ht2 := of_inB ht
         clear ht
         obtain ⟨i, rfl⟩ := Int.eq_ofNat_of_zero_le hs2.1
         obtain ⟨j, rfl⟩ := Int.eq_ofNat_of_zero_le ht2.1
         have hi : i < n0 := by omega
         have hj : j < n0 := by omega
         obtain ⟨g', o', rfl, hx⟩ := hN i _ (getD_at (by rw [HN0.out]; exact hi) Nd.zero)
         obtain ⟨g'', o'', hg, hy⟩ := hN j _ (getD_at (by rw [HN0.out]; exact hj) Nd.zero)
         cases hg
         rw [HS.out, HT.out, Bool.true_and, Bool.true_and, Int.toNat_natCast, Int.toNat_natCast] at HC0
         generalize M.nodes.getD i Nd.zero = x at hx HC0
         generalize M.nodes.getD j Nd.zero = y at hy HC0
         have HB2 := HB.out.trans (HL2.out.below.mono HB.out.size)
         have r0 : ∀ l : Later w2, l.val.cell? ⟨g', o' + i * 9, none⟩ = some (.int .i64 x.kind) := hx.at_ HB2 0 _ rfl
         have r7 : ∀ l : Later w2, l.val.cell? ⟨g', o' + i * 9 + 6 + 1, none⟩ = some (.int .i64 x.wid) := hx.at_ HB2 7 _ rfl
         have t6 : ∀ l : Later w2, l.val.cell? ⟨g', o' + j * 9 + 6, none⟩ = some (.int .i64 y.idx) := hy.at_ HB2 6 _ rfl
         have t7 : ∀ l : Later w2, l.val.cell? ⟨g', o' + j * 9 + 7, none⟩ = some (.int .i64 y.wid) := hy.at_ HB2 7 _ rfl
         clear hx hy hN HB2
         by_cases hk : (x.kind == 36) = true
         · by_cases he : (y.idx == 0 && (y.wid == x.wid)) = true
           · have HW := Lib.hid (show cnd = true from HC0.out.trans (by rw [hk, he]; rfl))
             refine wp_region_later (w0 := w2) (by kernel_rfl) (by kernel_rfl) (LaterC.refl _) ?_
             repeat (go_big_quiet_step (first | (go_at_call 73; with_reducible exact Calls.later_eq (l1In_calls (i : Int) 0 ((n0 : Int) - 1) _) (congrArg Value.bool HS.out)) | (go_at_call 73; with_reducible exact Calls.later_eq (l1In_calls (j : Int) 0 ((n0 : Int) - 1) _) (congrArg Value.bool HT.out)) | (go_at_call 74; exact Calls.later (l2Word_calls _ _))))
             refine wpQuiet_nil ?_
             rintro _ ⟨u1, rfl⟩
             go_wp2
             go_meet
             case rel => exact ⟨congrArg Value.bool HW.out.symm, ⟨u1, rfl⟩⟩
           · have he := eq_false_of_ne_true he
             have HW := Lib.hid (show cnd = false from HC0.out.trans (by rw [hk, he]; rfl))
             refine wp_region_later (w0 := w2) (by kernel_rfl) (by kernel_rfl) (LaterC.refl _) ?_
             repeat (go_big_quiet_step (first | (go_at_call 73; with_reducible exact Calls.later_eq (l1In_calls (i : Int) 0 ((n0 : Int) - 1) _) (congrArg Value.bool HS.out)) | (go_at_call 73; with_reducible exact Calls.later_eq (l1In_calls (j : Int) 0 ((n0 : Int) - 1) _) (congrArg Value.bool HT.out)) | (go_at_call 74; exact Calls.later (l2Word_calls _ _))))
             refine wpQuiet_nil ?_
             rintro _ ⟨u1, rfl⟩
             go_wp2
             go_meet
             case rel => exact ⟨congrArg Value.bool HW.out.symm, ⟨u1, rfl⟩⟩
         · have hk := eq_false_of_ne_true hk
           have HW := Lib.hid (show cnd = false from HC0.out.trans (by rw [hk]; rfl))
           refine wp_region_later (w0 := w2) (by kernel_rfl) (by kernel_rfl) (LaterC.refl _) ?_
           repeat (go_big_quiet_step (first | (go_at_call 73; with_reducible exact Calls.later_eq (l1In_calls (i : Int) 0 ((n0 : Int) - 1) _) (congrArg Value.bool HS.out)) | (go_at_call 73; with_reducible exact Calls.later_eq (l1In_calls (j : Int) 0 ((n0 : Int) - 1) _) (congrArg Value.bool HT.out)) | (go_at_call 74; exact Calls.later (l2Word_calls _ _))))
           refine wpQuiet_nil ?_
           rintro _ ⟨u1, rfl⟩
           go_wp2
           go_meet
           case rel => exact ⟨congrArg Value.bool HW.out.symm, ⟨u1, rfl⟩⟩
       · have HT := Lib.hid (eq_false_of_ne_true ht)
         have HW := Lib.hid (show cnd = false by rw [HC0.out, HS.out, HT.out]; rfl)
         clear ht hN
         refine wp_region_later (w0 := w2) (by kernel_rfl) (by kernel_rfl) (LaterC.refl _) ?_
         repeat (go_big_quiet_step (first | (go_at_call 73; with_reducible exact Calls.later_eq (l1In_calls bs 0 ((n0 : Int) - 1) _) (congrArg Value.bool HS.out)) | (go_at_call 73; with_reducible exact Calls.later_eq (l1In_calls bn 0 ((n0 : Int) - 1) _) (congrArg Value.bool HT.out)) | (go_at_call 74; exact Calls.later (l2Word_calls _ _))))
         refine wpQuiet_nil ?_
         rintro _ ⟨u1, rfl⟩
         go_wp2
         go_meet
         case rel => exact ⟨congrArg Value.bool HW.out.symm, ⟨u1, rfl⟩⟩
     · have HS := Lib.hid (eq_false_of_ne_true hs)
       have HT := HS
       have HW := Lib.hid (show cnd = false by rw [HC0.out, HS.out]; rfl)
       clear hs hN
       refine wp_region_later (w0 := w2) (by kernel_rfl) (by kernel_rfl) (LaterC.refl _) ?_
       repeat (go_big_quiet_step (first | (go_at_call 73; with_reducible exact Calls.later_eq (l1In_calls bs 0 ((n0 : Int) - 1) _) (congrArg Value.bool HS.out)) | (go_at_call 73; with_reducible exact Calls.later_eq (l1In_calls bn 0 ((n0 : Int) - 1) _) (congrArg Value.bool HT.out)) | (go_at_call 74; exact Calls.later (l2Word_calls _ _))))
       refine wpQuiet_nil ?_
       rintro _ ⟨u1, rfl⟩
       go_wp2
       go_meet
       case rel => exact ⟨congrArg Value.bool HW.out.symm, ⟨u1, rfl⟩⟩
    case rest =>
     obtain ⟨rfl, u1, rfl⟩ := hcut
     have hmm : MdAt u1.val (Value.agg #[Value.slice A0 n0 c0, Value.slice (some { block := g, off := o }) n1 c1, Value.slice A2 n2 c2, s3, s4]) M := HM.out.below (HB.out.trans ((HL2.out.trans ⟨u1, rfl⟩).below.mono HB.out.size))
     have HMU := Lib.hid hmm
     clear hmm
     cases cnd
     · have HWD := Lib.hid (show wordBd M.nodes ⟨bs, bn⟩ = ⟨bs, bn⟩ by unfold wordBd; rw [← HC.out]; rfl)
       have HL3 := Lib.hid (show LaterC w1 u1.val from HL2.out.trans ⟨u1, rfl⟩)
       have HM3 := HMU
       have m0 := Later.re mB0 ⟨u1, rfl⟩
       have m1 := Later.re mB1 ⟨u1, rfl⟩
       have m2 := Later.re mB2 ⟨u1, rfl⟩
       have m3 := Later.re mB3 ⟨u1, rfl⟩
       have m4 := Later.re mB4 ⟨u1, rfl⟩
       have q0 := Later.re q0 ⟨u1, rfl⟩
       have q1 := Later.re q1 ⟨u1, rfl⟩
       have q2 := Later.re q2 ⟨u1, rfl⟩
       have q3 := Later.re q3 ⟨u1, rfl⟩
       generalize u1.val = w3 at *
       clear mB0 mB1 mB2 mB3 mB4 HC HC0 HMU hN
       refine at_world (w := w3) ?_
       intro u3
       by_cases hbb : boundB M.nodes ⟨bs, bn⟩ = true
       · have hbn : 0 ≤ bn ∧ bn ≤ (n0 : Int) - 1 := by rw [← HN0.out]; exact bound_nd (b := ⟨bs, bn⟩) (by rw [HWD.out]; exact hbb)
         obtain ⟨j, rfl⟩ := Int.eq_ofNat_of_zero_le hbn.1
         have hj : j < n0 := by omega
         have HBB := Lib.hid hbb
         clear hbn hbb
         by_cases hff : fixedB M.nodes j = true
         · have HFF := Lib.hid hff
           have hto' : Hid (∀ i, i < k + 1 → initB M.nodes (M.inits.getD i Bd.zero) = true) := Lib.hid (fun i hi => by
            rcases Nat.lt_or_ge i k with g | g
            · exact hto.out i g
            · obtain rfl : i = k := by omega
              rw [HX.out]; unfold initB; rw [HWD.out, HBB.out, Int.toNat_natCast, hff]; rfl)
           clear hff hto
           go_wp2_with (first | (go_at_call 75; go_loud (refine (Calls.later (u := u3) (l2Bound_calls _ M ⟨bs, (j : Int)⟩ _ (HM3.out.later _))).mono ?_; rintro e w' ⟨rfl, u4, rfl⟩; rw [HBB.out])) | (go_at_call 76; refine (Calls.later (l2Fixed_calls _ M j _ (HM3.out.later _) (by rw [HN0.out]; exact hj) (by rw [HN0.out]; exact HD.out))).mono ?_; rintro e w' ⟨rfl, u5, rfl⟩; rw [HFF.out]))
           go_roundw
           case rel => exact ⟨k + 1, by omega, by go_num, hto', HL3.out.trans ⟨u5, rfl⟩⟩
           case measure => simp [intOf] <;> omega
         · have HFF := Lib.hid (eq_false_of_ne_true hff)
           have HR := Lib.hid (HNO.out (by unfold initB; rw [HWD.out, HBB.out, Int.toNat_natCast, HFF.out]; rfl))
           clear hff hto
           go_wp2_with (first | (go_at_call 75; go_loud (refine (Calls.later (u := u3) (l2Bound_calls _ M ⟨bs, (j : Int)⟩ _ (HM3.out.later _))).mono ?_; rintro e w' ⟨rfl, u4, rfl⟩; rw [HBB.out])) | (go_at_call 76; refine (Calls.later (l2Fixed_calls _ M j _ (HM3.out.later _) (by rw [HN0.out]; exact hj) (by rw [HN0.out]; exact HD.out))).mono ?_; rintro e w' ⟨rfl, u5, rfl⟩; rw [HFF.out]))
           go_ret
           exact ⟨ret_eq (congrArg Value.bool HR.out.symm), HB.out.trans ((HL3.out.trans ⟨u5, rfl⟩).below.mono HB.out.size)⟩
       · have HBB := Lib.hid (eq_false_of_ne_true hbb)
         have HR := Lib.hid (HNO.out (by unfold initB; rw [HWD.out, HBB.out]; rfl))
         clear hbb hto
         go_wp2_with (go_at_call 75; go_loud (refine (Calls.later (u := u3) (l2Bound_calls _ M ⟨bs, bn⟩ _ (HM3.out.later _))).mono ?_; rintro e w' ⟨rfl, u4, rfl⟩; rw [HBB.out]))
         go_ret
         exact ⟨ret_eq (congrArg Value.bool HR.out.symm), HB.out.trans ((HL3.out.trans ⟨u4, rfl⟩).below.mono HB.out.size)⟩
     · have HWD := Lib.hid (show wordBd M.nodes ⟨bs, bn⟩ = ⟨bs, bs⟩ by unfold wordBd; rw [← HC.out]; rfl)
       have HL3 := Lib.hid (show LaterC w1 (u1.val.setCell ⟨G + 1, 1, none⟩ (.int .i64 bs)) from LaterC.of ((HL2.out.trans ⟨u1, rfl⟩).below.setCell (p := ⟨G + 1, 1, none⟩) (by simp only; omega) _))
       have HM3 := Lib.hid (HM.out.below (HB.out.trans (HL3.out.below.mono HB.out.size)))
       have ne : ∀ (b : Nat) (f : Nat) (v : Value), b < G + 1 → u1.val.cell? ⟨b, f, none⟩ = some v → (u1.val.setCell ⟨G + 1, 1, none⟩ (.int .i64 bs)).cell? ⟨b, f, none⟩ = some v := fun b f v hb h => (World.cell?_setCell_other _ _ _ _ (by intro e; simp only [Addr.mk.injEq] at e; omega)).trans h
       have m0 := ne _ _ _ (by omega) (mB0 u1)
       have m1 := ne _ _ _ (by omega) (mB1 u1)
       have m2 := ne _ _ _ (by omega) (mB2 u1)
       have m3 := ne _ _ _ (by omega) (mB3 u1)
       have m4 := ne _ _ _ (by omega) (mB4 u1)
       have e0 := ne _ _ _ (by omega) (q0 u1)
       have e1 := ne _ _ _ (by omega) (q1 u1)
       have e2 : (u1.val.setCell ⟨G + 1, 1, none⟩ (.int .i64 bs)).cell? ⟨G + 1, 0, none⟩ = some (.int .i64 bs) := (World.cell?_setCell_other _ _ _ _ (by intro e; simp only [Addr.mk.injEq] at e; omega)).trans (q2 u1)
       have e3 : (u1.val.setCell ⟨G + 1, 1, none⟩ (.int .i64 bs)).cell? ⟨G + 1, 1, none⟩ = some (.int .i64 bs) := World.cell?_setCell_same _ _ _ (q3 u1)
       clear ne
       have HE := Lib.hid (And.intro m0 (And.intro m1 (And.intro m2 (And.intro m3 (And.intro m4 (And.intro e0 (And.intro e1 (And.intro e2 e3))))))))
       clear m0 m1 m2 m3 m4 e0 e1 e2 e3
       go_upto_region 8 with fail
       obtain ⟨m0, m1, m2, m3, m4, e0, e1, e2, e3⟩ := HE.out
       clear HE q0 q1 q2 q3 q4 mB0 mB1 mB2 mB3 mB4 HC HC0 HMU hN
       generalize (u1.val.setCell ⟨G + 1, 1, none⟩ (.int .i64 bs)) = w3 at *
       have m0 := Later.cell m0
       have m1 := Later.cell m1
       have m2 := Later.cell m2
       have m3 := Later.cell m3
       have m4 := Later.cell m4
       have e0 := Later.cell e0
       have e1 := Later.cell e1
       have e2 := Later.cell e2
       have e3 := Later.cell e3
       refine at_world (w := w3) ?_
       intro u3
       by_cases hbb : boundB M.nodes ⟨bs, bs⟩ = true
       · have hbn : 0 ≤ bn ∧ bn ≤ (n0 : Int) - 1 := by rw [← HN0.out]; exact bound_nd (b := ⟨bs, bn⟩) (by rw [HWD.out]; exact hbb)
         obtain ⟨j, rfl⟩ := Int.eq_ofNat_of_zero_le hbn.1
         have hj : j < n0 := by omega
         have HBB := Lib.hid hbb
         clear hbn hbb
         by_cases hff : fixedB M.nodes j = true
         · have HFF := Lib.hid hff
           have hto' : Hid (∀ i, i < k + 1 → initB M.nodes (M.inits.getD i Bd.zero) = true) := Lib.hid (fun i hi => by
            rcases Nat.lt_or_ge i k with g | g
            · exact hto.out i g
            · obtain rfl : i = k := by omega
              rw [HX.out]; unfold initB; rw [HWD.out, HBB.out, Int.toNat_natCast, hff]; rfl)
           clear hff hto
           go_wp2_with (first | (go_at_call 75; go_loud (refine (Calls.later (u := u3) (l2Bound_calls _ M ⟨bs, bs⟩ _ (HM3.out.later _))).mono ?_; rintro e w' ⟨rfl, u4, rfl⟩; rw [HBB.out])) | (go_at_call 76; refine (Calls.later (l2Fixed_calls _ M j _ (HM3.out.later _) (by rw [HN0.out]; exact hj) (by rw [HN0.out]; exact HD.out))).mono ?_; rintro e w' ⟨rfl, u5, rfl⟩; rw [HFF.out]))
           go_roundw
           case rel => exact ⟨k + 1, by omega, by go_num, hto', HL3.out.trans ⟨u5, rfl⟩⟩
           case measure => simp [intOf] <;> omega
         · have HFF := Lib.hid (eq_false_of_ne_true hff)
           have HR := Lib.hid (HNO.out (by unfold initB; rw [HWD.out, HBB.out, Int.toNat_natCast, HFF.out]; rfl))
           clear hff hto
           go_wp2_with (first | (go_at_call 75; go_loud (refine (Calls.later (u := u3) (l2Bound_calls _ M ⟨bs, bs⟩ _ (HM3.out.later _))).mono ?_; rintro e w' ⟨rfl, u4, rfl⟩; rw [HBB.out])) | (go_at_call 76; refine (Calls.later (l2Fixed_calls _ M j _ (HM3.out.later _) (by rw [HN0.out]; exact hj) (by rw [HN0.out]; exact HD.out))).mono ?_; rintro e w' ⟨rfl, u5, rfl⟩; rw [HFF.out]))
           go_ret
           exact ⟨ret_eq (congrArg Value.bool HR.out.symm), HB.out.trans ((HL3.out.trans ⟨u5, rfl⟩).below.mono HB.out.size)⟩
       · have HBB := Lib.hid (eq_false_of_ne_true hbb)
         have HR := Lib.hid (HNO.out (by unfold initB; rw [HWD.out, HBB.out]; rfl))
         clear hbb hto
         go_wp2_with (go_at_call 75; go_loud (refine (Calls.later (u := u3) (l2Bound_calls _ M ⟨bs, bs⟩ _ (HM3.out.later _))).mono ?_; rintro e w' ⟨rfl, u4, rfl⟩; rw [HBB.out]))
         go_ret
         exact ⟨ret_eq (congrArg Value.bool HR.out.symm), HB.out.trans ((HL3.out.trans ⟨u4, rfl⟩).below.mono HB.out.size)⟩
  · obtain rfl : k = n1 := by omega
    have hR2 : R = M.nexts.all (boundB M.nodes) := by rw [HR.out, all_yes (z := Bd.zero) (fun i hi => hto.out i (by rw [← HN1.out]; exact hi)), Bool.true_and]
    have HNO2 := Lib.hid (show ∀ k, k < n2 → boundB M.nodes (M.nexts.getD k Bd.zero) = false → R = false from fun k h1 h2 => by rw [hR2, all_no (by rw [HN2.out]; exact h1) h2])
    have HYES := Lib.hid (show (∀ j, j < n2 → boundB M.nodes (M.nexts.getD j Bd.zero) = true) → R = true from fun h => by rw [hR2]; exact all_yes (z := Bd.zero) (by rw [HN2.out]; exact h))
    have HM1 := Lib.hid (HM.out.below HB.out)
    clear hR2 hto hI hN
    go_wp2
    go_loopw [6] (fun i wr => ∃ k : Nat, k ≤ n2 ∧ i = .int .i64 k ∧ Hid (∀ j, j < k → boundB M.nodes (M.nexts.getD j Bd.zero) = true) ∧ LaterC w1 wr) (fun i _ => n2 - (intOf i).toNat)
    case atStart => exact ⟨0, Nat.zero_le _, rfl, Lib.hid (fun i hi => absurd hi (Nat.not_lt_zero _)), ⟨u, rfl⟩⟩
    case round =>
     obtain ⟨k, hk, rfl, hto, ⟨u, rfl⟩⟩ := hrel
     by_cases hlt : k < n2
     · obtain ⟨g, o, rfl, hx⟩ := hX k _ (getD_at (by rw [HN2.out]; exact hlt) Bd.zero)
       have hno := HNO2.out k hlt
       generalize hxe : M.nexts.getD k Bd.zero = x at hx hno
       have HX := Lib.hid hxe
       have HNO := Lib.hid hno
       clear hxe hno
       obtain ⟨bs, bn⟩ := x
       have p0 : ∀ l : Later w1, l.val.cell? ⟨g, o + k * 2, none⟩ = some (.int .i64 bs) := hx.at_ HB.out 0 _ rfl
       have p1 : ∀ l : Later w1, l.val.cell? ⟨g, o + k * 2 + 1, none⟩ = some (.int .i64 bn) := hx.at_ HB.out 1 _ rfl
       clear hx hX
       by_cases hbb : boundB M.nodes ⟨bs, bn⟩ = true
       · have HBB := Lib.hid hbb
         have hto' : Hid (∀ i, i < k + 1 → boundB M.nodes (M.nexts.getD i Bd.zero) = true) := Lib.hid (fun i hi => by
          rcases Nat.lt_or_ge i k with g | g
          · exact hto.out i g
          · obtain rfl : i = k := by omega
            rw [HX.out]; exact HBB.out)
         clear hbb hto
         go_wp2
         refine wp_region_later (w0 := w1) (by kernel_rfl) (by kernel_rfl) ⟨_, rfl⟩ ?_
         repeat (go_big_quiet_step ((go_at_call 75; exact Calls.later_eq (l2Bound_calls _ M ⟨bs, bn⟩ _ (HM1.out.later _)) (congrArg Value.bool HBB.out))))
         refine wpQuiet_nil ?_
         rintro _ ⟨u1, rfl⟩
         go_wp2
         go_roundw
         case rel => exact ⟨k + 1, by omega, by go_num, hto', ⟨u1, rfl⟩⟩
         case measure => simp [intOf] <;> omega
       · have HBB := Lib.hid (eq_false_of_ne_true hbb)
         have HR2 := Lib.hid (HNO.out HBB.out)
         clear hbb hto
         go_wp2
         refine wp_region_later (w0 := w1) (by kernel_rfl) (by kernel_rfl) ⟨_, rfl⟩ ?_
         repeat (go_big_quiet_step ((go_at_call 75; exact Calls.later_eq (l2Bound_calls _ M ⟨bs, bn⟩ _ (HM1.out.later _)) (congrArg Value.bool HBB.out))))
         refine wpQuiet_nil ?_
         rintro _ ⟨u1, rfl⟩
         go_wp2
         go_ret
         exact ⟨ret_eq (congrArg Value.bool HR2.out.symm), HB.out.trans (u1.prop.mono HB.out.size)⟩
     · obtain rfl : k = n2 := by omega
       have HR2 := Lib.hid (HYES.out hto.out)
       clear hto hX
       go_wp2
       go_ret
       exact ⟨ret_eq (congrArg Value.bool HR2.out.symm), HB.out.trans (u.prop.mono HB.out.size)⟩
end Go.Proofs.YtdojaijnejcoiaaGreat
