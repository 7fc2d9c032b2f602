import Derived.Test.YtbenebcphaiohaaGreatef12
import Derived.Deep.Cut
import Derived.Test.YtbenebcphaiohaaGreatef8
import Derived.Deep.RegionHeld3
import Derived.Test.YtbenebcphaiohaaGreatef10
set_option linter.unusedVariables false
set_option linter.unusedSimpArgs false
set_option maxRecDepth 8000
set_option maxHeartbeats 16000000
namespace Go.Proofs.YtbenebcphaiohaaGreat
open Go.RowKit
theorem take_getD {α : Type} {L : List α} {k : Nat} (z : α) (h : k < L.length) : L.take (k + 1) = L.take k ++ [L.getD k z] := by
 rw [List.take_add_one, getD_at h z]; rfl
theorem cloneValues_calls (v : Value) (L : List (List Int)) (w : World) (hL : VlAt w v L) (h0 : ∀ j, j < L.length → 0 < (L.getD j []).length ∧ (L.getD j []).length ≤ 1048576) (hn : L.length ≤ 1048576) :
 Calls Tryz.prog 72 #[v] w fun e w' => ∃ v svs, e = .returned v ∧ Below w.heap.size w w' ∧ AccV w.heap.size w' v svs L := by
 obtain ⟨A, c, rfl, -, -, hA⟩ := hL
 have H0 := Lib.hid h0
 generalize hq : L.length = q at *
 have HQ := Lib.hid hq
 clear hq h0
 go_enter Tryz.func72, Tryz.ntmps72
 go_wp2
 go_loopw [3, 8] (fun s i wr => ∃ (k : Nat) (svs : List Value) (sv : Value), k ≤ q ∧ i = .int .i64 k ∧ sv = s ∧ Hid (AccV w.heap.size wr sv svs (L.take k)) ∧ LaterC w wr) (fun _ i _ => q - (intOf i).toNat)
 case atStart => exact ⟨0, [], _, Nat.zero_le _, rfl, rfl, Lib.hid (AccV.nil _ _), LaterC.refl _⟩
 case round =>
  obtain ⟨k, svs, sv, hk, rfl, hsv, HAC, ⟨u, rfl⟩⟩ := hrel
  subst hsv
  by_cases hlt : k < q
  · have hlt' : (k : Int) < q := by omega
    have hget := getD_at (show k < L.length by rw [HQ.out]; exact hlt) []
    obtain ⟨b, o, rv, rfl, hc, hs⟩ := hA k _ hget
    have HT := Lib.hid (take_getD (L := L) (k := k) [] (by rw [HQ.out]; exact hlt))
    have H0k := Lib.hid (H0.out k hlt)
    generalize L.getD k [] = xs at *
    have HS := Lib.hid hs
    obtain ⟨B, d, rfl, hmd, hm, -⟩ := hs
    have p0 := Later.cell hc
    have HSL := Lib.hid (show svs.length = k by rw [HAC.out.2.1, List.length_take, HQ.out]; omega)
    have hsl : svs.length ≤ 1048576 := by have := HSL.out; omega
    generalize hxl : xs.length = m at *
    have HXL := Lib.hid hxl
    clear hget hA hc hxl
    go_wp2_with fail
    have HB1 := Lib.hid (show Below u.val.heap.size u.val (u.val.alloc (Obj.cells #[.slice B m d] 40)) from (Below.refl _ _).alloc (Nat.le_refl _) _)
    refine (cloneInts_calls _ xs _ (HS.out.below (u.prop.trans (HB1.out.mono u.size))) (by rw [HXL.out]; exact H0k.out.1) (by rw [HXL.out]; exact H0k.out.2)).mono ?_
    rintro e w2 ⟨s, rfl, hb, hr, hg⟩
    have HB2 := Lib.hid (show Below u.val.heap.size u.val w2 from HB1.out.trans (hb.mono HB1.out.size))
    have HR2 := Lib.hid (And.intro hr (show ∀ b, s.ownBlock = some b → u.val.heap.size ≤ b from fun b hb => Nat.le_trans HB1.out.size (hg b hb)))
    obtain ⟨g, cap, rfl, -⟩ := rowI_some hr (by rw [HXL.out]; exact H0k.out.1)
    clear hb hr hg
    go_wp2_with (at_builtin; refine wpList_append_acc (by rfl) _ _ (by rfl) w u.val w2 _ w2.heap.size _ _ svs _ _ (by rfl) HAC.out ⟨u, rfl⟩ HB2.out HR2.out.1 HR2.out.2 hsl ((Below.refl _ _).alloc (Nat.le_refl _) _) (OwnB.new _ _ _) (by rfl) ?_; intro v' u2 hac; have HAC2 := Lib.hid hac; clear hac)
    go_roundw
    case rel =>
     have hac2 := HAC2.out
     rw [← HT.out] at hac2
     exact ⟨k + 1, _, _, by omega, by go_num, rfl, Lib.hid hac2, ⟨u2, rfl⟩⟩
    case measure => simp [intOf] <;> omega
  · obtain rfl : k = q := by omega
    have hac := HAC.out
    rw [List.take_of_length_le (by rw [HQ.out]; exact Nat.le_refl _)] at hac
    have HAC := Lib.hid hac
    clear hA hac
    go_wp2
    go_ret
    exact ⟨_, svs, rfl, u.prop, HAC.out⟩
noncomputable def allK (M : Md) (S I : List (List Int)) : List (List Int) := if bothK M S I = true then evalL M S I else []
def GivesRows (P : Program) (f : FuncId) (args : Array Value) (w : World) (L : List (List Int)) : Prop :=
 Calls P f args w fun e w' => ∃ v svs, e = .returned v ∧ Below w.heap.size w w' ∧ RowVs w.heap.size w' v svs L
theorem RowVs.nil (lo : Nat) (w : World) : RowVs lo w (.slice none 0 0) [] [] := ⟨by simp, rfl, .inl ⟨rfl, rfl⟩, fun i sv xs hi => by simp at hi, fun i j si sj b hi => by simp at hi⟩
theorem sok_mk {i a : Int} (h : 0 ≤ i ∧ i ≤ 2 ∧ 1 ≤ a ∧ a ≤ 16) : sokB i a = true := by
 unfold sokB widB
 rw [inB_yes ⟨h.1, h.2.1⟩, inB_yes ⟨h.2.2.1, h.2.2.2⟩]
 rfl
theorem kinds_sok {ns : List Nd} {i : Nat} {x : Nd} (h : Kinds ns i x) : sokB x.idx x.wid = true := by
 rcases h with ⟨k, h1, h2⟩ | ⟨k, h1⟩ | ⟨k, ha, hb, hc, h1, h2, h3, h4, h5, h6⟩ | ⟨k, ha, hb, h1, h2, h3, h4, h5⟩ | ⟨k, ha, hb, hc, h1, h2, h3, h4, h5, h6, h7⟩ | ⟨k, ha, hb, h1, h2, h3, h4⟩ | ⟨k, ha, hb, h1, h2, h3, h4, h5⟩ | ⟨k, ha, h1, h2, h3, h4, h5, h6⟩ | ⟨k, ha, h1, h2, h3, h4, h5⟩ | ⟨k, ha, h1, h2, h3⟩ | ⟨k, ha, hb, h1, h2, h3, h4, h5⟩
 · have := wokB_yes h2
   exact sok_mk (by omega)
 · exact h1
 · have := sok_word hb.sok
   exact sok_mk (by omega)
 · have := sok_word ha.sok
   exact sok_mk (by omega)
 · have := sok_word ha.sok
   exact sok_mk (by omega)
 · exact sok_mk (by omega)
 · have := sok_word ha.sok
   have := sok_word hb.sok
   exact sok_mk (by omega)
 · have := sok_word ha.sok
   exact sok_mk (by omega)
 · have := sok_word ha.sok
   exact sok_mk (by omega)
 · have := sok_word ha.sok
   unfold one2 at h3
   split at h3 <;> exact sok_mk (by omega)
 · have := sok_word ha.sok
   unfold two2 at h5
   split at h5 <;> exact sok_mk (by omega)
theorem node_sok {ns : List Nd} {i : Nat} (h : nodesB ns = true) (hi : i < ns.length) : sokB (ns.getD i Nd.zero).idx (ns.getD i Nd.zero).wid = true := kinds_sok (node_kinds h hi)
theorem val_one {i a : Int} {xs : List Int} (h : valN i a xs = true) (hs : sokB i a = true) : 0 < xs.length ∧ xs.length ≤ 4 := by
 have h1 := (val_parts h).1
 have h2 := cells_bits i a
 have h3 : 0 < cellsN i a := by
  unfold cellsN
  rw [if_pos hs]
  exact pow_pos_i i
 omega
theorem EvalAll_calls (mv sv iv : Value) (M : Md) (S I : List (List Int)) (w : World) (hM : MdAt w mv M) (hS : VlAt w sv S) (hI : VlAt w iv I) (hsz : M.nodes.length ≤ 1048576) (hnm : ∀ x, x ∈ M.nodes → x.name.size ≤ 140737488351232) :
 GivesRows Tryz.prog 37 #[mv, sv, iv] w (allK M S I) := by
 have HM := Lib.hid hM
 have HNM := Lib.hid hnm
 have HSZ := Lib.hid hsz
 have HS := Lib.hid hS
 have HI := Lib.hid hI
 obtain ⟨s0, s1, s2, s3, s4, rfl, -⟩ := hM.at_
 clear hM hnm hsz hS hI
 unfold GivesRows
 obtain ⟨R, hR⟩ : ∃ R, R = allK M S I := ⟨_, rfl⟩
 rw [← hR]
 go_enter Tryz.func37, Tryz.ntmps37
 have HB := Lib.hid (box_below w #[s0, s1, s2, s3, s4] 27)
 have m0 := box_cell w #[s0, s1, s2, s3, s4] 27 0 _ rfl
 have m1 := box_cell w #[s0, s1, s2, s3, s4] 27 1 _ rfl
 have m2 := box_cell w #[s0, s1, s2, s3, s4] 27 2 _ rfl
 have m3 := box_cell w #[s0, s1, s2, s3, s4] 27 3 _ rfl
 have m4 := box_cell w #[s0, s1, s2, s3, s4] 27 4 _ rfl
 go_upto_region 1 with fail
 generalize w.alloc (.cells #[s0, s1, s2, s3, s4] 27) = w1 at *
 have m0 : ∀ u : Later w1, u.val.cell? ⟨w.heap.size, 0, none⟩ = some s0 := m0
 have m1 : ∀ u : Later w1, u.val.cell? ⟨w.heap.size, 1, none⟩ = some s1 := m1
 have m2 : ∀ u : Later w1, u.val.cell? ⟨w.heap.size, 2, none⟩ = some s2 := m2
 have m3 : ∀ u : Later w1, u.val.cell? ⟨w.heap.size, 3, none⟩ = some s3 := m3
 have m4 : ∀ u : Later w1, u.val.cell? ⟨w.heap.size, 4, none⟩ = some s4 := m4
 have HM1 := Lib.hid (HM.out.below HB.out)
 have HS1 := Lib.hid (HS.out.below HB.out)
 have HI1 := Lib.hid (HI.out.below HB.out)
 refine at_world (w := w1) ?_
 intro u0
 by_cases hs : fitsK 36 M S = true
 · have HFS := Lib.hid hs
   by_cases hi : fitsK 35 M I = true
   · have HFI := Lib.hid hi
     have hbo : bothK M S I = true := by unfold bothK; rw [hs, hi]; rfl
     have HE := Lib.hid (eval_one hbo)
     have HR := Lib.hid (show R = evalL M S I by rw [hR]; unfold allK; rw [if_pos hbo])
     clear hbo hs hi hR
     go_wp2_with (first | (go_at_call 106; refine (Calls.later_eq (u := u0) (StateFits_calls _ _ M S _ (HM1.out.later u0) (HS1.out.later u0) HSZ.out HNM.out) (congrArg Value.bool HFS.out)).mono ?_; rintro e w' ⟨rfl, u1, rfl⟩) | (go_at_call 107; refine (Calls.later_eq (u := u1) (InputFits_calls _ _ M I _ (HM1.out.later u1) (HI1.out.later u1) HSZ.out HNM.out) (congrArg Value.bool HFI.out)).mono ?_; rintro e w' ⟨rfl, u2, rfl⟩) | (go_at_call 109; refine (l4All_calls _ _ _ M S I _ (HM1.out.later u2) (HS1.out.later u2) (HI1.out.later u2) HE.out.2.1 HE.out.2.2.1 HE.out.2.2.2.1 HSZ.out).mono ?_; rintro e w' ⟨v, svs, rfl, hb, hac⟩; have HAC := Lib.hid hac; obtain ⟨u3, h3⟩ := u2.step hb; have HSZ2 := Lib.hid (Nat.le_trans HB.out.size u2.size); subst h3; clear hb hac))
     go_ret
     exact ⟨v, svs, rfl, u3.back HB.out, by rw [HR.out]; exact (HAC.out.mono HSZ2.out).rowVs (by rw [evalN_length]; have := HSZ.out; omega)⟩
   · have hi := eq_false_of_ne_true hi
     have HFI := Lib.hid hi
     have HR := Lib.hid (show R = [] by rw [hR]; unfold allK bothK; rw [hs, hi]; rfl)
     clear hR hs hi
     go_wp2_with (first | (go_at_call 106; refine (Calls.later_eq (u := u0) (StateFits_calls _ _ M S _ (HM1.out.later u0) (HS1.out.later u0) HSZ.out HNM.out) (congrArg Value.bool HFS.out)).mono ?_; rintro e w' ⟨rfl, u1, rfl⟩) | (go_at_call 107; refine (Calls.later_eq (u := u1) (InputFits_calls _ _ M I _ (HM1.out.later u1) (HI1.out.later u1) HSZ.out HNM.out) (congrArg Value.bool HFI.out)).mono ?_; rintro e w' ⟨rfl, u2, rfl⟩))
     go_ret
     exact ⟨_, [], rfl, u2.back HB.out, by rw [HR.out]; exact RowVs.nil _ _⟩
 · have hs := eq_false_of_ne_true hs
   have HFS := Lib.hid hs
   have HR := Lib.hid (show R = [] by rw [hR]; unfold allK bothK; rw [hs]; rfl)
   clear hR hs
   go_wp2_with (go_at_call 106; refine (Calls.later_eq (u := u0) (StateFits_calls _ _ M S _ (HM1.out.later u0) (HS1.out.later u0) HSZ.out HNM.out) (congrArg Value.bool HFS.out)).mono ?_; rintro e w' ⟨rfl, u1, rfl⟩)
   go_ret
   exact ⟨_, [], rfl, u1.back HB.out, by rw [HR.out]; exact RowVs.nil _ _⟩
theorem EvalAll'_calls (mv sv iv : Value) (M : Md) (S I : List (List Int)) (w : World) (hM : MdAt w mv M) (hS : VlAt w sv S) (hI : VlAt w iv I) (hsz : M.nodes.length ≤ 1048576) (hnm : ∀ x, x ∈ M.nodes → x.name.size ≤ 140737488351232) (hw1 : ∀ b, b ∈ M.inits → (Lit.int .i64 b.st).wf = true) (hw2 : ∀ b, b ∈ M.nexts → (Lit.int .i64 b.st).wf = true) :
 GivesRows Tryz.prog 17 #[mv, sv, iv] w (allK M S I) := by
 have HM := Lib.hid hM
 have HNM := Lib.hid hnm
 have HSZ := Lib.hid hsz
 have HS := Lib.hid hS
 have HI := Lib.hid hI
 have HW1 := Lib.hid hw1
 have HW2 := Lib.hid hw2
 clear hw1 hw2
 obtain ⟨s0, s1, s2, s3, s4, rfl, -⟩ := hM.at_
 clear hM hnm hsz hS hI
 unfold GivesRows
 obtain ⟨R, hR⟩ : ∃ R, R = allK M S I := ⟨_, rfl⟩
 rw [← hR]
 go_enter Tryz.func17, Tryz.ntmps17
 have HB := Lib.hid (box_below w #[s0, s1, s2, s3, s4] 27)
 have m0 := box_cell w #[s0, s1, s2, s3, s4] 27 0 _ rfl
 have m1 := box_cell w #[s0, s1, s2, s3, s4] 27 1 _ rfl
 have m2 := box_cell w #[s0, s1, s2, s3, s4] 27 2 _ rfl
 have m3 := box_cell w #[s0, s1, s2, s3, s4] 27 3 _ rfl
 have m4 := box_cell w #[s0, s1, s2, s3, s4] 27 4 _ rfl
 go_upto_region 1 with fail
 generalize w.alloc (.cells #[s0, s1, s2, s3, s4] 27) = w1 at *
 have m0 : ∀ u : Later w1, u.val.cell? ⟨w.heap.size, 0, none⟩ = some s0 := m0
 have m1 : ∀ u : Later w1, u.val.cell? ⟨w.heap.size, 1, none⟩ = some s1 := m1
 have m2 : ∀ u : Later w1, u.val.cell? ⟨w.heap.size, 2, none⟩ = some s2 := m2
 have m3 : ∀ u : Later w1, u.val.cell? ⟨w.heap.size, 3, none⟩ = some s3 := m3
 have m4 : ∀ u : Later w1, u.val.cell? ⟨w.heap.size, 4, none⟩ = some s4 := m4
 have HM1 := Lib.hid (HM.out.below HB.out)
 have HS1 := Lib.hid (HS.out.below HB.out)
 have HI1 := Lib.hid (HI.out.below HB.out)
 refine at_world (w := w1) ?_
 intro u0
 by_cases hs : fitsK 36 M S = true
 · have HFS := Lib.hid hs
   by_cases hi : fitsK 35 M I = true
   · have HFI := Lib.hid hi
     have hbo : bothK M S I = true := by unfold bothK; rw [hs, hi]; rfl
     have HE := Lib.hid (eval_one hbo)
     have HR := Lib.hid (show R = evalL M S I by rw [hR]; unfold allK; rw [if_pos hbo])
     have HLN := Lib.hid (show ∀ j, j < (evalL M S I).length → 0 < ((evalL M S I).getD j []).length ∧ ((evalL M S I).getD j []).length ≤ 1048576 from fun j hj => by
      rw [evalN_length] at hj
      have h1 := evalN_ok HE.out.2.1 HE.out.2.2.1 HE.out.2.2.2.1 M.nodes.length (Nat.le_refl _) j hj
      have h2 := val_one h1 (node_sok HE.out.2.1 hj)
      exact ⟨h2.1, Nat.le_trans h2.2 (by decide)⟩)
     clear hbo hs hi hR
     go_wp2_with (first | (go_at_call 70; refine (Calls.later_eq (u := u0) (StateFits'_calls _ _ M S _ (HM1.out.later u0) (HS1.out.later u0) HSZ.out HNM.out HW1.out HW2.out) (congrArg Value.bool HFS.out)).mono ?_; rintro e w' ⟨rfl, u1, rfl⟩) | (go_at_call 71; refine (Calls.later_eq (u := u1) (InputFits'_calls _ _ M I _ (HM1.out.later u1) (HI1.out.later u1) HSZ.out HNM.out HW1.out HW2.out) (congrArg Value.bool HFI.out)).mono ?_; rintro e w' ⟨rfl, u2, rfl⟩) | (go_at_call 73; refine (eval_calls _ _ _ M S I _ (HM1.out.later u2) (HS1.out.later u2) (HI1.out.later u2) HE.out.2.1 HE.out.2.2.1 HE.out.2.2.2.1 HSZ.out).mono ?_; rintro e w' ⟨ev, rfl, hb, hev⟩; obtain ⟨u3, h3⟩ := u2.step hb; have HSZ2 := Lib.hid (Nat.le_trans HB.out.size u2.size); subst h3; have HEV := Lib.hid hev; clear hb hev) | (go_at_call 72; refine (cloneValues_calls ev _ _ HEV.out HLN.out (by rw [evalN_length]; exact HSZ.out)).mono ?_; rintro e w' ⟨v, svs, rfl, hb, hac⟩; have HAC := Lib.hid hac; obtain ⟨u4, h4⟩ := u3.step hb; have HSZ3 := Lib.hid (Nat.le_trans HB.out.size u3.size); subst h4; clear hb hac))
     go_ret
     exact ⟨v, svs, rfl, u4.back HB.out, by rw [HR.out]; exact (HAC.out.mono HSZ3.out).rowVs (by rw [evalN_length]; have := HSZ.out; omega)⟩
   · have hi := eq_false_of_ne_true hi
     have HFI := Lib.hid hi
     have HR := Lib.hid (show R = [] by rw [hR]; unfold allK bothK; rw [hs, hi]; rfl)
     clear hR hs hi
     go_wp2_with (first | (go_at_call 70; refine (Calls.later_eq (u := u0) (StateFits'_calls _ _ M S _ (HM1.out.later u0) (HS1.out.later u0) HSZ.out HNM.out HW1.out HW2.out) (congrArg Value.bool HFS.out)).mono ?_; rintro e w' ⟨rfl, u1, rfl⟩) | (go_at_call 71; refine (Calls.later_eq (u := u1) (InputFits'_calls _ _ M I _ (HM1.out.later u1) (HI1.out.later u1) HSZ.out HNM.out HW1.out HW2.out) (congrArg Value.bool HFI.out)).mono ?_; rintro e w' ⟨rfl, u2, rfl⟩))
     go_ret
     exact ⟨_, [], rfl, u2.back HB.out, by rw [HR.out]; exact RowVs.nil _ _⟩
 · have hs := eq_false_of_ne_true hs
   have HFS := Lib.hid hs
   have HR := Lib.hid (show R = [] by rw [hR]; unfold allK bothK; rw [hs]; rfl)
   clear hR hs
   go_wp2_with (go_at_call 70; refine (Calls.later_eq (u := u0) (StateFits'_calls _ _ M S _ (HM1.out.later u0) (HS1.out.later u0) HSZ.out HNM.out HW1.out HW2.out) (congrArg Value.bool HFS.out)).mono ?_; rintro e w' ⟨rfl, u1, rfl⟩)
   go_ret
   exact ⟨_, [], rfl, u1.back HB.out, by rw [HR.out]; exact RowVs.nil _ _⟩
end Go.Proofs.YtbenebcphaiohaaGreat
namespace Go.Proofs.YtbenebcphaiohaaGreat
open Go.RowKit
def Blk (v : Value) (svs : List Value) (b : Nat) : Prop := v.ownBlock = some b ∨ ∃ (i : Nat) (sv : Value), svs[i]? = some sv ∧ sv.ownBlock = some b
theorem RowVs.blk {lo : Nat} {w : World} {v : Value} {svs : List Value} {L : List (List Int)} (h : RowVs lo w v svs L) {b : Nat} (hb : Blk v svs b) : lo ≤ b ∧ b < w.heap.size := by
 rcases hb with hb | ⟨i, sv, hi, hb⟩
 · have hl := h.lt hb
   obtain ⟨-, -, ⟨rfl, -⟩ | ⟨g, cap, cur, rfl, hlo, -⟩, -⟩ := h
   · cases hb
   · cases hb; exact ⟨hlo, hl⟩
 · have hil := (List.getElem?_eq_some_iff.1 hi).1
   have hk := h.2.2.2.1 i sv _ hi (List.getElem?_eq_getElem (show i < L.length by rw [← h.2.1]; exact hil))
   exact ⟨(hk.2 b hb).1, hk.1.lt hb⟩
theorem RowVs.but {S : Nat → Prop} {lo : Nat} {w w' : World} {v : Value} {svs : List Value} {L : List (List Int)} (h : RowVs lo w v svs L) (hb : But S w w') (hS : ∀ b, Blk v svs b → ¬ S b) : RowVs lo w' v svs L := by
 obtain ⟨h1, h2, h3, h4, h5⟩ := h
 refine ⟨h1, h2, ?_, fun i sv xs hi hx => ⟨(h4 i sv xs hi hx).1.but hb fun b hb' => hS b (.inr ⟨i, sv, hi, hb'⟩), (h4 i sv xs hi hx).2⟩, h5⟩
 rcases h3 with h3 | ⟨g, cap, cur, rfl, hlo, ho, hr⟩
 · exact .inl h3
 · exact .inr ⟨g, cap, cur, rfl, hlo, ho.but hb (hS g (.inl rfl)), hr⟩
theorem RowVs.turn {lo : Nat} {w w' : World} {v : Value} {svs : List Value} {L : List (List Int)} (h : RowVs lo w v svs L) {k : Nat} {sv : Value} (hk : svs[k]? = some sv) (hb : But (fun b => sv.ownBlock = some b) w w') {ys : List Int} (hr : RowI w' sv ys) : RowVs lo w' v svs (L.set k ys) := by
 obtain ⟨h1, h2, h3, h4, h5⟩ := h
 have hkl := (List.getElem?_eq_some_iff.1 hk).1
 have hkx := List.getElem?_eq_getElem (show k < L.length by rw [← h2]; exact hkl)
 refine ⟨by simpa using h1, by simpa using h2, ?_, fun i si xs hi hx => ?_, h5⟩
 · rcases h3 with ⟨rfl, rfl⟩ | ⟨g, cap, cur, rfl, hlo, ho, hc, hs, hf⟩
   · exact .inl ⟨rfl, rfl⟩
   · exact .inr ⟨g, cap, cur, by simp, hlo, ho.but hb (fun e => ((h4 k sv _ hk hkx).2 g e).2 rfl), by simpa using hc, hs, hf⟩
 · rw [List.getElem?_set] at hx
   by_cases e : k = i
   · subst e
     rw [if_pos rfl, if_pos (by rw [← h2]; exact hkl)] at hx
     cases hx
     rw [hk] at hi
     cases hi
     exact ⟨hr, (h4 k sv _ hk hkx).2⟩
   · rw [if_neg e] at hx
     refine ⟨(h4 i si xs hi hx).1.but hb fun b hb' e' => ?_, (h4 i si xs hi hx).2⟩
     rcases Nat.lt_or_ge k i with hlt | hge
     · exact h5 k i _ _ b hk hi hlt e' hb'
     · exact h5 i k _ _ b hi hk (by omega) hb' e'
theorem RowVs.shape {lo : Nat} {w : World} {v : Value} {svs : List Value} {L : List (List Int)} (h : RowVs lo w v svs L) : ∃ A c, v = .slice A L.length c := by
 obtain ⟨h1, h2, ⟨rfl, rfl⟩ | ⟨g, cap, cur, rfl, -⟩, -⟩ := h
 · exact ⟨_, _, rfl⟩
 · exact ⟨_, _, rfl⟩
theorem RowVs.outerA {lo : Nat} {w : World} {v : Value} {svs : List Value} {L : List (List Int)} (h : RowVs lo w v svs L) {k : Nat} (hk : k < L.length) : ∃ g cap, v = .slice (some ⟨g, 0, none⟩) L.length cap ∧ ∃ sv, svs[k]? = some sv ∧ w.cell? ⟨g, k, none⟩ = some sv ∧ RowI w sv (L.getD k []) := by
 obtain ⟨sv, hsv⟩ := h.get hk
 obtain ⟨h1, h2, ⟨rfl, rfl⟩ | ⟨g, cap, cur, rfl, hlo, ho, hc, hs, hf⟩, h4, -⟩ := h
 · simp at hk
 · exact ⟨g, cap, rfl, sv, hsv, by rw [ho.cell]; exact hf k sv hsv, (h4 k sv _ hsv (getD_at hk [])).1⟩
def totN (L : List (List Int)) : Nat := (L.map List.length).sum
theorem totN_take {L : List (List Int)} {k : Nat} (hk : k < L.length) : totN (L.take (k + 1)) = totN (L.take k) + (L.getD k []).length := by
 unfold totN
 rw [List.take_add_one, getD_at hk []]
 simp
theorem totN_le (L : List (List Int)) (k : Nat) : totN (L.take k) ≤ totN L := by
 unfold totN
 induction L generalizing k with
 | nil => simp
 | cons x l ih =>
   cases k with
   | zero => simp
   | succ k => have := ih k; simp only [List.take_succ_cons, List.map_cons, List.sum_cons]; omega
theorem totN_bd {L : List (List Int)} {c : Nat} (h : ∀ xs ∈ L, xs.length ≤ c) : totN L ≤ c * L.length := by
 unfold totN
 induction L with
 | nil => simp
 | cons x l ih =>
   have h1 := ih fun xs hx => h xs (List.mem_cons_of_mem _ hx)
   have h2 := h x List.mem_cons_self
   simp only [List.map_cons, List.sum_cons, List.length_cons, Nat.mul_add, Nat.mul_one]
   omega
def marksV (k : Int) (L : List (List Int)) : List (List Int) := (List.range L.length).map fun (i : Nat) => marks (k + totN (L.take i)) (L.getD i []).length
theorem marksV_length (k : Int) (L : List (List Int)) : (marksV k L).length = L.length := by simp [marksV]
theorem marksV_get {k : Int} {L : List (List Int)} {i : Nat} (h : i < L.length) : (marksV k L)[i]? = some (marks (k + totN (L.take i)) (L.getD i []).length) := by simp [marksV, h]
def MixV (k : Int) (L : List (List Int)) (j : Nat) (L' : List (List Int)) : Prop := L'.length = L.length ∧ (∀ i, i < j → L'.getD i [] = marks (k + totN (L.take i)) (L.getD i []).length) ∧ ∀ i, j ≤ i → L'.getD i [] = L.getD i []
theorem MixV.step {k : Int} {L L' : List (List Int)} {j : Nat} (h : MixV k L j L') (hj : j < L.length) : MixV k L (j + 1) (L'.set j (marks (k + totN (L.take j)) (L.getD j []).length)) := by
 obtain ⟨h1, h2, h3⟩ := h
 have key : ∀ (i : Nat) (x : List Int), (L'.set j x).getD i [] = if i = j then x else L'.getD i [] := fun i x => by
  rw [List.getD_eq_getElem?_getD, List.getElem?_set, List.getD_eq_getElem?_getD]
  by_cases e : j = i
  · subst e; simp [show j < L'.length by omega]
  · rw [if_neg e, if_neg (fun h => e h.symm)]
 refine ⟨by simpa using h1, fun i hi => ?_, fun i hi => ?_⟩
 · rw [key]
   by_cases e : i = j
   · subst e; rw [if_pos rfl]
   · rw [if_neg e]; exact h2 i (by omega)
 · rw [key, if_neg (by omega)]; exact h3 i (by omega)
theorem MixV.done {k : Int} {L L' : List (List Int)} (h : MixV k L L.length L') : L' = marksV k L := by
 refine List.ext_getElem? fun i => ?_
 rcases Nat.lt_or_ge i L.length with g | g
 · rw [marksV_get g, getD_at (by rw [h.1]; exact g) [], h.2.1 i g]
 · rw [List.getElem?_eq_none (by rw [h.1]; exact g), List.getElem?_eq_none (by rw [marksV_length]; exact g)]
theorem markValueS_calls (lo : Nat) (v : Value) (svs : List Value) (L : List (List Int)) (k : Int) (w : World) (h : RowVs lo w v svs L) (h0 : 0 ≤ k) (h1 : k + totN L ≤ 1000000000000) :
 Calls Tryz.prog 43 #[v, .int .i64 k] w fun e w' => e = .returned (.int .i64 (k + totN L)) ∧ But (Blk v svs) w w' ∧ RowVs lo w' v svs (marksV k L) := by
 obtain ⟨A, c, rfl⟩ := h.shape
 have HRV := Lib.hid h
 have hl := h.1
 have HT := Lib.hid (fun (j : Nat) (hj : j < L.length) => totN_take hj)
 have HTL := Lib.hid (totN_le L)
 have HTT := Lib.hid (show totN (L.take L.length) = totN L by rw [List.take_length])
 have HMS := Lib.hid (fun (L' : List (List Int)) (j : Nat) (hm : MixV k L j L') (hj : j < L.length) => hm.step hj)
 have HMD := Lib.hid (fun (L' : List (List Int)) (hm : MixV k L L.length L') => hm.done)
 clear h
 generalize hN : L.length = n at *
 have HN := Lib.hid hN
 clear hN
 go_enter Tryz.func43, Tryz.ntmps43
 go_wp2
 go_loopw [1, 5] (fun kk i wr => ∃ (j : Nat) (t : Int) (L' : List (List Int)), j ≤ n ∧ i = .int .i64 j ∧ kk = .int .i64 t ∧ 0 ≤ t ∧ t ≤ 1000000000000 ∧ Hid (t = k + totN (L.take j) ∧ RowVs lo wr (.slice A n c) svs L' ∧ MixV k L j L' ∧ But (Blk (.slice A n c) svs) w wr)) (fun _ i _ => n - (intOf i).toNat)
 case atStart => exact ⟨0, k, L, Nat.zero_le _, rfl, rfl, h0, by omega, Lib.hid ⟨by simp [totN], HRV.out, ⟨rfl, fun i hi => absurd hi (Nat.not_lt_zero _), fun i _ => rfl⟩, .refl _ _⟩⟩
 case round =>
  obtain ⟨j, t, L', hj, rfl, rfl, ht0, ht1, HR⟩ := hrel
  by_cases hlt : j < n
  · have hlt' : (j : Int) < n := by omega
    obtain ⟨g, cap, hv, sv, hsv, hcell, hri⟩ := HR.out.2.1.outerA (k := j) (by rw [HR.out.2.2.1.1, HN.out]; exact hlt)
    cases hv
    rw [HR.out.2.2.1.2.2 j (Nat.le_refl _)] at hri
    have HRI := Lib.hid hri
    have HSV := Lib.hid hsv
    have hb2 : t + (L.getD j []).length ≤ 1000000000000 := by
     have h1 := HR.out.1
     have h2 := HT.out j hlt
     have h3 := HTL.out (j + 1)
     omega
    clear hri hsv
    go_wp2_with fail
    refine (markIntS_calls sv _ t _ HRI.out ht0 hb2).mono ?_
    rintro e w' ⟨rfl, hbut, hr⟩
    have HBUT := Lib.hid hbut
    have HR2 := Lib.hid hr
    clear hbut hr hcell
    go_wp2
    go_roundw
    case rel =>
     have hm := HMS.out _ j HR.out.2.2.1 hlt
     have hrv := HR.out.2.1.turn HSV.out HBUT.out HR2.out
     rw [HR.out.1] at hrv
     exact ⟨j + 1, t + (L.getD j []).length, _, by omega, by go_num, by go_num, by omega, hb2, Lib.hid ⟨by rw [HR.out.1, HT.out j hlt]; push_cast; omega, hrv, hm, HR.out.2.2.2.trans (HBUT.out.mono fun b hb => .inr ⟨j, sv, HSV.out, hb⟩)⟩⟩
    case measure => simp [intOf] <;> omega
  · obtain rfl : j = n := by omega
    have hmd := HMD.out _ HR.out.2.2.1
    subst hmd
    go_wp2
    go_ret
    exact ⟨ret_eq (congrArg (Value.int .i64) (by rw [HR.out.1, HTT.out])), HR.out.2.2.2, HR.out.2.1⟩
theorem heldValueS_calls (v : Value) (L : List (List Int)) (k : Int) (w : World) (h : VlAt w v (marksV k L)) (h0 : 0 ≤ k) (h1 : k + totN L ≤ 1000000000000) :
 Makes Tryz.prog 44 #[v, .int .i64 k] w (.int .i64 (k + totN L)) := by
 obtain ⟨A, c, rfl, -, hl, hA⟩ := h
 rw [marksV_length] at hl ⊢
 have HT := Lib.hid (fun (j : Nat) (hj : j < L.length) => totN_take hj)
 have HTL := Lib.hid (totN_le L)
 have HTT := Lib.hid (show totN (L.take L.length) = totN L by rw [List.take_length])
 have HMG := Lib.hid (fun (j : Nat) (hj : j < L.length) => marksV_get (k := k) hj)
 generalize hN : L.length = n at *
 have HN := Lib.hid hN
 clear hN
 go_enter Tryz.func44, Tryz.ntmps44
 go_wp2
 go_loopw [1, 5] (fun kk i wr => ∃ (j : Nat) (t : Int), j ≤ n ∧ i = .int .i64 j ∧ kk = .int .i64 t ∧ 0 ≤ t ∧ t ≤ 1000000000000 ∧ Hid (t = k + totN (L.take j)) ∧ LaterC w wr) (fun _ i _ => n - (intOf i).toNat)
 case atStart => exact ⟨0, k, Nat.zero_le _, rfl, rfl, h0, by omega, Lib.hid (by simp [totN]), LaterC.refl _⟩
 case round =>
  obtain ⟨j, t, hj, rfl, rfl, ht0, ht1, HR, ⟨u, rfl⟩⟩ := hrel
  by_cases hlt : j < n
  · have hlt' : (j : Int) < n := by omega
    obtain ⟨b, o, sv, rfl, hc, hs⟩ := hA j _ (HMG.out j hlt)
    rw [← HR.out] at hs
    have HS := Lib.hid hs
    have p0 := Later.cell hc
    have hb2 : t + (L.getD j []).length ≤ 1000000000000 := by
     have h1 := HR.out
     have h2 := HT.out j hlt
     have h3 := HTL.out (j + 1)
     omega
    have HT2 := Lib.hid (HT.out j hlt)
    generalize (L.getD j []).length = m at *
    clear hs hc hA
    go_wp2_with fail
    refine (Calls.later (u := u) (heldIntS_calls sv t m _ (HS.out.later u) ht0 hb2)).mono ?_
    rintro e w' ⟨rfl, u1, rfl⟩
    have hneg : (t + (m : Int) < 0) = False := eq_false (by omega)
    go_wp2
    go_roundw
    case rel => exact ⟨j + 1, t + m, by omega, by go_num, by go_num, by omega, hb2, Lib.hid (by rw [HR.out, HT2.out]; push_cast; omega), ⟨u1, rfl⟩⟩
    case measure => simp [intOf] <;> omega
  · obtain rfl : j = n := by omega
    clear hA
    go_wp2
    go_ret
    exact ⟨ret_eq (congrArg (Value.int .i64) (by rw [HR.out, HTT.out])), u.prop⟩
end Go.Proofs.YtbenebcphaiohaaGreat
namespace Go.Proofs.YtbenebcphaiohaaGreat
open Go.RowKit
theorem len_tot {L : List (List Int)} {xs : List Int} (h : xs ∈ L) : xs.length ≤ totN L := by
 unfold totN
 induction L with
 | nil => cases h
 | cons y l ih =>
   rw [List.map_cons, List.sum_cons]
   rcases List.mem_cons.1 h with rfl | h
   · omega
   · have := ih h; omega
theorem szValueT_calls (v : Value) (L : List (List Int)) (left : Int) (w : World) (h : VlAt w v L) (h0 : 0 ≤ left) (h1 : left ≤ 1048576) :
 Calls Tryz.prog 29 #[v, .int .i64 left] w fun e w' => ∃ r : Int, e = .returned (.int .i64 r) ∧ Below w.heap.size w w' ∧ (r = -1 ∨ (0 ≤ r ∧ r + L.length + totN L ≤ left)) := by
 obtain ⟨A, c, rfl, -, hn, hA⟩ := h
 generalize hN : L.length = n at *
 have HN := Lib.hid hN
 clear hN
 go_enter Tryz.func29, Tryz.ntmps29
 by_cases hlt : left - (n : Int) < 0
 · go_wp2
   go_ret
   exact ⟨_, rfl, Below.refl _ _, .inl rfl⟩
 · go_wp2
   go_loopw [1, 5] (fun l i wr => ∃ (k : Nat) (r : Int), k ≤ n ∧ i = .int .i64 k ∧ l = .int .i64 r ∧ 0 ≤ r ∧ r ≤ left - n ∧ Hid (r + totN (L.take k) = left - n) ∧ LaterC w wr) (fun _ i _ => n - (intOf i).toNat)
   case atStart => exact ⟨0, left - n, Nat.zero_le _, rfl, by go_num, by omega, by omega, Lib.hid (by simp [totN]), LaterC.refl _⟩
   case round =>
    obtain ⟨k, r, hk, rfl, rfl, hr0, hr1, HI, ⟨u, rfl⟩⟩ := hrel
    by_cases hlt2 : k < n
    · have hget := getD_at (show k < L.length by rw [HN.out]; exact hlt2) []
      obtain ⟨b, o, sv, rfl, hc, hs⟩ := hA k _ hget
      have HT := Lib.hid (totN_take (show k < L.length by rw [HN.out]; exact hlt2))
      generalize L.getD k [] = xs at *
      have p0 := Later.cell hc
      have HS := Lib.hid hs
      clear hc hs hA hget
      go_wp2_with fail
      refine (Calls.later (u := u) (szValue_calls sv xs r _ (HS.out.later u) hr0 (by omega))).mono ?_
      rintro e w' ⟨rfl, u1, rfl⟩
      have HI2 := Lib.hid (show r - xs.length + totN (L.take (k + 1)) = left - n by have h1 := HT.out; have h2 := HI.out; omega)
      generalize hm : xs.length = m at *
      clear hm p0
      by_cases hl3 : r - (m : Int) < 0
      · rw [lessV_neg hl3]
        go_wp2
        go_ret
        exact ⟨_, rfl, u1.prop, .inl rfl⟩
      · rw [lessV_pos hl3]
        have hl4 : (r - (m : Int) < 0) = False := eq_false hl3
        go_wp2
        go_roundw
        case rel => exact ⟨k + 1, r - m, by omega, by go_num, rfl, by omega, by omega, HI2, ⟨u1, rfl⟩⟩
        case measure => simp [intOf]; omega
    · obtain rfl : k = n := by omega
      clear hA
      go_wp2
      go_ret
      refine ⟨_, rfl, u.prop, .inr ⟨hr0, ?_⟩⟩
      have h1 := HI.out
      rw [List.take_of_length_le (by rw [HN.out]; exact Nat.le_refl _)] at h1
      omega
theorem code_nodes {M : Md} (h : codeN M = 0) : M.nodes.length ≤ 60 := by
 unfold codeN at h
 by_cases hb : bigB M = true
 · rw [if_pos hb] at h; omega
 · unfold bigB at hb
   simp at hb
   omega
theorem allK_len (M : Md) (S I : List (List Int)) (h : M.nodes.length ≤ 1048576) : (allK M S I).length ≤ 1048576 := by
 unfold allK
 split
 · unfold evalL; rw [evalN_length]; exact h
 · simp
theorem allK_tot (M : Md) (S I : List (List Int)) : totN (allK M S I) ≤ 1000000 := by
 unfold allK
 split
 · next h =>
   obtain ⟨h1, h2, h3, h4, -, -⟩ := eval_one h
   have h60 := code_nodes h1
   have hb := totN_bd (L := evalL M S I) (c := 4) (fun xs hx => by
    obtain ⟨j, hj, rfl⟩ := List.getElem_of_mem hx
    have hj2 : j < M.nodes.length := by unfold evalL at hj; rw [evalN_length] at hj; exact hj
    have h5 := evalN_ok h2 h3 h4 M.nodes.length (Nat.le_refl _) j hj2
    have h6 := (val_one h5 (node_sok h2 hj2)).2
    rw [List.getD_eq_getElem?_getD, List.getElem?_eq_getElem hj] at h6
    exact h6)
   have h7 : (evalL M S I).length = M.nodes.length := evalN_length _ _ _ _
   rw [h7] at hb
   omega
 · simp [totN]
theorem FnExactEvalAll_calls (mv : Value) (lv1 lv2 : Value) (M : Md) (L1 L2 : List (List Int)) (w : World) (hM : MdAt w mv M) (hl1 : VlAt w lv1 L1) (hl2 : VlAt w lv2 L2) (hnm : ∀ x, x ∈ M.nodes → x.name.size ≤ 140737488351232) (hw1 : ∀ b, b ∈ M.inits → (Lit.int .i64 b.st).wf = true) (hw2 : ∀ b, b ∈ M.nexts → (Lit.int .i64 b.st).wf = true) :
 Makes Tryz.prog 10 #[mv, lv1, lv2] w (.bool true) := by
 have HM := Lib.hid hM
 have HNM := Lib.hid hnm
 have HW1 := Lib.hid hw1
 have HW2 := Lib.hid hw2
 have HSZ := Lib.hid (show ∀ x ∈ M.nodes, x.name.size ≤ 281474976710656 from fun x hx => by have := hnm x hx; omega)
 have HV1 := Lib.hid hl1
 have HV2 := Lib.hid hl2
 obtain ⟨s0, s1, s2, s3, s4, rfl, -⟩ := hM.at_
 clear hM hnm hw1 hw2 hl1 hl2 
 go_enter Tryz.func10, Tryz.ntmps10
 have HB := Lib.hid (box_below w #[s0, s1, s2, s3, s4] 47)
 have m0 := box_cell w #[s0, s1, s2, s3, s4] 47 0 _ rfl
 have m1 := box_cell w #[s0, s1, s2, s3, s4] 47 1 _ rfl
 have m2 := box_cell w #[s0, s1, s2, s3, s4] 47 2 _ rfl
 have m3 := box_cell w #[s0, s1, s2, s3, s4] 47 3 _ rfl
 have m4 := box_cell w #[s0, s1, s2, s3, s4] 47 4 _ rfl
 go_upto_region 1 with fail
 generalize w.alloc (.cells #[s0, s1, s2, s3, s4] 47) = w1 at *
 have m0 : ∀ u : Later w1, u.val.cell? ⟨w.heap.size, 0, none⟩ = some s0 := m0
 have m1 : ∀ u : Later w1, u.val.cell? ⟨w.heap.size, 1, none⟩ = some s1 := m1
 have m2 : ∀ u : Later w1, u.val.cell? ⟨w.heap.size, 2, none⟩ = some s2 := m2
 have m3 : ∀ u : Later w1, u.val.cell? ⟨w.heap.size, 3, none⟩ = some s3 := m3
 have m4 : ∀ u : Later w1, u.val.cell? ⟨w.heap.size, 4, none⟩ = some s4 := m4
 have HM1 := Lib.hid (HM.out.below HB.out)
 have HU1 := Lib.hid (HV1.out.below HB.out)
 have HU2 := Lib.hid (HV2.out.below HB.out)
 refine at_world (w := w1) ?_
 intro u0
 go_upto_region 3 with (go_at_call 22; refine (szModel_calls _ M _ (HM1.out.later u0) HSZ.out).mono ?_; rintro e w' ⟨r, rfl, hb, hr⟩; obtain ⟨u1, hu1⟩ := u0.step hb; subst hu1; have HL := Lib.hid hr; clear hb hr)
 by_cases hneg : r < 0
 · go_wp2
   go_ret
   exact ⟨rfl, u1.back HB.out⟩
 have HLEN := Lib.hid (show M.nodes.length ≤ 1048576 ∧ M.inits.length ≤ 1048576 ∧ M.nexts.length ≤ 1048576 ∧ M.bads.length ≤ 1048576 ∧ M.holds.length ≤ 1048576 by
  have := HL.out
  unfold LeftOf at this
  omega)
 have hr0 : r ≤ 1048576 := by
  have := HL.out
  unfold LeftOf at this
  omega
 go_upto_region 6 with (go_at_call 29; refine (szValueT_calls _ L1 r _ (HU1.out.later u1) (by omega) (by omega)).mono ?_; rintro e w' ⟨q1, rfl, hb, hr⟩; obtain ⟨c1, hc⟩ := u1.step hb; subst hc; have HQ1 := Lib.hid hr; clear hb hr)
 by_cases hneg1 : q1 < 0
 · go_wp2
   go_ret
   exact ⟨rfl, c1.back HB.out⟩
 have HLV1 := Lib.hid (show L1.length ≤ 1048576 ∧ (∀ xs ∈ L1, xs.length ≤ 1048576) ∧ totN L1 ≤ 1048576 by
  have h0 := HQ1.out
  have hx : totN L1 ≤ 1048576 := by omega
  exact ⟨by omega, fun xs hx2 => Nat.le_trans (len_tot hx2) hx, hx⟩)
 have hq1 : q1 ≤ 1048576 := by
  have := HQ1.out
  omega
 go_upto_region 9 with (go_at_call 29; refine (szValueT_calls _ L2 q1 _ (HU2.out.later c1) (by omega) (by omega)).mono ?_; rintro e w' ⟨q2, rfl, hb, hr⟩; obtain ⟨c2, hc⟩ := c1.step hb; subst hc; have HQ2 := Lib.hid hr; clear hb hr)
 by_cases hneg2 : q2 < 0
 · go_wp2
   go_ret
   exact ⟨rfl, c2.back HB.out⟩
 have HLV2 := Lib.hid (show L2.length ≤ 1048576 ∧ (∀ xs ∈ L2, xs.length ≤ 1048576) ∧ totN L2 ≤ 1048576 by
  have h0 := HQ2.out
  have hx : totN L2 ≤ 1048576 := by omega
  exact ⟨by omega, fun xs hx2 => Nat.le_trans (len_tot hx2) hx, hx⟩)
 have hq2 : q2 ≤ 1048576 := by
  have := HQ2.out
  omega
 clear HL HQ1 HQ2
 go_wp2_with fail
 refine (toModel_at _ M _ (HM1.out.later c2) HLEN.out.1 HLEN.out.2.1 HLEN.out.2.2.1 HLEN.out.2.2.2.1 HLEN.out.2.2.2.2).mono ?_
 rintro e w' ⟨t0, t1, t2, t3, t4, rfl, hb, hc⟩
 obtain ⟨d0, hd⟩ := c2.step hb
 subst hd
 have HC := Lib.hid hc
 clear hb hc
 go_wp2_with fail
 refine (toValueS_calls _ L1 _ (HU1.out.later d0) HLV1.out.1 HLV1.out.2.1).mono ?_
 rintro e w' ⟨y1, ys1, rfl, hb, hr⟩
 have HC := Lib.hid (HC.out.below hb)
 have HY1 := Lib.hid hr.vlAt
 obtain ⟨d1, hd⟩ := d0.step hb
 subst hd
 clear hb hr
 go_wp2_with fail
 refine (toValueS_calls _ L2 _ (HU2.out.later d1) HLV2.out.1 HLV2.out.2.1).mono ?_
 rintro e w' ⟨y2, ys2, rfl, hb, hr⟩
 have HC := Lib.hid (HC.out.below hb)
 have HY1 := Lib.hid (HY1.out.below hb)
 have HY2 := Lib.hid hr.vlAt
 obtain ⟨d2, hd⟩ := d1.step hb
 subst hd
 clear hb hr
 go_wp2_with fail
 refine (EvalAll_calls _ _ _ M L1 L2 _ HC.out HY1.out HY2.out HLEN.out.1 HNM.out).mono ?_
 rintro e w' ⟨o0, os0, rfl, hb, hr⟩
 obtain ⟨e0, he⟩ := d2.step hb
 subst he
 have HLB := Lib.hid (show (allK M L1 L2).length ≤ 1048576 from allK_len _ _ _ HLEN.out.1)
 have HTB := Lib.hid (show totN (allK M L1 L2) ≤ 1000000 from allK_tot _ _ _)
 generalize hLL : (allK M L1 L2) = LL at *
 have HO0 := Lib.hid hr
 have HOB := Lib.hid (show ∀ b, Blk o0 os0 b → b < e0.val.heap.size from fun b hb => (hr.blk hb).2)
 clear hb hr HC HY1 HY2
 go_wp2_with fail
 refine (toModel_calls _ M _ (HM1.out.later e0) HLEN.out.1 HLEN.out.2.1 HLEN.out.2.2.1 HLEN.out.2.2.2.1 HLEN.out.2.2.2.2).mono ?_
 rintro e w' ⟨x0, x1, x2, x3, x4, rfl, hb, hx01, hx12, hx23, hx34, hf0, hf1, hf2, hf3, hf4⟩
 have HX := Lib.hid (show x0 < x1 ∧ x1 < x2 ∧ x2 < x3 ∧ x3 < x4 from ⟨hx01, hx12, hx23, hx34⟩)
 have HX0 := Lib.hid (show e0.val.heap.size ≤ x0 from hf0.ge)
 have HO0 := Lib.hid (HO0.out.below hb)
 have HOB := Lib.hid (show ∀ b, Blk o0 os0 b → b < x0 from fun b hb => Nat.lt_of_lt_of_le (HOB.out b hb) HX0.out)
 have HXW := Lib.hid (show w1.heap.size ≤ x0 from Nat.le_trans e0.size HX0.out)
 have HF := Lib.hid (show _ ∧ _ ∧ _ ∧ _ ∧ _ from ⟨hf0, hf1, hf2, hf3, hf4⟩)
 obtain ⟨e1, he⟩ := e0.step hb
 subst he
 clear hb hx01 hx12 hx23 hx34 hf0 hf1 hf2 hf3 hf4
 have HC2 := Lib.hid (show MdAt e1.val (Value.agg #[slOf x0 M.nodes, slOf x1 M.inits, slOf x2 M.nexts, slOf x3 M.bads, slOf x4 M.holds]) M from ⟨⟨_, _, _, _, _, rfl, HF.out.1.slAt (by have := HLEN.out; omega), HF.out.2.1.slAt (by have := HLEN.out; omega), HF.out.2.2.1.slAt (by have := HLEN.out; omega), HF.out.2.2.2.1.slAt (by have := HLEN.out; omega), HF.out.2.2.2.2.slAt (by have := HLEN.out; omega)⟩⟩)
 go_wp2_with fail
 have HB2 := Lib.hid (show LaterC w1 (e1.val.alloc (Obj.cells #[slOf x0 M.nodes, slOf x1 M.inits, slOf x2 M.nexts, slOf x3 M.bads, slOf x4 M.holds] 27)) from LaterC.alloc' ⟨e1, rfl⟩ _)
 have hba : Below e1.val.heap.size e1.val (e1.val.alloc (Obj.cells #[slOf x0 M.nodes, slOf x1 M.inits, slOf x2 M.nexts, slOf x3 M.bads, slOf x4 M.holds] 27)) := (Below.refl _ _).alloc (Nat.le_refl _) _
 have HC3 := Lib.hid (HC2.out.below hba)
 have HO1 := Lib.hid (HO0.out.below hba)
 have HF5 := Lib.hid (show _ ∧ _ ∧ _ ∧ _ ∧ _ from ⟨HF.out.1.below hba, HF.out.2.1.below hba, HF.out.2.2.1.below hba, HF.out.2.2.2.1.below hba, HF.out.2.2.2.2.below hba⟩)
 have HX4 := Lib.hid (show x4 < e1.val.heap.size from HF.out.2.2.2.2.lt)
 have HGS := Lib.hid (show e1.val.heap.size < (e1.val.alloc (Obj.cells #[slOf x0 M.nodes, slOf x1 M.inits, slOf x2 M.nexts, slOf x3 M.bads, slOf x4 M.holds] 27)).heap.size from by show _ < (Array.push _ _).size; rw [Array.size_push]; exact Nat.lt_succ_self _)
 clear HC2 HO0 HF hba
 have b0 := box_cell e1.val #[slOf x0 M.nodes, slOf x1 M.inits, slOf x2 M.nexts, slOf x3 M.bads, slOf x4 M.holds] 27 0 _ rfl
 have b1 := box_cell e1.val #[slOf x0 M.nodes, slOf x1 M.inits, slOf x2 M.nexts, slOf x3 M.bads, slOf x4 M.holds] 27 1 _ rfl
 have b2 := box_cell e1.val #[slOf x0 M.nodes, slOf x1 M.inits, slOf x2 M.nexts, slOf x3 M.bads, slOf x4 M.holds] 27 2 _ rfl
 have b3 := box_cell e1.val #[slOf x0 M.nodes, slOf x1 M.inits, slOf x2 M.nexts, slOf x3 M.bads, slOf x4 M.holds] 27 3 _ rfl
 have b4 := box_cell e1.val #[slOf x0 M.nodes, slOf x1 M.inits, slOf x2 M.nexts, slOf x3 M.bads, slOf x4 M.holds] 27 4 _ rfl
 generalize e1.val.alloc (Obj.cells #[slOf x0 M.nodes, slOf x1 M.inits, slOf x2 M.nexts, slOf x3 M.bads, slOf x4 M.holds] 27) = w2 at *
 generalize e1.val.heap.size = G at *
 have b0 : ∀ u : Later w2, u.val.cell? ⟨G, 0, none⟩ = some (slOf x0 M.nodes) := b0
 have b1 : ∀ u : Later w2, u.val.cell? ⟨G, 1, none⟩ = some (slOf x1 M.inits) := b1
 have b2 : ∀ u : Later w2, u.val.cell? ⟨G, 2, none⟩ = some (slOf x2 M.nexts) := b2
 have b3 : ∀ u : Later w2, u.val.cell? ⟨G, 3, none⟩ = some (slOf x3 M.bads) := b3
 have b4 : ∀ u : Later w2, u.val.cell? ⟨G, 4, none⟩ = some (slOf x4 M.holds) := b4
 have n0 := Later.re m0 HB2.out
 have n1 := Later.re m1 HB2.out
 have n2 := Later.re m2 HB2.out
 have n3 := Later.re m3 HB2.out
 have n4 := Later.re m4 HB2.out
 have HM3 := Lib.hid (HM1.out.below HB2.out.below)
 have HUb1 := Lib.hid (HU1.out.below HB2.out.below)
 have HUb2 := Lib.hid (HU2.out.below HB2.out.below)
 refine calls_at (w := w2) fun v0 => ?_
 refine (toValueS_calls _ L1 _ (HUb1.out.later v0) HLV1.out.1 HLV1.out.2.1).mono ?_
 rintro e w' ⟨z1, zs1, rfl, hb, hr⟩
 have HZ1 := Lib.hid hr
 have HZB1 := Lib.hid (show ∀ b, Blk z1 zs1 b → v0.val.heap.size ≤ b ∧ b < w'.heap.size from fun b hb => hr.blk hb)
 obtain ⟨v1, hv⟩ := v0.step hb
 have HVS1 := Lib.hid (show v0.val.heap.size ≤ v1.val.heap.size from hv ▸ hb.size)
 subst hv
 clear hb hr
 go_wp2_with fail
 refine (toValueS_calls _ L2 _ (HUb2.out.later v1) HLV2.out.1 HLV2.out.2.1).mono ?_
 rintro e w' ⟨z2, zs2, rfl, hb, hr⟩
 have HZ1 := Lib.hid (HZ1.out.below hb)
 have HZ2 := Lib.hid hr
 have HZB2 := Lib.hid (show ∀ b, Blk z2 zs2 b → v1.val.heap.size ≤ b ∧ b < w'.heap.size from fun b hb => hr.blk hb)
 obtain ⟨v2, hv⟩ := v1.step hb
 have HVS2 := Lib.hid (show v1.val.heap.size ≤ v2.val.heap.size from hv ▸ hb.size)
 subst hv
 clear hb hr
 go_wp2_with fail
 refine (EvalAll'_calls _ _ _ M L1 L2 _ (HC3.out.later v2) HZ1.out.vlAt HZ2.out.vlAt HLEN.out.1 HNM.out HW1.out HW2.out).mono ?_
 rw [hLL]
 rintro e w' ⟨g0, gs0, rfl, hb, hr⟩
 have HZ1 := Lib.hid (HZ1.out.below hb)
 have HZ2 := Lib.hid (HZ2.out.below hb)
 have HG := Lib.hid hr
 have HGB := Lib.hid (show ∀ b, Blk g0 gs0 b → v2.val.heap.size ≤ b from fun b hb => (hr.blk hb).1)
 obtain ⟨a0, ha⟩ := v2.step hb
 subst ha
 clear hb hr
 have HO2 := Lib.hid (HO1.out.below a0.prop)
 clear HO1
 go_wp2_with fail
 refine (eqValueS_calls _ _ LL _ HG.out.vlAt HO2.out.vlAt).mono ?_
 rintro e w' ⟨rfl, hb⟩
 have HG := Lib.hid (HG.out.below hb)
 have HO3 := Lib.hid (HO2.out.below hb)
 clear HO2
 have HZ1 := Lib.hid (HZ1.out.below hb)
 have HZ2 := Lib.hid (HZ2.out.below hb)
 obtain ⟨p0, hp⟩ := a0.step hb
 subst hp
 clear hb
 go_upto_region 18 with fail
 have HQL := Lib.hid (show ∀ w', LaterC w2 w' → w'.cell? ⟨w.heap.size, 0, none⟩ = some s0 ∧ w'.cell? ⟨w.heap.size, 1, none⟩ = some s1 ∧ w'.cell? ⟨w.heap.size, 2, none⟩ = some s2 ∧ w'.cell? ⟨w.heap.size, 3, none⟩ = some s3 ∧ w'.cell? ⟨w.heap.size, 4, none⟩ = some s4 ∧ w'.cell? ⟨G, 0, none⟩ = some (slOf x0 M.nodes) ∧ w'.cell? ⟨G, 1, none⟩ = some (slOf x1 M.inits) ∧ w'.cell? ⟨G, 2, none⟩ = some (slOf x2 M.nexts) ∧ w'.cell? ⟨G, 3, none⟩ = some (slOf x3 M.bads) ∧ w'.cell? ⟨G, 4, none⟩ = some (slOf x4 M.holds) from fun W h => by
  obtain ⟨v, rfl⟩ := h
  exact ⟨n0 v, n1 v, n2 v, n3 v, n4 v, b0 v, b1 v, b2 v, b3 v, b4 v⟩)
 have HP0 := Lib.hid (Below.refl p0.val.heap.size p0.val)
 go_region_held3 (fun w' => w'.cell? ⟨w.heap.size, 0, none⟩ = some s0 ∧ w'.cell? ⟨w.heap.size, 1, none⟩ = some s1 ∧ w'.cell? ⟨w.heap.size, 2, none⟩ = some s2 ∧ w'.cell? ⟨w.heap.size, 3, none⟩ = some s3 ∧ w'.cell? ⟨w.heap.size, 4, none⟩ = some s4 ∧ w'.cell? ⟨G, 0, none⟩ = some (slOf x0 M.nodes) ∧ w'.cell? ⟨G, 1, none⟩ = some (slOf x1 M.inits) ∧ w'.cell? ⟨G, 2, none⟩ = some (slOf x2 M.nexts) ∧ w'.cell? ⟨G, 3, none⟩ = some (slOf x3 M.bads) ∧ w'.cell? ⟨G, 4, none⟩ = some (slOf x4 M.holds)) ((refine HQL.out _ ?_; repeat (first | exact ⟨_, rfl⟩ | refine LaterC.drew' ?_ | refine LaterC.alloc' ?_ _))) (first | (go_at_call 24; refine (toModel_at _ M _ (HM3.out.below (LaterC.below (by repeat (first | exact ⟨_, rfl⟩ | refine LaterC.drew' ?_ | refine LaterC.alloc' ?_ _)))) HLEN.out.1 HLEN.out.2.1 HLEN.out.2.2.1 HLEN.out.2.2.2.1 HLEN.out.2.2.2.2).mono ?_; rintro e w' ⟨y0, y1, y2, y3, y4, rfl, hb, hc⟩; have HP1 : Hid (Below p0.val.heap.size p0.val w') := Lib.hid (by first | exact hb | exact (HP0.out.drew).trans hb); obtain ⟨p1, hp⟩ := laterC_step (w1 := w2) (by repeat (first | exact ⟨_, rfl⟩ | refine LaterC.drew' ?_ | refine LaterC.alloc' ?_ _)) hb; subst hp; have HC4 := Lib.hid hc; clear hb hc) | (go_at_call 26; refine (eqModel_calls _ _ M _ (HC3.out.below (LaterC.below (by repeat (first | exact ⟨_, rfl⟩ | refine LaterC.drew' ?_ | refine LaterC.alloc' ?_ _)))) (HC4.out.below (by first | exact Below.refl _ _ | exact (Below.refl _ _).drew))).mono ?_; rintro e w' ⟨rfl, hb⟩; have HP2 : Hid (Below p0.val.heap.size p0.val w') := Lib.hid (by first | exact HP1.out.trans (hb.mono HP1.out.size) | exact HP1.out.drew.trans (hb.mono (Nat.le_trans HP1.out.size (Nat.le_refl _)))); obtain ⟨p2, hp⟩ := laterC_step (w1 := w2) (by repeat (first | exact ⟨_, rfl⟩ | refine LaterC.drew' ?_ | refine LaterC.alloc' ?_ _)) hb; subst hp; clear hb))
 have HG := Lib.hid (HG.out.below HP2.out)
 have HO4 := Lib.hid (HO3.out.below HP2.out)
 clear HO3
 have HZ1 := Lib.hid (HZ1.out.below HP2.out)
 have HZ2 := Lib.hid (HZ2.out.below HP2.out)
 go_wp2_with fail
 refine (toValueS_calls _ L1 _ (HUb1.out.later p2) HLV1.out.1 HLV1.out.2.1).mono ?_
 rintro e w' ⟨k1, ks1, rfl, hb, hr⟩
 have HG := Lib.hid (HG.out.below hb)
 have HO4 := Lib.hid (HO4.out.below hb)
 have HZ1 := Lib.hid (HZ1.out.below hb)
 have HZ2 := Lib.hid (HZ2.out.below hb)
 have HK1 := Lib.hid hr.vlAt
 obtain ⟨h1, hg⟩ := p2.step hb
 subst hg
 clear hb hr
 go_wp2_with fail
 refine (eqValueS_calls _ _ L1 _ HZ1.out.vlAt HK1.out).mono ?_
 rintro e w' ⟨rfl, hb⟩
 have HG := Lib.hid (HG.out.below hb)
 have HO4 := Lib.hid (HO4.out.below hb)
 have HZ1 := Lib.hid (HZ1.out.below hb)
 have HZ2 := Lib.hid (HZ2.out.below hb)
 obtain ⟨l1, hg⟩ := h1.step hb
 subst hg
 clear hb
 go_wp2_with fail
 refine (toValueS_calls _ L2 _ (HUb2.out.later l1) HLV2.out.1 HLV2.out.2.1).mono ?_
 rintro e w' ⟨k2, ks2, rfl, hb, hr⟩
 have HG := Lib.hid (HG.out.below hb)
 have HO4 := Lib.hid (HO4.out.below hb)
 have HZ1 := Lib.hid (HZ1.out.below hb)
 have HZ2 := Lib.hid (HZ2.out.below hb)
 have HK2 := Lib.hid hr.vlAt
 obtain ⟨h2, hg⟩ := l1.step hb
 subst hg
 clear hb hr
 go_wp2_with fail
 refine (eqValueS_calls _ _ L2 _ HZ2.out.vlAt HK2.out).mono ?_
 rintro e w' ⟨rfl, hb⟩
 have HG := Lib.hid (HG.out.below hb)
 have HO4 := Lib.hid (HO4.out.below hb)
 have HZ1 := Lib.hid (HZ1.out.below hb)
 have HZ2 := Lib.hid (HZ2.out.below hb)
 obtain ⟨l2, hg⟩ := h2.step hb
 subst hg
 clear hb
 go_wp2_with fail
 refine (markModel_le M _ x0 x1 x2 x3 x4 HLEN.out HX.out (HF5.out.1.below l2.prop) (HF5.out.2.1.below l2.prop) (HF5.out.2.2.1.below l2.prop) (HF5.out.2.2.2.1.below l2.prop) (HF5.out.2.2.2.2.below l2.prop)).mono ?_
 rintro e w4 ⟨r2, rfl, hr2, hbut⟩
 have HXV := Lib.hid (show x4 < w2.heap.size ∧ w2.heap.size ≤ v0.val.heap.size by have h1 := HX4.out; have h2 := HGS.out; have h3 := v0.size; omega)
 have HVN := Lib.hid (show v0.val.heap.size ≤ v2.val.heap.size by have h1 := HVS1.out; have h2 := HVS2.out; omega)
 have HG := Lib.hid (HG.out.but hbut (fun b hb h => by have h1 := HGB.out b hb; have h2 := HXV.out; have h3 := HVN.out; have h4 := h.2; omega))
 have HO4 := Lib.hid (HO4.out.but hbut (fun b hb h => by have h1 := HOB.out b hb; have h4 := h.1; omega))
 have HZ1 := Lib.hid (HZ1.out.but hbut (fun b hb h => by have h1 := HZB1.out b hb; have h2 := HXV.out; have h4 := h.2; omega))
 have HZ2 := Lib.hid (HZ2.out.but hbut (fun b hb h => by have h1 := HZB2.out b hb; have h2 := HXV.out; have h4 := h.2; have k1 := HVS1.out; omega))
 have HL4 := Lib.hid (show LaterC w1 w4 from .of ((HB2.out.trans ⟨l2, rfl⟩).below.trans (hbut.below (fun k hk => Nat.le_trans HXW.out hk.1) (HB2.out.trans ⟨l2, rfl⟩).size)))
 have hr3 := hr2
 clear hr2 hbut
 have HR2 := Lib.hid hr3
 have hr4 : 0 ≤ r2 := by have := HR2.out; omega
 clear hr3
 go_wp2_with fail
 refine (markValueS_calls _ _ _ L1 r2 _ HZ1.out hr4 (by have h1 := HLV1.out.2.2; have h2 := HR2.out; omega)).mono ?_
 rintro e wm1 ⟨rfl, hbut, hr⟩
 have HG := Lib.hid (HG.out.but hbut (fun b hb h => by have h1 := HGB.out b hb; have h2 := HZB1.out b h; have k2 := HVS2.out; omega))
 have HO4 := Lib.hid (HO4.out.but hbut (fun b hb h => by have h1 := HOB.out b hb; have h2 := HZB1.out b h; have h3 := HXV.out; have h5 := HX.out; omega))
 have HZ2 := Lib.hid (HZ2.out.but hbut (fun b hb h => by have h1 := HZB2.out b hb; have h2 := HZB1.out b h; omega))
 have HLm1 := Lib.hid (show LaterC w1 wm1 from .of (HL4.out.below.trans (hbut.below (fun k hk => by have h1 := HZB1.out k hk; have h2 := HXV.out; have h3 := HX.out; have h4 := HXW.out; omega) HL4.out.size)))
 obtain ⟨rr1, hrr1⟩ : ∃ z : Int, z = r2 + totN L1 := ⟨_, rfl⟩
 rw [← hrr1]
 have hk1 : 0 ≤ rr1 := by omega
 have HRR1 := Lib.hid hrr1
 clear hbut hr hrr1
 go_wp2_with fail
 refine (markValueS_calls _ _ _ L2 rr1 _ HZ2.out hk1 (by have h1 := HLV2.out.2.2; have h2 := HR2.out; have e1 := HRR1.out; have g1 := HLV1.out.2.2; omega)).mono ?_
 rintro e wm2 ⟨rfl, hbut, hr⟩
 have HG := Lib.hid (HG.out.but hbut (fun b hb h => by have h1 := HGB.out b hb; have h2 := HZB2.out b h; omega))
 have HO4 := Lib.hid (HO4.out.but hbut (fun b hb h => by have h1 := HOB.out b hb; have h2 := HZB2.out b h; have h3 := HXV.out; have h5 := HX.out; have k1 := HVS1.out; omega))
 have HLm2 := Lib.hid (show LaterC w1 wm2 from .of (HLm1.out.below.trans (hbut.below (fun k hk => by have h1 := HZB2.out k hk; have h2 := HXV.out; have h3 := HX.out; have h4 := HXW.out; have k1 := HVS1.out; omega) HLm1.out.size)))
 obtain ⟨rr2, hrr2⟩ : ∃ z : Int, z = rr1 + totN L2 := ⟨_, rfl⟩
 rw [← hrr2]
 have hk2 : 0 ≤ rr2 := by omega
 have HRR2 := Lib.hid hrr2
 clear hbut hr hrr2
 have hneg3 : (rr2 < 0) = False := eq_false (by omega)
 refine at_world (w := wm2) ?_
 intro f0
 go_wp2_with fail
 refine (eqValueS_calls _ _ LL _ (HG.out.below f0.prop).vlAt (HO4.out.below f0.prop).vlAt).mono ?_
 rintro e w' ⟨rfl, hb⟩
 have HG := Lib.hid ((HG.out.below f0.prop).below hb)
 have HO4 := Lib.hid ((HO4.out.below f0.prop).below hb)
 have HL5 := Lib.hid (show LaterC w1 w' from laterC_step (HLm2.out.trans ⟨f0, rfl⟩) hb)
 clear hb
 go_wp2_with fail
 refine (markValueS_calls _ _ _ LL 1 _ HG.out (by omega) (by have := HTB.out; omega)).mono ?_
 rintro e w5 ⟨rfl, hbut, hr⟩
 have HG5 := Lib.hid hr
 have HO5 := Lib.hid (HO4.out.but hbut (fun b hb h => by have h1 := HOB.out b hb; have h2 := HGB.out b h; have h3 := HXV.out; have h5 := HX.out; have h6 := HVN.out; omega))
 have HL6 := Lib.hid (show LaterC w1 w5 from .of (HL5.out.below.trans (hbut.below (fun k hk => by have h1 := HGB.out k hk; have h2 := HXV.out; have h3 := HX.out; have h4 := HXW.out; have h6 := HVN.out; omega) HL5.out.size)))
 clear hbut hr HG HO4
 obtain ⟨tt, htt⟩ : ∃ z : Int, z = 1 + (totN LL : Int) := ⟨_, rfl⟩
 rw [← htt]
 have htt0 : 0 ≤ tt := by omega
 have HTT := Lib.hid htt.symm
 clear htt
 have hneg4 : (tt < 0) = False := eq_false (by omega)
 have k0 := Later.re m0 HL6.out
 have k1 := Later.re m1 HL6.out
 have k2 := Later.re m2 HL6.out
 have k3 := Later.re m3 HL6.out
 have k4 := Later.re m4 HL6.out
 have HM6 := Lib.hid (HM1.out.below HL6.out.below)
 have HUc1 := Lib.hid (HU1.out.below HL6.out.below)
 have HUc2 := Lib.hid (HU2.out.below HL6.out.below)
 refine at_world (w := w5) ?_
 intro d9
 go_wp2_with fail
 refine (Calls.later_eq (u := d9) (heldValueS_calls _ LL 1 _ (HG5.out.below d9.prop).vlAt (by omega) (by have := HTB.out; omega)) (congrArg (Value.int .i64) HTT.out)).mono ?_
 rintro e w' ⟨rfl, d8, rfl⟩
 go_wp2_with fail
 refine (toModel_at _ M _ (HM6.out.later d8) HLEN.out.1 HLEN.out.2.1 HLEN.out.2.2.1 HLEN.out.2.2.2.1 HLEN.out.2.2.2.2).mono ?_
 rintro e w' ⟨z0, z1, z2, z3, z4, rfl, hb, hc⟩
 obtain ⟨j0, hj⟩ := d8.step hb
 subst hj
 have HC := Lib.hid hc
 clear hb hc
 go_wp2_with fail
 refine (toValueS_calls _ L1 _ (HUc1.out.later j0) HLV1.out.1 HLV1.out.2.1).mono ?_
 rintro e w' ⟨y1, ys1, rfl, hb, hr⟩
 have HC := Lib.hid (HC.out.below hb)
 have HY1 := Lib.hid hr.vlAt
 obtain ⟨j1, hj⟩ := j0.step hb
 subst hj
 clear hb hr
 go_wp2_with fail
 refine (toValueS_calls _ L2 _ (HUc2.out.later j1) HLV2.out.1 HLV2.out.2.1).mono ?_
 rintro e w' ⟨y2, ys2, rfl, hb, hr⟩
 have HC := Lib.hid (HC.out.below hb)
 have HY1 := Lib.hid (HY1.out.below hb)
 have HY2 := Lib.hid hr.vlAt
 obtain ⟨j2, hj⟩ := j1.step hb
 subst hj
 clear hb hr
 go_wp2_with fail
 refine (EvalAll'_calls _ _ _ M L1 L2 _ HC.out HY1.out HY2.out HLEN.out.1 HNM.out HW1.out HW2.out).mono ?_
 rw [hLL]
 rintro e w' ⟨q0, qs0, rfl, hb, hr⟩
 have HQ0 := Lib.hid hr
 obtain ⟨i0, hi⟩ := j2.step hb
 subst hi
 clear hb hr
 go_wp2_with fail
 refine (Calls.later (u := i0) (eqValueS_calls _ _ LL _ HQ0.out.vlAt (HO5.out.below i0.prop).vlAt)).mono ?_
 rintro e w' ⟨rfl, i1, rfl⟩
 go_wp2_with fail
 refine (Calls.later_eq (u := i1) (heldValueS_calls _ LL 1 _ (HG5.out.below i1.prop).vlAt (by omega) (by have := HTB.out; omega)) (congrArg (Value.int .i64) HTT.out)).mono ?_
 rintro e w' ⟨rfl, i2, rfl⟩
 go_wp2
 go_ret
 exact ⟨rfl, i2.back (below_of HB.out HL6.out)⟩
end Go.Proofs.YtbenebcphaiohaaGreat
namespace Go.Proofs.YtbenebcphaiohaaGreat
open Go.RowKit
def wideN (c : Nat) (xs : List Int) : List Int := xs ++ List.replicate (c - xs.length) (xs.getD 0 0)
theorem wideN_self {c : Nat} {xs : List Int} (h : c ≤ xs.length) : wideN c xs = xs := by
 unfold wideN
 rw [Nat.sub_eq_zero_of_le h]
 simp
def bdN (st : Int) : List Bd → Int
 | [] => -1
 | b :: l => if b.st = st then b.nd else bdN st l
theorem bd_at {st : Int} : ∀ {xs : List Bd} {k : Nat}, k < xs.length → (∀ j, j < k → (xs.getD j Bd.zero).st ≠ st) → (xs.getD k Bd.zero).st = st → bdN st xs = (xs.getD k Bd.zero).nd
 | x :: l, 0, _, _, h => by
   simp at h ⊢
   rw [bdN, if_pos h]
 | x :: l, k + 1, hk, hj, h => by
   have h0 := hj 0 (by omega)
   simp at h0
   rw [bdN, if_neg h0]
   simpa using bd_at (xs := l) (k := k) (by simpa using hk) (fun j hjk => by simpa using hj (j + 1) (by omega)) (by simpa using h)
theorem bd_none {st : Int} : ∀ {xs : List Bd}, (∀ j, j < xs.length → (xs.getD j Bd.zero).st ≠ st) → bdN st xs = -1
 | [], _ => rfl
 | x :: l, h => by
   have h0 := h 0 (by simp)
   simp at h0
   rw [bdN, if_neg h0]
   exact bd_none fun j hj => by simpa using h (j + 1) (by simpa using hj)
theorem bd_cases (st : Int) : ∀ xs : List Bd, bdN st xs = -1 ∨ ∃ b, b ∈ xs ∧ b.st = st ∧ bdN st xs = b.nd
 | [] => .inl rfl
 | x :: l => by
   by_cases h : x.st = st
   · exact .inr ⟨x, by simp, h, by rw [bdN, if_pos h]⟩
   · rw [bdN, if_neg h]
     rcases bd_cases st l with h1 | ⟨b, h1, h2, h3⟩
     · exact .inl h1
     · exact .inr ⟨b, by simp [h1], h2, h3⟩
theorem again_none {xs : List Bd} (h : againB xs = false) {i j : Nat} (hi : i < xs.length) (hj : j < i) : (xs.getD i Bd.zero).st ≠ (xs.getD j Bd.zero).st := by
 intro e
 rw [again_yes hi hj e] at h
 cases h
theorem bd_of {xs : List Bd} (h : againB xs = false) {b : Bd} (hb : b ∈ xs) : bdN b.st xs = b.nd := by
 obtain ⟨k, hk⟩ := List.getElem?_of_mem hb
 have hlt := (List.getElem?_eq_some_iff.1 hk).1
 have hg : xs.getD k Bd.zero = b := by
  have := getD_at hlt Bd.zero
  rw [hk] at this
  exact (Option.some.inj this).symm
 have := bd_at (st := b.st) hlt (fun j hj e => again_none h hlt hj (by rw [hg, e])) (by rw [hg])
 rw [this, hg]
abbrev cellN (ns : List Nd) (p : Int) : Nat := (cellsN (pN ns p).idx (pN ns p).wid).toNat
abbrev plK (M : Md) : List Int := placesN 36 M.nodes M.nodes.length
def bindOk (ns : List Nd) (V : List (List Int)) (ps : List Int) (T : List (List Int)) (b : Bd) : Bool := decide (wideN (cellN ns b.st) (vN V b.nd) = T.getD (firstN (fun y => y == b.st) ps).toNat [])
def boundK (ns : List Nd) (bs : List Bd) (V : List (List Int)) (ps : List Int) (T : List (List Int)) : Bool := bs.all (bindOk ns V ps T)
def stateOk (bs : List Bd) (V : List (List Int)) (ps : List Int) (T : List (List Int)) (i : Nat) : Bool := decide (bdN (ps.getD i 0) bs < 0) || decide (T.getD i [] = wideN (T.getD i []).length (vN V (bdN (ps.getD i 0) bs)))
def stateOk' (bs : List Bd) (V : List (List Int)) (ps : List Int) (T : List (List Int)) (i : Nat) : Bool := decide (bdN (ps.getD i 0) bs < 0) || decide (T.getD i [] = vN V (bdN (ps.getD i 0) bs))
theorem placesN_lt {kind : Int} {l : List Nd} : ∀ k, (placesN kind l k).Pairwise (· < ·)
 | 0 => List.Pairwise.nil
 | k + 1 => by
   by_cases h : ((l.getD k Nd.zero).kind == kind) = true
   · rw [placesN_yes h, List.pairwise_append]
     refine ⟨placesN_lt k, by simp, fun a ha b hb => ?_⟩
     obtain ⟨j, h1, h2, -⟩ := placesN_in ha
     simp at hb
     omega
   · rw [placesN_no (eq_false_of_ne_true h)]
     exact placesN_lt k
theorem first_pair {xs : List Int} (h : xs.Pairwise (· < ·)) {i : Nat} (hi : i < xs.length) : firstN (fun y => y == xs.getD i 0) xs = i := by
 refine first_at hi (fun j hj => ?_) (by simp)
 have := List.pairwise_iff_getElem.1 h j i (by omega) hi hj
 rw [List.getD_eq_getElem?_getD, List.getD_eq_getElem?_getD, List.getElem?_eq_getElem hi, List.getElem?_eq_getElem (show j < xs.length by omega)]
 simp
 omega
theorem bindAll_eq {ns : List Nd} {bs : List Bd} {V : List (List Int)} {ps : List Int} {T : List (List Int)} (hp : ps.Pairwise (· < ·)) (ha : againB bs = false) (hst : ∀ b, b ∈ bs → b.st ∈ ps) (hnd : ∀ b, b ∈ bs → 0 ≤ b.nd) (hl : ∀ i, i < ps.length → (T.getD i []).length = cellN ns (ps.getD i 0)) :
 (List.range ps.length).all (stateOk bs V ps T) = boundK ns bs V ps T := by
 rw [Bool.eq_iff_iff, List.all_eq_true]
 unfold boundK
 rw [List.all_eq_true]
 constructor
 · intro h b hb
   obtain ⟨i, hi⟩ := List.getElem?_of_mem (hst b hb)
   have hlt := (List.getElem?_eq_some_iff.1 hi).1
   have hg : ps.getD i 0 = b.st := by
    have := getD_at hlt 0
    rw [hi] at this
    exact (Option.some.inj this).symm
   have h1 := h i (List.mem_range.2 hlt)
   unfold stateOk at h1
   rw [hg, bd_of ha hb, decide_eq_false (by have := hnd b hb; omega), Bool.false_or] at h1
   have h2 := of_decide_eq_true h1
   rw [hl i hlt, hg] at h2
   unfold bindOk
   have hf := first_pair hp hlt
   rw [hg] at hf
   rw [hf]
   exact decide_eq_true h2.symm
 · intro h i hi
   have hlt := List.mem_range.1 hi
   unfold stateOk
   rcases bd_cases (ps.getD i 0) bs with h1 | ⟨b, h1, h2, h3⟩
   · rw [h1]; rfl
   · have h4 := h b h1
     unfold bindOk at h4
     have h5 := of_decide_eq_true h4
     rw [h2, first_pair hp hlt] at h5
     rw [h3, hl i hlt]
     rw [decide_eq_true (p := T.getD i [] = _) h5.symm, Bool.or_true]
theorem fits_cell {ns : List Nd} {ps : List Int} {T : List (List Int)} (h : fitsB ns ps T = true) : T.length = ps.length ∧ ∀ i, i < ps.length → (T.getD i []).length = cellN ns (ps.getD i 0) := by
 unfold fitsB at h
 rw [Bool.and_eq_true] at h
 have h1 : T.length = ps.length := by simpa using h.1
 refine ⟨h1, fun i hi => ?_⟩
 have h2 := List.all_eq_true.1 h.2 i (List.mem_range.2 (by omega))
 unfold valB valN at h2
 rw [Bool.and_eq_true] at h2
 have h3 : (((T.getD i []).length : Nat) : Int) = cellsN (pN ns (ps.getD i 0)).idx (pN ns (ps.getD i 0)).wid := by simpa using h2.1
 unfold cellN
 omega
theorem bound_parts {ns : List Nd} {b : Bd} (h : boundB ns b = true) : (0 ≤ b.st ∧ b.st < ns.length) ∧ (0 ≤ b.nd ∧ b.nd < ns.length) ∧ ((pN ns b.st).kind == 36) = true ∧ (pN ns b.st).idx = (pN ns b.nd).idx ∧ (pN ns b.st).wid = (pN ns b.nd).wid := by
 unfold boundB at h
 simp only [Bool.and_eq_true, beq_iff_eq] at h
 obtain ⟨h1, h2, h3, h4, h5⟩ := h
 have h1 := of_inB h1
 have h2 := of_inB h2
 exact ⟨by omega, by omega, by simpa using h3, h4, h5⟩
theorem placesN_mem {kind : Int} {l : List Nd} : ∀ {k j : Nat}, j < k → ((l.getD j Nd.zero).kind == kind) = true → (j : Int) ∈ placesN kind l k
 | k + 1, j, hj, h => by
   by_cases e : j = k
   · subst e
     rw [placesN_yes h]
     simp
   · have := placesN_mem (k := k) (show j < k by omega) h
     rw [placesN]
     exact List.mem_append_left _ this
theorem init_parts {ns : List Nd} {b : Bd} (h : initB ns b = true) : (0 ≤ b.st ∧ b.st < ns.length) ∧ (0 ≤ b.nd ∧ b.nd < ns.length) ∧ ((pN ns b.st).kind == 36) = true := by
 unfold initB at h
 rw [Bool.and_eq_true] at h
 have hb := bound_nd h.1
 have h1 := h.1
 unfold wordBd at h1
 split at h1
 · have := bound_parts h1
   exact ⟨this.1, by omega, this.2.2.1⟩
 · have := bound_parts h1
   exact ⟨this.1, this.2.1, this.2.2.1⟩
theorem st_mem {ns : List Nd} {b : Bd} (h : (0 ≤ b.st ∧ b.st < ns.length) ∧ ((pN ns b.st).kind == 36) = true) : b.st ∈ placesN 36 ns ns.length := by
 obtain ⟨⟨h1, h2⟩, h3⟩ := h
 obtain ⟨p, hp⟩ := Int.eq_ofNat_of_zero_le h1
 rw [hp] at h2 h3 ⊢
 unfold pN at h3
 rw [Int.toNat_natCast] at h3
 exact placesN_mem (by omega) h3
theorem twice_parts {M : Md} (h : twiceB M = false) : againB M.inits = false ∧ againB M.nexts = false := by
 unfold twiceB at h
 simp only [Bool.or_eq_false_iff] at h
 exact h.2
theorem binds_parts {M : Md} (h : bindsB M = true) : (∀ b, b ∈ M.inits → initB M.nodes b = true) ∧ ∀ b, b ∈ M.nexts → boundB M.nodes b = true := by
 unfold bindsB at h
 rw [Bool.and_eq_true, List.all_eq_true, List.all_eq_true] at h
 exact h
theorem zerosN_getD (ns : List Nd) (ps : List Int) : ∀ {i k : Nat}, k < i → (zerosN ns ps i).getD k [] = List.replicate (cellsN (ndAt ns ps k).idx (ndAt ns ps k).wid).toNat 0
 | i + 1, k, hk => by
   rw [zerosN]
   by_cases e : k = i
   · subst e
     have h := getD_last (A := zerosN ns ps k) (a := List.replicate (cellsN (ndAt ns ps k).idx (ndAt ns ps k).wid).toNat 0) []
     rw [zerosN_length] at h
     exact h
   · rw [getD_left _ (by rw [zerosN_length]; omega)]
     exact zerosN_getD ns ps (by omega)
theorem zeros_fits (ns : List Nd) (ps : List Int) : fitsB ns ps (zerosN ns ps ps.length) = true := by
 refine fits_yes (zerosN_length _ _ _) fun k hk => ?_
 rw [zerosN_length] at hk
 rw [zerosN_getD ns ps hk]
 unfold valB
 have hnd : ns.getD (ps.getD k 0).toNat Nd.zero = ndAt ns ps k := rfl
 rw [hnd]
 generalize ndAt ns ps k = x
 have hcb := cells_bits x.idx x.wid
 refine val_yes (by rw [List.length_replicate]; omega) fun j hj => ?_
 rw [List.length_replicate] at hj
 have hs := hcb.2.1 (by omega)
 rw [List.getD_eq_getElem?_getD, List.getElem?_replicate, if_pos hj]
 unfold sokB at hs
 rw [Bool.and_eq_true] at hs
 unfold wokB
 rw [hs.2, Bool.true_and]
 exact inB_yes ⟨Int.le_refl _, by have := pow_pos_i x.wid; simp; omega⟩
noncomputable def zeroK (kind : Int) (M : Md) : List (List Int) := zerosN M.nodes (placesN kind M.nodes M.nodes.length) (placesN kind M.nodes M.nodes.length).length
noncomputable def fixedL (M : Md) : List (List Int) := evalL M (zeroK 36 M) (zeroK 35 M)
noncomputable def initK (M : Md) (S : List (List Int)) : Bool := fitsK 36 M S && boundK M.nodes M.inits (fixedL M) (plK M) S
noncomputable def stepK (M : Md) (S I T : List (List Int)) : Bool := bothK M S I && (fitsK 36 M T && boundK M.nodes M.nexts (evalL M S I) (plK M) T)
theorem initK_eq {M : Md} {S : List (List Int)} (h : fitsK 36 M S = true) (V : List (List Int)) : (List.range (plK M).length).all (stateOk M.inits V (plK M) S) = boundK M.nodes M.inits V (plK M) S := by
 obtain ⟨h1, h2⟩ := fitsK_code h
 obtain ⟨-, -, g2, g3, -, -⟩ := codeN_parts h1
 have hb := (binds_parts g3).1
 exact bindAll_eq (placesN_lt _) (twice_parts g2).1 (fun b hm => by have := init_parts (hb b hm); exact st_mem ⟨this.1, this.2.2⟩) (fun b hm => (init_parts (hb b hm)).2.1.1) (fits_cell h2).2
theorem stepK_eq {M : Md} {T V : List (List Int)} (h : fitsK 36 M T = true) (hv : ∀ j, j < M.nodes.length → valB (M.nodes.getD j Nd.zero) (V.getD j []) = true) : (List.range (plK M).length).all (stateOk' M.nexts V (plK M) T) = boundK M.nodes M.nexts V (plK M) T := by
 obtain ⟨h1, h2⟩ := fitsK_code h
 obtain ⟨-, -, g2, g3, -, -⟩ := codeN_parts h1
 have hb := (binds_parts g3).2
 rw [← bindAll_eq (placesN_lt _) (twice_parts g2).2 (fun b hm => by have := bound_parts (hb b hm); exact st_mem ⟨this.1, this.2.2.1⟩) (fun b hm => (bound_parts (hb b hm)).2.1.1) (fits_cell h2).2]
 rw [Bool.eq_iff_iff, List.all_eq_true, List.all_eq_true]
 refine forall_congr' fun i => ?_
 refine imp_congr_right fun hi => ?_
 have hlt := List.mem_range.1 hi
 suffices he : stateOk' M.nexts V (plK M) T i = stateOk M.nexts V (plK M) T i by rw [he]
 unfold stateOk stateOk'
 rcases bd_cases ((plK M).getD i 0) M.nexts with g | ⟨b, hm, hs, hn⟩
 · rw [g]; rfl
 · have hp := bound_parts (hb b hm)
   have hl := (fits_cell h2).2 i hlt
   rw [hn]
   have hval := hv b.nd.toNat (by omega)
   unfold valB valN at hval
   rw [Bool.and_eq_true] at hval
   have h3 : ((vN V b.nd).length : Int) = cellsN (pN M.nodes b.nd).idx (pN M.nodes b.nd).wid := by simpa using hval.1
   rw [wideN_self]
   rw [hl, ← hs]
   unfold cellN
   rw [hp.2.2.2.1, hp.2.2.2.2]
   omega
end Go.Proofs.YtbenebcphaiohaaGreat
namespace Go.Proofs.YtbenebcphaiohaaGreat
open Go.RowKit
theorem l4Bound_calls (sv : Value) (xs : List Bd) (st : Int) (w : World) (hS : SlAt enBd w sv xs) :
 Makes Tryz.prog 117 #[sv, .int .i64 st] w (.int .i64 (bdN st xs)) := by
 obtain ⟨A, c, rfl, hnc, hc', hA⟩ := hS
 have HAT := Lib.hid (show ∀ k, k < xs.length → (∀ j, j < k → (xs.getD j Bd.zero).st ≠ st) → (xs.getD k Bd.zero).st = st → bdN st xs = (xs.getD k Bd.zero).nd from fun k => bd_at)
 have HNO := Lib.hid (show (∀ j, j < xs.length → (xs.getD j Bd.zero).st ≠ st) → bdN st xs = -1 from bd_none)
 generalize bdN st xs = R at *
 generalize hN : xs.length = n at *
 have HN := Lib.hid hN
 clear hN
 have hn : n ≤ 281474976710656 := Nat.le_trans hnc hc'
 clear hc' hnc
 go_enter Tryz.func117, Tryz.ntmps117
 go_wp2
 go_loopw [5] (fun i wr => ∃ k : Nat, k ≤ n ∧ i = .int .i64 k ∧ Hid (∀ j, j < k → (xs.getD j Bd.zero).st ≠ st) ∧ LaterC w wr) (fun i _ => n - (intOf i).toNat)
 case atStart => exact ⟨0, Nat.zero_le _, rfl, Lib.hid (fun j hj => absurd hj (Nat.not_lt_zero _)), LaterC.refl w⟩
 case round =>
  obtain ⟨k, hk, rfl, hto, ⟨u, rfl⟩⟩ := hrel
  by_cases hlt : k < n
  · have hlt' : (k : Int) < n := by omega
    have hget := getD_at (show k < xs.length by rw [HN.out]; exact hlt) Bd.zero
    obtain ⟨b, o, rfl, hx⟩ := hA k _ hget
    have p0 : ∀ l : Later w, l.val.cell? ⟨b, o + k * 2, none⟩ = some (.int .i64 (xs.getD k Bd.zero).st) := hx.at_ (Below.refl _ _) 0 _ rfl
    have p1 : ∀ l : Later w, l.val.cell? ⟨b, o + k * 2 + 1, none⟩ = some (.int .i64 (xs.getD k Bd.zero).nd) := hx.at_ (Below.refl _ _) 1 _ rfl
    generalize hxe : (xs.getD k Bd.zero).st = x at p0
    generalize hye : (xs.getD k Bd.zero).nd = y at p1
    have HX := Lib.hid hxe
    by_cases heq : x = st
    · have HR := Lib.hid ((HAT.out k hlt hto.out (hxe.trans heq)).trans hye)
      clear hx hget hxe hye hA hto
      subst heq
      go_wp2
      go_ret
      exact ⟨ret_eq (congrArg (Value.int .i64) HR.out.symm), u.prop⟩
    · have HTO := Lib.hid (show ∀ j, j < k + 1 → (xs.getD j Bd.zero).st ≠ st from fun j hj => by
       rcases Nat.lt_or_ge j k with g | g
       · exact hto.out j g
       · obtain rfl : j = k := by omega
         rw [HX.out]; exact heq)
      have hne : (x == st) = false := by simpa using heq
      clear hx hget hxe hye hA hto
      go_wp2
      go_roundw
      case rel => exact ⟨k + 1, by omega, by go_num, HTO, ⟨u, rfl⟩⟩
      case measure => simp [intOf] <;> omega
  · obtain rfl : k = n := by omega
    have HR := Lib.hid (HNO.out hto.out)
    clear hA hto
    go_wp2
    go_ret
    exact ⟨ret_eq (congrArg (Value.int .i64) HR.out.symm), u.prop⟩
theorem accI_len {lo : Nat} {w : World} {v : Value} {xs : List Int} (h : AccI lo w v xs) : ∃ A c, v = Value.slice A xs.length c := by
 rcases h.2 with h0 | ⟨g, cap, cur, hv, hg, r⟩
 · exact ⟨none, 0, by rw [h0.1, h0.2]⟩
 · exact ⟨_, _, hv⟩
theorem wideN_len {c : Nat} {xs : List Int} (h : xs.length ≤ c) : (wideN c xs).length = c := by
 unfold wideN
 rw [List.length_append, List.length_replicate]
 omega
theorem wideN_succ {c : Nat} {xs : List Int} (h : xs.length ≤ c) : wideN (c + 1) xs = wideN c xs ++ [xs.getD 0 0] := by
 unfold wideN
 rw [List.append_assoc, show c + 1 - xs.length = (c - xs.length) + 1 by omega, List.replicate_succ']
theorem wideN_max {c d : Nat} {xs : List Int} (h1 : d ≤ c) (h2 : c ≤ d ∨ c = xs.length) : wideN c xs = wideN d xs := by
 rcases h2 with h2 | h2
 · rw [show c = d by omega]
 · rw [wideN_self (by omega), wideN_self (by omega)]
theorem push_done2 {w2 w4 W3 wn : World} {B g cap n : Nat} {T : TypeId} {cv : Value} {ys : List Int} (hO : OwnB w4 B T #[cv]) (hL : LaterC w2 w4) (hG : w2.heap.size ≤ B) (hb3 : Below w4.heap.size w4 W3) (hne : ∀ b, cv.ownBlock = some b → b ≠ B ∧ w2.heap.size ≤ b) (hgr : W3.grownBy wn cv.ownBlock)
 (hat : cv.ownBlock = some g ∨ g = W3.heap.size) (hac : AccI w2.heap.size wn (.slice (some ⟨g, 0, none⟩) n cap) ys) :
 OwnB (wn.setCell ⟨B, 0, none⟩ (.slice (some ⟨g, 0, none⟩) n cap)) B T #[.slice (some ⟨g, 0, none⟩) n cap] ∧ AccI w2.heap.size (wn.setCell ⟨B, 0, none⟩ (.slice (some ⟨g, 0, none⟩) n cap)) (.slice (some ⟨g, 0, none⟩) n cap) ys ∧ LaterC w2 (wn.setCell ⟨B, 0, none⟩ (.slice (some ⟨g, 0, none⟩) n cap)) ∧ ∀ b, (Value.slice (some ⟨g, 0, none⟩) n cap).ownBlock = some b → b ≠ B ∧ w2.heap.size ≤ b := by
 have hO3 := hO.below hb3 hO.lt
 have hOn : OwnB wn B T #[cv] := hO3.but (But.of_grown hgr) fun e => (hne B e.symm).1 rfl
 have hL3 := laterC_step hL hb3
 have hgB : B ≠ g := by
  rcases hat with e | e
  · exact fun h => (hne g e).1 h.symm
  · have := hO3.lt; omega
 refine ⟨hOn.set 0 _, owns_but hac (S := (· = B)) (But.setCell (S := (· = B)) (But.refl _ _) rfl _) (fun b hb e => hgB (by simp [Value.ownBlock] at hb; omega)), ?_, fun b hb => ⟨fun e => hgB (by simp [Value.ownBlock] at hb; omega), (hac.lt b hb).1⟩⟩
 have hLn : LaterC w2 wn := .of (hL3.below.trans ((But.of_grown hgr).below (fun k hk => (hne k hk.symm).2) hL3.size))
 exact LaterC.setCell' hLn _ _ hG
def WideAt (w2 wr : World) (G : Nat) (cv : Value) (ys : List Int) : Prop :=
 OwnB wr G 40 #[cv] ∧ AccI w2.heap.size wr cv ys ∧ LaterC w2 wr ∧ ∀ b, cv.ownBlock = some b → b ≠ G ∧ w2.heap.size ≤ b
theorem wide_start {w2 w3 : World} {cv : Value} {ys : List Int} (hL : LaterC w2 w3) (hb : ∃ w4, Below w4.heap.size w4 w3 ∧ w2.heap.size ≤ w4.heap.size ∧ AccI w4.heap.size w3 cv ys) :
 WideAt w2 (w3.alloc (.cells #[cv] 40)) w3.heap.size cv ys := by
 obtain ⟨w4, h1, h2, h3⟩ := hb
 exact ⟨OwnB.new _ _ _, (h3.mono h2).alloc _, LaterC.alloc' hL _, fun b hb => by have := h3.lt b hb; omega⟩
theorem l4Wide_calls (sv : Value) (xs : List Int) (m : Nat) (w : World) (hS : SlN enI w sv xs) (h0 : 0 < xs.length) (hl : xs.length ≤ 1048576) (hm : m ≤ 1048576) :
 Calls Tryz.prog 121 #[.agg #[sv], .int .i64 (m : Int)] w fun e w' => NewV w.heap.size w e w' (wideN m xs) := by
 have HS := Lib.hid hS
 obtain ⟨A, c, rfl, hnc, hc', hA⟩ := hS
 obtain ⟨bx, ox, rfl, hx⟩ := hA 0 _ (getD_at h0 0)
 have hx : w.cell? ⟨bx, ox, none⟩ = some (.int .i64 (xs.getD 0 0)) := by simpa using hx 0 _ rfl
 clear hA
 generalize hn : xs.length = n at *
 have HN := Lib.hid hn
 generalize hx0 : xs.getD 0 0 = x0 at *
 have HX0 := Lib.hid hx0
 clear hn hx0
 unfold NewV
 go_enter Tryz.func121, Tryz.ntmps121
 go_upto_region 1 with fail
 generalize hw2 : (w.alloc (Obj.cells #[.slice (some ⟨bx, ox, none⟩) n c] 40)).alloc (Obj.cells #[.slice none 0 0] 40) = w2
 have y0 : ∀ u : Later w2, u.val.cell? ⟨w.heap.size, 0, none⟩ = some (.slice (some ⟨bx, ox, none⟩) n c) := Later.cell (by rw [← hw2]; simp)
 have y1 : ∀ u : Later w2, u.val.frozen? ⟨w.heap.size + 1, 0, none⟩ = false := Later.frozen (by rw [← hw2]; simp) (by rw [← hw2]; simp)
 have y2 : ∀ u : Later w2, u.val.cell? ⟨w.heap.size + 1, 0, none⟩ = some (.slice none 0 0) := Later.cell (by rw [← hw2]; simp)
 have HG := Lib.hid (show w2.heap.size = w.heap.size + 2 by rw [← hw2]; simp)
 have HB := Lib.hid (show Below w.heap.size w w2 by rw [← hw2]; exact ((Below.refl _ _).alloc (Nat.le_refl _) _).alloc (by simp) _)
 have y3 : ∀ u : Later w2, u.val.cell? ⟨bx, ox, none⟩ = some (.int .i64 x0) := Later.cell (keepcell HB.out hx)
 clear hw2 hx
 refine at_world (w := w2) ?_
 intro u1
 go_upto_region 2 with (go_at_call 181; refine (l4CopyA_calls _ xs _ (HS.out.below (u1.back HB.out)) (by rw [HN.out]; exact hl)).mono ?_; rintro e w3 ⟨s, rfl, hb, ha⟩; obtain ⟨sA, sc, hsA⟩ := accI_len ha; rw [HN.out] at hsA; subst hsA; have HD := Lib.hid (wide_start (w2 := w2) (later_step u1 hb) ⟨_, hb, u1.size, ha⟩); have HGL := Lib.hid (show w2.heap.size ≤ w3.heap.size from Nat.le_trans u1.size hb.size); clear hb ha)
 generalize w3.alloc (Obj.cells #[.slice sA n sc] 40) = w4 at *
 generalize w3.heap.size = G at *
 go_loopg [] (m - n) (fun r wr => ∃ (j : Nat) (cA : Option Addr) (cc : Nat), n ≤ j ∧ r = m - j ∧ (j ≤ m ∨ j = n) ∧ Hid (WideAt w2 wr G (.slice cA j cc) (wideN j xs)))
 case atStart => exact ⟨n, sA, sc, Nat.le_refl _, rfl, .inr rfl, by rw [wideN_self (by rw [HN.out]; exact Nat.le_refl _)]; exact HD⟩
 case round =>
  obtain ⟨j, cA, cc, hnj, rfl, hjm, HR⟩ := hrel
  by_cases hlt : j < m
  · have hlt' : (j : Int) < m := by omega
    have HTK := Lib.hid (show wideN (j + 1) xs = wideN j xs ++ [x0] by rw [wideN_succ (by rw [HN.out]; exact hnj), HX0.out])
    have HTJ := Lib.hid (show (wideN j xs).length = j from wideN_len (by rw [HN.out]; exact hnj))
    have HTL := Lib.hid (show (wideN j xs).length ≤ 1048576 by rw [HTJ.out]; omega)
    have q0 : wr.cell? ⟨G, 0, none⟩ = some (.slice cA j cc) := HR.out.1.cell 0
    have z0 : wr.cell? ⟨w.heap.size, 0, none⟩ = some (.slice (some ⟨bx, ox, none⟩) n c) := by obtain ⟨l, hl⟩ := HR.out.2.2.1; rw [hl]; exact y0 l
    have z1 : wr.cell? ⟨bx, ox, none⟩ = some (.int .i64 x0) := by obtain ⟨l, hl⟩ := HR.out.2.2.1; rw [hl]; exact y3 l
    have q0a : ∀ o, (wr.alloc o).cell? ⟨G, 0, none⟩ = some (.slice cA j cc) := fun o => keepcell ((Below.refl _ _).alloc (Nat.le_refl _) o) q0
    have z0a : ∀ o, (wr.alloc o).cell? ⟨w.heap.size, 0, none⟩ = some (.slice (some ⟨bx, ox, none⟩) n c) := fun o => keepcell ((Below.refl _ _).alloc (Nat.le_refl _) o) z0
    have z1a : ∀ o, (wr.alloc o).cell? ⟨bx, ox, none⟩ = some (.int .i64 x0) := fun o => keepcell ((Below.refl _ _).alloc (Nat.le_refl _) o) z1
    have HQ4 := Lib.hid (show ∀ W, Below wr.heap.size wr W → W.cell? ⟨G, 0, none⟩ = some (.slice cA j cc) from fun W h => keepcell h q0)
    have HLO4 := Lib.hid (show w2.heap.size ≤ wr.heap.size from HR.out.2.2.1.size)
    have HGW := Lib.hid (show G < wr.heap.size from HR.out.1.lt)
    have HNE := Lib.hid HR.out.2.2.2
    clear y0 y1 y2 y3
    go_wp2
    go_region_law ((refine step_append_int (by rfl) _ _ (by rfl) w2.heap.size wr _ wr.heap.size _ x0 _ j HTJ.out (by rfl) HR.out.2.1 HLO4.out HTL.out (by repeat (first | exact Below.refl _ _ | refine Below.drew ?_ | refine Below.alloc ?_ (Nat.le_refl _) _)) (heap_alloc_new wr _) (by rfl) ?_; intro g cap wn hac hgrow hat; have HPD := Lib.hid (push_done2 (B := G) (ys := wideN (j + 1) xs) HR.out.1 HR.out.2.2.1 HGL.out (by repeat (first | exact Below.refl _ _ | refine Below.drew ?_ | refine Below.alloc ?_ (Nat.le_refl _) _)) HNE.out hgrow hat (by rw [HTK.out]; exact hac)); have q1 : wn.cell? ⟨G, 0, none⟩ = some (.slice cA j cc) := (hgrow.cell_far _ (by have := HGW.out; simp; omega) (fun e => (HNE.out _ e.symm).1 rfl)).trans (HQ4.out _ (by repeat (first | exact Below.refl _ _ | refine Below.drew ?_ | refine Below.alloc ?_ (Nat.le_refl _) _))); have f1 : wn.frozen? ⟨G, 0, none⟩ = false := (hgrow.frozen_far _ (by have := HGW.out; simp; omega) (fun e => (HNE.out _ e.symm).1 rfl)).trans ((HR.out.1.below (by repeat (first | exact Below.refl _ _ | refine Below.drew ?_ | refine Below.alloc ?_ (Nat.le_refl _) _)) HR.out.1.lt).frozen 0); clear hac hgrow hat))
    all_goals
     go_wp2
     go_roundg (m - (j + 1))
     case measure => omega
     case rel => exact ⟨j + 1, _, _, by omega, rfl, by omega, Lib.hid HPD.out⟩
  · have HTF := Lib.hid (show wideN j xs = wideN m xs from wideN_max (by omega) (by rcases hjm with h | h; exact .inl h; exact .inr (by rw [HN.out]; exact h)))
    have HTJ := Lib.hid (show (wideN j xs).length ≤ 1048576 by rw [wideN_len (by rw [HN.out]; exact hnj)]; omega)
    have hge : ((j : Int) < m) = False := eq_false (by omega)
    have q0 : wr.cell? ⟨G, 0, none⟩ = some (.slice cA j cc) := HR.out.1.cell 0
    have f0 : wr.frozen? ⟨w.heap.size + 1, 0, none⟩ = false := by obtain ⟨l, hl⟩ := HR.out.2.2.1; rw [hl]; exact y1 l
    have f1 : wr.cell? ⟨w.heap.size + 1, 0, none⟩ = some (.slice none 0 0) := by obtain ⟨l, hl⟩ := HR.out.2.2.1; rw [hl]; exact y2 l
    clear y0 y1 y2 y3
    go_wp2
    have hbut : But (· = w.heap.size + 1) wr (wr.setCell ⟨w.heap.size + 1, 0, none⟩ (.slice cA j cc)) := But.setCell (S := (· = w.heap.size + 1)) (But.refl _ _) rfl _
    have hne : ∀ b, (Value.slice cA j cc).ownBlock = some b → ¬ b = w.heap.size + 1 := fun b hb e => by have := (HR.out.2.1.lt b hb).1; have := HG.out; omega
    have hac := owns_but HR.out.2.1 hbut hne
    rw [HTF.out] at hac
    have rc : (wr.setCell ⟨w.heap.size + 1, 0, none⟩ (.slice cA j cc)).cell? ⟨w.heap.size + 1, 0, none⟩ = some (.slice cA j cc) := World.cell?_setCell_same _ _ _ f1
    refine bodyPost_ret (v := .agg #[.slice cA j cc]) (by simp [results, Tryz.results121, go_sem, rc]) rfl ?_
    exact ⟨_, rfl, (HB.out.trans ((LaterC.below HR.out.2.2.1).mono HB.out.size)).setCell (by simp) _, accI_rowI hac (by rw [← HTF.out]; have := HTJ.out; omega), fun b hb => by have := (HR.out.2.1.lt b hb).1; have := HG.out; omega⟩
end Go.Proofs.YtbenebcphaiohaaGreat
namespace Go.Proofs.YtbenebcphaiohaaGreat
open Go.RowKit
theorem index_calls (sv : Value) (xs : List Int) (x : Int) (w : World) (hS : SlN enI w sv xs) :
 Makes Tryz.prog 189 #[sv, .int .i64 x] w (.int .i64 (firstN (fun y => y == x) xs)) := by
 obtain ⟨A, c, rfl, hnc, hn, hA⟩ := hS
 have HAT := Lib.hid (show ∀ k, k < xs.length → (∀ j, j < k → (xs.getD j 0 == x) = false) → (xs.getD k 0 == x) = true → firstN (fun y => y == x) xs = k from fun k => first_at (p := fun y => y == x))
 have HNO := Lib.hid (show (∀ j, j < xs.length → (xs.getD j 0 == x) = false) → firstN (fun y => y == x) xs = -1 from first_none (p := fun y => y == x))
 generalize firstN (fun y => y == x) xs = R at *
 generalize hN : xs.length = n at *
 have HN := Lib.hid hN
 clear hN hnc
 go_enter Tryz.func189, Tryz.ntmps189
 go_wp2
 go_loopw [8] (fun i wr => ∃ k : Nat, k ≤ n ∧ i = .int .i64 k ∧ Hid (∀ j, j < k → (xs.getD j 0 == x) = false) ∧ LaterC w wr) (fun i _ => n - (intOf i).toNat)
 case atStart => exact ⟨0, Nat.zero_le _, rfl, Lib.hid (fun j hj => absurd hj (Nat.not_lt_zero _)), LaterC.refl _⟩
 case round =>
  obtain ⟨k, hk, rfl, hto, ⟨u, rfl⟩⟩ := hrel
  by_cases hlt : k < n
  · have hlt' : (k : Int) < n := by omega
    have hget := getD_at (show k < xs.length by rw [HN.out]; exact hlt) 0
    obtain ⟨g, o, rfl, hx⟩ := hA k _ hget
    generalize hxe : xs.getD k 0 = y at *
    have HX := Lib.hid hxe
    have p0 : ∀ l : Later w, l.val.cell? ⟨g, o + k, none⟩ = some (.int .i64 y) := hx.int (Below.refl _ _)
    clear hx hA hxe hget
    by_cases hv : y = x
    · have HR := Lib.hid (HAT.out k hlt hto.out (by rw [HX.out, hv]; simp))
      subst hv
      clear hto
      go_wp2
      go_ret
      exact ⟨ret_eq (congrArg (Value.int .i64) HR.out.symm), u.prop⟩
    · have hne : (x == y) = false := by simpa using fun e => hv e.symm
      have HTO := Lib.hid (show ∀ j, j < k + 1 → (xs.getD j 0 == x) = false from fun j hj => by
       rcases Nat.lt_or_ge j k with g | g
       · exact hto.out j g
       · obtain rfl : j = k := by omega
         rw [HX.out]; simpa using hv)
      clear hv hto
      go_wp2
      go_roundw
      case rel => exact ⟨k + 1, by omega, by go_num, HTO, ⟨u, rfl⟩⟩
      case measure => simp [intOf] <;> omega
  · obtain rfl : k = n := by omega
    have HR := Lib.hid (HNO.out hto.out)
    clear hA hto
    go_wp2
    go_ret
    exact ⟨ret_eq (congrArg (Value.int .i64) HR.out.symm), u.prop⟩
theorem WideAt.below {w2 wr w' : World} {G : Nat} {cv : Value} {ys : List Int} (h : WideAt w2 wr G cv ys) (hb : Below wr.heap.size wr w') : WideAt w2 w' G cv ys :=
 ⟨h.1.below hb h.1.lt, ownsRow_below h.2.1 hb, laterC_step h.2.2.1 hb, h.2.2.2⟩
theorem spread_calls (i a : Int) (sv : Value) (xs : List Int) (w : World) (hS : SlN enI w sv xs) (h0 : 0 < xs.length) (hl : xs.length ≤ 1048576) :
 Calls Tryz.prog 187 #[.agg #[.int .i64 i, .int .i64 a], .agg #[sv]] w fun e w' => NewV w.heap.size w e w' (wideN (cellsN i a).toNat xs) := by
 have hcb := cells_bits i a
 obtain ⟨m, hm⟩ := Int.eq_ofNat_of_zero_le hcb.2.2.1
 have hm4 : m ≤ 4 := by omega
 have HC := Lib.hid hm
 rw [hm, Int.toNat_natCast]
 clear hcb hm
 have HS := Lib.hid hS
 obtain ⟨A, c, rfl, hnc, hc', hA⟩ := hS
 obtain ⟨bx, ox, rfl, hx⟩ := hA 0 _ (getD_at h0 0)
 have hx : w.cell? ⟨bx, ox, none⟩ = some (.int .i64 (xs.getD 0 0)) := by simpa using hx 0 _ rfl
 clear hA
 generalize hn : xs.length = n at *
 have HN := Lib.hid hn
 generalize hx0 : xs.getD 0 0 = x0 at *
 have HX0 := Lib.hid hx0
 clear hn hx0
 unfold NewV
 go_enter Tryz.func187, Tryz.ntmps187
 go_upto_region 1 with fail
 generalize hw2 : ((w.alloc (Obj.cells #[.int .i64 i, .int .i64 a] 34)).alloc (Obj.cells #[.slice (some ⟨bx, ox, none⟩) n c] 40)).alloc (Obj.cells #[.slice none 0 0] 40) = w2
 have x0' : ∀ u : Later w2, u.val.cell? ⟨w.heap.size, 0, none⟩ = some (.int .i64 i) := Later.cell (by rw [← hw2]; clear hw2; go_simp)
 have x1' : ∀ u : Later w2, u.val.cell? ⟨w.heap.size, 1, none⟩ = some (.int .i64 a) := Later.cell (by rw [← hw2]; clear hw2; go_simp)
 have y0 : ∀ u : Later w2, u.val.cell? ⟨w.heap.size + 1, 0, none⟩ = some (.slice (some ⟨bx, ox, none⟩) n c) := Later.cell (by rw [← hw2]; clear hw2; go_simp)
 have y1 : ∀ u : Later w2, u.val.frozen? ⟨w.heap.size + 1 + 1, 0, none⟩ = false := Later.frozen (by rw [← hw2]; clear hw2; go_simp) (by rw [← hw2]; clear hw2; simp)
 have y2 : ∀ u : Later w2, u.val.cell? ⟨w.heap.size + 1 + 1, 0, none⟩ = some (.slice none 0 0) := Later.cell (by rw [← hw2]; clear hw2; go_simp)
 have HG := Lib.hid (show w2.heap.size = w.heap.size + 3 by rw [← hw2]; simp [Nat.add_assoc])
 have HB := Lib.hid (show Below w.heap.size w w2 by rw [← hw2]; exact (((Below.refl _ _).alloc (Nat.le_refl _) _).alloc (by simp) _).alloc (by simp [Nat.add_assoc]) _)
 have y3 : ∀ u : Later w2, u.val.cell? ⟨bx, ox, none⟩ = some (.int .i64 x0) := Later.cell (keepcell HB.out hx)
 clear hw2 hx
 refine at_world (w := w2) ?_
 intro u1
 go_upto_region 2 with (go_at_call 146; refine (cloneIntsA_calls _ xs _ (HS.out.below (u1.back HB.out)) (by rw [HN.out]; exact h0) (by rw [HN.out]; exact hl)).mono ?_; rintro e w3 ⟨s, rfl, hb, ha⟩; obtain ⟨sA, sc, hsA⟩ := accI_len ha; rw [HN.out] at hsA; subst hsA; have HD := Lib.hid (wide_start (w2 := w2) (later_step u1 hb) ⟨_, hb, u1.size, ha⟩); have HGL := Lib.hid (show w2.heap.size ≤ w3.heap.size from Nat.le_trans u1.size hb.size); clear hb ha)
 generalize w3.alloc (Obj.cells #[.slice sA n sc] 40) = w4 at *
 generalize w3.heap.size = G at *
 go_loopg [] (m - n) (fun r wr => ∃ (j : Nat) (cA : Option Addr) (cc : Nat), n ≤ j ∧ r = m - j ∧ (j ≤ m ∨ j = n) ∧ Hid (WideAt w2 wr G (.slice cA j cc) (wideN j xs)))
 case atStart => exact ⟨n, sA, sc, Nat.le_refl _, rfl, .inr rfl, by rw [wideN_self (by rw [HN.out]; exact Nat.le_refl _)]; exact HD⟩
 case round =>
  obtain ⟨j, cA, cc, hnj, rfl, hjm, HR⟩ := hrel
  have q0 : ∀ l : Later wr, l.val.cell? ⟨G, 0, none⟩ = some (.slice cA j cc) := Later.cell (HR.out.1.cell 0)
  have s0 : ∀ l : Later wr, l.val.cell? ⟨w.heap.size, 0, none⟩ = some (.int .i64 i) := lift_cell HR.out.2.2.1 x0'
  have s1 : ∀ l : Later wr, l.val.cell? ⟨w.heap.size, 1, none⟩ = some (.int .i64 a) := lift_cell HR.out.2.2.1 x1'
  go_wp2
  refine wp_region_later (w0 := wr) (by kernel_rfl) (by kernel_rfl) (LaterC.refl _) ?_
  repeat (go_big_quiet_step ((go_at_call 19; exact Calls.later_eq (SortCells'_calls i a _) (congrArg (Value.int .i64) HC.out))))
  refine wpQuiet_nil ?_
  rintro _ ⟨u2, rfl⟩
  have HR := Lib.hid (HR.out.below u2.prop)
  generalize u2.val = wr at *
  clear q0 s0 s1
  by_cases hlt : j < m
  · have hlt' : (j : Int) < m := by omega
    have HTK := Lib.hid (show wideN (j + 1) xs = wideN j xs ++ [x0] by rw [wideN_succ (by rw [HN.out]; exact hnj), HX0.out])
    have HTJ := Lib.hid (show (wideN j xs).length = j from wideN_len (by rw [HN.out]; exact hnj))
    have HTL := Lib.hid (show (wideN j xs).length ≤ 1048576 by rw [HTJ.out]; omega)
    have q0 : wr.cell? ⟨G, 0, none⟩ = some (.slice cA j cc) := HR.out.1.cell 0
    have z0 : wr.cell? ⟨w.heap.size + 1, 0, none⟩ = some (.slice (some ⟨bx, ox, none⟩) n c) := by obtain ⟨l, hl⟩ := HR.out.2.2.1; rw [hl]; exact y0 l
    have z1 : wr.cell? ⟨bx, ox, none⟩ = some (.int .i64 x0) := by obtain ⟨l, hl⟩ := HR.out.2.2.1; rw [hl]; exact y3 l
    have q0a : ∀ o, (wr.alloc o).cell? ⟨G, 0, none⟩ = some (.slice cA j cc) := fun o => keepcell ((Below.refl _ _).alloc (Nat.le_refl _) o) q0
    have z0a : ∀ o, (wr.alloc o).cell? ⟨w.heap.size + 1, 0, none⟩ = some (.slice (some ⟨bx, ox, none⟩) n c) := fun o => keepcell ((Below.refl _ _).alloc (Nat.le_refl _) o) z0
    have z1a : ∀ o, (wr.alloc o).cell? ⟨bx, ox, none⟩ = some (.int .i64 x0) := fun o => keepcell ((Below.refl _ _).alloc (Nat.le_refl _) o) z1
    have HQ4 := Lib.hid (show ∀ W, Below wr.heap.size wr W → W.cell? ⟨G, 0, none⟩ = some (.slice cA j cc) from fun W h => keepcell h q0)
    have HLO4 := Lib.hid (show w2.heap.size ≤ wr.heap.size from HR.out.2.2.1.size)
    have HGW := Lib.hid (show G < wr.heap.size from HR.out.1.lt)
    have HNE := Lib.hid HR.out.2.2.2
    clear y0 y1 y2 y3 x0' x1'
    go_wp2
    go_region_law ((refine step_append_int (by rfl) _ _ (by rfl) w2.heap.size wr _ wr.heap.size _ x0 _ j HTJ.out (by rfl) HR.out.2.1 HLO4.out HTL.out (by repeat (first | exact Below.refl _ _ | refine Below.drew ?_ | refine Below.alloc ?_ (Nat.le_refl _) _)) (heap_alloc_new wr _) (by rfl) ?_; intro g cap wn hac hgrow hat; have HPD := Lib.hid (push_done2 (B := G) (ys := wideN (j + 1) xs) HR.out.1 HR.out.2.2.1 HGL.out (by repeat (first | exact Below.refl _ _ | refine Below.drew ?_ | refine Below.alloc ?_ (Nat.le_refl _) _)) HNE.out hgrow hat (by rw [HTK.out]; exact hac)); have q1 : wn.cell? ⟨G, 0, none⟩ = some (.slice cA j cc) := (hgrow.cell_far _ (by have := HGW.out; simp; omega) (fun e => (HNE.out _ e.symm).1 rfl)).trans (HQ4.out _ (by repeat (first | exact Below.refl _ _ | refine Below.drew ?_ | refine Below.alloc ?_ (Nat.le_refl _) _))); have f1 : wn.frozen? ⟨G, 0, none⟩ = false := (hgrow.frozen_far _ (by have := HGW.out; simp; omega) (fun e => (HNE.out _ e.symm).1 rfl)).trans ((HR.out.1.below (by repeat (first | exact Below.refl _ _ | refine Below.drew ?_ | refine Below.alloc ?_ (Nat.le_refl _) _)) HR.out.1.lt).frozen 0); clear hac hgrow hat))
    all_goals
     go_wp2
     go_roundg (m - (j + 1))
     case measure => omega
     case rel => exact ⟨j + 1, _, _, by omega, rfl, by omega, Lib.hid HPD.out⟩
  · have HTF := Lib.hid (show wideN j xs = wideN m xs from wideN_max (by omega) (by rcases hjm with h | h; exact .inl h; exact .inr (by rw [HN.out]; exact h)))
    have HTJ := Lib.hid (show (wideN j xs).length ≤ 1048576 by rw [wideN_len (by rw [HN.out]; exact hnj)]; omega)
    have hge : ((j : Int) < m) = False := eq_false (by omega)
    have q0 : wr.cell? ⟨G, 0, none⟩ = some (.slice cA j cc) := HR.out.1.cell 0
    have f0 : wr.frozen? ⟨w.heap.size + 1 + 1, 0, none⟩ = false := by obtain ⟨l, hl⟩ := HR.out.2.2.1; rw [hl]; exact y1 l
    have f1 : wr.cell? ⟨w.heap.size + 1 + 1, 0, none⟩ = some (.slice none 0 0) := by obtain ⟨l, hl⟩ := HR.out.2.2.1; rw [hl]; exact y2 l
    clear y0 y1 y2 y3 x0' x1'
    go_wp2
    have hbut : But (· = w.heap.size + 1 + 1) wr (wr.setCell ⟨w.heap.size + 1 + 1, 0, none⟩ (.slice cA j cc)) := But.setCell (S := (· = w.heap.size + 1 + 1)) (But.refl _ _) rfl _
    have hne : ∀ b, (Value.slice cA j cc).ownBlock = some b → ¬ b = w.heap.size + 1 + 1 := fun b hb e => by have := (HR.out.2.1.lt b hb).1; have := HG.out; omega
    have hac := owns_but HR.out.2.1 hbut hne
    rw [HTF.out] at hac
    have rc : (wr.setCell ⟨w.heap.size + 1 + 1, 0, none⟩ (.slice cA j cc)).cell? ⟨w.heap.size + 1 + 1, 0, none⟩ = some (.slice cA j cc) := World.cell?_setCell_same _ _ _ f1
    refine bodyPost_ret (v := .agg #[.slice cA j cc]) (by simp [results, Tryz.results187, go_sem, rc]) rfl ?_
    exact ⟨_, rfl, (HB.out.trans ((LaterC.below HR.out.2.2.1).mono HB.out.size)).setCell (by simp; omega) _, accI_rowI hac (by rw [← HTF.out]; have := HTJ.out; omega), fun b hb => by have := (HR.out.2.1.lt b hb).1; have := HG.out; omega⟩
end Go.Proofs.YtbenebcphaiohaaGreat
namespace Go.Proofs.YtbenebcphaiohaaGreat
open Go.RowKit
def Keeps (z : Value) (w w' : World) : Prop := ∀ b o v, w.cell? ⟨b, o, none⟩ = some v → v ≠ z → w'.cell? ⟨b, o, none⟩ = some v
theorem Keeps.trans {z : Value} {w w1 w2 : World} (h1 : Keeps z w w1) (h2 : Keeps z w1 w2) : Keeps z w w2 := fun b o v h hz => h2 b o v (h1 b o v h hz) hz
theorem Keeps.of_below {z : Value} {w w1 : World} (h : Below w.heap.size w w1) : Keeps z w w1 := fun b o v hc _ => (h.cell (World.block_lt_of_cell? _ _ hc)).trans hc
def RowZ (w : World) (base : Nat) (e : TypeId) (z v : Value) (n : Nat) (xs : List Value) : Prop :=
 xs.length = n ∧ ((v = .slice none 0 0 ∧ n = 0) ∨ ∃ g cap, v = .slice (some ⟨g, 0, none⟩) n cap ∧ base ≤ g ∧ w.heap[g]? = some (.cells (xs ++ List.replicate (cap - n) z).toArray e (0, 0)) ∧ n ≤ cap ∧ cap ≤ maxLen)
theorem RowZ.nil (w : World) (base : Nat) (e : TypeId) (z : Value) : RowZ w base e z (.slice none 0 0) 0 [] := ⟨rfl, .inl ⟨rfl, rfl⟩⟩
theorem RowZ.owns {w : World} {base : Nat} {e : TypeId} {z v : Value} {n : Nat} {xs : List Value} (h : RowZ w base e z v n xs) : w.ownsRow base e 1 v n xs := by
 obtain ⟨h1, h2⟩ := h
 refine ⟨by omega, ?_⟩
 rcases h2 with h2 | ⟨g, cap, h2, h3, h4, h5, h6⟩
 · exact .inl h2
 · refine .inr ⟨g, cap, _, h2, h3, h4, h5, h6, by simp; omega, ?_⟩
   rw [Nat.mul_one, ← h1]
   simp
theorem RowZ.below {w w' : World} {base : Nat} {e : TypeId} {z v : Value} {n : Nat} {xs : List Value} (h : RowZ w base e z v n xs) (hb : Below w.heap.size w w') : RowZ w' base e z v n xs := by
 obtain ⟨h1, h2⟩ := h
 refine ⟨h1, ?_⟩
 rcases h2 with h2 | ⟨g, cap, h2, h3, h4, h5⟩
 · exact .inl h2
 · exact .inr ⟨g, cap, h2, h3, (hb.block g (Array.getElem?_eq_some_iff.1 h4).1).trans h4, h5⟩
theorem zero_cells (z : Value) (k : Nat) : Builtin.zeroCells #[z] k = (List.replicate k z).toArray := by
 apply Array.ext
 · simp [Builtin.zeroCells]
 · intro i h1 h2
   simp [Builtin.zeroCells, Nat.mod_one]
theorem keeps_alloc (z : Value) (w : World) (o : Obj) : Keeps z w (w.drew.alloc o) := .of_below (((Below.refl _ _).drew).alloc (Nat.le_refl _) _)
theorem run_append_z {P : Program} (w : World) (base : Nat) (t ty e : TypeId) (i : TypeInfo) (zz z : Value) (ht : P.underlying t = some (.slice e)) (hi : P.info? e = some i) (hz : i.zero = some zz)
 (hsize : i.size = 1) (hzs : zz.cells = #[z]) (v : Value) (n : Nat) (xs : List Value) (hown : RowZ w base e z v n xs) (a : Addr) (c : Nat) (u : Value) (hu : w.cell? a = some u) (h1 : u.oneCell' = true)
 (h63 : n + 1 ≤ maxLen) (hbytes : (n + 1) * i.bytes ≤ 140737488355328) (hbase : base ≤ w.heap.size) :
 ∃ g cap w', (Builtin.append_ #[t, t] ty #[v, .slice (some a) 1 c]).run P w = .ok (.slice (some ⟨g, 0, none⟩) (n + 1) cap) w' ∧ RowZ w' base e z (.slice (some ⟨g, 0, none⟩) (n + 1) cap) (n + 1) (xs ++ [u]) ∧
  Keeps z w w' ∧ w.grownBy w' v.ownBlock ∧ (v.ownBlock = some g ∨ g = w.heap.size) := by
 have hsmall : n + 1 ≤ 9223372036854775807 := by simp only [maxLen] at h63; omega
 have hnews : ∀ j y, [u][j]? = some y → w.cell? (a.add j) = some y := fun j y hy => by
  obtain rfl : j = 0 := by have := (List.getElem?_eq_some_iff.1 hy).1; simpa using this
  simp at hy
  subst hy
  have : a.add 0 = a := by obtain ⟨b, o, p⟩ := a; unfold Addr.add; split <;> simp_all
  rw [this]; exact hu
 have hone : ∀ y ∈ [u], y.oneCell' = true := fun y hy => by simp at hy; subst hy; exact h1
 have grown : ∀ (old : Nat), old < n + 1 → ∀ (row : Option Nat),
  RowZ (w.drew.alloc (.cells (xs.toArray ++ [u].toArray ++ Builtin.zeroCells zz.cells (grownCap w (n + 1) old e - (n + 1))) e)) base e z (.slice (some ⟨w.heap.size, 0, none⟩) (n + 1) (grownCap w (n + 1) old e)) (n + 1) (xs ++ [u]) ∧
  w.grownBy (w.drew.alloc (.cells (xs.toArray ++ [u].toArray ++ Builtin.zeroCells zz.cells (grownCap w (n + 1) old e - (n + 1))) e)) row := by
  intro old ho row
  have hge := grownCap_ge w (n + 1) old e
  have hcm : grownCap w (n + 1) old e ≤ maxLen := grownCap_le_maxLen w (n + 1) old e h63
  refine ⟨⟨by simp [hown.1], .inr ⟨w.heap.size, _, rfl, hbase, ?_, hge, hcm⟩⟩, ⟨rfl, rfl, rfl, by simp, fun k hk _ => heap_alloc_old w.drew _ hk⟩⟩
  rw [hzs, zero_cells]
  rw [show xs.toArray ++ [u].toArray ++ (List.replicate (grownCap w (n + 1) old e - (n + 1)) z).toArray = (xs ++ [u] ++ List.replicate (grownCap w (n + 1) old e - (n + 1)) z).toArray by apply Array.ext'; simp]
  exact heap_alloc_new w.drew _
 rcases hown.2 with ⟨rfl, rfl⟩ | ⟨g, cap, rfl, hbg, hg, hnc, hcm⟩
 · have hx : xs = [] := List.eq_nil_of_length_eq_zero hown.1
   subst hx
   have hr := run_append_nil (P := P) w t ty e i zz ht hi hz a 1 c [u] (by rw [hsize]; rfl) hnews (by omega) (by omega) (by omega)
   have hgr := grown 0 (by omega) (Value.ownBlock (.slice none 0 0))
   simp only [List.nil_append, Array.empty_append, Nat.zero_add] at hgr ⊢
   exact ⟨_, _, _, hr, hgr.1, keeps_alloc _ _ _, hgr.2, .inr rfl⟩
 · by_cases hroom : n + 1 ≤ cap
   · have hl := hown.1
     have hr := run_append_room (P := P) w t ty e i ht hi g n cap _ hg a 1 c [u] (by rw [hsize]; rfl) hnews hone hroom (by rw [hsize]; simp; omega)
     rw [hsize, Nat.mul_one] at hr
     have hnew : (List.take n (xs ++ List.replicate (cap - n) z).toArray.toList ++ [u] ++ List.drop (n + [u].length) (xs ++ List.replicate (cap - n) z).toArray.toList).toArray = ((xs ++ [u]) ++ List.replicate (cap - (n + 1)) z).toArray := by
      congr 1
      rw [List.toList_toArray, List.take_append_of_le_length (by omega), List.take_of_length_le (by omega), List.drop_append, List.drop_eq_nil_of_le (by simp; omega), List.nil_append, List.drop_replicate]
      congr 2
      simp
      omega
     rw [hnew] at hr
     have hsr := setRow_heap w g _ ((xs ++ [u]) ++ List.replicate (cap - (n + 1)) z).toArray e _ hg
     refine ⟨_, _, _, hr, ⟨by simp [hl], .inr ⟨g, cap, rfl, hbg, hsr, hroom, hcm⟩⟩, ?_, ⟨rfl, rfl, rfl, by simp, fun k _ hk => setRow_other w g k _ (fun e => hk (by simp [Value.ownBlock, e]))⟩, .inl rfl⟩
     intro b o y hy hyz
     by_cases hbg : b = g
     · subst hbg
       rw [cell_of_row _ b o _ e (0, 0) hg] at hy
       rw [cell_of_row _ b o _ e (0, 0) hsr]
       simp only [List.getElem?_toArray] at hy ⊢
       rcases Nat.lt_trichotomy o n with ho | ho | ho
       · rw [List.getElem?_append_left (by omega)] at hy
         rw [List.append_assoc, List.getElem?_append_left (by omega)]
         exact hy
       · rw [List.getElem?_append_right (by omega), List.getElem?_replicate] at hy
         split at hy
         · exact absurd (Option.some.inj hy).symm hyz
         · cases hy
       · rw [List.getElem?_append_right (by omega), List.getElem?_replicate] at hy
         split at hy
         · exact absurd (Option.some.inj hy).symm hyz
         · cases hy
     · rw [World.cell?_of_block (w := w) (a := ⟨b, o, none⟩) (setRow_other w g b _ hbg)]
       exact hy
   · have holds : ∀ j y, xs[j]? = some y → w.cell? ((⟨g, 0, none⟩ : Addr).add j) = some y := hown.owns.cells (g := g) rfl
     have hr := run_append_grow (P := P) w t ty e i zz ht hi hz ⟨g, 0, none⟩ n cap xs (by rw [hsize, hown.1, Nat.mul_one]) holds a 1 c [u] (by rw [hsize]; rfl) hnews (by omega) (by omega) (growslice_fits (by omega) hbytes)
     have hgr := grown cap (by omega) (Value.ownBlock (.slice (some ⟨g, 0, none⟩) n cap))
     exact ⟨_, _, _, hr, hgr.1, keeps_alloc _ _ _, hgr.2, .inr rfl⟩
section
variable {P : Program} {ops : Array Oper} {o : Oper} {a : Act} {Q : Exit → Act → World → Prop}
theorem wp_append_z {K : Act → World → Prop} (w : World) (s x : Operand) (t : TypeId) (ho : o.op = .call { callee := .builtin .append, args := #[s, x], argTypes := #[t, t] })
 (base : Nat) (e : TypeId) (i : TypeInfo) (zz z : Value) (ht : P.underlying t = some (.slice e)) (hi : P.info? e = some i) (hz : i.zero = some zz) (hsize : i.size = 1) (hzs : zz.cells = #[z])
 (v : Value) (n : Nat) (xs : List Value) (hs : a.eval s = v) (hown : RowZ w base e z v n xs) (ad : Addr) (c : Nat) (u : Value) (hx : a.eval x = .slice (some ad) 1 c) (hu : w.cell? ad = some u) (h1 : u.oneCell' = true)
 (h63 : n + 1 ≤ maxLen) (hbytes : (n + 1) * i.bytes ≤ 140737488355328) (hbase : base ≤ w.heap.size)
 (h : ∀ g cap w', RowZ w' base e z (.slice (some ⟨g, 0, none⟩) (n + 1) cap) (n + 1) (xs ++ [u]) → Keeps z w w' → w.grownBy w' v.ownBlock → (v.ownBlock = some g ∨ g = w.heap.size) → K (a.put o.dst (.slice (some ⟨g, 0, none⟩) (n + 1) cap)) w') : o.wp P a w K Q := by
 obtain ⟨g, cap, w', hr, h2, h3, h4, h5⟩ := run_append_z (P := P) w base t o.type e i zz z ht hi hz hsize hzs v n xs hown ad c u hu h1 h63 hbytes hbase
 unfold Oper.wp execOp
 simp only [ho, resolve, invoke, builtin, Sem.run_bind, Sem.run_pure, Result.andThen_ok, List.map_toArray, List.map_cons, List.map_nil, hs, hx, hr]
 exact h g cap w' h2 h3 h4 h5
theorem wpList_append_z {rest : List Oper} (hgd : o.guard = none) (w : World) (s x : Operand) (t : TypeId) (ho : o.op = .call { callee := .builtin .append, args := #[s, x], argTypes := #[t, t] })
 (base : Nat) (e : TypeId) (i : TypeInfo) (zz z : Value) (ht : P.underlying t = some (.slice e)) (hi : P.info? e = some i) (hz : i.zero = some zz) (hsize : i.size = 1) (hzs : zz.cells = #[z])
 (v : Value) (n : Nat) (xs : List Value) (hs : a.eval s = v) (hown : RowZ w base e z v n xs) (ad : Addr) (c : Nat) (u : Value) (hx : a.eval x = .slice (some ad) 1 c) (hu : w.cell? ad = some u) (h1 : u.oneCell' = true)
 (h63 : n + 1 ≤ maxLen) (hbytes : (n + 1) * i.bytes ≤ 140737488355328) (hbase : base ≤ w.heap.size)
 (h : ∀ g cap w', RowZ w' base e z (.slice (some ⟨g, 0, none⟩) (n + 1) cap) (n + 1) (xs ++ [u]) → Keeps z w w' → w.grownBy w' v.ownBlock → (v.ownBlock = some g ∨ g = w.heap.size) → wpList P ops Q rest (a.put o.dst (.slice (some ⟨g, 0, none⟩) (n + 1) cap)) w') : wpList P ops Q (o :: rest) a w :=
 wpList_plain hgd fun _ hK => wp_append_z w s x t ho base e i zz z ht hi hz hsize hzs v n xs hs hown ad c u hx hu h1 h63 hbytes hbase fun g cap w' h2 h3 h4 h5 => hK _ _ (h g cap w' h2 h3 h4 h5)
end
theorem enI_int {x : Int} {f : Nat} {u : Value} (hu : (enI.cells x)[f]? = some u) : ∃ y, u = Value.int .i64 y := by
 rcases f with _ | f
 · exact ⟨x, (Option.some.inj hu).symm⟩
 · cases hu
theorem VlAt.keeps {w w' : World} {v : Value} {L : List (List Int)} (h : VlAt w v L) (hl : ∀ (i : Nat) (xs : List Int), L[i]? = some xs → 0 < xs.length) (hk : Keeps (.slice none 0 0) w w') : VlAt w' v L := by
 obtain ⟨A, c, hv, h1, h2, h3⟩ := h
 refine ⟨A, c, hv, h1, h2, fun i xs hx => ?_⟩
 obtain ⟨b, o, sv, hA, hc, ⟨B, d, rfl, g1, g2, g3⟩⟩ := h3 i xs hx
 have h0 := hl i xs hx
 obtain ⟨b0, o0, hB, -⟩ := g3 0 _ (getD_at h0 0)
 refine ⟨b, o, _, hA, hk b _ _ hc (by rw [hB]; simp), B, d, rfl, g1, g2, fun j x hj => ?_⟩
 obtain ⟨b', o', e, hq⟩ := g3 j x hj
 refine ⟨b', o', e, fun f u hu => ?_⟩
 obtain ⟨y, rfl⟩ := enI_int hu
 exact hk b' _ _ (hq f _ hu) (by simp)
def AccZ (lo : Nat) (w : World) (v : Value) (svs : List Value) (L : List (List Int)) : Prop :=
 RowZ w lo 40 (.slice none 0 0) v svs.length svs ∧ svs.length = L.length ∧ ∀ (i : Nat) (sv : Value) (xs : List Int), svs[i]? = some sv → L[i]? = some xs → SlN enI w sv xs ∧ 0 < xs.length
theorem AccZ.nil (lo : Nat) (w : World) : AccZ lo w (.slice none 0 0) [] [] := ⟨RowZ.nil _ _ _ _, rfl, fun i sv xs hi => by simp at hi⟩
theorem SlN.keeps {w w' : World} {sv : Value} {xs : List Int} (h : SlN enI w sv xs) (hk : Keeps (.slice none 0 0) w w') : SlN enI w' sv xs := by
 obtain ⟨B, d, hv, g1, g2, g3⟩ := h
 refine ⟨B, d, hv, g1, g2, fun j x hj => ?_⟩
 obtain ⟨b', o', e, hq⟩ := g3 j x hj
 refine ⟨b', o', e, fun f u hu => hk b' _ _ (hq f u hu) ?_⟩
 obtain ⟨y, rfl⟩ := enI_int hu
 simp
theorem AccZ.below {lo : Nat} {w w' : World} {v : Value} {svs : List Value} {L : List (List Int)} (h : AccZ lo w v svs L) (hb : Below w.heap.size w w') : AccZ lo w' v svs L :=
 ⟨h.1.below hb, h.2.1, fun i sv xs h1 h2 => ⟨(h.2.2 i sv xs h1 h2).1.below hb, (h.2.2 i sv xs h1 h2).2⟩⟩
theorem AccZ.vlAt {lo : Nat} {w : World} {v : Value} {svs : List Value} {L : List (List Int)} (h : AccZ lo w v svs L) (hl : L.length ≤ 281474976710656) : VlAt w v L := by
 obtain ⟨h1, h2, h3⟩ := h
 rcases h1.2 with ⟨rfl, h0⟩ | ⟨g, cap, rfl, -, hg, hc, -⟩
 · have : L = [] := List.eq_nil_of_length_eq_zero (by omega)
   subst this
   exact ⟨none, 0, rfl, Nat.le_refl _, hl, fun i x hx => by simp at hx⟩
 · refine ⟨some ⟨g, 0, none⟩, cap, by rw [h2], by omega, hl, fun i xs hx => ?_⟩
   have hi := (List.getElem?_eq_some_iff.1 hx).1
   have hs : svs[i]? = some (svs[i]'(by omega)) := List.getElem?_eq_getElem _
   refine ⟨g, 0, _, rfl, ?_, (h3 i _ xs hs hx).1⟩
   rw [Nat.zero_add, cell_of_row _ g i _ _ (0, 0) hg]
   simp only [List.getElem?_toArray]
   rw [List.getElem?_append_left (by omega)]
   exact hs
def TwoZ (lo : Nat) (w : World) (s : Value) (svs : List Value) (L1 : List (List Int)) (i : Value) (ivs : List Value) (L2 : List (List Int)) : Prop :=
 AccZ lo w s svs L1 ∧ AccZ lo w i ivs L2 ∧ ∀ b, s.ownBlock = some b → i.ownBlock ≠ some b
theorem TwoZ.symm {lo : Nat} {w : World} {s i : Value} {svs ivs : List Value} {L1 L2 : List (List Int)} (h : TwoZ lo w s svs L1 i ivs L2) : TwoZ lo w i ivs L2 s svs L1 := ⟨h.2.1, h.1, fun b h1 h2 => h.2.2 b h2 h1⟩
theorem TwoZ.below {lo : Nat} {w w' : World} {s i : Value} {svs ivs : List Value} {L1 L2 : List (List Int)} (h : TwoZ lo w s svs L1 i ivs L2) (hb : Below w.heap.size w w') : TwoZ lo w' s svs L1 i ivs L2 := ⟨h.1.below hb, h.2.1.below hb, h.2.2⟩
theorem TwoZ.push {lo g cap : Nat} {w wn : World} {s i s' : Value} {svs ivs : List Value} {L1 L2 : List (List Int)} {xs : List Int} (h : TwoZ lo w s svs L1 i ivs L2) (hR : RowZ wn lo 40 (.slice none 0 0) (.slice (some ⟨g, 0, none⟩) (svs.length + 1) cap) (svs.length + 1) (svs ++ [s']))
 (hk : Keeps (.slice none 0 0) w wn) (hg : w.grownBy wn s.ownBlock) (hat : s.ownBlock = some g ∨ g = w.heap.size) (hs : SlN enI w s' xs) (h0 : 0 < xs.length) :
 TwoZ lo wn (.slice (some ⟨g, 0, none⟩) (svs.length + 1) cap) (svs ++ [s']) (L1 ++ [xs]) i ivs L2 := by
 obtain ⟨⟨a1, a2, a3⟩, ⟨b1, b2, b3⟩, hne⟩ := h
 have hlt := b1.owns.lt
 refine ⟨⟨by rw [List.length_append]; exact hR, by simp [a2], fun j sv ys hj hy => ?_⟩, ⟨⟨b1.1, ?_⟩, b2, fun j sv ys hj hy => ⟨(b3 j sv ys hj hy).1.keeps hk, (b3 j sv ys hj hy).2⟩⟩, fun b hb e => ?_⟩
 · rcases snoc_get hj with hj1 | ⟨hj1, hj2⟩
   · have hil := (List.getElem?_eq_some_iff.1 hj1).1
     rw [List.getElem?_append_left (by omega)] at hy
     exact ⟨(a3 j sv ys hj1 hy).1.keeps hk, (a3 j sv ys hj1 hy).2⟩
   · subst hj1
     subst hj2
     rw [a2, List.getElem?_append_right (Nat.le_refl _), Nat.sub_self] at hy
     simp at hy
     subst hy
     exact ⟨hs.keeps hk, h0⟩
 · rcases b1.2 with e | ⟨g2, cap2, rfl, c1, c2, c3⟩
   · exact .inl e
   · exact .inr ⟨g2, cap2, rfl, c1, (hg.block g2 (Array.getElem?_eq_some_iff.1 c2).1 (fun e => hne g2 e.symm rfl)).trans c2, c3⟩
 · simp only [Value.ownBlock, Option.some.injEq] at hb
   subst hb
   rcases hat with h | h
   · exact hne g h e
   · have := hlt g e; omega
end Go.Proofs.YtbenebcphaiohaaGreat
