import Derived.Test.YtbenebcphaiohaaGreateh12
import Derived.Deep.RegionHeld3
set_option linter.unusedVariables false
set_option linter.unusedSimpArgs false
set_option maxRecDepth 8000
set_option maxHeartbeats 16000000
namespace Go.Proofs.YtbenebcphaiohaaGreat
open Go.RowKit
theorem l4All_at (mv sv iv : Value) (M : Md) (S I : List (List Int)) (w : World) (hM : MdAt w mv M) (hS : VlAt w sv S) (hI : VlAt w iv I) (h : bothK M S I = true) (h60 : M.nodes.length ≤ 1048576) :
 Calls Tryz.prog 109 #[mv, sv, iv] w fun e w' => ∃ v, e = .returned v ∧ Below w.heap.size w w' ∧ VlAt w' v (evalL M S I) := by
 obtain ⟨-, h1, h2, h3, -⟩ := eval_one h
 refine (l4All_calls mv sv iv M S I w hM hS hI h1 h2 h3 h60).mono fun e w' ⟨v, svs, he, hb, hac⟩ => ⟨v, he, hb, hac.vlAt (by rw [evalN_length]; omega)⟩
theorem eval_at (mv sv iv : Value) (M : Md) (S I : List (List Int)) (w : World) (hM : MdAt w mv M) (hS : VlAt w sv S) (hI : VlAt w iv I) (h : bothK M S I = true) (h60 : M.nodes.length ≤ 1048576) :
 Calls Tryz.prog 73 #[mv, sv, iv] w fun e w' => ∃ v, e = .returned v ∧ Below w.heap.size w w' ∧ VlAt w' v (evalL M S I) := by
 obtain ⟨-, h1, h2, h3, -⟩ := eval_one h
 exact eval_calls mv sv iv M S I w hM hS hI h1 h2 h3 h60
theorem EvalHolds_calls (mv sv iv : Value) (M : Md) (S I : List (List Int)) (w : World) (hM : MdAt w mv M) (hS : VlAt w sv S) (hI : VlAt w iv I) (hsz : M.nodes.length ≤ 1048576) (hnm : ∀ x, x ∈ M.nodes → x.name.size ≤ 140737488351232) :
 Makes Tryz.prog 30 #[mv, sv, iv] w (.bool (holdsK M S I)) := by
 have HM := Lib.hid hM
 have HNM := Lib.hid hnm
 have HSZ := Lib.hid hsz
 have HS := Lib.hid hS
 have HI := Lib.hid hI
 obtain ⟨s0, s1, s2, s3, s4, rfl, -⟩ := hM.at_
 clear hM hnm hsz hS hI
 generalize hR : holdsK M S I = R
 unfold holdsK at hR
 go_enter Tryz.func30, Tryz.ntmps30
 have HB := Lib.hid (box_below w #[s0, s1, s2, s3, s4] 27)
 have m0 := box_cell w #[s0, s1, s2, s3, s4] 27 0 _ rfl
 have m1 := box_cell w #[s0, s1, s2, s3, s4] 27 1 _ rfl
 have m2 := box_cell w #[s0, s1, s2, s3, s4] 27 2 _ rfl
 have m3 := box_cell w #[s0, s1, s2, s3, s4] 27 3 _ rfl
 have m4 := box_cell w #[s0, s1, s2, s3, s4] 27 4 _ rfl
 go_upto_region 1 with fail
 generalize w.alloc (.cells #[s0, s1, s2, s3, s4] 27) = w1 at *
 have m0 : ∀ u : Later w1, u.val.cell? ⟨w.heap.size, 0, none⟩ = some s0 := m0
 have m1 : ∀ u : Later w1, u.val.cell? ⟨w.heap.size, 1, none⟩ = some s1 := m1
 have m2 : ∀ u : Later w1, u.val.cell? ⟨w.heap.size, 2, none⟩ = some s2 := m2
 have m3 : ∀ u : Later w1, u.val.cell? ⟨w.heap.size, 3, none⟩ = some s3 := m3
 have m4 : ∀ u : Later w1, u.val.cell? ⟨w.heap.size, 4, none⟩ = some s4 := m4
 have HM1 := Lib.hid (HM.out.below HB.out)
 have HS1 := Lib.hid (HS.out.below HB.out)
 have HI1 := Lib.hid (HI.out.below HB.out)
 by_cases hs : fitsK 36 M S = true
 · have HFS := Lib.hid hs
   by_cases hi : fitsK 35 M I = true
   · have HFI := Lib.hid hi
     have hbo : bothK M S I = true := by unfold bothK; rw [hs, hi]; rfl
     have HBO := Lib.hid hbo
     rw [hbo, Bool.true_and] at hR
     have HR := Lib.hid hR
     have HON := Lib.hid (eval_one hbo).2.2.2.2.1
     clear hbo hs hi hR
     have HQL := Lib.hid (show ∀ w', LaterC w1 w' → w'.cell? ⟨w.heap.size, 0, none⟩ = some s0 ∧ w'.cell? ⟨w.heap.size, 1, none⟩ = some s1 ∧ w'.cell? ⟨w.heap.size, 2, none⟩ = some s2 ∧ w'.cell? ⟨w.heap.size, 3, none⟩ = some s3 ∧ w'.cell? ⟨w.heap.size, 4, none⟩ = some s4 from fun W h => by
      obtain ⟨v, rfl⟩ := h
      exact ⟨m0 v, m1 v, m2 v, m3 v, m4 v⟩)
     refine at_world (w := w1) ?_
     intro u0
     go_region_held3 (fun w' => w'.cell? ⟨w.heap.size, 0, none⟩ = some s0 ∧ w'.cell? ⟨w.heap.size, 1, none⟩ = some s1 ∧ w'.cell? ⟨w.heap.size, 2, none⟩ = some s2 ∧ w'.cell? ⟨w.heap.size, 3, none⟩ = some s3 ∧ w'.cell? ⟨w.heap.size, 4, none⟩ = some s4) ((refine HQL.out _ ?_; repeat (first | exact ⟨_, rfl⟩ | refine LaterC.drew' ?_ | refine LaterC.alloc' ?_ _))) (first | (go_at_call 106; refine (StateFits_calls _ _ M S _ (HM1.out.below (LaterC.below (by repeat (first | exact ⟨_, rfl⟩ | refine LaterC.drew' ?_ | refine LaterC.alloc' ?_ _)))) (HS1.out.below (LaterC.below (by repeat (first | exact ⟨_, rfl⟩ | refine LaterC.drew' ?_ | refine LaterC.alloc' ?_ _)))) HSZ.out HNM.out).mono ?_; rintro e w' ⟨rfl, hb⟩; rw [HFS.out]; obtain ⟨v1, hv1⟩ := laterC_step (w1 := w1) (by repeat (first | exact ⟨_, rfl⟩ | refine LaterC.drew' ?_ | refine LaterC.alloc' ?_ _)) hb; subst hv1; clear hb) | (go_at_call 107; refine (InputFits_calls _ _ M I _ (HM1.out.below (LaterC.below (by repeat (first | exact ⟨_, rfl⟩ | refine LaterC.drew' ?_ | refine LaterC.alloc' ?_ _)))) (HI1.out.below (LaterC.below (by repeat (first | exact ⟨_, rfl⟩ | refine LaterC.drew' ?_ | refine LaterC.alloc' ?_ _)))) HSZ.out HNM.out).mono ?_; rintro e w' ⟨rfl, hb⟩; rw [HFI.out]; obtain ⟨v2, hv2⟩ := laterC_step (w1 := w1) (by repeat (first | exact ⟨_, rfl⟩ | refine LaterC.drew' ?_ | refine LaterC.alloc' ?_ _)) hb; subst hv2; clear hb) | (go_at_call 109; refine (l4All_at _ _ _ M S I _ (HM1.out.below (LaterC.below (by repeat (first | exact ⟨_, rfl⟩ | refine LaterC.drew' ?_ | refine LaterC.alloc' ?_ _)))) (HS1.out.below (LaterC.below (by repeat (first | exact ⟨_, rfl⟩ | refine LaterC.drew' ?_ | refine LaterC.alloc' ?_ _)))) (HI1.out.below (LaterC.below (by repeat (first | exact ⟨_, rfl⟩ | refine LaterC.drew' ?_ | refine LaterC.alloc' ?_ _)))) HBO.out HSZ.out).mono ?_; rintro e w' ⟨ev, rfl, hb, hev⟩; have HEV := Lib.hid hev; obtain ⟨v3, hv3⟩ := laterC_step (w1 := w1) (by repeat (first | exact ⟨_, rfl⟩ | refine LaterC.drew' ?_ | refine LaterC.alloc' ?_ _)) hb; subst hv3; clear hb; clear hev) | (go_at_call 108; refine (l4Holds_calls _ ev M (evalL M S I) _ (HM1.out.below (LaterC.below (by repeat (first | exact ⟨_, rfl⟩ | refine LaterC.drew' ?_ | refine LaterC.alloc' ?_ _)))) (HEV.out.below (by first | exact Below.refl _ _ | exact (Below.refl _ _).drew)) HON.out).mono ?_; rintro e w' ⟨rfl, hb⟩; rw [HR.out]; obtain ⟨v4, hv4⟩ := laterC_step (w1 := w1) (by repeat (first | exact ⟨_, rfl⟩ | refine LaterC.drew' ?_ | refine LaterC.alloc' ?_ _)) hb; subst hv4; clear hb))
     all_goals go_wp2
     all_goals go_ret
     all_goals exact ⟨rfl, v4.back HB.out⟩
   · have hi := eq_false_of_ne_true hi
     have HFI := Lib.hid hi
     have HR := Lib.hid (show R = false by rw [← hR]; unfold bothK; rw [hs, hi]; rfl)
     clear hR hs hi
     refine wp_region_later (w0 := w1) (by kernel_rfl) (by kernel_rfl) (LaterC.refl _) ?_
     repeat (go_big_quiet_step (first | (go_at_call 106; exact Calls.later_eq (StateFits_calls _ _ M S _ (HM1.out.later _) (HS1.out.later _) HSZ.out HNM.out) (congrArg Value.bool HFS.out)) | (go_at_call 107; exact Calls.later_eq (InputFits_calls _ _ M I _ (HM1.out.later _) (HI1.out.later _) HSZ.out HNM.out) (congrArg Value.bool HFI.out))))
     refine wpQuiet_nil ?_
     rintro _ ⟨u1, rfl⟩
     go_wp2
     go_ret
     exact ⟨ret_eq (congrArg Value.bool HR.out.symm), u1.back HB.out⟩
 · have hs := eq_false_of_ne_true hs
   have HFS := Lib.hid hs
   have HR := Lib.hid (show R = false by rw [← hR]; unfold bothK; rw [hs]; rfl)
   clear hR hs
   refine wp_region_later (w0 := w1) (by kernel_rfl) (by kernel_rfl) (LaterC.refl _) ?_
   repeat (go_big_quiet_step ((go_at_call 106; exact Calls.later_eq (StateFits_calls _ _ M S _ (HM1.out.later _) (HS1.out.later _) HSZ.out HNM.out) (congrArg Value.bool HFS.out))))
   refine wpQuiet_nil ?_
   rintro _ ⟨u1, rfl⟩
   go_wp2
   go_ret
   exact ⟨ret_eq (congrArg Value.bool HR.out.symm), u1.back HB.out⟩
theorem EvalHolds'_calls (mv sv iv : Value) (M : Md) (S I : List (List Int)) (w : World) (hM : MdAt w mv M) (hS : VlAt w sv S) (hI : VlAt w iv I) (hsz : M.nodes.length ≤ 1048576) (hnm : ∀ x, x ∈ M.nodes → x.name.size ≤ 140737488351232) (hw1 : ∀ b, b ∈ M.inits → (Lit.int .i64 b.st).wf = true) (hw2 : ∀ b, b ∈ M.nexts → (Lit.int .i64 b.st).wf = true) :
 Makes Tryz.prog 32 #[mv, sv, iv] w (.bool (holdsK M S I)) := by
 have HM := Lib.hid hM
 have HNM := Lib.hid hnm
 have HSZ := Lib.hid hsz
 have HS := Lib.hid hS
 have HI := Lib.hid hI
 have HW1 := Lib.hid hw1
 have HW2 := Lib.hid hw2
 clear hw1 hw2
 obtain ⟨s0, s1, s2, s3, s4, rfl, -⟩ := hM.at_
 clear hM hnm hsz hS hI
 generalize hR : holdsK M S I = R
 unfold holdsK at hR
 go_enter Tryz.func32, Tryz.ntmps32
 have HB := Lib.hid (box_below w #[s0, s1, s2, s3, s4] 27)
 have m0 := box_cell w #[s0, s1, s2, s3, s4] 27 0 _ rfl
 have m1 := box_cell w #[s0, s1, s2, s3, s4] 27 1 _ rfl
 have m2 := box_cell w #[s0, s1, s2, s3, s4] 27 2 _ rfl
 have m3 := box_cell w #[s0, s1, s2, s3, s4] 27 3 _ rfl
 have m4 := box_cell w #[s0, s1, s2, s3, s4] 27 4 _ rfl
 go_upto_region 1 with fail
 generalize w.alloc (.cells #[s0, s1, s2, s3, s4] 27) = w1 at *
 have m0 : ∀ u : Later w1, u.val.cell? ⟨w.heap.size, 0, none⟩ = some s0 := m0
 have m1 : ∀ u : Later w1, u.val.cell? ⟨w.heap.size, 1, none⟩ = some s1 := m1
 have m2 : ∀ u : Later w1, u.val.cell? ⟨w.heap.size, 2, none⟩ = some s2 := m2
 have m3 : ∀ u : Later w1, u.val.cell? ⟨w.heap.size, 3, none⟩ = some s3 := m3
 have m4 : ∀ u : Later w1, u.val.cell? ⟨w.heap.size, 4, none⟩ = some s4 := m4
 have HM1 := Lib.hid (HM.out.below HB.out)
 have HS1 := Lib.hid (HS.out.below HB.out)
 have HI1 := Lib.hid (HI.out.below HB.out)
 by_cases hs : fitsK 36 M S = true
 · have HFS := Lib.hid hs
   by_cases hi : fitsK 35 M I = true
   · have HFI := Lib.hid hi
     have hbo : bothK M S I = true := by unfold bothK; rw [hs, hi]; rfl
     have HBO := Lib.hid hbo
     rw [hbo, Bool.true_and] at hR
     have HR := Lib.hid hR
     have HON := Lib.hid (eval_one hbo).2.2.2.2.1
     clear hbo hs hi hR
     have HQL := Lib.hid (show ∀ w', LaterC w1 w' → w'.cell? ⟨w.heap.size, 0, none⟩ = some s0 ∧ w'.cell? ⟨w.heap.size, 1, none⟩ = some s1 ∧ w'.cell? ⟨w.heap.size, 2, none⟩ = some s2 ∧ w'.cell? ⟨w.heap.size, 3, none⟩ = some s3 ∧ w'.cell? ⟨w.heap.size, 4, none⟩ = some s4 from fun W h => by
      obtain ⟨v, rfl⟩ := h
      exact ⟨m0 v, m1 v, m2 v, m3 v, m4 v⟩)
     refine at_world (w := w1) ?_
     intro u0
     go_region_held3 (fun w' => w'.cell? ⟨w.heap.size, 0, none⟩ = some s0 ∧ w'.cell? ⟨w.heap.size, 1, none⟩ = some s1 ∧ w'.cell? ⟨w.heap.size, 2, none⟩ = some s2 ∧ w'.cell? ⟨w.heap.size, 3, none⟩ = some s3 ∧ w'.cell? ⟨w.heap.size, 4, none⟩ = some s4) ((refine HQL.out _ ?_; repeat (first | exact ⟨_, rfl⟩ | refine LaterC.drew' ?_ | refine LaterC.alloc' ?_ _))) (first | (go_at_call 70; refine (StateFits'_calls _ _ M S _ (HM1.out.below (LaterC.below (by repeat (first | exact ⟨_, rfl⟩ | refine LaterC.drew' ?_ | refine LaterC.alloc' ?_ _)))) (HS1.out.below (LaterC.below (by repeat (first | exact ⟨_, rfl⟩ | refine LaterC.drew' ?_ | refine LaterC.alloc' ?_ _)))) HSZ.out HNM.out HW1.out HW2.out).mono ?_; rintro e w' ⟨rfl, hb⟩; rw [HFS.out]; obtain ⟨v1, hv1⟩ := laterC_step (w1 := w1) (by repeat (first | exact ⟨_, rfl⟩ | refine LaterC.drew' ?_ | refine LaterC.alloc' ?_ _)) hb; subst hv1; clear hb) | (go_at_call 71; refine (InputFits'_calls _ _ M I _ (HM1.out.below (LaterC.below (by repeat (first | exact ⟨_, rfl⟩ | refine LaterC.drew' ?_ | refine LaterC.alloc' ?_ _)))) (HI1.out.below (LaterC.below (by repeat (first | exact ⟨_, rfl⟩ | refine LaterC.drew' ?_ | refine LaterC.alloc' ?_ _)))) HSZ.out HNM.out HW1.out HW2.out).mono ?_; rintro e w' ⟨rfl, hb⟩; rw [HFI.out]; obtain ⟨v2, hv2⟩ := laterC_step (w1 := w1) (by repeat (first | exact ⟨_, rfl⟩ | refine LaterC.drew' ?_ | refine LaterC.alloc' ?_ _)) hb; subst hv2; clear hb) | (go_at_call 73; refine (eval_at _ _ _ M S I _ (HM1.out.below (LaterC.below (by repeat (first | exact ⟨_, rfl⟩ | refine LaterC.drew' ?_ | refine LaterC.alloc' ?_ _)))) (HS1.out.below (LaterC.below (by repeat (first | exact ⟨_, rfl⟩ | refine LaterC.drew' ?_ | refine LaterC.alloc' ?_ _)))) (HI1.out.below (LaterC.below (by repeat (first | exact ⟨_, rfl⟩ | refine LaterC.drew' ?_ | refine LaterC.alloc' ?_ _)))) HBO.out HSZ.out).mono ?_; rintro e w' ⟨ev, rfl, hb, hev⟩; have HEV := Lib.hid hev; obtain ⟨v3, hv3⟩ := laterC_step (w1 := w1) (by repeat (first | exact ⟨_, rfl⟩ | refine LaterC.drew' ?_ | refine LaterC.alloc' ?_ _)) hb; subst hv3; clear hb; clear hev) | (go_at_call 111; refine (holds'_calls _ ev M (evalL M S I) _ (HM1.out.below (LaterC.below (by repeat (first | exact ⟨_, rfl⟩ | refine LaterC.drew' ?_ | refine LaterC.alloc' ?_ _)))) (HEV.out.below (by first | exact Below.refl _ _ | exact (Below.refl _ _).drew)) HON.out).mono ?_; rintro e w' ⟨rfl, hb⟩; rw [HR.out]; obtain ⟨v4, hv4⟩ := laterC_step (w1 := w1) (by repeat (first | exact ⟨_, rfl⟩ | refine LaterC.drew' ?_ | refine LaterC.alloc' ?_ _)) hb; subst hv4; clear hb))
     all_goals go_wp2
     all_goals go_ret
     all_goals exact ⟨rfl, v4.back HB.out⟩
   · have hi := eq_false_of_ne_true hi
     have HFI := Lib.hid hi
     have HR := Lib.hid (show R = false by rw [← hR]; unfold bothK; rw [hs, hi]; rfl)
     clear hR hs hi
     refine wp_region_later (w0 := w1) (by kernel_rfl) (by kernel_rfl) (LaterC.refl _) ?_
     repeat (go_big_quiet_step (first | (go_at_call 70; exact Calls.later_eq (StateFits'_calls _ _ M S _ (HM1.out.later _) (HS1.out.later _) HSZ.out HNM.out HW1.out HW2.out) (congrArg Value.bool HFS.out)) | (go_at_call 71; exact Calls.later_eq (InputFits'_calls _ _ M I _ (HM1.out.later _) (HI1.out.later _) HSZ.out HNM.out HW1.out HW2.out) (congrArg Value.bool HFI.out))))
     refine wpQuiet_nil ?_
     rintro _ ⟨u1, rfl⟩
     go_wp2
     go_ret
     exact ⟨ret_eq (congrArg Value.bool HR.out.symm), u1.back HB.out⟩
 · have hs := eq_false_of_ne_true hs
   have HFS := Lib.hid hs
   have HR := Lib.hid (show R = false by rw [← hR]; unfold bothK; rw [hs]; rfl)
   clear hR hs
   refine wp_region_later (w0 := w1) (by kernel_rfl) (by kernel_rfl) (LaterC.refl _) ?_
   repeat (go_big_quiet_step ((go_at_call 70; exact Calls.later_eq (StateFits'_calls _ _ M S _ (HM1.out.later _) (HS1.out.later _) HSZ.out HNM.out HW1.out HW2.out) (congrArg Value.bool HFS.out))))
   refine wpQuiet_nil ?_
   rintro _ ⟨u1, rfl⟩
   go_wp2
   go_ret
   exact ⟨ret_eq (congrArg Value.bool HR.out.symm), u1.back HB.out⟩
end Go.Proofs.YtbenebcphaiohaaGreat
namespace Go.Proofs.YtbenebcphaiohaaGreat
open Go.RowKit
theorem EvalBad_calls (mv sv iv : Value) (M : Md) (S I : List (List Int)) (w : World) (hM : MdAt w mv M) (hS : VlAt w sv S) (hI : VlAt w iv I) (hsz : M.nodes.length ≤ 1048576) (hnm : ∀ x, x ∈ M.nodes → x.name.size ≤ 140737488351232) :
 Makes Tryz.prog 34 #[mv, sv, iv] w (.int .i64 (badK M S I)) := by
 have HM := Lib.hid hM
 have HNM := Lib.hid hnm
 have HSZ := Lib.hid hsz
 have HS := Lib.hid hS
 have HI := Lib.hid hI
 obtain ⟨s0, s1, s2, s3, s4, rfl, -⟩ := hM.at_
 clear hM hnm hsz hS hI
 generalize hR : badK M S I = R
 unfold badK at hR
 go_enter Tryz.func34, Tryz.ntmps34
 have HB := Lib.hid (box_below w #[s0, s1, s2, s3, s4] 27)
 have m0 := box_cell w #[s0, s1, s2, s3, s4] 27 0 _ rfl
 have m1 := box_cell w #[s0, s1, s2, s3, s4] 27 1 _ rfl
 have m2 := box_cell w #[s0, s1, s2, s3, s4] 27 2 _ rfl
 have m3 := box_cell w #[s0, s1, s2, s3, s4] 27 3 _ rfl
 have m4 := box_cell w #[s0, s1, s2, s3, s4] 27 4 _ rfl
 go_upto_region 1 with fail
 generalize w.alloc (.cells #[s0, s1, s2, s3, s4] 27) = w1 at *
 have m0 : ∀ u : Later w1, u.val.cell? ⟨w.heap.size, 0, none⟩ = some s0 := m0
 have m1 : ∀ u : Later w1, u.val.cell? ⟨w.heap.size, 1, none⟩ = some s1 := m1
 have m2 : ∀ u : Later w1, u.val.cell? ⟨w.heap.size, 2, none⟩ = some s2 := m2
 have m3 : ∀ u : Later w1, u.val.cell? ⟨w.heap.size, 3, none⟩ = some s3 := m3
 have m4 : ∀ u : Later w1, u.val.cell? ⟨w.heap.size, 4, none⟩ = some s4 := m4
 have HM1 := Lib.hid (HM.out.below HB.out)
 have HS1 := Lib.hid (HS.out.below HB.out)
 have HI1 := Lib.hid (HI.out.below HB.out)
 by_cases hs : fitsK 36 M S = true
 · have HFS := Lib.hid hs
   by_cases hi : fitsK 35 M I = true
   · have HFI := Lib.hid hi
     have hbo : bothK M S I = true := by unfold bothK; rw [hs, hi]; rfl
     have HBO := Lib.hid hbo
     rw [if_pos hbo] at hR
     have HR := Lib.hid hR
     have HON := Lib.hid (eval_one hbo).2.2.2.2.2
     clear hbo hs hi hR
     have HQL := Lib.hid (show ∀ w', LaterC w1 w' → w'.cell? ⟨w.heap.size, 0, none⟩ = some s0 ∧ w'.cell? ⟨w.heap.size, 1, none⟩ = some s1 ∧ w'.cell? ⟨w.heap.size, 2, none⟩ = some s2 ∧ w'.cell? ⟨w.heap.size, 3, none⟩ = some s3 ∧ w'.cell? ⟨w.heap.size, 4, none⟩ = some s4 from fun W h => by
      obtain ⟨v, rfl⟩ := h
      exact ⟨m0 v, m1 v, m2 v, m3 v, m4 v⟩)
     refine at_world (w := w1) ?_
     intro u0
     go_upto_region 3 with (first | (go_at_call 106; refine (Calls.later_eq (u := u0) (StateFits_calls _ _ M S _ (HM1.out.later u0) (HS1.out.later u0) HSZ.out HNM.out) (congrArg Value.bool HFS.out)).mono ?_; rintro e w' ⟨rfl, u1, rfl⟩) | (go_at_call 107; refine (Calls.later_eq (u := u1) (InputFits_calls _ _ M I _ (HM1.out.later u1) (HI1.out.later u1) HSZ.out HNM.out) (congrArg Value.bool HFI.out)).mono ?_; rintro e w' ⟨rfl, u2, rfl⟩))
     go_region_held3 (fun w' => w'.cell? ⟨w.heap.size, 0, none⟩ = some s0 ∧ w'.cell? ⟨w.heap.size, 1, none⟩ = some s1 ∧ w'.cell? ⟨w.heap.size, 2, none⟩ = some s2 ∧ w'.cell? ⟨w.heap.size, 3, none⟩ = some s3 ∧ w'.cell? ⟨w.heap.size, 4, none⟩ = some s4) ((refine HQL.out _ ?_; repeat (first | exact ⟨_, rfl⟩ | refine LaterC.drew' ?_ | refine LaterC.alloc' ?_ _))) (first | (go_at_call 109; refine (l4All_at _ _ _ M S I _ (HM1.out.below (LaterC.below (by repeat (first | exact ⟨_, rfl⟩ | refine LaterC.drew' ?_ | refine LaterC.alloc' ?_ _)))) (HS1.out.below (LaterC.below (by repeat (first | exact ⟨_, rfl⟩ | refine LaterC.drew' ?_ | refine LaterC.alloc' ?_ _)))) (HI1.out.below (LaterC.below (by repeat (first | exact ⟨_, rfl⟩ | refine LaterC.drew' ?_ | refine LaterC.alloc' ?_ _)))) HBO.out HSZ.out).mono ?_; rintro e w' ⟨ev, rfl, hb, hev⟩; have HEV := Lib.hid hev; obtain ⟨v3, hv3⟩ := laterC_step (w1 := w1) (by repeat (first | exact ⟨_, rfl⟩ | refine LaterC.drew' ?_ | refine LaterC.alloc' ?_ _)) hb; subst hv3; clear hb; clear hev) | (go_at_call 113; refine (l4Bad_calls _ ev M (evalL M S I) _ (HM1.out.below (LaterC.below (by repeat (first | exact ⟨_, rfl⟩ | refine LaterC.drew' ?_ | refine LaterC.alloc' ?_ _)))) (HEV.out.below (by first | exact Below.refl _ _ | exact (Below.refl _ _).drew)) HON.out).mono ?_; rintro e w' ⟨rfl, hb⟩; rw [HR.out]; obtain ⟨v4, hv4⟩ := laterC_step (w1 := w1) (by repeat (first | exact ⟨_, rfl⟩ | refine LaterC.drew' ?_ | refine LaterC.alloc' ?_ _)) hb; subst hv4; clear hb))
     all_goals go_wp2
     all_goals go_ret
     all_goals exact ⟨rfl, v4.back HB.out⟩
   · have hi := eq_false_of_ne_true hi
     have HFI := Lib.hid hi
     have HR := Lib.hid (show R = -1 by rw [← hR]; unfold bothK; rw [hs, hi]; rfl)
     clear hR hs hi
     refine at_world (w := w1) ?_
     intro u0
     go_wp2_with (first | (go_at_call 106; refine (Calls.later_eq (u := u0) (StateFits_calls _ _ M S _ (HM1.out.later u0) (HS1.out.later u0) HSZ.out HNM.out) (congrArg Value.bool HFS.out)).mono ?_; rintro e w' ⟨rfl, u1, rfl⟩) | (go_at_call 107; refine (Calls.later_eq (u := u1) (InputFits_calls _ _ M I _ (HM1.out.later u1) (HI1.out.later u1) HSZ.out HNM.out) (congrArg Value.bool HFI.out)).mono ?_; rintro e w' ⟨rfl, u2, rfl⟩))
     go_ret
     exact ⟨ret_eq (congrArg (Value.int .i64) HR.out.symm), u2.back HB.out⟩
 · have hs := eq_false_of_ne_true hs
   have HFS := Lib.hid hs
   have HR := Lib.hid (show R = -1 by rw [← hR]; unfold bothK; rw [hs]; rfl)
   clear hR hs
   refine at_world (w := w1) ?_
   intro u0
   go_wp2_with (go_at_call 106; refine (Calls.later_eq (u := u0) (StateFits_calls _ _ M S _ (HM1.out.later u0) (HS1.out.later u0) HSZ.out HNM.out) (congrArg Value.bool HFS.out)).mono ?_; rintro e w' ⟨rfl, u1, rfl⟩)
   go_ret
   exact ⟨ret_eq (congrArg (Value.int .i64) HR.out.symm), u1.back HB.out⟩
theorem EvalBad'_calls (mv sv iv : Value) (M : Md) (S I : List (List Int)) (w : World) (hM : MdAt w mv M) (hS : VlAt w sv S) (hI : VlAt w iv I) (hsz : M.nodes.length ≤ 1048576) (hnm : ∀ x, x ∈ M.nodes → x.name.size ≤ 140737488351232) (hw1 : ∀ b, b ∈ M.inits → (Lit.int .i64 b.st).wf = true) (hw2 : ∀ b, b ∈ M.nexts → (Lit.int .i64 b.st).wf = true) :
 Makes Tryz.prog 35 #[mv, sv, iv] w (.int .i64 (badK M S I)) := by
 have HM := Lib.hid hM
 have HNM := Lib.hid hnm
 have HSZ := Lib.hid hsz
 have HS := Lib.hid hS
 have HI := Lib.hid hI
 have HW1 := Lib.hid hw1
 have HW2 := Lib.hid hw2
 clear hw1 hw2
 obtain ⟨s0, s1, s2, s3, s4, rfl, -⟩ := hM.at_
 clear hM hnm hsz hS hI
 generalize hR : badK M S I = R
 unfold badK at hR
 go_enter Tryz.func35, Tryz.ntmps35
 have HB := Lib.hid (box_below w #[s0, s1, s2, s3, s4] 27)
 have m0 := box_cell w #[s0, s1, s2, s3, s4] 27 0 _ rfl
 have m1 := box_cell w #[s0, s1, s2, s3, s4] 27 1 _ rfl
 have m2 := box_cell w #[s0, s1, s2, s3, s4] 27 2 _ rfl
 have m3 := box_cell w #[s0, s1, s2, s3, s4] 27 3 _ rfl
 have m4 := box_cell w #[s0, s1, s2, s3, s4] 27 4 _ rfl
 go_upto_region 1 with fail
 generalize w.alloc (.cells #[s0, s1, s2, s3, s4] 27) = w1 at *
 have m0 : ∀ u : Later w1, u.val.cell? ⟨w.heap.size, 0, none⟩ = some s0 := m0
 have m1 : ∀ u : Later w1, u.val.cell? ⟨w.heap.size, 1, none⟩ = some s1 := m1
 have m2 : ∀ u : Later w1, u.val.cell? ⟨w.heap.size, 2, none⟩ = some s2 := m2
 have m3 : ∀ u : Later w1, u.val.cell? ⟨w.heap.size, 3, none⟩ = some s3 := m3
 have m4 : ∀ u : Later w1, u.val.cell? ⟨w.heap.size, 4, none⟩ = some s4 := m4
 have HM1 := Lib.hid (HM.out.below HB.out)
 have HS1 := Lib.hid (HS.out.below HB.out)
 have HI1 := Lib.hid (HI.out.below HB.out)
 by_cases hs : fitsK 36 M S = true
 · have HFS := Lib.hid hs
   by_cases hi : fitsK 35 M I = true
   · have HFI := Lib.hid hi
     have hbo : bothK M S I = true := by unfold bothK; rw [hs, hi]; rfl
     have HBO := Lib.hid hbo
     rw [if_pos hbo] at hR
     have HR := Lib.hid hR
     have HON := Lib.hid (eval_one hbo).2.2.2.2.2
     clear hbo hs hi hR
     have HQL := Lib.hid (show ∀ w', LaterC w1 w' → w'.cell? ⟨w.heap.size, 0, none⟩ = some s0 ∧ w'.cell? ⟨w.heap.size, 1, none⟩ = some s1 ∧ w'.cell? ⟨w.heap.size, 2, none⟩ = some s2 ∧ w'.cell? ⟨w.heap.size, 3, none⟩ = some s3 ∧ w'.cell? ⟨w.heap.size, 4, none⟩ = some s4 from fun W h => by
      obtain ⟨v, rfl⟩ := h
      exact ⟨m0 v, m1 v, m2 v, m3 v, m4 v⟩)
     refine at_world (w := w1) ?_
     intro u0
     go_upto_region 3 with (first | (go_at_call 70; refine (Calls.later_eq (u := u0) (StateFits'_calls _ _ M S _ (HM1.out.later u0) (HS1.out.later u0) HSZ.out HNM.out HW1.out HW2.out) (congrArg Value.bool HFS.out)).mono ?_; rintro e w' ⟨rfl, u1, rfl⟩) | (go_at_call 71; refine (Calls.later_eq (u := u1) (InputFits'_calls _ _ M I _ (HM1.out.later u1) (HI1.out.later u1) HSZ.out HNM.out HW1.out HW2.out) (congrArg Value.bool HFI.out)).mono ?_; rintro e w' ⟨rfl, u2, rfl⟩))
     go_region_held3 (fun w' => w'.cell? ⟨w.heap.size, 0, none⟩ = some s0 ∧ w'.cell? ⟨w.heap.size, 1, none⟩ = some s1 ∧ w'.cell? ⟨w.heap.size, 2, none⟩ = some s2 ∧ w'.cell? ⟨w.heap.size, 3, none⟩ = some s3 ∧ w'.cell? ⟨w.heap.size, 4, none⟩ = some s4) ((refine HQL.out _ ?_; repeat (first | exact ⟨_, rfl⟩ | refine LaterC.drew' ?_ | refine LaterC.alloc' ?_ _))) (first | (go_at_call 73; refine (eval_at _ _ _ M S I _ (HM1.out.below (LaterC.below (by repeat (first | exact ⟨_, rfl⟩ | refine LaterC.drew' ?_ | refine LaterC.alloc' ?_ _)))) (HS1.out.below (LaterC.below (by repeat (first | exact ⟨_, rfl⟩ | refine LaterC.drew' ?_ | refine LaterC.alloc' ?_ _)))) (HI1.out.below (LaterC.below (by repeat (first | exact ⟨_, rfl⟩ | refine LaterC.drew' ?_ | refine LaterC.alloc' ?_ _)))) HBO.out HSZ.out).mono ?_; rintro e w' ⟨ev, rfl, hb, hev⟩; have HEV := Lib.hid hev; obtain ⟨v3, hv3⟩ := laterC_step (w1 := w1) (by repeat (first | exact ⟨_, rfl⟩ | refine LaterC.drew' ?_ | refine LaterC.alloc' ?_ _)) hb; subst hv3; clear hb; clear hev) | (go_at_call 114; refine (bad'_calls _ ev M (evalL M S I) _ (HM1.out.below (LaterC.below (by repeat (first | exact ⟨_, rfl⟩ | refine LaterC.drew' ?_ | refine LaterC.alloc' ?_ _)))) (HEV.out.below (by first | exact Below.refl _ _ | exact (Below.refl _ _).drew)) HON.out).mono ?_; rintro e w' ⟨rfl, hb⟩; rw [HR.out]; obtain ⟨v4, hv4⟩ := laterC_step (w1 := w1) (by repeat (first | exact ⟨_, rfl⟩ | refine LaterC.drew' ?_ | refine LaterC.alloc' ?_ _)) hb; subst hv4; clear hb))
     all_goals go_wp2
     all_goals go_ret
     all_goals exact ⟨rfl, v4.back HB.out⟩
   · have hi := eq_false_of_ne_true hi
     have HFI := Lib.hid hi
     have HR := Lib.hid (show R = -1 by rw [← hR]; unfold bothK; rw [hs, hi]; rfl)
     clear hR hs hi
     refine at_world (w := w1) ?_
     intro u0
     go_wp2_with (first | (go_at_call 70; refine (Calls.later_eq (u := u0) (StateFits'_calls _ _ M S _ (HM1.out.later u0) (HS1.out.later u0) HSZ.out HNM.out HW1.out HW2.out) (congrArg Value.bool HFS.out)).mono ?_; rintro e w' ⟨rfl, u1, rfl⟩) | (go_at_call 71; refine (Calls.later_eq (u := u1) (InputFits'_calls _ _ M I _ (HM1.out.later u1) (HI1.out.later u1) HSZ.out HNM.out HW1.out HW2.out) (congrArg Value.bool HFI.out)).mono ?_; rintro e w' ⟨rfl, u2, rfl⟩))
     go_ret
     exact ⟨ret_eq (congrArg (Value.int .i64) HR.out.symm), u2.back HB.out⟩
 · have hs := eq_false_of_ne_true hs
   have HFS := Lib.hid hs
   have HR := Lib.hid (show R = -1 by rw [← hR]; unfold bothK; rw [hs]; rfl)
   clear hR hs
   refine at_world (w := w1) ?_
   intro u0
   go_wp2_with (go_at_call 70; refine (Calls.later_eq (u := u0) (StateFits'_calls _ _ M S _ (HM1.out.later u0) (HS1.out.later u0) HSZ.out HNM.out HW1.out HW2.out) (congrArg Value.bool HFS.out)).mono ?_; rintro e w' ⟨rfl, u1, rfl⟩)
   go_ret
   exact ⟨ret_eq (congrArg (Value.int .i64) HR.out.symm), u1.back HB.out⟩
end Go.Proofs.YtbenebcphaiohaaGreat
namespace Go.Proofs.YtbenebcphaiohaaGreat
open Go.RowKit
theorem FnExactEvalBad_calls (mv lv1 lv2 : Value) (M : Md) (L1 L2 : List (List Int)) (w : World) (hM : MdAt w mv M) (hl1 : VlAt w lv1 L1) (hl2 : VlAt w lv2 L2) (hnm : ∀ x, x ∈ M.nodes → x.name.size ≤ 140737488351232) (hw1 : ∀ b, b ∈ M.inits → (Lit.int .i64 b.st).wf = true) (hw2 : ∀ b, b ∈ M.nexts → (Lit.int .i64 b.st).wf = true) :
 Makes Tryz.prog 6 #[mv, lv1, lv2] w (.bool true) := by
 have HM := Lib.hid hM
 have HNM := Lib.hid hnm
 have HW1 := Lib.hid hw1
 have HW2 := Lib.hid hw2
 have HSZ := Lib.hid (show ∀ x ∈ M.nodes, x.name.size ≤ 281474976710656 from fun x hx => by have := hnm x hx; omega)
 have HV1 := Lib.hid hl1
 have HV2 := Lib.hid hl2
 obtain ⟨s0, s1, s2, s3, s4, rfl, -⟩ := hM.at_
 clear hM hnm hw1 hw2 hl1 hl2
 go_enter Tryz.func6, Tryz.ntmps6
 have HB := Lib.hid (box_below w #[s0, s1, s2, s3, s4] 47)
 have m0 := box_cell w #[s0, s1, s2, s3, s4] 47 0 _ rfl
 have m1 := box_cell w #[s0, s1, s2, s3, s4] 47 1 _ rfl
 have m2 := box_cell w #[s0, s1, s2, s3, s4] 47 2 _ rfl
 have m3 := box_cell w #[s0, s1, s2, s3, s4] 47 3 _ rfl
 have m4 := box_cell w #[s0, s1, s2, s3, s4] 47 4 _ rfl
 go_upto_region 1 with fail
 generalize w.alloc (.cells #[s0, s1, s2, s3, s4] 47) = w1 at *
 have m0 : ∀ u : Later w1, u.val.cell? ⟨w.heap.size, 0, none⟩ = some s0 := m0
 have m1 : ∀ u : Later w1, u.val.cell? ⟨w.heap.size, 1, none⟩ = some s1 := m1
 have m2 : ∀ u : Later w1, u.val.cell? ⟨w.heap.size, 2, none⟩ = some s2 := m2
 have m3 : ∀ u : Later w1, u.val.cell? ⟨w.heap.size, 3, none⟩ = some s3 := m3
 have m4 : ∀ u : Later w1, u.val.cell? ⟨w.heap.size, 4, none⟩ = some s4 := m4
 have HM1 := Lib.hid (HM.out.below HB.out)
 have HU1 := Lib.hid (HV1.out.below HB.out)
 have HU2 := Lib.hid (HV2.out.below HB.out)
 refine at_world (w := w1) ?_
 intro u0
 go_upto_region 3 with (go_at_call 22; refine (szModel_calls _ M _ (HM1.out.later u0) HSZ.out).mono ?_; rintro e w' ⟨r, rfl, hb, hr⟩; obtain ⟨u1, hu1⟩ := u0.step hb; subst hu1; have HL := Lib.hid hr; clear hb hr)
 by_cases hneg : r < 0
 · go_wp2
   go_ret
   exact ⟨rfl, u1.back HB.out⟩
 have HLEN := Lib.hid (show M.nodes.length ≤ 1048576 ∧ M.inits.length ≤ 1048576 ∧ M.nexts.length ≤ 1048576 ∧ M.bads.length ≤ 1048576 ∧ M.holds.length ≤ 1048576 by
  have := HL.out
  unfold LeftOf at this
  omega)
 have hr0 : r ≤ 1048576 := by
  have := HL.out
  unfold LeftOf at this
  omega
 go_upto_region 6 with (go_at_call 29; refine (szValueS_calls _ L1 r _ (HU1.out.later u1) (by omega) (by omega)).mono ?_; rintro e w' ⟨q1, rfl, hb, hr⟩; obtain ⟨c1, hc⟩ := u1.step hb; subst hc; have HQ1 := Lib.hid hr; clear hb hr)
 by_cases hneg1 : q1 < 0
 · go_wp2
   go_ret
   exact ⟨rfl, c1.back HB.out⟩
 have HLV1 := Lib.hid (show L1.length ≤ 1048576 ∧ ∀ xs ∈ L1, xs.length ≤ 1048576 by
  have := HQ1.out
  unfold LeftV at this
  refine ⟨by omega, fun xs hx => ?_⟩
  rcases this with h | ⟨h0, h1, h2⟩
  · omega
  · have := h2 xs hx; omega)
 have hq1 : q1 ≤ 1048576 := by
  have := HQ1.out
  unfold LeftV at this
  omega
 go_upto_region 9 with (go_at_call 29; refine (szValueS_calls _ L2 q1 _ (HU2.out.later c1) (by omega) (by omega)).mono ?_; rintro e w' ⟨q2, rfl, hb, hr⟩; obtain ⟨c2, hc⟩ := c1.step hb; subst hc; have HQ2 := Lib.hid hr; clear hb hr)
 by_cases hneg2 : q2 < 0
 · go_wp2
   go_ret
   exact ⟨rfl, c2.back HB.out⟩
 have HLV2 := Lib.hid (show L2.length ≤ 1048576 ∧ ∀ xs ∈ L2, xs.length ≤ 1048576 by
  have := HQ2.out
  unfold LeftV at this
  refine ⟨by omega, fun xs hx => ?_⟩
  rcases this with h | ⟨h0, h1, h2⟩
  · omega
  · have := h2 xs hx; omega)
 have hq2 : q2 ≤ 1048576 := by
  have := HQ2.out
  unfold LeftV at this
  omega
 clear HL HQ1 HQ2
 go_wp2_with fail
 refine (toModel_at _ M _ (HM1.out.later c2) HLEN.out.1 HLEN.out.2.1 HLEN.out.2.2.1 HLEN.out.2.2.2.1 HLEN.out.2.2.2.2).mono ?_
 rintro e w' ⟨t0, t1, t2, t3, t4, rfl, hb, hc⟩
 obtain ⟨d0, hd⟩ := c2.step hb
 subst hd
 have HC := Lib.hid hc
 clear hb hc
 go_wp2_with fail
 refine (toValueS_calls _ L1 _ (HU1.out.later d0) HLV1.out.1 HLV1.out.2).mono ?_
 rintro e w' ⟨y1, ys1, rfl, hb, hr⟩
 have HC := Lib.hid (HC.out.below hb)
 have HY1 := Lib.hid hr.vlAt
 obtain ⟨d1, hd⟩ := d0.step hb
 subst hd
 clear hb hr
 go_wp2_with fail
 refine (toValueS_calls _ L2 _ (HU2.out.later d1) HLV2.out.1 HLV2.out.2).mono ?_
 rintro e w' ⟨y2, ys2, rfl, hb, hr⟩
 have HC := Lib.hid (HC.out.below hb)
 have HY1 := Lib.hid (HY1.out.below hb)
 have HY2 := Lib.hid hr.vlAt
 obtain ⟨d2, hd⟩ := d1.step hb
 subst hd
 clear hb hr
 generalize hR : badK M L1 L2 = R at *
 have ER := Lib.hid hR
 clear hR
 go_wp2_with fail
 refine (Calls.later_eq (u := d2) (EvalBad_calls _ _ _ M L1 L2 _ HC.out HY1.out HY2.out HLEN.out.1 HNM.out) (congrArg (Value.int .i64) ER.out)).mono ?_
 rintro e w' ⟨rfl, e0, rfl⟩
 clear HC HY1 HY2
 go_wp2_with fail
 refine (toModel_at _ M _ (HM1.out.later e0) HLEN.out.1 HLEN.out.2.1 HLEN.out.2.2.1 HLEN.out.2.2.2.1 HLEN.out.2.2.2.2).mono ?_
 rintro e w' ⟨x0, x1, x2, x3, x4, rfl, hb, hc⟩
 obtain ⟨e1, he⟩ := e0.step hb
 subst he
 have HC2 := Lib.hid hc
 clear hb hc
 go_wp2_with fail
 have HB2 := Lib.hid (show LaterC w1 (e1.val.alloc (Obj.cells #[slOf x0 M.nodes, slOf x1 M.inits, slOf x2 M.nexts, slOf x3 M.bads, slOf x4 M.holds] 27)) from LaterC.alloc' ⟨e1, rfl⟩ _)
 have HC3 := Lib.hid (show MdAt (e1.val.alloc (Obj.cells #[slOf x0 M.nodes, slOf x1 M.inits, slOf x2 M.nexts, slOf x3 M.bads, slOf x4 M.holds] 27)) (Value.agg #[slOf x0 M.nodes, slOf x1 M.inits, slOf x2 M.nexts, slOf x3 M.bads, slOf x4 M.holds]) M from HC2.out.below ((Below.refl _ _).alloc (Nat.le_refl _) _))
 have b0 := box_cell e1.val #[slOf x0 M.nodes, slOf x1 M.inits, slOf x2 M.nexts, slOf x3 M.bads, slOf x4 M.holds] 27 0 _ rfl
 have b1 := box_cell e1.val #[slOf x0 M.nodes, slOf x1 M.inits, slOf x2 M.nexts, slOf x3 M.bads, slOf x4 M.holds] 27 1 _ rfl
 have b2 := box_cell e1.val #[slOf x0 M.nodes, slOf x1 M.inits, slOf x2 M.nexts, slOf x3 M.bads, slOf x4 M.holds] 27 2 _ rfl
 have b3 := box_cell e1.val #[slOf x0 M.nodes, slOf x1 M.inits, slOf x2 M.nexts, slOf x3 M.bads, slOf x4 M.holds] 27 3 _ rfl
 have b4 := box_cell e1.val #[slOf x0 M.nodes, slOf x1 M.inits, slOf x2 M.nexts, slOf x3 M.bads, slOf x4 M.holds] 27 4 _ rfl
 generalize e1.val.alloc (Obj.cells #[slOf x0 M.nodes, slOf x1 M.inits, slOf x2 M.nexts, slOf x3 M.bads, slOf x4 M.holds] 27) = w2 at *
 generalize e1.val.heap.size = G at *
 have b0 : ∀ u : Later w2, u.val.cell? ⟨G, 0, none⟩ = some (slOf x0 M.nodes) := b0
 have b1 : ∀ u : Later w2, u.val.cell? ⟨G, 1, none⟩ = some (slOf x1 M.inits) := b1
 have b2 : ∀ u : Later w2, u.val.cell? ⟨G, 2, none⟩ = some (slOf x2 M.nexts) := b2
 have b3 : ∀ u : Later w2, u.val.cell? ⟨G, 3, none⟩ = some (slOf x3 M.bads) := b3
 have b4 : ∀ u : Later w2, u.val.cell? ⟨G, 4, none⟩ = some (slOf x4 M.holds) := b4
 have n0 := Later.re m0 HB2.out
 have n1 := Later.re m1 HB2.out
 have n2 := Later.re m2 HB2.out
 have n3 := Later.re m3 HB2.out
 have n4 := Later.re m4 HB2.out
 clear m0 m1 m2 m3 m4 HC2
 have HM3 := Lib.hid (HM1.out.below HB2.out.below)
 have HU1 := Lib.hid (HU1.out.below HB2.out.below)
 have HU2 := Lib.hid (HU2.out.below HB2.out.below)
 refine calls_at (w := w2) fun v0 => ?_
 refine (toValueS_calls _ L1 _ (HU1.out.later v0) HLV1.out.1 HLV1.out.2).mono ?_
 rintro e w' ⟨z1, zs1, rfl, hb, hr⟩
 have HZ1 := Lib.hid hr.vlAt
 obtain ⟨v1, hv⟩ := v0.step hb
 subst hv
 clear hb hr
 go_wp2_with fail
 refine (toValueS_calls _ L2 _ (HU2.out.later v1) HLV2.out.1 HLV2.out.2).mono ?_
 rintro e w' ⟨z2, zs2, rfl, hb, hr⟩
 have HZ1 := Lib.hid (HZ1.out.below hb)
 have HZ2 := Lib.hid hr.vlAt
 obtain ⟨v2, hv⟩ := v1.step hb
 subst hv
 clear hb hr
 go_wp2_with fail
 refine (EvalBad'_calls _ _ _ M L1 L2 _ (HC3.out.later v2) HZ1.out HZ2.out HLEN.out.1 HNM.out HW1.out HW2.out).mono ?_
 rintro e w' ⟨he, hb⟩
 subst he
 have HZ1 := Lib.hid (HZ1.out.below hb)
 have HZ2 := Lib.hid (HZ2.out.below hb)
 obtain ⟨p0, hp⟩ := v2.step hb
 subst hp
 clear hb
 rw [show Value.int .i64 (badK M L1 L2) = Value.int .i64 R from congrArg (Value.int .i64) ER.out]
 go_upto_region 19 with fail
 have HQL := Lib.hid (show ∀ w', LaterC w2 w' → w'.cell? ⟨w.heap.size, 0, none⟩ = some s0 ∧ w'.cell? ⟨w.heap.size, 1, none⟩ = some s1 ∧ w'.cell? ⟨w.heap.size, 2, none⟩ = some s2 ∧ w'.cell? ⟨w.heap.size, 3, none⟩ = some s3 ∧ w'.cell? ⟨w.heap.size, 4, none⟩ = some s4 ∧ w'.cell? ⟨G, 0, none⟩ = some (slOf x0 M.nodes) ∧ w'.cell? ⟨G, 1, none⟩ = some (slOf x1 M.inits) ∧ w'.cell? ⟨G, 2, none⟩ = some (slOf x2 M.nexts) ∧ w'.cell? ⟨G, 3, none⟩ = some (slOf x3 M.bads) ∧ w'.cell? ⟨G, 4, none⟩ = some (slOf x4 M.holds) from fun W h => by
  obtain ⟨v, rfl⟩ := h
  exact ⟨n0 v, n1 v, n2 v, n3 v, n4 v, b0 v, b1 v, b2 v, b3 v, b4 v⟩)
 go_region_held3 (fun w' => w'.cell? ⟨w.heap.size, 0, none⟩ = some s0 ∧ w'.cell? ⟨w.heap.size, 1, none⟩ = some s1 ∧ w'.cell? ⟨w.heap.size, 2, none⟩ = some s2 ∧ w'.cell? ⟨w.heap.size, 3, none⟩ = some s3 ∧ w'.cell? ⟨w.heap.size, 4, none⟩ = some s4 ∧ w'.cell? ⟨G, 0, none⟩ = some (slOf x0 M.nodes) ∧ w'.cell? ⟨G, 1, none⟩ = some (slOf x1 M.inits) ∧ w'.cell? ⟨G, 2, none⟩ = some (slOf x2 M.nexts) ∧ w'.cell? ⟨G, 3, none⟩ = some (slOf x3 M.bads) ∧ w'.cell? ⟨G, 4, none⟩ = some (slOf x4 M.holds)) ((refine HQL.out _ ?_; repeat (first | exact ⟨_, rfl⟩ | refine LaterC.drew' ?_ | refine LaterC.alloc' ?_ _))) (first | (go_at_call 24; refine (toModel_at _ M _ (HM3.out.below (LaterC.below (by repeat (first | exact ⟨_, rfl⟩ | refine LaterC.drew' ?_ | refine LaterC.alloc' ?_ _)))) HLEN.out.1 HLEN.out.2.1 HLEN.out.2.2.1 HLEN.out.2.2.2.1 HLEN.out.2.2.2.2).mono ?_; rintro e w' ⟨y0, y1, y2, y3, y4, rfl, hb, hc⟩; have HZ1 : Hid (VlAt w' z1 L1) := Lib.hid (by first | exact HZ1.out.below hb | exact (HZ1.out.below (Below.refl _ _).drew).below hb); have HZ2 : Hid (VlAt w' z2 L2) := Lib.hid (by first | exact HZ2.out.below hb | exact (HZ2.out.below (Below.refl _ _).drew).below hb); obtain ⟨p1, hp⟩ := laterC_step (w1 := w2) (by repeat (first | exact ⟨_, rfl⟩ | refine LaterC.drew' ?_ | refine LaterC.alloc' ?_ _)) hb; subst hp; have HC4 := Lib.hid hc; clear hb hc) | (go_at_call 26; refine (eqModel_calls _ _ M _ (HC3.out.below (LaterC.below (by repeat (first | exact ⟨_, rfl⟩ | refine LaterC.drew' ?_ | refine LaterC.alloc' ?_ _)))) (HC4.out.below (by first | exact Below.refl _ _ | exact (Below.refl _ _).drew))).mono ?_; rintro e w' ⟨rfl, hb⟩; have HZ1 : Hid (VlAt w' z1 L1) := Lib.hid (by first | exact HZ1.out.below hb | exact (HZ1.out.below (Below.refl _ _).drew).below hb); have HZ2 : Hid (VlAt w' z2 L2) := Lib.hid (by first | exact HZ2.out.below hb | exact (HZ2.out.below (Below.refl _ _).drew).below hb); obtain ⟨p2, hp⟩ := laterC_step (w1 := w2) (by repeat (first | exact ⟨_, rfl⟩ | refine LaterC.drew' ?_ | refine LaterC.alloc' ?_ _)) hb; subst hp; clear hb))
 go_wp2_with fail
 refine (toValueS_calls _ L1 _ (HU1.out.later p2) HLV1.out.1 HLV1.out.2).mono ?_
 rintro e w' ⟨k1, ks1, rfl, hb, hr⟩
 have HZ1 := Lib.hid (HZ1.out.below hb)
 have HZ2 := Lib.hid (HZ2.out.below hb)
 have HK1 := Lib.hid hr.vlAt
 obtain ⟨g1, hg⟩ := p2.step hb
 subst hg
 clear hb hr
 go_wp2_with fail
 refine (eqValueS_calls _ _ L1 _ HZ1.out HK1.out).mono ?_
 rintro e w' ⟨rfl, hb⟩
 have HZ2 := Lib.hid (HZ2.out.below hb)
 obtain ⟨l1, hg⟩ := g1.step hb
 subst hg
 clear hb
 go_wp2_with fail
 refine (toValueS_calls _ L2 _ (HU2.out.later l1) HLV2.out.1 HLV2.out.2).mono ?_
 rintro e w' ⟨k2, ks2, rfl, hb, hr⟩
 have HZ2 := Lib.hid (HZ2.out.below hb)
 have HK2 := Lib.hid hr.vlAt
 obtain ⟨g2, hg⟩ := l1.step hb
 subst hg
 clear hb hr
 go_wp2_with fail
 refine (eqValueS_calls _ _ L2 _ HZ2.out HK2.out).mono ?_
 rintro e w' ⟨rfl, hb⟩
 obtain ⟨l2, hg⟩ := g2.step hb
 subst hg
 clear hb
 go_wp2
 go_ret
 exact ⟨rfl, l2.back (below_of HB.out HB2.out)⟩
end Go.Proofs.YtbenebcphaiohaaGreat
namespace Go.Proofs.YtbenebcphaiohaaGreat
open Go.RowKit
theorem FnExactEvalHolds_calls (mv lv1 lv2 : Value) (M : Md) (L1 L2 : List (List Int)) (w : World) (hM : MdAt w mv M) (hl1 : VlAt w lv1 L1) (hl2 : VlAt w lv2 L2) (hnm : ∀ x, x ∈ M.nodes → x.name.size ≤ 140737488351232) (hw1 : ∀ b, b ∈ M.inits → (Lit.int .i64 b.st).wf = true) (hw2 : ∀ b, b ∈ M.nexts → (Lit.int .i64 b.st).wf = true) :
 Makes Tryz.prog 5 #[mv, lv1, lv2] w (.bool true) := by
 have HM := Lib.hid hM
 have HNM := Lib.hid hnm
 have HW1 := Lib.hid hw1
 have HW2 := Lib.hid hw2
 have HSZ := Lib.hid (show ∀ x ∈ M.nodes, x.name.size ≤ 281474976710656 from fun x hx => by have := hnm x hx; omega)
 have HV1 := Lib.hid hl1
 have HV2 := Lib.hid hl2
 obtain ⟨s0, s1, s2, s3, s4, rfl, -⟩ := hM.at_
 clear hM hnm hw1 hw2 hl1 hl2
 go_enter Tryz.func5, Tryz.ntmps5
 have HB := Lib.hid (box_below w #[s0, s1, s2, s3, s4] 47)
 have m0 := box_cell w #[s0, s1, s2, s3, s4] 47 0 _ rfl
 have m1 := box_cell w #[s0, s1, s2, s3, s4] 47 1 _ rfl
 have m2 := box_cell w #[s0, s1, s2, s3, s4] 47 2 _ rfl
 have m3 := box_cell w #[s0, s1, s2, s3, s4] 47 3 _ rfl
 have m4 := box_cell w #[s0, s1, s2, s3, s4] 47 4 _ rfl
 go_upto_region 1 with fail
 generalize w.alloc (.cells #[s0, s1, s2, s3, s4] 47) = w1 at *
 have m0 : ∀ u : Later w1, u.val.cell? ⟨w.heap.size, 0, none⟩ = some s0 := m0
 have m1 : ∀ u : Later w1, u.val.cell? ⟨w.heap.size, 1, none⟩ = some s1 := m1
 have m2 : ∀ u : Later w1, u.val.cell? ⟨w.heap.size, 2, none⟩ = some s2 := m2
 have m3 : ∀ u : Later w1, u.val.cell? ⟨w.heap.size, 3, none⟩ = some s3 := m3
 have m4 : ∀ u : Later w1, u.val.cell? ⟨w.heap.size, 4, none⟩ = some s4 := m4
 have HM1 := Lib.hid (HM.out.below HB.out)
 have HU1 := Lib.hid (HV1.out.below HB.out)
 have HU2 := Lib.hid (HV2.out.below HB.out)
 refine at_world (w := w1) ?_
 intro u0
 go_upto_region 3 with (go_at_call 22; refine (szModel_calls _ M _ (HM1.out.later u0) HSZ.out).mono ?_; rintro e w' ⟨r, rfl, hb, hr⟩; obtain ⟨u1, hu1⟩ := u0.step hb; subst hu1; have HL := Lib.hid hr; clear hb hr)
 by_cases hneg : r < 0
 · go_wp2
   go_ret
   exact ⟨rfl, u1.back HB.out⟩
 have HLEN := Lib.hid (show M.nodes.length ≤ 1048576 ∧ M.inits.length ≤ 1048576 ∧ M.nexts.length ≤ 1048576 ∧ M.bads.length ≤ 1048576 ∧ M.holds.length ≤ 1048576 by
  have := HL.out
  unfold LeftOf at this
  omega)
 have hr0 : r ≤ 1048576 := by
  have := HL.out
  unfold LeftOf at this
  omega
 go_upto_region 6 with (go_at_call 29; refine (szValueS_calls _ L1 r _ (HU1.out.later u1) (by omega) (by omega)).mono ?_; rintro e w' ⟨q1, rfl, hb, hr⟩; obtain ⟨c1, hc⟩ := u1.step hb; subst hc; have HQ1 := Lib.hid hr; clear hb hr)
 by_cases hneg1 : q1 < 0
 · go_wp2
   go_ret
   exact ⟨rfl, c1.back HB.out⟩
 have HLV1 := Lib.hid (show L1.length ≤ 1048576 ∧ ∀ xs ∈ L1, xs.length ≤ 1048576 by
  have := HQ1.out
  unfold LeftV at this
  refine ⟨by omega, fun xs hx => ?_⟩
  rcases this with h | ⟨h0, h1, h2⟩
  · omega
  · have := h2 xs hx; omega)
 have hq1 : q1 ≤ 1048576 := by
  have := HQ1.out
  unfold LeftV at this
  omega
 go_upto_region 9 with (go_at_call 29; refine (szValueS_calls _ L2 q1 _ (HU2.out.later c1) (by omega) (by omega)).mono ?_; rintro e w' ⟨q2, rfl, hb, hr⟩; obtain ⟨c2, hc⟩ := c1.step hb; subst hc; have HQ2 := Lib.hid hr; clear hb hr)
 by_cases hneg2 : q2 < 0
 · go_wp2
   go_ret
   exact ⟨rfl, c2.back HB.out⟩
 have HLV2 := Lib.hid (show L2.length ≤ 1048576 ∧ ∀ xs ∈ L2, xs.length ≤ 1048576 by
  have := HQ2.out
  unfold LeftV at this
  refine ⟨by omega, fun xs hx => ?_⟩
  rcases this with h | ⟨h0, h1, h2⟩
  · omega
  · have := h2 xs hx; omega)
 have hq2 : q2 ≤ 1048576 := by
  have := HQ2.out
  unfold LeftV at this
  omega
 clear HL HQ1 HQ2
 go_wp2_with fail
 refine (toModel_at _ M _ (HM1.out.later c2) HLEN.out.1 HLEN.out.2.1 HLEN.out.2.2.1 HLEN.out.2.2.2.1 HLEN.out.2.2.2.2).mono ?_
 rintro e w' ⟨t0, t1, t2, t3, t4, rfl, hb, hc⟩
 obtain ⟨d0, hd⟩ := c2.step hb
 subst hd
 have HC := Lib.hid hc
 clear hb hc
 go_wp2_with fail
 refine (toValueS_calls _ L1 _ (HU1.out.later d0) HLV1.out.1 HLV1.out.2).mono ?_
 rintro e w' ⟨y1, ys1, rfl, hb, hr⟩
 have HC := Lib.hid (HC.out.below hb)
 have HY1 := Lib.hid hr.vlAt
 obtain ⟨d1, hd⟩ := d0.step hb
 subst hd
 clear hb hr
 go_wp2_with fail
 refine (toValueS_calls _ L2 _ (HU2.out.later d1) HLV2.out.1 HLV2.out.2).mono ?_
 rintro e w' ⟨y2, ys2, rfl, hb, hr⟩
 have HC := Lib.hid (HC.out.below hb)
 have HY1 := Lib.hid (HY1.out.below hb)
 have HY2 := Lib.hid hr.vlAt
 obtain ⟨d2, hd⟩ := d1.step hb
 subst hd
 clear hb hr
 generalize hR : holdsK M L1 L2 = R at *
 have ER := Lib.hid hR
 clear hR
 go_wp2_with fail
 refine (Calls.later_eq (u := d2) (EvalHolds_calls _ _ _ M L1 L2 _ HC.out HY1.out HY2.out HLEN.out.1 HNM.out) (congrArg Value.bool ER.out)).mono ?_
 rintro e w' ⟨rfl, e0, rfl⟩
 clear HC HY1 HY2
 go_wp2_with fail
 refine (toModel_at _ M _ (HM1.out.later e0) HLEN.out.1 HLEN.out.2.1 HLEN.out.2.2.1 HLEN.out.2.2.2.1 HLEN.out.2.2.2.2).mono ?_
 rintro e w' ⟨x0, x1, x2, x3, x4, rfl, hb, hc⟩
 obtain ⟨e1, he⟩ := e0.step hb
 subst he
 have HC2 := Lib.hid hc
 clear hb hc
 go_wp2_with fail
 have HB2 := Lib.hid (show LaterC w1 (e1.val.alloc (Obj.cells #[slOf x0 M.nodes, slOf x1 M.inits, slOf x2 M.nexts, slOf x3 M.bads, slOf x4 M.holds] 27)) from LaterC.alloc' ⟨e1, rfl⟩ _)
 have HC3 := Lib.hid (show MdAt (e1.val.alloc (Obj.cells #[slOf x0 M.nodes, slOf x1 M.inits, slOf x2 M.nexts, slOf x3 M.bads, slOf x4 M.holds] 27)) (Value.agg #[slOf x0 M.nodes, slOf x1 M.inits, slOf x2 M.nexts, slOf x3 M.bads, slOf x4 M.holds]) M from HC2.out.below ((Below.refl _ _).alloc (Nat.le_refl _) _))
 have b0 := box_cell e1.val #[slOf x0 M.nodes, slOf x1 M.inits, slOf x2 M.nexts, slOf x3 M.bads, slOf x4 M.holds] 27 0 _ rfl
 have b1 := box_cell e1.val #[slOf x0 M.nodes, slOf x1 M.inits, slOf x2 M.nexts, slOf x3 M.bads, slOf x4 M.holds] 27 1 _ rfl
 have b2 := box_cell e1.val #[slOf x0 M.nodes, slOf x1 M.inits, slOf x2 M.nexts, slOf x3 M.bads, slOf x4 M.holds] 27 2 _ rfl
 have b3 := box_cell e1.val #[slOf x0 M.nodes, slOf x1 M.inits, slOf x2 M.nexts, slOf x3 M.bads, slOf x4 M.holds] 27 3 _ rfl
 have b4 := box_cell e1.val #[slOf x0 M.nodes, slOf x1 M.inits, slOf x2 M.nexts, slOf x3 M.bads, slOf x4 M.holds] 27 4 _ rfl
 generalize e1.val.alloc (Obj.cells #[slOf x0 M.nodes, slOf x1 M.inits, slOf x2 M.nexts, slOf x3 M.bads, slOf x4 M.holds] 27) = w2 at *
 generalize e1.val.heap.size = G at *
 have b0 : ∀ u : Later w2, u.val.cell? ⟨G, 0, none⟩ = some (slOf x0 M.nodes) := b0
 have b1 : ∀ u : Later w2, u.val.cell? ⟨G, 1, none⟩ = some (slOf x1 M.inits) := b1
 have b2 : ∀ u : Later w2, u.val.cell? ⟨G, 2, none⟩ = some (slOf x2 M.nexts) := b2
 have b3 : ∀ u : Later w2, u.val.cell? ⟨G, 3, none⟩ = some (slOf x3 M.bads) := b3
 have b4 : ∀ u : Later w2, u.val.cell? ⟨G, 4, none⟩ = some (slOf x4 M.holds) := b4
 have n0 := Later.re m0 HB2.out
 have n1 := Later.re m1 HB2.out
 have n2 := Later.re m2 HB2.out
 have n3 := Later.re m3 HB2.out
 have n4 := Later.re m4 HB2.out
 clear m0 m1 m2 m3 m4 HC2
 have HM3 := Lib.hid (HM1.out.below HB2.out.below)
 have HU1 := Lib.hid (HU1.out.below HB2.out.below)
 have HU2 := Lib.hid (HU2.out.below HB2.out.below)
 refine calls_at (w := w2) fun v0 => ?_
 refine (toValueS_calls _ L1 _ (HU1.out.later v0) HLV1.out.1 HLV1.out.2).mono ?_
 rintro e w' ⟨z1, zs1, rfl, hb, hr⟩
 have HZ1 := Lib.hid hr.vlAt
 obtain ⟨v1, hv⟩ := v0.step hb
 subst hv
 clear hb hr
 go_wp2_with fail
 refine (toValueS_calls _ L2 _ (HU2.out.later v1) HLV2.out.1 HLV2.out.2).mono ?_
 rintro e w' ⟨z2, zs2, rfl, hb, hr⟩
 have HZ1 := Lib.hid (HZ1.out.below hb)
 have HZ2 := Lib.hid hr.vlAt
 obtain ⟨v2, hv⟩ := v1.step hb
 subst hv
 clear hb hr
 go_wp2_with fail
 refine (EvalHolds'_calls _ _ _ M L1 L2 _ (HC3.out.later v2) HZ1.out HZ2.out HLEN.out.1 HNM.out HW1.out HW2.out).mono ?_
 rintro e w' ⟨he, hb⟩
 subst he
 have HZ1 := Lib.hid (HZ1.out.below hb)
 have HZ2 := Lib.hid (HZ2.out.below hb)
 obtain ⟨p0, hp⟩ := v2.step hb
 subst hp
 clear hb
 rw [show Value.bool (holdsK M L1 L2) = Value.bool R from congrArg Value.bool ER.out]
 go_upto_region 19 with fail
 have HQL := Lib.hid (show ∀ w', LaterC w2 w' → w'.cell? ⟨w.heap.size, 0, none⟩ = some s0 ∧ w'.cell? ⟨w.heap.size, 1, none⟩ = some s1 ∧ w'.cell? ⟨w.heap.size, 2, none⟩ = some s2 ∧ w'.cell? ⟨w.heap.size, 3, none⟩ = some s3 ∧ w'.cell? ⟨w.heap.size, 4, none⟩ = some s4 ∧ w'.cell? ⟨G, 0, none⟩ = some (slOf x0 M.nodes) ∧ w'.cell? ⟨G, 1, none⟩ = some (slOf x1 M.inits) ∧ w'.cell? ⟨G, 2, none⟩ = some (slOf x2 M.nexts) ∧ w'.cell? ⟨G, 3, none⟩ = some (slOf x3 M.bads) ∧ w'.cell? ⟨G, 4, none⟩ = some (slOf x4 M.holds) from fun W h => by
  obtain ⟨v, rfl⟩ := h
  exact ⟨n0 v, n1 v, n2 v, n3 v, n4 v, b0 v, b1 v, b2 v, b3 v, b4 v⟩)
 go_region_held3 (fun w' => w'.cell? ⟨w.heap.size, 0, none⟩ = some s0 ∧ w'.cell? ⟨w.heap.size, 1, none⟩ = some s1 ∧ w'.cell? ⟨w.heap.size, 2, none⟩ = some s2 ∧ w'.cell? ⟨w.heap.size, 3, none⟩ = some s3 ∧ w'.cell? ⟨w.heap.size, 4, none⟩ = some s4 ∧ w'.cell? ⟨G, 0, none⟩ = some (slOf x0 M.nodes) ∧ w'.cell? ⟨G, 1, none⟩ = some (slOf x1 M.inits) ∧ w'.cell? ⟨G, 2, none⟩ = some (slOf x2 M.nexts) ∧ w'.cell? ⟨G, 3, none⟩ = some (slOf x3 M.bads) ∧ w'.cell? ⟨G, 4, none⟩ = some (slOf x4 M.holds)) ((refine HQL.out _ ?_; repeat (first | exact ⟨_, rfl⟩ | refine LaterC.drew' ?_ | refine LaterC.alloc' ?_ _))) (first | (go_at_call 24; refine (toModel_at _ M _ (HM3.out.below (LaterC.below (by repeat (first | exact ⟨_, rfl⟩ | refine LaterC.drew' ?_ | refine LaterC.alloc' ?_ _)))) HLEN.out.1 HLEN.out.2.1 HLEN.out.2.2.1 HLEN.out.2.2.2.1 HLEN.out.2.2.2.2).mono ?_; rintro e w' ⟨y0, y1, y2, y3, y4, rfl, hb, hc⟩; have HZ1 : Hid (VlAt w' z1 L1) := Lib.hid (by first | exact HZ1.out.below hb | exact (HZ1.out.below (Below.refl _ _).drew).below hb); have HZ2 : Hid (VlAt w' z2 L2) := Lib.hid (by first | exact HZ2.out.below hb | exact (HZ2.out.below (Below.refl _ _).drew).below hb); obtain ⟨p1, hp⟩ := laterC_step (w1 := w2) (by repeat (first | exact ⟨_, rfl⟩ | refine LaterC.drew' ?_ | refine LaterC.alloc' ?_ _)) hb; subst hp; have HC4 := Lib.hid hc; clear hb hc) | (go_at_call 26; refine (eqModel_calls _ _ M _ (HC3.out.below (LaterC.below (by repeat (first | exact ⟨_, rfl⟩ | refine LaterC.drew' ?_ | refine LaterC.alloc' ?_ _)))) (HC4.out.below (by first | exact Below.refl _ _ | exact (Below.refl _ _).drew))).mono ?_; rintro e w' ⟨rfl, hb⟩; have HZ1 : Hid (VlAt w' z1 L1) := Lib.hid (by first | exact HZ1.out.below hb | exact (HZ1.out.below (Below.refl _ _).drew).below hb); have HZ2 : Hid (VlAt w' z2 L2) := Lib.hid (by first | exact HZ2.out.below hb | exact (HZ2.out.below (Below.refl _ _).drew).below hb); obtain ⟨p2, hp⟩ := laterC_step (w1 := w2) (by repeat (first | exact ⟨_, rfl⟩ | refine LaterC.drew' ?_ | refine LaterC.alloc' ?_ _)) hb; subst hp; clear hb))
 go_wp2_with fail
 refine (toValueS_calls _ L1 _ (HU1.out.later p2) HLV1.out.1 HLV1.out.2).mono ?_
 rintro e w' ⟨k1, ks1, rfl, hb, hr⟩
 have HZ1 := Lib.hid (HZ1.out.below hb)
 have HZ2 := Lib.hid (HZ2.out.below hb)
 have HK1 := Lib.hid hr.vlAt
 obtain ⟨g1, hg⟩ := p2.step hb
 subst hg
 clear hb hr
 go_wp2_with fail
 refine (eqValueS_calls _ _ L1 _ HZ1.out HK1.out).mono ?_
 rintro e w' ⟨rfl, hb⟩
 have HZ2 := Lib.hid (HZ2.out.below hb)
 obtain ⟨l1, hg⟩ := g1.step hb
 subst hg
 clear hb
 go_wp2_with fail
 refine (toValueS_calls _ L2 _ (HU2.out.later l1) HLV2.out.1 HLV2.out.2).mono ?_
 rintro e w' ⟨k2, ks2, rfl, hb, hr⟩
 have HZ2 := Lib.hid (HZ2.out.below hb)
 have HK2 := Lib.hid hr.vlAt
 obtain ⟨g2, hg⟩ := l1.step hb
 subst hg
 clear hb hr
 go_wp2_with fail
 refine (eqValueS_calls _ _ L2 _ HZ2.out HK2.out).mono ?_
 rintro e w' ⟨rfl, hb⟩
 obtain ⟨l2, hg⟩ := g2.step hb
 subst hg
 clear hb
 go_wp2
 go_ret
 exact ⟨rfl, l2.back (below_of HB.out HB2.out)⟩
end Go.Proofs.YtbenebcphaiohaaGreat
