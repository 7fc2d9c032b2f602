import Derived.Test.YteboalbpgghdhaaGreatK10
import Derived.Test.YteboalbpgghdhaaGreatK9
import Derived.Test.YteboalbpgghdhaaGreatK8
import Derived.Deep.RegionHeld3
set_option linter.unusedVariables false
set_option linter.unusedSimpArgs false
namespace Go.Proofs.YteboalbpgghdhaaGreat
open Go.RowKit
/-! StateOf, InputOf. -/
noncomputable def ofB (kind : Int) (M : Md) (code : Int) : Bool := decide (codeN M = 0) && inB code 0 (2 ^ (allN kind M.nodes).toNat - 1)
noncomputable def ofL (kind : Int) (M : Md) (code : Int) : List (List Int) := if ofB kind M code = true then unpackN M.nodes (placesN kind M.nodes M.nodes.length) code (placesN kind M.nodes M.nodes.length).length else []
/-- A call that makes a list of values, and says whether it is one. -/
def GivesRows2 (P : Program) (f : FuncId) (args : Array Value) (w : World) (L : List (List Int)) (ok : Bool) : Prop :=
  Calls P f args w fun e w' => ∃ v svs, e = .returned (.tuple #[v, .bool ok]) ∧ Below w.heap.size w w' ∧ RowVs w.heap.size w' v svs L
theorem RowVs.nil (lo : Nat) (w : World) : RowVs lo w (.slice none 0 0) [] [] := ⟨by simp, rfl, .inl ⟨rfl, rfl⟩, fun i sv xs hi => by simp at hi, fun i j si sj b hi => by simp at hi⟩
theorem l1In_makes (n lo hi : Int) (w : World) : Makes Tryz.prog 62 #[.int .i64 n, .int .i64 lo, .int .i64 hi] w (.bool (inB n lo hi)) := l1In_calls n lo hi w
set_option maxHeartbeats 2000000 in
set_option maxRecDepth 8000 in
theorem StateOf_calls (mv : Value) (M : Md) (code : Int) (w : World) (hM : MdAt w mv M) (hsz : M.nodes.length ≤ 1048576) (hnm : ∀ x, x ∈ M.nodes → x.name.size ≤ 140737488351232) :
    GivesRows2 Tryz.prog 35 #[mv, .int .i64 code] w (ofL 36 M code) (ofB 36 M code) := by
  have HM := Lib.hid hM
  have HNM := Lib.hid hnm
  have HSZ := Lib.hid hsz
  have HIN := Lib.hid (placesN_InN 36 M.nodes)
  have HPL := Lib.hid (show (placesN 36 M.nodes M.nodes.length).length ≤ 1048576 from Nat.le_trans (placesN_le _ _ _) hsz)
  obtain ⟨s0, s1, s2, s3, s4, rfl, -⟩ := hM.at_
  clear hM hnm hsz
  unfold GivesRows2
  generalize hR : ofL 36 M code = L
  generalize hB : ofB 36 M code = ok
  go_enter Tryz.func35, Tryz.ntmps35
  have HB := Lib.hid (box_below w #[s0, s1, s2, s3, s4] 34)
  have m0 := box_cell w #[s0, s1, s2, s3, s4] 34 0 _ rfl
  have m1 := box_cell w #[s0, s1, s2, s3, s4] 34 1 _ rfl
  have m2 := box_cell w #[s0, s1, s2, s3, s4] 34 2 _ rfl
  have m3 := box_cell w #[s0, s1, s2, s3, s4] 34 3 _ rfl
  have m4 := box_cell w #[s0, s1, s2, s3, s4] 34 4 _ rfl
  go_upto_region 1 with fail
  generalize w.alloc (.cells #[s0, s1, s2, s3, s4] 34) = w1 at *
  have m0 : ∀ u : Later w1, u.val.cell? ⟨w.heap.size, 0, none⟩ = some s0 := m0
  have m1 : ∀ u : Later w1, u.val.cell? ⟨w.heap.size, 1, none⟩ = some s1 := m1
  have m2 : ∀ u : Later w1, u.val.cell? ⟨w.heap.size, 2, none⟩ = some s2 := m2
  have m3 : ∀ u : Later w1, u.val.cell? ⟨w.heap.size, 3, none⟩ = some s3 := m3
  have m4 : ∀ u : Later w1, u.val.cell? ⟨w.heap.size, 4, none⟩ = some s4 := m4
  have HM1 := Lib.hid (HM.out.below HB.out)
  refine at_world (w := w1) ?_
  intro u0
  by_cases hc : codeN M = 0
  · have HC := Lib.hid hc
    have hab := allN_bd 36 M.nodes
    have ha8 := code_bits8 (kind := 36) (Or.inl rfl) hc
    have H8 := Lib.hid (show bitsTo M.nodes (placesN 36 M.nodes M.nodes.length) (placesN 36 M.nodes M.nodes.length).length ≤ 8 by rw [bits_all]; exact ha8)
    have ha0 := hab.1
    clear hab hc
    have HI := Lib.hid (show inB code 0 (2 ^ (allN 36 M.nodes).toNat - 1) = ok by rw [← hB]; unfold ofB; rw [HC.out]; rfl)
    generalize ha : allN 36 M.nodes = a at *
    have HA := Lib.hid ha
    clear ha
    have hp1 := pow_pos_i a
    have hp2 : (2 : Int) ^ a.toNat ≤ 256 := pow_le_i ha0 ha8
    by_cases hi : ok = true
    · subst hi
      have hi2 := of_inB HI.out
      have HL := Lib.hid (show unpackN M.nodes (placesN 36 M.nodes M.nodes.length) code (placesN 36 M.nodes M.nodes.length).length = L by rw [← hR]; unfold ofL; rw [if_pos hB])
      clear hR hB
      go_upto_region 3 with (first | (go_at_call 43; refine (Calls.later_eq (u := u0) (ModelCode_calls _ M _ (HM1.out.later u0) HNM.out) (congrArg (Value.int .i64) HC.out)).mono ?_; rintro e w' ⟨rfl, u1, rfl⟩) | (go_at_call 63; refine (Calls.later_eq (u := u1) (l2All_calls _ M 36 _ (HM1.out.later u1)) (congrArg (Value.int .i64) HA.out)).mono ?_; rintro e w' ⟨rfl, u2, rfl⟩) | (go_at_call 62; refine (Calls.later_eq (u := u2) (l1In_calls code 0 (2 ^ a.toNat - 1) _) (congrArg Value.bool HI.out)).mono ?_; rintro e w' ⟨rfl, u3, rfl⟩))
      have HQL := Lib.hid (show ∀ w', LaterC w1 w' → w'.cell? ⟨w.heap.size, 0, none⟩ = some s0 ∧ w'.cell? ⟨w.heap.size, 1, none⟩ = some s1 ∧ w'.cell? ⟨w.heap.size, 2, none⟩ = some s2 ∧ w'.cell? ⟨w.heap.size, 3, none⟩ = some s3 ∧ w'.cell? ⟨w.heap.size, 4, none⟩ = some s4 from fun W h => by
        obtain ⟨v, rfl⟩ := h
        exact ⟨m0 v, m1 v, m2 v, m3 v, m4 v⟩)
      go_region_held3 (fun w' => w'.cell? ⟨w.heap.size, 0, none⟩ = some s0 ∧ w'.cell? ⟨w.heap.size, 1, none⟩ = some s1 ∧ w'.cell? ⟨w.heap.size, 2, none⟩ = some s2 ∧ w'.cell? ⟨w.heap.size, 3, none⟩ = some s3 ∧ w'.cell? ⟨w.heap.size, 4, none⟩ = some s4) ((refine HQL.out _ ?_; repeat (first | exact ⟨_, rfl⟩ | refine LaterC.drew' ?_ | refine LaterC.alloc' ?_ _))) (first | (go_at_call 45; refine (l2Places_calls _ M 36 _ (HM1.out.below (LaterC.below (by repeat (first | exact ⟨_, rfl⟩ | refine LaterC.drew' ?_ | refine LaterC.alloc' ?_ _)))) HSZ.out).mono ?_; rintro e w' ⟨pv, rfl, hb, hown⟩; have HOWN := Lib.hid (places_slN hown HSZ.out); obtain ⟨v2, hv2⟩ := laterC_step (w1 := w1) (by repeat (first | exact ⟨_, rfl⟩ | refine LaterC.drew' ?_ | refine LaterC.alloc' ?_ _)) hb; subst hv2; clear hb hown) | (go_at_call 64; refine (l5Unpack_calls _ pv M _ code _ (HM1.out.below (LaterC.below (by repeat (first | exact ⟨_, rfl⟩ | refine LaterC.drew' ?_ | refine LaterC.alloc' ?_ _)))) (HOWN.out.below (by first | exact Below.refl _ _ | exact (Below.refl _ _).drew)) HIN.out HPL.out H8.out hi2.1 (by omega)).mono ?_; rw [HL.out]; rintro e w' ⟨v, svs, rfl, hb, hr⟩; have HRV := Lib.hid (show RowVs w1.heap.size w' v svs L from (hr.mono (LaterC.size (by repeat (first | exact ⟨_, rfl⟩ | refine LaterC.drew' ?_ | refine LaterC.alloc' ?_ _)))).rowVs (by rw [← HL.out, unpackN_length]; have := HPL.out; omega)); obtain ⟨v3, hv3⟩ := laterC_step (w1 := w1) (by repeat (first | exact ⟨_, rfl⟩ | refine LaterC.drew' ?_ | refine LaterC.alloc' ?_ _)) hb; subst hv3; clear hb hr))
      go_wp2
      go_ret2
      exact ⟨v, svs, rfl, v3.back HB.out, HRV.out.mono HB.out.size⟩
    · have hi := eq_false_of_ne_true hi
      subst hi
      have HL := Lib.hid (show L = [] by rw [← hR]; unfold ofL; rw [if_neg (by rw [hB]; decide)])
      clear hR hB
      go_wp2_with (first | (go_at_call 43; refine (Calls.later_eq (u := u0) (ModelCode_calls _ M _ (HM1.out.later u0) HNM.out) (congrArg (Value.int .i64) HC.out)).mono ?_; rintro e w' ⟨rfl, u1, rfl⟩) | (go_at_call 63; refine (Calls.later_eq (u := u1) (l2All_calls _ M 36 _ (HM1.out.later u1)) (congrArg (Value.int .i64) HA.out)).mono ?_; rintro e w' ⟨rfl, u2, rfl⟩) | (go_at_call 62; refine (Calls.later_eq (u := u2) (l1In_calls code 0 (2 ^ a.toNat - 1) _) (congrArg Value.bool HI.out)).mono ?_; rintro e w' ⟨rfl, u3, rfl⟩))
      go_ret2
      exact ⟨_, [], rfl, u3.back HB.out, by rw [HL.out]; exact RowVs.nil _ _⟩
  · have hLO : L = [] ∧ ok = false := (by
      have h : ofB 36 M code = false := by unfold ofB; rw [show decide (codeN M = 0) = false from decide_eq_false hc]; rfl
      exact ⟨by rw [← hR]; unfold ofL; rw [if_neg (by rw [h]; decide)], by rw [← hB, h]⟩)
    obtain ⟨hL1, hok⟩ := hLO
    subst hok
    have HL := Lib.hid hL1
    clear hL1
    obtain ⟨cm, hcm⟩ : ∃ cm, cm = codeN M := ⟨_, rfl⟩
    have HC := Lib.hid hcm.symm
    have hne : (cm != 0) = true := by rw [hcm]; simpa using hc
    clear hcm hc hR hB
    go_wp2_with (go_at_call 43; refine (Calls.later_eq (u := u0) (ModelCode_calls _ M _ (HM1.out.later u0) HNM.out) (congrArg (Value.int .i64) HC.out)).mono ?_; rintro e w' ⟨rfl, u1, rfl⟩)
    go_ret2
    exact ⟨_, [], rfl, u1.back HB.out, by rw [HL.out]; exact RowVs.nil _ _⟩
set_option maxHeartbeats 2000000 in
set_option maxRecDepth 8000 in
theorem StateOf'_calls (mv : Value) (M : Md) (code : Int) (w : World) (hM : MdAt w mv M) (hsz : M.nodes.length ≤ 1048576) (hnm : ∀ x, x ∈ M.nodes → x.name.size ≤ 140737488351232) (hw1 : ∀ b, b ∈ M.inits → (Lit.int .i64 b.st).wf = true) (hw2 : ∀ b, b ∈ M.nexts → (Lit.int .i64 b.st).wf = true) :
    GivesRows2 Tryz.prog 36 #[mv, .int .i64 code] w (ofL 36 M code) (ofB 36 M code) := by
  have HM := Lib.hid hM
  have HNM := Lib.hid hnm
  have HSZ := Lib.hid hsz
  have HW1 := Lib.hid hw1
  have HW2 := Lib.hid hw2
  clear hw1 hw2
  have HIN := Lib.hid (placesN_InN 36 M.nodes)
  have HPL := Lib.hid (show (placesN 36 M.nodes M.nodes.length).length ≤ 1048576 from Nat.le_trans (placesN_le _ _ _) hsz)
  obtain ⟨s0, s1, s2, s3, s4, rfl, -⟩ := hM.at_
  clear hM hnm hsz
  unfold GivesRows2
  generalize hR : ofL 36 M code = L
  generalize hB : ofB 36 M code = ok
  go_enter Tryz.func36, Tryz.ntmps36
  have HB := Lib.hid (box_below w #[s0, s1, s2, s3, s4] 34)
  have m0 := box_cell w #[s0, s1, s2, s3, s4] 34 0 _ rfl
  have m1 := box_cell w #[s0, s1, s2, s3, s4] 34 1 _ rfl
  have m2 := box_cell w #[s0, s1, s2, s3, s4] 34 2 _ rfl
  have m3 := box_cell w #[s0, s1, s2, s3, s4] 34 3 _ rfl
  have m4 := box_cell w #[s0, s1, s2, s3, s4] 34 4 _ rfl
  go_upto_region 1 with fail
  generalize w.alloc (.cells #[s0, s1, s2, s3, s4] 34) = w1 at *
  have m0 : ∀ u : Later w1, u.val.cell? ⟨w.heap.size, 0, none⟩ = some s0 := m0
  have m1 : ∀ u : Later w1, u.val.cell? ⟨w.heap.size, 1, none⟩ = some s1 := m1
  have m2 : ∀ u : Later w1, u.val.cell? ⟨w.heap.size, 2, none⟩ = some s2 := m2
  have m3 : ∀ u : Later w1, u.val.cell? ⟨w.heap.size, 3, none⟩ = some s3 := m3
  have m4 : ∀ u : Later w1, u.val.cell? ⟨w.heap.size, 4, none⟩ = some s4 := m4
  have HM1 := Lib.hid (HM.out.below HB.out)
  refine at_world (w := w1) ?_
  intro u0
  by_cases hc : codeN M = 0
  · have HC := Lib.hid hc
    have hab := allN_bd 36 M.nodes
    have ha8 := code_bits8 (kind := 36) (Or.inl rfl) hc
    have H8 := Lib.hid (show bitsTo M.nodes (placesN 36 M.nodes M.nodes.length) (placesN 36 M.nodes M.nodes.length).length ≤ 8 by rw [bits_all]; exact ha8)
    have ha0 := hab.1
    clear hab hc
    have HI := Lib.hid (show inB code 0 (2 ^ (allN 36 M.nodes).toNat - 1) = ok by rw [← hB]; unfold ofB; rw [HC.out]; rfl)
    generalize ha : allN 36 M.nodes = a at *
    have HA := Lib.hid ha
    clear ha
    have hp1 := pow_pos_i a
    have hp2 : (2 : Int) ^ a.toNat ≤ 256 := pow_le_i ha0 ha8
    by_cases hi : ok = true
    · subst hi
      have hi2 := of_inB HI.out
      have HL := Lib.hid (show unpackN M.nodes (placesN 36 M.nodes M.nodes.length) code (placesN 36 M.nodes M.nodes.length).length = L by rw [← hR]; unfold ofL; rw [if_pos hB])
      clear hR hB
      go_upto_region 3 with (first | (go_at_call 50; refine (Calls.later_eq (u := u0) (ModelCode'_calls _ M _ (HM1.out.later u0) HNM.out HW1.out HW2.out) (congrArg (Value.int .i64) HC.out)).mono ?_; rintro e w' ⟨rfl, u1, rfl⟩) | (go_at_call 66; refine (Calls.later_eq (u := u1) (bits_calls _ M 36 _ (HM1.out.later u1)) (congrArg (Value.int .i64) HA.out)).mono ?_; rintro e w' ⟨rfl, u2, rfl⟩) | (go_at_call 65; refine (Calls.later_eq (u := u2) (in_calls code 0 (2 ^ a.toNat - 1) _) (congrArg Value.bool HI.out)).mono ?_; rintro e w' ⟨rfl, u3, rfl⟩))
      have HQL := Lib.hid (show ∀ w', LaterC w1 w' → w'.cell? ⟨w.heap.size, 0, none⟩ = some s0 ∧ w'.cell? ⟨w.heap.size, 1, none⟩ = some s1 ∧ w'.cell? ⟨w.heap.size, 2, none⟩ = some s2 ∧ w'.cell? ⟨w.heap.size, 3, none⟩ = some s3 ∧ w'.cell? ⟨w.heap.size, 4, none⟩ = some s4 from fun W h => by
        obtain ⟨v, rfl⟩ := h
        exact ⟨m0 v, m1 v, m2 v, m3 v, m4 v⟩)
      go_region_held3 (fun w' => w'.cell? ⟨w.heap.size, 0, none⟩ = some s0 ∧ w'.cell? ⟨w.heap.size, 1, none⟩ = some s1 ∧ w'.cell? ⟨w.heap.size, 2, none⟩ = some s2 ∧ w'.cell? ⟨w.heap.size, 3, none⟩ = some s3 ∧ w'.cell? ⟨w.heap.size, 4, none⟩ = some s4) ((refine HQL.out _ ?_; repeat (first | exact ⟨_, rfl⟩ | refine LaterC.drew' ?_ | refine LaterC.alloc' ?_ _))) (first | (go_at_call 52; refine (places_calls _ M 36 _ (HM1.out.below (LaterC.below (by repeat (first | exact ⟨_, rfl⟩ | refine LaterC.drew' ?_ | refine LaterC.alloc' ?_ _)))) HSZ.out).mono ?_; rintro e w' ⟨pv, rfl, hb, hown⟩; have HOWN := Lib.hid (places_slN hown HSZ.out); obtain ⟨v2, hv2⟩ := laterC_step (w1 := w1) (by repeat (first | exact ⟨_, rfl⟩ | refine LaterC.drew' ?_ | refine LaterC.alloc' ?_ _)) hb; subst hv2; clear hb hown) | (go_at_call 67; refine (of_calls _ pv M _ code _ (HM1.out.below (LaterC.below (by repeat (first | exact ⟨_, rfl⟩ | refine LaterC.drew' ?_ | refine LaterC.alloc' ?_ _)))) (HOWN.out.below (by first | exact Below.refl _ _ | exact (Below.refl _ _).drew)) HIN.out HPL.out H8.out hi2.1 (by omega)).mono ?_; rw [HL.out]; rintro e w' ⟨v, svs, rfl, hb, hr⟩; have HRV := Lib.hid (show RowVs w1.heap.size w' v svs L from hr.mono (LaterC.size (by repeat (first | exact ⟨_, rfl⟩ | refine LaterC.drew' ?_ | refine LaterC.alloc' ?_ _)))); obtain ⟨v3, hv3⟩ := laterC_step (w1 := w1) (by repeat (first | exact ⟨_, rfl⟩ | refine LaterC.drew' ?_ | refine LaterC.alloc' ?_ _)) hb; subst hv3; clear hb hr))
      go_wp2
      go_ret2
      exact ⟨v, svs, rfl, v3.back HB.out, HRV.out.mono HB.out.size⟩
    · have hi := eq_false_of_ne_true hi
      subst hi
      have HL := Lib.hid (show L = [] by rw [← hR]; unfold ofL; rw [if_neg (by rw [hB]; decide)])
      clear hR hB
      go_wp2_with (first | (go_at_call 50; refine (Calls.later_eq (u := u0) (ModelCode'_calls _ M _ (HM1.out.later u0) HNM.out HW1.out HW2.out) (congrArg (Value.int .i64) HC.out)).mono ?_; rintro e w' ⟨rfl, u1, rfl⟩) | (go_at_call 66; refine (Calls.later_eq (u := u1) (bits_calls _ M 36 _ (HM1.out.later u1)) (congrArg (Value.int .i64) HA.out)).mono ?_; rintro e w' ⟨rfl, u2, rfl⟩) | (go_at_call 65; refine (Calls.later_eq (u := u2) (in_calls code 0 (2 ^ a.toNat - 1) _) (congrArg Value.bool HI.out)).mono ?_; rintro e w' ⟨rfl, u3, rfl⟩))
      go_ret2
      exact ⟨_, [], rfl, u3.back HB.out, by rw [HL.out]; exact RowVs.nil _ _⟩
  · have hLO : L = [] ∧ ok = false := (by
      have h : ofB 36 M code = false := by unfold ofB; rw [show decide (codeN M = 0) = false from decide_eq_false hc]; rfl
      exact ⟨by rw [← hR]; unfold ofL; rw [if_neg (by rw [h]; decide)], by rw [← hB, h]⟩)
    obtain ⟨hL1, hok⟩ := hLO
    subst hok
    have HL := Lib.hid hL1
    clear hL1
    obtain ⟨cm, hcm⟩ : ∃ cm, cm = codeN M := ⟨_, rfl⟩
    have HC := Lib.hid hcm.symm
    have hne : (cm != 0) = true := by rw [hcm]; simpa using hc
    clear hcm hc hR hB
    go_wp2_with (go_at_call 50; refine (Calls.later_eq (u := u0) (ModelCode'_calls _ M _ (HM1.out.later u0) HNM.out HW1.out HW2.out) (congrArg (Value.int .i64) HC.out)).mono ?_; rintro e w' ⟨rfl, u1, rfl⟩)
    go_ret2
    exact ⟨_, [], rfl, u1.back HB.out, by rw [HL.out]; exact RowVs.nil _ _⟩
set_option maxHeartbeats 2000000 in
set_option maxRecDepth 8000 in
theorem InputOf_calls (mv : Value) (M : Md) (code : Int) (w : World) (hM : MdAt w mv M) (hsz : M.nodes.length ≤ 1048576) (hnm : ∀ x, x ∈ M.nodes → x.name.size ≤ 140737488351232) :
    GivesRows2 Tryz.prog 31 #[mv, .int .i64 code] w (ofL 35 M code) (ofB 35 M code) := by
  have HM := Lib.hid hM
  have HNM := Lib.hid hnm
  have HSZ := Lib.hid hsz
  have HIN := Lib.hid (placesN_InN 35 M.nodes)
  have HPL := Lib.hid (show (placesN 35 M.nodes M.nodes.length).length ≤ 1048576 from Nat.le_trans (placesN_le _ _ _) hsz)
  obtain ⟨s0, s1, s2, s3, s4, rfl, -⟩ := hM.at_
  clear hM hnm hsz
  unfold GivesRows2
  generalize hR : ofL 35 M code = L
  generalize hB : ofB 35 M code = ok
  go_enter Tryz.func31, Tryz.ntmps31
  have HB := Lib.hid (box_below w #[s0, s1, s2, s3, s4] 34)
  have m0 := box_cell w #[s0, s1, s2, s3, s4] 34 0 _ rfl
  have m1 := box_cell w #[s0, s1, s2, s3, s4] 34 1 _ rfl
  have m2 := box_cell w #[s0, s1, s2, s3, s4] 34 2 _ rfl
  have m3 := box_cell w #[s0, s1, s2, s3, s4] 34 3 _ rfl
  have m4 := box_cell w #[s0, s1, s2, s3, s4] 34 4 _ rfl
  go_upto_region 1 with fail
  generalize w.alloc (.cells #[s0, s1, s2, s3, s4] 34) = w1 at *
  have m0 : ∀ u : Later w1, u.val.cell? ⟨w.heap.size, 0, none⟩ = some s0 := m0
  have m1 : ∀ u : Later w1, u.val.cell? ⟨w.heap.size, 1, none⟩ = some s1 := m1
  have m2 : ∀ u : Later w1, u.val.cell? ⟨w.heap.size, 2, none⟩ = some s2 := m2
  have m3 : ∀ u : Later w1, u.val.cell? ⟨w.heap.size, 3, none⟩ = some s3 := m3
  have m4 : ∀ u : Later w1, u.val.cell? ⟨w.heap.size, 4, none⟩ = some s4 := m4
  have HM1 := Lib.hid (HM.out.below HB.out)
  refine at_world (w := w1) ?_
  intro u0
  by_cases hc : codeN M = 0
  · have HC := Lib.hid hc
    have hab := allN_bd 35 M.nodes
    have ha8 := code_bits8 (kind := 35) (Or.inr rfl) hc
    have H8 := Lib.hid (show bitsTo M.nodes (placesN 35 M.nodes M.nodes.length) (placesN 35 M.nodes M.nodes.length).length ≤ 8 by rw [bits_all]; exact ha8)
    have ha0 := hab.1
    clear hab hc
    have HI := Lib.hid (show inB code 0 (2 ^ (allN 35 M.nodes).toNat - 1) = ok by rw [← hB]; unfold ofB; rw [HC.out]; rfl)
    generalize ha : allN 35 M.nodes = a at *
    have HA := Lib.hid ha
    clear ha
    have hp1 := pow_pos_i a
    have hp2 : (2 : Int) ^ a.toNat ≤ 256 := pow_le_i ha0 ha8
    by_cases hi : ok = true
    · subst hi
      have hi2 := of_inB HI.out
      have HL := Lib.hid (show unpackN M.nodes (placesN 35 M.nodes M.nodes.length) code (placesN 35 M.nodes M.nodes.length).length = L by rw [← hR]; unfold ofL; rw [if_pos hB])
      clear hR hB
      go_upto_region 3 with (first | (go_at_call 43; refine (Calls.later_eq (u := u0) (ModelCode_calls _ M _ (HM1.out.later u0) HNM.out) (congrArg (Value.int .i64) HC.out)).mono ?_; rintro e w' ⟨rfl, u1, rfl⟩) | (go_at_call 63; refine (Calls.later_eq (u := u1) (l2All_calls _ M 35 _ (HM1.out.later u1)) (congrArg (Value.int .i64) HA.out)).mono ?_; rintro e w' ⟨rfl, u2, rfl⟩) | (go_at_call 62; refine (Calls.later_eq (u := u2) (l1In_calls code 0 (2 ^ a.toNat - 1) _) (congrArg Value.bool HI.out)).mono ?_; rintro e w' ⟨rfl, u3, rfl⟩))
      have HQL := Lib.hid (show ∀ w', LaterC w1 w' → w'.cell? ⟨w.heap.size, 0, none⟩ = some s0 ∧ w'.cell? ⟨w.heap.size, 1, none⟩ = some s1 ∧ w'.cell? ⟨w.heap.size, 2, none⟩ = some s2 ∧ w'.cell? ⟨w.heap.size, 3, none⟩ = some s3 ∧ w'.cell? ⟨w.heap.size, 4, none⟩ = some s4 from fun W h => by
        obtain ⟨v, rfl⟩ := h
        exact ⟨m0 v, m1 v, m2 v, m3 v, m4 v⟩)
      go_region_held3 (fun w' => w'.cell? ⟨w.heap.size, 0, none⟩ = some s0 ∧ w'.cell? ⟨w.heap.size, 1, none⟩ = some s1 ∧ w'.cell? ⟨w.heap.size, 2, none⟩ = some s2 ∧ w'.cell? ⟨w.heap.size, 3, none⟩ = some s3 ∧ w'.cell? ⟨w.heap.size, 4, none⟩ = some s4) ((refine HQL.out _ ?_; repeat (first | exact ⟨_, rfl⟩ | refine LaterC.drew' ?_ | refine LaterC.alloc' ?_ _))) (first | (go_at_call 45; refine (l2Places_calls _ M 35 _ (HM1.out.below (LaterC.below (by repeat (first | exact ⟨_, rfl⟩ | refine LaterC.drew' ?_ | refine LaterC.alloc' ?_ _)))) HSZ.out).mono ?_; rintro e w' ⟨pv, rfl, hb, hown⟩; have HOWN := Lib.hid (places_slN hown HSZ.out); obtain ⟨v2, hv2⟩ := laterC_step (w1 := w1) (by repeat (first | exact ⟨_, rfl⟩ | refine LaterC.drew' ?_ | refine LaterC.alloc' ?_ _)) hb; subst hv2; clear hb hown) | (go_at_call 64; refine (l5Unpack_calls _ pv M _ code _ (HM1.out.below (LaterC.below (by repeat (first | exact ⟨_, rfl⟩ | refine LaterC.drew' ?_ | refine LaterC.alloc' ?_ _)))) (HOWN.out.below (by first | exact Below.refl _ _ | exact (Below.refl _ _).drew)) HIN.out HPL.out H8.out hi2.1 (by omega)).mono ?_; rw [HL.out]; rintro e w' ⟨v, svs, rfl, hb, hr⟩; have HRV := Lib.hid (show RowVs w1.heap.size w' v svs L from (hr.mono (LaterC.size (by repeat (first | exact ⟨_, rfl⟩ | refine LaterC.drew' ?_ | refine LaterC.alloc' ?_ _)))).rowVs (by rw [← HL.out, unpackN_length]; have := HPL.out; omega)); obtain ⟨v3, hv3⟩ := laterC_step (w1 := w1) (by repeat (first | exact ⟨_, rfl⟩ | refine LaterC.drew' ?_ | refine LaterC.alloc' ?_ _)) hb; subst hv3; clear hb hr))
      go_wp2
      go_ret2
      exact ⟨v, svs, rfl, v3.back HB.out, HRV.out.mono HB.out.size⟩
    · have hi := eq_false_of_ne_true hi
      subst hi
      have HL := Lib.hid (show L = [] by rw [← hR]; unfold ofL; rw [if_neg (by rw [hB]; decide)])
      clear hR hB
      go_wp2_with (first | (go_at_call 43; refine (Calls.later_eq (u := u0) (ModelCode_calls _ M _ (HM1.out.later u0) HNM.out) (congrArg (Value.int .i64) HC.out)).mono ?_; rintro e w' ⟨rfl, u1, rfl⟩) | (go_at_call 63; refine (Calls.later_eq (u := u1) (l2All_calls _ M 35 _ (HM1.out.later u1)) (congrArg (Value.int .i64) HA.out)).mono ?_; rintro e w' ⟨rfl, u2, rfl⟩) | (go_at_call 62; refine (Calls.later_eq (u := u2) (l1In_calls code 0 (2 ^ a.toNat - 1) _) (congrArg Value.bool HI.out)).mono ?_; rintro e w' ⟨rfl, u3, rfl⟩))
      go_ret2
      exact ⟨_, [], rfl, u3.back HB.out, by rw [HL.out]; exact RowVs.nil _ _⟩
  · have hLO : L = [] ∧ ok = false := (by
      have h : ofB 35 M code = false := by unfold ofB; rw [show decide (codeN M = 0) = false from decide_eq_false hc]; rfl
      exact ⟨by rw [← hR]; unfold ofL; rw [if_neg (by rw [h]; decide)], by rw [← hB, h]⟩)
    obtain ⟨hL1, hok⟩ := hLO
    subst hok
    have HL := Lib.hid hL1
    clear hL1
    obtain ⟨cm, hcm⟩ : ∃ cm, cm = codeN M := ⟨_, rfl⟩
    have HC := Lib.hid hcm.symm
    have hne : (cm != 0) = true := by rw [hcm]; simpa using hc
    clear hcm hc hR hB
    go_wp2_with (go_at_call 43; refine (Calls.later_eq (u := u0) (ModelCode_calls _ M _ (HM1.out.later u0) HNM.out) (congrArg (Value.int .i64) HC.out)).mono ?_; rintro e w' ⟨rfl, u1, rfl⟩)
    go_ret2
    exact ⟨_, [], rfl, u1.back HB.out, by rw [HL.out]; exact RowVs.nil _ _⟩
set_option maxHeartbeats 2000000 in
set_option maxRecDepth 8000 in
theorem InputOf'_calls (mv : Value) (M : Md) (code : Int) (w : World) (hM : MdAt w mv M) (hsz : M.nodes.length ≤ 1048576) (hnm : ∀ x, x ∈ M.nodes → x.name.size ≤ 140737488351232) (hw1 : ∀ b, b ∈ M.inits → (Lit.int .i64 b.st).wf = true) (hw2 : ∀ b, b ∈ M.nexts → (Lit.int .i64 b.st).wf = true) :
    GivesRows2 Tryz.prog 32 #[mv, .int .i64 code] w (ofL 35 M code) (ofB 35 M code) := by
  have HM := Lib.hid hM
  have HNM := Lib.hid hnm
  have HSZ := Lib.hid hsz
  have HW1 := Lib.hid hw1
  have HW2 := Lib.hid hw2
  clear hw1 hw2
  have HIN := Lib.hid (placesN_InN 35 M.nodes)
  have HPL := Lib.hid (show (placesN 35 M.nodes M.nodes.length).length ≤ 1048576 from Nat.le_trans (placesN_le _ _ _) hsz)
  obtain ⟨s0, s1, s2, s3, s4, rfl, -⟩ := hM.at_
  clear hM hnm hsz
  unfold GivesRows2
  generalize hR : ofL 35 M code = L
  generalize hB : ofB 35 M code = ok
  go_enter Tryz.func32, Tryz.ntmps32
  have HB := Lib.hid (box_below w #[s0, s1, s2, s3, s4] 34)
  have m0 := box_cell w #[s0, s1, s2, s3, s4] 34 0 _ rfl
  have m1 := box_cell w #[s0, s1, s2, s3, s4] 34 1 _ rfl
  have m2 := box_cell w #[s0, s1, s2, s3, s4] 34 2 _ rfl
  have m3 := box_cell w #[s0, s1, s2, s3, s4] 34 3 _ rfl
  have m4 := box_cell w #[s0, s1, s2, s3, s4] 34 4 _ rfl
  go_upto_region 1 with fail
  generalize w.alloc (.cells #[s0, s1, s2, s3, s4] 34) = w1 at *
  have m0 : ∀ u : Later w1, u.val.cell? ⟨w.heap.size, 0, none⟩ = some s0 := m0
  have m1 : ∀ u : Later w1, u.val.cell? ⟨w.heap.size, 1, none⟩ = some s1 := m1
  have m2 : ∀ u : Later w1, u.val.cell? ⟨w.heap.size, 2, none⟩ = some s2 := m2
  have m3 : ∀ u : Later w1, u.val.cell? ⟨w.heap.size, 3, none⟩ = some s3 := m3
  have m4 : ∀ u : Later w1, u.val.cell? ⟨w.heap.size, 4, none⟩ = some s4 := m4
  have HM1 := Lib.hid (HM.out.below HB.out)
  refine at_world (w := w1) ?_
  intro u0
  by_cases hc : codeN M = 0
  · have HC := Lib.hid hc
    have hab := allN_bd 35 M.nodes
    have ha8 := code_bits8 (kind := 35) (Or.inr rfl) hc
    have H8 := Lib.hid (show bitsTo M.nodes (placesN 35 M.nodes M.nodes.length) (placesN 35 M.nodes M.nodes.length).length ≤ 8 by rw [bits_all]; exact ha8)
    have ha0 := hab.1
    clear hab hc
    have HI := Lib.hid (show inB code 0 (2 ^ (allN 35 M.nodes).toNat - 1) = ok by rw [← hB]; unfold ofB; rw [HC.out]; rfl)
    generalize ha : allN 35 M.nodes = a at *
    have HA := Lib.hid ha
    clear ha
    have hp1 := pow_pos_i a
    have hp2 : (2 : Int) ^ a.toNat ≤ 256 := pow_le_i ha0 ha8
    by_cases hi : ok = true
    · subst hi
      have hi2 := of_inB HI.out
      have HL := Lib.hid (show unpackN M.nodes (placesN 35 M.nodes M.nodes.length) code (placesN 35 M.nodes M.nodes.length).length = L by rw [← hR]; unfold ofL; rw [if_pos hB])
      clear hR hB
      go_upto_region 3 with (first | (go_at_call 50; refine (Calls.later_eq (u := u0) (ModelCode'_calls _ M _ (HM1.out.later u0) HNM.out HW1.out HW2.out) (congrArg (Value.int .i64) HC.out)).mono ?_; rintro e w' ⟨rfl, u1, rfl⟩) | (go_at_call 66; refine (Calls.later_eq (u := u1) (bits_calls _ M 35 _ (HM1.out.later u1)) (congrArg (Value.int .i64) HA.out)).mono ?_; rintro e w' ⟨rfl, u2, rfl⟩) | (go_at_call 65; refine (Calls.later_eq (u := u2) (in_calls code 0 (2 ^ a.toNat - 1) _) (congrArg Value.bool HI.out)).mono ?_; rintro e w' ⟨rfl, u3, rfl⟩))
      have HQL := Lib.hid (show ∀ w', LaterC w1 w' → w'.cell? ⟨w.heap.size, 0, none⟩ = some s0 ∧ w'.cell? ⟨w.heap.size, 1, none⟩ = some s1 ∧ w'.cell? ⟨w.heap.size, 2, none⟩ = some s2 ∧ w'.cell? ⟨w.heap.size, 3, none⟩ = some s3 ∧ w'.cell? ⟨w.heap.size, 4, none⟩ = some s4 from fun W h => by
        obtain ⟨v, rfl⟩ := h
        exact ⟨m0 v, m1 v, m2 v, m3 v, m4 v⟩)
      go_region_held3 (fun w' => w'.cell? ⟨w.heap.size, 0, none⟩ = some s0 ∧ w'.cell? ⟨w.heap.size, 1, none⟩ = some s1 ∧ w'.cell? ⟨w.heap.size, 2, none⟩ = some s2 ∧ w'.cell? ⟨w.heap.size, 3, none⟩ = some s3 ∧ w'.cell? ⟨w.heap.size, 4, none⟩ = some s4) ((refine HQL.out _ ?_; repeat (first | exact ⟨_, rfl⟩ | refine LaterC.drew' ?_ | refine LaterC.alloc' ?_ _))) (first | (go_at_call 52; refine (places_calls _ M 35 _ (HM1.out.below (LaterC.below (by repeat (first | exact ⟨_, rfl⟩ | refine LaterC.drew' ?_ | refine LaterC.alloc' ?_ _)))) HSZ.out).mono ?_; rintro e w' ⟨pv, rfl, hb, hown⟩; have HOWN := Lib.hid (places_slN hown HSZ.out); obtain ⟨v2, hv2⟩ := laterC_step (w1 := w1) (by repeat (first | exact ⟨_, rfl⟩ | refine LaterC.drew' ?_ | refine LaterC.alloc' ?_ _)) hb; subst hv2; clear hb hown) | (go_at_call 67; refine (of_calls _ pv M _ code _ (HM1.out.below (LaterC.below (by repeat (first | exact ⟨_, rfl⟩ | refine LaterC.drew' ?_ | refine LaterC.alloc' ?_ _)))) (HOWN.out.below (by first | exact Below.refl _ _ | exact (Below.refl _ _).drew)) HIN.out HPL.out H8.out hi2.1 (by omega)).mono ?_; rw [HL.out]; rintro e w' ⟨v, svs, rfl, hb, hr⟩; have HRV := Lib.hid (show RowVs w1.heap.size w' v svs L from hr.mono (LaterC.size (by repeat (first | exact ⟨_, rfl⟩ | refine LaterC.drew' ?_ | refine LaterC.alloc' ?_ _)))); obtain ⟨v3, hv3⟩ := laterC_step (w1 := w1) (by repeat (first | exact ⟨_, rfl⟩ | refine LaterC.drew' ?_ | refine LaterC.alloc' ?_ _)) hb; subst hv3; clear hb hr))
      go_wp2
      go_ret2
      exact ⟨v, svs, rfl, v3.back HB.out, HRV.out.mono HB.out.size⟩
    · have hi := eq_false_of_ne_true hi
      subst hi
      have HL := Lib.hid (show L = [] by rw [← hR]; unfold ofL; rw [if_neg (by rw [hB]; decide)])
      clear hR hB
      go_wp2_with (first | (go_at_call 50; refine (Calls.later_eq (u := u0) (ModelCode'_calls _ M _ (HM1.out.later u0) HNM.out HW1.out HW2.out) (congrArg (Value.int .i64) HC.out)).mono ?_; rintro e w' ⟨rfl, u1, rfl⟩) | (go_at_call 66; refine (Calls.later_eq (u := u1) (bits_calls _ M 35 _ (HM1.out.later u1)) (congrArg (Value.int .i64) HA.out)).mono ?_; rintro e w' ⟨rfl, u2, rfl⟩) | (go_at_call 65; refine (Calls.later_eq (u := u2) (in_calls code 0 (2 ^ a.toNat - 1) _) (congrArg Value.bool HI.out)).mono ?_; rintro e w' ⟨rfl, u3, rfl⟩))
      go_ret2
      exact ⟨_, [], rfl, u3.back HB.out, by rw [HL.out]; exact RowVs.nil _ _⟩
  · have hLO : L = [] ∧ ok = false := (by
      have h : ofB 35 M code = false := by unfold ofB; rw [show decide (codeN M = 0) = false from decide_eq_false hc]; rfl
      exact ⟨by rw [← hR]; unfold ofL; rw [if_neg (by rw [h]; decide)], by rw [← hB, h]⟩)
    obtain ⟨hL1, hok⟩ := hLO
    subst hok
    have HL := Lib.hid hL1
    clear hL1
    obtain ⟨cm, hcm⟩ : ∃ cm, cm = codeN M := ⟨_, rfl⟩
    have HC := Lib.hid hcm.symm
    have hne : (cm != 0) = true := by rw [hcm]; simpa using hc
    clear hcm hc hR hB
    go_wp2_with (go_at_call 50; refine (Calls.later_eq (u := u0) (ModelCode'_calls _ M _ (HM1.out.later u0) HNM.out HW1.out HW2.out) (congrArg (Value.int .i64) HC.out)).mono ?_; rintro e w' ⟨rfl, u1, rfl⟩)
    go_ret2
    exact ⟨_, [], rfl, u1.back HB.out, by rw [HL.out]; exact RowVs.nil _ _⟩
end Go.Proofs.YteboalbpgghdhaaGreat
namespace Go.Proofs.YteboalbpgghdhaaGreat
open Go.RowKit
/-! Marks in lists of values. -/
def Blk (v : Value) (svs : List Value) (b : Nat) : Prop := v.ownBlock = some b ∨ ∃ (i : Nat) (sv : Value), svs[i]? = some sv ∧ sv.ownBlock = some b
theorem RowVs.blk {lo : Nat} {w : World} {v : Value} {svs : List Value} {L : List (List Int)} (h : RowVs lo w v svs L) {b : Nat} (hb : Blk v svs b) : lo ≤ b ∧ b < w.heap.size := by
  rcases hb with hb | ⟨i, sv, hi, hb⟩
  · have hl := h.lt hb
    obtain ⟨-, -, ⟨rfl, -⟩ | ⟨g, cap, cur, rfl, hlo, -⟩, -⟩ := h
    · cases hb
    · cases hb; exact ⟨hlo, hl⟩
  · have hil := (List.getElem?_eq_some_iff.1 hi).1
    have hk := h.2.2.2.1 i sv _ hi (List.getElem?_eq_getElem (show i < L.length by rw [← h.2.1]; exact hil))
    exact ⟨(hk.2 b hb).1, hk.1.lt hb⟩
theorem RowVs.but {S : Nat → Prop} {lo : Nat} {w w' : World} {v : Value} {svs : List Value} {L : List (List Int)} (h : RowVs lo w v svs L) (hb : But S w w') (hS : ∀ b, Blk v svs b → ¬ S b) : RowVs lo w' v svs L := by
  obtain ⟨h1, h2, h3, h4, h5⟩ := h
  refine ⟨h1, h2, ?_, fun i sv xs hi hx => ⟨(h4 i sv xs hi hx).1.but hb fun b hb' => hS b (.inr ⟨i, sv, hi, hb'⟩), (h4 i sv xs hi hx).2⟩, h5⟩
  rcases h3 with h3 | ⟨g, cap, cur, rfl, hlo, ho, hr⟩
  · exact .inl h3
  · exact .inr ⟨g, cap, cur, rfl, hlo, ho.but hb (hS g (.inl rfl)), hr⟩
theorem RowVs.turn {lo : Nat} {w w' : World} {v : Value} {svs : List Value} {L : List (List Int)} (h : RowVs lo w v svs L) {k : Nat} {sv : Value} (hk : svs[k]? = some sv) (hb : But (fun b => sv.ownBlock = some b) w w') {ys : List Int} (hr : RowI w' sv ys) : RowVs lo w' v svs (L.set k ys) := by
  obtain ⟨h1, h2, h3, h4, h5⟩ := h
  have hkl := (List.getElem?_eq_some_iff.1 hk).1
  have hkx := List.getElem?_eq_getElem (show k < L.length by rw [← h2]; exact hkl)
  refine ⟨by simpa using h1, by simpa using h2, ?_, fun i si xs hi hx => ?_, h5⟩
  · rcases h3 with ⟨rfl, rfl⟩ | ⟨g, cap, cur, rfl, hlo, ho, hc, hs, hf⟩
    · exact .inl ⟨rfl, rfl⟩
    · exact .inr ⟨g, cap, cur, by simp, hlo, ho.but hb (fun e => ((h4 k sv _ hk hkx).2 g e).2 rfl), by simpa using hc, hs, hf⟩
  · rw [List.getElem?_set] at hx
    by_cases e : k = i
    · subst e
      rw [if_pos rfl, if_pos (by rw [← h2]; exact hkl)] at hx
      cases hx
      rw [hk] at hi
      cases hi
      exact ⟨hr, (h4 k sv _ hk hkx).2⟩
    · rw [if_neg e] at hx
      refine ⟨(h4 i si xs hi hx).1.but hb fun b hb' e' => ?_, (h4 i si xs hi hx).2⟩
      rcases Nat.lt_or_ge k i with hlt | hge
      · exact h5 k i _ _ b hk hi hlt e' hb'
      · exact h5 i k _ _ b hi hk (by omega) hb' e'
theorem RowVs.shape {lo : Nat} {w : World} {v : Value} {svs : List Value} {L : List (List Int)} (h : RowVs lo w v svs L) : ∃ A c, v = .slice A L.length c := by
  obtain ⟨h1, h2, ⟨rfl, rfl⟩ | ⟨g, cap, cur, rfl, -⟩, -⟩ := h
  · exact ⟨_, _, rfl⟩
  · exact ⟨_, _, rfl⟩
theorem RowVs.outerA {lo : Nat} {w : World} {v : Value} {svs : List Value} {L : List (List Int)} (h : RowVs lo w v svs L) {k : Nat} (hk : k < L.length) : ∃ g cap, v = .slice (some ⟨g, 0, none⟩) L.length cap ∧ ∃ sv, svs[k]? = some sv ∧ w.cell? ⟨g, k, none⟩ = some sv ∧ RowI w sv (L.getD k []) := by
  obtain ⟨sv, hsv⟩ := h.get hk
  obtain ⟨h1, h2, ⟨rfl, rfl⟩ | ⟨g, cap, cur, rfl, hlo, ho, hc, hs, hf⟩, h4, -⟩ := h
  · simp at hk
  · exact ⟨g, cap, rfl, sv, hsv, by rw [ho.cell]; exact hf k sv hsv, (h4 k sv _ hsv (getD_at hk [])).1⟩
def totN (L : List (List Int)) : Nat := (L.map List.length).sum
theorem totN_take {L : List (List Int)} {k : Nat} (hk : k < L.length) : totN (L.take (k + 1)) = totN (L.take k) + (L.getD k []).length := by
  unfold totN
  rw [List.take_add_one, getD_at hk []]
  simp
theorem totN_le (L : List (List Int)) (k : Nat) : totN (L.take k) ≤ totN L := by
  unfold totN
  induction L generalizing k with
  | nil => simp
  | cons x l ih =>
    cases k with
    | zero => simp
    | succ k => have := ih k; simp only [List.take_succ_cons, List.map_cons, List.sum_cons]; omega
theorem totN_bd {L : List (List Int)} {c : Nat} (h : ∀ xs ∈ L, xs.length ≤ c) : totN L ≤ c * L.length := by
  unfold totN
  induction L with
  | nil => simp
  | cons x l ih =>
    have h1 := ih fun xs hx => h xs (List.mem_cons_of_mem _ hx)
    have h2 := h x List.mem_cons_self
    simp only [List.map_cons, List.sum_cons, List.length_cons, Nat.mul_add, Nat.mul_one]
    omega
def marksV (k : Int) (L : List (List Int)) : List (List Int) := (List.range L.length).map fun (i : Nat) => marks (k + totN (L.take i)) (L.getD i []).length
theorem marksV_length (k : Int) (L : List (List Int)) : (marksV k L).length = L.length := by simp [marksV]
theorem marksV_get {k : Int} {L : List (List Int)} {i : Nat} (h : i < L.length) : (marksV k L)[i]? = some (marks (k + totN (L.take i)) (L.getD i []).length) := by simp [marksV, h]
def MixV (k : Int) (L : List (List Int)) (j : Nat) (L' : List (List Int)) : Prop := L'.length = L.length ∧ (∀ i, i < j → L'.getD i [] = marks (k + totN (L.take i)) (L.getD i []).length) ∧ ∀ i, j ≤ i → L'.getD i [] = L.getD i []
theorem MixV.step {k : Int} {L L' : List (List Int)} {j : Nat} (h : MixV k L j L') (hj : j < L.length) : MixV k L (j + 1) (L'.set j (marks (k + totN (L.take j)) (L.getD j []).length)) := by
  obtain ⟨h1, h2, h3⟩ := h
  have key : ∀ (i : Nat) (x : List Int), (L'.set j x).getD i [] = if i = j then x else L'.getD i [] := fun i x => by
    rw [List.getD_eq_getElem?_getD, List.getElem?_set, List.getD_eq_getElem?_getD]
    by_cases e : j = i
    · subst e; simp [show j < L'.length by omega]
    · rw [if_neg e, if_neg (fun h => e h.symm)]
  refine ⟨by simpa using h1, fun i hi => ?_, fun i hi => ?_⟩
  · rw [key]
    by_cases e : i = j
    · subst e; rw [if_pos rfl]
    · rw [if_neg e]; exact h2 i (by omega)
  · rw [key, if_neg (by omega)]; exact h3 i (by omega)
theorem MixV.done {k : Int} {L L' : List (List Int)} (h : MixV k L L.length L') : L' = marksV k L := by
  refine List.ext_getElem? fun i => ?_
  rcases Nat.lt_or_ge i L.length with g | g
  · rw [marksV_get g, getD_at (by rw [h.1]; exact g) [], h.2.1 i g]
  · rw [List.getElem?_eq_none (by rw [h.1]; exact g), List.getElem?_eq_none (by rw [marksV_length]; exact g)]
set_option maxHeartbeats 1000000 in
set_option maxRecDepth 8000 in
theorem markValueS_calls (lo : Nat) (v : Value) (svs : List Value) (L : List (List Int)) (k : Int) (w : World) (h : RowVs lo w v svs L) (h0 : 0 ≤ k) (h1 : k + totN L ≤ 1000000000000) :
    Calls Tryz.prog 33 #[v, .int .i64 k] w fun e w' => e = .returned (.int .i64 (k + totN L)) ∧ But (Blk v svs) w w' ∧ RowVs lo w' v svs (marksV k L) := by
  obtain ⟨A, c, rfl⟩ := h.shape
  have HRV := Lib.hid h
  have hl := h.1
  have HT := Lib.hid (fun (j : Nat) (hj : j < L.length) => totN_take hj)
  have HTL := Lib.hid (totN_le L)
  have HTT := Lib.hid (show totN (L.take L.length) = totN L by rw [List.take_length])
  have HMS := Lib.hid (fun (L' : List (List Int)) (j : Nat) (hm : MixV k L j L') (hj : j < L.length) => hm.step hj)
  have HMD := Lib.hid (fun (L' : List (List Int)) (hm : MixV k L L.length L') => hm.done)
  clear h
  generalize hN : L.length = n at *
  have HN := Lib.hid hN
  clear hN
  go_enter Tryz.func33, Tryz.ntmps33
  go_wp2
  go_loopw [1, 5] (fun kk i wr => ∃ (j : Nat) (t : Int) (L' : List (List Int)), j ≤ n ∧ i = .int .i64 j ∧ kk = .int .i64 t ∧ 0 ≤ t ∧ t ≤ 1000000000000 ∧ Hid (t = k + totN (L.take j) ∧ RowVs lo wr (.slice A n c) svs L' ∧ MixV k L j L' ∧ But (Blk (.slice A n c) svs) w wr)) (fun _ i _ => n - (intOf i).toNat)
  case atStart => exact ⟨0, k, L, Nat.zero_le _, rfl, rfl, h0, by omega, Lib.hid ⟨by simp [totN], HRV.out, ⟨rfl, fun i hi => absurd hi (Nat.not_lt_zero _), fun i _ => rfl⟩, .refl _ _⟩⟩
  case round =>
    obtain ⟨j, t, L', hj, rfl, rfl, ht0, ht1, HR⟩ := hrel
    by_cases hlt : j < n
    · have hlt' : (j : Int) < n := by omega
      obtain ⟨g, cap, hv, sv, hsv, hcell, hri⟩ := HR.out.2.1.outerA (k := j) (by rw [HR.out.2.2.1.1, HN.out]; exact hlt)
      cases hv
      rw [HR.out.2.2.1.2.2 j (Nat.le_refl _)] at hri
      have HRI := Lib.hid hri
      have HSV := Lib.hid hsv
      have hb2 : t + (L.getD j []).length ≤ 1000000000000 := by
        have h1 := HR.out.1
        have h2 := HT.out j hlt
        have h3 := HTL.out (j + 1)
        omega
      clear hri hsv
      go_wp2_with fail
      refine (markIntS_calls sv _ t _ HRI.out ht0 hb2).mono ?_
      rintro e w' ⟨rfl, hbut, hr⟩
      have HBUT := Lib.hid hbut
      have HR2 := Lib.hid hr
      clear hbut hr hcell
      go_wp2
      go_roundw
      case rel =>
        have hm := HMS.out _ j HR.out.2.2.1 hlt
        have hrv := HR.out.2.1.turn HSV.out HBUT.out HR2.out
        rw [HR.out.1] at hrv
        exact ⟨j + 1, t + (L.getD j []).length, _, by omega, by go_num, by go_num, by omega, hb2, Lib.hid ⟨by rw [HR.out.1, HT.out j hlt]; push_cast; omega, hrv, hm, HR.out.2.2.2.trans (HBUT.out.mono fun b hb => .inr ⟨j, sv, HSV.out, hb⟩)⟩⟩
      case measure => simp [intOf] <;> omega
    · obtain rfl : j = n := by omega
      have hmd := HMD.out _ HR.out.2.2.1
      subst hmd
      go_wp2
      go_ret
      exact ⟨ret_eq (congrArg (Value.int .i64) (by rw [HR.out.1, HTT.out])), HR.out.2.2.2, HR.out.2.1⟩
set_option maxHeartbeats 1000000 in
set_option maxRecDepth 8000 in
theorem heldValueS_calls (v : Value) (L : List (List Int)) (k : Int) (w : World) (h : VlAt w v (marksV k L)) (h0 : 0 ≤ k) (h1 : k + totN L ≤ 1000000000000) :
    Makes Tryz.prog 34 #[v, .int .i64 k] w (.int .i64 (k + totN L)) := by
  obtain ⟨A, c, rfl, -, hl, hA⟩ := h
  rw [marksV_length] at hl ⊢
  have HT := Lib.hid (fun (j : Nat) (hj : j < L.length) => totN_take hj)
  have HTL := Lib.hid (totN_le L)
  have HTT := Lib.hid (show totN (L.take L.length) = totN L by rw [List.take_length])
  have HMG := Lib.hid (fun (j : Nat) (hj : j < L.length) => marksV_get (k := k) hj)
  generalize hN : L.length = n at *
  have HN := Lib.hid hN
  clear hN
  go_enter Tryz.func34, Tryz.ntmps34
  go_wp2
  go_loopw [1, 5] (fun kk i wr => ∃ (j : Nat) (t : Int), j ≤ n ∧ i = .int .i64 j ∧ kk = .int .i64 t ∧ 0 ≤ t ∧ t ≤ 1000000000000 ∧ Hid (t = k + totN (L.take j)) ∧ LaterC w wr) (fun _ i _ => n - (intOf i).toNat)
  case atStart => exact ⟨0, k, Nat.zero_le _, rfl, rfl, h0, by omega, Lib.hid (by simp [totN]), LaterC.refl _⟩
  case round =>
    obtain ⟨j, t, hj, rfl, rfl, ht0, ht1, HR, ⟨u, rfl⟩⟩ := hrel
    by_cases hlt : j < n
    · have hlt' : (j : Int) < n := by omega
      obtain ⟨b, o, sv, rfl, hc, hs⟩ := hA j _ (HMG.out j hlt)
      rw [← HR.out] at hs
      have HS := Lib.hid hs
      have p0 := Later.cell hc
      have hb2 : t + (L.getD j []).length ≤ 1000000000000 := by
        have h1 := HR.out
        have h2 := HT.out j hlt
        have h3 := HTL.out (j + 1)
        omega
      have HT2 := Lib.hid (HT.out j hlt)
      generalize (L.getD j []).length = m at *
      clear hs hc hA
      go_wp2_with fail
      refine (Calls.later (u := u) (heldIntS_calls sv t m _ (HS.out.later u) ht0 hb2)).mono ?_
      rintro e w' ⟨rfl, u1, rfl⟩
      have hneg : (t + (m : Int) < 0) = False := eq_false (by omega)
      go_wp2
      go_roundw
      case rel => exact ⟨j + 1, t + m, by omega, by go_num, by go_num, by omega, hb2, Lib.hid (by rw [HR.out, HT2.out]; push_cast; omega), ⟨u1, rfl⟩⟩
      case measure => simp [intOf] <;> omega
    · obtain rfl : j = n := by omega
      clear hA
      go_wp2
      go_ret
      exact ⟨ret_eq (congrArg (Value.int .i64) (by rw [HR.out, HTT.out])), u.prop⟩
end Go.Proofs.YteboalbpgghdhaaGreat
namespace Go.Proofs.YteboalbpgghdhaaGreat
open Go.RowKit
/-! The laws FnExactStateOf, FnExactInputOf. -/
theorem ofL_len (kind : Int) (M : Md) (code : Int) (h : M.nodes.length ≤ 1048576) : (ofL kind M code).length ≤ 1048576 := by
  unfold ofL
  split
  · rw [unpackN_length]; exact Nat.le_trans (placesN_le _ _ _) h
  · simp
theorem rowU_len (ns : List Nd) (ps : List Int) (code : Int) (i : Nat) : (rowU ns ps code i).length ≤ 4 := by
  rw [rowU_length]
  have := cells_bits (ndAt ns ps i).idx (ndAt ns ps i).wid
  omega
theorem code_nodes {M : Md} (h : codeN M = 0) : M.nodes.length ≤ 60 := by
  unfold codeN at h
  by_cases hb : bigB M = true
  · rw [if_pos hb] at h; omega
  · unfold bigB at hb
    simp at hb
    omega
theorem ofL_tot {kind : Int} (hk : kind = 36 ∨ kind = 35) (M : Md) (code : Int) : totN (ofL kind M code) ≤ 1000000 := by
  unfold ofL
  split
  · next h =>
    unfold ofB at h
    rw [Bool.and_eq_true] at h
    have hc : codeN M = 0 := by simpa using h.1
    have h60 := code_nodes hc
    have hb := totN_bd (L := unpackN M.nodes (placesN kind M.nodes M.nodes.length) code (placesN kind M.nodes M.nodes.length).length) (c := 4) (fun xs hx => by
      unfold unpackN at hx
      obtain ⟨i, -, rfl⟩ := List.mem_map.1 hx
      exact rowU_len _ _ _ _)
    rw [unpackN_length] at hb
    have := placesN_le kind M.nodes M.nodes.length
    omega
  · simp [totN]
set_option maxHeartbeats 16000000 in
set_option maxRecDepth 8000 in
theorem FnExactStateOf_calls (mv : Value) (M : Md) (code : Int) (w : World) (hM : MdAt w mv M) (hcw : (Lit.int .i64 code).wf = true) (hnm : ∀ x, x ∈ M.nodes → x.name.size ≤ 140737488351232) (hw1 : ∀ b, b ∈ M.inits → (Lit.int .i64 b.st).wf = true) (hw2 : ∀ b, b ∈ M.nexts → (Lit.int .i64 b.st).wf = true) :
    Makes Tryz.prog 9 #[mv, .int .i64 code] w (.bool true) := by
  have HM := Lib.hid hM
  have HNM := Lib.hid hnm
  have HW1 := Lib.hid hw1
  have HW2 := Lib.hid hw2
  have HSZ := Lib.hid (show ∀ x ∈ M.nodes, x.name.size ≤ 281474976710656 from fun x hx => by have := hnm x hx; omega)
  obtain ⟨s0, s1, s2, s3, s4, rfl, -⟩ := hM.at_
  clear hM hnm hw1 hw2  hcw
  go_enter Tryz.func9, Tryz.ntmps9
  have HB := Lib.hid (box_below w #[s0, s1, s2, s3, s4] 26)
  have m0 := box_cell w #[s0, s1, s2, s3, s4] 26 0 _ rfl
  have m1 := box_cell w #[s0, s1, s2, s3, s4] 26 1 _ rfl
  have m2 := box_cell w #[s0, s1, s2, s3, s4] 26 2 _ rfl
  have m3 := box_cell w #[s0, s1, s2, s3, s4] 26 3 _ rfl
  have m4 := box_cell w #[s0, s1, s2, s3, s4] 26 4 _ rfl
  go_upto_region 1 with fail
  generalize w.alloc (.cells #[s0, s1, s2, s3, s4] 26) = w1 at *
  have m0 : ∀ u : Later w1, u.val.cell? ⟨w.heap.size, 0, none⟩ = some s0 := m0
  have m1 : ∀ u : Later w1, u.val.cell? ⟨w.heap.size, 1, none⟩ = some s1 := m1
  have m2 : ∀ u : Later w1, u.val.cell? ⟨w.heap.size, 2, none⟩ = some s2 := m2
  have m3 : ∀ u : Later w1, u.val.cell? ⟨w.heap.size, 3, none⟩ = some s3 := m3
  have m4 : ∀ u : Later w1, u.val.cell? ⟨w.heap.size, 4, none⟩ = some s4 := m4
  have HM1 := Lib.hid (HM.out.below HB.out)
  refine at_world (w := w1) ?_
  intro u0
  go_upto_region 3 with (go_at_call 11; refine (szModel_calls _ M _ (HM1.out.later u0) HSZ.out).mono ?_; rintro e w' ⟨r, rfl, hb, hr⟩; obtain ⟨u1, hu1⟩ := u0.step hb; subst hu1; have HL := Lib.hid hr; clear hb hr)
  by_cases hneg : r < 0
  · go_wp2
    go_ret
    exact ⟨rfl, u1.back HB.out⟩
  have HLEN := Lib.hid (show M.nodes.length ≤ 1048576 ∧ M.inits.length ≤ 1048576 ∧ M.nexts.length ≤ 1048576 ∧ M.bads.length ≤ 1048576 ∧ M.holds.length ≤ 1048576 by
    have := HL.out
    unfold LeftOf at this
    omega)
  have hr0 : r ≤ 1048576 := by
    have := HL.out
    unfold LeftOf at this
    omega
  clear HL 
  go_wp2_with fail
  refine (toModel_at _ M _ (HM1.out.later u1) HLEN.out.1 HLEN.out.2.1 HLEN.out.2.2.1 HLEN.out.2.2.2.1 HLEN.out.2.2.2.2).mono ?_
  rintro e w' ⟨t0, t1, t2, t3, t4, rfl, hb, hc⟩
  obtain ⟨d0, hd⟩ := u1.step hb
  subst hd
  have HC := Lib.hid hc
  clear hb hc
  go_wp2_with fail
  refine (StateOf_calls _ M code _ HC.out HLEN.out.1 HNM.out).mono ?_
  rintro e w' ⟨o0, os0, rfl, hb, hr⟩
  obtain ⟨e0, he⟩ := d0.step hb
  subst he
  have HLB := Lib.hid (show (ofL 36 M code).length ≤ 1048576 from ofL_len _ _ _ HLEN.out.1)
  have HTB := Lib.hid (show totN (ofL 36 M code) ≤ 1000000 from ofL_tot (Or.inl rfl) _ _)
  generalize hLL : (ofL 36 M code) = LL at *
  generalize hOK : (ofB 36 M code) = ok at *
  have HO0 := Lib.hid hr
  have HOB := Lib.hid (show ∀ b, Blk o0 os0 b → b < e0.val.heap.size from fun b hb => (hr.blk hb).2)
  clear hb hr HC 
  go_wp2_with fail
  refine (toModel_calls _ M _ (HM1.out.later e0) HLEN.out.1 HLEN.out.2.1 HLEN.out.2.2.1 HLEN.out.2.2.2.1 HLEN.out.2.2.2.2).mono ?_
  rintro e w' ⟨x0, x1, x2, x3, x4, rfl, hb, hx01, hx12, hx23, hx34, hf0, hf1, hf2, hf3, hf4⟩
  have HX := Lib.hid (show x0 < x1 ∧ x1 < x2 ∧ x2 < x3 ∧ x3 < x4 from ⟨hx01, hx12, hx23, hx34⟩)
  have HX0 := Lib.hid (show e0.val.heap.size ≤ x0 from hf0.ge)
  have HO0 := Lib.hid (HO0.out.below hb)
  have HOB := Lib.hid (show ∀ b, Blk o0 os0 b → b < x0 from fun b hb => Nat.lt_of_lt_of_le (HOB.out b hb) HX0.out)
  have HXW := Lib.hid (show w1.heap.size ≤ x0 from Nat.le_trans e0.size HX0.out)
  have HF := Lib.hid (show _ ∧ _ ∧ _ ∧ _ ∧ _ from ⟨hf0, hf1, hf2, hf3, hf4⟩)
  obtain ⟨e1, he⟩ := e0.step hb
  subst he
  clear hb hx01 hx12 hx23 hx34 hf0 hf1 hf2 hf3 hf4
  have HC2 := Lib.hid (show MdAt e1.val (Value.agg #[slOf x0 M.nodes, slOf x1 M.inits, slOf x2 M.nexts, slOf x3 M.bads, slOf x4 M.holds]) M from ⟨⟨_, _, _, _, _, rfl, HF.out.1.slAt (by have := HLEN.out; omega), HF.out.2.1.slAt (by have := HLEN.out; omega), HF.out.2.2.1.slAt (by have := HLEN.out; omega), HF.out.2.2.2.1.slAt (by have := HLEN.out; omega), HF.out.2.2.2.2.slAt (by have := HLEN.out; omega)⟩⟩)
  go_wp2_with fail
  have HB2 := Lib.hid (show LaterC w1 (e1.val.alloc (Obj.cells #[slOf x0 M.nodes, slOf x1 M.inits, slOf x2 M.nexts, slOf x3 M.bads, slOf x4 M.holds] 34)) from LaterC.alloc' ⟨e1, rfl⟩ _)
  have hba : Below e1.val.heap.size e1.val (e1.val.alloc (Obj.cells #[slOf x0 M.nodes, slOf x1 M.inits, slOf x2 M.nexts, slOf x3 M.bads, slOf x4 M.holds] 34)) := (Below.refl _ _).alloc (Nat.le_refl _) _
  have HC3 := Lib.hid (HC2.out.below hba)
  have HO1 := Lib.hid (HO0.out.below hba)
  have HF5 := Lib.hid (show _ ∧ _ ∧ _ ∧ _ ∧ _ from ⟨HF.out.1.below hba, HF.out.2.1.below hba, HF.out.2.2.1.below hba, HF.out.2.2.2.1.below hba, HF.out.2.2.2.2.below hba⟩)
  have HX4 := Lib.hid (show x4 < e1.val.heap.size from HF.out.2.2.2.2.lt)
  have HGS := Lib.hid (show e1.val.heap.size < (e1.val.alloc (Obj.cells #[slOf x0 M.nodes, slOf x1 M.inits, slOf x2 M.nexts, slOf x3 M.bads, slOf x4 M.holds] 34)).heap.size from by show _ < (Array.push _ _).size; rw [Array.size_push]; exact Nat.lt_succ_self _)
  clear HC2 HO0 HF hba
  have b0 := box_cell e1.val #[slOf x0 M.nodes, slOf x1 M.inits, slOf x2 M.nexts, slOf x3 M.bads, slOf x4 M.holds] 34 0 _ rfl
  have b1 := box_cell e1.val #[slOf x0 M.nodes, slOf x1 M.inits, slOf x2 M.nexts, slOf x3 M.bads, slOf x4 M.holds] 34 1 _ rfl
  have b2 := box_cell e1.val #[slOf x0 M.nodes, slOf x1 M.inits, slOf x2 M.nexts, slOf x3 M.bads, slOf x4 M.holds] 34 2 _ rfl
  have b3 := box_cell e1.val #[slOf x0 M.nodes, slOf x1 M.inits, slOf x2 M.nexts, slOf x3 M.bads, slOf x4 M.holds] 34 3 _ rfl
  have b4 := box_cell e1.val #[slOf x0 M.nodes, slOf x1 M.inits, slOf x2 M.nexts, slOf x3 M.bads, slOf x4 M.holds] 34 4 _ rfl
  generalize e1.val.alloc (Obj.cells #[slOf x0 M.nodes, slOf x1 M.inits, slOf x2 M.nexts, slOf x3 M.bads, slOf x4 M.holds] 34) = w2 at *
  generalize e1.val.heap.size = G at *
  have b0 : ∀ u : Later w2, u.val.cell? ⟨G, 0, none⟩ = some (slOf x0 M.nodes) := b0
  have b1 : ∀ u : Later w2, u.val.cell? ⟨G, 1, none⟩ = some (slOf x1 M.inits) := b1
  have b2 : ∀ u : Later w2, u.val.cell? ⟨G, 2, none⟩ = some (slOf x2 M.nexts) := b2
  have b3 : ∀ u : Later w2, u.val.cell? ⟨G, 3, none⟩ = some (slOf x3 M.bads) := b3
  have b4 : ∀ u : Later w2, u.val.cell? ⟨G, 4, none⟩ = some (slOf x4 M.holds) := b4
  have n0 := Later.re m0 HB2.out
  have n1 := Later.re m1 HB2.out
  have n2 := Later.re m2 HB2.out
  have n3 := Later.re m3 HB2.out
  have n4 := Later.re m4 HB2.out
  have HM3 := Lib.hid (HM1.out.below HB2.out.below)
  refine calls_at (w := w2) fun v0 => ?_
  refine (StateOf'_calls _ M code _ (HC3.out.later v0) HLEN.out.1 HNM.out HW1.out HW2.out).mono ?_
  rw [hLL, hOK]
  rintro e w' ⟨g0, gs0, rfl, hb, hr⟩
  have HG := Lib.hid hr
  have HGB := Lib.hid (show ∀ b, Blk g0 gs0 b → v0.val.heap.size ≤ b from fun b hb => (hr.blk hb).1)
  obtain ⟨a0, ha⟩ := v0.step hb
  subst ha
  clear hb hr
  have HO2 := Lib.hid (HO1.out.below a0.prop)
  clear HO1
  go_wp2_with fail
  refine (eqValueS_calls _ _ LL _ HG.out.vlAt HO2.out.vlAt).mono ?_
  rintro e w' ⟨rfl, hb⟩
  have HG := Lib.hid (HG.out.below hb)
  have HO3 := Lib.hid (HO2.out.below hb)
  clear HO2
  obtain ⟨p0, hp⟩ := a0.step hb
  subst hp
  clear hb
  go_upto_region 10 with fail
  have HQL := Lib.hid (show ∀ w', LaterC w2 w' → w'.cell? ⟨w.heap.size, 0, none⟩ = some s0 ∧ w'.cell? ⟨w.heap.size, 1, none⟩ = some s1 ∧ w'.cell? ⟨w.heap.size, 2, none⟩ = some s2 ∧ w'.cell? ⟨w.heap.size, 3, none⟩ = some s3 ∧ w'.cell? ⟨w.heap.size, 4, none⟩ = some s4 ∧ w'.cell? ⟨G, 0, none⟩ = some (slOf x0 M.nodes) ∧ w'.cell? ⟨G, 1, none⟩ = some (slOf x1 M.inits) ∧ w'.cell? ⟨G, 2, none⟩ = some (slOf x2 M.nexts) ∧ w'.cell? ⟨G, 3, none⟩ = some (slOf x3 M.bads) ∧ w'.cell? ⟨G, 4, none⟩ = some (slOf x4 M.holds) from fun W h => by
    obtain ⟨v, rfl⟩ := h
    exact ⟨n0 v, n1 v, n2 v, n3 v, n4 v, b0 v, b1 v, b2 v, b3 v, b4 v⟩)
  have HP0 := Lib.hid (Below.refl p0.val.heap.size p0.val)
  go_region_held3 (fun w' => w'.cell? ⟨w.heap.size, 0, none⟩ = some s0 ∧ w'.cell? ⟨w.heap.size, 1, none⟩ = some s1 ∧ w'.cell? ⟨w.heap.size, 2, none⟩ = some s2 ∧ w'.cell? ⟨w.heap.size, 3, none⟩ = some s3 ∧ w'.cell? ⟨w.heap.size, 4, none⟩ = some s4 ∧ w'.cell? ⟨G, 0, none⟩ = some (slOf x0 M.nodes) ∧ w'.cell? ⟨G, 1, none⟩ = some (slOf x1 M.inits) ∧ w'.cell? ⟨G, 2, none⟩ = some (slOf x2 M.nexts) ∧ w'.cell? ⟨G, 3, none⟩ = some (slOf x3 M.bads) ∧ w'.cell? ⟨G, 4, none⟩ = some (slOf x4 M.holds)) ((refine HQL.out _ ?_; repeat (first | exact ⟨_, rfl⟩ | refine LaterC.drew' ?_ | refine LaterC.alloc' ?_ _))) (first | (go_at_call 14; refine (toModel_at _ M _ (HM3.out.below (LaterC.below (by repeat (first | exact ⟨_, rfl⟩ | refine LaterC.drew' ?_ | refine LaterC.alloc' ?_ _)))) HLEN.out.1 HLEN.out.2.1 HLEN.out.2.2.1 HLEN.out.2.2.2.1 HLEN.out.2.2.2.2).mono ?_; rintro e w' ⟨y0, y1, y2, y3, y4, rfl, hb, hc⟩; have HP1 : Hid (Below p0.val.heap.size p0.val w') := Lib.hid (by first | exact hb | exact (HP0.out.drew).trans hb); obtain ⟨p1, hp⟩ := laterC_step (w1 := w2) (by repeat (first | exact ⟨_, rfl⟩ | refine LaterC.drew' ?_ | refine LaterC.alloc' ?_ _)) hb; subst hp; have HC4 := Lib.hid hc; clear hb hc) | (go_at_call 17; refine (eqModel_calls _ _ M _ (HC3.out.below (LaterC.below (by repeat (first | exact ⟨_, rfl⟩ | refine LaterC.drew' ?_ | refine LaterC.alloc' ?_ _)))) (HC4.out.below (by first | exact Below.refl _ _ | exact (Below.refl _ _).drew))).mono ?_; rintro e w' ⟨rfl, hb⟩; have HP2 : Hid (Below p0.val.heap.size p0.val w') := Lib.hid (by first | exact HP1.out.trans (hb.mono HP1.out.size) | exact HP1.out.drew.trans (hb.mono (Nat.le_trans HP1.out.size (Nat.le_refl _)))); obtain ⟨p2, hp⟩ := laterC_step (w1 := w2) (by repeat (first | exact ⟨_, rfl⟩ | refine LaterC.drew' ?_ | refine LaterC.alloc' ?_ _)) hb; subst hp; clear hb))
  have HG := Lib.hid (HG.out.below HP2.out)
  have HO4 := Lib.hid (HO3.out.below HP2.out)
  clear HO3
  go_wp2_with fail
  refine (markModel_calls M _ x0 x1 x2 x3 x4 HLEN.out HX.out (HF5.out.1.below p2.prop) (HF5.out.2.1.below p2.prop) (HF5.out.2.2.1.below p2.prop) (HF5.out.2.2.2.1.below p2.prop) (HF5.out.2.2.2.2.below p2.prop)).mono ?_
  rintro e w4 ⟨r2, rfl, hr2, hbut⟩
  have HXV := Lib.hid (show x4 < w2.heap.size ∧ w2.heap.size ≤ v0.val.heap.size by have h1 := HX4.out; have h2 := HGS.out; have h3 := v0.size; omega)
  have HVN := Lib.hid (show v0.val.heap.size ≤ v0.val.heap.size by omega)
  have HG := Lib.hid (HG.out.but hbut (fun b hb h => by have h1 := HGB.out b hb; have h2 := HXV.out; have h3 := HVN.out; have h4 := h.2; omega))
  have HO4 := Lib.hid (HO4.out.but hbut (fun b hb h => by have h1 := HOB.out b hb; have h4 := h.1; omega))
  have HL4 := Lib.hid (show LaterC w1 w4 from .of ((HB2.out.trans ⟨p2, rfl⟩).below.trans (hbut.below (fun k hk => Nat.le_trans HXW.out hk.1) (HB2.out.trans ⟨p2, rfl⟩).size)))
  have hr3 := hr2
  clear hr2 hbut
  have HR2 := Lib.hid hr3
  have hr4 : 0 ≤ r2 := by have := HR2.out; omega
  clear hr3
  have hneg3 : (r2 < 0) = False := eq_false (by omega)
  refine at_world (w := w4) ?_
  intro f0
  go_wp2_with fail
  refine (eqValueS_calls _ _ LL _ (HG.out.below f0.prop).vlAt (HO4.out.below f0.prop).vlAt).mono ?_
  rintro e w' ⟨rfl, hb⟩
  have HG := Lib.hid ((HG.out.below f0.prop).below hb)
  have HO4 := Lib.hid ((HO4.out.below f0.prop).below hb)
  have HL5 := Lib.hid (show LaterC w1 w' from laterC_step (HL4.out.trans ⟨f0, rfl⟩) hb)
  clear hb
  go_wp2_with fail
  refine (markValueS_calls _ _ _ LL 1 _ HG.out (by omega) (by have := HTB.out; omega)).mono ?_
  rintro e w5 ⟨rfl, hbut, hr⟩
  have HG5 := Lib.hid hr
  have HO5 := Lib.hid (HO4.out.but hbut (fun b hb h => by have h1 := HOB.out b hb; have h2 := HGB.out b h; have h3 := HXV.out; have h5 := HX.out; have h6 := HVN.out; omega))
  have HL6 := Lib.hid (show LaterC w1 w5 from .of (HL5.out.below.trans (hbut.below (fun k hk => by have h1 := HGB.out k hk; have h2 := HXV.out; have h3 := HX.out; have h4 := HXW.out; have h6 := HVN.out; omega) HL5.out.size)))
  clear hbut hr HG HO4
  obtain ⟨tt, htt⟩ : ∃ z : Int, z = 1 + (totN LL : Int) := ⟨_, rfl⟩
  rw [← htt]
  have htt0 : 0 ≤ tt := by omega
  have HTT := Lib.hid htt.symm
  clear htt
  have hneg4 : (tt < 0) = False := eq_false (by omega)
  have k0 := Later.re m0 HL6.out
  have k1 := Later.re m1 HL6.out
  have k2 := Later.re m2 HL6.out
  have k3 := Later.re m3 HL6.out
  have k4 := Later.re m4 HL6.out
  have HM6 := Lib.hid (HM1.out.below HL6.out.below)
  refine at_world (w := w5) ?_
  intro d9
  go_wp2_with fail
  refine (Calls.later_eq (u := d9) (heldValueS_calls _ LL 1 _ (HG5.out.below d9.prop).vlAt (by omega) (by have := HTB.out; omega)) (congrArg (Value.int .i64) HTT.out)).mono ?_
  rintro e w' ⟨rfl, d8, rfl⟩
  go_wp2_with fail
  refine (toModel_at _ M _ (HM6.out.later d8) HLEN.out.1 HLEN.out.2.1 HLEN.out.2.2.1 HLEN.out.2.2.2.1 HLEN.out.2.2.2.2).mono ?_
  rintro e w' ⟨z0, z1, z2, z3, z4, rfl, hb, hc⟩
  obtain ⟨j0, hj⟩ := d8.step hb
  subst hj
  have HC := Lib.hid hc
  clear hb hc
  go_wp2_with fail
  refine (StateOf'_calls _ M code _ HC.out HLEN.out.1 HNM.out HW1.out HW2.out).mono ?_
  rw [hLL, hOK]
  rintro e w' ⟨q0, qs0, rfl, hb, hr⟩
  have HQ0 := Lib.hid hr
  obtain ⟨i0, hi⟩ := j0.step hb
  subst hi
  clear hb hr
  go_wp2_with fail
  refine (Calls.later (u := i0) (eqValueS_calls _ _ LL _ HQ0.out.vlAt (HO5.out.below i0.prop).vlAt)).mono ?_
  rintro e w' ⟨rfl, i1, rfl⟩
  go_wp2_with fail
  refine (Calls.later_eq (u := i1) (heldValueS_calls _ LL 1 _ (HG5.out.below i1.prop).vlAt (by omega) (by have := HTB.out; omega)) (congrArg (Value.int .i64) HTT.out)).mono ?_
  rintro e w' ⟨rfl, i2, rfl⟩
  go_wp2
  go_ret
  exact ⟨rfl, i2.back (below_of HB.out HL6.out)⟩
set_option maxHeartbeats 16000000 in
set_option maxRecDepth 8000 in
theorem FnExactInputOf_calls (mv : Value) (M : Md) (code : Int) (w : World) (hM : MdAt w mv M) (hcw : (Lit.int .i64 code).wf = true) (hnm : ∀ x, x ∈ M.nodes → x.name.size ≤ 140737488351232) (hw1 : ∀ b, b ∈ M.inits → (Lit.int .i64 b.st).wf = true) (hw2 : ∀ b, b ∈ M.nexts → (Lit.int .i64 b.st).wf = true) :
    Makes Tryz.prog 8 #[mv, .int .i64 code] w (.bool true) := by
  have HM := Lib.hid hM
  have HNM := Lib.hid hnm
  have HW1 := Lib.hid hw1
  have HW2 := Lib.hid hw2
  have HSZ := Lib.hid (show ∀ x ∈ M.nodes, x.name.size ≤ 281474976710656 from fun x hx => by have := hnm x hx; omega)
  obtain ⟨s0, s1, s2, s3, s4, rfl, -⟩ := hM.at_
  clear hM hnm hw1 hw2  hcw
  go_enter Tryz.func8, Tryz.ntmps8
  have HB := Lib.hid (box_below w #[s0, s1, s2, s3, s4] 26)
  have m0 := box_cell w #[s0, s1, s2, s3, s4] 26 0 _ rfl
  have m1 := box_cell w #[s0, s1, s2, s3, s4] 26 1 _ rfl
  have m2 := box_cell w #[s0, s1, s2, s3, s4] 26 2 _ rfl
  have m3 := box_cell w #[s0, s1, s2, s3, s4] 26 3 _ rfl
  have m4 := box_cell w #[s0, s1, s2, s3, s4] 26 4 _ rfl
  go_upto_region 1 with fail
  generalize w.alloc (.cells #[s0, s1, s2, s3, s4] 26) = w1 at *
  have m0 : ∀ u : Later w1, u.val.cell? ⟨w.heap.size, 0, none⟩ = some s0 := m0
  have m1 : ∀ u : Later w1, u.val.cell? ⟨w.heap.size, 1, none⟩ = some s1 := m1
  have m2 : ∀ u : Later w1, u.val.cell? ⟨w.heap.size, 2, none⟩ = some s2 := m2
  have m3 : ∀ u : Later w1, u.val.cell? ⟨w.heap.size, 3, none⟩ = some s3 := m3
  have m4 : ∀ u : Later w1, u.val.cell? ⟨w.heap.size, 4, none⟩ = some s4 := m4
  have HM1 := Lib.hid (HM.out.below HB.out)
  refine at_world (w := w1) ?_
  intro u0
  go_upto_region 3 with (go_at_call 11; refine (szModel_calls _ M _ (HM1.out.later u0) HSZ.out).mono ?_; rintro e w' ⟨r, rfl, hb, hr⟩; obtain ⟨u1, hu1⟩ := u0.step hb; subst hu1; have HL := Lib.hid hr; clear hb hr)
  by_cases hneg : r < 0
  · go_wp2
    go_ret
    exact ⟨rfl, u1.back HB.out⟩
  have HLEN := Lib.hid (show M.nodes.length ≤ 1048576 ∧ M.inits.length ≤ 1048576 ∧ M.nexts.length ≤ 1048576 ∧ M.bads.length ≤ 1048576 ∧ M.holds.length ≤ 1048576 by
    have := HL.out
    unfold LeftOf at this
    omega)
  have hr0 : r ≤ 1048576 := by
    have := HL.out
    unfold LeftOf at this
    omega
  clear HL 
  go_wp2_with fail
  refine (toModel_at _ M _ (HM1.out.later u1) HLEN.out.1 HLEN.out.2.1 HLEN.out.2.2.1 HLEN.out.2.2.2.1 HLEN.out.2.2.2.2).mono ?_
  rintro e w' ⟨t0, t1, t2, t3, t4, rfl, hb, hc⟩
  obtain ⟨d0, hd⟩ := u1.step hb
  subst hd
  have HC := Lib.hid hc
  clear hb hc
  go_wp2_with fail
  refine (InputOf_calls _ M code _ HC.out HLEN.out.1 HNM.out).mono ?_
  rintro e w' ⟨o0, os0, rfl, hb, hr⟩
  obtain ⟨e0, he⟩ := d0.step hb
  subst he
  have HLB := Lib.hid (show (ofL 35 M code).length ≤ 1048576 from ofL_len _ _ _ HLEN.out.1)
  have HTB := Lib.hid (show totN (ofL 35 M code) ≤ 1000000 from ofL_tot (Or.inr rfl) _ _)
  generalize hLL : (ofL 35 M code) = LL at *
  generalize hOK : (ofB 35 M code) = ok at *
  have HO0 := Lib.hid hr
  have HOB := Lib.hid (show ∀ b, Blk o0 os0 b → b < e0.val.heap.size from fun b hb => (hr.blk hb).2)
  clear hb hr HC 
  go_wp2_with fail
  refine (toModel_calls _ M _ (HM1.out.later e0) HLEN.out.1 HLEN.out.2.1 HLEN.out.2.2.1 HLEN.out.2.2.2.1 HLEN.out.2.2.2.2).mono ?_
  rintro e w' ⟨x0, x1, x2, x3, x4, rfl, hb, hx01, hx12, hx23, hx34, hf0, hf1, hf2, hf3, hf4⟩
  have HX := Lib.hid (show x0 < x1 ∧ x1 < x2 ∧ x2 < x3 ∧ x3 < x4 from ⟨hx01, hx12, hx23, hx34⟩)
  have HX0 := Lib.hid (show e0.val.heap.size ≤ x0 from hf0.ge)
  have HO0 := Lib.hid (HO0.out.below hb)
  have HOB := Lib.hid (show ∀ b, Blk o0 os0 b → b < x0 from fun b hb => Nat.lt_of_lt_of_le (HOB.out b hb) HX0.out)
  have HXW := Lib.hid (show w1.heap.size ≤ x0 from Nat.le_trans e0.size HX0.out)
  have HF := Lib.hid (show _ ∧ _ ∧ _ ∧ _ ∧ _ from ⟨hf0, hf1, hf2, hf3, hf4⟩)
  obtain ⟨e1, he⟩ := e0.step hb
  subst he
  clear hb hx01 hx12 hx23 hx34 hf0 hf1 hf2 hf3 hf4
  have HC2 := Lib.hid (show MdAt e1.val (Value.agg #[slOf x0 M.nodes, slOf x1 M.inits, slOf x2 M.nexts, slOf x3 M.bads, slOf x4 M.holds]) M from ⟨⟨_, _, _, _, _, rfl, HF.out.1.slAt (by have := HLEN.out; omega), HF.out.2.1.slAt (by have := HLEN.out; omega), HF.out.2.2.1.slAt (by have := HLEN.out; omega), HF.out.2.2.2.1.slAt (by have := HLEN.out; omega), HF.out.2.2.2.2.slAt (by have := HLEN.out; omega)⟩⟩)
  go_wp2_with fail
  have HB2 := Lib.hid (show LaterC w1 (e1.val.alloc (Obj.cells #[slOf x0 M.nodes, slOf x1 M.inits, slOf x2 M.nexts, slOf x3 M.bads, slOf x4 M.holds] 34)) from LaterC.alloc' ⟨e1, rfl⟩ _)
  have hba : Below e1.val.heap.size e1.val (e1.val.alloc (Obj.cells #[slOf x0 M.nodes, slOf x1 M.inits, slOf x2 M.nexts, slOf x3 M.bads, slOf x4 M.holds] 34)) := (Below.refl _ _).alloc (Nat.le_refl _) _
  have HC3 := Lib.hid (HC2.out.below hba)
  have HO1 := Lib.hid (HO0.out.below hba)
  have HF5 := Lib.hid (show _ ∧ _ ∧ _ ∧ _ ∧ _ from ⟨HF.out.1.below hba, HF.out.2.1.below hba, HF.out.2.2.1.below hba, HF.out.2.2.2.1.below hba, HF.out.2.2.2.2.below hba⟩)
  have HX4 := Lib.hid (show x4 < e1.val.heap.size from HF.out.2.2.2.2.lt)
  have HGS := Lib.hid (show e1.val.heap.size < (e1.val.alloc (Obj.cells #[slOf x0 M.nodes, slOf x1 M.inits, slOf x2 M.nexts, slOf x3 M.bads, slOf x4 M.holds] 34)).heap.size from by show _ < (Array.push _ _).size; rw [Array.size_push]; exact Nat.lt_succ_self _)
  clear HC2 HO0 HF hba
  have b0 := box_cell e1.val #[slOf x0 M.nodes, slOf x1 M.inits, slOf x2 M.nexts, slOf x3 M.bads, slOf x4 M.holds] 34 0 _ rfl
  have b1 := box_cell e1.val #[slOf x0 M.nodes, slOf x1 M.inits, slOf x2 M.nexts, slOf x3 M.bads, slOf x4 M.holds] 34 1 _ rfl
  have b2 := box_cell e1.val #[slOf x0 M.nodes, slOf x1 M.inits, slOf x2 M.nexts, slOf x3 M.bads, slOf x4 M.holds] 34 2 _ rfl
  have b3 := box_cell e1.val #[slOf x0 M.nodes, slOf x1 M.inits, slOf x2 M.nexts, slOf x3 M.bads, slOf x4 M.holds] 34 3 _ rfl
  have b4 := box_cell e1.val #[slOf x0 M.nodes, slOf x1 M.inits, slOf x2 M.nexts, slOf x3 M.bads, slOf x4 M.holds] 34 4 _ rfl
  generalize e1.val.alloc (Obj.cells #[slOf x0 M.nodes, slOf x1 M.inits, slOf x2 M.nexts, slOf x3 M.bads, slOf x4 M.holds] 34) = w2 at *
  generalize e1.val.heap.size = G at *
  have b0 : ∀ u : Later w2, u.val.cell? ⟨G, 0, none⟩ = some (slOf x0 M.nodes) := b0
  have b1 : ∀ u : Later w2, u.val.cell? ⟨G, 1, none⟩ = some (slOf x1 M.inits) := b1
  have b2 : ∀ u : Later w2, u.val.cell? ⟨G, 2, none⟩ = some (slOf x2 M.nexts) := b2
  have b3 : ∀ u : Later w2, u.val.cell? ⟨G, 3, none⟩ = some (slOf x3 M.bads) := b3
  have b4 : ∀ u : Later w2, u.val.cell? ⟨G, 4, none⟩ = some (slOf x4 M.holds) := b4
  have n0 := Later.re m0 HB2.out
  have n1 := Later.re m1 HB2.out
  have n2 := Later.re m2 HB2.out
  have n3 := Later.re m3 HB2.out
  have n4 := Later.re m4 HB2.out
  have HM3 := Lib.hid (HM1.out.below HB2.out.below)
  refine calls_at (w := w2) fun v0 => ?_
  refine (InputOf'_calls _ M code _ (HC3.out.later v0) HLEN.out.1 HNM.out HW1.out HW2.out).mono ?_
  rw [hLL, hOK]
  rintro e w' ⟨g0, gs0, rfl, hb, hr⟩
  have HG := Lib.hid hr
  have HGB := Lib.hid (show ∀ b, Blk g0 gs0 b → v0.val.heap.size ≤ b from fun b hb => (hr.blk hb).1)
  obtain ⟨a0, ha⟩ := v0.step hb
  subst ha
  clear hb hr
  have HO2 := Lib.hid (HO1.out.below a0.prop)
  clear HO1
  go_wp2_with fail
  refine (eqValueS_calls _ _ LL _ HG.out.vlAt HO2.out.vlAt).mono ?_
  rintro e w' ⟨rfl, hb⟩
  have HG := Lib.hid (HG.out.below hb)
  have HO3 := Lib.hid (HO2.out.below hb)
  clear HO2
  obtain ⟨p0, hp⟩ := a0.step hb
  subst hp
  clear hb
  go_upto_region 10 with fail
  have HQL := Lib.hid (show ∀ w', LaterC w2 w' → w'.cell? ⟨w.heap.size, 0, none⟩ = some s0 ∧ w'.cell? ⟨w.heap.size, 1, none⟩ = some s1 ∧ w'.cell? ⟨w.heap.size, 2, none⟩ = some s2 ∧ w'.cell? ⟨w.heap.size, 3, none⟩ = some s3 ∧ w'.cell? ⟨w.heap.size, 4, none⟩ = some s4 ∧ w'.cell? ⟨G, 0, none⟩ = some (slOf x0 M.nodes) ∧ w'.cell? ⟨G, 1, none⟩ = some (slOf x1 M.inits) ∧ w'.cell? ⟨G, 2, none⟩ = some (slOf x2 M.nexts) ∧ w'.cell? ⟨G, 3, none⟩ = some (slOf x3 M.bads) ∧ w'.cell? ⟨G, 4, none⟩ = some (slOf x4 M.holds) from fun W h => by
    obtain ⟨v, rfl⟩ := h
    exact ⟨n0 v, n1 v, n2 v, n3 v, n4 v, b0 v, b1 v, b2 v, b3 v, b4 v⟩)
  have HP0 := Lib.hid (Below.refl p0.val.heap.size p0.val)
  go_region_held3 (fun w' => w'.cell? ⟨w.heap.size, 0, none⟩ = some s0 ∧ w'.cell? ⟨w.heap.size, 1, none⟩ = some s1 ∧ w'.cell? ⟨w.heap.size, 2, none⟩ = some s2 ∧ w'.cell? ⟨w.heap.size, 3, none⟩ = some s3 ∧ w'.cell? ⟨w.heap.size, 4, none⟩ = some s4 ∧ w'.cell? ⟨G, 0, none⟩ = some (slOf x0 M.nodes) ∧ w'.cell? ⟨G, 1, none⟩ = some (slOf x1 M.inits) ∧ w'.cell? ⟨G, 2, none⟩ = some (slOf x2 M.nexts) ∧ w'.cell? ⟨G, 3, none⟩ = some (slOf x3 M.bads) ∧ w'.cell? ⟨G, 4, none⟩ = some (slOf x4 M.holds)) ((refine HQL.out _ ?_; repeat (first | exact ⟨_, rfl⟩ | refine LaterC.drew' ?_ | refine LaterC.alloc' ?_ _))) (first | (go_at_call 14; refine (toModel_at _ M _ (HM3.out.below (LaterC.below (by repeat (first | exact ⟨_, rfl⟩ | refine LaterC.drew' ?_ | refine LaterC.alloc' ?_ _)))) HLEN.out.1 HLEN.out.2.1 HLEN.out.2.2.1 HLEN.out.2.2.2.1 HLEN.out.2.2.2.2).mono ?_; rintro e w' ⟨y0, y1, y2, y3, y4, rfl, hb, hc⟩; have HP1 : Hid (Below p0.val.heap.size p0.val w') := Lib.hid (by first | exact hb | exact (HP0.out.drew).trans hb); obtain ⟨p1, hp⟩ := laterC_step (w1 := w2) (by repeat (first | exact ⟨_, rfl⟩ | refine LaterC.drew' ?_ | refine LaterC.alloc' ?_ _)) hb; subst hp; have HC4 := Lib.hid hc; clear hb hc) | (go_at_call 17; refine (eqModel_calls _ _ M _ (HC3.out.below (LaterC.below (by repeat (first | exact ⟨_, rfl⟩ | refine LaterC.drew' ?_ | refine LaterC.alloc' ?_ _)))) (HC4.out.below (by first | exact Below.refl _ _ | exact (Below.refl _ _).drew))).mono ?_; rintro e w' ⟨rfl, hb⟩; have HP2 : Hid (Below p0.val.heap.size p0.val w') := Lib.hid (by first | exact HP1.out.trans (hb.mono HP1.out.size) | exact HP1.out.drew.trans (hb.mono (Nat.le_trans HP1.out.size (Nat.le_refl _)))); obtain ⟨p2, hp⟩ := laterC_step (w1 := w2) (by repeat (first | exact ⟨_, rfl⟩ | refine LaterC.drew' ?_ | refine LaterC.alloc' ?_ _)) hb; subst hp; clear hb))
  have HG := Lib.hid (HG.out.below HP2.out)
  have HO4 := Lib.hid (HO3.out.below HP2.out)
  clear HO3
  go_wp2_with fail
  refine (markModel_calls M _ x0 x1 x2 x3 x4 HLEN.out HX.out (HF5.out.1.below p2.prop) (HF5.out.2.1.below p2.prop) (HF5.out.2.2.1.below p2.prop) (HF5.out.2.2.2.1.below p2.prop) (HF5.out.2.2.2.2.below p2.prop)).mono ?_
  rintro e w4 ⟨r2, rfl, hr2, hbut⟩
  have HXV := Lib.hid (show x4 < w2.heap.size ∧ w2.heap.size ≤ v0.val.heap.size by have h1 := HX4.out; have h2 := HGS.out; have h3 := v0.size; omega)
  have HVN := Lib.hid (show v0.val.heap.size ≤ v0.val.heap.size by omega)
  have HG := Lib.hid (HG.out.but hbut (fun b hb h => by have h1 := HGB.out b hb; have h2 := HXV.out; have h3 := HVN.out; have h4 := h.2; omega))
  have HO4 := Lib.hid (HO4.out.but hbut (fun b hb h => by have h1 := HOB.out b hb; have h4 := h.1; omega))
  have HL4 := Lib.hid (show LaterC w1 w4 from .of ((HB2.out.trans ⟨p2, rfl⟩).below.trans (hbut.below (fun k hk => Nat.le_trans HXW.out hk.1) (HB2.out.trans ⟨p2, rfl⟩).size)))
  have hr3 := hr2
  clear hr2 hbut
  have HR2 := Lib.hid hr3
  have hr4 : 0 ≤ r2 := by have := HR2.out; omega
  clear hr3
  have hneg3 : (r2 < 0) = False := eq_false (by omega)
  refine at_world (w := w4) ?_
  intro f0
  go_wp2_with fail
  refine (eqValueS_calls _ _ LL _ (HG.out.below f0.prop).vlAt (HO4.out.below f0.prop).vlAt).mono ?_
  rintro e w' ⟨rfl, hb⟩
  have HG := Lib.hid ((HG.out.below f0.prop).below hb)
  have HO4 := Lib.hid ((HO4.out.below f0.prop).below hb)
  have HL5 := Lib.hid (show LaterC w1 w' from laterC_step (HL4.out.trans ⟨f0, rfl⟩) hb)
  clear hb
  go_wp2_with fail
  refine (markValueS_calls _ _ _ LL 1 _ HG.out (by omega) (by have := HTB.out; omega)).mono ?_
  rintro e w5 ⟨rfl, hbut, hr⟩
  have HG5 := Lib.hid hr
  have HO5 := Lib.hid (HO4.out.but hbut (fun b hb h => by have h1 := HOB.out b hb; have h2 := HGB.out b h; have h3 := HXV.out; have h5 := HX.out; have h6 := HVN.out; omega))
  have HL6 := Lib.hid (show LaterC w1 w5 from .of (HL5.out.below.trans (hbut.below (fun k hk => by have h1 := HGB.out k hk; have h2 := HXV.out; have h3 := HX.out; have h4 := HXW.out; have h6 := HVN.out; omega) HL5.out.size)))
  clear hbut hr HG HO4
  obtain ⟨tt, htt⟩ : ∃ z : Int, z = 1 + (totN LL : Int) := ⟨_, rfl⟩
  rw [← htt]
  have htt0 : 0 ≤ tt := by omega
  have HTT := Lib.hid htt.symm
  clear htt
  have hneg4 : (tt < 0) = False := eq_false (by omega)
  have k0 := Later.re m0 HL6.out
  have k1 := Later.re m1 HL6.out
  have k2 := Later.re m2 HL6.out
  have k3 := Later.re m3 HL6.out
  have k4 := Later.re m4 HL6.out
  have HM6 := Lib.hid (HM1.out.below HL6.out.below)
  refine at_world (w := w5) ?_
  intro d9
  go_wp2_with fail
  refine (Calls.later_eq (u := d9) (heldValueS_calls _ LL 1 _ (HG5.out.below d9.prop).vlAt (by omega) (by have := HTB.out; omega)) (congrArg (Value.int .i64) HTT.out)).mono ?_
  rintro e w' ⟨rfl, d8, rfl⟩
  go_wp2_with fail
  refine (toModel_at _ M _ (HM6.out.later d8) HLEN.out.1 HLEN.out.2.1 HLEN.out.2.2.1 HLEN.out.2.2.2.1 HLEN.out.2.2.2.2).mono ?_
  rintro e w' ⟨z0, z1, z2, z3, z4, rfl, hb, hc⟩
  obtain ⟨j0, hj⟩ := d8.step hb
  subst hj
  have HC := Lib.hid hc
  clear hb hc
  go_wp2_with fail
  refine (InputOf'_calls _ M code _ HC.out HLEN.out.1 HNM.out HW1.out HW2.out).mono ?_
  rw [hLL, hOK]
  rintro e w' ⟨q0, qs0, rfl, hb, hr⟩
  have HQ0 := Lib.hid hr
  obtain ⟨i0, hi⟩ := j0.step hb
  subst hi
  clear hb hr
  go_wp2_with fail
  refine (Calls.later (u := i0) (eqValueS_calls _ _ LL _ HQ0.out.vlAt (HO5.out.below i0.prop).vlAt)).mono ?_
  rintro e w' ⟨rfl, i1, rfl⟩
  go_wp2_with fail
  refine (Calls.later_eq (u := i1) (heldValueS_calls _ LL 1 _ (HG5.out.below i1.prop).vlAt (by omega) (by have := HTB.out; omega)) (congrArg (Value.int .i64) HTT.out)).mono ?_
  rintro e w' ⟨rfl, i2, rfl⟩
  go_wp2
  go_ret
  exact ⟨rfl, i2.back (below_of HB.out HL6.out)⟩
end Go.Proofs.YteboalbpgghdhaaGreat
