import Derived.Test.YtbenebcphaiohaaGreatet8
import Derived.Test.YtbenebcphaiohaaGreatet12
import Derived.Test.YtbenebcphaiohaaGreatet7
import Derived.Test.YtbenebcphaiohaaGreatet1
import Derived.Deep.RegionHeld3
set_option linter.unusedVariables false
set_option linter.unusedSimpArgs false
set_option maxRecDepth 8000
set_option maxHeartbeats 16000000
namespace Go.Proofs.YtbenebcphaiohaaGreat
open Go.RowKit
theorem code_bits {M : Md} (h : codeN M = 0) : allN 36 M.nodes ≤ 8 ∧ allN 35 M.nodes ≤ 5 := by
 unfold codeN at h
 by_cases h1 : 8 < allN 36 M.nodes
 · simp [h1] at h
   repeat' split at h
   all_goals omega
 · by_cases h2 : 5 < allN 35 M.nodes
   · simp [h1, h2] at h
     repeat' split at h
     all_goals omega
   · omega
theorem code_bits8 {kind : Int} {M : Md} (hk : kind = 36 ∨ kind = 35) (h : codeN M = 0) : allN kind M.nodes ≤ 8 := by
 have := code_bits h
 rcases hk with rfl | rfl <;> omega
noncomputable def ofB (kind : Int) (M : Md) (code : Int) : Bool := decide (codeN M = 0) && inB code 0 (2 ^ (allN kind M.nodes).toNat - 1)
noncomputable def ofL (kind : Int) (M : Md) (code : Int) : List (List Int) := if ofB kind M code = true then unpackN M.nodes (placesN kind M.nodes M.nodes.length) code (placesN kind M.nodes M.nodes.length).length else []
def GivesRows2 (P : Program) (f : FuncId) (args : Array Value) (w : World) (L : List (List Int)) (ok : Bool) : Prop :=
 Calls P f args w fun e w' => ∃ v svs, e = .returned (.tuple #[v, .bool ok]) ∧ Below w.heap.size w w' ∧ RowVs w.heap.size w' v svs L
theorem l1In_makes (n lo hi : Int) (w : World) : Makes Tryz.prog 123 #[.int .i64 n, .int .i64 lo, .int .i64 hi] w (.bool (inB n lo hi)) := l1In_calls n lo hi w
theorem StateOf_calls (mv : Value) (M : Md) (code : Int) (w : World) (hM : MdAt w mv M) (hsz : M.nodes.length ≤ 1048576) (hnm : ∀ x, x ∈ M.nodes → x.name.size ≤ 140737488351232) :
 GivesRows2 Tryz.prog 56 #[mv, .int .i64 code] w (ofL 36 M code) (ofB 36 M code) := by
 have HM := Lib.hid hM
 have HNM := Lib.hid hnm
 have HSZ := Lib.hid hsz
 have HIN := Lib.hid (placesN_InN 36 M.nodes)
 have HPL := Lib.hid (show (placesN 36 M.nodes M.nodes.length).length ≤ 1048576 from Nat.le_trans (placesN_le _ _ _) hsz)
 obtain ⟨s0, s1, s2, s3, s4, rfl, -⟩ := hM.at_
 clear hM hnm hsz
 unfold GivesRows2
 generalize hR : ofL 36 M code = L
 generalize hB : ofB 36 M code = ok
 go_enter Tryz.func56, Tryz.ntmps56
 go_upto_region 1 with fail
 obtain ⟨w1, hw1, HB, m0, m1, m2, m3, m4⟩ := model_box 27 s0 s1 s2 s3 s4 w
 rw [hw1]
 clear hw1
 have HM1 := Lib.hid (HM.out.below HB.out)
 refine at_world (w := w1) ?_
 intro u0
 by_cases hc : codeN M = 0
 · have HC := Lib.hid hc
   have hab := allN_bd 36 M.nodes
   have ha8 := code_bits8 (kind := 36) (Or.inl rfl) hc
   have H8 := Lib.hid (show bitsTo M.nodes (placesN 36 M.nodes M.nodes.length) (placesN 36 M.nodes M.nodes.length).length ≤ 8 by rw [bits_all]; exact ha8)
   have ha0 := hab.1
   clear hab hc
   have HI := Lib.hid (show inB code 0 (2 ^ (allN 36 M.nodes).toNat - 1) = ok by rw [← hB]; unfold ofB; rw [HC.out]; rfl)
   generalize ha : allN 36 M.nodes = a at *
   have HA := Lib.hid ha
   clear ha
   have hp1 := pow_pos_i a
   have hp2 : (2 : Int) ^ a.toNat ≤ 256 := pow_le_i ha0 ha8
   by_cases hi : ok = true
   · subst hi
     have hi2 := of_inB HI.out
     have HL := Lib.hid (show unpackN M.nodes (placesN 36 M.nodes M.nodes.length) code (placesN 36 M.nodes M.nodes.length).length = L by rw [← hR]; unfold ofL; rw [if_pos hB])
     clear hR hB
     go_upto_region 3 with (first | (go_at_call 84; refine (Calls.later_eq (u := u0) (ModelCode_calls _ M _ (HM1.out.later u0) HNM.out) (congrArg (Value.int .i64) HC.out)).mono ?_; rintro e w' ⟨rfl, u1, rfl⟩) | (go_at_call 135; refine (Calls.later_eq (u := u1) (l2All_calls _ M 36 _ (HM1.out.later u1)) (congrArg (Value.int .i64) HA.out)).mono ?_; rintro e w' ⟨rfl, u2, rfl⟩) | (go_at_call 123; refine (Calls.later_eq (u := u2) (l1In_calls code 0 (2 ^ a.toNat - 1) _) (congrArg Value.bool HI.out)).mono ?_; rintro e w' ⟨rfl, u3, rfl⟩))
     go_region_held3 (fun w' => w'.cell? ⟨w.heap.size, 0, none⟩ = some s0 ∧ w'.cell? ⟨w.heap.size, 1, none⟩ = some s1 ∧ w'.cell? ⟨w.heap.size, 2, none⟩ = some s2 ∧ w'.cell? ⟨w.heap.size, 3, none⟩ = some s3 ∧ w'.cell? ⟨w.heap.size, 4, none⟩ = some s4) (exact ⟨lf m0, lf m1, lf m2, lf m3, lf m4⟩) (first | (go_at_call 116; refine (l2Places_calls _ M 36 _ (HM1.out.below lcb) HSZ.out).mono ?_; rintro e w' ⟨pv, rfl, hb, hown⟩; have HOWN := Lib.hid (places_slN hown HSZ.out); obtain ⟨v2, hv2⟩ := laterC_step (w1 := w1) lcx hb; subst hv2; clear hb hown) | (go_at_call 136; refine (l5Unpack_calls _ pv M _ code _ (HM1.out.below lcb) (HOWN.out.below bdx) HIN.out HPL.out H8.out hi2.1 (by omega)).mono ?_; rw [HL.out]; rintro e w' ⟨v, svs, rfl, hb, hr⟩; have HRV := Lib.hid (show RowVs w1.heap.size w' v svs L from (hr.mono (LaterC.size lcx)).rowVs (by rw [← HL.out, unpackN_length]; have := HPL.out; omega)); obtain ⟨v3, hv3⟩ := laterC_step (w1 := w1) lcx hb; subst hv3; clear hb hr))
     go_wp2
     go_ret2
     exact ⟨v, svs, rfl, v3.back HB.out, HRV.out.mono HB.out.size⟩
   · have hi := eq_false_of_ne_true hi
     subst hi
     have HL := Lib.hid (show L = [] by rw [← hR]; unfold ofL; rw [if_neg (by rw [hB]; decide)])
     clear hR hB
     go_wp2_with (first | (go_at_call 84; refine (Calls.later_eq (u := u0) (ModelCode_calls _ M _ (HM1.out.later u0) HNM.out) (congrArg (Value.int .i64) HC.out)).mono ?_; rintro e w' ⟨rfl, u1, rfl⟩) | (go_at_call 135; refine (Calls.later_eq (u := u1) (l2All_calls _ M 36 _ (HM1.out.later u1)) (congrArg (Value.int .i64) HA.out)).mono ?_; rintro e w' ⟨rfl, u2, rfl⟩) | (go_at_call 123; refine (Calls.later_eq (u := u2) (l1In_calls code 0 (2 ^ a.toNat - 1) _) (congrArg Value.bool HI.out)).mono ?_; rintro e w' ⟨rfl, u3, rfl⟩))
     go_ret2
     exact ⟨_, [], rfl, u3.back HB.out, by rw [HL.out]; exact RowVs.nil _ _⟩
 · have hLO : L = [] ∧ ok = false := (by
    have h : ofB 36 M code = false := by unfold ofB; rw [show decide (codeN M = 0) = false from decide_eq_false hc]; rfl
    exact ⟨by rw [← hR]; unfold ofL; rw [if_neg (by rw [h]; decide)], by rw [← hB, h]⟩)
   obtain ⟨hL1, hok⟩ := hLO
   subst hok
   have HL := Lib.hid hL1
   clear hL1
   obtain ⟨cm, hcm⟩ : ∃ cm, cm = codeN M := ⟨_, rfl⟩
   have HC := Lib.hid hcm.symm
   have hne : (cm != 0) = true := by rw [hcm]; simpa using hc
   clear hcm hc hR hB
   go_wp2_with (go_at_call 84; refine (Calls.later_eq (u := u0) (ModelCode_calls _ M _ (HM1.out.later u0) HNM.out) (congrArg (Value.int .i64) HC.out)).mono ?_; rintro e w' ⟨rfl, u1, rfl⟩)
   go_ret2
   exact ⟨_, [], rfl, u1.back HB.out, by rw [HL.out]; exact RowVs.nil _ _⟩
theorem InputOf_calls (mv : Value) (M : Md) (code : Int) (w : World) (hM : MdAt w mv M) (hsz : M.nodes.length ≤ 1048576) (hnm : ∀ x, x ∈ M.nodes → x.name.size ≤ 140737488351232) :
 GivesRows2 Tryz.prog 69 #[mv, .int .i64 code] w (ofL 35 M code) (ofB 35 M code) := by
 have HM := Lib.hid hM
 have HNM := Lib.hid hnm
 have HSZ := Lib.hid hsz
 have HIN := Lib.hid (placesN_InN 35 M.nodes)
 have HPL := Lib.hid (show (placesN 35 M.nodes M.nodes.length).length ≤ 1048576 from Nat.le_trans (placesN_le _ _ _) hsz)
 obtain ⟨s0, s1, s2, s3, s4, rfl, -⟩ := hM.at_
 clear hM hnm hsz
 unfold GivesRows2
 generalize hR : ofL 35 M code = L
 generalize hB : ofB 35 M code = ok
 go_enter Tryz.func69, Tryz.ntmps69
 go_upto_region 1 with fail
 obtain ⟨w1, hw1, HB, m0, m1, m2, m3, m4⟩ := model_box 27 s0 s1 s2 s3 s4 w
 rw [hw1]
 clear hw1
 have HM1 := Lib.hid (HM.out.below HB.out)
 refine at_world (w := w1) ?_
 intro u0
 by_cases hc : codeN M = 0
 · have HC := Lib.hid hc
   have hab := allN_bd 35 M.nodes
   have ha8 := code_bits8 (kind := 35) (Or.inr rfl) hc
   have H8 := Lib.hid (show bitsTo M.nodes (placesN 35 M.nodes M.nodes.length) (placesN 35 M.nodes M.nodes.length).length ≤ 8 by rw [bits_all]; exact ha8)
   have ha0 := hab.1
   clear hab hc
   have HI := Lib.hid (show inB code 0 (2 ^ (allN 35 M.nodes).toNat - 1) = ok by rw [← hB]; unfold ofB; rw [HC.out]; rfl)
   generalize ha : allN 35 M.nodes = a at *
   have HA := Lib.hid ha
   clear ha
   have hp1 := pow_pos_i a
   have hp2 : (2 : Int) ^ a.toNat ≤ 256 := pow_le_i ha0 ha8
   by_cases hi : ok = true
   · subst hi
     have hi2 := of_inB HI.out
     have HL := Lib.hid (show unpackN M.nodes (placesN 35 M.nodes M.nodes.length) code (placesN 35 M.nodes M.nodes.length).length = L by rw [← hR]; unfold ofL; rw [if_pos hB])
     clear hR hB
     go_upto_region 3 with (first | (go_at_call 84; refine (Calls.later_eq (u := u0) (ModelCode_calls _ M _ (HM1.out.later u0) HNM.out) (congrArg (Value.int .i64) HC.out)).mono ?_; rintro e w' ⟨rfl, u1, rfl⟩) | (go_at_call 135; refine (Calls.later_eq (u := u1) (l2All_calls _ M 35 _ (HM1.out.later u1)) (congrArg (Value.int .i64) HA.out)).mono ?_; rintro e w' ⟨rfl, u2, rfl⟩) | (go_at_call 123; refine (Calls.later_eq (u := u2) (l1In_calls code 0 (2 ^ a.toNat - 1) _) (congrArg Value.bool HI.out)).mono ?_; rintro e w' ⟨rfl, u3, rfl⟩))
     go_region_held3 (fun w' => w'.cell? ⟨w.heap.size, 0, none⟩ = some s0 ∧ w'.cell? ⟨w.heap.size, 1, none⟩ = some s1 ∧ w'.cell? ⟨w.heap.size, 2, none⟩ = some s2 ∧ w'.cell? ⟨w.heap.size, 3, none⟩ = some s3 ∧ w'.cell? ⟨w.heap.size, 4, none⟩ = some s4) (exact ⟨lf m0, lf m1, lf m2, lf m3, lf m4⟩) (first | (go_at_call 116; refine (l2Places_calls _ M 35 _ (HM1.out.below lcb) HSZ.out).mono ?_; rintro e w' ⟨pv, rfl, hb, hown⟩; have HOWN := Lib.hid (places_slN hown HSZ.out); obtain ⟨v2, hv2⟩ := laterC_step (w1 := w1) lcx hb; subst hv2; clear hb hown) | (go_at_call 136; refine (l5Unpack_calls _ pv M _ code _ (HM1.out.below lcb) (HOWN.out.below bdx) HIN.out HPL.out H8.out hi2.1 (by omega)).mono ?_; rw [HL.out]; rintro e w' ⟨v, svs, rfl, hb, hr⟩; have HRV := Lib.hid (show RowVs w1.heap.size w' v svs L from (hr.mono (LaterC.size lcx)).rowVs (by rw [← HL.out, unpackN_length]; have := HPL.out; omega)); obtain ⟨v3, hv3⟩ := laterC_step (w1 := w1) lcx hb; subst hv3; clear hb hr))
     go_wp2
     go_ret2
     exact ⟨v, svs, rfl, v3.back HB.out, HRV.out.mono HB.out.size⟩
   · have hi := eq_false_of_ne_true hi
     subst hi
     have HL := Lib.hid (show L = [] by rw [← hR]; unfold ofL; rw [if_neg (by rw [hB]; decide)])
     clear hR hB
     go_wp2_with (first | (go_at_call 84; refine (Calls.later_eq (u := u0) (ModelCode_calls _ M _ (HM1.out.later u0) HNM.out) (congrArg (Value.int .i64) HC.out)).mono ?_; rintro e w' ⟨rfl, u1, rfl⟩) | (go_at_call 135; refine (Calls.later_eq (u := u1) (l2All_calls _ M 35 _ (HM1.out.later u1)) (congrArg (Value.int .i64) HA.out)).mono ?_; rintro e w' ⟨rfl, u2, rfl⟩) | (go_at_call 123; refine (Calls.later_eq (u := u2) (l1In_calls code 0 (2 ^ a.toNat - 1) _) (congrArg Value.bool HI.out)).mono ?_; rintro e w' ⟨rfl, u3, rfl⟩))
     go_ret2
     exact ⟨_, [], rfl, u3.back HB.out, by rw [HL.out]; exact RowVs.nil _ _⟩
 · have hLO : L = [] ∧ ok = false := (by
    have h : ofB 35 M code = false := by unfold ofB; rw [show decide (codeN M = 0) = false from decide_eq_false hc]; rfl
    exact ⟨by rw [← hR]; unfold ofL; rw [if_neg (by rw [h]; decide)], by rw [← hB, h]⟩)
   obtain ⟨hL1, hok⟩ := hLO
   subst hok
   have HL := Lib.hid hL1
   clear hL1
   obtain ⟨cm, hcm⟩ : ∃ cm, cm = codeN M := ⟨_, rfl⟩
   have HC := Lib.hid hcm.symm
   have hne : (cm != 0) = true := by rw [hcm]; simpa using hc
   clear hcm hc hR hB
   go_wp2_with (go_at_call 84; refine (Calls.later_eq (u := u0) (ModelCode_calls _ M _ (HM1.out.later u0) HNM.out) (congrArg (Value.int .i64) HC.out)).mono ?_; rintro e w' ⟨rfl, u1, rfl⟩)
   go_ret2
   exact ⟨_, [], rfl, u1.back HB.out, by rw [HL.out]; exact RowVs.nil _ _⟩
def wideN (c : Nat) (xs : List Int) : List Int := xs ++ List.replicate (c - xs.length) (xs.getD 0 0)
theorem wideN_self {c : Nat} {xs : List Int} (h : c ≤ xs.length) : wideN c xs = xs := by
 unfold wideN
 rw [Nat.sub_eq_zero_of_le h]
 simp
def bdN (st : Int) : List Bd → Int
 | [] => -1
 | b :: l => if b.st = st then b.nd else bdN st l
theorem bd_at {st : Int} : ∀ {xs : List Bd} {k : Nat}, k < xs.length → (∀ j, j < k → (xs.getD j Bd.zero).st ≠ st) → (xs.getD k Bd.zero).st = st → bdN st xs = (xs.getD k Bd.zero).nd
 | x :: l, 0, _, _, h => by
   simp at h ⊢
   rw [bdN, if_pos h]
 | x :: l, k + 1, hk, hj, h => by
   have h0 := hj 0 (by omega)
   simp at h0
   rw [bdN, if_neg h0]
   simpa using bd_at (xs := l) (k := k) (by simpa using hk) (fun j hjk => by simpa using hj (j + 1) (by omega)) (by simpa using h)
theorem bd_none {st : Int} : ∀ {xs : List Bd}, (∀ j, j < xs.length → (xs.getD j Bd.zero).st ≠ st) → bdN st xs = -1
 | [], _ => rfl
 | x :: l, h => by
   have h0 := h 0 (by simp)
   simp at h0
   rw [bdN, if_neg h0]
   exact bd_none fun j hj => by simpa using h (j + 1) (by simpa using hj)
theorem bd_cases (st : Int) : ∀ xs : List Bd, bdN st xs = -1 ∨ ∃ b, b ∈ xs ∧ b.st = st ∧ bdN st xs = b.nd
 | [] => .inl rfl
 | x :: l => by
   by_cases h : x.st = st
   · exact .inr ⟨x, by simp, h, by rw [bdN, if_pos h]⟩
   · rw [bdN, if_neg h]
     rcases bd_cases st l with h1 | ⟨b, h1, h2, h3⟩
     · exact .inl h1
     · exact .inr ⟨b, by simp [h1], h2, h3⟩
theorem again_none {xs : List Bd} (h : againB xs = false) {i j : Nat} (hi : i < xs.length) (hj : j < i) : (xs.getD i Bd.zero).st ≠ (xs.getD j Bd.zero).st := by
 intro e
 rw [again_yes hi hj e] at h
 cases h
theorem bd_of {xs : List Bd} (h : againB xs = false) {b : Bd} (hb : b ∈ xs) : bdN b.st xs = b.nd := by
 obtain ⟨k, hk⟩ := List.getElem?_of_mem hb
 have hlt := (List.getElem?_eq_some_iff.1 hk).1
 have hg : xs.getD k Bd.zero = b := by
  have := getD_at hlt Bd.zero
  rw [hk] at this
  exact (Option.some.inj this).symm
 have := bd_at (st := b.st) hlt (fun j hj e => again_none h hlt hj (by rw [hg, e])) (by rw [hg])
 rw [this, hg]
abbrev cellN (ns : List Nd) (p : Int) : Nat := (cellsN (pN ns p).idx (pN ns p).wid).toNat
abbrev plK (M : Md) : List Int := placesN 36 M.nodes M.nodes.length
def bindOk (ns : List Nd) (V : List (List Int)) (ps : List Int) (T : List (List Int)) (b : Bd) : Bool := decide (wideN (cellN ns b.st) (vN V b.nd) = T.getD (firstN (fun y => y == b.st) ps).toNat [])
def boundK (ns : List Nd) (bs : List Bd) (V : List (List Int)) (ps : List Int) (T : List (List Int)) : Bool := bs.all (bindOk ns V ps T)
def stateOk (bs : List Bd) (V : List (List Int)) (ps : List Int) (T : List (List Int)) (i : Nat) : Bool := decide (bdN (ps.getD i 0) bs < 0) || decide (T.getD i [] = wideN (T.getD i []).length (vN V (bdN (ps.getD i 0) bs)))
def stateOk' (bs : List Bd) (V : List (List Int)) (ps : List Int) (T : List (List Int)) (i : Nat) : Bool := decide (bdN (ps.getD i 0) bs < 0) || decide (T.getD i [] = vN V (bdN (ps.getD i 0) bs))
theorem placesN_lt {kind : Int} {l : List Nd} : ∀ k, (placesN kind l k).Pairwise (· < ·)
 | 0 => List.Pairwise.nil
 | k + 1 => by
   by_cases h : ((l.getD k Nd.zero).kind == kind) = true
   · rw [placesN_yes h, List.pairwise_append]
     refine ⟨placesN_lt k, by simp, fun a ha b hb => ?_⟩
     obtain ⟨j, h1, h2, -⟩ := placesN_in ha
     simp at hb
     omega
   · rw [placesN_no (eq_false_of_ne_true h)]
     exact placesN_lt k
theorem first_pair {xs : List Int} (h : xs.Pairwise (· < ·)) {i : Nat} (hi : i < xs.length) : firstN (fun y => y == xs.getD i 0) xs = i := by
 refine first_at hi (fun j hj => ?_) (by simp)
 have := List.pairwise_iff_getElem.1 h j i (by omega) hi hj
 rw [List.getD_eq_getElem?_getD, List.getD_eq_getElem?_getD, List.getElem?_eq_getElem hi, List.getElem?_eq_getElem (show j < xs.length by omega)]
 simp
 omega
theorem bindAll_eq {ns : List Nd} {bs : List Bd} {V : List (List Int)} {ps : List Int} {T : List (List Int)} (hp : ps.Pairwise (· < ·)) (ha : againB bs = false) (hst : ∀ b, b ∈ bs → b.st ∈ ps) (hnd : ∀ b, b ∈ bs → 0 ≤ b.nd) (hl : ∀ i, i < ps.length → (T.getD i []).length = cellN ns (ps.getD i 0)) :
 (List.range ps.length).all (stateOk bs V ps T) = boundK ns bs V ps T := by
 rw [Bool.eq_iff_iff, List.all_eq_true]
 unfold boundK
 rw [List.all_eq_true]
 constructor
 · intro h b hb
   obtain ⟨i, hi⟩ := List.getElem?_of_mem (hst b hb)
   have hlt := (List.getElem?_eq_some_iff.1 hi).1
   have hg : ps.getD i 0 = b.st := by
    have := getD_at hlt 0
    rw [hi] at this
    exact (Option.some.inj this).symm
   have h1 := h i (List.mem_range.2 hlt)
   unfold stateOk at h1
   rw [hg, bd_of ha hb, decide_eq_false (by have := hnd b hb; omega), Bool.false_or] at h1
   have h2 := of_decide_eq_true h1
   rw [hl i hlt, hg] at h2
   unfold bindOk
   have hf := first_pair hp hlt
   rw [hg] at hf
   rw [hf]
   exact decide_eq_true h2.symm
 · intro h i hi
   have hlt := List.mem_range.1 hi
   unfold stateOk
   rcases bd_cases (ps.getD i 0) bs with h1 | ⟨b, h1, h2, h3⟩
   · rw [h1]; rfl
   · have h4 := h b h1
     unfold bindOk at h4
     have h5 := of_decide_eq_true h4
     rw [h2, first_pair hp hlt] at h5
     rw [h3, hl i hlt]
     rw [decide_eq_true (p := T.getD i [] = _) h5.symm, Bool.or_true]
theorem fits_cell {ns : List Nd} {ps : List Int} {T : List (List Int)} (h : fitsB ns ps T = true) : T.length = ps.length ∧ ∀ i, i < ps.length → (T.getD i []).length = cellN ns (ps.getD i 0) := by
 unfold fitsB at h
 rw [Bool.and_eq_true] at h
 have h1 : T.length = ps.length := by simpa using h.1
 refine ⟨h1, fun i hi => ?_⟩
 have h2 := List.all_eq_true.1 h.2 i (List.mem_range.2 (by omega))
 unfold valB valN at h2
 rw [Bool.and_eq_true] at h2
 have h3 : (((T.getD i []).length : Nat) : Int) = cellsN (pN ns (ps.getD i 0)).idx (pN ns (ps.getD i 0)).wid := by simpa using h2.1
 unfold cellN
 omega
theorem bound_parts {ns : List Nd} {b : Bd} (h : boundB ns b = true) : (0 ≤ b.st ∧ b.st < ns.length) ∧ (0 ≤ b.nd ∧ b.nd < ns.length) ∧ ((pN ns b.st).kind == 36) = true ∧ (pN ns b.st).idx = (pN ns b.nd).idx ∧ (pN ns b.st).wid = (pN ns b.nd).wid := by
 unfold boundB at h
 simp only [Bool.and_eq_true, beq_iff_eq] at h
 obtain ⟨h1, h2, h3, h4, h5⟩ := h
 have h1 := of_inB h1
 have h2 := of_inB h2
 exact ⟨by omega, by omega, by simpa using h3, h4, h5⟩
theorem placesN_mem {kind : Int} {l : List Nd} : ∀ {k j : Nat}, j < k → ((l.getD j Nd.zero).kind == kind) = true → (j : Int) ∈ placesN kind l k
 | k + 1, j, hj, h => by
   by_cases e : j = k
   · subst e
     rw [placesN_yes h]
     simp
   · have := placesN_mem (k := k) (show j < k by omega) h
     rw [placesN]
     exact List.mem_append_left _ this
theorem init_parts {ns : List Nd} {b : Bd} (h : initB ns b = true) : (0 ≤ b.st ∧ b.st < ns.length) ∧ (0 ≤ b.nd ∧ b.nd < ns.length) ∧ ((pN ns b.st).kind == 36) = true := by
 unfold initB at h
 rw [Bool.and_eq_true] at h
 have hb := bound_nd h.1
 have h1 := h.1
 unfold wordBd at h1
 split at h1
 · have := bound_parts h1
   exact ⟨this.1, by omega, this.2.2.1⟩
 · have := bound_parts h1
   exact ⟨this.1, this.2.1, this.2.2.1⟩
theorem st_mem {ns : List Nd} {b : Bd} (h : (0 ≤ b.st ∧ b.st < ns.length) ∧ ((pN ns b.st).kind == 36) = true) : b.st ∈ placesN 36 ns ns.length := by
 obtain ⟨⟨h1, h2⟩, h3⟩ := h
 obtain ⟨p, hp⟩ := Int.eq_ofNat_of_zero_le h1
 rw [hp] at h2 h3 ⊢
 unfold pN at h3
 rw [Int.toNat_natCast] at h3
 exact placesN_mem (by omega) h3
theorem twice_parts {M : Md} (h : twiceB M = false) : againB M.inits = false ∧ againB M.nexts = false := by
 unfold twiceB at h
 simp only [Bool.or_eq_false_iff] at h
 exact h.2
theorem binds_parts {M : Md} (h : bindsB M = true) : (∀ b, b ∈ M.inits → initB M.nodes b = true) ∧ ∀ b, b ∈ M.nexts → boundB M.nodes b = true := by
 unfold bindsB at h
 rw [Bool.and_eq_true, List.all_eq_true, List.all_eq_true] at h
 exact h
theorem zerosN_getD (ns : List Nd) (ps : List Int) : ∀ {i k : Nat}, k < i → (zerosN ns ps i).getD k [] = List.replicate (cellsN (ndAt ns ps k).idx (ndAt ns ps k).wid).toNat 0
 | i + 1, k, hk => by
   rw [zerosN]
   by_cases e : k = i
   · subst e
     have h := getD_last (A := zerosN ns ps k) (a := List.replicate (cellsN (ndAt ns ps k).idx (ndAt ns ps k).wid).toNat 0) []
     rw [zerosN_length] at h
     exact h
   · rw [getD_left _ (by rw [zerosN_length]; omega)]
     exact zerosN_getD ns ps (by omega)
theorem zeros_fits (ns : List Nd) (ps : List Int) : fitsB ns ps (zerosN ns ps ps.length) = true := by
 refine fits_yes (zerosN_length _ _ _) fun k hk => ?_
 rw [zerosN_length] at hk
 rw [zerosN_getD ns ps hk]
 unfold valB
 have hnd : ns.getD (ps.getD k 0).toNat Nd.zero = ndAt ns ps k := rfl
 rw [hnd]
 generalize ndAt ns ps k = x
 have hcb := cells_bits x.idx x.wid
 refine val_yes (by rw [List.length_replicate]; omega) fun j hj => ?_
 rw [List.length_replicate] at hj
 have hs := hcb.2.1 (by omega)
 rw [List.getD_eq_getElem?_getD, List.getElem?_replicate, if_pos hj]
 unfold sokB at hs
 rw [Bool.and_eq_true] at hs
 unfold wokB
 rw [hs.2, Bool.true_and]
 exact inB_yes ⟨Int.le_refl _, by have := pow_pos_i x.wid; simp; omega⟩
noncomputable def zeroK (kind : Int) (M : Md) : List (List Int) := zerosN M.nodes (placesN kind M.nodes M.nodes.length) (placesN kind M.nodes M.nodes.length).length
noncomputable def fixedL (M : Md) : List (List Int) := evalL M (zeroK 36 M) (zeroK 35 M)
noncomputable def initK (M : Md) (S : List (List Int)) : Bool := fitsK 36 M S && boundK M.nodes M.inits (fixedL M) (plK M) S
noncomputable def stepK (M : Md) (S I T : List (List Int)) : Bool := bothK M S I && (fitsK 36 M T && boundK M.nodes M.nexts (evalL M S I) (plK M) T)
theorem initK_eq {M : Md} {S : List (List Int)} (h : fitsK 36 M S = true) (V : List (List Int)) : (List.range (plK M).length).all (stateOk M.inits V (plK M) S) = boundK M.nodes M.inits V (plK M) S := by
 obtain ⟨h1, h2⟩ := fitsK_code h
 obtain ⟨-, -, g2, g3, -, -⟩ := codeN_parts h1
 have hb := (binds_parts g3).1
 exact bindAll_eq (placesN_lt _) (twice_parts g2).1 (fun b hm => by have := init_parts (hb b hm); exact st_mem ⟨this.1, this.2.2⟩) (fun b hm => (init_parts (hb b hm)).2.1.1) (fits_cell h2).2
theorem stepK_eq {M : Md} {T V : List (List Int)} (h : fitsK 36 M T = true) (hv : ∀ j, j < M.nodes.length → valB (M.nodes.getD j Nd.zero) (V.getD j []) = true) : (List.range (plK M).length).all (stateOk' M.nexts V (plK M) T) = boundK M.nodes M.nexts V (plK M) T := by
 obtain ⟨h1, h2⟩ := fitsK_code h
 obtain ⟨-, -, g2, g3, -, -⟩ := codeN_parts h1
 have hb := (binds_parts g3).2
 rw [← bindAll_eq (placesN_lt _) (twice_parts g2).2 (fun b hm => by have := bound_parts (hb b hm); exact st_mem ⟨this.1, this.2.2.1⟩) (fun b hm => (bound_parts (hb b hm)).2.1.1) (fits_cell h2).2]
 rw [Bool.eq_iff_iff, List.all_eq_true, List.all_eq_true]
 refine forall_congr' fun i => ?_
 refine imp_congr_right fun hi => ?_
 have hlt := List.mem_range.1 hi
 suffices he : stateOk' M.nexts V (plK M) T i = stateOk M.nexts V (plK M) T i by rw [he]
 unfold stateOk stateOk'
 rcases bd_cases ((plK M).getD i 0) M.nexts with g | ⟨b, hm, hs, hn⟩
 · rw [g]; rfl
 · have hp := bound_parts (hb b hm)
   have hl := (fits_cell h2).2 i hlt
   rw [hn]
   have hval := hv b.nd.toNat (by omega)
   unfold valB valN at hval
   rw [Bool.and_eq_true] at hval
   have h3 : ((vN V b.nd).length : Int) = cellsN (pN M.nodes b.nd).idx (pN M.nodes b.nd).wid := by simpa using hval.1
   rw [wideN_self]
   rw [hl, ← hs]
   unfold cellN
   rw [hp.2.2.2.1, hp.2.2.2.2]
   omega
def TrAt (w : World) (v : Value) (Ss Is : List Int) : Prop := ∃ t0 t1, v = .agg #[t0, t1] ∧ SlN enI w t0 Ss ∧ SlN enI w t1 Is
theorem TrAt.below {w w' : World} {v : Value} {Ss Is : List Int} (h : TrAt w v Ss Is) (hb : Below w.heap.size w w') : TrAt w' v Ss Is := by
 obtain ⟨t0, t1, hv, h1, h2⟩ := h
 exact ⟨t0, t1, hv, h1.below hb, h2.below hb⟩
theorem TrAt.later {w : World} {v : Value} {Ss Is : List Int} (h : TrAt w v Ss Is) (u : Later w) : TrAt u.val v Ss Is := h.below u.prop
abbrev stK (kind : Int) (M : Md) (c : Int) : List (List Int) := unpackN M.nodes (placesN kind M.nodes M.nodes.length) c (placesN kind M.nodes M.nodes.length).length
abbrev mS (M : Md) (Ss : List Int) (i : Nat) : List (List Int) := stK 36 M (Ss.getD i 0)
abbrev mI (M : Md) (Is : List Int) (i : Nat) : List (List Int) := stK 35 M (Is.getD i 0)
noncomputable def shapeK (M : Md) (Ss Is : List Int) : Bool := decide (codeN M = 0) && (inB (Ss.length : Int) 1 301 && (decide (Is.length = Ss.length) && (Ss.all (ofB 36 M) && Is.all (ofB 35 M))))
noncomputable def stepsK (M : Md) (Ss Is : List Int) : Bool := (List.range (Ss.length - 1)).all fun i => stepK M (mS M Ss i) (mI M Is i) (mS M Ss (i + 1))
noncomputable def momsK (M : Md) (Ss Is : List Int) : Bool := (List.range Ss.length).all fun i => holdsK M (mS M Ss i) (mI M Is i)
noncomputable def lastK (M : Md) (Ss Is : List Int) : Int := badK M (mS M Ss (Ss.length - 1)) (mI M Is (Ss.length - 1))
noncomputable def traceN (M : Md) (Ss Is : List Int) : Int :=
 if shapeK M Ss Is = false then 1
 else if initK M (mS M Ss 0) = false then 2
 else if stepsK M Ss Is = false then 3
 else if momsK M Ss Is = false then 4
 else if lastK M Ss Is < 0 then 5
 else 0
noncomputable def traceB (M : Md) (Ss Is : List Int) : Int := if traceN M Ss Is = 0 then lastK M Ss Is else -1
structure Shaped (M : Md) (Ss Is : List Int) : Prop where
 code : codeN M = 0
 lo : 1 ≤ Ss.length
 hi : Ss.length ≤ 301
 eq : Is.length = Ss.length
 s : ∀ i, i < Ss.length → 0 ≤ Ss.getD i 0 ∧ Ss.getD i 0 ≤ 65535
 i : ∀ i, i < Ss.length → 0 ≤ Is.getD i 0 ∧ Is.getD i 0 ≤ 65535
theorem ofB_range {kind : Int} (hk : kind = 36 ∨ kind = 35) {M : Md} {c : Int} (h : ofB kind M c = true) : 0 ≤ c ∧ c ≤ 65535 := by
 unfold ofB at h
 rw [Bool.and_eq_true] at h
 have hc : codeN M = 0 := by simpa using h.1
 have h1 := of_inB h.2
 have h2 := allN_bd kind M.nodes
 have h3 := pow_le_i h2.1 (code_bits8 hk hc)
 omega
theorem shaped_of {M : Md} {Ss Is : List Int} (h : shapeK M Ss Is = true) : Shaped M Ss Is := by
 unfold shapeK at h
 simp only [Bool.and_eq_true, decide_eq_true_eq] at h
 obtain ⟨h1, h2, h3, h4, h5⟩ := h
 have h2 := of_inB h2
 refine ⟨h1, by omega, by omega, h3, fun i hi => ?_, fun i hi => ?_⟩
 · exact ofB_range (.inl rfl) (List.all_eq_true.1 h4 _ (List.mem_of_getElem? (getD_at hi 0)))
 · exact ofB_range (.inr rfl) (List.all_eq_true.1 h5 _ (List.mem_of_getElem? (getD_at (show i < Is.length by omega) 0)))
theorem bits8_of {kind : Int} (hk : kind = 36 ∨ kind = 35) {M : Md} (h : codeN M = 0) : bitsTo M.nodes (placesN kind M.nodes M.nodes.length) (placesN kind M.nodes M.nodes.length).length ≤ 8 := by
 rw [bits_all]
 exact code_bits8 hk h
theorem unpack_fits (ns : List Nd) (ps : List Int) (code : Int) : fitsB ns ps (unpackN ns ps code ps.length) = true := by
 refine fits_yes (unpackN_length _ _ _ _) fun k hk => ?_
 rw [unpackN_length] at hk
 have hg : (unpackN ns ps code ps.length).getD k [] = rowU ns ps code k := by
  unfold unpackN
  rw [List.getD_eq_getElem?_getD, List.getElem?_map, List.getElem?_range hk]
  rfl
 rw [hg]
 unfold valB
 have hnd : ns.getD (ps.getD k 0).toNat Nd.zero = ndAt ns ps k := rfl
 rw [hnd]
 have hcb := cells_bits (ndAt ns ps k).idx (ndAt ns ps k).wid
 refine val_yes (by rw [rowU_length]; omega) fun j hj => ?_
 rw [rowU_length] at hj
 have hs := hcb.2.1 (by omega)
 rw [rowU_get (by omega)]
 unfold sokB at hs
 rw [Bool.and_eq_true] at hs
 unfold wokB
 rw [hs.2, Bool.true_and]
 have hp := pow_pos_i (ndAt ns ps k).wid
 exact inB_yes ⟨Int.emod_nonneg _ (by omega), by have := Int.emod_lt_of_pos (code / 2 ^ (bitsTo ns ps k + j * (ndAt ns ps k).wid).toNat) (show (0 : Int) < 2 ^ (ndAt ns ps k).wid.toNat by omega); omega⟩
theorem stK_fits {kind : Int} {M : Md} (h : codeN M = 0) (c : Int) : fitsK kind M (stK kind M c) = true := by
 unfold fitsK
 rw [if_pos h]
 exact unpack_fits _ _ _
theorem both_of {M : Md} (h : codeN M = 0) (a b : Int) : bothK M (stK 36 M a) (stK 35 M b) = true := by
 unfold bothK
 rw [stK_fits h, stK_fits h]
 rfl
theorem trace_shape {M : Md} {Ss Is : List Int} (h : shapeK M Ss Is = false) : traceN M Ss Is = 1 := by unfold traceN; rw [if_pos h]
theorem trace_init {M : Md} {Ss Is : List Int} (h : shapeK M Ss Is = true) (h1 : initK M (mS M Ss 0) = false) : traceN M Ss Is = 2 := by
 unfold traceN; rw [if_neg (by rw [h]; decide), if_pos h1]
theorem trace_step {M : Md} {Ss Is : List Int} (h : shapeK M Ss Is = true) (h1 : initK M (mS M Ss 0) = true) (h2 : stepsK M Ss Is = false) : traceN M Ss Is = 3 := by
 unfold traceN; rw [if_neg (by rw [h]; decide), if_neg (by rw [h1]; decide), if_pos h2]
theorem trace_hold {M : Md} {Ss Is : List Int} (h : shapeK M Ss Is = true) (h1 : initK M (mS M Ss 0) = true) (h2 : stepsK M Ss Is = true) (h3 : momsK M Ss Is = false) : traceN M Ss Is = 4 := by
 unfold traceN; rw [if_neg (by rw [h]; decide), if_neg (by rw [h1]; decide), if_neg (by rw [h2]; decide), if_pos h3]
theorem trace_last {M : Md} {Ss Is : List Int} (h : shapeK M Ss Is = true) (h1 : initK M (mS M Ss 0) = true) (h2 : stepsK M Ss Is = true) (h3 : momsK M Ss Is = true) : traceN M Ss Is = if lastK M Ss Is < 0 then 5 else 0 := by
 unfold traceN; rw [if_neg (by rw [h]; decide), if_neg (by rw [h1]; decide), if_neg (by rw [h2]; decide), if_neg (by rw [h3]; decide)]
theorem trace_zero {M : Md} {Ss Is : List Int} (h : traceN M Ss Is = 0) : shapeK M Ss Is = true := by
 by_cases hs : shapeK M Ss Is = true
 · exact hs
 · rw [trace_shape (eq_false_of_ne_true hs)] at h; omega
end Go.Proofs.YtbenebcphaiohaaGreat
namespace Go.Proofs.YtbenebcphaiohaaGreat
open Go.Joins Go.ChangeShapes Go.WideShapes Go.ChangeAt Go.RowKit Go.Deep
section
variable {H : Type} {enc : TypeId × Value → H} {w : World}
theorem cells_tr : Tryz.prog.cellsOf 84 = 2 := by kernel_rfl
theorem tr_open {r : _root_.Go.Reach} {b0 : Nat} {v : Value} {d : DataW H} {p : List MemPlace} (hv : Value.okWide Tryz.prog w r b0 84 v) (h : DataW.Trod enc Tryz.prog w 0 (fun _ => true) true 84 v d p) (hw : ∀ n ∈ d.weights Tryz.prog 84, n ≤ reachBytes) :
 ∃ Ss Is, TrAt w v Ss Is := by
 obtain ⟨cs, rfl, hsz⟩ := okWide_struct Tryz.underlying84 hv
 obtain ⟨l⟩ := cs
 match l, hsz.trans cells_tr with
 | [c0, c1], _ =>
   obtain ⟨fuel, hf⟩ := h
   obtain ⟨xs, n, -, hd, -, hxl, hg⟩ := DataW.trod_struct Tryz.underlying84 hf
   have hd := congrArg Prod.fst hd
   have hd : d = .agg (xs.map (·.1)) := hd
   subst hd
   match xs, hxl with
   | [y0, y1], _ =>
     have hwt : ∀ (j : Nat) t y, ([25, 25] : List TypeId)[j]? = some t → ([y0.1, y1.1] : List (DataW H))[j]? = some y → ∀ n ∈ y.weights Tryz.prog t, n ≤ reachBytes := fun j t y ht hy n hn => hw n (by
      show n ∈ DataW.weights Tryz.prog 84 (.agg [y0.1, y1.1])
      rw [DataW.weights, Tryz.underlying84]
      exact DataW.weights_mem_each (j := j) ht hy n hn)
     have k2 : Tryz.prog.cellsOf 25 = 1 := by kernel_rfl
     obtain ⟨bs, hB, -⟩ := slAt_of enI (fun _ => True) Tryz.underlying25 cells_int (by decide +kernel) (by decide) (fun _ _ _ _ h _ => int_el h) (d := y0.1) (p := y0.2) (v := c0) ((congrArg (DataW.trod enc Tryz.prog w 0 (fun _ => true) true n _) (one_cell (cs := [c0, c1]) (k := 0) k2 rfl)).symm.trans (hg 0 _ rfl)) (hwt 0 _ _ rfl rfl)
     obtain ⟨hs, hH, -⟩ := slAt_of enI (fun _ => True) Tryz.underlying25 cells_int (by decide +kernel) (by decide) (fun _ _ _ _ h _ => int_el h) (d := y1.1) (p := y1.2) (v := c1) ((congrArg (DataW.trod enc Tryz.prog w 0 (fun _ => true) true n _) (one_cell (cs := [c0, c1]) (k := 1) k2 rfl)).symm.trans (hg 1 _ rfl)) (hwt 1 _ _ rfl rfl)
     exact ⟨bs, hs, c0, c1, rfl, hB.slN, hH.slN⟩
end
end Go.Proofs.YtbenebcphaiohaaGreat
namespace Go.Proofs.YtbenebcphaiohaaGreat
open Go.RowKit
theorem szTrace_calls (tv : Value) (Ss Is : List Int) (left : Int) (w : World) (hT : TrAt w tv Ss Is) (h0 : 0 ≤ left) (h1 : left ≤ 1048576) :
 Calls Tryz.prog 57 #[tv, .int .i64 left] w fun e w' => ∃ r : Int, e = .returned (.int .i64 r) ∧ Below w.heap.size w w' ∧ (r = -1 ∨ (0 ≤ r ∧ r + Ss.length + Is.length ≤ left)) := by
 obtain ⟨t0, t1, rfl, ⟨A0, c0, rfl, -, hl0, -⟩, ⟨A1, c1, rfl, -, hl1, -⟩⟩ := hT
 generalize Ss.length = n at *
 generalize Is.length = m at *
 go_enter Tryz.func57, Tryz.ntmps57
 by_cases hlt : left - (n : Int) < 0
 · go_wp2_with (go_at_call 83; refine (szIntS_same A0 n c0 left hl0 h0 h1 _).mono ?_; rintro e w' ⟨rfl, rfl⟩; rw [lessV_neg hlt])
   go_ret
   exact ⟨_, rfl, box_below _ _ _, .inl rfl⟩
 · have hlt' : (left - (n : Int) < 0) = False := eq_false hlt
   by_cases hlt2 : left - (n : Int) - (m : Int) < 0
   · go_wp2_with (go_at_call 83; first | ((with_reducible refine (szIntS_same A0 n c0 left hl0 h0 h1 _).mono ?_); rintro e w' ⟨rfl, rfl⟩; rw [lessV_pos hlt]) | (refine (szIntS_same A1 m c1 (left - n) hl1 (by omega) (by omega) _).mono ?_; rintro e w' ⟨rfl, rfl⟩; rw [lessV_neg hlt2]))
     go_ret
     exact ⟨_, rfl, box_below _ _ _, .inl rfl⟩
   · have hlt3 : (left - (n : Int) - (m : Int) < 0) = False := eq_false hlt2
     have HX := Lib.hid (lessV_pos hlt2)
     have HX0 := Lib.hid (lessV_pos hlt)
     have h2 : 0 ≤ left - (n : Int) := by omega
     have h3 : left - (n : Int) ≤ 1048576 := by omega
     have HY := Lib.hid (fun w => szIntS_same A1 m c1 (left - n) hl1 h2 h3 w)
     go_wp2_with fail
     refine (szIntS_same A0 n c0 left hl0 h0 h1 _).mono ?_
     rintro e w' ⟨rfl, rfl⟩
     rw [HX0.out]
     go_wp2_with fail
     refine (HY.out _).mono ?_
     rintro e w' ⟨rfl, rfl⟩
     rw [HX.out]
     go_wp2
     go_ret
     exact ⟨_, rfl, box_below _ _ _, .inr ⟨by omega, by omega⟩⟩
theorem eqTrace_calls (v1 v2 : Value) (Ss Is : List Int) (w : World) (h1 : TrAt w v1 Ss Is) (h2 : TrAt w v2 Ss Is) :
 Makes Tryz.prog 48 #[v1, v2] w (.bool true) := by
 obtain ⟨a0, a1, rfl, p0, p1⟩ := h1
 obtain ⟨b0, b1, rfl, q0, q1⟩ := h2
 have P0 := Lib.hid p0
 have P1 := Lib.hid p1
 have Q0 := Lib.hid q0
 have Q1 := Lib.hid q1
 clear p0 p1 q0 q1
 go_enter Tryz.func48, Tryz.ntmps48
 go_upto_region 1 with fail
 generalize hw2 : (w.alloc (Obj.cells #[a0, a1] 68)).alloc (Obj.cells #[b0, b1] 68) = w2
 have m0 : ∀ u : Later w2, u.val.cell? ⟨w.heap.size, 0, none⟩ = some a0 := Later.cell (by rw [← hw2]; clear hw2; go_simp)
 have m1 : ∀ u : Later w2, u.val.cell? ⟨w.heap.size, 1, none⟩ = some a1 := Later.cell (by rw [← hw2]; clear hw2; go_simp)
 have m2 : ∀ u : Later w2, u.val.cell? ⟨w.heap.size + 1, 0, none⟩ = some b0 := Later.cell (by rw [← hw2]; clear hw2; go_simp)
 have m3 : ∀ u : Later w2, u.val.cell? ⟨w.heap.size + 1, 1, none⟩ = some b1 := Later.cell (by rw [← hw2]; clear hw2; go_simp)
 have HB := Lib.hid (show Below w.heap.size w w2 by rw [← hw2]; exact ((Below.refl _ _).alloc (Nat.le_refl _) _).alloc (by simp) _)
 clear hw2
 refine at_world (w := w2) ?_
 intro u0
 go_wp2_with fail
 refine (Calls.later (u := u0) (eqIntN_calls a0 b0 Ss _ (P0.out.below (u0.back HB.out)) (Q0.out.below (u0.back HB.out)))).mono ?_
 rintro e w' ⟨rfl, u1, rfl⟩
 go_wp2_with fail
 refine (Calls.later (u := u1) (eqIntN_calls a1 b1 Is _ (P1.out.below (u1.back HB.out)) (Q1.out.below (u1.back HB.out)))).mono ?_
 rintro e w' ⟨rfl, u2, rfl⟩
 go_wp2
 go_ret
 exact ⟨rfl, u2.back HB.out⟩
theorem toTrace_calls (tv : Value) (Ss Is : List Int) (w : World) (hT : TrAt w tv Ss Is) (h0 : Ss.length ≤ 1048576) (h1 : Is.length ≤ 1048576) :
 Calls Tryz.prog 59 #[tv] w fun e w' => ∃ g0 g1, e = .returned (.agg #[slOf g0 Ss, slOf g1 Is]) ∧ Below w.heap.size w w' ∧ g0 < g1 ∧ FreshG enI 3 w w' g0 Ss ∧ FreshG enI 3 w w' g1 Is := by
 obtain ⟨s0, s1, rfl, S0, S1⟩ := hT
 have HS := Lib.hid (And.intro S0 S1)
 clear S0 S1
 go_enter Tryz.func59, Tryz.ntmps59
 go_wp2_with fail
 have HA0 := Lib.hid (show OwnB (((w.alloc (Obj.cells #[s0, s1] 84)).alloc (Obj.cells #[.slice none 0 0, .slice none 0 0] 68)).alloc (Obj.cells #[.slice none 0 0, .slice none 0 0] 68)) w.heap.size 84 #[s0, s1] from ((OwnB.new w _ _).below ((Below.refl _ _).alloc (Nat.le_refl _) _) (by simp)).below ((Below.refl _ _).alloc (Nat.le_refl _) _) (by simp; omega))
 have HR0 := Lib.hid (show OwnB (((w.alloc (Obj.cells #[s0, s1] 84)).alloc (Obj.cells #[.slice none 0 0, .slice none 0 0] 68)).alloc (Obj.cells #[.slice none 0 0, .slice none 0 0] 68)) (w.heap.size + 1) 68 #[.slice none 0 0, .slice none 0 0] from (OwnB.new' _ _ _ _ (by simp)).below ((Below.refl _ _).alloc (Nat.le_refl _) _) (by simp))
 have HL0 := Lib.hid (show OwnB (((w.alloc (Obj.cells #[s0, s1] 84)).alloc (Obj.cells #[.slice none 0 0, .slice none 0 0] 68)).alloc (Obj.cells #[.slice none 0 0, .slice none 0 0] 68)) (w.heap.size + 1 + 1) 68 #[.slice none 0 0, .slice none 0 0] from OwnB.new' _ _ _ _ (by simp))
 have HB0 := Lib.hid (show Below w.heap.size w (((w.alloc (Obj.cells #[s0, s1] 84)).alloc (Obj.cells #[.slice none 0 0, .slice none 0 0] 68)).alloc (Obj.cells #[.slice none 0 0, .slice none 0 0] 68)) from (((Below.refl _ _).alloc (Nat.le_refl _) _).alloc (by simp) _).alloc (by simp [Nat.add_assoc]) _)
 generalize ((w.alloc (Obj.cells #[s0, s1] 84)).alloc (Obj.cells #[.slice none 0 0, .slice none 0 0] 68)).alloc (Obj.cells #[.slice none 0 0, .slice none 0 0] 68) = v0 at *
 refine (toIntN_calls s0 Ss v0 (HS.out.1.below HB0.out) h0).mono ?_
 rintro e u0 ⟨t0, rfl, hb0, hfr0⟩
 obtain ⟨g0, rfl, hf0⟩ := hfr0.at_
 clear hfr0
 have HA0' := Lib.hid (HA0.out.below hb0 HA0.out.lt)
 have HR0' := Lib.hid (HR0.out.below hb0 HR0.out.lt)
 have HL0' := Lib.hid (HL0.out.below hb0 HL0.out.lt)
 have HB0' := Lib.hid (HB0.out.trans (hb0.mono HB0.out.size))
 have HZ0 := Lib.hid (show w.heap.size + 1 + 1 < v0.heap.size from HL0.out.lt)
 have HF0 := Lib.hid hf0
 clear hb0 hf0 HA0 HR0 HL0 HB0
 have q0 : u0.cell? ⟨w.heap.size + 1 + 1, 0, none⟩ = some (.slice none 0 0) := HL0'.out.cell 0
 have r0 : u0.frozen? ⟨w.heap.size + 1 + 1, 0, none⟩ = false := HL0'.out.frozen 0
 have a0 : u0.cell? ⟨w.heap.size, 1, none⟩ = some s1 := HA0'.out.cell 1
 go_wp2_with fail
 clear a0 q0 r0
 have HA1 := Lib.hid (HA0'.out.keep (b := w.heap.size + 1 + 1) (i := 0) (by omega) (slOf g0 Ss))
 have HR1 := Lib.hid (HR0'.out.keep (b := w.heap.size + 1 + 1) (i := 0) (by omega) (slOf g0 Ss))
 have HL1 := Lib.hid (HL0'.out.set 0 (slOf g0 Ss))
 have HB1 := Lib.hid (HB0'.out.setCell (p := ⟨w.heap.size + 1 + 1, 0, none⟩) (by show _ ≤ w.heap.size + 1 + 1; omega) (slOf g0 Ss))
 have HG0 := Lib.hid (HF0.out.keep (b := w.heap.size + 1 + 1) (i := 0) HZ0.out (slOf g0 Ss))
 clear HF0; rename Hid (FreshG _ _ _ (u0.setCell _ _) g0 _) => HF0
 clear HA0' HR0' HL0' HB0'
 have HF0L := Lib.hid (HF0.out.lt)
 generalize u0.setCell ⟨w.heap.size + 1 + 1, 0, none⟩ (slOf g0 Ss) = v1 at *
 refine (toIntN_calls s1 Is v1 (HS.out.2.below HB1.out) h1).mono ?_
 rintro e u1 ⟨t1, rfl, hb1, hfr1⟩
 obtain ⟨g1, rfl, hf1⟩ := hfr1.at_
 clear hfr1
 have HA1' := Lib.hid (HA1.out.below hb1 HA1.out.lt)
 have HR1' := Lib.hid (HR1.out.below hb1 HR1.out.lt)
 have HL1' := Lib.hid (HL1.out.below hb1 HL1.out.lt)
 have HB1' := Lib.hid (HB1.out.trans (hb1.mono HB1.out.size))
 have HZ1 := Lib.hid (show w.heap.size + 1 + 1 < v1.heap.size from HL1.out.lt)
 have HF0_1 := Lib.hid (HF0.out.below hb1)
 clear HF0; rename Hid (FreshG _ _ _ u1 g0 _) => HF0
 have HF1 := Lib.hid hf1
 clear hb1 hf1 HA1 HR1 HL1 HB1
 have q1 : u1.cell? ⟨w.heap.size + 1 + 1, 1, none⟩ = some (.slice none 0 0) := HL1'.out.cell 1
 have r1 : u1.frozen? ⟨w.heap.size + 1 + 1, 1, none⟩ = false := HL1'.out.frozen 1
 have q0 : u1.cell? ⟨w.heap.size + 1 + 1, 0, none⟩ = some (slOf g0 Ss) := HL1'.out.cell 0
 have d0 : u1.cell? ⟨w.heap.size + 1, 0, none⟩ = some (.slice none 0 0) := HR1'.out.cell 0
 have e0 : u1.frozen? ⟨w.heap.size + 1, 0, none⟩ = false := HR1'.out.frozen 0
 have d1 : u1.cell? ⟨w.heap.size + 1, 1, none⟩ = some (.slice none 0 0) := HR1'.out.cell 1
 have e1 : u1.frozen? ⟨w.heap.size + 1, 1, none⟩ = false := HR1'.out.frozen 1
 go_wp2_with fail
 have N01 : g0 < g1 := Nat.lt_of_lt_of_le HF0L.out HF1.out.ge
 refine bodyPost_ret (v := .agg #[slOf g0 Ss, slOf g1 Is]) ?_ rfl ⟨g0, g1, rfl, ?_, N01, ?_, ?_⟩
 · simp [results, Tryz.results59, go_sem, d0, d1]
 · repeat (with_reducible refine Below.setCell ?_ ?_ _)
   · with_reducible exact HB1'.out
   all_goals (simp only [Nat.le_add_right, Nat.le_refl]; try omega)
 · refine FreshG.mono (w1 := v0) ?_ (by have := HZ0.out; omega)
   have hz := HZ0.out
   repeat (with_reducible refine FreshG.keep ?_ ?_ _)
   · with_reducible exact HF0.out
   all_goals omega
 · refine FreshG.mono (w1 := v1) ?_ (by have := HZ1.out; omega)
   have hz := HZ1.out
   repeat (with_reducible refine FreshG.keep ?_ ?_ _)
   · with_reducible exact HF1.out
   all_goals omega
theorem toTrace_at (tv : Value) (Ss Is : List Int) (w : World) (hT : TrAt w tv Ss Is) (h0 : Ss.length ≤ 1048576) (h1 : Is.length ≤ 1048576) :
 Calls Tryz.prog 59 #[tv] w fun e w' => ∃ g0 g1, e = .returned (.agg #[slOf g0 Ss, slOf g1 Is]) ∧ Below w.heap.size w w' ∧ TrAt w' (.agg #[slOf g0 Ss, slOf g1 Is]) Ss Is :=
 (toTrace_calls tv Ss Is w hT h0 h1).mono fun e w' ⟨g0, g1, he, hb, _, f0, f1⟩ => ⟨g0, g1, he, hb, _, _, rfl, (f0.rowI (by omega)).slN, (f1.rowI (by omega)).slN⟩
theorem l6Shape_calls (mv tv : Value) (M : Md) (Ss Is : List Int) (w : World) (hM : MdAt w mv M) (hT : TrAt w tv Ss Is) (hsz : M.nodes.length ≤ 1048576) (hnm : ∀ x, x ∈ M.nodes → x.name.size ≤ 140737488351232) :
 Makes Tryz.prog 137 #[mv, tv] w (.bool (shapeK M Ss Is)) := by
 have HNO := Lib.hid (show codeN M = 0 → inB (Ss.length : Int) 1 301 = true → Is.length = Ss.length → ∀ k, k < Ss.length → (ofB 36 M (Ss.getD k 0) = false ∨ ofB 35 M (Is.getD k 0) = false) → shapeK M Ss Is = false from fun h1 h2 h3 k hk h4 => by
  unfold shapeK
  rw [decide_eq_true h1, h2, decide_eq_true h3]
  rcases h4 with h4 | h4
  · rw [all_no hk h4]; rfl
  · rw [all_no (show k < Is.length by omega) h4]; simp)
 have HYES := Lib.hid (show codeN M = 0 → inB (Ss.length : Int) 1 301 = true → Is.length = Ss.length → (∀ k, k < Ss.length → ofB 36 M (Ss.getD k 0) = true ∧ ofB 35 M (Is.getD k 0) = true) → shapeK M Ss Is = true from fun h1 h2 h3 h4 => by
  unfold shapeK
  rw [decide_eq_true h1, h2, decide_eq_true h3, all_yes fun k hk => (h4 k hk).1, all_yes fun k hk => (h4 k (by omega)).2]
  rfl)
 have HN1 := Lib.hid (show ¬ codeN M = 0 → shapeK M Ss Is = false from fun h => by unfold shapeK; rw [decide_eq_false h]; rfl)
 have HN2 := Lib.hid (show inB (Ss.length : Int) 1 301 = false → shapeK M Ss Is = false from fun h => by unfold shapeK; rw [h]; simp)
 have HN3 := Lib.hid (show ¬ Is.length = Ss.length → shapeK M Ss Is = false from fun h => by unfold shapeK; rw [decide_eq_false h]; simp)
 generalize shapeK M Ss Is = R at *
 have HM := Lib.hid hM
 have HNM := Lib.hid hnm
 have HSZ := Lib.hid hsz
 have HT := Lib.hid hT
 obtain ⟨s0, s1, s2, s3, s4, rfl, -, h1s, h2s, -, -⟩ := hM.at_
 have HS1 := Lib.hid h1s
 have HS2 := Lib.hid h2s
 obtain ⟨t0, t1, rfl, ht0, ht1⟩ := hT
 obtain ⟨A0, c0, rfl, hnc0, hn0, hA0⟩ := ht0
 obtain ⟨A1, c1, rfl, hnc1, hn1, hA1⟩ := ht1
 clear hM hnm hsz h1s h2s hnc0 hnc1
 generalize hn : Ss.length = n at *
 have HN := Lib.hid hn
 generalize hm : Is.length = n1 at *
 have HI := Lib.hid hm
 clear hn hm
 go_enter Tryz.func137, Tryz.ntmps137
 go_upto_region 1 with fail
 obtain ⟨w2, hw2, HB, m0, m1, m2, m3, m4, m5, m6⟩ := boxes2 27 68 s0 s1 s2 s3 s4 (.slice A0 n c0) (.slice A1 n1 c1) w
 rw [hw2]
 clear hw2
 have HM1 := Lib.hid (HM.out.below HB.out)
 have HT1 := Lib.hid (HT.out.below HB.out)
 have HB1 := Lib.hid (HS1.out.below HB.out)
 have HB2 := Lib.hid (HS2.out.below HB.out)
 refine at_world (w := w2) ?_
 intro u0
 by_cases hc : codeN M = 0
 · have HC := Lib.hid hc
   by_cases hi : inB (n : Int) 1 301 = true
   · have HIB := Lib.hid hi
     by_cases he : n1 = n
     · subst he
       have HNO2 := Lib.hid (HNO.out hc hi rfl)
       have HYES2 := Lib.hid (HYES.out hc hi rfl)
       clear hc hi HNO HYES HN1 HN2 HN3
       go_upto_region 4 with (first | (go_at_call 84; refine (Calls.later_eq (u := u0) (ModelCode_calls _ M _ (HM1.out.later u0) HNM.out) (congrArg (Value.int .i64) HC.out)).mono ?_; rintro e w' ⟨rfl, u1, rfl⟩) | (go_at_call 123; refine (Calls.later_eq (u := u1) (l1In_makes _ 1 301 _) (congrArg Value.bool HIB.out)).mono ?_; rintro e w' ⟨rfl, u2, rfl⟩))
       go_wp2
       go_loopw [5] (fun i wr => ∃ k : Nat, k ≤ n1 ∧ i = .int .i64 k ∧ Hid (∀ j, j < k → ofB 36 M (Ss.getD j 0) = true ∧ ofB 35 M (Is.getD j 0) = true) ∧ LaterC w2 wr) (fun i _ => n1 - (intOf i).toNat)
       case atStart => exact ⟨0, Nat.zero_le _, rfl, Lib.hid (fun j hj => absurd hj (Nat.not_lt_zero _)), ⟨u2, rfl⟩⟩
       case round =>
        obtain ⟨k, hk, rfl, hto, ⟨u, rfl⟩⟩ := hrel
        by_cases hlt : k < n1
        · have hlt' : (k : Int) < n1 := by omega
          have hg0 := getD_at (show k < Ss.length by rw [HN.out]; exact hlt) 0
          have hg1 := getD_at (show k < Is.length by rw [HI.out]; exact hlt) 0
          obtain ⟨b0, o0, rfl, hx0⟩ := hA0 k _ hg0
          obtain ⟨b1, o1, rfl, hx1⟩ := hA1 k _ hg1
          have HNOK := Lib.hid (HNO2.out k hlt)
          have HTO1 := Lib.hid (show ofB 36 M (Ss.getD k 0) = true → ofB 35 M (Is.getD k 0) = true → ∀ j, j < k + 1 → ofB 36 M (Ss.getD j 0) = true ∧ ofB 35 M (Is.getD j 0) = true from fun h1 h2 j hj => by
           rcases Nat.lt_or_ge j k with g | g
           · exact hto.out j g
           · obtain rfl : j = k := by omega
             exact ⟨h1, h2⟩)
          generalize Ss.getD k 0 = x at *
          generalize Is.getD k 0 = y at *
          have p0 : ∀ l : Later w2, l.val.cell? ⟨b0, o0 + k, none⟩ = some (.int .i64 x) := hx0.int HB.out
          have p1 : ∀ l : Later w2, l.val.cell? ⟨b1, o1 + k, none⟩ = some (.int .i64 y) := hx1.int HB.out
          clear hx0 hx1 hg0 hg1 hA0 hA1 hto
          go_upto_region 6 with fail
          by_cases h6 : ofB 36 M x = true
          · have HO6 := Lib.hid h6
            by_cases h5 : ofB 35 M y = true
            · have HO5 := Lib.hid h5
              have HTO := Lib.hid (HTO1.out h6 h5)
              clear h6 h5
              go_region_held3 (fun w' => w'.cell? ⟨w.heap.size, 0, none⟩ = some s0 ∧ w'.cell? ⟨w.heap.size, 1, none⟩ = some s1 ∧ w'.cell? ⟨w.heap.size, 2, none⟩ = some s2 ∧ w'.cell? ⟨w.heap.size, 3, none⟩ = some s3 ∧ w'.cell? ⟨w.heap.size, 4, none⟩ = some s4 ∧ w'.cell? ⟨w.heap.size + 1, 0, none⟩ = some (.slice (some ⟨b0, o0, none⟩) n1 c0) ∧ w'.cell? ⟨w.heap.size + 1, 1, none⟩ = some (.slice (some ⟨b1, o1, none⟩) n1 c1) ∧ w'.cell? ⟨b0, o0 + k, none⟩ = some (.int .i64 x) ∧ w'.cell? ⟨b1, o1 + k, none⟩ = some (.int .i64 y)) (exact ⟨lf m0, lf m1, lf m2, lf m3, lf m4, lf m5, lf m6, lf p0, lf p1⟩) (first | (go_at_call 56; refine (StateOf_calls _ M x _ (HM1.out.below (lcb (w1 := w2))) HSZ.out HNM.out).mono ?_; rintro e w' ⟨ovv1, osv1, rfl, hb, -⟩; rw [HO6.out]; obtain ⟨v1, hv1⟩ := laterC_step (w1 := w2) lcx hb; subst hv1; clear hb))
              go_upto_region 7 with fail
              go_region_held3 (fun w' => w'.cell? ⟨w.heap.size, 0, none⟩ = some s0 ∧ w'.cell? ⟨w.heap.size, 1, none⟩ = some s1 ∧ w'.cell? ⟨w.heap.size, 2, none⟩ = some s2 ∧ w'.cell? ⟨w.heap.size, 3, none⟩ = some s3 ∧ w'.cell? ⟨w.heap.size, 4, none⟩ = some s4 ∧ w'.cell? ⟨w.heap.size + 1, 0, none⟩ = some (.slice (some ⟨b0, o0, none⟩) n1 c0) ∧ w'.cell? ⟨w.heap.size + 1, 1, none⟩ = some (.slice (some ⟨b1, o1, none⟩) n1 c1) ∧ w'.cell? ⟨b0, o0 + k, none⟩ = some (.int .i64 x) ∧ w'.cell? ⟨b1, o1 + k, none⟩ = some (.int .i64 y)) (exact ⟨lf m0, lf m1, lf m2, lf m3, lf m4, lf m5, lf m6, lf p0, lf p1⟩) (first | (go_at_call 69; refine (InputOf_calls _ M y _ (HM1.out.below (lcb (w1 := w2))) HSZ.out HNM.out).mono ?_; rintro e w' ⟨ovv2, osv2, rfl, hb, -⟩; rw [HO5.out]; obtain ⟨v2, hv2⟩ := laterC_step (w1 := w2) lcx hb; subst hv2; clear hb))
              go_wp2
              go_roundw
              case rel => exact ⟨k + 1, by omega, by go_num, HTO, ⟨v2, rfl⟩⟩
              case measure => simp [intOf] <;> omega
            · have h5 := eq_false_of_ne_true h5
              have HO5 := Lib.hid h5
              have HR := Lib.hid (HNOK.out (.inr h5))
              clear h6 h5
              go_region_held3 (fun w' => w'.cell? ⟨w.heap.size, 0, none⟩ = some s0 ∧ w'.cell? ⟨w.heap.size, 1, none⟩ = some s1 ∧ w'.cell? ⟨w.heap.size, 2, none⟩ = some s2 ∧ w'.cell? ⟨w.heap.size, 3, none⟩ = some s3 ∧ w'.cell? ⟨w.heap.size, 4, none⟩ = some s4 ∧ w'.cell? ⟨w.heap.size + 1, 0, none⟩ = some (.slice (some ⟨b0, o0, none⟩) n1 c0) ∧ w'.cell? ⟨w.heap.size + 1, 1, none⟩ = some (.slice (some ⟨b1, o1, none⟩) n1 c1) ∧ w'.cell? ⟨b0, o0 + k, none⟩ = some (.int .i64 x) ∧ w'.cell? ⟨b1, o1 + k, none⟩ = some (.int .i64 y)) (exact ⟨lf m0, lf m1, lf m2, lf m3, lf m4, lf m5, lf m6, lf p0, lf p1⟩) (first | (go_at_call 56; refine (StateOf_calls _ M x _ (HM1.out.below (lcb (w1 := w2))) HSZ.out HNM.out).mono ?_; rintro e w' ⟨ovv1, osv1, rfl, hb, -⟩; rw [HO6.out]; obtain ⟨v1, hv1⟩ := laterC_step (w1 := w2) lcx hb; subst hv1; clear hb))
              go_upto_region 7 with fail
              go_region_held3 (fun w' => w'.cell? ⟨w.heap.size, 0, none⟩ = some s0 ∧ w'.cell? ⟨w.heap.size, 1, none⟩ = some s1 ∧ w'.cell? ⟨w.heap.size, 2, none⟩ = some s2 ∧ w'.cell? ⟨w.heap.size, 3, none⟩ = some s3 ∧ w'.cell? ⟨w.heap.size, 4, none⟩ = some s4 ∧ w'.cell? ⟨w.heap.size + 1, 0, none⟩ = some (.slice (some ⟨b0, o0, none⟩) n1 c0) ∧ w'.cell? ⟨w.heap.size + 1, 1, none⟩ = some (.slice (some ⟨b1, o1, none⟩) n1 c1) ∧ w'.cell? ⟨b0, o0 + k, none⟩ = some (.int .i64 x) ∧ w'.cell? ⟨b1, o1 + k, none⟩ = some (.int .i64 y)) (exact ⟨lf m0, lf m1, lf m2, lf m3, lf m4, lf m5, lf m6, lf p0, lf p1⟩) (first | (go_at_call 69; refine (InputOf_calls _ M y _ (HM1.out.below (lcb (w1 := w2))) HSZ.out HNM.out).mono ?_; rintro e w' ⟨ovv2, osv2, rfl, hb, -⟩; rw [HO5.out]; obtain ⟨v2, hv2⟩ := laterC_step (w1 := w2) lcx hb; subst hv2; clear hb))
              go_wp2
              go_ret
              exact ⟨ret_eq (congrArg Value.bool HR.out.symm), v2.back HB.out⟩
          · have h6 := eq_false_of_ne_true h6
            have HO6 := Lib.hid h6
            have HR := Lib.hid (HNOK.out (.inl h6))
            obtain ⟨ok2, hok2⟩ : ∃ ok2, ofB 35 M y = ok2 := ⟨_, rfl⟩
            have HO5 := Lib.hid hok2
            clear h6 hok2
            go_region_held3 (fun w' => w'.cell? ⟨w.heap.size, 0, none⟩ = some s0 ∧ w'.cell? ⟨w.heap.size, 1, none⟩ = some s1 ∧ w'.cell? ⟨w.heap.size, 2, none⟩ = some s2 ∧ w'.cell? ⟨w.heap.size, 3, none⟩ = some s3 ∧ w'.cell? ⟨w.heap.size, 4, none⟩ = some s4 ∧ w'.cell? ⟨w.heap.size + 1, 0, none⟩ = some (.slice (some ⟨b0, o0, none⟩) n1 c0) ∧ w'.cell? ⟨w.heap.size + 1, 1, none⟩ = some (.slice (some ⟨b1, o1, none⟩) n1 c1) ∧ w'.cell? ⟨b0, o0 + k, none⟩ = some (.int .i64 x) ∧ w'.cell? ⟨b1, o1 + k, none⟩ = some (.int .i64 y)) (exact ⟨lf m0, lf m1, lf m2, lf m3, lf m4, lf m5, lf m6, lf p0, lf p1⟩) (first | (go_at_call 56; refine (StateOf_calls _ M x _ (HM1.out.below (lcb (w1 := w2))) HSZ.out HNM.out).mono ?_; rintro e w' ⟨ovv1, osv1, rfl, hb, -⟩; rw [HO6.out]; obtain ⟨v1, hv1⟩ := laterC_step (w1 := w2) lcx hb; subst hv1; clear hb))
            go_upto_region 7 with fail
            go_region_held3 (fun w' => w'.cell? ⟨w.heap.size, 0, none⟩ = some s0 ∧ w'.cell? ⟨w.heap.size, 1, none⟩ = some s1 ∧ w'.cell? ⟨w.heap.size, 2, none⟩ = some s2 ∧ w'.cell? ⟨w.heap.size, 3, none⟩ = some s3 ∧ w'.cell? ⟨w.heap.size, 4, none⟩ = some s4 ∧ w'.cell? ⟨w.heap.size + 1, 0, none⟩ = some (.slice (some ⟨b0, o0, none⟩) n1 c0) ∧ w'.cell? ⟨w.heap.size + 1, 1, none⟩ = some (.slice (some ⟨b1, o1, none⟩) n1 c1) ∧ w'.cell? ⟨b0, o0 + k, none⟩ = some (.int .i64 x) ∧ w'.cell? ⟨b1, o1 + k, none⟩ = some (.int .i64 y)) (exact ⟨lf m0, lf m1, lf m2, lf m3, lf m4, lf m5, lf m6, lf p0, lf p1⟩) (first | (go_at_call 69; refine (InputOf_calls _ M y _ (HM1.out.below (lcb (w1 := w2))) HSZ.out HNM.out).mono ?_; rintro e w' ⟨ovv2, osv2, rfl, hb, -⟩; rw [HO5.out]; obtain ⟨v2, hv2⟩ := laterC_step (w1 := w2) lcx hb; subst hv2; clear hb))
            go_wp2
            go_ret
            exact ⟨ret_eq (congrArg Value.bool HR.out.symm), v2.back HB.out⟩
        · obtain rfl : k = n1 := by omega
          have HR := Lib.hid (HYES2.out hto.out)
          clear hA0 hA1 hto
          go_wp2
          go_ret
          exact ⟨ret_eq (congrArg Value.bool HR.out.symm), u.back HB.out⟩
     · have HR := Lib.hid (HN3.out he)
       have hne : ((n1 : Int) != n) = true := by simp; omega
       clear hc hi hA0 hA1
       go_wp2_with (first | (go_at_call 84; refine (Calls.later_eq (u := u0) (ModelCode_calls _ M _ (HM1.out.later u0) HNM.out) (congrArg (Value.int .i64) HC.out)).mono ?_; rintro e w' ⟨rfl, u1, rfl⟩) | (go_at_call 123; refine (Calls.later_eq (u := u1) (l1In_makes _ 1 301 _) (congrArg Value.bool HIB.out)).mono ?_; rintro e w' ⟨rfl, u2, rfl⟩))
       go_ret
       exact ⟨ret_eq (congrArg Value.bool HR.out.symm), u2.back HB.out⟩
   · have hi := eq_false_of_ne_true hi
     have HIB := Lib.hid hi
     have HR := Lib.hid (HN2.out hi)
     clear hc hi hA0 hA1
     go_wp2_with (first | (go_at_call 84; refine (Calls.later_eq (u := u0) (ModelCode_calls _ M _ (HM1.out.later u0) HNM.out) (congrArg (Value.int .i64) HC.out)).mono ?_; rintro e w' ⟨rfl, u1, rfl⟩) | (go_at_call 123; refine (Calls.later_eq (u := u1) (l1In_makes _ 1 301 _) (congrArg Value.bool HIB.out)).mono ?_; rintro e w' ⟨rfl, u2, rfl⟩))
     go_ret
     exact ⟨ret_eq (congrArg Value.bool HR.out.symm), u2.back HB.out⟩
 · have HR := Lib.hid (HN1.out hc)
   obtain ⟨cm, hcm⟩ : ∃ cm, cm = codeN M := ⟨_, rfl⟩
   have HC := Lib.hid hcm.symm
   have hne : (cm != 0) = true := by rw [hcm]; simpa using hc
   clear hcm hc hA0 hA1
   go_wp2_with (go_at_call 84; refine (Calls.later_eq (u := u0) (ModelCode_calls _ M _ (HM1.out.later u0) HNM.out) (congrArg (Value.int .i64) HC.out)).mono ?_; rintro e w' ⟨rfl, u1, rfl⟩)
   go_ret
   exact ⟨ret_eq (congrArg Value.bool HR.out.symm), u1.back HB.out⟩
theorem l6At_calls (mv tv : Value) (M : Md) (Ss Is : List Int) (k : Nat) (w : World) (hM : MdAt w mv M) (hT : TrAt w tv Ss Is) (hsz : M.nodes.length ≤ 1048576) (hnm : ∀ x, x ∈ M.nodes → x.name.size ≤ 140737488351232) (hsh : Shaped M Ss Is) (hk : k < Ss.length) :
 Calls Tryz.prog 138 #[mv, tv, .int .i64 (k : Int)] w fun e w' => ∃ v1 v2, e = .returned (.tuple #[v1, v2]) ∧ Below w.heap.size w w' ∧ VlAt w' v1 (mS M Ss k) ∧ VlAt w' v2 (mI M Is k) := by
 have HSH := Lib.hid hsh
 have hr0 := hsh.s k hk
 have hr1 := hsh.i k hk
 have hk1 : k < Is.length := by have := hsh.eq; omega
 have hg0 := getD_at hk 0
 have hg1 := getD_at hk1 0
 have HMS := Lib.hid (show mS M Ss k = unpackN M.nodes (placesN 36 M.nodes M.nodes.length) (Ss.getD k 0) (placesN 36 M.nodes M.nodes.length).length from rfl)
 have HMI := Lib.hid (show mI M Is k = unpackN M.nodes (placesN 35 M.nodes M.nodes.length) (Is.getD k 0) (placesN 35 M.nodes M.nodes.length).length from rfl)
 generalize mS M Ss k = LS at *
 generalize mI M Is k = LI at *
 clear hsh
 have HM := Lib.hid hM
 have HNM := Lib.hid hnm
 have HSZ := Lib.hid hsz
 have HT := Lib.hid hT
 obtain ⟨s0, s1, s2, s3, s4, rfl, -, h1s, h2s, -, -⟩ := hM.at_
 have HS1 := Lib.hid h1s
 have HS2 := Lib.hid h2s
 obtain ⟨t0, t1, rfl, ht0, ht1⟩ := hT
 obtain ⟨A0, c0, rfl, hnc0, hn0, hA0⟩ := ht0
 obtain ⟨A1, c1, rfl, hnc1, hn1, hA1⟩ := ht1
 clear hM hnm hsz h1s h2s hnc0 hnc1
 generalize hn : Ss.length = n at *
 have HN := Lib.hid hn
 generalize hm : Is.length = n1 at *
 have HI := Lib.hid hm
 clear hn hm
 go_enter Tryz.func138, Tryz.ntmps138
 go_upto_region 1 with fail
 obtain ⟨w2, hw2, HB, m0, m1, m2, m3, m4, m5, m6⟩ := boxes2 27 68 s0 s1 s2 s3 s4 (.slice A0 n c0) (.slice A1 n1 c1) w
 rw [hw2]
 clear hw2
 have HM1 := Lib.hid (HM.out.below HB.out)
 have HT1 := Lib.hid (HT.out.below HB.out)
 have HB1 := Lib.hid (HS1.out.below HB.out)
 have HB2 := Lib.hid (HS2.out.below HB.out)
 refine at_world (w := w2) ?_
 intro u0
 have HL6 := Lib.hid (show (placesN 36 M.nodes M.nodes.length).length ≤ 1048576 from Nat.le_trans (placesN_le _ _ _) HSZ.out)
 have HL5 := Lib.hid (show (placesN 35 M.nodes M.nodes.length).length ≤ 1048576 from Nat.le_trans (placesN_le _ _ _) HSZ.out)
 have HK6 := Lib.hid (bits8_of (kind := 36) (.inl rfl) HSH.out.code)
 have HK5 := Lib.hid (bits8_of (kind := 35) (.inr rfl) HSH.out.code)
 obtain ⟨b0, o0, rfl, hx0⟩ := hA0 k _ hg0
 obtain ⟨b1, o1, rfl, hx1⟩ := hA1 k _ hg1
 generalize Ss.getD k 0 = x at *
 generalize Is.getD k 0 = y at *
 have HR0 := Lib.hid hr0
 have HR1 := Lib.hid hr1
 have p0 : ∀ l : Later w2, l.val.cell? ⟨b0, o0 + k, none⟩ = some (.int .i64 x) := hx0.int HB.out
 have p1 : ∀ l : Later w2, l.val.cell? ⟨b1, o1 + k, none⟩ = some (.int .i64 y) := hx1.int HB.out
 have hlt0 : (k : Int) < n := by omega
 have hlt1 : (k : Int) < n1 := by omega
 clear hx0 hx1 hg0 hg1 hA0 hA1 hr0 hr1
 go_upto_region 1 with fail
 go_region_held3 (fun w' => w'.cell? ⟨w.heap.size, 0, none⟩ = some s0 ∧ w'.cell? ⟨w.heap.size, 1, none⟩ = some s1 ∧ w'.cell? ⟨w.heap.size, 2, none⟩ = some s2 ∧ w'.cell? ⟨w.heap.size, 3, none⟩ = some s3 ∧ w'.cell? ⟨w.heap.size, 4, none⟩ = some s4 ∧ w'.cell? ⟨w.heap.size + 1, 0, none⟩ = some (.slice (some ⟨b0, o0, none⟩) n c0) ∧ w'.cell? ⟨w.heap.size + 1, 1, none⟩ = some (.slice (some ⟨b1, o1, none⟩) n1 c1) ∧ w'.cell? ⟨b0, o0 + k, none⟩ = some (.int .i64 x) ∧ w'.cell? ⟨b1, o1 + k, none⟩ = some (.int .i64 y)) (exact ⟨lf m0, lf m1, lf m2, lf m3, lf m4, lf m5, lf m6, lf p0, lf p1⟩) (first | (go_at_call 116; (with_reducible refine (l2Places_calls _ M 36 _ (HM1.out.below (lcb (w1 := w2))) HSZ.out).mono ?_); rintro e w' ⟨pv6, rfl, hb, hown⟩; (first | (have HO6 := Lib.hid (HO6.out.below hb)) | skip); (first | (have HO5 := Lib.hid (HO5.out.below hb)) | skip); (first | (have HV1 := Lib.hid (HV1.out.below hb)) | skip); (first | (have HV2 := Lib.hid (HV2.out.below hb)) | skip); (first | (have HEV := Lib.hid (HEV.out.below hb)) | skip); have HO6 := Lib.hid (places_slN hown HSZ.out); clear hown; obtain ⟨vp6, hvp6⟩ := laterC_step (w1 := w2) lcx hb; subst hvp6; clear hb) | (go_at_call 116; (with_reducible refine (l2Places_calls _ M 35 _ (HM1.out.below (lcb (w1 := w2))) HSZ.out).mono ?_); rintro e w' ⟨pv5, rfl, hb, hown⟩; (first | (have HO6 := Lib.hid (HO6.out.below hb)) | skip); (first | (have HO5 := Lib.hid (HO5.out.below hb)) | skip); (first | (have HV1 := Lib.hid (HV1.out.below hb)) | skip); (first | (have HV2 := Lib.hid (HV2.out.below hb)) | skip); (first | (have HEV := Lib.hid (HEV.out.below hb)) | skip); have HO5 := Lib.hid (places_slN hown HSZ.out); clear hown; obtain ⟨vp5, hvp5⟩ := laterC_step (w1 := w2) lcx hb; subst hvp5; clear hb) | (go_at_call 136; (with_reducible refine (l5Unpack_calls _ pv6 M (placesN 36 M.nodes M.nodes.length) x _ (HM1.out.below (lcb (w1 := w2))) (HO6.out.below bdx) (placesN_InN _ _) HL6.out HK6.out HR0.out.1 HR0.out.2).mono ?_); rintro e w' ⟨uv6, us6, rfl, hb, hac⟩; (first | (have HO6 := Lib.hid (HO6.out.below hb)) | skip); (first | (have HO5 := Lib.hid (HO5.out.below hb)) | skip); (first | (have HV1 := Lib.hid (HV1.out.below hb)) | skip); (first | (have HV2 := Lib.hid (HV2.out.below hb)) | skip); (first | (have HEV := Lib.hid (HEV.out.below hb)) | skip); have HV1 := Lib.hid (show VlAt w' uv6 (unpackN M.nodes (placesN 36 M.nodes M.nodes.length) x (placesN 36 M.nodes M.nodes.length).length) from hac.vlAt (by rw [unpackN_length]; have := HL6.out; omega)); clear hac; obtain ⟨vu6, hvu6⟩ := laterC_step (w1 := w2) lcx hb; subst hvu6; clear hb) | (go_at_call 136; (with_reducible refine (l5Unpack_calls _ pv5 M (placesN 35 M.nodes M.nodes.length) y _ (HM1.out.below (lcb (w1 := w2))) (HO5.out.below bdx) (placesN_InN _ _) HL5.out HK5.out HR1.out.1 HR1.out.2).mono ?_); rintro e w' ⟨uv5, us5, rfl, hb, hac⟩; (first | (have HO6 := Lib.hid (HO6.out.below hb)) | skip); (first | (have HO5 := Lib.hid (HO5.out.below hb)) | skip); (first | (have HV1 := Lib.hid (HV1.out.below hb)) | skip); (first | (have HV2 := Lib.hid (HV2.out.below hb)) | skip); (first | (have HEV := Lib.hid (HEV.out.below hb)) | skip); have HV2 := Lib.hid (show VlAt w' uv5 (unpackN M.nodes (placesN 35 M.nodes M.nodes.length) y (placesN 35 M.nodes M.nodes.length).length) from hac.vlAt (by rw [unpackN_length]; have := HL5.out; omega)); clear hac; obtain ⟨vu5, hvu5⟩ := laterC_step (w1 := w2) lcx hb; subst hvu5; clear hb))
 all_goals go_wp2
 all_goals go_ret2
 all_goals exact ⟨uv6, uv5, rfl, vu5.back HB.out, by rw [HMS.out]; exact HV1.out, by rw [HMI.out]; exact HV2.out⟩
theorem l4Bound_calls (sv : Value) (xs : List Bd) (st : Int) (w : World) (hS : SlAt enBd w sv xs) :
 Makes Tryz.prog 117 #[sv, .int .i64 st] w (.int .i64 (bdN st xs)) := by
 obtain ⟨A, c, rfl, hnc, hc', hA⟩ := hS
 have HAT := Lib.hid (show ∀ k, k < xs.length → (∀ j, j < k → (xs.getD j Bd.zero).st ≠ st) → (xs.getD k Bd.zero).st = st → bdN st xs = (xs.getD k Bd.zero).nd from fun k => bd_at)
 have HNO := Lib.hid (show (∀ j, j < xs.length → (xs.getD j Bd.zero).st ≠ st) → bdN st xs = -1 from bd_none)
 generalize bdN st xs = R at *
 generalize hN : xs.length = n at *
 have HN := Lib.hid hN
 clear hN
 have hn : n ≤ 281474976710656 := Nat.le_trans hnc hc'
 clear hc' hnc
 go_enter Tryz.func117, Tryz.ntmps117
 go_wp2
 go_loopw [5] (fun i wr => ∃ k : Nat, k ≤ n ∧ i = .int .i64 k ∧ Hid (∀ j, j < k → (xs.getD j Bd.zero).st ≠ st) ∧ LaterC w wr) (fun i _ => n - (intOf i).toNat)
 case atStart => exact ⟨0, Nat.zero_le _, rfl, Lib.hid (fun j hj => absurd hj (Nat.not_lt_zero _)), LaterC.refl w⟩
 case round =>
  obtain ⟨k, hk, rfl, hto, ⟨u, rfl⟩⟩ := hrel
  by_cases hlt : k < n
  · have hlt' : (k : Int) < n := by omega
    have hget := getD_at (show k < xs.length by rw [HN.out]; exact hlt) Bd.zero
    obtain ⟨b, o, rfl, hx⟩ := hA k _ hget
    have p0 : ∀ l : Later w, l.val.cell? ⟨b, o + k * 2, none⟩ = some (.int .i64 (xs.getD k Bd.zero).st) := hx.at_ (Below.refl _ _) 0 _ rfl
    have p1 : ∀ l : Later w, l.val.cell? ⟨b, o + k * 2 + 1, none⟩ = some (.int .i64 (xs.getD k Bd.zero).nd) := hx.at_ (Below.refl _ _) 1 _ rfl
    generalize hxe : (xs.getD k Bd.zero).st = x at p0
    generalize hye : (xs.getD k Bd.zero).nd = y at p1
    have HX := Lib.hid hxe
    by_cases heq : x = st
    · have HR := Lib.hid ((HAT.out k hlt hto.out (hxe.trans heq)).trans hye)
      clear hx hget hxe hye hA hto
      subst heq
      go_wp2
      go_ret
      exact ⟨ret_eq (congrArg (Value.int .i64) HR.out.symm), u.prop⟩
    · have HTO := Lib.hid (show ∀ j, j < k + 1 → (xs.getD j Bd.zero).st ≠ st from fun j hj => by
       rcases Nat.lt_or_ge j k with g | g
       · exact hto.out j g
       · obtain rfl : j = k := by omega
         rw [HX.out]; exact heq)
      have hne : (x == st) = false := by simpa using heq
      clear hx hget hxe hye hA hto
      go_wp2
      go_roundw
      case rel => exact ⟨k + 1, by omega, by go_num, HTO, ⟨u, rfl⟩⟩
      case measure => simp [intOf] <;> omega
  · obtain rfl : k = n := by omega
    have HR := Lib.hid (HNO.out hto.out)
    clear hA hto
    go_wp2
    go_ret
    exact ⟨ret_eq (congrArg (Value.int .i64) HR.out.symm), u.prop⟩
theorem accI_len {lo : Nat} {w : World} {v : Value} {xs : List Int} (h : AccI lo w v xs) : ∃ A c, v = Value.slice A xs.length c := by
 rcases h.2 with h0 | ⟨g, cap, cur, hv, hg, r⟩
 · exact ⟨none, 0, by rw [h0.1, h0.2]⟩
 · exact ⟨_, _, hv⟩
theorem wideN_len {c : Nat} {xs : List Int} (h : xs.length ≤ c) : (wideN c xs).length = c := by
 unfold wideN
 rw [List.length_append, List.length_replicate]
 omega
theorem wideN_succ {c : Nat} {xs : List Int} (h : xs.length ≤ c) : wideN (c + 1) xs = wideN c xs ++ [xs.getD 0 0] := by
 unfold wideN
 rw [List.append_assoc, show c + 1 - xs.length = (c - xs.length) + 1 by omega, List.replicate_succ']
theorem wideN_max {c d : Nat} {xs : List Int} (h1 : d ≤ c) (h2 : c ≤ d ∨ c = xs.length) : wideN c xs = wideN d xs := by
 rcases h2 with h2 | h2
 · rw [show c = d by omega]
 · rw [wideN_self (by omega), wideN_self (by omega)]
theorem push_done2 {w2 w4 W3 wn : World} {B g cap n : Nat} {T : TypeId} {cv : Value} {ys : List Int} (hO : OwnB w4 B T #[cv]) (hL : LaterC w2 w4) (hG : w2.heap.size ≤ B) (hb3 : Below w4.heap.size w4 W3) (hne : ∀ b, cv.ownBlock = some b → b ≠ B ∧ w2.heap.size ≤ b) (hgr : W3.grownBy wn cv.ownBlock)
 (hat : cv.ownBlock = some g ∨ g = W3.heap.size) (hac : AccI w2.heap.size wn (.slice (some ⟨g, 0, none⟩) n cap) ys) :
 OwnB (wn.setCell ⟨B, 0, none⟩ (.slice (some ⟨g, 0, none⟩) n cap)) B T #[.slice (some ⟨g, 0, none⟩) n cap] ∧ AccI w2.heap.size (wn.setCell ⟨B, 0, none⟩ (.slice (some ⟨g, 0, none⟩) n cap)) (.slice (some ⟨g, 0, none⟩) n cap) ys ∧ LaterC w2 (wn.setCell ⟨B, 0, none⟩ (.slice (some ⟨g, 0, none⟩) n cap)) ∧ ∀ b, (Value.slice (some ⟨g, 0, none⟩) n cap).ownBlock = some b → b ≠ B ∧ w2.heap.size ≤ b := by
 have hO3 := hO.below hb3 hO.lt
 have hOn : OwnB wn B T #[cv] := hO3.but (But.of_grown hgr) fun e => (hne B e.symm).1 rfl
 have hL3 := laterC_step hL hb3
 have hgB : B ≠ g := by
  rcases hat with e | e
  · exact fun h => (hne g e).1 h.symm
  · have := hO3.lt; omega
 refine ⟨hOn.set 0 _, owns_but hac (S := (· = B)) (But.setCell (S := (· = B)) (But.refl _ _) rfl _) (fun b hb e => hgB (by simp [Value.ownBlock] at hb; omega)), ?_, fun b hb => ⟨fun e => hgB (by simp [Value.ownBlock] at hb; omega), (hac.lt b hb).1⟩⟩
 have hLn : LaterC w2 wn := .of (hL3.below.trans ((But.of_grown hgr).below (fun k hk => (hne k hk.symm).2) hL3.size))
 exact LaterC.setCell' hLn _ _ hG
def WideAt (w2 wr : World) (G : Nat) (cv : Value) (ys : List Int) : Prop :=
 OwnB wr G 40 #[cv] ∧ AccI w2.heap.size wr cv ys ∧ LaterC w2 wr ∧ ∀ b, cv.ownBlock = some b → b ≠ G ∧ w2.heap.size ≤ b
theorem wide_start {w2 w3 : World} {cv : Value} {ys : List Int} (hL : LaterC w2 w3) (hb : ∃ w4, Below w4.heap.size w4 w3 ∧ w2.heap.size ≤ w4.heap.size ∧ AccI w4.heap.size w3 cv ys) :
 WideAt w2 (w3.alloc (.cells #[cv] 40)) w3.heap.size cv ys := by
 obtain ⟨w4, h1, h2, h3⟩ := hb
 exact ⟨OwnB.new _ _ _, (h3.mono h2).alloc _, LaterC.alloc' hL _, fun b hb => by have := h3.lt b hb; omega⟩
theorem l4Wide_calls (sv : Value) (xs : List Int) (m : Nat) (w : World) (hS : SlN enI w sv xs) (h0 : 0 < xs.length) (hl : xs.length ≤ 1048576) (hm : m ≤ 1048576) :
 Calls Tryz.prog 121 #[.agg #[sv], .int .i64 (m : Int)] w fun e w' => NewV w.heap.size w e w' (wideN m xs) := by
 have HS := Lib.hid hS
 obtain ⟨A, c, rfl, hnc, hc', hA⟩ := hS
 obtain ⟨bx, ox, rfl, hx⟩ := hA 0 _ (getD_at h0 0)
 have hx : w.cell? ⟨bx, ox, none⟩ = some (.int .i64 (xs.getD 0 0)) := by simpa using hx 0 _ rfl
 clear hA
 generalize hn : xs.length = n at *
 have HN := Lib.hid hn
 generalize hx0 : xs.getD 0 0 = x0 at *
 have HX0 := Lib.hid hx0
 clear hn hx0
 unfold NewV
 go_enter Tryz.func121, Tryz.ntmps121
 go_upto_region 1 with fail
 generalize hw2 : (w.alloc (Obj.cells #[.slice (some ⟨bx, ox, none⟩) n c] 40)).alloc (Obj.cells #[.slice none 0 0] 40) = w2
 have y0 : ∀ u : Later w2, u.val.cell? ⟨w.heap.size, 0, none⟩ = some (.slice (some ⟨bx, ox, none⟩) n c) := Later.cell (by rw [← hw2]; simp)
 have y1 : ∀ u : Later w2, u.val.frozen? ⟨w.heap.size + 1, 0, none⟩ = false := Later.frozen (by rw [← hw2]; simp) (by rw [← hw2]; simp)
 have y2 : ∀ u : Later w2, u.val.cell? ⟨w.heap.size + 1, 0, none⟩ = some (.slice none 0 0) := Later.cell (by rw [← hw2]; simp)
 have HG := Lib.hid (show w2.heap.size = w.heap.size + 2 by rw [← hw2]; simp)
 have HB := Lib.hid (show Below w.heap.size w w2 by rw [← hw2]; exact ((Below.refl _ _).alloc (Nat.le_refl _) _).alloc (by simp) _)
 have y3 : ∀ u : Later w2, u.val.cell? ⟨bx, ox, none⟩ = some (.int .i64 x0) := Later.cell (keepcell HB.out hx)
 clear hw2 hx
 refine at_world (w := w2) ?_
 intro u1
 go_upto_region 2 with (go_at_call 181; refine (l4CopyA_calls _ xs _ (HS.out.below (u1.back HB.out)) (by rw [HN.out]; exact hl)).mono ?_; rintro e w3 ⟨s, rfl, hb, ha⟩; obtain ⟨sA, sc, hsA⟩ := accI_len ha; rw [HN.out] at hsA; subst hsA; have HD := Lib.hid (wide_start (w2 := w2) (later_step u1 hb) ⟨_, hb, u1.size, ha⟩); have HGL := Lib.hid (show w2.heap.size ≤ w3.heap.size from Nat.le_trans u1.size hb.size); clear hb ha)
 generalize w3.alloc (Obj.cells #[.slice sA n sc] 40) = w4 at *
 generalize w3.heap.size = G at *
 go_loopg [] (m - n) (fun r wr => ∃ (j : Nat) (cA : Option Addr) (cc : Nat), n ≤ j ∧ r = m - j ∧ (j ≤ m ∨ j = n) ∧ Hid (WideAt w2 wr G (.slice cA j cc) (wideN j xs)))
 case atStart => exact ⟨n, sA, sc, Nat.le_refl _, rfl, .inr rfl, by rw [wideN_self (by rw [HN.out]; exact Nat.le_refl _)]; exact HD⟩
 case round =>
  obtain ⟨j, cA, cc, hnj, rfl, hjm, HR⟩ := hrel
  by_cases hlt : j < m
  · have hlt' : (j : Int) < m := by omega
    have HTK := Lib.hid (show wideN (j + 1) xs = wideN j xs ++ [x0] by rw [wideN_succ (by rw [HN.out]; exact hnj), HX0.out])
    have HTJ := Lib.hid (show (wideN j xs).length = j from wideN_len (by rw [HN.out]; exact hnj))
    have HTL := Lib.hid (show (wideN j xs).length ≤ 1048576 by rw [HTJ.out]; omega)
    have q0 : wr.cell? ⟨G, 0, none⟩ = some (.slice cA j cc) := HR.out.1.cell 0
    have z0 : wr.cell? ⟨w.heap.size, 0, none⟩ = some (.slice (some ⟨bx, ox, none⟩) n c) := by obtain ⟨l, hl⟩ := HR.out.2.2.1; rw [hl]; exact y0 l
    have z1 : wr.cell? ⟨bx, ox, none⟩ = some (.int .i64 x0) := by obtain ⟨l, hl⟩ := HR.out.2.2.1; rw [hl]; exact y3 l
    have q0a : ∀ o, (wr.alloc o).cell? ⟨G, 0, none⟩ = some (.slice cA j cc) := fun o => keepcell ((Below.refl _ _).alloc (Nat.le_refl _) o) q0
    have z0a : ∀ o, (wr.alloc o).cell? ⟨w.heap.size, 0, none⟩ = some (.slice (some ⟨bx, ox, none⟩) n c) := fun o => keepcell ((Below.refl _ _).alloc (Nat.le_refl _) o) z0
    have z1a : ∀ o, (wr.alloc o).cell? ⟨bx, ox, none⟩ = some (.int .i64 x0) := fun o => keepcell ((Below.refl _ _).alloc (Nat.le_refl _) o) z1
    have HQ4 := Lib.hid (show ∀ W, Below wr.heap.size wr W → W.cell? ⟨G, 0, none⟩ = some (.slice cA j cc) from fun W h => keepcell h q0)
    have HLO4 := Lib.hid (show w2.heap.size ≤ wr.heap.size from HR.out.2.2.1.size)
    have HGW := Lib.hid (show G < wr.heap.size from HR.out.1.lt)
    have HNE := Lib.hid HR.out.2.2.2
    clear y0 y1 y2 y3
    go_wp2
    go_region_law ((refine step_append_int (by rfl) _ _ (by rfl) w2.heap.size wr _ wr.heap.size _ x0 _ j HTJ.out (by rfl) HR.out.2.1 HLO4.out HTL.out bax (heap_alloc_new wr _) (by rfl) ?_; intro g cap wn hac hgrow hat; have HPD := Lib.hid (push_done2 (B := G) (ys := wideN (j + 1) xs) HR.out.1 HR.out.2.2.1 HGL.out bax HNE.out hgrow hat (by rw [HTK.out]; exact hac)); have q1 : wn.cell? ⟨G, 0, none⟩ = some (.slice cA j cc) := (hgrow.cell_far _ (by have := HGW.out; simp; omega) (fun e => (HNE.out _ e.symm).1 rfl)).trans (HQ4.out _ bax); have f1 : wn.frozen? ⟨G, 0, none⟩ = false := (hgrow.frozen_far _ (by have := HGW.out; simp; omega) (fun e => (HNE.out _ e.symm).1 rfl)).trans ((HR.out.1.below bax HR.out.1.lt).frozen 0); clear hac hgrow hat))
    all_goals
     go_wp2
     go_roundg (m - (j + 1))
     case measure => omega
     case rel => exact ⟨j + 1, _, _, by omega, rfl, by omega, Lib.hid HPD.out⟩
  · have HTF := Lib.hid (show wideN j xs = wideN m xs from wideN_max (by omega) (by rcases hjm with h | h; exact .inl h; exact .inr (by rw [HN.out]; exact h)))
    have HTJ := Lib.hid (show (wideN j xs).length ≤ 1048576 by rw [wideN_len (by rw [HN.out]; exact hnj)]; omega)
    have hge : ((j : Int) < m) = False := eq_false (by omega)
    have q0 : wr.cell? ⟨G, 0, none⟩ = some (.slice cA j cc) := HR.out.1.cell 0
    have f0 : wr.frozen? ⟨w.heap.size + 1, 0, none⟩ = false := by obtain ⟨l, hl⟩ := HR.out.2.2.1; rw [hl]; exact y1 l
    have f1 : wr.cell? ⟨w.heap.size + 1, 0, none⟩ = some (.slice none 0 0) := by obtain ⟨l, hl⟩ := HR.out.2.2.1; rw [hl]; exact y2 l
    clear y0 y1 y2 y3
    go_wp2
    have hbut : But (· = w.heap.size + 1) wr (wr.setCell ⟨w.heap.size + 1, 0, none⟩ (.slice cA j cc)) := But.setCell (S := (· = w.heap.size + 1)) (But.refl _ _) rfl _
    have hne : ∀ b, (Value.slice cA j cc).ownBlock = some b → ¬ b = w.heap.size + 1 := fun b hb e => by have := (HR.out.2.1.lt b hb).1; have := HG.out; omega
    have hac := owns_but HR.out.2.1 hbut hne
    rw [HTF.out] at hac
    have rc : (wr.setCell ⟨w.heap.size + 1, 0, none⟩ (.slice cA j cc)).cell? ⟨w.heap.size + 1, 0, none⟩ = some (.slice cA j cc) := World.cell?_setCell_same _ _ _ f1
    refine bodyPost_ret (v := .agg #[.slice cA j cc]) (by simp [results, Tryz.results121, go_sem, rc]) rfl ?_
    exact ⟨_, rfl, (HB.out.trans ((LaterC.below HR.out.2.2.1).mono HB.out.size)).setCell (by simp) _, accI_rowI hac (by rw [← HTF.out]; have := HTJ.out; omega), fun b hb => by have := (HR.out.2.1.lt b hb).1; have := HG.out; omega⟩
theorem index_calls (sv : Value) (xs : List Int) (x : Int) (w : World) (hS : SlN enI w sv xs) :
 Makes Tryz.prog 189 #[sv, .int .i64 x] w (.int .i64 (firstN (fun y => y == x) xs)) := by
 obtain ⟨A, c, rfl, hnc, hn, hA⟩ := hS
 have HAT := Lib.hid (show ∀ k, k < xs.length → (∀ j, j < k → (xs.getD j 0 == x) = false) → (xs.getD k 0 == x) = true → firstN (fun y => y == x) xs = k from fun k => first_at (p := fun y => y == x))
 have HNO := Lib.hid (show (∀ j, j < xs.length → (xs.getD j 0 == x) = false) → firstN (fun y => y == x) xs = -1 from first_none (p := fun y => y == x))
 generalize firstN (fun y => y == x) xs = R at *
 generalize hN : xs.length = n at *
 have HN := Lib.hid hN
 clear hN hnc
 go_enter Tryz.func189, Tryz.ntmps189
 go_wp2
 go_loopw [8] (fun i wr => ∃ k : Nat, k ≤ n ∧ i = .int .i64 k ∧ Hid (∀ j, j < k → (xs.getD j 0 == x) = false) ∧ LaterC w wr) (fun i _ => n - (intOf i).toNat)
 case atStart => exact ⟨0, Nat.zero_le _, rfl, Lib.hid (fun j hj => absurd hj (Nat.not_lt_zero _)), LaterC.refl _⟩
 case round =>
  obtain ⟨k, hk, rfl, hto, ⟨u, rfl⟩⟩ := hrel
  by_cases hlt : k < n
  · have hlt' : (k : Int) < n := by omega
    have hget := getD_at (show k < xs.length by rw [HN.out]; exact hlt) 0
    obtain ⟨g, o, rfl, hx⟩ := hA k _ hget
    generalize hxe : xs.getD k 0 = y at *
    have HX := Lib.hid hxe
    have p0 : ∀ l : Later w, l.val.cell? ⟨g, o + k, none⟩ = some (.int .i64 y) := hx.int (Below.refl _ _)
    clear hx hA hxe hget
    by_cases hv : y = x
    · have HR := Lib.hid (HAT.out k hlt hto.out (by rw [HX.out, hv]; simp))
      subst hv
      clear hto
      go_wp2
      go_ret
      exact ⟨ret_eq (congrArg (Value.int .i64) HR.out.symm), u.prop⟩
    · have hne : (x == y) = false := by simpa using fun e => hv e.symm
      have HTO := Lib.hid (show ∀ j, j < k + 1 → (xs.getD j 0 == x) = false from fun j hj => by
       rcases Nat.lt_or_ge j k with g | g
       · exact hto.out j g
       · obtain rfl : j = k := by omega
         rw [HX.out]; simpa using hv)
      clear hv hto
      go_wp2
      go_roundw
      case rel => exact ⟨k + 1, by omega, by go_num, HTO, ⟨u, rfl⟩⟩
      case measure => simp [intOf] <;> omega
  · obtain rfl : k = n := by omega
    have HR := Lib.hid (HNO.out hto.out)
    clear hA hto
    go_wp2
    go_ret
    exact ⟨ret_eq (congrArg (Value.int .i64) HR.out.symm), u.prop⟩
theorem WideAt.below {w2 wr w' : World} {G : Nat} {cv : Value} {ys : List Int} (h : WideAt w2 wr G cv ys) (hb : Below wr.heap.size wr w') : WideAt w2 w' G cv ys :=
 ⟨h.1.below hb h.1.lt, ownsRow_below h.2.1 hb, laterC_step h.2.2.1 hb, h.2.2.2⟩
theorem spread_calls (i a : Int) (sv : Value) (xs : List Int) (w : World) (hS : SlN enI w sv xs) (h0 : 0 < xs.length) (hl : xs.length ≤ 1048576) :
 Calls Tryz.prog 187 #[.agg #[.int .i64 i, .int .i64 a], .agg #[sv]] w fun e w' => NewV w.heap.size w e w' (wideN (cellsN i a).toNat xs) := by
 have hcb := cells_bits i a
 obtain ⟨m, hm⟩ := Int.eq_ofNat_of_zero_le hcb.2.2.1
 have hm4 : m ≤ 4 := by omega
 have HC := Lib.hid hm
 rw [hm, Int.toNat_natCast]
 clear hcb hm
 have HS := Lib.hid hS
 obtain ⟨A, c, rfl, hnc, hc', hA⟩ := hS
 obtain ⟨bx, ox, rfl, hx⟩ := hA 0 _ (getD_at h0 0)
 have hx : w.cell? ⟨bx, ox, none⟩ = some (.int .i64 (xs.getD 0 0)) := by simpa using hx 0 _ rfl
 clear hA
 generalize hn : xs.length = n at *
 have HN := Lib.hid hn
 generalize hx0 : xs.getD 0 0 = x0 at *
 have HX0 := Lib.hid hx0
 clear hn hx0
 unfold NewV
 go_enter Tryz.func187, Tryz.ntmps187
 go_upto_region 1 with fail
 generalize hw2 : ((w.alloc (Obj.cells #[.int .i64 i, .int .i64 a] 34)).alloc (Obj.cells #[.slice (some ⟨bx, ox, none⟩) n c] 40)).alloc (Obj.cells #[.slice none 0 0] 40) = w2
 have x0' : ∀ u : Later w2, u.val.cell? ⟨w.heap.size, 0, none⟩ = some (.int .i64 i) := Later.cell (by rw [← hw2]; clear hw2; go_simp)
 have x1' : ∀ u : Later w2, u.val.cell? ⟨w.heap.size, 1, none⟩ = some (.int .i64 a) := Later.cell (by rw [← hw2]; clear hw2; go_simp)
 have y0 : ∀ u : Later w2, u.val.cell? ⟨w.heap.size + 1, 0, none⟩ = some (.slice (some ⟨bx, ox, none⟩) n c) := Later.cell (by rw [← hw2]; clear hw2; go_simp)
 have y1 : ∀ u : Later w2, u.val.frozen? ⟨w.heap.size + 1 + 1, 0, none⟩ = false := Later.frozen (by rw [← hw2]; clear hw2; go_simp) (by rw [← hw2]; clear hw2; simp)
 have y2 : ∀ u : Later w2, u.val.cell? ⟨w.heap.size + 1 + 1, 0, none⟩ = some (.slice none 0 0) := Later.cell (by rw [← hw2]; clear hw2; go_simp)
 have HG := Lib.hid (show w2.heap.size = w.heap.size + 3 by rw [← hw2]; simp [Nat.add_assoc])
 have HB := Lib.hid (show Below w.heap.size w w2 by rw [← hw2]; exact (((Below.refl _ _).alloc (Nat.le_refl _) _).alloc (by simp) _).alloc (by simp [Nat.add_assoc]) _)
 have y3 : ∀ u : Later w2, u.val.cell? ⟨bx, ox, none⟩ = some (.int .i64 x0) := Later.cell (keepcell HB.out hx)
 clear hw2 hx
 refine at_world (w := w2) ?_
 intro u1
 go_upto_region 2 with (go_at_call 146; refine (cloneIntsA_calls _ xs _ (HS.out.below (u1.back HB.out)) (by rw [HN.out]; exact h0) (by rw [HN.out]; exact hl)).mono ?_; rintro e w3 ⟨s, rfl, hb, ha⟩; obtain ⟨sA, sc, hsA⟩ := accI_len ha; rw [HN.out] at hsA; subst hsA; have HD := Lib.hid (wide_start (w2 := w2) (later_step u1 hb) ⟨_, hb, u1.size, ha⟩); have HGL := Lib.hid (show w2.heap.size ≤ w3.heap.size from Nat.le_trans u1.size hb.size); clear hb ha)
 generalize w3.alloc (Obj.cells #[.slice sA n sc] 40) = w4 at *
 generalize w3.heap.size = G at *
 go_loopg [] (m - n) (fun r wr => ∃ (j : Nat) (cA : Option Addr) (cc : Nat), n ≤ j ∧ r = m - j ∧ (j ≤ m ∨ j = n) ∧ Hid (WideAt w2 wr G (.slice cA j cc) (wideN j xs)))
 case atStart => exact ⟨n, sA, sc, Nat.le_refl _, rfl, .inr rfl, by rw [wideN_self (by rw [HN.out]; exact Nat.le_refl _)]; exact HD⟩
 case round =>
  obtain ⟨j, cA, cc, hnj, rfl, hjm, HR⟩ := hrel
  have q0 : ∀ l : Later wr, l.val.cell? ⟨G, 0, none⟩ = some (.slice cA j cc) := Later.cell (HR.out.1.cell 0)
  have s0 : ∀ l : Later wr, l.val.cell? ⟨w.heap.size, 0, none⟩ = some (.int .i64 i) := lift_cell HR.out.2.2.1 x0'
  have s1 : ∀ l : Later wr, l.val.cell? ⟨w.heap.size, 1, none⟩ = some (.int .i64 a) := lift_cell HR.out.2.2.1 x1'
  go_wp2
  refine wp_region_later (w0 := wr) (by kernel_rfl) (by kernel_rfl) (LaterC.refl _) ?_
  repeat (go_big_quiet_step ((go_at_call 19; exact Calls.later_eq (SortCells'_calls i a _) (congrArg (Value.int .i64) HC.out))))
  refine wpQuiet_nil ?_
  rintro _ ⟨u2, rfl⟩
  have HR := Lib.hid (HR.out.below u2.prop)
  generalize u2.val = wr at *
  clear q0 s0 s1
  by_cases hlt : j < m
  · have hlt' : (j : Int) < m := by omega
    have HTK := Lib.hid (show wideN (j + 1) xs = wideN j xs ++ [x0] by rw [wideN_succ (by rw [HN.out]; exact hnj), HX0.out])
    have HTJ := Lib.hid (show (wideN j xs).length = j from wideN_len (by rw [HN.out]; exact hnj))
    have HTL := Lib.hid (show (wideN j xs).length ≤ 1048576 by rw [HTJ.out]; omega)
    have q0 : wr.cell? ⟨G, 0, none⟩ = some (.slice cA j cc) := HR.out.1.cell 0
    have z0 : wr.cell? ⟨w.heap.size + 1, 0, none⟩ = some (.slice (some ⟨bx, ox, none⟩) n c) := by obtain ⟨l, hl⟩ := HR.out.2.2.1; rw [hl]; exact y0 l
    have z1 : wr.cell? ⟨bx, ox, none⟩ = some (.int .i64 x0) := by obtain ⟨l, hl⟩ := HR.out.2.2.1; rw [hl]; exact y3 l
    have q0a : ∀ o, (wr.alloc o).cell? ⟨G, 0, none⟩ = some (.slice cA j cc) := fun o => keepcell ((Below.refl _ _).alloc (Nat.le_refl _) o) q0
    have z0a : ∀ o, (wr.alloc o).cell? ⟨w.heap.size + 1, 0, none⟩ = some (.slice (some ⟨bx, ox, none⟩) n c) := fun o => keepcell ((Below.refl _ _).alloc (Nat.le_refl _) o) z0
    have z1a : ∀ o, (wr.alloc o).cell? ⟨bx, ox, none⟩ = some (.int .i64 x0) := fun o => keepcell ((Below.refl _ _).alloc (Nat.le_refl _) o) z1
    have HQ4 := Lib.hid (show ∀ W, Below wr.heap.size wr W → W.cell? ⟨G, 0, none⟩ = some (.slice cA j cc) from fun W h => keepcell h q0)
    have HLO4 := Lib.hid (show w2.heap.size ≤ wr.heap.size from HR.out.2.2.1.size)
    have HGW := Lib.hid (show G < wr.heap.size from HR.out.1.lt)
    have HNE := Lib.hid HR.out.2.2.2
    clear y0 y1 y2 y3 x0' x1'
    go_wp2
    go_region_law ((refine step_append_int (by rfl) _ _ (by rfl) w2.heap.size wr _ wr.heap.size _ x0 _ j HTJ.out (by rfl) HR.out.2.1 HLO4.out HTL.out bax (heap_alloc_new wr _) (by rfl) ?_; intro g cap wn hac hgrow hat; have HPD := Lib.hid (push_done2 (B := G) (ys := wideN (j + 1) xs) HR.out.1 HR.out.2.2.1 HGL.out bax HNE.out hgrow hat (by rw [HTK.out]; exact hac)); have q1 : wn.cell? ⟨G, 0, none⟩ = some (.slice cA j cc) := (hgrow.cell_far _ (by have := HGW.out; simp; omega) (fun e => (HNE.out _ e.symm).1 rfl)).trans (HQ4.out _ bax); have f1 : wn.frozen? ⟨G, 0, none⟩ = false := (hgrow.frozen_far _ (by have := HGW.out; simp; omega) (fun e => (HNE.out _ e.symm).1 rfl)).trans ((HR.out.1.below bax HR.out.1.lt).frozen 0); clear hac hgrow hat))
    all_goals
     go_wp2
     go_roundg (m - (j + 1))
     case measure => omega
     case rel => exact ⟨j + 1, _, _, by omega, rfl, by omega, Lib.hid HPD.out⟩
  · have HTF := Lib.hid (show wideN j xs = wideN m xs from wideN_max (by omega) (by rcases hjm with h | h; exact .inl h; exact .inr (by rw [HN.out]; exact h)))
    have HTJ := Lib.hid (show (wideN j xs).length ≤ 1048576 by rw [wideN_len (by rw [HN.out]; exact hnj)]; omega)
    have hge : ((j : Int) < m) = False := eq_false (by omega)
    have q0 : wr.cell? ⟨G, 0, none⟩ = some (.slice cA j cc) := HR.out.1.cell 0
    have f0 : wr.frozen? ⟨w.heap.size + 1 + 1, 0, none⟩ = false := by obtain ⟨l, hl⟩ := HR.out.2.2.1; rw [hl]; exact y1 l
    have f1 : wr.cell? ⟨w.heap.size + 1 + 1, 0, none⟩ = some (.slice none 0 0) := by obtain ⟨l, hl⟩ := HR.out.2.2.1; rw [hl]; exact y2 l
    clear y0 y1 y2 y3 x0' x1'
    go_wp2
    have hbut : But (· = w.heap.size + 1 + 1) wr (wr.setCell ⟨w.heap.size + 1 + 1, 0, none⟩ (.slice cA j cc)) := But.setCell (S := (· = w.heap.size + 1 + 1)) (But.refl _ _) rfl _
    have hne : ∀ b, (Value.slice cA j cc).ownBlock = some b → ¬ b = w.heap.size + 1 + 1 := fun b hb e => by have := (HR.out.2.1.lt b hb).1; have := HG.out; omega
    have hac := owns_but HR.out.2.1 hbut hne
    rw [HTF.out] at hac
    have rc : (wr.setCell ⟨w.heap.size + 1 + 1, 0, none⟩ (.slice cA j cc)).cell? ⟨w.heap.size + 1 + 1, 0, none⟩ = some (.slice cA j cc) := World.cell?_setCell_same _ _ _ f1
    refine bodyPost_ret (v := .agg #[.slice cA j cc]) (by simp [results, Tryz.results187, go_sem, rc]) rfl ?_
    exact ⟨_, rfl, (HB.out.trans ((LaterC.below HR.out.2.2.1).mono HB.out.size)).setCell (by simp; omega) _, accI_rowI hac (by rw [← HTF.out]; have := HTJ.out; omega), fun b hb => by have := (HR.out.2.1.lt b hb).1; have := HG.out; omega⟩
def Keeps (z : Value) (w w' : World) : Prop := ∀ b o v, w.cell? ⟨b, o, none⟩ = some v → v ≠ z → w'.cell? ⟨b, o, none⟩ = some v
theorem Keeps.trans {z : Value} {w w1 w2 : World} (h1 : Keeps z w w1) (h2 : Keeps z w1 w2) : Keeps z w w2 := fun b o v h hz => h2 b o v (h1 b o v h hz) hz
theorem Keeps.of_below {z : Value} {w w1 : World} (h : Below w.heap.size w w1) : Keeps z w w1 := fun b o v hc _ => (h.cell (World.block_lt_of_cell? _ _ hc)).trans hc
def RowZ (w : World) (base : Nat) (e : TypeId) (z v : Value) (n : Nat) (xs : List Value) : Prop :=
 xs.length = n ∧ ((v = .slice none 0 0 ∧ n = 0) ∨ ∃ g cap, v = .slice (some ⟨g, 0, none⟩) n cap ∧ base ≤ g ∧ w.heap[g]? = some (.cells (xs ++ List.replicate (cap - n) z).toArray e (0, 0)) ∧ n ≤ cap ∧ cap ≤ maxLen)
theorem RowZ.nil (w : World) (base : Nat) (e : TypeId) (z : Value) : RowZ w base e z (.slice none 0 0) 0 [] := ⟨rfl, .inl ⟨rfl, rfl⟩⟩
theorem RowZ.owns {w : World} {base : Nat} {e : TypeId} {z v : Value} {n : Nat} {xs : List Value} (h : RowZ w base e z v n xs) : w.ownsRow base e 1 v n xs := by
 obtain ⟨h1, h2⟩ := h
 refine ⟨by omega, ?_⟩
 rcases h2 with h2 | ⟨g, cap, h2, h3, h4, h5, h6⟩
 · exact .inl h2
 · refine .inr ⟨g, cap, _, h2, h3, h4, h5, h6, by simp; omega, ?_⟩
   rw [Nat.mul_one, ← h1]
   simp
theorem RowZ.below {w w' : World} {base : Nat} {e : TypeId} {z v : Value} {n : Nat} {xs : List Value} (h : RowZ w base e z v n xs) (hb : Below w.heap.size w w') : RowZ w' base e z v n xs := by
 obtain ⟨h1, h2⟩ := h
 refine ⟨h1, ?_⟩
 rcases h2 with h2 | ⟨g, cap, h2, h3, h4, h5⟩
 · exact .inl h2
 · exact .inr ⟨g, cap, h2, h3, (hb.block g (Array.getElem?_eq_some_iff.1 h4).1).trans h4, h5⟩
theorem zero_cells (z : Value) (k : Nat) : Builtin.zeroCells #[z] k = (List.replicate k z).toArray := by
 apply Array.ext
 · simp [Builtin.zeroCells]
 · intro i h1 h2
   simp [Builtin.zeroCells, Nat.mod_one]
theorem keeps_alloc (z : Value) (w : World) (o : Obj) : Keeps z w (w.drew.alloc o) := .of_below (((Below.refl _ _).drew).alloc (Nat.le_refl _) _)
theorem run_append_z {P : Program} (w : World) (base : Nat) (t ty e : TypeId) (i : TypeInfo) (zz z : Value) (ht : P.underlying t = some (.slice e)) (hi : P.info? e = some i) (hz : i.zero = some zz)
 (hsize : i.size = 1) (hzs : zz.cells = #[z]) (v : Value) (n : Nat) (xs : List Value) (hown : RowZ w base e z v n xs) (a : Addr) (c : Nat) (u : Value) (hu : w.cell? a = some u) (h1 : u.oneCell' = true)
 (h63 : n + 1 ≤ maxLen) (hbytes : (n + 1) * i.bytes ≤ 140737488355328) (hbase : base ≤ w.heap.size) :
 ∃ g cap w', (Builtin.append_ #[t, t] ty #[v, .slice (some a) 1 c]).run P w = .ok (.slice (some ⟨g, 0, none⟩) (n + 1) cap) w' ∧ RowZ w' base e z (.slice (some ⟨g, 0, none⟩) (n + 1) cap) (n + 1) (xs ++ [u]) ∧
  Keeps z w w' ∧ w.grownBy w' v.ownBlock ∧ (v.ownBlock = some g ∨ g = w.heap.size) := by
 have hsmall : n + 1 ≤ 9223372036854775807 := by simp only [maxLen] at h63; omega
 have hnews : ∀ j y, [u][j]? = some y → w.cell? (a.add j) = some y := fun j y hy => by
  obtain rfl : j = 0 := by have := (List.getElem?_eq_some_iff.1 hy).1; simpa using this
  simp at hy
  subst hy
  have : a.add 0 = a := by obtain ⟨b, o, p⟩ := a; unfold Addr.add; split <;> simp_all
  rw [this]; exact hu
 have hone : ∀ y ∈ [u], y.oneCell' = true := fun y hy => by simp at hy; subst hy; exact h1
 have grown : ∀ (old : Nat), old < n + 1 → ∀ (row : Option Nat),
  RowZ (w.drew.alloc (.cells (xs.toArray ++ [u].toArray ++ Builtin.zeroCells zz.cells (grownCap w (n + 1) old e - (n + 1))) e)) base e z (.slice (some ⟨w.heap.size, 0, none⟩) (n + 1) (grownCap w (n + 1) old e)) (n + 1) (xs ++ [u]) ∧
  w.grownBy (w.drew.alloc (.cells (xs.toArray ++ [u].toArray ++ Builtin.zeroCells zz.cells (grownCap w (n + 1) old e - (n + 1))) e)) row := by
  intro old ho row
  have hge := grownCap_ge w (n + 1) old e
  have hcm : grownCap w (n + 1) old e ≤ maxLen := grownCap_le_maxLen w (n + 1) old e h63
  refine ⟨⟨by simp [hown.1], .inr ⟨w.heap.size, _, rfl, hbase, ?_, hge, hcm⟩⟩, ⟨rfl, rfl, rfl, by simp, fun k hk _ => heap_alloc_old w.drew _ hk⟩⟩
  rw [hzs, zero_cells]
  rw [show xs.toArray ++ [u].toArray ++ (List.replicate (grownCap w (n + 1) old e - (n + 1)) z).toArray = (xs ++ [u] ++ List.replicate (grownCap w (n + 1) old e - (n + 1)) z).toArray by apply Array.ext'; simp]
  exact heap_alloc_new w.drew _
 rcases hown.2 with ⟨rfl, rfl⟩ | ⟨g, cap, rfl, hbg, hg, hnc, hcm⟩
 · have hx : xs = [] := List.eq_nil_of_length_eq_zero hown.1
   subst hx
   have hr := run_append_nil (P := P) w t ty e i zz ht hi hz a 1 c [u] (by rw [hsize]; rfl) hnews (by omega) (by omega) (by omega)
   have hgr := grown 0 (by omega) (Value.ownBlock (.slice none 0 0))
   simp only [List.nil_append, Array.empty_append, Nat.zero_add] at hgr ⊢
   exact ⟨_, _, _, hr, hgr.1, keeps_alloc _ _ _, hgr.2, .inr rfl⟩
 · by_cases hroom : n + 1 ≤ cap
   · have hl := hown.1
     have hr := run_append_room (P := P) w t ty e i ht hi g n cap _ hg a 1 c [u] (by rw [hsize]; rfl) hnews hone hroom (by rw [hsize]; simp; omega)
     rw [hsize, Nat.mul_one] at hr
     have hnew : (List.take n (xs ++ List.replicate (cap - n) z).toArray.toList ++ [u] ++ List.drop (n + [u].length) (xs ++ List.replicate (cap - n) z).toArray.toList).toArray = ((xs ++ [u]) ++ List.replicate (cap - (n + 1)) z).toArray := by
      congr 1
      rw [List.toList_toArray, List.take_append_of_le_length (by omega), List.take_of_length_le (by omega), List.drop_append, List.drop_eq_nil_of_le (by simp; omega), List.nil_append, List.drop_replicate]
      congr 2
      simp
      omega
     rw [hnew] at hr
     have hsr := setRow_heap w g _ ((xs ++ [u]) ++ List.replicate (cap - (n + 1)) z).toArray e _ hg
     refine ⟨_, _, _, hr, ⟨by simp [hl], .inr ⟨g, cap, rfl, hbg, hsr, hroom, hcm⟩⟩, ?_, ⟨rfl, rfl, rfl, by simp, fun k _ hk => setRow_other w g k _ (fun e => hk (by simp [Value.ownBlock, e]))⟩, .inl rfl⟩
     intro b o y hy hyz
     by_cases hbg : b = g
     · subst hbg
       rw [cell_of_row _ b o _ e (0, 0) hg] at hy
       rw [cell_of_row _ b o _ e (0, 0) hsr]
       simp only [List.getElem?_toArray] at hy ⊢
       rcases Nat.lt_trichotomy o n with ho | ho | ho
       · rw [List.getElem?_append_left (by omega)] at hy
         rw [List.append_assoc, List.getElem?_append_left (by omega)]
         exact hy
       · rw [List.getElem?_append_right (by omega), List.getElem?_replicate] at hy
         split at hy
         · exact absurd (Option.some.inj hy).symm hyz
         · cases hy
       · rw [List.getElem?_append_right (by omega), List.getElem?_replicate] at hy
         split at hy
         · exact absurd (Option.some.inj hy).symm hyz
         · cases hy
     · rw [World.cell?_of_block (w := w) (a := ⟨b, o, none⟩) (setRow_other w g b _ hbg)]
       exact hy
   · have holds : ∀ j y, xs[j]? = some y → w.cell? ((⟨g, 0, none⟩ : Addr).add j) = some y := hown.owns.cells (g := g) rfl
     have hr := run_append_grow (P := P) w t ty e i zz ht hi hz ⟨g, 0, none⟩ n cap xs (by rw [hsize, hown.1, Nat.mul_one]) holds a 1 c [u] (by rw [hsize]; rfl) hnews (by omega) (by omega) (growslice_fits (by omega) hbytes)
     have hgr := grown cap (by omega) (Value.ownBlock (.slice (some ⟨g, 0, none⟩) n cap))
     exact ⟨_, _, _, hr, hgr.1, keeps_alloc _ _ _, hgr.2, .inr rfl⟩
section
variable {P : Program} {ops : Array Oper} {o : Oper} {a : Act} {Q : Exit → Act → World → Prop}
theorem wp_append_z {K : Act → World → Prop} (w : World) (s x : Operand) (t : TypeId) (ho : o.op = .call { callee := .builtin .append, args := #[s, x], argTypes := #[t, t] })
 (base : Nat) (e : TypeId) (i : TypeInfo) (zz z : Value) (ht : P.underlying t = some (.slice e)) (hi : P.info? e = some i) (hz : i.zero = some zz) (hsize : i.size = 1) (hzs : zz.cells = #[z])
 (v : Value) (n : Nat) (xs : List Value) (hs : a.eval s = v) (hown : RowZ w base e z v n xs) (ad : Addr) (c : Nat) (u : Value) (hx : a.eval x = .slice (some ad) 1 c) (hu : w.cell? ad = some u) (h1 : u.oneCell' = true)
 (h63 : n + 1 ≤ maxLen) (hbytes : (n + 1) * i.bytes ≤ 140737488355328) (hbase : base ≤ w.heap.size)
 (h : ∀ g cap w', RowZ w' base e z (.slice (some ⟨g, 0, none⟩) (n + 1) cap) (n + 1) (xs ++ [u]) → Keeps z w w' → w.grownBy w' v.ownBlock → (v.ownBlock = some g ∨ g = w.heap.size) → K (a.put o.dst (.slice (some ⟨g, 0, none⟩) (n + 1) cap)) w') : o.wp P a w K Q := by
 obtain ⟨g, cap, w', hr, h2, h3, h4, h5⟩ := run_append_z (P := P) w base t o.type e i zz z ht hi hz hsize hzs v n xs hown ad c u hu h1 h63 hbytes hbase
 unfold Oper.wp execOp
 simp only [ho, resolve, invoke, builtin, Sem.run_bind, Sem.run_pure, Result.andThen_ok, List.map_toArray, List.map_cons, List.map_nil, hs, hx, hr]
 exact h g cap w' h2 h3 h4 h5
theorem wpList_append_z {rest : List Oper} (hgd : o.guard = none) (w : World) (s x : Operand) (t : TypeId) (ho : o.op = .call { callee := .builtin .append, args := #[s, x], argTypes := #[t, t] })
 (base : Nat) (e : TypeId) (i : TypeInfo) (zz z : Value) (ht : P.underlying t = some (.slice e)) (hi : P.info? e = some i) (hz : i.zero = some zz) (hsize : i.size = 1) (hzs : zz.cells = #[z])
 (v : Value) (n : Nat) (xs : List Value) (hs : a.eval s = v) (hown : RowZ w base e z v n xs) (ad : Addr) (c : Nat) (u : Value) (hx : a.eval x = .slice (some ad) 1 c) (hu : w.cell? ad = some u) (h1 : u.oneCell' = true)
 (h63 : n + 1 ≤ maxLen) (hbytes : (n + 1) * i.bytes ≤ 140737488355328) (hbase : base ≤ w.heap.size)
 (h : ∀ g cap w', RowZ w' base e z (.slice (some ⟨g, 0, none⟩) (n + 1) cap) (n + 1) (xs ++ [u]) → Keeps z w w' → w.grownBy w' v.ownBlock → (v.ownBlock = some g ∨ g = w.heap.size) → wpList P ops Q rest (a.put o.dst (.slice (some ⟨g, 0, none⟩) (n + 1) cap)) w') : wpList P ops Q (o :: rest) a w :=
 wpList_plain hgd fun _ hK => wp_append_z w s x t ho base e i zz z ht hi hz hsize hzs v n xs hs hown ad c u hx hu h1 h63 hbytes hbase fun g cap w' h2 h3 h4 h5 => hK _ _ (h g cap w' h2 h3 h4 h5)
end
theorem enI_int {x : Int} {f : Nat} {u : Value} (hu : (enI.cells x)[f]? = some u) : ∃ y, u = Value.int .i64 y := by
 rcases f with _ | f
 · exact ⟨x, (Option.some.inj hu).symm⟩
 · cases hu
theorem VlAt.keeps {w w' : World} {v : Value} {L : List (List Int)} (h : VlAt w v L) (hl : ∀ (i : Nat) (xs : List Int), L[i]? = some xs → 0 < xs.length) (hk : Keeps (.slice none 0 0) w w') : VlAt w' v L := by
 obtain ⟨A, c, hv, h1, h2, h3⟩ := h
 refine ⟨A, c, hv, h1, h2, fun i xs hx => ?_⟩
 obtain ⟨b, o, sv, hA, hc, ⟨B, d, rfl, g1, g2, g3⟩⟩ := h3 i xs hx
 have h0 := hl i xs hx
 obtain ⟨b0, o0, hB, -⟩ := g3 0 _ (getD_at h0 0)
 refine ⟨b, o, _, hA, hk b _ _ hc (by rw [hB]; simp), B, d, rfl, g1, g2, fun j x hj => ?_⟩
 obtain ⟨b', o', e, hq⟩ := g3 j x hj
 refine ⟨b', o', e, fun f u hu => ?_⟩
 obtain ⟨y, rfl⟩ := enI_int hu
 exact hk b' _ _ (hq f _ hu) (by simp)
def AccZ (lo : Nat) (w : World) (v : Value) (svs : List Value) (L : List (List Int)) : Prop :=
 RowZ w lo 40 (.slice none 0 0) v svs.length svs ∧ svs.length = L.length ∧ ∀ (i : Nat) (sv : Value) (xs : List Int), svs[i]? = some sv → L[i]? = some xs → SlN enI w sv xs ∧ 0 < xs.length
theorem AccZ.nil (lo : Nat) (w : World) : AccZ lo w (.slice none 0 0) [] [] := ⟨RowZ.nil _ _ _ _, rfl, fun i sv xs hi => by simp at hi⟩
theorem SlN.keeps {w w' : World} {sv : Value} {xs : List Int} (h : SlN enI w sv xs) (hk : Keeps (.slice none 0 0) w w') : SlN enI w' sv xs := by
 obtain ⟨B, d, hv, g1, g2, g3⟩ := h
 refine ⟨B, d, hv, g1, g2, fun j x hj => ?_⟩
 obtain ⟨b', o', e, hq⟩ := g3 j x hj
 refine ⟨b', o', e, fun f u hu => hk b' _ _ (hq f u hu) ?_⟩
 obtain ⟨y, rfl⟩ := enI_int hu
 simp
theorem AccZ.below {lo : Nat} {w w' : World} {v : Value} {svs : List Value} {L : List (List Int)} (h : AccZ lo w v svs L) (hb : Below w.heap.size w w') : AccZ lo w' v svs L :=
 ⟨h.1.below hb, h.2.1, fun i sv xs h1 h2 => ⟨(h.2.2 i sv xs h1 h2).1.below hb, (h.2.2 i sv xs h1 h2).2⟩⟩
theorem AccZ.vlAt {lo : Nat} {w : World} {v : Value} {svs : List Value} {L : List (List Int)} (h : AccZ lo w v svs L) (hl : L.length ≤ 281474976710656) : VlAt w v L := by
 obtain ⟨h1, h2, h3⟩ := h
 rcases h1.2 with ⟨rfl, h0⟩ | ⟨g, cap, rfl, -, hg, hc, -⟩
 · have : L = [] := List.eq_nil_of_length_eq_zero (by omega)
   subst this
   exact ⟨none, 0, rfl, Nat.le_refl _, hl, fun i x hx => by simp at hx⟩
 · refine ⟨some ⟨g, 0, none⟩, cap, by rw [h2], by omega, hl, fun i xs hx => ?_⟩
   have hi := (List.getElem?_eq_some_iff.1 hx).1
   have hs : svs[i]? = some (svs[i]'(by omega)) := List.getElem?_eq_getElem _
   refine ⟨g, 0, _, rfl, ?_, (h3 i _ xs hs hx).1⟩
   rw [Nat.zero_add, cell_of_row _ g i _ _ (0, 0) hg]
   simp only [List.getElem?_toArray]
   rw [List.getElem?_append_left (by omega)]
   exact hs
def TwoZ (lo : Nat) (w : World) (s : Value) (svs : List Value) (L1 : List (List Int)) (i : Value) (ivs : List Value) (L2 : List (List Int)) : Prop :=
 AccZ lo w s svs L1 ∧ AccZ lo w i ivs L2 ∧ ∀ b, s.ownBlock = some b → i.ownBlock ≠ some b
theorem TwoZ.symm {lo : Nat} {w : World} {s i : Value} {svs ivs : List Value} {L1 L2 : List (List Int)} (h : TwoZ lo w s svs L1 i ivs L2) : TwoZ lo w i ivs L2 s svs L1 := ⟨h.2.1, h.1, fun b h1 h2 => h.2.2 b h2 h1⟩
theorem TwoZ.below {lo : Nat} {w w' : World} {s i : Value} {svs ivs : List Value} {L1 L2 : List (List Int)} (h : TwoZ lo w s svs L1 i ivs L2) (hb : Below w.heap.size w w') : TwoZ lo w' s svs L1 i ivs L2 := ⟨h.1.below hb, h.2.1.below hb, h.2.2⟩
theorem TwoZ.push {lo g cap : Nat} {w wn : World} {s i s' : Value} {svs ivs : List Value} {L1 L2 : List (List Int)} {xs : List Int} (h : TwoZ lo w s svs L1 i ivs L2) (hR : RowZ wn lo 40 (.slice none 0 0) (.slice (some ⟨g, 0, none⟩) (svs.length + 1) cap) (svs.length + 1) (svs ++ [s']))
 (hk : Keeps (.slice none 0 0) w wn) (hg : w.grownBy wn s.ownBlock) (hat : s.ownBlock = some g ∨ g = w.heap.size) (hs : SlN enI w s' xs) (h0 : 0 < xs.length) :
 TwoZ lo wn (.slice (some ⟨g, 0, none⟩) (svs.length + 1) cap) (svs ++ [s']) (L1 ++ [xs]) i ivs L2 := by
 obtain ⟨⟨a1, a2, a3⟩, ⟨b1, b2, b3⟩, hne⟩ := h
 have hlt := b1.owns.lt
 refine ⟨⟨by rw [List.length_append]; exact hR, by simp [a2], fun j sv ys hj hy => ?_⟩, ⟨⟨b1.1, ?_⟩, b2, fun j sv ys hj hy => ⟨(b3 j sv ys hj hy).1.keeps hk, (b3 j sv ys hj hy).2⟩⟩, fun b hb e => ?_⟩
 · rcases snoc_get hj with hj1 | ⟨hj1, hj2⟩
   · have hil := (List.getElem?_eq_some_iff.1 hj1).1
     rw [List.getElem?_append_left (by omega)] at hy
     exact ⟨(a3 j sv ys hj1 hy).1.keeps hk, (a3 j sv ys hj1 hy).2⟩
   · subst hj1
     subst hj2
     rw [a2, List.getElem?_append_right (Nat.le_refl _), Nat.sub_self] at hy
     simp at hy
     subst hy
     exact ⟨hs.keeps hk, h0⟩
 · rcases b1.2 with e | ⟨g2, cap2, rfl, c1, c2, c3⟩
   · exact .inl e
   · exact .inr ⟨g2, cap2, rfl, c1, (hg.block g2 (Array.getElem?_eq_some_iff.1 c2).1 (fun e => hne g2 e.symm rfl)).trans c2, c3⟩
 · simp only [Value.ownBlock, Option.some.injEq] at hb
   subst hb
   rcases hat with h | h
   · exact hne g h e
   · have := hlt g e; omega
def MomAt (lo : Nat) (w : World) (v : Value) (vs : List Value) (Ls : List (List (List Int))) : Prop :=
 RowZ w lo 29 (.slice none 0 0) v vs.length vs ∧ vs.length = Ls.length ∧ ∀ (i : Nat) (sv : Value) (L : List (List Int)), vs[i]? = some sv → Ls[i]? = some L → VlAt w sv L ∧ ∀ (j : Nat) (xs : List Int), L[j]? = some xs → 0 < xs.length
end Go.Proofs.YtbenebcphaiohaaGreat
