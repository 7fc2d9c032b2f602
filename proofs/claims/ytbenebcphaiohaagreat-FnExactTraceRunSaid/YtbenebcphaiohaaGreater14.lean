import Derived.Test.YtbenebcphaiohaaGreater13
import Derived.Test.YtbenebcphaiohaaGreater7
import Derived.Deep.RegionHeld3
import Derived.Test.YtbenebcphaiohaaGreater12
import Derived.Test.YtbenebcphaiohaaGreater1
import Derived.Test.YtbenebcphaiohaaGreater8
set_option linter.unusedVariables false
set_option linter.unusedSimpArgs false
set_option maxRecDepth 8000
set_option maxHeartbeats 16000000
namespace Go.Proofs.YtbenebcphaiohaaGreat
open Go.RowKit
def GivesOwnT (P : Program) (f : FuncId) (args : Array Value) (w : World) (S I : List Int) (ok : Bool) : Prop :=
 Calls P f args w fun e w' => ∃ s i, e = .returned (.tuple #[.agg #[s, i], .bool ok]) ∧ Below w.heap.size w w' ∧ OwnT w.heap.size w' s i S I
theorem one_slN (w : World) (s : Int) : SlN enI (w.alloc (.cells #[.int .i64 s] 3)) (.slice (some ⟨w.heap.size, 0, none⟩) 1 1) [s] := by
 have h : RowI (w.alloc (.cells #[.int .i64 s] 3)) (.slice (some ⟨w.heap.size, 0, none⟩) 1 1) [s] := ⟨by simp, .inr ⟨_, 1, #[.int .i64 s], by simp, OwnB.new _ _ _, by simp, rfl, fun i x hx => by
  obtain rfl : i = 0 := by have := (List.getElem?_eq_some_iff.1 hx).1; simpa using this
  simp at hx
  rw [hx]; rfl⟩⟩
 exact h.slN
theorem TraceRun'_calls (mv iv : Value) (M : Md) (s : Int) (Is : List Int) (w : World) (hM : MdAt w mv M) (hI : SlN enI w iv Is) (hsz : M.nodes.length ≤ 1048576) (hnm : ∀ x, x ∈ M.nodes → x.name.size ≤ 140737488351232) (hw1 : ∀ b, b ∈ M.inits → (Lit.int .i64 b.st).wf = true) (hw2 : ∀ b, b ∈ M.nexts → (Lit.int .i64 b.st).wf = true) :
 GivesOwnT Tryz.prog 47 #[mv, .int .i64 s, iv] w (runSs M s Is) (runIs M s Is) (runB M s Is) := by
 have HNM := Lib.hid hnm
 have HW1 := Lib.hid hw1
 have HW2 := Lib.hid hw2
 have HI := Lib.hid hI
 have HM := Lib.hid hM
 have HSZ := Lib.hid hsz
 obtain ⟨s0, s1, s2, s3, s4, rfl, h0s, -, h2s, -, -⟩ := hM.at_
 have HS2 := Lib.hid h2s
 obtain ⟨NA, nc, rfl, hnn, hnl, hNA⟩ := h0s
 have hnn2 := Nat.le_trans hnn hnl
 clear hnn hnl
 obtain ⟨IA, ic, rfl, -, hil, hIA⟩ := hI
 have HIA := Lib.hid hIA
 clear hM hsz h2s hnm hIA hNA hw1 hw2
 have HN1 := Lib.hid (show inB (Is.length : Int) 1 301 = false → runB M s Is = false from fun h => by unfold runB; rw [h]; rfl)
 have HN2 := Lib.hid (show ofB 36 M s = false → runB M s Is = false from fun h => by unfold runB; rw [h]; simp)
 have HN3 := Lib.hid (show Is.all (ofB 35 M) = false → runB M s Is = false from fun h => by unfold runB; rw [h]; simp)
 have HYES := Lib.hid (show inB (Is.length : Int) 1 301 = true → ofB 36 M s = true → Is.all (ofB 35 M) = true → runB M s Is = true from fun h1 h2 h3 => by unfold runB; rw [h1, h2, h3]; rfl)
 generalize hR : runB M s Is = R at *
 have HR := Lib.hid hR
 generalize hn : Is.length = n at *
 have HN := Lib.hid hn
 unfold GivesOwnT
 clear hR hn
 go_enter Tryz.func47, Tryz.ntmps47
 go_upto_region 1 with fail
 generalize hw2 : (w.alloc (Obj.cells #[.slice NA M.nodes.length nc, s1, s2, s3, s4] 27)).alloc (Obj.cells #[.slice none 0 0, .slice none 0 0] 68) = w1
 have m0 : ∀ u : Later w1, u.val.cell? ⟨w.heap.size, 0, none⟩ = some (.slice NA M.nodes.length nc) := Later.cell (by rw [← hw2]; clear hw2; go_simp)
 have m1 : ∀ u : Later w1, u.val.cell? ⟨w.heap.size, 1, none⟩ = some s1 := Later.cell (by rw [← hw2]; clear hw2; go_simp)
 have m2 : ∀ u : Later w1, u.val.cell? ⟨w.heap.size, 2, none⟩ = some s2 := Later.cell (by rw [← hw2]; clear hw2; go_simp)
 have m3 : ∀ u : Later w1, u.val.cell? ⟨w.heap.size, 3, none⟩ = some s3 := Later.cell (by rw [← hw2]; clear hw2; go_simp)
 have m4 : ∀ u : Later w1, u.val.cell? ⟨w.heap.size, 4, none⟩ = some s4 := Later.cell (by rw [← hw2]; clear hw2; go_simp)
 have y0 : ∀ u : Later w1, u.val.frozen? ⟨w.heap.size + 1, 0, none⟩ = false := Later.frozen (by rw [← hw2]; clear hw2; go_simp) (by rw [← hw2]; clear hw2; simp)
 have y1 : ∀ u : Later w1, u.val.frozen? ⟨w.heap.size + 1, 1, none⟩ = false := Later.frozen (by rw [← hw2]; clear hw2; go_simp) (by rw [← hw2]; clear hw2; simp)
 have y2 : ∀ u : Later w1, u.val.cell? ⟨w.heap.size + 1, 0, none⟩ = some (.slice none 0 0) := Later.cell (by rw [← hw2]; clear hw2; go_simp)
 have y3 : ∀ u : Later w1, u.val.cell? ⟨w.heap.size + 1, 1, none⟩ = some (.slice none 0 0) := Later.cell (by rw [← hw2]; clear hw2; go_simp)
 have HB := Lib.hid (show Below w.heap.size w w1 by rw [← hw2]; exact ((Below.refl _ _).alloc (Nat.le_refl _) _).alloc (by simp) _)
 have HSZ1 := Lib.hid (show w1.heap.size = w.heap.size + 2 by rw [← hw2]; simp)
 clear hw2
 have HM1 := Lib.hid (HM.out.below HB.out)
 refine at_world (w := w1) ?_
 intro u0
 have HI1 := Lib.hid (HI.out.below HB.out)
 by_cases hc : codeN M = 0
 · have HC := Lib.hid hc
   have HX6 := Lib.hid (show ([s].all fun c => inB c 0 (2 ^ (allN 36 M.nodes).toNat - 1)) = ofB 36 M s by rw [← of_all hc]; simp)
   have HX5 := Lib.hid (show (Is.all fun c => inB c 0 (2 ^ (allN 35 M.nodes).toNat - 1)) = Is.all (ofB 35 M) from (of_all hc Is).symm)
   obtain ⟨a6, ha6⟩ : ∃ a, allN 36 M.nodes = a := ⟨_, rfl⟩
   obtain ⟨a5, ha5⟩ : ∃ a, allN 35 M.nodes = a := ⟨_, rfl⟩
   rw [ha6] at HX6
   rw [ha5] at HX5
   have HA6 := Lib.hid ha6
   have HA5 := Lib.hid ha5
   have HB6 := Lib.hid (show 0 ≤ a6 ∧ a6 ≤ 8 from ⟨ha6 ▸ (allN_bd 36 M.nodes).1, ha6 ▸ code_bits8 (.inl rfl) hc⟩)
   have HB5 := Lib.hid (show 0 ≤ a5 ∧ a5 ≤ 8 from ⟨ha5 ▸ (allN_bd 35 M.nodes).1, ha5 ▸ code_bits8 (.inr rfl) hc⟩)
   clear hc ha6 ha5
   have n0 : ∀ (u : Later w1) (o : Obj), (u.val.alloc o).cell? ⟨w.heap.size, 0, none⟩ = some (.slice NA M.nodes.length nc) := fun u o => keepcell ((Below.refl _ _).alloc (Nat.le_refl _) o) (m0 u)
   have n1 : ∀ (u : Later w1) (o : Obj), (u.val.alloc o).cell? ⟨w.heap.size, 1, none⟩ = some s1 := fun u o => keepcell ((Below.refl _ _).alloc (Nat.le_refl _) o) (m1 u)
   have n2 : ∀ (u : Later w1) (o : Obj), (u.val.alloc o).cell? ⟨w.heap.size, 2, none⟩ = some s2 := fun u o => keepcell ((Below.refl _ _).alloc (Nat.le_refl _) o) (m2 u)
   have n3 : ∀ (u : Later w1) (o : Obj), (u.val.alloc o).cell? ⟨w.heap.size, 3, none⟩ = some s3 := fun u o => keepcell ((Below.refl _ _).alloc (Nat.le_refl _) o) (m3 u)
   have n4 : ∀ (u : Later w1) (o : Obj), (u.val.alloc o).cell? ⟨w.heap.size, 4, none⟩ = some s4 := fun u o => keepcell ((Below.refl _ _).alloc (Nat.le_refl _) o) (m4 u)
   by_cases ho : ofB 36 M s = true
   · have HOB := Lib.hid ho
     have HK6 := Lib.hid (HX6.out.trans ho)
     by_cases hi : inB (n : Int) 1 301 = true
     · have HIB := Lib.hid hi
       by_cases hq : Is.all (ofB 35 M) = true
       · have HQB := Lib.hid hq
         have HK5 := Lib.hid (HX5.out.trans hq)
         obtain rfl : R = true := HYES.out hi ho hq
         have HZ := Lib.hid (run_yes HR.out)
         clear HN1 HN2 HN3 HYES HX5 HX6
         go_upto_region 3 with (first | (go_at_call 91; (with_reducible refine (Calls.later_eq (u := u0) (ModelCode'_calls _ M _ (HM1.out.later u0) HNM.out HW1.out HW2.out) (congrArg (Value.int .i64) HC.out)).mono ?_); rintro e w' ⟨rfl, u1, rfl⟩) | (go_at_call 126; (with_reducible refine (bits_calls _ M 36 _ (HM1.out.below (lcb (w1 := w1)))).mono ?_); rintro e w' ⟨rfl, hb⟩; rw [HA6.out]; have HONE := Lib.hid ((one_slN u1.val s).below hb); obtain ⟨u2, hu2⟩ := laterC_step (w1 := w1) lcx hb; subst hu2; clear hb) | (go_at_call 125; (with_reducible refine (below_calls _ [s] a6 _ HONE.out HB6.out.1 HB6.out.2).mono ?_); rintro e w' ⟨rfl, hb⟩; rw [HK6.out]; obtain ⟨u3, hu3⟩ := laterC_step (w1 := w1) lcx hb; subst hu3; clear hb) | (go_at_call 79; (with_reducible refine (in_makes (n : Int) 1 301 _).mono ?_); rintro e w' ⟨rfl, hb⟩; rw [HIB.out]; obtain ⟨u4, hu4⟩ := laterC_step (w1 := w1) lcx hb; subst hu4; clear hb) | (go_at_call 126; (with_reducible refine (bits_calls _ M 35 _ (HM1.out.below (lcb (w1 := w1)))).mono ?_); rintro e w' ⟨rfl, hb⟩; rw [HA5.out]; obtain ⟨u5, hu5⟩ := laterC_step (w1 := w1) lcx hb; subst hu5; clear hb) | (go_at_call 125; (with_reducible refine (below_calls _ Is a5 _ (HI1.out.below (lcb (w1 := w1))) HB5.out.1 HB5.out.2).mono ?_); rintro e w' ⟨rfl, hb⟩; rw [HK5.out]; obtain ⟨u6, hu6⟩ := laterC_step (w1 := w1) lcx hb; subst hu6; clear hb))
         clear n0 n1 n2 n3 n4
         go_upto_region 4 with (go_at_call 127; (with_reducible refine (places_calls _ M 36 _ (HM1.out.later u6) HSZ.out).mono ?_); rintro e w' ⟨pv6, rfl, hb, hown⟩; have HO6 := Lib.hid (places_slN hown HSZ.out); clear hown; obtain ⟨u7, hu7⟩ := u6.step hb; subst hu7; clear hb)
         have HBW := Lib.hid (u7.back HB.out)
         have HLW : LaterC w1 u7.val := ⟨u7, rfl⟩
         replace m0 := lift_cell HLW m0
         replace m1 := lift_cell HLW m1
         replace m2 := lift_cell HLW m2
         replace m3 := lift_cell HLW m3
         replace m4 := lift_cell HLW m4
         replace y2 := lift_cell HLW y2
         replace y3 := lift_cell HLW y3
         replace y0 := lift_frozen HLW y0
         replace y1 := lift_frozen HLW y1
         replace HM1 := Lib.hid (HM1.out.below HLW.below)
         have HRL := Lib.hid (show w.heap.size + 1 < u7.val.heap.size by have h1 := HSZ1.out; have h2 := u7.size; omega)
         clear HLW HONE u0
         generalize u7.val = W at *
         refine at_world (w := W) ?_
         intro w0
         go_upto_region 5 with fail
         have HT0 := Lib.hid (And.intro (TwoI.start w0.val) (show LaterC W (w0.val.alloc (.cells #[.slice none 0 0, .slice none 0 0] 68)) from LaterC.alloc' ⟨w0, rfl⟩ _))
         have HG0 := Lib.hid w0.size
         generalize w0.val.alloc (.cells #[.slice none 0 0, .slice none 0 0] 68) = w3 at *
         have HT1 := Lib.hid (TwoI.mono HT0.out.1 HG0.out)
         generalize w0.val.heap.size = G at *
         have HCO := Lib.hid (run_code HOB.out)
         have HN16 := Lib.hid (show n ≤ 301 by have h1 : 1 ≤ (n : Int) ∧ (n : Int) ≤ 301 := of_decide_eq_true hi; omega)
         have HN0 := Lib.hid (show 1 ≤ n by have h1 : 1 ≤ (n : Int) ∧ (n : Int) ≤ 301 := of_decide_eq_true hi; omega)
         have HRR := Lib.hid (runAt_range HOB.out Is)
         have HRX := Lib.hid (show ∀ k, k < n → 0 ≤ Is.getD k 0 ∧ Is.getD k 0 ≤ 65535 from fun k hk => ofB_range (.inr rfl) (List.all_eq_true.1 HQB.out _ (List.mem_of_getElem? (getD_at (show k < Is.length by rw [HN.out]; exact hk) 0))))
         have HL6 := Lib.hid (show (placesN 36 M.nodes M.nodes.length).length ≤ 1048576 from Nat.le_trans (placesN_le _ _ _) HSZ.out)
         have HL5 := Lib.hid (show (placesN 35 M.nodes M.nodes.length).length ≤ 1048576 from Nat.le_trans (placesN_le _ _ _) HSZ.out)
         have HQ6 := Lib.hid (bits8_of (kind := 36) (.inl rfl) HCO.out)
         have HQ5 := Lib.hid (bits8_of (kind := 35) (.inr rfl) HCO.out)
         have HNB := Lib.hid (codeN_parts HCO.out).2.1
         clear hi hq ho HK5 HK6 HB5 HB6
         go_upto_region 6 with fail
         go_loopw [1, 42] (fun st i wr => ∃ (k : Nat) (sv iv : Value), k ≤ n ∧ st = .int .i64 (runAt M s Is k) ∧ i = .int .i64 k ∧ Hid (TwoI W.heap.size G wr sv iv (runS M s Is k) (Is.take k)) ∧ LaterC W wr) (fun _ i _ => n - (intOf i).toNat)
         case atStart => exact ⟨0, _, _, Nat.zero_le _, rfl, rfl, Lib.hid (by simpa [runS] using HT1.out), HT0.out.2⟩
         case round =>
          obtain ⟨k, sv, iv, hk, rfl, rfl, HTW, ⟨u, rfl⟩⟩ := hrel
          by_cases hlt : k < n
          · have hlt' : (k : Int) < n := by omega
            have hgx := getD_at (show k < Is.length by rw [HN.out]; exact hlt) 0
            obtain ⟨bx, ox, rfl, hx⟩ := HIA.out k _ hgx
            have HTK := Lib.hid (show Is.take (k + 1) = Is.take k ++ [Is.getD k 0] by rw [List.take_add_one, hgx]; rfl)
            have HSK := Lib.hid (runS_succ M s Is k)
            have HNX := Lib.hid (show runAt M s Is (k + 1) = nextK M (runAt M s Is k) (Is.getD k 0) from rfl)
            have HRK := Lib.hid (HRR.out k)
            have HRXK := Lib.hid (HRX.out k hlt)
            obtain ⟨st, hst⟩ : ∃ st, st = runAt M s Is k := ⟨_, rfl⟩
            rw [← hst] at HSK HNX HRK ⊢
            clear hst
            obtain ⟨x, hxe⟩ : ∃ x, x = Is.getD k 0 := ⟨_, rfl⟩
            rw [← hxe] at HTK HNX HRXK hx
            clear hxe hgx
            have p0 : ∀ l : Later W, l.val.cell? ⟨bx, ox + k, none⟩ = some (.int .i64 x) := hx.int HBW.out
            clear hx
            have HFS := Lib.hid (unpack_fits M.nodes (placesN 36 M.nodes M.nodes.length) st)
            have HFI := Lib.hid (unpack_fits M.nodes (placesN 35 M.nodes M.nodes.length) x)
            have HBO := Lib.hid (both_of HCO.out st x)
            have HNF := Lib.hid (next_fits HBO.out)
            have HN8 := Lib.hid (show bitsTo M.nodes (plK M) (nextL M (stK 36 M st) (stK 35 M x)).length ≤ 8 by rw [nextL_len]; exact HQ6.out)
            have HNK := Lib.hid (show nextK M st x = (packS M.nodes (plK M) (nextL M (stK 36 M st) (stK 35 M x)) (nextL M (stK 36 M st) (stK 35 M x)).length).1 from rfl)
            have HSL := Lib.hid (show (runS M s Is k).length = k from runS_len _ _ _ _)
            have HSL2 := Lib.hid (show (runS M s Is k).length ≤ 1048576 by rw [HSL.out]; have := HN16.out; omega)
            have q0 : u.val.cell? ⟨G, 0, none⟩ = some sv := HTW.out.1.cell 0
            go_upto_region 9 with (at_builtin; refine wpList_append_int (by rfl) _ _ (by rfl) W.heap.size u.val _ u.val.heap.size sv st (runS M s Is k) k HSL.out (by rfl) HTW.out.2.1 u.size HSL2.out bax (heap_alloc_new u.val _) (by rfl) ?_; intro g cap wn hac hgr hat; have HP1 := Lib.hid (TwoI.push1 (ys := runS M s Is (k + 1)) HTW.out ⟨u, rfl⟩ HG0.out bax hgr hat (by rw [HSK.out]; exact hac)); have HOW := Lib.hid (own_grow HTW.out.1 (fun b hb => (HTW.out.2.2.2.1 b hb).1) bax hgr); have q1 : wn.cell? ⟨G, 0, none⟩ = some sv := HOW.out.cell 0; have f1 : wn.frozen? ⟨G, 0, none⟩ = false := HOW.out.frozen 0; clear hac hgr hat)
            generalize wn.setCell ⟨G, 0, none⟩ (.slice (some ⟨g, 0, none⟩) (k + 1) cap) = w6 at *
            clear HOW q0 q1 f1
            have HTV := Lib.hid HP1.out.1
            obtain ⟨v2, hv2⟩ := HP1.out.2
            clear HP1
            subst hv2
            have q2 : v2.val.cell? ⟨G, 1, none⟩ = some iv := HTV.out.1.cell 1
            have HTL := Lib.hid (show (Is.take k).length ≤ 1048576 by rw [List.length_take]; have := HN16.out; omega)
            have HTJ := Lib.hid (show (Is.take k).length = k by rw [List.length_take, HN.out]; omega)
            go_upto_region 10 with (at_builtin; refine wpList_append_int (by rfl) _ _ (by rfl) W.heap.size v2.val _ v2.val.heap.size iv x (Is.take k) k HTJ.out (by rfl) HTV.out.2.2.1 v2.size HTL.out bax (heap_alloc_new v2.val _) (by rfl) ?_; intro g2 cap2 wn2 hac hgr hat; have HP2 := Lib.hid (TwoI.push2 (ys := Is.take (k + 1)) HTV.out ⟨v2, rfl⟩ HG0.out bax hgr hat (by rw [HTK.out]; exact hac)); have HOW := Lib.hid (own_grow HTV.out.1 HTV.out.2.2.2.2 bax hgr); have q1 : wn2.cell? ⟨G, 1, none⟩ = some iv := HOW.out.cell 1; have f1 : wn2.frozen? ⟨G, 1, none⟩ = false := HOW.out.frozen 1; clear hac hgr hat)
            generalize wn2.setCell ⟨G, 1, none⟩ (.slice (some ⟨g2, 0, none⟩) (k + 1) cap2) = w7 at *
            clear HOW q1 f1 q2 HTW HTV
            have HTW := Lib.hid HP2.out.1
            obtain ⟨v6, hv6⟩ := HP2.out.2
            clear HP2
            subst hv6
            have HTW := Lib.hid (HTW.out.below (Below.refl _ _).drew)
            go_region_held3 (fun w' => w'.cell? ⟨w.heap.size, 0, none⟩ = some (.slice NA M.nodes.length nc) ∧ w'.cell? ⟨w.heap.size, 1, none⟩ = some s1 ∧ w'.cell? ⟨w.heap.size, 2, none⟩ = some s2 ∧ w'.cell? ⟨w.heap.size, 3, none⟩ = some s3 ∧ w'.cell? ⟨w.heap.size, 4, none⟩ = some s4 ∧ w'.cell? ⟨bx, ox + k, none⟩ = some (.int .i64 x)) (exact ⟨lf m0, lf m1, lf m2, lf m3, lf m4, lf p0⟩) (first | (go_at_call 128; (with_reducible refine (of_calls _ pv6 M (placesN 36 M.nodes M.nodes.length) st _ (HM1.out.below (lcb (w1 := W))) (HO6.out.below (lcb (w1 := W))) (placesN_InN _ _) HL6.out HQ6.out HRK.out.1 HRK.out.2).mono ?_); rintro e w' ⟨uv6, us6, rfl, hb, hac⟩; (first | (have HO5 := Lib.hid (HO5.out.below hb)) | skip); (first | (have HV1 := Lib.hid (HV1.out.below hb)) | skip); (first | (have HV2 := Lib.hid (HV2.out.below hb)) | skip); (first | (have HEV := Lib.hid (HEV.out.below hb)) | skip); (first | (have HTW := Lib.hid (HTW.out.below hb)) | skip); have HV1 := Lib.hid hac.vlAt; clear hac; obtain ⟨v7, hv7⟩ := laterC_step (w1 := W) lcx hb; subst hv7; clear hb) | (go_at_call 127; (with_reducible refine (places_calls _ M 35 _ (HM1.out.below (lcb (w1 := W))) HSZ.out).mono ?_); rintro e w' ⟨pv5, rfl, hb, hown⟩; (first | (have HO5 := Lib.hid (HO5.out.below hb)) | skip); (first | (have HV1 := Lib.hid (HV1.out.below hb)) | skip); (first | (have HV2 := Lib.hid (HV2.out.below hb)) | skip); (first | (have HEV := Lib.hid (HEV.out.below hb)) | skip); (first | (have HTW := Lib.hid (HTW.out.below hb)) | skip); have HO5 := Lib.hid (places_slN hown HSZ.out); clear hown; obtain ⟨vp5, hvp5⟩ := laterC_step (w1 := W) lcx hb; subst hvp5; clear hb) | (go_at_call 128; (with_reducible refine (of_calls _ pv5 M (placesN 35 M.nodes M.nodes.length) x _ (HM1.out.below (lcb (w1 := W))) (HO5.out.below bdx) (placesN_InN _ _) HL5.out HQ5.out HRXK.out.1 HRXK.out.2).mono ?_); rintro e w' ⟨uv5, us5, rfl, hb, hac⟩; (first | (have HO5 := Lib.hid (HO5.out.below hb)) | skip); (first | (have HV1 := Lib.hid (HV1.out.below hb)) | skip); (first | (have HV2 := Lib.hid (HV2.out.below hb)) | skip); (first | (have HEV := Lib.hid (HEV.out.below hb)) | skip); (first | (have HTW := Lib.hid (HTW.out.below hb)) | skip); have HV2 := Lib.hid hac.vlAt; clear hac; obtain ⟨v8, hv8⟩ := laterC_step (w1 := W) lcx hb; subst hv8; clear hb) | (go_at_call 73; (with_reducible refine (eval_calls _ uv6 uv5 M (stK 36 M st) (stK 35 M x) _ (HM1.out.below (lcb (w1 := W))) HV1.out HV2.out HNB.out HFS.out HFI.out HSZ.out).mono ?_); rintro e w' ⟨ev, rfl, hb, hev⟩; (first | (have HTW := Lib.hid (HTW.out.below hb)) | skip); have HEV := Lib.hid (show VlAt w' ev (evalL M (stK 36 M st) (stK 35 M x)) from hev); clear hev; obtain ⟨v3, hv3⟩ := laterC_step (w1 := W) lcx hb; subst hv3; clear hb))
            go_upto_region 11 with fail
            have HTW := Lib.hid (HTW.out.below (Below.refl _ _).drew)
            have HEV := Lib.hid (HEV.out.below (Below.refl _ _).drew)
            go_region_held3 (fun w' => w'.cell? ⟨w.heap.size, 0, none⟩ = some (.slice NA M.nodes.length nc) ∧ w'.cell? ⟨w.heap.size, 1, none⟩ = some s1 ∧ w'.cell? ⟨w.heap.size, 2, none⟩ = some s2 ∧ w'.cell? ⟨w.heap.size, 3, none⟩ = some s3 ∧ w'.cell? ⟨w.heap.size, 4, none⟩ = some s4 ∧ w'.cell? ⟨bx, ox + k, none⟩ = some (.int .i64 x)) (exact ⟨lf m0, lf m1, lf m2, lf m3, lf m4, lf p0⟩) (first | (go_at_call 130; (with_reducible refine (follow_calls _ ev M (stK 36 M st) (stK 35 M x) _ (HM1.out.below (lcb (w1 := W))) (HEV.out.below bdx) HSZ.out HBO.out).mono ?_); rintro e w' ⟨fv, rfl, hb, hfv⟩; (first | (have HTW := Lib.hid (HTW.out.below hb)) | skip); have HFV := Lib.hid hfv; clear hfv; obtain ⟨v4, hv4⟩ := laterC_step (w1 := W) lcx hb; subst hv4; clear hb) | (go_at_call 129; (with_reducible refine (code_calls _ pv6 fv M (plK M) (nextL M (stK 36 M st) (stK 35 M x)) _ (HM1.out.below (lcb (w1 := W))) (HO6.out.below (lcb (w1 := W))) (placesN_InN _ _) (HFV.out.below bdx) HNF.out HN8.out).mono ?_); rintro e w' ⟨rfl, hb⟩; (first | (have HTW := Lib.hid (HTW.out.below hb)) | skip); rw [← HNK.out]; obtain ⟨v5, hv5⟩ := laterC_step (w1 := W) lcx hb; subst hv5; clear hb))
            go_wp2
            go_roundw
            case rel => exact ⟨k + 1, _, _, by omega, by rw [HNX.out], by go_num, HTW, ⟨v5, rfl⟩⟩
            case measure => simp [intOf] <;> omega
          · obtain rfl : k = n := by omega
            have q0 : u.val.cell? ⟨G, 0, none⟩ = some sv := HTW.out.1.cell 0
            have q1 : u.val.cell? ⟨G, 1, none⟩ = some iv := HTW.out.1.cell 1
            have HTA := Lib.hid (show TrAt u.val (.agg #[sv, iv]) (runS M s Is k) Is from ⟨_, _, rfl, (accI_rowI HTW.out.2.1 (by rw [runS_len]; omega)).slN, by
             have h1 := (accI_rowI HTW.out.2.2.1 (by rw [List.length_take]; omega)).slN
             rw [List.take_of_length_le (Nat.le_of_eq HN.out)] at h1
             exact h1⟩)
            have HSL := Lib.hid (show 0 < (runS M s Is k).length ∧ (runS M s Is k).length ≤ 1048576 by rw [runS_len]; have h1 := HN0.out; have h2 := HN16.out; omega)
            have HIL := Lib.hid (show 0 < Is.length ∧ Is.length ≤ 1048576 by rw [HN.out]; have h1 := HN0.out; have h2 := HN16.out; omega)
            obtain ⟨cA, cn, cc, rfl⟩ := accI_slice HTW.out.2.1
            obtain ⟨dA, dn, dc, rfl⟩ := accI_slice HTW.out.2.2.1
            go_wp2_with (go_at_call 131; (with_reducible refine (clone_calls _ (runS M s Is k) Is _ HTA.out HSL.out.1 HSL.out.2 HIL.out.1 HIL.out.2).mono ?_); rintro e w' ⟨s5, i5, rfl, hb, hown⟩; have HOT := Lib.hid (hown.mono u.size); obtain ⟨A5, d5, hs5⟩ := hown.1.shape; subst hs5; obtain ⟨A6, d6, hi5⟩ := hown.2.1.shape; subst hi5; obtain ⟨v9, hv9⟩ := u.step hb; subst hv9; clear hb hown)
            obtain ⟨r0, r1⟩ := two_set (R := w.heap.size + 1) (.slice A5 (runS M s Is k).length d5) (.slice A6 Is.length d6) (y2 v9) (y3 v9)
            refine bodyPost_ret (v := .tuple #[.agg #[.slice A5 (runS M s Is k).length d5, .slice A6 Is.length d6], .bool true]) (by simp [results, Tryz.results47, go_sem, r0, r1]) rfl ?_
            refine ⟨_, _, rfl, ((v9.back HBW.out).setCell (by simp) _).setCell (by simp) _, ?_⟩
            have hot := (HOT.out.set2 HRL.out (.slice A5 (runS M s Is k).length d5) (.slice A6 Is.length d6)).mono (Nat.le_trans (Nat.le_succ _) (Nat.le_of_lt HRL.out))
            rw [HZ.out.1, HZ.out.2]
            rw [HN.out] at hot ⊢
            exact hot
       · have hq2 : Is.all (ofB 35 M) = false := by simpa using hq
         have HK5 := Lib.hid (HX5.out.trans hq2)
         obtain rfl : R = false := HN3.out hq2
         have HZ := Lib.hid (run_no HR.out)
         go_wp2_with (first | (go_at_call 91; (with_reducible refine (Calls.later_eq (u := u0) (ModelCode'_calls _ M _ (HM1.out.later u0) HNM.out HW1.out HW2.out) (congrArg (Value.int .i64) HC.out)).mono ?_); rintro e w' ⟨rfl, u1, rfl⟩) | (go_at_call 126; (with_reducible refine (bits_calls _ M 36 _ (HM1.out.below (lcb (w1 := w1)))).mono ?_); rintro e w' ⟨rfl, hb⟩; rw [HA6.out]; have HONE := Lib.hid ((one_slN u1.val s).below hb); obtain ⟨u2, hu2⟩ := laterC_step (w1 := w1) lcx hb; subst hu2; clear hb) | (go_at_call 125; (with_reducible refine (below_calls _ [s] a6 _ HONE.out HB6.out.1 HB6.out.2).mono ?_); rintro e w' ⟨rfl, hb⟩; rw [HK6.out]; obtain ⟨u3, hu3⟩ := laterC_step (w1 := w1) lcx hb; subst hu3; clear hb) | (go_at_call 79; (with_reducible refine (in_makes (n : Int) 1 301 _).mono ?_); rintro e w' ⟨rfl, hb⟩; rw [HIB.out]; obtain ⟨u4, hu4⟩ := laterC_step (w1 := w1) lcx hb; subst hu4; clear hb) | (go_at_call 126; (with_reducible refine (bits_calls _ M 35 _ (HM1.out.below (lcb (w1 := w1)))).mono ?_); rintro e w' ⟨rfl, hb⟩; rw [HA5.out]; obtain ⟨u5, hu5⟩ := laterC_step (w1 := w1) lcx hb; subst hu5; clear hb) | (go_at_call 125; (with_reducible refine (below_calls _ Is a5 _ (HI1.out.below (lcb (w1 := w1))) HB5.out.1 HB5.out.2).mono ?_); rintro e w' ⟨rfl, hb⟩; rw [HK5.out]; obtain ⟨u6, hu6⟩ := laterC_step (w1 := w1) lcx hb; subst hu6; clear hb))
         obtain ⟨r0, r1⟩ := two_set (R := w.heap.size + 1) (.slice none 0 0) (.slice none 0 0) (y2 u6) (y3 u6)
         refine bodyPost_ret (v := .tuple #[.agg #[.slice none 0 0, .slice none 0 0], .bool false]) (by simp [results, Tryz.results47, go_sem, r0, r1]) rfl ?_
         exact ⟨_, _, rfl, ((u6.back HB.out).setCell (by simp) _).setCell (by simp) _, by rw [HZ.out.1, HZ.out.2]; exact OwnT.nil _ _⟩
     · have hi2 : inB (n : Int) 1 301 = false := by simpa using hi
       have HIB := Lib.hid hi2
       obtain rfl : R = false := HN1.out hi2
       have HZ := Lib.hid (run_no HR.out)
       go_wp2_with (first | (go_at_call 91; (with_reducible refine (Calls.later_eq (u := u0) (ModelCode'_calls _ M _ (HM1.out.later u0) HNM.out HW1.out HW2.out) (congrArg (Value.int .i64) HC.out)).mono ?_); rintro e w' ⟨rfl, u1, rfl⟩) | (go_at_call 126; (with_reducible refine (bits_calls _ M 36 _ (HM1.out.below (lcb (w1 := w1)))).mono ?_); rintro e w' ⟨rfl, hb⟩; rw [HA6.out]; have HONE := Lib.hid ((one_slN u1.val s).below hb); obtain ⟨u2, hu2⟩ := laterC_step (w1 := w1) lcx hb; subst hu2; clear hb) | (go_at_call 125; (with_reducible refine (below_calls _ [s] a6 _ HONE.out HB6.out.1 HB6.out.2).mono ?_); rintro e w' ⟨rfl, hb⟩; rw [HK6.out]; obtain ⟨u3, hu3⟩ := laterC_step (w1 := w1) lcx hb; subst hu3; clear hb) | (go_at_call 79; (with_reducible refine (in_makes (n : Int) 1 301 _).mono ?_); rintro e w' ⟨rfl, hb⟩; rw [HIB.out]; obtain ⟨u4, hu4⟩ := laterC_step (w1 := w1) lcx hb; subst hu4; clear hb))
       obtain ⟨r0, r1⟩ := two_set (R := w.heap.size + 1) (.slice none 0 0) (.slice none 0 0) (y2 u4) (y3 u4)
       refine bodyPost_ret (v := .tuple #[.agg #[.slice none 0 0, .slice none 0 0], .bool false]) (by simp [results, Tryz.results47, go_sem, r0, r1]) rfl ?_
       exact ⟨_, _, rfl, ((u4.back HB.out).setCell (by simp) _).setCell (by simp) _, by rw [HZ.out.1, HZ.out.2]; exact OwnT.nil _ _⟩
   · have ho2 : ofB 36 M s = false := by simpa using ho
     have HOB := Lib.hid ho2
     have HK6 := Lib.hid (HX6.out.trans ho2)
     obtain rfl : R = false := HN2.out ho2
     have HZ := Lib.hid (run_no HR.out)
     go_wp2_with (first | (go_at_call 91; (with_reducible refine (Calls.later_eq (u := u0) (ModelCode'_calls _ M _ (HM1.out.later u0) HNM.out HW1.out HW2.out) (congrArg (Value.int .i64) HC.out)).mono ?_); rintro e w' ⟨rfl, u1, rfl⟩) | (go_at_call 126; (with_reducible refine (bits_calls _ M 36 _ (HM1.out.below (lcb (w1 := w1)))).mono ?_); rintro e w' ⟨rfl, hb⟩; rw [HA6.out]; have HONE := Lib.hid ((one_slN u1.val s).below hb); obtain ⟨u2, hu2⟩ := laterC_step (w1 := w1) lcx hb; subst hu2; clear hb) | (go_at_call 125; (with_reducible refine (below_calls _ [s] a6 _ HONE.out HB6.out.1 HB6.out.2).mono ?_); rintro e w' ⟨rfl, hb⟩; rw [HK6.out]; obtain ⟨u3, hu3⟩ := laterC_step (w1 := w1) lcx hb; subst hu3; clear hb))
     obtain ⟨r0, r1⟩ := two_set (R := w.heap.size + 1) (.slice none 0 0) (.slice none 0 0) (y2 u3) (y3 u3)
     refine bodyPost_ret (v := .tuple #[.agg #[.slice none 0 0, .slice none 0 0], .bool false]) (by simp [results, Tryz.results47, go_sem, r0, r1]) rfl ?_
     exact ⟨_, _, rfl, ((u3.back HB.out).setCell (by simp) _).setCell (by simp) _, by rw [HZ.out.1, HZ.out.2]; exact OwnT.nil _ _⟩
 · have ho2 : ofB 36 M s = false := by unfold ofB; rw [decide_eq_false hc]; rfl
   obtain rfl : R = false := HN2.out ho2
   have HZ := Lib.hid (run_no HR.out)
   obtain ⟨q, hq⟩ : ∃ q, codeN M = q := ⟨_, rfl⟩
   have HC := Lib.hid hq
   rw [hq] at hc
   clear hq
   have hc2 : (q == 0) = false := beq_eq_false_iff_ne.2 hc
   go_wp2_with (first | (go_at_call 91; (with_reducible refine (Calls.later_eq (u := u0) (ModelCode'_calls _ M _ (HM1.out.later u0) HNM.out HW1.out HW2.out) (congrArg (Value.int .i64) HC.out)).mono ?_); rintro e w' ⟨rfl, u1, rfl⟩))
   obtain ⟨r0, r1⟩ := two_set (R := w.heap.size + 1) (.slice none 0 0) (.slice none 0 0) (y2 u1) (y3 u1)
   refine bodyPost_ret (v := .tuple #[.agg #[.slice none 0 0, .slice none 0 0], .bool false]) (by simp [results, Tryz.results47, go_sem, r0, r1]) rfl ?_
   exact ⟨_, _, rfl, ((u1.back HB.out).setCell (by simp) _).setCell (by simp) _, by rw [HZ.out.1, HZ.out.2]; exact OwnT.nil _ _⟩
theorem eqTrace_calls (v1 v2 : Value) (Ss Is : List Int) (w : World) (h1 : TrAt w v1 Ss Is) (h2 : TrAt w v2 Ss Is) :
 Makes Tryz.prog 48 #[v1, v2] w (.bool true) := by
 obtain ⟨a0, a1, rfl, p0, p1⟩ := h1
 obtain ⟨b0, b1, rfl, q0, q1⟩ := h2
 have P0 := Lib.hid p0
 have P1 := Lib.hid p1
 have Q0 := Lib.hid q0
 have Q1 := Lib.hid q1
 clear p0 p1 q0 q1
 go_enter Tryz.func48, Tryz.ntmps48
 go_upto_region 1 with fail
 generalize hw2 : (w.alloc (Obj.cells #[a0, a1] 68)).alloc (Obj.cells #[b0, b1] 68) = w2
 have m0 : ∀ u : Later w2, u.val.cell? ⟨w.heap.size, 0, none⟩ = some a0 := Later.cell (by rw [← hw2]; clear hw2; go_simp)
 have m1 : ∀ u : Later w2, u.val.cell? ⟨w.heap.size, 1, none⟩ = some a1 := Later.cell (by rw [← hw2]; clear hw2; go_simp)
 have m2 : ∀ u : Later w2, u.val.cell? ⟨w.heap.size + 1, 0, none⟩ = some b0 := Later.cell (by rw [← hw2]; clear hw2; go_simp)
 have m3 : ∀ u : Later w2, u.val.cell? ⟨w.heap.size + 1, 1, none⟩ = some b1 := Later.cell (by rw [← hw2]; clear hw2; go_simp)
 have HB := Lib.hid (show Below w.heap.size w w2 by rw [← hw2]; exact ((Below.refl _ _).alloc (Nat.le_refl _) _).alloc (by simp) _)
 clear hw2
 refine at_world (w := w2) ?_
 intro u0
 go_wp2_with fail
 refine (Calls.later (u := u0) (eqIntN_calls a0 b0 Ss _ (P0.out.below (u0.back HB.out)) (Q0.out.below (u0.back HB.out)))).mono ?_
 rintro e w' ⟨rfl, u1, rfl⟩
 go_wp2_with fail
 refine (Calls.later (u := u1) (eqIntN_calls a1 b1 Is _ (P1.out.below (u1.back HB.out)) (Q1.out.below (u1.back HB.out)))).mono ?_
 rintro e w' ⟨rfl, u2, rfl⟩
 go_wp2
 go_ret
 exact ⟨rfl, u2.back HB.out⟩
def Blk (v : Value) (svs : List Value) (b : Nat) : Prop := v.ownBlock = some b ∨ ∃ (i : Nat) (sv : Value), svs[i]? = some sv ∧ sv.ownBlock = some b
theorem RowVs.but {S : Nat → Prop} {lo : Nat} {w w' : World} {v : Value} {svs : List Value} {L : List (List Int)} (h : RowVs lo w v svs L) (hb : But S w w') (hS : ∀ b, Blk v svs b → ¬ S b) : RowVs lo w' v svs L := by
 obtain ⟨h1, h2, h3, h4, h5⟩ := h
 refine ⟨h1, h2, ?_, fun i sv xs hi hx => ⟨(h4 i sv xs hi hx).1.but hb fun b hb' => hS b (.inr ⟨i, sv, hi, hb'⟩), (h4 i sv xs hi hx).2⟩, h5⟩
 rcases h3 with h3 | ⟨g, cap, cur, rfl, hlo, ho, hr⟩
 · exact .inl h3
 · exact .inr ⟨g, cap, cur, rfl, hlo, ho.but hb (hS g (.inl rfl)), hr⟩
theorem RowVs.shape {lo : Nat} {w : World} {v : Value} {svs : List Value} {L : List (List Int)} (h : RowVs lo w v svs L) : ∃ A c, v = .slice A L.length c := by
 obtain ⟨h1, h2, ⟨rfl, rfl⟩ | ⟨g, cap, cur, rfl, -⟩, -⟩ := h
 · exact ⟨_, _, rfl⟩
 · exact ⟨_, _, rfl⟩
def totN (L : List (List Int)) : Nat := (L.map List.length).sum
def marksV (k : Int) (L : List (List Int)) : List (List Int) := (List.range L.length).map fun (i : Nat) => marks (k + totN (L.take i)) (L.getD i []).length
theorem marksV_length (k : Int) (L : List (List Int)) : (marksV k L).length = L.length := by simp [marksV]
theorem marksV_get {k : Int} {L : List (List Int)} {i : Nat} (h : i < L.length) : (marksV k L)[i]? = some (marks (k + totN (L.take i)) (L.getD i []).length) := by simp [marksV, h]
def MixV (k : Int) (L : List (List Int)) (j : Nat) (L' : List (List Int)) : Prop := L'.length = L.length ∧ (∀ i, i < j → L'.getD i [] = marks (k + totN (L.take i)) (L.getD i []).length) ∧ ∀ i, j ≤ i → L'.getD i [] = L.getD i []
theorem MixV.step {k : Int} {L L' : List (List Int)} {j : Nat} (h : MixV k L j L') (hj : j < L.length) : MixV k L (j + 1) (L'.set j (marks (k + totN (L.take j)) (L.getD j []).length)) := by
 obtain ⟨h1, h2, h3⟩ := h
 have key : ∀ (i : Nat) (x : List Int), (L'.set j x).getD i [] = if i = j then x else L'.getD i [] := fun i x => by
  rw [List.getD_eq_getElem?_getD, List.getElem?_set, List.getD_eq_getElem?_getD]
  by_cases e : j = i
  · subst e; simp [show j < L'.length by omega]
  · rw [if_neg e, if_neg (fun h => e h.symm)]
 refine ⟨by simpa using h1, fun i hi => ?_, fun i hi => ?_⟩
 · rw [key]
   by_cases e : i = j
   · subst e; rw [if_pos rfl]
   · rw [if_neg e]; exact h2 i (by omega)
 · rw [key, if_neg (by omega)]; exact h3 i (by omega)
theorem MixV.done {k : Int} {L L' : List (List Int)} (h : MixV k L L.length L') : L' = marksV k L := by
 refine List.ext_getElem? fun i => ?_
 rcases Nat.lt_or_ge i L.length with g | g
 · rw [marksV_get g, getD_at (by rw [h.1]; exact g) [], h.2.1 i g]
 · rw [List.getElem?_eq_none (by rw [h.1]; exact g), List.getElem?_eq_none (by rw [marksV_length]; exact g)]
theorem OwnT.but {S : Nat → Prop} {lo : Nat} {w w' : World} {s i : Value} {xs ys : List Int} (h : OwnT lo w s i xs ys) (hb : But S w w') (hS : ∀ b, lo ≤ b → b < w.heap.size → ¬ S b) : OwnT lo w' s i xs ys :=
 ⟨h.1.but hb fun b e => hS b (h.2.2.1 b e).1 (h.1.lt e), h.2.1.but hb fun b e => hS b (h.2.2.2 b e) (h.2.1.lt e), h.2.2⟩
theorem markTrace_calls (lo : Nat) (s i : Value) (xs ys : List Int) (k : Int) (w : World) (h : OwnT lo w s i xs ys) (h0 : 0 ≤ k) (h1 : k + xs.length + ys.length ≤ 1000000000000) :
 Calls Tryz.prog 51 #[.agg #[s, i], .int .i64 k] w fun e w' => e = .returned (.int .i64 (k + xs.length + ys.length)) ∧ But (fun b => (s.ownBlock = some b ∨ i.ownBlock = some b) ∨ w.heap.size ≤ b) w w' ∧ OwnT lo w' s i (marks k xs.length) (marks (k + xs.length) ys.length) := by
 have H := Lib.hid h
 have HLT := Lib.hid (And.intro (fun b (e : s.ownBlock = some b) => h.1.lt e) (fun b (e : i.ownBlock = some b) => h.2.1.lt e))
 clear h
 go_enter Tryz.func51, Tryz.ntmps51
 have HB := Lib.hid (box_below w #[s, i] 68)
 have m0 := box_cell w #[s, i] 68 0 _ rfl
 have m1 := box_cell w #[s, i] 68 1 _ rfl
 have HSZ := Lib.hid (show (w.alloc (.cells #[s, i] 68)).heap.size = w.heap.size + 1 by simp)
 go_upto_region 1 with fail
 have H1 := Lib.hid (H.out.below HB.out)
 have HO := Lib.hid (OwnB.new w 68 #[s, i])
 generalize w.alloc (.cells #[s, i] 68) = w1 at *
 replace m0 : ∀ u : Later w1, u.val.cell? ⟨w.heap.size, 0, none⟩ = some s := m0
 refine at_world (w := w1) ?_
 intro u0
 have H2 := Lib.hid (H1.out.below u0.prop)
 have HO2 := Lib.hid (HO.out.below u0.prop HO.out.lt)
 have HB2 := Lib.hid (u0.back HB.out)
 go_upto_region 2 with (go_at_call 50; refine (markIntS_calls _ xs k _ H2.out.1 h0 (by omega)).mono ?_; rintro e w2 ⟨rfl, hbut, hr⟩; have HBT := Lib.hid hbut; have HR := Lib.hid hr; clear hbut hr)
 have HI := Lib.hid (H2.out.2.1.but HBT.out (fun b e e2 => (H2.out.2.2.1 b e2).2 e))
 have HO3 := Lib.hid (HO2.out.but HBT.out (fun e => Nat.lt_irrefl _ (HLT.out.1 _ e)))
 have q1 : w2.cell? ⟨w.heap.size, 1, none⟩ = some i := HO3.out.cell 1
 go_wp2_with (go_at_call 50; refine (markIntS_calls _ ys (k + xs.length) _ HI.out (by omega) h1).mono ?_; rintro e w3 ⟨rfl, hbut, hr⟩; have HBT2 := Lib.hid hbut; have HR2 := Lib.hid hr; clear hbut hr)
 go_ret
 refine ⟨rfl, ?_, HR.out.but HBT2.out (fun b e e2 => (H2.out.2.2.1 b e).2 e2), HR2.out, H2.out.2.2⟩
 exact ((But.of_below HB2.out).mono (fun b hb => .inr hb)).trans ((HBT.out.mono (fun b hb => .inl (.inl hb))).trans (HBT2.out.mono (fun b hb => .inl (.inr hb))))
theorem heldTrace_calls (v : Value) (k : Int) (n m : Nat) (w : World) (h : TrAt w v (marks k n) (marks (k + n) m)) (h0 : 0 ≤ k) (h1 : k + n + m ≤ 1000000000000) :
 Makes Tryz.prog 52 #[v, .int .i64 k] w (.int .i64 (k + n + m)) := by
 obtain ⟨s, i, rfl, hs, hi⟩ := h
 have HS := Lib.hid hs
 have HI := Lib.hid hi
 clear hs hi
 go_enter Tryz.func52, Tryz.ntmps52
 have HB := Lib.hid (box_below w #[s, i] 68)
 have m0 := box_cell w #[s, i] 68 0 _ rfl
 have m1 := box_cell w #[s, i] 68 1 _ rfl
 go_upto_region 1 with fail
 generalize w.alloc (.cells #[s, i] 68) = w1 at *
 replace m0 : ∀ u : Later w1, u.val.cell? ⟨w.heap.size, 0, none⟩ = some s := m0
 replace m1 : ∀ u : Later w1, u.val.cell? ⟨w.heap.size, 1, none⟩ = some i := m1
 refine at_world (w := w1) ?_
 intro u0
 have hx : ((k + (n : Int)) < 0) = False := eq_false (by omega)
 have hy : ((k + (n : Int) + (m : Int)) < 0) = False := eq_false (by omega)
 have HX := Lib.hid (fun w hw => heldIntS_calls s k n w hw h0 (by omega))
 have HY := Lib.hid (fun w hw => heldIntS_calls i (k + n) m w hw (by omega) h1)
 go_upto_region 2 with (go_at_call 104; refine (Calls.later (u := u0) (HX.out _ (HS.out.below (u0.back HB.out)))).mono ?_; rintro e w' ⟨rfl, u1, rfl⟩)
 go_wp2_with (go_at_call 104; refine (Calls.later (u := u1) (HY.out _ (HI.out.below (u1.back HB.out)))).mono ?_; rintro e w' ⟨rfl, u2, rfl⟩)
 go_ret
 exact ⟨rfl, u2.back HB.out⟩
theorem runSs_len (M : Md) (s : Int) (Is : List Int) : (runSs M s Is).length ≤ 301 := by
 unfold runSs
 split
 · next h =>
   rw [runS_len]
   unfold runB at h
   rw [Bool.and_eq_true] at h
   have h1 : 1 ≤ (Is.length : Int) ∧ (Is.length : Int) ≤ 301 := of_decide_eq_true h.1
   omega
 · simp
theorem runIs_len (M : Md) (s : Int) (Is : List Int) : (runIs M s Is).length ≤ 301 := by
 unfold runIs
 split
 · next h =>
   unfold runB at h
   rw [Bool.and_eq_true] at h
   have h1 : 1 ≤ (Is.length : Int) ∧ (Is.length : Int) ≤ 301 := of_decide_eq_true h.1
   omega
 · simp
theorem sl_shape {w : World} {v : Value} {xs : List Int} (h : SlN enI w v xs) : ∃ A c, v = .slice A xs.length c := by obtain ⟨A, c, h, -⟩ := h; exact ⟨A, c, h⟩
theorem FnExactTraceRun_calls (mv iv : Value) (M : Md) (s : Int) (Is : List Int) (w : World) (hM : MdAt w mv M) (hcw : (Lit.int .i64 s).wf = true) (hI : SlN enI w iv Is) (hnm : ∀ x, x ∈ M.nodes → x.name.size ≤ 140737488351232) (hw1 : ∀ b, b ∈ M.inits → (Lit.int .i64 b.st).wf = true) (hw2 : ∀ b, b ∈ M.nexts → (Lit.int .i64 b.st).wf = true) :
 Makes Tryz.prog 11 #[mv, .int .i64 s, iv] w (.bool true) := by
 have HM := Lib.hid hM
 have HI := Lib.hid hI
 have HNM := Lib.hid hnm
 have HW1 := Lib.hid hw1
 have HW2 := Lib.hid hw2
 have HSZ := Lib.hid (show ∀ x ∈ M.nodes, x.name.size ≤ 281474976710656 from fun x hx => by have := hnm x hx; omega)
 obtain ⟨s0, s1, s2, s3, s4, rfl, -⟩ := hM.at_
 obtain ⟨IA, ic, rfl, -, hil, -⟩ := hI
 have HIL := Lib.hid (Eq.refl Is.length)
 generalize hn : Is.length = n at *
 have HN := Lib.hid hn
 clear hM hnm hw1 hw2 hn HIL hcw
 go_enter Tryz.func11, Tryz.ntmps11
 have HB := Lib.hid (box_below w #[s0, s1, s2, s3, s4] 47)
 have m0 := box_cell w #[s0, s1, s2, s3, s4] 47 0 _ rfl
 have m1 := box_cell w #[s0, s1, s2, s3, s4] 47 1 _ rfl
 have m2 := box_cell w #[s0, s1, s2, s3, s4] 47 2 _ rfl
 have m3 := box_cell w #[s0, s1, s2, s3, s4] 47 3 _ rfl
 have m4 := box_cell w #[s0, s1, s2, s3, s4] 47 4 _ rfl
 go_upto_region 1 with fail
 generalize w.alloc (.cells #[s0, s1, s2, s3, s4] 47) = w1 at *
 replace m0 : ∀ u : Later w1, u.val.cell? ⟨w.heap.size, 0, none⟩ = some s0 := m0
 replace m1 : ∀ u : Later w1, u.val.cell? ⟨w.heap.size, 1, none⟩ = some s1 := m1
 replace m2 : ∀ u : Later w1, u.val.cell? ⟨w.heap.size, 2, none⟩ = some s2 := m2
 replace m3 : ∀ u : Later w1, u.val.cell? ⟨w.heap.size, 3, none⟩ = some s3 := m3
 replace m4 : ∀ u : Later w1, u.val.cell? ⟨w.heap.size, 4, none⟩ = some s4 := m4
 have HM1 := Lib.hid (HM.out.below HB.out)
 have HI1 := Lib.hid (HI.out.below HB.out)
 refine at_world (w := w1) ?_
 intro u0
 by_cases hbig : 1048576 < n
 · have hbig2 : (1048576 : Int) < n := by omega
   go_wp2
   go_ret
   exact ⟨rfl, u0.back HB.out⟩
 have hbig2 : ¬ (1048576 : Int) < n := by omega
 have HNL := Lib.hid (show Is.length ≤ 1048576 by rw [HN.out]; omega)
 go_upto_region 5 with (go_at_call 22; refine (szModel_calls _ M _ (HM1.out.later u0) HSZ.out).mono ?_; rintro e w' ⟨r, rfl, hb, hr⟩; obtain ⟨u1, hu1⟩ := u0.step hb; subst hu1; have HL := Lib.hid hr; clear hb hr)
 by_cases hneg : r < 0
 · go_wp2
   go_ret
   exact ⟨rfl, u1.back HB.out⟩
 have HLEN := Lib.hid (show M.nodes.length ≤ 1048576 ∧ M.inits.length ≤ 1048576 ∧ M.nexts.length ≤ 1048576 ∧ M.bads.length ≤ 1048576 ∧ M.holds.length ≤ 1048576 by
  have := HL.out
  unfold LeftOf at this
  omega)
 clear HL
 go_wp2_with fail
 refine (toModel_at _ M _ (HM1.out.later u1) HLEN.out.1 HLEN.out.2.1 HLEN.out.2.2.1 HLEN.out.2.2.2.1 HLEN.out.2.2.2.2).mono ?_
 rintro e w' ⟨t0, t1, t2, t3, t4, rfl, hb, hc⟩
 obtain ⟨d0, hd⟩ := u1.step hb
 subst hd
 have HC := Lib.hid hc
 clear hb hc
 go_wp2_with fail
 refine (toIntN_calls _ Is _ (HI1.out.later d0) HNL.out).mono ?_
 rintro e w' ⟨yv, rfl, hb, hfr⟩
 obtain ⟨y, rfl, hf⟩ := hfr.at_
 have HC := Lib.hid (HC.out.below hb)
 have HY := Lib.hid (hf.rowI (by have := HNL.out; omega)).slN
 obtain ⟨d1, hd⟩ := d0.step hb
 subst hd
 clear hb hfr hf
 go_wp2_with fail
 refine (TraceRun_calls _ _ M s Is _ HC.out HY.out HLEN.out.1 HNM.out).mono ?_
 have HSL := Lib.hid (runSs_len M s Is)
 have HKL := Lib.hid (runIs_len M s Is)
 generalize hS : runSs M s Is = S at *
 generalize hK : runIs M s Is = I at *
 generalize hOK : runB M s Is = ok at *
 have HRUN := Lib.hid (And.intro hS (And.intro hK hOK))
 clear hS hK hOK
 rintro e w' ⟨ov, rfl, hb, hr⟩
 obtain ⟨o0, o1, rfl, hr0, hr1⟩ := hr
 have HO := Lib.hid (show TrAt w' (.agg #[o0, o1]) S I from ⟨_, _, rfl, hr0, hr1⟩)
 obtain ⟨oA, oc, rfl⟩ := sl_shape hr0
 obtain ⟨pA, pc, rfl⟩ := sl_shape hr1
 obtain ⟨e0, he⟩ := d1.step hb
 subst he
 clear hb hr0 hr1 HC HY
 go_upto_region 8 with fail
 have hba : Below e0.val.heap.size e0.val (e0.val.alloc (Obj.cells #[.slice oA S.length oc, .slice pA I.length pc] 68)) := (Below.refl _ _).alloc (Nat.le_refl _) _
 have HL8 := Lib.hid (show LaterC w1 (e0.val.alloc (Obj.cells #[.slice oA S.length oc, .slice pA I.length pc] 68)) from LaterC.alloc' ⟨e0, rfl⟩ _)
 have HO8 := Lib.hid (HO.out.below hba)
 have HG8 := Lib.hid (show e0.val.heap.size < (e0.val.alloc (Obj.cells #[.slice oA S.length oc, .slice pA I.length pc] 68)).heap.size by simp)
 have E0 := box_cell e0.val #[.slice oA S.length oc, .slice pA I.length pc] 68 0 _ rfl
 have E1 := box_cell e0.val #[.slice oA S.length oc, .slice pA I.length pc] 68 1 _ rfl
 clear HO hba
 generalize e0.val.alloc (Obj.cells #[.slice oA S.length oc, .slice pA I.length pc] 68) = w8 at *
 generalize e0.val.heap.size = G8 at *
 replace E0 : ∀ u : Later w8, u.val.cell? ⟨G8, 0, none⟩ = some (.slice oA S.length oc) := E0
 replace E1 : ∀ u : Later w8, u.val.cell? ⟨G8, 1, none⟩ = some (.slice pA I.length pc) := E1
 replace m0 := Later.re m0 HL8.out
 replace m1 := Later.re m1 HL8.out
 replace m2 := Later.re m2 HL8.out
 replace m3 := Later.re m3 HL8.out
 replace m4 := Later.re m4 HL8.out
 have HM8 := Lib.hid (HM1.out.below HL8.out.below)
 have HI8 := Lib.hid (HI1.out.below HL8.out.below)
 have HB8 := Lib.hid (below_of HB.out HL8.out)
 clear HM1 HI1
 refine at_world (w := w8) ?_
 intro v0
 go_wp2_with fail
 refine (toModel_calls _ M _ (HM8.out.later v0) HLEN.out.1 HLEN.out.2.1 HLEN.out.2.2.1 HLEN.out.2.2.2.1 HLEN.out.2.2.2.2).mono ?_
 rintro e w' ⟨x0, x1, x2, x3, x4, rfl, hb, hx01, hx12, hx23, hx34, hf0, hf1, hf2, hf3, hf4⟩
 have HX := Lib.hid (show x0 < x1 ∧ x1 < x2 ∧ x2 < x3 ∧ x3 < x4 from ⟨hx01, hx12, hx23, hx34⟩)
 have HXW := Lib.hid (show w8.heap.size ≤ x0 from Nat.le_trans v0.size hf0.ge)
 have HF := Lib.hid (show _ ∧ _ ∧ _ ∧ _ ∧ _ from ⟨hf0, hf1, hf2, hf3, hf4⟩)
 obtain ⟨e1, he⟩ := v0.step hb
 subst he
 clear hb hx01 hx12 hx23 hx34 hf0 hf1 hf2 hf3 hf4
 have HC2 := Lib.hid (show MdAt e1.val (Value.agg #[slOf x0 M.nodes, slOf x1 M.inits, slOf x2 M.nexts, slOf x3 M.bads, slOf x4 M.holds]) M from ⟨⟨_, _, _, _, _, rfl, HF.out.1.slAt (by have := HLEN.out; omega), HF.out.2.1.slAt (by have := HLEN.out; omega), HF.out.2.2.1.slAt (by have := HLEN.out; omega), HF.out.2.2.2.1.slAt (by have := HLEN.out; omega), HF.out.2.2.2.2.slAt (by have := HLEN.out; omega)⟩⟩)
 go_wp2_with fail
 have HB2 := Lib.hid (show LaterC w8 (e1.val.alloc (Obj.cells #[slOf x0 M.nodes, slOf x1 M.inits, slOf x2 M.nexts, slOf x3 M.bads, slOf x4 M.holds] 27)) from LaterC.alloc' ⟨e1, rfl⟩ _)
 have hba : Below e1.val.heap.size e1.val (e1.val.alloc (Obj.cells #[slOf x0 M.nodes, slOf x1 M.inits, slOf x2 M.nexts, slOf x3 M.bads, slOf x4 M.holds] 27)) := (Below.refl _ _).alloc (Nat.le_refl _) _
 have HC3 := Lib.hid (HC2.out.below hba)
 have HF5 := Lib.hid (show _ ∧ _ ∧ _ ∧ _ ∧ _ from ⟨HF.out.1.below hba, HF.out.2.1.below hba, HF.out.2.2.1.below hba, HF.out.2.2.2.1.below hba, HF.out.2.2.2.2.below hba⟩)
 have HX4 := Lib.hid (show x4 < e1.val.heap.size from HF.out.2.2.2.2.lt)
 have HGS := Lib.hid (show e1.val.heap.size < (e1.val.alloc (Obj.cells #[slOf x0 M.nodes, slOf x1 M.inits, slOf x2 M.nexts, slOf x3 M.bads, slOf x4 M.holds] 27)).heap.size by simp)
 clear HC2 HF hba
 have b0 := box_cell e1.val #[slOf x0 M.nodes, slOf x1 M.inits, slOf x2 M.nexts, slOf x3 M.bads, slOf x4 M.holds] 27 0 _ rfl
 have b1 := box_cell e1.val #[slOf x0 M.nodes, slOf x1 M.inits, slOf x2 M.nexts, slOf x3 M.bads, slOf x4 M.holds] 27 1 _ rfl
 have b2 := box_cell e1.val #[slOf x0 M.nodes, slOf x1 M.inits, slOf x2 M.nexts, slOf x3 M.bads, slOf x4 M.holds] 27 2 _ rfl
 have b3 := box_cell e1.val #[slOf x0 M.nodes, slOf x1 M.inits, slOf x2 M.nexts, slOf x3 M.bads, slOf x4 M.holds] 27 3 _ rfl
 have b4 := box_cell e1.val #[slOf x0 M.nodes, slOf x1 M.inits, slOf x2 M.nexts, slOf x3 M.bads, slOf x4 M.holds] 27 4 _ rfl
 generalize e1.val.alloc (Obj.cells #[slOf x0 M.nodes, slOf x1 M.inits, slOf x2 M.nexts, slOf x3 M.bads, slOf x4 M.holds] 27) = w2 at *
 generalize e1.val.heap.size = G at *
 replace b0 : ∀ u : Later w2, u.val.cell? ⟨G, 0, none⟩ = some (slOf x0 M.nodes) := b0
 replace b1 : ∀ u : Later w2, u.val.cell? ⟨G, 1, none⟩ = some (slOf x1 M.inits) := b1
 replace b2 : ∀ u : Later w2, u.val.cell? ⟨G, 2, none⟩ = some (slOf x2 M.nexts) := b2
 replace b3 : ∀ u : Later w2, u.val.cell? ⟨G, 3, none⟩ = some (slOf x3 M.bads) := b3
 replace b4 : ∀ u : Later w2, u.val.cell? ⟨G, 4, none⟩ = some (slOf x4 M.holds) := b4
 refine calls_at (w := w2) fun a0 => ?_
 refine (toIntN_calls _ Is _ ((HI8.out.below HB2.out.below).later a0) HNL.out).mono ?_
 rintro e w' ⟨zv, rfl, hb, hfr⟩
 obtain ⟨z, rfl, hf⟩ := hfr.at_
 have HZ := Lib.hid (hf.rowI (by have := HNL.out; omega))
 have HZG := Lib.hid (show w2.heap.size ≤ z ∧ z < w'.heap.size from ⟨Nat.le_trans a0.size hf.ge, hf.lt⟩)
 obtain ⟨a1, ha⟩ := a0.step hb
 subst ha
 clear hb hfr hf
 go_wp2_with fail
 refine (TraceRun'_calls _ _ M s Is _ (HC3.out.later a1) HZ.out.slN HLEN.out.1 HNM.out HW1.out HW2.out).mono ?_
 rw [HRUN.out.1, HRUN.out.2.1, HRUN.out.2.2]
 rintro e w' ⟨g0, g1, rfl, hb, hown⟩
 have HT := Lib.hid (hown.mono (HZG.out.2 : z + 1 ≤ _))
 have HZ := Lib.hid (HZ.out.below hb)
 obtain ⟨gA, gc, rfl⟩ := hown.1.shape
 obtain ⟨kA, kc, rfl⟩ := hown.2.1.shape
 obtain ⟨a2, ha⟩ := a1.step hb
 subst ha
 clear hb hown
 go_upto_region 11 with fail
 have hba : Below a2.val.heap.size a2.val (a2.val.alloc (Obj.cells #[.slice gA S.length gc, .slice kA I.length kc] 68)) := (Below.refl _ _).alloc (Nat.le_refl _) _
 have HL23 := Lib.hid (show LaterC w2 (a2.val.alloc (Obj.cells #[.slice gA S.length gc, .slice kA I.length kc] 68)) from LaterC.alloc' ⟨a2, rfl⟩ _)
 have HT3 := Lib.hid (HT.out.below hba)
 have HTB := Lib.hid (And.intro (fun b e => HT.out.1.lt e : ∀ b, (Value.slice gA S.length gc).ownBlock = some b → b < a2.val.heap.size) (fun b e => HT.out.2.1.lt e : ∀ b, (Value.slice kA I.length kc).ownBlock = some b → b < a2.val.heap.size))
 have HZ3 := Lib.hid (HZ.out.below hba)
 have HZ9 := Lib.hid (show z < a2.val.heap.size from HZ.out.lt rfl)
 have HO12 := Lib.hid (OwnB.new a2.val 68 #[.slice gA S.length gc, .slice kA I.length kc])
 have c0 := box_cell a2.val #[.slice gA S.length gc, .slice kA I.length kc] 68 0 _ rfl
 have c1 := box_cell a2.val #[.slice gA S.length gc, .slice kA I.length kc] 68 1 _ rfl
 clear HT HZ hba
 generalize a2.val.alloc (Obj.cells #[.slice gA S.length gc, .slice kA I.length kc] 68) = w3 at *
 generalize a2.val.heap.size = G12 at *
 replace c0 : ∀ u : Later w3, u.val.cell? ⟨G12, 0, none⟩ = some (.slice gA S.length gc) := c0
 replace c1 : ∀ u : Later w3, u.val.cell? ⟨G12, 1, none⟩ = some (.slice kA I.length kc) := c1
 have HL83 := Lib.hid (HB2.out.trans HL23.out)
 have n0 := Later.re m0 HL83.out
 have n1 := Later.re m1 HL83.out
 have n2 := Later.re m2 HL83.out
 have n3 := Later.re m3 HL83.out
 have n4 := Later.re m4 HL83.out
 replace b0 := Later.re b0 HL23.out
 replace b1 := Later.re b1 HL23.out
 replace b2 := Later.re b2 HL23.out
 replace b3 := Later.re b3 HL23.out
 replace b4 := Later.re b4 HL23.out
 have q0 := Later.re E0 HL83.out
 have q1 := Later.re E1 HL83.out
 have HM3 := Lib.hid (HM8.out.below HL83.out.below)
 have HI3 := Lib.hid (HI8.out.below HL83.out.below)
 have HO3 := Lib.hid (HO8.out.below HL83.out.below)
 have HC3 := Lib.hid (HC3.out.below HL23.out.below)
 refine at_world (w := w3) ?_
 intro v3
 go_wp2_with fail
 refine (Calls.later (u := v3) (eqTrace_calls _ _ S I _ (HT3.out.trAt.later v3) (HO3.out.later v3))).mono ?_
 rintro e w' ⟨rfl, p0, rfl⟩
 go_upto_region 13 with fail
 go_region_held3 (fun w' => w'.cell? ⟨w.heap.size, 0, none⟩ = some s0 ∧ w'.cell? ⟨w.heap.size, 1, none⟩ = some s1 ∧ w'.cell? ⟨w.heap.size, 2, none⟩ = some s2 ∧ w'.cell? ⟨w.heap.size, 3, none⟩ = some s3 ∧ w'.cell? ⟨w.heap.size, 4, none⟩ = some s4 ∧ w'.cell? ⟨G, 0, none⟩ = some (slOf x0 M.nodes) ∧ w'.cell? ⟨G, 1, none⟩ = some (slOf x1 M.inits) ∧ w'.cell? ⟨G, 2, none⟩ = some (slOf x2 M.nexts) ∧ w'.cell? ⟨G, 3, none⟩ = some (slOf x3 M.bads) ∧ w'.cell? ⟨G, 4, none⟩ = some (slOf x4 M.holds)) (exact ⟨lf n0, lf n1, lf n2, lf n3, lf n4, lf b0, lf b1, lf b2, lf b3, lf b4⟩) (first | (go_at_call 24; refine (toModel_at _ M _ (HM3.out.below lcb) HLEN.out.1 HLEN.out.2.1 HLEN.out.2.2.1 HLEN.out.2.2.2.1 HLEN.out.2.2.2.2).mono ?_; rintro e w' ⟨y0, y1, y2, y3, y4, rfl, hb, hc⟩; obtain ⟨p1, hp⟩ := laterC_step (w1 := w3) lcx hb; subst hp; have HC4 := Lib.hid hc; clear hb hc) | (go_at_call 26; refine (eqModel_calls _ _ M _ (HC3.out.below lcb) (HC4.out.below bdx)).mono ?_; rintro e w' ⟨rfl, hb⟩; obtain ⟨p2, hp⟩ := laterC_step (w1 := w3) lcx hb; subst hp; clear hb))
 go_wp2_with fail
 refine (toIntN_calls _ Is _ (HI3.out.later p2) HNL.out).mono ?_
 rintro e w' ⟨lv, rfl, hb, hfr⟩
 obtain ⟨l, rfl, hf⟩ := hfr.at_
 have HLI := Lib.hid (hf.rowI (by have := HNL.out; omega)).slN
 obtain ⟨p3, hp⟩ := p2.step hb
 subst hp
 clear hb hfr hf
 go_wp2_with fail
 refine (Calls.later (u := p3) (eqIntN_calls _ _ Is _ (HZ3.out.slN.below p3.prop) HLI.out)).mono ?_
 rintro e w' ⟨rfl, p4, rfl⟩
 go_wp2_with fail
 refine (markModel_le M _ x0 x1 x2 x3 x4 HLEN.out HX.out ((HF5.out.1.below HL23.out.below).below p4.prop) ((HF5.out.2.1.below HL23.out.below).below p4.prop) ((HF5.out.2.2.1.below HL23.out.below).below p4.prop) ((HF5.out.2.2.2.1.below HL23.out.below).below p4.prop) ((HF5.out.2.2.2.2.below HL23.out.below).below p4.prop)).mono ?_
 rintro e w4 ⟨r2, rfl, hr2, hbut⟩
 have HXV := Lib.hid (show x4 < z by have h1 := HX4.out; have h2 := HGS.out; have h3 := HZG.out; omega)
 have HZX := Lib.hid (show w8.heap.size ≤ z ∧ z < G12 by have h1 := HXW.out; have h2 := HXV.out; have h3 := HX.out; have h4 := HZ9.out; omega)
 have HT4 := Lib.hid ((HT3.out.below p4.prop).but hbut (fun b h1 h2 h => by have h3 := HXV.out; have h4 := h.2; omega))
 have HZ4 := Lib.hid ((HZ3.out.below p4.prop).but hbut (fun b hb h => by have h3 := HXV.out; have h4 := h.2; simp [slOf, Value.ownBlock] at hb; omega))
 have HO4 := Lib.hid ((HO12.out.below p4.prop HO12.out.lt).but hbut (fun h => by have h3 := HXV.out; have h4 := h.2; have h5 := HZX.out; omega))
 have HL4 := Lib.hid (show LaterC w8 w4 from .of ((HL83.out.trans ⟨p4, rfl⟩).below.trans (hbut.below (fun k hk => Nat.le_trans HXW.out hk.1) (HL83.out.trans ⟨p4, rfl⟩).size)))
 have HR2 := Lib.hid hr2
 clear hr2 hbut
 go_wp2_with fail
 refine (markIntS_calls _ Is r2 _ HZ4.out HR2.out.1 (by have h1 := HR2.out.2; have h2 := HNL.out; omega)).mono ?_
 rintro e w5 ⟨rfl, hbut, -⟩
 have HT5 := Lib.hid (HT4.out.but hbut (fun b h1 h2 h => by simp [slOf, Value.ownBlock] at h; omega))
 have HO5 := Lib.hid (HO4.out.but hbut (fun h => by have h5 := HZX.out; simp [slOf, Value.ownBlock] at h; omega))
 have HL5 := Lib.hid (show LaterC w8 w5 from .of (HL4.out.below.trans (hbut.below (fun k hk => by have h5 := HZX.out; simp [slOf, Value.ownBlock] at hk; omega) HL4.out.size)))
 clear hbut
 obtain ⟨rr, hrr⟩ : ∃ q : Int, q = r2 + Is.length := ⟨_, rfl⟩
 rw [← hrr]
 have hneg3 : (rr < 0) = False := eq_false (by have := HR2.out.1; omega)
 clear hrr
 obtain ⟨v5, rfl⟩ := HL5.out
 have c0 : v5.val.cell? ⟨G12, 0, none⟩ = some (.slice gA S.length gc) := HO5.out.cell 0
 have c1 : v5.val.cell? ⟨G12, 1, none⟩ = some (.slice kA I.length kc) := HO5.out.cell 1
 go_wp2_with fail
 refine (eqTrace_calls _ _ S I _ HT5.out.trAt (HO8.out.later v5)).mono ?_
 rintro e w' ⟨rfl, hb⟩
 have HT6 := Lib.hid (HT5.out.below hb)
 have HO6 := Lib.hid (HO5.out.below hb HO5.out.lt)
 obtain ⟨v6, hv⟩ := v5.step hb
 subst hv
 clear hb c0 c1
 have c0 : v6.val.cell? ⟨G12, 0, none⟩ = some (.slice gA S.length gc) := HO6.out.cell 0
 have c1 : v6.val.cell? ⟨G12, 1, none⟩ = some (.slice kA I.length kc) := HO6.out.cell 1
 go_wp2_with fail
 refine (markTrace_calls _ _ _ S I 1 _ HT6.out (by omega) (by have h1 := HSL.out; have h2 := HKL.out; omega)).mono ?_
 rintro e w7 ⟨rfl, hbut, hown⟩
 have HT7 := Lib.hid hown
 have HO7 := Lib.hid (HO6.out.but hbut (fun h => by
  rcases h with (h | h) | h
  · exact Nat.lt_irrefl _ (HTB.out.1 _ h)
  · exact Nat.lt_irrefl _ (HTB.out.2 _ h)
  · have := HO6.out.lt; omega))
 have HL7 := Lib.hid (show LaterC w8 w7 from .of (v6.prop.trans (hbut.below (fun b h => by
  have h5 := HZX.out
  rcases h with (h | h) | h
  · have := (HT6.out.2.2.1 b h).1; omega
  · have := HT6.out.2.2.2 b h; omega
  · have := v6.size; omega) v6.size)))
 clear hbut hown c0 c1
 obtain ⟨tt, htt⟩ : ∃ q : Int, q = 1 + S.length + I.length := ⟨_, rfl⟩
 rw [← htt]
 have htt0 : (tt < 0) = False := eq_false (by omega)
 have HTT := Lib.hid htt.symm
 clear htt
 obtain ⟨v7, rfl⟩ := HL7.out
 have c0 : v7.val.cell? ⟨G12, 0, none⟩ = some (.slice gA S.length gc) := HO7.out.cell 0
 have c1 : v7.val.cell? ⟨G12, 1, none⟩ = some (.slice kA I.length kc) := HO7.out.cell 1
 go_wp2_with fail
 refine (heldTrace_calls _ 1 S.length I.length _ HT7.out.trAt (by omega) (by have h1 := HSL.out; have h2 := HKL.out; omega)).mono ?_
 rintro e w' ⟨rfl, hb⟩
 rw [HTT.out]
 have HT8 := Lib.hid (HT7.out.below hb)
 have HO9 := Lib.hid (HO7.out.below hb HO7.out.lt)
 obtain ⟨d8, hd⟩ := v7.step hb
 subst hd
 clear hb c0 c1
 go_wp2_with fail
 refine (toModel_at _ M _ (HM8.out.later d8) HLEN.out.1 HLEN.out.2.1 HLEN.out.2.2.1 HLEN.out.2.2.2.1 HLEN.out.2.2.2.2).mono ?_
 rintro e w' ⟨z0, z1, z2, z3, z4, rfl, hb, hc⟩
 have HC := Lib.hid hc
 have HT8 := Lib.hid (HT8.out.below hb)
 have HO9 := Lib.hid (HO9.out.below hb HO9.out.lt)
 obtain ⟨j0, hj⟩ := d8.step hb
 subst hj
 clear hb hc
 go_wp2_with fail
 refine (toIntN_calls _ Is _ (HI8.out.later j0) HNL.out).mono ?_
 rintro e w' ⟨jv, rfl, hb, hfr⟩
 obtain ⟨jz, rfl, hf⟩ := hfr.at_
 have HJ := Lib.hid (hf.rowI (by have := HNL.out; omega)).slN
 have HC := Lib.hid (HC.out.below hb)
 have HT8 := Lib.hid (HT8.out.below hb)
 have HO9 := Lib.hid (HO9.out.below hb HO9.out.lt)
 obtain ⟨j1, hj⟩ := j0.step hb
 subst hj
 clear hb hfr hf
 go_wp2_with fail
 refine (TraceRun'_calls _ _ M s Is _ HC.out HJ.out HLEN.out.1 HNM.out HW1.out HW2.out).mono ?_
 rw [HRUN.out.1, HRUN.out.2.1, HRUN.out.2.2]
 rintro e w' ⟨h0, h1, rfl, hb, hown⟩
 have HH := Lib.hid hown.trAt
 have HT8 := Lib.hid (HT8.out.below hb)
 have HO9 := Lib.hid (HO9.out.below hb HO9.out.lt)
 obtain ⟨hA, hc0, rfl⟩ := hown.1.shape
 obtain ⟨hK, hc1, rfl⟩ := hown.2.1.shape
 obtain ⟨j2, hj⟩ := j1.step hb
 subst hj
 clear hb hown
 go_upto_region 31 with fail
 have hba : Below j2.val.heap.size j2.val (j2.val.alloc (Obj.cells #[.slice hA S.length hc0, .slice hK I.length hc1] 68)) := (Below.refl _ _).alloc (Nat.le_refl _) _
 have HL17 := Lib.hid (show LaterC w8 (j2.val.alloc (Obj.cells #[.slice hA S.length hc0, .slice hK I.length hc1] 68)) from LaterC.alloc' ⟨j2, rfl⟩ _)
 have HH := Lib.hid (HH.out.below hba)
 have HT8 := Lib.hid (HT8.out.below hba)
 have HO9 := Lib.hid (HO9.out.below hba HO9.out.lt)
 have c2 := box_cell j2.val #[.slice hA S.length hc0, .slice hK I.length hc1] 68 0 _ rfl
 have c3 := box_cell j2.val #[.slice hA S.length hc0, .slice hK I.length hc1] 68 1 _ rfl
 clear hba
 generalize j2.val.alloc (Obj.cells #[.slice hA S.length hc0, .slice hK I.length hc1] 68) = w9 at *
 generalize j2.val.heap.size = G17 at *
 replace c2 : ∀ u : Later w9, u.val.cell? ⟨G17, 0, none⟩ = some (.slice hA S.length hc0) := c2
 replace c3 : ∀ u : Later w9, u.val.cell? ⟨G17, 1, none⟩ = some (.slice hK I.length hc1) := c3
 have q0 := Later.re E0 HL17.out
 have q1 := Later.re E1 HL17.out
 have HO17 := Lib.hid (HO8.out.below HL17.out.below)
 have HB9 := Lib.hid (below_of HB8.out HL17.out)
 have c0 : ∀ u : Later w9, u.val.cell? ⟨G12, 0, none⟩ = some (.slice gA S.length gc) := Later.cell (HO9.out.cell 0)
 have c1 : ∀ u : Later w9, u.val.cell? ⟨G12, 1, none⟩ = some (.slice kA I.length kc) := Later.cell (HO9.out.cell 1)
 refine at_world (w := w9) ?_
 intro i0
 go_wp2_with fail
 refine (Calls.later (u := i0) (eqTrace_calls _ _ S I _ (HH.out.later i0) (HO17.out.later i0))).mono ?_
 rintro e w' ⟨rfl, i1, rfl⟩
 go_wp2_with fail
 refine (Calls.later_eq (u := i1) (heldTrace_calls _ 1 S.length I.length _ (HT8.out.trAt.later i1) (by omega) (by have h1 := HSL.out; have h2 := HKL.out; omega)) (congrArg (Value.int .i64) HTT.out)).mono ?_
 rintro e w' ⟨rfl, i2, rfl⟩
 go_wp2
 go_ret
 exact ⟨rfl, i2.back HB9.out⟩
end Go.Proofs.YtbenebcphaiohaaGreat
