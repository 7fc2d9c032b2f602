import Derived.Test.YtbenebcphaiohaaGreater6
import Derived.Test.YtbenebcphaiohaaGreater4
import Derived.Lib.AppendZeros
import Derived.Laws.OwnMore
import Derived.LoopN
import Derived.Maps.Own
import Derived.Maps.OwnSet
import Derived.Maps.Views
import Derived.StringKeys
import Derived.Test.YtbenebcphaiohaaGreater1
import Derived.WalkKit
import Derived.ProofKit
import Derived.OpenShut
import Derived.ShutString
import Derived.ChangeOld
import Derived.Below
import Derived.SizedLaws
import Derived.RowKit3
import Derived.Carry
import Derived.Deep.Slices
import Derived.Lib.SmallJoins
set_option linter.unusedVariables false
set_option linter.unusedSimpArgs false
set_option maxRecDepth 8000
set_option maxHeartbeats 16000000
namespace Go.Proofs.YtbenebcphaiohaaGreat
open Go.RowKit
def ModelBox (w : World) (b : Nat) (M : Md) : Prop := ∃ s0 s1 s2 s3 s4 : Value, MdAt w (.agg #[s0, s1, s2, s3, s4]) M ∧ w.cell? ⟨b, 0, none⟩ = some s0 ∧ w.cell? ⟨b, 1, none⟩ = some s1 ∧ w.cell? ⟨b, 2, none⟩ = some s2 ∧ w.cell? ⟨b, 3, none⟩ = some s3 ∧ w.cell? ⟨b, 4, none⟩ = some s4
def MadeBox (w : World) (b : Nat) (M : Md) : Prop := ∃ (g : Nat) (cs : Array Value), w.cell? ⟨b, 0, none⟩ = some (.slice (some ⟨g, 0, none⟩) M.nodes.length M.nodes.length) ∧ OwnB w g 4 cs ∧ BoolsAt cs M.nodes.length (MadeP M.nodes)
theorem ModelBox.below {w w' : World} {b : Nat} {M : Md} (h : ModelBox w b M) (hb : Below w.heap.size w w') : ModelBox w' b M := by
 obtain ⟨s0, s1, s2, s3, s4, hM, h0, h1, h2, h3, h4⟩ := h
 exact ⟨s0, s1, s2, s3, s4, hM.below hb, keepcell hb h0, keepcell hb h1, keepcell hb h2, keepcell hb h3, keepcell hb h4⟩
theorem MadeBox.below {w w' : World} {b : Nat} {M : Md} (h : MadeBox w b M) (hb : Below w.heap.size w w') : MadeBox w' b M := by
 obtain ⟨g, cs, h0, hO, hB⟩ := h
 exact ⟨g, cs, keepcell hb h0, hO.below hb hO.lt, hB⟩
theorem closure1_calls (M : Md) (Bm Bx : Nat) (b : Bd) (w : World) (hM : ModelBox w Bm M) (hB : MadeBox w Bx M) :
 Makes Tryz.prog 165 #[.agg #[.int .i64 b.st, .int .i64 b.nd], .pointer (some ⟨Bm, 0, none⟩), .pointer (some ⟨Bx, 0, none⟩)] w (.bool (!bindOkB M.nodes b true)) := by
 obtain ⟨s0, s1, s2, s3, s4, hM, h0, h1, h2, h3, h4⟩ := hM
 obtain ⟨g, cs, hc, hO, hB⟩ := hB
 obtain ⟨bs, bn⟩ := b
 dsimp only
 have hbel := box_below w #[.int .i64 bs, .int .i64 bn] 117
 have HM := Lib.hid (hM.below hbel)
 have HO := Lib.hid (hO.below hbel hO.lt)
 have HB := Lib.hid hB
 have HBL := Lib.hid hbel
 obtain ⟨v, hv⟩ : ∃ v, v = bindOkB M.nodes ⟨bs, bn⟩ true := ⟨_, rfl⟩
 have HV := Lib.hid hv.symm
 rw [← hv]
 have n0 := keepcell hbel h0
 have n1 := keepcell hbel h1
 have n2 := keepcell hbel h2
 have n3 := keepcell hbel h3
 have n4 := keepcell hbel h4
 have nc := keepcell hbel hc
 clear hM hO hB hbel hv h0 h1 h2 h3 h4 hc
 go_enter Tryz.func165, Tryz.ntmps165
 go_wp2_with (go_at_call 166; refine (bindOk_calls _ M ⟨bs, bn⟩ true g cs _ HM.out HO.out HB.out).mono ?_; rintro e w' ⟨rfl, hb2⟩; rw [HV.out]; have HB2 := Lib.hid hb2; clear hb2)
 go_ret
 exact ⟨rfl, HBL.out.trans (HB2.out.mono HBL.out.size)⟩
theorem index1_calls (M : Md) (Bm Bx : Nat) (sv : Value) (xs : List Bd) (w : World) (hM : ModelBox w Bm M) (hB : MadeBox w Bx M) (hS : SlAt enBd w sv xs) :
 Calls Tryz.prog 175 #[sv, (.func (.func 165) #[] #[.pointer (some ⟨Bm, 0, none⟩), .pointer (some ⟨Bx, 0, none⟩)])] w fun e w' => ∃ z : Int, e = .returned (.int .i64 z) ∧ Below w.heap.size w w' ∧ decide (0 ≤ z) = !(xs.all fun b => bindOkB M.nodes b true) := by
 obtain ⟨A, c, rfl, hnc, hc', hA⟩ := hS
 have HNO := Lib.hid (show ∀ k, k < xs.length → bindOkB M.nodes (xs.getD k Bd.zero) true = false → (xs.all fun b => bindOkB M.nodes b true) = false from fun k h1 h2 => all_no h1 h2)
 have HYES := Lib.hid (show (∀ k, k < xs.length → bindOkB M.nodes (xs.getD k Bd.zero) true = true) → (xs.all fun b => bindOkB M.nodes b true) = true from fun h => all_yes (z := Bd.zero) h)
 generalize (xs.all fun b => bindOkB M.nodes b true) = R at *
 generalize hN : xs.length = n at *
 have HN := Lib.hid hN
 have HM := Lib.hid hM
 have HB := Lib.hid hB
 have hn : n ≤ 281474976710656 := Nat.le_trans hnc hc'
 clear hN hM hB hc' hnc
 go_enter Tryz.func175, Tryz.ntmps175
 go_wp2
 go_loopw [8] (fun i wr => ∃ k : Nat, k ≤ n ∧ i = .int .i64 k ∧ Hid (∀ j, j < k → bindOkB M.nodes (xs.getD j Bd.zero) true = true) ∧ LaterC w wr) (fun i _ => n - (intOf i).toNat)
 case atStart => exact ⟨0, Nat.zero_le _, rfl, Lib.hid (fun j hj => absurd hj (Nat.not_lt_zero _)), LaterC.refl _⟩
 case round =>
  obtain ⟨k, hk, rfl, hto, ⟨u, rfl⟩⟩ := hrel
  by_cases hlt : k < n
  · have hlt' : (k : Int) < n := by omega
    obtain ⟨g, o, rfl, hx⟩ := hA k _ (getD_at (by rw [HN.out]; exact hlt) Bd.zero)
    generalize hxe : xs.getD k Bd.zero = x at hx
    have HX := Lib.hid hxe
    clear hxe
    obtain ⟨bs, bn⟩ := x
    have p0 : ∀ l : Later w, l.val.cell? ⟨g, o + k * 2, none⟩ = some (.int .i64 bs) := hx.at_ (Below.refl _ _) 0 _ rfl
    have p1 : ∀ l : Later w, l.val.cell? ⟨g, o + k * 2 + 1, none⟩ = some (.int .i64 bn) := hx.at_ (Below.refl _ _) 1 _ rfl
    clear hx hA
    by_cases hv : bindOkB M.nodes ⟨bs, bn⟩ true = true
    · have HV := Lib.hid hv
      have HTO := Lib.hid (show ∀ j, j < k + 1 → bindOkB M.nodes (xs.getD j Bd.zero) true = true from fun j hj => by
       rcases Nat.lt_or_ge j k with g | g
       · exact hto.out j g
       · obtain rfl : j = k := by omega
         rw [HX.out]; exact hv)
      clear hv hto
      go_wp2_with (go_at_call 165; refine (Calls.later (u := u) (closure1_calls M Bm Bx ⟨bs, bn⟩ _ (HM.out.below u.prop) (HB.out.below u.prop))).mono ?_; rintro e w' ⟨rfl, u1, rfl⟩; rw [HV.out])
      go_roundw
      case rel => exact ⟨k + 1, by omega, by go_num, HTO, ⟨u1, rfl⟩⟩
      case measure => simp [intOf] <;> omega
    · have hv := eq_false_of_ne_true hv
      have HV := Lib.hid hv
      have HR := Lib.hid (HNO.out k hlt (by rw [HX.out]; exact hv))
      clear hv hto
      go_wp2_with (go_at_call 165; refine (Calls.later (u := u) (closure1_calls M Bm Bx ⟨bs, bn⟩ _ (HM.out.below u.prop) (HB.out.below u.prop))).mono ?_; rintro e w' ⟨rfl, u1, rfl⟩; rw [HV.out])
      go_ret
      exact ⟨_, rfl, u1.prop, by rw [HR.out]; simp⟩
  · obtain rfl : k = n := by omega
    have HR := Lib.hid (HYES.out hto.out)
    clear hto hA
    go_wp2
    go_ret
    exact ⟨_, rfl, u.prop, by rw [HR.out]; simp⟩
theorem contains1_calls (M : Md) (Bm Bx : Nat) (sv : Value) (xs : List Bd) (w : World) (hM : ModelBox w Bm M) (hB : MadeBox w Bx M) (hS : SlAt enBd w sv xs) :
 Makes Tryz.prog 164 #[sv, (.func (.func 165) #[] #[.pointer (some ⟨Bm, 0, none⟩), .pointer (some ⟨Bx, 0, none⟩)])] w (.bool (!(xs.all fun b => bindOkB M.nodes b true))) := by
 have HM := Lib.hid hM
 have HB := Lib.hid hB
 have HS := Lib.hid hS
 clear hM hB hS
 go_enter Tryz.func164, Tryz.ntmps164
 go_wp2_with (go_at_call 175; refine (index1_calls M Bm Bx sv xs _ HM.out HB.out HS.out).mono ?_; rintro e w' ⟨z, rfl, hb2, hz⟩; have HB2 := Lib.hid hb2; have HZ := Lib.hid hz; clear hb2 hz)
 go_ret
 exact ⟨ret_eq (congrArg Value.bool HZ.out), HB2.out⟩
theorem closure2_calls (M : Md) (Bm Bx : Nat) (b : Bd) (w : World) (hM : ModelBox w Bm M) (hB : MadeBox w Bx M) :
 Makes Tryz.prog 167 #[.agg #[.int .i64 b.st, .int .i64 b.nd], .pointer (some ⟨Bm, 0, none⟩), .pointer (some ⟨Bx, 0, none⟩)] w (.bool (!bindOkB M.nodes b false)) := by
 obtain ⟨s0, s1, s2, s3, s4, hM, h0, h1, h2, h3, h4⟩ := hM
 obtain ⟨g, cs, hc, hO, hB⟩ := hB
 obtain ⟨bs, bn⟩ := b
 dsimp only
 have hbel := box_below w #[.int .i64 bs, .int .i64 bn] 117
 have HM := Lib.hid (hM.below hbel)
 have HO := Lib.hid (hO.below hbel hO.lt)
 have HB := Lib.hid hB
 have HBL := Lib.hid hbel
 obtain ⟨v, hv⟩ : ∃ v, v = bindOkB M.nodes ⟨bs, bn⟩ false := ⟨_, rfl⟩
 have HV := Lib.hid hv.symm
 rw [← hv]
 have n0 := keepcell hbel h0
 have n1 := keepcell hbel h1
 have n2 := keepcell hbel h2
 have n3 := keepcell hbel h3
 have n4 := keepcell hbel h4
 have nc := keepcell hbel hc
 clear hM hO hB hbel hv h0 h1 h2 h3 h4 hc
 go_enter Tryz.func167, Tryz.ntmps167
 go_wp2_with (go_at_call 166; refine (bindOk_calls _ M ⟨bs, bn⟩ false g cs _ HM.out HO.out HB.out).mono ?_; rintro e w' ⟨rfl, hb2⟩; rw [HV.out]; have HB2 := Lib.hid hb2; clear hb2)
 go_ret
 exact ⟨rfl, HBL.out.trans (HB2.out.mono HBL.out.size)⟩
theorem index2_calls (M : Md) (Bm Bx : Nat) (sv : Value) (xs : List Bd) (w : World) (hM : ModelBox w Bm M) (hB : MadeBox w Bx M) (hS : SlAt enBd w sv xs) :
 Calls Tryz.prog 175 #[sv, (.func (.func 167) #[] #[.pointer (some ⟨Bm, 0, none⟩), .pointer (some ⟨Bx, 0, none⟩)])] w fun e w' => ∃ z : Int, e = .returned (.int .i64 z) ∧ Below w.heap.size w w' ∧ decide (0 ≤ z) = !(xs.all fun b => bindOkB M.nodes b false) := by
 obtain ⟨A, c, rfl, hnc, hc', hA⟩ := hS
 have HNO := Lib.hid (show ∀ k, k < xs.length → bindOkB M.nodes (xs.getD k Bd.zero) false = false → (xs.all fun b => bindOkB M.nodes b false) = false from fun k h1 h2 => all_no h1 h2)
 have HYES := Lib.hid (show (∀ k, k < xs.length → bindOkB M.nodes (xs.getD k Bd.zero) false = true) → (xs.all fun b => bindOkB M.nodes b false) = true from fun h => all_yes (z := Bd.zero) h)
 generalize (xs.all fun b => bindOkB M.nodes b false) = R at *
 generalize hN : xs.length = n at *
 have HN := Lib.hid hN
 have HM := Lib.hid hM
 have HB := Lib.hid hB
 have hn : n ≤ 281474976710656 := Nat.le_trans hnc hc'
 clear hN hM hB hc' hnc
 go_enter Tryz.func175, Tryz.ntmps175
 go_wp2
 go_loopw [8] (fun i wr => ∃ k : Nat, k ≤ n ∧ i = .int .i64 k ∧ Hid (∀ j, j < k → bindOkB M.nodes (xs.getD j Bd.zero) false = true) ∧ LaterC w wr) (fun i _ => n - (intOf i).toNat)
 case atStart => exact ⟨0, Nat.zero_le _, rfl, Lib.hid (fun j hj => absurd hj (Nat.not_lt_zero _)), LaterC.refl _⟩
 case round =>
  obtain ⟨k, hk, rfl, hto, ⟨u, rfl⟩⟩ := hrel
  by_cases hlt : k < n
  · have hlt' : (k : Int) < n := by omega
    obtain ⟨g, o, rfl, hx⟩ := hA k _ (getD_at (by rw [HN.out]; exact hlt) Bd.zero)
    generalize hxe : xs.getD k Bd.zero = x at hx
    have HX := Lib.hid hxe
    clear hxe
    obtain ⟨bs, bn⟩ := x
    have p0 : ∀ l : Later w, l.val.cell? ⟨g, o + k * 2, none⟩ = some (.int .i64 bs) := hx.at_ (Below.refl _ _) 0 _ rfl
    have p1 : ∀ l : Later w, l.val.cell? ⟨g, o + k * 2 + 1, none⟩ = some (.int .i64 bn) := hx.at_ (Below.refl _ _) 1 _ rfl
    clear hx hA
    by_cases hv : bindOkB M.nodes ⟨bs, bn⟩ false = true
    · have HV := Lib.hid hv
      have HTO := Lib.hid (show ∀ j, j < k + 1 → bindOkB M.nodes (xs.getD j Bd.zero) false = true from fun j hj => by
       rcases Nat.lt_or_ge j k with g | g
       · exact hto.out j g
       · obtain rfl : j = k := by omega
         rw [HX.out]; exact hv)
      clear hv hto
      go_wp2_with (go_at_call 167; refine (Calls.later (u := u) (closure2_calls M Bm Bx ⟨bs, bn⟩ _ (HM.out.below u.prop) (HB.out.below u.prop))).mono ?_; rintro e w' ⟨rfl, u1, rfl⟩; rw [HV.out])
      go_roundw
      case rel => exact ⟨k + 1, by omega, by go_num, HTO, ⟨u1, rfl⟩⟩
      case measure => simp [intOf] <;> omega
    · have hv := eq_false_of_ne_true hv
      have HV := Lib.hid hv
      have HR := Lib.hid (HNO.out k hlt (by rw [HX.out]; exact hv))
      clear hv hto
      go_wp2_with (go_at_call 167; refine (Calls.later (u := u) (closure2_calls M Bm Bx ⟨bs, bn⟩ _ (HM.out.below u.prop) (HB.out.below u.prop))).mono ?_; rintro e w' ⟨rfl, u1, rfl⟩; rw [HV.out])
      go_ret
      exact ⟨_, rfl, u1.prop, by rw [HR.out]; simp⟩
  · obtain rfl : k = n := by omega
    have HR := Lib.hid (HYES.out hto.out)
    clear hto hA
    go_wp2
    go_ret
    exact ⟨_, rfl, u.prop, by rw [HR.out]; simp⟩
theorem contains2_calls (M : Md) (Bm Bx : Nat) (sv : Value) (xs : List Bd) (w : World) (hM : ModelBox w Bm M) (hB : MadeBox w Bx M) (hS : SlAt enBd w sv xs) :
 Makes Tryz.prog 164 #[sv, (.func (.func 167) #[] #[.pointer (some ⟨Bm, 0, none⟩), .pointer (some ⟨Bx, 0, none⟩)])] w (.bool (!(xs.all fun b => bindOkB M.nodes b false))) := by
 have HM := Lib.hid hM
 have HB := Lib.hid hB
 have HS := Lib.hid hS
 clear hM hB hS
 go_enter Tryz.func164, Tryz.ntmps164
 go_wp2_with (go_at_call 175; refine (index2_calls M Bm Bx sv xs _ HM.out HB.out HS.out).mono ?_; rintro e w' ⟨z, rfl, hb2, hz⟩; have HB2 := Lib.hid hb2; have HZ := Lib.hid hz; clear hb2 hz)
 go_ret
 exact ⟨ret_eq (congrArg Value.bool HZ.out), HB2.out⟩
end Go.Proofs.YtbenebcphaiohaaGreat
namespace Go.Proofs.YtbenebcphaiohaaGreat
open Go.RowKit
attribute [local go_sem high] eq_sort
theorem closure3_calls (M : Md) (Bm : Nat) (a : Int) (w : World) (hM : ModelBox w Bm M) :
 Makes Tryz.prog 170 #[.int .i64 a, .pointer (some ⟨Bm, 0, none⟩)] w (.bool (!propB M.nodes a)) := by
 obtain ⟨s0, s1, s2, s3, s4, hM, h0, h1, h2, h3, h4⟩ := hM
 obtain ⟨t0, t1, t2, t3, t4, he, hS, -, -, -, -⟩ := hM.at_
 cases he
 obtain ⟨A, c, rfl, hnc, hc', hA⟩ := hS
 clear hM
 obtain ⟨R, hR⟩ : ∃ R, R = propB M.nodes a := ⟨_, rfl⟩
 rw [← hR]
 have hR2 : R = (inB a 0 ((M.nodes.length : Int) - 1) && w1B (M.nodes.getD a.toNat Nd.zero)) := hR
 clear hR
 generalize M.nodes = ns at *
 generalize hN : ns.length = n at *
 have HN := Lib.hid hN
 have HR := Lib.hid hR2
 have hn : n ≤ 281474976710656 := Nat.le_trans hnc hc'
 clear hN hc' hnc hR2
 have n0 := Later.cell h0
 have n1 := Later.cell h1
 have n2 := Later.cell h2
 have n3 := Later.cell h3
 have n4 := Later.cell h4
 clear h0 h1 h2 h3 h4
 by_cases hi : inB a 0 ((n : Int) - 1) = true
 · have HI := Lib.hid hi
   have hi2 := of_inB hi
   obtain ⟨p, rfl⟩ := Int.eq_ofNat_of_zero_le hi2.1
   have hp : p < n := by omega
   obtain ⟨g, o, rfl, hx⟩ := hA p _ (getD_at (by rw [HN.out]; exact hp) Nd.zero)
   rw [hi, Bool.true_and, Int.toNat_natCast] at HR
   generalize ns.getD p Nd.zero = x at *
   have p6 : ∀ l : Later w, l.val.cell? ⟨g, o + p * 9 + 6, none⟩ = some (.int .i64 x.idx) := hx.at_ (Below.refl _ _) 6 _ rfl
   have p7 : ∀ l : Later w, l.val.cell? ⟨g, o + p * 9 + 7, none⟩ = some (.int .i64 x.wid) := hx.at_ (Below.refl _ _) 7 _ rfl
   clear hx hA hi hi2
   by_cases hw : (x.idx == 0 && (x.wid == 1)) = true
   · have HR0 := Lib.hid (show (!R) = false by rw [HR.out]; unfold w1B; rw [hw]; rfl)
     go_enter Tryz.func170, Tryz.ntmps170
     go_wp2
     refine wp_region_later (w0 := w) (by kernel_rfl) (by kernel_rfl) (LaterC.refl _) ?_
     repeat (go_big_quiet_step (first | (go_at_call 171; exact Calls.later_eq (isPlace_calls _ _ _ _ _ n c (p : Int) _ hn) (congrArg Value.bool HI.out)) | (go_at_call 151; exact Calls.later (words_calls _ _))))
     refine wpQuiet_nil ?_
     rintro _ ⟨u5, rfl⟩
     go_wp2
     go_ret
     exact ⟨ret_eq (congrArg Value.bool HR0.out.symm), u5.prop⟩
   · have hw := eq_false_of_ne_true hw
     have HR0 := Lib.hid (show (!R) = true by rw [HR.out]; unfold w1B; rw [hw]; rfl)
     go_enter Tryz.func170, Tryz.ntmps170
     go_wp2
     refine wp_region_later (w0 := w) (by kernel_rfl) (by kernel_rfl) (LaterC.refl _) ?_
     repeat (go_big_quiet_step (first | (go_at_call 171; exact Calls.later_eq (isPlace_calls _ _ _ _ _ n c (p : Int) _ hn) (congrArg Value.bool HI.out)) | (go_at_call 151; exact Calls.later (words_calls _ _))))
     refine wpQuiet_nil ?_
     rintro _ ⟨u5, rfl⟩
     go_wp2
     go_ret
     exact ⟨ret_eq (congrArg Value.bool HR0.out.symm), u5.prop⟩
 · have hi := eq_false_of_ne_true hi
   have HI := Lib.hid hi
   have HR0 := Lib.hid (show (!R) = true by rw [HR.out, hi]; rfl)
   clear hi hA
   go_enter Tryz.func170, Tryz.ntmps170
   go_wp2
   refine wp_region_later (w0 := w) (by kernel_rfl) (by kernel_rfl) (LaterC.refl _) ?_
   repeat (go_big_quiet_step (first | (go_at_call 171; exact Calls.later_eq (isPlace_calls _ _ _ _ _ n c a _ hn) (congrArg Value.bool HI.out)) | (go_at_call 151; exact Calls.later (words_calls _ _))))
   refine wpQuiet_nil ?_
   rintro _ ⟨u5, rfl⟩
   go_wp2
   go_ret
   exact ⟨ret_eq (congrArg Value.bool HR0.out.symm), u5.prop⟩
theorem index3_calls (M : Md) (Bm : Nat) (sv : Value) (xs : List Int) (w : World) (hM : ModelBox w Bm M) (hS : SlN enI w sv xs) :
 Calls Tryz.prog 185 #[sv, (.func (.func 170) #[] #[.pointer (some ⟨Bm, 0, none⟩)])] w fun e w' => ∃ z : Int, e = .returned (.int .i64 z) ∧ Below w.heap.size w w' ∧ decide (0 ≤ z) = !propsB M.nodes xs := by
 obtain ⟨A, c, rfl, hnc, hn, hA⟩ := hS
 have HNO := Lib.hid (show ∀ k, k < xs.length → propB M.nodes (xs.getD k 0) = false → propsB M.nodes xs = false from fun k h1 h2 => props_no h1 h2)
 have HYES := Lib.hid (show (∀ k, k < xs.length → propB M.nodes (xs.getD k 0) = true) → propsB M.nodes xs = true from fun h => props_yes (fun i hi => h i hi))
 generalize propsB M.nodes xs = R at *
 generalize hN : xs.length = n at *
 have HN := Lib.hid hN
 have HM := Lib.hid hM
 clear hN hM hnc
 go_enter Tryz.func185, Tryz.ntmps185
 go_wp2
 go_loopw [8] (fun i wr => ∃ k : Nat, k ≤ n ∧ i = .int .i64 k ∧ Hid (∀ j, j < k → propB M.nodes (xs.getD j 0) = true) ∧ LaterC w wr) (fun i _ => n - (intOf i).toNat)
 case atStart => exact ⟨0, Nat.zero_le _, rfl, Lib.hid (fun j hj => absurd hj (Nat.not_lt_zero _)), LaterC.refl _⟩
 case round =>
  obtain ⟨k, hk, rfl, hto, ⟨u, rfl⟩⟩ := hrel
  by_cases hlt : k < n
  · have hlt' : (k : Int) < n := by omega
    obtain ⟨g, o, rfl, hx⟩ := hA k _ (getD_at (by rw [HN.out]; exact hlt) 0)
    generalize hxe : xs.getD k 0 = x at hx
    have HX := Lib.hid hxe
    clear hxe
    have p0 : ∀ l : Later w, l.val.cell? ⟨g, o + k, none⟩ = some (.int .i64 x) := hx.int (Below.refl _ _)
    clear hx hA
    by_cases hv : propB M.nodes x = true
    · have HV := Lib.hid hv
      have HTO := Lib.hid (show ∀ j, j < k + 1 → propB M.nodes (xs.getD j 0) = true from fun j hj => by
       rcases Nat.lt_or_ge j k with g | g
       · exact hto.out j g
       · obtain rfl : j = k := by omega
         rw [HX.out]; exact hv)
      clear hv hto
      go_wp2_with (go_at_call 170; refine (Calls.later (u := u) (closure3_calls M Bm x _ (HM.out.below u.prop))).mono ?_; rintro e w' ⟨rfl, u1, rfl⟩; rw [HV.out])
      go_roundw
      case rel => exact ⟨k + 1, by omega, by go_num, HTO, ⟨u1, rfl⟩⟩
      case measure => simp [intOf] <;> omega
    · have hv := eq_false_of_ne_true hv
      have HV := Lib.hid hv
      have HR := Lib.hid (HNO.out k hlt (by rw [HX.out]; exact hv))
      clear hv hto
      go_wp2_with (go_at_call 170; refine (Calls.later (u := u) (closure3_calls M Bm x _ (HM.out.below u.prop))).mono ?_; rintro e w' ⟨rfl, u1, rfl⟩; rw [HV.out])
      go_ret
      exact ⟨_, rfl, u1.prop, by rw [HR.out]; simp⟩
  · obtain rfl : k = n := by omega
    have HR := Lib.hid (HYES.out hto.out)
    clear hto hA
    go_wp2
    go_ret
    exact ⟨_, rfl, u.prop, by rw [HR.out]; simp⟩
theorem contains3_calls (M : Md) (Bm : Nat) (sv : Value) (xs : List Int) (w : World) (hM : ModelBox w Bm M) (hS : SlN enI w sv xs) :
 Makes Tryz.prog 168 #[sv, (.func (.func 170) #[] #[.pointer (some ⟨Bm, 0, none⟩)])] w (.bool (!propsB M.nodes xs)) := by
 have HM := Lib.hid hM
 have HS := Lib.hid hS
 clear hM hS
 go_enter Tryz.func168, Tryz.ntmps168
 go_wp2_with (go_at_call 185; refine (index3_calls M Bm sv xs _ HM.out HS.out).mono ?_; rintro e w' ⟨z, rfl, hb2, hz⟩; have HB2 := Lib.hid hb2; have HZ := Lib.hid hz; clear hb2 hz)
 go_ret
 exact ⟨ret_eq (congrArg Value.bool HZ.out), HB2.out⟩
end Go.Proofs.YtbenebcphaiohaaGreat
namespace Go.Proofs.YtbenebcphaiohaaGreat
open Go.RowKit
theorem info_int : (Tryz.prog.info? 3).map (fun i => (i.zero, i.size, i.bytes)) = some (some (.int .i64 0), 1, 8) := by kernel_rfl
theorem append_none (w : World) (ty : TypeId) (base : Nat) (v : Value) (n : Nat) (xs : List Value) (hown : w.ownsRow base 3 1 v n xs) (A : Option Addr) (c : Nat) :
 (Builtin.append_ #[25, 25] ty #[v, .slice A 0 c]).run Tryz.prog w = .ok v w := by
 obtain ⟨i, hi, hz, hs, hb⟩ := info_parts info_int
 have ht := Tryz.underlying25
 have hl : ∀ (a : Addr) (w : World), (loadCells a 0).run Tryz.prog w = .ok #[] w := fun _ _ => rfl
 rcases hown.2 with ⟨rfl, rfl⟩ | ⟨g, cap, cur, rfl, _, _, hnc, _⟩ <;> cases A <;>
  simp [Builtin.append_, run_underlying ht, sizeOf, typeInfo, hi, Builtin.lenOf, Builtin.firstCells, storeCells, *]
theorem append_list (w : World) (ty : TypeId) (base : Nat) (v : Value) (n : Nat) (xs : List Value) (hown : w.ownsRow base 3 1 v n xs) (hbase : base ≤ w.heap.size) (A : Option Addr) (c : Nat) (ys : List Int)
 (hA : ∀ i x, ys[i]? = some x → ∃ b o, A = some ⟨b, o, none⟩ ∧ CellsAt enI w b o i x) (hlen : n + ys.length ≤ 1000) :
 ∃ v' w', (Builtin.append_ #[25, 25] ty #[v, .slice A ys.length c]).run Tryz.prog w = .ok v' w' ∧ w'.ownsRow base 3 1 v' (n + ys.length) (xs ++ ys.map (Value.int .i64)) ∧ w.grownBy w' v.ownBlock := by
 rcases Nat.eq_zero_or_pos ys.length with h0 | h0
 · rw [h0]
   have : ys = [] := List.eq_nil_of_length_eq_zero h0
   subst this
   exact ⟨v, w, append_none w ty base v n xs hown A c, by simpa using hown, World.grownBy.refl w _⟩
 · obtain ⟨i, hi, hz, hs, hb⟩ := info_parts info_int
   obtain ⟨b, o, rfl, -⟩ := hA 0 _ (getD_at h0 0)
   obtain ⟨v', w', hr, hown', hg, -⟩ := run_append_own (P := Tryz.prog) w base 25 ty 3 i (.int .i64 0) 1 8 Tryz.underlying25 hi hz hs hb rfl (by omega) v n xs hown ⟨b, o, none⟩ ys.length c (ys.map (Value.int .i64)) (by simp) (fun j u hu => by
    rw [List.getElem?_map] at hu
    obtain ⟨y, hy, rfl⟩ := Option.map_eq_some_iff.1 hu
    obtain ⟨b', o', he, hc⟩ := hA j y hy
    cases he
    have hadd : (⟨b, o, none⟩ : Addr).add j = ⟨b, o + j, none⟩ := by unfold Addr.add; split <;> simp_all
    rw [hadd]
    have := hc 0 _ rfl
    simpa using this) (fun u hu => by
    obtain ⟨y, -, rfl⟩ := List.mem_map.1 hu
    rfl) (by unfold maxLen; omega) (by omega) hbase
   exact ⟨v', w', hr, hown', hg⟩
theorem Grow_calls (n : Nat) (w : World) (hn : n ≤ 1000) :
 Calls Tryz.prog 209 #[.slice none 0 0, .int .i64 n] w fun e w' => ∃ v, e = .returned v ∧ Below w.heap.size w w' ∧ w'.ownsRow w.heap.size 3 1 v 0 [] := by
 rcases Nat.eq_zero_or_pos n with rfl | hpos
 · go_enter Tryz.func209, Tryz.ntmps209
   go_wp2
   go_ret
   exact ⟨_, rfl, Below.refl _ _, rfl, .inl ⟨rfl, rfl⟩⟩
 · obtain ⟨i, hi, hz, hs, hb⟩ := info_parts info_int
   have hr := fun ty => Lib.run_append_nil_zeros (P := Tryz.prog) w 25 3 ty 3 i (.int .i64 0) .i64 .i64 Tryz.underlying25 Tryz.underlying3 hi hz n hpos (by omega) (by omega) (by rw [hb]; omega)
   have hcap := grownCap_ge w n 0 3
   have hmax := grownCap_le_maxLen w n 0 3 (by unfold maxLen; omega)
   generalize hG : grownCap w n 0 3 = G at *
   have hpos' : (0 : Int) < n := by omega
   have HR := Lib.hid hr
   clear hr hG hz hs hb hi
   go_enter Tryz.func209, Tryz.ntmps209
   go_wp2_with (at_builtin; refine Lib.wpList_append_run _ (by rfl) _ _ _ _ (by rfl) _ _ (by rfl) (by rfl) _ _ (HR.out _) ?_)
   go_ret
   refine ⟨_, rfl, (box_below w _ _).drew, rfl, .inr ⟨w.heap.size, G, _, rfl, Nat.le_refl _, OwnB.new w _ _, Nat.zero_le _, hmax, ?_, by simp⟩⟩
   simp [size_zeroCells]
   omega
theorem owned_list {w : World} {base n : Nat} {v : Value} {xs : List Int} (h : w.ownsRow base 3 1 v n (xs.map (Value.int .i64))) (hn : n = xs.length) (hn2 : n ≤ 1000) : SlN enI w v xs := by
 subst hn
 rcases h.2 with ⟨rfl, h0⟩ | ⟨g, cap, cur, rfl, _, _, hc, _⟩
 · have : xs = [] := List.eq_nil_of_length_eq_zero h0
   subst this
   exact ⟨none, 0, rfl, Nat.le_refl _, by simp, fun i x hx => by simp at hx⟩
 · refine ⟨some ⟨g, 0, none⟩, cap, rfl, hc, by omega, fun i x hx => ⟨g, 0, rfl, fun f u hu => ?_⟩⟩
   have hf : f = 0 := by
    have := (List.getElem?_eq_some_iff.1 hu).1
    simpa using this
   subst hf
   have hu' : u = .int .i64 x := by simpa using hu.symm
   subst hu'
   have := h.cells (g := g) rfl i (.int .i64 x) (by rw [List.getElem?_map, hx]; rfl)
   have hadd : (⟨g, 0, none⟩ : Addr).add i = ⟨g, i, none⟩ := by unfold Addr.add; split <;> simp_all
   rw [hadd] at this
   simpa using this
theorem Concat_calls (GS : Nat) (v1 v2 : Value) (xs ys : List Int) (w : World) (h1 : SlAt enI w v1 xs) (h2 : SlAt enI w v2 ys) (c1 : w.cell? ⟨GS, 0, none⟩ = some v1) (c2 : w.cell? ⟨GS, 1, none⟩ = some v2) (hl : xs.length + ys.length ≤ 1000) :
 Calls Tryz.prog 169 #[.slice (some ⟨GS, 0, none⟩) 2 2] w fun e w' => ∃ v, e = .returned v ∧ Below w.heap.size w w' ∧ SlN enI w' v (xs ++ ys) := by
 have H1 := Lib.hid h1
 have H2 := Lib.hid h2
 obtain ⟨A, c, rfl, -, -, -⟩ := h1
 obtain ⟨A', c', rfl, -, -, -⟩ := h2
 have d1 := Later.cell c1
 have d2 := Later.cell c2
 have hn1 : (xs.length : Int) ≤ 1000 := by omega
 have hn2 : (ys.length : Int) ≤ 1000 := by omega
 have hn3 : (xs.length : Int) + ys.length ≤ 1000 := by omega
 have hp1 : (0 : Int) ≤ xs.length := by omega
 have hp2 : (0 : Int) ≤ ys.length := by omega
 obtain ⟨n, hn⟩ : ∃ n, n = xs.length := ⟨_, rfl⟩
 obtain ⟨m, hm⟩ : ∃ m, m = ys.length := ⟨_, rfl⟩
 have HN := Lib.hid hn
 have HM := Lib.hid hm
 have HL := Lib.hid hl
 rw [← hn] at c1 d1 hn1 hn3 hp1 hl H1
 rw [← hm] at c2 d2 hn2 hn3 hp2 hl H2
 clear hn hm c1 c2
 go_enter Tryz.func169, Tryz.ntmps169
 go_upto_region 1 with fail
 refine at_world (w := w) ?_
 intro u0
 go_wp2
 refine wp_loop_rounds 3 ?_
 rw [rounds_succ]
 go_wp2
 rw [rounds_succ]
 go_wp2
 rw [rounds_succ]
 go_wp2_with (go_at_call 209; refine (Grow_calls (n + m) _ (by omega)).mono ?_; rintro e w' ⟨gv, rfl, hb, hown⟩; have HB := Lib.hid hb; have HOWN := Lib.hid hown; clear hb hown)
 have HU := Lib.hid u0.prop
 have K1 := Lib.hid (H1.out.later u0)
 have K2 := Lib.hid (H2.out.later u0)
 have e1 := Later.re d1 ⟨u0, rfl⟩
 have e2 := Later.re d2 ⟨u0, rfl⟩
 clear d1 d2
 generalize u0.val = W0 at *
 obtain ⟨u1, hu1⟩ := laterC_step (w1 := W0) (LaterC.refl _) HB.out
 subst hu1
 have hS1 := K1.out.later u1
 obtain ⟨A1, c1, he1, -, -, hA1⟩ := hS1
 rw [← HN.out] at he1
 cases he1
 obtain ⟨x1, w1', hr1, ho1, hg1⟩ := append_list u1.val 25 W0.heap.size gv 0 [] HOWN.out u1.size A c xs hA1 (by have := HL.out; omega)
 obtain ⟨u2, hu2⟩ := laterC_grown ⟨u1, rfl⟩ HOWN.out hg1
 subst hu2
 have hS2 := K2.out.later u2
 obtain ⟨A2, c2, he2, -, -, hA2⟩ := hS2
 rw [← HM.out] at he2
 cases he2
 obtain ⟨x2, w2', hr2, ho2, hg2⟩ := append_list u2.val 25 W0.heap.size x1 (0 + xs.length) ([] ++ xs.map (Value.int .i64)) ho1 u2.size A' c' ys hA2 (by have := HL.out; omega)
 obtain ⟨u3, hu3⟩ := laterC_grown ⟨u2, rfl⟩ ho1 hg2
 subst hu3
 rw [← HN.out] at hr1
 rw [← HM.out] at hr2
 have HR1 := Lib.hid hr1
 have HR2 := Lib.hid hr2
 have HO2 := Lib.hid ho2
 clear hr1 hr2 ho1 ho2 hg1 hg2 hA1 hA2
 refine wp_loop_rounds 3 ?_
 rw [rounds_succ]
 go_wp2_with (at_builtin; refine Lib.wpList_append_run _ (by rfl) _ _ _ _ (by rfl) _ _ (by rfl) (by rfl) _ _ HR1.out ?_)
 rw [rounds_succ]
 go_wp2_with (at_builtin; refine Lib.wpList_append_run _ (by rfl) _ _ _ _ (by rfl) _ _ (by rfl) (by rfl) _ _ HR2.out ?_)
 rw [rounds_succ]
 go_wp2
 go_ret
 refine ⟨_, rfl, HU.out.trans (u3.prop.mono HU.out.size), owned_list (n := 0 + xs.length + ys.length) (base := W0.heap.size) ?_ (by simp) (by have := HL.out; omega)⟩
 have := HO2.out
 rw [List.nil_append, ← List.map_append] at this
 exact this
def Seen (w : World) (k : TypeId) (b n : Nat) (S : Lit → Prop) : Prop :=
 ∃ D : DataW Nat, w.ownsMap Tryz.prog k (plainElem Tryz.prog 4) b n D ∧ Maps.IsMap D ∧ ∀ kl, ∃ c : Bool, D.atKey kl (.lit (.bool false)) = .lit (.bool c) ∧ (c = true ↔ S kl)
theorem Seen.made (w : World) (k : TypeId) : Seen (w.alloc (.map #[] 0)) k w.heap.size 0 (fun _ => False) :=
 ⟨.map [], World.ownsMap_made w _ _ _, Maps.isMap_empty, fun kl => ⟨false, rfl, by simp⟩⟩
theorem Seen.lt {w : World} {k : TypeId} {b n : Nat} {S : Lit → Prop} (h : Seen w k b n S) : b < w.heap.size := by
 obtain ⟨D, h, -⟩ := h
 exact h.lt
theorem Seen.alloc {w : World} {k : TypeId} {b n : Nat} {S : Lit → Prop} (h : Seen w k b n S) (o : Obj) : Seen (w.alloc o) k b n S := by
 obtain ⟨D, h, r⟩ := h
 exact ⟨D, h.alloc o, r⟩
theorem info_bool : (Tryz.prog.info? 4).map (fun i => (i.zero, i.size, i.bytes)) = some (some (.bool false), 1, 1) := by kernel_rfl
theorem zero_bool (w : World) : (zeroValue 4).run Tryz.prog w = .ok (.bool false) w := by
 obtain ⟨i, hi, hz, -, -⟩ := info_parts info_bool
 simp [zeroValue, typeInfo, hi, hz]
theorem plain_bool_inv {P : Program} {e : TypeId} (he : P.underlying e = some .bool) {v : Value} {z : DataW Nat × List MemPlace} (h : plainElem P e v = some z) : ∃ c, v = .bool c ∧ z = (.lit (.bool c), []) := by
 unfold plainElem at h
 rw [he] at h
 cases v <;> simp at h
 exact ⟨_, rfl, h.symm⟩
theorem Seen.look {w : World} {k t : TypeId} {b n : Nat} {S : Lit → Prop} (h : Seen w k b n S) (K : Maps.Keyed Tryz.prog k) (ht : Tryz.prog.underlying t = some (.map k 4)) {key : Value} {kl : Lit} (hkey : keyOf Tryz.prog k key = some kl) :
 ∃ c : Bool, (Instr.lookup t (.map (some b)) key false).run Tryz.prog w = .ok (.bool c) w ∧ (c = true ↔ S kl) := by
 obtain ⟨D, h, -, hS⟩ := h
 obtain ⟨v, ps, hrun, hv⟩ := h.lookup K ht (zero_bool w) (plainElem_bool Tryz.underlying4 false) hkey
 obtain ⟨c, rfl, hc⟩ := plain_bool_inv Tryz.underlying4 hv
 simp only [Prod.mk.injEq] at hc
 obtain ⟨c', h1, h2⟩ := hS kl
 rw [hc.1] at h1
 cases h1
 exact ⟨c, hrun, h2⟩
theorem Seen.put {w : World} {k t : TypeId} {b n : Nat} {S T : Lit → Prop} (h : Seen w k b n S) (K : Maps.Keyed Tryz.prog k) (ht : Tryz.prog.underlying t = some (.map k 4)) (hn : n < maxLen) {key : Value} {kl : Lit} (hkey : keyOf Tryz.prog k key = some kl) (hk : WideAt.IsKeyLit kl)
 (hT : ∀ x, T x ↔ S x ∨ x = kl) : ∃ w', (Instr.mapUpdate t (.map (some b)) key (.bool true)).run Tryz.prog w = .ok () w' ∧ Seen w' k b (n + 1) T ∧ w.grownBy w' (some b) := by
 obtain ⟨D, h, hD, hS⟩ := h
 obtain ⟨w', hrun, hown, hg⟩ := h.update K ht hn hkey (plainElem_bool Tryz.underlying4 true)
 refine ⟨w', hrun, ⟨_, hown, hD.put _ _, fun x => ?_⟩, hg⟩
 by_cases e : x = kl
 · subst e
   exact ⟨true, Maps.atKey_put_same hD hk _ _, by simp [hT]⟩
 · obtain ⟨c, h1, h2⟩ := hS x
   exact ⟨c, (Maps.atKey_put_other e _ _).trans h1, by rw [h2, hT]; simp [e]⟩
theorem laterC_map {w1 W w' : World} {b : Nat} (h : LaterC w1 W) (hb : w1.heap.size ≤ b) (hg : W.grownBy w' (some b)) : LaterC w1 w' := by
 have hB := h.below
 refine .of (hB.trans ⟨hg.os, hg.tape, hg.output, hg.size, fun k hk => hg.block k (Nat.lt_of_lt_of_le hk hB.size) (fun e => ?_)⟩)
 cases e
 omega
def nameS (ns : List Nd) (k : Nat) (l : Lit) : Prop := ∃ j, j < k ∧ l = .string (ns.getD j Nd.zero).name.data.toList
def stS (xs : List Bd) (k : Nat) (l : Lit) : Prop := ∃ j, j < k ∧ l = .int .i64 (xs.getD j Bd.zero).st
theorem nameS_succ (ns : List Nd) (k : Nat) (l : Lit) : nameS ns (k + 1) l ↔ nameS ns k l ∨ l = .string (ns.getD k Nd.zero).name.data.toList := by
 constructor
 · rintro ⟨j, hj, h⟩
   rcases Nat.lt_or_ge j k with g | g
   · exact .inl ⟨j, g, h⟩
   · obtain rfl : j = k := by omega
     exact .inr h
 · rintro (⟨j, hj, h⟩ | h)
   · exact ⟨j, by omega, h⟩
   · exact ⟨k, by omega, h⟩
theorem stS_succ (xs : List Bd) (k : Nat) (l : Lit) : stS xs (k + 1) l ↔ stS xs k l ∨ l = .int .i64 (xs.getD k Bd.zero).st := by
 constructor
 · rintro ⟨j, hj, h⟩
   rcases Nat.lt_or_ge j k with g | g
   · exact .inl ⟨j, g, h⟩
   · obtain rfl : j = k := by omega
     exact .inr h
 · rintro (⟨j, hj, h⟩ | h)
   · exact ⟨j, by omega, h⟩
   · exact ⟨k, by omega, h⟩
theorem data_toList {a b : ByteArray} : a.data.toList = b.data.toList ↔ a.toList = b.toList := by
 rw [ByteArray.toList_eq, ByteArray.toList_eq]
theorem Seen.congr {w : World} {k : TypeId} {b n : Nat} {S T : Lit → Prop} (h : Seen w k b n S) (hT : ∀ x, T x ↔ S x) : Seen w k b n T := by
 obtain ⟨D, h, hD, hS⟩ := h
 exact ⟨D, h, hD, fun x => by obtain ⟨c, h1, h2⟩ := hS x; exact ⟨c, h1, h2.trans (hT x).symm⟩⟩
theorem twice_calls (mv : Value) (M : Md) (w : World) (hM : MdAt w mv M) (hnm : ∀ x, x ∈ M.nodes → x.name.size ≤ 140737488351232) (hw1 : ∀ b, b ∈ M.inits → (Lit.int .i64 b.st).wf = true) (hw2 : ∀ b, b ∈ M.nexts → (Lit.int .i64 b.st).wf = true) :
 Makes Tryz.prog 162 #[mv] w (.bool (twiceB M)) := by
 obtain ⟨s0, s1, s2, s3, s4, rfl, hS, hS1, hS2, -, -⟩ := hM.at_
 obtain ⟨A, c, rfl, hnc, hc', hA⟩ := hS
 clear hM
 have HS1 := Lib.hid hS1
 have HS2 := Lib.hid hS2
 have HW1 := Lib.hid hw1
 have HW2 := Lib.hid hw2
 have HNM := Lib.hid hnm
 obtain ⟨R, hR⟩ : ∃ R, R = twiceB M := ⟨_, rfl⟩
 rw [← hR]
 unfold twiceB at hR
 have HYES := Lib.hid (show ∀ k m, k < M.nodes.length → m < k → sameN (M.nodes.getD k Nd.zero) (M.nodes.getD m Nd.zero) → R = true from fun k m h1 h2 h3 => by rw [hR, named_yes h1 h2 h3]; rfl)
 have HNO := Lib.hid (show nameTo M.nodes M.nodes.length → R = (againB M.inits || againB M.nexts) from fun h => by rw [hR, named_no h]; rfl)
 clear hR hS1 hS2 hw1 hw2 hnm
 generalize M.inits = xs1 at *
 generalize M.nexts = xs2 at *
 generalize M.nodes = ns at *
 generalize hN : ns.length = n at *
 have HN := Lib.hid hN
 have hn : n ≤ 281474976710656 := Nat.le_trans hnc hc'
 clear hN hnc hc'
 have hmm := @run_makeMap Tryz.prog
 go_enter Tryz.func162, Tryz.ntmps162
 have HB := Lib.hid (box_below w #[.slice A n c, s1, s2, s3, s4] 27)
 have m0 := box_cell w #[.slice A n c, s1, s2, s3, s4] 27 0 _ rfl
 have m1 := box_cell w #[.slice A n c, s1, s2, s3, s4] 27 1 _ rfl
 have m2 := box_cell w #[.slice A n c, s1, s2, s3, s4] 27 2 _ rfl
 go_upto_region 1 with fail
 generalize w.alloc (.cells #[.slice A n c, s1, s2, s3, s4] 27) = w1 at *
 have m0 : ∀ u : Later w1, u.val.cell? ⟨w.heap.size, 0, none⟩ = some (.slice A n c) := m0
 have m1 : ∀ u : Later w1, u.val.cell? ⟨w.heap.size, 1, none⟩ = some s1 := m1
 have m2 : ∀ u : Later w1, u.val.cell? ⟨w.heap.size, 2, none⟩ = some s2 := m2
 refine at_world (w := w1) ?_
 intro u0
 go_upto_region 2 with fail
 have HSE := Lib.hid (Seen.made u0.val 9)
 have hL2 : LaterC w1 (u0.val.alloc (.map #[] 0)) := u0.alloc _
 have hgo : w1.heap.size ≤ u0.val.heap.size := u0.size
 generalize u0.val.alloc (.map #[] 0) = w2 at *
 generalize u0.val.heap.size = GM at *
 obtain ⟨v2, rfl⟩ := hL2
 clear u0
 go_wp2
 go_loopw [15] (fun i wr => ∃ k : Nat, k ≤ n ∧ i = .int .i64 k ∧ Hid (Seen wr 9 GM k (nameS ns k) ∧ nameTo ns k) ∧ LaterC w1 wr) (fun i _ => n - (intOf i).toNat)
 case atStart => exact ⟨0, Nat.zero_le _, rfl, Lib.hid ⟨HSE.out.congr (fun x => ⟨fun ⟨j, h, _⟩ => absurd h (Nat.not_lt_zero _), fun h => h.elim⟩), fun i hi => absurd hi (Nat.not_lt_zero _)⟩, ⟨v2, rfl⟩⟩
 case round =>
  obtain ⟨k, hk, rfl, HI, ⟨u, rfl⟩⟩ := hrel
  by_cases hlt : k < n
  · have hlt' : (k : Int) < n := by omega
    have hkl : k < ns.length := by rw [HN.out]; exact hlt
    have hsz := HNM.out _ (List.mem_of_getElem? (getD_at hkl Nd.zero))
    obtain ⟨g, o, rfl, hx⟩ := hA k _ (getD_at hkl Nd.zero)
    have hyes := HYES.out k
    have hsucc := nameS_succ ns k
    have hsame : ∀ m, m < k → ¬ sameN (ns.getD k Nd.zero) (ns.getD m Nd.zero) → True := fun _ _ _ => trivial
    have hrow : nameRow ns k k ↔ ∀ j, j < k → ¬ sameN (ns.getD k Nd.zero) (ns.getD j Nd.zero) := Iff.rfl
    generalize ns.getD k Nd.zero = x at *
    have p0 : ∀ l : Later w1, l.val.cell? ⟨g, o + k * 9, none⟩ = some (.int .i64 x.kind) := hx.at_ HB.out 0 _ rfl
    have p1 : ∀ l : Later w1, l.val.cell? ⟨g, o + k * 9 + 1, none⟩ = some (.int .i64 x.a) := hx.at_ HB.out 1 _ rfl
    have p2 : ∀ l : Later w1, l.val.cell? ⟨g, o + k * 9 + 2, none⟩ = some (.int .i64 x.b) := hx.at_ HB.out 2 _ rfl
    have p3 : ∀ l : Later w1, l.val.cell? ⟨g, o + k * 9 + 3, none⟩ = some (.int .i64 x.c) := hx.at_ HB.out 3 _ rfl
    have p4 : ∀ l : Later w1, l.val.cell? ⟨g, o + k * 9 + 4, none⟩ = some (.int .i64 x.n) := hx.at_ HB.out 4 _ rfl
    have p5 : ∀ l : Later w1, l.val.cell? ⟨g, o + k * 9 + 5, none⟩ = some (.int .i64 x.m) := hx.at_ HB.out 5 _ rfl
    have p6 : ∀ l : Later w1, l.val.cell? ⟨g, o + k * 9 + 6, none⟩ = some (.int .i64 x.idx) := hx.at_ HB.out 6 _ rfl
    have p7 : ∀ l : Later w1, l.val.cell? ⟨g, o + k * 9 + 7, none⟩ = some (.int .i64 x.wid) := hx.at_ HB.out 7 _ rfl
    have p8 : ∀ l : Later w1, l.val.cell? ⟨g, o + k * 9 + 8, none⟩ = some (.string x.name) := hx.at_ HB.out 8 _ rfl
    have HSZ := Lib.hid hsz
    have HYE := Lib.hid hyes
    have HSU := Lib.hid hsucc
    have HROW := Lib.hid hrow
    clear hx hA hsz hyes hsucc hsame hrow hkl
    go_upto_region 5 with fail
    have y8 : (u.val.alloc (Obj.cells #[.int .i64 x.kind, .int .i64 x.a, .int .i64 x.b, .int .i64 x.c, .int .i64 x.n, .int .i64 x.m, .int .i64 x.idx, .int .i64 x.wid, .string x.name] 38)).cell? ⟨u.val.heap.size, 8, none⟩ = some (.string x.name) := by go_simp
    have hL5 : LaterC w1 (u.val.alloc (Obj.cells #[.int .i64 x.kind, .int .i64 x.a, .int .i64 x.b, .int .i64 x.c, .int .i64 x.n, .int .i64 x.m, .int .i64 x.idx, .int .i64 x.wid, .string x.name] 38)) := u.alloc _
    have hSE : Seen (u.val.alloc (Obj.cells #[.int .i64 x.kind, .int .i64 x.a, .int .i64 x.b, .int .i64 x.c, .int .i64 x.n, .int .i64 x.m, .int .i64 x.idx, .int .i64 x.wid, .string x.name] 38)) 9 GM k (nameS ns k) := HI.out.1.alloc _
    generalize (u.val.alloc (Obj.cells #[.int .i64 x.kind, .int .i64 x.a, .int .i64 x.b, .int .i64 x.c, .int .i64 x.n, .int .i64 x.m, .int .i64 x.idx, .int .i64 x.wid, .string x.name] 38)) = w5 at *
    generalize u.val.heap.size = GX at *
    have hkey := Go.WideMaps.keyOf_string_mk (P := Tryz.prog) (k := 9) Tryz.underlying9 (s := x.name) (by have := HSZ.out; unfold maxLen; omega)
    obtain ⟨c0, hlook, hc0⟩ := hSE.look (Maps.string_keyed Tryz.underlying9) Tryz.underlying207 hkey
    obtain ⟨w6, hput, hS6, hg6⟩ := hSE.put (t := 207) (T := nameS ns (k + 1)) (Maps.string_keyed Tryz.underlying9) Tryz.underlying207 (by unfold maxLen; omega) hkey trivial (fun l => HSU.out l)
    have HL6 := Lib.hid (laterC_map hL5 hgo hg6)
    have HL5 := Lib.hid hL5
    have HS6 := Lib.hid hS6
    have HC0 := Lib.hid hc0
    clear hL5 hSE hkey hS6 hg6 hc0 p0 p1 p2 p3 p4 p5 p6 p7 p8
    by_cases hem : x.name.toList = []
    · have HTO := Lib.hid (show nameTo ns (k + 1) from fun i hi => by
       rcases Nat.lt_or_ge i k with g | g
       · exact HI.out.2 i g
       · obtain rfl : i = k := by omega
         exact HROW.out.2 (fun j _ h => h.1 hem))
      go_wp2
      go_roundw
      case rel => exact ⟨k + 1, by omega, by go_num, Lib.hid ⟨HS6.out, HTO.out⟩, HL6.out⟩
      case measure => simp [intOf] <;> omega
    · have hem2 : x.name.toList.isEmpty = false := by simpa using hem
      cases c0
      · have HTO := Lib.hid (show nameTo ns (k + 1) from fun i hi => by
         rcases Nat.lt_or_ge i k with g | g
         · exact HI.out.2 i g
         · obtain rfl : i = k := by omega
           refine HROW.out.2 (fun j hj h => ?_)
           have := HC0.out.2 ⟨j, hj, by rw [data_toList.2 h.2]⟩
           cases this)
        go_wp2
        go_roundw
        case rel => exact ⟨k + 1, by omega, by go_num, Lib.hid ⟨HS6.out, HTO.out⟩, HL6.out⟩
        case measure => simp [intOf] <;> omega
      · have HR := Lib.hid (show R = true by
         obtain ⟨j, hj, he⟩ := HC0.out.1 rfl
         exact HYE.out j hlt hj ⟨hem, data_toList.1 (Lit.string.inj he)⟩)
        go_wp2
        go_ret
        exact ⟨ret_eq (congrArg Value.bool HR.out.symm), HB.out.trans (HL5.out.below.mono HB.out.size)⟩
  · obtain rfl : k = n := by omega
    have HRR := Lib.hid (HNO.out HI.out.2)
    clear hA HI m0
    obtain ⟨A1, c1, rfl, -, -, -⟩ := id HS1.out
    obtain ⟨A2, c2, rfl, -, -, -⟩ := id HS2.out
    go_upto_region 10 with fail
    have z0 : (u.val.alloc (Obj.cells #[.slice A1 xs1.length c1, .slice A2 xs2.length c2] 24)).cell? ⟨u.val.heap.size, 0, none⟩ = some (.slice A1 xs1.length c1) := by go_simp
    have z1 : (u.val.alloc (Obj.cells #[.slice A1 xs1.length c1, .slice A2 xs2.length c2] 24)).cell? ⟨u.val.heap.size, 1, none⟩ = some (.slice A2 xs2.length c2) := by go_simp
    have hL7 : LaterC w1 (u.val.alloc (Obj.cells #[.slice A1 xs1.length c1, .slice A2 xs2.length c2] 24)) := u.alloc _
    generalize (u.val.alloc (Obj.cells #[.slice A1 xs1.length c1, .slice A2 xs2.length c2] 24)) = w7 at *
    generalize u.val.heap.size = GS at *
    have z0 := Later.cell z0
    have z1 := Later.cell z1
    have HB7 := Lib.hid (HB.out.trans (hL7.below.mono HB.out.size))
    have HT1 := Lib.hid (HS1.out.below HB7.out)
    have HT2 := Lib.hid (HS2.out.below HB7.out)
    clear hL7 m1 m2 u
    go_loopw [38] (fun i wr => ∃ r : Nat, r ≤ 2 ∧ i = .int .i64 r ∧ Hid ((1 ≤ r → againB xs1 = false) ∧ (2 ≤ r → againB xs2 = false)) ∧ LaterC w7 wr) (fun i _ => 2 - (intOf i).toNat)
    case atStart => exact ⟨0, by omega, rfl, Lib.hid ⟨fun h => absurd h (by omega), fun h => absurd h (by omega)⟩, LaterC.refl _⟩
    case round =>
     obtain ⟨r, hr, rfl, HP, ⟨u, rfl⟩⟩ := hrel
     by_cases hlt : r < 2
     · have hlt' : (r : Int) < 2 := by omega
       obtain ⟨xs, A', c', hcell, hsl, hwf, hag, hnext⟩ : ∃ (xs : List Bd) (A' : Option Addr) (c' : Nat), (∀ l : Later w7, l.val.cell? ⟨GS, r, none⟩ = some (.slice A' xs.length c')) ∧ SlAt enBd w7 (.slice A' xs.length c') xs ∧ (∀ b, b ∈ xs → (Lit.int .i64 b.st).wf = true) ∧ (againB xs = true → R = true) ∧ (againB xs = false → (1 ≤ r + 1 → againB xs1 = false) ∧ (2 ≤ r + 1 → againB xs2 = false)) := by
        rcases (show r = 0 ∨ r = 1 by omega) with rfl | rfl
        · exact ⟨xs1, A1, c1, z0, HT1.out, HW1.out, fun h => by rw [HRR.out, h]; rfl, fun h => ⟨fun _ => h, fun h2 => absurd h2 (by omega)⟩⟩
        · exact ⟨xs2, A2, c2, z1, HT2.out, HW2.out, fun h => by rw [HRR.out, h, Bool.or_true], fun h => ⟨fun _ => HP.out.1 (by omega), fun _ => h⟩⟩
       have HSL := Lib.hid hsl
       obtain ⟨A3, c3, he, hl3, hc3, hA⟩ := hsl
       cases he
       have HWF := Lib.hid hwf
       have HAG := Lib.hid hag
       have HNX := Lib.hid hnext
       have hn3 : xs.length ≤ 281474976710656 := Nat.le_trans hl3 hc3
       have HYE := Lib.hid (fun k m (h1 : k < xs.length) (h2 : m < k) (h3 : (xs.getD k Bd.zero).st = (xs.getD m Bd.zero).st) => hag (again_yes h1 h2 h3))
       have HNA := Lib.hid (fun (h : againTo xs xs.length) => hnext (again_no h))
       generalize hN : xs.length = n' at *
       have HN' := Lib.hid hN
       clear hN hwf hag hnext hl3 hc3 z0 z1
       go_upto_region 13 with fail
       have HSE := Lib.hid (Seen.made u.val 3)
       have hL8 : LaterC w7 (u.val.alloc (.map #[] 0)) := u.alloc _
       have hgo2 : w7.heap.size ≤ u.val.heap.size := u.size
       generalize u.val.alloc (.map #[] 0) = w8 at *
       generalize u.val.heap.size = GN at *
       obtain ⟨v8, rfl⟩ := hL8
       clear u hcell
       go_wp2
       go_loopw [45] (fun i wi => ∃ k : Nat, k ≤ n' ∧ i = .int .i64 k ∧ Hid (Seen wi 3 GN k (stS xs k) ∧ againTo xs k) ∧ LaterC w7 wi) (fun i _ => n' - (intOf i).toNat)
       case atStart => exact ⟨0, Nat.zero_le _, rfl, Lib.hid ⟨HSE.out.congr (fun x => ⟨fun ⟨j, h, _⟩ => absurd h (Nat.not_lt_zero _), fun h => h.elim⟩), fun i hi => absurd hi (Nat.not_lt_zero _)⟩, ⟨v8, rfl⟩⟩
       case round =>
        obtain ⟨k, hk, rfl, HI, ⟨u, rfl⟩⟩ := hrel
        by_cases hlk : k < n'
        · have hlk' : (k : Int) < n' := by omega
          have hkl : k < xs.length := by rw [HN'.out]; exact hlk
          have hwfk := HWF.out _ (List.mem_of_getElem? (getD_at hkl Bd.zero))
          obtain ⟨g, o, rfl, hx⟩ := hA k _ (getD_at hkl Bd.zero)
          have hye := HYE.out k
          have hsucc := stS_succ xs k
          have hrow : againRow xs k k ↔ ∀ j, j < k → (xs.getD k Bd.zero).st ≠ (xs.getD j Bd.zero).st := Iff.rfl
          generalize xs.getD k Bd.zero = x at *
          obtain ⟨bs, bn⟩ := x
          have p0 : ∀ l : Later w7, l.val.cell? ⟨g, o + k * 2, none⟩ = some (.int .i64 bs) := hx.at_ (Below.refl _ _) 0 _ rfl
          have p1 : ∀ l : Later w7, l.val.cell? ⟨g, o + k * 2 + 1, none⟩ = some (.int .i64 bn) := hx.at_ (Below.refl _ _) 1 _ rfl
          have HYEK := Lib.hid hye
          have HSU := Lib.hid hsucc
          have HROW := Lib.hid hrow
          have HWFK := Lib.hid hwfk
          clear hx hA hye hsucc hrow hkl hwfk
          go_upto_region 16 with fail
          have y0 : (u.val.alloc (Obj.cells #[.int .i64 bs, .int .i64 bn] 117)).cell? ⟨u.val.heap.size, 0, none⟩ = some (.int .i64 bs) := by go_simp
          have hL9 : LaterC w7 (u.val.alloc (Obj.cells #[.int .i64 bs, .int .i64 bn] 117)) := u.alloc _
          have hSE : Seen (u.val.alloc (Obj.cells #[.int .i64 bs, .int .i64 bn] 117)) 3 GN k (stS xs k) := HI.out.1.alloc _
          generalize u.val.alloc (Obj.cells #[.int .i64 bs, .int .i64 bn] 117) = w9 at *
          generalize u.val.heap.size = GX at *
          have hkey := Maps.keyOf_int_mk (P := Tryz.prog) (k := 3) Tryz.underlying3 HWFK.out
          obtain ⟨c0, hlook, hc0⟩ := hSE.look (Maps.int_keyed Tryz.underlying3) Tryz.underlying208 hkey
          obtain ⟨w6, hput, hS6, hg6⟩ := hSE.put (t := 208) (T := stS xs (k + 1)) (Maps.int_keyed Tryz.underlying3) Tryz.underlying208 (by unfold maxLen; omega) hkey trivial (fun l => HSU.out l)
          have HL6 := Lib.hid (laterC_map hL9 hgo2 hg6)
          have HL9 := Lib.hid hL9
          have HS6 := Lib.hid hS6
          have HC0 := Lib.hid hc0
          clear hL9 hSE hkey hS6 hg6 hc0 p0 p1
          cases c0
          · have HTO := Lib.hid (show againTo xs (k + 1) from fun i hi => by
             rcases Nat.lt_or_ge i k with g | g
             · exact HI.out.2 i g
             · obtain rfl : i = k := by omega
               refine HROW.out.2 (fun j hj h => ?_)
               have := HC0.out.2 ⟨j, hj, congrArg (Lit.int .i64) h⟩
               cases this)
            go_wp2
            go_roundw
            case rel => exact ⟨k + 1, by omega, by go_num, Lib.hid ⟨HS6.out, HTO.out⟩, HL6.out⟩
            case measure => simp [intOf] <;> omega
          · have HR := Lib.hid (show R = true by
             obtain ⟨j, hj, he⟩ := HC0.out.1 rfl
             exact HYEK.out j hlk hj (Lit.int.inj he).2)
            go_wp2
            go_ret
            exact ⟨ret_eq (congrArg Value.bool HR.out.symm), HB7.out.trans (HL9.out.below.mono HB7.out.size)⟩
        · obtain rfl : k = n' := by omega
          have HNN := Lib.hid (HNA.out HI.out.2)
          obtain ⟨u9, hu9⟩ : ∃ u9 : Later w7, u9 = u := ⟨_, rfl⟩
          clear hA
          go_wp2
          go_roundw
          case rel => exact ⟨r + 1, by omega, by go_num, Lib.hid HNN.out, ⟨u, rfl⟩⟩
          case measure => simp [intOf] <;> omega
     · obtain rfl : r = 2 := by omega
       have HR := Lib.hid (show R = false by rw [HRR.out, HP.out.1 (by omega), HP.out.2 (by omega)]; rfl)
       clear z0 z1
       go_wp2
       go_ret
       exact ⟨ret_eq (congrArg Value.bool HR.out.symm), HB7.out.trans (u.prop.mono HB7.out.size)⟩
theorem nodes_pos {ns : List Nd} (h : nodesB ns = true) (x : Nd) (hx : x ∈ ns) : 0 ≤ partsN x.kind := by
 obtain ⟨i, hi, e⟩ := List.getElem_of_mem hx
 unfold nodesB at h
 rw [List.all_eq_true] at h
 have h1 := h i (List.mem_range.2 hi)
 unfold nodeB at h1
 have h2 := of_decide_eq_true h1
 have e2 : ns.getD i Nd.zero = x := by rw [List.getD_eq_getElem?_getD, List.getElem?_eq_getElem hi]; exact e
 rw [e2] at h2
 by_cases hf : fieldsB (ns.take i).length x = true
 · exact fields_pos hf
 · rw [sortN_bad (eq_false_of_ne_true hf)] at h2
   cases h2
theorem props_append (ns : List Nd) (xs ys : List Int) : propsB ns (xs ++ ys) = (propsB ns xs && propsB ns ys) := by
 unfold propsB; rw [List.all_append]
theorem big_no {M : Md} (h : bigB M = false) : M.bads.length + M.holds.length ≤ 1000 := by
 unfold bigB at h
 simp only [Bool.or_eq_false_iff, decide_eq_false_iff_not] at h
 omega
theorem ModelCode'_calls (mv : Value) (M : Md) (w : World) (hM : MdAt w mv M) (hnm : ∀ x, x ∈ M.nodes → x.name.size ≤ 140737488351232) (hw1 : ∀ b, b ∈ M.inits → (Lit.int .i64 b.st).wf = true) (hw2 : ∀ b, b ∈ M.nexts → (Lit.int .i64 b.st).wf = true) :
 Makes Tryz.prog 91 #[mv] w (.int .i64 (codeN M)) := by
 have HM := Lib.hid hM
 have HNM := Lib.hid hnm
 have HW1 := Lib.hid hw1
 have HW2 := Lib.hid hw2
 obtain ⟨s0, s1, s2, s3, s4, rfl, h0, h1, h2, h3, h4⟩ := hM.at_
 have HS1 := Lib.hid h1
 have HS2 := Lib.hid h2
 have HS3 := Lib.hid h3
 have HS4 := Lib.hid h4
 obtain ⟨A0, c0, rfl, hl0, hc0, -⟩ := h0
 obtain ⟨A1, c1, rfl, hl1, hc1, -⟩ := h1
 obtain ⟨A2, c2, rfl, hl2, hc2, -⟩ := h2
 obtain ⟨A3, c3, rfl, hl3, hc3, -⟩ := h3
 obtain ⟨A4, c4, rfl, hl4, hc4, -⟩ := h4
 clear hM hnm hw1 hw2
 have hbig : bigB M = (decide (60 < M.nodes.length) || (decide (60 < M.inits.length) || (decide (60 < M.nexts.length) || (decide (4 < M.bads.length) || decide (4 < M.holds.length))))) := rfl
 obtain ⟨R, hR⟩ : ∃ R, R = codeN M := ⟨_, rfl⟩
 rw [← hR]
 unfold codeN at hR
 have HR0 := Lib.hid hR
 clear hR
 have HBIG := Lib.hid hbig
 clear hbig
 have hmf : ∀ (fn : Fn) (first cap : Array Value) (w : World), (Instr.makeFunc fn first cap).run Tryz.prog w = .ok (.func fn first cap) w := fun _ _ _ _ => rfl
 go_enter Tryz.func91, Tryz.ntmps91
 have HB := Lib.hid (box_below w #[.slice A0 M.nodes.length c0, .slice A1 M.inits.length c1, .slice A2 M.nexts.length c2, .slice A3 M.bads.length c3, .slice A4 M.holds.length c4] 27)
 have m := fun f v h => box_cell w #[.slice A0 M.nodes.length c0, .slice A1 M.inits.length c1, .slice A2 M.nexts.length c2, .slice A3 M.bads.length c3, .slice A4 M.holds.length c4] 27 f v h
 have m0 := m 0 _ rfl
 have m1 := m 1 _ rfl
 have m2 := m 2 _ rfl
 have m3 := m 3 _ rfl
 have m4 := m 4 _ rfl
 clear m
 go_upto_region 1 with fail
 generalize w.alloc (.cells #[.slice A0 M.nodes.length c0, .slice A1 M.inits.length c1, .slice A2 M.nexts.length c2, .slice A3 M.bads.length c3, .slice A4 M.holds.length c4] 27) = w1 at *
 have m0 : ∀ u : Later w1, u.val.cell? ⟨w.heap.size, 0, none⟩ = some (.slice A0 M.nodes.length c0) := m0
 have m1 : ∀ u : Later w1, u.val.cell? ⟨w.heap.size, 1, none⟩ = some (.slice A1 M.inits.length c1) := m1
 have m2 : ∀ u : Later w1, u.val.cell? ⟨w.heap.size, 2, none⟩ = some (.slice A2 M.nexts.length c2) := m2
 have m3 : ∀ u : Later w1, u.val.cell? ⟨w.heap.size, 3, none⟩ = some (.slice A3 M.bads.length c3) := m3
 have m4 : ∀ u : Later w1, u.val.cell? ⟨w.heap.size, 4, none⟩ = some (.slice A4 M.holds.length c4) := m4
 have HM1 := Lib.hid (HM.out.below HB.out)
 generalize hg0 : w.heap.size = g0 at m0 m1 m2 m3 m4 ⊢
 clear hg0
 refine at_world (w := w1) ?_
 intro u0
 go_cut [4] (fun c wx => c = .bool (bigB M) ∧ wx = u0.val)
 case first =>
  by_cases h0 : 60 < M.nodes.length
  · have HW := Lib.hid (show bigB M = true by rw [HBIG.out]; simp [h0])
    have h0' : (60 : Int) < (M.nodes.length : Int) := by omega
    go_wp2
    go_meet
    case rel => exact ⟨congrArg Value.bool HW.out.symm, rfl⟩
  · have h0' : ¬ (60 : Int) < (M.nodes.length : Int) := by omega
    by_cases h1 : 60 < M.inits.length
    · have HW := Lib.hid (show bigB M = true by rw [HBIG.out]; simp [h0, h1])
      have h1' : (60 : Int) < (M.inits.length : Int) := by omega
      go_wp2
      go_meet
      case rel => exact ⟨congrArg Value.bool HW.out.symm, rfl⟩
    · have h1' : ¬ (60 : Int) < (M.inits.length : Int) := by omega
      by_cases h2 : 60 < M.nexts.length
      · have HW := Lib.hid (show bigB M = true by rw [HBIG.out]; simp [h0, h1, h2])
        have h2' : (60 : Int) < (M.nexts.length : Int) := by omega
        go_wp2
        go_meet
        case rel => exact ⟨congrArg Value.bool HW.out.symm, rfl⟩
      · have h2' : ¬ (60 : Int) < (M.nexts.length : Int) := by omega
        by_cases h3 : 4 < M.bads.length
        · have HW := Lib.hid (show bigB M = true by rw [HBIG.out]; simp [h0, h1, h2, h3])
          have h3' : (4 : Int) < (M.bads.length : Int) := by omega
          go_wp2
          go_meet
          case rel => exact ⟨congrArg Value.bool HW.out.symm, rfl⟩
        · have h3' : ¬ (4 : Int) < (M.bads.length : Int) := by omega
          by_cases h4 : 4 < M.holds.length
          · have HW := Lib.hid (show bigB M = true by rw [HBIG.out]; simp [h0, h1, h2, h3, h4])
            have h4' : (4 : Int) < (M.holds.length : Int) := by omega
            go_wp2
            go_meet
            case rel => exact ⟨congrArg Value.bool HW.out.symm, rfl⟩
          · have h4' : ¬ (4 : Int) < (M.holds.length : Int) := by omega
            have HW := Lib.hid (show bigB M = false by rw [HBIG.out]; simp [h0, h1, h2, h3, h4])
            go_wp2
            go_meet
            case rel => exact ⟨congrArg Value.bool HW.out.symm, rfl⟩
 case rest =>
  obtain ⟨rfl, rfl⟩ := hcut
  clear HBIG
  cases hbig : bigB M with
  | true =>
    have HR := Lib.hid (HR0.out.trans (if_pos hbig))
    clear hbig
    go_wp2
    go_ret
    exact ⟨ret_eq (congrArg (Value.int .i64) HR.out.symm), HB.out.trans (u0.prop.mono HB.out.size)⟩
  | false =>
    have HR1 := Lib.hid (HR0.out.trans (if_neg (by rw [hbig]; exact Bool.noConfusion)))
    have HLEN := Lib.hid (big_no hbig)
    clear hbig
    by_cases h0 : nodesB M.nodes = false
    · have HR := Lib.hid (HR1.out.trans (if_pos h0))
      have HNODES := Lib.hid h0
      clear h0
      go_wp2_with (go_at_call 161; refine (Calls.later (u := u0) (nodesOk_calls _ M _ (HM1.out.later _) HNM.out)).mono ?_; rintro e w' ⟨rfl, u1, rfl⟩; rw [HNODES.out])
      go_ret
      exact ⟨ret_eq (congrArg (Value.int .i64) HR.out.symm), HB.out.trans (u1.prop.mono HB.out.size)⟩
    have HR2 := Lib.hid (HR1.out.trans (if_neg h0))
    have HNODES := Lib.hid (eq_true_of_ne_false h0)
    have HD := Lib.hid (nodes_down HNODES.out)
    have HPOS := Lib.hid (nodes_pos HNODES.out)
    clear h0
    by_cases h1 : twiceB M = true
    · have HR := Lib.hid (HR2.out.trans (if_pos h1))
      have HTWICE := Lib.hid h1
      clear h1
      go_wp2_with (first | (go_at_call 161; refine (Calls.later (u := u0) (nodesOk_calls _ M _ (HM1.out.later _) HNM.out)).mono ?_; rintro e w' ⟨rfl, u1, rfl⟩; rw [HNODES.out]) | (go_at_call 162; refine (Calls.later (u := u1) (twice_calls _ M _ (HM1.out.later _) HNM.out HW1.out HW2.out)).mono ?_; rintro e w' ⟨rfl, u2, rfl⟩; rw [HTWICE.out]))
      go_ret
      exact ⟨ret_eq (congrArg (Value.int .i64) HR.out.symm), HB.out.trans (u2.prop.mono HB.out.size)⟩
    have HR3 := Lib.hid (HR2.out.trans (if_neg h1))
    have HTWICE := Lib.hid (eq_false_of_ne_true h1)
    clear h1
    go_upto_region 8 with (first | (go_at_call 161; refine (Calls.later (u := u0) (nodesOk_calls _ M _ (HM1.out.later _) HNM.out)).mono ?_; rintro e w' ⟨rfl, u1, rfl⟩; rw [HNODES.out]) | (go_at_call 162; refine (Calls.later (u := u1) (twice_calls _ M _ (HM1.out.later _) HNM.out HW1.out HW2.out)).mono ?_; rintro e w' ⟨rfl, u2, rfl⟩; rw [HTWICE.out]) | (go_at_call 163; refine (made_calls _ M _ (HM1.out.later u2) HD.out HPOS.out).mono ?_; rintro e w' ⟨gm, cs, rfl, hb, hge, hO, hBO⟩; obtain ⟨u3, hu3⟩ := u2.step hb; subst hu3; have HO := Lib.hid hO; have HBO := Lib.hid hBO; clear hb hge hO hBO))
    have hdc : (u3.val.alloc (Obj.cells #[.slice (some ⟨gm, 0, none⟩) M.nodes.length M.nodes.length] 107)).cell? ⟨u3.val.heap.size, 0, none⟩ = some (.slice (some ⟨gm, 0, none⟩) M.nodes.length M.nodes.length) := by go_simp
    have hO5 : OwnB (u3.val.alloc (Obj.cells #[.slice (some ⟨gm, 0, none⟩) M.nodes.length M.nodes.length] 107)) gm 4 cs := HO.out.below (box_below _ _ _) HO.out.lt
    have hL5 : LaterC w1 (u3.val.alloc (Obj.cells #[.slice (some ⟨gm, 0, none⟩) M.nodes.length M.nodes.length] 107)) := u3.alloc _
    generalize (u3.val.alloc (Obj.cells #[.slice (some ⟨gm, 0, none⟩) M.nodes.length M.nodes.length] 107)) = w5 at *
    generalize u3.val.heap.size = GB at *
    have HDB := Lib.hid (show MadeBox w5 GB M from ⟨gm, cs, hdc, hO5, HBO.out⟩)
    have n0 := Later.re m0 hL5
    have n1 := Later.re m1 hL5
    have n2 := Later.re m2 hL5
    have n3 := Later.re m3 hL5
    have n4 := Later.re m4 hL5
    have HB5 := Lib.hid (HB.out.trans (hL5.below.mono HB.out.size))
    have HM5 := Lib.hid (HM.out.below HB5.out)
    have HMB := Lib.hid (show ModelBox w5 g0 M from ⟨_, _, _, _, _, HM5.out, n0 ⟨w5, Below.refl _ _⟩, n1 ⟨w5, Below.refl _ _⟩, n2 ⟨w5, Below.refl _ _⟩, n3 ⟨w5, Below.refl _ _⟩, n4 ⟨w5, Below.refl _ _⟩⟩)
    have HS1 := Lib.hid (HS1.out.below HB5.out)
    have HS2 := Lib.hid (HS2.out.below HB5.out)
    have HS3 := Lib.hid (HS3.out.below HB5.out)
    have HS4 := Lib.hid (HS4.out.below HB5.out)
    clear hdc hO5 hL5 m0 m1 m2 m3 m4
    refine at_world (w := w5) ?_
    intro v0
    have HBI := Lib.hid (show bindsB M = ((M.inits.all fun b => bindOkB M.nodes b true) && (M.nexts.all fun b => bindOkB M.nodes b false)) from rfl)
    have hpr := props_append M.nodes M.bads M.holds
    have HPR := Lib.hid hpr
    clear hpr
    cases hc1 : (M.inits.all fun b => bindOkB M.nodes b true) with
    | false =>
      have HR := Lib.hid (HR3.out.trans (if_pos (by rw [HBI.out, hc1]; rfl)))
      have HC1 := Lib.hid (show (!(M.inits.all fun b => bindOkB M.nodes b true)) = true by rw [hc1]; rfl)
      clear hc1
      go_wp2_with (first | (go_at_call 164; with_reducible refine (Calls.later (u := v0) (contains1_calls M g0 GB (.slice A1 M.inits.length c1) M.inits _ (HMB.out.below v0.prop) (HDB.out.below v0.prop) (HS1.out.later v0))).mono ?_; rintro e w' ⟨rfl, v1, rfl⟩; rw [HC1.out]))
      go_ret
      exact ⟨ret_eq (congrArg (Value.int .i64) HR.out.symm), HB5.out.trans (v1.prop.mono HB5.out.size)⟩
    | true =>
      have HC1 := Lib.hid (show (!(M.inits.all fun b => bindOkB M.nodes b true)) = false by rw [hc1]; rfl)
      cases hc2 : (M.nexts.all fun b => bindOkB M.nodes b false) with
      | false =>
        have HR := Lib.hid (HR3.out.trans (if_pos (by rw [HBI.out, hc1, hc2]; rfl)))
        have HC2 := Lib.hid (show (!(M.nexts.all fun b => bindOkB M.nodes b false)) = true by rw [hc2]; rfl)
        clear hc1 hc2
        go_wp2_with (first | (go_at_call 164; with_reducible refine (Calls.later (u := v0) (contains1_calls M g0 GB (.slice A1 M.inits.length c1) M.inits _ (HMB.out.below v0.prop) (HDB.out.below v0.prop) (HS1.out.later v0))).mono ?_; rintro e w' ⟨rfl, v1, rfl⟩; rw [HC1.out]) | (go_at_call 164; with_reducible refine (Calls.later (u := v1) (contains2_calls M g0 GB (.slice A2 M.nexts.length c2) M.nexts _ (HMB.out.below v1.prop) (HDB.out.below v1.prop) (HS2.out.later v1))).mono ?_; rintro e w' ⟨rfl, v2, rfl⟩; rw [HC2.out]))
        go_ret
        exact ⟨ret_eq (congrArg (Value.int .i64) HR.out.symm), HB5.out.trans (v2.prop.mono HB5.out.size)⟩
      | true =>
        have HC2 := Lib.hid (show (!(M.nexts.all fun b => bindOkB M.nodes b false)) = false by rw [hc2]; rfl)
        have HR4 := Lib.hid (HR3.out.trans (if_neg (by rw [HBI.out, hc1, hc2]; exact Bool.noConfusion)))
        clear hc1 hc2
        by_cases hp1 : propsB M.nodes M.bads = false
        · have HR := Lib.hid (HR4.out.trans (if_pos hp1))
          have HC3 := Lib.hid (show (!propsB M.nodes (M.bads ++ M.holds)) = true by rw [HPR.out, hp1]; rfl)
          clear hp1
          go_wp2_with (first | (go_at_call 164; with_reducible refine (Calls.later (u := v0) (contains1_calls M g0 GB (.slice A1 M.inits.length c1) M.inits _ (HMB.out.below v0.prop) (HDB.out.below v0.prop) (HS1.out.later v0))).mono ?_; rintro e w' ⟨rfl, v1, rfl⟩; rw [HC1.out]) | (go_at_call 164; with_reducible refine (Calls.later (u := v1) (contains2_calls M g0 GB (.slice A2 M.nexts.length c2) M.nexts _ (HMB.out.below v1.prop) (HDB.out.below v1.prop) (HS2.out.later v1))).mono ?_; rintro e w' ⟨rfl, v2, rfl⟩; rw [HC2.out]) | (go_at_call 169; refine (Concat_calls v2.val.heap.size (.slice A3 M.bads.length c3) (.slice A4 M.holds.length c4) M.bads M.holds _ ((HS3.out.later v2).below (box_below _ _ _)) ((HS4.out.later v2).below (box_below _ _ _)) (by go_simp) (by go_simp) HLEN.out).mono ?_; rintro e w' ⟨cv, rfl, hb, hs⟩; obtain ⟨v3, hv3⟩ := laterC_step (w1 := w5) (v2.alloc _) hb; subst hv3; have HSC := Lib.hid hs; clear hb hs) | (go_at_call 168; refine (Calls.later (u := v3) (contains3_calls M g0 cv (M.bads ++ M.holds) _ (HMB.out.below v3.prop) HSC.out)).mono ?_; rintro e w' ⟨rfl, v4, rfl⟩; rw [HC3.out]))
          go_ret
          exact ⟨ret_eq (congrArg (Value.int .i64) HR.out.symm), HB5.out.trans (v4.prop.mono HB5.out.size)⟩
        have HR5 := Lib.hid (HR4.out.trans (if_neg hp1))
        have hp1 := eq_true_of_ne_false hp1
        by_cases hp2 : propsB M.nodes M.holds = false
        · have HR := Lib.hid (HR5.out.trans (if_pos hp2))
          have HC3 := Lib.hid (show (!propsB M.nodes (M.bads ++ M.holds)) = true by rw [HPR.out, hp1, hp2]; rfl)
          clear hp1 hp2
          go_wp2_with (first | (go_at_call 164; with_reducible refine (Calls.later (u := v0) (contains1_calls M g0 GB (.slice A1 M.inits.length c1) M.inits _ (HMB.out.below v0.prop) (HDB.out.below v0.prop) (HS1.out.later v0))).mono ?_; rintro e w' ⟨rfl, v1, rfl⟩; rw [HC1.out]) | (go_at_call 164; with_reducible refine (Calls.later (u := v1) (contains2_calls M g0 GB (.slice A2 M.nexts.length c2) M.nexts _ (HMB.out.below v1.prop) (HDB.out.below v1.prop) (HS2.out.later v1))).mono ?_; rintro e w' ⟨rfl, v2, rfl⟩; rw [HC2.out]) | (go_at_call 169; refine (Concat_calls v2.val.heap.size (.slice A3 M.bads.length c3) (.slice A4 M.holds.length c4) M.bads M.holds _ ((HS3.out.later v2).below (box_below _ _ _)) ((HS4.out.later v2).below (box_below _ _ _)) (by go_simp) (by go_simp) HLEN.out).mono ?_; rintro e w' ⟨cv, rfl, hb, hs⟩; obtain ⟨v3, hv3⟩ := laterC_step (w1 := w5) (v2.alloc _) hb; subst hv3; have HSC := Lib.hid hs; clear hb hs) | (go_at_call 168; refine (Calls.later (u := v3) (contains3_calls M g0 cv (M.bads ++ M.holds) _ (HMB.out.below v3.prop) HSC.out)).mono ?_; rintro e w' ⟨rfl, v4, rfl⟩; rw [HC3.out]))
          go_ret
          exact ⟨ret_eq (congrArg (Value.int .i64) HR.out.symm), HB5.out.trans (v4.prop.mono HB5.out.size)⟩
        have HR6 := Lib.hid (HR5.out.trans (if_neg hp2))
        have hp2 := eq_true_of_ne_false hp2
        have HC3 := Lib.hid (show (!propsB M.nodes (M.bads ++ M.holds)) = false by rw [HPR.out, hp1, hp2]; rfl)
        clear hp1 hp2
        obtain ⟨x36, hx36⟩ : ∃ x, x = allN 36 M.nodes := ⟨_, rfl⟩
        obtain ⟨x35, hx35⟩ : ∃ x, x = allN 35 M.nodes := ⟨_, rfl⟩
        have HA1 := Lib.hid hx36.symm
        have HA2 := Lib.hid hx35.symm
        clear hx36 hx35
        rw [HA1.out, HA2.out] at HR6
        by_cases h8 : 8 < x36
        · have HR := Lib.hid (HR6.out.trans (if_pos h8))
          go_wp2_with (first | (go_at_call 164; with_reducible refine (Calls.later (u := v0) (contains1_calls M g0 GB (.slice A1 M.inits.length c1) M.inits _ (HMB.out.below v0.prop) (HDB.out.below v0.prop) (HS1.out.later v0))).mono ?_; rintro e w' ⟨rfl, v1, rfl⟩; rw [HC1.out]) | (go_at_call 164; with_reducible refine (Calls.later (u := v1) (contains2_calls M g0 GB (.slice A2 M.nexts.length c2) M.nexts _ (HMB.out.below v1.prop) (HDB.out.below v1.prop) (HS2.out.later v1))).mono ?_; rintro e w' ⟨rfl, v2, rfl⟩; rw [HC2.out]) | (go_at_call 169; refine (Concat_calls v2.val.heap.size (.slice A3 M.bads.length c3) (.slice A4 M.holds.length c4) M.bads M.holds _ ((HS3.out.later v2).below (box_below _ _ _)) ((HS4.out.later v2).below (box_below _ _ _)) (by go_simp) (by go_simp) HLEN.out).mono ?_; rintro e w' ⟨cv, rfl, hb, hs⟩; obtain ⟨v3, hv3⟩ := laterC_step (w1 := w5) (v2.alloc _) hb; subst hv3; have HSC := Lib.hid hs; clear hb hs) | (go_at_call 168; refine (Calls.later (u := v3) (contains3_calls M g0 cv (M.bads ++ M.holds) _ (HMB.out.below v3.prop) HSC.out)).mono ?_; rintro e w' ⟨rfl, v4, rfl⟩; rw [HC3.out]) | (go_at_call 126; with_reducible refine (Calls.later (u := v4) (bits_calls _ M 36 _ (HM5.out.later _))).mono ?_; rintro e w' ⟨rfl, v5, rfl⟩; rw [HA1.out]))
          go_ret
          exact ⟨ret_eq (congrArg (Value.int .i64) HR.out.symm), HB5.out.trans (v5.prop.mono HB5.out.size)⟩
        have HR7 := Lib.hid (HR6.out.trans (if_neg h8))
        by_cases h5 : 5 < x35
        · have HR := Lib.hid (HR7.out.trans (if_pos h5))
          go_wp2_with (first | (go_at_call 164; with_reducible refine (Calls.later (u := v0) (contains1_calls M g0 GB (.slice A1 M.inits.length c1) M.inits _ (HMB.out.below v0.prop) (HDB.out.below v0.prop) (HS1.out.later v0))).mono ?_; rintro e w' ⟨rfl, v1, rfl⟩; rw [HC1.out]) | (go_at_call 164; with_reducible refine (Calls.later (u := v1) (contains2_calls M g0 GB (.slice A2 M.nexts.length c2) M.nexts _ (HMB.out.below v1.prop) (HDB.out.below v1.prop) (HS2.out.later v1))).mono ?_; rintro e w' ⟨rfl, v2, rfl⟩; rw [HC2.out]) | (go_at_call 169; refine (Concat_calls v2.val.heap.size (.slice A3 M.bads.length c3) (.slice A4 M.holds.length c4) M.bads M.holds _ ((HS3.out.later v2).below (box_below _ _ _)) ((HS4.out.later v2).below (box_below _ _ _)) (by go_simp) (by go_simp) HLEN.out).mono ?_; rintro e w' ⟨cv, rfl, hb, hs⟩; obtain ⟨v3, hv3⟩ := laterC_step (w1 := w5) (v2.alloc _) hb; subst hv3; have HSC := Lib.hid hs; clear hb hs) | (go_at_call 168; refine (Calls.later (u := v3) (contains3_calls M g0 cv (M.bads ++ M.holds) _ (HMB.out.below v3.prop) HSC.out)).mono ?_; rintro e w' ⟨rfl, v4, rfl⟩; rw [HC3.out]) | (go_at_call 126; with_reducible refine (Calls.later (u := v4) (bits_calls _ M 36 _ (HM5.out.later _))).mono ?_; rintro e w' ⟨rfl, v5, rfl⟩; rw [HA1.out]) | (go_at_call 126; with_reducible refine (Calls.later (u := v5) (bits_calls _ M 35 _ (HM5.out.later _))).mono ?_; rintro e w' ⟨rfl, v6, rfl⟩; rw [HA2.out]))
          go_ret
          exact ⟨ret_eq (congrArg (Value.int .i64) HR.out.symm), HB5.out.trans (v6.prop.mono HB5.out.size)⟩
        · have HR := Lib.hid (HR7.out.trans (if_neg h5))
          go_wp2_with (first | (go_at_call 164; with_reducible refine (Calls.later (u := v0) (contains1_calls M g0 GB (.slice A1 M.inits.length c1) M.inits _ (HMB.out.below v0.prop) (HDB.out.below v0.prop) (HS1.out.later v0))).mono ?_; rintro e w' ⟨rfl, v1, rfl⟩; rw [HC1.out]) | (go_at_call 164; with_reducible refine (Calls.later (u := v1) (contains2_calls M g0 GB (.slice A2 M.nexts.length c2) M.nexts _ (HMB.out.below v1.prop) (HDB.out.below v1.prop) (HS2.out.later v1))).mono ?_; rintro e w' ⟨rfl, v2, rfl⟩; rw [HC2.out]) | (go_at_call 169; refine (Concat_calls v2.val.heap.size (.slice A3 M.bads.length c3) (.slice A4 M.holds.length c4) M.bads M.holds _ ((HS3.out.later v2).below (box_below _ _ _)) ((HS4.out.later v2).below (box_below _ _ _)) (by go_simp) (by go_simp) HLEN.out).mono ?_; rintro e w' ⟨cv, rfl, hb, hs⟩; obtain ⟨v3, hv3⟩ := laterC_step (w1 := w5) (v2.alloc _) hb; subst hv3; have HSC := Lib.hid hs; clear hb hs) | (go_at_call 168; refine (Calls.later (u := v3) (contains3_calls M g0 cv (M.bads ++ M.holds) _ (HMB.out.below v3.prop) HSC.out)).mono ?_; rintro e w' ⟨rfl, v4, rfl⟩; rw [HC3.out]) | (go_at_call 126; with_reducible refine (Calls.later (u := v4) (bits_calls _ M 36 _ (HM5.out.later _))).mono ?_; rintro e w' ⟨rfl, v5, rfl⟩; rw [HA1.out]) | (go_at_call 126; with_reducible refine (Calls.later (u := v5) (bits_calls _ M 35 _ (HM5.out.later _))).mono ?_; rintro e w' ⟨rfl, v6, rfl⟩; rw [HA2.out]))
          go_ret
          exact ⟨ret_eq (congrArg (Value.int .i64) HR.out.symm), HB5.out.trans (v6.prop.mono HB5.out.size)⟩
structure But (S : Nat → Prop) (w w' : World) : Prop where
 os : w'.os = w.os
 tape : w'.tape = w.tape
 output : w'.output = w.output
 size : w.heap.size ≤ w'.heap.size
 block : ∀ k, k < w.heap.size → ¬ S k → w'.heap[k]? = w.heap[k]?
theorem But.refl (S : Nat → Prop) (w : World) : But S w w := ⟨rfl, rfl, rfl, Nat.le_refl _, fun _ _ _ => rfl⟩
theorem But.trans {S : Nat → Prop} {a b c : World} (h : But S a b) (k : But S b c) : But S a c :=
 ⟨k.os.trans h.os, k.tape.trans h.tape, k.output.trans h.output, Nat.le_trans h.size k.size, fun i hi hn => (k.block i (Nat.lt_of_lt_of_le hi h.size) hn).trans (h.block i hi hn)⟩
theorem But.mono {S T : Nat → Prop} {a b : World} (h : But S a b) (hs : ∀ k, S k → T k) : But T a b := ⟨h.os, h.tape, h.output, h.size, fun k hk hn => h.block k hk fun hS => hn (hs k hS)⟩
theorem But.of_below {S : Nat → Prop} {w w' : World} (h : Below w.heap.size w w') : But S w w' := ⟨h.os, h.tape, h.output, h.size, fun k hk _ => h.block k hk⟩
theorem But.below {S : Nat → Prop} {w w' : World} {B : Nat} (h : But S w w') (hS : ∀ k, S k → B ≤ k) (hB : B ≤ w.heap.size) : Below B w w' :=
 ⟨h.os, h.tape, h.output, h.size, fun k hk => h.block k (by omega) fun hk' => by have := hS k hk'; omega⟩
theorem But.setCell {S : Nat → Prop} {w w' : World} (h : But S w w') {p : Addr} (hp : S p.block) (v : Value) : But S w (w'.setCell p v) := by
 refine ⟨h.os, h.tape, h.output, by simpa [World.setCell] using h.size, fun k hk hn => ?_⟩
 have : p.block ≠ k := fun e => hn (e ▸ hp)
 simp [World.setCell, Array.getElem?_modify, this, h.block k hk hn]
theorem OwnB.but {S : Nat → Prop} {w w' : World} {g : Nat} {T : TypeId} {cs : Array Value} (h : OwnB w g T cs) (hb : But S w w') (hg : ¬ S g) : OwnB w' g T cs := (hb.block g h.lt hg).trans h
theorem cell_but {S : Nat → Prop} {w w' : World} {a : Addr} {v : Value} (h : w.cell? a = some v) (hb : But S w w') (hg : ¬ S a.block) : w'.cell? a = some v := by
 have := hb.block a.block (World.block_lt_of_cell? _ _ h) hg
 unfold World.cell? at h ⊢
 rw [this]
 exact h
theorem SlN.but {α : Type} {E : En α} {S : Nat → Prop} {w w' : World} {v : Value} {xs : List α} (h : SlN E w v xs) (hb : But S w w') (hg : ∀ b, v.ownBlock = some b → ¬ S b) : SlN E w' v xs := by
 obtain ⟨A, c, rfl, h1, h2, h3⟩ := h
 refine ⟨A, c, rfl, h1, h2, fun i x hx => ?_⟩
 obtain ⟨b, o, rfl, hc⟩ := h3 i x hx
 exact ⟨b, o, rfl, fun f u hu => cell_but (hc f u hu) hb (hg b rfl)⟩
def RowI (w : World) (v : Value) (xs : List Int) : Prop :=
 xs.length ≤ 281474976710656 ∧ ((v = .slice none 0 0 ∧ xs = []) ∨ ∃ g cap cur, v = .slice (some ⟨g, 0, none⟩) xs.length cap ∧ OwnB w g 3 cur ∧ xs.length ≤ cap ∧ cur.size = cap ∧ ∀ (i : Nat) (x : Int), xs[i]? = some x → cur[i]? = some (Value.int .i64 x))
theorem RowI.slN {w : World} {v : Value} {xs : List Int} (h : RowI w v xs) : SlN enI w v xs := by
 obtain ⟨hl, ⟨rfl, rfl⟩ | ⟨g, cap, cur, rfl, ho, hc, hs, hf⟩⟩ := h
 · exact ⟨none, 0, rfl, Nat.le_refl _, by simp, fun i x hx => by simp at hx⟩
 · refine ⟨some ⟨g, 0, none⟩, cap, rfl, hc, hl, fun i x hx => ⟨g, 0, rfl, fun f u hu => ?_⟩⟩
   have hf0 : f = 0 := by
    have := (List.getElem?_eq_some_iff.1 hu).1
    simpa using this
   subst hf0
   have hu' : u = .int .i64 x := by simpa using hu.symm
   subst hu'
   rw [ho.cell]
   simpa using hf i x hx
theorem RowI.but {S : Nat → Prop} {w w' : World} {v : Value} {xs : List Int} (h : RowI w v xs) (hb : But S w w') (hg : ∀ b, v.ownBlock = some b → ¬ S b) : RowI w' v xs := by
 obtain ⟨hl, ⟨rfl, rfl⟩ | ⟨g, cap, cur, rfl, ho, r⟩⟩ := h
 · exact ⟨hl, .inl ⟨rfl, rfl⟩⟩
 · exact ⟨hl, .inr ⟨g, cap, cur, rfl, ho.but hb (hg g rfl), r⟩⟩
theorem RowI.lt {w : World} {v : Value} {xs : List Int} (h : RowI w v xs) {b : Nat} (hb : v.ownBlock = some b) : b < w.heap.size := by
 obtain ⟨-, ⟨rfl, -⟩ | ⟨g, cap, cur, rfl, ho, -⟩⟩ := h
 · cases hb
 · cases hb; exact ho.lt
theorem RowI.below {w w' : World} {v : Value} {xs : List Int} (h : RowI w v xs) (hb : Below w.heap.size w w') : RowI w' v xs := h.but (S := fun _ => False) (.of_below hb) fun _ _ h => h
theorem RowI.of_owns {w : World} {base n : Nat} {v : Value} {xs : List Int} (h : w.ownsRow base 3 1 v n (xs.map (Value.int .i64))) (hn : n = xs.length) (hl : xs.length ≤ 281474976710656) : RowI w v xs := by
 subst hn
 refine ⟨hl, ?_⟩
 rcases h.2 with ⟨rfl, h0⟩ | ⟨g, cap, cur, rfl, _, hg, hc, _, hs, ht⟩
 · exact .inl ⟨rfl, List.eq_nil_of_length_eq_zero h0⟩
 · refine .inr ⟨g, cap, cur, rfl, hg, hc, by rw [hs, Nat.mul_one], fun i x hx => ?_⟩
   have hi := (List.getElem?_eq_some_iff.1 hx).1
   have h1 : (cur.toList.take (xs.length * 1))[i]? = some (.int .i64 x) := by rw [ht, List.getElem?_map, hx]; rfl
   rw [List.getElem?_take_of_lt (by omega)] at h1
   simpa using h1
def marks (k : Int) (n : Nat) : List Int := (List.range n).map fun (i : Nat) => k + (i : Int)
theorem marks_length (k : Int) (n : Nat) : (marks k n).length = n := by simp [marks]
theorem marks_get {k : Int} {n i : Nat} (h : i < n) : (marks k n)[i]? = some (k + i) := by simp [marks, h]
theorem toModel_at (mv : Value) (M : Md) (w : World) (hM : MdAt w mv M) (h0 : M.nodes.length ≤ 1048576) (h1 : M.inits.length ≤ 1048576) (h2 : M.nexts.length ≤ 1048576) (h3 : M.bads.length ≤ 1048576) (h4 : M.holds.length ≤ 1048576) :
 Calls Tryz.prog 24 #[mv] w fun e w' => ∃ g0 g1 g2 g3 g4, e = .returned (.agg #[slOf g0 M.nodes, slOf g1 M.inits, slOf g2 M.nexts, slOf g3 M.bads, slOf g4 M.holds]) ∧ Below w.heap.size w w' ∧ MdAt w' (.agg #[slOf g0 M.nodes, slOf g1 M.inits, slOf g2 M.nexts, slOf g3 M.bads, slOf g4 M.holds]) M :=
 (toModel_calls mv M w hM h0 h1 h2 h3 h4).mono fun e w' ⟨g0, g1, g2, g3, g4, he, hb, _, _, _, _, f0, f1, f2, f3, f4⟩ =>
   ⟨_, _, _, _, _, he, hb, ⟨_, _, _, _, _, rfl, f0.slAt (by omega), f1.slAt (by omega), f2.slAt (by omega), f3.slAt (by omega), f4.slAt (by omega)⟩⟩
def placesN (kind : Int) (l : List Nd) : Nat → List Int
 | 0 => []
 | k + 1 => placesN kind l k ++ (if (l.getD k Nd.zero).kind == kind then [(k : Int)] else [])
theorem placesN_le (kind : Int) (l : List Nd) (k : Nat) : (placesN kind l k).length ≤ k := by
 induction k with
 | zero => exact Nat.le_refl _
 | succ k ih =>
   unfold placesN
   rw [List.length_append]
   split <;> simp <;> omega
theorem placesN_yes {kind : Int} {l : List Nd} {k : Nat} (h : ((l.getD k Nd.zero).kind == kind) = true) : placesN kind l (k + 1) = placesN kind l k ++ [(k : Int)] := by
 rw [placesN, if_pos h]
theorem placesN_no {kind : Int} {l : List Nd} {k : Nat} (h : ((l.getD k Nd.zero).kind == kind) = false) : placesN kind l (k + 1) = placesN kind l k := by
 rw [placesN, h]
 simp
theorem placesN_in {kind : Int} {l : List Nd} : ∀ {k : Nat} {p : Int}, p ∈ placesN kind l k → ∃ j : Nat, p = j ∧ j < k ∧ ((l.getD j Nd.zero).kind == kind) = true
 | k + 1, p, h => by
   by_cases hk : ((l.getD k Nd.zero).kind == kind) = true
   · rw [placesN_yes hk] at h
     rcases List.mem_append.1 h with h | h
     · obtain ⟨j, h1, h2, h3⟩ := placesN_in h
       exact ⟨j, h1, by omega, h3⟩
     · exact ⟨k, List.mem_singleton.1 h, by omega, hk⟩
   · rw [placesN_no (eq_false_of_ne_true hk)] at h
     obtain ⟨j, h1, h2, h3⟩ := placesN_in h
     exact ⟨j, h1, by omega, h3⟩
end Go.Proofs.YtbenebcphaiohaaGreat
namespace Go.Proofs.YtbenebcphaiohaaGreat
open Go.Joins Go.ChangeShapes Go.WideShapes Go.ChangeAt Go.RowKit Go.Deep
section
variable {H : Type} {enc : TypeId × Value → H} {w : World}
theorem list_of {α : Type} (Q : Nat → α → Prop) : ∀ (n : Nat), (∀ i, i < n → ∃ x, Q i x) → ∃ xs : List α, xs.length = n ∧ ∀ i x, xs[i]? = some x → Q i x
 | 0, _ => ⟨[], rfl, fun i x h => by simp at h⟩
 | n + 1, h => by
   obtain ⟨xs, hl, hx⟩ := list_of Q n fun i hi => h i (by omega)
   obtain ⟨y, hy⟩ := h n (by omega)
   refine ⟨xs ++ [y], by simp [hl], fun i x hi => ?_⟩
   rcases Nat.lt_trichotomy i n with g | g | g
   · rw [List.getElem?_append_left (by omega)] at hi
     exact hx i x hi
   · subst g
     rw [List.getElem?_append_right (by omega), hl, Nat.sub_self] at hi
     simp at hi
     exact hi ▸ hy
   · rw [List.getElem?_eq_none (by simp; omega)] at hi
     simp at hi
theorem weightsAll_mem' {P : Program} {e : TypeId} : ∀ {l : List (DataW H)} {d : DataW H}, d ∈ l → ∀ n ∈ d.weights P e, n ∈ DataW.weightsAll P e l
 | d' :: r, d, hd, n, hn => by
   simp only [DataW.weightsAll, List.mem_append]
   rcases List.mem_cons.1 hd with rfl | h
   · exact Or.inl hn
   · exact Or.inr (weightsAll_mem' h n hn)
theorem addr_at {a : Addr} (hs : a.spot = none) (k : Nat) : a.add k = ⟨a.block, a.off + k, none⟩ := by
 obtain ⟨b, o, s⟩ := a
 subst hs
 unfold Addr.add
 split
 · next h => subst h; rfl
 · rfl
theorem slAt_of {α : Type} (E : En α) (R : α → Prop) {t e : TypeId} (ht : Tryz.prog.underlying t = some (.slice e)) (hce : Tryz.prog.cellsOf e = E.sz) (hby : 1 ≤ Tryz.prog.bytesOf e) (hsz : 1 ≤ E.sz)
 (hel : ∀ (fuel : Nat) (cs : List Value) (d : DataW H) (p : List MemPlace), DataW.trod enc Tryz.prog w 0 (fun _ => true) true fuel e cs = some (d, p) → (∀ n ∈ d.weights Tryz.prog e, n ≤ reachBytes) → ∃ x, (∀ f u, (E.cells x)[f]? = some u → f < E.sz ∧ cs[f]? = some u) ∧ R x)
 {fuel : Nat} {v : Value} {d : DataW H} {p : List MemPlace} (h : DataW.trod enc Tryz.prog w 0 (fun _ => true) true fuel t [v] = some (d, p)) (hw : ∀ n ∈ d.weights Tryz.prog t, n ≤ reachBytes) :
 ∃ xs : List α, SlAt E w v xs ∧ ∀ x ∈ xs, R x := by
 rcases open_slice ht h with ⟨h0, -⟩ | ⟨a, len, cap, m, n, D, Pl, hv, hb, hl, hm, hmm, hx, hi⟩
 · simp at h0
   subst h0
   exact ⟨[], ⟨.none, 0, rfl, Nat.le_refl _, by omega, fun i x hx => by simp at hx⟩, fun x hx => by simp at hx⟩
 · simp at hv
   subst hv
   simp at hmm
   subst hmm
   simp only [Prod.mk.injEq] at hx
   obtain ⟨rfl, -⟩ := hx
   have hwt : ∀ n ∈ (((List.range len).map D).length + ((List.range (m - len)).map fun j => D (len + j)).length) * Tryz.prog.bytesOf e :: (DataW.weightsAll Tryz.prog e ((List.range len).map D) ++ DataW.weightsAll Tryz.prog e ((List.range (m - len)).map fun j => D (len + j))), n ≤ reachBytes := by
    intro n hn
    refine hw n ?_
    simp only [DataW.weights, ht]
    exact hn
   have hcap : m * Tryz.prog.bytesOf e ≤ reachBytes := by
    have := hwt _ List.mem_cons_self
    simpa [show len + (m - len) = m by omega] using this
   have hm8 : m ≤ 281474976710656 := by
    have h1 : m * 1 ≤ m * Tryz.prog.bytesOf e := Nat.mul_le_mul_left m hby
    have h2 : reachBytes = 140737488351232 := rfl
    omega
   obtain ⟨xs, hxl, hxs⟩ := list_of (fun i x => (∀ f u, (E.cells x)[f]? = some u → w.cell? ((a.add (i * E.sz)).add f) = some u) ∧ R x) len fun i hil => by
    obtain ⟨cs', hc, ht'⟩ := hi i (by omega)
    obtain ⟨x, hx, hR⟩ := hel _ cs' _ _ ht' fun n hn => hwt n (List.mem_cons_of_mem _ (List.mem_append_left _ (weightsAll_mem' (List.mem_map.2 ⟨i, List.mem_range.2 hil, rfl⟩) n hn)))
    rw [hce] at hc
    obtain ⟨_, _, hat⟩ := World.cells?_some hc
    refine ⟨x, fun f u hu => ?_, hR⟩
    obtain ⟨hf, hcs⟩ := hx f u hu
    exact (hat f hf).trans hcs
   refine ⟨xs, ⟨some a, m, by rw [hxl], by omega, hm8, fun i x hx => ?_⟩, fun x hx => ?_⟩
   · have hil : i < len := hxl ▸ (List.getElem?_eq_some_iff.1 hx).1
     have hsp : a.spot = none := by
      obtain ⟨cs', hc, -⟩ := hi 0 (by omega)
      rw [hce] at hc
      obtain ⟨_, hl', hat⟩ := World.cells?_some hc
      have h0 := hat 0 (by omega)
      rw [List.getElem?_eq_getElem (by omega)] at h0
      simpa [Addr.add] using World.cell?_spot h0
     obtain ⟨hc, -⟩ := hxs i x hx
     refine ⟨a.block, a.off, congrArg some (by rw [← hsp]), fun f u hu => ?_⟩
     have := hc f u hu
     rw [add_add, addr_at hsp] at this
     rw [Nat.add_assoc]
     exact this
   · obtain ⟨i, hi'⟩ := List.getElem?_of_mem hx
     exact (hxs i x hi').2
theorem one_cell {cs : List Value} {k : Nat} {c : Value} {T : TypeId} (hT : Tryz.prog.cellsOf T = 1) (hc : cs[k]? = some c) : (cs.drop k).take (Tryz.prog.cellsOf T) = [c] := by
 obtain ⟨hk, rfl⟩ := List.getElem?_eq_some_iff.1 hc
 rw [hT, List.drop_eq_getElem_cons hk]
 rfl
theorem int_el {fuel : Nat} {cs : List Value} {d : DataW H} {p : List MemPlace} (h : DataW.trod enc Tryz.prog w 0 (fun _ => true) true fuel 3 cs = some (d, p)) : ∃ x : Int, (∀ f u, (enI.cells x)[f]? = some u → f < enI.sz ∧ cs[f]? = some u) ∧ True := by
 obtain ⟨a, rfl, -, -⟩ := DataW.trod_int Tryz.underlying3 h
 refine ⟨a, fun f u hu => ?_, trivial⟩
 match f, hu with
 | 0, hu => exact ⟨Nat.lt_succ_self 0, hu⟩
theorem cells_int : Tryz.prog.cellsOf 3 = 1 := by kernel_rfl
theorem cells_str : Tryz.prog.cellsOf 9 = 1 := by kernel_rfl
theorem cells_sort : Tryz.prog.cellsOf 162 = 2 := by kernel_rfl
theorem cells_node : Tryz.prog.cellsOf 164 = 9 := by kernel_rfl
theorem cells_bind : Tryz.prog.cellsOf 169 = 2 := by kernel_rfl
theorem cells_mod : Tryz.prog.cellsOf 47 = 5 := by kernel_rfl
theorem int_cell {fuel : Nat} {cs : List Value} {k : Nat} {y : Option (DataW H × List MemPlace)} {x : DataW H × List MemPlace} (h : DataW.trod enc Tryz.prog w 0 (fun _ => true) true fuel 3 ((cs.drop k).take (Tryz.prog.cellsOf 3)) = y) (hy : y = some x) :
 ∃ a : Int, cs[k]? = some (.int .i64 a) ∧ (Lit.int .i64 a).wf = true := by
 obtain ⟨a, ha, -, hw⟩ := DataW.trod_int Tryz.underlying3 (h.trans hy)
 refine ⟨a, ?_, hw⟩
 rw [cells_int] at ha
 have := congrArg (·[0]?) ha
 simpa [List.getElem?_take, List.getElem?_drop] using this
theorem bind_el {fuel : Nat} {cs : List Value} {d : DataW H} {p : List MemPlace} (h : DataW.trod enc Tryz.prog w 0 (fun _ => true) true fuel 169 cs = some (d, p)) : ∃ x : Bd, (∀ f u, (enBd.cells x)[f]? = some u → f < enBd.sz ∧ cs[f]? = some u) ∧ (Lit.int .i64 x.st).wf = true := by
 obtain ⟨xs, n, -, -, -, hxl, hf⟩ := DataW.trod_struct Tryz.underlying169 h
 match xs, hxl with
 | [y0, y1], _ =>
   obtain ⟨a0, h0, w0⟩ := int_cell (hf 0 _ rfl) rfl
   obtain ⟨a1, h1, w1⟩ := int_cell (hf 1 _ rfl) rfl
   refine ⟨⟨a0, a1⟩, fun f u hu => ?_, w0⟩
   match f, hu with
   | 0, hu => exact ⟨Nat.zero_lt_succ _, h0.trans hu⟩
   | 1, hu => exact ⟨Nat.lt_succ_self _, h1.trans hu⟩
theorem node_el {fuel : Nat} {cs : List Value} {d : DataW H} {p : List MemPlace} (h : DataW.trod enc Tryz.prog w 0 (fun _ => true) true fuel 164 cs = some (d, p)) (hw : ∀ n ∈ d.weights Tryz.prog 164, n ≤ reachBytes) :
 ∃ x : Nd, (∀ f u, (enNd.cells x)[f]? = some u → f < enNd.sz ∧ cs[f]? = some u) ∧ x.name.size ≤ 140737488351232 := by
 obtain ⟨xs, n, -, hd, hcl, hxl, hf⟩ := DataW.trod_struct Tryz.underlying164 h
 simp only [Prod.mk.injEq] at hd
 obtain ⟨rfl, -⟩ := hd
 match xs, hxl with
 | [y0, y1, y2, y3, y4, y5, y6, y7], _ =>
   obtain ⟨a0, h0, -⟩ := int_cell (hf 0 _ rfl) rfl
   obtain ⟨a1, h1, -⟩ := int_cell (hf 1 _ rfl) rfl
   obtain ⟨a2, h2, -⟩ := int_cell (hf 2 _ rfl) rfl
   obtain ⟨a3, h3, -⟩ := int_cell (hf 3 _ rfl) rfl
   obtain ⟨a4, h4, -⟩ := int_cell (hf 4 _ rfl) rfl
   obtain ⟨a5, h5, -⟩ := int_cell (hf 5 _ rfl) rfl
   obtain ⟨zs, n', -, -, -, hzl, hg⟩ := DataW.trod_struct Tryz.underlying162 ((hf 6 _ rfl).trans (show [y0, y1, y2, y3, y4, y5, y6, y7][6]? = some (y6.1, y6.2) from rfl))
   match zs, hzl with
   | [z0, z1], _ =>
     obtain ⟨a6, h6, -⟩ := int_cell (hg 0 _ rfl) rfl
     obtain ⟨a7, h7, -⟩ := int_cell (hg 1 _ rfl) rfl
     obtain ⟨s, hs, hy, -⟩ := DataW.trod_string Tryz.underlying9 ((hf 7 _ rfl).trans (show [y0, y1, y2, y3, y4, y5, y6, y7][7]? = some y7 from rfl))
     have hs : (cs.drop 8).take (Tryz.prog.cellsOf 9) = [.string s] := hs
     have h6 : ((cs.drop 6).take (Tryz.prog.cellsOf 162))[0]? = some (.int .i64 a6) := h6
     have h7 : ((cs.drop 6).take (Tryz.prog.cellsOf 162))[1]? = some (.int .i64 a7) := h7
     rw [cells_str] at hs
     rw [cells_sort] at h6 h7
     have h8 : cs[8]? = some (.string s) := by
      have := congrArg (·[0]?) hs
      simpa [List.getElem?_take, List.getElem?_drop] using this
     have h6 : cs[6]? = some (.int .i64 a6) := by simpa [List.getElem?_take, List.getElem?_drop] using h6
     have h7 : cs[7]? = some (.int .i64 a7) := by simpa [List.getElem?_take, List.getElem?_drop] using h7
     refine ⟨⟨a0, a1, a2, a3, a4, a5, a6, a7, s⟩, fun f u hu => ?_, ?_⟩
     · match f, hu with
       | 0, hu => exact ⟨by decide, h0.trans hu⟩
       | 1, hu => exact ⟨by decide, h1.trans hu⟩
       | 2, hu => exact ⟨by decide, h2.trans hu⟩
       | 3, hu => exact ⟨by decide, h3.trans hu⟩
       | 4, hu => exact ⟨by decide, h4.trans hu⟩
       | 5, hu => exact ⟨by decide, h5.trans hu⟩
       | 6, hu => exact ⟨by decide, h6.trans hu⟩
       | 7, hu => exact ⟨by decide, h7.trans hu⟩
       | 8, hu => exact ⟨by decide, h8.trans hu⟩
     · have := hw s.data.toList.length (by
        simp only [DataW.weights, Tryz.underlying164]
        refine DataW.weights_mem_each (j := 7) (t := 9) (d := y7.1) rfl rfl _ ?_
        rw [hy]
        simp [DataW.weights])
       have h2 : reachBytes = 140737488351232 := rfl
       have h3 : s.data.toList.length = s.size := Array.length_toList
       show s.size ≤ _
       omega
theorem md_open {r : _root_.Go.Reach} {b0 : Nat} {v : Value} {d : DataW H} {p : List MemPlace} (hv : Value.okWide Tryz.prog w r b0 47 v) (h : DataW.Trod enc Tryz.prog w 0 (fun _ => true) true 47 v d p) (hw : ∀ n ∈ d.weights Tryz.prog 47, n ≤ reachBytes) :
 ∃ M : Md, MdAt w v M ∧ (∀ x, x ∈ M.nodes → x.name.size ≤ 140737488351232) ∧ (∀ b, b ∈ M.inits → (Lit.int .i64 b.st).wf = true) ∧ (∀ b, b ∈ M.nexts → (Lit.int .i64 b.st).wf = true) := by
 obtain ⟨cs, rfl, hsz⟩ := okWide_struct Tryz.underlying47 hv
 obtain ⟨l⟩ := cs
 match l, hsz.trans cells_mod with
 | [c0, c1, c2, c3, c4], _ =>
   obtain ⟨fuel, hf⟩ := h
   obtain ⟨xs, n, -, hd, -, hxl, hg⟩ := DataW.trod_struct Tryz.underlying47 hf
   have hd := congrArg Prod.fst hd
   have hd : d = .agg (xs.map (·.1)) := hd
   subst hd
   match xs, hxl with
   | [y0, y1, y2, y3, y4], _ =>
     have hwt : ∀ (j : Nat) t y, ([44, 45, 45, 25, 25] : List TypeId)[j]? = some t → ([y0.1, y1.1, y2.1, y3.1, y4.1] : List (DataW H))[j]? = some y → ∀ n ∈ y.weights Tryz.prog t, n ≤ reachBytes := fun j t y ht hy n hn => hw n (by
      show n ∈ DataW.weights Tryz.prog 47 (.agg [y0.1, y1.1, y2.1, y3.1, y4.1])
      rw [DataW.weights, Tryz.underlying47]
      exact DataW.weights_mem_each (j := j) ht hy n hn)
     have k0 : Tryz.prog.cellsOf 44 = 1 := by kernel_rfl
     have k1 : Tryz.prog.cellsOf 45 = 1 := by kernel_rfl
     have k2 : Tryz.prog.cellsOf 25 = 1 := by kernel_rfl
     obtain ⟨ns, hN, hn⟩ := slAt_of enNd (fun x => x.name.size ≤ 140737488351232) Tryz.underlying44 cells_node (by decide +kernel) (by decide) (fun _ _ _ _ h hw => node_el h hw) (d := y0.1) (p := y0.2) (v := c0) ((congrArg (DataW.trod enc Tryz.prog w 0 (fun _ => true) true n _) (one_cell (cs := [c0, c1, c2, c3, c4]) (k := 0) k0 rfl)).symm.trans (hg 0 _ rfl)) (hwt 0 _ _ rfl rfl)
     obtain ⟨is, hI, hi⟩ := slAt_of enBd (fun x => (Lit.int .i64 x.st).wf = true) Tryz.underlying45 cells_bind (by decide +kernel) (by decide) (fun _ _ _ _ h _ => bind_el h) (d := y1.1) (p := y1.2) (v := c1) ((congrArg (DataW.trod enc Tryz.prog w 0 (fun _ => true) true n _) (one_cell (cs := [c0, c1, c2, c3, c4]) (k := 1) k1 rfl)).symm.trans (hg 1 _ rfl)) (hwt 1 _ _ rfl rfl)
     obtain ⟨qs, hQ, hq⟩ := slAt_of enBd (fun x => (Lit.int .i64 x.st).wf = true) Tryz.underlying45 cells_bind (by decide +kernel) (by decide) (fun _ _ _ _ h _ => bind_el h) (d := y2.1) (p := y2.2) (v := c2) ((congrArg (DataW.trod enc Tryz.prog w 0 (fun _ => true) true n _) (one_cell (cs := [c0, c1, c2, c3, c4]) (k := 2) k1 rfl)).symm.trans (hg 2 _ rfl)) (hwt 2 _ _ rfl rfl)
     obtain ⟨bs, hB, -⟩ := slAt_of enI (fun _ => True) Tryz.underlying25 cells_int (by decide +kernel) (by decide) (fun _ _ _ _ h _ => int_el h) (d := y3.1) (p := y3.2) (v := c3) ((congrArg (DataW.trod enc Tryz.prog w 0 (fun _ => true) true n _) (one_cell (cs := [c0, c1, c2, c3, c4]) (k := 3) k2 rfl)).symm.trans (hg 3 _ rfl)) (hwt 3 _ _ rfl rfl)
     obtain ⟨hs, hH, -⟩ := slAt_of enI (fun _ => True) Tryz.underlying25 cells_int (by decide +kernel) (by decide) (fun _ _ _ _ h _ => int_el h) (d := y4.1) (p := y4.2) (v := c4) ((congrArg (DataW.trod enc Tryz.prog w 0 (fun _ => true) true n _) (one_cell (cs := [c0, c1, c2, c3, c4]) (k := 4) k2 rfl)).symm.trans (hg 4 _ rfl)) (hwt 4 _ _ rfl rfl)
     exact ⟨⟨ns, is, qs, bs, hs⟩, ⟨⟨c0, c1, c2, c3, c4, rfl, hN, hI, hQ, hB, hH⟩⟩, hn, hi, hq⟩
end
end Go.Proofs.YtbenebcphaiohaaGreat
