import Derived.Test.YtdojaijnejcoiaaGreatmc1
import Derived.Deep.Cut
import Derived.Deep.CutRange
import Derived.Deep.DeepCutAuto
import Derived.Test.YtdojaijnejcoiaaGreatmc0
import Derived.StillTail
import Derived.Deep.RegionHeld3
import Derived.LoopN
set_option linter.unusedVariables false
set_option linter.unusedSimpArgs false
set_option maxRecDepth 8000
set_option maxHeartbeats 16000000
namespace Go.Proofs.YtdojaijnejcoiaaGreat
open Go.RowKit
theorem in3536 (kd : Int) : inB kd 35 36 = (kd == 35 || kd == 36) := by
 by_cases h : kd = 35
 · subst h; rfl
 · by_cases h2 : kd = 36
   · subst h2; rfl
   · rw [inB_no (by omega), beq_eq_false_iff_ne.2 h, beq_eq_false_iff_ne.2 h2]; rfl
theorem bytes_inj' {a b : ByteArray} (h : a.toList = b.toList) : a = b := by
 rw [ByteArray.toList_eq, ByteArray.toList_eq] at h
 exact ByteArray.ext (Array.toList_inj.mp h)
theorem size_zero {s : ByteArray} (h : s.toList = []) : (s.size == 0) = true := by
 obtain rfl : s = ByteArray.empty := bytes_inj' (by rw [h, ByteArray.toList_eq]; rfl)
 rfl
theorem size_pos {s : ByteArray} (h : ¬ s.toList = []) : (s.size == 0) = false := by
 refine beq_eq_false_iff_ne.2 (fun e => h ?_)
 rw [ByteArray.toList_eq]
 exact List.eq_nil_of_length_eq_zero (by simpa using e)
theorem size_name {s : ByteArray} (h : nameB s = true) : (s.size == 0) = false := by
 unfold nameB at h
 rw [Bool.and_eq_true] at h
 have h1 := h.1
 by_cases h2 : 1 ≤ (s.size : Int) ∧ (s.size : Int) ≤ 8
 · exact beq_eq_false_iff_ne.2 (by omega)
 · rw [inB_no h2] at h1; cases h1
theorem l2Fields_calls (A : Option Addr) (n c : Nat) (x : Nd) (w : World) (hn : n ≤ 281474976710656) (hs : x.name.size ≤ 140737488351232) :
 Makes Tryz.prog 88 #[.slice A n c, .agg #[.int .i64 x.kind, .int .i64 x.a, .int .i64 x.b, .int .i64 x.c, .int .i64 x.n, .int .i64 x.m, .int .i64 x.idx, .int .i64 x.wid, .string x.name]] w (.bool (fieldsB n x)) := by
 by_cases hneg : partsN x.kind < 0
 · have HR := Lib.hid (fields_neg (len := n) hneg)
   go_enter Tryz.func88, Tryz.ntmps88
   go_wp2_with (go_at_call 46; refine (l2Parts_same _ _).mono ?_; rintro e w' ⟨rfl, rfl⟩)
   go_ret
   exact ⟨ret_eq (congrArg Value.bool HR.out.symm), by repeat (first | exact Below.refl _ _ | refine Below.alloc ?_ (by simp) _)⟩
 · have HREST := Lib.hid (fields_rest (len := n) hneg)
   have HPART := Lib.hid (show ∀ i, i < 3 → partB (partsN x.kind) n i (x.part i) = false → fieldsB n x = false from fun i hi h => fields_part hi h)
   go_enter Tryz.func88, Tryz.ntmps88
   go_wp2_with (go_at_call 46; refine (l2Parts_same _ _).mono ?_; rintro e w' ⟨rfl, rfl⟩)
   generalize hpk : partsN x.kind = pk at *
   have HPK := Lib.hid hpk
   clear hpk hneg
   go_loop [7] (fun i => ∃ k : Nat, k ≤ 3 ∧ i = .int .i64 k ∧ Hid (partsTo pk n x k)) (fun i => 3 - (intOf i).toNat)
   case atStart => exact ⟨0, Nat.zero_le _, rfl, Lib.hid (fun i hi => absurd hi (Nat.not_lt_zero _))⟩
   case round =>
    obtain ⟨k, hk, rfl, hto⟩ := hrel
    by_cases hlt : k < 3
    · have hgood : partB pk n k (x.part k) = true → Hid (partsTo pk n x (k + 1)) := fun h => Lib.hid (fun i hi => by
       rcases Nat.lt_or_ge i k with g | g
       · exact hto.out i g
       · obtain rfl : i = k := by omega
         exact h)
      have hbad : partB pk n k (x.part k) = false → Hid (fieldsB n x = false) := fun h => Lib.hid (HPART.out k hlt h)
      clear hto
      rcases (show k = 0 ∨ k = 1 ∨ k = 2 by omega) with rfl | rfl | rfl
      · by_cases h1 : (0 : Int) < pk
        · have h2 : ¬ pk ≤ (0 : Int) := by omega
          by_cases h3 : inB x.a 0 ((n : Int) - 1) = true
          · have HG := hgood (by unfold partB; rw [if_pos (by omega)]; exact h3)
            have HI := Lib.hid h3
            clear hgood hbad h3
            go_wp2_with (go_at_call 73; refine (l1In_same _ _ _ _).mono ?_; rintro e w' ⟨rfl, rfl⟩; rw [HI.out])
            go_round
            case rel => exact ⟨1, by omega, rfl, HG⟩
            case measure => simp [intOf]
          · have HI := Lib.hid (eq_false_of_ne_true h3)
            have HR := hbad (by unfold partB; rw [if_pos (by omega)]; exact HI.out)
            clear hgood hbad h3
            go_wp2_with (go_at_call 73; refine (l1In_same _ _ _ _).mono ?_; rintro e w' ⟨rfl, rfl⟩; rw [HI.out])
            go_ret
            exact ⟨ret_eq (congrArg Value.bool HR.out.symm), by repeat (first | exact Below.refl _ _ | refine Below.alloc ?_ (by simp) _)⟩
        · have h2 : pk ≤ (0 : Int) := by omega
          by_cases h3 : x.a = 0
          · have HG := hgood (by unfold partB; rw [if_neg (by omega)]; exact beq_iff_eq.2 h3)
            have h4 : (x.a != 0) = false := by rw [h3]; rfl
            clear hgood hbad h3
            go_wp2_with fail
            go_round
            case rel => exact ⟨1, by omega, rfl, HG⟩
            case measure => simp [intOf]
          · have h4 : (x.a != 0) = true := bne_iff_ne.2 h3
            have HR := hbad (by unfold partB; rw [if_neg (by omega)]; exact beq_eq_false_iff_ne.2 h3)
            clear hgood hbad h3
            go_wp2_with fail
            go_ret
            exact ⟨ret_eq (congrArg Value.bool HR.out.symm), by repeat (first | exact Below.refl _ _ | refine Below.alloc ?_ (by simp) _)⟩
      · by_cases h1 : (1 : Int) < pk
        · have h2 : ¬ pk ≤ (1 : Int) := by omega
          by_cases h3 : inB x.b 0 ((n : Int) - 1) = true
          · have HG := hgood (by unfold partB; rw [if_pos (by omega)]; exact h3)
            have HI := Lib.hid h3
            clear hgood hbad h3
            go_wp2_with (go_at_call 73; refine (l1In_same _ _ _ _).mono ?_; rintro e w' ⟨rfl, rfl⟩; rw [HI.out])
            go_round
            case rel => exact ⟨2, by omega, rfl, HG⟩
            case measure => simp [intOf]
          · have HI := Lib.hid (eq_false_of_ne_true h3)
            have HR := hbad (by unfold partB; rw [if_pos (by omega)]; exact HI.out)
            clear hgood hbad h3
            go_wp2_with (go_at_call 73; refine (l1In_same _ _ _ _).mono ?_; rintro e w' ⟨rfl, rfl⟩; rw [HI.out])
            go_ret
            exact ⟨ret_eq (congrArg Value.bool HR.out.symm), by repeat (first | exact Below.refl _ _ | refine Below.alloc ?_ (by simp) _)⟩
        · have h2 : pk ≤ (1 : Int) := by omega
          by_cases h3 : x.b = 0
          · have HG := hgood (by unfold partB; rw [if_neg (by omega)]; exact beq_iff_eq.2 h3)
            have h4 : (x.b != 0) = false := by rw [h3]; rfl
            clear hgood hbad h3
            go_wp2_with fail
            go_round
            case rel => exact ⟨2, by omega, rfl, HG⟩
            case measure => simp [intOf]
          · have h4 : (x.b != 0) = true := bne_iff_ne.2 h3
            have HR := hbad (by unfold partB; rw [if_neg (by omega)]; exact beq_eq_false_iff_ne.2 h3)
            clear hgood hbad h3
            go_wp2_with fail
            go_ret
            exact ⟨ret_eq (congrArg Value.bool HR.out.symm), by repeat (first | exact Below.refl _ _ | refine Below.alloc ?_ (by simp) _)⟩
      · by_cases h1 : (2 : Int) < pk
        · have h2 : ¬ pk ≤ (2 : Int) := by omega
          by_cases h3 : inB x.c 0 ((n : Int) - 1) = true
          · have HG := hgood (by unfold partB; rw [if_pos (by omega)]; exact h3)
            have HI := Lib.hid h3
            clear hgood hbad h3
            go_wp2_with (go_at_call 73; refine (l1In_same _ _ _ _).mono ?_; rintro e w' ⟨rfl, rfl⟩; rw [HI.out])
            go_round
            case rel => exact ⟨3, by omega, rfl, HG⟩
            case measure => simp [intOf]
          · have HI := Lib.hid (eq_false_of_ne_true h3)
            have HR := hbad (by unfold partB; rw [if_pos (by omega)]; exact HI.out)
            clear hgood hbad h3
            go_wp2_with (go_at_call 73; refine (l1In_same _ _ _ _).mono ?_; rintro e w' ⟨rfl, rfl⟩; rw [HI.out])
            go_ret
            exact ⟨ret_eq (congrArg Value.bool HR.out.symm), by repeat (first | exact Below.refl _ _ | refine Below.alloc ?_ (by simp) _)⟩
        · have h2 : pk ≤ (2 : Int) := by omega
          by_cases h3 : x.c = 0
          · have HG := hgood (by unfold partB; rw [if_neg (by omega)]; exact beq_iff_eq.2 h3)
            have h4 : (x.c != 0) = false := by rw [h3]; rfl
            clear hgood hbad h3
            go_wp2_with fail
            go_round
            case rel => exact ⟨3, by omega, rfl, HG⟩
            case measure => simp [intOf]
          · have h4 : (x.c != 0) = true := bne_iff_ne.2 h3
            have HR := hbad (by unfold partB; rw [if_neg (by omega)]; exact beq_eq_false_iff_ne.2 h3)
            clear hgood hbad h3
            go_wp2_with fail
            go_ret
            exact ⟨ret_eq (congrArg Value.bool HR.out.symm), by repeat (first | exact Below.refl _ _ | refine Below.alloc ?_ (by simp) _)⟩
    · obtain rfl : k = 3 := by omega
      have HR := Lib.hid (HREST.out hto.out)
      clear hto HPART HREST
      have c0 : ((w.alloc (Obj.cells #[.int .i64 x.kind, .int .i64 x.a, .int .i64 x.b, .int .i64 x.c, .int .i64 x.n, .int .i64 x.m, .int .i64 x.idx, .int .i64 x.wid, .string x.name] 46)).alloc (Obj.cells #[.int .i64 x.a, .int .i64 x.b, .int .i64 x.c] 3)).cell? ⟨w.heap.size, 0, none⟩ = some (.int .i64 x.kind) := by go_simp
      have c4 : ((w.alloc (Obj.cells #[.int .i64 x.kind, .int .i64 x.a, .int .i64 x.b, .int .i64 x.c, .int .i64 x.n, .int .i64 x.m, .int .i64 x.idx, .int .i64 x.wid, .string x.name] 46)).alloc (Obj.cells #[.int .i64 x.a, .int .i64 x.b, .int .i64 x.c] 3)).cell? ⟨w.heap.size, 4, none⟩ = some (.int .i64 x.n) := by go_simp
      have c5 : ((w.alloc (Obj.cells #[.int .i64 x.kind, .int .i64 x.a, .int .i64 x.b, .int .i64 x.c, .int .i64 x.n, .int .i64 x.m, .int .i64 x.idx, .int .i64 x.wid, .string x.name] 46)).alloc (Obj.cells #[.int .i64 x.a, .int .i64 x.b, .int .i64 x.c] 3)).cell? ⟨w.heap.size, 5, none⟩ = some (.int .i64 x.m) := by go_simp
      have c7 : ((w.alloc (Obj.cells #[.int .i64 x.kind, .int .i64 x.a, .int .i64 x.b, .int .i64 x.c, .int .i64 x.n, .int .i64 x.m, .int .i64 x.idx, .int .i64 x.wid, .string x.name] 46)).alloc (Obj.cells #[.int .i64 x.a, .int .i64 x.b, .int .i64 x.c] 3)).cell? ⟨w.heap.size, 8, none⟩ = some (.string x.name) := by go_simp
      have HB := Lib.hid (show Below w.heap.size w ((w.alloc (Obj.cells #[.int .i64 x.kind, .int .i64 x.a, .int .i64 x.b, .int .i64 x.c, .int .i64 x.n, .int .i64 x.m, .int .i64 x.idx, .int .i64 x.wid, .string x.name] 46)).alloc (Obj.cells #[.int .i64 x.a, .int .i64 x.b, .int .i64 x.c] 3)) from (box_below _ _ _).alloc (by simp) _)
      generalize ((w.alloc (Obj.cells #[.int .i64 x.kind, .int .i64 x.a, .int .i64 x.b, .int .i64 x.c, .int .i64 x.n, .int .i64 x.m, .int .i64 x.idx, .int .i64 x.wid, .string x.name] 46)).alloc (Obj.cells #[.int .i64 x.a, .int .i64 x.b, .int .i64 x.c] 3)) = w1 at *
      generalize hfr : fieldsB n x = R at HR
      have HFR := Lib.hid hfr
      clear hfr
      unfold nameOkB mOkB nOkB at HR
      generalize x.kind = kd at *
      generalize x.name = nm at *
      generalize x.m = xm at *
      generalize x.n = xn at *
      go_upto_region 10 with fail
      go_cut [8] (fun c wx => c = .bool (kd == 35 || kd == 36) ∧ wx = w1)
      case first =>
       by_cases h35 : (kd == 35) = true
       · have HW := Lib.hid (show (kd == 35 || kd == 36) = true by rw [h35]; rfl)
         go_wp2
         go_meet
         case rel => exact ⟨congrArg Value.bool HW.out.symm, rfl⟩
       · have h35 := eq_false_of_ne_true h35
         by_cases h36 : (kd == 36) = true
         · have HW := Lib.hid (show (kd == 35 || kd == 36) = true by rw [h36, h35]; rfl)
           go_wp2
           go_meet
           case rel => exact ⟨congrArg Value.bool HW.out.symm, rfl⟩
         · have h36 := eq_false_of_ne_true h36
           have HW := Lib.hid (show (kd == 35 || kd == 36) = false by rw [h36, h35]; rfl)
           go_wp2
           go_meet
           case rel => exact ⟨congrArg Value.bool HW.out.symm, rfl⟩
      case rest =>
       obtain ⟨rfl, rfl⟩ := hcut
       have HK := Lib.hid (show inB kd 35 36 = (kd == 35 || kd == 36) from in3536 kd)
       generalize (kd == 35 || kd == 36) = nd at *
       rw [HK.out] at HR
       clear HPK HK hk hlt
       obtain ⟨bn, hbn⟩ : ∃ b, b = nameB nm := ⟨_, rfl⟩
       have HBN := Lib.hid hbn.symm
       clear hbn
       rw [HBN.out] at HR
       obtain ⟨nok, hnok⟩ : ∃ b, b = (if nd = true then bn else nm.size == 0) := ⟨_, rfl⟩
       rw [← hnok] at HR
       have HNOK := Lib.hid hnok
       clear hnok
       go_upto_region 11 with fail
       go_cut [72] (fun c wx => c = .bool (!nok) ∧ wx = wc)
       case first =>
        cases nd <;> cases bn
        · by_cases hz : nm.toList = []
          · have HW := Lib.hid (show (!nok) = false by rw [HNOK.out, if_neg Bool.false_ne_true, size_zero hz]; rfl)
            go_wp2_with (go_at_call 97; refine (l2Name_same _ _ hs).mono ?_; rintro e w' ⟨rfl, rfl⟩; rw [HBN.out])
            go_meet
            case rel => exact ⟨congrArg Value.bool HW.out.symm, rfl⟩
          · have hz2 : nm.toList.isEmpty = false := by simpa using hz
            have HW := Lib.hid (show (!nok) = true by rw [HNOK.out, if_neg Bool.false_ne_true, size_pos hz]; rfl)
            go_wp2_with (go_at_call 97; refine (l2Name_same _ _ hs).mono ?_; rintro e w' ⟨rfl, rfl⟩; rw [HBN.out])
            go_meet
            case rel => exact ⟨congrArg Value.bool HW.out.symm, rfl⟩
        · have HW := Lib.hid (show (!nok) = true by rw [HNOK.out, if_neg Bool.false_ne_true, size_name HBN.out]; rfl)
          go_wp2_with (go_at_call 97; refine (l2Name_same _ _ hs).mono ?_; rintro e w' ⟨rfl, rfl⟩; rw [HBN.out])
          go_meet
          case rel => exact ⟨congrArg Value.bool HW.out.symm, rfl⟩
        · have HW := Lib.hid (show (!nok) = true by rw [HNOK.out]; rfl)
          go_wp2_with (go_at_call 97; refine (l2Name_same _ _ hs).mono ?_; rintro e w' ⟨rfl, rfl⟩; rw [HBN.out])
          go_meet
          case rel => exact ⟨congrArg Value.bool HW.out.symm, rfl⟩
        · have HW := Lib.hid (show (!nok) = false by rw [HNOK.out]; rfl)
          go_wp2_with (go_at_call 97; refine (l2Name_same _ _ hs).mono ?_; rintro e w' ⟨rfl, rfl⟩; rw [HBN.out])
          go_meet
          case rel => exact ⟨congrArg Value.bool HW.out.symm, rfl⟩
       case rest =>
        obtain ⟨rfl, rfl⟩ := hcut
        clear HNOK HBN
        cases nok
        · have HR2 := Lib.hid (show R = false by rw [HR.out]; rfl)
          clear HR
          go_wp2
          go_ret
          exact ⟨ret_eq (congrArg Value.bool (HFR.out.trans HR2.out).symm), HB.out⟩
        · have HR2 := Lib.hid (show R = ((kd == 30 || xm == 0) && (xn == 0 || (kd == 30 || kd == 31 || kd == 32 || kd == 34))) by rw [HR.out]; rfl)
          clear HR
          go_upto_region 13 with fail
          obtain ⟨mok, hmok⟩ : ∃ b, b = (kd == 30 || xm == 0) := ⟨_, rfl⟩
          obtain ⟨nok, hnok⟩ : ∃ b, b = (xn == 0 || (kd == 30 || kd == 31 || kd == 32 || kd == 34)) := ⟨_, rfl⟩
          have HMOK := Lib.hid hmok
          have HNOK := Lib.hid hnok
          rw [← hmok, ← hnok] at HR2
          clear hmok hnok
          go_cut [80] (fun c wx => c = .bool (!mok) ∧ wx = wc)
          case first =>
           by_cases h30 : (kd == 30) = true
           · have h30' : (kd != 30) = false := by rw [bne, h30]; rfl
             have HW := Lib.hid (show (!mok) = false by rw [HMOK.out, h30]; rfl)
             go_wp2
             go_meet
             case rel => exact ⟨congrArg Value.bool HW.out.symm, rfl⟩
           · have h30 := eq_false_of_ne_true h30
             have h30' : (kd != 30) = true := by rw [bne, h30]; rfl
             by_cases hx : (xm == 0) = true
             · have hx' : (xm != 0) = false := by rw [bne, hx]; rfl
               have HW := Lib.hid (show (!mok) = false by rw [HMOK.out, h30, hx]; rfl)
               go_wp2
               go_meet
               case rel => exact ⟨congrArg Value.bool HW.out.symm, rfl⟩
             · have hx := eq_false_of_ne_true hx
               have hx' : (xm != 0) = true := by rw [bne, hx]; rfl
               have HW := Lib.hid (show (!mok) = true by rw [HMOK.out, h30, hx]; rfl)
               go_wp2
               go_meet
               case rel => exact ⟨congrArg Value.bool HW.out.symm, rfl⟩
          case rest =>
           obtain ⟨rfl, rfl⟩ := hcut
           clear HMOK
           cases mok
           · have HR3 := Lib.hid (show R = false by rw [HR2.out]; rfl)
             clear HR2
             go_wp2
             go_ret
             exact ⟨ret_eq (congrArg Value.bool (HFR.out.trans HR3.out).symm), HB.out⟩
           · have HR3 := Lib.hid (show R = nok by rw [HR2.out]; rfl)
             clear HR2
             by_cases h0 : (xn == 0) = true
             · have HN := Lib.hid (show nok = true by rw [HNOK.out, h0]; rfl)
               go_wp2
               go_ret
               exact ⟨ret_eq (congrArg Value.bool (HFR.out.trans (HR3.out.trans HN.out)).symm), HB.out⟩
             · have h0 := eq_false_of_ne_true h0
               by_cases h30 : (kd == 30) = true
               · have HN := Lib.hid (show nok = true by rw [HNOK.out, h0, h30]; rfl)
                 go_wp2
                 go_ret
                 exact ⟨ret_eq (congrArg Value.bool (HFR.out.trans (HR3.out.trans HN.out)).symm), HB.out⟩
               · have h30 := eq_false_of_ne_true h30
                 by_cases h31 : (kd == 31) = true
                 · have HN := Lib.hid (show nok = true by rw [HNOK.out, h0, h30, h31]; rfl)
                   go_wp2
                   go_ret
                   exact ⟨ret_eq (congrArg Value.bool (HFR.out.trans (HR3.out.trans HN.out)).symm), HB.out⟩
                 · have h31 := eq_false_of_ne_true h31
                   by_cases h32 : (kd == 32) = true
                   · have HN := Lib.hid (show nok = true by rw [HNOK.out, h0, h30, h31, h32]; rfl)
                     go_wp2
                     go_ret
                     exact ⟨ret_eq (congrArg Value.bool (HFR.out.trans (HR3.out.trans HN.out)).symm), HB.out⟩
                   · have h32 := eq_false_of_ne_true h32
                     by_cases h34 : (kd == 34) = true
                     · have HN := Lib.hid (show nok = true by rw [HNOK.out, h0, h30, h31, h32, h34]; rfl)
                       go_wp2
                       go_ret
                       exact ⟨ret_eq (congrArg Value.bool (HFR.out.trans (HR3.out.trans HN.out)).symm), HB.out⟩
                     · have h34 := eq_false_of_ne_true h34
                       have HN := Lib.hid (show nok = false by rw [HNOK.out, h0, h30, h31, h32, h34]; rfl)
                       go_wp2
                       go_ret
                       exact ⟨ret_eq (congrArg Value.bool (HFR.out.trans (HR3.out.trans HN.out)).symm), HB.out⟩
end Go.Proofs.YtdojaijnejcoiaaGreat
namespace Go.Proofs.YtdojaijnejcoiaaGreat
open Go.RowKit
section
variable {P : Program} {ops : Array Oper} {C : World → Prop} {n : Nat}
def HeadQ (P : Program) (ops : Array Oper) (C : World → Prop) (n : Nat) (L : Array Bool → Act → Prop) : Nat → Array Bool → Act → Prop
 | 0, done, a => L done a
 | k + 1, done, a => Region.ready .any ops done ≠ [] ∧ ∀ i ∈ Region.ready .any ops done, i < n ∧ qOp P ops C i (HeadQ P ops C n L k (done.setIfInBounds i true)) a
theorem HeadQ.run {g : Nat} {L : Array Bool → Act → Prop} {Q : Exit → Act → World → Prop} (hL : ∀ done a w, C w → L done a → wpAny P .any ops Q g done a w) (k : Nat) :
 ∀ (done : Array Bool) (a : Act) (w : World), C w → HeadQ P ops C n L k done a → wpAny P .any ops Q (k + g) done a w := by
 induction k with
 | zero => intro done a w hw h; rw [Nat.zero_add]; exact hL _ _ _ hw h
 | succ k ih =>
   intro done a w hw h
   rw [show k + 1 + g = (k + g) + 1 by omega]
   exact ⟨fun e => absurd e h.1, fun i hi => wpOp_of_qOp hw (fun a' w' hw' h' => ih _ a' w' hw' h') (h.2 i hi).2⟩
theorem HeadQ.first {i : Nat} {oi : Oper} {v : Value} {L : Array Bool → Act → Prop} (hi : ops[i]? = some oi) (hsel : Region.noSelect ops = true)
 (hs : Region.sinkB .any ops n = true) (hc : Region.chainB .any ops n = true) (hn : n < ops.size) (hin : i < n)
 (hend : ∀ done a, L done a → ∀ j ∈ Region.ready .any ops done, n ≤ j) (k : Nat) :
 ∀ (done : Array Bool) (a : Act), HeadInv .any ops n done →
  (∀ j oj, ops[j]? = some oj → j ≠ i → done.getD j true = false → (∀ e ∈ oj.after, Region.binds .any e = true → e.on ≠ i) → oi.apart ops oj = true) →
  i ∈ Region.ready .any ops done → YieldsIn P ops C oi v a →
  HeadQ P ops C n L k (done.setIfInBounds i true) (a.put oi.dst v) → HeadQ P ops C n L (k + 1) done a := by
 have low : ∀ done, HeadInv .any ops n done → i ∈ Region.ready .any ops done → ∀ j ∈ Region.ready .any ops done, j < n := fun done inv hr j hj =>
  Nat.lt_of_not_le (fun h => tail_waits hs hc hn inv _ i rfl hin (mem_ready.1 hr).1 j h hj)
 induction k with
 | zero =>
   intro done a inv _ hr hy H
   refine ⟨fun e => by rw [e] at hr; exact (List.not_mem_nil hr).elim, fun j hj => ⟨low done inv hr j hj, ?_⟩⟩
   rcases Nat.decEq j i with e | e
   · exact absurd (hend _ _ H j (ready_mono hj e)) (Nat.not_le_of_lt (low done inv hr j hj))
   · subst e; exact hy.qOp hi H
 | succ k ih =>
   intro done a inv hfree hr hy H
   refine ⟨fun e => by rw [e] at hr; exact (List.not_mem_nil hr).elim, fun j hj => ⟨low done inv hr j hj, ?_⟩⟩
   rcases Nat.decEq j i with e | e
   · obtain ⟨hju, oj, hoj, hall⟩ := mem_ready.1 hj
     have hno : ∀ e ∈ oj.after, Region.binds .any e = true → e.on ≠ i := fun d hd hb heq => by
      have h1 := hall d hd hb
      rw [heq, getD_both (mem_ready.1 hr).1] at h1
      cases h1
     refine qOp_mono (fun a' h3 => ih _ a' (inv.set hj (low done inv hr j hj)) (fun m om hm hmi hmu hmn => hfree m om hm hmi ?_ hmn) (ready_mono hr (Ne.symm e)) h3.1 ?_)
      (qOp_put hoj (hfree j oj hoj e hju hno) (fun cs b => Region.noSelect_spec hsel i oi cs b hi) (fun cs b => Region.noSelect_spec hsel j oj cs b hoj) hy (H.2 j (ready_mono hj e)).2)
     · rcases Nat.decEq j m with f | f
       · rw [getD_set_ne true f] at hmu; exact hmu
       · subst f; exact hju
     · rw [Array.setIfInBounds_comm _ _ e]; exact h3.2
   · subst e; exact hy.qOp hi H
theorem HeadQ.lex {g : Nat} {Lq : Act → Prop} (hsel : Region.noSelect ops = true) (hs : Region.sinkB .any ops n = true) (hc : Region.chainB .any ops n = true) (hn : n < ops.size) :
 ∀ (l : List Oper) (k : Nat) (done : Array Bool) (a : Act), (∀ j, j < l.length → l[j]? = ops[k + j]?) → k + l.length = n → HeadInv .any ops n done →
 Region.lexHead .any ops g l.length k done = true → wpQuiet P ops C Lq l a →
 HeadQ P ops C n (fun d a' => Region.seqB .any ops g n d = true ∧ Lq a') l.length done a
 | [], k, done, a, _, hk, _, hB, h => by
   obtain rfl : k = n := by simpa using hk
   exact ⟨by simpa [Region.lexHead] using hB, h⟩
 | o :: l, k, done, a, hl, hk, inv, hB, h => by
   have h0 : ops[k]? = some o := by simpa using (hl 0 (by simp)).symm
   simp only [List.length_cons, Region.lexHead, Bool.and_eq_true] at hB hk
   have hr : k ∈ Region.ready .any ops done := by simpa using hB.1.1
   have hq : qOp P ops C k (wpQuiet P ops C Lq l) a := by unfold qOp; simp only [h0]; exact h
   obtain ⟨v, hy, hK⟩ := yieldsIn_of_qOp h0 hq
   refine HeadQ.first h0 hsel hs hc hn (by omega) (fun d a' hL => seqB_ready hL.1) l.length done a inv (Region.free_spec h0 hB.1.2) hr hy
    (HeadQ.lex hsel hs hc hn l (k + 1) _ _ (fun j hj => ?_) (by omega) (inv.set hr (by omega)) hB.2 hK)
   have := hl (j + 1) (by simp; omega)
   simpa [Nat.add_assoc, Nat.add_comm 1 j] using this
theorem wp_region_quiet_tail {id : Nat} {Q : Exit → Act → World → Prop} {a : Act} {w : World} {l : List Oper} (n : Nat) (hm : P.follows .mixedOrders = true) (hB : Region.lexTailB .any l.toArray n = true) (hC : C { w with drawn := w.drawn + 1 })
 (h : wpQuiet P l.toArray C (fun a' => ∀ w', C w' → wpList P l.toArray Q (l.drop n) a' w') (l.take n) a) : (Code.region id l.toArray true).wp P Q a w := by
 simp only [Region.lexTailB, Bool.and_eq_true, decide_eq_true_eq] at hB
 obtain ⟨⟨⟨⟨hsel, hn⟩, hs⟩, hc⟩, hlex⟩ := hB
 have hlen : n < l.length := by simpa using hn
 have ht : (l.take n).length = n := by simp; omega
 have hd : (l.drop n).length = l.toArray.size - n := by simp
 have inv : HeadInv .any l.toArray n (Array.replicate l.toArray.size false) :=
  ⟨by simp, fun j oj _ hl => (by rw [getD_replicate_false] at hl; cases hl), fun t _ h => getD_in (by simpa using h) (getD_replicate_false _ _)⟩
 have H := HeadQ.lex (g := l.toArray.size - n) hsel hs hc hn (l.take n) 0 _ a (fun j hj => by
  have hj' : j < n := by rw [ht] at hj; exact hj
  simp [hj']) (by simpa using ht) inv (by rw [ht]; exact hlex) h
 refine wp_region_any hm ?_
 have := HeadQ.run (Q := Q) (g := l.toArray.size - n) (fun d a' w' hw hL => by
  have := wpAny_of_seq (md := .any) (Q' := Q) (l.drop n) n d a' w' (fun j => by simp [List.getElem?_drop]) (by rw [hd]; exact hL.1) (hL.2 w' hw)
  rwa [hd] at this) _ _ _ _ hC H
 rw [ht, show n + (l.toArray.size - n) = l.toArray.size by omega] at this
 exact this
theorem wp_region_later_tail {id : Nat} {Q : Exit → Act → World → Prop} {a : Act} {w w0 : World} {l : List Oper} (n : Nat) (hm : P.follows .mixedOrders = true) (hB : Region.lexTailB .any l.toArray n = true) (hw : LaterC w0 w)
 (h : wpQuiet P l.toArray (fun w' => ∃ u : Later w0, w' = u.val) (fun a' => ∀ w', (∃ u : Later w0, w' = u.val) → wpList P l.toArray Q (l.drop n) a' w') (l.take n) a) : (Code.region id l.toArray true).wp P Q a w :=
 wp_region_quiet_tail (C := LaterC w0) n hm hB (by obtain ⟨u, rfl⟩ := hw; exact u.drew) h
end
end Go.Proofs.YtdojaijnejcoiaaGreat
namespace Go.Proofs.YtdojaijnejcoiaaGreat
open Go.RowKit
section
variable {P : Program} {ops : Array Oper} {D : Bool → World → Prop} {n : Nat}
def GoesTo (P : Program) (C : World → Prop) (v : Value) : Result Next → Prop
 | .ok (.value u) w' => C w' ∧ u = v
 | .ok .skip w' => C w' ∧ v = undef
 | .ok (.enter f args) w' => Calls P f args w' (fun e w'' => e = .returned v ∧ C w'')
 | _ => False
theorem GoesTo.of_quiet {C : World → Prop} {w : World} {v : Value} {r : Result Next} (hw : C w) (h : Oper.quietUpon P C w v r) : GoesTo P C v r := by
 cases r with
 | halt x w' => exact h.elim
 | ok x w' =>
   cases x <;> first | exact h.elim | skip
   case value u => obtain ⟨rfl, e⟩ := h; exact ⟨hw, e⟩
   case skip => obtain ⟨rfl, e⟩ := h; exact ⟨hw, e⟩
   case enter f args => obtain ⟨rfl, e⟩ := h; exact e
def Gives (P : Program) (D : Bool → World → Prop) (n i : Nat) (o : Oper) (v : Value) (a : Act) : Prop :=
 ∀ b w, (i = n → b = false) → D b w → GoesTo P (D (b || i == n)) v ((execOp a.eval o).run P w)
def gOp (P : Program) (ops : Array Oper) (D : Bool → World → Prop) (n i : Nat) (K : Act → Prop) (a : Act) : Prop :=
 match ops[i]? with
 | none => False
 | some o => if Region.wanted o (yielded ops a.tmps) then ∃ v, Gives P D n i o v a ∧ K (a.put o.dst v) else i ≠ n ∧ K (a.put o.dst undef)
def HeadG (P : Program) (ops : Array Oper) (D : Bool → World → Prop) (n : Nat) (L : Array Bool → Act → Prop) : Nat → Array Bool → Act → Prop
 | 0, done, a => L done a
 | k + 1, done, a => Region.ready .any ops done ≠ [] ∧ ∀ i ∈ Region.ready .any ops done, i < n + 1 ∧ gOp P ops D n i (HeadG P ops D n L k (done.setIfInBounds i true)) a
def Yields (P : Program) (ops : Array Oper) (D : Bool → World → Prop) (n i : Nat) (o : Oper) (v : Value) (a : Act) : Prop :=
 (Region.wanted o (yielded ops a.tmps) = true ∧ Gives P D n i o v a) ∨ (Region.wanted o (yielded ops a.tmps) = false ∧ i ≠ n ∧ v = undef)
theorem Yields.gOp {i : Nat} {o : Oper} {v : Value} {a : Act} {K : Act → Prop} (hi : ops[i]? = some o) (hy : Yields P ops D n i o v a) (h : K (a.put o.dst v)) : gOp P ops D n i K a := by
 unfold Go.Proofs.YtdojaijnejcoiaaGreat.gOp
 simp only [hi]
 rcases hy with ⟨hw, hv⟩ | ⟨hw, hn, rfl⟩
 · simp only [hw, if_true]; exact ⟨v, hv, h⟩
 · simp only [hw, Bool.false_eq_true, if_false]; exact ⟨hn, h⟩
theorem gOp_mono {i : Nat} {K K' : Act → Prop} {a : Act} (h : ∀ a, K a → K' a) (hh : gOp P ops D n i K a) : gOp P ops D n i K' a := by
 unfold gOp at *
 cases ho : ops[i]? with
 | none => simp only [ho] at hh
 | some o =>
   simp only [ho] at hh ⊢
   by_cases hw : Region.wanted o (yielded ops a.tmps) = true
   · simp only [hw, if_true] at hh ⊢; obtain ⟨v, h1, h2⟩ := hh; exact ⟨v, h1, h _ h2⟩
   · simp only [hw] at hh ⊢; exact ⟨hh.1, h _ hh.2⟩
theorem yields_of_gOp {i : Nat} {o : Oper} {K : Act → Prop} {a : Act} (hi : ops[i]? = some o) (h : gOp P ops D n i K a) : ∃ v, Yields P ops D n i o v a ∧ K (a.put o.dst v) := by
 unfold gOp at h
 simp only [hi] at h
 by_cases hw : Region.wanted o (yielded ops a.tmps) = true
 · simp only [hw, if_true] at h; obtain ⟨v, h1, h2⟩ := h; exact ⟨v, .inl ⟨hw, h1⟩, h2⟩
 · simp only [hw] at h; exact ⟨undef, .inr ⟨by simpa using hw, h.1, rfl⟩, h.2⟩
theorem Yields.same {i : Nat} {o : Oper} {v : Value} {a a' : Act} (hy : Yields P ops D n i o v a) (he : execOp a'.eval o = execOp a.eval o) (hw : Region.wanted o (yielded ops a'.tmps) = Region.wanted o (yielded ops a.tmps)) : Yields P ops D n i o v a' := by
 unfold Yields Gives at *
 rw [he, hw]
 exact hy
theorem gOp_put {i j : Nat} {oi oj : Oper} {v : Value} (hj : ops[j]? = some oj) (hap : oi.apart ops oj = true) (hsi : ∀ cs b, oi.op ≠ .select cs b) (hsj : ∀ cs b, oj.op ≠ .select cs b)
 {K : Act → Prop} {a : Act} (hy : Yields P ops D n i oi v a) (h : gOp P ops D n j K (a.put oi.dst v)) : gOp P ops D n j (fun a' => Yields P ops D n i oi v a' ∧ K (a'.put oi.dst v)) a := by
 obtain ⟨h1, h2, h3⟩ := Oper.apart_spec hap
 obtain ⟨u, hu, hK⟩ := yields_of_gOp hj h
 refine Yields.gOp hj (v := u) ?_ ⟨hy.same (execOp_put oi hsi a oj.dst u h3) (wanted_put oi a oj.dst u h3), by rw [← Act.put_comm a v u h2]; exact hK⟩
 exact hu.same (execOp_put oj hsj a oi.dst v h1).symm (wanted_put oj a oi.dst v h1).symm
theorem HeadG.run {g : Nat} {L : Array Bool → Act → Prop} {Q : Exit → Act → World → Prop} (hL : ∀ done a w, D (done.getD n false) w → L done a → wpAny P .any ops Q g done a w) (k : Nat) :
 ∀ (done : Array Bool) (a : Act) (w : World), D (done.getD n false) w → HeadG P ops D n L k done a → wpAny P .any ops Q (k + g) done a w := by
 induction k with
 | zero => intro done a w hw h; rw [Nat.zero_add]; exact hL _ _ _ hw h
 | succ k ih =>
   intro done a w hw h
   rw [show k + 1 + g = (k + g) + 1 by omega]
   refine ⟨fun e => absurd e h.1, fun i hi => ?_⟩
   obtain ⟨hun, o, ho, -⟩ := mem_ready.1 hi
   have hg := (h.2 i hi).2
   have hidx : (done.setIfInBounds i true).getD n false = (done.getD n false || i == n) := by
    rcases Nat.decEq i n with e | e
    · rw [getD_set_ne false e, beq_eq_false_iff_ne.2 e, Bool.or_false]
    · subst e
      have hlt : i < done.size := by
       rcases Nat.lt_or_ge i done.size with g | g
       · exact g
       · simp [Array.getElem?_eq_none g] at hun
      simp [hlt]
   unfold gOp at hg
   unfold wpOp
   simp only [ho] at hg ⊢
   by_cases hwt : Region.wanted o (yielded ops a.tmps) = true
   · simp only [hwt, if_true] at hg ⊢
     left
     obtain ⟨v, h1, h2⟩ := hg
     have h3 := h1 (done.getD n false) w (fun e => by subst e; exact getD_both hun) hw
     rw [← hidx] at h3
     unfold Oper.wp
     generalize (execOp a.eval o).run P w = r at h3
     cases r with
     | halt x w' => exact h3.elim
     | ok x w' =>
       cases x <;> first | exact h3.elim | skip
       case value u => obtain ⟨e1, rfl⟩ := h3; exact ih _ _ _ e1 h2
       case skip => obtain ⟨e1, rfl⟩ := h3; exact ih _ _ _ e1 h2
       case enter f args => exact Calls.mono h3 (fun e w'' ⟨he, hw''⟩ => by subst he; exact ih _ _ _ hw'' h2)
   · simp only [hwt] at hg ⊢
     rw [if_neg (by simp)]
     refine ih _ _ _ ?_ hg.2
     rw [hidx, beq_eq_false_iff_ne.2 hg.1, Bool.or_false]
     exact hw
theorem HeadG.first {i : Nat} {oi : Oper} {v : Value} {L : Array Bool → Act → Prop} (hi : ops[i]? = some oi) (hsel : Region.noSelect ops = true)
 (hs : Region.sinkB .any ops (n + 1) = true) (hc : Region.chainB .any ops (n + 1) = true) (hn : n + 1 < ops.size) (hin : i < n + 1)
 (hend : ∀ done a, L done a → ∀ j ∈ Region.ready .any ops done, n + 1 ≤ j) (k : Nat) :
 ∀ (done : Array Bool) (a : Act), HeadInv .any ops (n + 1) done →
  (∀ j oj, ops[j]? = some oj → j ≠ i → done.getD j true = false → (∀ e ∈ oj.after, Region.binds .any e = true → e.on ≠ i) → oi.apart ops oj = true) →
  i ∈ Region.ready .any ops done → Yields P ops D n i oi v a →
  HeadG P ops D n L k (done.setIfInBounds i true) (a.put oi.dst v) → HeadG P ops D n L (k + 1) done a := by
 have low : ∀ done, HeadInv .any ops (n + 1) done → i ∈ Region.ready .any ops done → ∀ j ∈ Region.ready .any ops done, j < n + 1 := fun done inv hr j hj =>
  Nat.lt_of_not_le (fun h => tail_waits hs hc hn inv _ i rfl hin (mem_ready.1 hr).1 j h hj)
 induction k with
 | zero =>
   intro done a inv _ hr hy H
   refine ⟨fun e => by rw [e] at hr; exact (List.not_mem_nil hr).elim, fun j hj => ⟨low done inv hr j hj, ?_⟩⟩
   rcases Nat.decEq j i with e | e
   · exact absurd (hend _ _ H j (ready_mono hj e)) (Nat.not_le_of_lt (low done inv hr j hj))
   · subst e; exact hy.gOp hi H
 | succ k ih =>
   intro done a inv hfree hr hy H
   refine ⟨fun e => by rw [e] at hr; exact (List.not_mem_nil hr).elim, fun j hj => ⟨low done inv hr j hj, ?_⟩⟩
   rcases Nat.decEq j i with e | e
   · obtain ⟨hju, oj, hoj, hall⟩ := mem_ready.1 hj
     have hno : ∀ e ∈ oj.after, Region.binds .any e = true → e.on ≠ i := fun d hd hb heq => by
      have h1 := hall d hd hb
      rw [heq, getD_both (mem_ready.1 hr).1] at h1
      cases h1
     refine gOp_mono (fun a' h3 => ih _ a' (inv.set hj (low done inv hr j hj)) (fun m om hm hmi hmu hmn => hfree m om hm hmi ?_ hmn) (ready_mono hr (Ne.symm e)) h3.1 ?_)
      (gOp_put hoj (hfree j oj hoj e hju hno) (fun cs b => Region.noSelect_spec hsel i oi cs b hi) (fun cs b => Region.noSelect_spec hsel j oj cs b hoj) hy (H.2 j (ready_mono hj e)).2)
     · rcases Nat.decEq j m with f | f
       · rw [getD_set_ne true f] at hmu; exact hmu
       · subst f; exact hju
     · rw [Array.setIfInBounds_comm _ _ e]; exact h3.2
   · subst e; exact hy.gOp hi H
def LexG (P : Program) (ops : Array Oper) (D : Bool → World → Prop) (n : Nat) (Q : Act → Prop) : Nat → Nat → Act → Prop
 | 0, _, a => Q a
 | m + 1, k, a => gOp P ops D n k (LexG P ops D n Q m (k + 1)) a
theorem HeadG.lex {g : Nat} {Lq : Act → Prop} (hsel : Region.noSelect ops = true) (hs : Region.sinkB .any ops (n + 1) = true) (hc : Region.chainB .any ops (n + 1) = true) (hn : n + 1 < ops.size) (m : Nat) :
 ∀ (k : Nat) (done : Array Bool) (a : Act), k + m = n + 1 → HeadInv .any ops (n + 1) done → Region.lexHead .any ops g m k done = true → LexG P ops D n Lq m k a →
 HeadG P ops D n (fun d a' => Region.seqB .any ops g (n + 1) d = true ∧ Lq a') m done a := by
 induction m with
 | zero =>
   intro k done a hk inv hB h
   obtain rfl : k = n + 1 := by omega
   exact ⟨by simpa [Region.lexHead] using hB, h⟩
 | succ m ih =>
   intro k done a hk inv hB h
   simp only [Region.lexHead, Bool.and_eq_true] at hB
   have hr : k ∈ Region.ready .any ops done := by simpa using hB.1.1
   obtain ⟨-, o, h0, -⟩ := mem_ready.1 hr
   obtain ⟨v, hy, hK⟩ := yields_of_gOp h0 h
   exact HeadG.first h0 hsel hs hc hn (by omega) (fun d a' hL => seqB_ready hL.1) m done a inv (Region.free_spec h0 hB.1.2) hr hy
    (ih (k + 1) _ _ (by omega) (inv.set hr (by omega)) hB.2 hK)
def ownDst (s : Nat) : List Oper → Bool
 | [] => true
 | o :: r => (match o.dst with | some d => decide (d < s) && r.all (fun p => p.dst != some d) | none => false) && ownDst s r
theorem read_back {C : World → Prop} {A : Act} {d : Nat} : ∀ (l : List Oper) (a : Act), (l.all fun p => p.dst != some d) = true → wpQuiet P ops C (fun a' => a' = A) l a → A.tmps.getD d undef = a.tmps.getD d undef
 | [], a, _, h => by rw [show a = A from h]
 | o :: l, a, hd, h => by
   simp only [List.all_cons, Bool.and_eq_true, bne_iff_ne] at hd
   have key : ∀ v, (a.put o.dst v).tmps.getD d undef = a.tmps.getD d undef := fun v => by
    cases ho : o.dst with
    | none => rfl
    | some d' =>
      have : d' ≠ d := fun e => hd.1 (by rw [ho, e])
      simp [Act.put, Array.getElem?_setIfInBounds_ne this]
   unfold wpQuiet at h
   by_cases hw : Region.wanted o (yielded ops a.tmps) = true
   · simp only [hw, if_true] at h
     obtain ⟨v, -, h2⟩ := h
     rw [read_back l _ hd.2 h2, key]
   · simp only [hw] at h
     rw [read_back l _ hd.2 h, key]
theorem lex_of_quiet {A : Act} {Lq : Act → Prop} {st : Oper} (hst : ops[n]? = some st) (hwt : Region.wanted st (yielded ops A.tmps) = true) (hgv : Gives P D n n st undef A) (hq : Lq (A.put st.dst undef)) :
 ∀ (l : List Oper) (k : Nat) (a : Act), k + l.length = n → (∀ j, j < l.length → l[j]? = ops[k + j]?) → ownDst a.tmps.size l = true → (∀ b, wpQuiet P ops (D b) (fun a' => a' = A) l a) → LexG P ops D n Lq (l.length + 1) k a
 | [], k, a, hk, _, _, h => by
   obtain rfl : k = n := by simpa using hk
   obtain rfl : a = A := h false
   exact Yields.gOp hst (.inl ⟨hwt, hgv⟩) hq
 | o :: l, k, a, hk, hl, hd, h => by
   have h0 : ops[k]? = some o := by simpa using (hl 0 (by simp)).symm
   have hkn : k ≠ n := by simp only [List.length_cons] at hk; omega
   simp only [ownDst, Bool.and_eq_true] at hd
   cases ho : o.dst with
   | none => rw [ho] at hd; cases hd.1
   | some d =>
     rw [ho] at hd
     simp only [Bool.and_eq_true, decide_eq_true_eq] at hd
     have hput : ∀ v, (a.put (some d) v).tmps.getD d undef = v := fun v => by simp [Act.put, hd.1.1]
     have next : ∀ v, (∀ b, wpQuiet P ops (D b) (fun a' => a' = A) l (a.put (some d) v)) → LexG P ops D n Lq (l.length + 1) (k + 1) (a.put (some d) v) := fun v hv =>
      lex_of_quiet hst hwt hgv hq l (k + 1) _ (by simp only [List.length_cons] at hk; omega) (fun j hj => by
       have := hl (j + 1) (by simp; omega)
       simpa [Nat.add_assoc, Nat.add_comm 1 j] using this) (by simpa [Act.put] using hd.2) hv
     by_cases hw : Region.wanted o (yielded ops a.tmps) = true
     · have hv : ∀ b, (∀ w, D b w → o.quietAt P a (D b) w (A.tmps.getD d undef)) ∧ wpQuiet P ops (D b) (fun a' => a' = A) l (a.put (some d) (A.tmps.getD d undef)) := fun b => by
        have hb := h b
        unfold wpQuiet at hb
        simp only [hw, if_true] at hb
        obtain ⟨v, h1, h2⟩ := hb
        rw [ho] at h2
        have e : A.tmps.getD d undef = v := (read_back l _ hd.1.2 h2).trans (hput v)
        rw [e]
        exact ⟨h1, h2⟩
       refine Yields.gOp h0 (v := A.tmps.getD d undef) (.inl ⟨hw, fun b w _ hD => ?_⟩) (by rw [ho]; exact next _ (fun b => (hv b).2))
       rw [beq_eq_false_iff_ne.2 hkn, Bool.or_false]
       exact GoesTo.of_quiet hD ((hv b).1 w hD)
     · have hv : ∀ b, wpQuiet P ops (D b) (fun a' => a' = A) l (a.put (some d) undef) := fun b => by
        have hb := h b
        unfold wpQuiet at hb
        simp only [hw] at hb
        rw [ho] at hb
        exact hb
       have hwf : Region.wanted o (yielded ops a.tmps) = false := by simpa using hw
       exact Yields.gOp h0 (v := undef) (.inr ⟨hwf, hkn, rfl⟩) (by rw [ho]; exact next _ hv)
theorem wp_region_store {id : Nat} {Q : Exit → Act → World → Prop} {a A : Act} {w w0 w1 : World} {l : List Oper} {st : Oper} (n : Nat) (hm : P.follows .mixedOrders = true) (hB : Region.lexTailB .any l.toArray (n + 1) = true) (hst : l[n]? = some st)
 (hown : ownDst a.tmps.size (l.take n) = true) (hw : LaterC w0 w)
 (h : ∀ W, (W = w0 ∨ W = w1) → wpQuiet P l.toArray (fun w' => ∃ u : Later W, w' = u.val) (fun a' => a' = A) (l.take n) a)
 (hwt : Region.wanted st (yielded l.toArray A.tmps) = true)
 (hrun : ∀ u : Later w0, ∃ w', (execOp A.eval st).run P u.val = .ok .skip w' ∧ LaterC w1 w')
 (hfin : ∀ u : Later w1, wpList P l.toArray Q (l.drop (n + 1)) (A.put st.dst undef) u.val) : (Code.region id l.toArray true).wp P Q a w := by
 let D : Bool → World → Prop := fun b => LaterC (if b then w1 else w0)
 simp only [Region.lexTailB, Bool.and_eq_true, decide_eq_true_eq] at hB
 obtain ⟨⟨⟨⟨hsel, hn⟩, hs⟩, hc⟩, hlex⟩ := hB
 have hlen : n + 1 < l.length := by simpa using hn
 have ht : (l.take n).length = n := by simp; omega
 have hd : (l.drop (n + 1)).length = l.toArray.size - (n + 1) := by simp
 have inv : HeadInv .any l.toArray (n + 1) (Array.replicate l.toArray.size false) :=
  ⟨by simp, fun j oj _ hl => (by rw [getD_replicate_false] at hl; cases hl), fun t _ h => getD_in (by simpa using h) (getD_replicate_false _ _)⟩
 have hq : ∀ b, wpQuiet P l.toArray (D b) (fun a' => a' = A) (l.take n) a := fun b => by
  cases b
  · exact h w0 (.inl rfl)
  · exact h w1 (.inr rfl)
 have hg : Gives P D n n st undef A := fun b w' hb hD => by
  obtain rfl := hb rfl
  obtain ⟨u, rfl⟩ := hD
  obtain ⟨w'', hr, hL⟩ := hrun u
  have hr' : (execOp A.eval st).run P u.val = .ok .skip w'' := hr
  rw [hr']
  exact ⟨by simpa [D] using hL, rfl⟩
 have H0 := lex_of_quiet (P := P) (ops := l.toArray) (D := D) (Lq := fun a' => a' = A.put st.dst undef) (by simpa using hst) hwt hg rfl (l.take n) 0 a (by rw [ht]; omega) (fun j hj => by
  have hj' : j < n := by rw [ht] at hj; exact hj
  simp [hj']) hown hq
 rw [ht] at H0
 have H := HeadG.lex (g := l.toArray.size - (n + 1)) hsel hs hc hn (n + 1) 0 _ a (by omega) inv hlex H0
 refine wp_region_any hm ?_
 have := HeadG.run (Q := Q) (D := D) (g := l.toArray.size - (n + 1)) (fun d a' w' hw' hL => by
  obtain ⟨hseq, rfl⟩ := hL
  have hd1 : D true w' := by
   cases hx : d.getD n false with
   | true => rw [hx] at hw'; exact hw'
   | false =>
     have hg1 : l.toArray.size - (n + 1) = (l.toArray.size - (n + 1) - 1) + 1 := by omega
     rw [hg1] at hseq
     simp only [Region.seqB, Bool.and_eq_true, decide_eq_true_eq] at hseq
     have hrd : n + 1 ∈ Region.ready .any l.toArray d := by rw [hseq.1]; exact List.mem_singleton.2 rfl
     obtain ⟨-, o, ho, hall⟩ := mem_ready.1 hrd
     have hsn := (List.all_eq_true.1 hs) n (List.mem_range.2 (Nat.lt_succ_self n))
     obtain ⟨j, hj, hjw⟩ := List.any_eq_true.1 hsn
     simp only [Bool.and_eq_true, decide_eq_true_eq] at hjw
     have hj' := List.mem_range.1 hj
     obtain rfl : j = n + 1 := by omega
     obtain ⟨o', ho', e, he, hb, hon⟩ := Region.waitsFor_spec hjw.2
     obtain rfl : o = o' := Option.some.inj (ho.symm.trans ho')
     have := hall e he hb
     rw [hon, hx] at this
     cases this
  obtain ⟨u, rfl⟩ := hd1
  have := wpAny_of_seq (md := .any) (Q' := Q) (l.drop (n + 1)) (n + 1) d (A.put st.dst undef) u.val (fun j => by simp [List.getElem?_drop]) (by rw [hd]; exact hseq) (hfin u)
  rwa [hd] at this) (n + 1) (Array.replicate l.toArray.size false) a { w with drawn := w.drawn + 1 } (by rw [getD_replicate_false]; obtain ⟨u, rfl⟩ := hw; exact u.drew) H
 rw [show n + 1 + (l.toArray.size - (n + 1)) = l.toArray.size by omega] at this
 exact this
theorem wp_region_store' {id : Nat} {Q : Exit → Act → World → Prop} {a : Act} {w w0 w1 : World} {l : List Oper} {st : Oper} (n : Nat) (hm : P.follows .mixedOrders = true) (hB : Region.lexTailB .any l.toArray (n + 1) = true) (hst : l[n]? = some st)
 (hown : ownDst a.tmps.size (l.take n) = true) (hw : LaterC w0 w)
 (h : ∃ A : Act, (∀ W, (W = w0 ∨ W = w1) → wpQuiet P l.toArray (fun w' => ∃ u : Later W, w' = u.val) (fun a' => a' = A) (l.take n) a) ∧
   Region.wanted st (yielded l.toArray A.tmps) = true ∧
   (∀ u : Later w0, ∃ w', (execOp A.eval st).run P u.val = .ok .skip w' ∧ LaterC w1 w') ∧
   (∀ u : Later w1, wpList P l.toArray Q (l.drop (n + 1)) (A.put st.dst undef) u.val)) : (Code.region id l.toArray true).wp P Q a w := by
 obtain ⟨A, h1, h2, h3, h4⟩ := h
 exact wp_region_store n hm hB hst hown hw h1 h2 h3 h4
theorem below_setCell_both {B : Nat} {w u : World} (h : Below B w u) (p : Addr) (v : Value) : Below B (w.setCell p v) (u.setCell p v) := by
 refine ⟨h.os, h.tape, h.output, ?_, fun k hk => ?_⟩
 · have := h.size
   simpa [World.setCell] using this
 · have := h.block k hk
   simp [World.setCell, Array.getElem?_modify, this]
theorem Later.set2 {w0 : World} (u : Later w0) (p q : Addr) (x y : Value) : LaterC ((w0.setCell p x).setCell q y) ((u.val.setCell p x).setCell q y) :=
 ⟨⟨_, by
  have h := below_setCell_both (below_setCell_both u.prop p x) q y
  have e : ((w0.setCell p x).setCell q y).heap.size = w0.heap.size := by simp [World.setCell]
  rw [e]; exact h⟩, rfl⟩
theorem wp_region_two {id : Nat} {Q : Exit → Act → World → Prop} {a : Act} {w w2 : World} {l : List Oper} {st : Oper} {G : Nat} {x0 y0 : Value} (n : Nat) (x y : Value) (hm : P.follows .mixedOrders = true) (hB : Region.lexTailB .any l.toArray (n + 1) = true) (hst : l[n]? = some st)
 (hown : ownDst a.tmps.size (l.take n) = true) (HB : Below w.heap.size w w2) (hG : w.heap.size ≤ G)
 (r0 : ∀ u : Later w2, u.val.cell? ⟨G, 0, none⟩ = some x0) (r1 : ∀ u : Later w2, u.val.cell? ⟨G, 1, none⟩ = some y0) (f0 : ∀ u : Later w2, u.val.frozen? ⟨G, 0, none⟩ = false) (f1 : ∀ u : Later w2, u.val.frozen? ⟨G, 1, none⟩ = false)
 (h : ∃ A : Act, (∀ W, (∀ (b f : Nat) (v : Value), b < G → (∀ u : Later w2, u.val.cell? ⟨b, f, none⟩ = some v) → ∀ u : Later W, u.val.cell? ⟨b, f, none⟩ = some v) → wpQuiet P l.toArray (fun w' => ∃ u : Later W, w' = u.val) (fun a' => a' = A) (l.take n) a) ∧
   Region.wanted st (yielded l.toArray A.tmps) = true ∧
   (∀ u : World, u.cell? ⟨G, 0, none⟩ = some x0 → u.cell? ⟨G, 1, none⟩ = some y0 → u.frozen? ⟨G, 0, none⟩ = false → u.frozen? ⟨G, 1, none⟩ = false → (execOp A.eval st).run P u = .ok .skip ((u.setCell ⟨G, 0, none⟩ x).setCell ⟨G, 1, none⟩ y)) ∧
   (∀ u : World, Below w.heap.size w u → u.cell? ⟨G, 0, none⟩ = some x → u.cell? ⟨G, 1, none⟩ = some y → wpList P l.toArray Q (l.drop (n + 1)) (A.put st.dst undef) u)) : (Code.region id l.toArray true).wp P Q a w2 := by
 obtain ⟨A, h1, h2, h3, h4⟩ := h
 refine wp_region_store' (w0 := w2) (w1 := (w2.setCell ⟨G, 0, none⟩ x).setCell ⟨G, 1, none⟩ y) n hm hB hst hown (LaterC.refl _) ⟨A, fun W hW => h1 W ?_, h2, fun u => ⟨_, h3 u.val (r0 u) (r1 u) (f0 u) (f1 u), u.set2 _ _ _ _⟩, fun u => ?_⟩
 · intro b f v hb hv
   rcases hW with rfl | rfl
   · exact hv
   · exact Later.cell ((World.cell?_setCell_other _ _ _ _ (by intro e; simp only [Addr.mk.injEq] at e; omega)).trans ((World.cell?_setCell_other _ _ _ _ (by intro e; simp only [Addr.mk.injEq] at e; omega)).trans (hv ⟨w2, Below.refl _ _⟩)))
 · refine h4 u.val (u.back ((HB.setCell (p := ⟨G, 0, none⟩) hG x).setCell (p := ⟨G, 1, none⟩) hG y)) ?_ ?_
   · exact Later.cell ((World.cell?_setCell_other _ _ _ _ (by intro e; simp only [Addr.mk.injEq] at e; omega)).trans (World.cell?_setCell_same _ _ _ (r0 ⟨w2, Below.refl _ _⟩))) u
   · exact Later.cell (World.cell?_setCell_same _ _ _ ((World.cell?_setCell_other _ _ _ _ (by intro e; simp only [Addr.mk.injEq] at e; omega)).trans (r1 ⟨w2, Below.refl _ _⟩))) u
theorem back_cell {w w2 : World} {a : Addr} {v : Value} (h : w.cell? a = some v) (hb : Below w.heap.size w w2) : ∀ l : Later w2, l.val.cell? a = some v := fun l => Later.cell h ⟨l.val, l.back hb⟩
end
end Go.Proofs.YtdojaijnejcoiaaGreat
namespace Go.Proofs.YtdojaijnejcoiaaGreat
open Go.RowKit
attribute [local go_sem high] eq_sort
def resN (kind n m ai aw bi bw ci cw : Int) : Option (Int × Int) :=
 if kind = 33 then (if (ai == 0 && (aw == 1)) && (bi == ci && (bw == cw)) then some (bi, bw) else none)
 else if kind = 37 then (if decide (0 < ai) && (bi == 0 && (bw == ai)) then some (0, aw) else none)
 else if kind = 38 then (if decide (0 < ai) && ((bi == 0 && (bw == ai)) && (ci == 0 && (cw == aw))) then some (ai, aw) else none)
 else if kind = 21 then (if ai == bi && (aw == bw) then some (0, 1) else none)
 else if ¬ ai = 0 ∨ ¬ bi = 0 then none
 else if kind = 29 then (if aw + bw ≤ 16 then some (0, aw + bw) else none)
 else if kind = 30 then (if 0 ≤ m ∧ m ≤ n ∧ n < aw then some (0, n - m + 1) else none)
 else if kind = 31 ∨ kind = 32 then (if 0 ≤ n ∧ n ≤ 16 - aw then some (0, aw + n) else none)
 else if kind ≤ 2 then some (0, aw)
 else if kind ≤ 5 then some (0, 1)
 else if aw = bw then some (if kind ≤ 20 then (0, aw) else (0, 1)) else none
def ResPost (r : Option (Int × Int)) (w : World) (e : Ending) (w' : World) : Prop :=
 ∃ (i a : Int) (ok : Bool), e = .returned (.tuple #[.agg #[.int .i64 i, .int .i64 a], .bool ok]) ∧ Below w.heap.size w w' ∧ ok = r.isSome ∧ ∀ p, r = some p → (i, a) = p
theorem respost_some {r : Option (Int × Int)} {i a : Int} {w w' : World} (h : r = some (i, a)) (hb : Below w.heap.size w w') : ResPost r w (.returned (.tuple #[.agg #[.int .i64 i, .int .i64 a], .bool true])) w' :=
 ⟨i, a, true, rfl, hb, by rw [h]; rfl, fun p hp => by rw [h] at hp; exact Option.some.inj hp⟩
theorem respost_none {r : Option (Int × Int)} {i a : Int} {w w' : World} (h : r = none) (hb : Below w.heap.size w w') : ResPost r w (.returned (.tuple #[.agg #[.int .i64 i, .int .i64 a], .bool false])) w' :=
 ⟨i, a, false, rfl, hb, by rw [h]; rfl, fun p hp => by rw [h] at hp; cases hp⟩
theorem res_world (k n m xa xb xc xi xw : Int) (nm : ByteArray) (w : World) : ∃ w2, ((w.alloc (Obj.cells #[.int .i64 k, .int .i64 xa, .int .i64 xb, .int .i64 xc, .int .i64 n, .int .i64 m, .int .i64 xi, .int .i64 xw, .string nm] 46)).alloc (Obj.cells #[.int .i64 0, .int .i64 0] 44)) = w2 ∧ Hid (Below w.heap.size w w2) ∧
 (∀ l : Later w2, l.val.cell? ⟨w.heap.size, 0, none⟩ = some (.int .i64 k)) ∧ (∀ l : Later w2, l.val.cell? ⟨w.heap.size, 4, none⟩ = some (.int .i64 n)) ∧ (∀ l : Later w2, l.val.cell? ⟨w.heap.size, 5, none⟩ = some (.int .i64 m)) ∧
 (∀ l : Later w2, l.val.cell? ⟨w.heap.size + 1, 0, none⟩ = some (.int .i64 0)) ∧ (∀ l : Later w2, l.val.cell? ⟨w.heap.size + 1, 1, none⟩ = some (.int .i64 0)) ∧ (∀ l : Later w2, l.val.frozen? ⟨w.heap.size + 1, 0, none⟩ = false) ∧ (∀ l : Later w2, l.val.frozen? ⟨w.heap.size + 1, 1, none⟩ = false) := by
 refine ⟨_, rfl, Lib.hid ((box_below _ _ _).alloc (by simp) _), Later.cell ?_, Later.cell ?_, Later.cell ?_, Later.cell ?_, Later.cell ?_, Later.frozen ?_ ?_, Later.frozen ?_ ?_⟩
 all_goals first | go_simp | simp
theorem l2Result_33_0 (n m ai aw bi bw ci cw xa xb xc xi xw : Int) (nm : ByteArray) (g cap : Nat) (w : World) (hcap : 3 ≤ cap) (c0 : w.cell? ⟨g, 0, none⟩ = some (.int .i64 ai)) (c1 : w.cell? ⟨g, 1, none⟩ = some (.int .i64 aw)) (c2 : w.cell? ⟨g, 2, none⟩ = some (.int .i64 bi)) (c3 : w.cell? ⟨g, 3, none⟩ = some (.int .i64 bw)) (c4 : w.cell? ⟨g, 4, none⟩ = some (.int .i64 ci)) (c5 : w.cell? ⟨g, 5, none⟩ = some (.int .i64 cw)) (h0 : (ai == 0) = false) :
 Calls Tryz.prog 91 #[.agg #[.int .i64 33, .int .i64 xa, .int .i64 xb, .int .i64 xc, .int .i64 n, .int .i64 m, .int .i64 xi, .int .i64 xw, .string nm], .slice (some ⟨g, 0, none⟩) 3 cap] w (ResPost (resN 33 n m ai aw bi bw ci cw) w) := by
 have hlt : g < w.heap.size := World.block_lt_of_cell? _ _ c0
 have HR := Lib.hid (show resN 33 n m ai aw bi bw ci cw = none by unfold resN; simp only [h0, Bool.and_false, Bool.false_and, Bool.true_and, Bool.and_true]; rfl)
 go_enter Tryz.func91, Tryz.ntmps91
 go_wp2
 obtain ⟨w2, hw2, HB, b0, b4, b5, r0, r1, f0, f1⟩ := res_world 33 n m xa xb xc xi xw nm w
 rw [hw2]
 clear hw2
 have c0 := back_cell c0 HB.out
 have c1 := back_cell c1 HB.out
 have c2 := back_cell c2 HB.out
 have c3 := back_cell c3 HB.out
 have c4 := back_cell c4 HB.out
 have c5 := back_cell c5 HB.out
 refine wp_region_two (G := w.heap.size + 1) 17 (.int .i64 bi) (.int .i64 bw) (by kernel_rfl) (by kernel_rfl) rfl (by kernel_rfl) HB.out (Nat.le_succ _) r0 r1 f0 f1 ?_
 apply Exists.intro
 refine ⟨fun W hk => ?_, ?_, ?_, ?_⟩
 · have hg : g < w.heap.size + 1 := Nat.lt_succ_of_lt hlt
   have d0 := hk _ _ _ hg c0; have d1 := hk _ _ _ hg c1; have d2 := hk _ _ _ hg c2; have d3 := hk _ _ _ hg c3; have d4 := hk _ _ _ hg c4; have d5 := hk _ _ _ hg c5
   clear hk
   simp only [List.take_succ_cons, List.take_zero]
   repeat (go_big_quiet_step ((go_at_call 74; exact Calls.later (l2Word_calls _ _))))
   exact wpQuiet_nil rfl
 · rfl
 · intro u s0 s1 t0 t1
   go_simp
 · intro u hb s0 s1
   have hbel := Lib.hid hb
   simp only [List.drop_succ_cons, List.drop_zero]
   clear r0 r1 f0 f1 hb
   go_wp2
   exact bodyPost_ret (v := .tuple #[.agg #[.int .i64 bi, .int .i64 bw], .bool false]) (by simp [results, Tryz.results91, go_sem, s0, s1]) rfl (respost_none HR.out hbel.out)
theorem l2Result_33_1 (n m ai aw bi bw ci cw xa xb xc xi xw : Int) (nm : ByteArray) (g cap : Nat) (w : World) (hcap : 3 ≤ cap) (c0 : w.cell? ⟨g, 0, none⟩ = some (.int .i64 ai)) (c1 : w.cell? ⟨g, 1, none⟩ = some (.int .i64 aw)) (c2 : w.cell? ⟨g, 2, none⟩ = some (.int .i64 bi)) (c3 : w.cell? ⟨g, 3, none⟩ = some (.int .i64 bw)) (c4 : w.cell? ⟨g, 4, none⟩ = some (.int .i64 ci)) (c5 : w.cell? ⟨g, 5, none⟩ = some (.int .i64 cw)) (h0 : (ai == 0) = true) (h1 : (aw == 1) = false) :
 Calls Tryz.prog 91 #[.agg #[.int .i64 33, .int .i64 xa, .int .i64 xb, .int .i64 xc, .int .i64 n, .int .i64 m, .int .i64 xi, .int .i64 xw, .string nm], .slice (some ⟨g, 0, none⟩) 3 cap] w (ResPost (resN 33 n m ai aw bi bw ci cw) w) := by
 have hlt : g < w.heap.size := World.block_lt_of_cell? _ _ c0
 have HR := Lib.hid (show resN 33 n m ai aw bi bw ci cw = none by unfold resN; simp only [h0, h1, Bool.and_false, Bool.false_and, Bool.true_and, Bool.and_true]; rfl)
 go_enter Tryz.func91, Tryz.ntmps91
 go_wp2
 obtain ⟨w2, hw2, HB, b0, b4, b5, r0, r1, f0, f1⟩ := res_world 33 n m xa xb xc xi xw nm w
 rw [hw2]
 clear hw2
 have c0 := back_cell c0 HB.out
 have c1 := back_cell c1 HB.out
 have c2 := back_cell c2 HB.out
 have c3 := back_cell c3 HB.out
 have c4 := back_cell c4 HB.out
 have c5 := back_cell c5 HB.out
 refine wp_region_two (G := w.heap.size + 1) 17 (.int .i64 bi) (.int .i64 bw) (by kernel_rfl) (by kernel_rfl) rfl (by kernel_rfl) HB.out (Nat.le_succ _) r0 r1 f0 f1 ?_
 apply Exists.intro
 refine ⟨fun W hk => ?_, ?_, ?_, ?_⟩
 · have hg : g < w.heap.size + 1 := Nat.lt_succ_of_lt hlt
   have d0 := hk _ _ _ hg c0; have d1 := hk _ _ _ hg c1; have d2 := hk _ _ _ hg c2; have d3 := hk _ _ _ hg c3; have d4 := hk _ _ _ hg c4; have d5 := hk _ _ _ hg c5
   clear hk
   simp only [List.take_succ_cons, List.take_zero]
   repeat (go_big_quiet_step ((go_at_call 74; exact Calls.later (l2Word_calls _ _))))
   exact wpQuiet_nil rfl
 · rfl
 · intro u s0 s1 t0 t1
   go_simp
 · intro u hb s0 s1
   have hbel := Lib.hid hb
   simp only [List.drop_succ_cons, List.drop_zero]
   clear r0 r1 f0 f1 hb
   go_wp2
   exact bodyPost_ret (v := .tuple #[.agg #[.int .i64 bi, .int .i64 bw], .bool false]) (by simp [results, Tryz.results91, go_sem, s0, s1]) rfl (respost_none HR.out hbel.out)
theorem l2Result_33_2 (n m ai aw bi bw ci cw xa xb xc xi xw : Int) (nm : ByteArray) (g cap : Nat) (w : World) (hcap : 3 ≤ cap) (c0 : w.cell? ⟨g, 0, none⟩ = some (.int .i64 ai)) (c1 : w.cell? ⟨g, 1, none⟩ = some (.int .i64 aw)) (c2 : w.cell? ⟨g, 2, none⟩ = some (.int .i64 bi)) (c3 : w.cell? ⟨g, 3, none⟩ = some (.int .i64 bw)) (c4 : w.cell? ⟨g, 4, none⟩ = some (.int .i64 ci)) (c5 : w.cell? ⟨g, 5, none⟩ = some (.int .i64 cw)) (h0 : (ai == 0) = true) (h1 : (aw == 1) = true) (h2 : (bi == ci) = false) :
 Calls Tryz.prog 91 #[.agg #[.int .i64 33, .int .i64 xa, .int .i64 xb, .int .i64 xc, .int .i64 n, .int .i64 m, .int .i64 xi, .int .i64 xw, .string nm], .slice (some ⟨g, 0, none⟩) 3 cap] w (ResPost (resN 33 n m ai aw bi bw ci cw) w) := by
 have hlt : g < w.heap.size := World.block_lt_of_cell? _ _ c0
 have HR := Lib.hid (show resN 33 n m ai aw bi bw ci cw = none by unfold resN; simp only [h0, h1, h2, Bool.and_false, Bool.false_and, Bool.true_and, Bool.and_true]; rfl)
 go_enter Tryz.func91, Tryz.ntmps91
 go_wp2
 obtain ⟨w2, hw2, HB, b0, b4, b5, r0, r1, f0, f1⟩ := res_world 33 n m xa xb xc xi xw nm w
 rw [hw2]
 clear hw2
 have c0 := back_cell c0 HB.out
 have c1 := back_cell c1 HB.out
 have c2 := back_cell c2 HB.out
 have c3 := back_cell c3 HB.out
 have c4 := back_cell c4 HB.out
 have c5 := back_cell c5 HB.out
 refine wp_region_two (G := w.heap.size + 1) 17 (.int .i64 bi) (.int .i64 bw) (by kernel_rfl) (by kernel_rfl) rfl (by kernel_rfl) HB.out (Nat.le_succ _) r0 r1 f0 f1 ?_
 apply Exists.intro
 refine ⟨fun W hk => ?_, ?_, ?_, ?_⟩
 · have hg : g < w.heap.size + 1 := Nat.lt_succ_of_lt hlt
   have d0 := hk _ _ _ hg c0; have d1 := hk _ _ _ hg c1; have d2 := hk _ _ _ hg c2; have d3 := hk _ _ _ hg c3; have d4 := hk _ _ _ hg c4; have d5 := hk _ _ _ hg c5
   clear hk
   simp only [List.take_succ_cons, List.take_zero]
   repeat (go_big_quiet_step ((go_at_call 74; exact Calls.later (l2Word_calls _ _))))
   exact wpQuiet_nil rfl
 · rfl
 · intro u s0 s1 t0 t1
   go_simp
 · intro u hb s0 s1
   have hbel := Lib.hid hb
   simp only [List.drop_succ_cons, List.drop_zero]
   clear r0 r1 f0 f1 hb
   go_wp2
   exact bodyPost_ret (v := .tuple #[.agg #[.int .i64 bi, .int .i64 bw], .bool false]) (by simp [results, Tryz.results91, go_sem, s0, s1]) rfl (respost_none HR.out hbel.out)
theorem l2Result_33_3 (n m ai aw bi bw ci cw xa xb xc xi xw : Int) (nm : ByteArray) (g cap : Nat) (w : World) (hcap : 3 ≤ cap) (c0 : w.cell? ⟨g, 0, none⟩ = some (.int .i64 ai)) (c1 : w.cell? ⟨g, 1, none⟩ = some (.int .i64 aw)) (c2 : w.cell? ⟨g, 2, none⟩ = some (.int .i64 bi)) (c3 : w.cell? ⟨g, 3, none⟩ = some (.int .i64 bw)) (c4 : w.cell? ⟨g, 4, none⟩ = some (.int .i64 ci)) (c5 : w.cell? ⟨g, 5, none⟩ = some (.int .i64 cw)) (h0 : (ai == 0) = true) (h1 : (aw == 1) = true) (h2 : (bi == ci) = true) (h3 : (bw == cw) = false) :
 Calls Tryz.prog 91 #[.agg #[.int .i64 33, .int .i64 xa, .int .i64 xb, .int .i64 xc, .int .i64 n, .int .i64 m, .int .i64 xi, .int .i64 xw, .string nm], .slice (some ⟨g, 0, none⟩) 3 cap] w (ResPost (resN 33 n m ai aw bi bw ci cw) w) := by
 have hlt : g < w.heap.size := World.block_lt_of_cell? _ _ c0
 have HR := Lib.hid (show resN 33 n m ai aw bi bw ci cw = none by unfold resN; simp only [h0, h1, h2, h3, Bool.and_false, Bool.false_and, Bool.true_and, Bool.and_true]; rfl)
 go_enter Tryz.func91, Tryz.ntmps91
 go_wp2
 obtain ⟨w2, hw2, HB, b0, b4, b5, r0, r1, f0, f1⟩ := res_world 33 n m xa xb xc xi xw nm w
 rw [hw2]
 clear hw2
 have c0 := back_cell c0 HB.out
 have c1 := back_cell c1 HB.out
 have c2 := back_cell c2 HB.out
 have c3 := back_cell c3 HB.out
 have c4 := back_cell c4 HB.out
 have c5 := back_cell c5 HB.out
 refine wp_region_two (G := w.heap.size + 1) 17 (.int .i64 bi) (.int .i64 bw) (by kernel_rfl) (by kernel_rfl) rfl (by kernel_rfl) HB.out (Nat.le_succ _) r0 r1 f0 f1 ?_
 apply Exists.intro
 refine ⟨fun W hk => ?_, ?_, ?_, ?_⟩
 · have hg : g < w.heap.size + 1 := Nat.lt_succ_of_lt hlt
   have d0 := hk _ _ _ hg c0; have d1 := hk _ _ _ hg c1; have d2 := hk _ _ _ hg c2; have d3 := hk _ _ _ hg c3; have d4 := hk _ _ _ hg c4; have d5 := hk _ _ _ hg c5
   clear hk
   simp only [List.take_succ_cons, List.take_zero]
   repeat (go_big_quiet_step ((go_at_call 74; exact Calls.later (l2Word_calls _ _))))
   exact wpQuiet_nil rfl
 · rfl
 · intro u s0 s1 t0 t1
   go_simp
 · intro u hb s0 s1
   have hbel := Lib.hid hb
   simp only [List.drop_succ_cons, List.drop_zero]
   clear r0 r1 f0 f1 hb
   go_wp2
   exact bodyPost_ret (v := .tuple #[.agg #[.int .i64 bi, .int .i64 bw], .bool false]) (by simp [results, Tryz.results91, go_sem, s0, s1]) rfl (respost_none HR.out hbel.out)
theorem l2Result_33_4 (n m ai aw bi bw ci cw xa xb xc xi xw : Int) (nm : ByteArray) (g cap : Nat) (w : World) (hcap : 3 ≤ cap) (c0 : w.cell? ⟨g, 0, none⟩ = some (.int .i64 ai)) (c1 : w.cell? ⟨g, 1, none⟩ = some (.int .i64 aw)) (c2 : w.cell? ⟨g, 2, none⟩ = some (.int .i64 bi)) (c3 : w.cell? ⟨g, 3, none⟩ = some (.int .i64 bw)) (c4 : w.cell? ⟨g, 4, none⟩ = some (.int .i64 ci)) (c5 : w.cell? ⟨g, 5, none⟩ = some (.int .i64 cw)) (h0 : (ai == 0) = true) (h1 : (aw == 1) = true) (h2 : (bi == ci) = true) (h3 : (bw == cw) = true) :
 Calls Tryz.prog 91 #[.agg #[.int .i64 33, .int .i64 xa, .int .i64 xb, .int .i64 xc, .int .i64 n, .int .i64 m, .int .i64 xi, .int .i64 xw, .string nm], .slice (some ⟨g, 0, none⟩) 3 cap] w (ResPost (resN 33 n m ai aw bi bw ci cw) w) := by
 have hlt : g < w.heap.size := World.block_lt_of_cell? _ _ c0
 have HR := Lib.hid (show resN 33 n m ai aw bi bw ci cw = some (bi, bw) by unfold resN; simp only [h0, h1, h2, h3]; rfl)
 go_enter Tryz.func91, Tryz.ntmps91
 go_wp2
 obtain ⟨w2, hw2, HB, b0, b4, b5, r0, r1, f0, f1⟩ := res_world 33 n m xa xb xc xi xw nm w
 rw [hw2]
 clear hw2
 have c0 := back_cell c0 HB.out
 have c1 := back_cell c1 HB.out
 have c2 := back_cell c2 HB.out
 have c3 := back_cell c3 HB.out
 have c4 := back_cell c4 HB.out
 have c5 := back_cell c5 HB.out
 refine wp_region_two (G := w.heap.size + 1) 17 (.int .i64 bi) (.int .i64 bw) (by kernel_rfl) (by kernel_rfl) rfl (by kernel_rfl) HB.out (Nat.le_succ _) r0 r1 f0 f1 ?_
 apply Exists.intro
 refine ⟨fun W hk => ?_, ?_, ?_, ?_⟩
 · have hg : g < w.heap.size + 1 := Nat.lt_succ_of_lt hlt
   have d0 := hk _ _ _ hg c0; have d1 := hk _ _ _ hg c1; have d2 := hk _ _ _ hg c2; have d3 := hk _ _ _ hg c3; have d4 := hk _ _ _ hg c4; have d5 := hk _ _ _ hg c5
   clear hk
   simp only [List.take_succ_cons, List.take_zero]
   repeat (go_big_quiet_step ((go_at_call 74; exact Calls.later (l2Word_calls _ _))))
   exact wpQuiet_nil rfl
 · rfl
 · intro u s0 s1 t0 t1
   go_simp
 · intro u hb s0 s1
   have hbel := Lib.hid hb
   simp only [List.drop_succ_cons, List.drop_zero]
   clear r0 r1 f0 f1 hb
   go_wp2
   exact bodyPost_ret (v := .tuple #[.agg #[.int .i64 bi, .int .i64 bw], .bool true]) (by simp [results, Tryz.results91, go_sem, s0, s1]) rfl (respost_some HR.out hbel.out)
theorem l2Result_33 (n m ai aw bi bw ci cw xa xb xc xi xw : Int) (nm : ByteArray) (g cap : Nat) (w : World) (hcap : 3 ≤ cap) (c0 : w.cell? ⟨g, 0, none⟩ = some (.int .i64 ai)) (c1 : w.cell? ⟨g, 1, none⟩ = some (.int .i64 aw)) (c2 : w.cell? ⟨g, 2, none⟩ = some (.int .i64 bi)) (c3 : w.cell? ⟨g, 3, none⟩ = some (.int .i64 bw)) (c4 : w.cell? ⟨g, 4, none⟩ = some (.int .i64 ci)) (c5 : w.cell? ⟨g, 5, none⟩ = some (.int .i64 cw)) :
 Calls Tryz.prog 91 #[.agg #[.int .i64 33, .int .i64 xa, .int .i64 xb, .int .i64 xc, .int .i64 n, .int .i64 m, .int .i64 xi, .int .i64 xw, .string nm], .slice (some ⟨g, 0, none⟩) 3 cap] w (ResPost (resN 33 n m ai aw bi bw ci cw) w) := by
 by_cases h0 : (ai == 0) = true
 rotate_left
 · exact l2Result_33_0 n m ai aw bi bw ci cw xa xb xc xi xw nm g cap w hcap c0 c1 c2 c3 c4 c5  (eq_false_of_ne_true h0)
 by_cases h1 : (aw == 1) = true
 rotate_left
 · exact l2Result_33_1 n m ai aw bi bw ci cw xa xb xc xi xw nm g cap w hcap c0 c1 c2 c3 c4 c5 h0 (eq_false_of_ne_true h1)
 by_cases h2 : (bi == ci) = true
 rotate_left
 · exact l2Result_33_2 n m ai aw bi bw ci cw xa xb xc xi xw nm g cap w hcap c0 c1 c2 c3 c4 c5 h0 h1 (eq_false_of_ne_true h2)
 by_cases h3 : (bw == cw) = true
 rotate_left
 · exact l2Result_33_3 n m ai aw bi bw ci cw xa xb xc xi xw nm g cap w hcap c0 c1 c2 c3 c4 c5 h0 h1 h2 (eq_false_of_ne_true h3)
 exact l2Result_33_4 n m ai aw bi bw ci cw xa xb xc xi xw nm g cap w hcap c0 c1 c2 c3 c4 c5 h0 h1 h2 h3
theorem l2Result_37_0 (n m ai aw bi bw ci cw xa xb xc xi xw : Int) (nm : ByteArray) (g cap : Nat) (w : World) (hcap : 2 ≤ cap) (c0 : w.cell? ⟨g, 0, none⟩ = some (.int .i64 ai)) (c1 : w.cell? ⟨g, 1, none⟩ = some (.int .i64 aw)) (c2 : w.cell? ⟨g, 2, none⟩ = some (.int .i64 bi)) (c3 : w.cell? ⟨g, 3, none⟩ = some (.int .i64 bw)) (h0 : (decide (0 < ai)) = false) :
 Calls Tryz.prog 91 #[.agg #[.int .i64 37, .int .i64 xa, .int .i64 xb, .int .i64 xc, .int .i64 n, .int .i64 m, .int .i64 xi, .int .i64 xw, .string nm], .slice (some ⟨g, 0, none⟩) 2 cap] w (ResPost (resN 37 n m ai aw bi bw ci cw) w) := by
 have hlt : g < w.heap.size := World.block_lt_of_cell? _ _ c0
 have HR := Lib.hid (show resN 37 n m ai aw bi bw ci cw = none by unfold resN; simp only [h0, Bool.and_false, Bool.false_and, Bool.true_and, Bool.and_true]; rfl)
 go_enter Tryz.func91, Tryz.ntmps91
 go_wp2
 obtain ⟨w2, hw2, HB, b0, b4, b5, r0, r1, f0, f1⟩ := res_world 37 n m xa xb xc xi xw nm w
 rw [hw2]
 clear hw2
 have c0 := back_cell c0 HB.out
 have c1 := back_cell c1 HB.out
 have c2 := back_cell c2 HB.out
 have c3 := back_cell c3 HB.out
 refine wp_region_two (G := w.heap.size + 1) 21 (.int .i64 0) (.int .i64 aw) (by kernel_rfl) (by kernel_rfl) rfl (by kernel_rfl) HB.out (Nat.le_succ _) r0 r1 f0 f1 ?_
 apply Exists.intro
 refine ⟨fun W hk => ?_, ?_, ?_, ?_⟩
 · have hg : g < w.heap.size + 1 := Nat.lt_succ_of_lt hlt
   have d0 := hk _ _ _ hg c0; have d1 := hk _ _ _ hg c1; have d2 := hk _ _ _ hg c2; have d3 := hk _ _ _ hg c3
   clear hk
   simp only [List.take_succ_cons, List.take_zero]
   repeat (go_big_quiet_step ((go_at_call 74; exact Calls.later (l2Word_calls _ _))))
   exact wpQuiet_nil rfl
 · rfl
 · intro u s0 s1 t0 t1
   go_simp
 · intro u hb s0 s1
   have hbel := Lib.hid hb
   simp only [List.drop_succ_cons, List.drop_zero]
   clear r0 r1 f0 f1 hb
   go_wp2
   exact bodyPost_ret (v := .tuple #[.agg #[.int .i64 0, .int .i64 aw], .bool false]) (by simp [results, Tryz.results91, go_sem, s0, s1]) rfl (respost_none HR.out hbel.out)
theorem l2Result_37_1 (n m ai aw bi bw ci cw xa xb xc xi xw : Int) (nm : ByteArray) (g cap : Nat) (w : World) (hcap : 2 ≤ cap) (c0 : w.cell? ⟨g, 0, none⟩ = some (.int .i64 ai)) (c1 : w.cell? ⟨g, 1, none⟩ = some (.int .i64 aw)) (c2 : w.cell? ⟨g, 2, none⟩ = some (.int .i64 bi)) (c3 : w.cell? ⟨g, 3, none⟩ = some (.int .i64 bw)) (h0 : (decide (0 < ai)) = true) (h1 : (bi == 0) = false) :
 Calls Tryz.prog 91 #[.agg #[.int .i64 37, .int .i64 xa, .int .i64 xb, .int .i64 xc, .int .i64 n, .int .i64 m, .int .i64 xi, .int .i64 xw, .string nm], .slice (some ⟨g, 0, none⟩) 2 cap] w (ResPost (resN 37 n m ai aw bi bw ci cw) w) := by
 have hlt : g < w.heap.size := World.block_lt_of_cell? _ _ c0
 have HR := Lib.hid (show resN 37 n m ai aw bi bw ci cw = none by unfold resN; simp only [h0, h1, Bool.and_false, Bool.false_and, Bool.true_and, Bool.and_true]; rfl)
 go_enter Tryz.func91, Tryz.ntmps91
 go_wp2
 obtain ⟨w2, hw2, HB, b0, b4, b5, r0, r1, f0, f1⟩ := res_world 37 n m xa xb xc xi xw nm w
 rw [hw2]
 clear hw2
 have c0 := back_cell c0 HB.out
 have c1 := back_cell c1 HB.out
 have c2 := back_cell c2 HB.out
 have c3 := back_cell c3 HB.out
 refine wp_region_two (G := w.heap.size + 1) 21 (.int .i64 0) (.int .i64 aw) (by kernel_rfl) (by kernel_rfl) rfl (by kernel_rfl) HB.out (Nat.le_succ _) r0 r1 f0 f1 ?_
 apply Exists.intro
 refine ⟨fun W hk => ?_, ?_, ?_, ?_⟩
 · have hg : g < w.heap.size + 1 := Nat.lt_succ_of_lt hlt
   have d0 := hk _ _ _ hg c0; have d1 := hk _ _ _ hg c1; have d2 := hk _ _ _ hg c2; have d3 := hk _ _ _ hg c3
   clear hk
   simp only [List.take_succ_cons, List.take_zero]
   repeat (go_big_quiet_step ((go_at_call 74; exact Calls.later (l2Word_calls _ _))))
   exact wpQuiet_nil rfl
 · rfl
 · intro u s0 s1 t0 t1
   go_simp
 · intro u hb s0 s1
   have hbel := Lib.hid hb
   simp only [List.drop_succ_cons, List.drop_zero]
   clear r0 r1 f0 f1 hb
   go_wp2
   exact bodyPost_ret (v := .tuple #[.agg #[.int .i64 0, .int .i64 aw], .bool false]) (by simp [results, Tryz.results91, go_sem, s0, s1]) rfl (respost_none HR.out hbel.out)
theorem l2Result_37_2 (n m ai aw bi bw ci cw xa xb xc xi xw : Int) (nm : ByteArray) (g cap : Nat) (w : World) (hcap : 2 ≤ cap) (c0 : w.cell? ⟨g, 0, none⟩ = some (.int .i64 ai)) (c1 : w.cell? ⟨g, 1, none⟩ = some (.int .i64 aw)) (c2 : w.cell? ⟨g, 2, none⟩ = some (.int .i64 bi)) (c3 : w.cell? ⟨g, 3, none⟩ = some (.int .i64 bw)) (h0 : (decide (0 < ai)) = true) (h1 : (bi == 0) = true) (h2 : (bw == ai) = false) :
 Calls Tryz.prog 91 #[.agg #[.int .i64 37, .int .i64 xa, .int .i64 xb, .int .i64 xc, .int .i64 n, .int .i64 m, .int .i64 xi, .int .i64 xw, .string nm], .slice (some ⟨g, 0, none⟩) 2 cap] w (ResPost (resN 37 n m ai aw bi bw ci cw) w) := by
 have hlt : g < w.heap.size := World.block_lt_of_cell? _ _ c0
 have HR := Lib.hid (show resN 37 n m ai aw bi bw ci cw = none by unfold resN; simp only [h0, h1, h2, Bool.and_false, Bool.false_and, Bool.true_and, Bool.and_true]; rfl)
 go_enter Tryz.func91, Tryz.ntmps91
 go_wp2
 obtain ⟨w2, hw2, HB, b0, b4, b5, r0, r1, f0, f1⟩ := res_world 37 n m xa xb xc xi xw nm w
 rw [hw2]
 clear hw2
 have c0 := back_cell c0 HB.out
 have c1 := back_cell c1 HB.out
 have c2 := back_cell c2 HB.out
 have c3 := back_cell c3 HB.out
 refine wp_region_two (G := w.heap.size + 1) 21 (.int .i64 0) (.int .i64 aw) (by kernel_rfl) (by kernel_rfl) rfl (by kernel_rfl) HB.out (Nat.le_succ _) r0 r1 f0 f1 ?_
 apply Exists.intro
 refine ⟨fun W hk => ?_, ?_, ?_, ?_⟩
 · have hg : g < w.heap.size + 1 := Nat.lt_succ_of_lt hlt
   have d0 := hk _ _ _ hg c0; have d1 := hk _ _ _ hg c1; have d2 := hk _ _ _ hg c2; have d3 := hk _ _ _ hg c3
   clear hk
   simp only [List.take_succ_cons, List.take_zero]
   repeat (go_big_quiet_step ((go_at_call 74; exact Calls.later (l2Word_calls _ _))))
   exact wpQuiet_nil rfl
 · rfl
 · intro u s0 s1 t0 t1
   go_simp
 · intro u hb s0 s1
   have hbel := Lib.hid hb
   simp only [List.drop_succ_cons, List.drop_zero]
   clear r0 r1 f0 f1 hb
   go_wp2
   exact bodyPost_ret (v := .tuple #[.agg #[.int .i64 0, .int .i64 aw], .bool false]) (by simp [results, Tryz.results91, go_sem, s0, s1]) rfl (respost_none HR.out hbel.out)
theorem l2Result_37_3 (n m ai aw bi bw ci cw xa xb xc xi xw : Int) (nm : ByteArray) (g cap : Nat) (w : World) (hcap : 2 ≤ cap) (c0 : w.cell? ⟨g, 0, none⟩ = some (.int .i64 ai)) (c1 : w.cell? ⟨g, 1, none⟩ = some (.int .i64 aw)) (c2 : w.cell? ⟨g, 2, none⟩ = some (.int .i64 bi)) (c3 : w.cell? ⟨g, 3, none⟩ = some (.int .i64 bw)) (h0 : (decide (0 < ai)) = true) (h1 : (bi == 0) = true) (h2 : (bw == ai) = true) :
 Calls Tryz.prog 91 #[.agg #[.int .i64 37, .int .i64 xa, .int .i64 xb, .int .i64 xc, .int .i64 n, .int .i64 m, .int .i64 xi, .int .i64 xw, .string nm], .slice (some ⟨g, 0, none⟩) 2 cap] w (ResPost (resN 37 n m ai aw bi bw ci cw) w) := by
 have hlt : g < w.heap.size := World.block_lt_of_cell? _ _ c0
 have HR := Lib.hid (show resN 37 n m ai aw bi bw ci cw = some (0, aw) by unfold resN; simp only [h0, h1, h2]; rfl)
 go_enter Tryz.func91, Tryz.ntmps91
 go_wp2
 obtain ⟨w2, hw2, HB, b0, b4, b5, r0, r1, f0, f1⟩ := res_world 37 n m xa xb xc xi xw nm w
 rw [hw2]
 clear hw2
 have c0 := back_cell c0 HB.out
 have c1 := back_cell c1 HB.out
 have c2 := back_cell c2 HB.out
 have c3 := back_cell c3 HB.out
 refine wp_region_two (G := w.heap.size + 1) 21 (.int .i64 0) (.int .i64 aw) (by kernel_rfl) (by kernel_rfl) rfl (by kernel_rfl) HB.out (Nat.le_succ _) r0 r1 f0 f1 ?_
 apply Exists.intro
 refine ⟨fun W hk => ?_, ?_, ?_, ?_⟩
 · have hg : g < w.heap.size + 1 := Nat.lt_succ_of_lt hlt
   have d0 := hk _ _ _ hg c0; have d1 := hk _ _ _ hg c1; have d2 := hk _ _ _ hg c2; have d3 := hk _ _ _ hg c3
   clear hk
   simp only [List.take_succ_cons, List.take_zero]
   repeat (go_big_quiet_step ((go_at_call 74; exact Calls.later (l2Word_calls _ _))))
   exact wpQuiet_nil rfl
 · rfl
 · intro u s0 s1 t0 t1
   go_simp
 · intro u hb s0 s1
   have hbel := Lib.hid hb
   simp only [List.drop_succ_cons, List.drop_zero]
   clear r0 r1 f0 f1 hb
   go_wp2
   exact bodyPost_ret (v := .tuple #[.agg #[.int .i64 0, .int .i64 aw], .bool true]) (by simp [results, Tryz.results91, go_sem, s0, s1]) rfl (respost_some HR.out hbel.out)
theorem l2Result_37 (n m ai aw bi bw ci cw xa xb xc xi xw : Int) (nm : ByteArray) (g cap : Nat) (w : World) (hcap : 2 ≤ cap) (c0 : w.cell? ⟨g, 0, none⟩ = some (.int .i64 ai)) (c1 : w.cell? ⟨g, 1, none⟩ = some (.int .i64 aw)) (c2 : w.cell? ⟨g, 2, none⟩ = some (.int .i64 bi)) (c3 : w.cell? ⟨g, 3, none⟩ = some (.int .i64 bw)) :
 Calls Tryz.prog 91 #[.agg #[.int .i64 37, .int .i64 xa, .int .i64 xb, .int .i64 xc, .int .i64 n, .int .i64 m, .int .i64 xi, .int .i64 xw, .string nm], .slice (some ⟨g, 0, none⟩) 2 cap] w (ResPost (resN 37 n m ai aw bi bw ci cw) w) := by
 by_cases h0 : (decide (0 < ai)) = true
 rotate_left
 · exact l2Result_37_0 n m ai aw bi bw ci cw xa xb xc xi xw nm g cap w hcap c0 c1 c2 c3  (eq_false_of_ne_true h0)
 by_cases h1 : (bi == 0) = true
 rotate_left
 · exact l2Result_37_1 n m ai aw bi bw ci cw xa xb xc xi xw nm g cap w hcap c0 c1 c2 c3 h0 (eq_false_of_ne_true h1)
 by_cases h2 : (bw == ai) = true
 rotate_left
 · exact l2Result_37_2 n m ai aw bi bw ci cw xa xb xc xi xw nm g cap w hcap c0 c1 c2 c3 h0 h1 (eq_false_of_ne_true h2)
 exact l2Result_37_3 n m ai aw bi bw ci cw xa xb xc xi xw nm g cap w hcap c0 c1 c2 c3 h0 h1 h2
theorem l2Result_38_0 (n m ai aw bi bw ci cw xa xb xc xi xw : Int) (nm : ByteArray) (g cap : Nat) (w : World) (hcap : 3 ≤ cap) (c0 : w.cell? ⟨g, 0, none⟩ = some (.int .i64 ai)) (c1 : w.cell? ⟨g, 1, none⟩ = some (.int .i64 aw)) (c2 : w.cell? ⟨g, 2, none⟩ = some (.int .i64 bi)) (c3 : w.cell? ⟨g, 3, none⟩ = some (.int .i64 bw)) (c4 : w.cell? ⟨g, 4, none⟩ = some (.int .i64 ci)) (c5 : w.cell? ⟨g, 5, none⟩ = some (.int .i64 cw)) (h0 : (decide (0 < ai)) = false) :
 Calls Tryz.prog 91 #[.agg #[.int .i64 38, .int .i64 xa, .int .i64 xb, .int .i64 xc, .int .i64 n, .int .i64 m, .int .i64 xi, .int .i64 xw, .string nm], .slice (some ⟨g, 0, none⟩) 3 cap] w (ResPost (resN 38 n m ai aw bi bw ci cw) w) := by
 have hlt : g < w.heap.size := World.block_lt_of_cell? _ _ c0
 have HR := Lib.hid (show resN 38 n m ai aw bi bw ci cw = none by unfold resN; simp only [h0, Bool.and_false, Bool.false_and, Bool.true_and, Bool.and_true]; rfl)
 go_enter Tryz.func91, Tryz.ntmps91
 go_wp2
 obtain ⟨w2, hw2, HB, b0, b4, b5, r0, r1, f0, f1⟩ := res_world 38 n m xa xb xc xi xw nm w
 rw [hw2]
 clear hw2
 have c0 := back_cell c0 HB.out
 have c1 := back_cell c1 HB.out
 have c2 := back_cell c2 HB.out
 have c3 := back_cell c3 HB.out
 have c4 := back_cell c4 HB.out
 have c5 := back_cell c5 HB.out
 refine wp_region_two (G := w.heap.size + 1) 30 (.int .i64 ai) (.int .i64 aw) (by kernel_rfl) (by kernel_rfl) rfl (by kernel_rfl) HB.out (Nat.le_succ _) r0 r1 f0 f1 ?_
 apply Exists.intro
 refine ⟨fun W hk => ?_, ?_, ?_, ?_⟩
 · have hg : g < w.heap.size + 1 := Nat.lt_succ_of_lt hlt
   have d0 := hk _ _ _ hg c0; have d1 := hk _ _ _ hg c1; have d2 := hk _ _ _ hg c2; have d3 := hk _ _ _ hg c3; have d4 := hk _ _ _ hg c4; have d5 := hk _ _ _ hg c5
   clear hk
   simp only [List.take_succ_cons, List.take_zero]
   repeat (go_big_quiet_step ((go_at_call 74; exact Calls.later (l2Word_calls _ _))))
   exact wpQuiet_nil rfl
 · rfl
 · intro u s0 s1 t0 t1
   go_simp
 · intro u hb s0 s1
   have hbel := Lib.hid hb
   simp only [List.drop_succ_cons, List.drop_zero]
   clear r0 r1 f0 f1 hb
   go_wp2
   exact bodyPost_ret (v := .tuple #[.agg #[.int .i64 ai, .int .i64 aw], .bool false]) (by simp [results, Tryz.results91, go_sem, s0, s1]) rfl (respost_none HR.out hbel.out)
theorem l2Result_38_1 (n m ai aw bi bw ci cw xa xb xc xi xw : Int) (nm : ByteArray) (g cap : Nat) (w : World) (hcap : 3 ≤ cap) (c0 : w.cell? ⟨g, 0, none⟩ = some (.int .i64 ai)) (c1 : w.cell? ⟨g, 1, none⟩ = some (.int .i64 aw)) (c2 : w.cell? ⟨g, 2, none⟩ = some (.int .i64 bi)) (c3 : w.cell? ⟨g, 3, none⟩ = some (.int .i64 bw)) (c4 : w.cell? ⟨g, 4, none⟩ = some (.int .i64 ci)) (c5 : w.cell? ⟨g, 5, none⟩ = some (.int .i64 cw)) (h0 : (decide (0 < ai)) = true) (h1 : (bi == 0) = false) :
 Calls Tryz.prog 91 #[.agg #[.int .i64 38, .int .i64 xa, .int .i64 xb, .int .i64 xc, .int .i64 n, .int .i64 m, .int .i64 xi, .int .i64 xw, .string nm], .slice (some ⟨g, 0, none⟩) 3 cap] w (ResPost (resN 38 n m ai aw bi bw ci cw) w) := by
 have hlt : g < w.heap.size := World.block_lt_of_cell? _ _ c0
 have HR := Lib.hid (show resN 38 n m ai aw bi bw ci cw = none by unfold resN; simp only [h0, h1, Bool.and_false, Bool.false_and, Bool.true_and, Bool.and_true]; rfl)
 go_enter Tryz.func91, Tryz.ntmps91
 go_wp2
 obtain ⟨w2, hw2, HB, b0, b4, b5, r0, r1, f0, f1⟩ := res_world 38 n m xa xb xc xi xw nm w
 rw [hw2]
 clear hw2
 have c0 := back_cell c0 HB.out
 have c1 := back_cell c1 HB.out
 have c2 := back_cell c2 HB.out
 have c3 := back_cell c3 HB.out
 have c4 := back_cell c4 HB.out
 have c5 := back_cell c5 HB.out
 refine wp_region_two (G := w.heap.size + 1) 30 (.int .i64 ai) (.int .i64 aw) (by kernel_rfl) (by kernel_rfl) rfl (by kernel_rfl) HB.out (Nat.le_succ _) r0 r1 f0 f1 ?_
 apply Exists.intro
 refine ⟨fun W hk => ?_, ?_, ?_, ?_⟩
 · have hg : g < w.heap.size + 1 := Nat.lt_succ_of_lt hlt
   have d0 := hk _ _ _ hg c0; have d1 := hk _ _ _ hg c1; have d2 := hk _ _ _ hg c2; have d3 := hk _ _ _ hg c3; have d4 := hk _ _ _ hg c4; have d5 := hk _ _ _ hg c5
   clear hk
   simp only [List.take_succ_cons, List.take_zero]
   repeat (go_big_quiet_step ((go_at_call 74; exact Calls.later (l2Word_calls _ _))))
   exact wpQuiet_nil rfl
 · rfl
 · intro u s0 s1 t0 t1
   go_simp
 · intro u hb s0 s1
   have hbel := Lib.hid hb
   simp only [List.drop_succ_cons, List.drop_zero]
   clear r0 r1 f0 f1 hb
   go_wp2
   exact bodyPost_ret (v := .tuple #[.agg #[.int .i64 ai, .int .i64 aw], .bool false]) (by simp [results, Tryz.results91, go_sem, s0, s1]) rfl (respost_none HR.out hbel.out)
theorem l2Result_38_2 (n m ai aw bi bw ci cw xa xb xc xi xw : Int) (nm : ByteArray) (g cap : Nat) (w : World) (hcap : 3 ≤ cap) (c0 : w.cell? ⟨g, 0, none⟩ = some (.int .i64 ai)) (c1 : w.cell? ⟨g, 1, none⟩ = some (.int .i64 aw)) (c2 : w.cell? ⟨g, 2, none⟩ = some (.int .i64 bi)) (c3 : w.cell? ⟨g, 3, none⟩ = some (.int .i64 bw)) (c4 : w.cell? ⟨g, 4, none⟩ = some (.int .i64 ci)) (c5 : w.cell? ⟨g, 5, none⟩ = some (.int .i64 cw)) (h0 : (decide (0 < ai)) = true) (h1 : (bi == 0) = true) (h2 : (bw == ai) = false) :
 Calls Tryz.prog 91 #[.agg #[.int .i64 38, .int .i64 xa, .int .i64 xb, .int .i64 xc, .int .i64 n, .int .i64 m, .int .i64 xi, .int .i64 xw, .string nm], .slice (some ⟨g, 0, none⟩) 3 cap] w (ResPost (resN 38 n m ai aw bi bw ci cw) w) := by
 have hlt : g < w.heap.size := World.block_lt_of_cell? _ _ c0
 have HR := Lib.hid (show resN 38 n m ai aw bi bw ci cw = none by unfold resN; simp only [h0, h1, h2, Bool.and_false, Bool.false_and, Bool.true_and, Bool.and_true]; rfl)
 go_enter Tryz.func91, Tryz.ntmps91
 go_wp2
 obtain ⟨w2, hw2, HB, b0, b4, b5, r0, r1, f0, f1⟩ := res_world 38 n m xa xb xc xi xw nm w
 rw [hw2]
 clear hw2
 have c0 := back_cell c0 HB.out
 have c1 := back_cell c1 HB.out
 have c2 := back_cell c2 HB.out
 have c3 := back_cell c3 HB.out
 have c4 := back_cell c4 HB.out
 have c5 := back_cell c5 HB.out
 refine wp_region_two (G := w.heap.size + 1) 30 (.int .i64 ai) (.int .i64 aw) (by kernel_rfl) (by kernel_rfl) rfl (by kernel_rfl) HB.out (Nat.le_succ _) r0 r1 f0 f1 ?_
 apply Exists.intro
 refine ⟨fun W hk => ?_, ?_, ?_, ?_⟩
 · have hg : g < w.heap.size + 1 := Nat.lt_succ_of_lt hlt
   have d0 := hk _ _ _ hg c0; have d1 := hk _ _ _ hg c1; have d2 := hk _ _ _ hg c2; have d3 := hk _ _ _ hg c3; have d4 := hk _ _ _ hg c4; have d5 := hk _ _ _ hg c5
   clear hk
   simp only [List.take_succ_cons, List.take_zero]
   repeat (go_big_quiet_step ((go_at_call 74; exact Calls.later (l2Word_calls _ _))))
   exact wpQuiet_nil rfl
 · rfl
 · intro u s0 s1 t0 t1
   go_simp
 · intro u hb s0 s1
   have hbel := Lib.hid hb
   simp only [List.drop_succ_cons, List.drop_zero]
   clear r0 r1 f0 f1 hb
   go_wp2
   exact bodyPost_ret (v := .tuple #[.agg #[.int .i64 ai, .int .i64 aw], .bool false]) (by simp [results, Tryz.results91, go_sem, s0, s1]) rfl (respost_none HR.out hbel.out)
theorem l2Result_38_3 (n m ai aw bi bw ci cw xa xb xc xi xw : Int) (nm : ByteArray) (g cap : Nat) (w : World) (hcap : 3 ≤ cap) (c0 : w.cell? ⟨g, 0, none⟩ = some (.int .i64 ai)) (c1 : w.cell? ⟨g, 1, none⟩ = some (.int .i64 aw)) (c2 : w.cell? ⟨g, 2, none⟩ = some (.int .i64 bi)) (c3 : w.cell? ⟨g, 3, none⟩ = some (.int .i64 bw)) (c4 : w.cell? ⟨g, 4, none⟩ = some (.int .i64 ci)) (c5 : w.cell? ⟨g, 5, none⟩ = some (.int .i64 cw)) (h0 : (decide (0 < ai)) = true) (h1 : (bi == 0) = true) (h2 : (bw == ai) = true) (h3 : (ci == 0) = false) :
 Calls Tryz.prog 91 #[.agg #[.int .i64 38, .int .i64 xa, .int .i64 xb, .int .i64 xc, .int .i64 n, .int .i64 m, .int .i64 xi, .int .i64 xw, .string nm], .slice (some ⟨g, 0, none⟩) 3 cap] w (ResPost (resN 38 n m ai aw bi bw ci cw) w) := by
 have hlt : g < w.heap.size := World.block_lt_of_cell? _ _ c0
 have HR := Lib.hid (show resN 38 n m ai aw bi bw ci cw = none by unfold resN; simp only [h0, h1, h2, h3, Bool.and_false, Bool.false_and, Bool.true_and, Bool.and_true]; rfl)
 go_enter Tryz.func91, Tryz.ntmps91
 go_wp2
 obtain ⟨w2, hw2, HB, b0, b4, b5, r0, r1, f0, f1⟩ := res_world 38 n m xa xb xc xi xw nm w
 rw [hw2]
 clear hw2
 have c0 := back_cell c0 HB.out
 have c1 := back_cell c1 HB.out
 have c2 := back_cell c2 HB.out
 have c3 := back_cell c3 HB.out
 have c4 := back_cell c4 HB.out
 have c5 := back_cell c5 HB.out
 refine wp_region_two (G := w.heap.size + 1) 30 (.int .i64 ai) (.int .i64 aw) (by kernel_rfl) (by kernel_rfl) rfl (by kernel_rfl) HB.out (Nat.le_succ _) r0 r1 f0 f1 ?_
 apply Exists.intro
 refine ⟨fun W hk => ?_, ?_, ?_, ?_⟩
 · have hg : g < w.heap.size + 1 := Nat.lt_succ_of_lt hlt
   have d0 := hk _ _ _ hg c0; have d1 := hk _ _ _ hg c1; have d2 := hk _ _ _ hg c2; have d3 := hk _ _ _ hg c3; have d4 := hk _ _ _ hg c4; have d5 := hk _ _ _ hg c5
   clear hk
   simp only [List.take_succ_cons, List.take_zero]
   repeat (go_big_quiet_step ((go_at_call 74; exact Calls.later (l2Word_calls _ _))))
   exact wpQuiet_nil rfl
 · rfl
 · intro u s0 s1 t0 t1
   go_simp
 · intro u hb s0 s1
   have hbel := Lib.hid hb
   simp only [List.drop_succ_cons, List.drop_zero]
   clear r0 r1 f0 f1 hb
   go_wp2
   exact bodyPost_ret (v := .tuple #[.agg #[.int .i64 ai, .int .i64 aw], .bool false]) (by simp [results, Tryz.results91, go_sem, s0, s1]) rfl (respost_none HR.out hbel.out)
theorem l2Result_38_4 (n m ai aw bi bw ci cw xa xb xc xi xw : Int) (nm : ByteArray) (g cap : Nat) (w : World) (hcap : 3 ≤ cap) (c0 : w.cell? ⟨g, 0, none⟩ = some (.int .i64 ai)) (c1 : w.cell? ⟨g, 1, none⟩ = some (.int .i64 aw)) (c2 : w.cell? ⟨g, 2, none⟩ = some (.int .i64 bi)) (c3 : w.cell? ⟨g, 3, none⟩ = some (.int .i64 bw)) (c4 : w.cell? ⟨g, 4, none⟩ = some (.int .i64 ci)) (c5 : w.cell? ⟨g, 5, none⟩ = some (.int .i64 cw)) (h0 : (decide (0 < ai)) = true) (h1 : (bi == 0) = true) (h2 : (bw == ai) = true) (h3 : (ci == 0) = true) (h4 : (cw == aw) = false) :
 Calls Tryz.prog 91 #[.agg #[.int .i64 38, .int .i64 xa, .int .i64 xb, .int .i64 xc, .int .i64 n, .int .i64 m, .int .i64 xi, .int .i64 xw, .string nm], .slice (some ⟨g, 0, none⟩) 3 cap] w (ResPost (resN 38 n m ai aw bi bw ci cw) w) := by
 have hlt : g < w.heap.size := World.block_lt_of_cell? _ _ c0
 have HR := Lib.hid (show resN 38 n m ai aw bi bw ci cw = none by unfold resN; simp only [h0, h1, h2, h3, h4, Bool.and_false, Bool.false_and, Bool.true_and, Bool.and_true]; rfl)
 go_enter Tryz.func91, Tryz.ntmps91
 go_wp2
 obtain ⟨w2, hw2, HB, b0, b4, b5, r0, r1, f0, f1⟩ := res_world 38 n m xa xb xc xi xw nm w
 rw [hw2]
 clear hw2
 have c0 := back_cell c0 HB.out
 have c1 := back_cell c1 HB.out
 have c2 := back_cell c2 HB.out
 have c3 := back_cell c3 HB.out
 have c4 := back_cell c4 HB.out
 have c5 := back_cell c5 HB.out
 refine wp_region_two (G := w.heap.size + 1) 30 (.int .i64 ai) (.int .i64 aw) (by kernel_rfl) (by kernel_rfl) rfl (by kernel_rfl) HB.out (Nat.le_succ _) r0 r1 f0 f1 ?_
 apply Exists.intro
 refine ⟨fun W hk => ?_, ?_, ?_, ?_⟩
 · have hg : g < w.heap.size + 1 := Nat.lt_succ_of_lt hlt
   have d0 := hk _ _ _ hg c0; have d1 := hk _ _ _ hg c1; have d2 := hk _ _ _ hg c2; have d3 := hk _ _ _ hg c3; have d4 := hk _ _ _ hg c4; have d5 := hk _ _ _ hg c5
   clear hk
   simp only [List.take_succ_cons, List.take_zero]
   repeat (go_big_quiet_step ((go_at_call 74; exact Calls.later (l2Word_calls _ _))))
   exact wpQuiet_nil rfl
 · rfl
 · intro u s0 s1 t0 t1
   go_simp
 · intro u hb s0 s1
   have hbel := Lib.hid hb
   simp only [List.drop_succ_cons, List.drop_zero]
   clear r0 r1 f0 f1 hb
   go_wp2
   exact bodyPost_ret (v := .tuple #[.agg #[.int .i64 ai, .int .i64 aw], .bool false]) (by simp [results, Tryz.results91, go_sem, s0, s1]) rfl (respost_none HR.out hbel.out)
theorem l2Result_38_5 (n m ai aw bi bw ci cw xa xb xc xi xw : Int) (nm : ByteArray) (g cap : Nat) (w : World) (hcap : 3 ≤ cap) (c0 : w.cell? ⟨g, 0, none⟩ = some (.int .i64 ai)) (c1 : w.cell? ⟨g, 1, none⟩ = some (.int .i64 aw)) (c2 : w.cell? ⟨g, 2, none⟩ = some (.int .i64 bi)) (c3 : w.cell? ⟨g, 3, none⟩ = some (.int .i64 bw)) (c4 : w.cell? ⟨g, 4, none⟩ = some (.int .i64 ci)) (c5 : w.cell? ⟨g, 5, none⟩ = some (.int .i64 cw)) (h0 : (decide (0 < ai)) = true) (h1 : (bi == 0) = true) (h2 : (bw == ai) = true) (h3 : (ci == 0) = true) (h4 : (cw == aw) = true) :
 Calls Tryz.prog 91 #[.agg #[.int .i64 38, .int .i64 xa, .int .i64 xb, .int .i64 xc, .int .i64 n, .int .i64 m, .int .i64 xi, .int .i64 xw, .string nm], .slice (some ⟨g, 0, none⟩) 3 cap] w (ResPost (resN 38 n m ai aw bi bw ci cw) w) := by
 have hlt : g < w.heap.size := World.block_lt_of_cell? _ _ c0
 have HR := Lib.hid (show resN 38 n m ai aw bi bw ci cw = some (ai, aw) by unfold resN; simp only [h0, h1, h2, h3, h4]; rfl)
 go_enter Tryz.func91, Tryz.ntmps91
 go_wp2
 obtain ⟨w2, hw2, HB, b0, b4, b5, r0, r1, f0, f1⟩ := res_world 38 n m xa xb xc xi xw nm w
 rw [hw2]
 clear hw2
 have c0 := back_cell c0 HB.out
 have c1 := back_cell c1 HB.out
 have c2 := back_cell c2 HB.out
 have c3 := back_cell c3 HB.out
 have c4 := back_cell c4 HB.out
 have c5 := back_cell c5 HB.out
 refine wp_region_two (G := w.heap.size + 1) 30 (.int .i64 ai) (.int .i64 aw) (by kernel_rfl) (by kernel_rfl) rfl (by kernel_rfl) HB.out (Nat.le_succ _) r0 r1 f0 f1 ?_
 apply Exists.intro
 refine ⟨fun W hk => ?_, ?_, ?_, ?_⟩
 · have hg : g < w.heap.size + 1 := Nat.lt_succ_of_lt hlt
   have d0 := hk _ _ _ hg c0; have d1 := hk _ _ _ hg c1; have d2 := hk _ _ _ hg c2; have d3 := hk _ _ _ hg c3; have d4 := hk _ _ _ hg c4; have d5 := hk _ _ _ hg c5
   clear hk
   simp only [List.take_succ_cons, List.take_zero]
   repeat (go_big_quiet_step ((go_at_call 74; exact Calls.later (l2Word_calls _ _))))
   exact wpQuiet_nil rfl
 · rfl
 · intro u s0 s1 t0 t1
   go_simp
 · intro u hb s0 s1
   have hbel := Lib.hid hb
   simp only [List.drop_succ_cons, List.drop_zero]
   clear r0 r1 f0 f1 hb
   go_wp2
   exact bodyPost_ret (v := .tuple #[.agg #[.int .i64 ai, .int .i64 aw], .bool true]) (by simp [results, Tryz.results91, go_sem, s0, s1]) rfl (respost_some HR.out hbel.out)
theorem l2Result_38 (n m ai aw bi bw ci cw xa xb xc xi xw : Int) (nm : ByteArray) (g cap : Nat) (w : World) (hcap : 3 ≤ cap) (c0 : w.cell? ⟨g, 0, none⟩ = some (.int .i64 ai)) (c1 : w.cell? ⟨g, 1, none⟩ = some (.int .i64 aw)) (c2 : w.cell? ⟨g, 2, none⟩ = some (.int .i64 bi)) (c3 : w.cell? ⟨g, 3, none⟩ = some (.int .i64 bw)) (c4 : w.cell? ⟨g, 4, none⟩ = some (.int .i64 ci)) (c5 : w.cell? ⟨g, 5, none⟩ = some (.int .i64 cw)) :
 Calls Tryz.prog 91 #[.agg #[.int .i64 38, .int .i64 xa, .int .i64 xb, .int .i64 xc, .int .i64 n, .int .i64 m, .int .i64 xi, .int .i64 xw, .string nm], .slice (some ⟨g, 0, none⟩) 3 cap] w (ResPost (resN 38 n m ai aw bi bw ci cw) w) := by
 by_cases h0 : (decide (0 < ai)) = true
 rotate_left
 · exact l2Result_38_0 n m ai aw bi bw ci cw xa xb xc xi xw nm g cap w hcap c0 c1 c2 c3 c4 c5  (eq_false_of_ne_true h0)
 by_cases h1 : (bi == 0) = true
 rotate_left
 · exact l2Result_38_1 n m ai aw bi bw ci cw xa xb xc xi xw nm g cap w hcap c0 c1 c2 c3 c4 c5 h0 (eq_false_of_ne_true h1)
 by_cases h2 : (bw == ai) = true
 rotate_left
 · exact l2Result_38_2 n m ai aw bi bw ci cw xa xb xc xi xw nm g cap w hcap c0 c1 c2 c3 c4 c5 h0 h1 (eq_false_of_ne_true h2)
 by_cases h3 : (ci == 0) = true
 rotate_left
 · exact l2Result_38_3 n m ai aw bi bw ci cw xa xb xc xi xw nm g cap w hcap c0 c1 c2 c3 c4 c5 h0 h1 h2 (eq_false_of_ne_true h3)
 by_cases h4 : (cw == aw) = true
 rotate_left
 · exact l2Result_38_4 n m ai aw bi bw ci cw xa xb xc xi xw nm g cap w hcap c0 c1 c2 c3 c4 c5 h0 h1 h2 h3 (eq_false_of_ne_true h4)
 exact l2Result_38_5 n m ai aw bi bw ci cw xa xb xc xi xw nm g cap w hcap c0 c1 c2 c3 c4 c5 h0 h1 h2 h3 h4
theorem l2Result_21_0 (n m ai aw bi bw ci cw xa xb xc xi xw : Int) (nm : ByteArray) (g cap : Nat) (w : World) (hcap : 2 ≤ cap) (c0 : w.cell? ⟨g, 0, none⟩ = some (.int .i64 ai)) (c1 : w.cell? ⟨g, 1, none⟩ = some (.int .i64 aw)) (c2 : w.cell? ⟨g, 2, none⟩ = some (.int .i64 bi)) (c3 : w.cell? ⟨g, 3, none⟩ = some (.int .i64 bw)) (h0 : (ai == bi) = false) :
 Calls Tryz.prog 91 #[.agg #[.int .i64 21, .int .i64 xa, .int .i64 xb, .int .i64 xc, .int .i64 n, .int .i64 m, .int .i64 xi, .int .i64 xw, .string nm], .slice (some ⟨g, 0, none⟩) 2 cap] w (ResPost (resN 21 n m ai aw bi bw ci cw) w) := by
 have hlt : g < w.heap.size := World.block_lt_of_cell? _ _ c0
 have HR := Lib.hid (show resN 21 n m ai aw bi bw ci cw = none by unfold resN; simp only [h0, Bool.and_false, Bool.false_and, Bool.true_and, Bool.and_true]; rfl)
 go_enter Tryz.func91, Tryz.ntmps91
 go_wp2
 obtain ⟨w2, hw2, HB, b0, b4, b5, r0, r1, f0, f1⟩ := res_world 21 n m xa xb xc xi xw nm w
 rw [hw2]
 clear hw2
 have c0 := back_cell c0 HB.out
 have c1 := back_cell c1 HB.out
 have c2 := back_cell c2 HB.out
 have c3 := back_cell c3 HB.out
 refine wp_region_two (G := w.heap.size + 1) 8 (.int .i64 0) (.int .i64 1) (by kernel_rfl) (by kernel_rfl) rfl (by kernel_rfl) HB.out (Nat.le_succ _) r0 r1 f0 f1 ?_
 apply Exists.intro
 refine ⟨fun W hk => ?_, ?_, ?_, ?_⟩
 · have hg : g < w.heap.size + 1 := Nat.lt_succ_of_lt hlt
   have d0 := hk _ _ _ hg c0; have d1 := hk _ _ _ hg c1; have d2 := hk _ _ _ hg c2; have d3 := hk _ _ _ hg c3
   clear hk
   simp only [List.take_succ_cons, List.take_zero]
   repeat (go_big_quiet_step ((go_at_call 74; exact Calls.later (l2Word_calls _ _))))
   exact wpQuiet_nil rfl
 · rfl
 · intro u s0 s1 t0 t1
   go_simp
 · intro u hb s0 s1
   have hbel := Lib.hid hb
   simp only [List.drop_succ_cons, List.drop_zero]
   clear r0 r1 f0 f1 hb
   go_wp2
   exact bodyPost_ret (v := .tuple #[.agg #[.int .i64 0, .int .i64 1], .bool false]) (by simp [results, Tryz.results91, go_sem, s0, s1]) rfl (respost_none HR.out hbel.out)
theorem l2Result_21_1 (n m ai aw bi bw ci cw xa xb xc xi xw : Int) (nm : ByteArray) (g cap : Nat) (w : World) (hcap : 2 ≤ cap) (c0 : w.cell? ⟨g, 0, none⟩ = some (.int .i64 ai)) (c1 : w.cell? ⟨g, 1, none⟩ = some (.int .i64 aw)) (c2 : w.cell? ⟨g, 2, none⟩ = some (.int .i64 bi)) (c3 : w.cell? ⟨g, 3, none⟩ = some (.int .i64 bw)) (h0 : (ai == bi) = true) (h1 : (aw == bw) = false) :
 Calls Tryz.prog 91 #[.agg #[.int .i64 21, .int .i64 xa, .int .i64 xb, .int .i64 xc, .int .i64 n, .int .i64 m, .int .i64 xi, .int .i64 xw, .string nm], .slice (some ⟨g, 0, none⟩) 2 cap] w (ResPost (resN 21 n m ai aw bi bw ci cw) w) := by
 have hlt : g < w.heap.size := World.block_lt_of_cell? _ _ c0
 have HR := Lib.hid (show resN 21 n m ai aw bi bw ci cw = none by unfold resN; simp only [h0, h1, Bool.and_false, Bool.false_and, Bool.true_and, Bool.and_true]; rfl)
 go_enter Tryz.func91, Tryz.ntmps91
 go_wp2
 obtain ⟨w2, hw2, HB, b0, b4, b5, r0, r1, f0, f1⟩ := res_world 21 n m xa xb xc xi xw nm w
 rw [hw2]
 clear hw2
 have c0 := back_cell c0 HB.out
 have c1 := back_cell c1 HB.out
 have c2 := back_cell c2 HB.out
 have c3 := back_cell c3 HB.out
 refine wp_region_two (G := w.heap.size + 1) 8 (.int .i64 0) (.int .i64 1) (by kernel_rfl) (by kernel_rfl) rfl (by kernel_rfl) HB.out (Nat.le_succ _) r0 r1 f0 f1 ?_
 apply Exists.intro
 refine ⟨fun W hk => ?_, ?_, ?_, ?_⟩
 · have hg : g < w.heap.size + 1 := Nat.lt_succ_of_lt hlt
   have d0 := hk _ _ _ hg c0; have d1 := hk _ _ _ hg c1; have d2 := hk _ _ _ hg c2; have d3 := hk _ _ _ hg c3
   clear hk
   simp only [List.take_succ_cons, List.take_zero]
   repeat (go_big_quiet_step ((go_at_call 74; exact Calls.later (l2Word_calls _ _))))
   exact wpQuiet_nil rfl
 · rfl
 · intro u s0 s1 t0 t1
   go_simp
 · intro u hb s0 s1
   have hbel := Lib.hid hb
   simp only [List.drop_succ_cons, List.drop_zero]
   clear r0 r1 f0 f1 hb
   go_wp2
   exact bodyPost_ret (v := .tuple #[.agg #[.int .i64 0, .int .i64 1], .bool false]) (by simp [results, Tryz.results91, go_sem, s0, s1]) rfl (respost_none HR.out hbel.out)
theorem l2Result_21_2 (n m ai aw bi bw ci cw xa xb xc xi xw : Int) (nm : ByteArray) (g cap : Nat) (w : World) (hcap : 2 ≤ cap) (c0 : w.cell? ⟨g, 0, none⟩ = some (.int .i64 ai)) (c1 : w.cell? ⟨g, 1, none⟩ = some (.int .i64 aw)) (c2 : w.cell? ⟨g, 2, none⟩ = some (.int .i64 bi)) (c3 : w.cell? ⟨g, 3, none⟩ = some (.int .i64 bw)) (h0 : (ai == bi) = true) (h1 : (aw == bw) = true) :
 Calls Tryz.prog 91 #[.agg #[.int .i64 21, .int .i64 xa, .int .i64 xb, .int .i64 xc, .int .i64 n, .int .i64 m, .int .i64 xi, .int .i64 xw, .string nm], .slice (some ⟨g, 0, none⟩) 2 cap] w (ResPost (resN 21 n m ai aw bi bw ci cw) w) := by
 have hlt : g < w.heap.size := World.block_lt_of_cell? _ _ c0
 have HR := Lib.hid (show resN 21 n m ai aw bi bw ci cw = some (0, 1) by unfold resN; simp only [h0, h1]; rfl)
 go_enter Tryz.func91, Tryz.ntmps91
 go_wp2
 obtain ⟨w2, hw2, HB, b0, b4, b5, r0, r1, f0, f1⟩ := res_world 21 n m xa xb xc xi xw nm w
 rw [hw2]
 clear hw2
 have c0 := back_cell c0 HB.out
 have c1 := back_cell c1 HB.out
 have c2 := back_cell c2 HB.out
 have c3 := back_cell c3 HB.out
 refine wp_region_two (G := w.heap.size + 1) 8 (.int .i64 0) (.int .i64 1) (by kernel_rfl) (by kernel_rfl) rfl (by kernel_rfl) HB.out (Nat.le_succ _) r0 r1 f0 f1 ?_
 apply Exists.intro
 refine ⟨fun W hk => ?_, ?_, ?_, ?_⟩
 · have hg : g < w.heap.size + 1 := Nat.lt_succ_of_lt hlt
   have d0 := hk _ _ _ hg c0; have d1 := hk _ _ _ hg c1; have d2 := hk _ _ _ hg c2; have d3 := hk _ _ _ hg c3
   clear hk
   simp only [List.take_succ_cons, List.take_zero]
   repeat (go_big_quiet_step ((go_at_call 74; exact Calls.later (l2Word_calls _ _))))
   exact wpQuiet_nil rfl
 · rfl
 · intro u s0 s1 t0 t1
   go_simp
 · intro u hb s0 s1
   have hbel := Lib.hid hb
   simp only [List.drop_succ_cons, List.drop_zero]
   clear r0 r1 f0 f1 hb
   go_wp2
   exact bodyPost_ret (v := .tuple #[.agg #[.int .i64 0, .int .i64 1], .bool true]) (by simp [results, Tryz.results91, go_sem, s0, s1]) rfl (respost_some HR.out hbel.out)
theorem l2Result_21 (n m ai aw bi bw ci cw xa xb xc xi xw : Int) (nm : ByteArray) (g cap : Nat) (w : World) (hcap : 2 ≤ cap) (c0 : w.cell? ⟨g, 0, none⟩ = some (.int .i64 ai)) (c1 : w.cell? ⟨g, 1, none⟩ = some (.int .i64 aw)) (c2 : w.cell? ⟨g, 2, none⟩ = some (.int .i64 bi)) (c3 : w.cell? ⟨g, 3, none⟩ = some (.int .i64 bw)) :
 Calls Tryz.prog 91 #[.agg #[.int .i64 21, .int .i64 xa, .int .i64 xb, .int .i64 xc, .int .i64 n, .int .i64 m, .int .i64 xi, .int .i64 xw, .string nm], .slice (some ⟨g, 0, none⟩) 2 cap] w (ResPost (resN 21 n m ai aw bi bw ci cw) w) := by
 by_cases h0 : (ai == bi) = true
 rotate_left
 · exact l2Result_21_0 n m ai aw bi bw ci cw xa xb xc xi xw nm g cap w hcap c0 c1 c2 c3  (eq_false_of_ne_true h0)
 by_cases h1 : (aw == bw) = true
 rotate_left
 · exact l2Result_21_1 n m ai aw bi bw ci cw xa xb xc xi xw nm g cap w hcap c0 c1 c2 c3 h0 (eq_false_of_ne_true h1)
 exact l2Result_21_2 n m ai aw bi bw ci cw xa xb xc xi xw nm g cap w hcap c0 c1 c2 c3 h0 h1
end Go.Proofs.YtdojaijnejcoiaaGreat
