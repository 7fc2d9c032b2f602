import Derived.Test.YtbenebcphaiohaaGreater5
import Derived.Deep.RegionHeld3
set_option linter.unusedVariables false
set_option linter.unusedSimpArgs false
set_option maxRecDepth 8000
set_option maxHeartbeats 16000000
namespace Go.Proofs.YtbenebcphaiohaaGreat
open Go.RowKit
theorem or_turn {kd : Int} : (kd == 30 || kd == 31 || kd == 32 || kd == 34) = (kd == 34 || kd == 30 || kd == 31 || kd == 32) := by
 generalize (kd == 30) = b1
 generalize (kd == 31) = b2
 generalize (kd == 32) = b3
 generalize (kd == 34) = b4
 cases b1 <;> cases b2 <;> cases b3 <;> cases b4 <;> rfl
theorem formed_calls (n : Nat) (x : Nd) (w : World) (hn : n ≤ 281474976710656) (hs : x.name.size ≤ 140737488351232) :
 Makes Tryz.prog 74 #[.agg #[.int .i64 x.kind, .int .i64 x.a, .int .i64 x.b, .int .i64 x.c, .int .i64 x.n, .int .i64 x.m, .int .i64 x.idx, .int .i64 x.wid, .string x.name], .int .i64 n] w (.bool (fieldsB n x)) := by
 by_cases hneg : partsN x.kind < 0
 · have HR := Lib.hid (fields_neg (len := n) hneg)
   go_enter Tryz.func74, Tryz.ntmps74
   go_wp2_with (go_at_call 75; refine (parts_same _ _).mono ?_; rintro e w' ⟨rfl, rfl⟩)
   go_ret
   exact ⟨ret_eq (congrArg Value.bool HR.out.symm), by repeat (first | exact Below.refl _ _ | refine Below.alloc ?_ (by simp) _)⟩
 · have HREST := Lib.hid (fields_rest (len := n) hneg)
   have HPART := Lib.hid (show ∀ i, i < 3 → partB (partsN x.kind) n i (x.part i) = false → fieldsB n x = false from fun i hi h => fields_part hi h)
   go_enter Tryz.func74, Tryz.ntmps74
   go_wp2_with (go_at_call 75; refine (parts_same _ _).mono ?_; rintro e w' ⟨rfl, rfl⟩)
   generalize hpk : partsN x.kind = pk at *
   have HPK := Lib.hid hpk
   clear hpk hneg
   go_loop [22] (fun i => ∃ k : Nat, k ≤ 3 ∧ i = .int .i64 k ∧ Hid (partsTo pk n x k)) (fun i => 3 - (intOf i).toNat)
   case atStart => exact ⟨0, Nat.zero_le _, rfl, Lib.hid (fun i hi => absurd hi (Nat.not_lt_zero _))⟩
   case round =>
    obtain ⟨k, hk, rfl, hto⟩ := hrel
    by_cases hlt : k < 3
    · have hgood : partB pk n k (x.part k) = true → Hid (partsTo pk n x (k + 1)) := fun h => Lib.hid (fun i hi => by
       rcases Nat.lt_or_ge i k with g | g
       · exact hto.out i g
       · obtain rfl : i = k := by omega
         exact h)
      have hbad : partB pk n k (x.part k) = false → Hid (fieldsB n x = false) := fun h => Lib.hid (HPART.out k hlt h)
      clear hto
      rcases (show k = 0 ∨ k = 1 ∨ k = 2 by omega) with rfl | rfl | rfl
      · by_cases h1 : (0 : Int) < pk
        · have h2 : ¬ pk ≤ (0 : Int) := by omega
          by_cases h3 : inB x.a 0 ((n : Int) - 1) = true
          · have HG := hgood (by unfold partB; rw [if_pos (by omega)]; exact h3)
            have HI := Lib.hid h3
            clear hgood hbad h3
            go_wp2_with (go_at_call 79; refine (in_same _ _ _ _).mono ?_; rintro e w' ⟨rfl, rfl⟩; rw [HI.out])
            go_round
            case rel => exact ⟨1, by omega, rfl, HG⟩
            case measure => simp [intOf]
          · have HI := Lib.hid (eq_false_of_ne_true h3)
            have HR := hbad (by unfold partB; rw [if_pos (by omega)]; exact HI.out)
            clear hgood hbad h3
            go_wp2_with (go_at_call 79; refine (in_same _ _ _ _).mono ?_; rintro e w' ⟨rfl, rfl⟩; rw [HI.out])
            go_ret
            exact ⟨ret_eq (congrArg Value.bool HR.out.symm), by repeat (first | exact Below.refl _ _ | refine Below.alloc ?_ (by simp) _)⟩
        · have h2 : pk ≤ (0 : Int) := by omega
          by_cases h3 : x.a = 0
          · have HG := hgood (by unfold partB; rw [if_neg (by omega)]; exact beq_iff_eq.2 h3)
            have h4 : (x.a != 0) = false := by rw [h3]; rfl
            clear hgood hbad h3
            go_wp2_with fail
            go_round
            case rel => exact ⟨1, by omega, rfl, HG⟩
            case measure => simp [intOf]
          · have h4 : (x.a != 0) = true := bne_iff_ne.2 h3
            have HR := hbad (by unfold partB; rw [if_neg (by omega)]; exact beq_eq_false_iff_ne.2 h3)
            clear hgood hbad h3
            go_wp2_with fail
            go_ret
            exact ⟨ret_eq (congrArg Value.bool HR.out.symm), by repeat (first | exact Below.refl _ _ | refine Below.alloc ?_ (by simp) _)⟩
      · by_cases h1 : (1 : Int) < pk
        · have h2 : ¬ pk ≤ (1 : Int) := by omega
          by_cases h3 : inB x.b 0 ((n : Int) - 1) = true
          · have HG := hgood (by unfold partB; rw [if_pos (by omega)]; exact h3)
            have HI := Lib.hid h3
            clear hgood hbad h3
            go_wp2_with (go_at_call 79; refine (in_same _ _ _ _).mono ?_; rintro e w' ⟨rfl, rfl⟩; rw [HI.out])
            go_round
            case rel => exact ⟨2, by omega, rfl, HG⟩
            case measure => simp [intOf]
          · have HI := Lib.hid (eq_false_of_ne_true h3)
            have HR := hbad (by unfold partB; rw [if_pos (by omega)]; exact HI.out)
            clear hgood hbad h3
            go_wp2_with (go_at_call 79; refine (in_same _ _ _ _).mono ?_; rintro e w' ⟨rfl, rfl⟩; rw [HI.out])
            go_ret
            exact ⟨ret_eq (congrArg Value.bool HR.out.symm), by repeat (first | exact Below.refl _ _ | refine Below.alloc ?_ (by simp) _)⟩
        · have h2 : pk ≤ (1 : Int) := by omega
          by_cases h3 : x.b = 0
          · have HG := hgood (by unfold partB; rw [if_neg (by omega)]; exact beq_iff_eq.2 h3)
            have h4 : (x.b != 0) = false := by rw [h3]; rfl
            clear hgood hbad h3
            go_wp2_with fail
            go_round
            case rel => exact ⟨2, by omega, rfl, HG⟩
            case measure => simp [intOf]
          · have h4 : (x.b != 0) = true := bne_iff_ne.2 h3
            have HR := hbad (by unfold partB; rw [if_neg (by omega)]; exact beq_eq_false_iff_ne.2 h3)
            clear hgood hbad h3
            go_wp2_with fail
            go_ret
            exact ⟨ret_eq (congrArg Value.bool HR.out.symm), by repeat (first | exact Below.refl _ _ | refine Below.alloc ?_ (by simp) _)⟩
      · by_cases h1 : (2 : Int) < pk
        · have h2 : ¬ pk ≤ (2 : Int) := by omega
          by_cases h3 : inB x.c 0 ((n : Int) - 1) = true
          · have HG := hgood (by unfold partB; rw [if_pos (by omega)]; exact h3)
            have HI := Lib.hid h3
            clear hgood hbad h3
            go_wp2_with (go_at_call 79; refine (in_same _ _ _ _).mono ?_; rintro e w' ⟨rfl, rfl⟩; rw [HI.out])
            go_round
            case rel => exact ⟨3, by omega, rfl, HG⟩
            case measure => simp [intOf]
          · have HI := Lib.hid (eq_false_of_ne_true h3)
            have HR := hbad (by unfold partB; rw [if_pos (by omega)]; exact HI.out)
            clear hgood hbad h3
            go_wp2_with (go_at_call 79; refine (in_same _ _ _ _).mono ?_; rintro e w' ⟨rfl, rfl⟩; rw [HI.out])
            go_ret
            exact ⟨ret_eq (congrArg Value.bool HR.out.symm), by repeat (first | exact Below.refl _ _ | refine Below.alloc ?_ (by simp) _)⟩
        · have h2 : pk ≤ (2 : Int) := by omega
          by_cases h3 : x.c = 0
          · have HG := hgood (by unfold partB; rw [if_neg (by omega)]; exact beq_iff_eq.2 h3)
            have h4 : (x.c != 0) = false := by rw [h3]; rfl
            clear hgood hbad h3
            go_wp2_with fail
            go_round
            case rel => exact ⟨3, by omega, rfl, HG⟩
            case measure => simp [intOf]
          · have h4 : (x.c != 0) = true := bne_iff_ne.2 h3
            have HR := hbad (by unfold partB; rw [if_neg (by omega)]; exact beq_eq_false_iff_ne.2 h3)
            clear hgood hbad h3
            go_wp2_with fail
            go_ret
            exact ⟨ret_eq (congrArg Value.bool HR.out.symm), by repeat (first | exact Below.refl _ _ | refine Below.alloc ?_ (by simp) _)⟩
    · obtain rfl : k = 3 := by omega
      have HR := Lib.hid (HREST.out hto.out)
      clear hto HPART HREST
      have c0 : ((w.alloc (Obj.cells #[.int .i64 x.kind, .int .i64 x.a, .int .i64 x.b, .int .i64 x.c, .int .i64 x.n, .int .i64 x.m, .int .i64 x.idx, .int .i64 x.wid, .string x.name] 38)).alloc (Obj.cells #[.int .i64 x.a, .int .i64 x.b, .int .i64 x.c] 3)).cell? ⟨w.heap.size, 0, none⟩ = some (.int .i64 x.kind) := by go_simp
      have c4 : ((w.alloc (Obj.cells #[.int .i64 x.kind, .int .i64 x.a, .int .i64 x.b, .int .i64 x.c, .int .i64 x.n, .int .i64 x.m, .int .i64 x.idx, .int .i64 x.wid, .string x.name] 38)).alloc (Obj.cells #[.int .i64 x.a, .int .i64 x.b, .int .i64 x.c] 3)).cell? ⟨w.heap.size, 4, none⟩ = some (.int .i64 x.n) := by go_simp
      have c5 : ((w.alloc (Obj.cells #[.int .i64 x.kind, .int .i64 x.a, .int .i64 x.b, .int .i64 x.c, .int .i64 x.n, .int .i64 x.m, .int .i64 x.idx, .int .i64 x.wid, .string x.name] 38)).alloc (Obj.cells #[.int .i64 x.a, .int .i64 x.b, .int .i64 x.c] 3)).cell? ⟨w.heap.size, 5, none⟩ = some (.int .i64 x.m) := by go_simp
      have c7 : ((w.alloc (Obj.cells #[.int .i64 x.kind, .int .i64 x.a, .int .i64 x.b, .int .i64 x.c, .int .i64 x.n, .int .i64 x.m, .int .i64 x.idx, .int .i64 x.wid, .string x.name] 38)).alloc (Obj.cells #[.int .i64 x.a, .int .i64 x.b, .int .i64 x.c] 3)).cell? ⟨w.heap.size, 8, none⟩ = some (.string x.name) := by go_simp
      have HB := Lib.hid (show Below w.heap.size w ((w.alloc (Obj.cells #[.int .i64 x.kind, .int .i64 x.a, .int .i64 x.b, .int .i64 x.c, .int .i64 x.n, .int .i64 x.m, .int .i64 x.idx, .int .i64 x.wid, .string x.name] 38)).alloc (Obj.cells #[.int .i64 x.a, .int .i64 x.b, .int .i64 x.c] 3)) from (box_below _ _ _).alloc (by simp) _)
      generalize ((w.alloc (Obj.cells #[.int .i64 x.kind, .int .i64 x.a, .int .i64 x.b, .int .i64 x.c, .int .i64 x.n, .int .i64 x.m, .int .i64 x.idx, .int .i64 x.wid, .string x.name] 38)).alloc (Obj.cells #[.int .i64 x.a, .int .i64 x.b, .int .i64 x.c] 3)) = w1 at *
      generalize hfr : fieldsB n x = R at HR
      have HFR := Lib.hid hfr
      clear hfr
      unfold nameOkB mOkB nOkB at HR
      generalize x.kind = kd at *
      generalize x.name = nm at *
      generalize x.m = xm at *
      generalize x.n = xn at *
      rw [in3536 kd, or_turn] at HR
      have HND := Lib.hid (in3536 kd)
      go_upto_region 10 with fail
      go_cut [8] (fun c wx => c = .bool (kd == 34 || kd == 30 || kd == 31 || kd == 32) ∧ wx = w1)
      case first =>
       by_cases h34 : (kd == 34) = true
       · have HW := Lib.hid (show (kd == 34 || kd == 30 || kd == 31 || kd == 32) = true by rw [h34]; simp)
         go_wp2
         go_meet
         case rel => exact ⟨congrArg Value.bool HW.out.symm, rfl⟩
       · have h34 := eq_false_of_ne_true h34
         by_cases h30 : (kd == 30) = true
         · have HW := Lib.hid (show (kd == 34 || kd == 30 || kd == 31 || kd == 32) = true by rw [h34, h30]; simp)
           go_wp2
           go_meet
           case rel => exact ⟨congrArg Value.bool HW.out.symm, rfl⟩
         · have h30 := eq_false_of_ne_true h30
           by_cases h31 : (kd == 31) = true
           · have HW := Lib.hid (show (kd == 34 || kd == 30 || kd == 31 || kd == 32) = true by rw [h34, h30, h31]; simp)
             go_wp2
             go_meet
             case rel => exact ⟨congrArg Value.bool HW.out.symm, rfl⟩
           · have h31 := eq_false_of_ne_true h31
             by_cases h32 : (kd == 32) = true
             · have HW := Lib.hid (show (kd == 34 || kd == 30 || kd == 31 || kd == 32) = true by rw [h34, h30, h31, h32]; simp)
               go_wp2
               go_meet
               case rel => exact ⟨congrArg Value.bool HW.out.symm, rfl⟩
             · have h32 := eq_false_of_ne_true h32
               have HW := Lib.hid (show (kd == 34 || kd == 30 || kd == 31 || kd == 32) = false by rw [h34, h30, h31, h32]; rfl)
               go_wp2
               go_meet
               case rel => exact ⟨congrArg Value.bool HW.out.symm, rfl⟩
      case rest =>
       obtain ⟨rfl, rfl⟩ := hcut
       generalize hct : (kd == 34 || kd == 30 || kd == 31 || kd == 32) = ct at *
       clear hct HPK hk hlt
       obtain ⟨nd, hnd⟩ : ∃ b, b = (kd == 35 || kd == 36) := ⟨_, rfl⟩
       have HND2 := Lib.hid (HND.out.trans hnd.symm)
       rw [← hnd] at HR
       clear hnd HND
       obtain ⟨bn, hbn⟩ : ∃ b, b = nameB nm := ⟨_, rfl⟩
       have HBN := Lib.hid hbn.symm
       clear hbn
       rw [HBN.out] at HR
       cases ct
       · by_cases hn0 : (xn == 0) = true
         · skip
           by_cases h30 : (kd == 30) = true
           · skip
             cases nd
             · by_cases hz : nm.toList = []
               · have hsz := size_zero hz
                 have hsz2 : nm.size = 0 := by simpa using hsz
                 have HV := Lib.hid (show R = true by rw [HR.out]; simp [hn0, h30, hsz2])
                 clear HR
                 go_wp2_with (first | (go_at_call 149; refine (named_same _ _).mono ?_; rintro e w' ⟨rfl, rfl⟩; rw [HND2.out]) | (go_at_call 150; refine (isName_same _ _ hs).mono ?_; rintro e w' ⟨rfl, rfl⟩; rw [HBN.out]))
                 go_ret
                 exact ⟨ret_eq (congrArg Value.bool (HFR.out.trans HV.out).symm), HB.out⟩
               · have hz2 : nm.toList.isEmpty = false := by simpa using hz
                 have hsz := size_pos hz
                 have hsz2 : ¬ nm.size = 0 := by simpa using hsz
                 have HV := Lib.hid (show R = false by rw [HR.out]; simp [hn0, h30, hsz2])
                 clear HR
                 go_wp2_with (first | (go_at_call 149; refine (named_same _ _).mono ?_; rintro e w' ⟨rfl, rfl⟩; rw [HND2.out]) | (go_at_call 150; refine (isName_same _ _ hs).mono ?_; rintro e w' ⟨rfl, rfl⟩; rw [HBN.out]))
                 go_ret
                 exact ⟨ret_eq (congrArg Value.bool (HFR.out.trans HV.out).symm), HB.out⟩
             · cases bn
               · skip
                 have HV := Lib.hid (show R = false by rw [HR.out]; simp [hn0, h30])
                 clear HR
                 go_wp2_with (first | (go_at_call 149; refine (named_same _ _).mono ?_; rintro e w' ⟨rfl, rfl⟩; rw [HND2.out]) | (go_at_call 150; refine (isName_same _ _ hs).mono ?_; rintro e w' ⟨rfl, rfl⟩; rw [HBN.out]))
                 go_ret
                 exact ⟨ret_eq (congrArg Value.bool (HFR.out.trans HV.out).symm), HB.out⟩
               · skip
                 have HV := Lib.hid (show R = true by rw [HR.out]; simp [hn0, h30])
                 clear HR
                 go_wp2_with (first | (go_at_call 149; refine (named_same _ _).mono ?_; rintro e w' ⟨rfl, rfl⟩; rw [HND2.out]) | (go_at_call 150; refine (isName_same _ _ hs).mono ?_; rintro e w' ⟨rfl, rfl⟩; rw [HBN.out]))
                 go_ret
                 exact ⟨ret_eq (congrArg Value.bool (HFR.out.trans HV.out).symm), HB.out⟩
           · have h30 := eq_false_of_ne_true h30
             by_cases hx : (xm == 0) = true
             · skip
               cases nd
               · by_cases hz : nm.toList = []
                 · have hsz := size_zero hz
                   have hsz2 : nm.size = 0 := by simpa using hsz
                   have HV := Lib.hid (show R = true by rw [HR.out]; simp [hn0, h30, hx, hsz2])
                   clear HR
                   go_wp2_with (first | (go_at_call 149; refine (named_same _ _).mono ?_; rintro e w' ⟨rfl, rfl⟩; rw [HND2.out]) | (go_at_call 150; refine (isName_same _ _ hs).mono ?_; rintro e w' ⟨rfl, rfl⟩; rw [HBN.out]))
                   go_ret
                   exact ⟨ret_eq (congrArg Value.bool (HFR.out.trans HV.out).symm), HB.out⟩
                 · have hz2 : nm.toList.isEmpty = false := by simpa using hz
                   have hsz := size_pos hz
                   have hsz2 : ¬ nm.size = 0 := by simpa using hsz
                   have HV := Lib.hid (show R = false by rw [HR.out]; simp [hn0, h30, hx, hsz2])
                   clear HR
                   go_wp2_with (first | (go_at_call 149; refine (named_same _ _).mono ?_; rintro e w' ⟨rfl, rfl⟩; rw [HND2.out]) | (go_at_call 150; refine (isName_same _ _ hs).mono ?_; rintro e w' ⟨rfl, rfl⟩; rw [HBN.out]))
                   go_ret
                   exact ⟨ret_eq (congrArg Value.bool (HFR.out.trans HV.out).symm), HB.out⟩
               · cases bn
                 · skip
                   have HV := Lib.hid (show R = false by rw [HR.out]; simp [hn0, h30, hx])
                   clear HR
                   go_wp2_with (first | (go_at_call 149; refine (named_same _ _).mono ?_; rintro e w' ⟨rfl, rfl⟩; rw [HND2.out]) | (go_at_call 150; refine (isName_same _ _ hs).mono ?_; rintro e w' ⟨rfl, rfl⟩; rw [HBN.out]))
                   go_ret
                   exact ⟨ret_eq (congrArg Value.bool (HFR.out.trans HV.out).symm), HB.out⟩
                 · skip
                   have HV := Lib.hid (show R = true by rw [HR.out]; simp [hn0, h30, hx])
                   clear HR
                   go_wp2_with (first | (go_at_call 149; refine (named_same _ _).mono ?_; rintro e w' ⟨rfl, rfl⟩; rw [HND2.out]) | (go_at_call 150; refine (isName_same _ _ hs).mono ?_; rintro e w' ⟨rfl, rfl⟩; rw [HBN.out]))
                   go_ret
                   exact ⟨ret_eq (congrArg Value.bool (HFR.out.trans HV.out).symm), HB.out⟩
             · have hx := eq_false_of_ne_true hx
               have HV := Lib.hid (show R = false by rw [HR.out]; simp [hn0, h30, hx])
               clear HR
               go_wp2_with (first | (go_at_call 149; refine (named_same _ _).mono ?_; rintro e w' ⟨rfl, rfl⟩; rw [HND2.out]) | (go_at_call 150; refine (isName_same _ _ hs).mono ?_; rintro e w' ⟨rfl, rfl⟩; rw [HBN.out]))
               go_ret
               exact ⟨ret_eq (congrArg Value.bool (HFR.out.trans HV.out).symm), HB.out⟩
         · have hn0 := eq_false_of_ne_true hn0
           have HV := Lib.hid (show R = false by rw [HR.out]; simp [hn0])
           clear HR
           go_wp2_with (first | (go_at_call 149; refine (named_same _ _).mono ?_; rintro e w' ⟨rfl, rfl⟩; rw [HND2.out]) | (go_at_call 150; refine (isName_same _ _ hs).mono ?_; rintro e w' ⟨rfl, rfl⟩; rw [HBN.out]))
           go_ret
           exact ⟨ret_eq (congrArg Value.bool (HFR.out.trans HV.out).symm), HB.out⟩
       · skip
         by_cases h30 : (kd == 30) = true
         · skip
           cases nd
           · by_cases hz : nm.toList = []
             · have hsz := size_zero hz
               have hsz2 : nm.size = 0 := by simpa using hsz
               have HV := Lib.hid (show R = true by rw [HR.out]; simp [Bool.or_true, h30, hsz2])
               clear HR
               go_wp2_with (first | (go_at_call 149; refine (named_same _ _).mono ?_; rintro e w' ⟨rfl, rfl⟩; rw [HND2.out]) | (go_at_call 150; refine (isName_same _ _ hs).mono ?_; rintro e w' ⟨rfl, rfl⟩; rw [HBN.out]))
               go_ret
               exact ⟨ret_eq (congrArg Value.bool (HFR.out.trans HV.out).symm), HB.out⟩
             · have hz2 : nm.toList.isEmpty = false := by simpa using hz
               have hsz := size_pos hz
               have hsz2 : ¬ nm.size = 0 := by simpa using hsz
               have HV := Lib.hid (show R = false by rw [HR.out]; simp [Bool.or_true, h30, hsz2])
               clear HR
               go_wp2_with (first | (go_at_call 149; refine (named_same _ _).mono ?_; rintro e w' ⟨rfl, rfl⟩; rw [HND2.out]) | (go_at_call 150; refine (isName_same _ _ hs).mono ?_; rintro e w' ⟨rfl, rfl⟩; rw [HBN.out]))
               go_ret
               exact ⟨ret_eq (congrArg Value.bool (HFR.out.trans HV.out).symm), HB.out⟩
           · cases bn
             · skip
               have HV := Lib.hid (show R = false by rw [HR.out]; simp [Bool.or_true, h30])
               clear HR
               go_wp2_with (first | (go_at_call 149; refine (named_same _ _).mono ?_; rintro e w' ⟨rfl, rfl⟩; rw [HND2.out]) | (go_at_call 150; refine (isName_same _ _ hs).mono ?_; rintro e w' ⟨rfl, rfl⟩; rw [HBN.out]))
               go_ret
               exact ⟨ret_eq (congrArg Value.bool (HFR.out.trans HV.out).symm), HB.out⟩
             · skip
               have HV := Lib.hid (show R = true by rw [HR.out]; simp [Bool.or_true, h30])
               clear HR
               go_wp2_with (first | (go_at_call 149; refine (named_same _ _).mono ?_; rintro e w' ⟨rfl, rfl⟩; rw [HND2.out]) | (go_at_call 150; refine (isName_same _ _ hs).mono ?_; rintro e w' ⟨rfl, rfl⟩; rw [HBN.out]))
               go_ret
               exact ⟨ret_eq (congrArg Value.bool (HFR.out.trans HV.out).symm), HB.out⟩
         · have h30 := eq_false_of_ne_true h30
           by_cases hx : (xm == 0) = true
           · skip
             cases nd
             · by_cases hz : nm.toList = []
               · have hsz := size_zero hz
                 have hsz2 : nm.size = 0 := by simpa using hsz
                 have HV := Lib.hid (show R = true by rw [HR.out]; simp [Bool.or_true, h30, hx, hsz2])
                 clear HR
                 go_wp2_with (first | (go_at_call 149; refine (named_same _ _).mono ?_; rintro e w' ⟨rfl, rfl⟩; rw [HND2.out]) | (go_at_call 150; refine (isName_same _ _ hs).mono ?_; rintro e w' ⟨rfl, rfl⟩; rw [HBN.out]))
                 go_ret
                 exact ⟨ret_eq (congrArg Value.bool (HFR.out.trans HV.out).symm), HB.out⟩
               · have hz2 : nm.toList.isEmpty = false := by simpa using hz
                 have hsz := size_pos hz
                 have hsz2 : ¬ nm.size = 0 := by simpa using hsz
                 have HV := Lib.hid (show R = false by rw [HR.out]; simp [Bool.or_true, h30, hx, hsz2])
                 clear HR
                 go_wp2_with (first | (go_at_call 149; refine (named_same _ _).mono ?_; rintro e w' ⟨rfl, rfl⟩; rw [HND2.out]) | (go_at_call 150; refine (isName_same _ _ hs).mono ?_; rintro e w' ⟨rfl, rfl⟩; rw [HBN.out]))
                 go_ret
                 exact ⟨ret_eq (congrArg Value.bool (HFR.out.trans HV.out).symm), HB.out⟩
             · cases bn
               · skip
                 have HV := Lib.hid (show R = false by rw [HR.out]; simp [Bool.or_true, h30, hx])
                 clear HR
                 go_wp2_with (first | (go_at_call 149; refine (named_same _ _).mono ?_; rintro e w' ⟨rfl, rfl⟩; rw [HND2.out]) | (go_at_call 150; refine (isName_same _ _ hs).mono ?_; rintro e w' ⟨rfl, rfl⟩; rw [HBN.out]))
                 go_ret
                 exact ⟨ret_eq (congrArg Value.bool (HFR.out.trans HV.out).symm), HB.out⟩
               · skip
                 have HV := Lib.hid (show R = true by rw [HR.out]; simp [Bool.or_true, h30, hx])
                 clear HR
                 go_wp2_with (first | (go_at_call 149; refine (named_same _ _).mono ?_; rintro e w' ⟨rfl, rfl⟩; rw [HND2.out]) | (go_at_call 150; refine (isName_same _ _ hs).mono ?_; rintro e w' ⟨rfl, rfl⟩; rw [HBN.out]))
                 go_ret
                 exact ⟨ret_eq (congrArg Value.bool (HFR.out.trans HV.out).symm), HB.out⟩
           · have hx := eq_false_of_ne_true hx
             have HV := Lib.hid (show R = false by rw [HR.out]; simp [Bool.or_true, h30, hx])
             clear HR
             go_wp2_with (first | (go_at_call 149; refine (named_same _ _).mono ?_; rintro e w' ⟨rfl, rfl⟩; rw [HND2.out]) | (go_at_call 150; refine (isName_same _ _ hs).mono ?_; rintro e w' ⟨rfl, rfl⟩; rw [HBN.out]))
             go_ret
             exact ⟨ret_eq (congrArg Value.bool (HFR.out.trans HV.out).symm), HB.out⟩
theorem sortN_all {ns : List Nd} {x : Nd} (h : ¬ 60 < ns.length) (h1 : fieldsB ns.length x = true) (h3 : ∀ m, m < 3 → psOk ns x m = true) :
 sortN ns x = allSort x.kind x.n x.m (psI ns x 0) (psW ns x 0) (psI ns x 1) (psW ns x 1) (psI ns x 2) (psW ns x 2) x.idx x.wid := by
 by_cases h2 : partsN x.kind = 0
 · rw [sortN_own h h1 h2]; unfold allSort ownN; rw [if_pos h2]
 · rw [sortN_res h h1 h2 h3]; unfold allSort; rw [if_neg h2]
theorem sortN_part' {ns : List Nd} {x : Nd} {m : Nat} (hm : m < 3) (hk : (m : Int) < partsN x.kind) (h3 : psOk ns x m = false) : sortN ns x = none := sortN_part hm (by omega) h3
def upTo (j m : Nat) (v : Int) : Value := if m < j then .int .i64 v else .int .i64 0
def arr (ns : List Nd) (x : Nd) (j : Nat) : Array Value := #[upTo j 0 (psI ns x 0), upTo j 0 (psW ns x 0), upTo j 1 (psI ns x 1), upTo j 1 (psW ns x 1), upTo j 2 (psI ns x 2), upTo j 2 (psW ns x 2)]
theorem NodeSort'_calls (sv : Value) (ns : List Nd) (x : Nd) (w : World) (hS : SlAt enNd w sv ns) (hs : x.name.size ≤ 140737488351232) :
 Calls Tryz.prog 18 #[sv, .agg #[.int .i64 x.kind, .int .i64 x.a, .int .i64 x.b, .int .i64 x.c, .int .i64 x.n, .int .i64 x.m, .int .i64 x.idx, .int .i64 x.wid, .string x.name]] w (RetPost (sortN ns x) w) := by
 have HS := Lib.hid hS
 obtain ⟨A, c, rfl, hnc, hc', hA⟩ := hS
 obtain ⟨R, hR⟩ : ∃ R, R = sortN ns x := ⟨_, rfl⟩
 rw [← hR]
 have HLONG := Lib.hid (show 60 < ns.length → R = none from fun h => hR.trans (sortN_long h))
 have HBAD := Lib.hid (show fieldsB ns.length x = false → R = none from fun h => hR.trans (sortN_bad h))
 have HR := Lib.hid hR
 clear hR
 generalize hN : ns.length = n at *
 have HN := Lib.hid hN
 have hn : n ≤ 281474976710656 := Nat.le_trans hnc hc'
 clear hc' hnc hN
 go_enter Tryz.func18, Tryz.ntmps18
 go_upto_region 1 with fail
 have HW := Lib.hid (show Below w.heap.size w ((w.alloc (Obj.cells #[.int .i64 x.kind, .int .i64 x.a, .int .i64 x.b, .int .i64 x.c, .int .i64 x.n, .int .i64 x.m, .int .i64 x.idx, .int .i64 x.wid, .string x.name] 38)).alloc (Obj.cells #[.int .i64 0, .int .i64 0] 34)) from (box_below _ _ _).alloc (by simp) _)
 have b0 : ((w.alloc (Obj.cells #[.int .i64 x.kind, .int .i64 x.a, .int .i64 x.b, .int .i64 x.c, .int .i64 x.n, .int .i64 x.m, .int .i64 x.idx, .int .i64 x.wid, .string x.name] 38)).alloc (Obj.cells #[.int .i64 0, .int .i64 0] 34)).cell? ⟨w.heap.size, 0, none⟩ = some (.int .i64 x.kind) := by go_simp
 have b1 : ((w.alloc (Obj.cells #[.int .i64 x.kind, .int .i64 x.a, .int .i64 x.b, .int .i64 x.c, .int .i64 x.n, .int .i64 x.m, .int .i64 x.idx, .int .i64 x.wid, .string x.name] 38)).alloc (Obj.cells #[.int .i64 0, .int .i64 0] 34)).cell? ⟨w.heap.size, 1, none⟩ = some (.int .i64 x.a) := by go_simp
 have b2 : ((w.alloc (Obj.cells #[.int .i64 x.kind, .int .i64 x.a, .int .i64 x.b, .int .i64 x.c, .int .i64 x.n, .int .i64 x.m, .int .i64 x.idx, .int .i64 x.wid, .string x.name] 38)).alloc (Obj.cells #[.int .i64 0, .int .i64 0] 34)).cell? ⟨w.heap.size, 2, none⟩ = some (.int .i64 x.b) := by go_simp
 have b3 : ((w.alloc (Obj.cells #[.int .i64 x.kind, .int .i64 x.a, .int .i64 x.b, .int .i64 x.c, .int .i64 x.n, .int .i64 x.m, .int .i64 x.idx, .int .i64 x.wid, .string x.name] 38)).alloc (Obj.cells #[.int .i64 0, .int .i64 0] 34)).cell? ⟨w.heap.size, 3, none⟩ = some (.int .i64 x.c) := by go_simp
 have b4 : ((w.alloc (Obj.cells #[.int .i64 x.kind, .int .i64 x.a, .int .i64 x.b, .int .i64 x.c, .int .i64 x.n, .int .i64 x.m, .int .i64 x.idx, .int .i64 x.wid, .string x.name] 38)).alloc (Obj.cells #[.int .i64 0, .int .i64 0] 34)).cell? ⟨w.heap.size, 4, none⟩ = some (.int .i64 x.n) := by go_simp
 have b5 : ((w.alloc (Obj.cells #[.int .i64 x.kind, .int .i64 x.a, .int .i64 x.b, .int .i64 x.c, .int .i64 x.n, .int .i64 x.m, .int .i64 x.idx, .int .i64 x.wid, .string x.name] 38)).alloc (Obj.cells #[.int .i64 0, .int .i64 0] 34)).cell? ⟨w.heap.size, 5, none⟩ = some (.int .i64 x.m) := by go_simp
 have b6 : ((w.alloc (Obj.cells #[.int .i64 x.kind, .int .i64 x.a, .int .i64 x.b, .int .i64 x.c, .int .i64 x.n, .int .i64 x.m, .int .i64 x.idx, .int .i64 x.wid, .string x.name] 38)).alloc (Obj.cells #[.int .i64 0, .int .i64 0] 34)).cell? ⟨w.heap.size, 6, none⟩ = some (.int .i64 x.idx) := by go_simp
 have b7 : ((w.alloc (Obj.cells #[.int .i64 x.kind, .int .i64 x.a, .int .i64 x.b, .int .i64 x.c, .int .i64 x.n, .int .i64 x.m, .int .i64 x.idx, .int .i64 x.wid, .string x.name] 38)).alloc (Obj.cells #[.int .i64 0, .int .i64 0] 34)).cell? ⟨w.heap.size, 7, none⟩ = some (.int .i64 x.wid) := by go_simp
 have b8 : ((w.alloc (Obj.cells #[.int .i64 x.kind, .int .i64 x.a, .int .i64 x.b, .int .i64 x.c, .int .i64 x.n, .int .i64 x.m, .int .i64 x.idx, .int .i64 x.wid, .string x.name] 38)).alloc (Obj.cells #[.int .i64 0, .int .i64 0] 34)).cell? ⟨w.heap.size, 8, none⟩ = some (.string x.name) := by go_simp
 have r0 : ((w.alloc (Obj.cells #[.int .i64 x.kind, .int .i64 x.a, .int .i64 x.b, .int .i64 x.c, .int .i64 x.n, .int .i64 x.m, .int .i64 x.idx, .int .i64 x.wid, .string x.name] 38)).alloc (Obj.cells #[.int .i64 0, .int .i64 0] 34)).cell? ⟨w.heap.size + 1, 0, none⟩ = some (.int .i64 0) := by go_simp
 have f0 : ((w.alloc (Obj.cells #[.int .i64 x.kind, .int .i64 x.a, .int .i64 x.b, .int .i64 x.c, .int .i64 x.n, .int .i64 x.m, .int .i64 x.idx, .int .i64 x.wid, .string x.name] 38)).alloc (Obj.cells #[.int .i64 0, .int .i64 0] 34)).frozen? ⟨w.heap.size + 1, 0, none⟩ = false := by go_simp
 have r1 : ((w.alloc (Obj.cells #[.int .i64 x.kind, .int .i64 x.a, .int .i64 x.b, .int .i64 x.c, .int .i64 x.n, .int .i64 x.m, .int .i64 x.idx, .int .i64 x.wid, .string x.name] 38)).alloc (Obj.cells #[.int .i64 0, .int .i64 0] 34)).cell? ⟨w.heap.size + 1, 1, none⟩ = some (.int .i64 0) := by go_simp
 have f1 : ((w.alloc (Obj.cells #[.int .i64 x.kind, .int .i64 x.a, .int .i64 x.b, .int .i64 x.c, .int .i64 x.n, .int .i64 x.m, .int .i64 x.idx, .int .i64 x.wid, .string x.name] 38)).alloc (Obj.cells #[.int .i64 0, .int .i64 0] 34)).frozen? ⟨w.heap.size + 1, 1, none⟩ = false := by go_simp
 generalize ((w.alloc (Obj.cells #[.int .i64 x.kind, .int .i64 x.a, .int .i64 x.b, .int .i64 x.c, .int .i64 x.n, .int .i64 x.m, .int .i64 x.idx, .int .i64 x.wid, .string x.name] 38)).alloc (Obj.cells #[.int .i64 0, .int .i64 0] 34)) = w2 at *
 have f0 := Later.frozen f0 (World.block_lt_of_cell? _ _ r0)
 have f1 := Later.frozen f1 (World.block_lt_of_cell? _ _ r1)
 have b0 := Later.cell b0
 have b1 := Later.cell b1
 have b2 := Later.cell b2
 have b3 := Later.cell b3
 have b4 := Later.cell b4
 have b5 := Later.cell b5
 have b6 := Later.cell b6
 have b7 := Later.cell b7
 have b8 := Later.cell b8
 have r0 := Later.cell r0
 have r1 := Later.cell r1
 refine at_world (w := w2) ?_
 intro u0
 by_cases hl : 60 < n
 · have HNONE := Lib.hid (HLONG.out hl)
   have hl' : (60 : Int) < n := by omega
   clear hA
   go_wp2
   exact bodyPost_ret (v := .tuple #[.agg #[.int .i64 0, .int .i64 0], .bool false]) (by simp [results, Tryz.results18, go_sem, r0, r1]) rfl (retpost_none HNONE.out (by repeat (first | exact u0.back HW.out | refine Below.setCell ?_ (by first | (simp; done) | (simp; omega)) _)))
 · have hl' : ¬ (60 : Int) < n := by omega
   by_cases hf : fieldsB n x = true
   rotate_left
   · have hf := eq_false_of_ne_true hf
     have HF := Lib.hid hf
     have HNONE := Lib.hid (HBAD.out hf)
     clear hA hf
     go_wp2_with (go_at_call 74; refine (Calls.later (u := u0) (formed_calls n x _ hn hs)).mono ?_; rintro e w' ⟨rfl, u1, rfl⟩; rw [HF.out])
     exact bodyPost_ret (v := .tuple #[.agg #[.int .i64 0, .int .i64 0], .bool false]) (by simp [results, Tryz.results18, go_sem, r0, r1]) rfl (retpost_none HNONE.out (by repeat (first | exact u1.back HW.out | refine Below.setCell ?_ (by first | (simp; done) | (simp; omega)) _)))
   have HF := Lib.hid hf
   have hpp := fields_pos hf
   clear hf
   have hle := partsN_le x.kind
   obtain ⟨pk, hpk⟩ := Int.eq_ofNat_of_zero_le hpp
   have hpk3 : pk ≤ 3 := by omega
   have hpk3' : (pk : Int) ≤ 3 := by omega
   have HPN := Lib.hid hpk
   clear hpp hle hpk
   have HQ := Lib.hid (show ∀ W, LaterC w2 W → W.cell? ⟨w.heap.size, 0, none⟩ = some (.int .i64 x.kind) ∧ W.cell? ⟨w.heap.size, 1, none⟩ = some (.int .i64 x.a) ∧ W.cell? ⟨w.heap.size, 2, none⟩ = some (.int .i64 x.b) ∧ W.cell? ⟨w.heap.size, 3, none⟩ = some (.int .i64 x.c) from fun W h => by obtain ⟨v, rfl⟩ := h; exact ⟨b0 v, b1 v, b2 v, b3 v⟩)
   go_wp2_with (go_at_call 74; refine (Calls.later (u := u0) (formed_calls n x _ hn hs)).mono ?_; rintro e w' ⟨rfl, u1, rfl⟩; rw [HF.out])
   go_cut [32, 33, 34] (fun s l i wx => s = .slice (some ⟨u1.val.heap.size + 1, 0, none⟩) pk 3 ∧ l = .int .i64 pk ∧ i = .int .i64 0 ∧ wx = ((u1.val.alloc (Obj.cells #[.int .i64 0, .int .i64 0, .int .i64 0, .int .i64 0, .int .i64 0, .int .i64 0] 100)).alloc (Obj.cells #[.int .i64 x.a, .int .i64 x.b, .int .i64 x.c] 3)).drew)
   case first =>
    go_region_held3 (fun w' => w'.cell? ⟨w.heap.size, 0, none⟩ = some (.int .i64 x.kind) ∧ w'.cell? ⟨w.heap.size, 1, none⟩ = some (.int .i64 x.a) ∧ w'.cell? ⟨w.heap.size, 2, none⟩ = some (.int .i64 x.b) ∧ w'.cell? ⟨w.heap.size, 3, none⟩ = some (.int .i64 x.c)) ((refine HQ.out _ ?_; repeat (first | exact ⟨_, rfl⟩ | refine LaterC.drew' ?_ | refine LaterC.alloc' ?_ _))) (first | (go_at_call 75; refine (parts_same _ _).mono ?_; rintro e w' ⟨rfl, rfl⟩; rw [HPN.out]))
    all_goals go_wp2
    all_goals go_meet
    all_goals (case rel => exact ⟨rfl, rfl, rfl, rfl⟩)
   case rest =>
    obtain ⟨rfl, rfl, rfl, rfl⟩ := hcut
    have HGA := Lib.hid (show OwnB ((u1.val.alloc (Obj.cells #[.int .i64 0, .int .i64 0, .int .i64 0, .int .i64 0, .int .i64 0, .int .i64 0] 100)).alloc (Obj.cells #[.int .i64 x.a, .int .i64 x.b, .int .i64 x.c] 3)).drew u1.val.heap.size 100 (arr ns x 0) from (OwnB.new u1.val _ _).below (show Below (u1.val.alloc (Obj.cells #[.int .i64 0, .int .i64 0, .int .i64 0, .int .i64 0, .int .i64 0, .int .i64 0] 100)).heap.size (u1.val.alloc (Obj.cells #[.int .i64 0, .int .i64 0, .int .i64 0, .int .i64 0, .int .i64 0, .int .i64 0] 100)) ((u1.val.alloc (Obj.cells #[.int .i64 0, .int .i64 0, .int .i64 0, .int .i64 0, .int .i64 0, .int .i64 0] 100)).alloc (Obj.cells #[.int .i64 x.a, .int .i64 x.b, .int .i64 x.c] 3)).drew from (box_below _ _ _).drew) (by simp))
    have HGP := Lib.hid (show OwnB ((u1.val.alloc (Obj.cells #[.int .i64 0, .int .i64 0, .int .i64 0, .int .i64 0, .int .i64 0, .int .i64 0] 100)).alloc (Obj.cells #[.int .i64 x.a, .int .i64 x.b, .int .i64 x.c] 3)).drew (u1.val.heap.size + 1) 3 #[.int .i64 x.a, .int .i64 x.b, .int .i64 x.c] by have := OwnB.new (u1.val.alloc (Obj.cells #[.int .i64 0, .int .i64 0, .int .i64 0, .int .i64 0, .int .i64 0, .int .i64 0] 100)) 3 #[.int .i64 x.a, .int .i64 x.b, .int .i64 x.c]; rw [show (u1.val.alloc (Obj.cells #[.int .i64 0, .int .i64 0, .int .i64 0, .int .i64 0, .int .i64 0, .int .i64 0] 100)).heap.size = u1.val.heap.size + 1 by simp] at this; exact this)
    have hL4 : LaterC w2 ((u1.val.alloc (Obj.cells #[.int .i64 0, .int .i64 0, .int .i64 0, .int .i64 0, .int .i64 0, .int .i64 0] 100)).alloc (Obj.cells #[.int .i64 x.a, .int .i64 x.b, .int .i64 x.c] 3)).drew := LaterC.drew' (LaterC.alloc' (u1.alloc _) _)
    have hsz : w2.heap.size ≤ u1.val.heap.size := u1.size
    generalize ((u1.val.alloc (Obj.cells #[.int .i64 0, .int .i64 0, .int .i64 0, .int .i64 0, .int .i64 0, .int .i64 0] 100)).alloc (Obj.cells #[.int .i64 x.a, .int .i64 x.b, .int .i64 x.c] 3)).drew = w4 at *
    generalize u1.val.heap.size = GA at *
    have HL4 := Lib.hid hL4
    clear hL4
    go_wp2
    go_loopw [34] (fun i wr => ∃ j : Nat, j ≤ pk ∧ i = .int .i64 j ∧ Hid (OwnB wr GA 100 (arr ns x j) ∧ OwnB wr (GA + 1) 3 #[.int .i64 x.a, .int .i64 x.b, .int .i64 x.c] ∧ (∀ m, m < j → psOk ns x m = true)) ∧ LaterC w2 wr) (fun i _ => pk - (intOf i).toNat)
    case atStart => exact ⟨0, Nat.zero_le _, rfl, Lib.hid ⟨HGA.out, HGP.out, fun m hm => absurd hm (Nat.not_lt_zero _)⟩, HL4.out⟩
    case round =>
     obtain ⟨j, hj, rfl, HI, ⟨u, rfl⟩⟩ := hrel
     by_cases hlt : j < pk
     · have hj3 : j < 3 := by omega
       have hjp : (j : Int) < partsN x.kind := by rw [HPN.out]; omega
       have hin := fields_part_in HF.out hj3 hjp
       have hps : psI ns x j = (ns.getD (x.part j).toNat Nd.zero).idx ∧ psW ns x j = (ns.getD (x.part j).toNat Nd.zero).wid := by
        unfold psI psW; rw [if_pos hjp, if_pos hjp]; exact ⟨rfl, rfl⟩
       have hpj : u.val.cell? ⟨GA + 1, j, none⟩ = some (.int .i64 (x.part j)) := by
        rw [HI.out.2.1.cell j]
        rcases (show j = 0 ∨ j = 1 ∨ j = 2 by omega) with rfl | rfl | rfl <;> rfl
       generalize x.part j = pp at *
       obtain ⟨q, rfl⟩ := Int.eq_ofNat_of_zero_le hin.1
       have hqn : q < n := by omega
       rw [Int.toNat_natCast] at hps
       obtain ⟨b, o, rfl, hx⟩ := hA q _ (getD_at (by rw [HN.out]; exact hqn) Nd.zero)
       have hx6 : ∀ l : Later w2, l.val.cell? ⟨b, o + q * 9 + 6, none⟩ = some (.int .i64 (psI ns x j)) := by rw [hps.1]; exact hx.at_ HW.out 6 _ rfl
       have hx7 : ∀ l : Later w2, l.val.cell? ⟨b, o + q * 9 + 7, none⟩ = some (.int .i64 (psW ns x j)) := by rw [hps.2]; exact hx.at_ HW.out 7 _ rfl
       have hpsok : psOk ns x j = sokB (psI ns x j) (psW ns x j) := by unfold psOk; rw [decide_eq_false (by rw [HPN.out]; omega)]; rfl
       have hPART := sortN_part' (ns := ns) (x := x) hj3 hjp
       have hOW : OwnB ((u.val.setCell ⟨GA, j * 2, none⟩ (.int .i64 (psI ns x j))).setCell ⟨GA, j * 2 + 1, none⟩ (.int .i64 (psW ns x j))) GA 100 (arr ns x (j + 1)) := by
        have h1 := (HI.out.1.set (j * 2) (.int .i64 (psI ns x j))).set (j * 2 + 1) (.int .i64 (psW ns x j))
        rw [show arr ns x (j + 1) = ((arr ns x j).setIfInBounds (j * 2) (.int .i64 (psI ns x j))).setIfInBounds (j * 2 + 1) (.int .i64 (psW ns x j)) by
         rcases (show j = 0 ∨ j = 1 ∨ j = 2 by omega) with rfl | rfl | rfl <;> simp [arr, upTo]]
        exact h1
       have hOP : OwnB ((u.val.setCell ⟨GA, j * 2, none⟩ (.int .i64 (psI ns x j))).setCell ⟨GA, j * 2 + 1, none⟩ (.int .i64 (psW ns x j))) (GA + 1) 3 #[.int .i64 x.a, .int .i64 x.b, .int .i64 x.c] := (HI.out.2.1.set_ne (by omega) _ _).set_ne (by omega) _ _
       have hLW : LaterC w2 ((u.val.setCell ⟨GA, j * 2, none⟩ (.int .i64 (psI ns x j))).setCell ⟨GA, j * 2 + 1, none⟩ (.int .i64 (psW ns x j))) := LaterC.setCell' (LaterC.setCell' ⟨u, rfl⟩ _ _ hsz) _ _ hsz
       have g0 : u.val.cell? ⟨GA, j * 2, none⟩ = some (.int .i64 0) := by
        rw [HI.out.1.cell]
        rcases (show j = 0 ∨ j = 1 ∨ j = 2 by omega) with rfl | rfl | rfl <;> simp [arr, upTo]
       have g1 : u.val.cell? ⟨GA, j * 2 + 1, none⟩ = some (.int .i64 0) := by
        rw [HI.out.1.cell]
        rcases (show j = 0 ∨ j = 1 ∨ j = 2 by omega) with rfl | rfl | rfl <;> simp [arr, upTo]
       have t0 : u.val.frozen? ⟨GA, j * 2, none⟩ = false := HI.out.1.frozen _
       have t1 : u.val.frozen? ⟨GA, j * 2 + 1, none⟩ = false := HI.out.1.frozen _
       generalize psI ns x j = si at *
       generalize psW ns x j = sw at *
       have HOW := Lib.hid hOW
       have HOP := Lib.hid hOP
       have HLW := Lib.hid hLW
       have HPSOK := Lib.hid hpsok
       have HPART := Lib.hid hPART
       have hj3' : (j : Int) < 3 := by omega
       have hjk : (j : Int) < pk := by omega
       clear hOW hOP hLW hps hx hA hin hpsok hPART
       by_cases hso : sokB si sw = true
       · have HSO := Lib.hid hso
         clear hso
         go_wp2_with (go_at_call 76; refine (SortOk'_calls _ _ _).mono ?_; rintro e w' ⟨rfl, hbel⟩; have HO2 := Lib.hid (And.intro (HOW.out.below hbel HOW.out.lt) (HOP.out.below hbel HOP.out.lt)); obtain ⟨u3, hu3⟩ := laterC_step HLW.out hbel; subst hu3; clear hbel; rw [HSO.out])
         go_roundw
         case rel =>
          refine ⟨j + 1, by omega, by go_num, Lib.hid ⟨HO2.out.1, HO2.out.2, fun m hm => ?_⟩, ⟨u3, rfl⟩⟩
          rcases Nat.lt_or_ge m j with g | g
          · exact HI.out.2.2 m g
          · obtain rfl : m = j := by omega
            rw [HPSOK.out]; exact HSO.out
         case measure => simp [intOf] <;> omega
       · have HSO := Lib.hid (eq_false_of_ne_true hso)
         have HNONE := Lib.hid (HR.out.trans (HPART.out (by rw [HPSOK.out]; exact HSO.out)))
         clear hso
         go_wp2_with (go_at_call 76; refine (SortOk'_calls _ _ _).mono ?_; rintro e w' ⟨rfl, hbel⟩; have HO2 := Lib.hid (And.intro (HOW.out.below hbel HOW.out.lt) (HOP.out.below hbel HOP.out.lt)); obtain ⟨u3, hu3⟩ := laterC_step HLW.out hbel; subst hu3; clear hbel; rw [HSO.out])
         exact bodyPost_ret (v := .tuple #[.agg #[.int .i64 0, .int .i64 0], .bool false]) (by simp [results, Tryz.results18, go_sem, r0, r1]) rfl (retpost_none HNONE.out (by repeat (first | exact u3.back HW.out | refine Below.setCell ?_ (by first | (simp; done) | (simp; omega)) _)))
     · obtain rfl : j = pk := by omega
       have hzero : ∀ m : Nat, j ≤ m → psI ns x m = 0 ∧ psW ns x m = 0 := fun m hm => by
        unfold psI psW; rw [if_neg (by rw [HPN.out]; omega), if_neg (by rw [HPN.out]; omega)]; exact ⟨rfl, rfl⟩
       have hup : ∀ m, upTo j m (psI ns x m) = .int .i64 (psI ns x m) ∧ upTo j m (psW ns x m) = .int .i64 (psW ns x m) := fun m => by
        unfold upTo
        rcases Nat.lt_or_ge m j with g | g
        · rw [if_pos g, if_pos g]; exact ⟨rfl, rfl⟩
        · obtain ⟨z, y⟩ := hzero m g
          rw [if_neg (by omega), if_neg (by omega), z, y]; exact ⟨rfl, rfl⟩
       have hall : ∀ m, m < 3 → psOk ns x m = true := fun m hm => by
        rcases Nat.lt_or_ge m j with g | g
        · exact HI.out.2.2 m g
        · unfold psOk; rw [decide_eq_true (by rw [HPN.out]; omega)]; rfl
       have HRES := Lib.hid (HR.out.trans (sortN_all (by rw [HN.out]; exact hl) (by rw [HN.out]; exact HF.out) hall))
       have hsk : ∀ m : Nat, (m : Int) < partsN x.kind → m < 3 → Sok (psI ns x m) (psW ns x m) := fun m hm h3 => sok_of (by
        have := hall m h3
        unfold psOk at this
        rw [decide_eq_false (by omega)] at this
        exact this)
       have hs0 : 0 < partsN x.kind → Sok (psI ns x 0) (psW ns x 0) := fun h => hsk 0 h (by omega)
       have hs1 : 1 < partsN x.kind → Sok (psI ns x 1) (psW ns x 1) := fun h => hsk 1 h (by omega)
       have hz1 : partsN x.kind ≤ 1 → psI ns x 1 = 0 ∧ psW ns x 1 = 0 := fun h => hzero 1 (by rw [HPN.out] at h; omega)
       have hg : ∀ (f : Nat) (v : Value), (arr ns x j)[f]? = some v → u.val.cell? ⟨GA, f, none⟩ = some v := fun f v h => (HI.out.1.cell f).trans h
       have g0 := hg 0 (.int .i64 (psI ns x 0)) (by show some (upTo j 0 (psI ns x 0)) = _; rw [(hup 0).1])
       have g1 := hg 1 (.int .i64 (psW ns x 0)) (by show some (upTo j 0 (psW ns x 0)) = _; rw [(hup 0).2])
       have g2 := hg 2 (.int .i64 (psI ns x 1)) (by show some (upTo j 1 (psI ns x 1)) = _; rw [(hup 1).1])
       have g3 := hg 3 (.int .i64 (psW ns x 1)) (by show some (upTo j 1 (psW ns x 1)) = _; rw [(hup 1).2])
       have g4 := hg 4 (.int .i64 (psI ns x 2)) (by show some (upTo j 2 (psI ns x 2)) = _; rw [(hup 2).1])
       have g5 := hg 5 (.int .i64 (psW ns x 2)) (by show some (upTo j 2 (psW ns x 2)) = _; rw [(hup 2).2])
       generalize psI ns x 0 = ai at *
       generalize psW ns x 0 = aw at *
       generalize psI ns x 1 = bi at *
       generalize psW ns x 1 = bw at *
       generalize psI ns x 2 = ci at *
       generalize psW ns x 2 = cw at *
       have HS0 := Lib.hid hs0
       have HS1 := Lib.hid hs1
       have HZ1 := Lib.hid hz1
       have HPOS := Lib.hid (show 0 ≤ partsN x.kind by rw [HPN.out]; omega)
       clear hzero hup hall hsk hg hs0 hs1 hz1 hA
       go_upto_region 12 with (go_at_call 77; refine (sortOf_calls x.kind x.n x.m ai aw bi bw ci cw x.a x.b x.c x.idx x.wid x.name _ HPOS.out HS0.out HS1.out HZ1.out).mono ?_; rintro e w' ⟨ri, rw', rok, rfl, hbel, hok, hval⟩; have HOK := Lib.hid hok; have HVAL := Lib.hid hval; obtain ⟨u3, hu3⟩ := u.step hbel; subst hu3; clear hok hval hbel)
       have e0 : (u3.val.alloc (.cells #[.int .i64 ri, .int .i64 rw'] 34)).cell? ⟨u3.val.heap.size, 0, none⟩ = some (.int .i64 ri) := by go_simp
       have e1 : (u3.val.alloc (.cells #[.int .i64 ri, .int .i64 rw'] 34)).cell? ⟨u3.val.heap.size, 1, none⟩ = some (.int .i64 rw') := by go_simp
       obtain ⟨u4, hu4⟩ := u3.alloc (.cells #[.int .i64 ri, .int .i64 rw'] 34)
       rw [hu4] at e0 e1 ⊢
       clear hu4 g0 g1 g2 g3 g4 g5
       by_cases hrok : rok = true
       · subst hrok
         obtain ⟨⟨pi, pa⟩, hp⟩ := Option.isSome_iff_exists.1 HOK.out.symm
         have hv := HVAL.out _ hp
         cases hv
         have HP := Lib.hid hp
         clear hp
         go_wp2
         exact bodyPost_ret (v := .tuple #[.agg #[.int .i64 ri, .int .i64 rw'], .bool true]) (by simp [results, Tryz.results18, go_sem, r0, r1]) rfl (retpost_some (HRES.out.trans HP.out) (by repeat (first | exact u4.back HW.out | refine Below.setCell ?_ (by first | (simp; done) | (simp; omega)) _)))
       · have hrok := eq_false_of_ne_true hrok
         subst hrok
         have HP := Lib.hid (Option.not_isSome_iff_eq_none.1 (by rw [← HOK.out]; exact Bool.noConfusion))
         go_wp2
         exact bodyPost_ret (v := .tuple #[.agg #[.int .i64 0, .int .i64 0], .bool false]) (by simp [results, Tryz.results18, go_sem, r0, r1]) rfl (retpost_none (HRES.out.trans HP.out) (by repeat (first | exact u4.back HW.out | refine Below.setCell ?_ (by first | (simp; done) | (simp; omega)) _)))
end Go.Proofs.YtbenebcphaiohaaGreat
namespace Go.Proofs.YtbenebcphaiohaaGreat
open Go.RowKit
attribute [local go_sem high] eq_sort
theorem nodesOk_calls (mv : Value) (M : Md) (w : World) (hM : MdAt w mv M) (hnm : ∀ x, x ∈ M.nodes → x.name.size ≤ 140737488351232) :
 Makes Tryz.prog 161 #[mv] w (.bool (nodesB M.nodes)) := by
 obtain ⟨s0, s1, s2, s3, s4, rfl, hS, -, -, -, -⟩ := hM.at_
 obtain ⟨A, c, rfl, hnc, hc', hA⟩ := hS
 clear hM
 obtain ⟨R, hR⟩ : ∃ R, R = nodesB M.nodes := ⟨_, rfl⟩
 rw [← hR]
 have HNO := Lib.hid (show ∀ k, k < M.nodes.length → nodeB M.nodes k = false → R = false from fun k h1 h2 => hR.trans (nodes_no h1 h2))
 have HYES := Lib.hid (show (∀ j, j < M.nodes.length → nodeB M.nodes j = true) → R = true from fun h => hR.trans (nodes_yes h))
 have HNM := Lib.hid hnm
 clear hR hnm
 generalize M.nodes = ns at *
 generalize hN : ns.length = n at *
 have HN := Lib.hid hN
 have HNC := Lib.hid hnc
 have HC := Lib.hid hc'
 have hn : n ≤ 281474976710656 := Nat.le_trans hnc hc'
 clear hN
 have HA := Lib.hid hA
 go_enter Tryz.func161, Tryz.ntmps161
 go_wp2
 have HB := Lib.hid (box_below w #[.slice A n c, s1, s2, s3, s4] 27)
 have m0 := box_cell w #[.slice A n c, s1, s2, s3, s4] 27 0 _ rfl
 generalize w.alloc (.cells #[.slice A n c, s1, s2, s3, s4] 27) = w1 at *
 have m0 : ∀ u : Later w1, u.val.cell? ⟨w.heap.size, 0, none⟩ = some (.slice A n c) := m0
 generalize w.heap.size = g0 at m0 ⊢
 go_loopw [10] (fun i wr => ∃ k : Nat, k ≤ n ∧ i = .int .i64 k ∧ Hid (∀ j, j < k → nodeB ns j = true) ∧ LaterC w1 wr) (fun i _ => n - (intOf i).toNat)
 case atStart => exact ⟨0, Nat.zero_le _, rfl, Lib.hid (fun i hi => absurd hi (Nat.not_lt_zero _)), LaterC.refl _⟩
 case round =>
  obtain ⟨k, hk, rfl, hto, ⟨u, rfl⟩⟩ := hrel
  by_cases hlt : k < n
  · have hlt' : (k : Int) < n := by omega
    have hkc : (k : Int) ≤ c := by omega
    have hmem : ns.getD k Nd.zero ∈ ns := List.mem_of_getElem? (getD_at (by rw [HN.out]; exact hlt) _)
    have HSZ := Lib.hid (HNM.out _ hmem)
    clear hmem
    obtain ⟨g, o, rfl, hx⟩ := hA k _ (getD_at (by rw [HN.out]; exact hlt) Nd.zero)
    have HSL := Lib.hid (show SlAt enNd w (.slice (some ⟨g, o, none⟩) k c) (ns.take k) from SlAt.take HN.out HNC.out HC.out HA.out (Nat.le_of_lt hlt))
    have HNB := Lib.hid (show nodeB ns k = decide (sortN (ns.take k) (ns.getD k Nd.zero) = some ((ns.getD k Nd.zero).idx, (ns.getD k Nd.zero).wid)) from rfl)
    generalize ns.getD k Nd.zero = x at *
    have q : ∀ (f : Nat) (v : Value), (enNd.cells x)[f]? = some v → ∀ l : Later w1, l.val.cell? ⟨g, o + k * 9 + f, none⟩ = some v := fun f v hv => hx.at_ HB.out f v hv
    have q0 : ∀ l : Later w1, l.val.cell? ⟨g, o + k * 9, none⟩ = some (.int .i64 x.kind) := hx.at_ HB.out 0 _ rfl
    have q1 := q 1 _ rfl
    have q2 := q 2 _ rfl
    have q3 := q 3 _ rfl
    have q4 := q 4 _ rfl
    have q5 := q 5 _ rfl
    have q6 := q 6 _ rfl
    have q7 := q 7 _ rfl
    have q8 := q 8 _ rfl
    clear hx hA q
    go_upto_region 4 with fail
    have p0 : (u.val.alloc (Obj.cells #[.int .i64 x.kind, .int .i64 x.a, .int .i64 x.b, .int .i64 x.c, .int .i64 x.n, .int .i64 x.m, .int .i64 x.idx, .int .i64 x.wid, .string x.name] 38)).cell? ⟨u.val.heap.size, 0, none⟩ = some (.int .i64 x.kind) := by go_simp
    have p1 : (u.val.alloc (Obj.cells #[.int .i64 x.kind, .int .i64 x.a, .int .i64 x.b, .int .i64 x.c, .int .i64 x.n, .int .i64 x.m, .int .i64 x.idx, .int .i64 x.wid, .string x.name] 38)).cell? ⟨u.val.heap.size, 1, none⟩ = some (.int .i64 x.a) := by go_simp
    have p2 : (u.val.alloc (Obj.cells #[.int .i64 x.kind, .int .i64 x.a, .int .i64 x.b, .int .i64 x.c, .int .i64 x.n, .int .i64 x.m, .int .i64 x.idx, .int .i64 x.wid, .string x.name] 38)).cell? ⟨u.val.heap.size, 2, none⟩ = some (.int .i64 x.b) := by go_simp
    have p3 : (u.val.alloc (Obj.cells #[.int .i64 x.kind, .int .i64 x.a, .int .i64 x.b, .int .i64 x.c, .int .i64 x.n, .int .i64 x.m, .int .i64 x.idx, .int .i64 x.wid, .string x.name] 38)).cell? ⟨u.val.heap.size, 3, none⟩ = some (.int .i64 x.c) := by go_simp
    have p4 : (u.val.alloc (Obj.cells #[.int .i64 x.kind, .int .i64 x.a, .int .i64 x.b, .int .i64 x.c, .int .i64 x.n, .int .i64 x.m, .int .i64 x.idx, .int .i64 x.wid, .string x.name] 38)).cell? ⟨u.val.heap.size, 4, none⟩ = some (.int .i64 x.n) := by go_simp
    have p5 : (u.val.alloc (Obj.cells #[.int .i64 x.kind, .int .i64 x.a, .int .i64 x.b, .int .i64 x.c, .int .i64 x.n, .int .i64 x.m, .int .i64 x.idx, .int .i64 x.wid, .string x.name] 38)).cell? ⟨u.val.heap.size, 5, none⟩ = some (.int .i64 x.m) := by go_simp
    have p6 : (u.val.alloc (Obj.cells #[.int .i64 x.kind, .int .i64 x.a, .int .i64 x.b, .int .i64 x.c, .int .i64 x.n, .int .i64 x.m, .int .i64 x.idx, .int .i64 x.wid, .string x.name] 38)).cell? ⟨u.val.heap.size, 6, none⟩ = some (.int .i64 x.idx) := by go_simp
    have p7 : (u.val.alloc (Obj.cells #[.int .i64 x.kind, .int .i64 x.a, .int .i64 x.b, .int .i64 x.c, .int .i64 x.n, .int .i64 x.m, .int .i64 x.idx, .int .i64 x.wid, .string x.name] 38)).cell? ⟨u.val.heap.size, 7, none⟩ = some (.int .i64 x.wid) := by go_simp
    have p8 : (u.val.alloc (Obj.cells #[.int .i64 x.kind, .int .i64 x.a, .int .i64 x.b, .int .i64 x.c, .int .i64 x.n, .int .i64 x.m, .int .i64 x.idx, .int .i64 x.wid, .string x.name] 38)).cell? ⟨u.val.heap.size, 8, none⟩ = some (.string x.name) := by go_simp
    have hL5 : LaterC w1 (u.val.alloc (Obj.cells #[.int .i64 x.kind, .int .i64 x.a, .int .i64 x.b, .int .i64 x.c, .int .i64 x.n, .int .i64 x.m, .int .i64 x.idx, .int .i64 x.wid, .string x.name] 38)) := u.alloc _
    generalize (u.val.alloc (Obj.cells #[.int .i64 x.kind, .int .i64 x.a, .int .i64 x.b, .int .i64 x.c, .int .i64 x.n, .int .i64 x.m, .int .i64 x.idx, .int .i64 x.wid, .string x.name] 38)) = w5 at *
    generalize u.val.heap.size = GX at *
    have n0 := Later.re m0 hL5
    have HL5 := Lib.hid hL5
    have HB5 := Lib.hid (HB.out.trans (hL5.below.mono HB.out.size))
    have p0 := Later.cell p0
    have p1 := Later.cell p1
    have p2 := Later.cell p2
    have p3 := Later.cell p3
    have p4 := Later.cell p4
    have p5 := Later.cell p5
    have p6 := Later.cell p6
    have p7 := Later.cell p7
    have p8 := Later.cell p8
    have HQL := Lib.hid (show ∀ W, LaterC w5 W → W.cell? ⟨g0, 0, none⟩ = some (.slice (some ⟨g, o, none⟩) n c) ∧ W.cell? ⟨GX, 0, none⟩ = some (.int .i64 x.kind) ∧ W.cell? ⟨GX, 1, none⟩ = some (.int .i64 x.a) ∧ W.cell? ⟨GX, 2, none⟩ = some (.int .i64 x.b) ∧ W.cell? ⟨GX, 3, none⟩ = some (.int .i64 x.c) ∧ W.cell? ⟨GX, 4, none⟩ = some (.int .i64 x.n) ∧ W.cell? ⟨GX, 5, none⟩ = some (.int .i64 x.m) ∧ W.cell? ⟨GX, 6, none⟩ = some (.int .i64 x.idx) ∧ W.cell? ⟨GX, 7, none⟩ = some (.int .i64 x.wid) ∧ W.cell? ⟨GX, 8, none⟩ = some (.string x.name) from fun W h => by obtain ⟨v, rfl⟩ := h; exact ⟨n0 v, p0 v, p1 v, p2 v, p3 v, p4 v, p5 v, p6 v, p7 v, p8 v⟩)
    clear m0 q0 q1 q2 q3 q4 q5 q6 q7 q8 hL5
    refine at_world (w := w5) ?_
    intro u
    cases hr : sortN (ns.take k) x with
    | none =>
      have HV := Lib.hid (show retV (sortN (ns.take k) x) = .tuple #[.agg #[.int .i64 0, .int .i64 0], .bool false] by rw [hr]; rfl)
      have HR := Lib.hid (HNO.out k hlt (by rw [HNB.out, hr]; rfl))
      clear hto hr
      go_wp2
      go_region_held3 (fun w' => w'.cell? ⟨g0, 0, none⟩ = some (.slice (some ⟨g, o, none⟩) n c) ∧ w'.cell? ⟨GX, 0, none⟩ = some (.int .i64 x.kind) ∧ w'.cell? ⟨GX, 1, none⟩ = some (.int .i64 x.a) ∧ w'.cell? ⟨GX, 2, none⟩ = some (.int .i64 x.b) ∧ w'.cell? ⟨GX, 3, none⟩ = some (.int .i64 x.c) ∧ w'.cell? ⟨GX, 4, none⟩ = some (.int .i64 x.n) ∧ w'.cell? ⟨GX, 5, none⟩ = some (.int .i64 x.m) ∧ w'.cell? ⟨GX, 6, none⟩ = some (.int .i64 x.idx) ∧ w'.cell? ⟨GX, 7, none⟩ = some (.int .i64 x.wid) ∧ w'.cell? ⟨GX, 8, none⟩ = some (.string x.name)) ((refine HQL.out _ ?_; repeat (first | exact ⟨_, rfl⟩ | refine LaterC.drew' ?_ | refine LaterC.alloc' ?_ _ | exact LaterC.setCell' (LaterC.alloc' ⟨_, rfl⟩ _) _ _ (Later.size _) | refine LaterC.setCell' ?_ _ _ (by first | exact Later.size _ | (simp; exact Later.size _))))) (first | (go_at_call 18; refine (NodeSort'_calls _ (ns.take k) x _ (HSL.out.below (below_of HB5.out (by repeat (first | exact ⟨_, rfl⟩ | refine LaterC.drew' ?_ | refine LaterC.alloc' ?_ _ | exact LaterC.setCell' (LaterC.alloc' ⟨_, rfl⟩ _) _ _ (Later.size _) | refine LaterC.setCell' ?_ _ _ (by first | exact Later.size _ | (simp; exact Later.size _)))))) HSZ.out).mono ?_; rintro e w' ⟨rfl, hbel⟩; rw [HV.out]; have bx0 := keepcell hbel (a := ⟨u.val.heap.size, 0, none⟩) (v := .int .i64 0); have bx1 := keepcell hbel (a := ⟨u.val.heap.size, 1, none⟩) (v := .int .i64 0); have bf0 := keepfrozen hbel (a := ⟨u.val.heap.size, 0, none⟩) (v := .int .i64 0); have bf1 := keepfrozen hbel (a := ⟨u.val.heap.size, 1, none⟩) (v := .int .i64 0); obtain ⟨u2, hu2⟩ := laterC_step (w1 := w5) (by repeat (first | exact ⟨_, rfl⟩ | refine LaterC.drew' ?_ | refine LaterC.alloc' ?_ _ | exact LaterC.setCell' (LaterC.alloc' ⟨_, rfl⟩ _) _ _ (Later.size _) | refine LaterC.setCell' ?_ _ _ (by first | exact Later.size _ | (simp; exact Later.size _)))) hbel; subst hu2; clear hbel))
      · have e0 : (u2.val.alloc (Obj.cells #[.int .i64 0, .int .i64 0] 34)).cell? ⟨u2.val.heap.size, 0, none⟩ = some (.int .i64 0) := by go_simp
        have e1 : (u2.val.alloc (Obj.cells #[.int .i64 0, .int .i64 0] 34)).cell? ⟨u2.val.heap.size, 1, none⟩ = some (.int .i64 0) := by go_simp
        have hL : LaterC w5 (u2.val.alloc (Obj.cells #[.int .i64 0, .int .i64 0] 34)) := by repeat (first | exact ⟨_, rfl⟩ | refine LaterC.drew' ?_ | refine LaterC.alloc' ?_ _ | exact LaterC.setCell' (LaterC.alloc' ⟨_, rfl⟩ _) _ _ (Later.size _) | refine LaterC.setCell' ?_ _ _ (by first | exact Later.size _ | (simp; exact Later.size _)))
        try clear bx0 bx1 bf0 bf1
        generalize (u2.val.alloc (Obj.cells #[.int .i64 0, .int .i64 0] 34)) = w4 at *
        generalize u2.val.heap.size = G at *
        have HL := Lib.hid hL
        have n0 := Later.re n0 hL
        have n6 := Later.re p6 hL
        have n7 := Later.re p7 hL
        have e0 := Later.cell e0
        have e1 := Later.cell e1
        clear p0 p1 p2 p3 p4 p5 p6 p7 p8 hL
        refine at_world (w := w4) ?_
        intro u3
        go_wp2
        go_ret
        exact ⟨ret_eq (congrArg Value.bool HR.out.symm), HB.out.trans (((HL5.out.trans HL.out).trans ⟨u3, rfl⟩).below.mono HB.out.size)⟩
      · have e0 : ((u2.val.setCell ⟨u.val.heap.size, 0, none⟩ (.int .i64 0)).setCell ⟨u.val.heap.size, 1, none⟩ (.int .i64 0)).cell? ⟨u.val.heap.size, 0, none⟩ = some (.int .i64 0) := (World.cell?_setCell_other _ _ _ _ (by intro e; simp only [Addr.mk.injEq] at e; omega)).trans (World.cell?_setCell_same _ _ _ (bx0 (by go_simp)))
        have e1 : ((u2.val.setCell ⟨u.val.heap.size, 0, none⟩ (.int .i64 0)).setCell ⟨u.val.heap.size, 1, none⟩ (.int .i64 0)).cell? ⟨u.val.heap.size, 1, none⟩ = some (.int .i64 0) := World.cell?_setCell_same _ _ _ ((World.cell?_setCell_other _ _ _ _ (by intro e; simp only [Addr.mk.injEq] at e; omega)).trans (bx1 (by go_simp)))
        have hL : LaterC w5 ((u2.val.setCell ⟨u.val.heap.size, 0, none⟩ (.int .i64 0)).setCell ⟨u.val.heap.size, 1, none⟩ (.int .i64 0)) := by repeat (first | exact ⟨_, rfl⟩ | refine LaterC.drew' ?_ | refine LaterC.alloc' ?_ _ | exact LaterC.setCell' (LaterC.alloc' ⟨_, rfl⟩ _) _ _ (Later.size _) | refine LaterC.setCell' ?_ _ _ (by first | exact Later.size _ | (simp; exact Later.size _)))
        try clear bx0 bx1 bf0 bf1
        generalize ((u2.val.setCell ⟨u.val.heap.size, 0, none⟩ (.int .i64 0)).setCell ⟨u.val.heap.size, 1, none⟩ (.int .i64 0)) = w4 at *
        generalize u.val.heap.size = G at *
        have HL := Lib.hid hL
        have n0 := Later.re n0 hL
        have n6 := Later.re p6 hL
        have n7 := Later.re p7 hL
        have e0 := Later.cell e0
        have e1 := Later.cell e1
        clear p0 p1 p2 p3 p4 p5 p6 p7 p8 hL
        refine at_world (w := w4) ?_
        intro u3
        go_wp2
        go_ret
        exact ⟨ret_eq (congrArg Value.bool HR.out.symm), HB.out.trans (((HL5.out.trans HL.out).trans ⟨u3, rfl⟩).below.mono HB.out.size)⟩
    | some p =>
      obtain ⟨pi, pa⟩ := p
      have HV := Lib.hid (show retV (sortN (ns.take k) x) = .tuple #[.agg #[.int .i64 pi, .int .i64 pa], .bool true] by rw [hr]; rfl)
      by_cases he : (pi == x.idx && (pa == x.wid)) = true
      · have HTO := Lib.hid (show ∀ j, j < k + 1 → nodeB ns j = true from fun j hj => by
         rcases Nat.lt_or_ge j k with g | g
         · exact hto.out j g
         · obtain rfl : j = k := by omega
           rw [HNB.out, hr]
           simp only [Bool.and_eq_true, beq_iff_eq] at he
           rw [he.1, he.2]
           exact decide_eq_true rfl)
        clear hto hr
        go_wp2
        go_region_held3 (fun w' => w'.cell? ⟨g0, 0, none⟩ = some (.slice (some ⟨g, o, none⟩) n c) ∧ w'.cell? ⟨GX, 0, none⟩ = some (.int .i64 x.kind) ∧ w'.cell? ⟨GX, 1, none⟩ = some (.int .i64 x.a) ∧ w'.cell? ⟨GX, 2, none⟩ = some (.int .i64 x.b) ∧ w'.cell? ⟨GX, 3, none⟩ = some (.int .i64 x.c) ∧ w'.cell? ⟨GX, 4, none⟩ = some (.int .i64 x.n) ∧ w'.cell? ⟨GX, 5, none⟩ = some (.int .i64 x.m) ∧ w'.cell? ⟨GX, 6, none⟩ = some (.int .i64 x.idx) ∧ w'.cell? ⟨GX, 7, none⟩ = some (.int .i64 x.wid) ∧ w'.cell? ⟨GX, 8, none⟩ = some (.string x.name)) ((refine HQL.out _ ?_; repeat (first | exact ⟨_, rfl⟩ | refine LaterC.drew' ?_ | refine LaterC.alloc' ?_ _ | exact LaterC.setCell' (LaterC.alloc' ⟨_, rfl⟩ _) _ _ (Later.size _) | refine LaterC.setCell' ?_ _ _ (by first | exact Later.size _ | (simp; exact Later.size _))))) (first | (go_at_call 18; refine (NodeSort'_calls _ (ns.take k) x _ (HSL.out.below (below_of HB5.out (by repeat (first | exact ⟨_, rfl⟩ | refine LaterC.drew' ?_ | refine LaterC.alloc' ?_ _ | exact LaterC.setCell' (LaterC.alloc' ⟨_, rfl⟩ _) _ _ (Later.size _) | refine LaterC.setCell' ?_ _ _ (by first | exact Later.size _ | (simp; exact Later.size _)))))) HSZ.out).mono ?_; rintro e w' ⟨rfl, hbel⟩; rw [HV.out]; have bx0 := keepcell hbel (a := ⟨u.val.heap.size, 0, none⟩) (v := .int .i64 0); have bx1 := keepcell hbel (a := ⟨u.val.heap.size, 1, none⟩) (v := .int .i64 0); have bf0 := keepfrozen hbel (a := ⟨u.val.heap.size, 0, none⟩) (v := .int .i64 0); have bf1 := keepfrozen hbel (a := ⟨u.val.heap.size, 1, none⟩) (v := .int .i64 0); obtain ⟨u2, hu2⟩ := laterC_step (w1 := w5) (by repeat (first | exact ⟨_, rfl⟩ | refine LaterC.drew' ?_ | refine LaterC.alloc' ?_ _ | exact LaterC.setCell' (LaterC.alloc' ⟨_, rfl⟩ _) _ _ (Later.size _) | refine LaterC.setCell' ?_ _ _ (by first | exact Later.size _ | (simp; exact Later.size _)))) hbel; subst hu2; clear hbel))
        · have e0 : (u2.val.alloc (Obj.cells #[.int .i64 pi, .int .i64 pa] 34)).cell? ⟨u2.val.heap.size, 0, none⟩ = some (.int .i64 pi) := by go_simp
          have e1 : (u2.val.alloc (Obj.cells #[.int .i64 pi, .int .i64 pa] 34)).cell? ⟨u2.val.heap.size, 1, none⟩ = some (.int .i64 pa) := by go_simp
          have hL : LaterC w5 (u2.val.alloc (Obj.cells #[.int .i64 pi, .int .i64 pa] 34)) := by repeat (first | exact ⟨_, rfl⟩ | refine LaterC.drew' ?_ | refine LaterC.alloc' ?_ _ | exact LaterC.setCell' (LaterC.alloc' ⟨_, rfl⟩ _) _ _ (Later.size _) | refine LaterC.setCell' ?_ _ _ (by first | exact Later.size _ | (simp; exact Later.size _)))
          try clear bx0 bx1 bf0 bf1
          generalize (u2.val.alloc (Obj.cells #[.int .i64 pi, .int .i64 pa] 34)) = w4 at *
          generalize u2.val.heap.size = G at *
          have HL := Lib.hid hL
          have n0 := Later.re n0 hL
          have n6 := Later.re p6 hL
          have n7 := Later.re p7 hL
          have e0 := Later.cell e0
          have e1 := Later.cell e1
          clear p0 p1 p2 p3 p4 p5 p6 p7 p8 hL
          refine at_world (w := w4) ?_
          intro u3
          go_wp2
          go_roundw
          case rel => exact ⟨k + 1, by omega, by go_num, HTO, (HL5.out.trans HL.out).trans ⟨u3, rfl⟩⟩
          case measure => simp [intOf] <;> omega
        · have e0 : ((u2.val.setCell ⟨u.val.heap.size, 0, none⟩ (.int .i64 pi)).setCell ⟨u.val.heap.size, 1, none⟩ (.int .i64 pa)).cell? ⟨u.val.heap.size, 0, none⟩ = some (.int .i64 pi) := (World.cell?_setCell_other _ _ _ _ (by intro e; simp only [Addr.mk.injEq] at e; omega)).trans (World.cell?_setCell_same _ _ _ (bx0 (by go_simp)))
          have e1 : ((u2.val.setCell ⟨u.val.heap.size, 0, none⟩ (.int .i64 pi)).setCell ⟨u.val.heap.size, 1, none⟩ (.int .i64 pa)).cell? ⟨u.val.heap.size, 1, none⟩ = some (.int .i64 pa) := World.cell?_setCell_same _ _ _ ((World.cell?_setCell_other _ _ _ _ (by intro e; simp only [Addr.mk.injEq] at e; omega)).trans (bx1 (by go_simp)))
          have hL : LaterC w5 ((u2.val.setCell ⟨u.val.heap.size, 0, none⟩ (.int .i64 pi)).setCell ⟨u.val.heap.size, 1, none⟩ (.int .i64 pa)) := by repeat (first | exact ⟨_, rfl⟩ | refine LaterC.drew' ?_ | refine LaterC.alloc' ?_ _ | exact LaterC.setCell' (LaterC.alloc' ⟨_, rfl⟩ _) _ _ (Later.size _) | refine LaterC.setCell' ?_ _ _ (by first | exact Later.size _ | (simp; exact Later.size _)))
          try clear bx0 bx1 bf0 bf1
          generalize ((u2.val.setCell ⟨u.val.heap.size, 0, none⟩ (.int .i64 pi)).setCell ⟨u.val.heap.size, 1, none⟩ (.int .i64 pa)) = w4 at *
          generalize u.val.heap.size = G at *
          have HL := Lib.hid hL
          have n0 := Later.re n0 hL
          have n6 := Later.re p6 hL
          have n7 := Later.re p7 hL
          have e0 := Later.cell e0
          have e1 := Later.cell e1
          clear p0 p1 p2 p3 p4 p5 p6 p7 p8 hL
          refine at_world (w := w4) ?_
          intro u3
          go_wp2
          go_roundw
          case rel => exact ⟨k + 1, by omega, by go_num, HTO, (HL5.out.trans HL.out).trans ⟨u3, rfl⟩⟩
          case measure => simp [intOf] <;> omega
      · have he := eq_false_of_ne_true he
        have HR := Lib.hid (HNO.out k hlt (by
         rw [HNB.out, hr]
         refine decide_eq_false (fun h => ?_)
         cases h
         simp at he))
        clear hto hr
        go_wp2
        go_region_held3 (fun w' => w'.cell? ⟨g0, 0, none⟩ = some (.slice (some ⟨g, o, none⟩) n c) ∧ w'.cell? ⟨GX, 0, none⟩ = some (.int .i64 x.kind) ∧ w'.cell? ⟨GX, 1, none⟩ = some (.int .i64 x.a) ∧ w'.cell? ⟨GX, 2, none⟩ = some (.int .i64 x.b) ∧ w'.cell? ⟨GX, 3, none⟩ = some (.int .i64 x.c) ∧ w'.cell? ⟨GX, 4, none⟩ = some (.int .i64 x.n) ∧ w'.cell? ⟨GX, 5, none⟩ = some (.int .i64 x.m) ∧ w'.cell? ⟨GX, 6, none⟩ = some (.int .i64 x.idx) ∧ w'.cell? ⟨GX, 7, none⟩ = some (.int .i64 x.wid) ∧ w'.cell? ⟨GX, 8, none⟩ = some (.string x.name)) ((refine HQL.out _ ?_; repeat (first | exact ⟨_, rfl⟩ | refine LaterC.drew' ?_ | refine LaterC.alloc' ?_ _ | exact LaterC.setCell' (LaterC.alloc' ⟨_, rfl⟩ _) _ _ (Later.size _) | refine LaterC.setCell' ?_ _ _ (by first | exact Later.size _ | (simp; exact Later.size _))))) (first | (go_at_call 18; refine (NodeSort'_calls _ (ns.take k) x _ (HSL.out.below (below_of HB5.out (by repeat (first | exact ⟨_, rfl⟩ | refine LaterC.drew' ?_ | refine LaterC.alloc' ?_ _ | exact LaterC.setCell' (LaterC.alloc' ⟨_, rfl⟩ _) _ _ (Later.size _) | refine LaterC.setCell' ?_ _ _ (by first | exact Later.size _ | (simp; exact Later.size _)))))) HSZ.out).mono ?_; rintro e w' ⟨rfl, hbel⟩; rw [HV.out]; have bx0 := keepcell hbel (a := ⟨u.val.heap.size, 0, none⟩) (v := .int .i64 0); have bx1 := keepcell hbel (a := ⟨u.val.heap.size, 1, none⟩) (v := .int .i64 0); have bf0 := keepfrozen hbel (a := ⟨u.val.heap.size, 0, none⟩) (v := .int .i64 0); have bf1 := keepfrozen hbel (a := ⟨u.val.heap.size, 1, none⟩) (v := .int .i64 0); obtain ⟨u2, hu2⟩ := laterC_step (w1 := w5) (by repeat (first | exact ⟨_, rfl⟩ | refine LaterC.drew' ?_ | refine LaterC.alloc' ?_ _ | exact LaterC.setCell' (LaterC.alloc' ⟨_, rfl⟩ _) _ _ (Later.size _) | refine LaterC.setCell' ?_ _ _ (by first | exact Later.size _ | (simp; exact Later.size _)))) hbel; subst hu2; clear hbel))
        · have e0 : (u2.val.alloc (Obj.cells #[.int .i64 pi, .int .i64 pa] 34)).cell? ⟨u2.val.heap.size, 0, none⟩ = some (.int .i64 pi) := by go_simp
          have e1 : (u2.val.alloc (Obj.cells #[.int .i64 pi, .int .i64 pa] 34)).cell? ⟨u2.val.heap.size, 1, none⟩ = some (.int .i64 pa) := by go_simp
          have hL : LaterC w5 (u2.val.alloc (Obj.cells #[.int .i64 pi, .int .i64 pa] 34)) := by repeat (first | exact ⟨_, rfl⟩ | refine LaterC.drew' ?_ | refine LaterC.alloc' ?_ _ | exact LaterC.setCell' (LaterC.alloc' ⟨_, rfl⟩ _) _ _ (Later.size _) | refine LaterC.setCell' ?_ _ _ (by first | exact Later.size _ | (simp; exact Later.size _)))
          try clear bx0 bx1 bf0 bf1
          generalize (u2.val.alloc (Obj.cells #[.int .i64 pi, .int .i64 pa] 34)) = w4 at *
          generalize u2.val.heap.size = G at *
          have HL := Lib.hid hL
          have n0 := Later.re n0 hL
          have n6 := Later.re p6 hL
          have n7 := Later.re p7 hL
          have e0 := Later.cell e0
          have e1 := Later.cell e1
          clear p0 p1 p2 p3 p4 p5 p6 p7 p8 hL
          refine at_world (w := w4) ?_
          intro u3
          go_wp2
          go_ret
          exact ⟨ret_eq (congrArg Value.bool HR.out.symm), HB.out.trans (((HL5.out.trans HL.out).trans ⟨u3, rfl⟩).below.mono HB.out.size)⟩
        · have e0 : ((u2.val.setCell ⟨u.val.heap.size, 0, none⟩ (.int .i64 pi)).setCell ⟨u.val.heap.size, 1, none⟩ (.int .i64 pa)).cell? ⟨u.val.heap.size, 0, none⟩ = some (.int .i64 pi) := (World.cell?_setCell_other _ _ _ _ (by intro e; simp only [Addr.mk.injEq] at e; omega)).trans (World.cell?_setCell_same _ _ _ (bx0 (by go_simp)))
          have e1 : ((u2.val.setCell ⟨u.val.heap.size, 0, none⟩ (.int .i64 pi)).setCell ⟨u.val.heap.size, 1, none⟩ (.int .i64 pa)).cell? ⟨u.val.heap.size, 1, none⟩ = some (.int .i64 pa) := World.cell?_setCell_same _ _ _ ((World.cell?_setCell_other _ _ _ _ (by intro e; simp only [Addr.mk.injEq] at e; omega)).trans (bx1 (by go_simp)))
          have hL : LaterC w5 ((u2.val.setCell ⟨u.val.heap.size, 0, none⟩ (.int .i64 pi)).setCell ⟨u.val.heap.size, 1, none⟩ (.int .i64 pa)) := by repeat (first | exact ⟨_, rfl⟩ | refine LaterC.drew' ?_ | refine LaterC.alloc' ?_ _ | exact LaterC.setCell' (LaterC.alloc' ⟨_, rfl⟩ _) _ _ (Later.size _) | refine LaterC.setCell' ?_ _ _ (by first | exact Later.size _ | (simp; exact Later.size _)))
          try clear bx0 bx1 bf0 bf1
          generalize ((u2.val.setCell ⟨u.val.heap.size, 0, none⟩ (.int .i64 pi)).setCell ⟨u.val.heap.size, 1, none⟩ (.int .i64 pa)) = w4 at *
          generalize u.val.heap.size = G at *
          have HL := Lib.hid hL
          have n0 := Later.re n0 hL
          have n6 := Later.re p6 hL
          have n7 := Later.re p7 hL
          have e0 := Later.cell e0
          have e1 := Later.cell e1
          clear p0 p1 p2 p3 p4 p5 p6 p7 p8 hL
          refine at_world (w := w4) ?_
          intro u3
          go_wp2
          go_ret
          exact ⟨ret_eq (congrArg Value.bool HR.out.symm), HB.out.trans (((HL5.out.trans HL.out).trans ⟨u3, rfl⟩).below.mono HB.out.size)⟩
  · obtain rfl : k = n := by omega
    have HR := Lib.hid (HYES.out hto.out)
    clear hto hA
    go_wp2
    go_ret
    exact ⟨ret_eq (congrArg Value.bool HR.out.symm), u.back HB.out⟩
end Go.Proofs.YtbenebcphaiohaaGreat
namespace Go.Proofs.YtbenebcphaiohaaGreat
open Go.RowKit
def MadeP (ns : List Nd) (i : Nat) : Prop := ∃ j, Reach ns i j ∧ kindB ns j = true
theorem made_step {ns : List Nd} {i : Nat} : MadeP ns i ↔ kindB ns i = true ∨ ∃ p, IsPart ns i p ∧ MadeP ns p := by
 constructor
 · rintro ⟨j, h, hk⟩
   rcases h.cases_head with rfl | ⟨p, hp, hr⟩
   · exact .inl hk
   · exact .inr ⟨p, hp, j, hr, hk⟩
 · rintro (h | ⟨p, hp, j, hr, hk⟩)
   · exact ⟨i, .self, h⟩
   · exact ⟨j, hr.head hp, hk⟩
theorem fixed_made {ns : List Nd} {a : Nat} : fixedB ns a = true ↔ ¬ MadeP ns a := by
 have : fixedB ns a = true ↔ Fixed ns a := by simp [fixedB]
 rw [this]
 constructor
 · rintro h ⟨j, hr, hk⟩
   rw [h j hr] at hk; cases hk
 · intro h j hr
   exact eq_false_of_ne_true (fun hk => h ⟨j, hr, hk⟩)
theorem BoolsAt.setV {cs : Array Value} {n i : Nat} {T T' : Nat → Prop} (h : BoolsAt cs n T) (v : Bool) (ho : ∀ j, j ≠ i → (T' j ↔ T j)) (hi : v = true ↔ T' i) : BoolsAt (cs.setIfInBounds i (.bool v)) n T' := by
 refine ⟨by simp [h.1], fun j hj => ?_⟩
 by_cases e : j = i
 · subst e
   exact ⟨v, by rw [Array.getElem?_setIfInBounds_self_of_lt (by rw [h.1]; exact hj)], hi⟩
 · obtain ⟨u, h1, h2⟩ := h.2 j hj
   exact ⟨u, by rw [Array.getElem?_setIfInBounds_ne (fun h => e h.symm)]; exact h1, h2.trans (ho j e).symm⟩
theorem kind_in (ns : List Nd) (k : Nat) : inB (ns.getD k Nd.zero).kind 35 36 = kindB ns k := by
 rw [in3536]; unfold kindB; rw [Bool.or_comm]
theorem made_calls (mv : Value) (M : Md) (w : World) (hM : MdAt w mv M) (hd : Down M.nodes M.nodes.length) (hpos : ∀ x, x ∈ M.nodes → 0 ≤ partsN x.kind) :
 Calls Tryz.prog 163 #[mv] w fun e w' => ∃ g cs, e = .returned (.slice (some ⟨g, 0, none⟩) M.nodes.length M.nodes.length) ∧ Below w.heap.size w w' ∧ w.heap.size ≤ g ∧ OwnB w' g 4 cs ∧ BoolsAt cs M.nodes.length (MadeP M.nodes) := by
 obtain ⟨s0, s1, s2, s3, s4, rfl, hS, -, -, -, -⟩ := hM.at_
 obtain ⟨A, c, rfl, hnc, hc', hA⟩ := hS
 clear hM
 generalize M.nodes = ns at *
 generalize hN : ns.length = n at *
 have HN := Lib.hid hN
 have HD := Lib.hid hd
 have HPOS := Lib.hid hpos
 have hn : n ≤ 281474976710656 := Nat.le_trans hnc hc'
 clear hN hd hc' hnc hpos
 have hmk := make_any (P := Tryz.prog) 107 4 (.bool false) 1 1 Tryz.underlying107 (by kernel_rfl) n (by omega) (by omega)
 simp only [Value.cells, Nat.mul_one] at hmk
 go_enter Tryz.func163, Tryz.ntmps163
 have HB1 := Lib.hid (box_below w #[.slice A n c, s1, s2, s3, s4] 27)
 have m0 := box_cell w #[.slice A n c, s1, s2, s3, s4] 27 0 _ rfl
 have m0 : ∀ u : Later (w.alloc (.cells #[.slice A n c, s1, s2, s3, s4] 27)), u.val.cell? ⟨w.heap.size, 0, none⟩ = some (.slice A n c) := m0
 have hsz1 : (w.alloc (.cells #[.slice A n c, s1, s2, s3, s4] 27)).heap.size = w.heap.size + 1 := by simp
 go_upto_region 1 with fail
 generalize w.alloc (.cells #[.slice A n c, s1, s2, s3, s4] 27) = w1 at *
 refine at_world (w := w1) ?_
 intro u0
 go_upto_region 2 with fail
 have HO := Lib.hid (OwnB.new u0.val 4 (madeCells #[.bool false] n))
 have HT := Lib.hid ((BoolsAt.made n).congr (T' := fun j => j < 0 ∧ MadeP ns j) (fun j => by simp))
 have hL2 : LaterC w1 (u0.val.alloc (.cells (madeCells #[.bool false] n) 4)) := u0.alloc _
 have hgo : w1.heap.size ≤ u0.val.heap.size := u0.size
 clear hmk
 generalize madeCells #[.bool false] n = cs0 at *
 generalize u0.val.alloc (.cells cs0 4) = w2 at *
 generalize u0.val.heap.size = GO at *
 obtain ⟨v2, rfl⟩ := hL2
 clear u0
 go_wp2
 go_loopw [15] (fun i wr => ∃ k : Nat, k ≤ n ∧ i = .int .i64 k ∧ ∃ cs : Array Value, Hid (OwnB wr GO 4 cs ∧ BoolsAt cs n (fun j => j < k ∧ MadeP ns j)) ∧ LaterC w1 wr) (fun i _ => n - (intOf i).toNat)
 case atStart => exact ⟨0, Nat.zero_le _, rfl, cs0, Lib.hid ⟨HO.out, HT.out⟩, ⟨v2, rfl⟩⟩
 case round =>
  obtain ⟨k, hk, rfl, cs, HI, ⟨u, rfl⟩⟩ := hrel
  by_cases hlt : k < n
  · have hlt' : (k : Int) < n := by omega
    obtain ⟨g, o, rfl, hx⟩ := hA k _ (getD_at (by rw [HN.out]; exact hlt) Nd.zero)
    have hpx := HPOS.out _ (List.mem_of_getElem? (getD_at (by rw [HN.out]; exact hlt) Nd.zero))
    have hkin := kind_in ns k
    have hdk := HD.out k hlt
    have hst := made_step (ns := ns) (i := k)
    have hisp : ∀ p, IsPart ns k p ↔ ∃ m : Nat, m < 3 ∧ (m : Int) < partsN (ns.getD k Nd.zero).kind ∧ (ns.getD k Nd.zero).part m = p := fun p => Iff.rfl
    generalize ns.getD k Nd.zero = x at *
    have q0 : ∀ l : Later w1, l.val.cell? ⟨g, o + k * 9, none⟩ = some (.int .i64 x.kind) := hx.at_ HB1.out 0 _ rfl
    have q1 : ∀ l : Later w1, l.val.cell? ⟨g, o + k * 9 + 1, none⟩ = some (.int .i64 x.a) := hx.at_ HB1.out 1 _ rfl
    have q2 : ∀ l : Later w1, l.val.cell? ⟨g, o + k * 9 + 2, none⟩ = some (.int .i64 x.b) := hx.at_ HB1.out 2 _ rfl
    have q3 : ∀ l : Later w1, l.val.cell? ⟨g, o + k * 9 + 3, none⟩ = some (.int .i64 x.c) := hx.at_ HB1.out 3 _ rfl
    have q4 : ∀ l : Later w1, l.val.cell? ⟨g, o + k * 9 + 4, none⟩ = some (.int .i64 x.n) := hx.at_ HB1.out 4 _ rfl
    have q5 : ∀ l : Later w1, l.val.cell? ⟨g, o + k * 9 + 5, none⟩ = some (.int .i64 x.m) := hx.at_ HB1.out 5 _ rfl
    have q6 : ∀ l : Later w1, l.val.cell? ⟨g, o + k * 9 + 6, none⟩ = some (.int .i64 x.idx) := hx.at_ HB1.out 6 _ rfl
    have q7 : ∀ l : Later w1, l.val.cell? ⟨g, o + k * 9 + 7, none⟩ = some (.int .i64 x.wid) := hx.at_ HB1.out 7 _ rfl
    have q8 : ∀ l : Later w1, l.val.cell? ⟨g, o + k * 9 + 8, none⟩ = some (.string x.name) := hx.at_ HB1.out 8 _ rfl
    obtain ⟨pk, hpk⟩ := Int.eq_ofNat_of_zero_le hpx
    have hpk3 : pk ≤ 3 := by have := partsN_le x.kind; omega
    have hpk3' : (pk : Int) ≤ 3 := by omega
    have HPN := Lib.hid hpk
    have HDK := Lib.hid hdk
    have HST := Lib.hid hst
    have HISP := Lib.hid hisp
    have HKIN := Lib.hid hkin
    obtain ⟨vb, hvb, -⟩ := HI.out.2.2 k hlt
    have hgoc : u.val.cell? ⟨GO, k, none⟩ = some (.bool vb) := (HI.out.1.cell k).trans hvb
    have hgof : u.val.frozen? ⟨GO, k, none⟩ = false := HI.out.1.frozen k
    have hgolt : GO < u.val.heap.size := HI.out.1.lt
    have hgone : ¬ GO = u.val.heap.size := by omega
    clear hx hA hpx hkin hdk hst hisp hpk hvb
    go_upto_region 6 with (go_at_call 149; refine (named_same _ _).mono ?_; rintro e w' ⟨rfl, rfl⟩)
    have x0 : ((u.val.setCell ⟨GO, k, none⟩ (.bool (inB x.kind 35 36))).alloc (Obj.cells #[.int .i64 x.kind, .int .i64 x.a, .int .i64 x.b, .int .i64 x.c, .int .i64 x.n, .int .i64 x.m, .int .i64 x.idx, .int .i64 x.wid, .string x.name] 38)).cell? ⟨u.val.heap.size, 0, none⟩ = some (.int .i64 x.kind) := by go_simp
    have x1 : ((u.val.setCell ⟨GO, k, none⟩ (.bool (inB x.kind 35 36))).alloc (Obj.cells #[.int .i64 x.kind, .int .i64 x.a, .int .i64 x.b, .int .i64 x.c, .int .i64 x.n, .int .i64 x.m, .int .i64 x.idx, .int .i64 x.wid, .string x.name] 38)).cell? ⟨u.val.heap.size, 1, none⟩ = some (.int .i64 x.a) := by go_simp
    have x2 : ((u.val.setCell ⟨GO, k, none⟩ (.bool (inB x.kind 35 36))).alloc (Obj.cells #[.int .i64 x.kind, .int .i64 x.a, .int .i64 x.b, .int .i64 x.c, .int .i64 x.n, .int .i64 x.m, .int .i64 x.idx, .int .i64 x.wid, .string x.name] 38)).cell? ⟨u.val.heap.size, 2, none⟩ = some (.int .i64 x.b) := by go_simp
    have x3 : ((u.val.setCell ⟨GO, k, none⟩ (.bool (inB x.kind 35 36))).alloc (Obj.cells #[.int .i64 x.kind, .int .i64 x.a, .int .i64 x.b, .int .i64 x.c, .int .i64 x.n, .int .i64 x.m, .int .i64 x.idx, .int .i64 x.wid, .string x.name] 38)).cell? ⟨u.val.heap.size, 3, none⟩ = some (.int .i64 x.c) := by go_simp
    have hO5 : OwnB ((u.val.setCell ⟨GO, k, none⟩ (.bool (inB x.kind 35 36))).alloc (Obj.cells #[.int .i64 x.kind, .int .i64 x.a, .int .i64 x.b, .int .i64 x.c, .int .i64 x.n, .int .i64 x.m, .int .i64 x.idx, .int .i64 x.wid, .string x.name] 38)) GO 4 (cs.setIfInBounds k (.bool (inB x.kind 35 36))) := (HI.out.1.set k _).below (box_below _ _ _) (HI.out.1.set k (.bool (inB x.kind 35 36))).lt
    have hL5 : LaterC w1 ((u.val.setCell ⟨GO, k, none⟩ (.bool (inB x.kind 35 36))).alloc (Obj.cells #[.int .i64 x.kind, .int .i64 x.a, .int .i64 x.b, .int .i64 x.c, .int .i64 x.n, .int .i64 x.m, .int .i64 x.idx, .int .i64 x.wid, .string x.name] 38)) := LaterC.alloc' (LaterC.setCell' ⟨u, rfl⟩ _ _ hgo) _
    have hB5 : BoolsAt (cs.setIfInBounds k (.bool (inB x.kind 35 36))) n (fun j => (j < k ∧ MadeP ns j) ∨ (j = k ∧ (kindB ns k = true ∨ ∃ m' : Nat, m' < 0 ∧ MadeP ns (x.part m').toNat))) := HI.out.2.setV _ (fun j hj => by
     constructor
     · rintro (h | ⟨h, -⟩)
       · exact h
       · exact absurd h hj
     · exact fun h => .inl h) (by
     rw [HKIN.out]
     constructor
     · exact fun h => .inr ⟨rfl, .inl h⟩
     · rintro (⟨h, -⟩ | ⟨-, h | ⟨m', h, -⟩⟩)
       · omega
       · exact h
       · omega)
    generalize cs.setIfInBounds k (.bool (inB x.kind 35 36)) = cs5 at *
    generalize ((u.val.setCell ⟨GO, k, none⟩ (.bool (inB x.kind 35 36))).alloc (Obj.cells #[.int .i64 x.kind, .int .i64 x.a, .int .i64 x.b, .int .i64 x.c, .int .i64 x.n, .int .i64 x.m, .int .i64 x.idx, .int .i64 x.wid, .string x.name] 38)) = w5 at *
    generalize u.val.heap.size = GX at *
    have HO5 := Lib.hid hO5
    have HB5 := Lib.hid hB5
    have HL5 := Lib.hid hL5
    have x0 := Later.cell x0
    have x1 := Later.cell x1
    have x2 := Later.cell x2
    have x3 := Later.cell x3
    clear hO5 hB5 hL5 hgoc hgof hgolt hgone HI
    have HQ := Lib.hid (show ∀ W, LaterC w5 W → W.cell? ⟨GX, 0, none⟩ = some (.int .i64 x.kind) ∧ W.cell? ⟨GX, 1, none⟩ = some (.int .i64 x.a) ∧ W.cell? ⟨GX, 2, none⟩ = some (.int .i64 x.b) ∧ W.cell? ⟨GX, 3, none⟩ = some (.int .i64 x.c) from fun W h => by obtain ⟨v, rfl⟩ := h; exact ⟨x0 v, x1 v, x2 v, x3 v⟩)
    go_cut [36, 37, 38] (fun s l i wx => s = .slice (some ⟨w5.heap.size, 0, none⟩) pk 3 ∧ l = .int .i64 pk ∧ i = .int .i64 0 ∧ wx = (w5.alloc (Obj.cells #[.int .i64 x.a, .int .i64 x.b, .int .i64 x.c] 3)).drew)
    case first =>
     go_region_held3 (fun w' => w'.cell? ⟨GX, 0, none⟩ = some (.int .i64 x.kind) ∧ w'.cell? ⟨GX, 1, none⟩ = some (.int .i64 x.a) ∧ w'.cell? ⟨GX, 2, none⟩ = some (.int .i64 x.b) ∧ w'.cell? ⟨GX, 3, none⟩ = some (.int .i64 x.c)) ((refine HQ.out _ ?_; repeat (first | exact LaterC.refl _ | refine LaterC.drew' ?_ | refine LaterC.alloc' ?_ _))) (first | (go_at_call 75; refine (parts_same _ _).mono ?_; rintro e w' ⟨rfl, rfl⟩; rw [HPN.out]))
     all_goals go_wp2
     all_goals go_meet
     all_goals (case rel => exact ⟨rfl, rfl, rfl, rfl⟩)
    case rest =>
     obtain ⟨rfl, rfl, rfl, rfl⟩ := hcut
     have HO6 := Lib.hid (show OwnB (w5.alloc (Obj.cells #[.int .i64 x.a, .int .i64 x.b, .int .i64 x.c] 3)).drew GO 4 cs5 from HO5.out.below (show Below w5.heap.size w5 (w5.alloc (Obj.cells #[.int .i64 x.a, .int .i64 x.b, .int .i64 x.c] 3)).drew from (box_below _ _ _).drew) HO5.out.lt)
     have HP6 := Lib.hid (show OwnB (w5.alloc (Obj.cells #[.int .i64 x.a, .int .i64 x.b, .int .i64 x.c] 3)).drew w5.heap.size 3 #[.int .i64 x.a, .int .i64 x.b, .int .i64 x.c] from OwnB.new w5 3 #[.int .i64 x.a, .int .i64 x.b, .int .i64 x.c])
     have hL6 : LaterC w1 (w5.alloc (Obj.cells #[.int .i64 x.a, .int .i64 x.b, .int .i64 x.c] 3)).drew := LaterC.drew' (LaterC.alloc' HL5.out _)
     have HNE := Lib.hid (show GO < w5.heap.size from HO5.out.lt)
     generalize (w5.alloc (Obj.cells #[.int .i64 x.a, .int .i64 x.b, .int .i64 x.c] 3)).drew = w6 at *
     generalize w5.heap.size = GP at *
     have HL6 := Lib.hid hL6
     clear hL6 x0 x1 x2 x3
     go_wp2
     go_loopw [38] (fun i wi => ∃ m : Nat, m ≤ pk ∧ i = .int .i64 m ∧ ∃ cs' : Array Value, Hid (OwnB wi GO 4 cs' ∧ OwnB wi GP 3 #[.int .i64 x.a, .int .i64 x.b, .int .i64 x.c] ∧ BoolsAt cs' n (fun j => (j < k ∧ MadeP ns j) ∨ (j = k ∧ (kindB ns k = true ∨ ∃ m' : Nat, m' < m ∧ MadeP ns (x.part m').toNat))) ∧ LaterC w1 wi)) (fun i _ => pk - (intOf i).toNat)
     case atStart => exact ⟨0, Nat.zero_le _, rfl, cs5, Lib.hid ⟨HO6.out, HP6.out, HB5.out, HL6.out⟩⟩
     case round =>
      obtain ⟨m, hm, rfl, cs', HI⟩ := hrel
      by_cases hlm : m < pk
      · have hm3 : m < 3 := by omega
        have hmk : (m : Int) < pk := by omega
        have hin := HDK.out m hm3 (by rw [HPN.out]; omega)
        have hpm : wr.cell? ⟨GP, m, none⟩ = some (.int .i64 (x.part m)) := by
         rw [HI.out.2.1.cell m]
         rcases (show m = 0 ∨ m = 1 ∨ m = 2 by omega) with rfl | rfl | rfl <;> rfl
        generalize hpp : x.part m = pp at *
        obtain ⟨q, rfl⟩ := Int.eq_ofNat_of_zero_le hin.1
        have hqk : q < k := by omega
        have hqn : q < n := by omega
        have HPP := Lib.hid hpp
        clear hin hpp
        obtain ⟨v0, hv0, ht0⟩ := HI.out.2.2.1.2 k hlt
        obtain ⟨v1, hv1, ht1⟩ := HI.out.2.2.1.2 q hqn
        have c0 : wr.cell? ⟨GO, k, none⟩ = some (.bool v0) := (HI.out.1.cell k).trans hv0
        have c1 : wr.cell? ⟨GO, q, none⟩ = some (.bool v1) := (HI.out.1.cell q).trans hv1
        have hfz : wr.frozen? ⟨GO, k, none⟩ = false := HI.out.1.frozen k
        have hs0 : v0 = true ↔ (kindB ns k = true ∨ ∃ m' : Nat, m' < m ∧ MadeP ns (x.part m').toNat) := ht0.trans ⟨fun h => by
         rcases h with ⟨h, -⟩ | ⟨-, h⟩
         · omega
         · exact h, fun h => .inr ⟨rfl, h⟩⟩
        have hs1 : v1 = true ↔ MadeP ns q := ht1.trans ⟨fun h => by
         rcases h with ⟨-, h⟩ | ⟨h, -⟩
         · exact h
         · omega, fun h => .inl ⟨hqk, h⟩⟩
        have hnext : ∀ v : Bool, (v = true ↔ (v0 = true ∨ v1 = true)) → Hid (OwnB (wr.setCell ⟨GO, k, none⟩ (.bool v)) GO 4 (cs'.setIfInBounds k (.bool v)) ∧ OwnB (wr.setCell ⟨GO, k, none⟩ (.bool v)) GP 3 #[.int .i64 x.a, .int .i64 x.b, .int .i64 x.c] ∧ BoolsAt (cs'.setIfInBounds k (.bool v)) n (fun j => (j < k ∧ MadeP ns j) ∨ (j = k ∧ (kindB ns k = true ∨ ∃ m' : Nat, m' < m + 1 ∧ MadeP ns (x.part m').toNat))) ∧ LaterC w1 (wr.setCell ⟨GO, k, none⟩ (.bool v))) := fun v hv => Lib.hid
         ⟨HI.out.1.set _ _, HI.out.2.1.set_ne (by have := HNE.out; omega) _ _, HI.out.2.2.1.setV v (fun j hj => by
          constructor
          · rintro (h | ⟨h, -⟩)
            · exact .inl h
            · exact absurd h hj
          · rintro (h | ⟨h, -⟩)
            · exact .inl h
            · exact absurd h hj) (by
          rw [hv, hs0, hs1]
          constructor
          · rintro ((h | ⟨m', h1, h2⟩) | h)
            · exact .inr ⟨rfl, .inl h⟩
            · exact .inr ⟨rfl, .inr ⟨m', by omega, h2⟩⟩
            · exact .inr ⟨rfl, .inr ⟨m, by omega, by rw [HPP.out]; exact h⟩⟩
          · rintro (⟨h, -⟩ | ⟨-, h | ⟨m', h1, h2⟩⟩)
            · omega
            · exact .inl (.inl h)
            · rcases Nat.lt_or_ge m' m with g | g
              · exact .inl (.inr ⟨m', g, h2⟩)
              · obtain rfl : m' = m := by omega
                rw [HPP.out] at h2
                exact .inr h2), LaterC.setCell' HI.out.2.2.2 _ _ hgo⟩
        clear hs0 hs1 ht0 ht1 hv0 hv1
        cases v0
        · have HN2 := hnext v1 (by simp)
          clear hnext
          go_wp2
          go_roundw
          case rel => exact ⟨m + 1, by omega, by go_num, _, HN2⟩
          case measure => simp [intOf] <;> omega
        · have HN2 := hnext true (by simp)
          clear hnext
          go_wp2
          go_roundw
          case rel => exact ⟨m + 1, by omega, by go_num, _, HN2⟩
          case measure => simp [intOf] <;> omega
      · obtain rfl : m = pk := by omega
        have HN2 := Lib.hid (show OwnB wr GO 4 cs' ∧ BoolsAt cs' n (fun j => j < k + 1 ∧ MadeP ns j) from ⟨HI.out.1, HI.out.2.2.1.congr (fun j => by
         constructor
         · rintro ⟨h1, h2⟩
           rcases Nat.lt_or_ge j k with g | g
           · exact .inl ⟨g, h2⟩
           · obtain rfl : j = k := by omega
             refine .inr ⟨rfl, ?_⟩
             rcases HST.out.1 h2 with h | ⟨p, hp, h⟩
             · exact .inl h
             · obtain ⟨m', h3, h4, h5⟩ := (HISP.out p).1 hp
               exact .inr ⟨m', by rw [HPN.out] at h4; omega, by rw [h5, Int.toNat_natCast]; exact h⟩
         · rintro (⟨h1, h2⟩ | ⟨rfl, h⟩)
           · exact ⟨by omega, h2⟩
           · refine ⟨by omega, HST.out.2 ?_⟩
             rcases h with h | ⟨m', h1, h2⟩
             · exact .inl h
             · have hlt2 : (m' : Int) < partsN x.kind := by rw [HPN.out]; omega
               have hd2 := HDK.out m' (by omega) hlt2
               exact .inr ⟨_, (HISP.out _).2 ⟨m', by omega, hlt2, (Int.toNat_of_nonneg hd2.1).symm⟩, h2⟩)⟩)
        obtain ⟨u9, rfl⟩ := HI.out.2.2.2
        clear HI
        go_wp2
        go_roundw
        case rel => exact ⟨k + 1, by omega, by go_num, cs', HN2, ⟨u9, rfl⟩⟩
        case measure => simp [intOf] <;> omega
  · obtain rfl : k = n := by omega
    clear hA
    go_wp2
    go_ret
    refine ⟨_, cs, rfl, u.back HB1.out, by omega, HI.out.1, ⟨HI.out.2.1, fun j hj => by obtain ⟨v, h1, h2⟩ := HI.out.2.2 j hj; exact ⟨v, h1, h2.trans ⟨fun h => h.2, fun h => ⟨hj, h⟩⟩⟩⟩⟩
theorem isPlace_calls (s1 s2 s3 s4 : Value) (A : Option Addr) (n c : Nat) (a : Int) (w : World) (hn : n ≤ 281474976710656) :
 Makes Tryz.prog 171 #[.agg #[.slice A n c, s1, s2, s3, s4], .int .i64 a] w (.bool (inB a 0 ((n : Int) - 1))) := by
 go_enter Tryz.func171, Tryz.ntmps171
 go_wp2_with (go_at_call 79; refine (in_same _ _ _ _).mono ?_; rintro e w' ⟨rfl, rfl⟩)
 go_ret
 exact ⟨rfl, (Below.refl _ _).alloc (Nat.le_refl _) _⟩
theorem bits_calls (mv : Value) (M : Md) (kind : Int) (w : World) (hM : MdAt w mv M) :
 Makes Tryz.prog 126 #[mv, .int .i64 kind] w (.int .i64 (allN kind M.nodes)) := by
 obtain ⟨s0, s1, s2, s3, s4, rfl, hS, -, -, -, -⟩ := hM.at_
 obtain ⟨A, c, rfl, hnc, hc', hA⟩ := hS
 clear hM
 generalize hN : M.nodes.length = n at *
 have HN := Lib.hid hN
 clear hN
 have hn : n ≤ 281474976710656 := Nat.le_trans hnc hc'
 clear hc' hnc
 go_enter Tryz.func126, Tryz.ntmps126
 go_wp2
 generalize hw1 : w.alloc (Obj.cells #[.slice A n c, s1, s2, s3, s4] 27) = w1
 have hb0 : ∀ u : Later w1, u.val.cell? ⟨w.heap.size, 0, none⟩ = some (.slice A n c) := Later.cell (by rw [← hw1]; simp)
 have HB := Lib.hid (show Below w.heap.size w w1 by rw [← hw1]; exact (Below.refl _ _).alloc (Nat.le_refl _) _)
 clear hw1
 go_loopw [5, 11] (fun s i wr => ∃ (k : Nat) (t : Int), k ≤ n ∧ i = .int .i64 k ∧ s = .int .i64 t ∧ 0 ≤ t ∧ t ≤ 64 * k ∧ Hid (allN kind (M.nodes.take k) = t) ∧ LaterC w1 wr) (fun _ i _ => n - (intOf i).toNat)
 case atStart => exact ⟨0, 0, Nat.zero_le _, rfl, rfl, by omega, by omega, Lib.hid (by simp [allN]), LaterC.refl _⟩
 case round =>
  obtain ⟨k, t, hk, rfl, rfl, ht0, ht1, HT, ⟨u, rfl⟩⟩ := hrel
  by_cases hlt : k < n
  · have hget := getD_at (show k < M.nodes.length by rw [HN.out]; exact hlt) Nd.zero
    obtain ⟨b, o, rfl, hx⟩ := hA k _ hget
    have HST := Lib.hid (allN_step (kind := kind) (l := M.nodes) (k := k) (by rw [HN.out]; exact hlt))
    generalize hxe : M.nodes.getD k Nd.zero = x at hx
    rw [hxe] at HST
    have p0 : ∀ l : Later w1, l.val.cell? ⟨b, o + k * 9, none⟩ = some (.int .i64 x.kind) := hx.at_ HB.out 0 _ rfl
    have p1 : ∀ l : Later w1, l.val.cell? ⟨b, o + k * 9 + 1, none⟩ = some (.int .i64 x.a) := hx.at_ HB.out 1 _ rfl
    have p2 : ∀ l : Later w1, l.val.cell? ⟨b, o + k * 9 + 2, none⟩ = some (.int .i64 x.b) := hx.at_ HB.out 2 _ rfl
    have p3 : ∀ l : Later w1, l.val.cell? ⟨b, o + k * 9 + 3, none⟩ = some (.int .i64 x.c) := hx.at_ HB.out 3 _ rfl
    have p4 : ∀ l : Later w1, l.val.cell? ⟨b, o + k * 9 + 4, none⟩ = some (.int .i64 x.n) := hx.at_ HB.out 4 _ rfl
    have p5 : ∀ l : Later w1, l.val.cell? ⟨b, o + k * 9 + 5, none⟩ = some (.int .i64 x.m) := hx.at_ HB.out 5 _ rfl
    have p6 : ∀ l : Later w1, l.val.cell? ⟨b, o + k * 9 + 6, none⟩ = some (.int .i64 x.idx) := hx.at_ HB.out 6 _ rfl
    have p7 : ∀ l : Later w1, l.val.cell? ⟨b, o + k * 9 + 7, none⟩ = some (.int .i64 x.wid) := hx.at_ HB.out 7 _ rfl
    have p8 : ∀ l : Later w1, l.val.cell? ⟨b, o + k * 9 + 8, none⟩ = some (.string x.name) := hx.at_ HB.out 8 _ rfl
    clear hx hget hxe hA
    go_upto_region 5 with fail
    have y0 : (u.val.alloc (Obj.cells #[.int .i64 x.kind, .int .i64 x.a, .int .i64 x.b, .int .i64 x.c, .int .i64 x.n, .int .i64 x.m, .int .i64 x.idx, .int .i64 x.wid, .string x.name] 38)).cell? ⟨u.val.heap.size, 0, none⟩ = some (.int .i64 x.kind) := by go_simp
    have y6 : (u.val.alloc (Obj.cells #[.int .i64 x.kind, .int .i64 x.a, .int .i64 x.b, .int .i64 x.c, .int .i64 x.n, .int .i64 x.m, .int .i64 x.idx, .int .i64 x.wid, .string x.name] 38)).cell? ⟨u.val.heap.size, 6, none⟩ = some (.int .i64 x.idx) := by go_simp
    have y7 : (u.val.alloc (Obj.cells #[.int .i64 x.kind, .int .i64 x.a, .int .i64 x.b, .int .i64 x.c, .int .i64 x.n, .int .i64 x.m, .int .i64 x.idx, .int .i64 x.wid, .string x.name] 38)).cell? ⟨u.val.heap.size, 7, none⟩ = some (.int .i64 x.wid) := by go_simp
    have hL5 : LaterC w1 (u.val.alloc (Obj.cells #[.int .i64 x.kind, .int .i64 x.a, .int .i64 x.b, .int .i64 x.c, .int .i64 x.n, .int .i64 x.m, .int .i64 x.idx, .int .i64 x.wid, .string x.name] 38)) := u.alloc _
    generalize (u.val.alloc (Obj.cells #[.int .i64 x.kind, .int .i64 x.a, .int .i64 x.b, .int .i64 x.c, .int .i64 x.n, .int .i64 x.m, .int .i64 x.idx, .int .i64 x.wid, .string x.name] 38)) = w5 at *
    generalize u.val.heap.size = GX at *
    have HL5 := Lib.hid hL5
    have y0 := Later.cell y0
    have y6 := Later.cell y6
    have y7 := Later.cell y7
    clear p0 p1 p2 p3 p4 p5 p6 p7 p8 hL5
    refine at_world (w := w5) ?_
    intro u
    by_cases hkd : x.kind = kind
    · have hb := bitsN_bd x.idx x.wid
      have HE := Lib.hid (show allN kind (M.nodes.take (k + 1)) = t + bitsN x.idx x.wid by rw [HST.out, HT.out]; unfold bitsIf; rw [if_pos hkd])
      clear HST HT
      subst hkd
      obtain ⟨y, hy⟩ : ∃ y, y = bitsN x.idx x.wid := ⟨_, rfl⟩
      have HY := Lib.hid hy.symm
      rw [← hy] at hb HE
      clear hy
      go_wp2_with (go_at_call 20; refine (Calls.later (u := u) (SortBits'_calls x.idx x.wid _)).mono ?_; rintro e w' ⟨rfl, u1, rfl⟩; rw [HY.out])
      go_roundw
      case rel => exact ⟨k + 1, t + y, by omega, by go_num, by go_num, by omega, by push_cast; omega, HE, HL5.out.trans ⟨u1, rfl⟩⟩
      case measure => simp [intOf] <;> omega
    · have HE := Lib.hid (show allN kind (M.nodes.take (k + 1)) = t by rw [HST.out, HT.out]; unfold bitsIf; rw [if_neg hkd]; omega)
      have hne : (x.kind == kind) = false := by simpa using hkd
      clear HST HT
      go_wp2
      go_roundw
      case rel => exact ⟨k + 1, t, by omega, by go_num, rfl, by omega, by push_cast; omega, HE, HL5.out.trans ⟨u, rfl⟩⟩
      case measure => simp [intOf] <;> omega
  · obtain rfl : k = n := by omega
    have HR := Lib.hid (show allN kind M.nodes = t by rw [← HT.out, ← HN.out, List.take_length])
    clear hA HT
    go_wp2
    go_ret
    exact ⟨ret_eq (congrArg (Value.int .i64) HR.out.symm), HB.out.trans (u.prop.mono HB.out.size)⟩
end Go.Proofs.YtbenebcphaiohaaGreat
namespace Go.Proofs.YtbenebcphaiohaaGreat
open Go.RowKit
attribute [local go_sem high] eq_sort
def eqB (x y : Nd) : Bool := x.idx == y.idx && x.wid == y.wid
def wrdB (x y : Nd) : Bool := y.idx == 0 && y.wid == x.wid
def placedB (ns : List Nd) (b : Bd) : Bool := inB b.st 0 ((ns.length : Int) - 1) && (inB b.nd 0 ((ns.length : Int) - 1) && ((ns.getD b.st.toNat Nd.zero).kind == 36))
theorem bound_eq (ns : List Nd) (b : Bd) : boundB ns b = (placedB ns b && eqB (ns.getD b.st.toNat Nd.zero) (ns.getD b.nd.toNat Nd.zero)) := by
 unfold boundB placedB eqB
 simp only [Bool.and_assoc]
theorem init_eq (ns : List Nd) (b : Bd) : initB ns b = (placedB ns b && (eqB (ns.getD b.st.toNat Nd.zero) (ns.getD b.nd.toNat Nd.zero) || wrdB (ns.getD b.st.toNat Nd.zero) (ns.getD b.nd.toNat Nd.zero)) && fixedB ns b.nd.toNat) := by
 have hw : wordB ns b = (placedB ns b && wrdB (ns.getD b.st.toNat Nd.zero) (ns.getD b.nd.toNat Nd.zero)) := by
  unfold wordB placedB wrdB
  simp only [Bool.and_assoc]
 have key : boundB ns (wordBd ns b) = (placedB ns b && (eqB (ns.getD b.st.toNat Nd.zero) (ns.getD b.nd.toNat Nd.zero) || wrdB (ns.getD b.st.toNat Nd.zero) (ns.getD b.nd.toNat Nd.zero))) := by
  unfold wordBd
  split
  · rename_i h
    have h' := h
    rw [hw, Bool.and_eq_true] at h'
    have hp := h'.1
    unfold placedB at hp
    simp only [Bool.and_eq_true] at hp
    rw [h'.1, h'.2, Bool.or_true, Bool.true_and, bound_eq]
    show (inB b.st 0 ((ns.length : Int) - 1) && (inB b.st 0 ((ns.length : Int) - 1) && ((ns.getD b.st.toNat Nd.zero).kind == 36)) && ((ns.getD b.st.toNat Nd.zero).idx == (ns.getD b.st.toNat Nd.zero).idx && (ns.getD b.st.toNat Nd.zero).wid == (ns.getD b.st.toNat Nd.zero).wid)) = true
    rw [hp.1, hp.2.2, beq_self_eq_true, beq_self_eq_true]; rfl
  · rename_i h
    rw [bound_eq]
    have h' := eq_false_of_ne_true h
    rw [hw] at h'
    cases hp : placedB ns b with
    | false => rfl
    | true =>
      rw [hp, Bool.true_and] at h'
      rw [h', Bool.or_false]
 unfold initB
 rw [key]
noncomputable def bindOkB (ns : List Nd) (b : Bd) (i : Bool) : Bool := if i = true then initB ns b else boundB ns b
theorem bindOk_no {ns : List Nd} {b : Bd} {i : Bool} (h : placedB ns b = false) : bindOkB ns b i = false := by
 unfold bindOkB
 cases i
 · rw [if_neg Bool.false_ne_true, bound_eq, h]; rfl
 · rw [if_pos rfl, init_eq, h]; rfl
theorem bindOk_calls (mv : Value) (M : Md) (b : Bd) (i : Bool) (g2 : Nat) (cs : Array Value) (w : World) (hM : MdAt w mv M) (hO : OwnB w g2 4 cs) (hB : BoolsAt cs M.nodes.length (MadeP M.nodes)) :
 Makes Tryz.prog 166 #[mv, .agg #[.int .i64 b.st, .int .i64 b.nd], .slice (some ⟨g2, 0, none⟩) M.nodes.length M.nodes.length, .bool i] w (.bool (bindOkB M.nodes b i)) := by
 obtain ⟨bs, bn⟩ := b
 dsimp only
 obtain ⟨s0, s1, s2, s3, s4, rfl, hS, -, -, -, -⟩ := hM.at_
 obtain ⟨A, c, rfl, hnc, hc', hA⟩ := hS
 clear hM
 obtain ⟨R, hR⟩ : ∃ R, R = bindOkB M.nodes ⟨bs, bn⟩ i := ⟨_, rfl⟩
 rw [← hR]
 have HNO := Lib.hid (show placedB M.nodes ⟨bs, bn⟩ = false → R = false from fun h => hR.trans (bindOk_no h))
 have HR := Lib.hid hR
 clear hR
 have HP := Lib.hid (show placedB M.nodes ⟨bs, bn⟩ = (inB bs 0 ((M.nodes.length : Int) - 1) && (inB bn 0 ((M.nodes.length : Int) - 1) && ((M.nodes.getD bs.toNat Nd.zero).kind == 36))) from rfl)
 generalize M.nodes = ns at *
 generalize hN : ns.length = n at *
 have HN := Lib.hid hN
 have HBO := Lib.hid hB
 have HO := Lib.hid hO
 clear hN hB hO
 have hn : n ≤ 281474976710656 := Nat.le_trans hnc hc'
 clear hc' hnc
 go_enter Tryz.func166, Tryz.ntmps166
 go_upto_region 1 with fail
 have HB := Lib.hid (show Below w.heap.size w ((w.alloc (Obj.cells #[.slice A n c, s1, s2, s3, s4] 27)).alloc (Obj.cells #[.int .i64 bs, .int .i64 bn] 117)) from (box_below _ _ _).alloc (by simp) _)
 have m0 : ((w.alloc (Obj.cells #[.slice A n c, s1, s2, s3, s4] 27)).alloc (Obj.cells #[.int .i64 bs, .int .i64 bn] 117)).cell? ⟨w.heap.size, 0, none⟩ = some (.slice A n c) := by go_simp
 have m1 : ((w.alloc (Obj.cells #[.slice A n c, s1, s2, s3, s4] 27)).alloc (Obj.cells #[.int .i64 bs, .int .i64 bn] 117)).cell? ⟨w.heap.size, 1, none⟩ = some s1 := by go_simp
 have m2 : ((w.alloc (Obj.cells #[.slice A n c, s1, s2, s3, s4] 27)).alloc (Obj.cells #[.int .i64 bs, .int .i64 bn] 117)).cell? ⟨w.heap.size, 2, none⟩ = some s2 := by go_simp
 have m3 : ((w.alloc (Obj.cells #[.slice A n c, s1, s2, s3, s4] 27)).alloc (Obj.cells #[.int .i64 bs, .int .i64 bn] 117)).cell? ⟨w.heap.size, 3, none⟩ = some s3 := by go_simp
 have m4 : ((w.alloc (Obj.cells #[.slice A n c, s1, s2, s3, s4] 27)).alloc (Obj.cells #[.int .i64 bs, .int .i64 bn] 117)).cell? ⟨w.heap.size, 4, none⟩ = some s4 := by go_simp
 have d0 : ((w.alloc (Obj.cells #[.slice A n c, s1, s2, s3, s4] 27)).alloc (Obj.cells #[.int .i64 bs, .int .i64 bn] 117)).cell? ⟨w.heap.size + 1, 0, none⟩ = some (.int .i64 bs) := by go_simp
 have d1 : ((w.alloc (Obj.cells #[.slice A n c, s1, s2, s3, s4] 27)).alloc (Obj.cells #[.int .i64 bs, .int .i64 bn] 117)).cell? ⟨w.heap.size + 1, 1, none⟩ = some (.int .i64 bn) := by go_simp
 generalize (w.alloc (Obj.cells #[.slice A n c, s1, s2, s3, s4] 27)).alloc (Obj.cells #[.int .i64 bs, .int .i64 bn] 117) = w1 at *
 have m0 := Later.cell m0
 have m1 := Later.cell m1
 have m2 := Later.cell m2
 have m3 := Later.cell m3
 have m4 := Later.cell m4
 have d0 := Later.cell d0
 have d1 := Later.cell d1
 refine at_world (w := w1) ?_
 intro u0
 by_cases hs : inB bs 0 ((n : Int) - 1) = true
 rotate_left
 · have hs := eq_false_of_ne_true hs
   have HS := Lib.hid hs
   have HR0 := Lib.hid (HNO.out (by rw [HP.out, hs]; rfl))
   clear hs hA
   go_wp2_with (go_at_call 171; with_reducible refine (Calls.later (u := u0) (isPlace_calls s1 s2 s3 s4 A n c bs _ hn)).mono ?_; rintro e w' ⟨rfl, u1, rfl⟩; rw [HS.out])
   go_ret
   exact ⟨ret_eq (congrArg Value.bool HR0.out.symm), u1.back HB.out⟩
 have HS := Lib.hid hs
 have hs2 := of_inB hs
 by_cases ht : inB bn 0 ((n : Int) - 1) = true
 rotate_left
 · have ht := eq_false_of_ne_true ht
   have HT := Lib.hid ht
   have HR0 := Lib.hid (HNO.out (by rw [HP.out, hs, ht]; rfl))
   clear hs ht hA
   go_wp2_with (first | (go_at_call 171; with_reducible refine (Calls.later (u := u0) (isPlace_calls s1 s2 s3 s4 A n c bs _ hn)).mono ?_; rintro e w' ⟨rfl, u1, rfl⟩; rw [HS.out]) | (go_at_call 171; with_reducible refine (Calls.later (u := u1) (isPlace_calls s1 s2 s3 s4 A n c bn _ hn)).mono ?_; rintro e w' ⟨rfl, u2, rfl⟩; rw [HT.out]))
   go_ret
   exact ⟨ret_eq (congrArg Value.bool HR0.out.symm), u2.back HB.out⟩
 have HT := Lib.hid ht
 have ht2 := of_inB ht
 obtain ⟨p, rfl⟩ := Int.eq_ofNat_of_zero_le hs2.1
 obtain ⟨q, rfl⟩ := Int.eq_ofNat_of_zero_le ht2.1
 have hp : p < n := by omega
 have hq : q < n := by omega
 obtain ⟨g, o, rfl, hx⟩ := hA p _ (getD_at (by rw [HN.out]; exact hp) Nd.zero)
 obtain ⟨g', o', hg, hy⟩ := hA q _ (getD_at (by rw [HN.out]; exact hq) Nd.zero)
 cases hg
 rw [hs, ht, Bool.true_and, Bool.true_and, Int.toNat_natCast] at HP
 have HBD := Lib.hid (bound_eq ns ⟨p, q⟩)
 have HIN := Lib.hid (init_eq ns ⟨p, q⟩)
 simp only [Int.toNat_natCast] at HBD HIN
 rw [HP.out] at HNO HBD HIN
 clear hs ht hs2 ht2 hA HP
 generalize ns.getD p Nd.zero = x at *
 generalize ns.getD q Nd.zero = y at *
 have p0 : ∀ l : Later w1, l.val.cell? ⟨g, o + p * 9, none⟩ = some (.int .i64 x.kind) := hx.at_ HB.out 0 _ rfl
 have p6 : ∀ l : Later w1, l.val.cell? ⟨g, o + p * 9 + 6, none⟩ = some (.int .i64 x.idx) := hx.at_ HB.out 6 _ rfl
 have p7 : ∀ l : Later w1, l.val.cell? ⟨g, o + p * 9 + 7, none⟩ = some (.int .i64 x.wid) := hx.at_ HB.out 7 _ rfl
 have q6 : ∀ l : Later w1, l.val.cell? ⟨g, o + q * 9 + 6, none⟩ = some (.int .i64 y.idx) := hy.at_ HB.out 6 _ rfl
 have q7 : ∀ l : Later w1, l.val.cell? ⟨g, o + q * 9 + 7, none⟩ = some (.int .i64 y.wid) := hy.at_ HB.out 7 _ rfl
 clear hx hy
 by_cases hk : (x.kind == 36) = true
 rotate_left
 · have hk := eq_false_of_ne_true hk
   have hk' : (x.kind != 36) = true := by rw [bne, hk]; rfl
   have HR0 := Lib.hid (HNO.out hk)
   go_wp2_with (first | (go_at_call 171; with_reducible refine (Calls.later (u := u0) (isPlace_calls s1 s2 s3 s4 (some ⟨g, o, none⟩) n c (p : Int) _ hn)).mono ?_; rintro e w' ⟨rfl, u1, rfl⟩; rw [HS.out]) | (go_at_call 171; with_reducible refine (Calls.later (u := u1) (isPlace_calls s1 s2 s3 s4 (some ⟨g, o, none⟩) n c (q : Int) _ hn)).mono ?_; rintro e w' ⟨rfl, u2, rfl⟩; rw [HT.out]))
   go_ret
   exact ⟨ret_eq (congrArg Value.bool HR0.out.symm), u2.back HB.out⟩
 have hk' : (x.kind != 36) = false := by rw [bne, hk]; rfl
 have HKK := Lib.hid hk
 go_upto_region 3 with (first | (go_at_call 171; with_reducible refine (Calls.later (u := u0) (isPlace_calls s1 s2 s3 s4 (some ⟨g, o, none⟩) n c (p : Int) _ hn)).mono ?_; rintro e w' ⟨rfl, u1, rfl⟩; rw [HS.out]) | (go_at_call 171; with_reducible refine (Calls.later (u := u1) (isPlace_calls s1 s2 s3 s4 (some ⟨g, o, none⟩) n c (q : Int) _ hn)).mono ?_; rintro e w' ⟨rfl, u2, rfl⟩; rw [HT.out]))
 obtain ⟨v, hv, hvt⟩ := HBO.out.2 q hq
 have hmd : ∀ l : Later w1, l.val.cell? ⟨g2, q, none⟩ = some (.bool v) := fun l => ((HO.out.below (l.back HB.out) HO.out.lt).cell q).trans hv
 have HVT := Lib.hid hvt
 have HMD := Lib.hid hmd
 have HQ := Lib.hid (show ∀ W, LaterC w1 W → W.cell? ⟨w.heap.size, 0, none⟩ = some (.slice (some ⟨g, o, none⟩) n c) ∧ W.cell? ⟨w.heap.size + 1, 0, none⟩ = some (.int .i64 p) ∧ W.cell? ⟨w.heap.size + 1, 1, none⟩ = some (.int .i64 q) ∧ W.cell? ⟨g, o + p * 9 + 6, none⟩ = some (.int .i64 x.idx) ∧ W.cell? ⟨g, o + p * 9 + 7, none⟩ = some (.int .i64 x.wid) ∧ W.cell? ⟨g, o + q * 9 + 6, none⟩ = some (.int .i64 y.idx) ∧ W.cell? ⟨g, o + q * 9 + 7, none⟩ = some (.int .i64 y.wid) from fun W h => by obtain ⟨l, rfl⟩ := h; exact ⟨m0 l, d0 l, d1 l, p6 l, p7 l, q6 l, q7 l⟩)
 clear hv hvt hmd
 go_cut [9, 10] (fun s t wx => ∃ G1 G2, s = .pointer (some ⟨G1, 0, none⟩) ∧ t = .pointer (some ⟨G2, 0, none⟩) ∧ LaterC w1 wx ∧ wx.cell? ⟨G1, 0, none⟩ = some (.int .i64 x.idx) ∧ wx.cell? ⟨G1, 1, none⟩ = some (.int .i64 x.wid) ∧ wx.cell? ⟨G2, 0, none⟩ = some (.int .i64 y.idx) ∧ wx.cell? ⟨G2, 1, none⟩ = some (.int .i64 y.wid))
 case first =>
  go_region_held3 (fun w' => w'.cell? ⟨w.heap.size, 0, none⟩ = some (.slice (some ⟨g, o, none⟩) n c) ∧ w'.cell? ⟨w.heap.size + 1, 0, none⟩ = some (.int .i64 p) ∧ w'.cell? ⟨w.heap.size + 1, 1, none⟩ = some (.int .i64 q) ∧ w'.cell? ⟨g, o + p * 9 + 6, none⟩ = some (.int .i64 x.idx) ∧ w'.cell? ⟨g, o + p * 9 + 7, none⟩ = some (.int .i64 x.wid) ∧ w'.cell? ⟨g, o + q * 9 + 6, none⟩ = some (.int .i64 y.idx) ∧ w'.cell? ⟨g, o + q * 9 + 7, none⟩ = some (.int .i64 y.wid)) ((refine HQ.out _ ?_; repeat (first | exact ⟨_, rfl⟩ | refine LaterC.drew' ?_ | refine LaterC.alloc' ?_ _ | refine LaterC.setCell' ?_ _ _ (by first | exact Later.size _ | (simp; exact Later.size _) | (have := u2.size; simp; omega))))) (fail)
  all_goals go_wp2
  all_goals go_meet
  all_goals (case rel => exact ⟨_, _, rfl, rfl, by repeat (first | exact ⟨_, rfl⟩ | refine LaterC.drew' ?_ | refine LaterC.alloc' ?_ _ | refine LaterC.setCell' ?_ _ _ (by first | exact Later.size _ | (simp; exact Later.size _) | (have := u2.size; simp; omega))), by go_simp, by go_simp, by go_simp, by go_simp⟩)
 case rest =>
  obtain ⟨G1, G2, rfl, rfl, hL, z0, z1, z2, z3⟩ := hcut
  have HL := Lib.hid hL
  have n0 := Later.re m0 hL
  have e0 := Later.re d0 hL
  have e1 := Later.re d1 hL
  have HMD2 := Later.re HMD.out hL
  have z0 := Later.cell z0
  have z1 := Later.cell z1
  have z2 := Later.cell z2
  have z3 := Later.cell z3
  clear m0 m1 m2 m3 m4 d0 d1 p0 p6 p7 q6 q7 hk hk' HQ hL
  refine at_world (w := wc) ?_
  intro u4
  cases i
  · have hb : R = (x.idx == y.idx && (x.wid == y.wid)) := by
     rw [HR.out]; unfold bindOkB; rw [if_neg Bool.false_ne_true, HBD.out, HKK.out]; rfl
    have HB2 := Lib.hid hb
    clear hb
    by_cases he : (x.idx == y.idx && (x.wid == y.wid)) = true
    · have HR0 := Lib.hid (HB2.out.trans he)
      go_wp2
      go_ret
      exact ⟨ret_eq (congrArg Value.bool HR0.out.symm), HB.out.trans ((HL.out.trans ⟨u4, rfl⟩).below.mono HB.out.size)⟩
    · have he := eq_false_of_ne_true he
      have HR0 := Lib.hid (HB2.out.trans he)
      go_wp2
      go_ret
      exact ⟨ret_eq (congrArg Value.bool HR0.out.symm), HB.out.trans ((HL.out.trans ⟨u4, rfl⟩).below.mono HB.out.size)⟩
  · have hb : R = (((x.idx == y.idx && (x.wid == y.wid)) || (y.idx == 0 && (y.wid == x.wid))) && !v) := by
     rw [HR.out]; unfold bindOkB; rw [if_pos rfl, HIN.out, HKK.out, Bool.true_and]
     have hf : fixedB ns q = !v := by
      cases v
      · exact fixed_made.2 (fun h => by have := HVT.out.2 h; cases this)
      · exact eq_false_of_ne_true (fun h => fixed_made.1 h (HVT.out.1 rfl))
     rw [hf]; rfl
    have HB2 := Lib.hid hb
    clear hb
    by_cases he : (x.idx == y.idx && (x.wid == y.wid)) = true
    · have HR0 := Lib.hid (show R = !v by rw [HB2.out, he]; rfl)
      go_wp2
      refine wp_region_later (w0 := wc) (by kernel_rfl) (by kernel_rfl) ⟨u4, rfl⟩ ?_
      repeat (go_big_quiet_step ((go_at_call 151; exact Calls.later (words_calls _ _))))
      refine wpQuiet_nil ?_
      rintro _ ⟨u5, rfl⟩
      go_wp2
      go_ret
      exact ⟨ret_eq (congrArg Value.bool HR0.out.symm), HB.out.trans ((HL.out.trans ⟨u5, rfl⟩).below.mono HB.out.size)⟩
    · have he := eq_false_of_ne_true he
      by_cases hw : (y.idx == 0 && (y.wid == x.wid)) = true
      · have HR0 := Lib.hid (show R = !v by rw [HB2.out, he, hw]; rfl)
        go_wp2
        refine wp_region_later (w0 := wc) (by kernel_rfl) (by kernel_rfl) ⟨u4, rfl⟩ ?_
        repeat (go_big_quiet_step ((go_at_call 151; exact Calls.later (words_calls _ _))))
        refine wpQuiet_nil ?_
        rintro _ ⟨u5, rfl⟩
        go_wp2
        go_ret
        exact ⟨ret_eq (congrArg Value.bool HR0.out.symm), HB.out.trans ((HL.out.trans ⟨u5, rfl⟩).below.mono HB.out.size)⟩
      · have hw := eq_false_of_ne_true hw
        have HR0 := Lib.hid (show R = false by rw [HB2.out, he, hw]; rfl)
        go_wp2
        refine wp_region_later (w0 := wc) (by kernel_rfl) (by kernel_rfl) ⟨u4, rfl⟩ ?_
        repeat (go_big_quiet_step ((go_at_call 151; exact Calls.later (words_calls _ _))))
        refine wpQuiet_nil ?_
        rintro _ ⟨u5, rfl⟩
        go_wp2
        go_ret
        exact ⟨ret_eq (congrArg Value.bool HR0.out.symm), HB.out.trans ((HL.out.trans ⟨u5, rfl⟩).below.mono HB.out.size)⟩
end Go.Proofs.YtbenebcphaiohaaGreat
