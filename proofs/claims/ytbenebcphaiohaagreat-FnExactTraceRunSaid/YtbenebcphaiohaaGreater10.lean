import Derived.Test.YtbenebcphaiohaaGreater9
import Derived.Test.YtbenebcphaiohaaGreater8
import Derived.Test.YtbenebcphaiohaaGreater4
import Derived.Test.YtbenebcphaiohaaGreater2
import Derived.Deep.Cut
set_option linter.unusedVariables false
set_option linter.unusedSimpArgs false
set_option maxRecDepth 8000
set_option maxHeartbeats 16000000
namespace Go.Proofs.YtbenebcphaiohaaGreat
open Go.RowKit
def two1 (kind W A B : Int) : Int := if kind ≤ 20 then op2 kind W A B else yes (says kind W A B)
def two2 (kind W : Int) : Int := if kind ≤ 20 then W else 1
theorem WordTwo_says (kind W A B : Int) (h21 : 21 ≤ kind ∧ kind ≤ 28) (ha : Wo W A) (hb : Wo W B) (w : World) : Makes Tryz.prog 218 #[.int .i64 kind, .int .i64 W, .int .i64 A, .int .i64 B] w (.tuple #[.int .i64 (two1 kind W A B), .int .i64 (two2 kind W), .bool true]) := by
 have h1 := ha.wd.lo
 have h2 := ha.wd.hi
 have ha0 := ha.lo
 have ha1 := ha.top
 have hb0 := hb.lo
 have hb1 := hb.top
 have HOA := Lib.hid (fun w => WordOk_yes W A ha w)
 have HOB := Lib.hid (fun w => WordOk_yes W B hb w)
 have HSY := Lib.hid (fun w => l1Says_same kind W A B h21.1 h21.2 ha hb w)
 clear ha hb
 skip
 all_goals
  have HE := Lib.hid (show two1 kind W A B = yes (says kind W A B) ∧ two2 kind W = 1 from ⟨if_neg (by omega), if_neg (by omega)⟩)
  go_enter Tryz.func218, Tryz.ntmps218
  go_wp2_with (first | (go_at_call 212; first | (with_reducible refine (HOA.out _).mono ?_; rintro e w' ⟨rfl, rfl⟩) | (with_reducible refine (HOB.out _).mono ?_; rintro e w' ⟨rfl, rfl⟩)) | (go_at_call 233; refine (HSY.out _).mono ?_; rintro e w' ⟨rfl, rfl⟩) | (go_at_call 213; refine (l1Yes_same _ _).mono ?_; rintro e w' ⟨rfl, rfl⟩))
  go_ret3
  exact ⟨ret_eq (by rw [HE.out.1, HE.out.2]; rfl), Below.refl _ _⟩
theorem wo_nat {W A : Int} (h : Wo W A) : A.toNat < 2 ^ W.toNat := by
 have h1 := h.hi
 have h2 := h.lo
 have h3 := natpow W.toNat
 omega
theorem WordTwo_each (kind W A B : Int) (hk : kind = 6 ∨ kind = 7 ∨ kind = 8) (ha : Wo W A) (hb : Wo W B) (w : World) : Makes Tryz.prog 218 #[.int .i64 kind, .int .i64 W, .int .i64 A, .int .i64 B] w (.tuple #[.int .i64 (two1 kind W A B), .int .i64 (two2 kind W), .bool true]) := by
 have h1 := ha.wd.lo
 have h2 := ha.wd.hi
 have ha0 := ha.lo
 have ha1 := ha.top
 have hb0 := hb.lo
 have hb1 := hb.top
 have HOA := Lib.hid (fun w => WordOk_yes W A ha w)
 have HOB := Lib.hid (fun w => WordOk_yes W B hb w)
 have HSY := Lib.hid (fun w => l1Says_none kind W A B (by omega) (by omega) ha hb w)
 have HE := Lib.hid (show two1 kind W A B = op2 kind W A B ∧ two2 kind W = W from ⟨if_pos (by omega), if_pos (by omega)⟩)
 obtain ⟨X, hX, hXe⟩ := each_op2 kind hk (W := W.toNat) (A := A.toNat) (B := B.toNat) (wo_nat ha) (wo_nat hb)
 have HEA := Lib.hid (fun w => l1Each_same kind W.toNat A.toNat B.toNat X (by omega) (wo_nat ha) (wo_nat hb) hk hX w)
 rw [hXe, show ((W.toNat : Nat) : Int) = W by omega, show ((A.toNat : Nat) : Int) = A by omega, show ((B.toNat : Nat) : Int) = B by omega] at HEA
 clear hX hXe
 clear ha hb
 rcases hk with rfl | rfl | rfl
 · skip
   go_enter Tryz.func218, Tryz.ntmps218
   go_wp2_with (first | (go_at_call 212; first | (with_reducible refine (HOA.out _).mono ?_; rintro e w' ⟨rfl, rfl⟩) | (with_reducible refine (HOB.out _).mono ?_; rintro e w' ⟨rfl, rfl⟩)) | (go_at_call 233; refine (HSY.out _).mono ?_; rintro e w' ⟨rfl, rfl⟩) | (go_at_call 234; refine (HEA.out _).mono ?_; rintro e w' ⟨rfl, rfl⟩))
   go_ret3
   exact ⟨ret_eq (by rw [HE.out.1, HE.out.2]; rfl), Below.refl _ _⟩
 · skip
   go_enter Tryz.func218, Tryz.ntmps218
   go_wp2_with (first | (go_at_call 212; first | (with_reducible refine (HOA.out _).mono ?_; rintro e w' ⟨rfl, rfl⟩) | (with_reducible refine (HOB.out _).mono ?_; rintro e w' ⟨rfl, rfl⟩)) | (go_at_call 233; refine (HSY.out _).mono ?_; rintro e w' ⟨rfl, rfl⟩) | (go_at_call 234; refine (HEA.out _).mono ?_; rintro e w' ⟨rfl, rfl⟩))
   go_ret3
   exact ⟨ret_eq (by rw [HE.out.1, HE.out.2]; rfl), Below.refl _ _⟩
 · skip
   go_enter Tryz.func218, Tryz.ntmps218
   go_wp2_with (first | (go_at_call 212; first | (with_reducible refine (HOA.out _).mono ?_; rintro e w' ⟨rfl, rfl⟩) | (with_reducible refine (HOB.out _).mono ?_; rintro e w' ⟨rfl, rfl⟩)) | (go_at_call 233; refine (HSY.out _).mono ?_; rintro e w' ⟨rfl, rfl⟩) | (go_at_call 234; refine (HEA.out _).mono ?_; rintro e w' ⟨rfl, rfl⟩))
   go_ret3
   exact ⟨ret_eq (by rw [HE.out.1, HE.out.2]; rfl), Below.refl _ _⟩
theorem WordTwo_sum (kind W A B : Int) (hk : kind = 9 ∨ kind = 10 ∨ kind = 11) (ha : Wo W A) (hb : Wo W B) (w : World) : Makes Tryz.prog 218 #[.int .i64 kind, .int .i64 W, .int .i64 A, .int .i64 B] w (.tuple #[.int .i64 (two1 kind W A B), .int .i64 (two2 kind W), .bool true]) := by
 have h1 := ha.wd.lo
 have h2 := ha.wd.hi
 have ha0 := ha.lo
 have ha1 := ha.top
 have hb0 := hb.lo
 have hb1 := hb.top
 have HOA := Lib.hid (fun w => WordOk_yes W A ha w)
 have HOB := Lib.hid (fun w => WordOk_yes W B hb w)
 have HSY := Lib.hid (fun w => l1Says_none kind W A B (by omega) (by omega) ha hb w)
 have HE := Lib.hid (show two1 kind W A B = op2 kind W A B ∧ two2 kind W = W from ⟨if_pos (by omega), if_pos (by omega)⟩)
 have hab : 0 ≤ A * B := Int.mul_nonneg ha0 hb0
 have hab1 : A * B ≤ 65536 * 65536 := Int.mul_le_mul (by omega) (by omega) hb0 (by omega)
 have hab2 : A * B ≤ 4294967296 := by omega
 clear hab1
 have HF := Lib.hid (fun n (h1 : -1099511627776 ≤ n) (h2 : n ≤ 1099511627776) w => WordFrom_int W n ha.wd.lo ha.wd.hi h1 h2 w)
 clear ha hb
 rcases hk with rfl | rfl | rfl
 · have HV := Lib.hid (show op2 9 W A B = (A + B) % 2 ^ W.toNat by simp [op2])
   go_enter Tryz.func218, Tryz.ntmps218
   go_wp2_with (first | (go_at_call 212; first | (with_reducible refine (HOA.out _).mono ?_; rintro e w' ⟨rfl, rfl⟩) | (with_reducible refine (HOB.out _).mono ?_; rintro e w' ⟨rfl, rfl⟩)) | (go_at_call 233; refine (HSY.out _).mono ?_; rintro e w' ⟨rfl, rfl⟩) | (go_at_call 230; refine (HF.out _ (by omega) (by omega) _).mono ?_; rintro e w' ⟨rfl, rfl⟩))
   go_ret3
   exact ⟨ret_eq (by rw [HE.out.1, HE.out.2, HV.out]; rfl), Below.refl _ _⟩
 · have HV := Lib.hid (show op2 10 W A B = (A - B) % 2 ^ W.toNat by simp [op2])
   go_enter Tryz.func218, Tryz.ntmps218
   go_wp2_with (first | (go_at_call 212; first | (with_reducible refine (HOA.out _).mono ?_; rintro e w' ⟨rfl, rfl⟩) | (with_reducible refine (HOB.out _).mono ?_; rintro e w' ⟨rfl, rfl⟩)) | (go_at_call 233; refine (HSY.out _).mono ?_; rintro e w' ⟨rfl, rfl⟩) | (go_at_call 230; refine (HF.out _ (by omega) (by omega) _).mono ?_; rintro e w' ⟨rfl, rfl⟩))
   go_ret3
   exact ⟨ret_eq (by rw [HE.out.1, HE.out.2, HV.out]; rfl), Below.refl _ _⟩
 · have HV := Lib.hid (show op2 11 W A B = A * B % 2 ^ W.toNat by simp [op2])
   go_enter Tryz.func218, Tryz.ntmps218
   go_wp2_with (first | (go_at_call 212; first | (with_reducible refine (HOA.out _).mono ?_; rintro e w' ⟨rfl, rfl⟩) | (with_reducible refine (HOB.out _).mono ?_; rintro e w' ⟨rfl, rfl⟩)) | (go_at_call 233; refine (HSY.out _).mono ?_; rintro e w' ⟨rfl, rfl⟩) | (go_at_call 230; refine (HF.out _ (by omega) (by omega) _).mono ?_; rintro e w' ⟨rfl, rfl⟩))
   go_ret3
   exact ⟨ret_eq (by rw [HE.out.1, HE.out.2, HV.out]; rfl), Below.refl _ _⟩
theorem WordTwo_div (kind W A B : Int) (hk : kind = 12 ∨ kind = 13) (ha : Wo W A) (hb : Wo W B) (w : World) : Makes Tryz.prog 218 #[.int .i64 kind, .int .i64 W, .int .i64 A, .int .i64 B] w (.tuple #[.int .i64 (two1 kind W A B), .int .i64 (two2 kind W), .bool true]) := by
 have h1 := ha.wd.lo
 have h2 := ha.wd.hi
 have ha0 := ha.lo
 have ha1 := ha.top
 have hb0 := hb.lo
 have hb1 := hb.top
 have HOA := Lib.hid (fun w => WordOk_yes W A ha w)
 have HOB := Lib.hid (fun w => WordOk_yes W B hb w)
 have HSY := Lib.hid (fun w => l1Says_none kind W A B (by omega) (by omega) ha hb w)
 have HE := Lib.hid (show two1 kind W A B = op2 kind W A B ∧ two2 kind W = W from ⟨if_pos (by omega), if_pos (by omega)⟩)
 have HD := Lib.hid (fun w => l1Div_same kind W A B hk ha hb w)
 clear ha hb
 rcases hk with rfl | rfl
 · skip
   go_enter Tryz.func218, Tryz.ntmps218
   go_wp2_with (first | (go_at_call 212; first | (with_reducible refine (HOA.out _).mono ?_; rintro e w' ⟨rfl, rfl⟩) | (with_reducible refine (HOB.out _).mono ?_; rintro e w' ⟨rfl, rfl⟩)) | (go_at_call 233; refine (HSY.out _).mono ?_; rintro e w' ⟨rfl, rfl⟩) | (go_at_call 235; refine (HD.out _).mono ?_; rintro e w' ⟨rfl, rfl⟩))
   go_ret3
   exact ⟨ret_eq (by rw [HE.out.1, HE.out.2]; rfl), Below.refl _ _⟩
 · skip
   go_enter Tryz.func218, Tryz.ntmps218
   go_wp2_with (first | (go_at_call 212; first | (with_reducible refine (HOA.out _).mono ?_; rintro e w' ⟨rfl, rfl⟩) | (with_reducible refine (HOB.out _).mono ?_; rintro e w' ⟨rfl, rfl⟩)) | (go_at_call 233; refine (HSY.out _).mono ?_; rintro e w' ⟨rfl, rfl⟩) | (go_at_call 235; refine (HD.out _).mono ?_; rintro e w' ⟨rfl, rfl⟩))
   go_ret3
   exact ⟨ret_eq (by rw [HE.out.1, HE.out.2]; rfl), Below.refl _ _⟩
theorem WordTwo_sdiv (kind W A B : Int) (hk : kind = 14 ∨ kind = 15) (ha : Wo W A) (hb : Wo W B) (w : World) : Makes Tryz.prog 218 #[.int .i64 kind, .int .i64 W, .int .i64 A, .int .i64 B] w (.tuple #[.int .i64 (two1 kind W A B), .int .i64 (two2 kind W), .bool true]) := by
 have h1 := ha.wd.lo
 have h2 := ha.wd.hi
 have ha0 := ha.lo
 have ha1 := ha.top
 have hb0 := hb.lo
 have hb1 := hb.top
 have HOA := Lib.hid (fun w => WordOk_yes W A ha w)
 have HOB := Lib.hid (fun w => WordOk_yes W B hb w)
 have HSY := Lib.hid (fun w => l1Says_none kind W A B (by omega) (by omega) ha hb w)
 have HE := Lib.hid (show two1 kind W A B = op2 kind W A B ∧ two2 kind W = W from ⟨if_pos (by omega), if_pos (by omega)⟩)
 have HD := Lib.hid (fun w => l1Sdiv_same kind W A B hk ha hb w)
 clear ha hb
 rcases hk with rfl | rfl
 · skip
   go_enter Tryz.func218, Tryz.ntmps218
   go_wp2_with (first | (go_at_call 212; first | (with_reducible refine (HOA.out _).mono ?_; rintro e w' ⟨rfl, rfl⟩) | (with_reducible refine (HOB.out _).mono ?_; rintro e w' ⟨rfl, rfl⟩)) | (go_at_call 233; refine (HSY.out _).mono ?_; rintro e w' ⟨rfl, rfl⟩) | (go_at_call 236; refine (HD.out _).mono ?_; rintro e w' ⟨rfl, rfl⟩))
   go_ret3
   exact ⟨ret_eq (by rw [HE.out.1, HE.out.2]; rfl), Below.refl _ _⟩
 · skip
   go_enter Tryz.func218, Tryz.ntmps218
   go_wp2_with (first | (go_at_call 212; first | (with_reducible refine (HOA.out _).mono ?_; rintro e w' ⟨rfl, rfl⟩) | (with_reducible refine (HOB.out _).mono ?_; rintro e w' ⟨rfl, rfl⟩)) | (go_at_call 233; refine (HSY.out _).mono ?_; rintro e w' ⟨rfl, rfl⟩) | (go_at_call 236; refine (HD.out _).mono ?_; rintro e w' ⟨rfl, rfl⟩))
   go_ret3
   exact ⟨ret_eq (by rw [HE.out.1, HE.out.2]; rfl), Below.refl _ _⟩
theorem WordTwo_shift (kind W A B : Int) (hk : kind = 16 ∨ kind = 17 ∨ kind = 18) (ha : Wo W A) (hb : Wo W B) (w : World) : Makes Tryz.prog 218 #[.int .i64 kind, .int .i64 W, .int .i64 A, .int .i64 B] w (.tuple #[.int .i64 (two1 kind W A B), .int .i64 (two2 kind W), .bool true]) := by
 have h1 := ha.wd.lo
 have h2 := ha.wd.hi
 have ha0 := ha.lo
 have ha1 := ha.top
 have hb0 := hb.lo
 have hb1 := hb.top
 have HOA := Lib.hid (fun w => WordOk_yes W A ha w)
 have HOB := Lib.hid (fun w => WordOk_yes W B hb w)
 have HSY := Lib.hid (fun w => l1Says_none kind W A B (by omega) (by omega) ha hb w)
 have HE := Lib.hid (show two1 kind W A B = op2 kind W A B ∧ two2 kind W = W from ⟨if_pos (by omega), if_pos (by omega)⟩)
 obtain ⟨X, hX, hXe⟩ := shift_op2 kind hk (W := W.toNat) (A := A.toNat) B.toNat (by omega) (wo_nat ha)
 have HEA := Lib.hid (fun w => l1Shift_same kind W.toNat A.toNat B.toNat X (by omega) (by omega) (wo_nat ha) (by omega) hk hX w)
 rw [hXe, show ((W.toNat : Nat) : Int) = W by omega, show ((A.toNat : Nat) : Int) = A by omega, show ((B.toNat : Nat) : Int) = B by omega] at HEA
 clear hX hXe
 clear ha hb
 rcases hk with rfl | rfl | rfl
 · skip
   go_enter Tryz.func218, Tryz.ntmps218
   go_wp2_with (first | (go_at_call 212; first | (with_reducible refine (HOA.out _).mono ?_; rintro e w' ⟨rfl, rfl⟩) | (with_reducible refine (HOB.out _).mono ?_; rintro e w' ⟨rfl, rfl⟩)) | (go_at_call 233; refine (HSY.out _).mono ?_; rintro e w' ⟨rfl, rfl⟩) | (go_at_call 237; refine (HEA.out _).mono ?_; rintro e w' ⟨rfl, rfl⟩))
   go_ret3
   exact ⟨ret_eq (by rw [HE.out.1, HE.out.2]; rfl), Below.refl _ _⟩
 · skip
   go_enter Tryz.func218, Tryz.ntmps218
   go_wp2_with (first | (go_at_call 212; first | (with_reducible refine (HOA.out _).mono ?_; rintro e w' ⟨rfl, rfl⟩) | (with_reducible refine (HOB.out _).mono ?_; rintro e w' ⟨rfl, rfl⟩)) | (go_at_call 233; refine (HSY.out _).mono ?_; rintro e w' ⟨rfl, rfl⟩) | (go_at_call 237; refine (HEA.out _).mono ?_; rintro e w' ⟨rfl, rfl⟩))
   go_ret3
   exact ⟨ret_eq (by rw [HE.out.1, HE.out.2]; rfl), Below.refl _ _⟩
 · skip
   go_enter Tryz.func218, Tryz.ntmps218
   go_wp2_with (first | (go_at_call 212; first | (with_reducible refine (HOA.out _).mono ?_; rintro e w' ⟨rfl, rfl⟩) | (with_reducible refine (HOB.out _).mono ?_; rintro e w' ⟨rfl, rfl⟩)) | (go_at_call 233; refine (HSY.out _).mono ?_; rintro e w' ⟨rfl, rfl⟩) | (go_at_call 237; refine (HEA.out _).mono ?_; rintro e w' ⟨rfl, rfl⟩))
   go_ret3
   exact ⟨ret_eq (by rw [HE.out.1, HE.out.2]; rfl), Below.refl _ _⟩
theorem WordTwo_turn (kind W A B : Int) (hk : kind = 19 ∨ kind = 20) (ha : Wo W A) (hb : Wo W B) (w : World) : Makes Tryz.prog 218 #[.int .i64 kind, .int .i64 W, .int .i64 A, .int .i64 B] w (.tuple #[.int .i64 (two1 kind W A B), .int .i64 (two2 kind W), .bool true]) := by
 have h1 := ha.wd.lo
 have h2 := ha.wd.hi
 have ha0 := ha.lo
 have ha1 := ha.top
 have hb0 := hb.lo
 have hb1 := hb.top
 have HOA := Lib.hid (fun w => WordOk_yes W A ha w)
 have HOB := Lib.hid (fun w => WordOk_yes W B hb w)
 have HSY := Lib.hid (fun w => l1Says_none kind W A B (by omega) (by omega) ha hb w)
 have HE := Lib.hid (show two1 kind W A B = op2 kind W A B ∧ two2 kind W = W from ⟨if_pos (by omega), if_pos (by omega)⟩)
 obtain ⟨c, hc, hce⟩ := turn_op2 kind hk.symm (W := W.toNat) (A := A.toNat) (B := B.toNat) (by omega) (wo_nat ha)
 have HEA := Lib.hid (fun w => l1Turn_calls kind W.toNat A.toNat B.toNat c (by omega) (by omega) (wo_nat ha) (by omega) hc w)
 rw [hce, show ((W.toNat : Nat) : Int) = W by omega, show ((A.toNat : Nat) : Int) = A by omega, show ((B.toNat : Nat) : Int) = B by omega] at HEA
 clear hc hce
 clear ha hb
 rcases hk with rfl | rfl
 · skip
   go_enter Tryz.func218, Tryz.ntmps218
   go_wp2_with (first | (go_at_call 212; first | (with_reducible refine (HOA.out _).mono ?_; rintro e w' ⟨rfl, rfl⟩) | (with_reducible refine (HOB.out _).mono ?_; rintro e w' ⟨rfl, rfl⟩)) | (go_at_call 233; refine (HSY.out _).mono ?_; rintro e w' ⟨rfl, rfl⟩) | (go_at_call 238; refine (HEA.out _).mono ?_; rintro e w' ⟨rfl, hbt⟩; have HBT := Lib.hid hbt; clear hbt))
   go_ret3
   exact ⟨ret_eq (by rw [HE.out.1, HE.out.2]; rfl), HBT.out⟩
 · skip
   go_enter Tryz.func218, Tryz.ntmps218
   go_wp2_with (first | (go_at_call 212; first | (with_reducible refine (HOA.out _).mono ?_; rintro e w' ⟨rfl, rfl⟩) | (with_reducible refine (HOB.out _).mono ?_; rintro e w' ⟨rfl, rfl⟩)) | (go_at_call 233; refine (HSY.out _).mono ?_; rintro e w' ⟨rfl, rfl⟩) | (go_at_call 238; refine (HEA.out _).mono ?_; rintro e w' ⟨rfl, hbt⟩; have HBT := Lib.hid hbt; clear hbt))
   go_ret3
   exact ⟨ret_eq (by rw [HE.out.1, HE.out.2]; rfl), HBT.out⟩
theorem WordTwo_full (kind W A B : Int) (h6 : 6 ≤ kind) (h28 : kind ≤ 28) (ha : Wo W A) (hb : Wo W B) (w : World) : Makes Tryz.prog 218 #[.int .i64 kind, .int .i64 W, .int .i64 A, .int .i64 B] w (.tuple #[.int .i64 (two1 kind W A B), .int .i64 (two2 kind W), .bool true]) := by
 by_cases h1 : kind ≤ 8
 · exact WordTwo_each kind W A B (by omega) ha hb w
 by_cases h2 : kind ≤ 11
 · exact WordTwo_sum kind W A B (by omega) ha hb w
 by_cases h3 : kind ≤ 13
 · exact WordTwo_div kind W A B (by omega) ha hb w
 by_cases h4 : kind ≤ 15
 · exact WordTwo_sdiv kind W A B (by omega) ha hb w
 by_cases h5 : kind ≤ 18
 · exact WordTwo_shift kind W A B (by omega) ha hb w
 by_cases h7 : kind ≤ 20
 · exact WordTwo_turn kind W A B (by omega) ha hb w
 · exact WordTwo_says kind W A B ⟨by omega, h28⟩ ha hb w
theorem bits_op2 {W A B : Int} (ha : Wo W A) (hb : Wo W B) : Go.bits .and .i64 A B = op2 6 W A B ∧ Go.bits .or .i64 A B = op2 7 W A B ∧ Go.bits .xor .i64 A B = op2 8 W A B := by
 obtain ⟨A, rfl⟩ := Int.eq_ofNat_of_zero_le ha.lo
 obtain ⟨B, rfl⟩ := Int.eq_ofNat_of_zero_le hb.lo
 have h1 := ha.top
 have h2 := hb.top
 exact ⟨bits_and_nat _ _ (by omega) (by omega), bits_or_nat _ _ (by omega) (by omega), bits_xor_nat _ _ (by omega) (by omega)⟩
theorem two_6 (W A B : Int) (ha : Wo W A) (hb : Wo W B) (w : World) : Makes Tryz.prog 202 #[.int .i64 6, .int .i64 W, .int .i64 A, .int .i64 B] w (.tuple #[.int .i64 (two1 6 W A B), .int .i64 (two2 6 W)]) := by
 have h1 := ha.wd.lo
 have h2 := ha.wd.hi
 have ha0 := ha.lo
 have ha1 := ha.top
 have hb0 := hb.lo
 have hb1 := hb.top
 obtain ⟨q4, q5⟩ := pow60 (i := W.toNat) (by omega)
 have HM := Lib.hid (fun w => mask_same W w (by omega) h2)
 have HE := Lib.hid (show two1 6 W A B = op2 6 W A B ∧ two2 6 W = W from ⟨if_pos (by omega), if_pos (by omega)⟩)
 have HV := Lib.hid (show op2 6 W A B = Go.bits .and .i64 A B from (bits_op2 ha hb).1.symm)
 clear ha hb
 go_enter Tryz.func202, Tryz.ntmps202
 go_wp2_with (fail)
 go_ret2
 exact ⟨ret_eq (by rw [HE.out.1, HE.out.2, HV.out]; rfl), Below.refl _ _⟩
theorem two_7 (W A B : Int) (ha : Wo W A) (hb : Wo W B) (w : World) : Makes Tryz.prog 202 #[.int .i64 7, .int .i64 W, .int .i64 A, .int .i64 B] w (.tuple #[.int .i64 (two1 7 W A B), .int .i64 (two2 7 W)]) := by
 have h1 := ha.wd.lo
 have h2 := ha.wd.hi
 have ha0 := ha.lo
 have ha1 := ha.top
 have hb0 := hb.lo
 have hb1 := hb.top
 obtain ⟨q4, q5⟩ := pow60 (i := W.toNat) (by omega)
 have HM := Lib.hid (fun w => mask_same W w (by omega) h2)
 have HE := Lib.hid (show two1 7 W A B = op2 7 W A B ∧ two2 7 W = W from ⟨if_pos (by omega), if_pos (by omega)⟩)
 have HV := Lib.hid (show op2 7 W A B = Go.bits .or .i64 A B from (bits_op2 ha hb).2.1.symm)
 clear ha hb
 go_enter Tryz.func202, Tryz.ntmps202
 go_wp2_with (fail)
 go_ret2
 exact ⟨ret_eq (by rw [HE.out.1, HE.out.2, HV.out]; rfl), Below.refl _ _⟩
theorem two_8 (W A B : Int) (ha : Wo W A) (hb : Wo W B) (w : World) : Makes Tryz.prog 202 #[.int .i64 8, .int .i64 W, .int .i64 A, .int .i64 B] w (.tuple #[.int .i64 (two1 8 W A B), .int .i64 (two2 8 W)]) := by
 have h1 := ha.wd.lo
 have h2 := ha.wd.hi
 have ha0 := ha.lo
 have ha1 := ha.top
 have hb0 := hb.lo
 have hb1 := hb.top
 obtain ⟨q4, q5⟩ := pow60 (i := W.toNat) (by omega)
 have HM := Lib.hid (fun w => mask_same W w (by omega) h2)
 have HE := Lib.hid (show two1 8 W A B = op2 8 W A B ∧ two2 8 W = W from ⟨if_pos (by omega), if_pos (by omega)⟩)
 have HV := Lib.hid (show op2 8 W A B = Go.bits .xor .i64 A B from (bits_op2 ha hb).2.2.symm)
 clear ha hb
 go_enter Tryz.func202, Tryz.ntmps202
 go_wp2_with (fail)
 go_ret2
 exact ⟨ret_eq (by rw [HE.out.1, HE.out.2, HV.out]; rfl), Below.refl _ _⟩
theorem two_9 (W A B : Int) (ha : Wo W A) (hb : Wo W B) (w : World) : Makes Tryz.prog 202 #[.int .i64 9, .int .i64 W, .int .i64 A, .int .i64 B] w (.tuple #[.int .i64 (two1 9 W A B), .int .i64 (two2 9 W)]) := by
 have h1 := ha.wd.lo
 have h2 := ha.wd.hi
 have ha0 := ha.lo
 have ha1 := ha.top
 have hb0 := hb.lo
 have hb1 := hb.top
 obtain ⟨q4, q5⟩ := pow60 (i := W.toNat) (by omega)
 have HM := Lib.hid (fun w => mask_same W w (by omega) h2)
 have HE := Lib.hid (show two1 9 W A B = op2 9 W A B ∧ two2 9 W = W from ⟨if_pos (by omega), if_pos (by omega)⟩)
 have HV := Lib.hid (show op2 9 W A B = Go.bits .and .i64 (A + B) (2 ^ W.toNat - 1) from (show op2 9 W A B = (A + B) % 2 ^ W.toNat from rfl).trans (and_mask _ _ (by omega)).symm)
 clear ha hb
 go_enter Tryz.func202, Tryz.ntmps202
 go_wp2_with ((go_at_call 80; refine (HM.out _).mono ?_; rintro e w' ⟨rfl, rfl⟩))
 go_ret2
 exact ⟨ret_eq (by rw [HE.out.1, HE.out.2, HV.out]; rfl), Below.refl _ _⟩
theorem two_10 (W A B : Int) (ha : Wo W A) (hb : Wo W B) (w : World) : Makes Tryz.prog 202 #[.int .i64 10, .int .i64 W, .int .i64 A, .int .i64 B] w (.tuple #[.int .i64 (two1 10 W A B), .int .i64 (two2 10 W)]) := by
 have h1 := ha.wd.lo
 have h2 := ha.wd.hi
 have ha0 := ha.lo
 have ha1 := ha.top
 have hb0 := hb.lo
 have hb1 := hb.top
 obtain ⟨q4, q5⟩ := pow60 (i := W.toNat) (by omega)
 have HM := Lib.hid (fun w => mask_same W w (by omega) h2)
 have HE := Lib.hid (show two1 10 W A B = op2 10 W A B ∧ two2 10 W = W from ⟨if_pos (by omega), if_pos (by omega)⟩)
 have HV := Lib.hid (show op2 10 W A B = Go.bits .and .i64 (A - B) (2 ^ W.toNat - 1) from (show op2 10 W A B = (A - B) % 2 ^ W.toNat from rfl).trans (and_mask _ _ (by omega)).symm)
 clear ha hb
 go_enter Tryz.func202, Tryz.ntmps202
 go_wp2_with ((go_at_call 80; refine (HM.out _).mono ?_; rintro e w' ⟨rfl, rfl⟩))
 go_ret2
 exact ⟨ret_eq (by rw [HE.out.1, HE.out.2, HV.out]; rfl), Below.refl _ _⟩
theorem two_11 (W A B : Int) (ha : Wo W A) (hb : Wo W B) (w : World) : Makes Tryz.prog 202 #[.int .i64 11, .int .i64 W, .int .i64 A, .int .i64 B] w (.tuple #[.int .i64 (two1 11 W A B), .int .i64 (two2 11 W)]) := by
 have h1 := ha.wd.lo
 have h2 := ha.wd.hi
 have ha0 := ha.lo
 have ha1 := ha.top
 have hb0 := hb.lo
 have hb1 := hb.top
 obtain ⟨q4, q5⟩ := pow60 (i := W.toNat) (by omega)
 have HM := Lib.hid (fun w => mask_same W w (by omega) h2)
 have hab : 0 ≤ A * B := Int.mul_nonneg ha0 hb0
 have hab1 : A * B ≤ 65536 * 65536 := Int.mul_le_mul (by omega) (by omega) hb0 (by omega)
 have hab2 : A * B ≤ 4294967296 := by omega
 clear hab1
 have HE := Lib.hid (show two1 11 W A B = op2 11 W A B ∧ two2 11 W = W from ⟨if_pos (by omega), if_pos (by omega)⟩)
 have HV := Lib.hid (show op2 11 W A B = Go.bits .and .i64 (A * B) (2 ^ W.toNat - 1) from (show op2 11 W A B = A * B % 2 ^ W.toNat from rfl).trans (and_mask _ _ (by omega)).symm)
 clear ha hb
 go_enter Tryz.func202, Tryz.ntmps202
 go_wp2_with ((go_at_call 80; refine (HM.out _).mono ?_; rintro e w' ⟨rfl, rfl⟩))
 go_ret2
 exact ⟨ret_eq (by rw [HE.out.1, HE.out.2, HV.out]; rfl), Below.refl _ _⟩
theorem two_12 (W A B : Int) (ha : Wo W A) (hb : Wo W B) (w : World) : Makes Tryz.prog 202 #[.int .i64 12, .int .i64 W, .int .i64 A, .int .i64 B] w (.tuple #[.int .i64 (two1 12 W A B), .int .i64 (two2 12 W)]) := by
 have h1 := ha.wd.lo
 have h2 := ha.wd.hi
 have ha0 := ha.lo
 have ha1 := ha.top
 have hb0 := hb.lo
 have hb1 := hb.top
 obtain ⟨q4, q5⟩ := pow60 (i := W.toNat) (by omega)
 have HM := Lib.hid (fun w => mask_same W w (by omega) h2)
 have HE := Lib.hid (show two1 12 W A B = op2 12 W A B ∧ two2 12 W = W from ⟨if_pos (by omega), if_pos (by omega)⟩)
 have HO := Lib.hid (show op2 12 W A B = if B = 0 then 2 ^ W.toNat - 1 else A / B from rfl)
 have hq0 := Int.ediv_nonneg ha0 hb0
 have hq1 := Int.ediv_le_self B ha0
 have hqt : A.tdiv B = A / B := Int.tdiv_eq_ediv_of_nonneg ha0
 have hqm : A.tmod B = A % B := Int.tmod_eq_emod_of_nonneg ha0
 clear ha hb
 by_cases hz : B = 0
 · have HV := Lib.hid (HO.out.trans (if_pos hz))
   clear hq0 hq1 hqt hqm
   subst hz
   go_enter Tryz.func202, Tryz.ntmps202
   go_wp2_with ((go_at_call 80; refine (HM.out _).mono ?_; rintro e w' ⟨rfl, rfl⟩))
   go_ret2
   exact ⟨ret_eq (by rw [HE.out.1, HE.out.2, HV.out]; rfl), Below.refl _ _⟩
 · have HV := Lib.hid (HO.out.trans (if_neg hz))
   have hg : 0 < B := by omega
   have hz2 : (B == 0) = false := beq_eq_false_iff_ne.2 hz
   go_enter Tryz.func202, Tryz.ntmps202
   go_wp2_with ((go_at_call 80; refine (HM.out _).mono ?_; rintro e w' ⟨rfl, rfl⟩))
   go_ret2
   exact ⟨ret_eq (by rw [HE.out.1, HE.out.2, HV.out]; rfl), Below.refl _ _⟩
theorem two_13 (W A B : Int) (ha : Wo W A) (hb : Wo W B) (w : World) : Makes Tryz.prog 202 #[.int .i64 13, .int .i64 W, .int .i64 A, .int .i64 B] w (.tuple #[.int .i64 (two1 13 W A B), .int .i64 (two2 13 W)]) := by
 have h1 := ha.wd.lo
 have h2 := ha.wd.hi
 have ha0 := ha.lo
 have ha1 := ha.top
 have hb0 := hb.lo
 have hb1 := hb.top
 obtain ⟨q4, q5⟩ := pow60 (i := W.toNat) (by omega)
 have HM := Lib.hid (fun w => mask_same W w (by omega) h2)
 have HE := Lib.hid (show two1 13 W A B = op2 13 W A B ∧ two2 13 W = W from ⟨if_pos (by omega), if_pos (by omega)⟩)
 have HO := Lib.hid (show op2 13 W A B = if B = 0 then A else A % B from rfl)
 have hq0 := Int.ediv_nonneg ha0 hb0
 have hq1 := Int.ediv_le_self B ha0
 have hqt : A.tdiv B = A / B := Int.tdiv_eq_ediv_of_nonneg ha0
 have hqm : A.tmod B = A % B := Int.tmod_eq_emod_of_nonneg ha0
 clear ha hb
 by_cases hz : B = 0
 · have HV := Lib.hid (HO.out.trans (if_pos hz))
   clear hq0 hq1 hqt hqm
   subst hz
   go_enter Tryz.func202, Tryz.ntmps202
   go_wp2_with ((go_at_call 80; refine (HM.out _).mono ?_; rintro e w' ⟨rfl, rfl⟩))
   go_ret2
   exact ⟨ret_eq (by rw [HE.out.1, HE.out.2, HV.out]; rfl), Below.refl _ _⟩
 · have HV := Lib.hid (HO.out.trans (if_neg hz))
   have hg : 0 < B := by omega
   have hz2 : (B == 0) = false := beq_eq_false_iff_ne.2 hz
   go_enter Tryz.func202, Tryz.ntmps202
   go_wp2_with ((go_at_call 80; refine (HM.out _).mono ?_; rintro e w' ⟨rfl, rfl⟩))
   go_ret2
   exact ⟨ret_eq (by rw [HE.out.1, HE.out.2, HV.out]; rfl), Below.refl _ _⟩
theorem two_14 (W A B : Int) (ha : Wo W A) (hb : Wo W B) (w : World) : Makes Tryz.prog 202 #[.int .i64 14, .int .i64 W, .int .i64 A, .int .i64 B] w (.tuple #[.int .i64 (two1 14 W A B), .int .i64 (two2 14 W)]) := by
 have h1 := ha.wd.lo
 have h2 := ha.wd.hi
 have ha0 := ha.lo
 have ha1 := ha.top
 have hb0 := hb.lo
 have hb1 := hb.top
 obtain ⟨q4, q5⟩ := pow60 (i := W.toNat) (by omega)
 have HM := Lib.hid (fun w => mask_same W w (by omega) h2)
 have HD := Lib.hid (fun w => divided_same 14 W A B (.inl rfl) ha hb w)
 have HE := Lib.hid (show two1 14 W A B = op2 14 W A B ∧ two2 14 W = W from ⟨if_pos (by omega), if_pos (by omega)⟩)
 clear ha hb
 go_enter Tryz.func202, Tryz.ntmps202
 go_wp2_with ((go_at_call 225; refine (HD.out _).mono ?_; rintro e w' ⟨rfl, hbt⟩; have HBT := Lib.hid hbt; clear hbt))
 go_ret2
 exact ⟨ret_eq (by rw [HE.out.1, HE.out.2]; rfl), HBT.out⟩
theorem two_15 (W A B : Int) (ha : Wo W A) (hb : Wo W B) (w : World) : Makes Tryz.prog 202 #[.int .i64 15, .int .i64 W, .int .i64 A, .int .i64 B] w (.tuple #[.int .i64 (two1 15 W A B), .int .i64 (two2 15 W)]) := by
 have h1 := ha.wd.lo
 have h2 := ha.wd.hi
 have ha0 := ha.lo
 have ha1 := ha.top
 have hb0 := hb.lo
 have hb1 := hb.top
 obtain ⟨q4, q5⟩ := pow60 (i := W.toNat) (by omega)
 have HM := Lib.hid (fun w => mask_same W w (by omega) h2)
 have HD := Lib.hid (fun w => divided_same 15 W A B (.inr rfl) ha hb w)
 have HE := Lib.hid (show two1 15 W A B = op2 15 W A B ∧ two2 15 W = W from ⟨if_pos (by omega), if_pos (by omega)⟩)
 clear ha hb
 go_enter Tryz.func202, Tryz.ntmps202
 go_wp2_with ((go_at_call 225; refine (HD.out _).mono ?_; rintro e w' ⟨rfl, hbt⟩; have HBT := Lib.hid hbt; clear hbt))
 go_ret2
 exact ⟨ret_eq (by rw [HE.out.1, HE.out.2]; rfl), HBT.out⟩
theorem two_16 (W A B : Int) (ha : Wo W A) (hb : Wo W B) (w : World) : Makes Tryz.prog 202 #[.int .i64 16, .int .i64 W, .int .i64 A, .int .i64 B] w (.tuple #[.int .i64 (two1 16 W A B), .int .i64 (two2 16 W)]) := by
 have h1 := ha.wd.lo
 have h2 := ha.wd.hi
 have ha0 := ha.lo
 have ha1 := ha.top
 have hb0 := hb.lo
 have hb1 := hb.top
 obtain ⟨q4, q5⟩ := pow60 (i := W.toNat) (by omega)
 have HM := Lib.hid (fun w => mask_same W w (by omega) h2)
 have HD := Lib.hid (fun w => shifted_same 16 W A B (.inl rfl) ha hb w)
 have HE := Lib.hid (show two1 16 W A B = op2 16 W A B ∧ two2 16 W = W from ⟨if_pos (by omega), if_pos (by omega)⟩)
 clear ha hb
 go_enter Tryz.func202, Tryz.ntmps202
 go_wp2_with ((go_at_call 226; refine (HD.out _).mono ?_; rintro e w' ⟨rfl, hbt⟩; have HBT := Lib.hid hbt; clear hbt))
 go_ret2
 exact ⟨ret_eq (by rw [HE.out.1, HE.out.2]; rfl), HBT.out⟩
theorem two_17 (W A B : Int) (ha : Wo W A) (hb : Wo W B) (w : World) : Makes Tryz.prog 202 #[.int .i64 17, .int .i64 W, .int .i64 A, .int .i64 B] w (.tuple #[.int .i64 (two1 17 W A B), .int .i64 (two2 17 W)]) := by
 have h1 := ha.wd.lo
 have h2 := ha.wd.hi
 have ha0 := ha.lo
 have ha1 := ha.top
 have hb0 := hb.lo
 have hb1 := hb.top
 obtain ⟨q4, q5⟩ := pow60 (i := W.toNat) (by omega)
 have HM := Lib.hid (fun w => mask_same W w (by omega) h2)
 have HD := Lib.hid (fun w => shifted_same 17 W A B (.inr (.inl rfl)) ha hb w)
 have HE := Lib.hid (show two1 17 W A B = op2 17 W A B ∧ two2 17 W = W from ⟨if_pos (by omega), if_pos (by omega)⟩)
 clear ha hb
 go_enter Tryz.func202, Tryz.ntmps202
 go_wp2_with ((go_at_call 226; refine (HD.out _).mono ?_; rintro e w' ⟨rfl, hbt⟩; have HBT := Lib.hid hbt; clear hbt))
 go_ret2
 exact ⟨ret_eq (by rw [HE.out.1, HE.out.2]; rfl), HBT.out⟩
theorem two_18 (W A B : Int) (ha : Wo W A) (hb : Wo W B) (w : World) : Makes Tryz.prog 202 #[.int .i64 18, .int .i64 W, .int .i64 A, .int .i64 B] w (.tuple #[.int .i64 (two1 18 W A B), .int .i64 (two2 18 W)]) := by
 have h1 := ha.wd.lo
 have h2 := ha.wd.hi
 have ha0 := ha.lo
 have ha1 := ha.top
 have hb0 := hb.lo
 have hb1 := hb.top
 obtain ⟨q4, q5⟩ := pow60 (i := W.toNat) (by omega)
 have HM := Lib.hid (fun w => mask_same W w (by omega) h2)
 have HD := Lib.hid (fun w => shifted_same 18 W A B (.inr (.inr rfl)) ha hb w)
 have HE := Lib.hid (show two1 18 W A B = op2 18 W A B ∧ two2 18 W = W from ⟨if_pos (by omega), if_pos (by omega)⟩)
 clear ha hb
 go_enter Tryz.func202, Tryz.ntmps202
 go_wp2_with ((go_at_call 226; refine (HD.out _).mono ?_; rintro e w' ⟨rfl, hbt⟩; have HBT := Lib.hid hbt; clear hbt))
 go_ret2
 exact ⟨ret_eq (by rw [HE.out.1, HE.out.2]; rfl), HBT.out⟩
theorem two_19 (W A B : Int) (ha : Wo W A) (hb : Wo W B) (w : World) : Makes Tryz.prog 202 #[.int .i64 19, .int .i64 W, .int .i64 A, .int .i64 B] w (.tuple #[.int .i64 (two1 19 W A B), .int .i64 (two2 19 W)]) := by
 have h1 := ha.wd.lo
 have h2 := ha.wd.hi
 have ha0 := ha.lo
 have ha1 := ha.top
 have hb0 := hb.lo
 have hb1 := hb.top
 obtain ⟨q4, q5⟩ := pow60 (i := W.toNat) (by omega)
 have HM := Lib.hid (fun w => mask_same W w (by omega) h2)
 have HD := Lib.hid (fun w => rotate_same W A B ha hb0 (by omega) w)
 have HE := Lib.hid (show two1 19 W A B = op2 19 W A B ∧ two2 19 W = W from ⟨if_pos (by omega), if_pos (by omega)⟩)
 have HV := Lib.hid (show op2 19 W A B = rolv W A (B.tmod W) from rfl)
 clear ha hb
 go_enter Tryz.func202, Tryz.ntmps202
 go_wp2_with ((go_at_call 227; refine (HD.out _).mono ?_; rintro e w' ⟨rfl, hbt⟩; have HBT := Lib.hid hbt; clear hbt))
 go_ret2
 exact ⟨ret_eq (by rw [HE.out.1, HE.out.2, HV.out]; rfl), HBT.out⟩
theorem two_20 (W A B : Int) (ha : Wo W A) (hb : Wo W B) (w : World) : Makes Tryz.prog 202 #[.int .i64 20, .int .i64 W, .int .i64 A, .int .i64 B] w (.tuple #[.int .i64 (two1 20 W A B), .int .i64 (two2 20 W)]) := by
 have h1 := ha.wd.lo
 have h2 := ha.wd.hi
 have ha0 := ha.lo
 have ha1 := ha.top
 have hb0 := hb.lo
 have hb1 := hb.top
 obtain ⟨q4, q5⟩ := pow60 (i := W.toNat) (by omega)
 have HM := Lib.hid (fun w => mask_same W w (by omega) h2)
 have hz : (W == 0) = false := beq_eq_false_iff_ne.2 (by omega)
 have hc0 : 0 ≤ B.tmod W := Int.tmod_nonneg _ hb0
 have hc1 : B.tmod W < W := Int.tmod_lt_of_pos _ (by omega)
 have HD := Lib.hid (fun w => rotate_same W A (W - B.tmod W) ha (by omega) (by omega) w)
 have HE := Lib.hid (show two1 20 W A B = op2 20 W A B ∧ two2 20 W = W from ⟨if_pos (by omega), if_pos (by omega)⟩)
 have HV := Lib.hid (show op2 20 W A B = rolv W A ((W - B.tmod W).tmod W) from rfl)
 generalize hcc : B.tmod W = c at *
 clear ha hb
 go_enter Tryz.func202, Tryz.ntmps202
 go_wp2_with ((go_at_call 227; refine (HD.out _).mono ?_; rintro e w' ⟨rfl, hbt⟩; have HBT := Lib.hid hbt; clear hbt))
 go_ret2
 exact ⟨ret_eq (by rw [HE.out.1, HE.out.2, HV.out]; rfl), HBT.out⟩
theorem two_says (kind W A B : Int) (h21 : 21 ≤ kind) (h28 : kind ≤ 28) (ha : Wo W A) (hb : Wo W B) (w : World) : Makes Tryz.prog 202 #[.int .i64 kind, .int .i64 W, .int .i64 A, .int .i64 B] w (.tuple #[.int .i64 (two1 kind W A B), .int .i64 (two2 kind W)]) := by
 have HE := Lib.hid (show two1 kind W A B = yes (says kind W A B) ∧ two2 kind W = 1 from ⟨if_neg (by omega), if_neg (by omega)⟩)
 have HD := Lib.hid (fun w => compared_same kind W A B h21 h28 ha hb w)
 clear ha hb
 rcases (show kind = 21 ∨ kind = 22 ∨ kind = 23 ∨ kind = 24 ∨ kind = 25 ∨ kind = 26 ∨ kind = 27 ∨ kind = 28 by omega) with rfl | rfl | rfl | rfl | rfl | rfl | rfl | rfl
 all_goals
  go_enter Tryz.func202, Tryz.ntmps202
  go_wp2_with (first | (go_at_call 228; refine (HD.out _).mono ?_; rintro e w' ⟨rfl, hbt⟩; have HBT := Lib.hid hbt; clear hbt) | (go_at_call 199; refine (bit_same _ _).mono ?_; rintro e w' ⟨rfl, rfl⟩))
  go_ret2
  exact ⟨ret_eq (by rw [HE.out.1, HE.out.2]; rfl), HBT.out⟩
theorem two_full (kind W A B : Int) (h6 : 6 ≤ kind) (h28 : kind ≤ 28) (ha : Wo W A) (hb : Wo W B) (w : World) : Makes Tryz.prog 202 #[.int .i64 kind, .int .i64 W, .int .i64 A, .int .i64 B] w (.tuple #[.int .i64 (two1 kind W A B), .int .i64 (two2 kind W)]) := by
 by_cases h : 21 ≤ kind
 · exact two_says kind W A B h h28 ha hb w
 · rcases (show kind = 6 ∨ kind = 7 ∨ kind = 8 ∨ kind = 9 ∨ kind = 10 ∨ kind = 11 ∨ kind = 12 ∨ kind = 13 ∨ kind = 14 ∨ kind = 15 ∨ kind = 16 ∨ kind = 17 ∨ kind = 18 ∨ kind = 19 ∨ kind = 20 by omega) with rfl | rfl | rfl | rfl | rfl | rfl | rfl | rfl | rfl | rfl | rfl | rfl | rfl | rfl | rfl
   · exact two_6 W A B ha hb w
   · exact two_7 W A B ha hb w
   · exact two_8 W A B ha hb w
   · exact two_9 W A B ha hb w
   · exact two_10 W A B ha hb w
   · exact two_11 W A B ha hb w
   · exact two_12 W A B ha hb w
   · exact two_13 W A B ha hb w
   · exact two_14 W A B ha hb w
   · exact two_15 W A B ha hb w
   · exact two_16 W A B ha hb w
   · exact two_17 W A B ha hb w
   · exact two_18 W A B ha hb w
   · exact two_19 W A B ha hb w
   · exact two_20 W A B ha hb w
theorem WordOne_full (kind W A : Int) (h1k : 1 ≤ kind) (h5k : kind ≤ 5) (ha : Wo W A) (w : World) : Calls Tryz.prog 217 #[.int .i64 kind, .int .i64 W, .int .i64 A] w fun e w' => e = .returned (.tuple #[.int .i64 (one1 kind W A), .int .i64 (one2 kind W), .bool true]) ∧ w = w' := by
 have h1 := ha.wd.lo
 have h2 := ha.wd.hi
 have ha0 := ha.lo
 have ha1 := ha.top
 obtain ⟨p1, p2⟩ := pow60 (i := W.toNat) (by omega)
 have HOA := Lib.hid (fun w => WordOk_yes W A ha w)
 have HF := Lib.hid (WordFrom_int W (-A) h1 h2 (by omega) (by omega))
 obtain ⟨RV, hRV⟩ : ∃ r, r = one1 kind W A := ⟨_, rfl⟩
 obtain ⟨RW, hRW⟩ : ∃ r, r = one2 kind W := ⟨_, rfl⟩
 have hON := l1Ones_same W.toNat A.toNat (by omega) (by omega)
 rw [show ((W.toNat : Nat) : Int) = W by omega, show ((A.toNat : Nat) : Int) = A by omega] at hON
 have HON := Lib.hid hON
 have hle := ones_le W.toNat A.toNat
 have hbig : ones 16 A.toNat = ones W.toNat A.toNat := by
  have h := ones_big (wo_nat ha) (16 - W.toNat)
  rw [show W.toNat + (16 - W.toNat) = 16 by omega] at h
  exact h
 have hall : (((ones W.toNat A.toNat : Nat) : Int) = W) ↔ A = 2 ^ W.toNat - 1 := by
  have h := ones_all W.toNat A.toNat
  rw [Nat.mod_eq_of_lt (wo_nat ha)] at h
  have h3 := natpow W.toNat
  have h4 := Nat.two_pow_pos W.toNat
  constructor
  · intro e
    have := h.1 (by omega)
    omega
  · intro e
    have := h.2 (by omega)
    omega
 have HALL := Lib.hid hall
 rw [← hRV, ← hRW]
 unfold one1 at hRV
 unfold one2 at hRW
 rw [hbig] at hRV
 generalize ones W.toNat A.toNat = c at *
 have HV := Lib.hid hRV
 have HW := Lib.hid hRW
 clear hRV hRW ha hbig hall hON
 rcases (show kind = 1 ∨ kind = 2 ∨ kind = 3 ∨ kind = 4 ∨ kind = 5 by omega) with rfl | rfl | rfl | rfl | rfl
 · go_enter Tryz.func217, Tryz.ntmps217
   go_wp2_with (go_at_call 212; refine (HOA.out _).mono ?_; rintro e w' ⟨rfl, rfl⟩)
   go_ret3
   exact ⟨ret_eq (by rw [HV.out, HW.out]; rfl), rfl⟩
 · go_enter Tryz.func217, Tryz.ntmps217
   go_wp2_with (first | (go_at_call 212; refine (HOA.out _).mono ?_; rintro e w' ⟨rfl, rfl⟩) | (go_at_call 230; refine (HF.out _).mono ?_; rintro e w' ⟨rfl, rfl⟩))
   go_ret3
   exact ⟨ret_eq (by rw [HV.out, HW.out]; rfl), rfl⟩
 · go_enter Tryz.func217, Tryz.ntmps217
   go_wp2_with (first | (go_at_call 212; refine (HOA.out _).mono ?_; rintro e w' ⟨rfl, rfl⟩) | (go_at_call 213; refine (l1Yes_same _ _).mono ?_; rintro e w' ⟨rfl, rfl⟩))
   go_ret3
   exact ⟨ret_eq (by rw [HV.out, HW.out]; rfl), rfl⟩
 · have HB := Lib.hid (show ((c : Int) == W) = decide (A = 2 ^ W.toNat - 1) by
    by_cases h : (c : Int) = W
    · rw [decide_eq_true (HALL.out.1 h)]; exact beq_iff_eq.2 h
    · rw [decide_eq_false (fun e => h (HALL.out.2 e))]; exact beq_eq_false_iff_ne.2 h)
   go_enter Tryz.func217, Tryz.ntmps217
   go_wp2_with (first | (go_at_call 212; refine (HOA.out _).mono ?_; rintro e w' ⟨rfl, rfl⟩) | (go_at_call 232; refine (HON.out _).mono ?_; rintro e w' ⟨rfl, rfl⟩) | (go_at_call 213; refine (l1Yes_same _ _).mono ?_; rintro e w' ⟨rfl, rfl⟩))
   go_ret3
   exact ⟨ret_eq (by rw [HV.out, HW.out, HB.out]; rfl), rfl⟩
 · go_enter Tryz.func217, Tryz.ntmps217
   go_wp2_with (first | (go_at_call 212; refine (HOA.out _).mono ?_; rintro e w' ⟨rfl, rfl⟩) | (go_at_call 232; refine (HON.out _).mono ?_; rintro e w' ⟨rfl, rfl⟩))
   go_ret3
   exact ⟨ret_eq (by rw [HV.out, HW.out]; rfl), rfl⟩
theorem WordJoin_full (W A U B : Int) (ha : Wo W A) (hb : Wo U B) (hs : W + U ≤ 16) (w : World) : Calls Tryz.prog 214 #[.int .i64 W, .int .i64 A, .int .i64 U, .int .i64 B] w fun e w' => e = .returned (.tuple #[.int .i64 (A * 2 ^ U.toNat + B), .int .i64 (W + U), .bool true]) ∧ w = w' := by
 have h1 := ha.wd.lo
 have h2 := hb.wd.lo
 have ha0 := ha.lo
 have ha1 := ha.top
 have hb0 := hb.lo
 have hb1 := hb.top
 obtain ⟨p1, p2⟩ := pow60 (i := U.toNat) (by omega)
 have p3 := hb.wd.le
 have p4 : 0 ≤ A * 2 ^ U.toNat := Int.mul_nonneg ha0 (by omega)
 have p5 : A * 2 ^ U.toNat ≤ 65536 * 65536 := Int.mul_le_mul (by omega) (by omega) (by omega) (by omega)
 have p6 : A * 2 ^ U.toNat ≤ 4294967296 := by omega
 clear p5
 have HOA := Lib.hid (fun w => WordOk_yes W A ha w)
 have HOB := Lib.hid (fun w => WordOk_yes U B hb w)
 clear ha hb
 go_enter Tryz.func214, Tryz.ntmps214
 go_wp2_with (go_at_call 212; first | (with_reducible refine (HOA.out _).mono ?_; rintro e w' ⟨rfl, rfl⟩) | (with_reducible refine (HOB.out _).mono ?_; rintro e w' ⟨rfl, rfl⟩))
 go_ret3
 exact ⟨rfl, rfl⟩
theorem WordSlice_full (W A hi lo : Int) (ha : Wo W A) (hl : 0 ≤ lo) (hh : lo ≤ hi) (hw : hi < W) (w : World) : Calls Tryz.prog 215 #[.int .i64 W, .int .i64 A, .int .i64 hi, .int .i64 lo] w fun e w' => e = .returned (.tuple #[.int .i64 (A / 2 ^ lo.toNat % 2 ^ (hi - lo + 1).toNat), .int .i64 (hi - lo + 1), .bool true]) ∧ w = w' := by
 have h1 := ha.wd.lo
 have h2 := ha.wd.hi
 have ha0 := ha.lo
 have ha1 := ha.top
 obtain ⟨p1, p2⟩ := pow60 (i := lo.toNat) (by omega)
 obtain ⟨p3, p4⟩ := pow60 (i := (hi - lo + 1).toNat) (by omega)
 have p5 : 0 ≤ A / 2 ^ lo.toNat := Int.ediv_nonneg ha0 (by omega)
 have HOA := Lib.hid (fun w => WordOk_yes W A ha w)
 clear ha
 go_enter Tryz.func215, Tryz.ntmps215
 go_wp2_with (go_at_call 212; first | (with_reducible refine (HOA.out _).mono ?_; rintro e w' ⟨rfl, rfl⟩))
 go_ret3
 exact ⟨rfl, rfl⟩
def grow1 (W A more : Int) (s : Bool) : Int := if s = true then sg W A % 2 ^ (W + more).toNat else A
theorem WordGrow_full (W A more : Int) (s : Bool) (ha : Wo W A) (hm : 0 ≤ more) (hs : W + more ≤ 16) (w : World) : Calls Tryz.prog 216 #[.int .i64 W, .int .i64 A, .int .i64 more, .bool s] w fun e w' => e = .returned (.tuple #[.int .i64 (grow1 W A more s), .int .i64 (W + more), .bool true]) ∧ w = w' := by
 have h1 := ha.wd.lo
 have h2 := ha.wd.hi
 have ha0 := ha.lo
 have ha1 := ha.top
 obtain ⟨p1, p2⟩ := sg_small ha
 have HOA := Lib.hid (fun w => WordOk_yes W A ha w)
 have HSA := Lib.hid (fun w => WordSigned_same W A ha w)
 have HF := Lib.hid (WordFrom_int (W + more) (sg W A) (by omega) hs (by omega) (by omega))
 generalize hx : sg W A = x at *
 clear ha
 cases s
 · go_enter Tryz.func216, Tryz.ntmps216
   go_wp2_with (go_at_call 212; first | (with_reducible refine (HOA.out _).mono ?_; rintro e w' ⟨rfl, rfl⟩))
   go_ret3
   exact ⟨rfl, rfl⟩
 · go_enter Tryz.func216, Tryz.ntmps216
   go_wp2_with (first | (go_at_call 212; (with_reducible refine (HOA.out _).mono ?_; rintro e w' ⟨rfl, rfl⟩)) | (go_at_call 231; refine (HSA.out _).mono ?_; rintro e w' ⟨rfl, rfl⟩) | (go_at_call 230; refine (HF.out _).mono ?_; rintro e w' ⟨rfl, rfl⟩))
   go_ret3
   exact ⟨ret_eq (by unfold grow1; rw [hx]; rfl), rfl⟩
abbrev pN (ns : List Nd) (p : Int) : Nd := ns.getD p.toNat Nd.zero
abbrev vN (L : List (List Int)) (p : Int) : List Int := L.getD p.toNat []
abbrev c0 (L : List (List Int)) (p : Int) : Int := (vN L p).getD 0 0
def reckN (ns : List Nd) (x : Nd) (L : List (List Int)) : List Int :=
 if x.kind = 33 then (if c0 L x.a = 1 then vN L x.b else vN L x.c)
 else if x.kind = 37 then [(vN L x.a).getD (c0 L x.b).toNat 0]
 else if x.kind = 38 then (vN L x.a).set (c0 L x.b).toNat (c0 L x.c)
 else if x.kind = 21 then [yes (decide (vN L x.a = vN L x.b))]
 else if x.kind = 29 then [c0 L x.a * 2 ^ (pN ns x.b).wid.toNat + c0 L x.b]
 else if x.kind = 30 then [c0 L x.a / 2 ^ x.m.toNat % 2 ^ (x.n - x.m + 1).toNat]
 else if x.kind = 31 ∨ x.kind = 32 then [grow1 (pN ns x.a).wid (c0 L x.a) x.n (decide (x.kind = 32))]
 else if x.kind ≤ 5 then [one1 x.kind (pN ns x.a).wid (c0 L x.a)]
 else [two1 x.kind (pN ns x.a).wid (c0 L x.a) (c0 L x.b)]
structure PartAt (ns : List Nd) (i : Nat) (p : Int) : Prop where
 lo : 0 ≤ p
 hi : p < i
 sok : sokB (pN ns p).idx (pN ns p).wid = true
theorem take_at {ns : List Nd} {i : Nat} {p : Int} (h0 : 0 ≤ p) (h1 : p < i) : (ns.take i).getD p.toNat Nd.zero = ns.getD p.toNat Nd.zero := by
 rw [List.getD_eq_getElem?_getD, List.getD_eq_getElem?_getD, List.getElem?_take, if_pos (by omega)]
theorem node_parts {ns : List Nd} {i : Nat} (h : nodesB ns = true) (hi : i < ns.length) :
 (partsN (ns.getD i Nd.zero).kind = 0 ∧ ownN (ns.getD i Nd.zero) = some ((ns.getD i Nd.zero).idx, (ns.getD i Nd.zero).wid)) ∨
 (0 < partsN (ns.getD i Nd.zero).kind ∧ (∀ m : Nat, m < 3 → (m : Int) < partsN (ns.getD i Nd.zero).kind → PartAt ns i ((ns.getD i Nd.zero).part m)) ∧
   resN (ns.getD i Nd.zero).kind (ns.getD i Nd.zero).n (ns.getD i Nd.zero).m (pN ns (ns.getD i Nd.zero).a).idx (pN ns (ns.getD i Nd.zero).a).wid
    (if 1 < partsN (ns.getD i Nd.zero).kind then (pN ns (ns.getD i Nd.zero).b).idx else 0) (if 1 < partsN (ns.getD i Nd.zero).kind then (pN ns (ns.getD i Nd.zero).b).wid else 0)
    (if 2 < partsN (ns.getD i Nd.zero).kind then (pN ns (ns.getD i Nd.zero).c).idx else 0) (if 2 < partsN (ns.getD i Nd.zero).kind then (pN ns (ns.getD i Nd.zero).c).wid else 0) = some ((ns.getD i Nd.zero).idx, (ns.getD i Nd.zero).wid)) := by
 have hn : nodeB ns i = true := by
  unfold nodesB at h
  rw [List.all_eq_true] at h
  exact h i (List.mem_range.2 hi)
 unfold nodeB at hn
 have hs := of_decide_eq_true hn
 clear hn
 generalize hx : ns.getD i Nd.zero = x at *
 have hl : (ns.take i).length = i := by rw [List.length_take]; omega
 have h60 : ¬ 60 < (ns.take i).length := fun h0 => by rw [sortN_long h0] at hs; cases hs
 have hf : fieldsB (ns.take i).length x = true := by
  by_cases hf : fieldsB (ns.take i).length x = false
  · rw [sortN_bad hf] at hs; cases hs
  · simpa using hf
 have hp := fields_pos hf
 by_cases h0 : partsN x.kind = 0
 · rw [sortN_own h60 hf h0] at hs
   exact .inl ⟨h0, hs⟩
 · right
   have hok : ∀ m, m < 3 → psOk (ns.take i) x m = true := fun m hm => by
    by_cases hq : psOk (ns.take i) x m = true
    · exact hq
    · rw [sortN_part hm h0 (eq_false_of_ne_true hq)] at hs; cases hs
   rw [sortN_res h60 hf h0 hok] at hs
   have hpa : ∀ m : Nat, m < 3 → (m : Int) < partsN x.kind → PartAt ns i (x.part m) := fun m hm hk => by
    obtain ⟨a1, a2⟩ := fields_part_in hf hm hk
    rw [hl] at a2
    have hq := hok m hm
    unfold psOk at hq
    rw [decide_eq_false (by omega), Bool.false_or] at hq
    unfold psI psW at hq
    rw [if_pos hk, if_pos hk, take_at a1 (by omega)] at hq
    exact ⟨a1, by omega, hq⟩
   refine ⟨by omega, hpa, ?_⟩
   unfold psI psW at hs
   rw [if_pos (show ((0 : Nat) : Int) < partsN x.kind by omega), if_pos (show ((0 : Nat) : Int) < partsN x.kind by omega)] at hs
   have ha := hpa 0 (by omega) (by omega)
   rw [take_at ha.lo ha.hi] at hs
   rw [show x.part 0 = x.a from rfl] at hs
   by_cases h1 : 1 < partsN x.kind
   · have hb := hpa 1 (by omega) (by omega)
     rw [if_pos (show ((1 : Nat) : Int) < partsN x.kind by omega), if_pos (show ((1 : Nat) : Int) < partsN x.kind by omega), take_at hb.lo hb.hi, show x.part 1 = x.b from rfl] at hs
     rw [if_pos h1, if_pos h1]
     by_cases h2 : 2 < partsN x.kind
     · have hc := hpa 2 (by omega) (by omega)
       rw [if_pos (show ((2 : Nat) : Int) < partsN x.kind by omega), if_pos (show ((2 : Nat) : Int) < partsN x.kind by omega), take_at hc.lo hc.hi, show x.part 2 = x.c from rfl] at hs
       rw [if_pos h2, if_pos h2]
       exact hs
     · rw [if_neg (show ¬ ((2 : Nat) : Int) < partsN x.kind by omega), if_neg (show ¬ ((2 : Nat) : Int) < partsN x.kind by omega)] at hs
       rw [if_neg h2, if_neg h2]
       exact hs
   · rw [if_neg (show ¬ ((1 : Nat) : Int) < partsN x.kind by omega), if_neg (show ¬ ((1 : Nat) : Int) < partsN x.kind by omega), if_neg (show ¬ ((2 : Nat) : Int) < partsN x.kind by omega), if_neg (show ¬ ((2 : Nat) : Int) < partsN x.kind by omega)] at hs
     rw [if_neg h1, if_neg h1, if_neg (by omega), if_neg (by omega)]
     exact hs
theorem sok_word {i a : Int} (h : sokB i a = true) : 0 ≤ i ∧ i ≤ 2 ∧ 1 ≤ a ∧ a ≤ 16 := by
 unfold sokB widB at h
 rw [Bool.and_eq_true] at h
 have h1 := of_inB h.1
 have h2 := of_inB h.2
 omega
def Kinds (ns : List Nd) (i : Nat) (x : Nd) : Prop :=
 (x.kind = 34 ∧ x.idx = 0 ∧ wokB x.wid x.n = true) ∨
 ((x.kind = 35 ∨ x.kind = 36) ∧ sokB x.idx x.wid = true) ∨
 (x.kind = 33 ∧ PartAt ns i x.a ∧ PartAt ns i x.b ∧ PartAt ns i x.c ∧ (pN ns x.a).idx = 0 ∧ (pN ns x.a).wid = 1 ∧ (pN ns x.b).idx = x.idx ∧ (pN ns x.b).wid = x.wid ∧ (pN ns x.c).idx = x.idx ∧ (pN ns x.c).wid = x.wid) ∨
 (x.kind = 37 ∧ PartAt ns i x.a ∧ PartAt ns i x.b ∧ 0 < (pN ns x.a).idx ∧ (pN ns x.b).idx = 0 ∧ (pN ns x.b).wid = (pN ns x.a).idx ∧ x.idx = 0 ∧ x.wid = (pN ns x.a).wid) ∨
 (x.kind = 38 ∧ PartAt ns i x.a ∧ PartAt ns i x.b ∧ PartAt ns i x.c ∧ 0 < (pN ns x.a).idx ∧ (pN ns x.b).idx = 0 ∧ (pN ns x.b).wid = (pN ns x.a).idx ∧ (pN ns x.c).idx = 0 ∧ (pN ns x.c).wid = (pN ns x.a).wid ∧ x.idx = (pN ns x.a).idx ∧ x.wid = (pN ns x.a).wid) ∨
 (x.kind = 21 ∧ PartAt ns i x.a ∧ PartAt ns i x.b ∧ (pN ns x.a).idx = (pN ns x.b).idx ∧ (pN ns x.a).wid = (pN ns x.b).wid ∧ x.idx = 0 ∧ x.wid = 1) ∨
 (x.kind = 29 ∧ PartAt ns i x.a ∧ PartAt ns i x.b ∧ (pN ns x.a).idx = 0 ∧ (pN ns x.b).idx = 0 ∧ (pN ns x.a).wid + (pN ns x.b).wid ≤ 16 ∧ x.idx = 0 ∧ x.wid = (pN ns x.a).wid + (pN ns x.b).wid) ∨
 (x.kind = 30 ∧ PartAt ns i x.a ∧ (pN ns x.a).idx = 0 ∧ 0 ≤ x.m ∧ x.m ≤ x.n ∧ x.n < (pN ns x.a).wid ∧ x.idx = 0 ∧ x.wid = x.n - x.m + 1) ∨
 ((x.kind = 31 ∨ x.kind = 32) ∧ PartAt ns i x.a ∧ (pN ns x.a).idx = 0 ∧ 0 ≤ x.n ∧ (pN ns x.a).wid + x.n ≤ 16 ∧ x.idx = 0 ∧ x.wid = (pN ns x.a).wid + x.n) ∨
 ((1 ≤ x.kind ∧ x.kind ≤ 5) ∧ PartAt ns i x.a ∧ (pN ns x.a).idx = 0 ∧ x.idx = 0 ∧ x.wid = one2 x.kind (pN ns x.a).wid) ∨
 ((6 ≤ x.kind ∧ x.kind ≤ 28 ∧ x.kind ≠ 21) ∧ PartAt ns i x.a ∧ PartAt ns i x.b ∧ (pN ns x.a).idx = 0 ∧ (pN ns x.b).idx = 0 ∧ (pN ns x.a).wid = (pN ns x.b).wid ∧ x.idx = 0 ∧ x.wid = two2 x.kind (pN ns x.a).wid)
theorem node_kinds {ns : List Nd} {i : Nat} (h : nodesB ns = true) (hi : i < ns.length) : Kinds ns i (ns.getD i Nd.zero) := by
 have hn := node_parts h hi
 generalize ns.getD i Nd.zero = x at hn ⊢
 unfold Kinds
 rcases hn with ⟨h0, h1⟩ | ⟨h0, h1, h2⟩
 · rcases kinds0 h0 with e | e
   · left
     rw [ownN_const (by simpa using e)] at h1
     split at h1
     · rename_i hq
       rw [Bool.and_eq_true] at hq
       exact ⟨e, by simpa using hq.1, hq.2⟩
     · cases h1
   · right; left
     rw [ownN_var (by simp; omega)] at h1
     split at h1
     · rename_i hq
       exact ⟨e, hq⟩
     · cases h1
 · right; right
   obtain ⟨e1, e2, e3, e4, e5, e6, e7, e8, e9⟩ := partsN_eq x.kind
   have ha := h1 0 (by omega) (by omega)
   rw [show x.part 0 = x.a from rfl] at ha
   have hb : 1 < partsN x.kind → PartAt ns i x.b := fun hk => h1 1 (by omega) (by omega)
   have hc : 2 < partsN x.kind → PartAt ns i x.c := fun hk => h1 2 (by omega) (by omega)
   clear h1
   have hk : 1 ≤ x.kind ∧ x.kind ≤ 38 ∧ x.kind ≠ 34 ∧ x.kind ≠ 35 ∧ x.kind ≠ 36 := by
    rcases kinds x.kind with q | q | q | q | q | q | q | q | q
    · have := e1 q; omega
    · omega
    · omega
    · omega
    · omega
    · have := e6 q; omega
    · omega
    · omega
    · have := e9 q; omega
   unfold resN at h2
   by_cases k33 : x.kind = 33
   · left
     have hp := e5 k33
     rw [if_pos k33, hp] at h2
     simp only [show (1 : Int) < 3 by decide, show (2 : Int) < 3 by decide, if_true] at h2
     split at h2
     · rename_i hq
       simp only [Bool.and_eq_true, beq_iff_eq] at hq
       simp only [Option.some.injEq, Prod.mk.injEq] at h2
       exact ⟨k33, ha, hb (by omega), hc (by omega), by omega, by omega, by omega, by omega, by omega, by omega⟩
     · cases h2
   rw [if_neg k33] at h2
   right
   by_cases k37 : x.kind = 37
   · left
     have hp := e7 k37
     rw [if_pos k37, hp] at h2
     simp only [show (1 : Int) < 2 by decide, if_true] at h2
     split at h2
     · rename_i hq
       simp only [Bool.and_eq_true, beq_iff_eq, decide_eq_true_iff] at hq
       simp only [Option.some.injEq, Prod.mk.injEq] at h2
       exact ⟨k37, ha, hb (by omega), by omega, by omega, by omega, by omega, by omega⟩
     · cases h2
   rw [if_neg k37] at h2
   right
   by_cases k38 : x.kind = 38
   · left
     have hp := e8 k38
     rw [if_pos k38, hp] at h2
     simp only [show (1 : Int) < 3 by decide, show (2 : Int) < 3 by decide, if_true] at h2
     split at h2
     · rename_i hq
       simp only [Bool.and_eq_true, beq_iff_eq, decide_eq_true_iff] at hq
       simp only [Option.some.injEq, Prod.mk.injEq] at h2
       exact ⟨k38, ha, hb (by omega), hc (by omega), by omega, by omega, by omega, by omega, by omega, by omega, by omega⟩
     · cases h2
   rw [if_neg k38] at h2
   right
   by_cases k21 : x.kind = 21
   · left
     have hp := e3 (by omega)
     rw [if_pos k21, hp] at h2
     simp only [show (1 : Int) < 2 by decide, if_true] at h2
     split at h2
     · rename_i hq
       simp only [Bool.and_eq_true, beq_iff_eq] at hq
       simp only [Option.some.injEq, Prod.mk.injEq] at h2
       exact ⟨k21, ha, hb (by omega), by omega, by omega, by omega, by omega⟩
     · cases h2
   rw [if_neg k21] at h2
   right
   by_cases hidx : ¬(pN ns x.a).idx = 0 ∨ ¬(if 1 < partsN x.kind then (pN ns x.b).idx else 0) = 0
   · rw [if_pos hidx] at h2; cases h2
   rw [if_neg hidx] at h2
   by_cases k29 : x.kind = 29
   · left
     have hp := e3 (by omega)
     rw [if_pos k29] at h2
     rw [hp] at h2 hidx
     simp only [show (1 : Int) < 2 by decide, if_true] at h2 hidx
     split at h2
     · simp only [Option.some.injEq, Prod.mk.injEq] at h2
       exact ⟨k29, ha, hb (by omega), by omega, by omega, by omega, by omega, by omega⟩
     · cases h2
   rw [if_neg k29] at h2
   right
   have hidx1 : (pN ns x.a).idx = 0 := by omega
   by_cases k30 : x.kind = 30
   · left
     rw [if_pos k30] at h2
     split at h2
     · simp only [Option.some.injEq, Prod.mk.injEq] at h2
       exact ⟨k30, ha, hidx1, by omega, by omega, by omega, by omega, by omega⟩
     · cases h2
   rw [if_neg k30] at h2
   right
   by_cases k31 : x.kind = 31 ∨ x.kind = 32
   · left
     rw [if_pos k31] at h2
     split at h2
     · simp only [Option.some.injEq, Prod.mk.injEq] at h2
       exact ⟨k31, ha, hidx1, by omega, by omega, by omega, by omega⟩
     · cases h2
   rw [if_neg k31] at h2
   right
   by_cases k5 : x.kind ≤ 5
   · left
     refine ⟨⟨by omega, k5⟩, ha, hidx1, ?_⟩
     unfold one2
     split at h2
     · rename_i q
       simp only [Option.some.injEq, Prod.mk.injEq] at h2
       rw [if_pos q]
       omega
     · rename_i q
       simp only [Option.some.injEq, Prod.mk.injEq] at h2
       rw [if_neg q]
       omega
   · right
     have hp := e3 (by omega)
     rw [if_neg (by omega), if_neg k5] at h2
     rw [hp] at h2 hidx
     simp only [show (1 : Int) < 2 by decide, if_true] at h2 hidx
     split at h2
     · rename_i hq
       refine ⟨⟨by omega, by omega, k21⟩, ha, hb (by omega), hidx1, by omega, hq, ?_⟩
       unfold two2
       split at h2
       · rename_i q
         simp only [Option.some.injEq, Prod.mk.injEq] at h2
         rw [if_pos q]
         omega
       · rename_i q
         simp only [Option.some.injEq, Prod.mk.injEq] at h2
         rw [if_neg q]
         omega
     · cases h2
theorem val_word {a : Int} {xs : List Int} (h : valN 0 a xs = true) (hs : sokB 0 a = true) : ∃ v, xs = [v] ∧ Wo a v := by
 obtain ⟨h1, h2⟩ := val_parts h
 obtain ⟨-, -, h3, h4⟩ := sok_word hs
 unfold cellsN at h1
 rw [if_pos hs] at h1
 have hl : xs.length = 1 := by simp at h1; omega
 obtain ⟨v, rfl⟩ := List.length_eq_one_iff.1 hl
 have := wokB_yes (h2 0 (by simp))
 simp at this
 exact ⟨v, rfl, ⟨h3, h4⟩, this.2.2.1, this.2.2.2⟩
theorem word_val {a v : Int} (h : Wo a v) : valN 0 a [v] = true := by
 have hs : sokB 0 a = true := by
  unfold sokB widB
  rw [inB_yes (by omega), inB_yes ⟨h.wd.lo, h.wd.hi⟩]; rfl
 refine val_yes (by unfold cellsN; rw [if_pos hs]; rfl) fun k hk => ?_
 obtain rfl : k = 0 := by simpa using hk
 exact wokB_wo h
theorem wo_of {a v : Int} (h : wokB a v = true) : Wo a v := by
 obtain ⟨h1, h2, h3, h4⟩ := wokB_yes h
 exact ⟨⟨h1, h2⟩, h3, h4⟩
theorem wo_bit (b : Bool) : Wo 1 (yes b) := by
 cases b
 · exact ⟨⟨by omega, by omega⟩, by decide, by decide⟩
 · exact ⟨⟨by omega, by omega⟩, by decide, by decide⟩
theorem one_wo {kind W A : Int} (h1 : 1 ≤ kind) (h5 : kind ≤ 5) (ha : Wo W A) : Wo (one2 kind W) (one1 kind W A) := by
 have hd := ha.wd
 have := ha.lo
 have := ha.hi
 unfold one1 one2
 rcases (show kind = 1 ∨ kind = 2 ∨ kind = 3 ∨ kind = 4 ∨ kind = 5 by omega) with rfl | rfl | rfl | rfl | rfl
 · exact ⟨hd, by simp; omega, by simp; omega⟩
 · exact mod_wo hd _
 · exact wo_bit _
 · exact wo_bit _
 · refine ⟨⟨by simp, by simp⟩, ?_, ?_⟩
   · simp; omega
   · simp; omega
theorem wo_natlt {W : Int} {n : Nat} (h : Wd W) (h1 : n < 2 ^ W.toNat) : Wo W (n : Int) := ⟨h, by omega, by have := natpow W.toNat; omega⟩
theorem rolv_wo {W A c : Int} (ha : Wo W A) (h0 : 0 ≤ c) (h1 : c < W) : Wo W (rolv W A c) := by
 rw [← (rot_or ha h0 h1).1, and_mask _ _ (by have := ha.wd.hi; omega)]
 exact mod_wo ha.wd _
theorem two_wo {kind W A B : Int} (h6 : 6 ≤ kind) (h28 : kind ≤ 28) (ha : Wo W A) (hb : Wo W B) : Wo (two2 kind W) (two1 kind W A B) := by
 unfold two1 two2
 by_cases hk : kind ≤ 20
 · rw [if_pos hk, if_pos hk]
   have hd := ha.wd
   have ha0 := ha.lo
   have ha1 := ha.hi
   have hb0 := hb.lo
   have hb1 := hb.hi
   have hw := hd.lo
   have hp := hd.pos
   rcases two_cases h6 (by omega) with rfl | rfl | rfl | rfl | rfl | rfl | rfl | rfl | rfl | rfl | rfl | rfl | rfl | rfl | rfl | rfl | rfl | rfl | rfl | rfl | rfl | rfl | rfl
   · exact wo_natlt hd (Nat.and_lt_two_pow _ (wo_nat hb))
   · exact wo_natlt hd (Nat.or_lt_two_pow (wo_nat ha) (wo_nat hb))
   · exact wo_natlt hd (Nat.xor_lt_two_pow (wo_nat ha) (wo_nat hb))
   · exact mod_wo hd _
   · exact mod_wo hd _
   · exact mod_wo hd _
   · show Wo W (if B = 0 then 2 ^ W.toNat - 1 else A / B)
     split
     · exact ⟨hd, by omega, by omega⟩
     · exact ⟨hd, Int.ediv_nonneg ha0 hb0, by have := Int.ediv_le_self B ha0; omega⟩
   · show Wo W (if B = 0 then A else A % B)
     split
     · exact ha
     · rename_i h
       exact ⟨hd, Int.emod_nonneg _ h, by have := Int.emod_lt_of_pos A (show 0 < B by omega); omega⟩
   · show Wo W (if sg W B = 0 then (if sg W A < 0 then 1 else 2 ^ W.toNat - 1) else (sg W A).tdiv (sg W B) % 2 ^ W.toNat)
     have := hd.ge
     split
     · split
       · exact ⟨hd, by omega, by omega⟩
       · exact ⟨hd, by omega, by omega⟩
     · exact mod_wo hd _
   · show Wo W (if sg W B = 0 then A else (sg W A).tmod (sg W B) % 2 ^ W.toNat)
     split
     · exact ha
     · exact mod_wo hd _
   · exact mod_wo hd _
   · show Wo W (A / 2 ^ (lw W B).toNat)
     exact ⟨hd, Int.ediv_nonneg ha0 (by have := two_pow_pos (lw W B).toNat; omega), by have := Int.ediv_le_self (2 ^ (lw W B).toNat) ha0; omega⟩
   · exact mod_wo hd _
   · exact rolv_wo ha (Int.tmod_nonneg _ hb0) (Int.tmod_lt_of_pos _ (by omega))
   · have h1 := Int.tmod_nonneg W hb0
     have h2 := Int.tmod_lt_of_pos B (show 0 < W by omega)
     exact rolv_wo ha (Int.tmod_nonneg _ (by omega)) (Int.tmod_lt_of_pos _ (by omega))
   all_goals omega
 · rw [if_neg hk, if_neg hk]
   exact wo_bit _
theorem join_wo {W A U B : Int} (ha : Wo W A) (hb : Wo U B) (h : W + U ≤ 16) : Wo (W + U) (A * 2 ^ U.toNat + B) := by
 have h1 := ha.lo
 have h2 := ha.hi
 have h3 := hb.lo
 have h4 := hb.hi
 have h5 := ha.wd.lo
 have h6 := hb.wd.lo
 have h7 : 0 ≤ A * 2 ^ U.toNat := Int.mul_nonneg h1 (by omega)
 have h8 : A * 2 ^ U.toNat + 2 ^ U.toNat ≤ 2 ^ W.toNat * 2 ^ U.toNat := by
  have : (A + 1) * 2 ^ U.toNat ≤ 2 ^ W.toNat * 2 ^ U.toNat := Int.mul_le_mul_of_nonneg_right (by omega) (by omega)
  rw [Int.add_mul, Int.one_mul] at this
  exact this
 refine ⟨⟨by omega, h⟩, by omega, ?_⟩
 rw [pow_add_i W U (by omega) (by omega)]
 omega
theorem grow_wo {W A more : Int} (s : Bool) (ha : Wo W A) (h0 : 0 ≤ more) (h : W + more ≤ 16) : Wo (W + more) (grow1 W A more s) := by
 have hd : Wd (W + more) := ⟨by have := ha.wd.lo; omega, h⟩
 unfold grow1
 split
 · exact mod_wo hd _
 · refine ⟨hd, ha.lo, Int.lt_of_lt_of_le ha.hi ?_⟩
   have := pow_nat_le (show W.toNat ≤ (W + more).toNat by omega)
   have h1 := natpow W.toNat
   have h2 := natpow (W + more).toNat
   omega
theorem part_word {ns : List Nd} {i : Nat} {p : Int} {L : List (List Int)} (h : PartAt ns i p) (hv : valB (pN ns p) (vN L p) = true) (h0 : (pN ns p).idx = 0) : ∃ v, vN L p = [v] ∧ Wo (pN ns p).wid v ∧ c0 L p = v := by
 have hs := h.sok
 unfold valB at hv
 rw [h0] at hs hv
 obtain ⟨v, h1, h2⟩ := val_word hv hs
 exact ⟨v, h1, h2, by show (vN L p).getD 0 0 = v; rw [h1]; rfl⟩
theorem part_val {i a : Int} {xs : List Int} (h : valN i a xs = true) (hs : sokB i a = true) : xs.length = 2 ^ i.toNat ∧ ∀ k, k < xs.length → Wo a (xs.getD k 0) := by
 obtain ⟨h1, h2⟩ := val_parts h
 unfold cellsN at h1
 rw [if_pos hs] at h1
 refine ⟨?_, fun k hk => wo_of (h2 k hk)⟩
 have := natpow i.toNat
 omega
theorem reckN_val {ns : List Nd} {i : Nat} {x : Nd} {L : List (List Int)} (hk : Kinds ns i x) (hp : partsN x.kind ≠ 0) (hL : ∀ p, PartAt ns i p → valB (pN ns p) (vN L p) = true) : valB x (reckN ns x L) = true := by
 rcases hk with ⟨k, -⟩ | ⟨k, -⟩ | ⟨k, ha, hb, hc, h1, h2, h3, h4, h5, h6⟩ | ⟨k, ha, hb, h1, h2, h3, h4, h5⟩ | ⟨k, ha, hb, hc, h1, h2, h3, h4, h5, h6, h7⟩ | ⟨k, ha, hb, h1, h2, h3, h4⟩ | ⟨k, ha, hb, h1, h2, h3, h4, h5⟩ | ⟨k, ha, h1, h2, h3, h4, h5, h6⟩ | ⟨k, ha, h1, h2, h3, h4, h5⟩ | ⟨k, ha, h1, h2, h3⟩ | ⟨k, ha, hb, h1, h2, h3, h4, h5⟩
 · exact absurd ((partsN_eq x.kind).2.2.2.2.2.1 (by omega)) hp
 · exact absurd ((partsN_eq x.kind).2.2.2.2.2.1 (by omega)) hp
 · unfold reckN valB
   rw [if_pos k]
   have hvb := hL _ hb
   have hvc := hL _ hc
   unfold valB at hvb hvc
   rw [h3, h4] at hvb
   rw [h5, h6] at hvc
   split
   · exact hvb
   · exact hvc
 · unfold reckN valB
   rw [if_neg (by omega), if_pos k, h4, h5]
   obtain ⟨v, -, hw, hv⟩ := part_word hb (hL _ hb) h2
   obtain ⟨hl, hc⟩ := part_val (hL _ ha) ha.sok
   rw [hv]
   refine word_val (hc _ ?_)
   rw [h3] at hw
   have := wo_nat hw
   show v.toNat < (vN L x.a).length
   rw [hl]
   exact this
 · unfold reckN valB
   rw [if_neg (by omega), if_neg (by omega), if_pos k, h6, h7]
   obtain ⟨u, -, hwu, hu⟩ := part_word hc (hL _ hc) h4
   have hva := hL _ ha
   obtain ⟨hl, hcc⟩ := val_parts hva
   rw [hu]
   rw [h5] at hwu
   refine val_yes (by rw [List.length_set]; exact hl) fun k hk => ?_
   rw [List.length_set] at hk
   rw [List.getD_eq_getElem?_getD, List.getElem?_set]
   split
   · rename_i e
     rw [if_pos (by omega)]
     exact wokB_wo hwu
   · have := hcc k hk
     rwa [List.getD_eq_getElem?_getD] at this
 · unfold reckN valB
   rw [if_neg (by omega), if_neg (by omega), if_neg (by omega), if_pos k, h3, h4]
   exact word_val (wo_bit _)
 · unfold reckN valB
   obtain ⟨u, -, hwu, hu⟩ := part_word ha (hL _ ha) h1
   obtain ⟨v, -, hwv, hv⟩ := part_word hb (hL _ hb) h2
   rw [if_neg (by omega), if_neg (by omega), if_neg (by omega), if_neg (by omega), if_pos k, h4, h5, hu, hv]
   exact word_val (join_wo hwu hwv h3)
 · unfold reckN valB
   obtain ⟨u, -, hwu, hu⟩ := part_word ha (hL _ ha) h1
   rw [if_neg (by omega), if_neg (by omega), if_neg (by omega), if_neg (by omega), if_neg (by omega), if_pos k, h5, h6, hu]
   have := hwu.wd.hi
   exact word_val (mod_wo ⟨by omega, by omega⟩ _)
 · unfold reckN valB
   obtain ⟨u, -, hwu, hu⟩ := part_word ha (hL _ ha) h1
   rw [if_neg (by omega), if_neg (by omega), if_neg (by omega), if_neg (by omega), if_neg (by omega), if_neg (by omega), if_pos k, h4, h5, hu]
   exact word_val (grow_wo _ hwu h2 h3)
 · unfold reckN valB
   obtain ⟨u, -, hwu, hu⟩ := part_word ha (hL _ ha) h1
   rw [if_neg (by omega), if_neg (by omega), if_neg (by omega), if_neg (by omega), if_neg (by omega), if_neg (by omega), if_neg (by omega), if_pos k.2, h2, h3, hu]
   exact word_val (one_wo k.1 k.2 hwu)
 · unfold reckN valB
   obtain ⟨u, -, hwu, hu⟩ := part_word ha (hL _ ha) h1
   obtain ⟨v, -, hwv, hv⟩ := part_word hb (hL _ hb) h2
   rw [if_neg (by omega), if_neg (by omega), if_neg (by omega), if_neg (by omega), if_neg (by omega), if_neg (by omega), if_neg (by omega), if_neg (by omega), h4, h5, hu, hv]
   rw [← h3] at hwv
   exact word_val (two_wo k.1 k.2.1 hwu hwv)
theorem getD_left {α : Type} {A B : List α} {j : Nat} (d : α) (h : j < A.length) : (A ++ B).getD j d = A.getD j d := by
 rw [List.getD_eq_getElem?_getD, List.getElem?_append_left h, ← List.getD_eq_getElem?_getD]
theorem getD_last {α : Type} {A : List α} {a : α} (d : α) : (A ++ [a]).getD A.length d = a := by
 rw [List.getD_eq_getElem?_getD, List.getElem?_append_right (Nat.le_refl _), Nat.sub_self]; rfl
def stepN (ns : List Nd) (S I : List (List Int)) (k : Nat) (L : List (List Int)) : List Int :=
 if (ns.getD k Nd.zero).kind = 34 then [(ns.getD k Nd.zero).n]
 else if (ns.getD k Nd.zero).kind = 36 then S.getD (placesN 36 ns k).length []
 else if (ns.getD k Nd.zero).kind = 35 then I.getD (placesN 35 ns k).length []
 else reckN ns (ns.getD k Nd.zero) L
def evalN (ns : List Nd) (S I : List (List Int)) : Nat → List (List Int)
 | 0 => []
 | k + 1 => evalN ns S I k ++ [stepN ns S I k (evalN ns S I k)]
theorem evalN_length (ns : List Nd) (S I : List (List Int)) : ∀ k, (evalN ns S I k).length = k
 | 0 => rfl
 | k + 1 => by rw [evalN, List.length_append, evalN_length ns S I k]; rfl
theorem evalN_last (ns : List Nd) (S I : List (List Int)) (k : Nat) : (evalN ns S I (k + 1)).getD k [] = stepN ns S I k (evalN ns S I k) := by
 have h := getD_last (A := evalN ns S I k) (a := stepN ns S I k (evalN ns S I k)) []
 rw [evalN_length] at h
 exact h
theorem places_split {kind : Int} {ns : List Nd} (k : Nat) : ∀ {n : Nat}, k < n → ((ns.getD k Nd.zero).kind == kind) = true → ∃ t, placesN kind ns n = placesN kind ns k ++ (k : Int) :: t
 | 0, h, _ => absurd h (Nat.not_lt_zero _)
 | n + 1, h, hk => by
   by_cases e : k = n
   · subst e
     exact ⟨[], by rw [placesN_yes hk]⟩
   · obtain ⟨t, ht⟩ := places_split k (show k < n by omega) hk
     exact ⟨t ++ (if (ns.getD n Nd.zero).kind == kind then [(n : Int)] else []), by rw [placesN, ht]; simp⟩
theorem places_at {kind : Int} {ns : List Nd} {k n : Nat} (h : k < n) (hk : ((ns.getD k Nd.zero).kind == kind) = true) : (placesN kind ns k).length < (placesN kind ns n).length ∧ (placesN kind ns n).getD (placesN kind ns k).length 0 = k := by
 obtain ⟨t, ht⟩ := places_split k h hk
 rw [ht]
 refine ⟨by simp, ?_⟩
 rw [List.getD_eq_getElem?_getD, List.getElem?_append_right (Nat.le_refl _), Nat.sub_self]
 rfl
theorem fits_place {kind : Int} {ns : List Nd} {L : List (List Int)} {k : Nat} (h : fitsB ns (placesN kind ns ns.length) L = true) (hi : k < ns.length) (hk : ((ns.getD k Nd.zero).kind == kind) = true) : (placesN kind ns k).length < L.length ∧ valB (ns.getD k Nd.zero) (L.getD (placesN kind ns k).length []) = true := by
 obtain ⟨h1, h2⟩ := fits_parts h
 obtain ⟨h3, h4⟩ := places_at hi hk
 have h5 := h2 _ (by rw [h1]; exact h3)
 unfold ndAt at h5
 rw [h4] at h5
 exact ⟨by omega, h5⟩
theorem evalN_ok {ns : List Nd} {S I : List (List Int)} (h : nodesB ns = true) (hS : fitsB ns (placesN 36 ns ns.length) S = true) (hI : fitsB ns (placesN 35 ns ns.length) I = true) : ∀ k, k ≤ ns.length → ∀ j, j < k → valB (ns.getD j Nd.zero) ((evalN ns S I k).getD j []) = true
 | 0, _, j, hj => absurd hj (Nat.not_lt_zero _)
 | k + 1, hk, j, hj => by
   have ih := evalN_ok h hS hI k (by omega)
   rcases Nat.lt_or_ge j k with g | g
   · rw [evalN, getD_left _ (by rw [evalN_length]; exact g)]
     exact ih j g
   · obtain rfl : j = k := by omega
     rw [evalN_last]
     have hkd := node_kinds h (show j < ns.length by omega)
     have hpl := fits_place (k := j) hS (by omega)
     have hpi := fits_place (k := j) hI (by omega)
     unfold stepN
     generalize hx : ns.getD j Nd.zero = x at *
     by_cases k34 : x.kind = 34
     · rw [if_pos k34]
       rcases hkd with ⟨-, e1, e2⟩ | q | q | q | q | q | q | q | q | q | q
       · unfold valB
         rw [e1]
         exact word_val (wo_of e2)
       all_goals exact absurd q.1 (by omega)
     · rw [if_neg k34]
       by_cases k36 : x.kind = 36
       · rw [if_pos k36]
         exact (hpl (by simpa using k36)).2
       · rw [if_neg k36]
         by_cases k35 : x.kind = 35
         · rw [if_pos k35]
           exact (hpi (by simpa using k35)).2
         · rw [if_neg k35]
           refine reckN_val hkd (fun e => ?_) fun p hp => ?_
           · have := kinds0 e; omega
           · have h1 := hp.lo
             have h2 := hp.hi
             exact ih p.toNat (by omega)
theorem accI_rowI {lo : Nat} {w : World} {v : Value} {xs : List Int} (h : AccI lo w v xs) (hl : xs.length ≤ 281474976710656) : RowI w v xs := .of_owns h rfl hl
theorem AccI.mono {lo lo' : Nat} {w : World} {v : Value} {xs : List Int} (h : AccI lo w v xs) (hl : lo' ≤ lo) : AccI lo' w v xs := by
 refine ⟨h.1, ?_⟩
 rcases h.2 with h0 | ⟨g, cap, cur, hv, hg, r⟩
 · exact .inl h0
 · exact .inr ⟨g, cap, cur, hv, Nat.le_trans hl hg, r⟩
theorem accI_slice {lo : Nat} {w : World} {v : Value} {xs : List Int} (h : AccI lo w v xs) : ∃ A n c, v = Value.slice A n c := by
 rcases h.2 with h0 | ⟨g, cap, cur, hv, hg, r⟩
 · exact ⟨_, _, _, h0.1⟩
 · exact ⟨_, _, _, hv⟩
def NewV (lo : Nat) (w : World) (e : Ending) (w' : World) (xs : List Int) : Prop :=
 ∃ s, e = .returned (.agg #[s]) ∧ Below lo w w' ∧ RowI w' s xs ∧ ∀ b, s.ownBlock = some b → lo ≤ b
theorem l4CopyA_calls (sv : Value) (xs : List Int) (w : World) (hS : SlN enI w sv xs) (hsz : xs.length ≤ 1048576) :
 Calls Tryz.prog 181 #[.agg #[sv]] w fun e w' => ∃ s, e = .returned (.agg #[s]) ∧ Below w.heap.size w w' ∧ AccI w.heap.size w' s xs := by
 obtain ⟨A, c, rfl, hnc, hc', hA⟩ := hS
 generalize hM : xs.length = m at *
 have HM := Lib.hid hM
 clear hM
 go_enter Tryz.func181, Tryz.ntmps181
 go_wp2
 have y0 : ∀ u : Later ((w.alloc (Obj.cells #[.slice A m c] 40)).alloc (Obj.cells #[.slice none 0 0] 40)), u.val.cell? ⟨w.heap.size, 0, none⟩ = some (.slice A m c) := Later.cell (by simp)
 have y1 : ∀ u : Later ((w.alloc (Obj.cells #[.slice A m c] 40)).alloc (Obj.cells #[.slice none 0 0] 40)), u.val.frozen? ⟨w.heap.size + 1, 0, none⟩ = false := Later.frozen (by simp) (by simp)
 have y2 : ∀ u : Later ((w.alloc (Obj.cells #[.slice A m c] 40)).alloc (Obj.cells #[.slice none 0 0] 40)), u.val.cell? ⟨w.heap.size + 1, 0, none⟩ = some (.slice none 0 0) := Later.cell (by simp)
 have HG := Lib.hid (show ((w.alloc (Obj.cells #[.slice A m c] 40)).alloc (Obj.cells #[.slice none 0 0] 40)).heap.size = w.heap.size + 2 by simp)
 have HB := Lib.hid (show Below w.heap.size w ((w.alloc (Obj.cells #[.slice A m c] 40)).alloc (Obj.cells #[.slice none 0 0] 40)) from ((Below.refl _ _).alloc (Nat.le_refl _) _).alloc (by simp) _)
 generalize (w.alloc (Obj.cells #[.slice A m c] 40)).alloc (Obj.cells #[.slice none 0 0] 40) = w2 at *
 have HO3 := Lib.hid (show OwnB (w2.alloc (Obj.cells #[.slice none 0 0] 40)) (w.heap.size + 2) 40 #[.slice none 0 0] from HG.out ▸ OwnB.new _ _ _)
 have HL3 := Lib.hid (show LaterC w2 (w2.alloc (Obj.cells #[.slice none 0 0] 40)) from LaterC.alloc' (LaterC.refl _) _)
 have HLO := Lib.hid (show w.heap.size + 2 < (w2.alloc (Obj.cells #[.slice none 0 0] 40)).heap.size from HO3.out.lt)
 generalize w2.alloc (Obj.cells #[.slice none 0 0] 40) = w3 at *
 go_loopw [4] (fun i wr => ∃ (j : Nat) (cv : Value), j ≤ m ∧ i = .int .i64 j ∧ Hid (OwnB wr (w.heap.size + 2) 40 #[cv] ∧ AccI (w.heap.size + 3) wr cv (xs.take j) ∧ LaterC w2 wr)) (fun i _ => m - (intOf i).toNat)
 case atStart => exact ⟨0, .slice none 0 0, Nat.zero_le _, rfl, Lib.hid ⟨HO3.out, by simpa using AccI.nil (w.heap.size + 3) w3, HL3.out⟩⟩
 case round =>
  obtain ⟨j, cv, hj, rfl, HR⟩ := hrel
  by_cases hlt : j < m
  · have hlt' : (j : Int) < m := by omega
    have hgx := getD_at (show j < xs.length by rw [HM.out]; exact hlt) 0
    obtain ⟨bx, ox, rfl, hx⟩ := hA j _ hgx
    have HTK := Lib.hid (show xs.take (j + 1) = xs.take j ++ [xs.getD j 0] by rw [List.take_add_one, hgx]; rfl)
    generalize xs.getD j 0 = y at *
    have p0 : ∀ l : Later w2, l.val.cell? ⟨bx, ox + j, none⟩ = some (.int .i64 y) := hx.int HB.out
    have q0 : wr.cell? ⟨w.heap.size + 2, 0, none⟩ = some cv := HR.out.1.cell 0
    have z0 : wr.cell? ⟨w.heap.size, 0, none⟩ = some (.slice (some ⟨bx, ox, none⟩) m c) := by obtain ⟨l, hl⟩ := HR.out.2.2; rw [hl]; exact y0 l
    have z1 : wr.cell? ⟨bx, ox + j, none⟩ = some (.int .i64 y) := by obtain ⟨l, hl⟩ := HR.out.2.2; rw [hl]; exact p0 l
    have q0a : ∀ o, (wr.alloc o).cell? ⟨w.heap.size + 2, 0, none⟩ = some cv := fun o => keepcell ((Below.refl _ _).alloc (Nat.le_refl _) o) q0
    have z0a : ∀ o, (wr.alloc o).cell? ⟨w.heap.size, 0, none⟩ = some (.slice (some ⟨bx, ox, none⟩) m c) := fun o => keepcell ((Below.refl _ _).alloc (Nat.le_refl _) o) z0
    have z1a : ∀ o, (wr.alloc o).cell? ⟨bx, ox + j, none⟩ = some (.int .i64 y) := fun o => keepcell ((Below.refl _ _).alloc (Nat.le_refl _) o) z1
    have HQ4 := Lib.hid (show ∀ W, Below wr.heap.size wr W → W.cell? ⟨w.heap.size + 2, 0, none⟩ = some cv ∧ W.cell? ⟨w.heap.size, 0, none⟩ = some (.slice (some ⟨bx, ox, none⟩) m c) ∧ W.cell? ⟨bx, ox + j, none⟩ = some (.int .i64 y) from fun W h => ⟨keepcell h q0, keepcell h z0, keepcell h z1⟩)
    have HLO4 := Lib.hid (show w.heap.size + 3 ≤ wr.heap.size by have := HR.out.1.lt; omega)
    have HTL := Lib.hid (show (xs.take j).length ≤ 1048576 from Nat.le_trans (List.length_take_le _ _) (by omega))
    have HTJ := Lib.hid (show (xs.take j).length = j by rw [List.length_take, HM.out]; omega)
    have HNE := Lib.hid (show ∀ b, cv.ownBlock = some b → w.heap.size + 3 ≤ b ∧ b < wr.heap.size from fun b hb => HR.out.2.1.lt b hb)
    clear hA y0 y2 p0 hx hgx
    go_wp2
    go_region_law ((refine step_append_int (by rfl) _ _ (by rfl) (w.heap.size + 3) wr _ wr.heap.size cv y _ j HTJ.out (by rfl) HR.out.2.1 HLO4.out HTL.out bax (heap_alloc_new wr _) (by rfl) ?_; intro g cap wn hac hgrow hat; have HPD := Lib.hid (push_done (B := w.heap.size + 2) (ys := xs.take (j + 1)) HR.out.1 HR.out.2.2 (Nat.le_of_eq HG.out) bax (fun b hb => (HNE.out b hb).1) hgrow hat (by rw [HTK.out]; exact hac)); have q1 : wn.cell? ⟨w.heap.size + 2, 0, none⟩ = some cv := (hgrow.cell_far _ (by have := HLO4.out; simp; omega) (fun e => by have := HNE.out _ e.symm; simp at this)).trans (HQ4.out _ bax).1; have f1 : wn.frozen? ⟨w.heap.size + 2, 0, none⟩ = false := (hgrow.frozen_far _ (by have := HLO4.out; simp; omega) (fun e => by have := HNE.out _ e.symm; simp at this)).trans ((HR.out.1.below bax HR.out.1.lt).frozen 0); clear hac hgrow hat))
    all_goals
     go_wp2
     go_roundw
     case rel => exact ⟨j + 1, _, by omega, by go_num, Lib.hid HPD.out⟩
     case measure => simp [intOf] <;> omega
  · obtain rfl : j = m := by omega
    have HTF := Lib.hid (show xs.take j = xs by rw [← HM.out, List.take_length])
    have q0 : wr.cell? ⟨w.heap.size + 2, 0, none⟩ = some cv := HR.out.1.cell 0
    have z0 : wr.cell? ⟨w.heap.size, 0, none⟩ = some (.slice A j c) := by obtain ⟨l, hl⟩ := HR.out.2.2; rw [hl]; exact y0 l
    have f0 : wr.frozen? ⟨w.heap.size + 1, 0, none⟩ = false := by obtain ⟨l, hl⟩ := HR.out.2.2; rw [hl]; exact y1 l
    have f1 : wr.cell? ⟨w.heap.size + 1, 0, none⟩ = some (.slice none 0 0) := by obtain ⟨l, hl⟩ := HR.out.2.2; rw [hl]; exact y2 l
    obtain ⟨cA, cn, cc, rfl⟩ : ∃ A n c, cv = Value.slice A n c := accI_slice HR.out.2.1
    clear hA y0 y1 y2
    go_wp2
    have hbut : But (· = w.heap.size + 1) wr (wr.setCell ⟨w.heap.size + 1, 0, none⟩ (.slice cA cn cc)) := But.setCell (S := (· = w.heap.size + 1)) (But.refl _ _) rfl _
    have hne : ∀ b, (Value.slice cA cn cc).ownBlock = some b → ¬ b = w.heap.size + 1 := fun b hb e => by have := (HR.out.2.1.lt b hb).1; omega
    have hac := owns_but HR.out.2.1 hbut hne
    rw [HTF.out] at hac
    have rc : (wr.setCell ⟨w.heap.size + 1, 0, none⟩ (.slice cA cn cc)).cell? ⟨w.heap.size + 1, 0, none⟩ = some (.slice cA cn cc) := World.cell?_setCell_same _ _ _ f1
    refine bodyPost_ret (v := .agg #[.slice cA cn cc]) (by simp [results, Tryz.results181, go_sem, rc]) rfl ?_
    exact ⟨_, rfl, (HB.out.trans ((LaterC.below HR.out.2.2).mono HB.out.size)).setCell (by simp) _, AccI.mono hac (by omega)⟩
theorem l4Copy_calls (sv : Value) (xs : List Int) (w : World) (hS : SlN enI w sv xs) (hsz : xs.length ≤ 1048576) :
 Calls Tryz.prog 181 #[.agg #[sv]] w fun e w' => NewV w.heap.size w e w' xs :=
 (l4CopyA_calls sv xs w hS hsz).mono fun e w' ⟨s, he, hb, ha⟩ => ⟨s, he, hb, accI_rowI ha (by omega), fun b hb => (ha.lt b hb).1⟩
theorem l4One_calls (v : Int) (w : World) : Calls Tryz.prog 180 #[.int .i64 v] w fun e w' => NewV w.heap.size w e w' [v] := by
 unfold NewV
 go_enter Tryz.func180, Tryz.ntmps180
 go_wp2
 refine bodyPost_ret (v := .agg #[.slice (some ⟨w.heap.size + 1, 0, none⟩) 1 1]) (by simp [results, Tryz.results180, go_sem]) rfl ?_
 have ho : OwnB ((w.alloc (Obj.cells #[Value.slice (some ⟨w.heap.size + 1, 0, none⟩) 1 1] 40)).alloc (Obj.cells #[Value.int IntKind.i64 v] 3)) (w.heap.size + 1) 3 #[.int .i64 v] := by
  have h := OwnB.new (w.alloc (Obj.cells #[Value.slice (some ⟨w.heap.size + 1, 0, none⟩) 1 1] 40)) 3 #[Value.int .i64 v]
  simpa using h
 refine ⟨_, rfl, ((Below.refl _ _).alloc (Nat.le_refl _) _).alloc (by simp) _, ⟨by simp, .inr ⟨_, 1, #[.int .i64 v], by simp, ho, by simp, rfl, fun i x hx => ?_⟩⟩, fun b hb => by simp [Value.ownBlock] at hb; omega⟩
 obtain rfl : i = 0 := by have := (List.getElem?_eq_some_iff.1 hx).1; simpa using this
 simp at hx
 rw [hx]; rfl
theorem l4Same_calls (s1 s2 : Value) (xs ys : List Int) (w : World) (h1 : SlN enI w s1 xs) (h2 : SlN enI w s2 ys) (hl : xs.length = ys.length) :
 Makes Tryz.prog 118 #[.agg #[s1], .agg #[s2]] w (.bool (decide (xs = ys))) := by
 obtain ⟨A, c, rfl, hnc, hc', hA⟩ := h1
 obtain ⟨B, d, rfl, hmd, hd', hB⟩ := h2
 rw [← hl] at hmd hd'
 obtain ⟨R, hR⟩ : ∃ r, r = decide (xs = ys) := ⟨_, rfl⟩
 rw [← hR, ← hl]
 have HR := Lib.hid hR
 have HLL := Lib.hid hl
 clear hl
 generalize hM : xs.length = m at *
 have HM := Lib.hid hM
 clear hM
 go_enter Tryz.func118, Tryz.ntmps118
 go_wp2
 have y0 : ∀ u : Later ((w.alloc (Obj.cells #[.slice A m c] 40)).alloc (Obj.cells #[.slice B m d] 40)), u.val.cell? ⟨w.heap.size, 0, none⟩ = some (.slice A m c) := Later.cell (by simp)
 have y1 : ∀ u : Later ((w.alloc (Obj.cells #[.slice A m c] 40)).alloc (Obj.cells #[.slice B m d] 40)), u.val.cell? ⟨w.heap.size + 1, 0, none⟩ = some (.slice B m d) := Later.cell (by simp)
 have HB := Lib.hid (show Below w.heap.size w ((w.alloc (Obj.cells #[.slice A m c] 40)).alloc (Obj.cells #[.slice B m d] 40)) from ((Below.refl _ _).alloc (Nat.le_refl _) _).alloc (by simp) _)
 generalize (w.alloc (Obj.cells #[.slice A m c] 40)).alloc (Obj.cells #[.slice B m d] 40) = w2 at *
 go_loopw [5] (fun i wr => ∃ (j : Nat), j ≤ m ∧ i = .int .i64 j ∧ Hid (∀ i, i < j → xs.getD i 0 = ys.getD i 0) ∧ LaterC w2 wr) (fun i _ => m - (intOf i).toNat)
 case atStart => exact ⟨0, Nat.zero_le _, rfl, Lib.hid (fun i h => absurd h (Nat.not_lt_zero _)), LaterC.refl _⟩
 case round =>
  obtain ⟨j, hj, rfl, HTO, ⟨u, rfl⟩⟩ := hrel
  by_cases hlt : j < m
  · have hlt' : (j : Int) < m := by omega
    have hgx := getD_at (show j < xs.length by rw [HM.out]; exact hlt) 0
    obtain ⟨bx, ox, rfl, hx⟩ := hA j _ hgx
    have hgy := getD_at (show j < ys.length by rw [← HLL.out]; exact hlt) 0
    obtain ⟨by_, oy, rfl, hy⟩ := hB j _ hgy
    have HX := Lib.hid (show xs.getD j 0 = xs.getD j 0 from rfl)
    have HY := Lib.hid (show ys.getD j 0 = ys.getD j 0 from rfl)
    have p0 : ∀ l : Later w2, l.val.cell? ⟨bx, ox + j, none⟩ = some (.int .i64 (xs.getD j 0)) := hx.int HB.out
    have p1 : ∀ l : Later w2, l.val.cell? ⟨by_, oy + j, none⟩ = some (.int .i64 (ys.getD j 0)) := hy.int HB.out
    generalize hxe : xs.getD j 0 = x at *
    generalize hye : ys.getD j 0 = y at *
    have HXE := Lib.hid hxe
    have HYE := Lib.hid hye
    clear hA hB hx hy hgx hgy hxe hye HX HY
    by_cases he : x = y
    · subst he
      have hne : (x != x) = false := by simp
      go_wp2
      refine wp_region_later (w0 := w2) (by kernel_rfl) (by kernel_rfl) ⟨_, rfl⟩ ?_
      repeat (go_big_quiet_step (fail))
      refine wpQuiet_nil ?_
      rintro _ ⟨u1, rfl⟩
      go_wp2
      go_roundw
      case rel => exact ⟨j + 1, by omega, by go_num, Lib.hid (fun i hi => by
       rcases Nat.lt_or_ge i j with g | g
       · exact HTO.out i g
       · obtain rfl : i = j := by omega
         rw [HXE.out, HYE.out]), ⟨u1, rfl⟩⟩
      case measure => simp [intOf] <;> omega
    · have hne : (x != y) = true := by simpa using he
      have HF := Lib.hid (show R = false by rw [HR.out]; exact decide_eq_false (fun e => he (by rw [← HXE.out, ← HYE.out, e])))
      go_wp2
      refine wp_region_later (w0 := w2) (by kernel_rfl) (by kernel_rfl) ⟨_, rfl⟩ ?_
      repeat (go_big_quiet_step (fail))
      refine wpQuiet_nil ?_
      rintro _ ⟨u1, rfl⟩
      go_wp2
      go_ret
      exact ⟨ret_eq (congrArg Value.bool HF.out.symm), u1.back HB.out⟩
  · obtain rfl : j = m := by omega
    have HT := Lib.hid (show R = true by
     rw [HR.out]
     refine decide_eq_true ?_
     have hly : ys.length = j := by rw [← HLL.out]
     refine List.ext_getElem? fun i => ?_
     rcases Nat.lt_or_ge i j with g | g
     · rw [getD_at (show i < xs.length by rw [HM.out]; exact g) 0, getD_at (show i < ys.length by rw [hly]; exact g) 0, HTO.out i g]
     · rw [List.getElem?_eq_none (by rw [HM.out]; exact g), List.getElem?_eq_none (by rw [hly]; exact g)])
    clear hA hB
    go_wp2
    go_ret
    exact ⟨ret_eq (congrArg Value.bool HT.out.symm), u.back HB.out⟩
theorem rowI_slice {w : World} {v : Value} {xs : List Int} (h : RowI w v xs) : ∃ A n c, v = Value.slice A n c := by
 obtain ⟨-, ⟨rfl, -⟩ | ⟨g, cap, cur, rfl, -⟩⟩ := h
 · exact ⟨_, _, _, rfl⟩
 · exact ⟨_, _, _, rfl⟩
theorem node_world (k a b c n m xi xw : Int) (nm : ByteArray) (w : World) : ∃ W1, ((w.alloc (Obj.cells #[.int .i64 k, .int .i64 a, .int .i64 b, .int .i64 c, .int .i64 n, .int .i64 m, .int .i64 xi, .int .i64 xw, .string nm] 38)).alloc (Obj.cells #[.slice none 0 0] 40)) = W1 ∧ Hid (Below w.heap.size w W1) ∧ Hid (W1.heap.size = w.heap.size + 2) ∧ (∀ u : Later W1, u.val.cell? ⟨w.heap.size, 0, none⟩ = some (.int .i64 k)) ∧ (∀ u : Later W1, u.val.cell? ⟨w.heap.size, 1, none⟩ = some (.int .i64 a)) ∧ (∀ u : Later W1, u.val.cell? ⟨w.heap.size, 2, none⟩ = some (.int .i64 b)) ∧ (∀ u : Later W1, u.val.cell? ⟨w.heap.size, 3, none⟩ = some (.int .i64 c)) ∧ (∀ u : Later W1, u.val.cell? ⟨w.heap.size, 4, none⟩ = some (.int .i64 n)) ∧ (∀ u : Later W1, u.val.cell? ⟨w.heap.size, 5, none⟩ = some (.int .i64 m)) ∧
 (∀ u : Later W1, u.val.cell? ⟨w.heap.size + 1, 0, none⟩ = some (.slice none 0 0)) ∧ (∀ u : Later W1, u.val.frozen? ⟨w.heap.size + 1, 0, none⟩ = false) := by
 refine ⟨_, rfl, Lib.hid (((Below.refl _ _).alloc (Nat.le_refl _) _).alloc (by simp) _), Lib.hid (by simp), Later.cell ?_, Later.cell ?_, Later.cell ?_, Later.cell ?_, Later.cell ?_, Later.cell ?_, Later.cell ?_, Later.frozen ?_ ?_⟩
 all_goals first | go_simp | simp
theorem node_done {w w1 w' : World} {u1 : Later w1} {s : Value} {xs : List Int} (h0 : Below w.heap.size w w1) (h1 : w.heap.size + 2 ≤ w1.heap.size) (hb : Below u1.val.heap.size u1.val w') (hr : RowI w' s xs) (hg : ∀ b, s.ownBlock = some b → u1.val.heap.size ≤ b) :
 Below w.heap.size w (w'.setCell ⟨w.heap.size + 1, 0, none⟩ s) ∧ RowI (w'.setCell ⟨w.heap.size + 1, 0, none⟩ s) s xs ∧ ∀ b, s.ownBlock = some b → w.heap.size ≤ b := by
 have hs := u1.size
 refine ⟨((h0.trans (u1.prop.mono h0.size)).trans (hb.mono (by omega))).setCell (by simp) _, hr.set (fun b hb' e => ?_) _, fun b hb' => ?_⟩
 · have := hg b hb'
   simp at e
   omega
 · have := hg b hb'
   omega
theorem lift_cell {W0 W1 : World} {a : Addr} {v : Option Value} (h : LaterC W0 W1) (k : ∀ u : Later W0, u.val.cell? a = v) : ∀ u : Later W1, u.val.cell? a = v := fun u => by
 obtain ⟨u0, rfl⟩ := h
 exact k ⟨u.val, u0.prop.trans (u.prop.mono u0.size)⟩
theorem lift_frozen {W0 W1 : World} {a : Addr} {v : Bool} (h : LaterC W0 W1) (k : ∀ u : Later W0, u.val.frozen? a = v) : ∀ u : Later W1, u.val.frozen? a = v := fun u => by
 obtain ⟨u0, rfl⟩ := h
 exact k ⟨u.val, u0.prop.trans (u.prop.mono u0.size)⟩
theorem later_step {w1 w' : World} (u1 : Later w1) (hb : Below u1.val.heap.size u1.val w') : LaterC w1 w' := u1.step hb
theorem cNode_33t (cc : Int) (n m xi xw : Int) (nm : ByteArray) (bn on N c bv ov I d p : Nat) (wa : Int) (q l2 c2 b1 o1 c1 : Nat) (A2 : Option Addr) (ys : List Int) (w : World) (hN : N ≤ 281474976710656) (hI : I ≤ 281474976710656) (hp : p < N) (hpI : p < I) (hw : w.cell? ⟨bn, on + p * 9 + 7, none⟩ = some (.int .i64 wa)) (hsa : w.cell? ⟨bv, ov + p, none⟩ = some (.slice (some ⟨b1, o1, none⟩) 1 c1)) (hva : w.cell? ⟨b1, o1, none⟩ = some (.int .i64 1)) (hqI : q < I) (hsb : w.cell? ⟨bv, ov + q, none⟩ = some (.slice A2 l2 c2)) (hys : SlN enI w (.slice A2 l2 c2) ys) (hyl : ys.length ≤ 1048576) :
 Calls Tryz.prog 182 #[.slice (some ⟨bn, on, none⟩) N c, .agg #[.int .i64 33, .int .i64 (p : Int), .int .i64 (q : Int), .int .i64 cc, .int .i64 n, .int .i64 m, .int .i64 xi, .int .i64 xw, .string nm], .slice (some ⟨bv, ov, none⟩) I d] w fun e w' => NewV w.heap.size w e w' ys := by
 have hp' : (p : Int) < N := by omega
 have hpI' : (p : Int) < I := by omega
 unfold NewV
 go_enter Tryz.func182, Tryz.ntmps182
 go_upto_region 1 with fail
 obtain ⟨W0, hW0, HB, HG, x0, x1, x2, x3, x4, x5, xr, xf⟩ := node_world 33 (p : Int) (q : Int) cc n m xi xw nm w
 rw [hW0]
 clear hW0
 have hw := Later.cell (keepcell HB.out hw)
 have hsa := Later.cell (keepcell HB.out hsa)
 have hva := Later.cell (keepcell HB.out hva)
 have hsb := Later.cell (keepcell HB.out hsb)
 have hys := hys.below HB.out
 refine at_world (w := W0) ?_
 intro u0
 go_upto_region 2 with fail
 obtain ⟨W1, hW1⟩ : ∃ W1, W1 = u0.val.alloc (Obj.cells #[.slice (some ⟨b1, o1, none⟩) 1 c1] 40) := ⟨_, rfl⟩
 have hL : LaterC W0 W1 := hW1 ▸ LaterC.alloc' ⟨u0, rfl⟩ _
 obtain ⟨ga, hga⟩ : ∃ g, g = u0.val.heap.size := ⟨_, rfl⟩
 have xa : ∀ u : Later W1, u.val.cell? ⟨ga, 0, none⟩ = some (.slice (some ⟨b1, o1, none⟩) 1 c1) := Later.cell (by rw [hW1, hga]; simp)
 rw [← hW1, ← hga]
 have x0 := lift_cell hL x0
 have x1 := lift_cell hL x1
 have x2 := lift_cell hL x2
 have x3 := lift_cell hL x3
 have x4 := lift_cell hL x4
 have x5 := lift_cell hL x5
 have xr := lift_cell hL xr
 have xf : ∀ u : Later W1, u.val.frozen? ⟨w.heap.size + 1, 0, none⟩ = false := lift_frozen hL xf
 have hw := lift_cell hL hw
 have hva := lift_cell hL hva
 have hsb := lift_cell hL hsb
 have hys := hys.below (hL.below)
 have HB := Lib.hid (show Below w.heap.size w W1 from HB.out.trans (hL.below.mono HB.out.size))
 have HG := Lib.hid (show w.heap.size + 2 ≤ W1.heap.size by have h1 := HG.out; have h2 := hL.size; omega)
 clear hsa hL hga hW1
 refine at_world (w := W1) ?_
 intro u1
 go_upto_region 3 with fail
 have hqI' : (q : Int) < I := by omega
 have HCP := Lib.hid (l4Copy_calls (.slice A2 l2 c2) ys u1.val (hys.later u1) hyl)
 clear hys
 go_wp2_with (go_at_call 181; refine (HCP.out).mono ?_; rintro e w' ⟨s, rfl, hb, hr, hg⟩; obtain ⟨sA, sn, sc, rfl⟩ := rowI_slice hr; have f0 : w'.frozen? ⟨w.heap.size + 1, 0, none⟩ = false := (lift_frozen (later_step u1 hb) xf) ⟨w', Below.refl _ _⟩; have r0 : w'.cell? ⟨w.heap.size + 1, 0, none⟩ = some (.slice none 0 0) := (lift_cell (later_step u1 hb) xr) ⟨w', Below.refl _ _⟩; have HD := Lib.hid (And.intro hb (And.intro hr (And.intro hg r0))); clear hb hr hg)
 have hd := node_done (u1 := u1) HB.out HG.out HD.out.1 HD.out.2.1 HD.out.2.2.1
 have rc := World.cell?_setCell_same _ _ (Value.slice sA sn sc) HD.out.2.2.2
 exact bodyPost_ret (v := .agg #[.slice sA sn sc]) (by simp [results, Tryz.results182, go_sem, rc]) rfl ⟨_, rfl, hd.1, hd.2.1, hd.2.2⟩
theorem cNode_33f (b : Int) (n m xi xw : Int) (nm : ByteArray) (bn on N c bv ov I d p : Nat) (wa : Int) (r l2 c2 b1 o1 c1 : Nat) (A2 : Option Addr) (ys : List Int) (a : Int) (hne : a ≠ 1) (w : World) (hN : N ≤ 281474976710656) (hI : I ≤ 281474976710656) (hp : p < N) (hpI : p < I) (hw : w.cell? ⟨bn, on + p * 9 + 7, none⟩ = some (.int .i64 wa)) (hsa : w.cell? ⟨bv, ov + p, none⟩ = some (.slice (some ⟨b1, o1, none⟩) 1 c1)) (hva : w.cell? ⟨b1, o1, none⟩ = some (.int .i64 a)) (hqI : r < I) (hsb : w.cell? ⟨bv, ov + r, none⟩ = some (.slice A2 l2 c2)) (hys : SlN enI w (.slice A2 l2 c2) ys) (hyl : ys.length ≤ 1048576) :
 Calls Tryz.prog 182 #[.slice (some ⟨bn, on, none⟩) N c, .agg #[.int .i64 33, .int .i64 (p : Int), .int .i64 b, .int .i64 (r : Int), .int .i64 n, .int .i64 m, .int .i64 xi, .int .i64 xw, .string nm], .slice (some ⟨bv, ov, none⟩) I d] w fun e w' => NewV w.heap.size w e w' ys := by
 have hp' : (p : Int) < N := by omega
 have hpI' : (p : Int) < I := by omega
 unfold NewV
 go_enter Tryz.func182, Tryz.ntmps182
 go_upto_region 1 with fail
 obtain ⟨W0, hW0, HB, HG, x0, x1, x2, x3, x4, x5, xr, xf⟩ := node_world 33 (p : Int) b (r : Int) n m xi xw nm w
 rw [hW0]
 clear hW0
 have hw := Later.cell (keepcell HB.out hw)
 have hsa := Later.cell (keepcell HB.out hsa)
 have hva := Later.cell (keepcell HB.out hva)
 have hsb := Later.cell (keepcell HB.out hsb)
 have hys := hys.below HB.out
 refine at_world (w := W0) ?_
 intro u0
 go_upto_region 2 with fail
 obtain ⟨W1, hW1⟩ : ∃ W1, W1 = u0.val.alloc (Obj.cells #[.slice (some ⟨b1, o1, none⟩) 1 c1] 40) := ⟨_, rfl⟩
 have hL : LaterC W0 W1 := hW1 ▸ LaterC.alloc' ⟨u0, rfl⟩ _
 obtain ⟨ga, hga⟩ : ∃ g, g = u0.val.heap.size := ⟨_, rfl⟩
 have xa : ∀ u : Later W1, u.val.cell? ⟨ga, 0, none⟩ = some (.slice (some ⟨b1, o1, none⟩) 1 c1) := Later.cell (by rw [hW1, hga]; simp)
 rw [← hW1, ← hga]
 have x0 := lift_cell hL x0
 have x1 := lift_cell hL x1
 have x2 := lift_cell hL x2
 have x3 := lift_cell hL x3
 have x4 := lift_cell hL x4
 have x5 := lift_cell hL x5
 have xr := lift_cell hL xr
 have xf : ∀ u : Later W1, u.val.frozen? ⟨w.heap.size + 1, 0, none⟩ = false := lift_frozen hL xf
 have hw := lift_cell hL hw
 have hva := lift_cell hL hva
 have hsb := lift_cell hL hsb
 have hys := hys.below (hL.below)
 have HB := Lib.hid (show Below w.heap.size w W1 from HB.out.trans (hL.below.mono HB.out.size))
 have HG := Lib.hid (show w.heap.size + 2 ≤ W1.heap.size by have h1 := HG.out; have h2 := hL.size; omega)
 clear hsa hL hga hW1
 refine at_world (w := W1) ?_
 intro u1
 go_upto_region 3 with fail
 have hqI' : (r : Int) < I := by omega
 have HCP := Lib.hid (l4Copy_calls (.slice A2 l2 c2) ys u1.val (hys.later u1) hyl)
 have hne1 : (a == 1) = false := beq_eq_false_iff_ne.2 hne
 clear hys
 go_wp2_with (go_at_call 181; refine (HCP.out).mono ?_; rintro e w' ⟨s, rfl, hb, hr, hg⟩; obtain ⟨sA, sn, sc, rfl⟩ := rowI_slice hr; have f0 : w'.frozen? ⟨w.heap.size + 1, 0, none⟩ = false := (lift_frozen (later_step u1 hb) xf) ⟨w', Below.refl _ _⟩; have r0 : w'.cell? ⟨w.heap.size + 1, 0, none⟩ = some (.slice none 0 0) := (lift_cell (later_step u1 hb) xr) ⟨w', Below.refl _ _⟩; have HD := Lib.hid (And.intro hb (And.intro hr (And.intro hg r0))); clear hb hr hg)
 have hd := node_done (u1 := u1) HB.out HG.out HD.out.1 HD.out.2.1 HD.out.2.2.1
 have rc := World.cell?_setCell_same _ _ (Value.slice sA sn sc) HD.out.2.2.2
 exact bodyPost_ret (v := .agg #[.slice sA sn sc]) (by simp [results, Tryz.results182, go_sem, rc]) rfl ⟨_, rfl, hd.1, hd.2.1, hd.2.2⟩
theorem cNode_37 (cc : Int) (n m xi xw : Int) (nm : ByteArray) (bn on N c bv ov I d p : Nat) (wa : Int) (q l1 c1 b1 o1 b2 o2 c2 y : Nat) (z : Int) (w : World) (hN : N ≤ 281474976710656) (hI : I ≤ 281474976710656) (hp : p < N) (hpI : p < I) (hw : w.cell? ⟨bn, on + p * 9 + 7, none⟩ = some (.int .i64 wa)) (hsa : w.cell? ⟨bv, ov + p, none⟩ = some (.slice (some ⟨b1, o1, none⟩) l1 c1)) (hqI : q < I) (hsb : w.cell? ⟨bv, ov + q, none⟩ = some (.slice (some ⟨b2, o2, none⟩) 1 c2)) (hvb : w.cell? ⟨b2, o2, none⟩ = some (.int .i64 (y : Int))) (hy : y < l1) (hl1 : l1 ≤ 281474976710656) (hz : w.cell? ⟨b1, o1 + y, none⟩ = some (.int .i64 z)) :
 Calls Tryz.prog 182 #[.slice (some ⟨bn, on, none⟩) N c, .agg #[.int .i64 37, .int .i64 (p : Int), .int .i64 (q : Int), .int .i64 cc, .int .i64 n, .int .i64 m, .int .i64 xi, .int .i64 xw, .string nm], .slice (some ⟨bv, ov, none⟩) I d] w fun e w' => NewV w.heap.size w e w' [z] := by
 have hp' : (p : Int) < N := by omega
 have hpI' : (p : Int) < I := by omega
 unfold NewV
 go_enter Tryz.func182, Tryz.ntmps182
 go_upto_region 1 with fail
 obtain ⟨W0, hW0, HB, HG, x0, x1, x2, x3, x4, x5, xr, xf⟩ := node_world 37 (p : Int) (q : Int) cc n m xi xw nm w
 rw [hW0]
 clear hW0
 have hw := Later.cell (keepcell HB.out hw)
 have hsa := Later.cell (keepcell HB.out hsa)
 have hsb := Later.cell (keepcell HB.out hsb)
 have hvb := Later.cell (keepcell HB.out hvb)
 have hz := Later.cell (keepcell HB.out hz)
 refine at_world (w := W0) ?_
 intro u0
 go_upto_region 2 with fail
 obtain ⟨W1, hW1⟩ : ∃ W1, W1 = u0.val.alloc (Obj.cells #[.slice (some ⟨b1, o1, none⟩) l1 c1] 40) := ⟨_, rfl⟩
 have hL : LaterC W0 W1 := hW1 ▸ LaterC.alloc' ⟨u0, rfl⟩ _
 obtain ⟨ga, hga⟩ : ∃ g, g = u0.val.heap.size := ⟨_, rfl⟩
 have xa : ∀ u : Later W1, u.val.cell? ⟨ga, 0, none⟩ = some (.slice (some ⟨b1, o1, none⟩) l1 c1) := Later.cell (by rw [hW1, hga]; simp)
 rw [← hW1, ← hga]
 have x0 := lift_cell hL x0
 have x1 := lift_cell hL x1
 have x2 := lift_cell hL x2
 have x3 := lift_cell hL x3
 have x4 := lift_cell hL x4
 have x5 := lift_cell hL x5
 have xr := lift_cell hL xr
 have xf : ∀ u : Later W1, u.val.frozen? ⟨w.heap.size + 1, 0, none⟩ = false := lift_frozen hL xf
 have hw := lift_cell hL hw
 have hsb := lift_cell hL hsb
 have hvb := lift_cell hL hvb
 have hz := lift_cell hL hz
 have HB := Lib.hid (show Below w.heap.size w W1 from HB.out.trans (hL.below.mono HB.out.size))
 have HG := Lib.hid (show w.heap.size + 2 ≤ W1.heap.size by have h1 := HG.out; have h2 := hL.size; omega)
 clear hsa hL hga hW1
 refine at_world (w := W1) ?_
 intro u1
 go_upto_region 3 with fail
 have hqI' : (q : Int) < I := by omega
 have hy' : (y : Int) < l1 := by omega
 go_upto_region 10 with fail
 refine wp_region_later_tail (w0 := W1) 12 (by kernel_rfl) (by kernel_rfl) ⟨u1, rfl⟩ ?_
 simp only [List.take_succ_cons, List.take_zero, List.drop_succ_cons, List.drop_zero]
 repeat (go_big_quiet_step (fail))
 refine wpQuiet_nil ?_
 rintro _ ⟨u2, rfl⟩
 go_wp2_with (go_at_call 180; refine (l4One_calls z u2.val).mono ?_; rintro e w' ⟨s, rfl, hb, hr, hg⟩; obtain ⟨sA, sn, sc, rfl⟩ := rowI_slice hr; have f0 : w'.frozen? ⟨w.heap.size + 1, 0, none⟩ = false := (lift_frozen (later_step u2 hb) xf) ⟨w', Below.refl _ _⟩; have r0 : w'.cell? ⟨w.heap.size + 1, 0, none⟩ = some (.slice none 0 0) := (lift_cell (later_step u2 hb) xr) ⟨w', Below.refl _ _⟩; have HD := Lib.hid (And.intro hb (And.intro hr (And.intro hg r0))); clear hb hr hg)
 have hd := node_done (u1 := u2) HB.out HG.out HD.out.1 HD.out.2.1 HD.out.2.2.1
 have rc := World.cell?_setCell_same _ _ (Value.slice sA sn sc) HD.out.2.2.2
 exact bodyPost_ret (v := .agg #[.slice sA sn sc]) (by simp [results, Tryz.results182, go_sem, rc]) rfl ⟨_, rfl, hd.1, hd.2.1, hd.2.2⟩
theorem cNode_21 (cc : Int) (n m xi xw : Int) (nm : ByteArray) (bn on N c bv ov I d p : Nat) (wa : Int) (q l1 c1 l2 c2 : Nat) (A1 A2 : Option Addr) (xs ys : List Int) (w : World) (hN : N ≤ 281474976710656) (hI : I ≤ 281474976710656) (hp : p < N) (hpI : p < I) (hw : w.cell? ⟨bn, on + p * 9 + 7, none⟩ = some (.int .i64 wa)) (hsa : w.cell? ⟨bv, ov + p, none⟩ = some (.slice A1 l1 c1)) (hxs : SlN enI w (.slice A1 l1 c1) xs) (hqI : q < I) (hsb : w.cell? ⟨bv, ov + q, none⟩ = some (.slice A2 l2 c2)) (hys : SlN enI w (.slice A2 l2 c2) ys) (hll : xs.length = ys.length) :
 Calls Tryz.prog 182 #[.slice (some ⟨bn, on, none⟩) N c, .agg #[.int .i64 21, .int .i64 (p : Int), .int .i64 (q : Int), .int .i64 cc, .int .i64 n, .int .i64 m, .int .i64 xi, .int .i64 xw, .string nm], .slice (some ⟨bv, ov, none⟩) I d] w fun e w' => NewV w.heap.size w e w' [yes (decide (xs = ys))] := by
 have hp' : (p : Int) < N := by omega
 have hpI' : (p : Int) < I := by omega
 unfold NewV
 go_enter Tryz.func182, Tryz.ntmps182
 go_upto_region 1 with fail
 obtain ⟨W0, hW0, HB, HG, x0, x1, x2, x3, x4, x5, xr, xf⟩ := node_world 21 (p : Int) (q : Int) cc n m xi xw nm w
 rw [hW0]
 clear hW0
 have hw := Later.cell (keepcell HB.out hw)
 have hsa := Later.cell (keepcell HB.out hsa)
 have hxs := hxs.below HB.out
 have hsb := Later.cell (keepcell HB.out hsb)
 have hys := hys.below HB.out
 refine at_world (w := W0) ?_
 intro u0
 go_upto_region 2 with fail
 obtain ⟨W1, hW1⟩ : ∃ W1, W1 = u0.val.alloc (Obj.cells #[.slice A1 l1 c1] 40) := ⟨_, rfl⟩
 have hL : LaterC W0 W1 := hW1 ▸ LaterC.alloc' ⟨u0, rfl⟩ _
 obtain ⟨ga, hga⟩ : ∃ g, g = u0.val.heap.size := ⟨_, rfl⟩
 have xa : ∀ u : Later W1, u.val.cell? ⟨ga, 0, none⟩ = some (.slice A1 l1 c1) := Later.cell (by rw [hW1, hga]; simp)
 rw [← hW1, ← hga]
 have x0 := lift_cell hL x0
 have x1 := lift_cell hL x1
 have x2 := lift_cell hL x2
 have x3 := lift_cell hL x3
 have x4 := lift_cell hL x4
 have x5 := lift_cell hL x5
 have xr := lift_cell hL xr
 have xf : ∀ u : Later W1, u.val.frozen? ⟨w.heap.size + 1, 0, none⟩ = false := lift_frozen hL xf
 have hw := lift_cell hL hw
 have hxs := hxs.below (hL.below)
 have hsb := lift_cell hL hsb
 have hys := hys.below (hL.below)
 have HB := Lib.hid (show Below w.heap.size w W1 from HB.out.trans (hL.below.mono HB.out.size))
 have HG := Lib.hid (show w.heap.size + 2 ≤ W1.heap.size by have h1 := HG.out; have h2 := hL.size; omega)
 clear hsa hL hga hW1
 refine at_world (w := W1) ?_
 intro u1
 go_upto_region 3 with fail
 have hqI' : (q : Int) < I := by omega
 go_upto_region 16 with fail
 refine wp_region_later_tail (w0 := W1) 6 (by kernel_rfl) (by kernel_rfl) ⟨u1, rfl⟩ ?_
 simp only [List.take_succ_cons, List.take_zero, List.drop_succ_cons, List.drop_zero]
 repeat (go_big_quiet_step (fail))
 refine wpQuiet_nil ?_
 rintro _ ⟨u2, rfl⟩
 have HSM := Lib.hid (Calls.later (u := u2) (l4Same_calls (.slice A1 l1 c1) (.slice A2 l2 c2) xs ys u2.val (hxs.later u2) (hys.later u2) hll))
 clear hxs hys
 go_wp2_with (first | (go_at_call 118; refine HSM.out.mono ?_; rintro e w' ⟨rfl, u3, rfl⟩) | (go_at_call 213; refine (l1Yes_same _ _).mono ?_; rintro e w' ⟨rfl, rfl⟩) | (go_at_call 180; refine (l4One_calls (yes (decide (xs = ys))) u3.val).mono ?_; rintro e w' ⟨s, rfl, hb, hr, hg⟩; obtain ⟨sA, sn, sc, rfl⟩ := rowI_slice hr; have f0 : w'.frozen? ⟨w.heap.size + 1, 0, none⟩ = false := (lift_frozen (later_step u3 hb) xf) ⟨w', Below.refl _ _⟩; have r0 : w'.cell? ⟨w.heap.size + 1, 0, none⟩ = some (.slice none 0 0) := (lift_cell (later_step u3 hb) xr) ⟨w', Below.refl _ _⟩; have HD := Lib.hid (And.intro hb (And.intro hr (And.intro hg r0))); clear hb hr hg))
 have hd := node_done (u1 := u3) HB.out HG.out HD.out.1 HD.out.2.1 HD.out.2.2.1
 have rc := World.cell?_setCell_same _ _ (Value.slice sA sn sc) HD.out.2.2.2
 exact bodyPost_ret (v := .agg #[.slice sA sn sc]) (by simp [results, Tryz.results182, go_sem, rc]) rfl ⟨_, rfl, hd.1, hd.2.1, hd.2.2⟩
end Go.Proofs.YtbenebcphaiohaaGreat
