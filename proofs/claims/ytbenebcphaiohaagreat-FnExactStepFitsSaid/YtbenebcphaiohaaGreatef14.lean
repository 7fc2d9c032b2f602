import Derived.Test.YtbenebcphaiohaaGreatef13
import Derived.Deep.Cut
import Derived.Test.YtbenebcphaiohaaGreatef8
import Derived.Deep.RegionHeld3
import Derived.Test.YtbenebcphaiohaaGreatef9
set_option linter.unusedVariables false
set_option linter.unusedSimpArgs false
set_option maxRecDepth 8000
set_option maxHeartbeats 16000000
namespace Go.Proofs.YtbenebcphaiohaaGreat
open Go.RowKit
def zeroAt (kind : Int) (ns : List Nd) (k : Nat) : List (List Int) := zerosN ns (placesN kind ns k) (placesN kind ns k).length
theorem zerosN_app (ns : List Nd) (ps qs : List Int) : ∀ i, i ≤ ps.length → zerosN ns (ps ++ qs) i = zerosN ns ps i
 | 0, _ => rfl
 | i + 1, h => by
   rw [zerosN, zerosN, zerosN_app ns ps qs i (by omega)]
   have e : ndAt ns (ps ++ qs) i = ndAt ns ps i := by
    unfold ndAt
    rw [getD_left 0 (show i < ps.length by omega)]
   rw [e]
theorem zeroAt_yes {kind : Int} {ns : List Nd} {k : Nat} (h : ((ns.getD k Nd.zero).kind == kind) = true) : zeroAt kind ns (k + 1) = zeroAt kind ns k ++ [List.replicate (cellsN (ns.getD k Nd.zero).idx (ns.getD k Nd.zero).wid).toNat 0] := by
 have e : ndAt ns (placesN kind ns k ++ [(k : Int)]) (placesN kind ns k).length = ns.getD k Nd.zero := by
  unfold ndAt
  rw [getD_last 0, Int.toNat_natCast]
 unfold zeroAt
 rw [placesN_yes h, List.length_append, List.length_singleton, zerosN, zerosN_app _ _ _ _ (Nat.le_refl _), e]
theorem zeroAt_no {kind : Int} {ns : List Nd} {k : Nat} (h : ((ns.getD k Nd.zero).kind == kind) = false) : zeroAt kind ns (k + 1) = zeroAt kind ns k := by
 unfold zeroAt
 rw [placesN_no h]
theorem zeroAt_len (kind : Int) (ns : List Nd) (k : Nat) : (zeroAt kind ns k).length ≤ k := by
 unfold zeroAt
 rw [zerosN_length]
 exact placesN_le _ _ _
theorem l4Fixed_calls (mv : Value) (M : Md) (w : World) (hM : MdAt w mv M) (hn : nodesB M.nodes = true) (h60 : M.nodes.length ≤ 1048576) :
 Calls Tryz.prog 120 #[mv] w fun e w' => ∃ v svs, e = .returned v ∧ Below w.heap.size w w' ∧ AccV w.heap.size w' v svs (fixedL M) := by
 have HM := Lib.hid hM
 obtain ⟨s0, s1, s2, s3, s4, rfl, hS, -, -, -, -⟩ := hM.at_
 obtain ⟨A, c, rfl, hnc, hc', hA⟩ := hS
 clear hM
 obtain ⟨ti, hti⟩ := info_parts info_val
 have HTI := Lib.hid hti
 have HNB := Lib.hid hn
 have H60 := Lib.hid h60
 have HFX := Lib.hid (show fixedL M = evalL M (zeroAt 36 M.nodes M.nodes.length) (zeroAt 35 M.nodes M.nodes.length) from rfl)
 have HFS := Lib.hid (show fitsB M.nodes (placesN 36 M.nodes M.nodes.length) (zeroAt 36 M.nodes M.nodes.length) = true from zeros_fits _ _)
 have HFI := Lib.hid (show fitsB M.nodes (placesN 35 M.nodes M.nodes.length) (zeroAt 35 M.nodes M.nodes.length) = true from zeros_fits _ _)
 generalize hN : M.nodes.length = n at *
 have HN := Lib.hid hN
 have hn : n ≤ 281474976710656 := Nat.le_trans hnc hc'
 clear hN hnc hc' hti
 go_enter Tryz.func120, Tryz.ntmps120
 have HB := Lib.hid (box_below w #[.slice A n c, s1, s2, s3, s4] 27)
 have m0 := box_cell w #[.slice A n c, s1, s2, s3, s4] 27 0 _ rfl
 have m1 := box_cell w #[.slice A n c, s1, s2, s3, s4] 27 1 _ rfl
 have m2 := box_cell w #[.slice A n c, s1, s2, s3, s4] 27 2 _ rfl
 have m3 := box_cell w #[.slice A n c, s1, s2, s3, s4] 27 3 _ rfl
 have m4 := box_cell w #[.slice A n c, s1, s2, s3, s4] 27 4 _ rfl
 go_upto_region 1 with fail
 generalize w.alloc (.cells #[.slice A n c, s1, s2, s3, s4] 27) = w1 at *
 have m0 : ∀ u : Later w1, u.val.cell? ⟨w.heap.size, 0, none⟩ = some (.slice A n c) := m0
 have m1 : ∀ u : Later w1, u.val.cell? ⟨w.heap.size, 1, none⟩ = some s1 := m1
 have m2 : ∀ u : Later w1, u.val.cell? ⟨w.heap.size, 2, none⟩ = some s2 := m2
 have m3 : ∀ u : Later w1, u.val.cell? ⟨w.heap.size, 3, none⟩ = some s3 := m3
 have m4 : ∀ u : Later w1, u.val.cell? ⟨w.heap.size, 4, none⟩ = some s4 := m4
 have HM1 := Lib.hid (HM.out.below HB.out)
 go_wp2
 go_loopw [3, 4, 5] (fun s i2 i wr => ∃ (k : Nat) (sv iv : Value) (svs ivs : List Value), k ≤ n ∧ i = .int .i64 k ∧ sv = s ∧ iv = i2 ∧ Hid (TwoZ w1.heap.size wr sv svs (zeroAt 36 M.nodes k) iv ivs (zeroAt 35 M.nodes k)) ∧ LaterC w1 wr) (fun _ _ i _ => n - (intOf i).toNat)
 case atStart => exact ⟨0, _, _, [], [], Nat.zero_le _, rfl, rfl, rfl, Lib.hid ⟨AccZ.nil _ _, AccZ.nil _ _, fun b hb => by cases hb⟩, LaterC.refl _⟩
 case round =>
  obtain ⟨k, sv, iv, svs, ivs, hk, rfl, hsv, hiv, HT, ⟨u, rfl⟩⟩ := hrel
  subst hsv
  subst hiv
  by_cases hlt : k < n
  · have hlt' : (k : Int) < n := by omega
    have hgn := getD_at (show k < M.nodes.length by rw [HN.out]; exact hlt) Nd.zero
    obtain ⟨bn, on, rfl, hnx⟩ := hA k _ hgn
    have HSK := Lib.hid (node_sok HNB.out (show k < M.nodes.length by rw [HN.out]; exact hlt))
    have HY6 := Lib.hid (fun h => zeroAt_yes (kind := 36) (ns := M.nodes) (k := k) h)
    have HY5 := Lib.hid (fun h => zeroAt_yes (kind := 35) (ns := M.nodes) (k := k) h)
    have HN6 := Lib.hid (fun h => zeroAt_no (kind := 36) (ns := M.nodes) (k := k) h)
    have HN5 := Lib.hid (fun h => zeroAt_no (kind := 35) (ns := M.nodes) (k := k) h)
    generalize M.nodes.getD k Nd.zero = x at *
    have p0 : ∀ l : Later w1, l.val.cell? ⟨bn, on + k * 9, none⟩ = some (.int .i64 x.kind) := hnx.at_ HB.out 0 _ rfl
    have p6 : ∀ l : Later w1, l.val.cell? ⟨bn, on + k * 9 + 6, none⟩ = some (.int .i64 x.idx) := hnx.at_ HB.out 6 _ rfl
    have p7 : ∀ l : Later w1, l.val.cell? ⟨bn, on + k * 9 + 7, none⟩ = some (.int .i64 x.wid) := hnx.at_ HB.out 7 _ rfl
    have hcb := cells_bits x.idx x.wid
    obtain ⟨m, hm⟩ := Int.eq_ofNat_of_zero_le hcb.2.2.1
    have hm4 : m ≤ 4 := by omega
    have hm0 : 0 < m := by
     have h1 : 0 < cellsN x.idx x.wid := by unfold cellsN; rw [if_pos HSK.out]; exact pow_pos_i _
     omega
    have HM0 := Lib.hid hm0
    have HC := Lib.hid hm
    rw [hm, Int.toNat_natCast] at HY6 HY5
    have hmk := make_any (P := Tryz.prog) 25 3 (.int .i64 0) 1 8 Tryz.underlying25 (by kernel_rfl) m (by omega) (by omega)
    simp only [Nat.mul_one, Value.cells] at hmk
    clear hgn hnx hA hcb hm hm0
    have HSC := Lib.hid (fun W => (show Makes Tryz.prog 190 #[.agg #[.int .i64 x.idx, .int .i64 x.wid]] W (.int .i64 (m : Int)) from HC.out ▸ SortCells_calls x.idx x.wid W))
    go_upto_region 7 with (go_at_call 190; refine (HSC.out _).mono ?_; rintro e w2 ⟨rfl, hb⟩; have HB2 := Lib.hid hb; clear hb)
    have HBa := Lib.hid (show Below w2.heap.size w2 ((w2.alloc (Obj.cells (madeCells #[.int .i64 0] m) 3)).alloc (Obj.cells #[.slice (some ⟨w2.heap.size, 0, none⟩) m m] 40)) from ((Below.refl _ _).alloc (Nat.le_refl _) _).alloc (by simp) _)
    have HRW := Lib.hid (show SlN enI ((w2.alloc (Obj.cells (madeCells #[.int .i64 0] m) 3)).alloc (Obj.cells #[.slice (some ⟨w2.heap.size, 0, none⟩) m m] 40)) (.slice (some ⟨w2.heap.size, 0, none⟩) m m) (List.replicate m 0) from (rowI_zero w2 m (by omega)).slN.below ((Below.refl _ _).alloc (Nat.le_refl _) _))
    have y6 : ((w2.alloc (Obj.cells (madeCells #[.int .i64 0] m) 3)).alloc (Obj.cells #[.slice (some ⟨w2.heap.size, 0, none⟩) m m] 40)).cell? ⟨w2.heap.size + 1, 0, none⟩ = some (.slice (some ⟨w2.heap.size, 0, none⟩) m m) := by simp
    have HBb := Lib.hid (HB2.out.trans (HBa.out.mono HB2.out.size))
    generalize ((w2.alloc (Obj.cells (madeCells #[.int .i64 0] m) 3)).alloc (Obj.cells #[.slice (some ⟨w2.heap.size, 0, none⟩) m m] 40)) = w4 at *
    generalize w2.heap.size = g at *
    have HT4 := Lib.hid (HT.out.below HBb.out)
    obtain ⟨u4, hu4⟩ := laterC_step (w1 := w1) ⟨u, rfl⟩ HBb.out
    subst hu4
    have HBX := Lib.hid (show Below u4.val.heap.size u4.val (u4.val.alloc (Obj.cells #[.slice (some ⟨g, 0, none⟩) m m] 40)) from (Below.refl _ _).alloc (Nat.le_refl _) _)
    have HLS := Lib.hid (show svs.length ≤ 1048576 ∧ ivs.length ≤ 1048576 from ⟨by rw [HT4.out.1.2.1]; exact Nat.le_trans (zeroAt_len _ _ _) (by omega), by rw [HT4.out.2.1.2.1]; exact Nat.le_trans (zeroAt_len _ _ _) (by omega)⟩)
    generalize x.kind = kd at *
    by_cases h6 : kd = 36
    · subst h6
      have E6 := Lib.hid (HY6.out rfl)
      have E5 := Lib.hid (HN5.out rfl)
      go_wp2_with (at_builtin; refine wpList_append_z (by rfl) _ _ _ _ (by rfl) w1.heap.size 40 ti (.agg #[.slice none 0 0]) (.slice none 0 0) Tryz.underlying29 HTI.out.1 HTI.out.2.1 HTI.out.2.2.1 rfl sv svs.length svs (by rfl) ((HT4.out.1.1).below HBX.out) ⟨u4.val.heap.size, 0, none⟩ 1 (.slice (some ⟨g, 0, none⟩) m m) (by rfl) ((OwnB.new _ _ _).cell 0) rfl (by have := HLS.out; unfold maxLen; omega) (by rw [HTI.out.2.2.2]; have := HLS.out; omega) (Nat.le_trans u4.size HBX.out.size) ?_; intro g2 cap wn hR hk hg hat; have HT5 := Lib.hid (show TwoZ _ _ _ _ _ _ _ _ from TwoZ.push (HT4.out.below HBX.out) hR hk hg hat ((HRW.out.below HBX.out)) (by rw [List.length_replicate]; exact HM0.out)); obtain ⟨u5, rfl⟩ := laterC_grown (laterC_step ⟨u4, rfl⟩ HBX.out) (((HT4.out.1.1).below HBX.out).owns) hg; clear hR hk hg hat)
      go_roundw
      case rel => exact ⟨k + 1, _, _, _, _, by omega, by go_num, rfl, rfl, by rw [E6.out, E5.out]; exact HT5, ⟨u5, rfl⟩⟩
      case measure => simp [intOf] <;> omega
    · by_cases h5 : kd = 35
      · subst h5
        have E6 := Lib.hid (HN6.out rfl)
        have E5 := Lib.hid (HY5.out rfl)
        go_wp2_with (at_builtin; refine wpList_append_z (by rfl) _ _ _ _ (by rfl) w1.heap.size 40 ti (.agg #[.slice none 0 0]) (.slice none 0 0) Tryz.underlying29 HTI.out.1 HTI.out.2.1 HTI.out.2.2.1 rfl iv ivs.length ivs (by rfl) ((HT4.out.symm.1.1).below HBX.out) ⟨u4.val.heap.size, 0, none⟩ 1 (.slice (some ⟨g, 0, none⟩) m m) (by rfl) ((OwnB.new _ _ _).cell 0) rfl (by have := HLS.out; unfold maxLen; omega) (by rw [HTI.out.2.2.2]; have := HLS.out; omega) (Nat.le_trans u4.size HBX.out.size) ?_; intro g2 cap wn hR hk hg hat; have HT5 := Lib.hid (show TwoZ _ _ _ _ _ _ _ _ from (TwoZ.push (HT4.out.symm.below HBX.out) hR hk hg hat ((HRW.out.below HBX.out)) (by rw [List.length_replicate]; exact HM0.out)).symm); obtain ⟨u5, rfl⟩ := laterC_grown (laterC_step ⟨u4, rfl⟩ HBX.out) (((HT4.out.symm.1.1).below HBX.out).owns) hg; clear hR hk hg hat)
        go_roundw
        case rel => exact ⟨k + 1, _, _, _, _, by omega, by go_num, rfl, rfl, by rw [E6.out, E5.out]; exact HT5, ⟨u5, rfl⟩⟩
        case measure => simp [intOf] <;> omega
      · have k6 : (kd == 36) = false := by simpa using h6
        have k5 : (kd == 35) = false := by simpa using h5
        have E6 := Lib.hid (HN6.out k6)
        have E5 := Lib.hid (HN5.out k5)
        go_wp2
        go_roundw
        case rel => exact ⟨k + 1, _, _, _, _, by omega, by go_num, rfl, rfl, by rw [E6.out, E5.out]; exact HT4, ⟨u4, rfl⟩⟩
        case measure => simp [intOf] <;> omega
  · obtain rfl : k = n := by omega
    clear hA
    have HS := Lib.hid (HT.out.1.vlAt (Nat.le_trans (zeroAt_len _ _ _) hn))
    have HI := Lib.hid (HT.out.2.1.vlAt (Nat.le_trans (zeroAt_len _ _ _) hn))
    go_wp2_with (go_at_call 109; refine (l4All_calls _ _ _ M _ _ _ (HM1.out.later u) HS.out HI.out HNB.out (by rw [HN.out]; exact HFS.out) (by rw [HN.out]; exact HFI.out) (by rw [HN.out]; exact H60.out)).mono ?_; rintro e w' ⟨v, svs2, rfl, hb, hac⟩; have HAC := Lib.hid hac; have HU := Lib.hid (Nat.le_trans HB.out.size u.size); obtain ⟨u3, h3⟩ := u.step hb; subst h3; clear hb hac)
    go_ret
    exact ⟨v, svs2, rfl, u3.back HB.out, by rw [HFX.out]; unfold evalL; exact HAC.out.mono HU.out⟩
end Go.Proofs.YtbenebcphaiohaaGreat
namespace Go.Proofs.YtbenebcphaiohaaGreat
open Go.RowKit
def BindsIn (ns : List Nd) (bs : List Bd) (V : List (List Int)) (ps : List Int) : Prop :=
 ∀ b, b ∈ bs → (0 ≤ b.st ∧ b.st < ns.length) ∧ b.st ∈ ps ∧ 0 ≤ b.nd ∧ b.nd < V.length ∧ 0 < (vN V b.nd).length ∧ (vN V b.nd).length ≤ 1048576
theorem below_of' {w1 w2 w3 : World} (h : LaterC w1 w2) (h' : LaterC w2 w3) : Below w1.heap.size w1 w3 := (LaterC.trans h h').below
theorem first_mem {x : Int} {ps : List Int} (h : x ∈ ps) : ∃ q : Nat, firstN (fun y => y == x) ps = q ∧ q < ps.length := by
 induction ps with
 | nil => cases h
 | cons y l ih =>
   unfold firstN
   by_cases e : y = x
   · exact ⟨0, by simp [e], by simp⟩
   · rcases List.mem_cons.1 h with h1 | h1
     · exact absurd h1.symm e
     · obtain ⟨q, h2, h3⟩ := ih h1
       refine ⟨q + 1, ?_, by simpa using h3⟩
       rw [if_neg (by simpa using e), h2, if_neg (by omega)]
       rfl
theorem bound_calls (mv bv vv tv : Value) (M : Md) (bs : List Bd) (V T : List (List Int)) (w : World) (hM : MdAt w mv M) (hB : SlAt enBd w bv bs) (hV : VlAt w vv V) (hT : VlAt w tv T) (h60 : M.nodes.length ≤ 1048576) (hbs : BindsIn M.nodes bs V (plK M)) (hTl : T.length = (plK M).length) :
 Makes Tryz.prog 119 #[mv, bv, vv, tv] w (.bool (boundK M.nodes bs V (plK M) T)) := by
 have HM := Lib.hid hM
 have HV := Lib.hid hV
 have HT := Lib.hid hT
 have H60 := Lib.hid h60
 have HBS := Lib.hid hbs
 have HTL := Lib.hid hTl
 obtain ⟨s0, s1, s2, s3, s4, rfl, hS, -, -, -, -⟩ := hM.at_
 obtain ⟨A, c, rfl, hnc, hc', hA⟩ := hS
 obtain ⟨B, d, rfl, hnd, hd', hBA⟩ := hB
 obtain ⟨VA, vd, rfl, -, hvl, hVA⟩ := hV
 obtain ⟨TA, td, rfl, -, htl, hTA⟩ := hT
 have HNO := Lib.hid (show ∀ k, k < bs.length → bindOk M.nodes V (plK M) T (bs.getD k Bd.zero) = false → boundK M.nodes bs V (plK M) T = false from fun k h1 h2 => all_no h1 h2)
 have HYES := Lib.hid (show (∀ k, k < bs.length → bindOk M.nodes V (plK M) T (bs.getD k Bd.zero) = true) → boundK M.nodes bs V (plK M) T = true from fun h => all_yes h)
 generalize boundK M.nodes bs V (plK M) T = R at *
 have hqq := Nat.le_trans hnd hd'
 clear hM h60 hbs hTl hnd hnc
 generalize hN : M.nodes.length = n at *
 have HN := Lib.hid hN
 generalize hQ : bs.length = q at *
 have HQ := Lib.hid hQ
 generalize hP : V.length = p at *
 have HP := Lib.hid hP
 generalize hY : T.length = y at *
 have HY := Lib.hid hY
 clear hN hQ hP hY
 go_enter Tryz.func119, Tryz.ntmps119
 have HB := Lib.hid (box_below w #[.slice A n c, s1, s2, s3, s4] 27)
 have m0 := box_cell w #[.slice A n c, s1, s2, s3, s4] 27 0 _ rfl
 have m1 := box_cell w #[.slice A n c, s1, s2, s3, s4] 27 1 _ rfl
 have m2 := box_cell w #[.slice A n c, s1, s2, s3, s4] 27 2 _ rfl
 have m3 := box_cell w #[.slice A n c, s1, s2, s3, s4] 27 3 _ rfl
 have m4 := box_cell w #[.slice A n c, s1, s2, s3, s4] 27 4 _ rfl
 go_upto_region 1 with fail
 generalize w.alloc (.cells #[.slice A n c, s1, s2, s3, s4] 27) = w1 at *
 have m0 : ∀ u : Later w1, u.val.cell? ⟨w.heap.size, 0, none⟩ = some (.slice A n c) := m0
 have m1 : ∀ u : Later w1, u.val.cell? ⟨w.heap.size, 1, none⟩ = some s1 := m1
 have m2 : ∀ u : Later w1, u.val.cell? ⟨w.heap.size, 2, none⟩ = some s2 := m2
 have m3 : ∀ u : Later w1, u.val.cell? ⟨w.heap.size, 3, none⟩ = some s3 := m3
 have m4 : ∀ u : Later w1, u.val.cell? ⟨w.heap.size, 4, none⟩ = some s4 := m4
 have HM1 := Lib.hid (HM.out.below HB.out)
 refine at_world (w := w1) ?_
 intro u0
 go_upto_region 2 with (go_at_call 127; refine (places_calls _ M 36 _ (HM1.out.later u0) (by rw [HN.out]; exact H60.out)).mono ?_; rintro e w' ⟨pv, rfl, hb, hown⟩; have HOWN := Lib.hid (places_slN hown (by rw [HN.out]; exact H60.out)); obtain ⟨u1, hu1⟩ := u0.step hb; subst hu1; clear hb hown)
 have HBW := Lib.hid (u1.back HB.out)
 have HLW : LaterC w1 u1.val := ⟨u1, rfl⟩
 have m0 := lift_cell HLW m0
 have m1 := lift_cell HLW m1
 have m2 := lift_cell HLW m2
 have m3 := lift_cell HLW m3
 have m4 := lift_cell HLW m4
 clear HLW
 generalize u1.val = W at *
 refine at_world (w := W) ?_
 intro w0
 go_wp2
 go_loopw [17] (fun i wr => ∃ k : Nat, k ≤ q ∧ i = .int .i64 k ∧ Hid (∀ j, j < k → bindOk M.nodes V (plK M) T (bs.getD j Bd.zero) = true) ∧ LaterC W wr) (fun i _ => q - (intOf i).toNat)
 case atStart => exact ⟨0, Nat.zero_le _, rfl, Lib.hid (fun j hj => absurd hj (Nat.not_lt_zero _)), ⟨w0, rfl⟩⟩
 case round =>
  obtain ⟨k, hk, rfl, hto, ⟨u, rfl⟩⟩ := hrel
  by_cases hlt : k < q
  · have hlt' : (k : Int) < q := by omega
    have hget := getD_at (show k < bs.length by rw [HQ.out]; exact hlt) Bd.zero
    have HBK := Lib.hid (HBS.out _ (List.mem_of_getElem? hget))
    obtain ⟨bb, bo, rfl, hx⟩ := hBA k _ hget
    have HK := Lib.hid (Eq.refl (bs.getD k Bd.zero))
    generalize hb0 : bs.getD k Bd.zero = b at *
    have HB0 := Lib.hid hb0
    obtain ⟨⟨h1, h2⟩, h3, h4, h5, h6, h7⟩ := HBK.out
    obtain ⟨⟨st, hst⟩, ⟨nd, hnd⟩⟩ : (∃ s : Nat, b.st = s) ∧ ∃ t : Nat, b.nd = t := ⟨Int.eq_ofNat_of_zero_le h1, Int.eq_ofNat_of_zero_le h4⟩
    obtain ⟨ix, hix, hixl⟩ := first_mem h3
    rw [hst] at hix
    have HIX := Lib.hid hix
    have hst2 : st < n := by have := HN.out; omega
    have hnd2 : nd < p := by have := HP.out; omega
    have hst3 : (st : Int) < n := by omega
    have hnd3 : (nd : Int) < p := by omega
    have p0 : ∀ l : Later W, l.val.cell? ⟨bb, bo + k * 2, none⟩ = some (.int .i64 (st : Int)) := hst ▸ hx.at_ HBW.out 0 _ rfl
    have p1 : ∀ l : Later W, l.val.cell? ⟨bb, bo + k * 2 + 1, none⟩ = some (.int .i64 (nd : Int)) := hnd ▸ hx.at_ HBW.out 1 _ rfl
    have hgn := getD_at (show st < M.nodes.length by rw [HN.out]; exact hst2) Nd.zero
    obtain ⟨bn, on, rfl, hnx⟩ := hA st _ hgn
    have hgv := getD_at (show nd < V.length by rw [HP.out]; exact hnd2) []
    obtain ⟨b1, o1, sv, rfl, hvc, hvs⟩ := hVA nd _ hgv
    have hgt := getD_at (show ix < T.length by rw [HY.out, HTL.out]; exact hixl) []
    obtain ⟨b2, o2, tv, rfl, htc, hts⟩ := hTA ix _ hgt
    clear hA hBA hVA hTA
    have hgk := Lib.hid (show bindOk M.nodes V (plK M) T b = false → R = false from fun h => HNO.out k hlt (by rw [HB0.out]; exact h))
    generalize hxe : M.nodes.getD st Nd.zero = x at *
    generalize hve : V.getD nd [] = vs at *
    generalize hte : T.getD ix [] = ts at *
    have HVS := Lib.hid hvs
    have HTS := Lib.hid hts
    have HVL := Lib.hid (show 0 < vs.length ∧ vs.length ≤ 1048576 by
     have e : vN V b.nd = vs := by unfold vN; rw [hnd, Int.toNat_natCast]; exact hve
     rw [e] at h6 h7
     exact ⟨h6, h7⟩)
    have HOKB := Lib.hid (show bindOk M.nodes V (plK M) T b = decide (wideN (cellsN x.idx x.wid).toNat vs = ts) by
     simp only [bindOk, cellN, pN, vN, hix, hst, hnd, Int.toNat_natCast, hxe, hve, hte])
    obtain ⟨vA, vc, rfl, -⟩ := hvs
    obtain ⟨tA, tc, rfl, -⟩ := hts
    generalize hvln : vs.length = vl at *
    have HVLN := Lib.hid hvln
    generalize htln : ts.length = tl at *
    have e0 : ∀ l : Later W, l.val.cell? ⟨bn, on + st * 9 + 6, none⟩ = some (.int .i64 x.idx) := hnx.at_ HBW.out 6 _ rfl
    have e1 : ∀ l : Later W, l.val.cell? ⟨bn, on + st * 9 + 7, none⟩ = some (.int .i64 x.wid) := hnx.at_ HBW.out 7 _ rfl
    have e2 : ∀ l : Later W, l.val.cell? ⟨b1, o1 + nd, none⟩ = some (.slice vA vl vc) := Later.cell (keepcell HBW.out hvc)
    have e3 : ∀ l : Later W, l.val.cell? ⟨b2, o2 + ix, none⟩ = some (.slice tA tl tc) := Later.cell (keepcell HBW.out htc)
    clear hvc htc hnx hgn hgv hgt hx hget hvln htln
    go_wp2_with fail
    have t0 := box_cell u.val #[.int .i64 (st : Int), .int .i64 (nd : Int)] 117 0 _ rfl
    have t1 := box_cell u.val #[.int .i64 (st : Int), .int .i64 (nd : Int)] 117 1 _ rfl
    have HL5 : LaterC W (u.val.alloc (Obj.cells #[.int .i64 (st : Int), .int .i64 (nd : Int)] 117)) := LaterC.alloc' ⟨u, rfl⟩ _
    generalize u.val.alloc (Obj.cells #[.int .i64 (st : Int), .int .i64 (nd : Int)] 117) = W5 at *
    have t0 : ∀ l : Later W5, l.val.cell? ⟨u.val.heap.size, 0, none⟩ = some (.int .i64 (st : Int)) := t0
    have t1 : ∀ l : Later W5, l.val.cell? ⟨u.val.heap.size, 1, none⟩ = some (.int .i64 (nd : Int)) := t1
    generalize u.val.heap.size = GB at *
    have m0 := lift_cell HL5 m0
    have p0 := lift_cell HL5 p0
    have p1 := lift_cell HL5 p1
    have e0 := lift_cell HL5 e0
    have e1 := lift_cell HL5 e1
    have e2 := lift_cell HL5 e2
    have e3 := lift_cell HL5 e3
    have HVS5 := Lib.hid (HVS.out.below (below_of HBW.out HL5))
    have HQL := Lib.hid (show ∀ w', LaterC W5 w' → w'.cell? ⟨w.heap.size, 0, none⟩ = some (.slice (some ⟨bn, on, none⟩) n c) ∧ w'.cell? ⟨GB, 0, none⟩ = some (.int .i64 (st : Int)) ∧ w'.cell? ⟨GB, 1, none⟩ = some (.int .i64 (nd : Int)) ∧ w'.cell? ⟨bn, on + st * 9 + 6, none⟩ = some (.int .i64 x.idx) ∧ w'.cell? ⟨bn, on + st * 9 + 7, none⟩ = some (.int .i64 x.wid) ∧ w'.cell? ⟨b1, o1 + nd, none⟩ = some (.slice vA vl vc) from fun W' h => by
     obtain ⟨v, rfl⟩ := h
     exact ⟨m0 v, t0 v, t1 v, e0 v, e1 v, e2 v⟩)
    have HQC := Lib.hid (show ∀ w', Below (W5.drew.alloc (Obj.cells #[.slice none 0 0] 40)).heap.size (W5.drew.alloc (Obj.cells #[.slice none 0 0] 40)) w' → w'.cell? ⟨W5.heap.size, 0, none⟩ = some (.slice none 0 0) ∧ w'.frozen? ⟨W5.heap.size, 0, none⟩ = false from fun w' h => by
     have ho : OwnB (W5.drew.alloc (Obj.cells #[.slice none 0 0] 40)) W5.heap.size 40 #[.slice none 0 0] := OwnB.new W5.drew _ _
     have ho2 := ho.below h ho.lt
     exact ⟨ho2.cell 0, ho2.frozen 0⟩)
    go_region_held3 (fun w' => w'.cell? ⟨w.heap.size, 0, none⟩ = some (.slice (some ⟨bn, on, none⟩) n c) ∧ w'.cell? ⟨GB, 0, none⟩ = some (.int .i64 (st : Int)) ∧ w'.cell? ⟨GB, 1, none⟩ = some (.int .i64 (nd : Int)) ∧ w'.cell? ⟨bn, on + st * 9 + 6, none⟩ = some (.int .i64 x.idx) ∧ w'.cell? ⟨bn, on + st * 9 + 7, none⟩ = some (.int .i64 x.wid) ∧ w'.cell? ⟨b1, o1 + nd, none⟩ = some (.slice vA vl vc)) ((refine HQL.out _ ?_; repeat (first | exact ⟨_, rfl⟩ | exact LaterC.refl _ | refine LaterC.drew' ?_ | refine LaterC.alloc' ?_ _ | refine LaterC.setCell' ?_ _ _ (LaterC.size (by repeat (first | exact ⟨_, rfl⟩ | exact LaterC.refl _ | refine LaterC.drew' ?_ | refine LaterC.alloc' ?_ _)))))) ((go_at_call 187; refine (spread_calls x.idx x.wid _ vs _ (HVS5.out.below (LaterC.below (by repeat (first | exact ⟨_, rfl⟩ | exact LaterC.refl _ | refine LaterC.drew' ?_ | refine LaterC.alloc' ?_ _)))) (by rw [HVLN.out]; exact HVL.out.1) (by rw [HVLN.out]; exact HVL.out.2)).mono ?_; rintro e w' ⟨s, rfl, hb, hr, hg⟩; obtain ⟨g, cap, rfl, -⟩ := rowI_some hr (by unfold wideN; rw [List.length_append, HVLN.out]; have := HVL.out.1; omega); (first | (have qcf := HQC.out _ hb; have qc := qcf.1; have qf := qcf.2; clear qcf) | skip); have HR6 := Lib.hid hr; have HG6 := Lib.hid (show ∀ b, (Value.slice (some ⟨g, 0, none⟩) (wideN (cellsN x.idx x.wid).toNat vs).length cap).ownBlock = some b → W5.heap.size ≤ b from fun b h => Nat.le_trans (LaterC.size (by repeat (first | exact ⟨_, rfl⟩ | exact LaterC.refl _ | refine LaterC.drew' ?_ | refine LaterC.alloc' ?_ _))) (hg b h)); (first | (have HN6 := Lib.hid (show ∀ b, (Value.slice (some ⟨g, 0, none⟩) (wideN (cellsN x.idx x.wid).toNat vs).length cap).ownBlock = some b → ¬ b = W5.heap.size from fun b h e => by have h2 := hg b h; simp at h2; omega)) | skip); obtain ⟨v6, hv6⟩ := laterC_step (w1 := W5) (by repeat (first | exact ⟨_, rfl⟩ | exact LaterC.refl _ | refine LaterC.drew' ?_ | refine LaterC.alloc' ?_ _)) hb; subst hv6; clear hb hr hg))
    all_goals go_upto_region 6 with fail
    all_goals first
     | (have FB : LaterC W5 (v6.val.setCell ⟨W5.heap.size, 0, none⟩ (.slice (some ⟨g, 0, none⟩) (wideN (cellsN x.idx x.wid).toNat vs).length cap)) ∧ (v6.val.setCell ⟨W5.heap.size, 0, none⟩ (.slice (some ⟨g, 0, none⟩) (wideN (cellsN x.idx x.wid).toNat vs).length cap)).cell? ⟨W5.heap.size, 0, none⟩ = some (.slice (some ⟨g, 0, none⟩) (wideN (cellsN x.idx x.wid).toNat vs).length cap) ∧ SlN enI (v6.val.setCell ⟨W5.heap.size, 0, none⟩ (.slice (some ⟨g, 0, none⟩) (wideN (cellsN x.idx x.wid).toNat vs).length cap)) (.slice (some ⟨g, 0, none⟩) (wideN (cellsN x.idx x.wid).toNat vs).length cap) (wideN (cellsN x.idx x.wid).toNat vs) := ⟨LaterC.setCell' ⟨v6, rfl⟩ _ _ (Nat.le_refl _), World.cell?_setCell_same _ _ _ qc, (HR6.out.but (S := (· = W5.heap.size)) (But.setCell (S := (· = W5.heap.size)) (But.refl _ _) rfl _) HN6.out).slN⟩
        generalize v6.val.setCell ⟨W5.heap.size, 0, none⟩ (.slice (some ⟨g, 0, none⟩) (wideN (cellsN x.idx x.wid).toNat vs).length cap) = W6 at *
        obtain ⟨G, hG⟩ : ∃ G, G = W5.heap.size := ⟨_, rfl⟩
        rw [← hG] at FB ⊢
        clear hG)
     | (have FB : LaterC W5 (v6.val.alloc (Obj.cells #[(.slice (some ⟨g, 0, none⟩) (wideN (cellsN x.idx x.wid).toNat vs).length cap)] 40)) ∧ (v6.val.alloc (Obj.cells #[(.slice (some ⟨g, 0, none⟩) (wideN (cellsN x.idx x.wid).toNat vs).length cap)] 40)).cell? ⟨v6.val.heap.size, 0, none⟩ = some (.slice (some ⟨g, 0, none⟩) (wideN (cellsN x.idx x.wid).toNat vs).length cap) ∧ SlN enI (v6.val.alloc (Obj.cells #[(.slice (some ⟨g, 0, none⟩) (wideN (cellsN x.idx x.wid).toNat vs).length cap)] 40)) (.slice (some ⟨g, 0, none⟩) (wideN (cellsN x.idx x.wid).toNat vs).length cap) (wideN (cellsN x.idx x.wid).toNat vs) := ⟨LaterC.alloc' ⟨v6, rfl⟩ _, (OwnB.new _ _ _).cell 0, HR6.out.slN.below ((Below.refl _ _).alloc (Nat.le_refl _) _)⟩
        generalize v6.val.alloc (Obj.cells #[(.slice (some ⟨g, 0, none⟩) (wideN (cellsN x.idx x.wid).toNat vs).length cap)] 40) = W6 at *
        obtain ⟨G, hG⟩ : ∃ G, G = v6.val.heap.size := ⟨_, rfl⟩
        rw [← hG] at FB ⊢
        clear hG)
    all_goals
     generalize (wideN (cellsN x.idx x.wid).toNat vs).length = wl at *
     obtain ⟨F1, F2, F3⟩ := FB
     have HF3 := Lib.hid F3
     have g0 := Later.cell F2
     have t0 := lift_cell F1 t0
     have e3 := lift_cell F1 e3
     have hixy : (ix : Int) < y := by have := HTL.out; omega
     have HOW := Lib.hid (HOWN.out.below (below_of' HL5 F1))
     have HTSW := Lib.hid (HTS.out.below (below_of HBW.out (LaterC.trans HL5 F1)))
     have HFW := Lib.hid (below_of HBW.out (LaterC.trans HL5 F1))
     have HLW6 : LaterC W W6 := LaterC.trans HL5 F1
     clear F1 F2 F3 HR6 HG6
     by_cases hok : wideN (cellsN x.idx x.wid).toNat vs = ts
     · have HEQ := Lib.hid (decide_eq_true hok)
       have HTO := Lib.hid (show ∀ j, j < k + 1 → bindOk M.nodes V (plK M) T (bs.getD j Bd.zero) = true from fun j hj => by
        rcases Nat.lt_or_ge j k with g | g
        · exact hto.out j g
        · obtain rfl : j = k := by omega
          rw [HB0.out, HOKB.out]; exact decide_eq_true hok)
       clear hok
       refine wp_region_later (w0 := W6) (by kernel_rfl) (by kernel_rfl) (LaterC.refl _) ?_
       repeat (go_big_quiet_step (first | (go_at_call 189; exact Calls.later_eq (index_calls _ (plK M) (st : Int) _ (HOW.out.later _)) (congrArg (Value.int .i64) HIX.out)) | (go_at_call 188; exact Calls.later_eq (equalI_calls _ _ _ _ _ (HF3.out.later _) (HTSW.out.later _)) (congrArg Value.bool HEQ.out))))
       refine wpQuiet_nil ?_
       rintro _ ⟨u7, rfl⟩
       go_wp2
       go_roundw
       case rel => exact ⟨k + 1, by omega, by go_num, HTO, LaterC.trans HLW6 ⟨u7, rfl⟩⟩
       case measure => simp [intOf] <;> omega
     · have HEQ := Lib.hid (decide_eq_false hok)
       have HR := Lib.hid (hgk.out (by rw [HOKB.out]; exact decide_eq_false hok))
       clear hok
       refine wp_region_later (w0 := W6) (by kernel_rfl) (by kernel_rfl) (LaterC.refl _) ?_
       repeat (go_big_quiet_step (first | (go_at_call 189; exact Calls.later_eq (index_calls _ (plK M) (st : Int) _ (HOW.out.later _)) (congrArg (Value.int .i64) HIX.out)) | (go_at_call 188; exact Calls.later_eq (equalI_calls _ _ _ _ _ (HF3.out.later _) (HTSW.out.later _)) (congrArg Value.bool HEQ.out))))
       refine wpQuiet_nil ?_
       rintro _ ⟨u7, rfl⟩
       go_wp2
       go_ret
       exact ⟨ret_eq (congrArg Value.bool HR.out.symm), u7.back HFW.out⟩
  · obtain rfl : k = q := by omega
    have HR := Lib.hid (HYES.out hto.out)
    clear hA hBA hVA hTA hto
    go_wp2
    go_ret
    exact ⟨ret_eq (congrArg Value.bool HR.out.symm), u.back HBW.out⟩
end Go.Proofs.YtbenebcphaiohaaGreat
namespace Go.Proofs.YtbenebcphaiohaaGreat
open Go.RowKit
theorem initial_calls (mv : Value) (M : Md) (w : World) (hM : MdAt w mv M) (hn : nodesB M.nodes = true) (h60 : M.nodes.length ≤ 1048576) :
 Calls Tryz.prog 122 #[mv] w fun e w' => ∃ v, e = .returned v ∧ Below w.heap.size w w' ∧ VlAt w' v (fixedL M) := by
 have HM := Lib.hid hM
 have HN := Lib.hid hn
 have HSZ := Lib.hid h60
 have HFX := Lib.hid (show fixedL M = evalN M.nodes (zeroK 36 M) (zeroK 35 M) M.nodes.length from rfl)
 have HL6 := Lib.hid (show (placesN 36 M.nodes M.nodes.length).length ≤ 1048576 from Nat.le_trans (placesN_le _ _ _) h60)
 have HL5 := Lib.hid (show (placesN 35 M.nodes M.nodes.length).length ≤ 1048576 from Nat.le_trans (placesN_le _ _ _) h60)
 generalize fixedL M = FX at *
 obtain ⟨s0, s1, s2, s3, s4, rfl, -⟩ := hM.at_
 clear hM hn h60
 go_enter Tryz.func122, Tryz.ntmps122
 have HB := Lib.hid (box_below w #[s0, s1, s2, s3, s4] 27)
 have m0 := box_cell w #[s0, s1, s2, s3, s4] 27 0 _ rfl
 have m1 := box_cell w #[s0, s1, s2, s3, s4] 27 1 _ rfl
 have m2 := box_cell w #[s0, s1, s2, s3, s4] 27 2 _ rfl
 have m3 := box_cell w #[s0, s1, s2, s3, s4] 27 3 _ rfl
 have m4 := box_cell w #[s0, s1, s2, s3, s4] 27 4 _ rfl
 go_upto_region 1 with fail
 generalize w.alloc (.cells #[s0, s1, s2, s3, s4] 27) = w1 at *
 have m0 : ∀ u : Later w1, u.val.cell? ⟨w.heap.size, 0, none⟩ = some s0 := m0
 have m1 : ∀ u : Later w1, u.val.cell? ⟨w.heap.size, 1, none⟩ = some s1 := m1
 have m2 : ∀ u : Later w1, u.val.cell? ⟨w.heap.size, 2, none⟩ = some s2 := m2
 have m3 : ∀ u : Later w1, u.val.cell? ⟨w.heap.size, 3, none⟩ = some s3 := m3
 have m4 : ∀ u : Later w1, u.val.cell? ⟨w.heap.size, 4, none⟩ = some s4 := m4
 have HM1 := Lib.hid (HM.out.below HB.out)
 have HQL := Lib.hid (show ∀ w', LaterC w1 w' → w'.cell? ⟨w.heap.size, 0, none⟩ = some s0 ∧ w'.cell? ⟨w.heap.size, 1, none⟩ = some s1 ∧ w'.cell? ⟨w.heap.size, 2, none⟩ = some s2 ∧ w'.cell? ⟨w.heap.size, 3, none⟩ = some s3 ∧ w'.cell? ⟨w.heap.size, 4, none⟩ = some s4 from fun W h => by
  obtain ⟨v, rfl⟩ := h
  exact ⟨m0 v, m1 v, m2 v, m3 v, m4 v⟩)
 refine at_world (w := w1) ?_
 intro u0
 go_upto_region 1 with fail
 go_region_held3 (fun w' => w'.cell? ⟨w.heap.size, 0, none⟩ = some s0 ∧ w'.cell? ⟨w.heap.size, 1, none⟩ = some s1 ∧ w'.cell? ⟨w.heap.size, 2, none⟩ = some s2 ∧ w'.cell? ⟨w.heap.size, 3, none⟩ = some s3 ∧ w'.cell? ⟨w.heap.size, 4, none⟩ = some s4) ((refine HQL.out _ ?_; repeat (first | exact ⟨_, rfl⟩ | exact LaterC.refl _ | refine LaterC.drew' ?_ | refine LaterC.alloc' ?_ _))) (first | (go_at_call 127; (with_reducible refine (places_calls _ M 36 _ (HM1.out.below (LaterC.below (by repeat (first | exact ⟨_, rfl⟩ | exact LaterC.refl _ | refine LaterC.drew' ?_ | refine LaterC.alloc' ?_ _)))) HSZ.out).mono ?_); rintro e w' ⟨pv6, rfl, hb, hown⟩; (first | (have HO6 := Lib.hid (HO6.out.below hb)) | skip); (first | (have HO5 := Lib.hid (HO5.out.below hb)) | skip); (first | (have HZ6 := Lib.hid (HZ6.out.below hb)) | skip); (first | (have HZ5 := Lib.hid (HZ5.out.below hb)) | skip); (first | (have HEV := Lib.hid (HEV.out.below hb)) | skip); have HO6 := Lib.hid (places_slN hown HSZ.out); clear hown; obtain ⟨vp6, hvp6⟩ := laterC_step (w1 := w1) (by repeat (first | exact ⟨_, rfl⟩ | exact LaterC.refl _ | refine LaterC.drew' ?_ | refine LaterC.alloc' ?_ _)) hb; subst hvp6; clear hb) | (go_at_call 127; (with_reducible refine (places_calls _ M 35 _ (HM1.out.below (LaterC.below (by repeat (first | exact ⟨_, rfl⟩ | exact LaterC.refl _ | refine LaterC.drew' ?_ | refine LaterC.alloc' ?_ _)))) HSZ.out).mono ?_); rintro e w' ⟨pv5, rfl, hb, hown⟩; (first | (have HO6 := Lib.hid (HO6.out.below hb)) | skip); (first | (have HO5 := Lib.hid (HO5.out.below hb)) | skip); (first | (have HZ6 := Lib.hid (HZ6.out.below hb)) | skip); (first | (have HZ5 := Lib.hid (HZ5.out.below hb)) | skip); (first | (have HEV := Lib.hid (HEV.out.below hb)) | skip); have HO5 := Lib.hid (places_slN hown HSZ.out); clear hown; obtain ⟨vp5, hvp5⟩ := laterC_step (w1 := w1) (by repeat (first | exact ⟨_, rfl⟩ | exact LaterC.refl _ | refine LaterC.drew' ?_ | refine LaterC.alloc' ?_ _)) hb; subst hvp5; clear hb) | (go_at_call 191; (with_reducible refine (zeros_calls _ pv6 M (placesN 36 M.nodes M.nodes.length) _ (HM1.out.below (LaterC.below (by repeat (first | exact ⟨_, rfl⟩ | exact LaterC.refl _ | refine LaterC.drew' ?_ | refine LaterC.alloc' ?_ _)))) (HO6.out.below (by first | exact Below.refl _ _ | exact (Below.refl _ _).drew)) (placesN_InN _ _) HL6.out).mono ?_); rintro e w' ⟨zv6, zs6, rfl, hb, hac⟩; (first | (have HO6 := Lib.hid (HO6.out.below hb)) | skip); (first | (have HO5 := Lib.hid (HO5.out.below hb)) | skip); (first | (have HZ6 := Lib.hid (HZ6.out.below hb)) | skip); (first | (have HZ5 := Lib.hid (HZ5.out.below hb)) | skip); (first | (have HEV := Lib.hid (HEV.out.below hb)) | skip); have HZ6 := Lib.hid (show VlAt w' zv6 (zeroK 36 M) from hac.vlAt (by rw [zerosN_length]; have := HL6.out; omega)); clear hac; obtain ⟨vz6, hvz6⟩ := laterC_step (w1 := w1) (by repeat (first | exact ⟨_, rfl⟩ | exact LaterC.refl _ | refine LaterC.drew' ?_ | refine LaterC.alloc' ?_ _)) hb; subst hvz6; clear hb) | (go_at_call 191; (with_reducible refine (zeros_calls _ pv5 M (placesN 35 M.nodes M.nodes.length) _ (HM1.out.below (LaterC.below (by repeat (first | exact ⟨_, rfl⟩ | exact LaterC.refl _ | refine LaterC.drew' ?_ | refine LaterC.alloc' ?_ _)))) (HO5.out.below (by first | exact Below.refl _ _ | exact (Below.refl _ _).drew)) (placesN_InN _ _) HL5.out).mono ?_); rintro e w' ⟨zv5, zs5, rfl, hb, hac⟩; (first | (have HO6 := Lib.hid (HO6.out.below hb)) | skip); (first | (have HO5 := Lib.hid (HO5.out.below hb)) | skip); (first | (have HZ6 := Lib.hid (HZ6.out.below hb)) | skip); (first | (have HZ5 := Lib.hid (HZ5.out.below hb)) | skip); (first | (have HEV := Lib.hid (HEV.out.below hb)) | skip); have HZ5 := Lib.hid (show VlAt w' zv5 (zeroK 35 M) from hac.vlAt (by rw [zerosN_length]; have := HL5.out; omega)); clear hac; obtain ⟨vz5, hvz5⟩ := laterC_step (w1 := w1) (by repeat (first | exact ⟨_, rfl⟩ | exact LaterC.refl _ | refine LaterC.drew' ?_ | refine LaterC.alloc' ?_ _)) hb; subst hvz5; clear hb) | (go_at_call 73; refine (eval_calls _ zv6 zv5 M (zeroK 36 M) (zeroK 35 M) _ (HM1.out.below (LaterC.below (by repeat (first | exact ⟨_, rfl⟩ | exact LaterC.refl _ | refine LaterC.drew' ?_ | refine LaterC.alloc' ?_ _)))) HZ6.out HZ5.out HN.out (zeros_fits _ _) (zeros_fits _ _) HSZ.out).mono ?_; rintro e w' ⟨ev, rfl, hb, hev⟩; have HEV := Lib.hid hev; clear hev; obtain ⟨ve, hve⟩ := laterC_step (w1 := w1) (by repeat (first | exact ⟨_, rfl⟩ | exact LaterC.refl _ | refine LaterC.drew' ?_ | refine LaterC.alloc' ?_ _)) hb; subst hve; clear hb))
 all_goals go_wp2
 all_goals go_ret
 all_goals exact ⟨ev, rfl, ve.back HB.out, by rw [HFX.out]; exact HEV.out⟩
theorem fixed_ok {M : Md} (h : nodesB M.nodes = true) : ∀ j, j < M.nodes.length → valB (M.nodes.getD j Nd.zero) ((fixedL M).getD j []) = true :=
 evalN_ok h (zeros_fits _ _) (zeros_fits _ _) M.nodes.length (Nat.le_refl _)
theorem fixedL_len (M : Md) : (fixedL M).length = M.nodes.length := evalN_length _ _ _ _
theorem bindsIn {M : Md} {bs : List Bd} {V : List (List Int)} (hn : nodesB M.nodes = true) (hl : V.length = M.nodes.length) (hv : ∀ j, j < M.nodes.length → valB (M.nodes.getD j Nd.zero) (V.getD j []) = true) (h : ∀ b, b ∈ bs → (0 ≤ b.st ∧ b.st < M.nodes.length) ∧ (0 ≤ b.nd ∧ b.nd < M.nodes.length) ∧ ((pN M.nodes b.st).kind == 36) = true) : BindsIn M.nodes bs V (plK M) := by
 intro b hb
 obtain ⟨h1, h2, h3⟩ := h b hb
 have h4 := val_one (hv b.nd.toNat (by omega)) (node_sok hn (by omega))
 refine ⟨h1, st_mem ⟨h1, h3⟩, h2.1, by omega, h4.1, Nat.le_trans h4.2 (by decide)⟩
theorem initIn {M : Md} {S : List (List Int)} (h : fitsK 36 M S = true) : nodesB M.nodes = true ∧ BindsIn M.nodes M.inits (fixedL M) (plK M) ∧ S.length = (plK M).length := by
 obtain ⟨h1, h2⟩ := fitsK_code h
 obtain ⟨-, g1, -, g3, -, -⟩ := codeN_parts h1
 exact ⟨g1, bindsIn g1 (fixedL_len M) (fixed_ok g1) fun b hb => init_parts ((binds_parts g3).1 b hb), (fits_cell h2).1⟩
theorem stepIn {M : Md} {S I T : List (List Int)} (h : bothK M S I = true) (ht : fitsK 36 M T = true) : BindsIn M.nodes M.nexts (evalL M S I) (plK M) ∧ T.length = (plK M).length := by
 obtain ⟨h1, g1, h2, h3, -, -⟩ := eval_one h
 obtain ⟨-, -, -, g3, -, -⟩ := codeN_parts h1
 exact ⟨bindsIn g1 (evalN_length _ _ _ _) (evalN_ok g1 h2 h3 M.nodes.length (Nat.le_refl _)) fun b hb => by have := bound_parts ((binds_parts g3).2 b hb); exact ⟨this.1, this.2.1, this.2.2.1⟩, (fits_cell (fitsK_code ht).2).1⟩
theorem InitFits'_calls (mv sv : Value) (M : Md) (S : List (List Int)) (w : World) (hM : MdAt w mv M) (hS : VlAt w sv S) (hsz : M.nodes.length ≤ 1048576) (hnm : ∀ x, x ∈ M.nodes → x.name.size ≤ 140737488351232) (hw1 : ∀ b, b ∈ M.inits → (Lit.int .i64 b.st).wf = true) (hw2 : ∀ b, b ∈ M.nexts → (Lit.int .i64 b.st).wf = true) :
 Makes Tryz.prog 42 #[mv, sv] w (.bool (initK M S)) := by
 have HM := Lib.hid hM
 have HNM := Lib.hid hnm
 have HSZ := Lib.hid hsz
 have HS := Lib.hid hS
 have HW1 := Lib.hid hw1
 have HW2 := Lib.hid hw2
 clear hw1 hw2
 obtain ⟨s0, s1, s2, s3, s4, rfl, -, h1s, h2s, -, -⟩ := hM.at_
 have HS1 := Lib.hid h1s
 have HS2 := Lib.hid h2s
 clear hM hnm hsz hS h1s h2s
 generalize hR : initK M S = R
 unfold initK at hR
 go_enter Tryz.func42, Tryz.ntmps42
 have HB := Lib.hid (box_below w #[s0, s1, s2, s3, s4] 27)
 have m0 := box_cell w #[s0, s1, s2, s3, s4] 27 0 _ rfl
 have m1 := box_cell w #[s0, s1, s2, s3, s4] 27 1 _ rfl
 have m2 := box_cell w #[s0, s1, s2, s3, s4] 27 2 _ rfl
 have m3 := box_cell w #[s0, s1, s2, s3, s4] 27 3 _ rfl
 have m4 := box_cell w #[s0, s1, s2, s3, s4] 27 4 _ rfl
 go_upto_region 1 with fail
 generalize w.alloc (.cells #[s0, s1, s2, s3, s4] 27) = w1 at *
 have m0 : ∀ u : Later w1, u.val.cell? ⟨w.heap.size, 0, none⟩ = some s0 := m0
 have m1 : ∀ u : Later w1, u.val.cell? ⟨w.heap.size, 1, none⟩ = some s1 := m1
 have m2 : ∀ u : Later w1, u.val.cell? ⟨w.heap.size, 2, none⟩ = some s2 := m2
 have m3 : ∀ u : Later w1, u.val.cell? ⟨w.heap.size, 3, none⟩ = some s3 := m3
 have m4 : ∀ u : Later w1, u.val.cell? ⟨w.heap.size, 4, none⟩ = some s4 := m4
 have HM1 := Lib.hid (HM.out.below HB.out)
 have HUS := Lib.hid (HS.out.below HB.out)
 have HB1 := Lib.hid (HS1.out.below HB.out)
 have HB2 := Lib.hid (HS2.out.below HB.out)
 by_cases hs : fitsK 36 M S = true
 · have HFS := Lib.hid hs
   rw [hs, Bool.true_and] at hR
   have HR := Lib.hid hR
   have HIN := Lib.hid (initIn hs)
   clear hs hR
   have HQL := Lib.hid (show ∀ w', LaterC w1 w' → w'.cell? ⟨w.heap.size, 0, none⟩ = some s0 ∧ w'.cell? ⟨w.heap.size, 1, none⟩ = some s1 ∧ w'.cell? ⟨w.heap.size, 2, none⟩ = some s2 ∧ w'.cell? ⟨w.heap.size, 3, none⟩ = some s3 ∧ w'.cell? ⟨w.heap.size, 4, none⟩ = some s4 from fun W h => by
    obtain ⟨v, rfl⟩ := h
    exact ⟨m0 v, m1 v, m2 v, m3 v, m4 v⟩)
   refine at_world (w := w1) ?_
   intro u0
   go_region_held3 (fun w' => w'.cell? ⟨w.heap.size, 0, none⟩ = some s0 ∧ w'.cell? ⟨w.heap.size, 1, none⟩ = some s1 ∧ w'.cell? ⟨w.heap.size, 2, none⟩ = some s2 ∧ w'.cell? ⟨w.heap.size, 3, none⟩ = some s3 ∧ w'.cell? ⟨w.heap.size, 4, none⟩ = some s4) ((refine HQL.out _ ?_; repeat (first | exact ⟨_, rfl⟩ | exact LaterC.refl _ | refine LaterC.drew' ?_ | refine LaterC.alloc' ?_ _))) (first | (go_at_call 70; refine (StateFits'_calls _ _ M S _ (HM1.out.below (LaterC.below (by repeat (first | exact ⟨_, rfl⟩ | exact LaterC.refl _ | refine LaterC.drew' ?_ | refine LaterC.alloc' ?_ _)))) (HUS.out.below (LaterC.below (by repeat (first | exact ⟨_, rfl⟩ | exact LaterC.refl _ | refine LaterC.drew' ?_ | refine LaterC.alloc' ?_ _)))) HSZ.out HNM.out HW1.out HW2.out).mono ?_; rintro e w' ⟨rfl, hb⟩; rw [HFS.out]; obtain ⟨v1, hv1⟩ := laterC_step (w1 := w1) (by repeat (first | exact ⟨_, rfl⟩ | exact LaterC.refl _ | refine LaterC.drew' ?_ | refine LaterC.alloc' ?_ _)) hb; subst hv1; clear hb) | (go_at_call 122; refine (initial_calls _ M _ (HM1.out.below (LaterC.below (by repeat (first | exact ⟨_, rfl⟩ | exact LaterC.refl _ | refine LaterC.drew' ?_ | refine LaterC.alloc' ?_ _)))) HIN.out.1 HSZ.out).mono ?_; rintro e w' ⟨ev, rfl, hb, hev⟩; have HEV := Lib.hid hev; clear hev; obtain ⟨v2, hv2⟩ := laterC_step (w1 := w1) (by repeat (first | exact ⟨_, rfl⟩ | exact LaterC.refl _ | refine LaterC.drew' ?_ | refine LaterC.alloc' ?_ _)) hb; subst hv2; clear hb) | (go_at_call 119; refine (bound_calls _ _ ev _ M M.inits (fixedL M) S _ (HM1.out.below (LaterC.below (by repeat (first | exact ⟨_, rfl⟩ | exact LaterC.refl _ | refine LaterC.drew' ?_ | refine LaterC.alloc' ?_ _)))) (HB1.out.below (LaterC.below (by repeat (first | exact ⟨_, rfl⟩ | exact LaterC.refl _ | refine LaterC.drew' ?_ | refine LaterC.alloc' ?_ _)))) HEV.out (HUS.out.below (LaterC.below (by repeat (first | exact ⟨_, rfl⟩ | exact LaterC.refl _ | refine LaterC.drew' ?_ | refine LaterC.alloc' ?_ _)))) HSZ.out HIN.out.2.1 HIN.out.2.2).mono ?_; rintro e w' ⟨rfl, hb⟩; rw [HR.out]; obtain ⟨v3, hv3⟩ := laterC_step (w1 := w1) (by repeat (first | exact ⟨_, rfl⟩ | exact LaterC.refl _ | refine LaterC.drew' ?_ | refine LaterC.alloc' ?_ _)) hb; subst hv3; clear hb))
   all_goals go_wp2
   all_goals go_ret
   all_goals exact ⟨rfl, v3.back HB.out⟩
 · have hs := eq_false_of_ne_true hs
   have HFS := Lib.hid hs
   have HR := Lib.hid (show R = false by rw [← hR, hs]; rfl)
   clear hR hs
   refine wp_region_later (w0 := w1) (by kernel_rfl) (by kernel_rfl) (LaterC.refl _) ?_
   repeat (go_big_quiet_step (first | (go_at_call 70; exact Calls.later_eq (StateFits'_calls _ _ M S _ (HM1.out.later _) (HUS.out.later _) HSZ.out HNM.out HW1.out HW2.out) (congrArg Value.bool HFS.out))))
   refine wpQuiet_nil ?_
   rintro _ ⟨u1, rfl⟩
   go_wp2
   go_ret
   exact ⟨ret_eq (congrArg Value.bool HR.out.symm), u1.back HB.out⟩
theorem StepFits'_calls (mv sv iv tv : Value) (M : Md) (S I T : List (List Int)) (w : World) (hM : MdAt w mv M) (hS : VlAt w sv S) (hI : VlAt w iv I) (hT : VlAt w tv T) (hsz : M.nodes.length ≤ 1048576) (hnm : ∀ x, x ∈ M.nodes → x.name.size ≤ 140737488351232) (hw1 : ∀ b, b ∈ M.inits → (Lit.int .i64 b.st).wf = true) (hw2 : ∀ b, b ∈ M.nexts → (Lit.int .i64 b.st).wf = true) :
 Makes Tryz.prog 40 #[mv, sv, iv, tv] w (.bool (stepK M S I T)) := by
 have HM := Lib.hid hM
 have HNM := Lib.hid hnm
 have HSZ := Lib.hid hsz
 have HS := Lib.hid hS
 have HI := Lib.hid hI
 have HT := Lib.hid hT
 have HW1 := Lib.hid hw1
 have HW2 := Lib.hid hw2
 clear hw1 hw2
 obtain ⟨s0, s1, s2, s3, s4, rfl, -, h1s, h2s, -, -⟩ := hM.at_
 have HS1 := Lib.hid h1s
 have HS2 := Lib.hid h2s
 clear hM hnm hsz hS hI hT h1s h2s
 generalize hR : stepK M S I T = R
 unfold stepK at hR
 go_enter Tryz.func40, Tryz.ntmps40
 have HB := Lib.hid (box_below w #[s0, s1, s2, s3, s4] 27)
 have m0 := box_cell w #[s0, s1, s2, s3, s4] 27 0 _ rfl
 have m1 := box_cell w #[s0, s1, s2, s3, s4] 27 1 _ rfl
 have m2 := box_cell w #[s0, s1, s2, s3, s4] 27 2 _ rfl
 have m3 := box_cell w #[s0, s1, s2, s3, s4] 27 3 _ rfl
 have m4 := box_cell w #[s0, s1, s2, s3, s4] 27 4 _ rfl
 go_upto_region 1 with fail
 generalize w.alloc (.cells #[s0, s1, s2, s3, s4] 27) = w1 at *
 have m0 : ∀ u : Later w1, u.val.cell? ⟨w.heap.size, 0, none⟩ = some s0 := m0
 have m1 : ∀ u : Later w1, u.val.cell? ⟨w.heap.size, 1, none⟩ = some s1 := m1
 have m2 : ∀ u : Later w1, u.val.cell? ⟨w.heap.size, 2, none⟩ = some s2 := m2
 have m3 : ∀ u : Later w1, u.val.cell? ⟨w.heap.size, 3, none⟩ = some s3 := m3
 have m4 : ∀ u : Later w1, u.val.cell? ⟨w.heap.size, 4, none⟩ = some s4 := m4
 have HM1 := Lib.hid (HM.out.below HB.out)
 have HUS := Lib.hid (HS.out.below HB.out)
 have HUI := Lib.hid (HI.out.below HB.out)
 have HUT := Lib.hid (HT.out.below HB.out)
 have HB1 := Lib.hid (HS1.out.below HB.out)
 have HB2 := Lib.hid (HS2.out.below HB.out)
 by_cases hs : fitsK 36 M S = true
 · have HFS := Lib.hid hs
   by_cases hi : fitsK 35 M I = true
   · have HFI := Lib.hid hi
     by_cases ht : fitsK 36 M T = true
     · have HFT := Lib.hid ht
       have hbo : bothK M S I = true := by unfold bothK; rw [hs, hi]; rfl
       rw [hbo, ht, Bool.true_and, Bool.true_and] at hR
       have HR := Lib.hid hR
       have HIN := Lib.hid (stepIn hbo ht)
       have HE := Lib.hid (eval_one hbo)
       clear hs hi ht hbo hR
       have HQL := Lib.hid (show ∀ w', LaterC w1 w' → w'.cell? ⟨w.heap.size, 0, none⟩ = some s0 ∧ w'.cell? ⟨w.heap.size, 1, none⟩ = some s1 ∧ w'.cell? ⟨w.heap.size, 2, none⟩ = some s2 ∧ w'.cell? ⟨w.heap.size, 3, none⟩ = some s3 ∧ w'.cell? ⟨w.heap.size, 4, none⟩ = some s4 from fun W h => by
       obtain ⟨v, rfl⟩ := h
       exact ⟨m0 v, m1 v, m2 v, m3 v, m4 v⟩)
       refine at_world (w := w1) ?_
       intro u0
       go_region_held3 (fun w' => w'.cell? ⟨w.heap.size, 0, none⟩ = some s0 ∧ w'.cell? ⟨w.heap.size, 1, none⟩ = some s1 ∧ w'.cell? ⟨w.heap.size, 2, none⟩ = some s2 ∧ w'.cell? ⟨w.heap.size, 3, none⟩ = some s3 ∧ w'.cell? ⟨w.heap.size, 4, none⟩ = some s4) ((refine HQL.out _ ?_; repeat (first | exact ⟨_, rfl⟩ | exact LaterC.refl _ | refine LaterC.drew' ?_ | refine LaterC.alloc' ?_ _))) (first | (go_at_call 70; (with_reducible refine (StateFits'_calls _ sv M S _ (HM1.out.below (LaterC.below (by repeat (first | exact ⟨_, rfl⟩ | exact LaterC.refl _ | refine LaterC.drew' ?_ | refine LaterC.alloc' ?_ _)))) (HUS.out.below (LaterC.below (by repeat (first | exact ⟨_, rfl⟩ | exact LaterC.refl _ | refine LaterC.drew' ?_ | refine LaterC.alloc' ?_ _)))) HSZ.out HNM.out HW1.out HW2.out).mono ?_); rintro e w' ⟨rfl, hb⟩; rw [HFS.out]; obtain ⟨v1, hv1⟩ := laterC_step (w1 := w1) (by repeat (first | exact ⟨_, rfl⟩ | exact LaterC.refl _ | refine LaterC.drew' ?_ | refine LaterC.alloc' ?_ _)) hb; subst hv1; clear hb) | (go_at_call 70; refine (StateFits'_calls _ tv M T _ (HM1.out.below (LaterC.below (by repeat (first | exact ⟨_, rfl⟩ | exact LaterC.refl _ | refine LaterC.drew' ?_ | refine LaterC.alloc' ?_ _)))) (HUT.out.below (LaterC.below (by repeat (first | exact ⟨_, rfl⟩ | exact LaterC.refl _ | refine LaterC.drew' ?_ | refine LaterC.alloc' ?_ _)))) HSZ.out HNM.out HW1.out HW2.out).mono ?_; rintro e w' ⟨rfl, hb⟩; rw [HFT.out]; obtain ⟨v1, hv1⟩ := laterC_step (w1 := w1) (by repeat (first | exact ⟨_, rfl⟩ | exact LaterC.refl _ | refine LaterC.drew' ?_ | refine LaterC.alloc' ?_ _)) hb; subst hv1; clear hb) | (go_at_call 71; refine (InputFits'_calls _ _ M I _ (HM1.out.below (LaterC.below (by repeat (first | exact ⟨_, rfl⟩ | exact LaterC.refl _ | refine LaterC.drew' ?_ | refine LaterC.alloc' ?_ _)))) (HUI.out.below (LaterC.below (by repeat (first | exact ⟨_, rfl⟩ | exact LaterC.refl _ | refine LaterC.drew' ?_ | refine LaterC.alloc' ?_ _)))) HSZ.out HNM.out HW1.out HW2.out).mono ?_; rintro e w' ⟨rfl, hb⟩; rw [HFI.out]; obtain ⟨v2, hv2⟩ := laterC_step (w1 := w1) (by repeat (first | exact ⟨_, rfl⟩ | exact LaterC.refl _ | refine LaterC.drew' ?_ | refine LaterC.alloc' ?_ _)) hb; subst hv2; clear hb) | (go_at_call 73; refine (eval_calls _ _ _ M S I _ (HM1.out.below (LaterC.below (by repeat (first | exact ⟨_, rfl⟩ | exact LaterC.refl _ | refine LaterC.drew' ?_ | refine LaterC.alloc' ?_ _)))) (HUS.out.below (LaterC.below (by repeat (first | exact ⟨_, rfl⟩ | exact LaterC.refl _ | refine LaterC.drew' ?_ | refine LaterC.alloc' ?_ _)))) (HUI.out.below (LaterC.below (by repeat (first | exact ⟨_, rfl⟩ | exact LaterC.refl _ | refine LaterC.drew' ?_ | refine LaterC.alloc' ?_ _)))) HE.out.2.1 HE.out.2.2.1 HE.out.2.2.2.1 HSZ.out).mono ?_; rintro e w' ⟨ev, rfl, hb, hev⟩; have HEV := Lib.hid hev; clear hev; obtain ⟨v2, hv2⟩ := laterC_step (w1 := w1) (by repeat (first | exact ⟨_, rfl⟩ | exact LaterC.refl _ | refine LaterC.drew' ?_ | refine LaterC.alloc' ?_ _)) hb; subst hv2; clear hb) | (go_at_call 119; refine (bound_calls _ _ ev _ M M.nexts (evalL M S I) T _ (HM1.out.below (LaterC.below (by repeat (first | exact ⟨_, rfl⟩ | exact LaterC.refl _ | refine LaterC.drew' ?_ | refine LaterC.alloc' ?_ _)))) (HB2.out.below (LaterC.below (by repeat (first | exact ⟨_, rfl⟩ | exact LaterC.refl _ | refine LaterC.drew' ?_ | refine LaterC.alloc' ?_ _)))) HEV.out (HUT.out.below (LaterC.below (by repeat (first | exact ⟨_, rfl⟩ | exact LaterC.refl _ | refine LaterC.drew' ?_ | refine LaterC.alloc' ?_ _)))) HSZ.out HIN.out.1 HIN.out.2).mono ?_; rintro e w' ⟨rfl, hb⟩; rw [HR.out]; obtain ⟨v3, hv3⟩ := laterC_step (w1 := w1) (by repeat (first | exact ⟨_, rfl⟩ | exact LaterC.refl _ | refine LaterC.drew' ?_ | refine LaterC.alloc' ?_ _)) hb; subst hv3; clear hb))
       all_goals go_wp2
       all_goals go_ret
       all_goals exact ⟨rfl, v3.back HB.out⟩
     · have ht := eq_false_of_ne_true ht
       have HFT := Lib.hid ht
       have HR := Lib.hid (show R = false by rw [← hR, ht, Bool.false_and, Bool.and_false])
       clear hR hs hi ht
       refine wp_region_later (w0 := w1) (by kernel_rfl) (by kernel_rfl) (LaterC.refl _) ?_
       repeat (go_big_quiet_step (first | (go_at_call 70; with_reducible exact Calls.later_eq (StateFits'_calls _ sv M S _ (HM1.out.later _) (HUS.out.later _) HSZ.out HNM.out HW1.out HW2.out) (congrArg Value.bool HFS.out)) | (go_at_call 70; with_reducible exact Calls.later_eq (StateFits'_calls _ tv M T _ (HM1.out.later _) (HUT.out.later _) HSZ.out HNM.out HW1.out HW2.out) (congrArg Value.bool HFT.out)) | (go_at_call 71; exact Calls.later_eq (InputFits'_calls _ _ M I _ (HM1.out.later _) (HUI.out.later _) HSZ.out HNM.out HW1.out HW2.out) (congrArg Value.bool HFI.out))))
       refine wpQuiet_nil ?_
       rintro _ ⟨u1, rfl⟩
       go_wp2
       go_ret
       exact ⟨ret_eq (congrArg Value.bool HR.out.symm), u1.back HB.out⟩
   · have hi := eq_false_of_ne_true hi
     have HFI := Lib.hid hi
     have HR := Lib.hid (show R = false by rw [← hR]; unfold bothK; rw [hs, hi]; rfl)
     clear hR hs hi
     refine wp_region_later (w0 := w1) (by kernel_rfl) (by kernel_rfl) (LaterC.refl _) ?_
     repeat (go_big_quiet_step (first | (go_at_call 70; with_reducible exact Calls.later_eq (StateFits'_calls _ sv M S _ (HM1.out.later _) (HUS.out.later _) HSZ.out HNM.out HW1.out HW2.out) (congrArg Value.bool HFS.out)) | (go_at_call 71; exact Calls.later_eq (InputFits'_calls _ _ M I _ (HM1.out.later _) (HUI.out.later _) HSZ.out HNM.out HW1.out HW2.out) (congrArg Value.bool HFI.out))))
     refine wpQuiet_nil ?_
     rintro _ ⟨u1, rfl⟩
     go_wp2
     go_ret
     exact ⟨ret_eq (congrArg Value.bool HR.out.symm), u1.back HB.out⟩
 · have hs := eq_false_of_ne_true hs
   have HFS := Lib.hid hs
   have HR := Lib.hid (show R = false by rw [← hR]; unfold bothK; rw [hs]; rfl)
   clear hR hs
   refine wp_region_later (w0 := w1) (by kernel_rfl) (by kernel_rfl) (LaterC.refl _) ?_
   repeat (go_big_quiet_step (first | (go_at_call 70; with_reducible exact Calls.later_eq (StateFits'_calls _ sv M S _ (HM1.out.later _) (HUS.out.later _) HSZ.out HNM.out HW1.out HW2.out) (congrArg Value.bool HFS.out))))
   refine wpQuiet_nil ?_
   rintro _ ⟨u1, rfl⟩
   go_wp2
   go_ret
   exact ⟨ret_eq (congrArg Value.bool HR.out.symm), u1.back HB.out⟩
end Go.Proofs.YtbenebcphaiohaaGreat
namespace Go.Proofs.YtbenebcphaiohaaGreat
open Go.RowKit
theorem val_len_eq {i a : Int} {xs : List Int} (h : valN i a xs = true) : (xs.length : Int) = cellsN i a := (val_parts h).1
theorem init_len {ns : List Nd} {b : Bd} {xs : List Int} (h : initB ns b = true) (hv : valB (pN ns b.nd) xs = true) (h0 : 0 < cellN ns b.st) : xs.length ≤ cellN ns b.st := by
 unfold initB at h
 rw [Bool.and_eq_true] at h
 have h1 := h.1
 have hl := val_len_eq hv
 unfold wordBd at h1
 split at h1
 · rename_i hw
   unfold wordB at hw
   simp only [Bool.and_eq_true, beq_iff_eq] at hw
   have h2 : (pN ns b.nd).idx = 0 := hw.2.2.2.1
   rw [h2] at hl
   have h3 : cellsN 0 (pN ns b.nd).wid ≤ 1 := by
    unfold cellsN
    split <;> decide
   omega
 · have h2 := bound_parts h1
   unfold cellN
   rw [h2.2.2.2.1, h2.2.2.2.2]
   omega
theorem step_len {ns : List Nd} {b : Bd} {xs : List Int} (h : boundB ns b = true) (hv : valB (pN ns b.nd) xs = true) : xs.length = cellN ns b.st := by
 have h2 := bound_parts h
 have hl := val_len_eq hv
 unfold cellN
 rw [h2.2.2.2.1, h2.2.2.2.2]
 omega
theorem range_all {n : Nat} {p : Nat → Bool} (h : ∀ k, k < n → p k = true) : (List.range n).all p = true := by
 rw [List.all_eq_true]
 exact fun k hk => h k (List.mem_range.1 hk)
theorem range_no {n k : Nat} {p : Nat → Bool} (hk : k < n) (h : p k = false) : (List.range n).all p = false := by
 rw [List.all_eq_false]
 exact ⟨k, List.mem_range.2 hk, by rw [h]; exact Bool.false_ne_true⟩
theorem InitFits_calls (mv sv : Value) (M : Md) (S : List (List Int)) (w : World) (hM : MdAt w mv M) (hS : VlAt w sv S) (hsz : M.nodes.length ≤ 1048576) (hnm : ∀ x, x ∈ M.nodes → x.name.size ≤ 140737488351232) :
 Makes Tryz.prog 41 #[mv, sv] w (.bool (initK M S)) := by
 have HM := Lib.hid hM
 have HNM := Lib.hid hnm
 have HSZ := Lib.hid hsz
 have HS := Lib.hid hS
 obtain ⟨s0, s1, s2, s3, s4, rfl, -, h1s, h2s, -, -⟩ := hM.at_
 have HS1 := Lib.hid h1s
 have HS2 := Lib.hid h2s
 obtain ⟨TA, td, rfl, -, htl, hTA⟩ := hS
 clear hM hnm hsz h1s h2s 
 generalize hR : initK M S = R
 unfold initK at hR
 go_enter Tryz.func41, Tryz.ntmps41
 have HB := Lib.hid (box_below w #[s0, s1, s2, s3, s4] 27)
 have m0 := box_cell w #[s0, s1, s2, s3, s4] 27 0 _ rfl
 have m1 := box_cell w #[s0, s1, s2, s3, s4] 27 1 _ rfl
 have m2 := box_cell w #[s0, s1, s2, s3, s4] 27 2 _ rfl
 have m3 := box_cell w #[s0, s1, s2, s3, s4] 27 3 _ rfl
 have m4 := box_cell w #[s0, s1, s2, s3, s4] 27 4 _ rfl
 go_upto_region 1 with fail
 generalize w.alloc (.cells #[s0, s1, s2, s3, s4] 27) = w1 at *
 have m0 : ∀ u : Later w1, u.val.cell? ⟨w.heap.size, 0, none⟩ = some s0 := m0
 have m1 : ∀ u : Later w1, u.val.cell? ⟨w.heap.size, 1, none⟩ = some s1 := m1
 have m2 : ∀ u : Later w1, u.val.cell? ⟨w.heap.size, 2, none⟩ = some s2 := m2
 have m3 : ∀ u : Later w1, u.val.cell? ⟨w.heap.size, 3, none⟩ = some s3 := m3
 have m4 : ∀ u : Later w1, u.val.cell? ⟨w.heap.size, 4, none⟩ = some s4 := m4
 have HM1 := Lib.hid (HM.out.below HB.out)
 have HUS := Lib.hid (HS.out.below HB.out)
 have HB1 := Lib.hid (HS1.out.below HB.out)
 have HB2 := Lib.hid (HS2.out.below HB.out)
 refine at_world (w := w1) ?_
 intro u0
 by_cases hs : fitsK 36 M S = true
 · have HFS := Lib.hid hs
   rw [hs, Bool.true_and] at hR
   obtain ⟨VV, hVV⟩ : ∃ VV, VV = fixedL M := ⟨_, rfl⟩
   rw [← hVV] at hR
   have HVK := Lib.hid (show ∀ j, j < M.nodes.length → valB (M.nodes.getD j Nd.zero) (VV.getD j []) = true by rw [hVV]; exact fixed_ok (initIn hs).1)
   have HVL := Lib.hid (show VV.length = M.nodes.length by rw [hVV]; exact fixedL_len M)
   have HEQ := Lib.hid ((initK_eq hs VV).trans hR)
   have HIN := Lib.hid (initIn hs)
   have HVV := Lib.hid hVV
   clear hVV
   have HCE := Lib.hid (fits_cell (fitsK_code HFS.out).2)
   have HBD := Lib.hid (binds_parts (codeN_parts (fitsK_code HFS.out).1).2.2.2.1)
   have HNB := Lib.hid (codeN_parts (fitsK_code HFS.out).1).2.1
   clear hR hs
   go_upto_region 5 with (first | (go_at_call 106; (with_reducible refine (Calls.later_eq (u := u0) (StateFits_calls _ (.slice TA S.length td) M S _ (HM1.out.later u0) (HUS.out.later u0) HSZ.out HNM.out) (congrArg Value.bool HFS.out)).mono ?_); rintro e w' ⟨rfl, u1, rfl⟩) | (go_at_call 120; refine (l4Fixed_calls _ M _ (HM1.out.later u1) HIN.out.1 HSZ.out).mono ?_; rintro e w' ⟨fv, fs, rfl, hb, hac⟩; have HFV := Lib.hid (show VlAt w' fv VV by rw [HVV.out]; exact hac.vlAt (by rw [fixedL_len]; have := HSZ.out; omega)); obtain ⟨u2, h2⟩ := u1.step hb; subst h2; clear hb hac) | (go_at_call 116; refine (l2Places_calls _ M 36 _ (HM1.out.later u2) HSZ.out).mono ?_; rintro e w' ⟨pv, rfl, hb, hown⟩; have HFV := Lib.hid (HFV.out.below hb); have HPV := Lib.hid (places_slN hown HSZ.out); obtain ⟨u3, h3⟩ := u2.step hb; subst h3; clear hb hown))
   have HBW := Lib.hid (u3.back HB.out)
   have HLW : LaterC w1 u3.val := ⟨u3, rfl⟩
   have m0 := lift_cell HLW m0
   have m1 := lift_cell HLW m1
   have m2 := lift_cell HLW m2
   have m3 := lift_cell HLW m3
   have m4 := lift_cell HLW m4
   have HBBW := Lib.hid (HB1.out.below HLW.below)
   clear HLW
   generalize u3.val = W at *
   obtain ⟨PA, pc, rfl, -, hpl, hPA⟩ := HPV.out
   obtain ⟨FA, fc, rfl, -, hfl, hFA⟩ := HFV.out
   have HNO := Lib.hid (show ∀ k, k < (plK M).length → stateOk M.inits VV (plK M) S k = false → R = false from fun k h1 h2 => HEQ.out ▸ range_no h1 h2)
   have HYES := Lib.hid (show (∀ k, k < (plK M).length → stateOk M.inits VV (plK M) S k = true) → R = true from fun h => HEQ.out ▸ range_all h)
   generalize hq : (placesN 36 M.nodes M.nodes.length).length = q at *
   have HQ := Lib.hid hq
   generalize hy : S.length = y at *
   have HY := Lib.hid hy
   generalize hp : VV.length = p at *
   have HP := Lib.hid hp
   clear hq hy hp
   refine at_world (w := W) ?_
   intro w0
   go_wp2
   go_loopw [7] (fun i wr => ∃ k : Nat, k ≤ q ∧ i = .int .i64 k ∧ Hid (∀ j, j < k → stateOk M.inits VV (plK M) S j = true) ∧ LaterC W wr) (fun i _ => q - (intOf i).toNat)
   case atStart => exact ⟨0, Nat.zero_le _, rfl, Lib.hid (fun j hj => absurd hj (Nat.not_lt_zero _)), ⟨w0, rfl⟩⟩
   case round =>
    obtain ⟨k, hk, rfl, hto, ⟨u, rfl⟩⟩ := hrel
    by_cases hlt : k < q
    · have hlt' : (k : Int) < q := by omega
      have hgp := getD_at (show k < (placesN 36 M.nodes M.nodes.length).length by rw [HQ.out]; exact hlt) 0
      obtain ⟨pb, po, rfl, hpx⟩ := hPA k _ hgp
      have HCK := Lib.hid (HCE.out.2 k hlt)
      have HSO := Lib.hid (show stateOk M.inits VV (plK M) S k = (decide (bdN ((plK M).getD k 0) M.inits < 0) || decide (S.getD k [] = wideN (S.getD k []).length (vN VV (bdN ((plK M).getD k 0) M.inits)))) from rfl)
      obtain ⟨st, hst⟩ : ∃ st, st = (plK M).getD k 0 := ⟨_, rfl⟩
      rw [← hst] at HSO HCK
      have HST := Lib.hid hst
      have p0 : ∀ l : Later W, l.val.cell? ⟨pb, po + k, none⟩ = some (.int .i64 st) := by rw [hst]; exact hpx.int (Below.refl _ _)
      clear hst hgp hpx hPA
      have HTO1 := Lib.hid (show stateOk M.inits VV (plK M) S k = true → ∀ j, j < k + 1 → stateOk M.inits VV (plK M) S j = true from fun h j hj => by
       rcases Nat.lt_or_ge j k with g | g
       · exact hto.out j g
       · obtain rfl : j = k := by omega
         exact h)
      rcases bd_cases st M.inits with hb1 | ⟨b, hb2, hb3, hb4⟩
      · have HK1 := Lib.hid hb1
        have HTO := Lib.hid (HTO1.out (by rw [HSO.out, hb1]; rfl))
        clear hb1 hTA hFA
        go_wp2
        refine wp_region_later (w0 := W) (by kernel_rfl) (by kernel_rfl) ⟨_, rfl⟩ ?_
        repeat (go_big_quiet_step ((go_at_call 117; exact Calls.later_eq (l4Bound_calls _ M.inits st _ (HBBW.out.later _)) (congrArg (Value.int .i64) HK1.out))))
        refine wpQuiet_nil ?_
        rintro _ ⟨v1, rfl⟩
        go_wp2
        refine wp_region_later (w0 := W) (by kernel_rfl) (by kernel_rfl) ⟨_, rfl⟩ ?_
        repeat (go_big_quiet_step (fail))
        refine wpQuiet_nil ?_
        rintro _ ⟨v2, rfl⟩
        go_wp2
        go_roundw
        case rel => exact ⟨k + 1, by omega, by go_num, HTO, ⟨v2, rfl⟩⟩
        case measure => simp [intOf] <;> omega
      · have hbb := HBD.out.1 b hb2
        have hpt := init_parts hbb
        obtain ⟨nd, hnd⟩ := Int.eq_ofNat_of_zero_le hpt.2.1.1
        have hvk := HVK.out nd (by omega)
        have hsk := node_sok HNB.out (show nd < M.nodes.length by omega)
        have HV1 := Lib.hid (val_one hvk hsk)
        have hlen := init_len hbb (xs := VV.getD nd []) (by unfold pN; rw [hnd, Int.toNat_natCast]; exact hvk) (by obtain ⟨st2, hst2⟩ := Int.eq_ofNat_of_zero_le hpt.1.1; have h1 := node_sok HNB.out (show st2 < M.nodes.length by omega); have h2 : 0 < cellsN (pN M.nodes b.st).idx (pN M.nodes b.st).wid := (by unfold pN; rw [hst2, Int.toNat_natCast]; unfold cellsN; rw [if_pos h1]; exact pow_pos_i _); unfold cellN; omega)
        rw [hb3] at hlen
        have HLN := Lib.hid hlen
        have HK1 := Lib.hid (hb4.trans hnd)
        have hndp : nd < p := by have := HVL.out; omega
        have hndp' : (nd : Int) < p := by omega
        have hky : k < y := by have h1 := HCE.out.1; omega
        have hky' : (k : Int) < y := by omega
        obtain ⟨tb, tp, sx, rfl, htc, hts⟩ := hTA k _ (getD_at (show k < S.length by rw [HY.out]; exact hky) [])
        obtain ⟨fb, fo, fx, rfl, hfc, hfs⟩ := hFA nd _ (getD_at (show nd < VV.length by rw [HP.out]; exact hndp) [])
        have HSO2 := Lib.hid (show stateOk M.inits VV (plK M) S k = decide (S.getD k [] = wideN (S.getD k []).length (VV.getD nd [])) by
         rw [HSO.out, HK1.out, decide_eq_false (show ¬ ((nd : Int) < 0) by omega), Bool.false_or]
         unfold vN
         simp only [Int.toNat_natCast])
        generalize hte : S.getD k [] = ts at *
        generalize hve : VV.getD nd [] = vs at *
        have HTS := Lib.hid (hts.below HBW.out)
        have HFS2 := Lib.hid hfs
        have HTL := Lib.hid (show ts.length = cellN M.nodes st from HCK.out)
        have HTM := Lib.hid (show ts.length ≤ 281474976710656 by obtain ⟨_, _, _, _, h, _⟩ := hts; exact h)
        obtain ⟨tA, tc, rfl, -⟩ := hts
        obtain ⟨fA, fc2, rfl, -⟩ := hfs
        have e2 : ∀ l : Later W, l.val.cell? ⟨tb, tp + k, none⟩ = some (.slice tA ts.length tc) := Later.cell (keepcell HBW.out htc)
        have e3 : ∀ l : Later W, l.val.cell? ⟨fb, fo + nd, none⟩ = some (.slice fA vs.length fc2) := Later.cell hfc
        have hk0 : decide ((0 : Int) ≤ (nd : Int)) = true := decide_eq_true (by omega)
        have HTC := Lib.hid (show ts.length ≤ 1048576 by have h1 := HTL.out; have h2 := (cells_bits (pN M.nodes st).idx (pN M.nodes st).wid).2.2.2; unfold cellN at h1; omega)
        clear htc hfc hlen hvk hsk hpt hbb hb2 hb3 hb4 hTA hFA hte hve hto hnd
        go_wp2
        refine wp_region_later (w0 := W) (by kernel_rfl) (by kernel_rfl) ⟨_, rfl⟩ ?_
        repeat (go_big_quiet_step ((go_at_call 117; exact Calls.later_eq (l4Bound_calls _ M.inits st _ (HBBW.out.later _)) (congrArg (Value.int .i64) HK1.out))))
        refine wpQuiet_nil ?_
        rintro _ ⟨v1, rfl⟩
        go_upto_region 9 with fail
        have HQL := Lib.hid (show ∀ w', LaterC W w' → w'.cell? ⟨tb, tp + k, none⟩ = some (.slice tA ts.length tc) ∧ w'.cell? ⟨fb, fo + nd, none⟩ = some (.slice fA vs.length fc2) from fun W' h => by
         obtain ⟨v, rfl⟩ := h
         exact ⟨e2 v, e3 v⟩)
        by_cases hok : ts = wideN ts.length vs
        · have HOK := Lib.hid (decide_eq_true hok)
          have HTO := Lib.hid (HTO1.out (by rw [HSO2.out]; exact decide_eq_true hok))
          clear hok
          go_region_held3 (fun w' => w'.cell? ⟨tb, tp + k, none⟩ = some (.slice tA ts.length tc) ∧ w'.cell? ⟨fb, fo + nd, none⟩ = some (.slice fA vs.length fc2)) ((refine HQL.out _ ?_; repeat (first | exact ⟨_, rfl⟩ | exact LaterC.refl _ | refine LaterC.drew' ?_ | refine LaterC.alloc' ?_ _))) (first | (go_at_call 121; refine (l4Wide_calls _ vs ts.length _ (HFS2.out.below (LaterC.below (by repeat (first | exact ⟨_, rfl⟩ | exact LaterC.refl _ | refine LaterC.drew' ?_ | refine LaterC.alloc' ?_ _)))) HV1.out.1 (by have := HV1.out.2; omega) HTC.out).mono ?_; rintro e w' ⟨s, rfl, hb, hr, -⟩; obtain ⟨g, cap, rfl, -⟩ := rowI_some hr (by unfold wideN; rw [List.length_append]; have := HV1.out.1; omega); have HR6 := Lib.hid hr; obtain ⟨v2, hv2⟩ := laterC_step (w1 := W) (by repeat (first | exact ⟨_, rfl⟩ | exact LaterC.refl _ | refine LaterC.drew' ?_ | refine LaterC.alloc' ?_ _)) hb; subst hv2; clear hb hr) | (go_at_call 118; refine (l4Same_calls _ _ ts (wideN ts.length vs) _ (HTS.out.below (LaterC.below (by repeat (first | exact ⟨_, rfl⟩ | exact LaterC.refl _ | refine LaterC.drew' ?_ | refine LaterC.alloc' ?_ _)))) (HR6.out.slN.below (by first | exact Below.refl _ _ | exact (Below.refl _ _).drew)) (by rw [wideN_len (by rw [HTL.out]; exact HLN.out)])).mono ?_; rintro e w' ⟨rfl, hb⟩; rw [HOK.out]; obtain ⟨v3, hv3⟩ := laterC_step (w1 := W) (by repeat (first | exact ⟨_, rfl⟩ | exact LaterC.refl _ | refine LaterC.drew' ?_ | refine LaterC.alloc' ?_ _)) hb; subst hv3; clear hb))
          all_goals go_wp2
          all_goals go_roundw
          all_goals first | exact ⟨k + 1, by omega, by go_num, HTO, ⟨v3, rfl⟩⟩ | (simp [intOf] <;> omega)
        · have HOK := Lib.hid (decide_eq_false hok)
          have HR := Lib.hid (HNO.out k hlt (by rw [HSO2.out]; exact decide_eq_false hok))
          clear hok
          go_region_held3 (fun w' => w'.cell? ⟨tb, tp + k, none⟩ = some (.slice tA ts.length tc) ∧ w'.cell? ⟨fb, fo + nd, none⟩ = some (.slice fA vs.length fc2)) ((refine HQL.out _ ?_; repeat (first | exact ⟨_, rfl⟩ | exact LaterC.refl _ | refine LaterC.drew' ?_ | refine LaterC.alloc' ?_ _))) (first | (go_at_call 121; refine (l4Wide_calls _ vs ts.length _ (HFS2.out.below (LaterC.below (by repeat (first | exact ⟨_, rfl⟩ | exact LaterC.refl _ | refine LaterC.drew' ?_ | refine LaterC.alloc' ?_ _)))) HV1.out.1 (by have := HV1.out.2; omega) HTC.out).mono ?_; rintro e w' ⟨s, rfl, hb, hr, -⟩; obtain ⟨g, cap, rfl, -⟩ := rowI_some hr (by unfold wideN; rw [List.length_append]; have := HV1.out.1; omega); have HR6 := Lib.hid hr; obtain ⟨v2, hv2⟩ := laterC_step (w1 := W) (by repeat (first | exact ⟨_, rfl⟩ | exact LaterC.refl _ | refine LaterC.drew' ?_ | refine LaterC.alloc' ?_ _)) hb; subst hv2; clear hb hr) | (go_at_call 118; refine (l4Same_calls _ _ ts (wideN ts.length vs) _ (HTS.out.below (LaterC.below (by repeat (first | exact ⟨_, rfl⟩ | exact LaterC.refl _ | refine LaterC.drew' ?_ | refine LaterC.alloc' ?_ _)))) (HR6.out.slN.below (by first | exact Below.refl _ _ | exact (Below.refl _ _).drew)) (by rw [wideN_len (by rw [HTL.out]; exact HLN.out)])).mono ?_; rintro e w' ⟨rfl, hb⟩; rw [HOK.out]; obtain ⟨v3, hv3⟩ := laterC_step (w1 := W) (by repeat (first | exact ⟨_, rfl⟩ | exact LaterC.refl _ | refine LaterC.drew' ?_ | refine LaterC.alloc' ?_ _)) hb; subst hv3; clear hb))
          all_goals go_wp2
          all_goals go_ret
          all_goals exact ⟨ret_eq (congrArg Value.bool HR.out.symm), v3.back HBW.out⟩
    · obtain rfl : k = q := by omega
      have HR := Lib.hid (HYES.out hto.out)
      clear hTA hFA hPA hto
      go_wp2
      go_ret
      exact ⟨ret_eq (congrArg Value.bool HR.out.symm), u.back HBW.out⟩
 · have hs := eq_false_of_ne_true hs
   have HFS := Lib.hid hs
   have HR := Lib.hid (show R = false by rw [← hR]; rw [hs]; rfl)
   clear hR hs hTA
   go_wp2_with (go_at_call 106; (with_reducible refine (Calls.later_eq (u := u0) (StateFits_calls _ (.slice TA S.length td) M S _ (HM1.out.later u0) (HUS.out.later u0) HSZ.out HNM.out) (congrArg Value.bool HFS.out)).mono ?_); rintro e w' ⟨rfl, u1, rfl⟩)
   go_ret
   exact ⟨ret_eq (congrArg Value.bool HR.out.symm), u1.back HB.out⟩
theorem StepFits_calls (mv sv iv tv : Value) (M : Md) (S I T : List (List Int)) (w : World) (hM : MdAt w mv M) (hS : VlAt w sv S) (hI : VlAt w iv I) (hT : VlAt w tv T) (hsz : M.nodes.length ≤ 1048576) (hnm : ∀ x, x ∈ M.nodes → x.name.size ≤ 140737488351232) :
 Makes Tryz.prog 39 #[mv, sv, iv, tv] w (.bool (stepK M S I T)) := by
 have HM := Lib.hid hM
 have HNM := Lib.hid hnm
 have HSZ := Lib.hid hsz
 have HS := Lib.hid hS
 have HI := Lib.hid hI
 have HT := Lib.hid hT
 obtain ⟨s0, s1, s2, s3, s4, rfl, -, h1s, h2s, -, -⟩ := hM.at_
 have HS1 := Lib.hid h1s
 have HS2 := Lib.hid h2s
 obtain ⟨TA, td, rfl, -, htl, hTA⟩ := hT
 clear hM hnm hsz h1s h2s hS hI
 generalize hR : stepK M S I T = R
 unfold stepK at hR
 go_enter Tryz.func39, Tryz.ntmps39
 have HB := Lib.hid (box_below w #[s0, s1, s2, s3, s4] 27)
 have m0 := box_cell w #[s0, s1, s2, s3, s4] 27 0 _ rfl
 have m1 := box_cell w #[s0, s1, s2, s3, s4] 27 1 _ rfl
 have m2 := box_cell w #[s0, s1, s2, s3, s4] 27 2 _ rfl
 have m3 := box_cell w #[s0, s1, s2, s3, s4] 27 3 _ rfl
 have m4 := box_cell w #[s0, s1, s2, s3, s4] 27 4 _ rfl
 go_upto_region 1 with fail
 generalize w.alloc (.cells #[s0, s1, s2, s3, s4] 27) = w1 at *
 have m0 : ∀ u : Later w1, u.val.cell? ⟨w.heap.size, 0, none⟩ = some s0 := m0
 have m1 : ∀ u : Later w1, u.val.cell? ⟨w.heap.size, 1, none⟩ = some s1 := m1
 have m2 : ∀ u : Later w1, u.val.cell? ⟨w.heap.size, 2, none⟩ = some s2 := m2
 have m3 : ∀ u : Later w1, u.val.cell? ⟨w.heap.size, 3, none⟩ = some s3 := m3
 have m4 : ∀ u : Later w1, u.val.cell? ⟨w.heap.size, 4, none⟩ = some s4 := m4
 have HM1 := Lib.hid (HM.out.below HB.out)
 have HUS := Lib.hid (HS.out.below HB.out)
 have HUI := Lib.hid (HI.out.below HB.out)
 have HUT := Lib.hid (HT.out.below HB.out)
 have HB1 := Lib.hid (HS1.out.below HB.out)
 have HB2 := Lib.hid (HS2.out.below HB.out)
 refine at_world (w := w1) ?_
 intro u0
 by_cases hs : fitsK 36 M S = true
 · have HFS := Lib.hid hs
   by_cases hi : fitsK 35 M I = true
   · have HFI := Lib.hid hi
     by_cases ht : fitsK 36 M T = true
     · have HFT := Lib.hid ht
       have hbo : bothK M S I = true := by unfold bothK; rw [hs, hi]; rfl
       rw [hbo, ht, Bool.true_and, Bool.true_and] at hR
       have HE := Lib.hid (eval_one hbo)
       obtain ⟨VV, hVV⟩ : ∃ VV, VV = evalL M S I := ⟨_, rfl⟩
       rw [← hVV] at hR
       have HVK := Lib.hid (show ∀ j, j < M.nodes.length → valB (M.nodes.getD j Nd.zero) (VV.getD j []) = true by rw [hVV]; exact evalN_ok HE.out.2.1 HE.out.2.2.1 HE.out.2.2.2.1 M.nodes.length (Nat.le_refl _))
       have HVL := Lib.hid (show VV.length = M.nodes.length by rw [hVV]; exact evalN_length _ _ _ _)
       have HEQ := Lib.hid ((stepK_eq ht HVK.out).trans hR)
       have HVV := Lib.hid hVV
       clear hVV
       have HCE := Lib.hid (fits_cell (fitsK_code HFT.out).2)
       have HBD := Lib.hid (binds_parts (codeN_parts (fitsK_code HFT.out).1).2.2.2.1)
       have HNB := Lib.hid (codeN_parts (fitsK_code HFT.out).1).2.1
       clear hR hs hi ht hbo
       go_upto_region 5 with (first | (go_at_call 106; (with_reducible refine (Calls.later_eq (u := u0) (StateFits_calls _ sv M S _ (HM1.out.later u0) (HUS.out.later u0) HSZ.out HNM.out) (congrArg Value.bool HFS.out)).mono ?_); rintro e w' ⟨rfl, u1, rfl⟩) | (go_at_call 107; refine (Calls.later_eq (u := u1) (InputFits_calls _ _ M I _ (HM1.out.later u1) (HUI.out.later u1) HSZ.out HNM.out) (congrArg Value.bool HFI.out)).mono ?_; rintro e w' ⟨rfl, u2, rfl⟩) | (go_at_call 106; (with_reducible refine (Calls.later_eq (u := u2) (StateFits_calls _ (.slice TA T.length td) M T _ (HM1.out.later u2) (HUT.out.later u2) HSZ.out HNM.out) (congrArg Value.bool HFT.out)).mono ?_); rintro e w' ⟨rfl, u3, rfl⟩) | (go_at_call 109; refine (l4All_calls _ _ _ M S I _ (HM1.out.later u3) (HUS.out.later u3) (HUI.out.later u3) HE.out.2.1 HE.out.2.2.1 HE.out.2.2.2.1 HSZ.out).mono ?_; rintro e w' ⟨fv, fs, rfl, hb, hac⟩; have HFV := Lib.hid (show VlAt w' fv VV by rw [HVV.out]; exact hac.vlAt (by rw [evalN_length]; have := HSZ.out; omega)); obtain ⟨u4, h2⟩ := u3.step hb; subst h2; clear hb hac) | (go_at_call 116; refine (l2Places_calls _ M 36 _ (HM1.out.later u4) HSZ.out).mono ?_; rintro e w' ⟨pv, rfl, hb, hown⟩; have HFV := Lib.hid (HFV.out.below hb); have HPV := Lib.hid (places_slN hown HSZ.out); obtain ⟨u5, h3⟩ := u4.step hb; subst h3; clear hb hown))
       have HBW := Lib.hid (u5.back HB.out)
       have HLW : LaterC w1 u5.val := ⟨u5, rfl⟩
       have m0 := lift_cell HLW m0
       have m1 := lift_cell HLW m1
       have m2 := lift_cell HLW m2
       have m3 := lift_cell HLW m3
       have m4 := lift_cell HLW m4
       have HBBW := Lib.hid (HB2.out.below HLW.below)
       clear HLW
       generalize u5.val = W at *
       obtain ⟨PA, pc, rfl, -, hpl, hPA⟩ := HPV.out
       obtain ⟨FA, fc, rfl, -, hfl, hFA⟩ := HFV.out
       have HNO := Lib.hid (show ∀ k, k < (plK M).length → stateOk' M.nexts VV (plK M) T k = false → R = false from fun k h1 h2 => HEQ.out ▸ range_no h1 h2)
       have HYES := Lib.hid (show (∀ k, k < (plK M).length → stateOk' M.nexts VV (plK M) T k = true) → R = true from fun h => HEQ.out ▸ range_all h)
       generalize hq : (placesN 36 M.nodes M.nodes.length).length = q at *
       have HQ := Lib.hid hq
       generalize hy : T.length = y at *
       have HY := Lib.hid hy
       generalize hp : VV.length = p at *
       have HP := Lib.hid hp
       clear hq hy hp
       refine at_world (w := W) ?_
       intro w0
       go_wp2
       go_loopw [11] (fun i wr => ∃ k : Nat, k ≤ q ∧ i = .int .i64 k ∧ Hid (∀ j, j < k → stateOk' M.nexts VV (plK M) T j = true) ∧ LaterC W wr) (fun i _ => q - (intOf i).toNat)
       case atStart => exact ⟨0, Nat.zero_le _, rfl, Lib.hid (fun j hj => absurd hj (Nat.not_lt_zero _)), ⟨w0, rfl⟩⟩
       case round =>
        obtain ⟨k, hk, rfl, hto, ⟨u, rfl⟩⟩ := hrel
        by_cases hlt : k < q
        · have hlt' : (k : Int) < q := by omega
          have hgp := getD_at (show k < (placesN 36 M.nodes M.nodes.length).length by rw [HQ.out]; exact hlt) 0
          obtain ⟨pb, po, rfl, hpx⟩ := hPA k _ hgp
          have HCK := Lib.hid (HCE.out.2 k hlt)
          have HSO := Lib.hid (show stateOk' M.nexts VV (plK M) T k = (decide (bdN ((plK M).getD k 0) M.nexts < 0) || decide (T.getD k [] = vN VV (bdN ((plK M).getD k 0) M.nexts))) from rfl)
          obtain ⟨st, hst⟩ : ∃ st, st = (plK M).getD k 0 := ⟨_, rfl⟩
          rw [← hst] at HSO HCK
          have HST := Lib.hid hst
          have p0 : ∀ l : Later W, l.val.cell? ⟨pb, po + k, none⟩ = some (.int .i64 st) := by rw [hst]; exact hpx.int (Below.refl _ _)
          clear hst hgp hpx hPA
          have HTO1 := Lib.hid (show stateOk' M.nexts VV (plK M) T k = true → ∀ j, j < k + 1 → stateOk' M.nexts VV (plK M) T j = true from fun h j hj => by
           rcases Nat.lt_or_ge j k with g | g
           · exact hto.out j g
           · obtain rfl : j = k := by omega
             exact h)
          rcases bd_cases st M.nexts with hb1 | ⟨b, hb2, hb3, hb4⟩
          · have HK1 := Lib.hid hb1
            have HTO := Lib.hid (HTO1.out (by rw [HSO.out, hb1]; rfl))
            clear hb1 hTA hFA
            go_wp2
            refine wp_region_later (w0 := W) (by kernel_rfl) (by kernel_rfl) ⟨_, rfl⟩ ?_
            repeat (go_big_quiet_step ((go_at_call 117; exact Calls.later_eq (l4Bound_calls _ M.nexts st _ (HBBW.out.later _)) (congrArg (Value.int .i64) HK1.out))))
            refine wpQuiet_nil ?_
            rintro _ ⟨v1, rfl⟩
            go_wp2
            refine wp_region_later (w0 := W) (by kernel_rfl) (by kernel_rfl) ⟨_, rfl⟩ ?_
            repeat (go_big_quiet_step (fail))
            refine wpQuiet_nil ?_
            rintro _ ⟨v2, rfl⟩
            go_wp2
            go_roundw
            case rel => exact ⟨k + 1, by omega, by go_num, HTO, ⟨v2, rfl⟩⟩
            case measure => simp [intOf] <;> omega
          · have hbb := HBD.out.2 b hb2
            have hpt := bound_parts hbb
            obtain ⟨nd, hnd⟩ := Int.eq_ofNat_of_zero_le hpt.2.1.1
            have hvk := HVK.out nd (by omega)
            have hsk := node_sok HNB.out (show nd < M.nodes.length by omega)
            have HV1 := Lib.hid (val_one hvk hsk)
            have hlen := step_len hbb (xs := VV.getD nd []) (by unfold pN; rw [hnd, Int.toNat_natCast]; exact hvk)
            rw [hb3] at hlen
            have HLN := Lib.hid hlen
            have HK1 := Lib.hid (hb4.trans hnd)
            have hndp : nd < p := by have := HVL.out; omega
            have hndp' : (nd : Int) < p := by omega
            have hky : k < y := by have h1 := HCE.out.1; omega
            have hky' : (k : Int) < y := by omega
            obtain ⟨tb, tp, sx, rfl, htc, hts⟩ := hTA k _ (getD_at (show k < T.length by rw [HY.out]; exact hky) [])
            obtain ⟨fb, fo, fx, rfl, hfc, hfs⟩ := hFA nd _ (getD_at (show nd < VV.length by rw [HP.out]; exact hndp) [])
            have HSO2 := Lib.hid (show stateOk' M.nexts VV (plK M) T k = decide (T.getD k [] = VV.getD nd []) by
             rw [HSO.out, HK1.out, decide_eq_false (show ¬ ((nd : Int) < 0) by omega), Bool.false_or]
             unfold vN
             simp only [Int.toNat_natCast])
            generalize hte : T.getD k [] = ts at *
            generalize hve : VV.getD nd [] = vs at *
            have HTS := Lib.hid (hts.below HBW.out)
            have HFS2 := Lib.hid hfs
            have HTL := Lib.hid (show ts.length = cellN M.nodes st from HCK.out)
            have HTM := Lib.hid (show ts.length ≤ 281474976710656 by obtain ⟨_, _, _, _, h, _⟩ := hts; exact h)
            obtain ⟨tA, tc, rfl, -⟩ := hts
            obtain ⟨fA, fc2, rfl, -⟩ := hfs
            have e2 : ∀ l : Later W, l.val.cell? ⟨tb, tp + k, none⟩ = some (.slice tA ts.length tc) := Later.cell (keepcell HBW.out htc)
            have e3 : ∀ l : Later W, l.val.cell? ⟨fb, fo + nd, none⟩ = some (.slice fA vs.length fc2) := Later.cell hfc
            have hk0 : decide ((0 : Int) ≤ (nd : Int)) = true := decide_eq_true (by omega)
            have HTC := Lib.hid (show ts.length ≤ 1048576 by have h1 := HTL.out; have h2 := (cells_bits (pN M.nodes st).idx (pN M.nodes st).wid).2.2.2; unfold cellN at h1; omega)
            clear htc hfc hlen hvk hsk hpt hbb hb2 hb3 hb4 hTA hFA hte hve hto hnd
            go_wp2
            refine wp_region_later (w0 := W) (by kernel_rfl) (by kernel_rfl) ⟨_, rfl⟩ ?_
            repeat (go_big_quiet_step ((go_at_call 117; exact Calls.later_eq (l4Bound_calls _ M.nexts st _ (HBBW.out.later _)) (congrArg (Value.int .i64) HK1.out))))
            refine wpQuiet_nil ?_
            rintro _ ⟨v1, rfl⟩
            go_upto_region 9 with fail
            by_cases hok : ts = vs
            · have HOK := Lib.hid (decide_eq_true hok)
              have HTO := Lib.hid (HTO1.out (by rw [HSO2.out]; exact decide_eq_true hok))
              clear hok
              refine wp_region_later (w0 := W) (by kernel_rfl) (by kernel_rfl) ⟨_, rfl⟩ ?_
              repeat (go_big_quiet_step ((go_at_call 118; exact Calls.later_eq (l4Same_calls _ _ ts vs _ (HTS.out.later _) (HFS2.out.later _) (HTL.out.trans HLN.out.symm)) (congrArg Value.bool HOK.out))))
              refine wpQuiet_nil ?_
              rintro _ ⟨v2, rfl⟩
              go_wp2
              go_roundw
              case rel => exact ⟨k + 1, by omega, by go_num, HTO, ⟨v2, rfl⟩⟩
              case measure => simp [intOf] <;> omega
            · have HOK := Lib.hid (decide_eq_false hok)
              have HR := Lib.hid (HNO.out k hlt (by rw [HSO2.out]; exact decide_eq_false hok))
              clear hok
              refine wp_region_later (w0 := W) (by kernel_rfl) (by kernel_rfl) ⟨_, rfl⟩ ?_
              repeat (go_big_quiet_step ((go_at_call 118; exact Calls.later_eq (l4Same_calls _ _ ts vs _ (HTS.out.later _) (HFS2.out.later _) (HTL.out.trans HLN.out.symm)) (congrArg Value.bool HOK.out))))
              refine wpQuiet_nil ?_
              rintro _ ⟨v2, rfl⟩
              go_wp2
              go_ret
              exact ⟨ret_eq (congrArg Value.bool HR.out.symm), v2.back HBW.out⟩
        · obtain rfl : k = q := by omega
          have HR := Lib.hid (HYES.out hto.out)
          clear hTA hFA hPA hto
          go_wp2
          go_ret
          exact ⟨ret_eq (congrArg Value.bool HR.out.symm), u.back HBW.out⟩
     · have ht := eq_false_of_ne_true ht
       have HFT := Lib.hid ht
       have HR := Lib.hid (show R = false by rw [← hR, ht, Bool.false_and, Bool.and_false])
       clear hR hs hi ht hTA
       go_wp2_with (first | (go_at_call 106; (with_reducible refine (Calls.later_eq (u := u0) (StateFits_calls _ sv M S _ (HM1.out.later u0) (HUS.out.later u0) HSZ.out HNM.out) (congrArg Value.bool HFS.out)).mono ?_); rintro e w' ⟨rfl, u1, rfl⟩) | (go_at_call 107; refine (Calls.later_eq (u := u1) (InputFits_calls _ _ M I _ (HM1.out.later u1) (HUI.out.later u1) HSZ.out HNM.out) (congrArg Value.bool HFI.out)).mono ?_; rintro e w' ⟨rfl, u2, rfl⟩) | (go_at_call 106; (with_reducible refine (Calls.later_eq (u := u2) (StateFits_calls _ (.slice TA T.length td) M T _ (HM1.out.later u2) (HUT.out.later u2) HSZ.out HNM.out) (congrArg Value.bool HFT.out)).mono ?_); rintro e w' ⟨rfl, u3, rfl⟩))
       go_ret
       exact ⟨ret_eq (congrArg Value.bool HR.out.symm), u3.back HB.out⟩
   · have hi := eq_false_of_ne_true hi
     have HFI := Lib.hid hi
     have HR := Lib.hid (show R = false by rw [← hR]; unfold bothK; rw [hs, hi]; rfl)
     clear hR hs hi hTA
     go_wp2_with (first | (go_at_call 106; (with_reducible refine (Calls.later_eq (u := u0) (StateFits_calls _ sv M S _ (HM1.out.later u0) (HUS.out.later u0) HSZ.out HNM.out) (congrArg Value.bool HFS.out)).mono ?_); rintro e w' ⟨rfl, u1, rfl⟩) | (go_at_call 107; refine (Calls.later_eq (u := u1) (InputFits_calls _ _ M I _ (HM1.out.later u1) (HUI.out.later u1) HSZ.out HNM.out) (congrArg Value.bool HFI.out)).mono ?_; rintro e w' ⟨rfl, u2, rfl⟩))
     go_ret
     exact ⟨ret_eq (congrArg Value.bool HR.out.symm), u2.back HB.out⟩
 · have hs := eq_false_of_ne_true hs
   have HFS := Lib.hid hs
   have HR := Lib.hid (show R = false by rw [← hR]; unfold bothK; rw [hs]; rfl)
   clear hR hs hTA
   go_wp2_with (go_at_call 106; (with_reducible refine (Calls.later_eq (u := u0) (StateFits_calls _ sv M S _ (HM1.out.later u0) (HUS.out.later u0) HSZ.out HNM.out) (congrArg Value.bool HFS.out)).mono ?_); rintro e w' ⟨rfl, u1, rfl⟩)
   go_ret
   exact ⟨ret_eq (congrArg Value.bool HR.out.symm), u1.back HB.out⟩
end Go.Proofs.YtbenebcphaiohaaGreat
namespace Go.Proofs.YtbenebcphaiohaaGreat
open Go.RowKit
theorem FnExactInitFits_calls (mv lv1 : Value) (M : Md) (L1 : List (List Int)) (w : World) (hM : MdAt w mv M) (hl1 : VlAt w lv1 L1) (hnm : ∀ x, x ∈ M.nodes → x.name.size ≤ 140737488351232) (hw1 : ∀ b, b ∈ M.inits → (Lit.int .i64 b.st).wf = true) (hw2 : ∀ b, b ∈ M.nexts → (Lit.int .i64 b.st).wf = true) :
 Makes Tryz.prog 9 #[mv, lv1] w (.bool true) := by
 have HM := Lib.hid hM
 have HNM := Lib.hid hnm
 have HW1 := Lib.hid hw1
 have HW2 := Lib.hid hw2
 have HSZ := Lib.hid (show ∀ x ∈ M.nodes, x.name.size ≤ 281474976710656 from fun x hx => by have := hnm x hx; omega)
 have HV1 := Lib.hid hl1
 obtain ⟨s0, s1, s2, s3, s4, rfl, -⟩ := hM.at_
 clear hM hnm hw1 hw2 hl1
 go_enter Tryz.func9, Tryz.ntmps9
 have HB := Lib.hid (box_below w #[s0, s1, s2, s3, s4] 47)
 have m0 := box_cell w #[s0, s1, s2, s3, s4] 47 0 _ rfl
 have m1 := box_cell w #[s0, s1, s2, s3, s4] 47 1 _ rfl
 have m2 := box_cell w #[s0, s1, s2, s3, s4] 47 2 _ rfl
 have m3 := box_cell w #[s0, s1, s2, s3, s4] 47 3 _ rfl
 have m4 := box_cell w #[s0, s1, s2, s3, s4] 47 4 _ rfl
 go_upto_region 1 with fail
 generalize w.alloc (.cells #[s0, s1, s2, s3, s4] 47) = w1 at *
 have m0 : ∀ u : Later w1, u.val.cell? ⟨w.heap.size, 0, none⟩ = some s0 := m0
 have m1 : ∀ u : Later w1, u.val.cell? ⟨w.heap.size, 1, none⟩ = some s1 := m1
 have m2 : ∀ u : Later w1, u.val.cell? ⟨w.heap.size, 2, none⟩ = some s2 := m2
 have m3 : ∀ u : Later w1, u.val.cell? ⟨w.heap.size, 3, none⟩ = some s3 := m3
 have m4 : ∀ u : Later w1, u.val.cell? ⟨w.heap.size, 4, none⟩ = some s4 := m4
 have HM1 := Lib.hid (HM.out.below HB.out)
 have HU1 := Lib.hid (HV1.out.below HB.out)
 refine at_world (w := w1) ?_
 intro u0
 go_upto_region 3 with (go_at_call 22; refine (szModel_calls _ M _ (HM1.out.later u0) HSZ.out).mono ?_; rintro e w' ⟨r, rfl, hb, hr⟩; obtain ⟨u1, hu1⟩ := u0.step hb; subst hu1; have HL := Lib.hid hr; clear hb hr)
 by_cases hneg : r < 0
 · go_wp2
   go_ret
   exact ⟨rfl, u1.back HB.out⟩
 have HLEN := Lib.hid (show M.nodes.length ≤ 1048576 ∧ M.inits.length ≤ 1048576 ∧ M.nexts.length ≤ 1048576 ∧ M.bads.length ≤ 1048576 ∧ M.holds.length ≤ 1048576 by
  have := HL.out
  unfold LeftOf at this
  omega)
 have hr0 : r ≤ 1048576 := by
  have := HL.out
  unfold LeftOf at this
  omega
 go_upto_region 6 with (go_at_call 29; refine (szValueS_calls _ L1 r _ (HU1.out.later u1) (by omega) (by omega)).mono ?_; rintro e w' ⟨q1, rfl, hb, hr⟩; obtain ⟨c1, hc⟩ := u1.step hb; subst hc; have HQ1 := Lib.hid hr; clear hb hr)
 by_cases hneg1 : q1 < 0
 · go_wp2
   go_ret
   exact ⟨rfl, c1.back HB.out⟩
 have HLV1 := Lib.hid (show L1.length ≤ 1048576 ∧ ∀ xs ∈ L1, xs.length ≤ 1048576 by
  have := HQ1.out
  unfold LeftV at this
  refine ⟨by omega, fun xs hx => ?_⟩
  rcases this with h | ⟨h0, h1, h2⟩
  · omega
  · have := h2 xs hx; omega)
 have hq1 : q1 ≤ 1048576 := by
  have := HQ1.out
  unfold LeftV at this
  omega
 clear HL HQ1
 go_wp2_with fail
 refine (toModel_at _ M _ (HM1.out.later c1) HLEN.out.1 HLEN.out.2.1 HLEN.out.2.2.1 HLEN.out.2.2.2.1 HLEN.out.2.2.2.2).mono ?_
 rintro e w' ⟨t0, t1, t2, t3, t4, rfl, hb, hc⟩
 obtain ⟨d0, hd⟩ := c1.step hb
 subst hd
 have HC := Lib.hid hc
 clear hb hc
 go_wp2_with fail
 refine (toValueS_calls _ L1 _ (HU1.out.later d0) HLV1.out.1 HLV1.out.2).mono ?_
 rintro e w' ⟨y1, ys1, rfl, hb, hr⟩
 have HC := Lib.hid (HC.out.below hb)
 have HY1 := Lib.hid hr.vlAt
 obtain ⟨d1, hd⟩ := d0.step hb
 subst hd
 clear hb hr
 generalize hR : initK M L1 = R at *
 have ER := Lib.hid hR
 clear hR
 go_wp2_with fail
 refine (Calls.later_eq (u := d1) (InitFits_calls _ _ M L1 _ HC.out HY1.out HLEN.out.1 HNM.out) (congrArg Value.bool ER.out)).mono ?_
 rintro e w' ⟨rfl, e0, rfl⟩
 clear HC HY1
 go_wp2_with fail
 refine (toModel_at _ M _ (HM1.out.later e0) HLEN.out.1 HLEN.out.2.1 HLEN.out.2.2.1 HLEN.out.2.2.2.1 HLEN.out.2.2.2.2).mono ?_
 rintro e w' ⟨x0, x1, x2, x3, x4, rfl, hb, hc⟩
 obtain ⟨e1, he⟩ := e0.step hb
 subst he
 have HC2 := Lib.hid hc
 clear hb hc
 go_wp2_with fail
 have HB2 := Lib.hid (show LaterC w1 (e1.val.alloc (Obj.cells #[slOf x0 M.nodes, slOf x1 M.inits, slOf x2 M.nexts, slOf x3 M.bads, slOf x4 M.holds] 27)) from LaterC.alloc' ⟨e1, rfl⟩ _)
 have HC3 := Lib.hid (show MdAt (e1.val.alloc (Obj.cells #[slOf x0 M.nodes, slOf x1 M.inits, slOf x2 M.nexts, slOf x3 M.bads, slOf x4 M.holds] 27)) (Value.agg #[slOf x0 M.nodes, slOf x1 M.inits, slOf x2 M.nexts, slOf x3 M.bads, slOf x4 M.holds]) M from HC2.out.below ((Below.refl _ _).alloc (Nat.le_refl _) _))
 have b0 := box_cell e1.val #[slOf x0 M.nodes, slOf x1 M.inits, slOf x2 M.nexts, slOf x3 M.bads, slOf x4 M.holds] 27 0 _ rfl
 have b1 := box_cell e1.val #[slOf x0 M.nodes, slOf x1 M.inits, slOf x2 M.nexts, slOf x3 M.bads, slOf x4 M.holds] 27 1 _ rfl
 have b2 := box_cell e1.val #[slOf x0 M.nodes, slOf x1 M.inits, slOf x2 M.nexts, slOf x3 M.bads, slOf x4 M.holds] 27 2 _ rfl
 have b3 := box_cell e1.val #[slOf x0 M.nodes, slOf x1 M.inits, slOf x2 M.nexts, slOf x3 M.bads, slOf x4 M.holds] 27 3 _ rfl
 have b4 := box_cell e1.val #[slOf x0 M.nodes, slOf x1 M.inits, slOf x2 M.nexts, slOf x3 M.bads, slOf x4 M.holds] 27 4 _ rfl
 generalize e1.val.alloc (Obj.cells #[slOf x0 M.nodes, slOf x1 M.inits, slOf x2 M.nexts, slOf x3 M.bads, slOf x4 M.holds] 27) = w2 at *
 generalize e1.val.heap.size = G at *
 have b0 : ∀ u : Later w2, u.val.cell? ⟨G, 0, none⟩ = some (slOf x0 M.nodes) := b0
 have b1 : ∀ u : Later w2, u.val.cell? ⟨G, 1, none⟩ = some (slOf x1 M.inits) := b1
 have b2 : ∀ u : Later w2, u.val.cell? ⟨G, 2, none⟩ = some (slOf x2 M.nexts) := b2
 have b3 : ∀ u : Later w2, u.val.cell? ⟨G, 3, none⟩ = some (slOf x3 M.bads) := b3
 have b4 : ∀ u : Later w2, u.val.cell? ⟨G, 4, none⟩ = some (slOf x4 M.holds) := b4
 have n0 := Later.re m0 HB2.out
 have n1 := Later.re m1 HB2.out
 have n2 := Later.re m2 HB2.out
 have n3 := Later.re m3 HB2.out
 have n4 := Later.re m4 HB2.out
 clear m0 m1 m2 m3 m4 HC2
 have HM3 := Lib.hid (HM1.out.below HB2.out.below)
 have HU1 := Lib.hid (HU1.out.below HB2.out.below)
 refine calls_at (w := w2) fun v0 => ?_
 refine (toValueS_calls _ L1 _ (HU1.out.later v0) HLV1.out.1 HLV1.out.2).mono ?_
 rintro e w' ⟨z1, zs1, rfl, hb, hr⟩
 have HZ1 := Lib.hid hr.vlAt
 obtain ⟨v1, hv⟩ := v0.step hb
 subst hv
 clear hb hr
 go_wp2_with fail
 refine (InitFits'_calls _ _ M L1 _ (HC3.out.later v1) HZ1.out HLEN.out.1 HNM.out HW1.out HW2.out).mono ?_
 rintro e w' ⟨he, hb⟩
 subst he
 have HZ1 := Lib.hid (HZ1.out.below hb)
 obtain ⟨p0, hp⟩ := v1.step hb
 subst hp
 clear hb
 rw [show Value.bool (initK M L1) = Value.bool R from congrArg Value.bool ER.out]
 go_upto_region 14 with fail
 have HQL := Lib.hid (show ∀ w', LaterC w2 w' → w'.cell? ⟨w.heap.size, 0, none⟩ = some s0 ∧ w'.cell? ⟨w.heap.size, 1, none⟩ = some s1 ∧ w'.cell? ⟨w.heap.size, 2, none⟩ = some s2 ∧ w'.cell? ⟨w.heap.size, 3, none⟩ = some s3 ∧ w'.cell? ⟨w.heap.size, 4, none⟩ = some s4 ∧ w'.cell? ⟨G, 0, none⟩ = some (slOf x0 M.nodes) ∧ w'.cell? ⟨G, 1, none⟩ = some (slOf x1 M.inits) ∧ w'.cell? ⟨G, 2, none⟩ = some (slOf x2 M.nexts) ∧ w'.cell? ⟨G, 3, none⟩ = some (slOf x3 M.bads) ∧ w'.cell? ⟨G, 4, none⟩ = some (slOf x4 M.holds) from fun W h => by
  obtain ⟨v, rfl⟩ := h
  exact ⟨n0 v, n1 v, n2 v, n3 v, n4 v, b0 v, b1 v, b2 v, b3 v, b4 v⟩)
 go_region_held3 (fun w' => w'.cell? ⟨w.heap.size, 0, none⟩ = some s0 ∧ w'.cell? ⟨w.heap.size, 1, none⟩ = some s1 ∧ w'.cell? ⟨w.heap.size, 2, none⟩ = some s2 ∧ w'.cell? ⟨w.heap.size, 3, none⟩ = some s3 ∧ w'.cell? ⟨w.heap.size, 4, none⟩ = some s4 ∧ w'.cell? ⟨G, 0, none⟩ = some (slOf x0 M.nodes) ∧ w'.cell? ⟨G, 1, none⟩ = some (slOf x1 M.inits) ∧ w'.cell? ⟨G, 2, none⟩ = some (slOf x2 M.nexts) ∧ w'.cell? ⟨G, 3, none⟩ = some (slOf x3 M.bads) ∧ w'.cell? ⟨G, 4, none⟩ = some (slOf x4 M.holds)) ((refine HQL.out _ ?_; repeat (first | exact ⟨_, rfl⟩ | refine LaterC.drew' ?_ | refine LaterC.alloc' ?_ _))) (first | (go_at_call 24; refine (toModel_at _ M _ (HM3.out.below (LaterC.below (by repeat (first | exact ⟨_, rfl⟩ | refine LaterC.drew' ?_ | refine LaterC.alloc' ?_ _)))) HLEN.out.1 HLEN.out.2.1 HLEN.out.2.2.1 HLEN.out.2.2.2.1 HLEN.out.2.2.2.2).mono ?_; rintro e w' ⟨y0, y1, y2, y3, y4, rfl, hb, hc⟩; have HZ1 : Hid (VlAt w' z1 L1) := Lib.hid (by first | exact HZ1.out.below hb | exact (HZ1.out.below (Below.refl _ _).drew).below hb); obtain ⟨p1, hp⟩ := laterC_step (w1 := w2) (by repeat (first | exact ⟨_, rfl⟩ | refine LaterC.drew' ?_ | refine LaterC.alloc' ?_ _)) hb; subst hp; have HC4 := Lib.hid hc; clear hb hc) | (go_at_call 26; refine (eqModel_calls _ _ M _ (HC3.out.below (LaterC.below (by repeat (first | exact ⟨_, rfl⟩ | refine LaterC.drew' ?_ | refine LaterC.alloc' ?_ _)))) (HC4.out.below (by first | exact Below.refl _ _ | exact (Below.refl _ _).drew))).mono ?_; rintro e w' ⟨rfl, hb⟩; have HZ1 : Hid (VlAt w' z1 L1) := Lib.hid (by first | exact HZ1.out.below hb | exact (HZ1.out.below (Below.refl _ _).drew).below hb); obtain ⟨p2, hp⟩ := laterC_step (w1 := w2) (by repeat (first | exact ⟨_, rfl⟩ | refine LaterC.drew' ?_ | refine LaterC.alloc' ?_ _)) hb; subst hp; clear hb))
 go_wp2_with fail
 refine (toValueS_calls _ L1 _ (HU1.out.later p2) HLV1.out.1 HLV1.out.2).mono ?_
 rintro e w' ⟨k1, ks1, rfl, hb, hr⟩
 have HZ1 := Lib.hid (HZ1.out.below hb)
 have HK1 := Lib.hid hr.vlAt
 obtain ⟨g1, hg⟩ := p2.step hb
 subst hg
 clear hb hr
 go_wp2_with fail
 refine (eqValueS_calls _ _ L1 _ HZ1.out HK1.out).mono ?_
 rintro e w' ⟨rfl, hb⟩
 obtain ⟨l1, hg⟩ := g1.step hb
 subst hg
 clear hb
 go_wp2
 go_ret
 exact ⟨rfl, l1.back (below_of HB.out HB2.out)⟩
end Go.Proofs.YtbenebcphaiohaaGreat
namespace Go.Proofs.YtbenebcphaiohaaGreat
open Go.RowKit
theorem FnExactStepFits_calls (mv lv1 lv2 lv3 : Value) (M : Md) (L1 L2 L3 : List (List Int)) (w : World) (hM : MdAt w mv M) (hl1 : VlAt w lv1 L1) (hl2 : VlAt w lv2 L2) (hl3 : VlAt w lv3 L3) (hnm : ∀ x, x ∈ M.nodes → x.name.size ≤ 140737488351232) (hw1 : ∀ b, b ∈ M.inits → (Lit.int .i64 b.st).wf = true) (hw2 : ∀ b, b ∈ M.nexts → (Lit.int .i64 b.st).wf = true) :
 Makes Tryz.prog 8 #[mv, lv1, lv2, lv3] w (.bool true) := by
 have HM := Lib.hid hM
 have HNM := Lib.hid hnm
 have HW1 := Lib.hid hw1
 have HW2 := Lib.hid hw2
 have HSZ := Lib.hid (show ∀ x ∈ M.nodes, x.name.size ≤ 281474976710656 from fun x hx => by have := hnm x hx; omega)
 have HV1 := Lib.hid hl1
 have HV2 := Lib.hid hl2
 have HV3 := Lib.hid hl3
 obtain ⟨s0, s1, s2, s3, s4, rfl, -⟩ := hM.at_
 clear hM hnm hw1 hw2 hl1 hl2 hl3
 go_enter Tryz.func8, Tryz.ntmps8
 have HB := Lib.hid (box_below w #[s0, s1, s2, s3, s4] 47)
 have m0 := box_cell w #[s0, s1, s2, s3, s4] 47 0 _ rfl
 have m1 := box_cell w #[s0, s1, s2, s3, s4] 47 1 _ rfl
 have m2 := box_cell w #[s0, s1, s2, s3, s4] 47 2 _ rfl
 have m3 := box_cell w #[s0, s1, s2, s3, s4] 47 3 _ rfl
 have m4 := box_cell w #[s0, s1, s2, s3, s4] 47 4 _ rfl
 go_upto_region 1 with fail
 generalize w.alloc (.cells #[s0, s1, s2, s3, s4] 47) = w1 at *
 have m0 : ∀ u : Later w1, u.val.cell? ⟨w.heap.size, 0, none⟩ = some s0 := m0
 have m1 : ∀ u : Later w1, u.val.cell? ⟨w.heap.size, 1, none⟩ = some s1 := m1
 have m2 : ∀ u : Later w1, u.val.cell? ⟨w.heap.size, 2, none⟩ = some s2 := m2
 have m3 : ∀ u : Later w1, u.val.cell? ⟨w.heap.size, 3, none⟩ = some s3 := m3
 have m4 : ∀ u : Later w1, u.val.cell? ⟨w.heap.size, 4, none⟩ = some s4 := m4
 have HM1 := Lib.hid (HM.out.below HB.out)
 have HU1 := Lib.hid (HV1.out.below HB.out)
 have HU2 := Lib.hid (HV2.out.below HB.out)
 have HU3 := Lib.hid (HV3.out.below HB.out)
 refine at_world (w := w1) ?_
 intro u0
 go_upto_region 3 with (go_at_call 22; refine (szModel_calls _ M _ (HM1.out.later u0) HSZ.out).mono ?_; rintro e w' ⟨r, rfl, hb, hr⟩; obtain ⟨u1, hu1⟩ := u0.step hb; subst hu1; have HL := Lib.hid hr; clear hb hr)
 by_cases hneg : r < 0
 · go_wp2
   go_ret
   exact ⟨rfl, u1.back HB.out⟩
 have HLEN := Lib.hid (show M.nodes.length ≤ 1048576 ∧ M.inits.length ≤ 1048576 ∧ M.nexts.length ≤ 1048576 ∧ M.bads.length ≤ 1048576 ∧ M.holds.length ≤ 1048576 by
  have := HL.out
  unfold LeftOf at this
  omega)
 have hr0 : r ≤ 1048576 := by
  have := HL.out
  unfold LeftOf at this
  omega
 go_upto_region 6 with (go_at_call 29; refine (szValueS_calls _ L1 r _ (HU1.out.later u1) (by omega) (by omega)).mono ?_; rintro e w' ⟨q1, rfl, hb, hr⟩; obtain ⟨c1, hc⟩ := u1.step hb; subst hc; have HQ1 := Lib.hid hr; clear hb hr)
 by_cases hneg1 : q1 < 0
 · go_wp2
   go_ret
   exact ⟨rfl, c1.back HB.out⟩
 have HLV1 := Lib.hid (show L1.length ≤ 1048576 ∧ ∀ xs ∈ L1, xs.length ≤ 1048576 by
  have := HQ1.out
  unfold LeftV at this
  refine ⟨by omega, fun xs hx => ?_⟩
  rcases this with h | ⟨h0, h1, h2⟩
  · omega
  · have := h2 xs hx; omega)
 have hq1 : q1 ≤ 1048576 := by
  have := HQ1.out
  unfold LeftV at this
  omega
 go_upto_region 9 with (go_at_call 29; refine (szValueS_calls _ L2 q1 _ (HU2.out.later c1) (by omega) (by omega)).mono ?_; rintro e w' ⟨q2, rfl, hb, hr⟩; obtain ⟨c2, hc⟩ := c1.step hb; subst hc; have HQ2 := Lib.hid hr; clear hb hr)
 by_cases hneg2 : q2 < 0
 · go_wp2
   go_ret
   exact ⟨rfl, c2.back HB.out⟩
 have HLV2 := Lib.hid (show L2.length ≤ 1048576 ∧ ∀ xs ∈ L2, xs.length ≤ 1048576 by
  have := HQ2.out
  unfold LeftV at this
  refine ⟨by omega, fun xs hx => ?_⟩
  rcases this with h | ⟨h0, h1, h2⟩
  · omega
  · have := h2 xs hx; omega)
 have hq2 : q2 ≤ 1048576 := by
  have := HQ2.out
  unfold LeftV at this
  omega
 go_upto_region 12 with (go_at_call 29; refine (szValueS_calls _ L3 q2 _ (HU3.out.later c2) (by omega) (by omega)).mono ?_; rintro e w' ⟨q3, rfl, hb, hr⟩; obtain ⟨c3, hc⟩ := c2.step hb; subst hc; have HQ3 := Lib.hid hr; clear hb hr)
 by_cases hneg3 : q3 < 0
 · go_wp2
   go_ret
   exact ⟨rfl, c3.back HB.out⟩
 have HLV3 := Lib.hid (show L3.length ≤ 1048576 ∧ ∀ xs ∈ L3, xs.length ≤ 1048576 by
  have := HQ3.out
  unfold LeftV at this
  refine ⟨by omega, fun xs hx => ?_⟩
  rcases this with h | ⟨h0, h1, h2⟩
  · omega
  · have := h2 xs hx; omega)
 have hq3 : q3 ≤ 1048576 := by
  have := HQ3.out
  unfold LeftV at this
  omega
 clear HL HQ1 HQ2 HQ3
 go_wp2_with fail
 refine (toModel_at _ M _ (HM1.out.later c3) HLEN.out.1 HLEN.out.2.1 HLEN.out.2.2.1 HLEN.out.2.2.2.1 HLEN.out.2.2.2.2).mono ?_
 rintro e w' ⟨t0, t1, t2, t3, t4, rfl, hb, hc⟩
 obtain ⟨d0, hd⟩ := c3.step hb
 subst hd
 have HC := Lib.hid hc
 clear hb hc
 go_wp2_with fail
 refine (toValueS_calls _ L1 _ (HU1.out.later d0) HLV1.out.1 HLV1.out.2).mono ?_
 rintro e w' ⟨y1, ys1, rfl, hb, hr⟩
 have HC := Lib.hid (HC.out.below hb)
 have HY1 := Lib.hid hr.vlAt
 obtain ⟨d1, hd⟩ := d0.step hb
 subst hd
 clear hb hr
 go_wp2_with fail
 refine (toValueS_calls _ L2 _ (HU2.out.later d1) HLV2.out.1 HLV2.out.2).mono ?_
 rintro e w' ⟨y2, ys2, rfl, hb, hr⟩
 have HC := Lib.hid (HC.out.below hb)
 have HY1 := Lib.hid (HY1.out.below hb)
 have HY2 := Lib.hid hr.vlAt
 obtain ⟨d2, hd⟩ := d1.step hb
 subst hd
 clear hb hr
 go_wp2_with fail
 refine (toValueS_calls _ L3 _ (HU3.out.later d2) HLV3.out.1 HLV3.out.2).mono ?_
 rintro e w' ⟨y3, ys3, rfl, hb, hr⟩
 have HC := Lib.hid (HC.out.below hb)
 have HY1 := Lib.hid (HY1.out.below hb)
 have HY2 := Lib.hid (HY2.out.below hb)
 have HY3 := Lib.hid hr.vlAt
 obtain ⟨d3, hd⟩ := d2.step hb
 subst hd
 clear hb hr
 generalize hR : stepK M L1 L2 L3 = R at *
 have ER := Lib.hid hR
 clear hR
 go_wp2_with fail
 refine (Calls.later_eq (u := d3) (StepFits_calls _ _ _ _ M L1 L2 L3 _ HC.out HY1.out HY2.out HY3.out HLEN.out.1 HNM.out) (congrArg Value.bool ER.out)).mono ?_
 rintro e w' ⟨rfl, e0, rfl⟩
 clear HC HY1 HY2 HY3
 go_wp2_with fail
 refine (toModel_at _ M _ (HM1.out.later e0) HLEN.out.1 HLEN.out.2.1 HLEN.out.2.2.1 HLEN.out.2.2.2.1 HLEN.out.2.2.2.2).mono ?_
 rintro e w' ⟨x0, x1, x2, x3, x4, rfl, hb, hc⟩
 obtain ⟨e1, he⟩ := e0.step hb
 subst he
 have HC2 := Lib.hid hc
 clear hb hc
 go_wp2_with fail
 have HB2 := Lib.hid (show LaterC w1 (e1.val.alloc (Obj.cells #[slOf x0 M.nodes, slOf x1 M.inits, slOf x2 M.nexts, slOf x3 M.bads, slOf x4 M.holds] 27)) from LaterC.alloc' ⟨e1, rfl⟩ _)
 have HC3 := Lib.hid (show MdAt (e1.val.alloc (Obj.cells #[slOf x0 M.nodes, slOf x1 M.inits, slOf x2 M.nexts, slOf x3 M.bads, slOf x4 M.holds] 27)) (Value.agg #[slOf x0 M.nodes, slOf x1 M.inits, slOf x2 M.nexts, slOf x3 M.bads, slOf x4 M.holds]) M from HC2.out.below ((Below.refl _ _).alloc (Nat.le_refl _) _))
 have b0 := box_cell e1.val #[slOf x0 M.nodes, slOf x1 M.inits, slOf x2 M.nexts, slOf x3 M.bads, slOf x4 M.holds] 27 0 _ rfl
 have b1 := box_cell e1.val #[slOf x0 M.nodes, slOf x1 M.inits, slOf x2 M.nexts, slOf x3 M.bads, slOf x4 M.holds] 27 1 _ rfl
 have b2 := box_cell e1.val #[slOf x0 M.nodes, slOf x1 M.inits, slOf x2 M.nexts, slOf x3 M.bads, slOf x4 M.holds] 27 2 _ rfl
 have b3 := box_cell e1.val #[slOf x0 M.nodes, slOf x1 M.inits, slOf x2 M.nexts, slOf x3 M.bads, slOf x4 M.holds] 27 3 _ rfl
 have b4 := box_cell e1.val #[slOf x0 M.nodes, slOf x1 M.inits, slOf x2 M.nexts, slOf x3 M.bads, slOf x4 M.holds] 27 4 _ rfl
 generalize e1.val.alloc (Obj.cells #[slOf x0 M.nodes, slOf x1 M.inits, slOf x2 M.nexts, slOf x3 M.bads, slOf x4 M.holds] 27) = w2 at *
 generalize e1.val.heap.size = G at *
 have b0 : ∀ u : Later w2, u.val.cell? ⟨G, 0, none⟩ = some (slOf x0 M.nodes) := b0
 have b1 : ∀ u : Later w2, u.val.cell? ⟨G, 1, none⟩ = some (slOf x1 M.inits) := b1
 have b2 : ∀ u : Later w2, u.val.cell? ⟨G, 2, none⟩ = some (slOf x2 M.nexts) := b2
 have b3 : ∀ u : Later w2, u.val.cell? ⟨G, 3, none⟩ = some (slOf x3 M.bads) := b3
 have b4 : ∀ u : Later w2, u.val.cell? ⟨G, 4, none⟩ = some (slOf x4 M.holds) := b4
 have n0 := Later.re m0 HB2.out
 have n1 := Later.re m1 HB2.out
 have n2 := Later.re m2 HB2.out
 have n3 := Later.re m3 HB2.out
 have n4 := Later.re m4 HB2.out
 clear m0 m1 m2 m3 m4 HC2
 have HM3 := Lib.hid (HM1.out.below HB2.out.below)
 have HU1 := Lib.hid (HU1.out.below HB2.out.below)
 have HU2 := Lib.hid (HU2.out.below HB2.out.below)
 have HU3 := Lib.hid (HU3.out.below HB2.out.below)
 refine calls_at (w := w2) fun v0 => ?_
 refine (toValueS_calls _ L1 _ (HU1.out.later v0) HLV1.out.1 HLV1.out.2).mono ?_
 rintro e w' ⟨z1, zs1, rfl, hb, hr⟩
 have HZ1 := Lib.hid hr.vlAt
 obtain ⟨v1, hv⟩ := v0.step hb
 subst hv
 clear hb hr
 go_wp2_with fail
 refine (toValueS_calls _ L2 _ (HU2.out.later v1) HLV2.out.1 HLV2.out.2).mono ?_
 rintro e w' ⟨z2, zs2, rfl, hb, hr⟩
 have HZ1 := Lib.hid (HZ1.out.below hb)
 have HZ2 := Lib.hid hr.vlAt
 obtain ⟨v2, hv⟩ := v1.step hb
 subst hv
 clear hb hr
 go_wp2_with fail
 refine (toValueS_calls _ L3 _ (HU3.out.later v2) HLV3.out.1 HLV3.out.2).mono ?_
 rintro e w' ⟨z3, zs3, rfl, hb, hr⟩
 have HZ1 := Lib.hid (HZ1.out.below hb)
 have HZ2 := Lib.hid (HZ2.out.below hb)
 have HZ3 := Lib.hid hr.vlAt
 obtain ⟨v3, hv⟩ := v2.step hb
 subst hv
 clear hb hr
 go_wp2_with fail
 refine (StepFits'_calls _ _ _ _ M L1 L2 L3 _ (HC3.out.later v3) HZ1.out HZ2.out HZ3.out HLEN.out.1 HNM.out HW1.out HW2.out).mono ?_
 rintro e w' ⟨he, hb⟩
 subst he
 have HZ1 := Lib.hid (HZ1.out.below hb)
 have HZ2 := Lib.hid (HZ2.out.below hb)
 have HZ3 := Lib.hid (HZ3.out.below hb)
 obtain ⟨p0, hp⟩ := v3.step hb
 subst hp
 clear hb
 rw [show Value.bool (stepK M L1 L2 L3) = Value.bool R from congrArg Value.bool ER.out]
 go_upto_region 22 with fail
 have HQL := Lib.hid (show ∀ w', LaterC w2 w' → w'.cell? ⟨w.heap.size, 0, none⟩ = some s0 ∧ w'.cell? ⟨w.heap.size, 1, none⟩ = some s1 ∧ w'.cell? ⟨w.heap.size, 2, none⟩ = some s2 ∧ w'.cell? ⟨w.heap.size, 3, none⟩ = some s3 ∧ w'.cell? ⟨w.heap.size, 4, none⟩ = some s4 ∧ w'.cell? ⟨G, 0, none⟩ = some (slOf x0 M.nodes) ∧ w'.cell? ⟨G, 1, none⟩ = some (slOf x1 M.inits) ∧ w'.cell? ⟨G, 2, none⟩ = some (slOf x2 M.nexts) ∧ w'.cell? ⟨G, 3, none⟩ = some (slOf x3 M.bads) ∧ w'.cell? ⟨G, 4, none⟩ = some (slOf x4 M.holds) from fun W h => by
  obtain ⟨v, rfl⟩ := h
  exact ⟨n0 v, n1 v, n2 v, n3 v, n4 v, b0 v, b1 v, b2 v, b3 v, b4 v⟩)
 go_region_held3 (fun w' => w'.cell? ⟨w.heap.size, 0, none⟩ = some s0 ∧ w'.cell? ⟨w.heap.size, 1, none⟩ = some s1 ∧ w'.cell? ⟨w.heap.size, 2, none⟩ = some s2 ∧ w'.cell? ⟨w.heap.size, 3, none⟩ = some s3 ∧ w'.cell? ⟨w.heap.size, 4, none⟩ = some s4 ∧ w'.cell? ⟨G, 0, none⟩ = some (slOf x0 M.nodes) ∧ w'.cell? ⟨G, 1, none⟩ = some (slOf x1 M.inits) ∧ w'.cell? ⟨G, 2, none⟩ = some (slOf x2 M.nexts) ∧ w'.cell? ⟨G, 3, none⟩ = some (slOf x3 M.bads) ∧ w'.cell? ⟨G, 4, none⟩ = some (slOf x4 M.holds)) ((refine HQL.out _ ?_; repeat (first | exact ⟨_, rfl⟩ | refine LaterC.drew' ?_ | refine LaterC.alloc' ?_ _))) (first | (go_at_call 24; refine (toModel_at _ M _ (HM3.out.below (LaterC.below (by repeat (first | exact ⟨_, rfl⟩ | refine LaterC.drew' ?_ | refine LaterC.alloc' ?_ _)))) HLEN.out.1 HLEN.out.2.1 HLEN.out.2.2.1 HLEN.out.2.2.2.1 HLEN.out.2.2.2.2).mono ?_; rintro e w' ⟨y0, y1, y2, y3, y4, rfl, hb, hc⟩; have HZ1 : Hid (VlAt w' z1 L1) := Lib.hid (by first | exact HZ1.out.below hb | exact (HZ1.out.below (Below.refl _ _).drew).below hb); have HZ2 : Hid (VlAt w' z2 L2) := Lib.hid (by first | exact HZ2.out.below hb | exact (HZ2.out.below (Below.refl _ _).drew).below hb); have HZ3 : Hid (VlAt w' z3 L3) := Lib.hid (by first | exact HZ3.out.below hb | exact (HZ3.out.below (Below.refl _ _).drew).below hb); obtain ⟨p1, hp⟩ := laterC_step (w1 := w2) (by repeat (first | exact ⟨_, rfl⟩ | refine LaterC.drew' ?_ | refine LaterC.alloc' ?_ _)) hb; subst hp; have HC4 := Lib.hid hc; clear hb hc) | (go_at_call 26; refine (eqModel_calls _ _ M _ (HC3.out.below (LaterC.below (by repeat (first | exact ⟨_, rfl⟩ | refine LaterC.drew' ?_ | refine LaterC.alloc' ?_ _)))) (HC4.out.below (by first | exact Below.refl _ _ | exact (Below.refl _ _).drew))).mono ?_; rintro e w' ⟨rfl, hb⟩; have HZ1 : Hid (VlAt w' z1 L1) := Lib.hid (by first | exact HZ1.out.below hb | exact (HZ1.out.below (Below.refl _ _).drew).below hb); have HZ2 : Hid (VlAt w' z2 L2) := Lib.hid (by first | exact HZ2.out.below hb | exact (HZ2.out.below (Below.refl _ _).drew).below hb); have HZ3 : Hid (VlAt w' z3 L3) := Lib.hid (by first | exact HZ3.out.below hb | exact (HZ3.out.below (Below.refl _ _).drew).below hb); obtain ⟨p2, hp⟩ := laterC_step (w1 := w2) (by repeat (first | exact ⟨_, rfl⟩ | refine LaterC.drew' ?_ | refine LaterC.alloc' ?_ _)) hb; subst hp; clear hb))
 go_wp2_with fail
 refine (toValueS_calls _ L1 _ (HU1.out.later p2) HLV1.out.1 HLV1.out.2).mono ?_
 rintro e w' ⟨k1, ks1, rfl, hb, hr⟩
 have HZ1 := Lib.hid (HZ1.out.below hb)
 have HZ2 := Lib.hid (HZ2.out.below hb)
 have HZ3 := Lib.hid (HZ3.out.below hb)
 have HK1 := Lib.hid hr.vlAt
 obtain ⟨g1, hg⟩ := p2.step hb
 subst hg
 clear hb hr
 go_wp2_with fail
 refine (eqValueS_calls _ _ L1 _ HZ1.out HK1.out).mono ?_
 rintro e w' ⟨rfl, hb⟩
 have HZ2 := Lib.hid (HZ2.out.below hb)
 have HZ3 := Lib.hid (HZ3.out.below hb)
 obtain ⟨l1, hg⟩ := g1.step hb
 subst hg
 clear hb
 go_wp2_with fail
 refine (toValueS_calls _ L2 _ (HU2.out.later l1) HLV2.out.1 HLV2.out.2).mono ?_
 rintro e w' ⟨k2, ks2, rfl, hb, hr⟩
 have HZ2 := Lib.hid (HZ2.out.below hb)
 have HZ3 := Lib.hid (HZ3.out.below hb)
 have HK2 := Lib.hid hr.vlAt
 obtain ⟨g2, hg⟩ := l1.step hb
 subst hg
 clear hb hr
 go_wp2_with fail
 refine (eqValueS_calls _ _ L2 _ HZ2.out HK2.out).mono ?_
 rintro e w' ⟨rfl, hb⟩
 have HZ3 := Lib.hid (HZ3.out.below hb)
 obtain ⟨l2, hg⟩ := g2.step hb
 subst hg
 clear hb
 go_wp2_with fail
 refine (toValueS_calls _ L3 _ (HU3.out.later l2) HLV3.out.1 HLV3.out.2).mono ?_
 rintro e w' ⟨k3, ks3, rfl, hb, hr⟩
 have HZ3 := Lib.hid (HZ3.out.below hb)
 have HK3 := Lib.hid hr.vlAt
 obtain ⟨g3, hg⟩ := l2.step hb
 subst hg
 clear hb hr
 go_wp2_with fail
 refine (eqValueS_calls _ _ L3 _ HZ3.out HK3.out).mono ?_
 rintro e w' ⟨rfl, hb⟩
 obtain ⟨l3, hg⟩ := g3.step hb
 subst hg
 clear hb
 go_wp2
 go_ret
 exact ⟨rfl, l3.back (below_of HB.out HB2.out)⟩
end Go.Proofs.YtbenebcphaiohaaGreat
