import Derived.Test.YtbenebcphaiohaaGreatet13
import Derived.Test.YtbenebcphaiohaaGreatet12
import Derived.Deep.Cut
import Derived.Test.YtbenebcphaiohaaGreatet8
import Derived.Deep.RegionHeld3
set_option linter.unusedVariables false
set_option linter.unusedSimpArgs false
set_option maxRecDepth 8000
set_option maxHeartbeats 16000000
namespace Go.Proofs.YtbenebcphaiohaaGreat
open Go.RowKit
def zeroAt (kind : Int) (ns : List Nd) (k : Nat) : List (List Int) := zerosN ns (placesN kind ns k) (placesN kind ns k).length
theorem zerosN_app (ns : List Nd) (ps qs : List Int) : ∀ i, i ≤ ps.length → zerosN ns (ps ++ qs) i = zerosN ns ps i
 | 0, _ => rfl
 | i + 1, h => by
   rw [zerosN, zerosN, zerosN_app ns ps qs i (by omega)]
   have e : ndAt ns (ps ++ qs) i = ndAt ns ps i := by
    unfold ndAt
    rw [getD_left 0 (show i < ps.length by omega)]
   rw [e]
theorem zeroAt_yes {kind : Int} {ns : List Nd} {k : Nat} (h : ((ns.getD k Nd.zero).kind == kind) = true) : zeroAt kind ns (k + 1) = zeroAt kind ns k ++ [List.replicate (cellsN (ns.getD k Nd.zero).idx (ns.getD k Nd.zero).wid).toNat 0] := by
 have e : ndAt ns (placesN kind ns k ++ [(k : Int)]) (placesN kind ns k).length = ns.getD k Nd.zero := by
  unfold ndAt
  rw [getD_last 0, Int.toNat_natCast]
 unfold zeroAt
 rw [placesN_yes h, List.length_append, List.length_singleton, zerosN, zerosN_app _ _ _ _ (Nat.le_refl _), e]
theorem zeroAt_no {kind : Int} {ns : List Nd} {k : Nat} (h : ((ns.getD k Nd.zero).kind == kind) = false) : zeroAt kind ns (k + 1) = zeroAt kind ns k := by
 unfold zeroAt
 rw [placesN_no h]
theorem zeroAt_len (kind : Int) (ns : List Nd) (k : Nat) : (zeroAt kind ns k).length ≤ k := by
 unfold zeroAt
 rw [zerosN_length]
 exact placesN_le _ _ _
theorem l4Fixed_calls (mv : Value) (M : Md) (w : World) (hM : MdAt w mv M) (hn : nodesB M.nodes = true) (h60 : M.nodes.length ≤ 1048576) :
 Calls Tryz.prog 120 #[mv] w fun e w' => ∃ v svs, e = .returned v ∧ Below w.heap.size w w' ∧ AccV w.heap.size w' v svs (fixedL M) := by
 have HM := Lib.hid hM
 obtain ⟨s0, s1, s2, s3, s4, rfl, hS, -, -, -, -⟩ := hM.at_
 obtain ⟨A, c, rfl, hnc, hc', hA⟩ := hS
 clear hM
 obtain ⟨ti, hti⟩ := info_parts info_val
 have HTI := Lib.hid hti
 have HNB := Lib.hid hn
 have H60 := Lib.hid h60
 have HFX := Lib.hid (show fixedL M = evalL M (zeroAt 36 M.nodes M.nodes.length) (zeroAt 35 M.nodes M.nodes.length) from rfl)
 have HFS := Lib.hid (show fitsB M.nodes (placesN 36 M.nodes M.nodes.length) (zeroAt 36 M.nodes M.nodes.length) = true from zeros_fits _ _)
 have HFI := Lib.hid (show fitsB M.nodes (placesN 35 M.nodes M.nodes.length) (zeroAt 35 M.nodes M.nodes.length) = true from zeros_fits _ _)
 generalize hN : M.nodes.length = n at *
 have HN := Lib.hid hN
 have hn : n ≤ 281474976710656 := Nat.le_trans hnc hc'
 clear hN hnc hc' hti
 go_enter Tryz.func120, Tryz.ntmps120
 go_upto_region 1 with fail
 obtain ⟨w1, hw1, HB, m0, m1, m2, m3, m4⟩ := model_box 27 (.slice A n c) s1 s2 s3 s4 w
 rw [hw1]
 clear hw1
 have HM1 := Lib.hid (HM.out.below HB.out)
 go_wp2
 go_loopw [3, 4, 5] (fun s i2 i wr => ∃ (k : Nat) (sv iv : Value) (svs ivs : List Value), k ≤ n ∧ i = .int .i64 k ∧ sv = s ∧ iv = i2 ∧ Hid (TwoZ w1.heap.size wr sv svs (zeroAt 36 M.nodes k) iv ivs (zeroAt 35 M.nodes k)) ∧ LaterC w1 wr) (fun _ _ i _ => n - (intOf i).toNat)
 case atStart => exact ⟨0, _, _, [], [], Nat.zero_le _, rfl, rfl, rfl, Lib.hid ⟨AccZ.nil _ _, AccZ.nil _ _, fun b hb => by cases hb⟩, LaterC.refl _⟩
 case round =>
  obtain ⟨k, sv, iv, svs, ivs, hk, rfl, hsv, hiv, HT, ⟨u, rfl⟩⟩ := hrel
  subst hsv
  subst hiv
  by_cases hlt : k < n
  · have hlt' : (k : Int) < n := by omega
    have hgn := getD_at (show k < M.nodes.length by rw [HN.out]; exact hlt) Nd.zero
    obtain ⟨bn, on, rfl, hnx⟩ := hA k _ hgn
    have HSK := Lib.hid (node_sok HNB.out (show k < M.nodes.length by rw [HN.out]; exact hlt))
    have HY6 := Lib.hid (fun h => zeroAt_yes (kind := 36) (ns := M.nodes) (k := k) h)
    have HY5 := Lib.hid (fun h => zeroAt_yes (kind := 35) (ns := M.nodes) (k := k) h)
    have HN6 := Lib.hid (fun h => zeroAt_no (kind := 36) (ns := M.nodes) (k := k) h)
    have HN5 := Lib.hid (fun h => zeroAt_no (kind := 35) (ns := M.nodes) (k := k) h)
    generalize M.nodes.getD k Nd.zero = x at *
    have p0 : ∀ l : Later w1, l.val.cell? ⟨bn, on + k * 9, none⟩ = some (.int .i64 x.kind) := hnx.at_ HB.out 0 _ rfl
    have p6 : ∀ l : Later w1, l.val.cell? ⟨bn, on + k * 9 + 6, none⟩ = some (.int .i64 x.idx) := hnx.at_ HB.out 6 _ rfl
    have p7 : ∀ l : Later w1, l.val.cell? ⟨bn, on + k * 9 + 7, none⟩ = some (.int .i64 x.wid) := hnx.at_ HB.out 7 _ rfl
    have hcb := cells_bits x.idx x.wid
    obtain ⟨m, hm⟩ := Int.eq_ofNat_of_zero_le hcb.2.2.1
    have hm4 : m ≤ 4 := by omega
    have hm0 : 0 < m := by
     have h1 : 0 < cellsN x.idx x.wid := by unfold cellsN; rw [if_pos HSK.out]; exact pow_pos_i _
     omega
    have HM0 := Lib.hid hm0
    have HC := Lib.hid hm
    rw [hm, Int.toNat_natCast] at HY6 HY5
    have hmk := make_any (P := Tryz.prog) 25 3 (.int .i64 0) 1 8 Tryz.underlying25 (by kernel_rfl) m (by omega) (by omega)
    simp only [Nat.mul_one, Value.cells] at hmk
    clear hgn hnx hA hcb hm hm0
    have HSC := Lib.hid (fun W => (show Makes Tryz.prog 190 #[.agg #[.int .i64 x.idx, .int .i64 x.wid]] W (.int .i64 (m : Int)) from HC.out ▸ SortCells_calls x.idx x.wid W))
    go_upto_region 7 with (go_at_call 190; refine (HSC.out _).mono ?_; rintro e w2 ⟨rfl, hb⟩; have HB2 := Lib.hid hb; clear hb)
    have HBa := Lib.hid (show Below w2.heap.size w2 ((w2.alloc (Obj.cells (madeCells #[.int .i64 0] m) 3)).alloc (Obj.cells #[.slice (some ⟨w2.heap.size, 0, none⟩) m m] 40)) from ((Below.refl _ _).alloc (Nat.le_refl _) _).alloc (by simp) _)
    have HRW := Lib.hid (show SlN enI ((w2.alloc (Obj.cells (madeCells #[.int .i64 0] m) 3)).alloc (Obj.cells #[.slice (some ⟨w2.heap.size, 0, none⟩) m m] 40)) (.slice (some ⟨w2.heap.size, 0, none⟩) m m) (List.replicate m 0) from (rowI_zero w2 m (by omega)).slN.below ((Below.refl _ _).alloc (Nat.le_refl _) _))
    have y6 : ((w2.alloc (Obj.cells (madeCells #[.int .i64 0] m) 3)).alloc (Obj.cells #[.slice (some ⟨w2.heap.size, 0, none⟩) m m] 40)).cell? ⟨w2.heap.size + 1, 0, none⟩ = some (.slice (some ⟨w2.heap.size, 0, none⟩) m m) := by simp
    have HBb := Lib.hid (HB2.out.trans (HBa.out.mono HB2.out.size))
    generalize ((w2.alloc (Obj.cells (madeCells #[.int .i64 0] m) 3)).alloc (Obj.cells #[.slice (some ⟨w2.heap.size, 0, none⟩) m m] 40)) = w4 at *
    generalize w2.heap.size = g at *
    have HT4 := Lib.hid (HT.out.below HBb.out)
    obtain ⟨u4, hu4⟩ := laterC_step (w1 := w1) ⟨u, rfl⟩ HBb.out
    subst hu4
    have HBX := Lib.hid (show Below u4.val.heap.size u4.val (u4.val.alloc (Obj.cells #[.slice (some ⟨g, 0, none⟩) m m] 40)) from (Below.refl _ _).alloc (Nat.le_refl _) _)
    have HLS := Lib.hid (show svs.length ≤ 1048576 ∧ ivs.length ≤ 1048576 from ⟨by rw [HT4.out.1.2.1]; exact Nat.le_trans (zeroAt_len _ _ _) (by omega), by rw [HT4.out.2.1.2.1]; exact Nat.le_trans (zeroAt_len _ _ _) (by omega)⟩)
    generalize x.kind = kd at *
    by_cases h6 : kd = 36
    · subst h6
      have E6 := Lib.hid (HY6.out rfl)
      have E5 := Lib.hid (HN5.out rfl)
      go_wp2_with (at_builtin; refine wpList_append_z (by rfl) _ _ _ _ (by rfl) w1.heap.size 40 ti (.agg #[.slice none 0 0]) (.slice none 0 0) Tryz.underlying29 HTI.out.1 HTI.out.2.1 HTI.out.2.2.1 rfl sv svs.length svs (by rfl) ((HT4.out.1.1).below HBX.out) ⟨u4.val.heap.size, 0, none⟩ 1 (.slice (some ⟨g, 0, none⟩) m m) (by rfl) ((OwnB.new _ _ _).cell 0) rfl (by have := HLS.out; unfold maxLen; omega) (by rw [HTI.out.2.2.2]; have := HLS.out; omega) (Nat.le_trans u4.size HBX.out.size) ?_; intro g2 cap wn hR hk hg hat; have HT5 := Lib.hid (show TwoZ _ _ _ _ _ _ _ _ from TwoZ.push (HT4.out.below HBX.out) hR hk hg hat ((HRW.out.below HBX.out)) (by rw [List.length_replicate]; exact HM0.out)); obtain ⟨u5, rfl⟩ := laterC_grown (laterC_step ⟨u4, rfl⟩ HBX.out) (((HT4.out.1.1).below HBX.out).owns) hg; clear hR hk hg hat)
      go_roundw
      case rel => exact ⟨k + 1, _, _, _, _, by omega, by go_num, rfl, rfl, by rw [E6.out, E5.out]; exact HT5, ⟨u5, rfl⟩⟩
      case measure => simp [intOf] <;> omega
    · by_cases h5 : kd = 35
      · subst h5
        have E6 := Lib.hid (HN6.out rfl)
        have E5 := Lib.hid (HY5.out rfl)
        go_wp2_with (at_builtin; refine wpList_append_z (by rfl) _ _ _ _ (by rfl) w1.heap.size 40 ti (.agg #[.slice none 0 0]) (.slice none 0 0) Tryz.underlying29 HTI.out.1 HTI.out.2.1 HTI.out.2.2.1 rfl iv ivs.length ivs (by rfl) ((HT4.out.symm.1.1).below HBX.out) ⟨u4.val.heap.size, 0, none⟩ 1 (.slice (some ⟨g, 0, none⟩) m m) (by rfl) ((OwnB.new _ _ _).cell 0) rfl (by have := HLS.out; unfold maxLen; omega) (by rw [HTI.out.2.2.2]; have := HLS.out; omega) (Nat.le_trans u4.size HBX.out.size) ?_; intro g2 cap wn hR hk hg hat; have HT5 := Lib.hid (show TwoZ _ _ _ _ _ _ _ _ from (TwoZ.push (HT4.out.symm.below HBX.out) hR hk hg hat ((HRW.out.below HBX.out)) (by rw [List.length_replicate]; exact HM0.out)).symm); obtain ⟨u5, rfl⟩ := laterC_grown (laterC_step ⟨u4, rfl⟩ HBX.out) (((HT4.out.symm.1.1).below HBX.out).owns) hg; clear hR hk hg hat)
        go_roundw
        case rel => exact ⟨k + 1, _, _, _, _, by omega, by go_num, rfl, rfl, by rw [E6.out, E5.out]; exact HT5, ⟨u5, rfl⟩⟩
        case measure => simp [intOf] <;> omega
      · have k6 : (kd == 36) = false := by simpa using h6
        have k5 : (kd == 35) = false := by simpa using h5
        have E6 := Lib.hid (HN6.out k6)
        have E5 := Lib.hid (HN5.out k5)
        go_wp2
        go_roundw
        case rel => exact ⟨k + 1, _, _, _, _, by omega, by go_num, rfl, rfl, by rw [E6.out, E5.out]; exact HT4, ⟨u4, rfl⟩⟩
        case measure => simp [intOf] <;> omega
  · obtain rfl : k = n := by omega
    clear hA
    have HS := Lib.hid (HT.out.1.vlAt (Nat.le_trans (zeroAt_len _ _ _) hn))
    have HI := Lib.hid (HT.out.2.1.vlAt (Nat.le_trans (zeroAt_len _ _ _) hn))
    go_wp2_with (go_at_call 109; refine (l4All_calls _ _ _ M _ _ _ (HM1.out.later u) HS.out HI.out HNB.out (by rw [HN.out]; exact HFS.out) (by rw [HN.out]; exact HFI.out) (by rw [HN.out]; exact H60.out)).mono ?_; rintro e w' ⟨v, svs2, rfl, hb, hac⟩; have HAC := Lib.hid hac; have HU := Lib.hid (Nat.le_trans HB.out.size u.size); obtain ⟨u3, h3⟩ := u.step hb; subst h3; clear hb hac)
    go_ret
    exact ⟨v, svs2, rfl, u3.back HB.out, by rw [HFX.out]; unfold evalL; exact HAC.out.mono HU.out⟩
def BindsIn (ns : List Nd) (bs : List Bd) (V : List (List Int)) (ps : List Int) : Prop :=
 ∀ b, b ∈ bs → (0 ≤ b.st ∧ b.st < ns.length) ∧ b.st ∈ ps ∧ 0 ≤ b.nd ∧ b.nd < V.length ∧ 0 < (vN V b.nd).length ∧ (vN V b.nd).length ≤ 1048576
theorem below_of' {w1 w2 w3 : World} (h : LaterC w1 w2) (h' : LaterC w2 w3) : Below w1.heap.size w1 w3 := (LaterC.trans h h').below
theorem first_mem {x : Int} {ps : List Int} (h : x ∈ ps) : ∃ q : Nat, firstN (fun y => y == x) ps = q ∧ q < ps.length := by
 induction ps with
 | nil => cases h
 | cons y l ih =>
   unfold firstN
   by_cases e : y = x
   · exact ⟨0, by simp [e], by simp⟩
   · rcases List.mem_cons.1 h with h1 | h1
     · exact absurd h1.symm e
     · obtain ⟨q, h2, h3⟩ := ih h1
       refine ⟨q + 1, ?_, by simpa using h3⟩
       rw [if_neg (by simpa using e), h2, if_neg (by omega)]
       rfl
theorem bound_calls (mv bv vv tv : Value) (M : Md) (bs : List Bd) (V T : List (List Int)) (w : World) (hM : MdAt w mv M) (hB : SlAt enBd w bv bs) (hV : VlAt w vv V) (hT : VlAt w tv T) (h60 : M.nodes.length ≤ 1048576) (hbs : BindsIn M.nodes bs V (plK M)) (hTl : T.length = (plK M).length) :
 Makes Tryz.prog 119 #[mv, bv, vv, tv] w (.bool (boundK M.nodes bs V (plK M) T)) := by
 have HM := Lib.hid hM
 have HV := Lib.hid hV
 have HT := Lib.hid hT
 have H60 := Lib.hid h60
 have HBS := Lib.hid hbs
 have HTL := Lib.hid hTl
 obtain ⟨s0, s1, s2, s3, s4, rfl, hS, -, -, -, -⟩ := hM.at_
 obtain ⟨A, c, rfl, hnc, hc', hA⟩ := hS
 obtain ⟨B, d, rfl, hnd, hd', hBA⟩ := hB
 obtain ⟨VA, vd, rfl, -, hvl, hVA⟩ := hV
 obtain ⟨TA, td, rfl, -, htl, hTA⟩ := hT
 have HNO := Lib.hid (show ∀ k, k < bs.length → bindOk M.nodes V (plK M) T (bs.getD k Bd.zero) = false → boundK M.nodes bs V (plK M) T = false from fun k h1 h2 => all_no h1 h2)
 have HYES := Lib.hid (show (∀ k, k < bs.length → bindOk M.nodes V (plK M) T (bs.getD k Bd.zero) = true) → boundK M.nodes bs V (plK M) T = true from fun h => all_yes h)
 generalize boundK M.nodes bs V (plK M) T = R at *
 have hqq := Nat.le_trans hnd hd'
 clear hM h60 hbs hTl hnd hnc
 generalize hN : M.nodes.length = n at *
 have HN := Lib.hid hN
 generalize hQ : bs.length = q at *
 have HQ := Lib.hid hQ
 generalize hP : V.length = p at *
 have HP := Lib.hid hP
 generalize hY : T.length = y at *
 have HY := Lib.hid hY
 clear hN hQ hP hY
 go_enter Tryz.func119, Tryz.ntmps119
 go_upto_region 1 with fail
 obtain ⟨w1, hw1, HB, m0, m1, m2, m3, m4⟩ := model_box 27 (.slice A n c) s1 s2 s3 s4 w
 rw [hw1]
 clear hw1
 have HM1 := Lib.hid (HM.out.below HB.out)
 refine at_world (w := w1) ?_
 intro u0
 go_upto_region 2 with (go_at_call 127; refine (places_calls _ M 36 _ (HM1.out.later u0) (by rw [HN.out]; exact H60.out)).mono ?_; rintro e w' ⟨pv, rfl, hb, hown⟩; have HOWN := Lib.hid (places_slN hown (by rw [HN.out]; exact H60.out)); obtain ⟨u1, hu1⟩ := u0.step hb; subst hu1; clear hb hown)
 have HBW := Lib.hid (u1.back HB.out)
 have HLW : LaterC w1 u1.val := ⟨u1, rfl⟩
 have m0 := lift_cell HLW m0
 have m1 := lift_cell HLW m1
 have m2 := lift_cell HLW m2
 have m3 := lift_cell HLW m3
 have m4 := lift_cell HLW m4
 clear HLW
 generalize u1.val = W at *
 refine at_world (w := W) ?_
 intro w0
 go_wp2
 go_loopw [17] (fun i wr => ∃ k : Nat, k ≤ q ∧ i = .int .i64 k ∧ Hid (∀ j, j < k → bindOk M.nodes V (plK M) T (bs.getD j Bd.zero) = true) ∧ LaterC W wr) (fun i _ => q - (intOf i).toNat)
 case atStart => exact ⟨0, Nat.zero_le _, rfl, Lib.hid (fun j hj => absurd hj (Nat.not_lt_zero _)), ⟨w0, rfl⟩⟩
 case round =>
  obtain ⟨k, hk, rfl, hto, ⟨u, rfl⟩⟩ := hrel
  by_cases hlt : k < q
  · have hlt' : (k : Int) < q := by omega
    have hget := getD_at (show k < bs.length by rw [HQ.out]; exact hlt) Bd.zero
    have HBK := Lib.hid (HBS.out _ (List.mem_of_getElem? hget))
    obtain ⟨bb, bo, rfl, hx⟩ := hBA k _ hget
    have HK := Lib.hid (Eq.refl (bs.getD k Bd.zero))
    generalize hb0 : bs.getD k Bd.zero = b at *
    have HB0 := Lib.hid hb0
    obtain ⟨⟨h1, h2⟩, h3, h4, h5, h6, h7⟩ := HBK.out
    obtain ⟨⟨st, hst⟩, ⟨nd, hnd⟩⟩ : (∃ s : Nat, b.st = s) ∧ ∃ t : Nat, b.nd = t := ⟨Int.eq_ofNat_of_zero_le h1, Int.eq_ofNat_of_zero_le h4⟩
    obtain ⟨ix, hix, hixl⟩ := first_mem h3
    rw [hst] at hix
    have HIX := Lib.hid hix
    have hst2 : st < n := by have := HN.out; omega
    have hnd2 : nd < p := by have := HP.out; omega
    have hst3 : (st : Int) < n := by omega
    have hnd3 : (nd : Int) < p := by omega
    have p0 : ∀ l : Later W, l.val.cell? ⟨bb, bo + k * 2, none⟩ = some (.int .i64 (st : Int)) := hst ▸ hx.at_ HBW.out 0 _ rfl
    have p1 : ∀ l : Later W, l.val.cell? ⟨bb, bo + k * 2 + 1, none⟩ = some (.int .i64 (nd : Int)) := hnd ▸ hx.at_ HBW.out 1 _ rfl
    have hgn := getD_at (show st < M.nodes.length by rw [HN.out]; exact hst2) Nd.zero
    obtain ⟨bn, on, rfl, hnx⟩ := hA st _ hgn
    have hgv := getD_at (show nd < V.length by rw [HP.out]; exact hnd2) []
    obtain ⟨b1, o1, sv, rfl, hvc, hvs⟩ := hVA nd _ hgv
    have hgt := getD_at (show ix < T.length by rw [HY.out, HTL.out]; exact hixl) []
    obtain ⟨b2, o2, tv, rfl, htc, hts⟩ := hTA ix _ hgt
    clear hA hBA hVA hTA
    have hgk := Lib.hid (show bindOk M.nodes V (plK M) T b = false → R = false from fun h => HNO.out k hlt (by rw [HB0.out]; exact h))
    generalize hxe : M.nodes.getD st Nd.zero = x at *
    generalize hve : V.getD nd [] = vs at *
    generalize hte : T.getD ix [] = ts at *
    have HVS := Lib.hid hvs
    have HTS := Lib.hid hts
    have HVL := Lib.hid (show 0 < vs.length ∧ vs.length ≤ 1048576 by
     have e : vN V b.nd = vs := by unfold vN; rw [hnd, Int.toNat_natCast]; exact hve
     rw [e] at h6 h7
     exact ⟨h6, h7⟩)
    have HOKB := Lib.hid (show bindOk M.nodes V (plK M) T b = decide (wideN (cellsN x.idx x.wid).toNat vs = ts) by
     simp only [bindOk, cellN, pN, vN, hix, hst, hnd, Int.toNat_natCast, hxe, hve, hte])
    obtain ⟨vA, vc, rfl, -⟩ := hvs
    obtain ⟨tA, tc, rfl, -⟩ := hts
    generalize hvln : vs.length = vl at *
    have HVLN := Lib.hid hvln
    generalize htln : ts.length = tl at *
    have e0 : ∀ l : Later W, l.val.cell? ⟨bn, on + st * 9 + 6, none⟩ = some (.int .i64 x.idx) := hnx.at_ HBW.out 6 _ rfl
    have e1 : ∀ l : Later W, l.val.cell? ⟨bn, on + st * 9 + 7, none⟩ = some (.int .i64 x.wid) := hnx.at_ HBW.out 7 _ rfl
    have e2 : ∀ l : Later W, l.val.cell? ⟨b1, o1 + nd, none⟩ = some (.slice vA vl vc) := Later.cell (keepcell HBW.out hvc)
    have e3 : ∀ l : Later W, l.val.cell? ⟨b2, o2 + ix, none⟩ = some (.slice tA tl tc) := Later.cell (keepcell HBW.out htc)
    clear hvc htc hnx hgn hgv hgt hx hget hvln htln
    go_wp2_with fail
    have t0 := box_cell u.val #[.int .i64 (st : Int), .int .i64 (nd : Int)] 117 0 _ rfl
    have t1 := box_cell u.val #[.int .i64 (st : Int), .int .i64 (nd : Int)] 117 1 _ rfl
    have HL5 : LaterC W (u.val.alloc (Obj.cells #[.int .i64 (st : Int), .int .i64 (nd : Int)] 117)) := LaterC.alloc' ⟨u, rfl⟩ _
    generalize u.val.alloc (Obj.cells #[.int .i64 (st : Int), .int .i64 (nd : Int)] 117) = W5 at *
    have t0 : ∀ l : Later W5, l.val.cell? ⟨u.val.heap.size, 0, none⟩ = some (.int .i64 (st : Int)) := t0
    have t1 : ∀ l : Later W5, l.val.cell? ⟨u.val.heap.size, 1, none⟩ = some (.int .i64 (nd : Int)) := t1
    generalize u.val.heap.size = GB at *
    have m0 := lift_cell HL5 m0
    have p0 := lift_cell HL5 p0
    have p1 := lift_cell HL5 p1
    have e0 := lift_cell HL5 e0
    have e1 := lift_cell HL5 e1
    have e2 := lift_cell HL5 e2
    have e3 := lift_cell HL5 e3
    have HVS5 := Lib.hid (HVS.out.below (below_of HBW.out HL5))
    have HQL := Lib.hid (show ∀ w', LaterC W5 w' → w'.cell? ⟨w.heap.size, 0, none⟩ = some (.slice (some ⟨bn, on, none⟩) n c) ∧ w'.cell? ⟨GB, 0, none⟩ = some (.int .i64 (st : Int)) ∧ w'.cell? ⟨GB, 1, none⟩ = some (.int .i64 (nd : Int)) ∧ w'.cell? ⟨bn, on + st * 9 + 6, none⟩ = some (.int .i64 x.idx) ∧ w'.cell? ⟨bn, on + st * 9 + 7, none⟩ = some (.int .i64 x.wid) ∧ w'.cell? ⟨b1, o1 + nd, none⟩ = some (.slice vA vl vc) from fun W' h => by
     obtain ⟨v, rfl⟩ := h
     exact ⟨m0 v, t0 v, t1 v, e0 v, e1 v, e2 v⟩)
    have HQC := Lib.hid (show ∀ w', Below (W5.drew.alloc (Obj.cells #[.slice none 0 0] 40)).heap.size (W5.drew.alloc (Obj.cells #[.slice none 0 0] 40)) w' → w'.cell? ⟨W5.heap.size, 0, none⟩ = some (.slice none 0 0) ∧ w'.frozen? ⟨W5.heap.size, 0, none⟩ = false from fun w' h => by
     have ho : OwnB (W5.drew.alloc (Obj.cells #[.slice none 0 0] 40)) W5.heap.size 40 #[.slice none 0 0] := OwnB.new W5.drew _ _
     have ho2 := ho.below h ho.lt
     exact ⟨ho2.cell 0, ho2.frozen 0⟩)
    go_region_held3 (fun w' => w'.cell? ⟨w.heap.size, 0, none⟩ = some (.slice (some ⟨bn, on, none⟩) n c) ∧ w'.cell? ⟨GB, 0, none⟩ = some (.int .i64 (st : Int)) ∧ w'.cell? ⟨GB, 1, none⟩ = some (.int .i64 (nd : Int)) ∧ w'.cell? ⟨bn, on + st * 9 + 6, none⟩ = some (.int .i64 x.idx) ∧ w'.cell? ⟨bn, on + st * 9 + 7, none⟩ = some (.int .i64 x.wid) ∧ w'.cell? ⟨b1, o1 + nd, none⟩ = some (.slice vA vl vc)) ((refine HQL.out _ ?_; repeat (first | exact ⟨_, rfl⟩ | exact LaterC.refl _ | refine LaterC.drew' ?_ | refine LaterC.alloc' ?_ _ | refine LaterC.setCell' ?_ _ _ (LaterC.size lcx)))) ((go_at_call 187; refine (spread_calls x.idx x.wid _ vs _ (HVS5.out.below lcb) (by rw [HVLN.out]; exact HVL.out.1) (by rw [HVLN.out]; exact HVL.out.2)).mono ?_; rintro e w' ⟨s, rfl, hb, hr, hg⟩; obtain ⟨g, cap, rfl, -⟩ := rowI_some hr (by unfold wideN; rw [List.length_append, HVLN.out]; have := HVL.out.1; omega); (first | (have qcf := HQC.out _ hb; have qc := qcf.1; have qf := qcf.2; clear qcf) | skip); have HR6 := Lib.hid hr; have HG6 := Lib.hid (show ∀ b, (Value.slice (some ⟨g, 0, none⟩) (wideN (cellsN x.idx x.wid).toNat vs).length cap).ownBlock = some b → W5.heap.size ≤ b from fun b h => Nat.le_trans (LaterC.size lcx) (hg b h)); (first | (have HN6 := Lib.hid (show ∀ b, (Value.slice (some ⟨g, 0, none⟩) (wideN (cellsN x.idx x.wid).toNat vs).length cap).ownBlock = some b → ¬ b = W5.heap.size from fun b h e => by have h2 := hg b h; simp at h2; omega)) | skip); obtain ⟨v6, hv6⟩ := laterC_step (w1 := W5) lcx hb; subst hv6; clear hb hr hg))
    all_goals go_upto_region 6 with fail
    all_goals first
     | (have FB : LaterC W5 (v6.val.setCell ⟨W5.heap.size, 0, none⟩ (.slice (some ⟨g, 0, none⟩) (wideN (cellsN x.idx x.wid).toNat vs).length cap)) ∧ (v6.val.setCell ⟨W5.heap.size, 0, none⟩ (.slice (some ⟨g, 0, none⟩) (wideN (cellsN x.idx x.wid).toNat vs).length cap)).cell? ⟨W5.heap.size, 0, none⟩ = some (.slice (some ⟨g, 0, none⟩) (wideN (cellsN x.idx x.wid).toNat vs).length cap) ∧ SlN enI (v6.val.setCell ⟨W5.heap.size, 0, none⟩ (.slice (some ⟨g, 0, none⟩) (wideN (cellsN x.idx x.wid).toNat vs).length cap)) (.slice (some ⟨g, 0, none⟩) (wideN (cellsN x.idx x.wid).toNat vs).length cap) (wideN (cellsN x.idx x.wid).toNat vs) := ⟨LaterC.setCell' ⟨v6, rfl⟩ _ _ (Nat.le_refl _), World.cell?_setCell_same _ _ _ qc, (HR6.out.but (S := (· = W5.heap.size)) (But.setCell (S := (· = W5.heap.size)) (But.refl _ _) rfl _) HN6.out).slN⟩
        generalize v6.val.setCell ⟨W5.heap.size, 0, none⟩ (.slice (some ⟨g, 0, none⟩) (wideN (cellsN x.idx x.wid).toNat vs).length cap) = W6 at *
        obtain ⟨G, hG⟩ : ∃ G, G = W5.heap.size := ⟨_, rfl⟩
        rw [← hG] at FB ⊢
        clear hG)
     | (have FB : LaterC W5 (v6.val.alloc (Obj.cells #[(.slice (some ⟨g, 0, none⟩) (wideN (cellsN x.idx x.wid).toNat vs).length cap)] 40)) ∧ (v6.val.alloc (Obj.cells #[(.slice (some ⟨g, 0, none⟩) (wideN (cellsN x.idx x.wid).toNat vs).length cap)] 40)).cell? ⟨v6.val.heap.size, 0, none⟩ = some (.slice (some ⟨g, 0, none⟩) (wideN (cellsN x.idx x.wid).toNat vs).length cap) ∧ SlN enI (v6.val.alloc (Obj.cells #[(.slice (some ⟨g, 0, none⟩) (wideN (cellsN x.idx x.wid).toNat vs).length cap)] 40)) (.slice (some ⟨g, 0, none⟩) (wideN (cellsN x.idx x.wid).toNat vs).length cap) (wideN (cellsN x.idx x.wid).toNat vs) := ⟨LaterC.alloc' ⟨v6, rfl⟩ _, (OwnB.new _ _ _).cell 0, HR6.out.slN.below ((Below.refl _ _).alloc (Nat.le_refl _) _)⟩
        generalize v6.val.alloc (Obj.cells #[(.slice (some ⟨g, 0, none⟩) (wideN (cellsN x.idx x.wid).toNat vs).length cap)] 40) = W6 at *
        obtain ⟨G, hG⟩ : ∃ G, G = v6.val.heap.size := ⟨_, rfl⟩
        rw [← hG] at FB ⊢
        clear hG)
    all_goals
     generalize (wideN (cellsN x.idx x.wid).toNat vs).length = wl at *
     obtain ⟨F1, F2, F3⟩ := FB
     have HF3 := Lib.hid F3
     have g0 := Later.cell F2
     have t0 := lift_cell F1 t0
     have e3 := lift_cell F1 e3
     have hixy : (ix : Int) < y := by have := HTL.out; omega
     have HOW := Lib.hid (HOWN.out.below (below_of' HL5 F1))
     have HTSW := Lib.hid (HTS.out.below (below_of HBW.out (LaterC.trans HL5 F1)))
     have HFW := Lib.hid (below_of HBW.out (LaterC.trans HL5 F1))
     have HLW6 : LaterC W W6 := LaterC.trans HL5 F1
     clear F1 F2 F3 HR6 HG6
     by_cases hok : wideN (cellsN x.idx x.wid).toNat vs = ts
     · have HEQ := Lib.hid (decide_eq_true hok)
       have HTO := Lib.hid (show ∀ j, j < k + 1 → bindOk M.nodes V (plK M) T (bs.getD j Bd.zero) = true from fun j hj => by
        rcases Nat.lt_or_ge j k with g | g
        · exact hto.out j g
        · obtain rfl : j = k := by omega
          rw [HB0.out, HOKB.out]; exact decide_eq_true hok)
       clear hok
       refine wp_region_later (w0 := W6) (by kernel_rfl) (by kernel_rfl) (LaterC.refl _) ?_
       repeat (go_big_quiet_step (first | (go_at_call 189; exact Calls.later_eq (index_calls _ (plK M) (st : Int) _ (HOW.out.later _)) (congrArg (Value.int .i64) HIX.out)) | (go_at_call 188; exact Calls.later_eq (equalI_calls _ _ _ _ _ (HF3.out.later _) (HTSW.out.later _)) (congrArg Value.bool HEQ.out))))
       refine wpQuiet_nil ?_
       rintro _ ⟨u7, rfl⟩
       go_wp2
       go_roundw
       case rel => exact ⟨k + 1, by omega, by go_num, HTO, LaterC.trans HLW6 ⟨u7, rfl⟩⟩
       case measure => simp [intOf] <;> omega
     · have HEQ := Lib.hid (decide_eq_false hok)
       have HR := Lib.hid (hgk.out (by rw [HOKB.out]; exact decide_eq_false hok))
       clear hok
       refine wp_region_later (w0 := W6) (by kernel_rfl) (by kernel_rfl) (LaterC.refl _) ?_
       repeat (go_big_quiet_step (first | (go_at_call 189; exact Calls.later_eq (index_calls _ (plK M) (st : Int) _ (HOW.out.later _)) (congrArg (Value.int .i64) HIX.out)) | (go_at_call 188; exact Calls.later_eq (equalI_calls _ _ _ _ _ (HF3.out.later _) (HTSW.out.later _)) (congrArg Value.bool HEQ.out))))
       refine wpQuiet_nil ?_
       rintro _ ⟨u7, rfl⟩
       go_wp2
       go_ret
       exact ⟨ret_eq (congrArg Value.bool HR.out.symm), u7.back HFW.out⟩
  · obtain rfl : k = q := by omega
    have HR := Lib.hid (HYES.out hto.out)
    clear hA hBA hVA hTA hto
    go_wp2
    go_ret
    exact ⟨ret_eq (congrArg Value.bool HR.out.symm), u.back HBW.out⟩
theorem initial_calls (mv : Value) (M : Md) (w : World) (hM : MdAt w mv M) (hn : nodesB M.nodes = true) (h60 : M.nodes.length ≤ 1048576) :
 Calls Tryz.prog 122 #[mv] w fun e w' => ∃ v, e = .returned v ∧ Below w.heap.size w w' ∧ VlAt w' v (fixedL M) := by
 have HM := Lib.hid hM
 have HN := Lib.hid hn
 have HSZ := Lib.hid h60
 have HFX := Lib.hid (show fixedL M = evalN M.nodes (zeroK 36 M) (zeroK 35 M) M.nodes.length from rfl)
 have HL6 := Lib.hid (show (placesN 36 M.nodes M.nodes.length).length ≤ 1048576 from Nat.le_trans (placesN_le _ _ _) h60)
 have HL5 := Lib.hid (show (placesN 35 M.nodes M.nodes.length).length ≤ 1048576 from Nat.le_trans (placesN_le _ _ _) h60)
 generalize fixedL M = FX at *
 obtain ⟨s0, s1, s2, s3, s4, rfl, -⟩ := hM.at_
 clear hM hn h60
 go_enter Tryz.func122, Tryz.ntmps122
 go_upto_region 1 with fail
 obtain ⟨w1, hw1, HB, m0, m1, m2, m3, m4⟩ := model_box 27 s0 s1 s2 s3 s4 w
 rw [hw1]
 clear hw1
 have HM1 := Lib.hid (HM.out.below HB.out)
 refine at_world (w := w1) ?_
 intro u0
 go_upto_region 1 with fail
 go_region_held3 (fun w' => w'.cell? ⟨w.heap.size, 0, none⟩ = some s0 ∧ w'.cell? ⟨w.heap.size, 1, none⟩ = some s1 ∧ w'.cell? ⟨w.heap.size, 2, none⟩ = some s2 ∧ w'.cell? ⟨w.heap.size, 3, none⟩ = some s3 ∧ w'.cell? ⟨w.heap.size, 4, none⟩ = some s4) (exact ⟨lf m0, lf m1, lf m2, lf m3, lf m4⟩) (first | (go_at_call 127; (with_reducible refine (places_calls _ M 36 _ (HM1.out.below lcb) HSZ.out).mono ?_); rintro e w' ⟨pv6, rfl, hb, hown⟩; (first | (have HO6 := Lib.hid (HO6.out.below hb)) | skip); (first | (have HO5 := Lib.hid (HO5.out.below hb)) | skip); (first | (have HZ6 := Lib.hid (HZ6.out.below hb)) | skip); (first | (have HZ5 := Lib.hid (HZ5.out.below hb)) | skip); (first | (have HEV := Lib.hid (HEV.out.below hb)) | skip); have HO6 := Lib.hid (places_slN hown HSZ.out); clear hown; obtain ⟨vp6, hvp6⟩ := laterC_step (w1 := w1) lcx hb; subst hvp6; clear hb) | (go_at_call 127; (with_reducible refine (places_calls _ M 35 _ (HM1.out.below lcb) HSZ.out).mono ?_); rintro e w' ⟨pv5, rfl, hb, hown⟩; (first | (have HO6 := Lib.hid (HO6.out.below hb)) | skip); (first | (have HO5 := Lib.hid (HO5.out.below hb)) | skip); (first | (have HZ6 := Lib.hid (HZ6.out.below hb)) | skip); (first | (have HZ5 := Lib.hid (HZ5.out.below hb)) | skip); (first | (have HEV := Lib.hid (HEV.out.below hb)) | skip); have HO5 := Lib.hid (places_slN hown HSZ.out); clear hown; obtain ⟨vp5, hvp5⟩ := laterC_step (w1 := w1) lcx hb; subst hvp5; clear hb) | (go_at_call 191; (with_reducible refine (zeros_calls _ pv6 M (placesN 36 M.nodes M.nodes.length) _ (HM1.out.below lcb) (HO6.out.below bdx) (placesN_InN _ _) HL6.out).mono ?_); rintro e w' ⟨zv6, zs6, rfl, hb, hac⟩; (first | (have HO6 := Lib.hid (HO6.out.below hb)) | skip); (first | (have HO5 := Lib.hid (HO5.out.below hb)) | skip); (first | (have HZ6 := Lib.hid (HZ6.out.below hb)) | skip); (first | (have HZ5 := Lib.hid (HZ5.out.below hb)) | skip); (first | (have HEV := Lib.hid (HEV.out.below hb)) | skip); have HZ6 := Lib.hid (show VlAt w' zv6 (zeroK 36 M) from hac.vlAt (by rw [zerosN_length]; have := HL6.out; omega)); clear hac; obtain ⟨vz6, hvz6⟩ := laterC_step (w1 := w1) lcx hb; subst hvz6; clear hb) | (go_at_call 191; (with_reducible refine (zeros_calls _ pv5 M (placesN 35 M.nodes M.nodes.length) _ (HM1.out.below lcb) (HO5.out.below bdx) (placesN_InN _ _) HL5.out).mono ?_); rintro e w' ⟨zv5, zs5, rfl, hb, hac⟩; (first | (have HO6 := Lib.hid (HO6.out.below hb)) | skip); (first | (have HO5 := Lib.hid (HO5.out.below hb)) | skip); (first | (have HZ6 := Lib.hid (HZ6.out.below hb)) | skip); (first | (have HZ5 := Lib.hid (HZ5.out.below hb)) | skip); (first | (have HEV := Lib.hid (HEV.out.below hb)) | skip); have HZ5 := Lib.hid (show VlAt w' zv5 (zeroK 35 M) from hac.vlAt (by rw [zerosN_length]; have := HL5.out; omega)); clear hac; obtain ⟨vz5, hvz5⟩ := laterC_step (w1 := w1) lcx hb; subst hvz5; clear hb) | (go_at_call 73; refine (eval_calls _ zv6 zv5 M (zeroK 36 M) (zeroK 35 M) _ (HM1.out.below lcb) HZ6.out HZ5.out HN.out (zeros_fits _ _) (zeros_fits _ _) HSZ.out).mono ?_; rintro e w' ⟨ev, rfl, hb, hev⟩; have HEV := Lib.hid hev; clear hev; obtain ⟨ve, hve⟩ := laterC_step (w1 := w1) lcx hb; subst hve; clear hb))
 all_goals go_wp2
 all_goals go_ret
 all_goals exact ⟨ev, rfl, ve.back HB.out, by rw [HFX.out]; exact HEV.out⟩
theorem fixed_ok {M : Md} (h : nodesB M.nodes = true) : ∀ j, j < M.nodes.length → valB (M.nodes.getD j Nd.zero) ((fixedL M).getD j []) = true :=
 evalN_ok h (zeros_fits _ _) (zeros_fits _ _) M.nodes.length (Nat.le_refl _)
theorem fixedL_len (M : Md) : (fixedL M).length = M.nodes.length := evalN_length _ _ _ _
theorem bindsIn {M : Md} {bs : List Bd} {V : List (List Int)} (hn : nodesB M.nodes = true) (hl : V.length = M.nodes.length) (hv : ∀ j, j < M.nodes.length → valB (M.nodes.getD j Nd.zero) (V.getD j []) = true) (h : ∀ b, b ∈ bs → (0 ≤ b.st ∧ b.st < M.nodes.length) ∧ (0 ≤ b.nd ∧ b.nd < M.nodes.length) ∧ ((pN M.nodes b.st).kind == 36) = true) : BindsIn M.nodes bs V (plK M) := by
 intro b hb
 obtain ⟨h1, h2, h3⟩ := h b hb
 have h4 := val_one (hv b.nd.toNat (by omega)) (node_sok hn (by omega))
 refine ⟨h1, st_mem ⟨h1, h3⟩, h2.1, by omega, h4.1, Nat.le_trans h4.2 (by decide)⟩
theorem initIn {M : Md} {S : List (List Int)} (h : fitsK 36 M S = true) : nodesB M.nodes = true ∧ BindsIn M.nodes M.inits (fixedL M) (plK M) ∧ S.length = (plK M).length := by
 obtain ⟨h1, h2⟩ := fitsK_code h
 obtain ⟨-, g1, -, g3, -, -⟩ := codeN_parts h1
 exact ⟨g1, bindsIn g1 (fixedL_len M) (fixed_ok g1) fun b hb => init_parts ((binds_parts g3).1 b hb), (fits_cell h2).1⟩
theorem stepIn {M : Md} {S I T : List (List Int)} (h : bothK M S I = true) (ht : fitsK 36 M T = true) : BindsIn M.nodes M.nexts (evalL M S I) (plK M) ∧ T.length = (plK M).length := by
 obtain ⟨h1, g1, h2, h3, -, -⟩ := eval_one h
 obtain ⟨-, -, -, g3, -, -⟩ := codeN_parts h1
 exact ⟨bindsIn g1 (evalN_length _ _ _ _) (evalN_ok g1 h2 h3 M.nodes.length (Nat.le_refl _)) fun b hb => by have := bound_parts ((binds_parts g3).2 b hb); exact ⟨this.1, this.2.1, this.2.2.1⟩, (fits_cell (fitsK_code ht).2).1⟩
theorem val_len_eq {i a : Int} {xs : List Int} (h : valN i a xs = true) : (xs.length : Int) = cellsN i a := (val_parts h).1
theorem init_len {ns : List Nd} {b : Bd} {xs : List Int} (h : initB ns b = true) (hv : valB (pN ns b.nd) xs = true) (h0 : 0 < cellN ns b.st) : xs.length ≤ cellN ns b.st := by
 unfold initB at h
 rw [Bool.and_eq_true] at h
 have h1 := h.1
 have hl := val_len_eq hv
 unfold wordBd at h1
 split at h1
 · rename_i hw
   unfold wordB at hw
   simp only [Bool.and_eq_true, beq_iff_eq] at hw
   have h2 : (pN ns b.nd).idx = 0 := hw.2.2.2.1
   rw [h2] at hl
   have h3 : cellsN 0 (pN ns b.nd).wid ≤ 1 := by
    unfold cellsN
    split <;> decide
   omega
 · have h2 := bound_parts h1
   unfold cellN
   rw [h2.2.2.2.1, h2.2.2.2.2]
   omega
theorem step_len {ns : List Nd} {b : Bd} {xs : List Int} (h : boundB ns b = true) (hv : valB (pN ns b.nd) xs = true) : xs.length = cellN ns b.st := by
 have h2 := bound_parts h
 have hl := val_len_eq hv
 unfold cellN
 rw [h2.2.2.2.1, h2.2.2.2.2]
 omega
theorem range_all {n : Nat} {p : Nat → Bool} (h : ∀ k, k < n → p k = true) : (List.range n).all p = true := by
 rw [List.all_eq_true]
 exact fun k hk => h k (List.mem_range.1 hk)
theorem range_no {n k : Nat} {p : Nat → Bool} (hk : k < n) (h : p k = false) : (List.range n).all p = false := by
 rw [List.all_eq_false]
 exact ⟨k, List.mem_range.2 hk, by rw [h]; exact Bool.false_ne_true⟩
theorem InitFits_calls (mv sv : Value) (M : Md) (S : List (List Int)) (w : World) (hM : MdAt w mv M) (hS : VlAt w sv S) (hsz : M.nodes.length ≤ 1048576) (hnm : ∀ x, x ∈ M.nodes → x.name.size ≤ 140737488351232) :
 Makes Tryz.prog 41 #[mv, sv] w (.bool (initK M S)) := by
 have HM := Lib.hid hM
 have HNM := Lib.hid hnm
 have HSZ := Lib.hid hsz
 have HS := Lib.hid hS
 obtain ⟨s0, s1, s2, s3, s4, rfl, -, h1s, h2s, -, -⟩ := hM.at_
 have HS1 := Lib.hid h1s
 have HS2 := Lib.hid h2s
 obtain ⟨TA, td, rfl, -, htl, hTA⟩ := hS
 clear hM hnm hsz h1s h2s 
 generalize hR : initK M S = R
 unfold initK at hR
 go_enter Tryz.func41, Tryz.ntmps41
 go_upto_region 1 with fail
 obtain ⟨w1, hw1, HB, m0, m1, m2, m3, m4⟩ := model_box 27 s0 s1 s2 s3 s4 w
 rw [hw1]
 clear hw1
 have HM1 := Lib.hid (HM.out.below HB.out)
 have HUS := Lib.hid (HS.out.below HB.out)
 have HB1 := Lib.hid (HS1.out.below HB.out)
 have HB2 := Lib.hid (HS2.out.below HB.out)
 refine at_world (w := w1) ?_
 intro u0
 by_cases hs : fitsK 36 M S = true
 · have HFS := Lib.hid hs
   rw [hs, Bool.true_and] at hR
   obtain ⟨VV, hVV⟩ : ∃ VV, VV = fixedL M := ⟨_, rfl⟩
   rw [← hVV] at hR
   have HVK := Lib.hid (show ∀ j, j < M.nodes.length → valB (M.nodes.getD j Nd.zero) (VV.getD j []) = true by rw [hVV]; exact fixed_ok (initIn hs).1)
   have HVL := Lib.hid (show VV.length = M.nodes.length by rw [hVV]; exact fixedL_len M)
   have HEQ := Lib.hid ((initK_eq hs VV).trans hR)
   have HIN := Lib.hid (initIn hs)
   have HVV := Lib.hid hVV
   clear hVV
   have HCE := Lib.hid (fits_cell (fitsK_code HFS.out).2)
   have HBD := Lib.hid (binds_parts (codeN_parts (fitsK_code HFS.out).1).2.2.2.1)
   have HNB := Lib.hid (codeN_parts (fitsK_code HFS.out).1).2.1
   clear hR hs
   go_upto_region 5 with (first | (go_at_call 106; (with_reducible refine (Calls.later_eq (u := u0) (StateFits_calls _ (.slice TA S.length td) M S _ (HM1.out.later u0) (HUS.out.later u0) HSZ.out HNM.out) (congrArg Value.bool HFS.out)).mono ?_); rintro e w' ⟨rfl, u1, rfl⟩) | (go_at_call 120; refine (l4Fixed_calls _ M _ (HM1.out.later u1) HIN.out.1 HSZ.out).mono ?_; rintro e w' ⟨fv, fs, rfl, hb, hac⟩; have HFV := Lib.hid (show VlAt w' fv VV by rw [HVV.out]; exact hac.vlAt (by rw [fixedL_len]; have := HSZ.out; omega)); obtain ⟨u2, h2⟩ := u1.step hb; subst h2; clear hb hac) | (go_at_call 116; refine (l2Places_calls _ M 36 _ (HM1.out.later u2) HSZ.out).mono ?_; rintro e w' ⟨pv, rfl, hb, hown⟩; have HFV := Lib.hid (HFV.out.below hb); have HPV := Lib.hid (places_slN hown HSZ.out); obtain ⟨u3, h3⟩ := u2.step hb; subst h3; clear hb hown))
   have HBW := Lib.hid (u3.back HB.out)
   have HLW : LaterC w1 u3.val := ⟨u3, rfl⟩
   have m0 := lift_cell HLW m0
   have m1 := lift_cell HLW m1
   have m2 := lift_cell HLW m2
   have m3 := lift_cell HLW m3
   have m4 := lift_cell HLW m4
   have HBBW := Lib.hid (HB1.out.below HLW.below)
   clear HLW
   generalize u3.val = W at *
   obtain ⟨PA, pc, rfl, -, hpl, hPA⟩ := HPV.out
   obtain ⟨FA, fc, rfl, -, hfl, hFA⟩ := HFV.out
   have HNO := Lib.hid (show ∀ k, k < (plK M).length → stateOk M.inits VV (plK M) S k = false → R = false from fun k h1 h2 => HEQ.out ▸ range_no h1 h2)
   have HYES := Lib.hid (show (∀ k, k < (plK M).length → stateOk M.inits VV (plK M) S k = true) → R = true from fun h => HEQ.out ▸ range_all h)
   generalize hq : (placesN 36 M.nodes M.nodes.length).length = q at *
   have HQ := Lib.hid hq
   generalize hy : S.length = y at *
   have HY := Lib.hid hy
   generalize hp : VV.length = p at *
   have HP := Lib.hid hp
   clear hq hy hp
   refine at_world (w := W) ?_
   intro w0
   go_wp2
   go_loopw [7] (fun i wr => ∃ k : Nat, k ≤ q ∧ i = .int .i64 k ∧ Hid (∀ j, j < k → stateOk M.inits VV (plK M) S j = true) ∧ LaterC W wr) (fun i _ => q - (intOf i).toNat)
   case atStart => exact ⟨0, Nat.zero_le _, rfl, Lib.hid (fun j hj => absurd hj (Nat.not_lt_zero _)), ⟨w0, rfl⟩⟩
   case round =>
    obtain ⟨k, hk, rfl, hto, ⟨u, rfl⟩⟩ := hrel
    by_cases hlt : k < q
    · have hlt' : (k : Int) < q := by omega
      have hgp := getD_at (show k < (placesN 36 M.nodes M.nodes.length).length by rw [HQ.out]; exact hlt) 0
      obtain ⟨pb, po, rfl, hpx⟩ := hPA k _ hgp
      have HCK := Lib.hid (HCE.out.2 k hlt)
      have HSO := Lib.hid (show stateOk M.inits VV (plK M) S k = (decide (bdN ((plK M).getD k 0) M.inits < 0) || decide (S.getD k [] = wideN (S.getD k []).length (vN VV (bdN ((plK M).getD k 0) M.inits)))) from rfl)
      obtain ⟨st, hst⟩ : ∃ st, st = (plK M).getD k 0 := ⟨_, rfl⟩
      rw [← hst] at HSO HCK
      have HST := Lib.hid hst
      have p0 : ∀ l : Later W, l.val.cell? ⟨pb, po + k, none⟩ = some (.int .i64 st) := by rw [hst]; exact hpx.int (Below.refl _ _)
      clear hst hgp hpx hPA
      have HTO1 := Lib.hid (show stateOk M.inits VV (plK M) S k = true → ∀ j, j < k + 1 → stateOk M.inits VV (plK M) S j = true from fun h j hj => by
       rcases Nat.lt_or_ge j k with g | g
       · exact hto.out j g
       · obtain rfl : j = k := by omega
         exact h)
      rcases bd_cases st M.inits with hb1 | ⟨b, hb2, hb3, hb4⟩
      · have HK1 := Lib.hid hb1
        have HTO := Lib.hid (HTO1.out (by rw [HSO.out, hb1]; rfl))
        clear hb1 hTA hFA
        go_wp2
        refine wp_region_later (w0 := W) (by kernel_rfl) (by kernel_rfl) ⟨_, rfl⟩ ?_
        repeat (go_big_quiet_step ((go_at_call 117; exact Calls.later_eq (l4Bound_calls _ M.inits st _ (HBBW.out.later _)) (congrArg (Value.int .i64) HK1.out))))
        refine wpQuiet_nil ?_
        rintro _ ⟨v1, rfl⟩
        go_wp2
        refine wp_region_later (w0 := W) (by kernel_rfl) (by kernel_rfl) ⟨_, rfl⟩ ?_
        repeat (go_big_quiet_step (fail))
        refine wpQuiet_nil ?_
        rintro _ ⟨v2, rfl⟩
        go_wp2
        go_roundw
        case rel => exact ⟨k + 1, by omega, by go_num, HTO, ⟨v2, rfl⟩⟩
        case measure => simp [intOf] <;> omega
      · have hbb := HBD.out.1 b hb2
        have hpt := init_parts hbb
        obtain ⟨nd, hnd⟩ := Int.eq_ofNat_of_zero_le hpt.2.1.1
        have hvk := HVK.out nd (by omega)
        have hsk := node_sok HNB.out (show nd < M.nodes.length by omega)
        have HV1 := Lib.hid (val_one hvk hsk)
        have hlen := init_len hbb (xs := VV.getD nd []) (by unfold pN; rw [hnd, Int.toNat_natCast]; exact hvk) (by obtain ⟨st2, hst2⟩ := Int.eq_ofNat_of_zero_le hpt.1.1; have h1 := node_sok HNB.out (show st2 < M.nodes.length by omega); have h2 : 0 < cellsN (pN M.nodes b.st).idx (pN M.nodes b.st).wid := (by unfold pN; rw [hst2, Int.toNat_natCast]; unfold cellsN; rw [if_pos h1]; exact pow_pos_i _); unfold cellN; omega)
        rw [hb3] at hlen
        have HLN := Lib.hid hlen
        have HK1 := Lib.hid (hb4.trans hnd)
        have hndp : nd < p := by have := HVL.out; omega
        have hndp' : (nd : Int) < p := by omega
        have hky : k < y := by have h1 := HCE.out.1; omega
        have hky' : (k : Int) < y := by omega
        obtain ⟨tb, tp, sx, rfl, htc, hts⟩ := hTA k _ (getD_at (show k < S.length by rw [HY.out]; exact hky) [])
        obtain ⟨fb, fo, fx, rfl, hfc, hfs⟩ := hFA nd _ (getD_at (show nd < VV.length by rw [HP.out]; exact hndp) [])
        have HSO2 := Lib.hid (show stateOk M.inits VV (plK M) S k = decide (S.getD k [] = wideN (S.getD k []).length (VV.getD nd [])) by
         rw [HSO.out, HK1.out, decide_eq_false (show ¬ ((nd : Int) < 0) by omega), Bool.false_or]
         unfold vN
         simp only [Int.toNat_natCast])
        generalize hte : S.getD k [] = ts at *
        generalize hve : VV.getD nd [] = vs at *
        have HTS := Lib.hid (hts.below HBW.out)
        have HFS2 := Lib.hid hfs
        have HTL := Lib.hid (show ts.length = cellN M.nodes st from HCK.out)
        have HTM := Lib.hid (show ts.length ≤ 281474976710656 by obtain ⟨_, _, _, _, h, _⟩ := hts; exact h)
        obtain ⟨tA, tc, rfl, -⟩ := hts
        obtain ⟨fA, fc2, rfl, -⟩ := hfs
        have e2 : ∀ l : Later W, l.val.cell? ⟨tb, tp + k, none⟩ = some (.slice tA ts.length tc) := Later.cell (keepcell HBW.out htc)
        have e3 : ∀ l : Later W, l.val.cell? ⟨fb, fo + nd, none⟩ = some (.slice fA vs.length fc2) := Later.cell hfc
        have hk0 : decide ((0 : Int) ≤ (nd : Int)) = true := decide_eq_true (by omega)
        have HTC := Lib.hid (show ts.length ≤ 1048576 by have h1 := HTL.out; have h2 := (cells_bits (pN M.nodes st).idx (pN M.nodes st).wid).2.2.2; unfold cellN at h1; omega)
        clear htc hfc hlen hvk hsk hpt hbb hb2 hb3 hb4 hTA hFA hte hve hto hnd
        go_wp2
        refine wp_region_later (w0 := W) (by kernel_rfl) (by kernel_rfl) ⟨_, rfl⟩ ?_
        repeat (go_big_quiet_step ((go_at_call 117; exact Calls.later_eq (l4Bound_calls _ M.inits st _ (HBBW.out.later _)) (congrArg (Value.int .i64) HK1.out))))
        refine wpQuiet_nil ?_
        rintro _ ⟨v1, rfl⟩
        go_upto_region 9 with fail
        have HQL := Lib.hid (show ∀ w', LaterC W w' → w'.cell? ⟨tb, tp + k, none⟩ = some (.slice tA ts.length tc) ∧ w'.cell? ⟨fb, fo + nd, none⟩ = some (.slice fA vs.length fc2) from fun W' h => by
         obtain ⟨v, rfl⟩ := h
         exact ⟨e2 v, e3 v⟩)
        by_cases hok : ts = wideN ts.length vs
        · have HOK := Lib.hid (decide_eq_true hok)
          have HTO := Lib.hid (HTO1.out (by rw [HSO2.out]; exact decide_eq_true hok))
          clear hok
          go_region_held3 (fun w' => w'.cell? ⟨tb, tp + k, none⟩ = some (.slice tA ts.length tc) ∧ w'.cell? ⟨fb, fo + nd, none⟩ = some (.slice fA vs.length fc2)) ((refine HQL.out _ ?_; repeat (first | exact ⟨_, rfl⟩ | exact LaterC.refl _ | refine LaterC.drew' ?_ | refine LaterC.alloc' ?_ _))) (first | (go_at_call 121; refine (l4Wide_calls _ vs ts.length _ (HFS2.out.below lcb) HV1.out.1 (by have := HV1.out.2; omega) HTC.out).mono ?_; rintro e w' ⟨s, rfl, hb, hr, -⟩; obtain ⟨g, cap, rfl, -⟩ := rowI_some hr (by unfold wideN; rw [List.length_append]; have := HV1.out.1; omega); have HR6 := Lib.hid hr; obtain ⟨v2, hv2⟩ := laterC_step (w1 := W) lcx hb; subst hv2; clear hb hr) | (go_at_call 118; refine (l4Same_calls _ _ ts (wideN ts.length vs) _ (HTS.out.below lcb) (HR6.out.slN.below bdx) (by rw [wideN_len (by rw [HTL.out]; exact HLN.out)])).mono ?_; rintro e w' ⟨rfl, hb⟩; rw [HOK.out]; obtain ⟨v3, hv3⟩ := laterC_step (w1 := W) lcx hb; subst hv3; clear hb))
          all_goals go_wp2
          all_goals go_roundw
          all_goals first | exact ⟨k + 1, by omega, by go_num, HTO, ⟨v3, rfl⟩⟩ | (simp [intOf] <;> omega)
        · have HOK := Lib.hid (decide_eq_false hok)
          have HR := Lib.hid (HNO.out k hlt (by rw [HSO2.out]; exact decide_eq_false hok))
          clear hok
          go_region_held3 (fun w' => w'.cell? ⟨tb, tp + k, none⟩ = some (.slice tA ts.length tc) ∧ w'.cell? ⟨fb, fo + nd, none⟩ = some (.slice fA vs.length fc2)) ((refine HQL.out _ ?_; repeat (first | exact ⟨_, rfl⟩ | exact LaterC.refl _ | refine LaterC.drew' ?_ | refine LaterC.alloc' ?_ _))) (first | (go_at_call 121; refine (l4Wide_calls _ vs ts.length _ (HFS2.out.below lcb) HV1.out.1 (by have := HV1.out.2; omega) HTC.out).mono ?_; rintro e w' ⟨s, rfl, hb, hr, -⟩; obtain ⟨g, cap, rfl, -⟩ := rowI_some hr (by unfold wideN; rw [List.length_append]; have := HV1.out.1; omega); have HR6 := Lib.hid hr; obtain ⟨v2, hv2⟩ := laterC_step (w1 := W) lcx hb; subst hv2; clear hb hr) | (go_at_call 118; refine (l4Same_calls _ _ ts (wideN ts.length vs) _ (HTS.out.below lcb) (HR6.out.slN.below bdx) (by rw [wideN_len (by rw [HTL.out]; exact HLN.out)])).mono ?_; rintro e w' ⟨rfl, hb⟩; rw [HOK.out]; obtain ⟨v3, hv3⟩ := laterC_step (w1 := W) lcx hb; subst hv3; clear hb))
          all_goals go_wp2
          all_goals go_ret
          all_goals exact ⟨ret_eq (congrArg Value.bool HR.out.symm), v3.back HBW.out⟩
    · obtain rfl : k = q := by omega
      have HR := Lib.hid (HYES.out hto.out)
      clear hTA hFA hPA hto
      go_wp2
      go_ret
      exact ⟨ret_eq (congrArg Value.bool HR.out.symm), u.back HBW.out⟩
 · have hs := eq_false_of_ne_true hs
   have HFS := Lib.hid hs
   have HR := Lib.hid (show R = false by rw [← hR]; rw [hs]; rfl)
   clear hR hs hTA
   go_wp2_with (go_at_call 106; (with_reducible refine (Calls.later_eq (u := u0) (StateFits_calls _ (.slice TA S.length td) M S _ (HM1.out.later u0) (HUS.out.later u0) HSZ.out HNM.out) (congrArg Value.bool HFS.out)).mono ?_); rintro e w' ⟨rfl, u1, rfl⟩)
   go_ret
   exact ⟨ret_eq (congrArg Value.bool HR.out.symm), u1.back HB.out⟩
theorem StepFits_calls (mv sv iv tv : Value) (M : Md) (S I T : List (List Int)) (w : World) (hM : MdAt w mv M) (hS : VlAt w sv S) (hI : VlAt w iv I) (hT : VlAt w tv T) (hsz : M.nodes.length ≤ 1048576) (hnm : ∀ x, x ∈ M.nodes → x.name.size ≤ 140737488351232) :
 Makes Tryz.prog 39 #[mv, sv, iv, tv] w (.bool (stepK M S I T)) := by
 have HM := Lib.hid hM
 have HNM := Lib.hid hnm
 have HSZ := Lib.hid hsz
 have HS := Lib.hid hS
 have HI := Lib.hid hI
 have HT := Lib.hid hT
 obtain ⟨s0, s1, s2, s3, s4, rfl, -, h1s, h2s, -, -⟩ := hM.at_
 have HS1 := Lib.hid h1s
 have HS2 := Lib.hid h2s
 obtain ⟨TA, td, rfl, -, htl, hTA⟩ := hT
 clear hM hnm hsz h1s h2s hS hI
 generalize hR : stepK M S I T = R
 unfold stepK at hR
 go_enter Tryz.func39, Tryz.ntmps39
 go_upto_region 1 with fail
 obtain ⟨w1, hw1, HB, m0, m1, m2, m3, m4⟩ := model_box 27 s0 s1 s2 s3 s4 w
 rw [hw1]
 clear hw1
 have HM1 := Lib.hid (HM.out.below HB.out)
 have HUS := Lib.hid (HS.out.below HB.out)
 have HUI := Lib.hid (HI.out.below HB.out)
 have HUT := Lib.hid (HT.out.below HB.out)
 have HB1 := Lib.hid (HS1.out.below HB.out)
 have HB2 := Lib.hid (HS2.out.below HB.out)
 refine at_world (w := w1) ?_
 intro u0
 by_cases hs : fitsK 36 M S = true
 · have HFS := Lib.hid hs
   by_cases hi : fitsK 35 M I = true
   · have HFI := Lib.hid hi
     by_cases ht : fitsK 36 M T = true
     · have HFT := Lib.hid ht
       have hbo : bothK M S I = true := by unfold bothK; rw [hs, hi]; rfl
       rw [hbo, ht, Bool.true_and, Bool.true_and] at hR
       have HE := Lib.hid (eval_one hbo)
       obtain ⟨VV, hVV⟩ : ∃ VV, VV = evalL M S I := ⟨_, rfl⟩
       rw [← hVV] at hR
       have HVK := Lib.hid (show ∀ j, j < M.nodes.length → valB (M.nodes.getD j Nd.zero) (VV.getD j []) = true by rw [hVV]; exact evalN_ok HE.out.2.1 HE.out.2.2.1 HE.out.2.2.2.1 M.nodes.length (Nat.le_refl _))
       have HVL := Lib.hid (show VV.length = M.nodes.length by rw [hVV]; exact evalN_length _ _ _ _)
       have HEQ := Lib.hid ((stepK_eq ht HVK.out).trans hR)
       have HVV := Lib.hid hVV
       clear hVV
       have HCE := Lib.hid (fits_cell (fitsK_code HFT.out).2)
       have HBD := Lib.hid (binds_parts (codeN_parts (fitsK_code HFT.out).1).2.2.2.1)
       have HNB := Lib.hid (codeN_parts (fitsK_code HFT.out).1).2.1
       clear hR hs hi ht hbo
       go_upto_region 5 with (first | (go_at_call 106; (with_reducible refine (Calls.later_eq (u := u0) (StateFits_calls _ sv M S _ (HM1.out.later u0) (HUS.out.later u0) HSZ.out HNM.out) (congrArg Value.bool HFS.out)).mono ?_); rintro e w' ⟨rfl, u1, rfl⟩) | (go_at_call 107; refine (Calls.later_eq (u := u1) (InputFits_calls _ _ M I _ (HM1.out.later u1) (HUI.out.later u1) HSZ.out HNM.out) (congrArg Value.bool HFI.out)).mono ?_; rintro e w' ⟨rfl, u2, rfl⟩) | (go_at_call 106; (with_reducible refine (Calls.later_eq (u := u2) (StateFits_calls _ (.slice TA T.length td) M T _ (HM1.out.later u2) (HUT.out.later u2) HSZ.out HNM.out) (congrArg Value.bool HFT.out)).mono ?_); rintro e w' ⟨rfl, u3, rfl⟩) | (go_at_call 109; refine (l4All_calls _ _ _ M S I _ (HM1.out.later u3) (HUS.out.later u3) (HUI.out.later u3) HE.out.2.1 HE.out.2.2.1 HE.out.2.2.2.1 HSZ.out).mono ?_; rintro e w' ⟨fv, fs, rfl, hb, hac⟩; have HFV := Lib.hid (show VlAt w' fv VV by rw [HVV.out]; exact hac.vlAt (by rw [evalN_length]; have := HSZ.out; omega)); obtain ⟨u4, h2⟩ := u3.step hb; subst h2; clear hb hac) | (go_at_call 116; refine (l2Places_calls _ M 36 _ (HM1.out.later u4) HSZ.out).mono ?_; rintro e w' ⟨pv, rfl, hb, hown⟩; have HFV := Lib.hid (HFV.out.below hb); have HPV := Lib.hid (places_slN hown HSZ.out); obtain ⟨u5, h3⟩ := u4.step hb; subst h3; clear hb hown))
       have HBW := Lib.hid (u5.back HB.out)
       have HLW : LaterC w1 u5.val := ⟨u5, rfl⟩
       have m0 := lift_cell HLW m0
       have m1 := lift_cell HLW m1
       have m2 := lift_cell HLW m2
       have m3 := lift_cell HLW m3
       have m4 := lift_cell HLW m4
       have HBBW := Lib.hid (HB2.out.below HLW.below)
       clear HLW
       generalize u5.val = W at *
       obtain ⟨PA, pc, rfl, -, hpl, hPA⟩ := HPV.out
       obtain ⟨FA, fc, rfl, -, hfl, hFA⟩ := HFV.out
       have HNO := Lib.hid (show ∀ k, k < (plK M).length → stateOk' M.nexts VV (plK M) T k = false → R = false from fun k h1 h2 => HEQ.out ▸ range_no h1 h2)
       have HYES := Lib.hid (show (∀ k, k < (plK M).length → stateOk' M.nexts VV (plK M) T k = true) → R = true from fun h => HEQ.out ▸ range_all h)
       generalize hq : (placesN 36 M.nodes M.nodes.length).length = q at *
       have HQ := Lib.hid hq
       generalize hy : T.length = y at *
       have HY := Lib.hid hy
       generalize hp : VV.length = p at *
       have HP := Lib.hid hp
       clear hq hy hp
       refine at_world (w := W) ?_
       intro w0
       go_wp2
       go_loopw [11] (fun i wr => ∃ k : Nat, k ≤ q ∧ i = .int .i64 k ∧ Hid (∀ j, j < k → stateOk' M.nexts VV (plK M) T j = true) ∧ LaterC W wr) (fun i _ => q - (intOf i).toNat)
       case atStart => exact ⟨0, Nat.zero_le _, rfl, Lib.hid (fun j hj => absurd hj (Nat.not_lt_zero _)), ⟨w0, rfl⟩⟩
       case round =>
        obtain ⟨k, hk, rfl, hto, ⟨u, rfl⟩⟩ := hrel
        by_cases hlt : k < q
        · have hlt' : (k : Int) < q := by omega
          have hgp := getD_at (show k < (placesN 36 M.nodes M.nodes.length).length by rw [HQ.out]; exact hlt) 0
          obtain ⟨pb, po, rfl, hpx⟩ := hPA k _ hgp
          have HCK := Lib.hid (HCE.out.2 k hlt)
          have HSO := Lib.hid (show stateOk' M.nexts VV (plK M) T k = (decide (bdN ((plK M).getD k 0) M.nexts < 0) || decide (T.getD k [] = vN VV (bdN ((plK M).getD k 0) M.nexts))) from rfl)
          obtain ⟨st, hst⟩ : ∃ st, st = (plK M).getD k 0 := ⟨_, rfl⟩
          rw [← hst] at HSO HCK
          have HST := Lib.hid hst
          have p0 : ∀ l : Later W, l.val.cell? ⟨pb, po + k, none⟩ = some (.int .i64 st) := by rw [hst]; exact hpx.int (Below.refl _ _)
          clear hst hgp hpx hPA
          have HTO1 := Lib.hid (show stateOk' M.nexts VV (plK M) T k = true → ∀ j, j < k + 1 → stateOk' M.nexts VV (plK M) T j = true from fun h j hj => by
           rcases Nat.lt_or_ge j k with g | g
           · exact hto.out j g
           · obtain rfl : j = k := by omega
             exact h)
          rcases bd_cases st M.nexts with hb1 | ⟨b, hb2, hb3, hb4⟩
          · have HK1 := Lib.hid hb1
            have HTO := Lib.hid (HTO1.out (by rw [HSO.out, hb1]; rfl))
            clear hb1 hTA hFA
            go_wp2
            refine wp_region_later (w0 := W) (by kernel_rfl) (by kernel_rfl) ⟨_, rfl⟩ ?_
            repeat (go_big_quiet_step ((go_at_call 117; exact Calls.later_eq (l4Bound_calls _ M.nexts st _ (HBBW.out.later _)) (congrArg (Value.int .i64) HK1.out))))
            refine wpQuiet_nil ?_
            rintro _ ⟨v1, rfl⟩
            go_wp2
            refine wp_region_later (w0 := W) (by kernel_rfl) (by kernel_rfl) ⟨_, rfl⟩ ?_
            repeat (go_big_quiet_step (fail))
            refine wpQuiet_nil ?_
            rintro _ ⟨v2, rfl⟩
            go_wp2
            go_roundw
            case rel => exact ⟨k + 1, by omega, by go_num, HTO, ⟨v2, rfl⟩⟩
            case measure => simp [intOf] <;> omega
          · have hbb := HBD.out.2 b hb2
            have hpt := bound_parts hbb
            obtain ⟨nd, hnd⟩ := Int.eq_ofNat_of_zero_le hpt.2.1.1
            have hvk := HVK.out nd (by omega)
            have hsk := node_sok HNB.out (show nd < M.nodes.length by omega)
            have HV1 := Lib.hid (val_one hvk hsk)
            have hlen := step_len hbb (xs := VV.getD nd []) (by unfold pN; rw [hnd, Int.toNat_natCast]; exact hvk)
            rw [hb3] at hlen
            have HLN := Lib.hid hlen
            have HK1 := Lib.hid (hb4.trans hnd)
            have hndp : nd < p := by have := HVL.out; omega
            have hndp' : (nd : Int) < p := by omega
            have hky : k < y := by have h1 := HCE.out.1; omega
            have hky' : (k : Int) < y := by omega
            obtain ⟨tb, tp, sx, rfl, htc, hts⟩ := hTA k _ (getD_at (show k < T.length by rw [HY.out]; exact hky) [])
            obtain ⟨fb, fo, fx, rfl, hfc, hfs⟩ := hFA nd _ (getD_at (show nd < VV.length by rw [HP.out]; exact hndp) [])
            have HSO2 := Lib.hid (show stateOk' M.nexts VV (plK M) T k = decide (T.getD k [] = VV.getD nd []) by
             rw [HSO.out, HK1.out, decide_eq_false (show ¬ ((nd : Int) < 0) by omega), Bool.false_or]
             unfold vN
             simp only [Int.toNat_natCast])
            generalize hte : T.getD k [] = ts at *
            generalize hve : VV.getD nd [] = vs at *
            have HTS := Lib.hid (hts.below HBW.out)
            have HFS2 := Lib.hid hfs
            have HTL := Lib.hid (show ts.length = cellN M.nodes st from HCK.out)
            have HTM := Lib.hid (show ts.length ≤ 281474976710656 by obtain ⟨_, _, _, _, h, _⟩ := hts; exact h)
            obtain ⟨tA, tc, rfl, -⟩ := hts
            obtain ⟨fA, fc2, rfl, -⟩ := hfs
            have e2 : ∀ l : Later W, l.val.cell? ⟨tb, tp + k, none⟩ = some (.slice tA ts.length tc) := Later.cell (keepcell HBW.out htc)
            have e3 : ∀ l : Later W, l.val.cell? ⟨fb, fo + nd, none⟩ = some (.slice fA vs.length fc2) := Later.cell hfc
            have hk0 : decide ((0 : Int) ≤ (nd : Int)) = true := decide_eq_true (by omega)
            have HTC := Lib.hid (show ts.length ≤ 1048576 by have h1 := HTL.out; have h2 := (cells_bits (pN M.nodes st).idx (pN M.nodes st).wid).2.2.2; unfold cellN at h1; omega)
            clear htc hfc hlen hvk hsk hpt hbb hb2 hb3 hb4 hTA hFA hte hve hto hnd
            go_wp2
            refine wp_region_later (w0 := W) (by kernel_rfl) (by kernel_rfl) ⟨_, rfl⟩ ?_
            repeat (go_big_quiet_step ((go_at_call 117; exact Calls.later_eq (l4Bound_calls _ M.nexts st _ (HBBW.out.later _)) (congrArg (Value.int .i64) HK1.out))))
            refine wpQuiet_nil ?_
            rintro _ ⟨v1, rfl⟩
            go_upto_region 9 with fail
            by_cases hok : ts = vs
            · have HOK := Lib.hid (decide_eq_true hok)
              have HTO := Lib.hid (HTO1.out (by rw [HSO2.out]; exact decide_eq_true hok))
              clear hok
              refine wp_region_later (w0 := W) (by kernel_rfl) (by kernel_rfl) ⟨_, rfl⟩ ?_
              repeat (go_big_quiet_step ((go_at_call 118; exact Calls.later_eq (l4Same_calls _ _ ts vs _ (HTS.out.later _) (HFS2.out.later _) (HTL.out.trans HLN.out.symm)) (congrArg Value.bool HOK.out))))
              refine wpQuiet_nil ?_
              rintro _ ⟨v2, rfl⟩
              go_wp2
              go_roundw
              case rel => exact ⟨k + 1, by omega, by go_num, HTO, ⟨v2, rfl⟩⟩
              case measure => simp [intOf] <;> omega
            · have HOK := Lib.hid (decide_eq_false hok)
              have HR := Lib.hid (HNO.out k hlt (by rw [HSO2.out]; exact decide_eq_false hok))
              clear hok
              refine wp_region_later (w0 := W) (by kernel_rfl) (by kernel_rfl) ⟨_, rfl⟩ ?_
              repeat (go_big_quiet_step ((go_at_call 118; exact Calls.later_eq (l4Same_calls _ _ ts vs _ (HTS.out.later _) (HFS2.out.later _) (HTL.out.trans HLN.out.symm)) (congrArg Value.bool HOK.out))))
              refine wpQuiet_nil ?_
              rintro _ ⟨v2, rfl⟩
              go_wp2
              go_ret
              exact ⟨ret_eq (congrArg Value.bool HR.out.symm), v2.back HBW.out⟩
        · obtain rfl : k = q := by omega
          have HR := Lib.hid (HYES.out hto.out)
          clear hTA hFA hPA hto
          go_wp2
          go_ret
          exact ⟨ret_eq (congrArg Value.bool HR.out.symm), u.back HBW.out⟩
     · have ht := eq_false_of_ne_true ht
       have HFT := Lib.hid ht
       have HR := Lib.hid (show R = false by rw [← hR, ht, Bool.false_and, Bool.and_false])
       clear hR hs hi ht hTA
       go_wp2_with (first | (go_at_call 106; (with_reducible refine (Calls.later_eq (u := u0) (StateFits_calls _ sv M S _ (HM1.out.later u0) (HUS.out.later u0) HSZ.out HNM.out) (congrArg Value.bool HFS.out)).mono ?_); rintro e w' ⟨rfl, u1, rfl⟩) | (go_at_call 107; refine (Calls.later_eq (u := u1) (InputFits_calls _ _ M I _ (HM1.out.later u1) (HUI.out.later u1) HSZ.out HNM.out) (congrArg Value.bool HFI.out)).mono ?_; rintro e w' ⟨rfl, u2, rfl⟩) | (go_at_call 106; (with_reducible refine (Calls.later_eq (u := u2) (StateFits_calls _ (.slice TA T.length td) M T _ (HM1.out.later u2) (HUT.out.later u2) HSZ.out HNM.out) (congrArg Value.bool HFT.out)).mono ?_); rintro e w' ⟨rfl, u3, rfl⟩))
       go_ret
       exact ⟨ret_eq (congrArg Value.bool HR.out.symm), u3.back HB.out⟩
   · have hi := eq_false_of_ne_true hi
     have HFI := Lib.hid hi
     have HR := Lib.hid (show R = false by rw [← hR]; unfold bothK; rw [hs, hi]; rfl)
     clear hR hs hi hTA
     go_wp2_with (first | (go_at_call 106; (with_reducible refine (Calls.later_eq (u := u0) (StateFits_calls _ sv M S _ (HM1.out.later u0) (HUS.out.later u0) HSZ.out HNM.out) (congrArg Value.bool HFS.out)).mono ?_); rintro e w' ⟨rfl, u1, rfl⟩) | (go_at_call 107; refine (Calls.later_eq (u := u1) (InputFits_calls _ _ M I _ (HM1.out.later u1) (HUI.out.later u1) HSZ.out HNM.out) (congrArg Value.bool HFI.out)).mono ?_; rintro e w' ⟨rfl, u2, rfl⟩))
     go_ret
     exact ⟨ret_eq (congrArg Value.bool HR.out.symm), u2.back HB.out⟩
 · have hs := eq_false_of_ne_true hs
   have HFS := Lib.hid hs
   have HR := Lib.hid (show R = false by rw [← hR]; unfold bothK; rw [hs]; rfl)
   clear hR hs hTA
   go_wp2_with (go_at_call 106; (with_reducible refine (Calls.later_eq (u := u0) (StateFits_calls _ sv M S _ (HM1.out.later u0) (HUS.out.later u0) HSZ.out HNM.out) (congrArg Value.bool HFS.out)).mono ?_); rintro e w' ⟨rfl, u1, rfl⟩)
   go_ret
   exact ⟨ret_eq (congrArg Value.bool HR.out.symm), u1.back HB.out⟩
theorem l4All_at (mv sv iv : Value) (M : Md) (S I : List (List Int)) (w : World) (hM : MdAt w mv M) (hS : VlAt w sv S) (hI : VlAt w iv I) (h : bothK M S I = true) (h60 : M.nodes.length ≤ 1048576) :
 Calls Tryz.prog 109 #[mv, sv, iv] w fun e w' => ∃ v, e = .returned v ∧ Below w.heap.size w w' ∧ VlAt w' v (evalL M S I) := by
 obtain ⟨-, h1, h2, h3, -⟩ := eval_one h
 refine (l4All_calls mv sv iv M S I w hM hS hI h1 h2 h3 h60).mono fun e w' ⟨v, svs, he, hb, hac⟩ => ⟨v, he, hb, hac.vlAt (by rw [evalN_length]; omega)⟩
theorem EvalHolds_calls (mv sv iv : Value) (M : Md) (S I : List (List Int)) (w : World) (hM : MdAt w mv M) (hS : VlAt w sv S) (hI : VlAt w iv I) (hsz : M.nodes.length ≤ 1048576) (hnm : ∀ x, x ∈ M.nodes → x.name.size ≤ 140737488351232) :
 Makes Tryz.prog 30 #[mv, sv, iv] w (.bool (holdsK M S I)) := by
 have HM := Lib.hid hM
 have HNM := Lib.hid hnm
 have HSZ := Lib.hid hsz
 have HS := Lib.hid hS
 have HI := Lib.hid hI
 obtain ⟨s0, s1, s2, s3, s4, rfl, -⟩ := hM.at_
 clear hM hnm hsz hS hI
 generalize hR : holdsK M S I = R
 unfold holdsK at hR
 go_enter Tryz.func30, Tryz.ntmps30
 go_upto_region 1 with fail
 obtain ⟨w1, hw1, HB, m0, m1, m2, m3, m4⟩ := model_box 27 s0 s1 s2 s3 s4 w
 rw [hw1]
 clear hw1
 have HM1 := Lib.hid (HM.out.below HB.out)
 have HS1 := Lib.hid (HS.out.below HB.out)
 have HI1 := Lib.hid (HI.out.below HB.out)
 by_cases hs : fitsK 36 M S = true
 · have HFS := Lib.hid hs
   by_cases hi : fitsK 35 M I = true
   · have HFI := Lib.hid hi
     have hbo : bothK M S I = true := by unfold bothK; rw [hs, hi]; rfl
     have HBO := Lib.hid hbo
     rw [hbo, Bool.true_and] at hR
     have HR := Lib.hid hR
     have HON := Lib.hid (eval_one hbo).2.2.2.2.1
     clear hbo hs hi hR
     refine at_world (w := w1) ?_
     intro u0
     go_region_held3 (fun w' => w'.cell? ⟨w.heap.size, 0, none⟩ = some s0 ∧ w'.cell? ⟨w.heap.size, 1, none⟩ = some s1 ∧ w'.cell? ⟨w.heap.size, 2, none⟩ = some s2 ∧ w'.cell? ⟨w.heap.size, 3, none⟩ = some s3 ∧ w'.cell? ⟨w.heap.size, 4, none⟩ = some s4) (exact ⟨lf m0, lf m1, lf m2, lf m3, lf m4⟩) (first | (go_at_call 106; refine (StateFits_calls _ _ M S _ (HM1.out.below lcb) (HS1.out.below lcb) HSZ.out HNM.out).mono ?_; rintro e w' ⟨rfl, hb⟩; rw [HFS.out]; obtain ⟨v1, hv1⟩ := laterC_step (w1 := w1) lcx hb; subst hv1; clear hb) | (go_at_call 107; refine (InputFits_calls _ _ M I _ (HM1.out.below lcb) (HI1.out.below lcb) HSZ.out HNM.out).mono ?_; rintro e w' ⟨rfl, hb⟩; rw [HFI.out]; obtain ⟨v2, hv2⟩ := laterC_step (w1 := w1) lcx hb; subst hv2; clear hb) | (go_at_call 109; refine (l4All_at _ _ _ M S I _ (HM1.out.below lcb) (HS1.out.below lcb) (HI1.out.below lcb) HBO.out HSZ.out).mono ?_; rintro e w' ⟨ev, rfl, hb, hev⟩; have HEV := Lib.hid hev; obtain ⟨v3, hv3⟩ := laterC_step (w1 := w1) lcx hb; subst hv3; clear hb; clear hev) | (go_at_call 108; refine (l4Holds_calls _ ev M (evalL M S I) _ (HM1.out.below lcb) (HEV.out.below bdx) HON.out).mono ?_; rintro e w' ⟨rfl, hb⟩; rw [HR.out]; obtain ⟨v4, hv4⟩ := laterC_step (w1 := w1) lcx hb; subst hv4; clear hb))
     all_goals go_wp2
     all_goals go_ret
     all_goals exact ⟨rfl, v4.back HB.out⟩
   · have hi := eq_false_of_ne_true hi
     have HFI := Lib.hid hi
     have HR := Lib.hid (show R = false by rw [← hR]; unfold bothK; rw [hs, hi]; rfl)
     clear hR hs hi
     refine wp_region_later (w0 := w1) (by kernel_rfl) (by kernel_rfl) (LaterC.refl _) ?_
     repeat (go_big_quiet_step (first | (go_at_call 106; exact Calls.later_eq (StateFits_calls _ _ M S _ (HM1.out.later _) (HS1.out.later _) HSZ.out HNM.out) (congrArg Value.bool HFS.out)) | (go_at_call 107; exact Calls.later_eq (InputFits_calls _ _ M I _ (HM1.out.later _) (HI1.out.later _) HSZ.out HNM.out) (congrArg Value.bool HFI.out))))
     refine wpQuiet_nil ?_
     rintro _ ⟨u1, rfl⟩
     go_wp2
     go_ret
     exact ⟨ret_eq (congrArg Value.bool HR.out.symm), u1.back HB.out⟩
 · have hs := eq_false_of_ne_true hs
   have HFS := Lib.hid hs
   have HR := Lib.hid (show R = false by rw [← hR]; unfold bothK; rw [hs]; rfl)
   clear hR hs
   refine wp_region_later (w0 := w1) (by kernel_rfl) (by kernel_rfl) (LaterC.refl _) ?_
   repeat (go_big_quiet_step ((go_at_call 106; exact Calls.later_eq (StateFits_calls _ _ M S _ (HM1.out.later _) (HS1.out.later _) HSZ.out HNM.out) (congrArg Value.bool HFS.out))))
   refine wpQuiet_nil ?_
   rintro _ ⟨u1, rfl⟩
   go_wp2
   go_ret
   exact ⟨ret_eq (congrArg Value.bool HR.out.symm), u1.back HB.out⟩
theorem EvalBad_calls (mv sv iv : Value) (M : Md) (S I : List (List Int)) (w : World) (hM : MdAt w mv M) (hS : VlAt w sv S) (hI : VlAt w iv I) (hsz : M.nodes.length ≤ 1048576) (hnm : ∀ x, x ∈ M.nodes → x.name.size ≤ 140737488351232) :
 Makes Tryz.prog 34 #[mv, sv, iv] w (.int .i64 (badK M S I)) := by
 have HM := Lib.hid hM
 have HNM := Lib.hid hnm
 have HSZ := Lib.hid hsz
 have HS := Lib.hid hS
 have HI := Lib.hid hI
 obtain ⟨s0, s1, s2, s3, s4, rfl, -⟩ := hM.at_
 clear hM hnm hsz hS hI
 generalize hR : badK M S I = R
 unfold badK at hR
 go_enter Tryz.func34, Tryz.ntmps34
 go_upto_region 1 with fail
 obtain ⟨w1, hw1, HB, m0, m1, m2, m3, m4⟩ := model_box 27 s0 s1 s2 s3 s4 w
 rw [hw1]
 clear hw1
 have HM1 := Lib.hid (HM.out.below HB.out)
 have HS1 := Lib.hid (HS.out.below HB.out)
 have HI1 := Lib.hid (HI.out.below HB.out)
 by_cases hs : fitsK 36 M S = true
 · have HFS := Lib.hid hs
   by_cases hi : fitsK 35 M I = true
   · have HFI := Lib.hid hi
     have hbo : bothK M S I = true := by unfold bothK; rw [hs, hi]; rfl
     have HBO := Lib.hid hbo
     rw [if_pos hbo] at hR
     have HR := Lib.hid hR
     have HON := Lib.hid (eval_one hbo).2.2.2.2.2
     clear hbo hs hi hR
     refine at_world (w := w1) ?_
     intro u0
     go_upto_region 3 with (first | (go_at_call 106; refine (Calls.later_eq (u := u0) (StateFits_calls _ _ M S _ (HM1.out.later u0) (HS1.out.later u0) HSZ.out HNM.out) (congrArg Value.bool HFS.out)).mono ?_; rintro e w' ⟨rfl, u1, rfl⟩) | (go_at_call 107; refine (Calls.later_eq (u := u1) (InputFits_calls _ _ M I _ (HM1.out.later u1) (HI1.out.later u1) HSZ.out HNM.out) (congrArg Value.bool HFI.out)).mono ?_; rintro e w' ⟨rfl, u2, rfl⟩))
     go_region_held3 (fun w' => w'.cell? ⟨w.heap.size, 0, none⟩ = some s0 ∧ w'.cell? ⟨w.heap.size, 1, none⟩ = some s1 ∧ w'.cell? ⟨w.heap.size, 2, none⟩ = some s2 ∧ w'.cell? ⟨w.heap.size, 3, none⟩ = some s3 ∧ w'.cell? ⟨w.heap.size, 4, none⟩ = some s4) (exact ⟨lf m0, lf m1, lf m2, lf m3, lf m4⟩) (first | (go_at_call 109; refine (l4All_at _ _ _ M S I _ (HM1.out.below lcb) (HS1.out.below lcb) (HI1.out.below lcb) HBO.out HSZ.out).mono ?_; rintro e w' ⟨ev, rfl, hb, hev⟩; have HEV := Lib.hid hev; obtain ⟨v3, hv3⟩ := laterC_step (w1 := w1) lcx hb; subst hv3; clear hb; clear hev) | (go_at_call 113; refine (l4Bad_calls _ ev M (evalL M S I) _ (HM1.out.below lcb) (HEV.out.below bdx) HON.out).mono ?_; rintro e w' ⟨rfl, hb⟩; rw [HR.out]; obtain ⟨v4, hv4⟩ := laterC_step (w1 := w1) lcx hb; subst hv4; clear hb))
     all_goals go_wp2
     all_goals go_ret
     all_goals exact ⟨rfl, v4.back HB.out⟩
   · have hi := eq_false_of_ne_true hi
     have HFI := Lib.hid hi
     have HR := Lib.hid (show R = -1 by rw [← hR]; unfold bothK; rw [hs, hi]; rfl)
     clear hR hs hi
     refine at_world (w := w1) ?_
     intro u0
     go_wp2_with (first | (go_at_call 106; refine (Calls.later_eq (u := u0) (StateFits_calls _ _ M S _ (HM1.out.later u0) (HS1.out.later u0) HSZ.out HNM.out) (congrArg Value.bool HFS.out)).mono ?_; rintro e w' ⟨rfl, u1, rfl⟩) | (go_at_call 107; refine (Calls.later_eq (u := u1) (InputFits_calls _ _ M I _ (HM1.out.later u1) (HI1.out.later u1) HSZ.out HNM.out) (congrArg Value.bool HFI.out)).mono ?_; rintro e w' ⟨rfl, u2, rfl⟩))
     go_ret
     exact ⟨ret_eq (congrArg (Value.int .i64) HR.out.symm), u2.back HB.out⟩
 · have hs := eq_false_of_ne_true hs
   have HFS := Lib.hid hs
   have HR := Lib.hid (show R = -1 by rw [← hR]; unfold bothK; rw [hs]; rfl)
   clear hR hs
   refine at_world (w := w1) ?_
   intro u0
   go_wp2_with (go_at_call 106; refine (Calls.later_eq (u := u0) (StateFits_calls _ _ M S _ (HM1.out.later u0) (HS1.out.later u0) HSZ.out HNM.out) (congrArg Value.bool HFS.out)).mono ?_; rintro e w' ⟨rfl, u1, rfl⟩)
   go_ret
   exact ⟨ret_eq (congrArg (Value.int .i64) HR.out.symm), u1.back HB.out⟩
theorem l6At_at (mv tv : Value) (M : Md) (Ss Is : List Int) (k : Nat) (z : Int) (w : World) (hM : MdAt w mv M) (hT : TrAt w tv Ss Is) (hsz : M.nodes.length ≤ 1048576) (hnm : ∀ x, x ∈ M.nodes → x.name.size ≤ 140737488351232) (hsh : Shaped M Ss Is) (hk : k < Ss.length) (hz : z = (k : Int)) :
 Calls Tryz.prog 138 #[mv, tv, .int .i64 z] w fun e w' => ∃ v1 v2, e = .returned (.tuple #[v1, v2]) ∧ Below w.heap.size w w' ∧ VlAt w' v1 (mS M Ss k) ∧ VlAt w' v2 (mI M Is k) := by
 subst hz
 exact l6At_calls mv tv M Ss Is k w hM hT hsz hnm hsh hk
theorem TraceCode_calls (mv tv : Value) (M : Md) (Ss Is : List Int) (w : World) (hM : MdAt w mv M) (hT : TrAt w tv Ss Is) (hsz : M.nodes.length ≤ 1048576) (hnm : ∀ x, x ∈ M.nodes → x.name.size ≤ 140737488351232) :
 Makes Tryz.prog 58 #[mv, tv] w (.int .i64 (traceN M Ss Is)) := by
 have HX1 := Lib.hid (fun h => trace_shape (M := M) (Ss := Ss) (Is := Is) h)
 have HX2 := Lib.hid (fun h h1 => trace_init (M := M) (Ss := Ss) (Is := Is) h h1)
 have HX3 := Lib.hid (fun h h1 h2 => trace_step (M := M) (Ss := Ss) (Is := Is) h h1 h2)
 have HX4 := Lib.hid (fun h h1 h2 h3 => trace_hold (M := M) (Ss := Ss) (Is := Is) h h1 h2 h3)
 have HX5 := Lib.hid (fun h h1 h2 h3 => trace_last (M := M) (Ss := Ss) (Is := Is) h h1 h2 h3)
 have HSO := Lib.hid (fun h => shaped_of (M := M) (Ss := Ss) (Is := Is) h)
 have HSN := Lib.hid (show ∀ k, k < Ss.length - 1 → stepK M (mS M Ss k) (mI M Is k) (mS M Ss (k + 1)) = false → stepsK M Ss Is = false from fun k h1 h2 => range_no h1 h2)
 have HSY := Lib.hid (show (∀ k, k < Ss.length - 1 → stepK M (mS M Ss k) (mI M Is k) (mS M Ss (k + 1)) = true) → stepsK M Ss Is = true from fun h => range_all h)
 have HHN := Lib.hid (show ∀ k, k < Ss.length → holdsK M (mS M Ss k) (mI M Is k) = false → momsK M Ss Is = false from fun k h1 h2 => range_no h1 h2)
 have HHY := Lib.hid (show (∀ k, k < Ss.length → holdsK M (mS M Ss k) (mI M Is k) = true) → momsK M Ss Is = true from fun h => range_all h)
 have HLK := Lib.hid (show lastK M Ss Is = badK M (mS M Ss (Ss.length - 1)) (mI M Is (Ss.length - 1)) from rfl)
 generalize traceN M Ss Is = R at *
 have HM := Lib.hid hM
 have HNM := Lib.hid hnm
 have HSZ := Lib.hid hsz
 have HT := Lib.hid hT
 obtain ⟨s0, s1, s2, s3, s4, rfl, -, h1s, h2s, -, -⟩ := hM.at_
 have HS1 := Lib.hid h1s
 have HS2 := Lib.hid h2s
 obtain ⟨t0, t1, rfl, ht0, ht1⟩ := hT
 obtain ⟨A0, c0, rfl, hnc0, hn0, hA0⟩ := ht0
 obtain ⟨A1, c1, rfl, hnc1, hn1, hA1⟩ := ht1
 clear hM hnm hsz h1s h2s hnc0 hnc1
 generalize hn : Ss.length = n at *
 have HN := Lib.hid hn
 generalize hm : Is.length = n1 at *
 have HI := Lib.hid hm
 clear hn hm
 go_enter Tryz.func58, Tryz.ntmps58
 go_upto_region 1 with fail
 obtain ⟨w2, hw2, HB, m0, m1, m2, m3, m4, m5, m6⟩ := boxes2 27 68 s0 s1 s2 s3 s4 (.slice A0 n c0) (.slice A1 n1 c1) w
 rw [hw2]
 clear hw2
 have HM1 := Lib.hid (HM.out.below HB.out)
 have HT1 := Lib.hid (HT.out.below HB.out)
 have HB1 := Lib.hid (HS1.out.below HB.out)
 have HB2 := Lib.hid (HS2.out.below HB.out)
 refine at_world (w := w2) ?_
 intro u0
 clear hA0 hA1
 by_cases hs : shapeK M Ss Is = true
 · have HSK := Lib.hid hs
   have HSH := Lib.hid (HSO.out hs)
   have hn0 : 1 ≤ n := by have h1 := HN.out; have h2 := HSH.out.lo; omega
   have hn3 : n ≤ 301 := by have h1 := HN.out; have h2 := HSH.out.hi; omega
   clear hs
   by_cases hi : initK M (mS M Ss 0) = true
   · have HIK := Lib.hid hi
     clear hi
     go_upto_region 7 with (first | (go_at_call 137; refine (Calls.later_eq (u := u0) (l6Shape_calls _ _ M Ss Is _ (HM1.out.later u0) (HT1.out.later u0) HSZ.out HNM.out) (congrArg Value.bool HSK.out)).mono ?_; rintro e w' ⟨rfl, u1, rfl⟩) | (go_at_call 138; refine (l6At_at _ _ M Ss Is 0 _ _ (HM1.out.later u1) (HT1.out.later u1) HSZ.out HNM.out HSH.out (by have h1 := HN.out; have h2 := HSH.out.lo; omega) (by have h1 := HN.out; have h2 := HSH.out.lo; omega)).mono ?_; rintro e w' ⟨a1, a2, rfl, hb, h1, h2⟩; have Ha1 := Lib.hid h1; have Ha2 := Lib.hid h2; obtain ⟨u2, g⟩ := u1.step hb; subst g; clear hb h1 h2) | (go_at_call 41; refine (Calls.later_eq (u := u2) (InitFits_calls _ _ M (mS M Ss 0) _ (HM1.out.later u2) Ha1.out HSZ.out HNM.out) (congrArg Value.bool HIK.out)).mono ?_; rintro e w' ⟨rfl, u3, rfl⟩))
     clear Ha1 Ha2
     go_loopw [7] (fun i wr => ∃ k : Nat, k ≤ n - 1 ∧ i = .int .i64 k ∧ Hid (∀ j, j < k → stepK M (mS M Ss j) (mI M Is j) (mS M Ss (j + 1)) = true) ∧ LaterC w2 wr) (fun i _ => n - (intOf i).toNat)
     case atStart => exact ⟨0, Nat.zero_le _, rfl, Lib.hid (fun j hj => absurd hj (Nat.not_lt_zero _)), ⟨u3, rfl⟩⟩
     case round =>
      obtain ⟨k, hk, rfl, hto, ⟨u, rfl⟩⟩ := hrel
      by_cases hlt : k + 1 < n
      · have hlt' : (k : Int) + 1 < n := by omega
        by_cases hst : stepK M (mS M Ss k) (mI M Is k) (mS M Ss (k + 1)) = true
        · have HST := Lib.hid hst
          have HTO := Lib.hid (show ∀ j, j < k + 1 → stepK M (mS M Ss j) (mI M Is j) (mS M Ss (j + 1)) = true from fun j hj => by
           rcases Nat.lt_or_ge j k with g | g
           · exact hto.out j g
           · obtain rfl : j = k := by omega
             exact hst)
          clear hst hto
          go_upto_region 10 with (go_at_call 138; refine (l6At_at _ _ M Ss Is k _ _ (HM1.out.later u) (HT1.out.later u) HSZ.out HNM.out HSH.out (by have h1 := HN.out; have h2 := HSH.out.lo; omega) (by have h1 := HN.out; have h2 := HSH.out.lo; omega)).mono ?_; rintro e w' ⟨b1, b2, rfl, hb, h1, h2⟩; have Hb1 := Lib.hid h1; have Hb2 := Lib.hid h2; obtain ⟨v1, g⟩ := u.step hb; subst g; clear hb h1 h2)
          go_upto_region 11 with (go_at_call 138; refine (l6At_at _ _ M Ss Is (k + 1) _ _ (HM1.out.later v1) (HT1.out.later v1) HSZ.out HNM.out HSH.out (by have h1 := HN.out; have h2 := HSH.out.lo; omega) (by have h1 := HN.out; have h2 := HSH.out.lo; omega)).mono ?_; rintro e w' ⟨d1, d2, rfl, hb, h1, h2⟩; have Hd1 := Lib.hid h1; have Hd2 := Lib.hid h2; have Hb1 := Lib.hid (Hb1.out.below hb); have Hb2 := Lib.hid (Hb2.out.below hb); obtain ⟨v2, g⟩ := v1.step hb; subst g; clear hb h1 h2)
          go_wp2_with (go_at_call 39; refine (Calls.later_eq (u := v2) (StepFits_calls _ _ _ _ M (mS M Ss k) (mI M Is k) (mS M Ss (k + 1)) _ (HM1.out.later v2) Hb1.out Hb2.out Hd1.out HSZ.out HNM.out) (congrArg Value.bool HST.out)).mono ?_; rintro e w' ⟨rfl, v3, rfl⟩)
          go_roundw
          case rel => exact ⟨k + 1, by omega, by go_num, HTO, ⟨v3, rfl⟩⟩
          case measure => simp [intOf] <;> omega
        · have hst := eq_false_of_ne_true hst
          have HST := Lib.hid hst
          have HR := Lib.hid (HX3.out HSK.out HIK.out (HSN.out k (by have h1 := HN.out; omega) hst))
          clear hst hto
          go_upto_region 10 with (go_at_call 138; refine (l6At_at _ _ M Ss Is k _ _ (HM1.out.later u) (HT1.out.later u) HSZ.out HNM.out HSH.out (by have h1 := HN.out; have h2 := HSH.out.lo; omega) (by have h1 := HN.out; have h2 := HSH.out.lo; omega)).mono ?_; rintro e w' ⟨b1, b2, rfl, hb, h1, h2⟩; have Hb1 := Lib.hid h1; have Hb2 := Lib.hid h2; obtain ⟨v1, g⟩ := u.step hb; subst g; clear hb h1 h2)
          go_upto_region 11 with (go_at_call 138; refine (l6At_at _ _ M Ss Is (k + 1) _ _ (HM1.out.later v1) (HT1.out.later v1) HSZ.out HNM.out HSH.out (by have h1 := HN.out; have h2 := HSH.out.lo; omega) (by have h1 := HN.out; have h2 := HSH.out.lo; omega)).mono ?_; rintro e w' ⟨d1, d2, rfl, hb, h1, h2⟩; have Hd1 := Lib.hid h1; have Hd2 := Lib.hid h2; have Hb1 := Lib.hid (Hb1.out.below hb); have Hb2 := Lib.hid (Hb2.out.below hb); obtain ⟨v2, g⟩ := v1.step hb; subst g; clear hb h1 h2)
          go_wp2_with (go_at_call 39; refine (Calls.later_eq (u := v2) (StepFits_calls _ _ _ _ M (mS M Ss k) (mI M Is k) (mS M Ss (k + 1)) _ (HM1.out.later v2) Hb1.out Hb2.out Hd1.out HSZ.out HNM.out) (congrArg Value.bool HST.out)).mono ?_; rintro e w' ⟨rfl, v3, rfl⟩)
          go_ret
          exact ⟨ret_eq (congrArg (Value.int .i64) HR.out.symm), v3.back HB.out⟩
      · have hge : ((k : Int) + 1 < n) = False := eq_false (by omega)
        have HSS := Lib.hid (HSY.out fun j hj => hto.out j (by have h1 := HN.out; omega))
        clear hto
        go_upto_region 14 with fail
        go_loopw [12] (fun i wr => ∃ k : Nat, k ≤ n ∧ i = .int .i64 k ∧ Hid (∀ j, j < k → holdsK M (mS M Ss j) (mI M Is j) = true) ∧ LaterC w2 wr) (fun i _ => n - (intOf i).toNat)
        case atStart => exact ⟨0, Nat.zero_le _, rfl, Lib.hid (fun j hj => absurd hj (Nat.not_lt_zero _)), ⟨u, rfl⟩⟩
        case round =>
         obtain ⟨k, hk, rfl, hto, ⟨u, rfl⟩⟩ := hrel
         by_cases hlt : k < n
         · have hlt' : (k : Int) < n := by omega
           by_cases hst : holdsK M (mS M Ss k) (mI M Is k) = true
           · have HHO := Lib.hid hst
             have HTO := Lib.hid (show ∀ j, j < k + 1 → holdsK M (mS M Ss j) (mI M Is j) = true from fun j hj => by
              rcases Nat.lt_or_ge j k with g | g
              · exact hto.out j g
              · obtain rfl : j = k := by omega
                exact hst)
             clear hst hto
             go_wp2_with (first | (go_at_call 138; refine (l6At_at _ _ M Ss Is k _ _ (HM1.out.later u) (HT1.out.later u) HSZ.out HNM.out HSH.out (by have h1 := HN.out; have h2 := HSH.out.lo; omega) (by have h1 := HN.out; have h2 := HSH.out.lo; omega)).mono ?_; rintro e w' ⟨b1, b2, rfl, hb, h1, h2⟩; have Hb1 := Lib.hid h1; have Hb2 := Lib.hid h2; obtain ⟨v1, g⟩ := u.step hb; subst g; clear hb h1 h2) | (go_at_call 30; refine (Calls.later_eq (u := v1) (EvalHolds_calls _ _ _ M (mS M Ss k) (mI M Is k) _ (HM1.out.later v1) Hb1.out Hb2.out HSZ.out HNM.out) (congrArg Value.bool HHO.out)).mono ?_; rintro e w' ⟨rfl, v2, rfl⟩))
             go_roundw
             case rel => exact ⟨k + 1, by omega, by go_num, HTO, ⟨v2, rfl⟩⟩
             case measure => simp [intOf] <;> omega
           · have hst := eq_false_of_ne_true hst
             have HHO := Lib.hid hst
             have HR := Lib.hid (HX4.out HSK.out HIK.out HSS.out (HHN.out k (by have h1 := HN.out; omega) hst))
             clear hst hto
             go_wp2_with (first | (go_at_call 138; refine (l6At_at _ _ M Ss Is k _ _ (HM1.out.later u) (HT1.out.later u) HSZ.out HNM.out HSH.out (by have h1 := HN.out; have h2 := HSH.out.lo; omega) (by have h1 := HN.out; have h2 := HSH.out.lo; omega)).mono ?_; rintro e w' ⟨b1, b2, rfl, hb, h1, h2⟩; have Hb1 := Lib.hid h1; have Hb2 := Lib.hid h2; obtain ⟨v1, g⟩ := u.step hb; subst g; clear hb h1 h2) | (go_at_call 30; refine (Calls.later_eq (u := v1) (EvalHolds_calls _ _ _ M (mS M Ss k) (mI M Is k) _ (HM1.out.later v1) Hb1.out Hb2.out HSZ.out HNM.out) (congrArg Value.bool HHO.out)).mono ?_; rintro e w' ⟨rfl, v2, rfl⟩))
             go_ret
             exact ⟨ret_eq (congrArg (Value.int .i64) HR.out.symm), v2.back HB.out⟩
         · obtain rfl : k = n := by omega
           have HR1 := Lib.hid (HX5.out HSK.out HIK.out HSS.out (HHY.out fun j hj => hto.out j (by have h1 := HN.out; omega)))
           obtain ⟨z, hz⟩ : ∃ z, lastK M Ss Is = z := ⟨_, rfl⟩
           have HBD := Lib.hid (HLK.out.symm.trans hz)
           by_cases hz0 : z < 0
           · have HR := Lib.hid (show R = 5 by rw [HR1.out, hz, if_pos hz0])
             clear hz hto hlt
             go_wp2_with (first | (go_at_call 138; refine (l6At_at _ _ M Ss Is (k - 1) _ _ (HM1.out.later u) (HT1.out.later u) HSZ.out HNM.out HSH.out (by have h1 := HN.out; have h2 := HSH.out.lo; omega) (by have h1 := HN.out; have h2 := HSH.out.lo; omega)).mono ?_; rintro e w' ⟨b1, b2, rfl, hb, h1, h2⟩; have Hb1 := Lib.hid h1; have Hb2 := Lib.hid h2; obtain ⟨v1, g⟩ := u.step hb; subst g; clear hb h1 h2) | (go_at_call 34; refine (Calls.later_eq (u := v1) (EvalBad_calls _ _ _ M (mS M Ss (k - 1)) (mI M Is (k - 1)) _ (HM1.out.later v1) Hb1.out Hb2.out HSZ.out HNM.out) (congrArg (Value.int .i64) HBD.out)).mono ?_; rintro e w' ⟨rfl, v2, rfl⟩))
             go_ret
             exact ⟨ret_eq (congrArg (Value.int .i64) HR.out.symm), v2.back HB.out⟩
           · have HR := Lib.hid (show R = 0 by rw [HR1.out, hz, if_neg hz0])
             have hz1 : (z < 0) = False := eq_false hz0
             clear hz hto hlt
             go_wp2_with (first | (go_at_call 138; refine (l6At_at _ _ M Ss Is (k - 1) _ _ (HM1.out.later u) (HT1.out.later u) HSZ.out HNM.out HSH.out (by have h1 := HN.out; have h2 := HSH.out.lo; omega) (by have h1 := HN.out; have h2 := HSH.out.lo; omega)).mono ?_; rintro e w' ⟨b1, b2, rfl, hb, h1, h2⟩; have Hb1 := Lib.hid h1; have Hb2 := Lib.hid h2; obtain ⟨v1, g⟩ := u.step hb; subst g; clear hb h1 h2) | (go_at_call 34; refine (Calls.later_eq (u := v1) (EvalBad_calls _ _ _ M (mS M Ss (k - 1)) (mI M Is (k - 1)) _ (HM1.out.later v1) Hb1.out Hb2.out HSZ.out HNM.out) (congrArg (Value.int .i64) HBD.out)).mono ?_; rintro e w' ⟨rfl, v2, rfl⟩))
             go_ret
             exact ⟨ret_eq (congrArg (Value.int .i64) HR.out.symm), v2.back HB.out⟩
   · have hi := eq_false_of_ne_true hi
     have HIK := Lib.hid hi
     have HR := Lib.hid (HX2.out HSK.out hi)
     clear hi
     go_wp2_with (first | (go_at_call 137; refine (Calls.later_eq (u := u0) (l6Shape_calls _ _ M Ss Is _ (HM1.out.later u0) (HT1.out.later u0) HSZ.out HNM.out) (congrArg Value.bool HSK.out)).mono ?_; rintro e w' ⟨rfl, u1, rfl⟩) | (go_at_call 138; refine (l6At_at _ _ M Ss Is 0 _ _ (HM1.out.later u1) (HT1.out.later u1) HSZ.out HNM.out HSH.out (by have h1 := HN.out; have h2 := HSH.out.lo; omega) (by have h1 := HN.out; have h2 := HSH.out.lo; omega)).mono ?_; rintro e w' ⟨a1, a2, rfl, hb, h1, h2⟩; have Ha1 := Lib.hid h1; have Ha2 := Lib.hid h2; obtain ⟨u2, g⟩ := u1.step hb; subst g; clear hb h1 h2) | (go_at_call 41; refine (Calls.later_eq (u := u2) (InitFits_calls _ _ M (mS M Ss 0) _ (HM1.out.later u2) Ha1.out HSZ.out HNM.out) (congrArg Value.bool HIK.out)).mono ?_; rintro e w' ⟨rfl, u3, rfl⟩))
     go_ret
     exact ⟨ret_eq (congrArg (Value.int .i64) HR.out.symm), u3.back HB.out⟩
 · have hs := eq_false_of_ne_true hs
   have HSK := Lib.hid hs
   have HR := Lib.hid (HX1.out hs)
   clear hs
   go_wp2_with (go_at_call 137; refine (Calls.later_eq (u := u0) (l6Shape_calls _ _ M Ss Is _ (HM1.out.later u0) (HT1.out.later u0) HSZ.out HNM.out) (congrArg Value.bool HSK.out)).mono ?_; rintro e w' ⟨rfl, u1, rfl⟩)
   go_ret
   exact ⟨ret_eq (congrArg (Value.int .i64) HR.out.symm), u1.back HB.out⟩
theorem TraceBad_calls (mv tv : Value) (M : Md) (Ss Is : List Int) (w : World) (hM : MdAt w mv M) (hT : TrAt w tv Ss Is) (hsz : M.nodes.length ≤ 1048576) (hnm : ∀ x, x ∈ M.nodes → x.name.size ≤ 140737488351232) :
 Makes Tryz.prog 61 #[mv, tv] w (.int .i64 (traceB M Ss Is)) := by
 obtain ⟨R, hR⟩ : ∃ R, traceB M Ss Is = R := ⟨_, rfl⟩
 rw [hR]
 unfold traceB at hR
 have HLK := Lib.hid (show lastK M Ss Is = badK M (mS M Ss (Ss.length - 1)) (mI M Is (Ss.length - 1)) from rfl)
 obtain ⟨tc, htc⟩ : ∃ tc, traceN M Ss Is = tc := ⟨_, rfl⟩
 have HTC := Lib.hid htc
 have HM := Lib.hid hM
 have HNM := Lib.hid hnm
 have HSZ := Lib.hid hsz
 have HT := Lib.hid hT
 obtain ⟨s0, s1, s2, s3, s4, rfl, -, h1s, h2s, -, -⟩ := hM.at_
 have HS1 := Lib.hid h1s
 have HS2 := Lib.hid h2s
 obtain ⟨t0, t1, rfl, ht0, ht1⟩ := hT
 obtain ⟨A0, c0, rfl, hnc0, hn0, hA0⟩ := ht0
 obtain ⟨A1, c1, rfl, hnc1, hn1, hA1⟩ := ht1
 clear hM hnm hsz h1s h2s hnc0 hnc1
 generalize hn : Ss.length = n at *
 have HN := Lib.hid hn
 generalize hm : Is.length = n1 at *
 have HI := Lib.hid hm
 clear hn hm
 go_enter Tryz.func61, Tryz.ntmps61
 go_upto_region 1 with fail
 obtain ⟨w2, hw2, HB, m0, m1, m2, m3, m4, m5, m6⟩ := boxes2 27 68 s0 s1 s2 s3 s4 (.slice A0 n c0) (.slice A1 n1 c1) w
 rw [hw2]
 clear hw2
 have HM1 := Lib.hid (HM.out.below HB.out)
 have HT1 := Lib.hid (HT.out.below HB.out)
 have HB1 := Lib.hid (HS1.out.below HB.out)
 have HB2 := Lib.hid (HS2.out.below HB.out)
 refine at_world (w := w2) ?_
 intro u0
 clear hA0 hA1
 by_cases h0 : tc = 0
 · subst h0
   rw [if_pos htc] at hR
   have HR := Lib.hid hR.symm
   have HSH := Lib.hid (shaped_of (trace_zero htc))
   have HBD := Lib.hid (HLK.out.symm.trans hR)
   have hn0 : 1 ≤ n := by have h1 := HN.out; have h2 := HSH.out.lo; omega
   have hn3 : n ≤ 301 := by have h1 := HN.out; have h2 := HSH.out.hi; omega
   clear htc hR
   go_wp2_with (first | (go_at_call 58; refine (Calls.later_eq (u := u0) (TraceCode_calls _ _ M Ss Is _ (HM1.out.later u0) (HT1.out.later u0) HSZ.out HNM.out) (congrArg (Value.int .i64) HTC.out)).mono ?_; rintro e w' ⟨rfl, u1, rfl⟩) | (go_at_call 138; refine (l6At_at _ _ M Ss Is (n - 1) _ _ (HM1.out.later u1) (HT1.out.later u1) HSZ.out HNM.out HSH.out (by have h1 := HN.out; have h2 := HSH.out.lo; omega) (by have h1 := HN.out; have h2 := HSH.out.lo; omega)).mono ?_; rintro e w' ⟨b1, b2, rfl, hb, h1, h2⟩; have Hb1 := Lib.hid h1; have Hb2 := Lib.hid h2; obtain ⟨v1, g⟩ := u1.step hb; subst g; clear hb h1 h2) | (go_at_call 34; refine (Calls.later_eq (u := v1) (EvalBad_calls _ _ _ M (mS M Ss (n - 1)) (mI M Is (n - 1)) _ (HM1.out.later v1) Hb1.out Hb2.out HSZ.out HNM.out) (congrArg (Value.int .i64) HBD.out)).mono ?_; rintro e w' ⟨rfl, v2, rfl⟩))
   go_ret
   exact ⟨rfl, v2.back HB.out⟩
 · rw [if_neg (by rw [htc]; exact h0)] at hR
   have HR := Lib.hid hR.symm
   have hne : (tc != 0) = true := by simpa using h0
   clear htc hR
   go_wp2_with (go_at_call 58; refine (Calls.later_eq (u := u0) (TraceCode_calls _ _ M Ss Is _ (HM1.out.later u0) (HT1.out.later u0) HSZ.out HNM.out) (congrArg (Value.int .i64) HTC.out)).mono ?_; rintro e w' ⟨rfl, u1, rfl⟩)
   go_ret
   exact ⟨ret_eq (congrArg (Value.int .i64) HR.out.symm), u1.back HB.out⟩
theorem in_makes (n lo hi : Int) (w : World) : Makes Tryz.prog 79 #[.int .i64 n, .int .i64 lo, .int .i64 hi] w (.bool (inB n lo hi)) := in_calls n lo hi w
theorem below_calls (sv : Value) (xs : List Int) (b : Int) (w : World) (hS : SlN enI w sv xs) (h0 : 0 ≤ b) (h8 : b ≤ 8) :
 Makes Tryz.prog 125 #[sv, .int .i64 b] w (.bool (xs.all fun c => inB c 0 (2 ^ b.toNat - 1))) := by
 obtain ⟨A, c, rfl, hnc, hn, hA⟩ := hS
 have HNO := Lib.hid (show ∀ k, k < xs.length → inB (xs.getD k 0) 0 (2 ^ b.toNat - 1) = false → (xs.all fun c => inB c 0 (2 ^ b.toNat - 1)) = false from fun k h1 h2 => all_no (p := fun c => inB c 0 (2 ^ b.toNat - 1)) h1 h2)
 have HYES := Lib.hid (show (∀ k, k < xs.length → inB (xs.getD k 0) 0 (2 ^ b.toNat - 1) = true) → (xs.all fun c => inB c 0 (2 ^ b.toNat - 1)) = true from fun h => all_yes (p := fun c => inB c 0 (2 ^ b.toNat - 1)) h)
 generalize (xs.all fun c => inB c 0 (2 ^ b.toNat - 1)) = R at *
 generalize hN : xs.length = n at *
 have HN := Lib.hid hN
 clear hN hnc
 have hp1 := pow_pos_i b
 have hp2 : (2 : Int) ^ b.toNat ≤ 256 := pow_le_i h0 h8
 go_enter Tryz.func125, Tryz.ntmps125
 go_wp2
 go_loopw [9] (fun i wr => ∃ k : Nat, k ≤ n ∧ i = .int .i64 k ∧ Hid (∀ j, j < k → inB (xs.getD j 0) 0 (2 ^ b.toNat - 1) = true) ∧ LaterC w wr) (fun i _ => n - (intOf i).toNat)
 case atStart => exact ⟨0, Nat.zero_le _, rfl, Lib.hid (fun j hj => absurd hj (Nat.not_lt_zero _)), LaterC.refl _⟩
 case round =>
  obtain ⟨k, hk, rfl, hto, ⟨u, rfl⟩⟩ := hrel
  by_cases hlt : k < n
  · have hlt' : (k : Int) < n := by omega
    have hget := getD_at (show k < xs.length by rw [HN.out]; exact hlt) 0
    obtain ⟨g, o, rfl, hx⟩ := hA k _ hget
    generalize hxe : xs.getD k 0 = x at *
    have HX := Lib.hid hxe
    have p0 : ∀ l : Later w, l.val.cell? ⟨g, o + k, none⟩ = some (.int .i64 x) := hx.int (Below.refl _ _)
    clear hx hA hxe hget
    by_cases hv : inB x 0 (2 ^ b.toNat - 1) = true
    · have HV := Lib.hid hv
      have HTO := Lib.hid (show ∀ j, j < k + 1 → inB (xs.getD j 0) 0 (2 ^ b.toNat - 1) = true from fun j hj => by
       rcases Nat.lt_or_ge j k with g | g
       · exact hto.out j g
       · obtain rfl : j = k := by omega
         rw [HX.out]; exact hv)
      clear hv hto
      go_wp2_with (go_at_call 79; refine (Calls.later_eq (u := u) (in_makes x 0 (2 ^ b.toNat - 1) _) (congrArg Value.bool HV.out)).mono ?_; rintro e w' ⟨rfl, u1, rfl⟩)
      go_roundw
      case rel => exact ⟨k + 1, by omega, by go_num, HTO, ⟨u1, rfl⟩⟩
      case measure => simp [intOf] <;> omega
    · have hv := eq_false_of_ne_true hv
      have HV := Lib.hid hv
      have HR := Lib.hid (HNO.out k hlt (by rw [HX.out]; exact hv))
      clear hv hto
      go_wp2_with (go_at_call 79; refine (Calls.later_eq (u := u) (in_makes x 0 (2 ^ b.toNat - 1) _) (congrArg Value.bool HV.out)).mono ?_; rintro e w' ⟨rfl, u1, rfl⟩)
      go_ret
      exact ⟨ret_eq (congrArg Value.bool HR.out.symm), u1.prop⟩
  · obtain rfl : k = n := by omega
    have HR := Lib.hid (HYES.out hto.out)
    clear hA hto
    go_wp2
    go_ret
    exact ⟨ret_eq (congrArg Value.bool HR.out.symm), u.prop⟩
theorem of_all {kind : Int} {M : Md} (hc : codeN M = 0) (xs : List Int) : xs.all (ofB kind M) = xs.all fun c => inB c 0 (2 ^ (allN kind M.nodes).toNat - 1) := by
 congr 1
 funext c
 unfold ofB
 rw [decide_eq_true hc, Bool.true_and]
theorem shaped_calls (mv tv : Value) (M : Md) (Ss Is : List Int) (w : World) (hM : MdAt w mv M) (hT : TrAt w tv Ss Is) (hsz : M.nodes.length ≤ 1048576) (hnm : ∀ x, x ∈ M.nodes → x.name.size ≤ 140737488351232) (hw1 : ∀ b, b ∈ M.inits → (Lit.int .i64 b.st).wf = true) (hw2 : ∀ b, b ∈ M.nexts → (Lit.int .i64 b.st).wf = true) :
 Makes Tryz.prog 139 #[tv, mv] w (.bool (shapeK M Ss Is)) := by
 obtain ⟨R, hR⟩ : ∃ R, shapeK M Ss Is = R := ⟨_, rfl⟩
 rw [hR]
 unfold shapeK at hR
 have HRR := Lib.hid hR
 clear hR
 have HM := Lib.hid hM
 have HNM := Lib.hid hnm
 have HSZ := Lib.hid hsz
 have HT := Lib.hid hT
 have HW1 := Lib.hid hw1
 have HW2 := Lib.hid hw2
 clear hw1 hw2
 obtain ⟨s0, s1, s2, s3, s4, rfl, -, h1s, h2s, -, -⟩ := hM.at_
 have HS1 := Lib.hid h1s
 have HS2 := Lib.hid h2s
 obtain ⟨t0, t1, rfl, ht0, ht1⟩ := hT
 obtain ⟨A0, c0, rfl, hnc0, hn0, hA0⟩ := ht0
 obtain ⟨A1, c1, rfl, hnc1, hn1, hA1⟩ := ht1
 clear hM hnm hsz h1s h2s hnc0 hnc1
 generalize hn : Ss.length = n at *
 have HN := Lib.hid hn
 generalize hm : Is.length = n1 at *
 have HI := Lib.hid hm
 clear hn hm
 go_enter Tryz.func139, Tryz.ntmps139
 go_upto_region 1 with fail
 generalize hw2 : (w.alloc (Obj.cells #[.slice A0 n c0, .slice A1 n1 c1] 68)).alloc (Obj.cells #[s0, s1, s2, s3, s4] 27) = w2
 have m0 : ∀ u : Later w2, u.val.cell? ⟨w.heap.size + 1, 0, none⟩ = some s0 := Later.cell (by rw [← hw2]; clear hw2; go_simp)
 have m1 : ∀ u : Later w2, u.val.cell? ⟨w.heap.size + 1, 1, none⟩ = some s1 := Later.cell (by rw [← hw2]; clear hw2; go_simp)
 have m2 : ∀ u : Later w2, u.val.cell? ⟨w.heap.size + 1, 2, none⟩ = some s2 := Later.cell (by rw [← hw2]; clear hw2; go_simp)
 have m3 : ∀ u : Later w2, u.val.cell? ⟨w.heap.size + 1, 3, none⟩ = some s3 := Later.cell (by rw [← hw2]; clear hw2; go_simp)
 have m4 : ∀ u : Later w2, u.val.cell? ⟨w.heap.size + 1, 4, none⟩ = some s4 := Later.cell (by rw [← hw2]; clear hw2; go_simp)
 have m5 : ∀ u : Later w2, u.val.cell? ⟨w.heap.size, 0, none⟩ = some (.slice A0 n c0) := Later.cell (by rw [← hw2]; clear hw2; go_simp)
 have m6 : ∀ u : Later w2, u.val.cell? ⟨w.heap.size, 1, none⟩ = some (.slice A1 n1 c1) := Later.cell (by rw [← hw2]; clear hw2; go_simp)
 have HB := Lib.hid (show Below w.heap.size w w2 by rw [← hw2]; exact ((Below.refl _ _).alloc (Nat.le_refl _) _).alloc (by simp) _)
 clear hw2
 have HM1 := Lib.hid (HM.out.below HB.out)
 have HT1 := Lib.hid (HT.out.below HB.out)
 have HB1 := Lib.hid (HS1.out.below HB.out)
 have HB2 := Lib.hid (HS2.out.below HB.out)
 refine at_world (w := w2) ?_
 intro u0
 have HSS := Lib.hid (show SlN enI w2 (.slice A0 n c0) Ss by obtain ⟨_, _, e, h, -⟩ := HT1.out; cases e; exact h)
 have HII := Lib.hid (show SlN enI w2 (.slice A1 n1 c1) Is by obtain ⟨_, _, e, -, h⟩ := HT1.out; cases e; exact h)
 clear hA0 hA1
 go_upto_region 1 with fail
 by_cases hc : codeN M = 0
 · have HC := Lib.hid hc
   have HRQ := Lib.hid (show (inB (n : Int) 1 301 && (decide (n1 = n) && ((Ss.all fun c => inB c 0 (2 ^ (allN 36 M.nodes).toNat - 1)) && Is.all fun c => inB c 0 (2 ^ (allN 35 M.nodes).toNat - 1)))) = R by rw [← HRR.out, decide_eq_true hc, Bool.true_and, of_all hc, of_all hc])
   obtain ⟨a6, ha6⟩ : ∃ a, allN 36 M.nodes = a := ⟨_, rfl⟩
   obtain ⟨a5, ha5⟩ : ∃ a, allN 35 M.nodes = a := ⟨_, rfl⟩
   rw [ha6, ha5] at HRQ
   have HA6 := Lib.hid ha6
   have HA5 := Lib.hid ha5
   have HB6 := Lib.hid (show 0 ≤ a6 ∧ a6 ≤ 8 from ⟨ha6 ▸ (allN_bd 36 M.nodes).1, ha6 ▸ code_bits8 (.inl rfl) hc⟩)
   have HB5 := Lib.hid (show 0 ≤ a5 ∧ a5 ≤ 8 from ⟨ha5 ▸ (allN_bd 35 M.nodes).1, ha5 ▸ code_bits8 (.inr rfl) hc⟩)
   clear hc ha6 ha5
   by_cases hi : inB (n : Int) 1 301 = true
   · have HIB := Lib.hid hi
     by_cases he : n1 = n
     · have HRS := Lib.hid (show ((Ss.all fun c => inB c 0 (2 ^ a6.toNat - 1)) && Is.all fun c => inB c 0 (2 ^ a5.toNat - 1)) = R by rw [← HRQ.out, hi, decide_eq_true he, Bool.true_and, Bool.true_and])
       subst he
       clear hi
       obtain ⟨k6, hk6⟩ : ∃ k, (Ss.all fun c => inB c 0 (2 ^ a6.toNat - 1)) = k := ⟨_, rfl⟩
       obtain ⟨k5, hk5⟩ : ∃ k, (Is.all fun c => inB c 0 (2 ^ a5.toNat - 1)) = k := ⟨_, rfl⟩
       rw [hk6, hk5] at HRS
       have HL6 := Lib.hid hk6
       have HL5 := Lib.hid hk5
       clear hk6 hk5
       cases k6
       · have HR := Lib.hid (show R = false from HRS.out.symm)
         refine wp_region_later (w0 := w2) (by kernel_rfl) (by kernel_rfl) ⟨u0, rfl⟩ ?_
         repeat (go_big_quiet_step (first | (go_at_call 91; exact Calls.later_eq (ModelCode'_calls _ M _ (HM1.out.later _) HNM.out HW1.out HW2.out) (congrArg (Value.int .i64) HC.out)) | (go_at_call 79; exact Calls.later_eq (in_makes _ 1 301 _) (congrArg Value.bool HIB.out)) | (go_at_call 126; (with_reducible exact Calls.later_eq (bits_calls _ M 36 _ (HM1.out.later _)) (congrArg (Value.int .i64) HA6.out))) | (go_at_call 125; (with_reducible exact Calls.later_eq (below_calls _ Ss a6 _ (HSS.out.later _) HB6.out.1 HB6.out.2) (congrArg Value.bool HL6.out)))))
         refine wpQuiet_nil ?_
         rintro _ ⟨u1, rfl⟩
         go_wp2
         go_ret
         exact ⟨ret_eq (congrArg Value.bool HR.out.symm), u1.back HB.out⟩
       · have HR := Lib.hid (show R = k5 from HRS.out.symm)
         refine wp_region_later (w0 := w2) (by kernel_rfl) (by kernel_rfl) ⟨u0, rfl⟩ ?_
         repeat (go_big_quiet_step (first | (go_at_call 91; exact Calls.later_eq (ModelCode'_calls _ M _ (HM1.out.later _) HNM.out HW1.out HW2.out) (congrArg (Value.int .i64) HC.out)) | (go_at_call 79; exact Calls.later_eq (in_makes _ 1 301 _) (congrArg Value.bool HIB.out)) | (go_at_call 126; (with_reducible exact Calls.later_eq (bits_calls _ M 36 _ (HM1.out.later _)) (congrArg (Value.int .i64) HA6.out))) | (go_at_call 126; (with_reducible exact Calls.later_eq (bits_calls _ M 35 _ (HM1.out.later _)) (congrArg (Value.int .i64) HA5.out))) | (go_at_call 125; (with_reducible exact Calls.later_eq (below_calls _ Ss a6 _ (HSS.out.later _) HB6.out.1 HB6.out.2) (congrArg Value.bool HL6.out))) | (go_at_call 125; (with_reducible exact Calls.later_eq (below_calls _ Is a5 _ (HII.out.later _) HB5.out.1 HB5.out.2) (congrArg Value.bool HL5.out)))))
         refine wpQuiet_nil ?_
         rintro _ ⟨u1, rfl⟩
         go_wp2
         go_ret
         exact ⟨ret_eq (congrArg Value.bool HR.out.symm), u1.back HB.out⟩
     · have HR := Lib.hid (show R = false by rw [← HRQ.out, decide_eq_false he]; simp)
       have hne : ((n1 : Int) == n) = false := by simp; omega
       clear hi he
       refine wp_region_later (w0 := w2) (by kernel_rfl) (by kernel_rfl) ⟨u0, rfl⟩ ?_
       repeat (go_big_quiet_step (first | (go_at_call 91; exact Calls.later_eq (ModelCode'_calls _ M _ (HM1.out.later _) HNM.out HW1.out HW2.out) (congrArg (Value.int .i64) HC.out)) | (go_at_call 79; exact Calls.later_eq (in_makes _ 1 301 _) (congrArg Value.bool HIB.out))))
       refine wpQuiet_nil ?_
       rintro _ ⟨u1, rfl⟩
       go_wp2
       go_ret
       exact ⟨ret_eq (congrArg Value.bool HR.out.symm), u1.back HB.out⟩
   · have hi := eq_false_of_ne_true hi
     have HIB := Lib.hid hi
     have HR := Lib.hid (show R = false by rw [← HRQ.out, hi]; simp)
     clear hi
     refine wp_region_later (w0 := w2) (by kernel_rfl) (by kernel_rfl) ⟨u0, rfl⟩ ?_
     repeat (go_big_quiet_step (first | (go_at_call 91; exact Calls.later_eq (ModelCode'_calls _ M _ (HM1.out.later _) HNM.out HW1.out HW2.out) (congrArg (Value.int .i64) HC.out)) | (go_at_call 79; exact Calls.later_eq (in_makes _ 1 301 _) (congrArg Value.bool HIB.out))))
     refine wpQuiet_nil ?_
     rintro _ ⟨u1, rfl⟩
     go_wp2
     go_ret
     exact ⟨ret_eq (congrArg Value.bool HR.out.symm), u1.back HB.out⟩
 · have HR := Lib.hid (show R = false by rw [← HRR.out, decide_eq_false hc]; rfl)
   obtain ⟨cm, hcm⟩ : ∃ cm, cm = codeN M := ⟨_, rfl⟩
   have HC := Lib.hid hcm.symm
   have hne : (cm == 0) = false := by rw [hcm]; simpa using hc
   clear hcm hc
   refine wp_region_later (w0 := w2) (by kernel_rfl) (by kernel_rfl) ⟨u0, rfl⟩ ?_
   repeat (go_big_quiet_step (first | (go_at_call 91; exact Calls.later_eq (ModelCode'_calls _ M _ (HM1.out.later _) HNM.out HW1.out HW2.out) (congrArg (Value.int .i64) HC.out))))
   refine wpQuiet_nil ?_
   rintro _ ⟨u1, rfl⟩
   go_wp2
   go_ret
   exact ⟨ret_eq (congrArg Value.bool HR.out.symm), u1.back HB.out⟩
section
variable {P : Program} {ops : Array Oper} {o : Oper} {a : Act} {Q : Exit → Act → World → Prop}
theorem step_append_z {K : Act → World → Prop} {E : Prop} (hgd : o.guard = none) (w : World) (s x : Operand) (t : TypeId) (ho : o.op = .call { callee := .builtin .append, args := #[s, x], argTypes := #[t, t] })
 (base : Nat) (e : TypeId) (i : TypeInfo) (zz z : Value) (ht : P.underlying t = some (.slice e)) (hi : P.info? e = some i) (hz : i.zero = some zz) (hsize : i.size = 1) (hzs : zz.cells = #[z])
 (v : Value) (n : Nat) (xs : List Value) (hs : a.eval s = v) (hown : RowZ w base e z v n xs) (ad : Addr) (c : Nat) (u : Value) (hx : a.eval x = .slice (some ad) 1 c) (hu : w.cell? ad = some u) (h1 : u.oneCell' = true)
 (h63 : n + 1 ≤ maxLen) (hbytes : (n + 1) * i.bytes ≤ 140737488355328) (hbase : base ≤ w.heap.size)
 (h : ∀ g cap w', RowZ w' base e z (.slice (some ⟨g, 0, none⟩) (n + 1) cap) (n + 1) (xs ++ [u]) → Keeps z w w' → w.grownBy w' v.ownBlock → (v.ownBlock = some g ∨ g = w.heap.size) → K (a.put o.dst (.slice (some ⟨g, 0, none⟩) (n + 1) cap)) w') : if Region.wanted o (yielded ops a.tmps) = true then Oper.wp P o a w K Q else E := by
 have hw : Region.wanted o (yielded ops a.tmps) = true := by simp [Region.wanted, hgd]
 rw [if_pos hw]
 exact wp_append_z w s x t ho base e i zz z ht hi hz hsize hzs v n xs hs hown ad c u hx hu h1 h63 hbytes hbase h
end
theorem info_vals : (Tryz.prog.info? 29).map (fun i => (i.zero, i.size, i.bytes)) = some (some (.slice none 0 0), 1, 24) := by kernel_rfl
theorem MomAt.nil (lo : Nat) (w : World) : MomAt lo w (.slice none 0 0) [] [] := ⟨RowZ.nil _ _ _ _, rfl, fun i sv L hi => by simp at hi⟩
theorem MomAt.below {lo : Nat} {w w' : World} {v : Value} {vs : List Value} {Ls : List (List (List Int))} (h : MomAt lo w v vs Ls) (hb : Below w.heap.size w w') : MomAt lo w' v vs Ls :=
 ⟨h.1.below hb, h.2.1, fun i sv L h1 h2 => ⟨(h.2.2 i sv L h1 h2).1.below hb, (h.2.2 i sv L h1 h2).2⟩⟩
theorem MomAt.push {lo g cap : Nat} {w wn : World} {v s : Value} {vs : List Value} {Ls : List (List (List Int))} {L : List (List Int)} (h : MomAt lo w v vs Ls) (hR : RowZ wn lo 29 (.slice none 0 0) (.slice (some ⟨g, 0, none⟩) (vs.length + 1) cap) (vs.length + 1) (vs ++ [s])) (hk : Keeps (.slice none 0 0) w wn) (hs : VlAt w s L) (hl : ∀ (j : Nat) (xs : List Int), L[j]? = some xs → 0 < xs.length) :
 MomAt lo wn (.slice (some ⟨g, 0, none⟩) (vs.length + 1) cap) (vs ++ [s]) (Ls ++ [L]) := by
 obtain ⟨h1, h2, h3⟩ := h
 refine ⟨by rw [List.length_append]; exact hR, by simp [h2], fun j sv K hj hy => ?_⟩
 rcases snoc_get hj with hj1 | ⟨hj1, hj2⟩
 · have hil := (List.getElem?_eq_some_iff.1 hj1).1
   rw [List.getElem?_append_left (by omega)] at hy
   obtain ⟨g1, g2⟩ := h3 j sv K hj1 hy
   exact ⟨g1.keeps g2 hk, g2⟩
 · subst hj1
   subst hj2
   rw [h2, List.getElem?_append_right (Nat.le_refl _), Nat.sub_self] at hy
   simp at hy
   subst hy
   exact ⟨hs.keeps hl hk, hl⟩
theorem MomAt.shape {lo : Nat} {w : World} {v : Value} {vs : List Value} {Ls : List (List (List Int))} (h : MomAt lo w v vs Ls) (h0 : 0 < Ls.length) : ∃ g cap, v = .slice (some ⟨g, 0, none⟩) Ls.length cap ∧ ∀ i, i < Ls.length → ∃ A c, w.cell? ⟨g, i, none⟩ = some (.slice A (Ls.getD i []).length c) ∧ VlAt w (.slice A (Ls.getD i []).length c) (Ls.getD i []) := by
 obtain ⟨h1, h2, h3⟩ := h
 rcases h1.2 with ⟨-, h4⟩ | ⟨g, cap, rfl, -, hg, hc, -⟩
 · omega
 · refine ⟨g, cap, by rw [h2], fun i hi => ?_⟩
   have hs : vs[i]? = some (vs[i]'(by omega)) := List.getElem?_eq_getElem _
   have hv := (h3 i _ _ hs (getD_at hi [])).1
   have hcell : w.cell? ⟨g, i, none⟩ = some (vs[i]'(by omega)) := by
    rw [cell_of_row _ g i _ _ (0, 0) hg]
    simp only [List.getElem?_toArray]
    rw [List.getElem?_append_left (by omega)]
    exact hs
   obtain ⟨A, c, e, -⟩ := id hv
   rw [e] at hcell hv
   exact ⟨A, c, hcell, hv⟩
noncomputable def momL (M : Md) (Ss Is : List Int) (k : Nat) : List (List (List Int)) := (List.range k).map fun i => evalL M (mS M Ss i) (mI M Is i)
theorem momL_len (M : Md) (Ss Is : List Int) (k : Nat) : (momL M Ss Is k).length = k := by simp [momL]
theorem momL_succ (M : Md) (Ss Is : List Int) (k : Nat) : momL M Ss Is (k + 1) = momL M Ss Is k ++ [evalL M (mS M Ss k) (mI M Is k)] := by
 unfold momL
 rw [List.range_succ, List.map_append]
 rfl
theorem momL_get (M : Md) (Ss Is : List Int) {k n : Nat} (h : k < n) : (momL M Ss Is n).getD k [] = evalL M (mS M Ss k) (mI M Is k) := by
 unfold momL
 rw [List.getD_eq_getElem?_getD, List.getElem?_map, List.getElem?_range h]
 rfl
theorem eval_rows {M : Md} {S I : List (List Int)} (h : bothK M S I = true) : ∀ (j : Nat) (xs : List Int), (evalL M S I)[j]? = some xs → 0 < xs.length := by
 intro j xs hx
 obtain ⟨h1, h2, h3, h4, -, -⟩ := eval_one h
 have hj := (List.getElem?_eq_some_iff.1 hx).1
 have hj2 : j < M.nodes.length := by unfold evalL at hj; rw [evalN_length] at hj; exact hj
 have h5 := evalN_ok h2 h3 h4 M.nodes.length (Nat.le_refl _) j hj2
 have h6 := (val_one h5 (node_sok h2 hj2)).1
 rw [List.getD_eq_getElem?_getD, hx] at h6
 exact h6
theorem sl_code {w : World} {b o n c i : Nat} {xs : List Int} (h : SlN enI w (.slice (some ⟨b, o, none⟩) n c) xs) (hi : i < xs.length) : ∀ l : Later w, l.val.cell? ⟨b, o + i, none⟩ = some (.int .i64 (xs.getD i 0)) := by
 obtain ⟨A, c', e, -, -, h3⟩ := h
 cases e
 obtain ⟨b', o', e, hx⟩ := h3 i _ (getD_at hi 0)
 cases e
 exact hx.int (Below.refl _ _)
end Go.Proofs.YtbenebcphaiohaaGreat
