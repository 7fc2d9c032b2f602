import Derived.Test.YtbenebcphaiohaaGreater12
import Derived.Test.YtbenebcphaiohaaGreater8
import Derived.Deep.RegionHeld3
import Derived.Test.YtbenebcphaiohaaGreater11
import Derived.Deep.RegionWith
set_option linter.unusedVariables false
set_option linter.unusedSimpArgs false
set_option maxRecDepth 8000
set_option maxHeartbeats 16000000
namespace Go.Proofs.YtbenebcphaiohaaGreat
open Go.RowKit
section
variable {P : Program} {ops : Array Oper} {o : Oper} {a : Act} {Q : Exit → Act → World → Prop}
theorem step_append_z {K : Act → World → Prop} {E : Prop} (hgd : o.guard = none) (w : World) (s x : Operand) (t : TypeId) (ho : o.op = .call { callee := .builtin .append, args := #[s, x], argTypes := #[t, t] })
 (base : Nat) (e : TypeId) (i : TypeInfo) (zz z : Value) (ht : P.underlying t = some (.slice e)) (hi : P.info? e = some i) (hz : i.zero = some zz) (hsize : i.size = 1) (hzs : zz.cells = #[z])
 (v : Value) (n : Nat) (xs : List Value) (hs : a.eval s = v) (hown : RowZ w base e z v n xs) (ad : Addr) (c : Nat) (u : Value) (hx : a.eval x = .slice (some ad) 1 c) (hu : w.cell? ad = some u) (h1 : u.oneCell' = true)
 (h63 : n + 1 ≤ maxLen) (hbytes : (n + 1) * i.bytes ≤ 140737488355328) (hbase : base ≤ w.heap.size)
 (h : ∀ g cap w', RowZ w' base e z (.slice (some ⟨g, 0, none⟩) (n + 1) cap) (n + 1) (xs ++ [u]) → Keeps z w w' → w.grownBy w' v.ownBlock → (v.ownBlock = some g ∨ g = w.heap.size) → K (a.put o.dst (.slice (some ⟨g, 0, none⟩) (n + 1) cap)) w') : if Region.wanted o (yielded ops a.tmps) = true then Oper.wp P o a w K Q else E := by
 have hw : Region.wanted o (yielded ops a.tmps) = true := by simp [Region.wanted, hgd]
 rw [if_pos hw]
 exact wp_append_z w s x t ho base e i zz z ht hi hz hsize hzs v n xs hs hown ad c u hx hu h1 h63 hbytes hbase h
end
theorem MomAt.nil (lo : Nat) (w : World) : MomAt lo w (.slice none 0 0) [] [] := ⟨RowZ.nil _ _ _ _, rfl, fun i sv L hi => by simp at hi⟩
theorem MomAt.below {lo : Nat} {w w' : World} {v : Value} {vs : List Value} {Ls : List (List (List Int))} (h : MomAt lo w v vs Ls) (hb : Below w.heap.size w w') : MomAt lo w' v vs Ls :=
 ⟨h.1.below hb, h.2.1, fun i sv L h1 h2 => ⟨(h.2.2 i sv L h1 h2).1.below hb, (h.2.2 i sv L h1 h2).2⟩⟩
theorem MomAt.push {lo g cap : Nat} {w wn : World} {v s : Value} {vs : List Value} {Ls : List (List (List Int))} {L : List (List Int)} (h : MomAt lo w v vs Ls) (hR : RowZ wn lo 29 (.slice none 0 0) (.slice (some ⟨g, 0, none⟩) (vs.length + 1) cap) (vs.length + 1) (vs ++ [s])) (hk : Keeps (.slice none 0 0) w wn) (hs : VlAt w s L) (hl : ∀ (j : Nat) (xs : List Int), L[j]? = some xs → 0 < xs.length) :
 MomAt lo wn (.slice (some ⟨g, 0, none⟩) (vs.length + 1) cap) (vs ++ [s]) (Ls ++ [L]) := by
 obtain ⟨h1, h2, h3⟩ := h
 refine ⟨by rw [List.length_append]; exact hR, by simp [h2], fun j sv K hj hy => ?_⟩
 rcases snoc_get hj with hj1 | ⟨hj1, hj2⟩
 · have hil := (List.getElem?_eq_some_iff.1 hj1).1
   rw [List.getElem?_append_left (by omega)] at hy
   obtain ⟨g1, g2⟩ := h3 j sv K hj1 hy
   exact ⟨g1.keeps g2 hk, g2⟩
 · subst hj1
   subst hj2
   rw [h2, List.getElem?_append_right (Nat.le_refl _), Nat.sub_self] at hy
   simp at hy
   subst hy
   exact ⟨hs.keeps hl hk, hl⟩
theorem MomAt.shape {lo : Nat} {w : World} {v : Value} {vs : List Value} {Ls : List (List (List Int))} (h : MomAt lo w v vs Ls) (h0 : 0 < Ls.length) : ∃ g cap, v = .slice (some ⟨g, 0, none⟩) Ls.length cap ∧ ∀ i, i < Ls.length → ∃ A c, w.cell? ⟨g, i, none⟩ = some (.slice A (Ls.getD i []).length c) ∧ VlAt w (.slice A (Ls.getD i []).length c) (Ls.getD i []) := by
 obtain ⟨h1, h2, h3⟩ := h
 rcases h1.2 with ⟨-, h4⟩ | ⟨g, cap, rfl, -, hg, hc, -⟩
 · omega
 · refine ⟨g, cap, by rw [h2], fun i hi => ?_⟩
   have hs : vs[i]? = some (vs[i]'(by omega)) := List.getElem?_eq_getElem _
   have hv := (h3 i _ _ hs (getD_at hi [])).1
   have hcell : w.cell? ⟨g, i, none⟩ = some (vs[i]'(by omega)) := by
    rw [cell_of_row _ g i _ _ (0, 0) hg]
    simp only [List.getElem?_toArray]
    rw [List.getElem?_append_left (by omega)]
    exact hs
   obtain ⟨A, c, e, -⟩ := id hv
   rw [e] at hcell hv
   exact ⟨A, c, hcell, hv⟩
theorem HoldsV.setAt {w : World} {g n k : Nat} {L : List (List Int)} {s : Value} {xs : List Int} (h : HoldsV w g n L) (hkn : k < n) (hs : SlN enI w s xs) (hn : NotIn g s) : HoldsV (w.setCell ⟨g, k, none⟩ s) g n (L.set k xs) := by
 obtain ⟨cs, h1, h2, h3⟩ := h
 refine ⟨cs.setIfInBounds k s, h1.set k s, by simpa using h2, fun j ys hx => ?_⟩
 rw [List.getElem?_set] at hx
 split at hx
 · rename_i e
   subst e
   split at hx
   · cases hx
     exact ⟨s, Array.getElem?_setIfInBounds_self_of_lt (by omega), hs.putAt hn, hn⟩
   · cases hx
 · rename_i e
   obtain ⟨sv, e1, e2, e3⟩ := h3 j ys hx
   refine ⟨sv, ?_, e2.putAt e3, e3⟩
   rw [Array.getElem?_setIfInBounds_ne (by omega)]
   exact e1
def HeldR (lo hi : Nat) (w : World) (v : Value) (L : List (List Int)) : Prop :=
 (v = .slice none 0 0 ∧ L = []) ∨ ∃ g cap, v = .slice (some ⟨g, 0, none⟩) L.length cap ∧ lo ≤ g ∧ g < hi ∧ L.length ≤ cap ∧ HoldsV w g cap L
theorem HeldR.below {lo hi : Nat} {w w' : World} {v : Value} {L : List (List Int)} (h : HeldR lo hi w v L) (hb : Below w.heap.size w w') : HeldR lo hi w' v L := by
 rcases h with h | ⟨g, cap, h1, h2, h3, h4, h5⟩
 · exact .inl h
 · exact .inr ⟨g, cap, h1, h2, h3, h4, h5.below hb⟩
theorem HeldR.vlAt {lo hi : Nat} {w : World} {v : Value} {L : List (List Int)} (h : HeldR lo hi w v L) (hl : L.length ≤ 281474976710656) : VlAt w v L := by
 rcases h with ⟨rfl, rfl⟩ | ⟨g, cap, rfl, -, -, h4, h5⟩
 · exact ⟨none, 0, rfl, Nat.le_refl _, hl, fun i xs hx => by simp at hx⟩
 · refine ⟨_, _, rfl, h4, hl, fun i xs hx => ?_⟩
   obtain ⟨sv, e1, e2, -⟩ := h5.at_ i xs hx
   exact ⟨g, 0, sv, rfl, by rw [Nat.zero_add]; exact e1, e2⟩
theorem AccV.heldR {lo : Nat} {w : World} {v : Value} {svs : List Value} {L : List (List Int)} (h : AccV lo w v svs L) (hl : L.length ≤ 281474976710656) : HeldR lo w.heap.size w v L := by
 have hr := h.rowVs hl
 obtain ⟨-, h2, h3, h4, -⟩ := hr
 rcases h3 with ⟨rfl, rfl⟩ | ⟨g, cap, cur, rfl, hg, ho, hc, hz, hs⟩
 · exact .inl ⟨rfl, rfl⟩
 · refine .inr ⟨g, cap, rfl, hg, ho.lt, hc, cur, ho, hz, fun j xs hx => ?_⟩
   have hj := (List.getElem?_eq_some_iff.1 hx).1
   have e := List.getElem?_eq_getElem (show j < svs.length by omega)
   obtain ⟨r1, r2⟩ := h4 j _ xs e hx
   refine ⟨_, hs j _ e, r1.slN, ?_⟩
   obtain ⟨-, ⟨e2, -⟩ | ⟨g', c', cu, e2, -⟩⟩ := r1
   · rw [e2]; intro b o n c e3; cases e3
   · rw [e2] at r2 ⊢
     intro b o n c e3 e4
     cases e3
     exact (r2 g' rfl).2 (by rw [e4]; rfl)
theorem follow_calls (mv vv : Value) (M : Md) (S I : List (List Int)) (w : World) (hM : MdAt w mv M) (hV : VlAt w vv (evalL M S I)) (hsz : M.nodes.length ≤ 1048576) (hbo : bothK M S I = true) :
 Calls Tryz.prog 130 #[mv, vv] w fun e w' => ∃ v, e = .returned v ∧ Below w.heap.size w w' ∧ VlAt w' v (nextL M S I) := by
 have HM := Lib.hid hM
 have HSZ := Lib.hid hsz
 have HBO := Lib.hid hbo
 have HV := Lib.hid hV
 have HCO := Lib.hid (eval_one hbo).1
 obtain ⟨s0, s1, s2, s3, s4, rfl, h0s, -, h2s, -, -⟩ := hM.at_
 obtain ⟨B, d, rfl, hnd, hd', hBA⟩ := h2s
 have HBA := Lib.hid hBA
 have hqq := Nat.le_trans hnd hd'
 have HVL := Lib.hid (show (evalL M S I).length = M.nodes.length from evalN_length _ _ _ _)
 have HPL := Lib.hid (show (placesN 36 M.nodes M.nodes.length).length ≤ 1048576 from Nat.le_trans (placesN_le _ _ _) HSZ.out)
 clear hM h0s hnd hsz hV hbo hBA
 generalize hNB : M.nexts.length = nb at *
 have HNB := Lib.hid hNB
 clear hNB
 go_enter Tryz.func130, Tryz.ntmps130
 have HB := Lib.hid (box_below w #[s0, s1, .slice B nb d, s3, s4] 27)
 have m0 := box_cell w #[s0, s1, .slice B nb d, s3, s4] 27 0 _ rfl
 have m1 := box_cell w #[s0, s1, .slice B nb d, s3, s4] 27 1 _ rfl
 have m2 := box_cell w #[s0, s1, .slice B nb d, s3, s4] 27 2 _ rfl
 have m3 := box_cell w #[s0, s1, .slice B nb d, s3, s4] 27 3 _ rfl
 have m4 := box_cell w #[s0, s1, .slice B nb d, s3, s4] 27 4 _ rfl
 go_upto_region 1 with fail
 generalize w.alloc (.cells #[s0, s1, .slice B nb d, s3, s4] 27) = w1 at *
 replace m0 : ∀ u : Later w1, u.val.cell? ⟨w.heap.size, 0, none⟩ = some s0 := m0
 replace m1 : ∀ u : Later w1, u.val.cell? ⟨w.heap.size, 1, none⟩ = some s1 := m1
 replace m2 : ∀ u : Later w1, u.val.cell? ⟨w.heap.size, 2, none⟩ = some (.slice B nb d) := m2
 replace m3 : ∀ u : Later w1, u.val.cell? ⟨w.heap.size, 3, none⟩ = some s3 := m3
 replace m4 : ∀ u : Later w1, u.val.cell? ⟨w.heap.size, 4, none⟩ = some s4 := m4
 have HM1 := Lib.hid (HM.out.below HB.out)
 refine at_world (w := w1) ?_
 intro u0
 go_upto_region 2 with (go_at_call 127; (with_reducible refine (places_calls _ M 36 _ (HM1.out.later u0) HSZ.out).mono ?_); rintro e w' ⟨pv, rfl, hb, hown⟩; have HOWN := Lib.hid (places_slN hown HSZ.out); obtain ⟨u1, hu1⟩ := u0.step hb; subst hu1; clear hb hown)
 have HBW := Lib.hid (u1.back HB.out)
 have HLW : LaterC w1 u1.val := ⟨u1, rfl⟩
 replace m0 := lift_cell HLW m0
 replace m1 := lift_cell HLW m1
 replace m2 := lift_cell HLW m2
 replace m3 := lift_cell HLW m3
 replace m4 := lift_cell HLW m4
 replace HM1 := Lib.hid (HM1.out.below HLW.below)
 clear HLW
 generalize u1.val = W at *
 refine at_world (w := W) ?_
 intro w0
 go_upto_region 3 with (go_at_call 191; (with_reducible refine (zeros_calls _ pv M (placesN 36 M.nodes M.nodes.length) _ (HM1.out.later w0) (HOWN.out.later w0) (placesN_InN _ _) HPL.out).mono ?_); rintro e w' ⟨ov, osv, rfl, hb, hac⟩; have HSG := Lib.hid w0.size; have HHR := Lib.hid (hac.heldR (by rw [zerosN_length]; have := HPL.out; omega)); clear hac; obtain ⟨w2, hw2⟩ := w0.step hb; subst hw2; clear hb)
 replace HHR := Lib.hid (show HeldR W.heap.size w2.val.heap.size w2.val ov (midR M.nodes M.nexts (evalL M S I) (plK M) 0 0) by
  have h1 := HHR.out
  rw [show zerosN M.nodes (placesN 36 M.nodes M.nodes.length) (placesN 36 M.nodes M.nodes.length).length = midR M.nodes M.nexts (evalL M S I) (plK M) 0 0 from midR_zero _ _ _ _] at h1
  rcases h1 with h1 | ⟨g, cap, g1, g2, g3⟩
  · exact .inl h1
  · exact .inr ⟨g, cap, g1, Nat.le_trans HSG.out g2, g3⟩)
 obtain ⟨hi, hhi⟩ : ∃ hi, hi = w2.val.heap.size := ⟨_, rfl⟩
 rw [← hhi] at HHR
 have HHI := Lib.hid (Nat.le_of_eq hhi)
 clear hhi HSG
 obtain ⟨PA, pc, rfl, -, hpl, hPA⟩ := HOWN.out
 obtain ⟨VA, vd, rfl, -, hvl, hVA⟩ := HV.out
 generalize hq : (placesN 36 M.nodes M.nodes.length).length = q at *
 have HQ := Lib.hid hq
 generalize hp : (evalL M S I).length = p at *
 have HP := Lib.hid hp
 clear hq hp
 go_wp2
 go_loopw [19] (fun i wr => ∃ k : Nat, k ≤ nb ∧ i = .int .i64 k ∧ Hid (HeldR W.heap.size hi wr ov (midR M.nodes M.nexts (evalL M S I) (plK M) k 0) ∧ hi ≤ wr.heap.size) ∧ LaterC W wr) (fun i _ => nb - (intOf i).toNat)
 case atStart => exact ⟨0, Nat.zero_le _, rfl, Lib.hid ⟨HHR.out, HHI.out⟩, ⟨w2, rfl⟩⟩
 case round =>
  obtain ⟨k, hk, rfl, hto, ⟨u, rfl⟩⟩ := hrel
  by_cases hlt : k < nb
  · have hlt' : (k : Int) < nb := by omega
    have hget := getD_at (show k < M.nexts.length by rw [HNB.out]; exact hlt) Bd.zero
    obtain ⟨bb, bo, rfl, hx⟩ := HBA.out k _ hget
    have HTW := Lib.hid (twice_parts (codeN_parts HCO.out).2.2.1).2
    have HKK := Lib.hid (show k < M.nexts.length by rw [HNB.out]; exact hlt)
    have hmem := List.mem_of_getElem? hget
    generalize hb0 : M.nexts.getD k Bd.zero = b at *
    have HB0 := Lib.hid hb0
    have hpt := bound_parts ((binds_parts (codeN_parts HCO.out).2.2.2.1).2 b hmem)
    have HRP := Lib.hid (show 0 < (vN (evalL M S I) b.nd).length by
     have h1 := nextRow_pos HBO.out (st_mem ⟨hpt.1, hpt.2.2.1⟩)
     unfold nextRow at h1
     rw [bd_of HTW.out hmem, if_neg (by omega)] at h1
     exact h1.1)
    obtain ⟨⟨st, hst⟩, ⟨nd, hnd⟩⟩ : (∃ s : Nat, b.st = s) ∧ ∃ t : Nat, b.nd = t := ⟨Int.eq_ofNat_of_zero_le hpt.1.1, Int.eq_ofNat_of_zero_le hpt.2.1.1⟩
    have hnd2 : nd < p := by have h1 := HP.out; have h2 := HVL.out; omega
    have hnd3 : (nd : Int) < p := by omega
    have HST := Lib.hid hst
    have HND := Lib.hid hnd
    have p0 : ∀ l : Later W, l.val.cell? ⟨bb, bo + k * 2, none⟩ = some (.int .i64 (st : Int)) := hst ▸ hx.at_ HBW.out 0 _ rfl
    have p1 : ∀ l : Later W, l.val.cell? ⟨bb, bo + k * 2 + 1, none⟩ = some (.int .i64 (nd : Int)) := hnd ▸ hx.at_ HBW.out 1 _ rfl
    obtain ⟨fb, fo, fx, rfl, hfc, hfs⟩ := hVA nd _ (getD_at (show nd < (evalL M S I).length by rw [HP.out]; exact hnd2) [])
    have hvn : vN (evalL M S I) b.nd = (evalL M S I).getD nd [] := by unfold vN; rw [hnd, Int.toNat_natCast]
    have HVN := Lib.hid hvn
    rw [hvn] at HRP
    generalize (evalL M S I).getD nd [] = xs at *
    have HVS := Lib.hid (hfs.below HBW.out)
    obtain ⟨fA, fc, rfl, -⟩ := hfs
    have HNI := Lib.hid (fun g (hg : W.heap.size ≤ g) => HVS.out.notIn HRP.out hg)
    have q0 : ∀ l : Later W, l.val.cell? ⟨fb, fo + nd, none⟩ = some (.slice fA xs.length fc) := Later.cell (keepcell HBW.out hfc)
    clear hpt hmem hx hget hb0 hst hnd hvn hfc
    go_wp2_with fail
    have t0 := box_cell u.val #[.int .i64 (st : Int), .int .i64 (nd : Int)] 117 0 _ rfl
    have t1 := box_cell u.val #[.int .i64 (st : Int), .int .i64 (nd : Int)] 117 1 _ rfl
    have HL5 : LaterC W (u.val.alloc (Obj.cells #[.int .i64 (st : Int), .int .i64 (nd : Int)] 117)) := LaterC.alloc' ⟨u, rfl⟩ _
    have HG5 := Lib.hid (hto.out.1.below (show Below u.val.heap.size u.val (u.val.alloc (Obj.cells #[.int .i64 (st : Int), .int .i64 (nd : Int)] 117)) from (Below.refl _ _).alloc (Nat.le_refl _) _))
    have HS5 := Lib.hid (show hi ≤ (u.val.alloc (Obj.cells #[.int .i64 (st : Int), .int .i64 (nd : Int)] 117)).heap.size by have := hto.out.2; simp; omega)
    have HC5 := Lib.hid (And.intro (t0 ⟨_, Below.refl _ _⟩) (t1 ⟨_, Below.refl _ _⟩))
    have HGB := Lib.hid hto.out.2
    clear t0 t1 hto
    generalize u.val.alloc (Obj.cells #[.int .i64 (st : Int), .int .i64 (nd : Int)] 117) = W5 at *
    generalize u.val.heap.size = gb at *
    obtain ⟨v5, rfl⟩ := HL5
    go_loopw [25] (fun i wr => ∃ m : Nat, m ≤ q ∧ i = .int .i64 m ∧ Hid (HeldR W.heap.size hi wr ov (midR M.nodes M.nexts (evalL M S I) (plK M) k m) ∧ hi ≤ wr.heap.size ∧ wr.cell? ⟨gb, 0, none⟩ = some (.int .i64 (st : Int)) ∧ wr.cell? ⟨gb, 1, none⟩ = some (.int .i64 (nd : Int))) ∧ LaterC W wr) (fun i _ => q - (intOf i).toNat)
    case atStart => exact ⟨0, Nat.zero_le _, rfl, Lib.hid ⟨HG5.out, HS5.out, HC5.out⟩, ⟨v5, rfl⟩⟩
    case round =>
     obtain ⟨m, hm, rfl, hti, ⟨y, rfl⟩⟩ := hrel
     by_cases hlm : m < q
     · have hlm' : (m : Int) < q := by omega
       have hgp := getD_at (show m < (placesN 36 M.nodes M.nodes.length).length by rw [HQ.out]; exact hlm) 0
       obtain ⟨pb, po, rfl, hpx⟩ := hPA m _ hgp
       have HPX := Lib.hid hpx
       have HMQ := Lib.hid (show m < (plK M).length by show m < (placesN 36 M.nodes M.nodes.length).length; rw [HQ.out]; exact hlm)
       generalize hj : (placesN 36 M.nodes M.nodes.length).getD m 0 = j at *
       have HJ := Lib.hid (show (plK M).getD m 0 = j from hj)
       have r0 : ∀ l : Later W, l.val.cell? ⟨pb, po + m, none⟩ = some (.int .i64 j) := hpx.int (Below.refl _ _)
       have c0 := hti.out.2.2.1
       have c1 := hti.out.2.2.2
       clear hpx hj hgp
       by_cases hjs : j = (st : Int)
       · subst hjs
         rcases hti.out.1 with ⟨-, hnil⟩ | ⟨g, cap, hov, hg1, hg2, hg3, hg4⟩
         · have h1 := midR_len M.nodes M.nexts (evalL M S I) (plK M) k m
           rw [hnil] at h1
           have h2 := HMQ.out
           simp at h1
           omega
         · rw [midR_len] at hov hg3
           have HLQ := Lib.hid (show (plK M).length = q from HQ.out)
           rw [HLQ.out] at hov hg3
           subst hov
           have hmc : m < cap := by omega
           obtain ⟨z0, hz0⟩ := hg4.cell hmc
           have f0 := hg4.frozen m
           have HPUT := Lib.hid (show HoldsV (y.val.setCell ⟨g, m, none⟩ (.slice fA xs.length fc)) g cap (midR M.nodes M.nexts (evalL M S I) (plK M) k (m + 1)) by
            rw [← midR_set HTW.out HKK.out HMQ.out (by rw [HB0.out, HJ.out, HST.out]) (by rw [HB0.out, HND.out]; omega), HB0.out, HVN.out]
            exact hg4.setAt hmc (HVS.out.below y.prop) (HNI.out g hg1))
           have HGB2 := Lib.hid (show g ≠ gb by have := HGB.out; omega)
           go_wp2
           go_roundw
           case rel =>
            refine ⟨m + 1, by omega, by go_num, Lib.hid ⟨.inr ⟨g, cap, by rw [midR_len, HLQ.out], hg1, hg2, by rw [midR_len, HLQ.out]; exact hg3, HPUT.out⟩, by rw [World.size_setCell]; exact hti.out.2.1, ?_, ?_⟩, LaterC.setCell' ⟨y, rfl⟩ _ _ hg1⟩
            · exact (World.cell?_setCell_far _ _ _ _ (fun e => HGB2.out e)).trans c0
            · exact (World.cell?_setCell_far _ _ _ _ (fun e => HGB2.out e)).trans c1
           case measure => simp [intOf] <;> omega
       · have hjs2 : ¬ (st : Int) = j := fun e => hjs e.symm
         have hsk := Lib.hid (midR_skip (ns := M.nodes) (V := evalL M S I) HTW.out HKK.out (show (M.nexts.getD k Bd.zero).st ≠ (plK M).getD m 0 by rw [HB0.out, HJ.out, HST.out]; exact hjs2))
         go_wp2
         go_roundw
         case rel => exact ⟨m + 1, by omega, by go_num, Lib.hid ⟨hsk.out ▸ hti.out.1, hti.out.2.1, c0, c1⟩, ⟨y, rfl⟩⟩
         case measure => simp [intOf] <;> omega
     · obtain rfl : m = q := by omega
       have HTK := Lib.hid (show HeldR W.heap.size hi y.val ov (midR M.nodes M.nexts (evalL M S I) (plK M) (k + 1) 0) by
        rw [← midR_next, show (plK M).length = m from HQ.out]
        exact hti.out.1)
       go_wp2
       go_roundw
       case rel => exact ⟨k + 1, by omega, by go_num, Lib.hid ⟨HTK.out, hti.out.2.1⟩, ⟨y, rfl⟩⟩
       case measure => simp [intOf] <;> omega
  · obtain rfl : k = nb := by omega
    have HTO := Lib.hid (hto.out.1.vlAt (by rw [midR_len]; show (placesN 36 M.nodes M.nodes.length).length ≤ _; rw [HQ.out]; exact hpl))
    go_wp2
    go_ret
    exact ⟨_, rfl, u.back HBW.out, by rw [← midR_all, HNB.out]; exact HTO.out⟩
theorem pow_le_w {a : Int} (h0 : 0 ≤ a) (h : a ≤ 16) : (2 : Int) ^ a.toNat ≤ 65536 := (pw_le h0 h).2
theorem l5Pack_calls (mv pv lv : Value) (M : Md) (ps : List Int) (L : List (List Int)) (w : World) (hM : MdAt w mv M) (hP : SlN enI w pv ps) (hI : InN ps M.nodes.length) (hL : VlAt w lv L) (hF : fitsB M.nodes ps L = true) (h8 : bitsTo M.nodes ps L.length ≤ 8) :
 Makes Tryz.prog 134 #[mv, pv, lv] w (.int .i64 (packS M.nodes ps L L.length).1) := by
 obtain ⟨s0, s1, s2, s3, s4, rfl, hS, -, -, -, -⟩ := hM.at_
 obtain ⟨A, c, rfl, hnc, hc', hA⟩ := hS
 obtain ⟨B, d, rfl, -, hd', hB⟩ := hP
 obtain ⟨D, e, rfl, -, he', hD⟩ := hL
 clear hM
 have HPC := Lib.hid (pack_cell hF h8)
 have HTQ := Lib.hid (fits_parts hF).1
 have HI := Lib.hid hI
 generalize hN : M.nodes.length = n at *
 have HN := Lib.hid hN
 generalize hT : L.length = t at *
 have HT := Lib.hid hT
 have HQ := Lib.hid (show ps.length = t by rw [← HTQ.out])
 rw [HQ.out] at hd' ⊢
 have hn : n ≤ 281474976710656 := Nat.le_trans hnc hc'
 clear hN hT hI hnc hc' hF h8 HTQ
 go_enter Tryz.func134, Tryz.ntmps134
 go_wp2
 generalize hw1 : w.alloc (Obj.cells #[.slice A n c, s1, s2, s3, s4] 27) = w1
 have hb0 : ∀ u : Later w1, u.val.cell? ⟨w.heap.size, 0, none⟩ = some (.slice A n c) := Later.cell (by rw [← hw1]; simp)
 have HB := Lib.hid (show Below w.heap.size w w1 by rw [← hw1]; exact (Below.refl _ _).alloc (Nat.le_refl _) _)
 clear hw1
 go_loopw [7, 8, 9] (fun cc aa i wr => ∃ (k : Nat) (cv av : Int), k ≤ t ∧ i = .int .i64 k ∧ cc = .int .i64 cv ∧ aa = .int .i64 av ∧ Hid (packS M.nodes ps L k = (cv, av)) ∧ LaterC w1 wr) (fun _ _ i _ => t - (intOf i).toNat)
 case atStart => exact ⟨0, 0, 0, Nat.zero_le _, rfl, rfl, rfl, Lib.hid rfl, LaterC.refl _⟩
 case round =>
  obtain ⟨k, cv, av, hk, rfl, rfl, rfl, HS, ⟨u, rfl⟩⟩ := hrel
  by_cases hlt : k < t
  · have hlt' : (k : Int) < t := by omega
    have hgp := getD_at (show k < ps.length by rw [HQ.out]; exact hlt) 0
    obtain ⟨p, hp, hpn⟩ := HI.out k _ hgp
    obtain ⟨bp, op, rfl, hpx⟩ := hB k _ hgp
    have hgl := getD_at (show k < L.length by rw [HT.out]; exact hlt) []
    obtain ⟨bl, ol, sv, rfl, hlc, hls⟩ := hD k _ hgl
    have hgn := getD_at (show p < M.nodes.length by rw [HN.out]; exact hpn) Nd.zero
    obtain ⟨bn, on, rfl, hnx⟩ := hA p _ hgn
    have HPK := Lib.hid (fun j (hj : j < (L.getD k []).length) => HPC.out k j hlt hj)
    have HST := Lib.hid (show packS M.nodes ps L (k + 1) = rowS (ndAt M.nodes ps k).wid (L.getD k []) (L.getD k []).length (packS M.nodes ps L k) from rfl)
    have hnd : ndAt M.nodes ps k = M.nodes.getD p Nd.zero := by unfold ndAt; rw [hp]; rfl
    rw [hnd, HS.out] at HPK HST
    rw [hp] at hpx
    clear hnd
    generalize M.nodes.getD p Nd.zero = x at *
    generalize L.getD k [] = xs at *
    have p0 : ∀ l : Later w1, l.val.cell? ⟨bp, op + k, none⟩ = some (.int .i64 (p : Int)) := hpx.int HB.out
    have q0 : ∀ l : Later w1, l.val.cell? ⟨bl, ol + k, none⟩ = some sv := back_cell hlc HB.out
    have p7 : ∀ l : Later w1, l.val.cell? ⟨bn, on + p * 9 + 7, none⟩ = some (.int .i64 x.wid) := hnx.at_ HB.out 7 _ rfl
    obtain ⟨As, cs, rfl, -, hm0, hAs⟩ := hls.below HB.out
    have HAS := Lib.hid (fun (j : Nat) y (hy : xs[j]? = some y) => (hAs j y hy : ∃ b o, As = some ⟨b, o, none⟩ ∧ CellsAt enI w1 b o j y))
    have HGX := Lib.hid (fun (j : Nat) (hj : j < xs.length) => getD_at hj (0 : Int))
    have HRS := Lib.hid (fun (j : Nat) (s : Int × Int) (hj : j < xs.length) => rowS_succ (w := x.wid) (s := s) hj)
    generalize hm : xs.length = m at *
    have HM := Lib.hid hm
    clear hm hgp hgl hgn hpx hnx hlc hls hp hA hB hD hAs
    generalize x.wid = ww at *
    go_wp2
    refine wp_region_later (w0 := w1) (by kernel_rfl) (by kernel_rfl) ⟨u, rfl⟩ ?_
    repeat (go_big_quiet_step (fail))
    refine wpQuiet_nil ?_
    rintro _ ⟨u1, rfl⟩
    go_wp2
    go_loopw [7, 8, 11] (fun cc aa j wr => ∃ (jj : Nat) (cj aj : Int), jj ≤ m ∧ j = .int .i64 jj ∧ cc = .int .i64 cj ∧ aa = .int .i64 aj ∧ Hid (rowS ww xs jj (cv, av) = (cj, aj)) ∧ LaterC w1 wr) (fun _ _ j _ => m - (intOf j).toNat)
    case atStart => exact ⟨0, cv, av, Nat.zero_le _, rfl, rfl, rfl, Lib.hid rfl, ⟨u1, rfl⟩⟩
    case round =>
     obtain ⟨j, cj, aj, hj, rfl, rfl, rfl, HR, ⟨v, rfl⟩⟩ := hrel
     by_cases hlt2 : j < m
     · have hlt2' : (j : Int) < m := by omega
       have hget2 := HGX.out j hlt2
       obtain ⟨bs, os, rfl, hcx⟩ := HAS.out j _ hget2
       have c0 : ∀ l : Later w1, l.val.cell? ⟨bs, os + j, none⟩ = some (.int .i64 (xs.getD j 0)) := hcx.int (Below.refl _ _)
       have hpk := HPK.out j hlt2
       have HR2 := Lib.hid (HRS.out j (cv, av) hlt2)
       rw [HR.out] at hpk HR2
       generalize xs.getD j 0 = y at *
       clear hcx hget2
       obtain ⟨h1, h2, h3, h4, h5, h6, h7, h9⟩ := hpk
       have hp1 := pow_pos_i aj
       have hpa : (2 : Int) ^ aj.toNat ≤ 256 := pow_le_i (by omega) (by omega)
       have hy0 : 0 ≤ y * 2 ^ aj.toNat := Int.mul_nonneg h6 (by omega)
       have hy1 : y ≤ 65535 := by have := pow_le_w (a := ww) (by omega) (by omega); omega
       dsimp only at h1 h2 h3 h4 h5 h6 h7 h9
       have HR3 := Lib.hid (show rowS ww xs (j + 1) (cv, av) = (cj + y * 2 ^ aj.toNat, aj + ww) from HR2.out)
       go_wp2
       go_roundw
       case rel => exact ⟨j + 1, cj + y * 2 ^ aj.toNat, aj + ww, by omega, by go_num, by go_num, by go_num, HR3, ⟨v, rfl⟩⟩
       case measure => simp [intOf] <;> omega
     · obtain rfl : j = m := by omega
       have HS2 := Lib.hid (show packS M.nodes ps L (k + 1) = (cj, aj) from HST.out.trans HR.out)
       go_wp2
       go_roundw
       case rel => exact ⟨k + 1, cj, aj, by omega, by go_num, rfl, rfl, HS2, ⟨v, rfl⟩⟩
       case measure => simp [intOf] <;> omega
  · obtain rfl : k = t := by omega
    clear hA hB hD
    go_wp2
    go_ret
    exact ⟨ret_eq (congrArg (Value.int .i64) (by rw [HS.out])), u.back HB.out⟩
theorem code_calls (mv pv lv : Value) (M : Md) (ps : List Int) (L : List (List Int)) (w : World) (hM : MdAt w mv M) (hP : SlN enI w pv ps) (hI : InN ps M.nodes.length) (hL : VlAt w lv L) (hF : fitsB M.nodes ps L = true) (h8 : bitsTo M.nodes ps L.length ≤ 8) :
 Makes Tryz.prog 129 #[mv, pv, lv] w (.int .i64 (packS M.nodes ps L L.length).1) := by
 obtain ⟨s0, s1, s2, s3, s4, rfl, hS, -, -, -, -⟩ := hM.at_
 obtain ⟨A, c, rfl, hnc, hc', hA⟩ := hS
 obtain ⟨B, d, rfl, -, hd', hB⟩ := hP
 obtain ⟨D, e, rfl, -, he', hD⟩ := hL
 clear hM
 have HPC := Lib.hid (pack_cell hF h8)
 have HTQ := Lib.hid (fits_parts hF).1
 have HI := Lib.hid hI
 generalize hN : M.nodes.length = n at *
 have HN := Lib.hid hN
 generalize hT : L.length = t at *
 have HT := Lib.hid hT
 have HQ := Lib.hid (show ps.length = t by rw [← HTQ.out])
 rw [HQ.out] at hd' ⊢
 have hn : n ≤ 281474976710656 := Nat.le_trans hnc hc'
 clear hN hT hI hnc hc' hF h8 HTQ
 go_enter Tryz.func129, Tryz.ntmps129
 go_wp2
 generalize hw1 : w.alloc (Obj.cells #[.slice A n c, s1, s2, s3, s4] 27) = w1
 have hb0 : ∀ u : Later w1, u.val.cell? ⟨w.heap.size, 0, none⟩ = some (.slice A n c) := Later.cell (by rw [← hw1]; simp)
 have HB := Lib.hid (show Below w.heap.size w w1 by rw [← hw1]; exact (Below.refl _ _).alloc (Nat.le_refl _) _)
 clear hw1
 go_loopw [7, 8, 15] (fun cc aa i wr => ∃ (k : Nat) (cv av : Int), k ≤ t ∧ i = .int .i64 k ∧ cc = .int .i64 cv ∧ aa = .int .i64 av ∧ Hid (packS M.nodes ps L k = (cv, av)) ∧ LaterC w1 wr) (fun _ _ i _ => t - (intOf i).toNat)
 case atStart => exact ⟨0, 0, 0, Nat.zero_le _, rfl, rfl, rfl, Lib.hid rfl, LaterC.refl _⟩
 case round =>
  obtain ⟨k, cv, av, hk, rfl, rfl, rfl, HS, ⟨u, rfl⟩⟩ := hrel
  by_cases hlt : k < t
  · have hlt' : (k : Int) < t := by omega
    have hgp := getD_at (show k < ps.length by rw [HQ.out]; exact hlt) 0
    obtain ⟨p, hp, hpn⟩ := HI.out k _ hgp
    obtain ⟨bp, op, rfl, hpx⟩ := hB k _ hgp
    have hgl := getD_at (show k < L.length by rw [HT.out]; exact hlt) []
    obtain ⟨bl, ol, sv, rfl, hlc, hls⟩ := hD k _ hgl
    have hgn := getD_at (show p < M.nodes.length by rw [HN.out]; exact hpn) Nd.zero
    obtain ⟨bn, on, rfl, hnx⟩ := hA p _ hgn
    have HPK := Lib.hid (fun j (hj : j < (L.getD k []).length) => HPC.out k j hlt hj)
    have HST := Lib.hid (show packS M.nodes ps L (k + 1) = rowS (ndAt M.nodes ps k).wid (L.getD k []) (L.getD k []).length (packS M.nodes ps L k) from rfl)
    have hnd : ndAt M.nodes ps k = M.nodes.getD p Nd.zero := by unfold ndAt; rw [hp]; rfl
    rw [hnd, HS.out] at HPK HST
    rw [hp] at hpx
    clear hnd
    generalize M.nodes.getD p Nd.zero = x at *
    generalize L.getD k [] = xs at *
    have p0 : ∀ l : Later w1, l.val.cell? ⟨bp, op + k, none⟩ = some (.int .i64 (p : Int)) := hpx.int HB.out
    have q0 : ∀ l : Later w1, l.val.cell? ⟨bl, ol + k, none⟩ = some sv := back_cell hlc HB.out
    have p7 : ∀ l : Later w1, l.val.cell? ⟨bn, on + p * 9 + 7, none⟩ = some (.int .i64 x.wid) := hnx.at_ HB.out 7 _ rfl
    obtain ⟨As, cs, rfl, -, hm0, hAs⟩ := hls.below HB.out
    have HAS := Lib.hid (fun (j : Nat) y (hy : xs[j]? = some y) => (hAs j y hy : ∃ b o, As = some ⟨b, o, none⟩ ∧ CellsAt enI w1 b o j y))
    have HGX := Lib.hid (fun (j : Nat) (hj : j < xs.length) => getD_at hj (0 : Int))
    have HRS := Lib.hid (fun (j : Nat) (s : Int × Int) (hj : j < xs.length) => rowS_succ (w := x.wid) (s := s) hj)
    generalize hm : xs.length = m at *
    have HM := Lib.hid hm
    clear hm hgp hgl hgn hpx hnx hlc hls hp hA hB hD hAs
    generalize x.wid = ww at *
    go_wp2
    go_loopw [7, 8, 26] (fun cc aa j wr => ∃ (jj : Nat) (cj aj : Int), jj ≤ m ∧ j = .int .i64 jj ∧ cc = .int .i64 cj ∧ aa = .int .i64 aj ∧ Hid (rowS ww xs jj (cv, av) = (cj, aj)) ∧ LaterC w1 wr) (fun _ _ j _ => m - (intOf j).toNat)
    case atStart => exact ⟨0, cv, av, Nat.zero_le _, rfl, rfl, rfl, Lib.hid rfl, ⟨u, rfl⟩⟩
    case round =>
     obtain ⟨j, cj, aj, hj, rfl, rfl, rfl, HR, ⟨v, rfl⟩⟩ := hrel
     by_cases hlt2 : j < m
     · have hlt2' : (j : Int) < m := by omega
       have hget2 := HGX.out j hlt2
       obtain ⟨bs, os, rfl, hcx⟩ := HAS.out j _ hget2
       have c0 : ∀ l : Later w1, l.val.cell? ⟨bs, os + j, none⟩ = some (.int .i64 (xs.getD j 0)) := hcx.int (Below.refl _ _)
       have hpk := HPK.out j hlt2
       have HR2 := Lib.hid (HRS.out j (cv, av) hlt2)
       rw [HR.out] at hpk HR2
       generalize xs.getD j 0 = y at *
       clear hcx hget2
       obtain ⟨h1, h2, h3, h4, h5, h6, h7, h9⟩ := hpk
       have hp1 := pow_pos_i aj
       have hpa : (2 : Int) ^ aj.toNat ≤ 256 := pow_le_i (by omega) (by omega)
       have hy0 : 0 ≤ y * 2 ^ aj.toNat := Int.mul_nonneg h6 (by omega)
       have hy1 : y ≤ 65535 := by have := pow_le_w (a := ww) (by omega) (by omega); omega
       dsimp only at h1 h2 h3 h4 h5 h6 h7 h9
       have HR3 := Lib.hid (show rowS ww xs (j + 1) (cv, av) = (cj + y * 2 ^ aj.toNat, aj + ww) from HR2.out)
       have HOR := Lib.hid (or_shift (c := cj) (y := y) (a := aj) h4 h5 h6 h9)
       go_wp2
       go_roundw
       case rel => exact ⟨j + 1, cj + y * 2 ^ aj.toNat, aj + ww, by omega, by go_num, by rw [HOR.out], by go_num, HR3, ⟨v, rfl⟩⟩
       case measure => simp [intOf] <;> omega
     · obtain rfl : j = m := by omega
       have HS2 := Lib.hid (show packS M.nodes ps L (k + 1) = (cj, aj) from HST.out.trans HR.out)
       go_wp2
       go_roundw
       case rel => exact ⟨k + 1, cj, aj, by omega, by go_num, rfl, rfl, HS2, ⟨v, rfl⟩⟩
       case measure => simp [intOf] <;> omega
  · obtain rfl : k = t := by omega
    clear hA hB hD
    go_wp2
    go_ret
    exact ⟨ret_eq (congrArg (Value.int .i64) (by rw [HS.out])), u.back HB.out⟩
theorem AccZ.push {lo g cap : Nat} {w wn : World} {s s' : Value} {svs : List Value} {L1 : List (List Int)} {xs : List Int} (h : AccZ lo w s svs L1) (hR : RowZ wn lo 40 (.slice none 0 0) (.slice (some ⟨g, 0, none⟩) (svs.length + 1) cap) (svs.length + 1) (svs ++ [s']))
 (hk : Keeps (.slice none 0 0) w wn) (hg : w.grownBy wn s.ownBlock) (hat : s.ownBlock = some g ∨ g = w.heap.size) (hs : SlN enI w s' xs) (h0 : 0 < xs.length) :
 AccZ lo wn (.slice (some ⟨g, 0, none⟩) (svs.length + 1) cap) (svs ++ [s']) (L1 ++ [xs]) :=
 (TwoZ.push (i := .slice none 0 0) (ivs := []) (L2 := []) ⟨h, AccZ.nil _ _, fun b _ e => by cases e⟩ hR hk hg hat hs h0).1
theorem l6Next_calls (mv : Value) (M : Md) (s i : Int) (w : World) (hM : MdAt w mv M) (hsz : M.nodes.length ≤ 1048576) (hco : codeN M = 0) (hrs : 0 ≤ s ∧ s ≤ 65535) (hri : 0 ≤ i ∧ i ≤ 65535) :
 Makes Tryz.prog 124 #[mv, .int .i64 s, .int .i64 i] w (.int .i64 (nextK M s i)) := by
 have HCO := Lib.hid hco
 have HRS := Lib.hid hrs
 have HRI := Lib.hid hri
 have HM := Lib.hid hM
 have HSZ := Lib.hid hsz
 obtain ⟨s0, s1, s2, s3, s4, rfl, h0s, -, h2s, -, -⟩ := hM.at_
 have HS2 := Lib.hid h2s
 obtain ⟨NA, nc, rfl, hnn, hnl, hNA⟩ := h0s
 have hnn2 := Nat.le_trans hnn hnl
 clear hnn hnl
 have HL6 := Lib.hid (show (placesN 36 M.nodes M.nodes.length).length ≤ 1048576 from Nat.le_trans (placesN_le _ _ _) HSZ.out)
 have HL5 := Lib.hid (show (placesN 35 M.nodes M.nodes.length).length ≤ 1048576 from Nat.le_trans (placesN_le _ _ _) HSZ.out)
 have HK6 := Lib.hid (bits8_of (kind := 36) (.inl rfl) HCO.out)
 have HK5 := Lib.hid (bits8_of (kind := 35) (.inr rfl) HCO.out)
 have HNB := Lib.hid (codeN_parts HCO.out).2.1
 have HFS := Lib.hid (unpack_fits M.nodes (placesN 36 M.nodes M.nodes.length) s)
 have HFI := Lib.hid (unpack_fits M.nodes (placesN 35 M.nodes M.nodes.length) i)
 have HBO := Lib.hid (both_of hco s i)
 clear hM hsz h2s hco hrs hri
 obtain ⟨ti, hti⟩ := info_parts info_val
 have HTI := Lib.hid hti
 clear hti
 have HNK := Lib.hid (show nextK M s i = (packS M.nodes (plK M) (nextL M (stK 36 M s) (stK 35 M i)) (nextL M (stK 36 M s) (stK 35 M i)).length).1 from rfl)
 generalize nextK M s i = R at *
 go_enter Tryz.func124, Tryz.ntmps124
 have HB := Lib.hid (box_below w #[.slice NA M.nodes.length nc, s1, s2, s3, s4] 27)
 have m0 := box_cell w #[.slice NA M.nodes.length nc, s1, s2, s3, s4] 27 0 _ rfl
 have m1 := box_cell w #[.slice NA M.nodes.length nc, s1, s2, s3, s4] 27 1 _ rfl
 have m2 := box_cell w #[.slice NA M.nodes.length nc, s1, s2, s3, s4] 27 2 _ rfl
 have m3 := box_cell w #[.slice NA M.nodes.length nc, s1, s2, s3, s4] 27 3 _ rfl
 have m4 := box_cell w #[.slice NA M.nodes.length nc, s1, s2, s3, s4] 27 4 _ rfl
 go_upto_region 1 with fail
 generalize w.alloc (.cells #[.slice NA M.nodes.length nc, s1, s2, s3, s4] 27) = w1 at *
 replace m0 : ∀ u : Later w1, u.val.cell? ⟨w.heap.size, 0, none⟩ = some (.slice NA M.nodes.length nc) := m0
 replace m1 : ∀ u : Later w1, u.val.cell? ⟨w.heap.size, 1, none⟩ = some s1 := m1
 replace m2 : ∀ u : Later w1, u.val.cell? ⟨w.heap.size, 2, none⟩ = some s2 := m2
 replace m3 : ∀ u : Later w1, u.val.cell? ⟨w.heap.size, 3, none⟩ = some s3 := m3
 replace m4 : ∀ u : Later w1, u.val.cell? ⟨w.heap.size, 4, none⟩ = some s4 := m4
 have HM1 := Lib.hid (HM.out.below HB.out)
 have HB2 := Lib.hid (HS2.out.below HB.out)
 refine at_world (w := w1) ?_
 intro u0
 go_upto_region 2 with (first | (go_at_call 116; (with_reducible refine (l2Places_calls _ M 36 _ (HM1.out.below (lcb (w1 := w1))) HSZ.out).mono ?_); rintro e w' ⟨pv6, rfl, hb, hown⟩; (first | (have HO6 := Lib.hid (HO6.out.below hb)) | skip); (first | (have HO5 := Lib.hid (HO5.out.below hb)) | skip); (first | (have HV1 := Lib.hid (HV1.out.below hb)) | skip); (first | (have HV2 := Lib.hid (HV2.out.below hb)) | skip); (first | (have HEV := Lib.hid (HEV.out.below hb)) | skip); (first | (have HAC := Lib.hid (HAC.out.below hb)) | skip); have HO6 := Lib.hid (places_slN hown HSZ.out); clear hown; obtain ⟨vp6, hvp6⟩ := laterC_step (w1 := w1) lcx hb; subst hvp6; clear hb))
 have HO6 := Lib.hid (HO6.out.below (Below.refl _ _).drew)
 go_region_held3 (fun w' => w'.cell? ⟨w.heap.size, 0, none⟩ = some (.slice NA M.nodes.length nc) ∧ w'.cell? ⟨w.heap.size, 1, none⟩ = some s1 ∧ w'.cell? ⟨w.heap.size, 2, none⟩ = some s2 ∧ w'.cell? ⟨w.heap.size, 3, none⟩ = some s3 ∧ w'.cell? ⟨w.heap.size, 4, none⟩ = some s4) (exact ⟨lf m0, lf m1, lf m2, lf m3, lf m4⟩) (first | (go_at_call 116; (with_reducible refine (l2Places_calls _ M 35 _ (HM1.out.below (lcb (w1 := w1))) HSZ.out).mono ?_); rintro e w' ⟨pv5, rfl, hb, hown⟩; (first | (have HO6 := Lib.hid (HO6.out.below hb)) | skip); (first | (have HO5 := Lib.hid (HO5.out.below hb)) | skip); (first | (have HV1 := Lib.hid (HV1.out.below hb)) | skip); (first | (have HV2 := Lib.hid (HV2.out.below hb)) | skip); (first | (have HEV := Lib.hid (HEV.out.below hb)) | skip); (first | (have HAC := Lib.hid (HAC.out.below hb)) | skip); have HO5 := Lib.hid (places_slN hown HSZ.out); clear hown; obtain ⟨vp5, hvp5⟩ := laterC_step (w1 := w1) lcx hb; subst hvp5; clear hb) | (go_at_call 136; (with_reducible refine (l5Unpack_calls _ pv6 M (placesN 36 M.nodes M.nodes.length) s _ (HM1.out.below (lcb (w1 := w1))) (HO6.out.below bdx) (placesN_InN _ _) HL6.out HK6.out HRS.out.1 HRS.out.2).mono ?_); rintro e w' ⟨uv6, us6, rfl, hb, hac⟩; (first | (have HO6 := Lib.hid (HO6.out.below hb)) | skip); (first | (have HO5 := Lib.hid (HO5.out.below hb)) | skip); (first | (have HV1 := Lib.hid (HV1.out.below hb)) | skip); (first | (have HV2 := Lib.hid (HV2.out.below hb)) | skip); (first | (have HEV := Lib.hid (HEV.out.below hb)) | skip); (first | (have HAC := Lib.hid (HAC.out.below hb)) | skip); have HV1 := Lib.hid (hac.vlAt (by rw [unpackN_length]; have := HL6.out; omega)); clear hac; obtain ⟨vu6, hvu6⟩ := laterC_step (w1 := w1) lcx hb; subst hvu6; clear hb) | (go_at_call 136; (with_reducible refine (l5Unpack_calls _ pv5 M (placesN 35 M.nodes M.nodes.length) i _ (HM1.out.below (lcb (w1 := w1))) (HO5.out.below bdx) (placesN_InN _ _) HL5.out HK5.out HRI.out.1 HRI.out.2).mono ?_); rintro e w' ⟨uv5, us5, rfl, hb, hac⟩; (first | (have HO6 := Lib.hid (HO6.out.below hb)) | skip); (first | (have HO5 := Lib.hid (HO5.out.below hb)) | skip); (first | (have HV1 := Lib.hid (HV1.out.below hb)) | skip); (first | (have HV2 := Lib.hid (HV2.out.below hb)) | skip); (first | (have HEV := Lib.hid (HEV.out.below hb)) | skip); (first | (have HAC := Lib.hid (HAC.out.below hb)) | skip); have HV2 := Lib.hid (hac.vlAt (by rw [unpackN_length]; have := HL5.out; omega)); clear hac; obtain ⟨vu5, hvu5⟩ := laterC_step (w1 := w1) lcx hb; subst hvu5; clear hb) | (go_at_call 109; refine (l4All_calls _ uv6 uv5 M (stK 36 M s) (stK 35 M i) _ (HM1.out.below (lcb (w1 := w1))) HV1.out HV2.out HNB.out HFS.out HFI.out HSZ.out).mono ?_; rintro e w' ⟨av, asv, rfl, hb, hac⟩; (first | (have HO6 := Lib.hid (HO6.out.below hb)) | skip); (first | (have HO5 := Lib.hid (HO5.out.below hb)) | skip); (first | (have HV1 := Lib.hid (HV1.out.below hb)) | skip); (first | (have HV2 := Lib.hid (HV2.out.below hb)) | skip); (first | (have HEV := Lib.hid (HEV.out.below hb)) | skip); (first | (have HAC := Lib.hid (HAC.out.below hb)) | skip); have HEV := Lib.hid (show VlAt w' av (evalL M (stK 36 M s) (stK 35 M i)) from hac.vlAt (by rw [evalN_length]; have := HSZ.out; omega)); clear hac; obtain ⟨ve, hve⟩ := laterC_step (w1 := w1) lcx hb; subst hve; clear hb))
 clear  HV1 HV2 HO5
 go_upto_region 5 with fail
 have HBW := Lib.hid (ve.back HB.out)
 have HLW : LaterC w1 ve.val := ⟨ve, rfl⟩
 replace m0 := lift_cell HLW m0
 replace m1 := lift_cell HLW m1
 replace m2 := lift_cell HLW m2
 replace m3 := lift_cell HLW m3
 replace m4 := lift_cell HLW m4
 replace HM1 := Lib.hid (HM1.out.below HLW.below)
 replace HB2 := Lib.hid (HB2.out.below HLW.below)
 clear HLW
 generalize ve.val = W at *
 obtain ⟨PA, pc, rfl, -, hpl, hPA⟩ := HO6.out
 obtain ⟨VA, vd, rfl, -, hvl, hVA⟩ := HEV.out
 generalize hq : (placesN 36 M.nodes M.nodes.length).length = q at *
 have HQ := Lib.hid hq
 generalize hp : (evalL M (stK 36 M s) (stK 35 M i)).length = p at *
 have HP := Lib.hid (show p = M.nodes.length from hp ▸ evalN_length _ _ _ _)
 have HPE := Lib.hid hp
 clear hq hp
 refine at_world (w := W) ?_
 intro w0
 go_loopw [9, 10] (fun sl ix wr => ∃ (k : Nat) (vs : List Value) (sv : Value), k ≤ q ∧ ix = .int .i64 k ∧ sv = sl ∧ Hid (AccZ W.heap.size wr sv vs ((nextL M (stK 36 M s) (stK 35 M i)).take k)) ∧ LaterC W wr) (fun _ ix _ => q - (intOf ix).toNat)
 case atStart => exact ⟨0, [], _, Nat.zero_le _, rfl, rfl, Lib.hid (AccZ.nil _ _), ⟨w0, rfl⟩⟩
 case round =>
  obtain ⟨k, vs, sv, hk, rfl, hsv, HAC, ⟨u, rfl⟩⟩ := hrel
  subst hsv
  by_cases hlt : k < q
  · have hlt' : (k : Int) < q := by omega
    have hgp := getD_at (show k < (placesN 36 M.nodes M.nodes.length).length by rw [HQ.out]; exact hlt) 0
    obtain ⟨pb, po, rfl, hpx⟩ := hPA k _ hgp
    have hmem := List.mem_of_getElem? hgp
    have HTK := Lib.hid (show (nextL M (stK 36 M s) (stK 35 M i)).take (k + 1) = (nextL M (stK 36 M s) (stK 35 M i)).take k ++ [nextRow M.nodes M.nexts (evalL M (stK 36 M s) (stK 35 M i)) ((plK M).getD k 0)] by
     rw [take_getD [] (by rw [nextL_len]; show k < (placesN 36 M.nodes M.nodes.length).length; rw [HQ.out]; exact hlt), nextL_getD _ _ _ (show k < (placesN 36 M.nodes M.nodes.length).length by rw [HQ.out]; exact hlt)])
    have HRP := Lib.hid (nextRow_pos HBO.out hmem)
    obtain ⟨st, hst⟩ : ∃ st, st = (plK M).getD k 0 := ⟨_, rfl⟩
    rw [← hst] at HTK HRP hmem
    have p0 : ∀ l : Later W, l.val.cell? ⟨pb, po + k, none⟩ = some (.int .i64 st) := by rw [hst]; exact hpx.int (Below.refl _ _)
    obtain ⟨j, hj, hjl, -⟩ := placesN_in hmem
    have HLS := Lib.hid (show vs.length = k by rw [HAC.out.2.1, List.length_take, nextL_len]; have h1 := HQ.out; show min k (placesN 36 M.nodes M.nodes.length).length = k; omega)
    have hls : vs.length ≤ 1048576 := by have h1 := HLS.out; have h2 := HL6.out; omega
    clear hgp hpx hPA hst
    have HNR := Lib.hid (show nextRow M.nodes M.nexts (evalL M (stK 36 M s) (stK 35 M i)) st = if bdN st M.nexts < 0 then List.replicate (cellN M.nodes st) 0 else vN (evalL M (stK 36 M s) (stK 35 M i)) (bdN st M.nexts) from rfl)
    rcases bd_cases st M.nexts with hb1 | ⟨b, hb2, hb3, hb4⟩
    · have HK1 := Lib.hid hb1
      have hnr := HNR.out
      rw [hb1, if_pos (by decide)] at hnr
      obtain ⟨bn, on, rfl, hnx⟩ := hNA j _ (getD_at hjl Nd.zero)
      have hce : cellN M.nodes st = (cellsN (M.nodes.getD j Nd.zero).idx (M.nodes.getD j Nd.zero).wid).toNat := by unfold cellN pN; rw [hj, Int.toNat_natCast]
      rw [hce] at hnr
      generalize M.nodes.getD j Nd.zero = x at *
      have p6 : ∀ l : Later W, l.val.cell? ⟨bn, on + j * 9 + 6, none⟩ = some (.int .i64 x.idx) := hnx.at_ HBW.out 6 _ rfl
      have p7 : ∀ l : Later W, l.val.cell? ⟨bn, on + j * 9 + 7, none⟩ = some (.int .i64 x.wid) := hnx.at_ HBW.out 7 _ rfl
      have hcb := cells_bits x.idx x.wid
      obtain ⟨m, hm⟩ := Int.eq_ofNat_of_zero_le hcb.2.2.1
      have hm4 : m ≤ 4 := by omega
      rw [hm, Int.toNat_natCast] at hnr
      have HRW := Lib.hid hnr
      have HC := Lib.hid hm
      have HM0 := Lib.hid (show 0 < m by have h1 := HRP.out.1; rw [hnr, List.length_replicate] at h1; exact h1)
      have hmk := make_any (P := Tryz.prog) 25 3 (.int .i64 0) 1 8 Tryz.underlying25 (by kernel_rfl) m (by omega) (by omega)
      simp only [Nat.mul_one, Value.cells] at hmk
      have hjn : (j : Int) < (M.nodes.length : Int) := by omega
      subst hj
      clear hb1 hnr hnx hcb hm hce hmem hNA hVA
      have HSC := Lib.hid (fun W => (show Makes Tryz.prog 190 #[.agg #[.int .i64 x.idx, .int .i64 x.wid]] W (.int .i64 (m : Int)) from HC.out ▸ SortCells_calls x.idx x.wid W))
      have HAC := Lib.hid (HAC.out.below (Below.refl _ _).drew)
      go_upto_region 7 with fail
      go_region_held3 (fun w' => w'.cell? ⟨w.heap.size, 0, none⟩ = some (.slice (some ⟨bn, on, none⟩) M.nodes.length nc) ∧ w'.cell? ⟨w.heap.size, 1, none⟩ = some s1 ∧ w'.cell? ⟨w.heap.size, 2, none⟩ = some s2 ∧ w'.cell? ⟨w.heap.size, 3, none⟩ = some s3 ∧ w'.cell? ⟨w.heap.size, 4, none⟩ = some s4 ∧ w'.cell? ⟨pb, po + k, none⟩ = some (.int .i64 (j : Int)) ∧ w'.cell? ⟨bn, on + j * 9 + 6, none⟩ = some (.int .i64 x.idx) ∧ w'.cell? ⟨bn, on + j * 9 + 7, none⟩ = some (.int .i64 x.wid)) (exact ⟨lf m0, lf m1, lf m2, lf m3, lf m4, lf p0, lf p6, lf p7⟩) (first | (go_at_call 117; refine (l4Bound_calls _ M.nexts (j : Int) _ (HB2.out.below (lcb (w1 := W)))).mono ?_; rintro e w' ⟨rfl, hb⟩; (first | (have HAC := Lib.hid (HAC.out.below hb)) | skip); rw [HK1.out]; obtain ⟨vl, hvl⟩ := laterC_step (w1 := W) lcx hb; subst hvl; clear hb))
      go_upto_region 10 with fail
      have HWU := Lib.hid (show W.heap.size ≤ vl.val.heap.size from vl.size)
      have HAC := Lib.hid (HAC.out.below (Below.refl _ _).drew)
      go_region_held3 (fun w' => w'.cell? ⟨w.heap.size, 0, none⟩ = some (.slice (some ⟨bn, on, none⟩) M.nodes.length nc) ∧ w'.cell? ⟨w.heap.size, 1, none⟩ = some s1 ∧ w'.cell? ⟨w.heap.size, 2, none⟩ = some s2 ∧ w'.cell? ⟨w.heap.size, 3, none⟩ = some s3 ∧ w'.cell? ⟨w.heap.size, 4, none⟩ = some s4 ∧ w'.cell? ⟨pb, po + k, none⟩ = some (.int .i64 (j : Int)) ∧ w'.cell? ⟨bn, on + j * 9 + 6, none⟩ = some (.int .i64 x.idx) ∧ w'.cell? ⟨bn, on + j * 9 + 7, none⟩ = some (.int .i64 x.wid)) (exact ⟨lf m0, lf m1, lf m2, lf m3, lf m4, lf p0, lf p6, lf p7⟩) (first | (go_at_call 190; refine (HSC.out _).mono ?_; rintro e w' ⟨rfl, hb⟩; have HWU := Lib.hid (Nat.le_trans HWU.out hb.size); (first | (have HAC := Lib.hid (HAC.out.below hb)) | skip); obtain ⟨vc, hvc⟩ := laterC_step (w1 := W) lcx hb; subst hvc; clear hb) | (refine step_append_z (by rfl) _ _ _ _ (by rfl) W.heap.size 40 ti (.agg #[.slice none 0 0]) (.slice none 0 0) Tryz.underlying29 HTI.out.1 HTI.out.2.1 HTI.out.2.2.1 rfl sv vs.length vs (by rfl) ((HAC.out.below ((Below.refl _ _).alloc (Nat.le_refl _) _)).below ((Below.refl _ _).alloc (Nat.le_refl _) _)).1 ⟨vc.val.heap.size + 1, 0, none⟩ 1 (.slice (some ⟨vc.val.heap.size, 0, none⟩) m m) (by rfl) ((OwnB.new' _ _ _ _ (by simp)).cell 0) rfl (by unfold maxLen; omega) (by rw [HTI.out.2.2.2]; omega) (by have h1 := HWU.out; simp; omega) ?_; intro g cap wn hR hk hg hat; have HAC2 := Lib.hid (show AccZ W.heap.size wn _ _ ((nextL M (stK 36 M s) (stK 35 M i)).take (k + 1)) from by rw [HTK.out, HRW.out]; exact AccZ.push ((HAC.out.below ((Below.refl _ _).alloc (Nat.le_refl _) _)).below ((Below.refl _ _).alloc (Nat.le_refl _) _)) hR hk hg hat ((rowI_zero vc.val m (by omega)).slN.below ((Below.refl _ _).alloc (Nat.le_refl _) _)) (by rw [List.length_replicate]; exact HM0.out)); obtain ⟨u5, rfl⟩ := laterC_grown (w3 := W) (laterC_step (laterC_step ⟨vc, rfl⟩ ((Below.refl _ _).alloc (Nat.le_refl _) _)) ((Below.refl _ _).alloc (Nat.le_refl _) _)) ((HAC.out.below ((Below.refl _ _).alloc (Nat.le_refl _) _)).below ((Below.refl _ _).alloc (Nat.le_refl _) _)).1.owns hg; clear hR hk hg hat))
      go_wp2
      go_roundw
      case rel => exact ⟨k + 1, _, _, by omega, by go_num, rfl, HAC2, ⟨u5, rfl⟩⟩
      case measure => simp [intOf] <;> omega
    · have HKB := Lib.hid hb4
      have hpt := bound_parts ((binds_parts (codeN_parts HCO.out).2.2.2.1).2 b hb2)
      obtain ⟨nd, hnd⟩ := Int.eq_ofNat_of_zero_le hpt.2.1.1
      have HK1 := Lib.hid (hb4.trans hnd)
      have hnr := HNR.out
      rw [hb4, hnd, if_neg (by omega)] at hnr
      have hndp : nd < p := by have h1 := HP.out; omega
      have hndp' : (nd : Int) < p := by omega
      have hge : (0 : Int) ≤ (nd : Int) := by omega
      have hge2 : decide ((0 : Int) ≤ (nd : Int)) = true := decide_eq_true hge
      obtain ⟨fb, fo, fx, rfl, hfc, hfs⟩ := hVA nd _ (getD_at (show nd < (evalL M (stK 36 M s) (stK 35 M i)).length by rw [HPE.out]; exact hndp) [])
      have hvn : vN (evalL M (stK 36 M s) (stK 35 M i)) (nd : Int) = (evalL M (stK 36 M s) (stK 35 M i)).getD nd [] := by unfold vN; rw [Int.toNat_natCast]
      rw [hvn] at hnr
      have HX0 := Lib.hid (show 0 < ((evalL M (stK 36 M s) (stK 35 M i)).getD nd []).length by rw [← hnr]; exact HRP.out.1)
      have HRW := Lib.hid hnr
      generalize (evalL M (stK 36 M s) (stK 35 M i)).getD nd [] = xs at *
      have HVS := Lib.hid hfs
      obtain ⟨fA, fc, rfl, -⟩ := hfs
      have q0 : ∀ l : Later W, l.val.cell? ⟨fb, fo + nd, none⟩ = some (.slice fA xs.length fc) := Later.cell hfc
      subst hj
      clear hpt hb2 hb3 hb4 hnd hnr hvn hfc hNA hVA hmem
      have HAC := Lib.hid (HAC.out.below (Below.refl _ _).drew)
      go_upto_region 7 with fail
      go_region_held3 (fun w' => w'.cell? ⟨w.heap.size, 0, none⟩ = some (.slice NA M.nodes.length nc) ∧ w'.cell? ⟨w.heap.size, 1, none⟩ = some s1 ∧ w'.cell? ⟨w.heap.size, 2, none⟩ = some s2 ∧ w'.cell? ⟨w.heap.size, 3, none⟩ = some s3 ∧ w'.cell? ⟨w.heap.size, 4, none⟩ = some s4 ∧ w'.cell? ⟨pb, po + k, none⟩ = some (.int .i64 (j : Int))) (exact ⟨lf m0, lf m1, lf m2, lf m3, lf m4, lf p0⟩) (first | (go_at_call 117; refine (l4Bound_calls _ M.nexts (j : Int) _ (HB2.out.below (lcb (w1 := W)))).mono ?_; rintro e w' ⟨rfl, hb⟩; (first | (have HAC := Lib.hid (HAC.out.below hb)) | skip); rw [HK1.out]; obtain ⟨vl, hvl⟩ := laterC_step (w1 := W) lcx hb; subst hvl; clear hb))
      go_wp2_with (at_builtin; refine wpList_append_z (by rfl) _ _ _ _ (by rfl) W.heap.size 40 ti (.agg #[.slice none 0 0]) (.slice none 0 0) Tryz.underlying29 HTI.out.1 HTI.out.2.1 HTI.out.2.2.1 rfl sv vs.length vs (by rfl) (HAC.out.below ((Below.refl _ _).alloc (Nat.le_refl _) _)).1 ⟨vl.val.heap.size, 0, none⟩ 1 (.slice fA xs.length fc) (by rfl) ((OwnB.new _ _ _).cell 0) rfl (by unfold maxLen; omega) (by rw [HTI.out.2.2.2]; omega) (by have h1 := vl.size; simp; omega) ?_; intro g cap wn hR hk hg hat; have HAC2 := Lib.hid (show AccZ W.heap.size wn _ _ ((nextL M (stK 36 M s) (stK 35 M i)).take (k + 1)) from by rw [HTK.out, HRW.out]; exact AccZ.push (HAC.out.below ((Below.refl _ _).alloc (Nat.le_refl _) _)) hR hk hg hat ((HVS.out.later vl).below ((Below.refl _ _).alloc (Nat.le_refl _) _)) HX0.out); obtain ⟨u5, rfl⟩ := laterC_grown (w3 := W) (laterC_step ⟨vl, rfl⟩ ((Below.refl _ _).alloc (Nat.le_refl _) _)) (HAC.out.below ((Below.refl _ _).alloc (Nat.le_refl _) _)).1.owns hg; clear hR hk hg hat)
      go_roundw
      case rel => exact ⟨k + 1, _, _, by omega, by go_num, rfl, HAC2, ⟨u5, rfl⟩⟩
      case measure => simp [intOf] <;> omega
  · obtain rfl : k = q := by omega
    have hac := HAC.out
    rw [List.take_of_length_le (by rw [nextL_len]; show (placesN 36 M.nodes M.nodes.length).length ≤ k; rw [HQ.out]; exact Nat.le_refl _)] at hac
    have HTV := Lib.hid (hac.vlAt (by rw [nextL_len]; have h1 := HL6.out; have h2 := HQ.out; show (placesN 36 M.nodes M.nodes.length).length ≤ _; omega))
    have HNF := Lib.hid (next_fits HBO.out)
    have HN8 := Lib.hid (show bitsTo M.nodes (placesN 36 M.nodes M.nodes.length) (nextL M (stK 36 M s) (stK 35 M i)).length ≤ 8 by rw [nextL_len]; show bitsTo M.nodes (placesN 36 M.nodes M.nodes.length) (placesN 36 M.nodes M.nodes.length).length ≤ 8; rw [HQ.out]; exact HK6.out)
    clear hac hPA hVA hNA
    go_wp2_with (go_at_call 134; refine (Calls.later_eq (u := u) (l5Pack_calls _ _ _ M (plK M) (nextL M (stK 36 M s) (stK 35 M i)) _ (HM1.out.later u) (HO6.out.later u) (placesN_InN _ _) HTV.out HNF.out HN8.out) (congrArg (Value.int .i64) HNK.out.symm)).mono ?_; rintro e w' ⟨rfl, v1, rfl⟩)
    go_ret
    exact ⟨rfl, v1.back HBW.out⟩
def TwoI (lo G : Nat) (w : World) (sv iv : Value) (S I : List Int) : Prop :=
 OwnB w G 68 #[sv, iv] ∧ AccI lo w sv S ∧ AccI lo w iv I ∧ (∀ b, sv.ownBlock = some b → b ≠ G ∧ iv.ownBlock ≠ some b) ∧ ∀ b, iv.ownBlock = some b → b ≠ G
theorem TwoI.below {lo G : Nat} {w w' : World} {sv iv : Value} {S I : List Int} (h : TwoI lo G w sv iv S I) (hb : Below w.heap.size w w') : TwoI lo G w' sv iv S I :=
 ⟨h.1.below hb h.1.lt, ownsRow_below h.2.1 hb, ownsRow_below h.2.2.1 hb, h.2.2.2⟩
theorem TwoI.start (w : World) : TwoI w.heap.size w.heap.size (w.alloc (.cells #[.slice none 0 0, .slice none 0 0] 68)) (.slice none 0 0) (.slice none 0 0) [] [] :=
 ⟨OwnB.new _ _ _, AccI.nil _ _, AccI.nil _ _, fun b e => (by cases e), fun b e => (by cases e)⟩
theorem TwoI.mono {lo lo' G : Nat} {w : World} {sv iv : Value} {S I : List Int} (h : TwoI lo G w sv iv S I) (hl : lo' ≤ lo) : TwoI lo' G w sv iv S I := ⟨h.1, h.2.1.mono hl, h.2.2.1.mono hl, h.2.2.2⟩
theorem two_grow {w2 w4 W3 wn : World} {G g cap n : Nat} {sv : Value} {cs : Array Value} {ys : List Int} (k : Nat) (hO : OwnB w4 G 68 cs) (hs : ∀ b, sv.ownBlock = some b → b ≠ G ∧ w2.heap.size ≤ b) (hL : LaterC w2 w4) (hG : w2.heap.size ≤ G) (hb3 : Below w4.heap.size w4 W3) (hgr : W3.grownBy wn sv.ownBlock)
 (hat : sv.ownBlock = some g ∨ g = W3.heap.size) (hac : AccI w2.heap.size wn (.slice (some ⟨g, 0, none⟩) n cap) ys) :
 g ≠ G ∧ OwnB (wn.setCell ⟨G, k, none⟩ (.slice (some ⟨g, 0, none⟩) n cap)) G 68 (cs.setIfInBounds k (.slice (some ⟨g, 0, none⟩) n cap)) ∧ AccI w2.heap.size (wn.setCell ⟨G, k, none⟩ (.slice (some ⟨g, 0, none⟩) n cap)) (.slice (some ⟨g, 0, none⟩) n cap) ys ∧ LaterC w2 (wn.setCell ⟨G, k, none⟩ (.slice (some ⟨g, 0, none⟩) n cap)) := by
 have hO3 := hO.below hb3 hO.lt
 have hOn : OwnB wn G 68 cs := hO3.but (But.of_grown hgr) fun e => (hs G e.symm).1 rfl
 have hL3 := laterC_step hL hb3
 have hgB : g ≠ G := by
  rcases hat with e | e
  · exact (hs g e).1
  · have := hO3.lt; omega
 refine ⟨hgB, hOn.set k _, owns_but hac (S := (· = G)) (But.setCell (S := (· = G)) (But.refl _ _) rfl _) (fun b hb e => hgB (by simp [Value.ownBlock] at hb; omega)), ?_⟩
 exact LaterC.setCell' (.of (hL3.below.trans ((But.of_grown hgr).below (fun k hk => (hs k hk.symm).2) hL3.size))) _ _ hG
theorem two_other {lo : Nat} {w4 W3 wn : World} {G g k : Nat} {sv iv v : Value} {I : List Int} (h : AccI lo w4 iv I) (hne : ∀ b, sv.ownBlock = some b → iv.ownBlock ≠ some b) (hnG : ∀ b, iv.ownBlock = some b → b ≠ G) (hb3 : Below w4.heap.size w4 W3) (hgr : W3.grownBy wn sv.ownBlock) (hat : sv.ownBlock = some g ∨ g = W3.heap.size) :
 AccI lo (wn.setCell ⟨G, k, none⟩ v) iv I ∧ iv.ownBlock ≠ some g := by
 have h3 := ownsRow_below h hb3
 have hn := owns_but h3 (But.of_grown hgr) (fun b hb e => hne b e.symm hb)
 refine ⟨owns_but hn (S := (· = G)) (But.setCell (S := (· = G)) (But.refl _ _) rfl _) (fun b hb e => hnG b hb e), fun e => ?_⟩
 rcases hat with e2 | e2
 · exact hne g e2 e
 · have := (h3.lt g e).2; omega
theorem own_grow {w4 W3 wn : World} {G : Nat} {T : TypeId} {sv : Value} {cs : Array Value} (hO : OwnB w4 G T cs) (hs : ∀ b, sv.ownBlock = some b → b ≠ G) (hb3 : Below w4.heap.size w4 W3) (hgr : W3.grownBy wn sv.ownBlock) : OwnB wn G T cs :=
 (hO.below hb3 hO.lt).but (But.of_grown hgr) fun e => hs G e.symm rfl
theorem TwoI.push1 {w2 w4 W3 wn : World} {G g cap n : Nat} {sv iv : Value} {S I ys : List Int} (h : TwoI w2.heap.size G w4 sv iv S I) (hL : LaterC w2 w4) (hG : w2.heap.size ≤ G) (hb3 : Below w4.heap.size w4 W3) (hgr : W3.grownBy wn sv.ownBlock)
 (hat : sv.ownBlock = some g ∨ g = W3.heap.size) (hac : AccI w2.heap.size wn (.slice (some ⟨g, 0, none⟩) n cap) ys) :
 TwoI w2.heap.size G (wn.setCell ⟨G, 0, none⟩ (.slice (some ⟨g, 0, none⟩) n cap)) (.slice (some ⟨g, 0, none⟩) n cap) iv ys I ∧ LaterC w2 (wn.setCell ⟨G, 0, none⟩ (.slice (some ⟨g, 0, none⟩) n cap)) := by
 obtain ⟨h1, h2, h3, h4, h5⟩ := h
 obtain ⟨a, b, c, d⟩ := two_grow 0 h1 (fun b hb => ⟨(h4 b hb).1, (h2.lt b hb).1⟩) hL hG hb3 hgr hat hac
 have hi := two_other (k := 0) (v := .slice (some ⟨g, 0, none⟩) n cap) h3 (fun b hb => (h4 b hb).2) h5 hb3 hgr hat
 exact ⟨⟨b, c, hi.1, fun x hx => by simp [Value.ownBlock] at hx; subst hx; exact ⟨a, hi.2⟩, h5⟩, d⟩
theorem TwoI.push2 {w2 w4 W3 wn : World} {G g cap n : Nat} {sv iv : Value} {S I ys : List Int} (h : TwoI w2.heap.size G w4 sv iv S I) (hL : LaterC w2 w4) (hG : w2.heap.size ≤ G) (hb3 : Below w4.heap.size w4 W3) (hgr : W3.grownBy wn iv.ownBlock)
 (hat : iv.ownBlock = some g ∨ g = W3.heap.size) (hac : AccI w2.heap.size wn (.slice (some ⟨g, 0, none⟩) n cap) ys) :
 TwoI w2.heap.size G (wn.setCell ⟨G, 1, none⟩ (.slice (some ⟨g, 0, none⟩) n cap)) sv (.slice (some ⟨g, 0, none⟩) n cap) S ys ∧ LaterC w2 (wn.setCell ⟨G, 1, none⟩ (.slice (some ⟨g, 0, none⟩) n cap)) := by
 obtain ⟨h1, h2, h3, h4, h5⟩ := h
 obtain ⟨a, b, c, d⟩ := two_grow 1 h1 (fun b hb => ⟨h5 b hb, (h3.lt b hb).1⟩) hL hG hb3 hgr hat hac
 have hi := two_other (k := 1) (v := .slice (some ⟨g, 0, none⟩) n cap) h2 (fun b hb e => (h4 b e).2 hb) (fun b hb => (h4 b hb).1) hb3 hgr hat
 refine ⟨⟨b, hi.1, c, fun x hx => ⟨(h4 x hx).1, fun e => ?_⟩, fun x hx => by simp [Value.ownBlock] at hx; subst hx; exact a⟩, d⟩
 simp [Value.ownBlock] at e
 subst e
 exact hi.2 hx
theorem two_set {w : World} {R : Nat} {x y : Value} (a b : Value) (h0 : w.cell? ⟨R, 0, none⟩ = some x) (h1 : w.cell? ⟨R, 1, none⟩ = some y) :
 ((w.setCell ⟨R, 0, none⟩ a).setCell ⟨R, 1, none⟩ b).cell? ⟨R, 0, none⟩ = some a ∧ ((w.setCell ⟨R, 0, none⟩ a).setCell ⟨R, 1, none⟩ b).cell? ⟨R, 1, none⟩ = some b := by
 have h2 : (w.setCell ⟨R, 0, none⟩ a).cell? ⟨R, 1, none⟩ = some y := (World.cell?_setCell_other _ _ _ _ (by simp)).trans h1
 refine ⟨(World.cell?_setCell_other _ _ _ _ (by simp)).trans (World.cell?_setCell_same' _ _ _ (by rw [h0]; rfl)), World.cell?_setCell_same' _ _ _ (by rw [h2]; rfl)⟩
def GivesTr (P : Program) (f : FuncId) (args : Array Value) (w : World) (S I : List Int) (ok : Bool) : Prop :=
 Calls P f args w fun e w' => ∃ v, e = .returned (.tuple #[v, .bool ok]) ∧ Below w.heap.size w w' ∧ TrAt w' v S I
noncomputable def runSs (M : Md) (s : Int) (Is : List Int) : List Int := if runB M s Is = true then runS M s Is Is.length else []
noncomputable def runIs (M : Md) (s : Int) (Is : List Int) : List Int := if runB M s Is = true then Is else []
theorem run_no {M : Md} {s : Int} {Is : List Int} (h : runB M s Is = false) : runSs M s Is = [] ∧ runIs M s Is = [] := by
 unfold runSs runIs
 rw [h]
 exact ⟨rfl, rfl⟩
theorem run_yes {M : Md} {s : Int} {Is : List Int} (h : runB M s Is = true) : runSs M s Is = runS M s Is Is.length ∧ runIs M s Is = Is := by
 unfold runSs runIs
 rw [h]
 exact ⟨rfl, rfl⟩
theorem tr_none (w : World) : TrAt w (.agg #[.slice none 0 0, .slice none 0 0]) [] [] := by
 have h : SlN enI w (.slice none 0 0) [] := ⟨none, 0, rfl, Nat.le_refl _, by simp, fun i x hx => by simp at hx⟩
 exact ⟨_, _, rfl, h, h⟩
theorem TraceRun_calls (mv iv : Value) (M : Md) (s : Int) (Is : List Int) (w : World) (hM : MdAt w mv M) (hI : SlN enI w iv Is) (hsz : M.nodes.length ≤ 1048576) (hnm : ∀ x, x ∈ M.nodes → x.name.size ≤ 140737488351232) :
 GivesTr Tryz.prog 45 #[mv, .int .i64 s, iv] w (runSs M s Is) (runIs M s Is) (runB M s Is) := by
 have HNM := Lib.hid hnm
 have HI := Lib.hid hI
 have HM := Lib.hid hM
 have HSZ := Lib.hid hsz
 obtain ⟨s0, s1, s2, s3, s4, rfl, h0s, -, h2s, -, -⟩ := hM.at_
 have HS2 := Lib.hid h2s
 obtain ⟨NA, nc, rfl, hnn, hnl, hNA⟩ := h0s
 have hnn2 := Nat.le_trans hnn hnl
 clear hnn hnl
 obtain ⟨IA, ic, rfl, -, hil, hIA⟩ := hI
 have HIA := Lib.hid hIA
 clear hM hsz h2s hnm hIA hNA
 have HN1 := Lib.hid (show inB (Is.length : Int) 1 301 = false → runB M s Is = false from fun h => by unfold runB; rw [h]; rfl)
 have HN2 := Lib.hid (show ofB 36 M s = false → runB M s Is = false from fun h => by unfold runB; rw [h]; simp)
 have HN3 := Lib.hid (show ∀ k, k < Is.length → ofB 35 M (Is.getD k 0) = false → runB M s Is = false from fun k hk h => by unfold runB; rw [all_no hk h]; simp)
 have HYES := Lib.hid (show inB (Is.length : Int) 1 301 = true → ofB 36 M s = true → (∀ k, k < Is.length → ofB 35 M (Is.getD k 0) = true) → runB M s Is = true from fun h1 h2 h3 => by unfold runB; rw [h1, h2, all_yes h3]; rfl)
 generalize hR : runB M s Is = R at *
 have HR := Lib.hid hR
 generalize hn : Is.length = n at *
 have HN := Lib.hid hn
 unfold GivesTr
 clear hR hn
 go_enter Tryz.func45, Tryz.ntmps45
 go_upto_region 1 with fail
 generalize hw2 : (w.alloc (Obj.cells #[.slice NA M.nodes.length nc, s1, s2, s3, s4] 27)).alloc (Obj.cells #[.slice none 0 0, .slice none 0 0] 68) = w1
 have m0 : ∀ u : Later w1, u.val.cell? ⟨w.heap.size, 0, none⟩ = some (.slice NA M.nodes.length nc) := Later.cell (by rw [← hw2]; clear hw2; go_simp)
 have m1 : ∀ u : Later w1, u.val.cell? ⟨w.heap.size, 1, none⟩ = some s1 := Later.cell (by rw [← hw2]; clear hw2; go_simp)
 have m2 : ∀ u : Later w1, u.val.cell? ⟨w.heap.size, 2, none⟩ = some s2 := Later.cell (by rw [← hw2]; clear hw2; go_simp)
 have m3 : ∀ u : Later w1, u.val.cell? ⟨w.heap.size, 3, none⟩ = some s3 := Later.cell (by rw [← hw2]; clear hw2; go_simp)
 have m4 : ∀ u : Later w1, u.val.cell? ⟨w.heap.size, 4, none⟩ = some s4 := Later.cell (by rw [← hw2]; clear hw2; go_simp)
 have y0 : ∀ u : Later w1, u.val.frozen? ⟨w.heap.size + 1, 0, none⟩ = false := Later.frozen (by rw [← hw2]; clear hw2; go_simp) (by rw [← hw2]; clear hw2; simp)
 have y1 : ∀ u : Later w1, u.val.frozen? ⟨w.heap.size + 1, 1, none⟩ = false := Later.frozen (by rw [← hw2]; clear hw2; go_simp) (by rw [← hw2]; clear hw2; simp)
 have y2 : ∀ u : Later w1, u.val.cell? ⟨w.heap.size + 1, 0, none⟩ = some (.slice none 0 0) := Later.cell (by rw [← hw2]; clear hw2; go_simp)
 have y3 : ∀ u : Later w1, u.val.cell? ⟨w.heap.size + 1, 1, none⟩ = some (.slice none 0 0) := Later.cell (by rw [← hw2]; clear hw2; go_simp)
 have HB := Lib.hid (show Below w.heap.size w w1 by rw [← hw2]; exact ((Below.refl _ _).alloc (Nat.le_refl _) _).alloc (by simp) _)
 have HSZ1 := Lib.hid (show w1.heap.size = w.heap.size + 2 by rw [← hw2]; simp)
 clear hw2
 have HM1 := Lib.hid (HM.out.below HB.out)
 refine at_world (w := w1) ?_
 intro u0
 by_cases hi : inB (n : Int) 1 301 = true
 · have HIB := Lib.hid hi
   go_upto_region 3 with (go_at_call 123; refine (Calls.later_eq (u := u0) (l1In_makes _ 1 301 _) (congrArg Value.bool HIB.out)).mono ?_; rintro e w' ⟨rfl, u1, rfl⟩)
   by_cases ho : ofB 36 M s = true
   · have HOB := Lib.hid ho
     go_upto_region 4 with (go_at_call 56; refine (StateOf_calls _ M s _ (HM1.out.later u1) HSZ.out HNM.out).mono ?_; rintro e w' ⟨ov, osv, rfl, hb, -⟩; rw [HOB.out]; obtain ⟨u2, hu2⟩ := u1.step hb; subst hu2; clear hb)
     go_upto_region 6 with fail
     have HBW := Lib.hid (u2.back HB.out)
     have HLW : LaterC w1 u2.val := ⟨u2, rfl⟩
     replace m0 := lift_cell HLW m0
     replace m1 := lift_cell HLW m1
     replace m2 := lift_cell HLW m2
     replace m3 := lift_cell HLW m3
     replace m4 := lift_cell HLW m4
     replace y2 := lift_cell HLW y2
     replace y3 := lift_cell HLW y3
     replace y0 := lift_frozen HLW y0
     replace y1 := lift_frozen HLW y1
     replace HM1 := Lib.hid (HM1.out.below HLW.below)
     have HRL := Lib.hid (show w.heap.size + 1 < u2.val.heap.size by have h1 := HSZ1.out; have h2 := u2.size; omega)
     clear HLW
     generalize u2.val = W at *
     refine at_world (w := W) ?_
     intro w0
     go_upto_region 7 with fail
     have HT0 := Lib.hid (And.intro (TwoI.start w0.val) (show LaterC W (w0.val.alloc (.cells #[.slice none 0 0, .slice none 0 0] 68)) from LaterC.alloc' ⟨w0, rfl⟩ _))
     have HG0 := Lib.hid w0.size
     generalize w0.val.alloc (.cells #[.slice none 0 0, .slice none 0 0] 68) = w3 at *
     have HT1 := Lib.hid (TwoI.mono HT0.out.1 HG0.out)
     generalize w0.val.heap.size = G at *
     have HCO := Lib.hid (run_code HOB.out)
     have HN16 := Lib.hid (show n ≤ 301 by have h1 : 1 ≤ (n : Int) ∧ (n : Int) ≤ 301 := of_decide_eq_true hi; omega)
     have HRR := Lib.hid (runAt_range HOB.out Is)
     go_upto_region 8 with fail
     go_loopw [1, 11] (fun st i wr => ∃ (k : Nat) (sv iv : Value), k ≤ n ∧ st = .int .i64 (runAt M s Is k) ∧ i = .int .i64 k ∧ Hid (∀ j, j < k → ofB 35 M (Is.getD j 0) = true) ∧ Hid (TwoI W.heap.size G wr sv iv (runS M s Is k) (Is.take k)) ∧ LaterC W wr) (fun _ i _ => n - (intOf i).toNat)
     case atStart => exact ⟨0, _, _, Nat.zero_le _, rfl, rfl, Lib.hid (fun j hj => absurd hj (Nat.not_lt_zero _)), Lib.hid (by simpa [runS] using HT1.out), HT0.out.2⟩
     case round =>
      obtain ⟨k, sv, iv, hk, rfl, rfl, hto, HTW, ⟨u, rfl⟩⟩ := hrel
      by_cases hlt : k < n
      · have hlt' : (k : Int) < n := by omega
        have hgx := getD_at (show k < Is.length by rw [HN.out]; exact hlt) 0
        obtain ⟨bx, ox, rfl, hx⟩ := HIA.out k _ hgx
        have HTK := Lib.hid (show Is.take (k + 1) = Is.take k ++ [Is.getD k 0] by rw [List.take_add_one, hgx]; rfl)
        have HSK := Lib.hid (runS_succ M s Is k)
        have HNX := Lib.hid (show runAt M s Is (k + 1) = nextK M (runAt M s Is k) (Is.getD k 0) from rfl)
        have HRK := Lib.hid (HRR.out k)
        have HN3K := Lib.hid (HN3.out k hlt)
        obtain ⟨st, hst⟩ : ∃ st, st = runAt M s Is k := ⟨_, rfl⟩
        rw [← hst] at HSK HNX HRK ⊢
        have HST := Lib.hid hst
        clear hst
        obtain ⟨x, hxe⟩ : ∃ x, x = Is.getD k 0 := ⟨_, rfl⟩
        rw [← hxe] at HTK HNX HN3K hx
        have HX := Lib.hid hxe
        clear hxe hgx
        have p0 : ∀ l : Later W, l.val.cell? ⟨bx, ox + k, none⟩ = some (.int .i64 x) := hx.int HBW.out
        clear hx
        go_upto_region 10 with fail
        have HTW := Lib.hid (HTW.out.below (Below.refl _ _).drew)
        by_cases hoi : ofB 35 M x = true
        · have HOI := Lib.hid hoi
          go_region_held3 (fun w' => w'.cell? ⟨w.heap.size, 0, none⟩ = some (.slice NA M.nodes.length nc) ∧ w'.cell? ⟨w.heap.size, 1, none⟩ = some s1 ∧ w'.cell? ⟨w.heap.size, 2, none⟩ = some s2 ∧ w'.cell? ⟨w.heap.size, 3, none⟩ = some s3 ∧ w'.cell? ⟨w.heap.size, 4, none⟩ = some s4 ∧ w'.cell? ⟨bx, ox + k, none⟩ = some (.int .i64 x)) (exact ⟨lf m0, lf m1, lf m2, lf m3, lf m4, lf p0⟩) (first | (go_at_call 69; refine (InputOf_calls _ M x _ (HM1.out.below (lcb (w1 := W))) HSZ.out HNM.out).mono ?_; rintro e w' ⟨ov5, osv5, rfl, hb, -⟩; (first | (have HTW := Lib.hid (HTW.out.below hb)) | skip); rw [HOI.out]; obtain ⟨v1, hv1⟩ := laterC_step (w1 := W) lcx hb; subst hv1; clear hb))
          go_upto_region 13 with fail
          have HSL := Lib.hid (show (runS M s Is k).length = k from runS_len _ _ _ _)
          have HSL2 := Lib.hid (show (runS M s Is k).length ≤ 1048576 by rw [HSL.out]; have := HN16.out; omega)
          have q0 : v1.val.cell? ⟨G, 0, none⟩ = some sv := HTW.out.1.cell 0
          go_upto_region 14 with (at_builtin; refine wpList_append_int (by rfl) _ _ (by rfl) W.heap.size v1.val _ v1.val.heap.size sv st (runS M s Is k) k HSL.out (by rfl) HTW.out.2.1 v1.size HSL2.out bax (heap_alloc_new v1.val _) (by rfl) ?_; intro g cap wn hac hgr hat; have HP1 := Lib.hid (TwoI.push1 (ys := runS M s Is (k + 1)) HTW.out ⟨v1, rfl⟩ HG0.out bax hgr hat (by rw [HSK.out]; exact hac)); have HOW := Lib.hid (own_grow HTW.out.1 (fun b hb => (HTW.out.2.2.2.1 b hb).1) bax hgr); have q1 : wn.cell? ⟨G, 0, none⟩ = some sv := HOW.out.cell 0; have f1 : wn.frozen? ⟨G, 0, none⟩ = false := HOW.out.frozen 0; clear hac hgr hat)
          generalize wn.setCell ⟨G, 0, none⟩ (.slice (some ⟨g, 0, none⟩) (k + 1) cap) = w6 at *
          clear HOW q0 q1 f1
          have HSZ6 := Lib.hid (LaterC.below HP1.out.2).size
          have q2 : w6.cell? ⟨G, 1, none⟩ = some iv := HP1.out.1.1.cell 1
          have z1 : w6.cell? ⟨bx, ox + k, none⟩ = some (.int .i64 x) := by obtain ⟨l, hl⟩ := HP1.out.2; rw [hl]; exact p0 l
          have q2a : ∀ o, (w6.alloc o).cell? ⟨G, 1, none⟩ = some iv := fun o => keepcell ((Below.refl _ _).alloc (Nat.le_refl _) o) q2
          have z1a : ∀ o, (w6.alloc o).cell? ⟨bx, ox + k, none⟩ = some (.int .i64 x) := fun o => keepcell ((Below.refl _ _).alloc (Nat.le_refl _) o) z1
          have HTL := Lib.hid (show (Is.take k).length ≤ 1048576 by rw [List.length_take]; have := HN16.out; omega)
          have HTJ := Lib.hid (show (Is.take k).length = k by rw [List.length_take, HN.out]; omega)
          go_region_law ((refine step_append_int (by rfl) _ _ (by rfl) W.heap.size w6 _ w6.heap.size iv x (Is.take k) k HTJ.out (by rfl) HP1.out.1.2.2.1 HSZ6.out HTL.out bax (heap_alloc_new w6 _) (by rfl) ?_; intro g2 cap2 wn2 hac hgr hat; have HP2 := Lib.hid (TwoI.push2 (ys := Is.take (k + 1)) HP1.out.1 HP1.out.2 HG0.out bax hgr hat (by rw [HTK.out]; exact hac)); have HOW := Lib.hid (own_grow HP1.out.1.1 HP1.out.1.2.2.2.2 bax hgr); have q1 : wn2.cell? ⟨G, 1, none⟩ = some iv := HOW.out.cell 1; have f1 : wn2.frozen? ⟨G, 1, none⟩ = false := HOW.out.frozen 1; clear hac hgr hat))
          all_goals
           generalize wn2.setCell ⟨G, 1, none⟩ (.slice (some ⟨g2, 0, none⟩) (k + 1) cap2) = w7 at *
           clear HOW q1 f1
           have HTW := HP2
           obtain ⟨v2, hv2⟩ := HP2.out.2
           clear HP2
           subst hv2
           go_upto_region 15 with fail
           replace HTW := Lib.hid (HTW.out.1.below (Below.refl _ _).drew)
           go_region_held3 (fun w' => w'.cell? ⟨w.heap.size, 0, none⟩ = some (.slice NA M.nodes.length nc) ∧ w'.cell? ⟨w.heap.size, 1, none⟩ = some s1 ∧ w'.cell? ⟨w.heap.size, 2, none⟩ = some s2 ∧ w'.cell? ⟨w.heap.size, 3, none⟩ = some s3 ∧ w'.cell? ⟨w.heap.size, 4, none⟩ = some s4 ∧ w'.cell? ⟨bx, ox + k, none⟩ = some (.int .i64 x)) (exact ⟨lf m0, lf m1, lf m2, lf m3, lf m4, lf p0⟩) (first | (go_at_call 124; (with_reducible refine (l6Next_calls _ M st x _ (HM1.out.below (lcb (w1 := W))) HSZ.out HCO.out HRK.out (ofB_range (.inr rfl) HOI.out)).mono ?_); rintro e w' ⟨rfl, hb⟩; (first | (have HTW := Lib.hid (HTW.out.below hb)) | skip); obtain ⟨v3, hv3⟩ := laterC_step (w1 := W) lcx hb; subst hv3; clear hb))
           go_wp2
           go_roundw
           case rel => exact ⟨k + 1, _, _, by omega, by rw [HNX.out], by go_num, Lib.hid (fun j hj => by
            rcases Nat.lt_or_ge j k with h1 | h1
            · exact hto.out j h1
            · obtain rfl : j = k := by omega
              rw [← HX.out]; exact HOI.out), HTW, ⟨v3, rfl⟩⟩
           case measure => simp [intOf] <;> omega
        · have hoi2 : ofB 35 M x = false := by simpa using hoi
          have HOI := Lib.hid hoi2
          obtain rfl : R = false := HN3K.out hoi2
          have HZ := Lib.hid (run_no HR.out)
          go_region_held3 (fun w' => w'.cell? ⟨w.heap.size, 0, none⟩ = some (.slice NA M.nodes.length nc) ∧ w'.cell? ⟨w.heap.size, 1, none⟩ = some s1 ∧ w'.cell? ⟨w.heap.size, 2, none⟩ = some s2 ∧ w'.cell? ⟨w.heap.size, 3, none⟩ = some s3 ∧ w'.cell? ⟨w.heap.size, 4, none⟩ = some s4 ∧ w'.cell? ⟨bx, ox + k, none⟩ = some (.int .i64 x)) (exact ⟨lf m0, lf m1, lf m2, lf m3, lf m4, lf p0⟩) (first | (go_at_call 69; refine (InputOf_calls _ M x _ (HM1.out.below (lcb (w1 := W))) HSZ.out HNM.out).mono ?_; rintro e w' ⟨ov5, osv5, rfl, hb, -⟩; (first | (have HTW := Lib.hid (HTW.out.below hb)) | skip); rw [HOI.out]; obtain ⟨v1, hv1⟩ := laterC_step (w1 := W) lcx hb; subst hv1; clear hb))
          go_wp2
          obtain ⟨r0, r1⟩ := two_set (R := w.heap.size + 1) (.slice none 0 0) (.slice none 0 0) (y2 v1) (y3 v1)
          refine bodyPost_ret (v := .tuple #[.agg #[.slice none 0 0, .slice none 0 0], .bool false]) (by simp [results, Tryz.results45, go_sem, r0, r1]) rfl ?_
          exact ⟨_, rfl, ((v1.back HBW.out).setCell (by simp) _).setCell (by simp) _, by rw [HZ.out.1, HZ.out.2]; exact tr_none _⟩
      · obtain rfl : k = n := by omega
        obtain rfl : R = true := HYES.out HIB.out HOB.out hto.out
        have HZ := Lib.hid (run_yes HR.out)
        have q0 : u.val.cell? ⟨G, 0, none⟩ = some sv := HTW.out.1.cell 0
        have q1 : u.val.cell? ⟨G, 1, none⟩ = some iv := HTW.out.1.cell 1
        have HSV := Lib.hid (accI_rowI HTW.out.2.1 (by rw [runS_len]; omega))
        have HIV := Lib.hid (accI_rowI HTW.out.2.2.1 (by rw [List.length_take]; omega))
        have HSO := Lib.hid (fun b hb => (HTW.out.2.1.lt b hb).1 : ∀ b, sv.ownBlock = some b → W.heap.size ≤ b)
        have HIO := Lib.hid (fun b hb => (HTW.out.2.2.1.lt b hb).1 : ∀ b, iv.ownBlock = some b → W.heap.size ≤ b)
        obtain ⟨cA, cn, cc, rfl⟩ := accI_slice HTW.out.2.1
        obtain ⟨dA, dn, dc, rfl⟩ := accI_slice HTW.out.2.2.1
        have y2u := y2 u
        have y3u := y3 u
        go_wp2
        obtain ⟨r0, r1⟩ := two_set (R := w.heap.size + 1) (.slice cA cn cc) (.slice dA dn dc) (y2 u) (y3 u)
        refine bodyPost_ret (v := .tuple #[.agg #[.slice cA cn cc, .slice dA dn dc], .bool true]) (by simp [results, Tryz.results45, go_sem, r0, r1]) rfl ?_
        refine ⟨_, rfl, ((u.back HBW.out).setCell (by simp) _).setCell (by simp) _, _, _, rfl, ?_, ?_⟩
        · have hS := ((HSV.out.set (p := ⟨w.heap.size + 1, 0, none⟩) (fun b hb e => by have h1 := HSO.out b hb; have h2 := HRL.out; simp at e; omega) (.slice cA cn cc)).set (p := ⟨w.heap.size + 1, 1, none⟩) (fun b hb e => by have h1 := HSO.out b hb; have h2 := HRL.out; simp at e; omega) (.slice dA dn dc)).slN
          rw [HZ.out.1, HN.out]
          exact hS
        · have hI := ((HIV.out.set (p := ⟨w.heap.size + 1, 0, none⟩) (fun b hb e => by have h1 := HIO.out b hb; have h2 := HRL.out; simp at e; omega) (.slice cA cn cc)).set (p := ⟨w.heap.size + 1, 1, none⟩) (fun b hb e => by have h1 := HIO.out b hb; have h2 := HRL.out; simp at e; omega) (.slice dA dn dc)).slN
          rw [HZ.out.2]
          rw [List.take_of_length_le (Nat.le_of_eq HN.out)] at hI
          exact hI
   · have ho2 : ofB 36 M s = false := by simpa using ho
     have HOB := Lib.hid ho2
     obtain rfl : R = false := HN2.out ho2
     have HZ := Lib.hid (run_no HR.out)
     go_upto_region 4 with (go_at_call 56; refine (StateOf_calls _ M s _ (HM1.out.later u1) HSZ.out HNM.out).mono ?_; rintro e w' ⟨ov, osv, rfl, hb, -⟩; rw [HOB.out]; obtain ⟨u2, hu2⟩ := u1.step hb; subst hu2; clear hb)
     go_wp2
     obtain ⟨r0, r1⟩ := two_set (R := w.heap.size + 1) (.slice none 0 0) (.slice none 0 0) (y2 u2) (y3 u2)
     refine bodyPost_ret (v := .tuple #[.agg #[.slice none 0 0, .slice none 0 0], .bool false]) (by simp [results, Tryz.results45, go_sem, r0, r1]) rfl ?_
     exact ⟨_, rfl, ((u2.back HB.out).setCell (by simp) _).setCell (by simp) _, by rw [HZ.out.1, HZ.out.2]; exact tr_none _⟩
 · have hi2 : inB (n : Int) 1 301 = false := by simpa using hi
   have HIB := Lib.hid hi2
   obtain rfl : R = false := HN1.out hi2
   have HZ := Lib.hid (run_no HR.out)
   go_wp2_with (go_at_call 123; refine (Calls.later_eq (u := u0) (l1In_makes _ 1 301 _) (congrArg Value.bool HIB.out)).mono ?_; rintro e w' ⟨rfl, u1, rfl⟩)
   obtain ⟨r0, r1⟩ := two_set (R := w.heap.size + 1) (.slice none 0 0) (.slice none 0 0) (y2 u1) (y3 u1)
   refine bodyPost_ret (v := .tuple #[.agg #[.slice none 0 0, .slice none 0 0], .bool false]) (by simp [results, Tryz.results45, go_sem, r0, r1]) rfl ?_
   exact ⟨_, rfl, ((u1.back HB.out).setCell (by simp) _).setCell (by simp) _, by rw [HZ.out.1, HZ.out.2]; exact tr_none _⟩
theorem in_makes (n lo hi : Int) (w : World) : Makes Tryz.prog 79 #[.int .i64 n, .int .i64 lo, .int .i64 hi] w (.bool (inB n lo hi)) := in_calls n lo hi w
theorem below_calls (sv : Value) (xs : List Int) (b : Int) (w : World) (hS : SlN enI w sv xs) (h0 : 0 ≤ b) (h8 : b ≤ 8) :
 Makes Tryz.prog 125 #[sv, .int .i64 b] w (.bool (xs.all fun c => inB c 0 (2 ^ b.toNat - 1))) := by
 obtain ⟨A, c, rfl, hnc, hn, hA⟩ := hS
 have HNO := Lib.hid (show ∀ k, k < xs.length → inB (xs.getD k 0) 0 (2 ^ b.toNat - 1) = false → (xs.all fun c => inB c 0 (2 ^ b.toNat - 1)) = false from fun k h1 h2 => all_no (p := fun c => inB c 0 (2 ^ b.toNat - 1)) h1 h2)
 have HYES := Lib.hid (show (∀ k, k < xs.length → inB (xs.getD k 0) 0 (2 ^ b.toNat - 1) = true) → (xs.all fun c => inB c 0 (2 ^ b.toNat - 1)) = true from fun h => all_yes (p := fun c => inB c 0 (2 ^ b.toNat - 1)) h)
 generalize (xs.all fun c => inB c 0 (2 ^ b.toNat - 1)) = R at *
 generalize hN : xs.length = n at *
 have HN := Lib.hid hN
 clear hN hnc
 have hp1 := pow_pos_i b
 have hp2 : (2 : Int) ^ b.toNat ≤ 256 := pow_le_i h0 h8
 go_enter Tryz.func125, Tryz.ntmps125
 go_wp2
 go_loopw [9] (fun i wr => ∃ k : Nat, k ≤ n ∧ i = .int .i64 k ∧ Hid (∀ j, j < k → inB (xs.getD j 0) 0 (2 ^ b.toNat - 1) = true) ∧ LaterC w wr) (fun i _ => n - (intOf i).toNat)
 case atStart => exact ⟨0, Nat.zero_le _, rfl, Lib.hid (fun j hj => absurd hj (Nat.not_lt_zero _)), LaterC.refl _⟩
 case round =>
  obtain ⟨k, hk, rfl, hto, ⟨u, rfl⟩⟩ := hrel
  by_cases hlt : k < n
  · have hlt' : (k : Int) < n := by omega
    have hget := getD_at (show k < xs.length by rw [HN.out]; exact hlt) 0
    obtain ⟨g, o, rfl, hx⟩ := hA k _ hget
    generalize hxe : xs.getD k 0 = x at *
    have HX := Lib.hid hxe
    have p0 : ∀ l : Later w, l.val.cell? ⟨g, o + k, none⟩ = some (.int .i64 x) := hx.int (Below.refl _ _)
    clear hx hA hxe hget
    by_cases hv : inB x 0 (2 ^ b.toNat - 1) = true
    · have HV := Lib.hid hv
      have HTO := Lib.hid (show ∀ j, j < k + 1 → inB (xs.getD j 0) 0 (2 ^ b.toNat - 1) = true from fun j hj => by
       rcases Nat.lt_or_ge j k with g | g
       · exact hto.out j g
       · obtain rfl : j = k := by omega
         rw [HX.out]; exact hv)
      clear hv hto
      go_wp2_with (go_at_call 79; refine (Calls.later_eq (u := u) (in_makes x 0 (2 ^ b.toNat - 1) _) (congrArg Value.bool HV.out)).mono ?_; rintro e w' ⟨rfl, u1, rfl⟩)
      go_roundw
      case rel => exact ⟨k + 1, by omega, by go_num, HTO, ⟨u1, rfl⟩⟩
      case measure => simp [intOf] <;> omega
    · have hv := eq_false_of_ne_true hv
      have HV := Lib.hid hv
      have HR := Lib.hid (HNO.out k hlt (by rw [HX.out]; exact hv))
      clear hv hto
      go_wp2_with (go_at_call 79; refine (Calls.later_eq (u := u) (in_makes x 0 (2 ^ b.toNat - 1) _) (congrArg Value.bool HV.out)).mono ?_; rintro e w' ⟨rfl, u1, rfl⟩)
      go_ret
      exact ⟨ret_eq (congrArg Value.bool HR.out.symm), u1.prop⟩
  · obtain rfl : k = n := by omega
    have HR := Lib.hid (HYES.out hto.out)
    clear hA hto
    go_wp2
    go_ret
    exact ⟨ret_eq (congrArg Value.bool HR.out.symm), u.prop⟩
theorem of_all {kind : Int} {M : Md} (hc : codeN M = 0) (xs : List Int) : xs.all (ofB kind M) = xs.all fun c => inB c 0 (2 ^ (allN kind M.nodes).toNat - 1) := by
 congr 1
 funext c
 unfold ofB
 rw [decide_eq_true hc, Bool.true_and]
def OwnT (lo : Nat) (w : World) (s i : Value) (S I : List Int) : Prop :=
 RowI w s S ∧ RowI w i I ∧ (∀ b, s.ownBlock = some b → lo ≤ b ∧ i.ownBlock ≠ some b) ∧ ∀ b, i.ownBlock = some b → lo ≤ b
theorem OwnT.below {lo : Nat} {w w' : World} {s i : Value} {S I : List Int} (h : OwnT lo w s i S I) (hb : Below w.heap.size w w') : OwnT lo w' s i S I := ⟨h.1.below hb, h.2.1.below hb, h.2.2⟩
theorem OwnT.mono {lo lo' : Nat} {w : World} {s i : Value} {S I : List Int} (h : OwnT lo w s i S I) (hl : lo' ≤ lo) : OwnT lo' w s i S I := ⟨h.1, h.2.1, fun b hb => ⟨Nat.le_trans hl (h.2.2.1 b hb).1, (h.2.2.1 b hb).2⟩, fun b hb => Nat.le_trans hl (h.2.2.2 b hb)⟩
theorem OwnT.set2 {lo R : Nat} {w : World} {s i : Value} {S I : List Int} (h : OwnT lo w s i S I) (hR : R < lo) (a b : Value) : OwnT lo ((w.setCell ⟨R, 0, none⟩ a).setCell ⟨R, 1, none⟩ b) s i S I := by
 refine ⟨(h.1.set (p := ⟨R, 0, none⟩) (fun x hx e => ?_) a).set (p := ⟨R, 1, none⟩) (fun x hx e => ?_) b, (h.2.1.set (p := ⟨R, 0, none⟩) (fun x hx e => ?_) a).set (p := ⟨R, 1, none⟩) (fun x hx e => ?_) b, h.2.2⟩
 · have := (h.2.2.1 x hx).1; simp at e; omega
 · have := (h.2.2.1 x hx).1; simp at e; omega
 · have := h.2.2.2 x hx; simp at e; omega
 · have := h.2.2.2 x hx; simp at e; omega
theorem OwnT.nil (lo : Nat) (w : World) : OwnT lo w (.slice none 0 0) (.slice none 0 0) [] [] := by
 have h : RowI w (.slice none 0 0) [] := ⟨by simp, .inl ⟨rfl, rfl⟩⟩
 exact ⟨h, h, fun b e => (by cases e), fun b e => (by cases e)⟩
theorem OwnT.trAt {lo : Nat} {w : World} {s i : Value} {S I : List Int} (h : OwnT lo w s i S I) : TrAt w (.agg #[s, i]) S I := ⟨_, _, rfl, h.1.slN, h.2.1.slN⟩
theorem clone_calls (tv : Value) (S I : List Int) (w : World) (hT : TrAt w tv S I) (hs0 : 0 < S.length) (hs1 : S.length ≤ 1048576) (hi0 : 0 < I.length) (hi1 : I.length ≤ 1048576) :
 Calls Tryz.prog 131 #[tv] w fun e w' => ∃ s i, e = .returned (.agg #[s, i]) ∧ Below w.heap.size w w' ∧ OwnT w.heap.size w' s i S I := by
 obtain ⟨t0, t1, rfl, ht0, ht1⟩ := hT
 have HS := Lib.hid ht0
 have HI := Lib.hid ht1
 have HS0 := Lib.hid hs0
 have HS1 := Lib.hid hs1
 have HI0 := Lib.hid hi0
 have HI1 := Lib.hid hi1
 obtain ⟨A0, c0, rfl, -⟩ := ht0
 obtain ⟨A1, c1, rfl, -⟩ := ht1
 clear hs0 hs1 hi0 hi1
 generalize hn : S.length = n at *
 generalize hm : I.length = m at *
 have HN := Lib.hid hn
 have HM := Lib.hid hm
 clear hn hm
 go_enter Tryz.func131, Tryz.ntmps131
 go_upto_region 1 with fail
 generalize hw2 : (w.alloc (Obj.cells #[.slice A0 n c0, .slice A1 m c1] 68)).alloc (Obj.cells #[.slice none 0 0, .slice none 0 0] 68) = w2
 have m0 : ∀ u : Later w2, u.val.cell? ⟨w.heap.size, 0, none⟩ = some (.slice A0 n c0) := Later.cell (by rw [← hw2]; clear hw2; go_simp)
 have m1 : ∀ u : Later w2, u.val.cell? ⟨w.heap.size, 1, none⟩ = some (.slice A1 m c1) := Later.cell (by rw [← hw2]; clear hw2; go_simp)
 have y0 : ∀ u : Later w2, u.val.frozen? ⟨w.heap.size + 1, 0, none⟩ = false := Later.frozen (by rw [← hw2]; clear hw2; go_simp) (by rw [← hw2]; clear hw2; simp)
 have y1 : ∀ u : Later w2, u.val.frozen? ⟨w.heap.size + 1, 1, none⟩ = false := Later.frozen (by rw [← hw2]; clear hw2; go_simp) (by rw [← hw2]; clear hw2; simp)
 have y2 : ∀ u : Later w2, u.val.cell? ⟨w.heap.size + 1, 0, none⟩ = some (.slice none 0 0) := Later.cell (by rw [← hw2]; clear hw2; go_simp)
 have y3 : ∀ u : Later w2, u.val.cell? ⟨w.heap.size + 1, 1, none⟩ = some (.slice none 0 0) := Later.cell (by rw [← hw2]; clear hw2; go_simp)
 have HB := Lib.hid (show Below w.heap.size w w2 by rw [← hw2]; exact ((Below.refl _ _).alloc (Nat.le_refl _) _).alloc (by simp) _)
 have HSZ1 := Lib.hid (show w2.heap.size = w.heap.size + 2 by rw [← hw2]; simp)
 clear hw2
 have HS2 := Lib.hid (HS.out.below HB.out)
 have HI2 := Lib.hid (HI.out.below HB.out)
 refine at_world (w := w2) ?_
 intro u0
 go_region_with (first | (go_at_call 146; (with_reducible refine (cloneInts_calls (.slice A0 n c0) S _ (HS2.out.below (lcb (w1 := w2))) (by rw [HN.out]; exact HS0.out) (by rw [HN.out]; exact HS1.out)).mono ?_); rintro e w' ⟨sv, rfl, hb, hr, hg⟩; obtain ⟨v1, hv1⟩ := laterC_step (w1 := w2) lcx hb; subst hv1; have HRS := Lib.hid hr; have HGS := Lib.hid (fun b h => Nat.le_trans (lcb (w1 := w2)).size (hg b h) : ∀ b, sv.ownBlock = some b → w2.heap.size ≤ b); obtain ⟨B0, d0, hsv⟩ := hr.shape; subst hsv; clear hb hr hg) | (go_at_call 146; (with_reducible refine (cloneInts_calls (.slice A1 m c1) I _ (HI2.out.below (lcb (w1 := w2))) (by rw [HM.out]; exact HI0.out) (by rw [HM.out]; exact HI1.out)).mono ?_); rintro e w' ⟨iv, rfl, hb, hr, hg⟩; have HRS2 := Lib.hid ((HRS.out.below bdx).below hb); have HGI := Lib.hid (fun b h => Nat.le_trans (by first | exact Nat.le_refl _ | simp) (hg b h) : ∀ b, iv.ownBlock = some b → v1.val.heap.size ≤ b); obtain ⟨v2, hv2⟩ := laterC_step (w1 := w2) lcx hb; subst hv2; have HRI := Lib.hid hr; obtain ⟨B1, d1, hiv⟩ := hr.shape; subst hiv; clear hb hr hg))
 all_goals
  obtain ⟨r0, r1⟩ := two_set (R := w.heap.size + 1) (.slice B0 S.length d0) (.slice B1 I.length d1) (y2 v2) (y3 v2)
  go_wp2
  refine bodyPost_ret (v := .agg #[.slice B0 S.length d0, .slice B1 I.length d1]) (by simp [results, Tryz.results131, go_sem, r0, r1]) rfl ?_
  refine ⟨_, _, rfl, ((v2.back HB.out).setCell (by simp) _).setCell (by simp) _, ?_⟩
  exact (OwnT.set2 (lo := w2.heap.size) ⟨HRS2.out, HRI.out, fun b hb => ⟨HGS.out b hb, fun e => (by have h1 := HGI.out b e; have h2 := HRS.out.lt hb; omega)⟩, fun b hb => Nat.le_trans v1.size (HGI.out b hb)⟩ (by have := HSZ1.out; omega) _ _).mono (by have := HSZ1.out; omega)
end Go.Proofs.YtbenebcphaiohaaGreat
