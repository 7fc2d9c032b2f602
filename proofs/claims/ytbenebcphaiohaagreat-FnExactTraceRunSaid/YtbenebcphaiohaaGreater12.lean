import Derived.Test.YtbenebcphaiohaaGreater11
import Derived.Test.YtbenebcphaiohaaGreater8
import Derived.Deep.Cut
import Derived.Test.YtbenebcphaiohaaGreater9
import Derived.Test.YtbenebcphaiohaaGreater7
import Derived.Deep.RegionHeld3
set_option linter.unusedVariables false
set_option linter.unusedSimpArgs false
set_option maxRecDepth 8000
set_option maxHeartbeats 16000000
namespace Go.Proofs.YtbenebcphaiohaaGreat
open Go.RowKit
theorem part_at' {ns : List Nd} {L : List (List Int)} {i p g : Nat} {bn on : Nat} {w : World} (h : PartAt ns i (p : Int)) (hi : L.length = i) (hin : i ≤ ns.length)
 (hA : ∀ (i : Nat) (x : Nd), ns[i]? = some x → CellsAt enNd w bn on i x)
 (hB : ∀ (i : Nat) (xs : List Int), L[i]? = some xs → ∃ sv, w.cell? ⟨g, i, none⟩ = some sv ∧ SlN enI w sv xs ∧ NotIn g sv) :
 p < ns.length ∧ w.cell? ⟨bn, on + p * 9 + 6, none⟩ = some (.int .i64 (pN ns (p : Int)).idx) ∧ w.cell? ⟨bn, on + p * 9 + 7, none⟩ = some (.int .i64 (pN ns (p : Int)).wid) ∧ ∃ sv, w.cell? ⟨g, 0 + p, none⟩ = some sv ∧ SlN enI w sv (vN L (p : Int)) ∧ NotIn g sv := by
 have h2 := h.hi
 have e1 := hA p _ (getD_at (show p < ns.length by omega) Nd.zero)
 obtain ⟨sv, e4, e5, e6⟩ := hB p _ (getD_at (show p < L.length by omega) [])
 exact ⟨by omega, e1 6 _ rfl, e1 7 _ rfl, sv, by rw [Nat.zero_add]; exact e4, e5, e6⟩
theorem value_calls (nv : Value) (ns : List Nd) (x : Nd) (L : List (List Int)) (i g I d Bm : Nat) (w : World) (hm : w.cell? ⟨Bm, 0, none⟩ = some nv) (hS : SlN enNd w nv ns) (hB : ∀ (i : Nat) (xs : List Int), L[i]? = some xs → ∃ sv, w.cell? ⟨g, i, none⟩ = some sv ∧ SlN enI w sv xs ∧ NotIn g sv) (hI : I ≤ 281474976710656) (hiI : i ≤ I) (hg : g < w.heap.size)
 (hi : L.length = i) (hin : i ≤ ns.length) (hns : 0 < ns.length) (hk : Kinds ns i x) (hp : x.kind ≠ 35 ∧ x.kind ≠ 36) (hL : ∀ p, PartAt ns i p → valB (pN ns p) (vN L p) = true) :
 Calls Tryz.prog 148 #[nodeV x, .slice (some ⟨g, 0, none⟩) I d, .func (.func 147) #[] #[.pointer (some ⟨Bm, 0, none⟩)]] w fun e w' => OutV g w e w' (if x.kind = 34 then [x.n] else reckN ns x L) := by
 obtain ⟨A, c, rfl, hnc, hc', hA⟩ := hS
 obtain ⟨bn, on, rfl, -⟩ := hA 0 _ (getD_at hns Nd.zero)
 have hA : ∀ (i : Nat) (x : Nd), ns[i]? = some x → CellsAt enNd w bn on i x := fun i x h => by
  obtain ⟨b, o, e, hc⟩ := hA i x h
  cases e
  exact hc
 obtain ⟨k, a, b, cc, n, m, xi, xw, nm⟩ := x
 unfold reckN
 dsimp only [nodeV]
 dsimp only at hp ⊢
 rcases hk with ⟨k0, -⟩ | ⟨k0, -⟩ | ⟨k0, ha, hb, hc, h1, h2, h3, h4, h5, h6⟩ | ⟨k0, ha, hb, h1, h2, h3, h4, h5⟩ | ⟨k0, ha, hb, hc, h1, h2, h3, h4, h5, h6, h7⟩ | ⟨k0, ha, hb, h1, h2, h3, h4⟩ | ⟨k0, ha, hb, h1, h2, h3, h4, h5⟩ | ⟨k0, ha, h1, h2, h3, h4, h5, h6⟩ | ⟨k0, ha, h1, h2, h3, h4, h5⟩ | ⟨k0, ha, h1, h2, h3⟩ | ⟨k0, ha, hb, h1, h2, h3, h4, h5⟩
 · dsimp only at *
   subst k0
   rw [if_pos rfl]
   exact vNode_34 _ _ _ _ _ _ _ _ Bm bn on _ _ g 0 I d 0 w hc' hI hg hm
 · exact absurd k0 (by dsimp only; omega)
 · dsimp only at *
   subst k0
   obtain ⟨p, rfl⟩ := Int.eq_ofNat_of_zero_le ha.lo
   obtain ⟨a1, a2, a3, sa, a4, a5, a7⟩ := part_at' ha hi hin hA hB
   obtain ⟨va, ea, wa, ca⟩ := part_word ha (hL _ ha) h1
   rw [ea] at a5
   obtain ⟨b1, o1, c1, rfl, a6⟩ := slN_word a5
   rw [if_neg (by decide), if_pos rfl, ca]
   by_cases hv : va = 1
   · subst hv
     rw [if_pos rfl]
     obtain ⟨q, rfl⟩ := Int.eq_ofNat_of_zero_le hb.lo
     obtain ⟨q1, q2, q3, sb, q4, q5, q7⟩ := part_at' hb hi hin hA hB
     have hvs := val_short (hL _ hb)
     obtain ⟨A2, c2, rfl, q6⟩ := q5
     exact vNode_33t _ _ _ _ _ _ Bm bn on _ _ g 0 I d p q _ _ b1 o1 c1 A2 _ w hc' hI hg hm (by have := ha.hi; omega) a4 a6 (by have := hb.hi; omega) q4 ⟨A2, c2, rfl, q6⟩ q7
   · rw [if_neg hv]
     obtain ⟨q, rfl⟩ := Int.eq_ofNat_of_zero_le hc.lo
     obtain ⟨q1, q2, q3, sb, q4, q5, q7⟩ := part_at' hc hi hin hA hB
     have hvs := val_short (hL _ hc)
     obtain ⟨A2, c2, rfl, q6⟩ := q5
     exact vNode_33f _ _ _ _ _ _ Bm bn on _ _ g 0 I d p q _ _ b1 o1 c1 A2 _ _ hv w hc' hI hg hm (by have := ha.hi; omega) a4 a6 (by have := hc.hi; omega) q4 ⟨A2, c2, rfl, q6⟩ q7
 · dsimp only at *
   subst k0
   obtain ⟨p, rfl⟩ := Int.eq_ofNat_of_zero_le ha.lo
   obtain ⟨a1, a2, a3, sa, a4, a5, a7⟩ := part_at' ha hi hin hA hB
   obtain ⟨hl, hc⟩ := part_val (hL _ ha) ha.sok
   obtain ⟨q, rfl⟩ := Int.eq_ofNat_of_zero_le hb.lo
   obtain ⟨q1, q2, q3, sb, q4, q5, q7⟩ := part_at' hb hi hin hA hB
   obtain ⟨vb, eb, wb, cb⟩ := part_word hb (hL _ hb) h2
   rw [eb] at q5
   obtain ⟨b2, o2, c2, rfl, q6⟩ := slN_word q5
   obtain ⟨A1, c1, rfl, hl1, hl2, a6⟩ := a5
   rw [h3] at wb
   have hlt := wo_nat wb
   obtain ⟨y, rfl⟩ := Int.eq_ofNat_of_zero_le wb.lo
   rw [Int.toNat_natCast, ← hl] at hlt
   obtain ⟨b1, o1, rfl, hx⟩ := a6 y _ (getD_at hlt 0)
   have hx0 := hx 0 _ rfl
   rw [if_neg (by decide), if_neg (by decide), if_pos rfl, cb, Int.toNat_natCast]
   exact vNode_37 _ _ _ _ _ _ Bm bn on _ _ g 0 I d p q _ c1 b1 o1 b2 o2 c2 y _ w hc' hI hg hm (by have := ha.hi; omega) a4 (by have := hb.hi; omega) q4 q6 hlt hl2 (by simpa using hx0)
 · dsimp only at *
   subst k0
   obtain ⟨p, rfl⟩ := Int.eq_ofNat_of_zero_le ha.lo
   obtain ⟨a1, a2, a3, sa, a4, a5, a7⟩ := part_at' ha hi hin hA hB
   obtain ⟨hl, -⟩ := part_val (hL _ ha) ha.sok
   have hvs := val_short (hL _ ha)
   obtain ⟨q, rfl⟩ := Int.eq_ofNat_of_zero_le hb.lo
   obtain ⟨q1, q2, q3, sb, q4, q5, q7⟩ := part_at' hb hi hin hA hB
   obtain ⟨vb, eb, wb, cb⟩ := part_word hb (hL _ hb) h2
   rw [eb] at q5
   obtain ⟨b2, o2, c2, rfl, q6⟩ := slN_word q5
   obtain ⟨r, rfl⟩ := Int.eq_ofNat_of_zero_le hc.lo
   obtain ⟨r1, r2, r3, sc, r4, r5, r7⟩ := part_at' hc hi hin hA hB
   obtain ⟨vc, ec, wc, cc⟩ := part_word hc (hL _ hc) h4
   rw [ec] at r5
   obtain ⟨b3, o3, c3, rfl, r6⟩ := slN_word r5
   have a5' := a5
   obtain ⟨A1, c1, rfl, -⟩ := a5'
   rw [h3] at wb
   have hlt := wo_nat wb
   obtain ⟨y, rfl⟩ := Int.eq_ofNat_of_zero_le wb.lo
   rw [Int.toNat_natCast, ← hl] at hlt
   rw [if_neg (by decide), if_neg (by decide), if_neg (by decide), if_pos rfl, cb, cc, Int.toNat_natCast]
   exact vNode_38 _ _ _ _ _ Bm bn on _ _ g 0 I d p q r _ c1 b2 o2 c2 b3 o3 c3 y A1 _ _ w hc' hI hg hm (by have := ha.hi; omega) a4 a5 (by omega) (by have := hb.hi; omega) q4 q6 (by have := hc.hi; omega) r4 r6 hlt
 · dsimp only at *
   subst k0
   obtain ⟨p, rfl⟩ := Int.eq_ofNat_of_zero_le ha.lo
   obtain ⟨a1, a2, a3, sa, a4, a5, a7⟩ := part_at' ha hi hin hA hB
   obtain ⟨hl, -⟩ := part_val (hL _ ha) ha.sok
   obtain ⟨q, rfl⟩ := Int.eq_ofNat_of_zero_le hb.lo
   obtain ⟨q1, q2, q3, sb, q4, q5, q7⟩ := part_at' hb hi hin hA hB
   obtain ⟨hl', -⟩ := part_val (hL _ hb) hb.sok
   have a5' := a5
   have q5' := q5
   obtain ⟨A1, c1, rfl, -⟩ := a5'
   obtain ⟨A2, c2, rfl, -⟩ := q5'
   rw [if_neg (by decide), if_neg (by decide), if_neg (by decide), if_neg (by decide), if_pos rfl]
   exact vNode_21 _ _ _ _ _ _ Bm bn on _ _ g 0 I d p q _ c1 _ c2 A1 A2 _ _ w hc' hI hg hm (by have := ha.hi; omega) a4 a5 (by have := hb.hi; omega) q4 q5
 · dsimp only at *
   subst k0
   obtain ⟨p, rfl⟩ := Int.eq_ofNat_of_zero_le ha.lo
   obtain ⟨a1, a2, a3, sa, a4, a5, a7⟩ := part_at' ha hi hin hA hB
   obtain ⟨va, ea, wa, ca⟩ := part_word ha (hL _ ha) h1
   rw [ea] at a5
   obtain ⟨b1, o1, c1, rfl, a6⟩ := slN_word a5
   obtain ⟨q, rfl⟩ := Int.eq_ofNat_of_zero_le hb.lo
   obtain ⟨q1, q2, q3, sb, q4, q5, q7⟩ := part_at' hb hi hin hA hB
   obtain ⟨vb, eb, wb, cb⟩ := part_word hb (hL _ hb) h2
   rw [eb] at q5
   obtain ⟨b2, o2, c2, rfl, q6⟩ := slN_word q5
   rw [if_neg (by decide), if_neg (by decide), if_neg (by decide), if_neg (by decide), if_neg (by decide), if_pos rfl, ca, cb]
   exact vNode_29 _ _ _ _ _ _ Bm bn on _ _ g 0 I d p q b1 o1 c1 b2 o2 c2 va vb _ _ _ w hc' hI hg hm (by have := ha.hi; omega) a4 a6 (by have := hb.hi; omega) q4 q6 q1 q2 q3 wa wb h3
 · dsimp only at *
   subst k0
   obtain ⟨p, rfl⟩ := Int.eq_ofNat_of_zero_le ha.lo
   obtain ⟨a1, a2, a3, sa, a4, a5, a7⟩ := part_at' ha hi hin hA hB
   obtain ⟨va, ea, wa, ca⟩ := part_word ha (hL _ ha) h1
   rw [ea] at a5
   obtain ⟨b1, o1, c1, rfl, a6⟩ := slN_word a5
   rw [if_neg (by decide), if_neg (by decide), if_neg (by decide), if_neg (by decide), if_neg (by decide), if_neg (by decide), if_pos rfl, ca]
   exact (by rw [← and_mask _ _ (by have := wa.wd.hi; omega)]; exact vNode_30 _ _ _ _ _ _ _ Bm bn on _ _ g 0 I d p b1 o1 c1 va _ w hc' hI hg hm (by have := ha.hi; omega) a4 a6 wa h2 h3 h4)
 · dsimp only at *
   obtain ⟨p, rfl⟩ := Int.eq_ofNat_of_zero_le ha.lo
   obtain ⟨a1, a2, a3, sa, a4, a5, a7⟩ := part_at' ha hi hin hA hB
   obtain ⟨va, ea, wa, ca⟩ := part_word ha (hL _ ha) h1
   rw [ea] at a5
   obtain ⟨b1, o1, c1, rfl, a6⟩ := slN_word a5
   rw [if_neg (by omega), if_neg (by omega), if_neg (by omega), if_neg (by omega), if_neg (by omega), if_neg (by omega), if_neg (by omega), if_pos k0, ca]
   rcases k0 with rfl | rfl
   · exact vNode_31 _ _ _ _ _ _ _ Bm bn on _ _ g 0 I d p b1 o1 c1 va _ _ w hc' hI hg hm (by have := ha.hi; omega) a4 a6 a1 a2 a3 wa h2 h3
   · exact vNode_32 _ _ _ _ _ _ _ Bm bn on _ _ g 0 I d p b1 o1 c1 va _ _ w hc' hI hg hm (by have := ha.hi; omega) a4 a6 a1 a2 a3 wa h2 h3
 · dsimp only at *
   obtain ⟨p, rfl⟩ := Int.eq_ofNat_of_zero_le ha.lo
   obtain ⟨a1, a2, a3, sa, a4, a5, a7⟩ := part_at' ha hi hin hA hB
   obtain ⟨va, ea, wa, ca⟩ := part_word ha (hL _ ha) h1
   rw [ea] at a5
   obtain ⟨b1, o1, c1, rfl, a6⟩ := slN_word a5
   rw [if_neg (by omega), if_neg (by omega), if_neg (by omega), if_neg (by omega), if_neg (by omega), if_neg (by omega), if_neg (by omega), if_neg (by omega), if_pos k0.2, ca]
   exact vNode_one _ _ _ _ _ _ _ _ Bm bn on _ _ g 0 I d p b1 o1 c1 va _ _ w hc' hI hg hm (by have := ha.hi; omega) a4 a6 a1 a2 a3 wa k0.1 k0.2
 · dsimp only at *
   obtain ⟨p, rfl⟩ := Int.eq_ofNat_of_zero_le ha.lo
   obtain ⟨a1, a2, a3, sa, a4, a5, a7⟩ := part_at' ha hi hin hA hB
   obtain ⟨va, ea, wa, ca⟩ := part_word ha (hL _ ha) h1
   rw [ea] at a5
   obtain ⟨b1, o1, c1, rfl, a6⟩ := slN_word a5
   obtain ⟨q, rfl⟩ := Int.eq_ofNat_of_zero_le hb.lo
   obtain ⟨q1, q2, q3, sb, q4, q5, q7⟩ := part_at' hb hi hin hA hB
   obtain ⟨vb, eb, wb, cb⟩ := part_word hb (hL _ hb) h2
   rw [eb] at q5
   obtain ⟨b2, o2, c2, rfl, q6⟩ := slN_word q5
   rw [← h3] at wb
   rw [if_neg (by omega), if_neg (by omega), if_neg (by omega), if_neg (by omega), if_neg (by omega), if_neg (by omega), if_neg (by omega), if_neg (by omega), if_neg (by omega), ca, cb]
   exact vNode_two _ _ _ _ _ _ _ Bm bn on _ _ g 0 I d p q b1 o1 c1 b2 o2 c2 va vb _ _ w hc' hI hg hm (by have := ha.hi; omega) a4 a6 (by have := hb.hi; omega) q4 q6 a1 a2 a3 wa wb k0.1 k0.2.1 k0.2.2
theorem fits_vals {kind : Int} {ns : List Nd} {L : List (List Int)} (h : fitsB ns (placesN kind ns ns.length) L = true) {q : Nat} (hq : q < L.length) : (L.getD q []).length ≤ 4 := val_short ((fits_parts h).2 q hq)
theorem AccV.vlAt {lo : Nat} {w : World} {v : Value} {svs : List Value} {L : List (List Int)} (h : AccV lo w v svs L) (hl : L.length ≤ 281474976710656) : VlAt w v L := (h.rowVs hl).vlAt
theorem step_done {U W2 w3 : World} {v2 : Later W2} {s : Value} {xs : List Int} (hW : Below U.heap.size U W2) (hG : W2.heap.size = U.heap.size + 2) (hb : Below v2.val.heap.size v2.val w3) (hr : RowI w3 s xs) (hg : ∀ b, s.ownBlock = some b → v2.val.heap.size ≤ b) :
 Below U.heap.size U (w3.setCell ⟨U.heap.size + 1, 0, none⟩ s) ∧ RowI (w3.setCell ⟨U.heap.size + 1, 0, none⟩ s) s xs ∧ ∀ b, s.ownBlock = some b → U.heap.size ≤ b := by
 have hs := v2.size
 refine ⟨((hW.trans (v2.prop.mono hW.size)).trans (hb.mono (by omega))).setCell (by simp) _, hr.set (fun b hb' e => ?_) _, fun b hb' => ?_⟩
 · have := hg b hb'
   simp at e
   omega
 · have := hg b hb'
   omega
theorem l4All_calls (mv sv iv : Value) (M : Md) (S I : List (List Int)) (w : World) (hM : MdAt w mv M) (hS : VlAt w sv S) (hI : VlAt w iv I) (hn : nodesB M.nodes = true) (hfS : fitsB M.nodes (placesN 36 M.nodes M.nodes.length) S = true) (hfI : fitsB M.nodes (placesN 35 M.nodes M.nodes.length) I = true) (h60 : M.nodes.length ≤ 1048576) :
 Calls Tryz.prog 109 #[mv, sv, iv] w fun e w' => ∃ v svs, e = .returned v ∧ Below w.heap.size w w' ∧ AccV w.heap.size w' v svs (evalN M.nodes S I M.nodes.length) := by
 obtain ⟨s0, s1, s2, s3, s4, rfl, hSl, -, -, -, -⟩ := hM.at_
 have HSN := Lib.hid hSl.slN
 obtain ⟨A, c, rfl, hnc, hc', hA⟩ := hSl
 obtain ⟨B, d, rfl, hmd, hd', hB⟩ := hS
 obtain ⟨D, f, rfl, hnf, hf', hD⟩ := hI
 clear hM
 have HK := Lib.hid (fun (k : Nat) (hk : k < M.nodes.length) => node_kinds hn hk)
 have HFS := Lib.hid (fun (k : Nat) (hk : k < M.nodes.length) (h : ((M.nodes.getD k Nd.zero).kind == 36) = true) => fits_place hfS hk h)
 have HFI := Lib.hid (fun (k : Nat) (hk : k < M.nodes.length) (h : ((M.nodes.getD k Nd.zero).kind == 35) = true) => fits_place hfI hk h)
 have HLS := Lib.hid (fun (q : Nat) (hq : q < S.length) => fits_vals hfS hq)
 have HLI := Lib.hid (fun (q : Nat) (hq : q < I.length) => fits_vals hfI hq)
 have HOK := Lib.hid (evalN_ok hn hfS hfI)
 generalize hN : M.nodes.length = n at *
 have HN := Lib.hid hN
 generalize hQ : S.length = q at *
 generalize hT : I.length = t at *
 have HQ := Lib.hid hQ
 have HT := Lib.hid hT
 have hn2 : n ≤ 281474976710656 := Nat.le_trans hnc hc'
 clear hN hQ hT hn hfS hfI
 go_enter Tryz.func109, Tryz.ntmps109
 go_wp2
 generalize hw1 : w.alloc (Obj.cells #[.slice A n c, s1, s2, s3, s4] 27) = w1
 have hb0 : ∀ u : Later w1, u.val.cell? ⟨w.heap.size, 0, none⟩ = some (.slice A n c) := Later.cell (by rw [← hw1]; simp)
 have HB := Lib.hid (show Below w.heap.size w w1 by rw [← hw1]; exact (Below.refl _ _).alloc (Nat.le_refl _) _)
 clear hw1
 go_loopw [7, 8, 9, 10] (fun o a b i wr => ∃ (k : Nat) (svs : List Value) (ov : Value) (pa pb : Nat), k ≤ n ∧ i = .int .i64 k ∧ ov = o ∧ a = .int .i64 (pa : Int) ∧ b = .int .i64 (pb : Int) ∧ pa ≤ k ∧ pb ≤ k ∧ Hid (pa = (placesN 36 M.nodes k).length ∧ pb = (placesN 35 M.nodes k).length ∧ AccV w1.heap.size wr ov svs (evalN M.nodes S I k)) ∧ LaterC w1 wr) (fun _ _ _ i _ => n - (intOf i).toNat)
 case atStart => exact ⟨0, [], _, 0, 0, Nat.zero_le _, rfl, rfl, rfl, rfl, Nat.le_refl _, Nat.le_refl _, Lib.hid ⟨rfl, rfl, AccV.nil _ _⟩, LaterC.refl _⟩
 case round =>
  obtain ⟨k, svs, ov, pa, pb, hk, rfl, hov, rfl, rfl, hpa, hpb, HAC, ⟨u, rfl⟩⟩ := hrel
  subst hov
  by_cases hlt : k < n
  · have hlt' : (k : Int) < n := by omega
    have hgn := getD_at (show k < M.nodes.length by rw [HN.out]; exact hlt) Nd.zero
    obtain ⟨bn, on, rfl, hnx⟩ := hA k _ hgn
    have HX := Lib.hid (show M.nodes.getD k Nd.zero = M.nodes.getD k Nd.zero from rfl)
    have HKX := Lib.hid (HK.out k hlt)
    have HFSX := Lib.hid (HFS.out k hlt)
    have HFIX := Lib.hid (HFI.out k hlt)
    have HEV := Lib.hid (show evalN M.nodes S I (k + 1) = evalN M.nodes S I k ++ [stepN M.nodes S I k (evalN M.nodes S I k)] from rfl)
    have HST := Lib.hid (show stepN M.nodes S I k (evalN M.nodes S I k) = if (M.nodes.getD k Nd.zero).kind = 34 then [(M.nodes.getD k Nd.zero).n] else if (M.nodes.getD k Nd.zero).kind = 36 then S.getD (placesN 36 M.nodes k).length [] else if (M.nodes.getD k Nd.zero).kind = 35 then I.getD (placesN 35 M.nodes k).length [] else reckN M.nodes (M.nodes.getD k Nd.zero) (evalN M.nodes S I k) from rfl)
    have HP6 := Lib.hid (show ((M.nodes.getD k Nd.zero).kind == 36) = true → placesN 36 M.nodes (k + 1) = placesN 36 M.nodes k ++ [(k : Int)] from placesN_yes)
    have HP6n := Lib.hid (show ((M.nodes.getD k Nd.zero).kind == 36) = false → placesN 36 M.nodes (k + 1) = placesN 36 M.nodes k from placesN_no)
    have HP5 := Lib.hid (show ((M.nodes.getD k Nd.zero).kind == 35) = true → placesN 35 M.nodes (k + 1) = placesN 35 M.nodes k ++ [(k : Int)] from placesN_yes)
    have HP5n := Lib.hid (show ((M.nodes.getD k Nd.zero).kind == 35) = false → placesN 35 M.nodes (k + 1) = placesN 35 M.nodes k from placesN_no)
    generalize stepN M.nodes S I k (evalN M.nodes S I k) = nw at *
    clear HX
    generalize hxe : M.nodes.getD k Nd.zero = x at *
    clear hxe
    have p0 : ∀ l : Later w1, l.val.cell? ⟨bn, on + k * 9, none⟩ = some (.int .i64 x.kind) := hnx.at_ HB.out 0 _ rfl
    have p1 : ∀ l : Later w1, l.val.cell? ⟨bn, on + k * 9 + 1, none⟩ = some (.int .i64 x.a) := hnx.at_ HB.out 1 _ rfl
    have p2 : ∀ l : Later w1, l.val.cell? ⟨bn, on + k * 9 + 2, none⟩ = some (.int .i64 x.b) := hnx.at_ HB.out 2 _ rfl
    have p3 : ∀ l : Later w1, l.val.cell? ⟨bn, on + k * 9 + 3, none⟩ = some (.int .i64 x.c) := hnx.at_ HB.out 3 _ rfl
    have p4 : ∀ l : Later w1, l.val.cell? ⟨bn, on + k * 9 + 4, none⟩ = some (.int .i64 x.n) := hnx.at_ HB.out 4 _ rfl
    have p5 : ∀ l : Later w1, l.val.cell? ⟨bn, on + k * 9 + 5, none⟩ = some (.int .i64 x.m) := hnx.at_ HB.out 5 _ rfl
    have p6 : ∀ l : Later w1, l.val.cell? ⟨bn, on + k * 9 + 6, none⟩ = some (.int .i64 x.idx) := hnx.at_ HB.out 6 _ rfl
    have p7 : ∀ l : Later w1, l.val.cell? ⟨bn, on + k * 9 + 7, none⟩ = some (.int .i64 x.wid) := hnx.at_ HB.out 7 _ rfl
    have p8 : ∀ l : Later w1, l.val.cell? ⟨bn, on + k * 9 + 8, none⟩ = some (.string x.name) := hnx.at_ HB.out 8 _ rfl
    have HSL := Lib.hid (show svs.length = k from HAC.out.2.2.2.1.trans (evalN_length _ _ _ _))
    have hsl : svs.length ≤ 1048576 := by have := HSL.out; omega
    have HVL := Lib.hid (show ∀ l : Later u.val, VlAt l.val ov (evalN M.nodes S I k) from fun l => (HAC.out.2.2.vlAt (by rw [evalN_length]; omega)).later l)
    clear hgn hnx
    go_upto_region 9 with fail
    have m0 : ∀ l : Later ((u.val.alloc (Obj.cells #[.int .i64 x.kind, .int .i64 x.a, .int .i64 x.b, .int .i64 x.c, .int .i64 x.n, .int .i64 x.m, .int .i64 x.idx, .int .i64 x.wid, .string x.name] 38)).alloc (Obj.cells #[.slice none 0 0] 40)), l.val.cell? ⟨u.val.heap.size, 0, none⟩ = some (.int .i64 x.kind) := Later.cell (by simp)
    have m1 : ∀ l : Later ((u.val.alloc (Obj.cells #[.int .i64 x.kind, .int .i64 x.a, .int .i64 x.b, .int .i64 x.c, .int .i64 x.n, .int .i64 x.m, .int .i64 x.idx, .int .i64 x.wid, .string x.name] 38)).alloc (Obj.cells #[.slice none 0 0] 40)), l.val.cell? ⟨u.val.heap.size, 1, none⟩ = some (.int .i64 x.a) := Later.cell (by simp)
    have m2 : ∀ l : Later ((u.val.alloc (Obj.cells #[.int .i64 x.kind, .int .i64 x.a, .int .i64 x.b, .int .i64 x.c, .int .i64 x.n, .int .i64 x.m, .int .i64 x.idx, .int .i64 x.wid, .string x.name] 38)).alloc (Obj.cells #[.slice none 0 0] 40)), l.val.cell? ⟨u.val.heap.size, 2, none⟩ = some (.int .i64 x.b) := Later.cell (by simp)
    have m3 : ∀ l : Later ((u.val.alloc (Obj.cells #[.int .i64 x.kind, .int .i64 x.a, .int .i64 x.b, .int .i64 x.c, .int .i64 x.n, .int .i64 x.m, .int .i64 x.idx, .int .i64 x.wid, .string x.name] 38)).alloc (Obj.cells #[.slice none 0 0] 40)), l.val.cell? ⟨u.val.heap.size, 3, none⟩ = some (.int .i64 x.c) := Later.cell (by simp)
    have m4 : ∀ l : Later ((u.val.alloc (Obj.cells #[.int .i64 x.kind, .int .i64 x.a, .int .i64 x.b, .int .i64 x.c, .int .i64 x.n, .int .i64 x.m, .int .i64 x.idx, .int .i64 x.wid, .string x.name] 38)).alloc (Obj.cells #[.slice none 0 0] 40)), l.val.cell? ⟨u.val.heap.size, 4, none⟩ = some (.int .i64 x.n) := Later.cell (by simp)
    have m5 : ∀ l : Later ((u.val.alloc (Obj.cells #[.int .i64 x.kind, .int .i64 x.a, .int .i64 x.b, .int .i64 x.c, .int .i64 x.n, .int .i64 x.m, .int .i64 x.idx, .int .i64 x.wid, .string x.name] 38)).alloc (Obj.cells #[.slice none 0 0] 40)), l.val.cell? ⟨u.val.heap.size, 5, none⟩ = some (.int .i64 x.m) := Later.cell (by simp)
    have m6 : ∀ l : Later ((u.val.alloc (Obj.cells #[.int .i64 x.kind, .int .i64 x.a, .int .i64 x.b, .int .i64 x.c, .int .i64 x.n, .int .i64 x.m, .int .i64 x.idx, .int .i64 x.wid, .string x.name] 38)).alloc (Obj.cells #[.slice none 0 0] 40)), l.val.cell? ⟨u.val.heap.size, 6, none⟩ = some (.int .i64 x.idx) := Later.cell (by simp)
    have m7 : ∀ l : Later ((u.val.alloc (Obj.cells #[.int .i64 x.kind, .int .i64 x.a, .int .i64 x.b, .int .i64 x.c, .int .i64 x.n, .int .i64 x.m, .int .i64 x.idx, .int .i64 x.wid, .string x.name] 38)).alloc (Obj.cells #[.slice none 0 0] 40)), l.val.cell? ⟨u.val.heap.size, 7, none⟩ = some (.int .i64 x.wid) := Later.cell (by simp)
    have m8 : ∀ l : Later ((u.val.alloc (Obj.cells #[.int .i64 x.kind, .int .i64 x.a, .int .i64 x.b, .int .i64 x.c, .int .i64 x.n, .int .i64 x.m, .int .i64 x.idx, .int .i64 x.wid, .string x.name] 38)).alloc (Obj.cells #[.slice none 0 0] 40)), l.val.cell? ⟨u.val.heap.size, 8, none⟩ = some (.string x.name) := Later.cell (by simp)
    have mv : ∀ l : Later ((u.val.alloc (Obj.cells #[.int .i64 x.kind, .int .i64 x.a, .int .i64 x.b, .int .i64 x.c, .int .i64 x.n, .int .i64 x.m, .int .i64 x.idx, .int .i64 x.wid, .string x.name] 38)).alloc (Obj.cells #[.slice none 0 0] 40)), l.val.cell? ⟨u.val.heap.size + 1, 0, none⟩ = some (.slice none 0 0) := Later.cell (by simp)
    have mf : ∀ l : Later ((u.val.alloc (Obj.cells #[.int .i64 x.kind, .int .i64 x.a, .int .i64 x.b, .int .i64 x.c, .int .i64 x.n, .int .i64 x.m, .int .i64 x.idx, .int .i64 x.wid, .string x.name] 38)).alloc (Obj.cells #[.slice none 0 0] 40)), l.val.frozen? ⟨u.val.heap.size + 1, 0, none⟩ = false := Later.frozen (by simp) (by simp)
    have HW := Lib.hid (show Below u.val.heap.size u.val ((u.val.alloc (Obj.cells #[.int .i64 x.kind, .int .i64 x.a, .int .i64 x.b, .int .i64 x.c, .int .i64 x.n, .int .i64 x.m, .int .i64 x.idx, .int .i64 x.wid, .string x.name] 38)).alloc (Obj.cells #[.slice none 0 0] 40)) from ((Below.refl _ _).alloc (Nat.le_refl _) _).alloc (by simp) _)
    have HGW := Lib.hid (show ((u.val.alloc (Obj.cells #[.int .i64 x.kind, .int .i64 x.a, .int .i64 x.b, .int .i64 x.c, .int .i64 x.n, .int .i64 x.m, .int .i64 x.idx, .int .i64 x.wid, .string x.name] 38)).alloc (Obj.cells #[.slice none 0 0] 40)).heap.size = u.val.heap.size + 2 by simp)
    generalize ((u.val.alloc (Obj.cells #[.int .i64 x.kind, .int .i64 x.a, .int .i64 x.b, .int .i64 x.c, .int .i64 x.n, .int .i64 x.m, .int .i64 x.idx, .int .i64 x.wid, .string x.name] 38)).alloc (Obj.cells #[.slice none 0 0] 40)) = W2 at *
    have hL2 : LaterC w1 W2 := u.step HW.out
    have hb0 := lift_cell hL2 hb0
    have HU := Lib.hid (show w1.heap.size ≤ u.val.heap.size from u.size)
    have HS2 := Lib.hid (show ∀ l : Later W2, SlN enNd l.val (.slice (some ⟨bn, on, none⟩) n c) M.nodes from fun l => by
     have h := (((HSN.out.below HB.out).below hL2.below).later l)
     exact h)
    have HV2 := Lib.hid (show ∀ l : Later W2, VlAt l.val ov (evalN M.nodes S I k) from fun l => (((HAC.out.2.2.vlAt (by rw [evalN_length]; omega)).below HW.out).later l))
    have HBW := Lib.hid (show Below w.heap.size w W2 from HB.out.trans (hL2.below.mono HB.out.size))
    clear p0 p1 p2 p3 p4 p5 p6 p7 p8 hL2 HVL
    refine at_world (w := W2) ?_
    intro v2
    by_cases k34 : x.kind = 34
    · have hk36 : (x.kind == 36) = false := beq_eq_false_iff_ne.2 (by omega)
      have hk35 : (x.kind == 35) = false := beq_eq_false_iff_ne.2 (by omega)
      have HCT := Lib.hid (calls_newV (l4One_calls x.n v2.val) (HST.out.trans (if_pos k34)).symm)
      have HA6 := Lib.hid (HP6n.out hk36)
      have HA5 := Lib.hid (HP5n.out hk35)
      clear hA hB hD
      go_wp2_with (first | (at_builtin; refine wpList_append_acc (by rfl) _ _ (by rfl) w1 u.val _ _ w3.heap.size ov (.slice sA sn sc) svs _ nw (by rfl) HAC.out.2.2 ⟨u, rfl⟩ HD2.out.1 HD2.out.2.1 HD2.out.2.2 hsl (box_below _ _ _) (OwnB.new' _ _ _ _ (by simp)) (by rfl) ?_; intro v' u2 hac; have HAC2 := Lib.hid hac; clear hac) | (go_at_call 180; refine (HCT.out).mono ?_; rintro e w3 ⟨s, rfl, hb, hr, hg⟩; obtain ⟨sA, sn, sc, rfl⟩ := rowI_slice hr; have f0 : w3.frozen? ⟨u.val.heap.size + 1, 0, none⟩ = false := (lift_frozen (later_step v2 hb) mf) ⟨w3, Below.refl _ _⟩; have r0 : w3.cell? ⟨u.val.heap.size + 1, 0, none⟩ = some (.slice none 0 0) := (lift_cell (later_step v2 hb) mv) ⟨w3, Below.refl _ _⟩; have HD2 := Lib.hid (step_done HW.out HGW.out hb hr hg); have HS3 := Lib.hid (show u.val.heap.size ≤ w3.heap.size from (HW.out.trans ((v2.prop.mono HW.out.size).trans (hb.mono (Nat.le_trans HW.out.size v2.size)))).size); clear hb hr hg))
      go_roundw
      case rel => exact ⟨k + 1, _, _, pa, pb, by omega, by go_num, rfl, by go_num, by go_num, by omega, by omega, Lib.hid ⟨by rw [HA6.out, HAC.out.1] <;> simp, by rw [HA5.out, HAC.out.2.1] <;> simp, by rw [HEV.out]; exact HAC2.out⟩, ⟨u2, rfl⟩⟩
      case measure => simp [intOf] <;> omega
    · by_cases k36 : x.kind = 36
      · have hk36 : (x.kind == 36) = true := beq_iff_eq.2 k36
        have hk35 : (x.kind == 35) = false := beq_eq_false_iff_ne.2 (by omega)
        have hk34 : (x.kind == 34) = false := beq_eq_false_iff_ne.2 k34
        have HA6 := Lib.hid (HP6.out hk36)
        have HA5 := Lib.hid (HP5n.out hk35)
        have hplt : pa < q := by have h := (HFSX.out hk36).1; rw [← HAC.out.1] at h; exact h
        have hplt' : (pa : Int) < q := by omega
        obtain ⟨bs, os, sx, rfl, hcs, hsx⟩ := hB pa _ (getD_at (show pa < S.length by rw [HQ.out]; exact hplt) [])
        have hsh := hsx
        obtain ⟨A3, c3, rfl, -⟩ := hsh
        have hcs := Later.cell (keepcell HBW.out hcs)
        have HCT := Lib.hid (calls_newV (l4Copy_calls _ _ v2.val ((hsx.below HBW.out).later v2) (by have h := HLS.out pa hplt; omega)) (show S.getD pa [] = nw by rw [HST.out, if_neg k34, if_pos k36, HAC.out.1]))
        clear hA hB hD hsx
        generalize (S.getD pa []).length = l3 at *
        go_wp2_with (first | (at_builtin; refine wpList_append_acc (by rfl) _ _ (by rfl) w1 u.val _ _ w3.heap.size ov (.slice sA sn sc) svs _ nw (by rfl) HAC.out.2.2 ⟨u, rfl⟩ HD2.out.1 HD2.out.2.1 HD2.out.2.2 hsl (box_below _ _ _) (OwnB.new' _ _ _ _ (by simp)) (by rfl) ?_; intro v' u2 hac; have HAC2 := Lib.hid hac; clear hac) | (go_at_call 181; refine (HCT.out).mono ?_; rintro e w3 ⟨s, rfl, hb, hr, hg⟩; obtain ⟨sA, sn, sc, rfl⟩ := rowI_slice hr; have f0 : w3.frozen? ⟨u.val.heap.size + 1, 0, none⟩ = false := (lift_frozen (later_step v2 hb) mf) ⟨w3, Below.refl _ _⟩; have r0 : w3.cell? ⟨u.val.heap.size + 1, 0, none⟩ = some (.slice none 0 0) := (lift_cell (later_step v2 hb) mv) ⟨w3, Below.refl _ _⟩; have HD2 := Lib.hid (step_done HW.out HGW.out hb hr hg); have HS3 := Lib.hid (show u.val.heap.size ≤ w3.heap.size from (HW.out.trans ((v2.prop.mono HW.out.size).trans (hb.mono (Nat.le_trans HW.out.size v2.size)))).size); clear hb hr hg))
        go_roundw
        case rel => exact ⟨k + 1, _, _, pa + 1, pb, by omega, by go_num, rfl, by go_num, by go_num, by omega, by omega, Lib.hid ⟨by rw [HA6.out, HAC.out.1] <;> simp, by rw [HA5.out, HAC.out.2.1] <;> simp, by rw [HEV.out]; exact HAC2.out⟩, ⟨u2, rfl⟩⟩
        case measure => simp [intOf] <;> omega
      · by_cases k35 : x.kind = 35
        · have hk36 : (x.kind == 36) = false := beq_eq_false_iff_ne.2 k36
          have hk35 : (x.kind == 35) = true := beq_iff_eq.2 k35
          have hk34 : (x.kind == 34) = false := beq_eq_false_iff_ne.2 k34
          have HA6 := Lib.hid (HP6n.out hk36)
          have HA5 := Lib.hid (HP5.out hk35)
          have hplt : pb < t := by have h := (HFIX.out hk35).1; rw [← HAC.out.2.1] at h; exact h
          have hplt' : (pb : Int) < t := by omega
          obtain ⟨bs, os, sx, rfl, hcs, hsx⟩ := hD pb _ (getD_at (show pb < I.length by rw [HT.out]; exact hplt) [])
          have hsh := hsx
          obtain ⟨A3, c3, rfl, -⟩ := hsh
          have hcs := Later.cell (keepcell HBW.out hcs)
          have HCT := Lib.hid (calls_newV (l4Copy_calls _ _ v2.val ((hsx.below HBW.out).later v2) (by have h := HLI.out pb hplt; omega)) (show I.getD pb [] = nw by rw [HST.out, if_neg k34, if_neg k36, if_pos k35, HAC.out.2.1]))
          clear hA hB hD hsx
          generalize (I.getD pb []).length = l3 at *
          go_wp2_with (first | (at_builtin; refine wpList_append_acc (by rfl) _ _ (by rfl) w1 u.val _ _ w3.heap.size ov (.slice sA sn sc) svs _ nw (by rfl) HAC.out.2.2 ⟨u, rfl⟩ HD2.out.1 HD2.out.2.1 HD2.out.2.2 hsl (box_below _ _ _) (OwnB.new' _ _ _ _ (by simp)) (by rfl) ?_; intro v' u2 hac; have HAC2 := Lib.hid hac; clear hac) | (go_at_call 181; refine (HCT.out).mono ?_; rintro e w3 ⟨s, rfl, hb, hr, hg⟩; obtain ⟨sA, sn, sc, rfl⟩ := rowI_slice hr; have f0 : w3.frozen? ⟨u.val.heap.size + 1, 0, none⟩ = false := (lift_frozen (later_step v2 hb) mf) ⟨w3, Below.refl _ _⟩; have r0 : w3.cell? ⟨u.val.heap.size + 1, 0, none⟩ = some (.slice none 0 0) := (lift_cell (later_step v2 hb) mv) ⟨w3, Below.refl _ _⟩; have HD2 := Lib.hid (step_done HW.out HGW.out hb hr hg); have HS3 := Lib.hid (show u.val.heap.size ≤ w3.heap.size from (HW.out.trans ((v2.prop.mono HW.out.size).trans (hb.mono (Nat.le_trans HW.out.size v2.size)))).size); clear hb hr hg))
          go_roundw
          case rel => exact ⟨k + 1, _, _, pa, pb + 1, by omega, by go_num, rfl, by go_num, by go_num, by omega, by omega, Lib.hid ⟨by rw [HA6.out, HAC.out.1] <;> simp, by rw [HA5.out, HAC.out.2.1] <;> simp, by rw [HEV.out]; exact HAC2.out⟩, ⟨u2, rfl⟩⟩
          case measure => simp [intOf] <;> omega
        · have hk36 : (x.kind == 36) = false := beq_eq_false_iff_ne.2 k36
          have hk35 : (x.kind == 35) = false := beq_eq_false_iff_ne.2 k35
          have hk34 : (x.kind == 34) = false := beq_eq_false_iff_ne.2 k34
          have HA6 := Lib.hid (HP6n.out hk36)
          have HA5 := Lib.hid (HP5n.out hk35)
          have HCT := Lib.hid (calls_newV (l4Node_calls _ _ M.nodes x (evalN M.nodes S I k) k v2.val (HS2.out v2) (HV2.out v2) (evalN_length _ _ _ _) (by rw [HN.out]; exact hk) HKX.out (fun e => by have := kinds0 e; omega) (fun p hp => HOK.out k hk p.toNat (by have h1 := hp.lo; have h2 := hp.hi; omega))) (show reckN M.nodes x (evalN M.nodes S I k) = nw by rw [HST.out, if_neg k34, if_neg k36, if_neg k35]))
          clear hA hB hD
          go_wp2_with (first | (at_builtin; refine wpList_append_acc (by rfl) _ _ (by rfl) w1 u.val _ _ w3.heap.size ov (.slice sA sn sc) svs _ nw (by rfl) HAC.out.2.2 ⟨u, rfl⟩ HD2.out.1 HD2.out.2.1 HD2.out.2.2 hsl (box_below _ _ _) (OwnB.new' _ _ _ _ (by simp)) (by rfl) ?_; intro v' u2 hac; have HAC2 := Lib.hid hac; clear hac) | (go_at_call 182; refine (HCT.out).mono ?_; rintro e w3 ⟨s, rfl, hb, hr, hg⟩; obtain ⟨sA, sn, sc, rfl⟩ := rowI_slice hr; have f0 : w3.frozen? ⟨u.val.heap.size + 1, 0, none⟩ = false := (lift_frozen (later_step v2 hb) mf) ⟨w3, Below.refl _ _⟩; have r0 : w3.cell? ⟨u.val.heap.size + 1, 0, none⟩ = some (.slice none 0 0) := (lift_cell (later_step v2 hb) mv) ⟨w3, Below.refl _ _⟩; have HD2 := Lib.hid (step_done HW.out HGW.out hb hr hg); have HS3 := Lib.hid (show u.val.heap.size ≤ w3.heap.size from (HW.out.trans ((v2.prop.mono HW.out.size).trans (hb.mono (Nat.le_trans HW.out.size v2.size)))).size); clear hb hr hg))
          go_roundw
          case rel => exact ⟨k + 1, _, _, pa, pb, by omega, by go_num, rfl, by go_num, by go_num, by omega, by omega, Lib.hid ⟨by rw [HA6.out, HAC.out.1] <;> simp, by rw [HA5.out, HAC.out.2.1] <;> simp, by rw [HEV.out]; exact HAC2.out⟩, ⟨u2, rfl⟩⟩
          case measure => simp [intOf] <;> omega
  · obtain rfl : k = n := by omega
    clear hA hB hD
    go_wp2
    go_ret
    exact ⟨_, svs, rfl, u.back HB.out, HAC.out.2.2.mono HB.out.size⟩
def HoldsV (w : World) (g n : Nat) (L : List (List Int)) : Prop :=
 ∃ cs, OwnB w g 40 cs ∧ cs.size = n ∧ ∀ (j : Nat) (xs : List Int), L[j]? = some xs → ∃ sv, cs[j]? = some sv ∧ SlN enI w sv xs ∧ NotIn g sv
theorem SlN.putAt {w : World} {g k : Nat} {sv v : Value} {xs : List Int} (h : SlN enI w sv xs) (hn : NotIn g sv) : SlN enI (w.setCell ⟨g, k, none⟩ v) sv xs := by
 obtain ⟨A, c, rfl, h1, h2, h3⟩ := h
 refine ⟨A, c, rfl, h1, h2, fun i x hx => ?_⟩
 obtain ⟨b, o, rfl, hc⟩ := h3 i x hx
 exact ⟨b, o, rfl, fun f u hu => (World.cell?_setCell_far _ _ _ _ (fun e => hn b o _ _ rfl e.symm)).trans (hc f u hu)⟩
theorem HoldsV.below {w w' : World} {g n : Nat} {L : List (List Int)} (h : HoldsV w g n L) (hb : Below w.heap.size w w') : HoldsV w' g n L := by
 obtain ⟨cs, h1, h2, h3⟩ := h
 refine ⟨cs, h1.below hb h1.lt, h2, fun j xs hx => ?_⟩
 obtain ⟨sv, e1, e2, e3⟩ := h3 j xs hx
 exact ⟨sv, e1, e2.below hb, e3⟩
theorem HoldsV.put {w : World} {g n k : Nat} {L : List (List Int)} {s : Value} {xs : List Int} (h : HoldsV w g n L) (hk : L.length = k) (hkn : k < n) (hs : SlN enI w s xs) (hn : NotIn g s) : HoldsV (w.setCell ⟨g, k, none⟩ s) g n (L ++ [xs]) := by
 obtain ⟨cs, h1, h2, h3⟩ := h
 refine ⟨cs.setIfInBounds k s, h1.set k s, by simpa using h2, fun j ys hx => ?_⟩
 rcases snoc_get hx with hx | ⟨rfl, rfl⟩
 · obtain ⟨sv, e1, e2, e3⟩ := h3 j ys hx
   have hj := (List.getElem?_eq_some_iff.1 hx).1
   refine ⟨sv, ?_, e2.putAt e3, e3⟩
   rw [Array.getElem?_setIfInBounds_ne (by omega)]
   exact e1
 · rw [hk]
   exact ⟨s, Array.getElem?_setIfInBounds_self_of_lt (by omega), hs.putAt hn, hn⟩
theorem HoldsV.lt {w : World} {g n : Nat} {L : List (List Int)} (h : HoldsV w g n L) : g < w.heap.size := by obtain ⟨cs, h1, -⟩ := h; exact h1.lt
theorem HoldsV.cell {w : World} {g n : Nat} {L : List (List Int)} (h : HoldsV w g n L) {i : Nat} (hi : i < n) : ∃ v, w.cell? ⟨g, i, none⟩ = some v := by
 obtain ⟨cs, h1, h2, -⟩ := h
 exact ⟨cs[i]'(by omega), (h1.cell i).trans (Array.getElem?_eq_getElem _)⟩
theorem HoldsV.frozen {w : World} {g n : Nat} {L : List (List Int)} (h : HoldsV w g n L) (i : Nat) : w.frozen? ⟨g, i, none⟩ = false := by
 obtain ⟨cs, h1, -⟩ := h
 exact h1.frozen i
theorem HoldsV.at_ {w : World} {g n : Nat} {L : List (List Int)} (h : HoldsV w g n L) (i : Nat) (xs : List Int) (hx : L[i]? = some xs) : ∃ sv, w.cell? ⟨g, i, none⟩ = some sv ∧ SlN enI w sv xs ∧ NotIn g sv := by
 obtain ⟨cs, h1, h2, h3⟩ := h
 obtain ⟨sv, e1, e2⟩ := h3 i xs hx
 exact ⟨sv, (h1.cell i).trans e1, e2⟩
theorem HoldsV.vlAt {w : World} {g n : Nat} {L : List (List Int)} (h : HoldsV w g n L) (hl : L.length = n) (hn : n ≤ 281474976710656) : VlAt w (.slice (some ⟨g, 0, none⟩) n n) L := by
 subst hl
 refine ⟨_, _, rfl, Nat.le_refl _, hn, fun i xs hx => ?_⟩
 obtain ⟨sv, e1, e2, -⟩ := h.at_ i xs hx
 exact ⟨g, 0, sv, rfl, by rw [Nat.zero_add]; exact e1, e2⟩
theorem SlN.notIn {w : World} {sv : Value} {xs : List Int} {g : Nat} (h : SlN enI w sv xs) (h0 : 0 < xs.length) (hg : w.heap.size ≤ g) : NotIn g sv := by
 obtain ⟨A, c, rfl, -, -, h3⟩ := h
 obtain ⟨b, o, rfl, hc⟩ := h3 0 _ (getD_at h0 0)
 have h1 := World.block_lt_of_cell? _ _ (hc 0 _ rfl)
 intro b' o' n' c' e
 cases e
 simp at h1
 omega
theorem VlAt.tail {w : World} {A : Option Addr} {n c : Nat} {L : List (List Int)} {q : Nat} (h : VlAt w (.slice A n c) (L.drop q)) (hq : q < L.length) : ∃ b o sx, A = some ⟨b, o, none⟩ ∧ n = L.length - q ∧ w.cell? ⟨b, o, none⟩ = some sx ∧ SlN enI w sx (L.getD q []) ∧ n ≤ c ∧ n ≤ 281474976710656 ∧ VlAt w (.slice (some ⟨b, o + 1, none⟩) (n - 1) (c - 1)) (L.drop (q + 1)) := by
 obtain ⟨A', c', e, h1, h2, h3⟩ := h
 cases e
 have hl : (L.drop q).length = L.length - q := List.length_drop
 have h0 : (L.drop q)[0]? = some (L.getD q []) := by rw [List.getElem?_drop, Nat.add_zero]; exact getD_at hq []
 obtain ⟨b, o, sx, rfl, e1, e2⟩ := h3 0 _ h0
 refine ⟨b, o, sx, rfl, hl, by simpa using e1, e2, h1, h2, ?_⟩
 refine ⟨_, _, by rw [show (L.drop (q + 1)).length = (L.drop q).length - 1 by rw [List.length_drop, List.length_drop]; omega], by rw [List.length_drop]; omega, by rw [List.length_drop]; omega, fun i xs hx => ?_⟩
 obtain ⟨b', o', sv, e, e3, e4⟩ := h3 (i + 1) xs (by rw [List.getElem?_drop] at hx ⊢; rw [← hx]; congr 1; omega)
 cases e
 exact ⟨b, o + 1, sv, rfl, by rw [Nat.add_assoc, Nat.add_comm 1 i]; exact e3, e4⟩
theorem vl_if {w : World} {A A' : Option Addr} {n c : Nat} {L : List (List Int)} (h : VlAt w (.slice A' (n - 1) (c - 1)) L) (hn : n ≤ c) : VlAt w (.slice (if c = 1 then A else A') (n - 1) (c - 1)) L := by
 split
 · rename_i e
   obtain ⟨A2, c2, e2, h1, h2, h3⟩ := h
   injection e2 with e3 e4 e5
   refine ⟨A, c2, by rw [e4, e5], h1, h2, fun i xs hx => ?_⟩
   have := (List.getElem?_eq_some_iff.1 hx).1
   omega
 · exact h
theorem eval_calls (mv sv iv : Value) (M : Md) (S I : List (List Int)) (w : World) (hM : MdAt w mv M) (hS : VlAt w sv S) (hI : VlAt w iv I) (hn : nodesB M.nodes = true) (hfS : fitsB M.nodes (placesN 36 M.nodes M.nodes.length) S = true) (hfI : fitsB M.nodes (placesN 35 M.nodes M.nodes.length) I = true) (h60 : M.nodes.length ≤ 1048576) :
 Calls Tryz.prog 73 #[mv, sv, iv] w fun e w' => ∃ v, e = .returned v ∧ Below w.heap.size w w' ∧ VlAt w' v (evalN M.nodes S I M.nodes.length) := by
 obtain ⟨s0, s1, s2, s3, s4, rfl, hSl, -, -, -, -⟩ := hM.at_
 have HSN := Lib.hid hSl.slN
 obtain ⟨A, c, rfl, hnc, hc', hA⟩ := hSl
 clear hM
 have HVS := Lib.hid hS
 have HVI := Lib.hid hI
 obtain ⟨B, d, rfl, -, -, -⟩ := hS
 obtain ⟨D, f, rfl, -, -, -⟩ := hI
 have HK := Lib.hid (fun (k : Nat) (hk : k < M.nodes.length) => node_kinds hn hk)
 have HFS := Lib.hid (fun (k : Nat) (hk : k < M.nodes.length) (h : ((M.nodes.getD k Nd.zero).kind == 36) = true) => fits_place hfS hk h)
 have HFI := Lib.hid (fun (k : Nat) (hk : k < M.nodes.length) (h : ((M.nodes.getD k Nd.zero).kind == 35) = true) => fits_place hfI hk h)
 have HOK := Lib.hid (evalN_ok hn hfS hfI)
 generalize hN : M.nodes.length = n at *
 have HN := Lib.hid hN
 have hn2 : n ≤ 281474976710656 := Nat.le_trans hnc hc'
 generalize hQ : S.length = q at *
 generalize hT : I.length = t at *
 have HQ := Lib.hid hQ
 have HT := Lib.hid hT
 clear hN hn hfS hfI hQ hT
 have hmf : ∀ (fn : Fn) (first cap : Array Value) (w : World), (Instr.makeFunc fn first cap).run Tryz.prog w = .ok (.func fn first cap) w := fun _ _ _ _ => rfl
 have hmk := make_any (P := Tryz.prog) 29 40 (.agg #[.slice none 0 0]) 1 24 Tryz.underlying29 (by kernel_rfl) n (by omega) (by omega)
 simp only [Value.cells, Nat.mul_one] at hmk
 go_enter Tryz.func73, Tryz.ntmps73
 go_wp2
 have HB1 := Lib.hid (box_below w #[.slice A n c, s1, s2, s3, s4] 27)
 have hb0 : ∀ u : Later (w.alloc (Obj.cells #[.slice A n c, s1, s2, s3, s4] 27)), u.val.cell? ⟨w.heap.size, 0, none⟩ = some (.slice A n c) := Later.cell (by simp)
 have HSZ1 := Lib.hid (show (w.alloc (Obj.cells #[.slice A n c, s1, s2, s3, s4] 27)).heap.size = w.heap.size + 1 by simp)
 generalize w.alloc (Obj.cells #[.slice A n c, s1, s2, s3, s4] 27) = w1 at *
 have HO := Lib.hid (show OwnB (w1.alloc (Obj.cells (madeCells #[.slice none 0 0] n) 40)) (w.heap.size + 1) 40 (madeCells #[.slice none 0 0] n) from HSZ1.out ▸ OwnB.new w1 40 (madeCells #[.slice none 0 0] n))
 have HL0 := Lib.hid (show LaterC w1 (w1.alloc (Obj.cells (madeCells #[.slice none 0 0] n) 40)) from LaterC.alloc' (LaterC.refl _) _)
 have HSZ := Lib.hid (size_madeCells #[.slice none 0 0] n)
 generalize madeCells #[.slice none 0 0] n = cs0 at *
 generalize w1.alloc (Obj.cells cs0 40) = w2 at *
 clear hmk
 go_loopw [1, 2, 19] (fun a b i wr => ∃ (k pa pb cS cI : Nat) (AS AI : Option Addr), k ≤ n ∧ i = .int .i64 k ∧ a = .slice AS (q - pa) cS ∧ b = .slice AI (t - pb) cI ∧ Hid (pa = (placesN 36 M.nodes k).length ∧ pb = (placesN 35 M.nodes k).length ∧ VlAt w1 (.slice AS (q - pa) cS) (S.drop pa) ∧ VlAt w1 (.slice AI (t - pb) cI) (I.drop pb) ∧ HoldsV wr (w.heap.size + 1) n (evalN M.nodes S I k)) ∧ LaterC w1 wr) (fun _ _ i _ => n - (intOf i).toNat)
 case atStart => exact ⟨0, 0, 0, d, f, B, D, Nat.zero_le _, rfl, rfl, rfl, Lib.hid ⟨rfl, rfl, HVS.out.below HB1.out, HVI.out.below HB1.out, ⟨cs0, HO.out, HSZ.out, fun j xs hx => by simp [evalN] at hx⟩⟩, HL0.out⟩
 case round =>
  obtain ⟨k, pa, pb, cS, cI, AS, AI, hk, rfl, rfl, rfl, HR, ⟨u, rfl⟩⟩ := hrel
  by_cases hlt : k < n
  · have hlt' : (k : Int) < n := by omega
    have hgn := getD_at (show k < M.nodes.length by rw [HN.out]; exact hlt) Nd.zero
    obtain ⟨bn, on, rfl, hnx⟩ := hA k _ hgn
    have HKX := Lib.hid (HK.out k hlt)
    have HFSX := Lib.hid (HFS.out k hlt)
    have HFIX := Lib.hid (HFI.out k hlt)
    have HEV := Lib.hid (show evalN M.nodes S I (k + 1) = evalN M.nodes S I k ++ [stepN M.nodes S I k (evalN M.nodes S I k)] from rfl)
    have HST := Lib.hid (show stepN M.nodes S I k (evalN M.nodes S I k) = if (M.nodes.getD k Nd.zero).kind = 34 then [(M.nodes.getD k Nd.zero).n] else if (M.nodes.getD k Nd.zero).kind = 36 then S.getD (placesN 36 M.nodes k).length [] else if (M.nodes.getD k Nd.zero).kind = 35 then I.getD (placesN 35 M.nodes k).length [] else reckN M.nodes (M.nodes.getD k Nd.zero) (evalN M.nodes S I k) from rfl)
    have HP6 := Lib.hid (show ((M.nodes.getD k Nd.zero).kind == 36) = true → placesN 36 M.nodes (k + 1) = placesN 36 M.nodes k ++ [(k : Int)] from placesN_yes)
    have HP6n := Lib.hid (show ((M.nodes.getD k Nd.zero).kind == 36) = false → placesN 36 M.nodes (k + 1) = placesN 36 M.nodes k from placesN_no)
    have HP5 := Lib.hid (show ((M.nodes.getD k Nd.zero).kind == 35) = true → placesN 35 M.nodes (k + 1) = placesN 35 M.nodes k ++ [(k : Int)] from placesN_yes)
    have HP5n := Lib.hid (show ((M.nodes.getD k Nd.zero).kind == 35) = false → placesN 35 M.nodes (k + 1) = placesN 35 M.nodes k from placesN_no)
    generalize stepN M.nodes S I k (evalN M.nodes S I k) = nw at *
    generalize hxe : M.nodes.getD k Nd.zero = x at *
    clear hxe
    have p0 : ∀ l : Later w1, l.val.cell? ⟨bn, on + k * 9, none⟩ = some (.int .i64 x.kind) := hnx.at_ (HB1.out) 0 _ rfl
    have p1 : ∀ l : Later w1, l.val.cell? ⟨bn, on + k * 9 + 1, none⟩ = some (.int .i64 x.a) := hnx.at_ (HB1.out) 1 _ rfl
    have p2 : ∀ l : Later w1, l.val.cell? ⟨bn, on + k * 9 + 2, none⟩ = some (.int .i64 x.b) := hnx.at_ (HB1.out) 2 _ rfl
    have p3 : ∀ l : Later w1, l.val.cell? ⟨bn, on + k * 9 + 3, none⟩ = some (.int .i64 x.c) := hnx.at_ (HB1.out) 3 _ rfl
    have p4 : ∀ l : Later w1, l.val.cell? ⟨bn, on + k * 9 + 4, none⟩ = some (.int .i64 x.n) := hnx.at_ (HB1.out) 4 _ rfl
    have p5 : ∀ l : Later w1, l.val.cell? ⟨bn, on + k * 9 + 5, none⟩ = some (.int .i64 x.m) := hnx.at_ (HB1.out) 5 _ rfl
    have p6 : ∀ l : Later w1, l.val.cell? ⟨bn, on + k * 9 + 6, none⟩ = some (.int .i64 x.idx) := hnx.at_ (HB1.out) 6 _ rfl
    have p7 : ∀ l : Later w1, l.val.cell? ⟨bn, on + k * 9 + 7, none⟩ = some (.int .i64 x.wid) := hnx.at_ (HB1.out) 7 _ rfl
    have p8 : ∀ l : Later w1, l.val.cell? ⟨bn, on + k * 9 + 8, none⟩ = some (.string x.name) := hnx.at_ (HB1.out) 8 _ rfl
    clear hgn hnx hA
    go_upto_region 6 with fail
    have m0 : ∀ l : Later (u.val.alloc (Obj.cells #[.int .i64 x.kind, .int .i64 x.a, .int .i64 x.b, .int .i64 x.c, .int .i64 x.n, .int .i64 x.m, .int .i64 x.idx, .int .i64 x.wid, .string x.name] 38)), l.val.cell? ⟨u.val.heap.size, 0, none⟩ = some (.int .i64 x.kind) := Later.cell (by simp)
    have m1 : ∀ l : Later (u.val.alloc (Obj.cells #[.int .i64 x.kind, .int .i64 x.a, .int .i64 x.b, .int .i64 x.c, .int .i64 x.n, .int .i64 x.m, .int .i64 x.idx, .int .i64 x.wid, .string x.name] 38)), l.val.cell? ⟨u.val.heap.size, 1, none⟩ = some (.int .i64 x.a) := Later.cell (by simp)
    have m2 : ∀ l : Later (u.val.alloc (Obj.cells #[.int .i64 x.kind, .int .i64 x.a, .int .i64 x.b, .int .i64 x.c, .int .i64 x.n, .int .i64 x.m, .int .i64 x.idx, .int .i64 x.wid, .string x.name] 38)), l.val.cell? ⟨u.val.heap.size, 2, none⟩ = some (.int .i64 x.b) := Later.cell (by simp)
    have m3 : ∀ l : Later (u.val.alloc (Obj.cells #[.int .i64 x.kind, .int .i64 x.a, .int .i64 x.b, .int .i64 x.c, .int .i64 x.n, .int .i64 x.m, .int .i64 x.idx, .int .i64 x.wid, .string x.name] 38)), l.val.cell? ⟨u.val.heap.size, 3, none⟩ = some (.int .i64 x.c) := Later.cell (by simp)
    have m4 : ∀ l : Later (u.val.alloc (Obj.cells #[.int .i64 x.kind, .int .i64 x.a, .int .i64 x.b, .int .i64 x.c, .int .i64 x.n, .int .i64 x.m, .int .i64 x.idx, .int .i64 x.wid, .string x.name] 38)), l.val.cell? ⟨u.val.heap.size, 4, none⟩ = some (.int .i64 x.n) := Later.cell (by simp)
    have m5 : ∀ l : Later (u.val.alloc (Obj.cells #[.int .i64 x.kind, .int .i64 x.a, .int .i64 x.b, .int .i64 x.c, .int .i64 x.n, .int .i64 x.m, .int .i64 x.idx, .int .i64 x.wid, .string x.name] 38)), l.val.cell? ⟨u.val.heap.size, 5, none⟩ = some (.int .i64 x.m) := Later.cell (by simp)
    have m6 : ∀ l : Later (u.val.alloc (Obj.cells #[.int .i64 x.kind, .int .i64 x.a, .int .i64 x.b, .int .i64 x.c, .int .i64 x.n, .int .i64 x.m, .int .i64 x.idx, .int .i64 x.wid, .string x.name] 38)), l.val.cell? ⟨u.val.heap.size, 6, none⟩ = some (.int .i64 x.idx) := Later.cell (by simp)
    have m7 : ∀ l : Later (u.val.alloc (Obj.cells #[.int .i64 x.kind, .int .i64 x.a, .int .i64 x.b, .int .i64 x.c, .int .i64 x.n, .int .i64 x.m, .int .i64 x.idx, .int .i64 x.wid, .string x.name] 38)), l.val.cell? ⟨u.val.heap.size, 7, none⟩ = some (.int .i64 x.wid) := Later.cell (by simp)
    have m8 : ∀ l : Later (u.val.alloc (Obj.cells #[.int .i64 x.kind, .int .i64 x.a, .int .i64 x.b, .int .i64 x.c, .int .i64 x.n, .int .i64 x.m, .int .i64 x.idx, .int .i64 x.wid, .string x.name] 38)), l.val.cell? ⟨u.val.heap.size, 8, none⟩ = some (.string x.name) := Later.cell (by simp)
    have HW := Lib.hid (show Below u.val.heap.size u.val (u.val.alloc (Obj.cells #[.int .i64 x.kind, .int .i64 x.a, .int .i64 x.b, .int .i64 x.c, .int .i64 x.n, .int .i64 x.m, .int .i64 x.idx, .int .i64 x.wid, .string x.name] 38)) from (Below.refl _ _).alloc (Nat.le_refl _) _)
    generalize (u.val.alloc (Obj.cells #[.int .i64 x.kind, .int .i64 x.a, .int .i64 x.b, .int .i64 x.c, .int .i64 x.n, .int .i64 x.m, .int .i64 x.idx, .int .i64 x.wid, .string x.name] 38)) = W2 at *
    have hL2 : LaterC w1 W2 := u.step HW.out
    have HV2 := Lib.hid (HR.out.2.2.2.2.below HW.out)
    have hb2 := lift_cell hL2 hb0
    have HBW := Lib.hid (show Below w.heap.size w W2 from HB1.out.trans (hL2.below.mono HB1.out.size))
    have HW1 := Lib.hid hL2
    clear p0 p1 p2 p3 p4 p5 p6 p7 p8 hL2
    refine at_world (w := W2) ?_
    intro v2
    by_cases k36 : x.kind = 36
    · have hk36 : (x.kind == 36) = true := beq_iff_eq.2 k36
      have hk35 : (x.kind == 35) = false := beq_eq_false_iff_ne.2 (by omega)
      have HA6 := Lib.hid (HP6.out hk36)
      have HA5 := Lib.hid (HP5n.out hk35)
      have hfx := HFSX.out hk36
      rw [← HR.out.1] at hfx
      obtain ⟨hplt, hval⟩ := hfx
      have hsok : sokB x.idx x.wid = true := by
       rcases HKX.out with g | g | g | g | g | g | g | g | g | g | g
       · exact absurd g.1 (by omega)
       · exact g.2
       all_goals exact absurd g.1 (by omega)
      have hpos : 0 < (S.getD pa []).length := by rw [(part_val hval hsok).1]; exact Nat.two_pow_pos _
      obtain ⟨bs, os, sx, rfl, -, hcs, hsx, hle, hle2, htl⟩ := VlAt.tail HR.out.2.2.1 (show pa < S.length by rw [HQ.out]; exact hplt)
      have HNO := Lib.hid (hsx.notIn hpos (Nat.le_of_eq HSZ1.out) : NotIn (w.heap.size + 1) sx)
      have HSX := Lib.hid hsx
      obtain ⟨A3, c3, rfl, -⟩ := hsx
      have HTL := htl
      clear htl
      have HNW := Lib.hid (show nw = S.getD pa [] by rw [HST.out, if_neg (by omega), if_pos k36, HR.out.1])
      have hcs := lift_cell HW1.out (Later.cell hcs)
      obtain ⟨r, hr⟩ : ∃ r, r = q - pa := ⟨_, rfl⟩
      rw [← hr] at hle hle2 HTL ⊢
      have hlp0 : 0 < r := by omega
      have hlp : (1 : Int) ≤ (r : Int) := by omega
      have hlp2 : (0 : Int) < (r : Int) := by omega
      have hlp3 : r ≠ 0 := by omega
      have HRR := Lib.hid hr
      clear hr
      clear hval
      have HTL := Lib.hid HTL
      go_upto_region 9 with fail
      have HV3 := Lib.hid (HV2.out.below v2.prop)
      obtain ⟨z0, hz0⟩ := HV3.out.cell hlt
      have f0 := HV3.out.frozen k
      have hcs2 := hcs v2
      have HQL := Lib.hid (show q - (pa + 1) = r - 1 by rw [HRR.out]; omega)
      have HRC := Lib.hid hle
      go_region_law (fail)
      all_goals
       go_wp2
       go_roundw
       case rel =>
        refine ⟨k + 1, pa + 1, pb, cS - 1, cI, _, _, by omega, by go_num, by rw [HQL.out], rfl, Lib.hid ⟨by rw [HA6.out, HR.out.1] <;> simp, by rw [HA5.out, HR.out.2.1] <;> simp, by rw [HQL.out]; exact vl_if HTL.out HRC.out, HR.out.2.2.2.1, ?_⟩, ?_⟩
        · rw [HEV.out, HNW.out]
          have hbd : Below v2.val.heap.size v2.val _ := (by repeat (first | exact Below.refl _ _ | refine Below.drew ?_))
          exact HoldsV.put (HV3.out.below hbd) (evalN_length _ _ _ _) hlt (((HSX.out.below HW1.out.below).later v2).below hbd) HNO.out
        · first | refine LaterC.drew' (LaterC.setCell' ?_ _ _ ?_) | refine LaterC.setCell' ?_ _ _ ?_
          · refine LaterC.trans HW1.out (LaterC.trans ⟨v2, rfl⟩ ?_)
            repeat (first | exact LaterC.refl _ | refine LaterC.drew' ?_)
          · exact Nat.le_of_eq HSZ1.out
       case measure => simp [intOf] <;> omega
    · by_cases k35 : x.kind = 35
      · have hk36 : (x.kind == 36) = false := beq_eq_false_iff_ne.2 (by omega)
        have hk35 : (x.kind == 35) = true := beq_iff_eq.2 k35
        have HA6 := Lib.hid (HP6n.out hk36)
        have HA5 := Lib.hid (HP5.out hk35)
        have hfx := HFIX.out hk35
        rw [← HR.out.2.1] at hfx
        obtain ⟨hplt, hval⟩ := hfx
        have hsok : sokB x.idx x.wid = true := by
         rcases HKX.out with g | g | g | g | g | g | g | g | g | g | g
         · exact absurd g.1 (by omega)
         · exact g.2
         all_goals exact absurd g.1 (by omega)
        have hpos : 0 < (I.getD pb []).length := by rw [(part_val hval hsok).1]; exact Nat.two_pow_pos _
        obtain ⟨bs, os, sx, rfl, -, hcs, hsx, hle, hle2, htl⟩ := VlAt.tail HR.out.2.2.2.1 (show pb < I.length by rw [HT.out]; exact hplt)
        have HNO := Lib.hid (hsx.notIn hpos (Nat.le_of_eq HSZ1.out) : NotIn (w.heap.size + 1) sx)
        have HSX := Lib.hid hsx
        obtain ⟨A3, c3, rfl, -⟩ := hsx
        have HTL := htl
        clear htl
        have HNW := Lib.hid (show nw = I.getD pb [] by rw [HST.out, if_neg (by omega), if_neg k36, if_pos k35, HR.out.2.1])
        have hcs := lift_cell HW1.out (Later.cell hcs)
        obtain ⟨r, hr⟩ : ∃ r, r = t - pb := ⟨_, rfl⟩
        rw [← hr] at hle hle2 HTL ⊢
        have hlp0 : 0 < r := by omega
        have hlp : (1 : Int) ≤ (r : Int) := by omega
        have hlp2 : (0 : Int) < (r : Int) := by omega
        have hlp3 : r ≠ 0 := by omega
        have HRR := Lib.hid hr
        clear hr
        clear hval
        have HTL := Lib.hid HTL
        go_upto_region 11 with fail
        have HV3 := Lib.hid (HV2.out.below v2.prop)
        obtain ⟨z0, hz0⟩ := HV3.out.cell hlt
        have f0 := HV3.out.frozen k
        have hcs2 := hcs v2
        have HQL := Lib.hid (show t - (pb + 1) = r - 1 by rw [HRR.out]; omega)
        have HRC := Lib.hid hle
        go_region_law (fail)
        all_goals
         go_wp2
         go_roundw
         case rel =>
          refine ⟨k + 1, pa, pb + 1, cS, cI - 1, _, _, by omega, by go_num, rfl, by rw [HQL.out], Lib.hid ⟨by rw [HA6.out, HR.out.1] <;> simp, by rw [HA5.out, HR.out.2.1] <;> simp, HR.out.2.2.1, by rw [HQL.out]; exact vl_if HTL.out HRC.out, ?_⟩, ?_⟩
          · rw [HEV.out, HNW.out]
            have hbd : Below v2.val.heap.size v2.val _ := (by repeat (first | exact Below.refl _ _ | refine Below.drew ?_))
            exact HoldsV.put (HV3.out.below hbd) (evalN_length _ _ _ _) hlt (((HSX.out.below HW1.out.below).later v2).below hbd) HNO.out
          · first | refine LaterC.drew' (LaterC.setCell' ?_ _ _ ?_) | refine LaterC.setCell' ?_ _ _ ?_
            · refine LaterC.trans HW1.out (LaterC.trans ⟨v2, rfl⟩ ?_)
              repeat (first | exact LaterC.refl _ | refine LaterC.drew' ?_)
            · exact Nat.le_of_eq HSZ1.out
         case measure => simp [intOf] <;> omega
      · have hk36 : (x.kind == 36) = false := beq_eq_false_iff_ne.2 k36
        have hk35 : (x.kind == 35) = false := beq_eq_false_iff_ne.2 k35
        have HA6 := Lib.hid (HP6n.out hk36)
        have HA5 := Lib.hid (HP5n.out hk35)
        have HV3 := Lib.hid (HV2.out.below v2.prop)
        have HNW := Lib.hid (show nw = if x.kind = 34 then [x.n] else reckN M.nodes x (evalN M.nodes S I k) by rw [HST.out, if_neg k36, if_neg k35])
        have HSN2 := Lib.hid (show SlN enNd v2.val (.slice (some ⟨bn, on, none⟩) n c) M.nodes from (HSN.out.below HBW.out).later v2)
        have HCV := Lib.hid (value_calls (.slice (some ⟨bn, on, none⟩) n c) M.nodes x (evalN M.nodes S I k) k (w.heap.size + 1) n n w.heap.size v2.val (hb2 v2) HSN2.out HV3.out.at_ hn2 hk HV3.out.lt (evalN_length _ _ _ _) (by rw [HN.out]; exact hk) (by rw [HN.out]; omega) HKX.out ⟨k35, k36⟩ (fun p hp => HOK.out k hk p.toNat (by have h1 := hp.lo; have h2 := hp.hi; omega)))
        rw [← HNW.out] at HCV
        go_wp2_with (go_at_call 148; refine (HCV.out).mono ?_; rintro e w' ⟨s, rfl, hb, hs, hn⟩; have HVN := Lib.hid (HV3.out.below hb); have HD := Lib.hid (And.intro hb (And.intro hs hn)); obtain ⟨sA, sc, rfl, -⟩ := hs; obtain ⟨z0, hz0⟩ := HVN.out.cell hlt; have f0 := HVN.out.frozen k; clear hb hn)
        go_roundw
        case rel =>
         refine ⟨k + 1, pa, pb, cS, cI, _, _, by omega, by go_num, rfl, rfl, Lib.hid ⟨by rw [HA6.out, HR.out.1] <;> simp, by rw [HA5.out, HR.out.2.1] <;> simp, HR.out.2.2.1, HR.out.2.2.2.1, ?_⟩, ?_⟩
         · rw [HEV.out]
           exact HoldsV.put HVN.out (evalN_length _ _ _ _) hlt HD.out.2.1 HD.out.2.2
         · exact LaterC.setCell' (laterC_step (LaterC.trans HW1.out ⟨v2, rfl⟩) HD.out.1) _ _ (Nat.le_of_eq HSZ1.out)
        case measure => simp [intOf] <;> omega
  · obtain rfl : k = n := by omega
    clear hA
    go_wp2
    go_ret
    exact ⟨_, rfl, u.back HB1.out, HR.out.2.2.2.2.vlAt (evalN_length _ _ _ _) hn2⟩
abbrev evalL (M : Md) (S I : List (List Int)) : List (List Int) := evalN M.nodes S I M.nodes.length
noncomputable def bothK (M : Md) (S I : List (List Int)) : Bool := fitsK 36 M S && fitsK 35 M I
theorem codeN_parts {M : Md} (h : codeN M = 0) : bigB M = false ∧ nodesB M.nodes = true ∧ twiceB M = false ∧ bindsB M = true ∧ propsB M.nodes M.bads = true ∧ propsB M.nodes M.holds = true := by
 unfold codeN at h
 split at h
 · omega
 split at h
 · omega
 split at h
 · omega
 split at h
 · omega
 split at h
 · omega
 split at h
 · omega
 rename_i h1 h2 h3 h4 h5 h6
 exact ⟨by simpa using h1, by simpa using h2, by simpa using h3, by simpa using h4, by simpa using h5, by simpa using h6⟩
theorem fitsK_code {kind : Int} {M : Md} {L : List (List Int)} (h : fitsK kind M L = true) : codeN M = 0 ∧ fitsB M.nodes (placesN kind M.nodes M.nodes.length) L = true := by
 unfold fitsK at h
 split at h
 · exact ⟨‹_›, h⟩
 · cases h
theorem one_at {ns : List Nd} {L : List (List Int)} {xs : List Int} (hp : propsB ns xs = true) (hl : L.length = ns.length) (hv : ∀ j, j < ns.length → valB (ns.getD j Nd.zero) (L.getD j []) = true) : OneAt L xs := by
 intro i p hx
 unfold propsB at hp
 have h := List.all_eq_true.1 hp p (List.mem_of_getElem? hx)
 unfold propB w1B at h
 simp only [Bool.and_eq_true, beq_iff_eq] at h
 obtain ⟨h1, h2, h3⟩ := h
 have h1 := of_inB h1
 obtain ⟨q, rfl⟩ := Int.eq_ofNat_of_zero_le h1.1
 rw [Int.toNat_natCast] at h2 h3
 have hval := hv q (by omega)
 unfold valB at hval
 rw [h2, h3] at hval
 obtain ⟨v, e, hw⟩ := val_word hval (by decide)
 refine ⟨q, rfl, by omega, v, e, ?_⟩
 have h4 := hw.lo
 have h5 := hw.hi
 have : (2 : Int) ^ (1 : Int).toNat = 2 := by decide
 omega
theorem eval_one {M : Md} {S I : List (List Int)} (h : bothK M S I = true) : codeN M = 0 ∧ nodesB M.nodes = true ∧ fitsB M.nodes (placesN 36 M.nodes M.nodes.length) S = true ∧ fitsB M.nodes (placesN 35 M.nodes M.nodes.length) I = true ∧ OneAt (evalL M S I) M.holds ∧ OneAt (evalL M S I) M.bads := by
 unfold bothK at h
 rw [Bool.and_eq_true] at h
 obtain ⟨h1, h2⟩ := fitsK_code h.1
 obtain ⟨-, h3⟩ := fitsK_code h.2
 obtain ⟨-, g1, -, -, g2, g3⟩ := codeN_parts h1
 have hok := evalN_ok g1 h2 h3 M.nodes.length (Nat.le_refl _)
 exact ⟨h1, g1, h2, h3, one_at g3 (evalN_length _ _ _ _) hok, one_at g2 (evalN_length _ _ _ _) hok⟩
theorem take_getD {α : Type} {L : List α} {k : Nat} (z : α) (h : k < L.length) : L.take (k + 1) = L.take k ++ [L.getD k z] := by
 rw [List.take_add_one, getD_at h z]; rfl
theorem RowVs.nil (lo : Nat) (w : World) : RowVs lo w (.slice none 0 0) [] [] := ⟨by simp, rfl, .inl ⟨rfl, rfl⟩, fun i sv xs hi => by simp at hi, fun i j si sj b hi => by simp at hi⟩
theorem sok_mk {i a : Int} (h : 0 ≤ i ∧ i ≤ 2 ∧ 1 ≤ a ∧ a ≤ 16) : sokB i a = true := by
 unfold sokB widB
 rw [inB_yes ⟨h.1, h.2.1⟩, inB_yes ⟨h.2.2.1, h.2.2.2⟩]
 rfl
theorem kinds_sok {ns : List Nd} {i : Nat} {x : Nd} (h : Kinds ns i x) : sokB x.idx x.wid = true := by
 rcases h with ⟨k, h1, h2⟩ | ⟨k, h1⟩ | ⟨k, ha, hb, hc, h1, h2, h3, h4, h5, h6⟩ | ⟨k, ha, hb, h1, h2, h3, h4, h5⟩ | ⟨k, ha, hb, hc, h1, h2, h3, h4, h5, h6, h7⟩ | ⟨k, ha, hb, h1, h2, h3, h4⟩ | ⟨k, ha, hb, h1, h2, h3, h4, h5⟩ | ⟨k, ha, h1, h2, h3, h4, h5, h6⟩ | ⟨k, ha, h1, h2, h3, h4, h5⟩ | ⟨k, ha, h1, h2, h3⟩ | ⟨k, ha, hb, h1, h2, h3, h4, h5⟩
 · have := wokB_yes h2
   exact sok_mk (by omega)
 · exact h1
 · have := sok_word hb.sok
   exact sok_mk (by omega)
 · have := sok_word ha.sok
   exact sok_mk (by omega)
 · have := sok_word ha.sok
   exact sok_mk (by omega)
 · exact sok_mk (by omega)
 · have := sok_word ha.sok
   have := sok_word hb.sok
   exact sok_mk (by omega)
 · have := sok_word ha.sok
   exact sok_mk (by omega)
 · have := sok_word ha.sok
   exact sok_mk (by omega)
 · have := sok_word ha.sok
   unfold one2 at h3
   split at h3 <;> exact sok_mk (by omega)
 · have := sok_word ha.sok
   unfold two2 at h5
   split at h5 <;> exact sok_mk (by omega)
theorem node_sok {ns : List Nd} {i : Nat} (h : nodesB ns = true) (hi : i < ns.length) : sokB (ns.getD i Nd.zero).idx (ns.getD i Nd.zero).wid = true := kinds_sok (node_kinds h hi)
theorem val_one {i a : Int} {xs : List Int} (h : valN i a xs = true) (hs : sokB i a = true) : 0 < xs.length ∧ xs.length ≤ 4 := by
 have h1 := (val_parts h).1
 have h2 := cells_bits i a
 have h3 : 0 < cellsN i a := by
  unfold cellsN
  rw [if_pos hs]
  exact pow_pos_i i
 omega
theorem code_bits {M : Md} (h : codeN M = 0) : allN 36 M.nodes ≤ 8 ∧ allN 35 M.nodes ≤ 5 := by
 unfold codeN at h
 by_cases h1 : 8 < allN 36 M.nodes
 · simp [h1] at h
   repeat' split at h
   all_goals omega
 · by_cases h2 : 5 < allN 35 M.nodes
   · simp [h1, h2] at h
     repeat' split at h
     all_goals omega
   · omega
theorem code_bits8 {kind : Int} {M : Md} (hk : kind = 36 ∨ kind = 35) (h : codeN M = 0) : allN kind M.nodes ≤ 8 := by
 have := code_bits h
 rcases hk with rfl | rfl <;> omega
noncomputable def ofB (kind : Int) (M : Md) (code : Int) : Bool := decide (codeN M = 0) && inB code 0 (2 ^ (allN kind M.nodes).toNat - 1)
noncomputable def ofL (kind : Int) (M : Md) (code : Int) : List (List Int) := if ofB kind M code = true then unpackN M.nodes (placesN kind M.nodes M.nodes.length) code (placesN kind M.nodes M.nodes.length).length else []
def GivesRows2 (P : Program) (f : FuncId) (args : Array Value) (w : World) (L : List (List Int)) (ok : Bool) : Prop :=
 Calls P f args w fun e w' => ∃ v svs, e = .returned (.tuple #[v, .bool ok]) ∧ Below w.heap.size w w' ∧ RowVs w.heap.size w' v svs L
theorem l1In_makes (n lo hi : Int) (w : World) : Makes Tryz.prog 123 #[.int .i64 n, .int .i64 lo, .int .i64 hi] w (.bool (inB n lo hi)) := l1In_calls n lo hi w
theorem StateOf_calls (mv : Value) (M : Md) (code : Int) (w : World) (hM : MdAt w mv M) (hsz : M.nodes.length ≤ 1048576) (hnm : ∀ x, x ∈ M.nodes → x.name.size ≤ 140737488351232) :
 GivesRows2 Tryz.prog 56 #[mv, .int .i64 code] w (ofL 36 M code) (ofB 36 M code) := by
 have HM := Lib.hid hM
 have HNM := Lib.hid hnm
 have HSZ := Lib.hid hsz
 have HIN := Lib.hid (placesN_InN 36 M.nodes)
 have HPL := Lib.hid (show (placesN 36 M.nodes M.nodes.length).length ≤ 1048576 from Nat.le_trans (placesN_le _ _ _) hsz)
 obtain ⟨s0, s1, s2, s3, s4, rfl, -⟩ := hM.at_
 clear hM hnm hsz
 unfold GivesRows2
 generalize hR : ofL 36 M code = L
 generalize hB : ofB 36 M code = ok
 go_enter Tryz.func56, Tryz.ntmps56
 go_upto_region 1 with fail
 obtain ⟨w1, hw1, HB, m0, m1, m2, m3, m4⟩ := model_box 27 s0 s1 s2 s3 s4 w
 rw [hw1]
 clear hw1
 have HM1 := Lib.hid (HM.out.below HB.out)
 refine at_world (w := w1) ?_
 intro u0
 by_cases hc : codeN M = 0
 · have HC := Lib.hid hc
   have hab := allN_bd 36 M.nodes
   have ha8 := code_bits8 (kind := 36) (Or.inl rfl) hc
   have H8 := Lib.hid (show bitsTo M.nodes (placesN 36 M.nodes M.nodes.length) (placesN 36 M.nodes M.nodes.length).length ≤ 8 by rw [bits_all]; exact ha8)
   have ha0 := hab.1
   clear hab hc
   have HI := Lib.hid (show inB code 0 (2 ^ (allN 36 M.nodes).toNat - 1) = ok by rw [← hB]; unfold ofB; rw [HC.out]; rfl)
   generalize ha : allN 36 M.nodes = a at *
   have HA := Lib.hid ha
   clear ha
   have hp1 := pow_pos_i a
   have hp2 : (2 : Int) ^ a.toNat ≤ 256 := pow_le_i ha0 ha8
   by_cases hi : ok = true
   · subst hi
     have hi2 := of_inB HI.out
     have HL := Lib.hid (show unpackN M.nodes (placesN 36 M.nodes M.nodes.length) code (placesN 36 M.nodes M.nodes.length).length = L by rw [← hR]; unfold ofL; rw [if_pos hB])
     clear hR hB
     go_upto_region 3 with (first | (go_at_call 84; refine (Calls.later_eq (u := u0) (ModelCode_calls _ M _ (HM1.out.later u0) HNM.out) (congrArg (Value.int .i64) HC.out)).mono ?_; rintro e w' ⟨rfl, u1, rfl⟩) | (go_at_call 135; refine (Calls.later_eq (u := u1) (l2All_calls _ M 36 _ (HM1.out.later u1)) (congrArg (Value.int .i64) HA.out)).mono ?_; rintro e w' ⟨rfl, u2, rfl⟩) | (go_at_call 123; refine (Calls.later_eq (u := u2) (l1In_calls code 0 (2 ^ a.toNat - 1) _) (congrArg Value.bool HI.out)).mono ?_; rintro e w' ⟨rfl, u3, rfl⟩))
     go_region_held3 (fun w' => w'.cell? ⟨w.heap.size, 0, none⟩ = some s0 ∧ w'.cell? ⟨w.heap.size, 1, none⟩ = some s1 ∧ w'.cell? ⟨w.heap.size, 2, none⟩ = some s2 ∧ w'.cell? ⟨w.heap.size, 3, none⟩ = some s3 ∧ w'.cell? ⟨w.heap.size, 4, none⟩ = some s4) (exact ⟨lf m0, lf m1, lf m2, lf m3, lf m4⟩) (first | (go_at_call 116; refine (l2Places_calls _ M 36 _ (HM1.out.below lcb) HSZ.out).mono ?_; rintro e w' ⟨pv, rfl, hb, hown⟩; have HOWN := Lib.hid (places_slN hown HSZ.out); obtain ⟨v2, hv2⟩ := laterC_step (w1 := w1) lcx hb; subst hv2; clear hb hown) | (go_at_call 136; refine (l5Unpack_calls _ pv M _ code _ (HM1.out.below lcb) (HOWN.out.below bdx) HIN.out HPL.out H8.out hi2.1 (by omega)).mono ?_; rw [HL.out]; rintro e w' ⟨v, svs, rfl, hb, hr⟩; have HRV := Lib.hid (show RowVs w1.heap.size w' v svs L from (hr.mono (LaterC.size lcx)).rowVs (by rw [← HL.out, unpackN_length]; have := HPL.out; omega)); obtain ⟨v3, hv3⟩ := laterC_step (w1 := w1) lcx hb; subst hv3; clear hb hr))
     go_wp2
     go_ret2
     exact ⟨v, svs, rfl, v3.back HB.out, HRV.out.mono HB.out.size⟩
   · have hi := eq_false_of_ne_true hi
     subst hi
     have HL := Lib.hid (show L = [] by rw [← hR]; unfold ofL; rw [if_neg (by rw [hB]; decide)])
     clear hR hB
     go_wp2_with (first | (go_at_call 84; refine (Calls.later_eq (u := u0) (ModelCode_calls _ M _ (HM1.out.later u0) HNM.out) (congrArg (Value.int .i64) HC.out)).mono ?_; rintro e w' ⟨rfl, u1, rfl⟩) | (go_at_call 135; refine (Calls.later_eq (u := u1) (l2All_calls _ M 36 _ (HM1.out.later u1)) (congrArg (Value.int .i64) HA.out)).mono ?_; rintro e w' ⟨rfl, u2, rfl⟩) | (go_at_call 123; refine (Calls.later_eq (u := u2) (l1In_calls code 0 (2 ^ a.toNat - 1) _) (congrArg Value.bool HI.out)).mono ?_; rintro e w' ⟨rfl, u3, rfl⟩))
     go_ret2
     exact ⟨_, [], rfl, u3.back HB.out, by rw [HL.out]; exact RowVs.nil _ _⟩
 · have hLO : L = [] ∧ ok = false := (by
    have h : ofB 36 M code = false := by unfold ofB; rw [show decide (codeN M = 0) = false from decide_eq_false hc]; rfl
    exact ⟨by rw [← hR]; unfold ofL; rw [if_neg (by rw [h]; decide)], by rw [← hB, h]⟩)
   obtain ⟨hL1, hok⟩ := hLO
   subst hok
   have HL := Lib.hid hL1
   clear hL1
   obtain ⟨cm, hcm⟩ : ∃ cm, cm = codeN M := ⟨_, rfl⟩
   have HC := Lib.hid hcm.symm
   have hne : (cm != 0) = true := by rw [hcm]; simpa using hc
   clear hcm hc hR hB
   go_wp2_with (go_at_call 84; refine (Calls.later_eq (u := u0) (ModelCode_calls _ M _ (HM1.out.later u0) HNM.out) (congrArg (Value.int .i64) HC.out)).mono ?_; rintro e w' ⟨rfl, u1, rfl⟩)
   go_ret2
   exact ⟨_, [], rfl, u1.back HB.out, by rw [HL.out]; exact RowVs.nil _ _⟩
theorem InputOf_calls (mv : Value) (M : Md) (code : Int) (w : World) (hM : MdAt w mv M) (hsz : M.nodes.length ≤ 1048576) (hnm : ∀ x, x ∈ M.nodes → x.name.size ≤ 140737488351232) :
 GivesRows2 Tryz.prog 69 #[mv, .int .i64 code] w (ofL 35 M code) (ofB 35 M code) := by
 have HM := Lib.hid hM
 have HNM := Lib.hid hnm
 have HSZ := Lib.hid hsz
 have HIN := Lib.hid (placesN_InN 35 M.nodes)
 have HPL := Lib.hid (show (placesN 35 M.nodes M.nodes.length).length ≤ 1048576 from Nat.le_trans (placesN_le _ _ _) hsz)
 obtain ⟨s0, s1, s2, s3, s4, rfl, -⟩ := hM.at_
 clear hM hnm hsz
 unfold GivesRows2
 generalize hR : ofL 35 M code = L
 generalize hB : ofB 35 M code = ok
 go_enter Tryz.func69, Tryz.ntmps69
 go_upto_region 1 with fail
 obtain ⟨w1, hw1, HB, m0, m1, m2, m3, m4⟩ := model_box 27 s0 s1 s2 s3 s4 w
 rw [hw1]
 clear hw1
 have HM1 := Lib.hid (HM.out.below HB.out)
 refine at_world (w := w1) ?_
 intro u0
 by_cases hc : codeN M = 0
 · have HC := Lib.hid hc
   have hab := allN_bd 35 M.nodes
   have ha8 := code_bits8 (kind := 35) (Or.inr rfl) hc
   have H8 := Lib.hid (show bitsTo M.nodes (placesN 35 M.nodes M.nodes.length) (placesN 35 M.nodes M.nodes.length).length ≤ 8 by rw [bits_all]; exact ha8)
   have ha0 := hab.1
   clear hab hc
   have HI := Lib.hid (show inB code 0 (2 ^ (allN 35 M.nodes).toNat - 1) = ok by rw [← hB]; unfold ofB; rw [HC.out]; rfl)
   generalize ha : allN 35 M.nodes = a at *
   have HA := Lib.hid ha
   clear ha
   have hp1 := pow_pos_i a
   have hp2 : (2 : Int) ^ a.toNat ≤ 256 := pow_le_i ha0 ha8
   by_cases hi : ok = true
   · subst hi
     have hi2 := of_inB HI.out
     have HL := Lib.hid (show unpackN M.nodes (placesN 35 M.nodes M.nodes.length) code (placesN 35 M.nodes M.nodes.length).length = L by rw [← hR]; unfold ofL; rw [if_pos hB])
     clear hR hB
     go_upto_region 3 with (first | (go_at_call 84; refine (Calls.later_eq (u := u0) (ModelCode_calls _ M _ (HM1.out.later u0) HNM.out) (congrArg (Value.int .i64) HC.out)).mono ?_; rintro e w' ⟨rfl, u1, rfl⟩) | (go_at_call 135; refine (Calls.later_eq (u := u1) (l2All_calls _ M 35 _ (HM1.out.later u1)) (congrArg (Value.int .i64) HA.out)).mono ?_; rintro e w' ⟨rfl, u2, rfl⟩) | (go_at_call 123; refine (Calls.later_eq (u := u2) (l1In_calls code 0 (2 ^ a.toNat - 1) _) (congrArg Value.bool HI.out)).mono ?_; rintro e w' ⟨rfl, u3, rfl⟩))
     go_region_held3 (fun w' => w'.cell? ⟨w.heap.size, 0, none⟩ = some s0 ∧ w'.cell? ⟨w.heap.size, 1, none⟩ = some s1 ∧ w'.cell? ⟨w.heap.size, 2, none⟩ = some s2 ∧ w'.cell? ⟨w.heap.size, 3, none⟩ = some s3 ∧ w'.cell? ⟨w.heap.size, 4, none⟩ = some s4) (exact ⟨lf m0, lf m1, lf m2, lf m3, lf m4⟩) (first | (go_at_call 116; refine (l2Places_calls _ M 35 _ (HM1.out.below lcb) HSZ.out).mono ?_; rintro e w' ⟨pv, rfl, hb, hown⟩; have HOWN := Lib.hid (places_slN hown HSZ.out); obtain ⟨v2, hv2⟩ := laterC_step (w1 := w1) lcx hb; subst hv2; clear hb hown) | (go_at_call 136; refine (l5Unpack_calls _ pv M _ code _ (HM1.out.below lcb) (HOWN.out.below bdx) HIN.out HPL.out H8.out hi2.1 (by omega)).mono ?_; rw [HL.out]; rintro e w' ⟨v, svs, rfl, hb, hr⟩; have HRV := Lib.hid (show RowVs w1.heap.size w' v svs L from (hr.mono (LaterC.size lcx)).rowVs (by rw [← HL.out, unpackN_length]; have := HPL.out; omega)); obtain ⟨v3, hv3⟩ := laterC_step (w1 := w1) lcx hb; subst hv3; clear hb hr))
     go_wp2
     go_ret2
     exact ⟨v, svs, rfl, v3.back HB.out, HRV.out.mono HB.out.size⟩
   · have hi := eq_false_of_ne_true hi
     subst hi
     have HL := Lib.hid (show L = [] by rw [← hR]; unfold ofL; rw [if_neg (by rw [hB]; decide)])
     clear hR hB
     go_wp2_with (first | (go_at_call 84; refine (Calls.later_eq (u := u0) (ModelCode_calls _ M _ (HM1.out.later u0) HNM.out) (congrArg (Value.int .i64) HC.out)).mono ?_; rintro e w' ⟨rfl, u1, rfl⟩) | (go_at_call 135; refine (Calls.later_eq (u := u1) (l2All_calls _ M 35 _ (HM1.out.later u1)) (congrArg (Value.int .i64) HA.out)).mono ?_; rintro e w' ⟨rfl, u2, rfl⟩) | (go_at_call 123; refine (Calls.later_eq (u := u2) (l1In_calls code 0 (2 ^ a.toNat - 1) _) (congrArg Value.bool HI.out)).mono ?_; rintro e w' ⟨rfl, u3, rfl⟩))
     go_ret2
     exact ⟨_, [], rfl, u3.back HB.out, by rw [HL.out]; exact RowVs.nil _ _⟩
 · have hLO : L = [] ∧ ok = false := (by
    have h : ofB 35 M code = false := by unfold ofB; rw [show decide (codeN M = 0) = false from decide_eq_false hc]; rfl
    exact ⟨by rw [← hR]; unfold ofL; rw [if_neg (by rw [h]; decide)], by rw [← hB, h]⟩)
   obtain ⟨hL1, hok⟩ := hLO
   subst hok
   have HL := Lib.hid hL1
   clear hL1
   obtain ⟨cm, hcm⟩ : ∃ cm, cm = codeN M := ⟨_, rfl⟩
   have HC := Lib.hid hcm.symm
   have hne : (cm != 0) = true := by rw [hcm]; simpa using hc
   clear hcm hc hR hB
   go_wp2_with (go_at_call 84; refine (Calls.later_eq (u := u0) (ModelCode_calls _ M _ (HM1.out.later u0) HNM.out) (congrArg (Value.int .i64) HC.out)).mono ?_; rintro e w' ⟨rfl, u1, rfl⟩)
   go_ret2
   exact ⟨_, [], rfl, u1.back HB.out, by rw [HL.out]; exact RowVs.nil _ _⟩
def wideN (c : Nat) (xs : List Int) : List Int := xs ++ List.replicate (c - xs.length) (xs.getD 0 0)
def bdN (st : Int) : List Bd → Int
 | [] => -1
 | b :: l => if b.st = st then b.nd else bdN st l
theorem bd_at {st : Int} : ∀ {xs : List Bd} {k : Nat}, k < xs.length → (∀ j, j < k → (xs.getD j Bd.zero).st ≠ st) → (xs.getD k Bd.zero).st = st → bdN st xs = (xs.getD k Bd.zero).nd
 | x :: l, 0, _, _, h => by
   simp at h ⊢
   rw [bdN, if_pos h]
 | x :: l, k + 1, hk, hj, h => by
   have h0 := hj 0 (by omega)
   simp at h0
   rw [bdN, if_neg h0]
   simpa using bd_at (xs := l) (k := k) (by simpa using hk) (fun j hjk => by simpa using hj (j + 1) (by omega)) (by simpa using h)
theorem bd_none {st : Int} : ∀ {xs : List Bd}, (∀ j, j < xs.length → (xs.getD j Bd.zero).st ≠ st) → bdN st xs = -1
 | [], _ => rfl
 | x :: l, h => by
   have h0 := h 0 (by simp)
   simp at h0
   rw [bdN, if_neg h0]
   exact bd_none fun j hj => by simpa using h (j + 1) (by simpa using hj)
theorem bd_cases (st : Int) : ∀ xs : List Bd, bdN st xs = -1 ∨ ∃ b, b ∈ xs ∧ b.st = st ∧ bdN st xs = b.nd
 | [] => .inl rfl
 | x :: l => by
   by_cases h : x.st = st
   · exact .inr ⟨x, by simp, h, by rw [bdN, if_pos h]⟩
   · rw [bdN, if_neg h]
     rcases bd_cases st l with h1 | ⟨b, h1, h2, h3⟩
     · exact .inl h1
     · exact .inr ⟨b, by simp [h1], h2, h3⟩
theorem again_none {xs : List Bd} (h : againB xs = false) {i j : Nat} (hi : i < xs.length) (hj : j < i) : (xs.getD i Bd.zero).st ≠ (xs.getD j Bd.zero).st := by
 intro e
 rw [again_yes hi hj e] at h
 cases h
theorem bd_of {xs : List Bd} (h : againB xs = false) {b : Bd} (hb : b ∈ xs) : bdN b.st xs = b.nd := by
 obtain ⟨k, hk⟩ := List.getElem?_of_mem hb
 have hlt := (List.getElem?_eq_some_iff.1 hk).1
 have hg : xs.getD k Bd.zero = b := by
  have := getD_at hlt Bd.zero
  rw [hk] at this
  exact (Option.some.inj this).symm
 have := bd_at (st := b.st) hlt (fun j hj e => again_none h hlt hj (by rw [hg, e])) (by rw [hg])
 rw [this, hg]
abbrev cellN (ns : List Nd) (p : Int) : Nat := (cellsN (pN ns p).idx (pN ns p).wid).toNat
abbrev plK (M : Md) : List Int := placesN 36 M.nodes M.nodes.length
def bindOk (ns : List Nd) (V : List (List Int)) (ps : List Int) (T : List (List Int)) (b : Bd) : Bool := decide (wideN (cellN ns b.st) (vN V b.nd) = T.getD (firstN (fun y => y == b.st) ps).toNat [])
theorem bound_parts {ns : List Nd} {b : Bd} (h : boundB ns b = true) : (0 ≤ b.st ∧ b.st < ns.length) ∧ (0 ≤ b.nd ∧ b.nd < ns.length) ∧ ((pN ns b.st).kind == 36) = true ∧ (pN ns b.st).idx = (pN ns b.nd).idx ∧ (pN ns b.st).wid = (pN ns b.nd).wid := by
 unfold boundB at h
 simp only [Bool.and_eq_true, beq_iff_eq] at h
 obtain ⟨h1, h2, h3, h4, h5⟩ := h
 have h1 := of_inB h1
 have h2 := of_inB h2
 exact ⟨by omega, by omega, by simpa using h3, h4, h5⟩
theorem placesN_mem {kind : Int} {l : List Nd} : ∀ {k j : Nat}, j < k → ((l.getD j Nd.zero).kind == kind) = true → (j : Int) ∈ placesN kind l k
 | k + 1, j, hj, h => by
   by_cases e : j = k
   · subst e
     rw [placesN_yes h]
     simp
   · have := placesN_mem (k := k) (show j < k by omega) h
     rw [placesN]
     exact List.mem_append_left _ this
theorem st_mem {ns : List Nd} {b : Bd} (h : (0 ≤ b.st ∧ b.st < ns.length) ∧ ((pN ns b.st).kind == 36) = true) : b.st ∈ placesN 36 ns ns.length := by
 obtain ⟨⟨h1, h2⟩, h3⟩ := h
 obtain ⟨p, hp⟩ := Int.eq_ofNat_of_zero_le h1
 rw [hp] at h2 h3 ⊢
 unfold pN at h3
 rw [Int.toNat_natCast] at h3
 exact placesN_mem (by omega) h3
theorem twice_parts {M : Md} (h : twiceB M = false) : againB M.inits = false ∧ againB M.nexts = false := by
 unfold twiceB at h
 simp only [Bool.or_eq_false_iff] at h
 exact h.2
theorem binds_parts {M : Md} (h : bindsB M = true) : (∀ b, b ∈ M.inits → initB M.nodes b = true) ∧ ∀ b, b ∈ M.nexts → boundB M.nodes b = true := by
 unfold bindsB at h
 rw [Bool.and_eq_true, List.all_eq_true, List.all_eq_true] at h
 exact h
theorem zerosN_getD (ns : List Nd) (ps : List Int) : ∀ {i k : Nat}, k < i → (zerosN ns ps i).getD k [] = List.replicate (cellsN (ndAt ns ps k).idx (ndAt ns ps k).wid).toNat 0
 | i + 1, k, hk => by
   rw [zerosN]
   by_cases e : k = i
   · subst e
     have h := getD_last (A := zerosN ns ps k) (a := List.replicate (cellsN (ndAt ns ps k).idx (ndAt ns ps k).wid).toNat 0) []
     rw [zerosN_length] at h
     exact h
   · rw [getD_left _ (by rw [zerosN_length]; omega)]
     exact zerosN_getD ns ps (by omega)
def TrAt (w : World) (v : Value) (Ss Is : List Int) : Prop := ∃ t0 t1, v = .agg #[t0, t1] ∧ SlN enI w t0 Ss ∧ SlN enI w t1 Is
theorem TrAt.below {w w' : World} {v : Value} {Ss Is : List Int} (h : TrAt w v Ss Is) (hb : Below w.heap.size w w') : TrAt w' v Ss Is := by
 obtain ⟨t0, t1, hv, h1, h2⟩ := h
 exact ⟨t0, t1, hv, h1.below hb, h2.below hb⟩
theorem TrAt.later {w : World} {v : Value} {Ss Is : List Int} (h : TrAt w v Ss Is) (u : Later w) : TrAt u.val v Ss Is := h.below u.prop
abbrev stK (kind : Int) (M : Md) (c : Int) : List (List Int) := unpackN M.nodes (placesN kind M.nodes M.nodes.length) c (placesN kind M.nodes M.nodes.length).length
theorem ofB_range {kind : Int} (hk : kind = 36 ∨ kind = 35) {M : Md} {c : Int} (h : ofB kind M c = true) : 0 ≤ c ∧ c ≤ 65535 := by
 unfold ofB at h
 rw [Bool.and_eq_true] at h
 have hc : codeN M = 0 := by simpa using h.1
 have h1 := of_inB h.2
 have h2 := allN_bd kind M.nodes
 have h3 := pow_le_i h2.1 (code_bits8 hk hc)
 omega
theorem bits8_of {kind : Int} (hk : kind = 36 ∨ kind = 35) {M : Md} (h : codeN M = 0) : bitsTo M.nodes (placesN kind M.nodes M.nodes.length) (placesN kind M.nodes M.nodes.length).length ≤ 8 := by
 rw [bits_all]
 exact code_bits8 hk h
theorem unpack_fits (ns : List Nd) (ps : List Int) (code : Int) : fitsB ns ps (unpackN ns ps code ps.length) = true := by
 refine fits_yes (unpackN_length _ _ _ _) fun k hk => ?_
 rw [unpackN_length] at hk
 have hg : (unpackN ns ps code ps.length).getD k [] = rowU ns ps code k := by
  unfold unpackN
  rw [List.getD_eq_getElem?_getD, List.getElem?_map, List.getElem?_range hk]
  rfl
 rw [hg]
 unfold valB
 have hnd : ns.getD (ps.getD k 0).toNat Nd.zero = ndAt ns ps k := rfl
 rw [hnd]
 have hcb := cells_bits (ndAt ns ps k).idx (ndAt ns ps k).wid
 refine val_yes (by rw [rowU_length]; omega) fun j hj => ?_
 rw [rowU_length] at hj
 have hs := hcb.2.1 (by omega)
 rw [rowU_get (by omega)]
 unfold sokB at hs
 rw [Bool.and_eq_true] at hs
 unfold wokB
 rw [hs.2, Bool.true_and]
 have hp := pow_pos_i (ndAt ns ps k).wid
 exact inB_yes ⟨Int.emod_nonneg _ (by omega), by have := Int.emod_lt_of_pos (code / 2 ^ (bitsTo ns ps k + j * (ndAt ns ps k).wid).toNat) (show (0 : Int) < 2 ^ (ndAt ns ps k).wid.toNat by omega); omega⟩
theorem stK_fits {kind : Int} {M : Md} (h : codeN M = 0) (c : Int) : fitsK kind M (stK kind M c) = true := by
 unfold fitsK
 rw [if_pos h]
 exact unpack_fits _ _ _
theorem both_of {M : Md} (h : codeN M = 0) (a b : Int) : bothK M (stK 36 M a) (stK 35 M b) = true := by
 unfold bothK
 rw [stK_fits h, stK_fits h]
 rfl
end Go.Proofs.YtbenebcphaiohaaGreat
namespace Go.Proofs.YtbenebcphaiohaaGreat
open Go.Joins Go.ChangeShapes Go.WideShapes Go.ChangeAt Go.RowKit Go.Deep
section
variable {H : Type} {enc : TypeId × Value → H} {w : World}
theorem is_open {r : _root_.Go.Reach} {b0 : Nat} {v : Value} {d : DataW H} {p : List MemPlace} (hv : Value.okWide Tryz.prog w r b0 25 v) (h : DataW.Trod enc Tryz.prog w 0 (fun _ => true) true 25 v d p) (hw : ∀ n ∈ d.weights Tryz.prog 25, n ≤ reachBytes) : ∃ L, SlN enI w v L := by
 obtain ⟨a, len, cap, rfl⟩ := okWide_slice Tryz.underlying25 hv
 obtain ⟨fuel, hf⟩ := h
 obtain ⟨zs, hz, -⟩ := slAt_of enI (fun _ => True) Tryz.underlying25 cells_int (by decide +kernel) (by decide) (fun _ _ _ _ h _ => int_el h) hf hw
 exact ⟨zs, hz.slN⟩
end
end Go.Proofs.YtbenebcphaiohaaGreat
namespace Go.Proofs.YtbenebcphaiohaaGreat
open Go.RowKit
theorem l4Bound_calls (sv : Value) (xs : List Bd) (st : Int) (w : World) (hS : SlAt enBd w sv xs) :
 Makes Tryz.prog 117 #[sv, .int .i64 st] w (.int .i64 (bdN st xs)) := by
 obtain ⟨A, c, rfl, hnc, hc', hA⟩ := hS
 have HAT := Lib.hid (show ∀ k, k < xs.length → (∀ j, j < k → (xs.getD j Bd.zero).st ≠ st) → (xs.getD k Bd.zero).st = st → bdN st xs = (xs.getD k Bd.zero).nd from fun k => bd_at)
 have HNO := Lib.hid (show (∀ j, j < xs.length → (xs.getD j Bd.zero).st ≠ st) → bdN st xs = -1 from bd_none)
 generalize bdN st xs = R at *
 generalize hN : xs.length = n at *
 have HN := Lib.hid hN
 clear hN
 have hn : n ≤ 281474976710656 := Nat.le_trans hnc hc'
 clear hc' hnc
 go_enter Tryz.func117, Tryz.ntmps117
 go_wp2
 go_loopw [5] (fun i wr => ∃ k : Nat, k ≤ n ∧ i = .int .i64 k ∧ Hid (∀ j, j < k → (xs.getD j Bd.zero).st ≠ st) ∧ LaterC w wr) (fun i _ => n - (intOf i).toNat)
 case atStart => exact ⟨0, Nat.zero_le _, rfl, Lib.hid (fun j hj => absurd hj (Nat.not_lt_zero _)), LaterC.refl w⟩
 case round =>
  obtain ⟨k, hk, rfl, hto, ⟨u, rfl⟩⟩ := hrel
  by_cases hlt : k < n
  · have hlt' : (k : Int) < n := by omega
    have hget := getD_at (show k < xs.length by rw [HN.out]; exact hlt) Bd.zero
    obtain ⟨b, o, rfl, hx⟩ := hA k _ hget
    have p0 : ∀ l : Later w, l.val.cell? ⟨b, o + k * 2, none⟩ = some (.int .i64 (xs.getD k Bd.zero).st) := hx.at_ (Below.refl _ _) 0 _ rfl
    have p1 : ∀ l : Later w, l.val.cell? ⟨b, o + k * 2 + 1, none⟩ = some (.int .i64 (xs.getD k Bd.zero).nd) := hx.at_ (Below.refl _ _) 1 _ rfl
    generalize hxe : (xs.getD k Bd.zero).st = x at p0
    generalize hye : (xs.getD k Bd.zero).nd = y at p1
    have HX := Lib.hid hxe
    by_cases heq : x = st
    · have HR := Lib.hid ((HAT.out k hlt hto.out (hxe.trans heq)).trans hye)
      clear hx hget hxe hye hA hto
      subst heq
      go_wp2
      go_ret
      exact ⟨ret_eq (congrArg (Value.int .i64) HR.out.symm), u.prop⟩
    · have HTO := Lib.hid (show ∀ j, j < k + 1 → (xs.getD j Bd.zero).st ≠ st from fun j hj => by
       rcases Nat.lt_or_ge j k with g | g
       · exact hto.out j g
       · obtain rfl : j = k := by omega
         rw [HX.out]; exact heq)
      have hne : (x == st) = false := by simpa using heq
      clear hx hget hxe hye hA hto
      go_wp2
      go_roundw
      case rel => exact ⟨k + 1, by omega, by go_num, HTO, ⟨u, rfl⟩⟩
      case measure => simp [intOf] <;> omega
  · obtain rfl : k = n := by omega
    have HR := Lib.hid (HNO.out hto.out)
    clear hA hto
    go_wp2
    go_ret
    exact ⟨ret_eq (congrArg (Value.int .i64) HR.out.symm), u.prop⟩
def WideAt (w2 wr : World) (G : Nat) (cv : Value) (ys : List Int) : Prop :=
 OwnB wr G 40 #[cv] ∧ AccI w2.heap.size wr cv ys ∧ LaterC w2 wr ∧ ∀ b, cv.ownBlock = some b → b ≠ G ∧ w2.heap.size ≤ b
theorem WideAt.below {w2 wr w' : World} {G : Nat} {cv : Value} {ys : List Int} (h : WideAt w2 wr G cv ys) (hb : Below wr.heap.size wr w') : WideAt w2 w' G cv ys :=
 ⟨h.1.below hb h.1.lt, ownsRow_below h.2.1 hb, laterC_step h.2.2.1 hb, h.2.2.2⟩
def Keeps (z : Value) (w w' : World) : Prop := ∀ b o v, w.cell? ⟨b, o, none⟩ = some v → v ≠ z → w'.cell? ⟨b, o, none⟩ = some v
theorem Keeps.trans {z : Value} {w w1 w2 : World} (h1 : Keeps z w w1) (h2 : Keeps z w1 w2) : Keeps z w w2 := fun b o v h hz => h2 b o v (h1 b o v h hz) hz
theorem Keeps.of_below {z : Value} {w w1 : World} (h : Below w.heap.size w w1) : Keeps z w w1 := fun b o v hc _ => (h.cell (World.block_lt_of_cell? _ _ hc)).trans hc
def RowZ (w : World) (base : Nat) (e : TypeId) (z v : Value) (n : Nat) (xs : List Value) : Prop :=
 xs.length = n ∧ ((v = .slice none 0 0 ∧ n = 0) ∨ ∃ g cap, v = .slice (some ⟨g, 0, none⟩) n cap ∧ base ≤ g ∧ w.heap[g]? = some (.cells (xs ++ List.replicate (cap - n) z).toArray e (0, 0)) ∧ n ≤ cap ∧ cap ≤ maxLen)
theorem RowZ.nil (w : World) (base : Nat) (e : TypeId) (z : Value) : RowZ w base e z (.slice none 0 0) 0 [] := ⟨rfl, .inl ⟨rfl, rfl⟩⟩
theorem RowZ.owns {w : World} {base : Nat} {e : TypeId} {z v : Value} {n : Nat} {xs : List Value} (h : RowZ w base e z v n xs) : w.ownsRow base e 1 v n xs := by
 obtain ⟨h1, h2⟩ := h
 refine ⟨by omega, ?_⟩
 rcases h2 with h2 | ⟨g, cap, h2, h3, h4, h5, h6⟩
 · exact .inl h2
 · refine .inr ⟨g, cap, _, h2, h3, h4, h5, h6, by simp; omega, ?_⟩
   rw [Nat.mul_one, ← h1]
   simp
theorem RowZ.below {w w' : World} {base : Nat} {e : TypeId} {z v : Value} {n : Nat} {xs : List Value} (h : RowZ w base e z v n xs) (hb : Below w.heap.size w w') : RowZ w' base e z v n xs := by
 obtain ⟨h1, h2⟩ := h
 refine ⟨h1, ?_⟩
 rcases h2 with h2 | ⟨g, cap, h2, h3, h4, h5⟩
 · exact .inl h2
 · exact .inr ⟨g, cap, h2, h3, (hb.block g (Array.getElem?_eq_some_iff.1 h4).1).trans h4, h5⟩
theorem zero_cells (z : Value) (k : Nat) : Builtin.zeroCells #[z] k = (List.replicate k z).toArray := by
 apply Array.ext
 · simp [Builtin.zeroCells]
 · intro i h1 h2
   simp [Builtin.zeroCells, Nat.mod_one]
theorem keeps_alloc (z : Value) (w : World) (o : Obj) : Keeps z w (w.drew.alloc o) := .of_below (((Below.refl _ _).drew).alloc (Nat.le_refl _) _)
theorem run_append_z {P : Program} (w : World) (base : Nat) (t ty e : TypeId) (i : TypeInfo) (zz z : Value) (ht : P.underlying t = some (.slice e)) (hi : P.info? e = some i) (hz : i.zero = some zz)
 (hsize : i.size = 1) (hzs : zz.cells = #[z]) (v : Value) (n : Nat) (xs : List Value) (hown : RowZ w base e z v n xs) (a : Addr) (c : Nat) (u : Value) (hu : w.cell? a = some u) (h1 : u.oneCell' = true)
 (h63 : n + 1 ≤ maxLen) (hbytes : (n + 1) * i.bytes ≤ 140737488355328) (hbase : base ≤ w.heap.size) :
 ∃ g cap w', (Builtin.append_ #[t, t] ty #[v, .slice (some a) 1 c]).run P w = .ok (.slice (some ⟨g, 0, none⟩) (n + 1) cap) w' ∧ RowZ w' base e z (.slice (some ⟨g, 0, none⟩) (n + 1) cap) (n + 1) (xs ++ [u]) ∧
  Keeps z w w' ∧ w.grownBy w' v.ownBlock ∧ (v.ownBlock = some g ∨ g = w.heap.size) := by
 have hsmall : n + 1 ≤ 9223372036854775807 := by simp only [maxLen] at h63; omega
 have hnews : ∀ j y, [u][j]? = some y → w.cell? (a.add j) = some y := fun j y hy => by
  obtain rfl : j = 0 := by have := (List.getElem?_eq_some_iff.1 hy).1; simpa using this
  simp at hy
  subst hy
  have : a.add 0 = a := by obtain ⟨b, o, p⟩ := a; unfold Addr.add; split <;> simp_all
  rw [this]; exact hu
 have hone : ∀ y ∈ [u], y.oneCell' = true := fun y hy => by simp at hy; subst hy; exact h1
 have grown : ∀ (old : Nat), old < n + 1 → ∀ (row : Option Nat),
  RowZ (w.drew.alloc (.cells (xs.toArray ++ [u].toArray ++ Builtin.zeroCells zz.cells (grownCap w (n + 1) old e - (n + 1))) e)) base e z (.slice (some ⟨w.heap.size, 0, none⟩) (n + 1) (grownCap w (n + 1) old e)) (n + 1) (xs ++ [u]) ∧
  w.grownBy (w.drew.alloc (.cells (xs.toArray ++ [u].toArray ++ Builtin.zeroCells zz.cells (grownCap w (n + 1) old e - (n + 1))) e)) row := by
  intro old ho row
  have hge := grownCap_ge w (n + 1) old e
  have hcm : grownCap w (n + 1) old e ≤ maxLen := grownCap_le_maxLen w (n + 1) old e h63
  refine ⟨⟨by simp [hown.1], .inr ⟨w.heap.size, _, rfl, hbase, ?_, hge, hcm⟩⟩, ⟨rfl, rfl, rfl, by simp, fun k hk _ => heap_alloc_old w.drew _ hk⟩⟩
  rw [hzs, zero_cells]
  rw [show xs.toArray ++ [u].toArray ++ (List.replicate (grownCap w (n + 1) old e - (n + 1)) z).toArray = (xs ++ [u] ++ List.replicate (grownCap w (n + 1) old e - (n + 1)) z).toArray by apply Array.ext'; simp]
  exact heap_alloc_new w.drew _
 rcases hown.2 with ⟨rfl, rfl⟩ | ⟨g, cap, rfl, hbg, hg, hnc, hcm⟩
 · have hx : xs = [] := List.eq_nil_of_length_eq_zero hown.1
   subst hx
   have hr := run_append_nil (P := P) w t ty e i zz ht hi hz a 1 c [u] (by rw [hsize]; rfl) hnews (by omega) (by omega) (by omega)
   have hgr := grown 0 (by omega) (Value.ownBlock (.slice none 0 0))
   simp only [List.nil_append, Array.empty_append, Nat.zero_add] at hgr ⊢
   exact ⟨_, _, _, hr, hgr.1, keeps_alloc _ _ _, hgr.2, .inr rfl⟩
 · by_cases hroom : n + 1 ≤ cap
   · have hl := hown.1
     have hr := run_append_room (P := P) w t ty e i ht hi g n cap _ hg a 1 c [u] (by rw [hsize]; rfl) hnews hone hroom (by rw [hsize]; simp; omega)
     rw [hsize, Nat.mul_one] at hr
     have hnew : (List.take n (xs ++ List.replicate (cap - n) z).toArray.toList ++ [u] ++ List.drop (n + [u].length) (xs ++ List.replicate (cap - n) z).toArray.toList).toArray = ((xs ++ [u]) ++ List.replicate (cap - (n + 1)) z).toArray := by
      congr 1
      rw [List.toList_toArray, List.take_append_of_le_length (by omega), List.take_of_length_le (by omega), List.drop_append, List.drop_eq_nil_of_le (by simp; omega), List.nil_append, List.drop_replicate]
      congr 2
      simp
      omega
     rw [hnew] at hr
     have hsr := setRow_heap w g _ ((xs ++ [u]) ++ List.replicate (cap - (n + 1)) z).toArray e _ hg
     refine ⟨_, _, _, hr, ⟨by simp [hl], .inr ⟨g, cap, rfl, hbg, hsr, hroom, hcm⟩⟩, ?_, ⟨rfl, rfl, rfl, by simp, fun k _ hk => setRow_other w g k _ (fun e => hk (by simp [Value.ownBlock, e]))⟩, .inl rfl⟩
     intro b o y hy hyz
     by_cases hbg : b = g
     · subst hbg
       rw [cell_of_row _ b o _ e (0, 0) hg] at hy
       rw [cell_of_row _ b o _ e (0, 0) hsr]
       simp only [List.getElem?_toArray] at hy ⊢
       rcases Nat.lt_trichotomy o n with ho | ho | ho
       · rw [List.getElem?_append_left (by omega)] at hy
         rw [List.append_assoc, List.getElem?_append_left (by omega)]
         exact hy
       · rw [List.getElem?_append_right (by omega), List.getElem?_replicate] at hy
         split at hy
         · exact absurd (Option.some.inj hy).symm hyz
         · cases hy
       · rw [List.getElem?_append_right (by omega), List.getElem?_replicate] at hy
         split at hy
         · exact absurd (Option.some.inj hy).symm hyz
         · cases hy
     · rw [World.cell?_of_block (w := w) (a := ⟨b, o, none⟩) (setRow_other w g b _ hbg)]
       exact hy
   · have holds : ∀ j y, xs[j]? = some y → w.cell? ((⟨g, 0, none⟩ : Addr).add j) = some y := hown.owns.cells (g := g) rfl
     have hr := run_append_grow (P := P) w t ty e i zz ht hi hz ⟨g, 0, none⟩ n cap xs (by rw [hsize, hown.1, Nat.mul_one]) holds a 1 c [u] (by rw [hsize]; rfl) hnews (by omega) (by omega) (growslice_fits (by omega) hbytes)
     have hgr := grown cap (by omega) (Value.ownBlock (.slice (some ⟨g, 0, none⟩) n cap))
     exact ⟨_, _, _, hr, hgr.1, keeps_alloc _ _ _, hgr.2, .inr rfl⟩
section
variable {P : Program} {ops : Array Oper} {o : Oper} {a : Act} {Q : Exit → Act → World → Prop}
theorem wp_append_z {K : Act → World → Prop} (w : World) (s x : Operand) (t : TypeId) (ho : o.op = .call { callee := .builtin .append, args := #[s, x], argTypes := #[t, t] })
 (base : Nat) (e : TypeId) (i : TypeInfo) (zz z : Value) (ht : P.underlying t = some (.slice e)) (hi : P.info? e = some i) (hz : i.zero = some zz) (hsize : i.size = 1) (hzs : zz.cells = #[z])
 (v : Value) (n : Nat) (xs : List Value) (hs : a.eval s = v) (hown : RowZ w base e z v n xs) (ad : Addr) (c : Nat) (u : Value) (hx : a.eval x = .slice (some ad) 1 c) (hu : w.cell? ad = some u) (h1 : u.oneCell' = true)
 (h63 : n + 1 ≤ maxLen) (hbytes : (n + 1) * i.bytes ≤ 140737488355328) (hbase : base ≤ w.heap.size)
 (h : ∀ g cap w', RowZ w' base e z (.slice (some ⟨g, 0, none⟩) (n + 1) cap) (n + 1) (xs ++ [u]) → Keeps z w w' → w.grownBy w' v.ownBlock → (v.ownBlock = some g ∨ g = w.heap.size) → K (a.put o.dst (.slice (some ⟨g, 0, none⟩) (n + 1) cap)) w') : o.wp P a w K Q := by
 obtain ⟨g, cap, w', hr, h2, h3, h4, h5⟩ := run_append_z (P := P) w base t o.type e i zz z ht hi hz hsize hzs v n xs hown ad c u hu h1 h63 hbytes hbase
 unfold Oper.wp execOp
 simp only [ho, resolve, invoke, builtin, Sem.run_bind, Sem.run_pure, Result.andThen_ok, List.map_toArray, List.map_cons, List.map_nil, hs, hx, hr]
 exact h g cap w' h2 h3 h4 h5
theorem wpList_append_z {rest : List Oper} (hgd : o.guard = none) (w : World) (s x : Operand) (t : TypeId) (ho : o.op = .call { callee := .builtin .append, args := #[s, x], argTypes := #[t, t] })
 (base : Nat) (e : TypeId) (i : TypeInfo) (zz z : Value) (ht : P.underlying t = some (.slice e)) (hi : P.info? e = some i) (hz : i.zero = some zz) (hsize : i.size = 1) (hzs : zz.cells = #[z])
 (v : Value) (n : Nat) (xs : List Value) (hs : a.eval s = v) (hown : RowZ w base e z v n xs) (ad : Addr) (c : Nat) (u : Value) (hx : a.eval x = .slice (some ad) 1 c) (hu : w.cell? ad = some u) (h1 : u.oneCell' = true)
 (h63 : n + 1 ≤ maxLen) (hbytes : (n + 1) * i.bytes ≤ 140737488355328) (hbase : base ≤ w.heap.size)
 (h : ∀ g cap w', RowZ w' base e z (.slice (some ⟨g, 0, none⟩) (n + 1) cap) (n + 1) (xs ++ [u]) → Keeps z w w' → w.grownBy w' v.ownBlock → (v.ownBlock = some g ∨ g = w.heap.size) → wpList P ops Q rest (a.put o.dst (.slice (some ⟨g, 0, none⟩) (n + 1) cap)) w') : wpList P ops Q (o :: rest) a w :=
 wpList_plain hgd fun _ hK => wp_append_z w s x t ho base e i zz z ht hi hz hsize hzs v n xs hs hown ad c u hx hu h1 h63 hbytes hbase fun g cap w' h2 h3 h4 h5 => hK _ _ (h g cap w' h2 h3 h4 h5)
end
theorem enI_int {x : Int} {f : Nat} {u : Value} (hu : (enI.cells x)[f]? = some u) : ∃ y, u = Value.int .i64 y := by
 rcases f with _ | f
 · exact ⟨x, (Option.some.inj hu).symm⟩
 · cases hu
theorem VlAt.keeps {w w' : World} {v : Value} {L : List (List Int)} (h : VlAt w v L) (hl : ∀ (i : Nat) (xs : List Int), L[i]? = some xs → 0 < xs.length) (hk : Keeps (.slice none 0 0) w w') : VlAt w' v L := by
 obtain ⟨A, c, hv, h1, h2, h3⟩ := h
 refine ⟨A, c, hv, h1, h2, fun i xs hx => ?_⟩
 obtain ⟨b, o, sv, hA, hc, ⟨B, d, rfl, g1, g2, g3⟩⟩ := h3 i xs hx
 have h0 := hl i xs hx
 obtain ⟨b0, o0, hB, -⟩ := g3 0 _ (getD_at h0 0)
 refine ⟨b, o, _, hA, hk b _ _ hc (by rw [hB]; simp), B, d, rfl, g1, g2, fun j x hj => ?_⟩
 obtain ⟨b', o', e, hq⟩ := g3 j x hj
 refine ⟨b', o', e, fun f u hu => ?_⟩
 obtain ⟨y, rfl⟩ := enI_int hu
 exact hk b' _ _ (hq f _ hu) (by simp)
def AccZ (lo : Nat) (w : World) (v : Value) (svs : List Value) (L : List (List Int)) : Prop :=
 RowZ w lo 40 (.slice none 0 0) v svs.length svs ∧ svs.length = L.length ∧ ∀ (i : Nat) (sv : Value) (xs : List Int), svs[i]? = some sv → L[i]? = some xs → SlN enI w sv xs ∧ 0 < xs.length
theorem AccZ.nil (lo : Nat) (w : World) : AccZ lo w (.slice none 0 0) [] [] := ⟨RowZ.nil _ _ _ _, rfl, fun i sv xs hi => by simp at hi⟩
theorem SlN.keeps {w w' : World} {sv : Value} {xs : List Int} (h : SlN enI w sv xs) (hk : Keeps (.slice none 0 0) w w') : SlN enI w' sv xs := by
 obtain ⟨B, d, hv, g1, g2, g3⟩ := h
 refine ⟨B, d, hv, g1, g2, fun j x hj => ?_⟩
 obtain ⟨b', o', e, hq⟩ := g3 j x hj
 refine ⟨b', o', e, fun f u hu => hk b' _ _ (hq f u hu) ?_⟩
 obtain ⟨y, rfl⟩ := enI_int hu
 simp
theorem AccZ.below {lo : Nat} {w w' : World} {v : Value} {svs : List Value} {L : List (List Int)} (h : AccZ lo w v svs L) (hb : Below w.heap.size w w') : AccZ lo w' v svs L :=
 ⟨h.1.below hb, h.2.1, fun i sv xs h1 h2 => ⟨(h.2.2 i sv xs h1 h2).1.below hb, (h.2.2 i sv xs h1 h2).2⟩⟩
theorem AccZ.vlAt {lo : Nat} {w : World} {v : Value} {svs : List Value} {L : List (List Int)} (h : AccZ lo w v svs L) (hl : L.length ≤ 281474976710656) : VlAt w v L := by
 obtain ⟨h1, h2, h3⟩ := h
 rcases h1.2 with ⟨rfl, h0⟩ | ⟨g, cap, rfl, -, hg, hc, -⟩
 · have : L = [] := List.eq_nil_of_length_eq_zero (by omega)
   subst this
   exact ⟨none, 0, rfl, Nat.le_refl _, hl, fun i x hx => by simp at hx⟩
 · refine ⟨some ⟨g, 0, none⟩, cap, by rw [h2], by omega, hl, fun i xs hx => ?_⟩
   have hi := (List.getElem?_eq_some_iff.1 hx).1
   have hs : svs[i]? = some (svs[i]'(by omega)) := List.getElem?_eq_getElem _
   refine ⟨g, 0, _, rfl, ?_, (h3 i _ xs hs hx).1⟩
   rw [Nat.zero_add, cell_of_row _ g i _ _ (0, 0) hg]
   simp only [List.getElem?_toArray]
   rw [List.getElem?_append_left (by omega)]
   exact hs
def TwoZ (lo : Nat) (w : World) (s : Value) (svs : List Value) (L1 : List (List Int)) (i : Value) (ivs : List Value) (L2 : List (List Int)) : Prop :=
 AccZ lo w s svs L1 ∧ AccZ lo w i ivs L2 ∧ ∀ b, s.ownBlock = some b → i.ownBlock ≠ some b
theorem TwoZ.symm {lo : Nat} {w : World} {s i : Value} {svs ivs : List Value} {L1 L2 : List (List Int)} (h : TwoZ lo w s svs L1 i ivs L2) : TwoZ lo w i ivs L2 s svs L1 := ⟨h.2.1, h.1, fun b h1 h2 => h.2.2 b h2 h1⟩
theorem TwoZ.below {lo : Nat} {w w' : World} {s i : Value} {svs ivs : List Value} {L1 L2 : List (List Int)} (h : TwoZ lo w s svs L1 i ivs L2) (hb : Below w.heap.size w w') : TwoZ lo w' s svs L1 i ivs L2 := ⟨h.1.below hb, h.2.1.below hb, h.2.2⟩
theorem TwoZ.push {lo g cap : Nat} {w wn : World} {s i s' : Value} {svs ivs : List Value} {L1 L2 : List (List Int)} {xs : List Int} (h : TwoZ lo w s svs L1 i ivs L2) (hR : RowZ wn lo 40 (.slice none 0 0) (.slice (some ⟨g, 0, none⟩) (svs.length + 1) cap) (svs.length + 1) (svs ++ [s']))
 (hk : Keeps (.slice none 0 0) w wn) (hg : w.grownBy wn s.ownBlock) (hat : s.ownBlock = some g ∨ g = w.heap.size) (hs : SlN enI w s' xs) (h0 : 0 < xs.length) :
 TwoZ lo wn (.slice (some ⟨g, 0, none⟩) (svs.length + 1) cap) (svs ++ [s']) (L1 ++ [xs]) i ivs L2 := by
 obtain ⟨⟨a1, a2, a3⟩, ⟨b1, b2, b3⟩, hne⟩ := h
 have hlt := b1.owns.lt
 refine ⟨⟨by rw [List.length_append]; exact hR, by simp [a2], fun j sv ys hj hy => ?_⟩, ⟨⟨b1.1, ?_⟩, b2, fun j sv ys hj hy => ⟨(b3 j sv ys hj hy).1.keeps hk, (b3 j sv ys hj hy).2⟩⟩, fun b hb e => ?_⟩
 · rcases snoc_get hj with hj1 | ⟨hj1, hj2⟩
   · have hil := (List.getElem?_eq_some_iff.1 hj1).1
     rw [List.getElem?_append_left (by omega)] at hy
     exact ⟨(a3 j sv ys hj1 hy).1.keeps hk, (a3 j sv ys hj1 hy).2⟩
   · subst hj1
     subst hj2
     rw [a2, List.getElem?_append_right (Nat.le_refl _), Nat.sub_self] at hy
     simp at hy
     subst hy
     exact ⟨hs.keeps hk, h0⟩
 · rcases b1.2 with e | ⟨g2, cap2, rfl, c1, c2, c3⟩
   · exact .inl e
   · exact .inr ⟨g2, cap2, rfl, c1, (hg.block g2 (Array.getElem?_eq_some_iff.1 c2).1 (fun e => hne g2 e.symm rfl)).trans c2, c3⟩
 · simp only [Value.ownBlock, Option.some.injEq] at hb
   subst hb
   rcases hat with h | h
   · exact hne g h e
   · have := hlt g e; omega
def MomAt (lo : Nat) (w : World) (v : Value) (vs : List Value) (Ls : List (List (List Int))) : Prop :=
 RowZ w lo 29 (.slice none 0 0) v vs.length vs ∧ vs.length = Ls.length ∧ ∀ (i : Nat) (sv : Value) (L : List (List Int)), vs[i]? = some sv → Ls[i]? = some L → VlAt w sv L ∧ ∀ (j : Nat) (xs : List Int), L[j]? = some xs → 0 < xs.length
def nextRow (ns : List Nd) (bs : List Bd) (V : List (List Int)) (st : Int) : List Int := if bdN st bs < 0 then List.replicate (cellN ns st) 0 else vN V (bdN st bs)
noncomputable def nextL (M : Md) (S I : List (List Int)) : List (List Int) := (plK M).map (nextRow M.nodes M.nexts (evalL M S I))
noncomputable def nextK (M : Md) (s i : Int) : Int := (packS M.nodes (plK M) (nextL M (stK 36 M s) (stK 35 M i)) (nextL M (stK 36 M s) (stK 35 M i)).length).1
noncomputable def runAt (M : Md) (s : Int) (Is : List Int) : Nat → Int
 | 0 => s
 | k + 1 => nextK M (runAt M s Is k) (Is.getD k 0)
noncomputable def runS (M : Md) (s : Int) (Is : List Int) (k : Nat) : List Int := (List.range k).map (runAt M s Is)
noncomputable def runB (M : Md) (s : Int) (Is : List Int) : Bool := inB (Is.length : Int) 1 301 && (ofB 36 M s && Is.all (ofB 35 M))
theorem runS_len (M : Md) (s : Int) (Is : List Int) (k : Nat) : (runS M s Is k).length = k := by simp [runS]
theorem runS_succ (M : Md) (s : Int) (Is : List Int) (k : Nat) : runS M s Is (k + 1) = runS M s Is k ++ [runAt M s Is k] := by
 unfold runS
 rw [List.range_succ, List.map_append]
 rfl
theorem nextL_len (M : Md) (S I : List (List Int)) : (nextL M S I).length = (plK M).length := by simp [nextL]
theorem nextL_getD (M : Md) (S I : List (List Int)) {k : Nat} (h : k < (plK M).length) : (nextL M S I).getD k [] = nextRow M.nodes M.nexts (evalL M S I) ((plK M).getD k 0) := by
 unfold nextL
 rw [List.getD_eq_getElem?_getD, List.getElem?_map, getD_at h 0]
 rfl
theorem nextRow_val {M : Md} {S I : List (List Int)} (h : bothK M S I = true) {st : Int} (hs : st ∈ plK M) : valB (pN M.nodes st) (nextRow M.nodes M.nexts (evalL M S I) st) = true := by
 obtain ⟨h1, g1, h2, h3, -, -⟩ := eval_one h
 obtain ⟨-, -, -, g3, -, -⟩ := codeN_parts h1
 unfold nextRow
 rcases bd_cases st M.nexts with e | ⟨b, hb, hbs, hbn⟩
 · rw [e, if_pos (by decide)]
   have hcb := cells_bits (pN M.nodes st).idx (pN M.nodes st).wid
   unfold valB
   refine val_yes (by rw [List.length_replicate]; unfold cellN; omega) fun j hj => ?_
   rw [List.length_replicate] at hj
   unfold cellN at hj
   have hs := hcb.2.1 (by omega)
   rw [List.getD_eq_getElem?_getD, List.getElem?_replicate, if_pos hj]
   unfold sokB at hs
   rw [Bool.and_eq_true] at hs
   unfold wokB
   rw [hs.2, Bool.true_and]
   exact inB_yes ⟨Int.le_refl _, by have := pow_pos_i (pN M.nodes st).wid; show (0 : Int) ≤ _; omega⟩
 · have hp := bound_parts ((binds_parts g3).2 b hb)
   rw [hbn, if_neg (by omega)]
   have hv := evalN_ok g1 h2 h3 M.nodes.length (Nat.le_refl _) b.nd.toNat (by omega)
   unfold valB at hv ⊢
   rw [← hbs, hp.2.2.2.1, hp.2.2.2.2]
   exact hv
theorem next_fits {M : Md} {S I : List (List Int)} (h : bothK M S I = true) : fitsB M.nodes (plK M) (nextL M S I) = true := by
 refine fits_yes (nextL_len _ _ _) fun k hk => ?_
 rw [nextL_len] at hk
 rw [nextL_getD _ _ _ hk]
 exact nextRow_val h (List.mem_of_getElem? (getD_at hk 0))
theorem nextRow_pos {M : Md} {S I : List (List Int)} (h : bothK M S I = true) {st : Int} (hs : st ∈ plK M) : 0 < (nextRow M.nodes M.nexts (evalL M S I) st).length ∧ (nextRow M.nodes M.nexts (evalL M S I) st).length ≤ 4 := by
 obtain ⟨h1, g1, -, -, -, -⟩ := eval_one h
 obtain ⟨j, e, hj, -⟩ := placesN_in hs
 have hsk := node_sok g1 hj
 have := val_one (nextRow_val h hs) (by rw [e]; unfold pN; rw [Int.toNat_natCast]; exact hsk)
 exact this
theorem nextK_range {M : Md} (h : codeN M = 0) (s i : Int) : 0 ≤ nextK M s i ∧ nextK M s i ≤ 65535 := by
 have hf := next_fits (both_of h s i)
 have h1 := pack_ok hf _ (Nat.le_refl _)
 obtain ⟨⟨-, h2, h3⟩, h4⟩ := h1
 rw [h4] at h3
 have h5 : bitsTo M.nodes (plK M) (nextL M (stK 36 M s) (stK 35 M i)).length ≤ 8 := by
  rw [nextL_len]
  exact bits8_of (.inl rfl) h
 have h6 : 0 ≤ bitsTo M.nodes (plK M) (nextL M (stK 36 M s) (stK 35 M i)).length := (bitsTo_mono M.nodes (plK M) _ 0).1
 have h7 := pow_le_i h6 h5
 unfold nextK
 omega
theorem runAt_range {M : Md} {s : Int} (hs : ofB 36 M s = true) (Is : List Int) : ∀ k, 0 ≤ runAt M s Is k ∧ runAt M s Is k ≤ 65535
 | 0 => ofB_range (.inl rfl) hs
 | k + 1 => nextK_range (by unfold ofB at hs; rw [Bool.and_eq_true] at hs; simpa using hs.1) _ _
theorem run_code {M : Md} {s : Int} (hs : ofB 36 M s = true) : codeN M = 0 := by
 unfold ofB at hs
 rw [Bool.and_eq_true] at hs
 simpa using hs.1
theorem bdN_take {bs : List Bd} (ha : againB bs = false) {k : Nat} (hk : k < bs.length) (st : Int) : bdN st (bs.take (k + 1)) = if (bs.getD k Bd.zero).st = st then (bs.getD k Bd.zero).nd else bdN st (bs.take k) := by
 have ht : bs.take (k + 1) = bs.take k ++ [bs.getD k Bd.zero] := by rw [List.take_add_one, getD_at hk Bd.zero]; rfl
 rw [ht]
 have key : ∀ (xs : List Bd) (b : Bd), (∀ c, c ∈ xs → c.st ≠ b.st) → bdN st (xs ++ [b]) = if b.st = st then b.nd else bdN st xs := by
  intro xs b
  induction xs with
  | nil => intro _; rfl
  | cons c l ih =>
    intro h
    have h1 := h c (by simp)
    rw [List.cons_append, bdN, bdN, ih fun d hd => h d (by simp [hd])]
    by_cases e : c.st = st
    · rw [if_pos e, if_pos e, if_neg (by rw [← e]; exact fun e2 => h1 e2.symm)]
    · rw [if_neg e, if_neg e]
 refine key _ _ fun c hc e => ?_
 obtain ⟨j, hj⟩ := List.getElem?_of_mem hc
 have hj1 := (List.getElem?_eq_some_iff.1 hj).1
 rw [List.length_take] at hj1
 rw [List.getElem?_take, if_pos (by omega)] at hj
 have hg : bs.getD j Bd.zero = c := by
  have := getD_at (show j < bs.length by omega) Bd.zero
  rw [hj] at this
  exact (Option.some.inj this).symm
 exact again_none ha hk (show j < k by omega) (by rw [hg, e])
def midR (ns : List Nd) (bs : List Bd) (V : List (List Int)) (ps : List Int) (k m : Nat) : List (List Int) := (List.range ps.length).map fun i => nextRow ns (if i < m then bs.take (k + 1) else bs.take k) V (ps.getD i 0)
theorem midR_len (ns : List Nd) (bs : List Bd) (V : List (List Int)) (ps : List Int) (k m : Nat) : (midR ns bs V ps k m).length = ps.length := by simp [midR]
theorem midR_getD (ns : List Nd) (bs : List Bd) (V : List (List Int)) (ps : List Int) (k m : Nat) {i : Nat} (h : i < ps.length) : (midR ns bs V ps k m).getD i [] = nextRow ns (if i < m then bs.take (k + 1) else bs.take k) V (ps.getD i 0) := by
 unfold midR
 rw [List.getD_eq_getElem?_getD, List.getElem?_map, List.getElem?_range h]
 rfl
theorem midR_ext {ns : List Nd} {bs : List Bd} {V : List (List Int)} {ps : List Int} {k m : Nat} {L : List (List Int)} (hl : L.length = ps.length) (h : ∀ i, i < ps.length → L.getD i [] = nextRow ns (if i < m then bs.take (k + 1) else bs.take k) V (ps.getD i 0)) : L = midR ns bs V ps k m := by
 apply List.ext_getElem?
 intro i
 rcases Nat.lt_or_ge i ps.length with g | g
 · rw [getD_at (show i < L.length by omega) [], getD_at (show i < (midR ns bs V ps k m).length by rw [midR_len]; exact g) [], h i g, midR_getD ns bs V ps k m g]
 · rw [List.getElem?_eq_none (by omega), List.getElem?_eq_none (by rw [midR_len]; exact g)]
theorem midR_zero (ns : List Nd) (bs : List Bd) (V : List (List Int)) (ps : List Int) : zerosN ns ps ps.length = midR ns bs V ps 0 0 := by
 refine midR_ext (zerosN_length _ _ _) fun i hi => ?_
 rw [zerosN_getD ns ps hi, if_neg (Nat.not_lt_zero _), List.take_zero]
 rfl
theorem midR_next (ns : List Nd) (bs : List Bd) (V : List (List Int)) (ps : List Int) (k : Nat) : midR ns bs V ps k ps.length = midR ns bs V ps (k + 1) 0 := by
 refine midR_ext (midR_len _ _ _ _ _ _) fun i hi => ?_
 rw [midR_getD _ _ _ _ _ _ hi, if_pos hi, if_neg (Nat.not_lt_zero _)]
theorem midR_all (M : Md) (S I : List (List Int)) : midR M.nodes M.nexts (evalL M S I) (plK M) M.nexts.length 0 = nextL M S I := by
 symm
 refine midR_ext (nextL_len _ _ _) fun i hi => ?_
 rw [nextL_getD _ _ _ hi, if_neg (Nat.not_lt_zero _), List.take_length]
theorem midR_skip {ns : List Nd} {bs : List Bd} {V : List (List Int)} {ps : List Int} {k m : Nat} (ha : againB bs = false) (hk : k < bs.length) (h : (bs.getD k Bd.zero).st ≠ ps.getD m 0) : midR ns bs V ps k m = midR ns bs V ps k (m + 1) := by
 refine midR_ext (midR_len _ _ _ _ _ _) fun i hi => ?_
 rw [midR_getD _ _ _ _ _ _ hi]
 rcases Nat.lt_trichotomy i m with g | g | g
 · rw [if_pos g, if_pos (by omega)]
 · subst g
   rw [if_neg (Nat.lt_irrefl _), if_pos (Nat.lt_succ_self _)]
   unfold nextRow
   rw [bdN_take ha hk, if_neg h]
 · rw [if_neg (by omega), if_neg (by omega)]
theorem midR_set {ns : List Nd} {bs : List Bd} {V : List (List Int)} {ps : List Int} {k m : Nat} (ha : againB bs = false) (hk : k < bs.length) (hm : m < ps.length) (h : (bs.getD k Bd.zero).st = ps.getD m 0) (hn : 0 ≤ (bs.getD k Bd.zero).nd) : (midR ns bs V ps k m).set m (vN V (bs.getD k Bd.zero).nd) = midR ns bs V ps k (m + 1) := by
 refine midR_ext (by rw [List.length_set]; exact midR_len _ _ _ _ _ _) fun i hi => ?_
 rw [List.getD_eq_getElem?_getD, List.getElem?_set]
 split
 · rename_i e
   subst e
   rw [if_pos (by rw [midR_len]; exact hm), if_pos (Nat.lt_succ_self _)]
   unfold nextRow
   rw [bdN_take ha hk, if_pos h, if_neg (by omega)]
   rfl
 · rename_i e
   rw [← List.getD_eq_getElem?_getD, midR_getD _ _ _ _ _ _ hi]
   rcases Nat.lt_or_ge i m with g | g
   · rw [if_pos g, if_pos (by omega)]
   · rw [if_neg (by omega), if_neg (by omega)]
end Go.Proofs.YtbenebcphaiohaaGreat
