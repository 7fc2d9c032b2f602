import Derived.Test.YtbenebcphaiohaaGreater8
import Derived.Test.YtbenebcphaiohaaGreater2
import Derived.Test.YtbenebcphaiohaaGreater0
import Derived.BigQuiet
import Derived.Deep.Cut
set_option linter.unusedVariables false
set_option linter.unusedSimpArgs false
set_option maxRecDepth 8000
set_option maxHeartbeats 16000000
namespace Go.Proofs.YtbenebcphaiohaaGreat
open Go.RowKit
theorem RowI.setAt {w : World} {g n cap : Nat} {xs : List Int} (h : RowI w (.slice (some ⟨g, 0, none⟩) n cap) xs) {j : Nat} (hj : j < xs.length) (y : Int) : RowI (w.setCell ⟨g, j, none⟩ (.int .i64 y)) (.slice (some ⟨g, 0, none⟩) n cap) (xs.set j y) := by
 obtain ⟨hl, ⟨h0, -⟩ | ⟨g', cap', cur, hv, ho, hc, hs, hf⟩⟩ := h
 · cases h0
 · cases hv
   refine ⟨by simpa using hl, .inr ⟨g, cap, cur.setIfInBounds j (.int .i64 y), by simp, ho.set _ _, by simpa using hc, by simpa using hs, fun i x hx => ?_⟩⟩
   rw [List.getElem?_set] at hx
   by_cases e : j = i
   · subst e
     rw [if_pos rfl, if_pos hj] at hx
     cases hx
     rw [Array.getElem?_setIfInBounds_self_of_lt (by omega)]
   · rw [if_neg e] at hx
     rw [Array.getElem?_setIfInBounds_ne (by omega)]
     exact hf i x hx
theorem RowVs.setAt {lo : Nat} {w : World} {v : Value} {svs : List Value} {L : List (List Int)} (h : RowVs lo w v svs L) {k g n cap : Nat} (hk : svs[k]? = some (.slice (some ⟨g, 0, none⟩) n cap)) {xs : List Int} (hx : L[k]? = some xs) {j : Nat} (hj : j < xs.length) (y : Int) :
 RowVs lo (w.setCell ⟨g, j, none⟩ (.int .i64 y)) v svs (L.set k (xs.set j y)) := by
 obtain ⟨h1, h2, h3, h4, h5⟩ := h
 have hne := (h4 k _ xs hk hx).2 g rfl
 refine ⟨by simpa using h1, by simpa using h2, ?_, fun i sv ys hi hy => ?_, h5⟩
 · rcases h3 with ⟨rfl, rfl⟩ | ⟨g', cap', cur, rfl, hlo, ho, hc, hs, hf⟩
   · simp at hx
   · refine .inr ⟨g', cap', cur, by simp, hlo, ho.keep (fun e => hne.2 (by rw [e]; rfl)) _, by simpa using hc, hs, hf⟩
 · rw [List.getElem?_set] at hy
   by_cases e : k = i
   · subst e
     have hil := (List.getElem?_eq_some_iff.1 hx).1
     rw [if_pos rfl, if_pos hil] at hy
     cases hy
     rw [hk] at hi
     cases hi
     exact ⟨(h4 k _ xs hk hx).1.setAt hj y, (h4 k _ xs hk hx).2⟩
   · rw [if_neg e] at hy
     obtain ⟨k1, k2⟩ := h4 i sv ys hi hy
     refine ⟨k1.set (fun b hb e' => ?_) _, k2⟩
     subst e'
     rcases Nat.lt_or_ge k i with hlt | hge
     · exact h5 k i _ _ g hk hi hlt rfl hb
     · exact h5 i k _ _ g hi hk (by omega) hb rfl
theorem RowVs.outer {lo : Nat} {w : World} {v : Value} {svs : List Value} {L : List (List Int)} (h : RowVs lo w v svs L) {k : Nat} (hk : k < L.length) : ∃ g cap, v = .slice (some ⟨g, 0, none⟩) L.length cap ∧ L.length ≤ cap ∧ ∃ sv, svs[k]? = some sv ∧ w.cell? ⟨g, k, none⟩ = some sv := by
 obtain ⟨sv, hsv⟩ := h.get hk
 obtain ⟨h1, h2, ⟨rfl, rfl⟩ | ⟨g, cap, cur, rfl, hlo, ho, hc, hs, hf⟩, -⟩ := h
 · simp at hk
 · exact ⟨g, cap, rfl, hc, sv, hsv, by rw [ho.cell]; exact hf k sv hsv⟩
theorem RowI.shape {w : World} {sv : Value} {xs : List Int} (h : RowI w sv xs) : ∃ A c, sv = .slice A xs.length c := by
 obtain ⟨-, ⟨rfl, rfl⟩ | ⟨g, cap, cur, rfl, -⟩⟩ := h
 · exact ⟨_, _, rfl⟩
 · exact ⟨_, _, rfl⟩
theorem RowI.cellAt {w : World} {sv : Value} {xs : List Int} (h : RowI w sv xs) {j : Nat} (hj : j < xs.length) : ∃ g cap, sv = .slice (some ⟨g, 0, none⟩) xs.length cap ∧ w.cell? ⟨g, j, none⟩ = some (.int .i64 (xs.getD j 0)) ∧ w.frozen? ⟨g, j, none⟩ = false ∧ g < w.heap.size := by
 obtain ⟨-, ⟨rfl, rfl⟩ | ⟨g, cap, cur, rfl, ho, hc, hs, hf⟩⟩ := h
 · simp at hj
 · exact ⟨g, cap, rfl, by rw [ho.cell]; exact hf j _ (getD_at hj 0), ho.frozen j, ho.lt⟩
theorem unpackN_get {ns : List Nd} {ps : List Int} {code : Int} {n j : Nat} (hj : j < n) : (unpackN ns ps code n)[j]? = some (rowU ns ps code j) := by
 unfold unpackN
 rw [List.getElem?_map, List.getElem?_range hj]
 rfl
theorem unpack_of {ns : List Nd} {ps : List Int} {code : Int} {n : Nat} {L : List (List Int)} (hl : L.length = n) (h : ∀ j, j < n → L.getD j [] = rowU ns ps code j) : L = unpackN ns ps code n := by
 refine List.ext_getElem? fun i => ?_
 rcases Nat.lt_or_ge i n with g | g
 · rw [unpackN_get g, getD_at (by omega) [], h i g]
 · rw [List.getElem?_eq_none (by omega), List.getElem?_eq_none (by rw [unpackN_length]; exact g)]
theorem row_of {l l' : List Int} (h1 : l.length = l'.length) (h : ∀ i, i < l'.length → l.getD i 0 = l'.getD i 0) : l = l' := by
 refine List.ext_getElem? fun i => ?_
 rcases Nat.lt_or_ge i l'.length with g | g
 · rw [getD_at (by omega) 0, getD_at g 0, h i g]
 · rw [List.getElem?_eq_none (by omega), List.getElem?_eq_none g]
theorem rowU_get {ns : List Nd} {ps : List Int} {code : Int} {i k : Nat} (hk : (k : Int) < cellsN (ndAt ns ps i).idx (ndAt ns ps i).wid) :
 (rowU ns ps code i).getD k 0 = code / 2 ^ (bitsTo ns ps i + k * (ndAt ns ps i).wid).toNat % 2 ^ (ndAt ns ps i).wid.toNat := by
 have hl : k < (rowU ns ps code i).length := by rw [rowU_length]; omega
 rw [List.getD_eq_getElem?_getD, List.getElem?_eq_getElem hl]
 simp [rowU]
def MidOf (ns : List Nd) (ps : List Int) (code : Int) (q k m jj : Nat) (L : List (List Int)) : Prop :=
 L.length = q ∧ (∀ i, i < k → L.getD i [] = rowU ns ps code i) ∧ (∀ i, k < i → i < q → L.getD i [] = List.replicate (cellsN (ndAt ns ps i).idx (ndAt ns ps i).wid).toNat 0) ∧ (L.getD k []).length = m ∧ ∀ i, i < jj → (L.getD k []).getD i 0 = (rowU ns ps code k).getD i 0
theorem set_getD {α : Type} (L : List α) (k i : Nat) (x z : α) (hk : k < L.length) : (L.set k x).getD i z = if i = k then x else L.getD i z := by
 rw [List.getD_eq_getElem?_getD, List.getElem?_set, List.getD_eq_getElem?_getD]
 by_cases e : k = i
 · subst e; simp [hk]
 · rw [if_neg e, if_neg (fun h => e h.symm)]
theorem MidOf.step {ns : List Nd} {ps : List Int} {code : Int} {q k m jj : Nat} {L : List (List Int)} (h : MidOf ns ps code q k m jj L) (hk : k < q) (hj : jj < m) {y : Int} (hy : (rowU ns ps code k).getD jj 0 = y) : MidOf ns ps code q k m (jj + 1) (L.set k ((L.getD k []).set jj y)) := by
 obtain ⟨h1, h2, h3, h4, h5⟩ := h
 refine ⟨by simpa using h1, fun i hi => ?_, fun i hi hq => ?_, ?_, fun i hi => ?_⟩
 · rw [set_getD _ _ _ _ _ (by omega), if_neg (by omega)]; exact h2 i hi
 · rw [set_getD _ _ _ _ _ (by omega), if_neg (by omega)]; exact h3 i hi hq
 · rw [set_getD _ _ _ _ _ (by omega), if_pos rfl, List.length_set]; exact h4
 · rw [set_getD _ _ _ _ _ (by omega), if_pos rfl, set_getD _ _ _ _ _ (by omega)]
   by_cases e : i = jj
   · rw [if_pos e, e, hy]
   · rw [if_neg e]; exact h5 i (by omega)
def OutOf (ns : List Nd) (ps : List Int) (code : Int) (q k : Nat) (L : List (List Int)) : Prop :=
 L.length = q ∧ (∀ i, i < k → L.getD i [] = rowU ns ps code i) ∧ (∀ i, k ≤ i → i < q → L.getD i [] = List.replicate (cellsN (ndAt ns ps i).idx (ndAt ns ps i).wid).toNat 0)
theorem OutOf.mid {ns : List Nd} {ps : List Int} {code : Int} {q k m : Nat} {L : List (List Int)} (h : OutOf ns ps code q k L) (hk : k < q) (hm : (cellsN (ndAt ns ps k).idx (ndAt ns ps k).wid).toNat = m) : MidOf ns ps code q k m 0 L :=
 ⟨h.1, h.2.1, fun i hi hq => h.2.2 i (by omega) hq, by rw [h.2.2 k (Nat.le_refl _) hk, List.length_replicate, hm], fun i hi => absurd hi (Nat.not_lt_zero _)⟩
theorem MidOf.out {ns : List Nd} {ps : List Int} {code : Int} {q k m : Nat} {L : List (List Int)} (h : MidOf ns ps code q k m m L) (hm : (cellsN (ndAt ns ps k).idx (ndAt ns ps k).wid).toNat = m) : OutOf ns ps code q (k + 1) L := by
 obtain ⟨h1, h2, h3, h4, h5⟩ := h
 refine ⟨h1, fun i hi => ?_, fun i hi hq => h3 i (by omega) hq⟩
 rcases Nat.lt_or_ge i k with g | g
 · exact h2 i g
 · obtain rfl : i = k := by omega
   exact row_of (by rw [h4, rowU_length, hm]) fun i hi => h5 i (by rw [rowU_length, hm] at hi; exact hi)
theorem zerosN_get (ns : List Nd) (ps : List Int) : ∀ {n i : Nat}, i < n → (zerosN ns ps n)[i]? = some (List.replicate (cellsN (ndAt ns ps i).idx (ndAt ns ps i).wid).toNat 0)
 | n + 1, i, hi => by
   rw [zerosN]
   rcases Nat.lt_or_ge i n with g | g
   · rw [List.getElem?_append_left (by rw [zerosN_length]; exact g)]; exact zerosN_get ns ps g
   · obtain rfl : i = n := by omega
     rw [List.getElem?_append_right (by rw [zerosN_length]; exact Nat.le_refl _), zerosN_length, Nat.sub_self]; rfl
theorem outOf_zeros (ns : List Nd) (ps : List Int) (code : Int) (q : Nat) : OutOf ns ps code q 0 (zerosN ns ps q) :=
 ⟨zerosN_length _ _ _, fun i hi => absurd hi (Nat.not_lt_zero _), fun i _ hq => by rw [List.getD_eq_getElem?_getD, zerosN_get ns ps hq]; rfl⟩
theorem div_pow_step {c a b : Int} (ha : 0 ≤ a) (hb : 0 ≤ b) : c / 2 ^ a.toNat / 2 ^ b.toNat = c / 2 ^ (a + b).toNat := by
 have h := pow_pos_i a
 rw [pow_add_i _ _ ha hb, Int.ediv_ediv, if_neg (by omega), Int.sub_zero]
theorem of_calls (mv pv : Value) (M : Md) (ps : List Int) (code : Int) (w : World) (hM : MdAt w mv M) (hP : SlN enI w pv ps) (hI : InN ps M.nodes.length) (hsz : ps.length ≤ 1048576) (h8 : bitsTo M.nodes ps ps.length ≤ 8) (hc0 : 0 ≤ code) (hc1 : code ≤ 65535) :
 Calls Tryz.prog 128 #[mv, pv, .int .i64 code] w fun e w' => ∃ v svs, e = .returned v ∧ Below w.heap.size w w' ∧ RowVs w.heap.size w' v svs (unpackN M.nodes ps code ps.length) := by
 have HM := Lib.hid hM
 have HP := Lib.hid hP
 obtain ⟨s0, s1, s2, s3, s4, rfl, hS, -, -, -, -⟩ := hM.at_
 obtain ⟨A, c, rfl, hnc, hc', hA⟩ := hS
 obtain ⟨B, d, rfl, -, hd', hB⟩ := hP
 clear hM
 have HCU := Lib.hid (cellU h8)
 have HI := Lib.hid hI
 have HSZ := Lib.hid hsz
 generalize hN : M.nodes.length = n at *
 have HN := Lib.hid hN
 have HI2 := Lib.hid (show InN ps M.nodes.length by rw [hN]; exact hI)
 generalize hQ : ps.length = q at *
 have HQ := Lib.hid hQ
 have hn : n ≤ 281474976710656 := Nat.le_trans hnc hc'
 clear hN hI hnc hc' h8
 go_enter Tryz.func128, Tryz.ntmps128
 have m0 := box_cell w #[.slice A n c, s1, s2, s3, s4] 27 0 _ rfl
 have m1 := box_cell w #[.slice A n c, s1, s2, s3, s4] 27 1 _ rfl
 have m2 := box_cell w #[.slice A n c, s1, s2, s3, s4] 27 2 _ rfl
 have m3 := box_cell w #[.slice A n c, s1, s2, s3, s4] 27 3 _ rfl
 have m4 := box_cell w #[.slice A n c, s1, s2, s3, s4] 27 4 _ rfl
 have HB := Lib.hid (box_below w #[.slice A n c, s1, s2, s3, s4] 27)
 go_upto_region 1 with fail
 generalize w.alloc (Obj.cells #[.slice A n c, s1, s2, s3, s4] 27) = w1 at *
 have m0 : ∀ u : Later w1, u.val.cell? ⟨w.heap.size, 0, none⟩ = some (.slice A n c) := m0
 have m1 : ∀ u : Later w1, u.val.cell? ⟨w.heap.size, 1, none⟩ = some s1 := m1
 have m2 : ∀ u : Later w1, u.val.cell? ⟨w.heap.size, 2, none⟩ = some s2 := m2
 have m3 : ∀ u : Later w1, u.val.cell? ⟨w.heap.size, 3, none⟩ = some s3 := m3
 have m4 : ∀ u : Later w1, u.val.cell? ⟨w.heap.size, 4, none⟩ = some s4 := m4
 refine at_world (w := w1) ?_
 intro u0
 go_upto_region 2 with (go_at_call 191; refine (zeros_calls _ _ M ps _ ((HM.out.below HB.out).later u0) ((HP.out.below HB.out).later u0) HI2.out (by rw [HQ.out]; exact HSZ.out)).mono ?_; rintro e w2 ⟨v, svs, rfl, hb, hac⟩; have HRV := Lib.hid ((hac.mono u0.size).rowVs (by rw [zerosN_length, HQ.out]; have := HSZ.out; omega)); have HL2 := Lib.hid (laterC_step (w1 := w1) ⟨u0, rfl⟩ hb); clear hb hac)
 rw [HQ.out] at HRV
 clear m1 m2 m3 m4 hQ
 go_wp2
 go_loopw [2, 17] (fun cc i wr => ∃ (k : Nat) (L : List (List Int)) (cv : Int), k ≤ q ∧ i = .int .i64 k ∧ cc = .int .i64 cv ∧ Hid (cv = code / 2 ^ (bitsTo M.nodes ps k).toNat ∧ RowVs w1.heap.size wr v svs L ∧ OutOf M.nodes ps code q k L) ∧ LaterC w1 wr) (fun _ i _ => q - (intOf i).toNat)
 case atStart => exact ⟨0, _, code, Nat.zero_le _, rfl, rfl, Lib.hid ⟨by simp [bitsTo], HRV.out, outOf_zeros _ _ _ _⟩, HL2.out⟩
 case round =>
  obtain ⟨k, L, cv, hk, rfl, rfl, HR, ⟨u, rfl⟩⟩ := hrel
  by_cases hlt : k < q
  · have hlt' : (k : Int) < q := by omega
    have hgp := getD_at (show k < ps.length by rw [HQ.out]; exact hlt) 0
    obtain ⟨p, hp, hpn⟩ := HI2.out k _ hgp
    obtain ⟨bp, op, rfl, hpx⟩ := hB k _ hgp
    have hgn := getD_at hpn Nd.zero
    obtain ⟨bn, on, rfl, hnx⟩ := hA p _ hgn
    have hpn2 : p < n := by rw [← HN.out]; exact hpn
    have hnd : ndAt M.nodes ps k = M.nodes.getD p Nd.zero := by unfold ndAt; rw [hp]; rfl
    have HCK := Lib.hid (fun (j : Nat) (hj : (j : Int) < cellsN (ndAt M.nodes ps k).idx (ndAt M.nodes ps k).wid) => HCU.out k j hlt hj)
    have HRG := Lib.hid (fun (j : Nat) (hj : (j : Int) < cellsN (ndAt M.nodes ps k).idx (ndAt M.nodes ps k).wid) => rowU_get (code := code) hj)
    have HBT := Lib.hid (show bitsTo M.nodes ps (k + 1) = bitsTo M.nodes ps k + cellsN (ndAt M.nodes ps k).idx (ndAt M.nodes ps k).wid * (ndAt M.nodes ps k).wid by rw [bitsTo, (cells_bits _ _).1])
    have hcb := cells_bits (ndAt M.nodes ps k).idx (ndAt M.nodes ps k).wid
    obtain ⟨m, hm⟩ := Int.eq_ofNat_of_zero_le hcb.2.2.1
    have hm4 : m ≤ 4 := by omega
    have HC := Lib.hid (show (cellsN (ndAt M.nodes ps k).idx (ndAt M.nodes ps k).wid).toNat = m by rw [hm]; rfl)
    unfold CellU at HCK
    rw [hm] at HCK HRG HBT
    rw [hnd] at HCK HRG HBT
    rw [hp] at hpx
    have HMID := Lib.hid (HR.out.2.2.mid hlt HC.out)
    have p0 : ∀ l : Later w1, l.val.cell? ⟨bp, op + k, none⟩ = some (.int .i64 (p : Int)) := hpx.int HB.out
    have p7 : ∀ l : Later w1, l.val.cell? ⟨bn, on + p * 9 + 7, none⟩ = some (.int .i64 (M.nodes.getD p Nd.zero).wid) := hnx.at_ HB.out 7 _ rfl
    generalize (M.nodes.getD p Nd.zero).wid = ww at *
    obtain ⟨g, cap, hv, hcap, sv, hsv, hcell⟩ := HR.out.2.1.outer (k := k) (by rw [HR.out.2.2.1]; exact hlt)
    rw [HR.out.2.2.1] at hv hcap
    subst hv
    have hgl := getD_at (show k < L.length by rw [HR.out.2.2.1]; exact hlt) []
    obtain ⟨As, cs, hsve⟩ := (HR.out.2.1.2.2.2.1 k sv _ hsv hgl).1.shape
    rw [HMID.out.2.2.2.1] at hsve
    subst hsve
    have HSV := Lib.hid hsv
    clear hgp hgn hpx hnx hp hpn hA hB hnd hcb hm hsv hgl
    go_wp2
    go_loopw [2, 35] (fun cc j wr => ∃ (jj : Nat) (L2 : List (List Int)) (cj : Int), jj ≤ m ∧ j = .int .i64 jj ∧ cc = .int .i64 cj ∧ Hid (cj = code / 2 ^ (bitsTo M.nodes ps k + jj * ww).toNat ∧ RowVs w1.heap.size wr (.slice (some ⟨g, 0, none⟩) q cap) svs L2 ∧ MidOf M.nodes ps code q k m jj L2) ∧ LaterC w1 wr) (fun _ j _ => m - (intOf j).toNat)
    case atStart => exact ⟨0, L, cv, Nat.zero_le _, rfl, rfl, Lib.hid ⟨by rw [HR.out.1]; simp, HR.out.2.1, HMID.out⟩, ⟨u, rfl⟩⟩
    case round =>
     obtain ⟨jj, L2, cj, hj, rfl, rfl, HR2, ⟨v0, rfl⟩⟩ := hrel
     by_cases hlt2 : jj < m
     · have hlt2' : (jj : Int) < m := by omega
       have hck := HCK.out jj hlt2'
       have HRG2 := Lib.hid (HRG.out jj hlt2')
       have HAJ := Lib.hid (show bitsTo M.nodes ps k + ((jj + 1 : Nat) : Int) * ww = bitsTo M.nodes ps k + jj * ww + ww by push_cast; rw [Int.add_mul]; omega)
       obtain ⟨h1, h2, h3⟩ := hck
       generalize bitsTo M.nodes ps k + jj * ww = aj at *
       have hq1 := pow_pos_i aj
       have hq3 := pow_pos_i ww
       have hq4 : (2 : Int) ^ ww.toNat ≤ 256 := pow_le_i (by omega) (by omega)
       have hcj0 : 0 ≤ cj := by rw [HR2.out.1]; exact Int.ediv_nonneg hc0 (by omega)
       have hcj1 : cj ≤ 65535 := by rw [HR2.out.1]; have := Int.ediv_le_self (b := 2 ^ aj.toNat) hc0; omega
       obtain ⟨g', cap', hv, -, sv', hsv', hcell'⟩ := HR2.out.2.1.outer (k := k) (by rw [HR2.out.2.2.1]; exact hlt)
       rw [HR2.out.2.2.1] at hv
       cases hv
       rw [HSV.out] at hsv'
       cases hsv'
       have hgl2 := getD_at (show k < L2.length by rw [HR2.out.2.2.1]; exact hlt) []
       have hrk := HR2.out.2.1.2.2.2.1 k _ _ HSV.out hgl2
       obtain ⟨gk, capk, hse, hck0, hfr, hgk⟩ := hrk.1.cellAt (j := jj) (by rw [HR2.out.2.2.2.2.2.1]; exact hlt2)
       rw [HR2.out.2.2.2.2.2.1] at hse
       cases hse
       have HGK := Lib.hid (hrk.2 gk rfl).1
       have c0 := Later.cell hcell'
       have d0 := Later.cell hck0
       have f0 : ∀ l : Later v0.val, l.val.frozen? ⟨gk, jj, none⟩ = false := Later.frozen hfr hgk
       have HGL2 := Lib.hid hgl2
       generalize (L2.getD k []).getD jj 0 = y0 at *
       have HAM := Lib.hid (and_mask cj ww.toNat (by omega))
       clear hcell hcell' hck0 hfr hrk hgl2
       go_wp2
       refine wp_region_later_tail (w0 := v0.val) 11 (by kernel_rfl) (by kernel_rfl) (LaterC.refl _) ?_
       simp only [List.take_succ_cons, List.take_zero, List.drop_succ_cons, List.drop_zero]
       repeat (go_big_quiet_step ((go_at_call 80; exact Calls.later (Makes.of_same (mask_same ww _ (by omega) (by omega))))))
       refine wpQuiet_nil ?_
       rintro _ ⟨u1, rfl⟩
       go_wp2
       go_roundw
       case rel =>
        have hrv := (HR2.out.2.1.below u1.prop).setAt HSV.out HGL2.out (j := jj) (by rw [HR2.out.2.2.2.2.2.1]; exact hlt2) (bits .and .i64 cj (2 ^ ww.toNat - 1))
        have hmid := HR2.out.2.2.step hlt hlt2 (y := bits .and .i64 cj (2 ^ ww.toNat - 1)) (by rw [HRG2.out, HAM.out, HR2.out.1])
        refine ⟨jj + 1, _, cj / 2 ^ ww.toNat, by omega, by go_num, rfl, Lib.hid ⟨?_, hrv, hmid⟩, LaterC.setCell' (LaterC.trans ⟨v0, rfl⟩ ⟨u1, rfl⟩) _ _ HGK.out⟩
        rw [HAJ.out, HR2.out.1, div_pow_step h1 (by omega)]
       case measure => simp [intOf] <;> omega
     · obtain rfl : jj = m := by omega
       go_wp2
       go_roundw
       case rel => exact ⟨k + 1, L2, cj, by omega, by go_num, rfl, Lib.hid ⟨by rw [HR2.out.1, HBT.out], HR2.out.2.1, HR2.out.2.2.out HC.out⟩, ⟨v0, rfl⟩⟩
       case measure => simp [intOf] <;> omega
  · obtain rfl : k = q := by omega
    have HU := Lib.hid (unpack_of HR.out.2.2.1 fun j hj => HR.out.2.2.2.1 j hj)
    clear hA hB
    go_wp2
    go_ret
    exact ⟨v, svs, rfl, u.back HB.out, by rw [← HU.out]; exact HR.out.2.1.mono HB.out.size⟩
theorem bits_and_nat (a b : Nat) (ha : a < 2 ^ 62) (hb : b < 2 ^ 62) : Go.bits .and .i64 a b = ((a &&& b : Nat) : Int) :=
 (bits_nat .i64 62 (by decide) (fun n h0 h1 => wrap_i64_id (by omega) (by omega)) a b ha hb).1
theorem bits_xor_nat (a b : Nat) (ha : a < 2 ^ 62) (hb : b < 2 ^ 62) : Go.bits .xor .i64 a b = ((a ^^^ b : Nat) : Int) := by
 have ha' : a % 2 ^ 64 = a := Nat.mod_eq_of_lt (by omega)
 have hb' : b % 2 ^ 64 = b := Nat.mod_eq_of_lt (by omega)
 have hx : a ^^^ b < 2 ^ 62 := Nat.xor_lt_two_pow ha hb
 show IntKind.i64.wrap ((BitVec.ofInt 64 (a : Int) ^^^ BitVec.ofInt 64 (b : Int)).toNat : Int) = _
 rw [BitVec.ofInt_natCast, BitVec.ofInt_natCast, BitVec.toNat_xor, BitVec.toNat_ofNat, BitVec.toNat_ofNat, ha', hb']
 exact wrap_i64_id (by omega) (by omega)
def btN (n i : Nat) : Nat := n / 2 ^ i % 2
theorem btN_lt (n i : Nat) : btN n i < 2 := Nat.mod_lt _ (by decide)
theorem btN_test (n i : Nat) : btN n i = (n.testBit i).toNat := by
 rw [Nat.testBit_eq_decide_div_mod_eq]
 unfold btN
 have := Nat.mod_lt (n / 2 ^ i) (show 0 < 2 by decide)
 by_cases h : n / 2 ^ i % 2 = 1
 · simp [h]
 · have : n / 2 ^ i % 2 = 0 := by omega
   simp [this]
theorem mod_step (n i : Nat) : n % 2 ^ (i + 1) = n % 2 ^ i + btN n i * 2 ^ i := by
 rw [Nat.pow_succ, Nat.mod_mul, Nat.mul_comm]; rfl
theorem btN_and (a b i : Nat) : btN (a &&& b) i = btN a i * btN b i := by
 simp only [btN_test, Nat.testBit_and]
 cases a.testBit i <;> cases b.testBit i <;> rfl
theorem btN_or (a b i : Nat) : btN (a ||| b) i = btN a i + btN b i - btN a i * btN b i := by
 simp only [btN_test, Nat.testBit_or]
 cases a.testBit i <;> cases b.testBit i <;> rfl
theorem btN_xor (a b i : Nat) : btN (a ^^^ b) i = (btN a i + btN b i) % 2 := by
 simp only [btN_test, Nat.testBit_xor]
 cases a.testBit i <;> cases b.testBit i <;> rfl
theorem btN_shr (a b i : Nat) : btN (a / 2 ^ b) i = btN a (i + b) := by
 unfold btN
 rw [Nat.div_div_eq_div_mul, ← Nat.pow_add, Nat.add_comm b i]
theorem btN_big {a w i : Nat} (h : a < 2 ^ w) (hi : w ≤ i) : btN a i = 0 := by
 unfold btN
 rw [Nat.div_eq_of_lt (Nat.lt_of_lt_of_le h (Nat.pow_le_pow_right (by decide) hi))]
structure Wd (w : Int) : Prop where
 lo : 1 ≤ w
 hi : w ≤ 16
theorem Wd.pos {w : Int} (_h : Wd w) : (0 : Int) < 2 ^ w.toNat := two_pow_pos _
theorem Wd.le {w : Int} (h : Wd w) : (2 : Int) ^ w.toNat ≤ 65536 := by
 have := two_pow_le (i := w.toNat) (j := 16) (by have := h.hi; omega)
 omega
theorem Wd.ge {w : Int} (h : Wd w) : (2 : Int) ≤ 2 ^ w.toNat := by
 have := two_pow_le (i := 1) (j := w.toNat) (by have := h.lo; omega)
 omega
theorem Wd.half {w : Int} (h : Wd w) : (2 : Int) ^ w.toNat = 2 * 2 ^ (w - 1).toNat := by
 have e : w.toNat = (w - 1).toNat + 1 := by have := h.lo; omega
 rw [e, Int.pow_succ, Int.mul_comm]
theorem Wd.hpos {w : Int} (_h : Wd w) : (1 : Int) ≤ 2 ^ (w - 1).toNat := by have := two_pow_pos (w - 1).toNat; omega
def wok (w v : Int) : Bool := decide (1 ≤ w ∧ w ≤ 16 ∧ 0 ≤ v ∧ v < 2 ^ w.toNat)
structure Wo (w v : Int) : Prop where
 wd : Wd w
 lo : 0 ≤ v
 hi : v < 2 ^ w.toNat
theorem wok_iff {w v : Int} : wok w v = true ↔ Wo w v := by
 unfold wok
 rw [decide_eq_true_iff]
 exact ⟨fun h => ⟨⟨h.1, h.2.1⟩, h.2.2.1, h.2.2.2⟩, fun h => ⟨h.wd.lo, h.wd.hi, h.lo, h.hi⟩⟩
theorem Wo.is {w v : Int} (h : Wo w v) : wok w v = true := wok_iff.2 h
theorem Wo.top {w v : Int} (h : Wo w v) : v < 65536 := by have := h.wd.le; have := h.hi; omega
def sg (w v : Int) : Int := if v < 2 ^ (w - 1).toNat then v else v - 2 ^ w.toNat
theorem sg_bounds {w v : Int} (h : Wo w v) : -2 ^ (w - 1).toNat ≤ sg w v ∧ sg w v < 2 ^ (w - 1).toNat := by
 have := h.lo; have := h.hi; have := h.wd.half
 unfold sg; split <;> omega
theorem sg_small {w v : Int} (h : Wo w v) : -32768 ≤ sg w v ∧ sg w v ≤ 32767 := by
 have := sg_bounds h; have := h.wd.half; have := h.wd.le; omega
theorem sg_of_mod {w n : Int} (h : Wd w) (h0 : -2 ^ (w - 1).toNat ≤ n) (h1 : n < 2 ^ (w - 1).toNat) : sg w (n % 2 ^ w.toNat) = n := by
 have e := h.half
 have p := h.pos
 unfold sg
 by_cases hn : 0 ≤ n
 · have : n % 2 ^ w.toNat = n := Int.emod_eq_of_lt hn (by omega)
   rw [this, if_pos h1]
 · have : n % 2 ^ w.toNat = n + 2 ^ w.toNat := by
    rw [← Int.add_emod_right]
    exact Int.emod_eq_of_lt (by omega) (by omega)
   rw [this, if_neg (by omega)]; omega
theorem mod_wo {w : Int} (h : Wd w) (n : Int) : Wo w (n % 2 ^ w.toNat) :=
 ⟨h, Int.emod_nonneg _ (by have := h.pos; omega), Int.emod_lt_of_pos _ h.pos⟩
theorem tmod_fix (n T : Int) (h : 0 < T) : (if Int.tmod n T < 0 then Int.tmod n T + T else Int.tmod n T) = n % T := by
 by_cases hn : 0 ≤ n
 · rw [Int.tmod_eq_emod_of_nonneg hn, if_neg]
   have := Int.emod_nonneg n (show T ≠ 0 by omega); omega
 · have h1 := Int.tmod_eq_emod (a := n) (b := T)
   have h2 := Int.emod_nonneg n (show T ≠ 0 by omega)
   have h3 := Int.emod_lt_of_pos n h
   have habs : (T.natAbs : Int) = T := by omega
   by_cases hd : T ∣ n
   · have hz : n % T = 0 := Int.emod_eq_zero_of_dvd hd
     rw [if_pos (show 0 ≤ n ∨ T ∣ n from .inr hd)] at h1
     rw [h1, hz]; simp
   · rw [if_neg (show ¬ (0 ≤ n ∨ T ∣ n) by rintro (h | h) <;> contradiction), habs] at h1
     rw [h1, if_pos (by omega)]; omega
theorem tmod_bound (n T : Int) (h : 0 < T) : -T < Int.tmod n T ∧ Int.tmod n T < T := ⟨Int.lt_tmod_of_pos n h, Int.tmod_lt_of_pos n h⟩
def T2 (w : Int) : Int := 2 ^ w.toNat
def sdv (w a b : Int) : Int := if sg w b = 0 then (if sg w a < 0 then 1 else 2 ^ w.toNat - 1) else Int.tdiv (sg w a) (sg w b) % 2 ^ w.toNat
def srm (w a b : Int) : Int := if sg w b = 0 then a else Int.tmod (sg w a) (sg w b) % 2 ^ w.toNat
def lw (w b : Int) : Int := if w < b then w else b
def rolv (w a c : Int) : Int := a * 2 ^ c.toNat % 2 ^ w.toNat + a / 2 ^ (w - c).toNat
def rolc (w b : Int) : Int := Int.tmod b w
def rorc (w b : Int) : Int := Int.tmod (w - Int.tmod b w) w
def op2 (kind w a b : Int) : Int :=
 if kind = 6 then ((a.toNat &&& b.toNat : Nat) : Int) else if kind = 7 then ((a.toNat ||| b.toNat : Nat) : Int) else if kind = 8 then ((a.toNat ^^^ b.toNat : Nat) : Int)
 else if kind = 9 then (a + b) % 2 ^ w.toNat else if kind = 10 then (a - b) % 2 ^ w.toNat else if kind = 11 then a * b % 2 ^ w.toNat
 else if kind = 12 then (if b = 0 then 2 ^ w.toNat - 1 else a / b) else if kind = 13 then (if b = 0 then a else a % b)
 else if kind = 14 then sdv w a b else if kind = 15 then srm w a b
 else if kind = 16 then a * 2 ^ (lw w b).toNat % 2 ^ w.toNat else if kind = 17 then a / 2 ^ (lw w b).toNat else if kind = 18 then sg w a / 2 ^ (lw w b).toNat % 2 ^ w.toNat
 else if kind = 19 then rolv w a (rolc w b) else rolv w a (rorc w b)
def says (kind w a b : Int) : Bool :=
 if kind = 21 then decide (a = b) else if kind = 22 then decide (a < b) else if kind = 23 then decide (sg w a < sg w b) else if kind = 24 then decide (a ≤ b) else if kind = 25 then decide (sg w a ≤ sg w b)
 else if kind = 26 then decide (2 ^ w.toNat ≤ a + b) else if kind = 27 then !decide (-2 ^ (w - 1).toNat ≤ sg w a + sg w b ∧ sg w a + sg w b < 2 ^ (w - 1).toNat) else decide (2 ^ w.toNat ≤ a * b)
def yes (b : Bool) : Int := if b = true then 1 else 0
theorem two_cases {kind : Int} (h0 : 6 ≤ kind) (h1 : kind ≤ 28) : kind = 6 ∨ kind = 7 ∨ kind = 8 ∨ kind = 9 ∨ kind = 10 ∨ kind = 11 ∨ kind = 12 ∨ kind = 13 ∨ kind = 14 ∨ kind = 15 ∨ kind = 16 ∨ kind = 17 ∨ kind = 18 ∨ kind = 19 ∨ kind = 20 ∨ kind = 21 ∨ kind = 22 ∨ kind = 23 ∨ kind = 24 ∨ kind = 25 ∨ kind = 26 ∨ kind = 27 ∨ kind = 28 := by omega
theorem nat_two_pow_cast (n : Nat) : (((2 ^ n : Nat)) : Int) = 2 ^ n := by simp
theorem sar_nat (w m a : Nat) (hm : m ≤ w) (ha : a < 2 ^ w) : (((a : Int) - 2 ^ w) / 2 ^ m) % 2 ^ w = ((a / 2 ^ m + (2 ^ w - 2 ^ (w - m)) : Nat) : Int) := by
 have e : (2 : Int) ^ w = 2 ^ m * 2 ^ (w - m) := by rw [← Int.pow_add]; congr 1; omega
 have e1 : ((a : Int) - 2 ^ w) / 2 ^ m = (a : Int) / 2 ^ m - 2 ^ (w - m) := by
  rw [e]
  have := Int.sub_mul_ediv_left (a : Int) (2 ^ (w - m)) (show (2 : Int) ^ m ≠ 0 by have := two_pow_pos m; omega)
  rw [← this]
 have hy : a / 2 ^ m < 2 ^ (w - m) := by
  rw [Nat.div_lt_iff_lt_mul (Nat.two_pow_pos m), ← Nat.pow_add]
  rwa [show w - m + m = w by omega]
 have hle : 2 ^ (w - m) ≤ 2 ^ w := Nat.pow_le_pow_right (by decide) (by omega)
 have c1 : ((a / 2 ^ m : Nat) : Int) = (a : Int) / 2 ^ m := by rw [Int.natCast_ediv, nat_two_pow_cast]
 rw [e1, ← c1, ← Int.add_emod_right]
 have c2 := nat_two_pow_cast (w - m)
 have c3 := nat_two_pow_cast w
 rw [← c2, ← c3]
 clear e e1 c1 c2 c3
 generalize 2 ^ (w - m) = h at *
 generalize 2 ^ w = T at *
 generalize a / 2 ^ m = q at *
 rw [Int.emod_eq_of_lt (by omega) (by omega)]
 omega
theorem pow_nat_le {i j : Nat} (h : i ≤ j) : 2 ^ i ≤ 2 ^ j := Nat.pow_le_pow_right (by decide) h
theorem word_nat {w v : Int} (h : Wo w v) : ∃ W V : Nat, w = W ∧ v = V ∧ 1 ≤ W ∧ W ≤ 16 ∧ V < 2 ^ W := by
 have := h.wd.lo; have := h.wd.hi; have h0 := h.lo
 refine ⟨w.toNat, v.toNat, by omega, by omega, by omega, by omega, ?_⟩
 have := h.hi
 have hc := nat_two_pow_cast w.toNat
 omega
theorem btN_shl (A b i : Nat) : btN (A * 2 ^ b) i = if i < b then 0 else btN A (i - b) := by
 rw [btN_test, btN_test, Nat.mul_comm, Nat.testBit_two_pow_mul]
 by_cases h : i < b
 · simp [h, show ¬ b ≤ i by omega]
 · simp [h, show b ≤ i by omega]
def sarN (w m A s : Nat) : Nat := 2 ^ (w - m) * (s * (2 ^ m - 1)) + A / 2 ^ m
theorem div_pow_lt {w m A : Nat} (hm : m ≤ w) (ha : A < 2 ^ w) : A / 2 ^ m < 2 ^ (w - m) := by
 rw [Nat.div_lt_iff_lt_mul (Nat.two_pow_pos m), ← Nat.pow_add]
 rwa [show w - m + m = w by omega]
theorem btN_sarN {w m A s i : Nat} (hm : m ≤ w) (ha : A < 2 ^ w) (hs : s < 2) (hi : i < w) : btN (sarN w m A s) i = if i + m < w then btN A (i + m) else s := by
 unfold sarN
 rw [btN_test, Nat.testBit_two_pow_mul_add _ (div_pow_lt hm ha)]
 by_cases h : i + m < w
 · rw [if_pos (by omega), if_pos h, ← btN_test, btN_shr]
 · rw [if_neg (by omega), if_neg h]
   rcases (show s = 0 ∨ s = 1 by omega) with rfl | rfl
   · simp
   · rw [Nat.one_mul, Nat.testBit_two_pow_sub_one]
     simp [show i - (w - m) < m by omega]
theorem sarN_lt {w m A s : Nat} (hm : m ≤ w) (ha : A < 2 ^ w) (hs : s < 2) : sarN w m A s < 2 ^ w := by
 unfold sarN
 have h1 := div_pow_lt hm ha
 have h2 : 2 ^ (w - m) * (s * (2 ^ m - 1)) + 2 ^ (w - m) ≤ 2 ^ w := by
  have e : 2 ^ w = 2 ^ (w - m) * 2 ^ m := by rw [← Nat.pow_add]; congr 1; omega
  rw [e, ← Nat.mul_succ]
  refine Nat.mul_le_mul_left _ ?_
  have hp := Nat.two_pow_pos m
  rcases (show s = 0 ∨ s = 1 by omega) with rfl | rfl <;> omega
 omega
theorem sarN_zero (w m A : Nat) : sarN w m A 0 = A / 2 ^ m := by simp [sarN]
theorem sarN_one (w m A : Nat) (hm : m ≤ w) : sarN w m A 1 = A / 2 ^ m + (2 ^ w - 2 ^ (w - m)) := by
 unfold sarN
 have e : 2 ^ w = 2 ^ (w - m) * 2 ^ m := by rw [← Nat.pow_add]; congr 1; omega
 rw [e, Nat.one_mul, Nat.mul_sub, Nat.mul_one]
 omega
def rolN (h c A i : Nat) : Nat := A % 2 ^ min i h * 2 ^ c + A % 2 ^ i / 2 ^ h
theorem rolN_step (w c A i : Nat) (hc : c < w) (hi : i < w) : rolN (w - c) c A (i + 1) = rolN (w - c) c A i + btN A i * 2 ^ ((i + c) % w) := by
 unfold rolN
 by_cases h : i < w - c
 · rw [Nat.min_eq_left (by omega), Nat.min_eq_left (by omega), Nat.mod_eq_of_lt (a := i + c) (by omega), mod_step, Nat.add_mul, Nat.mul_assoc, ← Nat.pow_add]
   have h1 : (A % 2 ^ i + btN A i * 2 ^ i) / 2 ^ (w - c) = 0 := by
    rw [← mod_step]
    exact Nat.div_eq_of_lt (Nat.lt_of_lt_of_le (Nat.mod_lt _ (Nat.two_pow_pos _)) (pow_nat_le (by omega)))
   have h2 : A % 2 ^ i / 2 ^ (w - c) = 0 := Nat.div_eq_of_lt (Nat.lt_of_lt_of_le (Nat.mod_lt _ (Nat.two_pow_pos _)) (pow_nat_le (by omega)))
   rw [h1, h2]; omega
 · rw [Nat.min_eq_right (by omega), Nat.min_eq_right (by omega), mod_step]
   have e1 : (i + c) % w = i - (w - c) := by
    rw [show i + c = (i - (w - c)) + w by omega, Nat.add_mod_right, Nat.mod_eq_of_lt (by omega)]
   have e2 : 2 ^ i = 2 ^ (w - c) * 2 ^ (i - (w - c)) := by rw [← Nat.pow_add]; congr 1; omega
   have e3 : A % 2 ^ i + btN A i * 2 ^ i = A % 2 ^ i + 2 ^ (w - c) * (btN A i * 2 ^ (i - (w - c))) := by
    congr 1
    conv => lhs; rw [e2]
    rw [Nat.mul_left_comm]
   rw [e1, e3, Nat.add_mul_div_left _ _ (Nat.two_pow_pos _)]
   omega
theorem rolN_le (w c A i : Nat) (hc : c < w) (hi : i ≤ w) (_ha : A < 2 ^ w) : rolN (w - c) c A i < 2 ^ w + 2 ^ w := by
 unfold rolN
 have h1 : A % 2 ^ min i (w - c) * 2 ^ c < 2 ^ w := by
  have h2 : A % 2 ^ min i (w - c) < 2 ^ (w - c) := Nat.lt_of_lt_of_le (Nat.mod_lt _ (Nat.two_pow_pos _)) (pow_nat_le (Nat.min_le_right _ _))
  have e : 2 ^ w = 2 ^ (w - c) * 2 ^ c := by rw [← Nat.pow_add]; congr 1; omega
  rw [e]
  exact Nat.mul_lt_mul_of_pos_right h2 (Nat.two_pow_pos c)
 have h3 : A % 2 ^ i / 2 ^ (w - c) < 2 ^ w := Nat.lt_of_le_of_lt (Nat.div_le_self _ _) (Nat.lt_of_lt_of_le (Nat.mod_lt _ (Nat.two_pow_pos _)) (pow_nat_le hi))
 omega
theorem rolN_end (w c A : Nat) (hc : c < w) (ha : A < 2 ^ w) : ((rolN (w - c) c A w : Nat) : Int) = rolv (w : Int) (A : Int) (c : Int) := by
 unfold rolN rolv
 have e1 : ((w : Int) - (c : Int)).toNat = w - c := by omega
 have e : 2 ^ w = 2 ^ (w - c) * 2 ^ c := by rw [← Nat.pow_add]; congr 1; omega
 rw [e1, Int.toNat_natCast, Int.toNat_natCast, Nat.min_eq_right (by omega), Nat.mod_eq_of_lt ha, ← Nat.mul_mod_mul_right, ← e]
 push_cast
 rfl
theorem rol_or (w c A : Nat) (hc : c < w) (ha : A < 2 ^ w) : (A * 2 ^ c ||| A / 2 ^ (w - c)) % 2 ^ w = rolN (w - c) c A w := by
 have hy : A / 2 ^ (w - c) < 2 ^ c := by have := div_pow_lt (m := w - c) (by omega) ha; rwa [show w - (w - c) = c by omega] at this
 have hyw : A / 2 ^ (w - c) < 2 ^ w := Nat.lt_of_lt_of_le hy (pow_nat_le (by omega))
 have e : 2 ^ w = 2 ^ (w - c) * 2 ^ c := by rw [← Nat.pow_add]; congr 1; omega
 rw [Nat.or_mod_two_pow, Nat.mod_eq_of_lt hyw]
 unfold rolN
 rw [Nat.min_eq_right (by omega), Nat.mod_eq_of_lt (a := A) ha]
 conv => lhs; lhs; rw [e]
 rw [Nat.mul_mod_mul_right, Nat.mul_comm _ (2 ^ c), ← Nat.two_pow_add_eq_or_of_lt hy]
theorem lw_nat (w b : Nat) : lw (w : Int) (b : Int) = ((min w b : Nat) : Int) := by
 unfold lw; split <;> omega
theorem shl_lw (w A b : Nat) : A * 2 ^ b % 2 ^ w = A * 2 ^ min w b % 2 ^ w := by
 by_cases h : b ≤ w
 · rw [Nat.min_eq_right h]
 · rw [Nat.min_eq_left (by omega), show b = w + (b - w) by omega, Nat.pow_add, Nat.mul_left_comm, Nat.mul_mod_right, Nat.mul_mod_left]
theorem shr_lw (w A b : Nat) (hA : A < 2 ^ w) : A / 2 ^ b = A / 2 ^ min w b := by
 by_cases h : b ≤ w
 · rw [Nat.min_eq_right h]
 · rw [Nat.min_eq_left (by omega), Nat.div_eq_of_lt hA, Nat.div_eq_of_lt (Nat.lt_of_lt_of_le hA (pow_nat_le (by omega)))]
theorem sar_lw (w A m : Nat) (hw : 1 ≤ w) (hA : A < 2 ^ w) (hm : m ≤ w) : sg (w : Int) (A : Int) / 2 ^ m % 2 ^ w = ((sarN w m A (btN A (w - 1)) : Nat) : Int) := by
 have hc := nat_two_pow_cast (w - 1)
 have e : 2 ^ w = 2 * 2 ^ (w - 1) := by rw [← Nat.pow_succ']; congr 1; omega
 unfold sg
 rw [show ((w : Int) - 1).toNat = w - 1 by omega, Int.toNat_natCast]
 have hq : btN A (w - 1) = if A < 2 ^ (w - 1) then 0 else 1 := by
  unfold btN
  by_cases h : A < 2 ^ (w - 1)
  · rw [if_pos h, Nat.div_eq_of_lt h]
  · rw [if_neg h]
    have h1 : A / 2 ^ (w - 1) = 1 := by
     have := Nat.div_lt_of_lt_mul (m := A) (n := 2 ^ (w - 1)) (k := 2) (by omega)
     have := Nat.div_pos (a := A) (b := 2 ^ (w - 1)) (by omega) (Nat.two_pow_pos _)
     omega
    rw [h1]
 by_cases h : A < 2 ^ (w - 1)
 · rw [if_pos h] at hq
   rw [if_pos (by omega), hq, sarN_zero]
   have h2 : A / 2 ^ m < 2 ^ w := Nat.lt_of_le_of_lt (Nat.div_le_self _ _) hA
   have c1 : ((A / 2 ^ m : Nat) : Int) = (A : Int) / 2 ^ m := by rw [Int.natCast_ediv, nat_two_pow_cast]
   rw [← c1]
   exact Int.emod_eq_of_lt (Int.natCast_nonneg _) (by rw [← nat_two_pow_cast w]; exact Int.ofNat_lt.2 h2)
 · rw [if_neg h] at hq
   rw [if_neg (by omega), hq, sarN_one w m A hm]
   exact sar_nat w m A hm hA
def p1 (a : Nat) : Nat := (a / 2 &&& 6148914691236517205) + (a &&& 6148914691236517205)
def p2 (a : Nat) : Nat := (a / 4 &&& 3689348814741910323) + (a &&& 3689348814741910323)
def p3 (a : Nat) : Nat := (a / 16 + a) &&& 1085102592571150095
def p4 (a : Nat) : Nat := a + a / 256
def p5 (a : Nat) : Nat := a + a / 65536
def p6 (a : Nat) : Nat := a + a / 4294967296
def pc (a : Nat) : Nat := p6 (p5 (p4 (p3 (p2 (p1 a))))) &&& 127
def ones : Nat → Nat → Nat
 | 0, _ => 0
 | n + 1, a => a % 2 + ones n (a / 2)
def sameP (a : Nat) : Bool := pc a % 2 == ones 16 a % 2
def allTo : Nat → (Nat → Bool) → Bool
 | 0, _ => true
 | n + 1, f => f n && allTo n f
theorem allTo_at {f : Nat → Bool} {n : Nat} (h : allTo n f = true) : ∀ i, i < n → f i = true := by
 induction n with
 | zero => intro i hi; omega
 | succ n ih =>
   intro i hi
   simp only [allTo, Bool.and_eq_true] at h
   rcases Nat.lt_or_ge i n with g | g
   · exact ih h.2 i g
   · obtain rfl : i = n := by omega
     exact h.1
theorem sameP_0 : allTo 16 (fun h => allTo 256 fun l => sameP (256 * (16 * 0 + h) + l)) = true := by decide +kernel
theorem sameP_1 : allTo 16 (fun h => allTo 256 fun l => sameP (256 * (16 * 1 + h) + l)) = true := by decide +kernel
theorem sameP_2 : allTo 16 (fun h => allTo 256 fun l => sameP (256 * (16 * 2 + h) + l)) = true := by decide +kernel
theorem sameP_3 : allTo 16 (fun h => allTo 256 fun l => sameP (256 * (16 * 3 + h) + l)) = true := by decide +kernel
theorem sameP_4 : allTo 16 (fun h => allTo 256 fun l => sameP (256 * (16 * 4 + h) + l)) = true := by decide +kernel
theorem sameP_5 : allTo 16 (fun h => allTo 256 fun l => sameP (256 * (16 * 5 + h) + l)) = true := by decide +kernel
theorem sameP_6 : allTo 16 (fun h => allTo 256 fun l => sameP (256 * (16 * 6 + h) + l)) = true := by decide +kernel
theorem sameP_7 : allTo 16 (fun h => allTo 256 fun l => sameP (256 * (16 * 7 + h) + l)) = true := by decide +kernel
theorem sameP_8 : allTo 16 (fun h => allTo 256 fun l => sameP (256 * (16 * 8 + h) + l)) = true := by decide +kernel
theorem sameP_9 : allTo 16 (fun h => allTo 256 fun l => sameP (256 * (16 * 9 + h) + l)) = true := by decide +kernel
theorem sameP_10 : allTo 16 (fun h => allTo 256 fun l => sameP (256 * (16 * 10 + h) + l)) = true := by decide +kernel
theorem sameP_11 : allTo 16 (fun h => allTo 256 fun l => sameP (256 * (16 * 11 + h) + l)) = true := by decide +kernel
theorem sameP_12 : allTo 16 (fun h => allTo 256 fun l => sameP (256 * (16 * 12 + h) + l)) = true := by decide +kernel
theorem sameP_13 : allTo 16 (fun h => allTo 256 fun l => sameP (256 * (16 * 13 + h) + l)) = true := by decide +kernel
theorem sameP_14 : allTo 16 (fun h => allTo 256 fun l => sameP (256 * (16 * 14 + h) + l)) = true := by decide +kernel
theorem sameP_15 : allTo 16 (fun h => allTo 256 fun l => sameP (256 * (16 * 15 + h) + l)) = true := by decide +kernel
theorem sameP_all (k : Nat) (hk : k < 16) : allTo 16 (fun h => allTo 256 fun l => sameP (256 * (16 * k + h) + l)) = true := by
 rcases (show k = 0 ∨ k = 1 ∨ k = 2 ∨ k = 3 ∨ k = 4 ∨ k = 5 ∨ k = 6 ∨ k = 7 ∨ k = 8 ∨ k = 9 ∨ k = 10 ∨ k = 11 ∨ k = 12 ∨ k = 13 ∨ k = 14 ∨ k = 15 by omega) with rfl | rfl | rfl | rfl | rfl | rfl | rfl | rfl | rfl | rfl | rfl | rfl | rfl | rfl | rfl | rfl
 · exact sameP_0
 · exact sameP_1
 · exact sameP_2
 · exact sameP_3
 · exact sameP_4
 · exact sameP_5
 · exact sameP_6
 · exact sameP_7
 · exact sameP_8
 · exact sameP_9
 · exact sameP_10
 · exact sameP_11
 · exact sameP_12
 · exact sameP_13
 · exact sameP_14
 · exact sameP_15
theorem pc_parity (a : Nat) (h : a < 65536) : pc a % 2 = ones 16 a % 2 := by
 have h1 := allTo_at (allTo_at (sameP_all (a / 4096) (by omega)) (a / 256 % 16) (by omega)) (a % 256) (by omega)
 rw [show 256 * (16 * (a / 4096) + a / 256 % 16) + a % 256 = a by omega] at h1
 exact eq_of_beq h1
theorem ones_succ (n : Nat) : ∀ a, ones (n + 1) a = ones n a + btN a n := by
 induction n with
 | zero => intro a; simp [ones, btN]
 | succ n ih =>
   intro a
   have := ih (a / 2)
   rw [ones, this, ones]
   have e : btN (a / 2) n = btN a (n + 1) := by
    unfold btN; rw [Nat.div_div_eq_div_mul, ← Nat.pow_succ']
   omega
theorem ones_le (n : Nat) : ∀ a, ones n a ≤ n := by
 induction n with
 | zero => intro a; simp [ones]
 | succ n ih => intro a; have := ih (a / 2); have := Nat.mod_lt a (show 0 < 2 by decide); rw [ones]; omega
theorem ones_big {w : Nat} {a : Nat} (h : a < 2 ^ w) : ∀ d, ones (w + d) a = ones w a := by
 intro d
 induction d with
 | zero => rfl
 | succ d ih => rw [show w + (d + 1) = (w + d) + 1 by omega, ones_succ, ih, btN_big h (by omega)]; rfl
theorem ones_all (n : Nat) : ∀ a, ones n a = n ↔ a % 2 ^ n = 2 ^ n - 1 := by
 induction n with
 | zero => intro a; simp [ones, Nat.mod_one]
 | succ n ih =>
   intro a
   have h1 := ones_le n a
   have h2 := btN_lt a n
   have h3 := Nat.mod_lt a (Nat.two_pow_pos n)
   rw [ones_succ, mod_step, Nat.pow_succ]
   have h4 := ih a
   have hp := Nat.two_pow_pos n
   generalize a % 2 ^ n = r at *
   generalize 2 ^ n = T at *
   rcases (show btN a n = 0 ∨ btN a n = 1 by omega) with h | h <;> rw [h]
   · constructor
     · omega
     · intro g; omega
   · constructor
     · intro g; have := h4.1 (by omega); omega
     · intro g; have := h4.2 (by omega); omega
theorem and_u64 (a b : Nat) (ha : a < 2 ^ 64) (hb : b < 2 ^ 64) : Go.bits .and .u64 (a : Int) (b : Int) = ((a &&& b : Nat) : Int) := by
 show IntKind.u64.wrap ((BitVec.ofInt 64 (a : Int) &&& BitVec.ofInt 64 (b : Int)).toNat : Int) = _
 rw [BitVec.ofInt_natCast, BitVec.ofInt_natCast, BitVec.toNat_and, BitVec.toNat_ofNat, BitVec.toNat_ofNat, Nat.mod_eq_of_lt ha, Nat.mod_eq_of_lt hb]
 have := Nat.and_lt_two_pow (x := a) (y := b) (n := 64) hb
 exact wrap_u64_id (by omega) (by omega)
theorem and_le_left (a b : Nat) : a &&& b ≤ a := Nat.and_le_left
theorem st1 (a : Nat) (h : a < 1000000) : IntKind.u64.wrap (Go.bits .and .u64 ((a : Int) / 2) 6148914691236517205 + Go.bits .and .u64 (a : Int) 6148914691236517205) = ((p1 a : Nat) : Int) ∧ p1 a ≤ 2 * a := by
 have e : (a : Int) / 2 = ((a / 2 : Nat) : Int) := by push_cast; rfl
 have h1 := and_le_left (a / 2) 6148914691236517205
 have h2 := and_le_left a 6148914691236517205
 unfold p1
 refine ⟨?_, by omega⟩
 rw [e, show (6148914691236517205 : Int) = ((6148914691236517205 : Nat) : Int) from rfl, and_u64 _ _ (by omega) (by decide), and_u64 _ _ (by omega) (by decide), wrap_u64_id (by omega) (by omega)]
 omega
theorem st2 (a : Nat) (h : a < 1000000) : IntKind.u64.wrap (Go.bits .and .u64 ((a : Int) / 4) 3689348814741910323 + Go.bits .and .u64 (a : Int) 3689348814741910323) = ((p2 a : Nat) : Int) ∧ p2 a ≤ 2 * a := by
 have e : (a : Int) / 4 = ((a / 4 : Nat) : Int) := by push_cast; rfl
 have h1 := and_le_left (a / 4) 3689348814741910323
 have h2 := and_le_left a 3689348814741910323
 unfold p2
 refine ⟨?_, by omega⟩
 rw [e, show (3689348814741910323 : Int) = ((3689348814741910323 : Nat) : Int) from rfl, and_u64 _ _ (by omega) (by decide), and_u64 _ _ (by omega) (by decide), wrap_u64_id (by omega) (by omega)]
 omega
theorem st3 (a : Nat) (h : a < 1000000) : Go.bits .and .u64 (IntKind.u64.wrap ((a : Int) / 16 + (a : Int))) 1085102592571150095 = ((p3 a : Nat) : Int) ∧ p3 a ≤ 2 * a := by
 have h1 := and_le_left (a / 16 + a) 1085102592571150095
 have e : (a : Int) / 16 + (a : Int) = ((a / 16 + a : Nat) : Int) := by push_cast; rfl
 unfold p3
 refine ⟨?_, by omega⟩
 rw [e, wrap_u64_id (by omega) (by omega), show (1085102592571150095 : Int) = ((1085102592571150095 : Nat) : Int) from rfl, and_u64 _ _ (by omega) (by decide)]
theorem natpow (i : Nat) : ((2 ^ i : Nat) : Int) = 2 ^ i := by simp
theorem pow60 {i : Nat} (h : i ≤ 40) : (1 : Int) ≤ 2 ^ i ∧ (2 : Int) ^ i ≤ 1099511627776 := by
 have h1 := pow_nat_le h
 have h2 := Nat.two_pow_pos i
 rw [← natpow]
 omega
theorem btN_cast (A i : Nat) : ((btN A i : Nat) : Int) = (A : Int) / 2 ^ i % 2 := by unfold btN; push_cast; rfl
theorem l1Bit_same (A i : Nat) (hi : i ≤ 40) (hA : A ≤ 1099511627776) (w : World) : Calls Tryz.prog 242 #[.int .i64 (A : Int), .int .i64 (i : Int)] w fun e w' => e = .returned (.int .i64 ((btN A i : Nat) : Int)) ∧ w = w' := by
 obtain ⟨h1, h2⟩ := pow60 hi
 have h3 : (0 : Int) ≤ (A : Int) / 2 ^ i := Int.ediv_nonneg (by omega) (by omega)
 have HB := Lib.hid (btN_cast A i)
 go_enter Tryz.func242, Tryz.ntmps242
 go_wp2
 go_ret
 exact ⟨ret_eq (congrArg (Value.int .i64) HB.out.symm), rfl⟩
theorem WordFrom_same (W : Nat) (n : Int) (hW : 1 ≤ W) (hW2 : W ≤ 16) (h1 : -1099511627776 ≤ n) (h2 : n ≤ 1099511627776) (w : World) : Calls Tryz.prog 230 #[.int .i64 (W : Int), .int .i64 n] w fun e w' => e = .returned (.int .i64 (n % 2 ^ W)) ∧ w = w' := by
 obtain ⟨h3, h4⟩ := pow60 (i := W) (by omega)
 have HM := Lib.hid (tmod_fix n (2 ^ W) (by omega))
 obtain ⟨h5, h6⟩ := tmod_bound n (2 ^ W) (by omega)
 by_cases hn : n.tmod (2 ^ W) < 0
 · have HR := Lib.hid (show n.tmod (2 ^ W) + 2 ^ W = n % 2 ^ W by rw [← HM.out, if_pos hn])
   go_enter Tryz.func230, Tryz.ntmps230
   go_wp2_with (go_at_call 229; refine (l1Width_yes W _ hW hW2).mono ?_; rintro e w' ⟨rfl, rfl⟩)
   go_ret
   exact ⟨ret_eq (congrArg (Value.int .i64) HR.out), rfl⟩
 · have HR := Lib.hid (show n.tmod (2 ^ W) = n % 2 ^ W by rw [← HM.out, if_neg hn])
   go_enter Tryz.func230, Tryz.ntmps230
   go_wp2_with (go_at_call 229; refine (l1Width_yes W _ hW hW2).mono ?_; rintro e w' ⟨rfl, rfl⟩)
   go_ret
   exact ⟨ret_eq (congrArg (Value.int .i64) HR.out), rfl⟩
theorem wokB_wo {w v : Int} (h : Wo w v) : wokB w v = true := by
 unfold wokB widB
 rw [inB_yes ⟨h.wd.lo, h.wd.hi⟩, inB_yes ⟨h.lo, by have := h.hi; omega⟩]; rfl
theorem WordOk_yes (w' v : Int) (h : Wo w' v) (w : World) : Calls Tryz.prog 212 #[.int .i64 w', .int .i64 v] w fun e w' => e = .returned (.bool true) ∧ w = w' := by
 have := WordOk_same w' v w
 rw [wokB_wo h] at this
 exact this
theorem WordSigned_same (W V : Int) (h : Wo W V) (w : World) : Calls Tryz.prog 231 #[.int .i64 W, .int .i64 V] w fun e w' => e = .returned (.int .i64 (sg W V)) ∧ w = w' := by
 have hlo := h.wd.lo
 have hhi := h.wd.hi
 have hv0 := h.lo
 have hv := h.top
 obtain ⟨h1, h2⟩ := pw_le (a := W - 1) (by omega) (by omega)
 obtain ⟨h4, h5⟩ := pw_le (a := W) (by omega) (by omega)
 have HS := Lib.hid (show sg W V = if V < 2 ^ (W - 1).toNat then V else V - 2 ^ W.toNat from rfl)
 have H := Lib.hid h
 clear h
 by_cases hlt : V < 2 ^ (W - 1).toNat
 · have HR := Lib.hid (HS.out.trans (if_pos hlt))
   have hge : ¬ (2 : Int) ^ (W - 1).toNat ≤ V := by omega
   rw [show (W - 1).toNat = W.toNat - 1 by omega] at hge h1 h2
   clear hlt
   go_enter Tryz.func231, Tryz.ntmps231
   go_wp2_with (go_at_call 212; refine (WordOk_yes _ _ H.out _).mono ?_; rintro e w' ⟨rfl, rfl⟩)
   go_ret
   exact ⟨ret_eq (congrArg (Value.int .i64) HR.out.symm), rfl⟩
 · have HR := Lib.hid (HS.out.trans (if_neg hlt))
   have hge : (2 : Int) ^ (W - 1).toNat ≤ V := by omega
   rw [show (W - 1).toNat = W.toNat - 1 by omega] at hge h1 h2
   clear hlt
   go_enter Tryz.func231, Tryz.ntmps231
   go_wp2_with (go_at_call 212; refine (WordOk_yes _ _ H.out _).mono ?_; rintro e w' ⟨rfl, rfl⟩)
   go_ret
   exact ⟨ret_eq (congrArg (Value.int .i64) HR.out.symm), rfl⟩
theorem l1Each_same (kind : Int) (W A B X : Nat) (hW2 : W ≤ 16) (hA : A < 2 ^ W) (hB : B < 2 ^ W) (hk : kind = 6 ∨ kind = 7 ∨ kind = 8)
 (hX : ∀ i, btN X i = if kind = 7 then btN A i + btN B i - btN A i * btN B i else if kind = 8 then (btN A i + btN B i) % 2 else btN A i * btN B i) (w : World) :
 Calls Tryz.prog 234 #[.int .i64 kind, .int .i64 (W : Int), .int .i64 (A : Int), .int .i64 (B : Int)] w fun e w' => e = .returned (.int .i64 ((X % 2 ^ W : Nat) : Int)) ∧ w = w' := by
 have h65 : 2 ^ W ≤ 2 ^ 16 := pow_nat_le hW2
 have hA2 : A ≤ 65536 := by omega
 have hB2 : B ≤ 65536 := by omega
 have HX := Lib.hid hX
 clear hX hA hB h65
 go_enter Tryz.func234, Tryz.ntmps234
 go_wp2
 go_loop [9, 10] (fun v i => ∃ (k c : Nat), k ≤ W ∧ i = .int .i64 k ∧ v = .int .i64 c ∧ Hid (c = X % 2 ^ k)) (fun _ i => W - (intOf i).toNat)
 case atStart => exact ⟨0, 0, Nat.zero_le _, rfl, rfl, Lib.hid (by simp [Nat.mod_one])⟩
 case round =>
  obtain ⟨k, c, hkW, rfl, rfl, HC⟩ := hrel
  by_cases hlt : k < W
  · have HMS := Lib.hid (mod_step X k)
    have hx := HX.out k
    have b1 := btN_lt A k
    have b2 := btN_lt B k
    have b3 := btN_lt X k
    have hp := Nat.two_pow_pos k
    have hc2 : c < 1099511627776 := by
     have h1 := HC.out
     have h2 := Nat.mod_lt X hp
     have h3 := pow_nat_le (show k ≤ 40 by omega)
     omega
    obtain ⟨q1, q2⟩ := pow60 (i := k) (by omega)
    have HBA := Lib.hid (fun w => l1Bit_same A k (by omega) (by omega) w)
    have HBB := Lib.hid (fun w => l1Bit_same B k (by omega) (by omega) w)
    generalize btN A k = x at *
    generalize btN B k = y at *
    generalize btN X k = z at *
    rcases (show x = 0 ∨ x = 1 by omega) with rfl | rfl <;> rcases (show y = 0 ∨ y = 1 by omega) with rfl | rfl <;> rcases hk with rfl | rfl | rfl <;> simp at hx <;> subst hx
    all_goals
     have HN := Lib.hid (show X % 2 ^ (k + 1) = c + _ from HC.out ▸ HMS.out)
     go_wp2_with (go_at_call 242; first | (with_reducible refine (HBA.out _).mono ?_; rintro e w' ⟨rfl, rfl⟩) | (with_reducible refine (HBB.out _).mono ?_; rintro e w' ⟨rfl, rfl⟩))
     go_round
     case rel => exact ⟨k + 1, X % 2 ^ (k + 1), by omega, by go_num, by rw [HN.out]; push_cast; simp, Lib.hid rfl⟩
     case measure => simp [intOf] <;> omega
  · obtain rfl : k = W := by omega
    go_wp2
    go_ret
    exact ⟨ret_eq (congrArg (fun n : Nat => Value.int .i64 (n : Int)) HC.out), rfl⟩
theorem ones64 (a : Nat) (h : a < 65536) : ∃ x1 x2 x3 x4 x5 x6 : Nat, IntKind.u64.wrap (Go.bits .and .u64 ((a : Int) / 2) 6148914691236517205 + Go.bits .and .u64 (a : Int) 6148914691236517205) = (x1 : Int) ∧ IntKind.u64.wrap (Go.bits .and .u64 ((x1 : Int) / 4) 3689348814741910323 + Go.bits .and .u64 (x1 : Int) 3689348814741910323) = (x2 : Int) ∧ Go.bits .and .u64 ((x2 : Int) / 16 + (x2 : Int)) 1085102592571150095 = (x3 : Int) ∧ x3 ≤ 1000000 ∧ x4 = x3 + x3 / 256 ∧ x5 = x4 + x4 / 65536 ∧ x6 = x5 + x5 / 4294967296 ∧ Go.bits .and .i64 (x6 : Int) 127 = ((pc a : Nat) : Int) ∧ x1 ≤ 1000000 ∧ x2 ≤ 1000000 := by
 obtain ⟨e1, b1⟩ := st1 a (by omega)
 obtain ⟨e2, b2⟩ := st2 (p1 a) (by omega)
 obtain ⟨e3, b3⟩ := st3 (p2 (p1 a)) (by omega)
 refine ⟨p1 a, p2 (p1 a), p3 (p2 (p1 a)), p4 (p3 (p2 (p1 a))), p5 (p4 (p3 (p2 (p1 a)))), p6 (p5 (p4 (p3 (p2 (p1 a))))), e1, e2, by rw [wrap_u64_id (by omega) (by omega)] at e3; exact e3, by omega, rfl, rfl, rfl, ?_, by omega, by omega⟩
 have h4 : p4 (p3 (p2 (p1 a))) < 2000000 := by unfold p4; omega
 have h5 : p5 (p4 (p3 (p2 (p1 a)))) < 4000000 := by unfold p5; omega
 have h6 : p6 (p5 (p4 (p3 (p2 (p1 a))))) < 8000000 := by unfold p6; omega
 rw [show (127 : Int) = ((127 : Nat) : Int) from rfl, bits_and_nat _ _ (by omega) (by decide)]
 rfl
theorem OnesCount64_same (a : Nat) (h : a < 65536) (w : World) : Calls Tryz.prog 241 #[.int .u64 (a : Int)] w fun e w' => e = .returned (.int .i64 ((pc a : Nat) : Int)) ∧ w = w' := by
 obtain ⟨x1, x2, x3, x4, x5, x6, e1, e2, e3, b3, e4, e5, e6, e7, b1, b2⟩ := ones64 a h
 have HE7 := Lib.hid e7
 have e4' : (x3 : Int) + (x3 : Int) / 256 = (x4 : Int) := by omega
 have e5' : (x4 : Int) + (x4 : Int) / 65536 = (x5 : Int) := by omega
 have e6' : (x5 : Int) + (x5 : Int) / 4294967296 = (x6 : Int) := by omega
 have b4 : x4 ≤ 2000000 := by omega
 have b5 : x5 ≤ 4000000 := by omega
 have b6 : x6 ≤ 8000000 := by omega
 clear e4 e5 e6 e7
 generalize pc a = R at *
 go_enter Tryz.func241, Tryz.ntmps241
 go_wp2
 go_ret
 exact ⟨ret_eq (congrArg (Value.int .i64) HE7.out), rfl⟩
theorem OnesCount_same (a : Nat) (h : a < 65536) (w : World) : Calls Tryz.prog 224 #[.int .u64 (a : Int)] w fun e w' => e = .returned (.int .i64 ((pc a : Nat) : Int)) ∧ w = w' := by
 have HO := Lib.hid (fun w => OnesCount64_same a h w)
 generalize pc a = R at *
 go_enter Tryz.func224, Tryz.ntmps224
 go_wp2_with (go_at_call 241; refine (HO.out _).mono ?_; rintro e w' ⟨rfl, rfl⟩)
 go_ret
 exact ⟨rfl, rfl⟩
theorem l1Ones_same (W A : Nat) (hW2 : W ≤ 16) (hA : A ≤ 65536) (w : World) : Calls Tryz.prog 232 #[.int .i64 (W : Int), .int .i64 (A : Int)] w fun e w' => e = .returned (.int .i64 ((ones W A : Nat) : Int)) ∧ w = w' := by
 go_enter Tryz.func232, Tryz.ntmps232
 go_wp2
 go_loop [5, 6] (fun s i => ∃ (k c : Nat), k ≤ W ∧ i = .int .i64 k ∧ s = .int .i64 c ∧ Hid (c = ones k A)) (fun _ i => W - (intOf i).toNat)
 case atStart => exact ⟨0, 0, Nat.zero_le _, rfl, rfl, Lib.hid rfl⟩
 case round =>
  obtain ⟨k, c, hk, rfl, rfl, HC⟩ := hrel
  by_cases hlt : k < W
  · have HS := Lib.hid (ones_succ k A)
    have hcl : c ≤ 16 := by have h1 := ones_le k A; have h2 := HC.out; omega
    have hz := btN_lt A k
    have HBA := Lib.hid (fun w => l1Bit_same A k (by omega) (by omega) w)
    generalize btN A k = z at *
    go_wp2_with (go_at_call 242; refine (HBA.out _).mono ?_; rintro e w' ⟨rfl, rfl⟩)
    go_round
    case rel => exact ⟨k + 1, c + z, by omega, by go_num, by go_num, Lib.hid (by rw [HS.out, HC.out])⟩
    case measure => simp [intOf] <;> omega
  · obtain rfl : k = W := by omega
    go_wp2
    go_ret
    exact ⟨ret_eq (congrArg (fun n : Nat => Value.int .i64 (n : Int)) HC.out), rfl⟩
def one1 (kind W A : Int) : Int := if kind = 1 then 2 ^ W.toNat - 1 - A else if kind = 2 then -A % 2 ^ W.toNat else if kind = 3 then yes (decide (0 < A)) else if kind = 4 then yes (decide (A = 2 ^ W.toNat - 1)) else ((ones 16 A.toNat % 2 : Nat) : Int)
def one2 (kind W : Int) : Int := if kind ≤ 2 then W else 1
theorem sg_shr {W V : Int} (h : Wo W V) : V - V / 2 ^ (W.toNat - 1) * 2 ^ W.toNat = sg W V ∧ 0 ≤ V / 2 ^ (W.toNat - 1) ∧ V / 2 ^ (W.toNat - 1) ≤ 1 ∧ 0 ≤ V / 2 ^ (W.toNat - 1) * 2 ^ W.toNat ∧ V / 2 ^ (W.toNat - 1) * 2 ^ W.toNat ≤ 65536 := by
 have hd := h.wd
 have h1 := hd.lo; have h2 := hd.hi; have h3 := hd.le; have hp := hd.pos; have h4 := h.lo; have h5 := h.hi; have hh := hd.half; have h6 := hd.hpos
 rw [show (W - 1).toNat = W.toNat - 1 by omega] at hh h6
 unfold sg
 rw [show (W - 1).toNat = W.toNat - 1 by omega]
 by_cases hv : V < 2 ^ (W.toNat - 1)
 · rw [Int.ediv_eq_zero_of_lt h.lo hv, if_pos hv]
   omega
 · have e : V / 2 ^ (W.toNat - 1) = 1 := by
    rw [show V = (V - 2 ^ (W.toNat - 1)) + 2 ^ (W.toNat - 1) by omega, Int.add_ediv_of_dvd_right ⟨1, by omega⟩, Int.ediv_self (by omega), Int.ediv_eq_zero_of_lt (by omega) (by omega)]; rfl
   rw [e, if_neg hv]
   omega
theorem signed_same (W V : Int) (h : Wo W V) (w : World) : Calls Tryz.prog 223 #[.int .i64 W, .int .i64 V] w fun e w' => e = .returned (.int .i64 (sg W V)) ∧ w = w' := by
 have hlo := h.wd.lo
 have hhi := h.wd.hi
 have hv0 := h.lo
 have hv := h.top
 obtain ⟨e, q0, q1, q2, q3⟩ := sg_shr h
 have HE := Lib.hid e
 clear e h
 obtain ⟨h4, h5⟩ := pow60 (i := W.toNat) (by omega)
 obtain ⟨h6, h7⟩ := pow60 (i := W.toNat - 1) (by omega)
 go_enter Tryz.func223, Tryz.ntmps223
 go_wp2
 go_ret
 exact ⟨ret_eq (congrArg (Value.int .i64) HE.out), rfl⟩
theorem bit_same (b : Bool) (w : World) : Calls Tryz.prog 199 #[.bool b] w fun e w' => e = .returned (.int .i64 (yes b)) ∧ w = w' := by
 cases b
 · go_enter Tryz.func199, Tryz.ntmps199
   go_wp2
   go_ret
   exact ⟨rfl, rfl⟩
 · go_enter Tryz.func199, Tryz.ntmps199
   go_wp2
   go_ret
   exact ⟨rfl, rfl⟩
theorem one_same (kind W A : Int) (h1k : 1 ≤ kind) (h5k : kind ≤ 5) (ha : Wo W A) (w : World) : Calls Tryz.prog 201 #[.int .i64 kind, .int .i64 W, .int .i64 A] w fun e w' => e = .returned (.tuple #[.int .i64 (one1 kind W A), .int .i64 (one2 kind W)]) ∧ w = w' := by
 have h1 := ha.wd.lo
 have h2 := ha.wd.hi
 have ha0 := ha.lo
 have ha1 := ha.top
 obtain ⟨p1, p2⟩ := pow60 (i := W.toNat) (by omega)
 have HM := Lib.hid (fun w => mask_same W w (by omega) h2)
 obtain ⟨RV, hRV⟩ : ∃ r, r = one1 kind W A := ⟨_, rfl⟩
 obtain ⟨RW, hRW⟩ : ∃ r, r = one2 kind W := ⟨_, rfl⟩
 have hON := OnesCount_same A.toNat (by omega)
 rw [show ((A.toNat : Nat) : Int) = A by omega] at hON
 have HON := Lib.hid hON
 have hpar := pc_parity A.toNat (by omega)
 have HAM := Lib.hid (and_mask (-A) W.toNat (by omega))
 rw [← hRV, ← hRW]
 unfold one1 at hRV
 unfold one2 at hRW
 rw [← hpar] at hRV
 have hwrap : IntKind.u64.wrap A = A := wrap_u64_id (by omega) (by omega)
 generalize pc A.toNat = c at *
 have HV := Lib.hid hRV
 have HW := Lib.hid hRW
 clear hRV hRW ha hpar hON
 have hc2 : (c : Int).tmod 2 = (c : Int) % 2 := Int.tmod_eq_emod_of_nonneg (by omega)
 rcases (show kind = 1 ∨ kind = 2 ∨ kind = 3 ∨ kind = 4 ∨ kind = 5 by omega) with rfl | rfl | rfl | rfl | rfl
 · go_enter Tryz.func201, Tryz.ntmps201
   go_wp2_with (go_at_call 80; refine (HM.out _).mono ?_; rintro e w' ⟨rfl, rfl⟩)
   go_ret2
   exact ⟨ret_eq (by rw [HV.out, HW.out]; rfl), rfl⟩
 · go_enter Tryz.func201, Tryz.ntmps201
   go_wp2_with (go_at_call 80; refine (HM.out _).mono ?_; rintro e w' ⟨rfl, rfl⟩)
   go_ret2
   exact ⟨ret_eq (by rw [HV.out, HW.out, HAM.out]; rfl), rfl⟩
 · have HB := Lib.hid (show (A != 0) = decide (0 < A) by
    by_cases h : 0 < A
    · rw [decide_eq_true h]; exact bne_iff_ne.2 (by omega)
    · rw [decide_eq_false h]; simp; omega)
   go_enter Tryz.func201, Tryz.ntmps201
   go_wp2_with (go_at_call 199; refine (bit_same _ _).mono ?_; rintro e w' ⟨rfl, rfl⟩)
   go_ret2
   exact ⟨ret_eq (by rw [HV.out, HW.out, HB.out]; rfl), rfl⟩
 · have HB := Lib.hid (show (A == 2 ^ W.toNat - 1) = decide (A = 2 ^ W.toNat - 1) by
    by_cases h : A = 2 ^ W.toNat - 1
    · rw [decide_eq_true h]; exact beq_iff_eq.2 h
    · rw [decide_eq_false h]; exact beq_eq_false_iff_ne.2 h)
   go_enter Tryz.func201, Tryz.ntmps201
   go_wp2_with (first | (go_at_call 80; refine (HM.out _).mono ?_; rintro e w' ⟨rfl, rfl⟩) | (go_at_call 199; refine (bit_same _ _).mono ?_; rintro e w' ⟨rfl, rfl⟩))
   go_ret2
   exact ⟨ret_eq (by rw [HV.out, HW.out, HB.out]; rfl), rfl⟩
 · go_enter Tryz.func201, Tryz.ntmps201
   go_wp2_with (go_at_call 224; refine (HON.out _).mono ?_; rintro e w' ⟨rfl, rfl⟩)
   go_ret2
   exact ⟨ret_eq (by rw [HV.out, HW.out]; rfl), rfl⟩
theorem grow_same (W A more : Int) (s : Bool) (ha : Wo W A) (hm : 0 ≤ more) (hs : W + more ≤ 16) (w : World) : Calls Tryz.prog 200 #[.int .i64 W, .int .i64 A, .int .i64 more, .bool s] w fun e w' => e = .returned (.int .i64 (if s = true then sg W A % 2 ^ (W + more).toNat else A)) ∧ w = w' := by
 have h1 := ha.wd.lo
 have h2 := ha.wd.hi
 obtain ⟨p1, p2⟩ := sg_small ha
 have HSA := Lib.hid (fun w => signed_same W A ha w)
 have HM := Lib.hid (fun w => mask_same (W + more) w (by omega) hs)
 have HAM := Lib.hid (and_mask (sg W A) (W + more).toNat (by omega))
 generalize hx : sg W A = x at *
 clear ha
 cases s
 · go_enter Tryz.func200, Tryz.ntmps200
   go_wp2
   go_ret
   exact ⟨rfl, rfl⟩
 · go_enter Tryz.func200, Tryz.ntmps200
   go_wp2_with (first | (go_at_call 223; refine (HSA.out _).mono ?_; rintro e w' ⟨rfl, rfl⟩) | (go_at_call 80; refine (HM.out _).mono ?_; rintro e w' ⟨rfl, rfl⟩))
   go_ret
   exact ⟨ret_eq (congrArg (Value.int .i64) HAM.out), rfl⟩
theorem l1Bit_int (A : Nat) (f : Int) (z : Int) (h0 : 0 ≤ f) (h1 : f ≤ 40) (hA : A ≤ 1099511627776) (hz : ((btN A f.toNat : Nat) : Int) = z) (w : World) : Calls Tryz.prog 242 #[.int .i64 (A : Int), .int .i64 f] w fun e w' => e = .returned (.int .i64 z) ∧ w = w' := by
 obtain ⟨i, rfl⟩ := Int.eq_ofNat_of_zero_le h0
 rw [Int.toNat_natCast] at hz
 subst hz
 exact l1Bit_same A i (by omega) hA w
def ShiftX (kind : Int) (W A B X : Nat) : Prop := ∀ i, i < W → btN X i = if kind = 16 then (if B ≤ i then btN A (i - B) else 0) else if i + B < W then btN A (i + B) else if kind = 18 then btN A (W - 1) else 0
theorem l1Shift_same (kind : Int) (W A B X : Nat) (hW : 1 ≤ W) (hW2 : W ≤ 16) (hA : A < 2 ^ W) (hB : B ≤ 65535) (hk : kind = 16 ∨ kind = 17 ∨ kind = 18) (hX : ShiftX kind W A B X) (w : World) :
 Calls Tryz.prog 237 #[.int .i64 kind, .int .i64 (W : Int), .int .i64 (A : Int), .int .i64 (B : Int)] w fun e w' => e = .returned (.int .i64 ((X % 2 ^ W : Nat) : Int)) ∧ w = w' := by
 have h65 : 2 ^ W ≤ 2 ^ 16 := pow_nat_le hW2
 have hA2 : A ≤ 65536 := by omega
 have HX := Lib.hid hX
 clear hX hA h65
 go_enter Tryz.func237, Tryz.ntmps237
 go_wp2
 go_loop [9, 10] (fun v i => ∃ (k c : Nat), k ≤ W ∧ i = .int .i64 k ∧ v = .int .i64 c ∧ Hid (c = X % 2 ^ k)) (fun _ i => W - (intOf i).toNat)
 case atStart => exact ⟨0, 0, Nat.zero_le _, rfl, rfl, Lib.hid (by simp [Nat.mod_one])⟩
 case round =>
  obtain ⟨k, c, hkW, rfl, rfl, HC⟩ := hrel
  by_cases hlt : k < W
  · have HMS := Lib.hid (mod_step X k)
    have HXK := Lib.hid (HX.out k hlt)
    have b3 := btN_lt X k
    have hp := Nat.two_pow_pos k
    have hc2 : c < 1099511627776 := by
     have h1 := HC.out
     have h2 := Nat.mod_lt X hp
     have h3 := pow_nat_le (show k ≤ 40 by omega)
     omega
    obtain ⟨q1, q2⟩ := pow60 (i := k) (by omega)
    clear hp
    generalize btN X k = z at *
    have HN0 : z = 0 → Hid (X % 2 ^ (k + 1) = c) := fun h => Lib.hid (by rw [HMS.out, h, HC.out]; simp)
    have HN1 : z = 1 → Hid (X % 2 ^ (k + 1) = c + 2 ^ k) := fun h => Lib.hid (by rw [HMS.out, h, HC.out]; simp)
    rcases hk with rfl | rfl | rfl
    · have hxk := HXK.out
      rw [if_pos rfl] at hxk
      by_cases hb : B ≤ k
      · rw [if_pos hb] at hxk
        have HBX := Lib.hid (fun w => l1Bit_int A ((k : Int) - B) (z : Int) (by omega) (by omega) (by omega) (by rw [hxk]; congr 2; omega) w)
        clear hxk
        rcases (show z = 0 ∨ z = 1 by omega) with rfl | rfl
        · have HN := HN0 rfl
          clear HN0 HN1
          go_wp2_with (go_at_call 242; refine (HBX.out _).mono ?_; rintro e w' ⟨rfl, rfl⟩)
          go_round
          case rel => exact ⟨k + 1, X % 2 ^ (k + 1), by omega, by go_num, by rw [HN.out], Lib.hid rfl⟩
          case measure => simp [intOf] <;> omega
        · have HN := HN1 rfl
          clear HN0 HN1
          go_wp2_with (go_at_call 242; refine (HBX.out _).mono ?_; rintro e w' ⟨rfl, rfl⟩)
          go_round
          case rel => exact ⟨k + 1, X % 2 ^ (k + 1), by omega, by go_num, by rw [HN.out]; push_cast; simp, Lib.hid rfl⟩
          case measure => simp [intOf] <;> omega
      · rw [if_neg hb] at hxk
        have HN := HN0 hxk
        clear HN0 HN1
        subst hxk
        go_wp2
        go_round
        case rel => exact ⟨k + 1, X % 2 ^ (k + 1), by omega, by go_num, by rw [HN.out], Lib.hid rfl⟩
        case measure => simp [intOf] <;> omega
    all_goals
     have hxk := HXK.out
     rw [if_neg (by decide)] at hxk
     by_cases hb : k + B < W
     · rw [if_pos hb] at hxk
       have HBX := Lib.hid (fun w => l1Bit_int A ((k : Int) + B) (z : Int) (by omega) (by omega) (by omega) (by rw [hxk]; congr 2) w)
       clear hxk
       rcases (show z = 0 ∨ z = 1 by omega) with rfl | rfl
       · have HN := HN0 rfl
         clear HN0 HN1
         go_wp2_with (go_at_call 242; refine (HBX.out _).mono ?_; rintro e w' ⟨rfl, rfl⟩)
         go_round
         case rel => exact ⟨k + 1, X % 2 ^ (k + 1), by omega, by go_num, by rw [HN.out], Lib.hid rfl⟩
         case measure => simp [intOf] <;> omega
       · have HN := HN1 rfl
         clear HN0 HN1
         go_wp2_with (go_at_call 242; refine (HBX.out _).mono ?_; rintro e w' ⟨rfl, rfl⟩)
         go_round
         case rel => exact ⟨k + 1, X % 2 ^ (k + 1), by omega, by go_num, by rw [HN.out]; push_cast; simp, Lib.hid rfl⟩
         case measure => simp [intOf] <;> omega
     · rw [if_neg hb] at hxk
       have HBX : z = btN A (W - 1) → Hid (∀ w, Calls Tryz.prog 242 #[.int .i64 (A : Int), .int .i64 ((W : Int) - 1)] w fun e w' => e = .returned (.int .i64 (z : Int)) ∧ w = w') := fun h => Lib.hid (fun w => l1Bit_int A ((W : Int) - 1) (z : Int) (by omega) (by omega) (by omega) (by rw [h]; congr 2; omega) w)
       first
        | rw [if_neg (by decide)] at hxk
          clear HBX
          have HN := HN0 hxk
          clear HN0 HN1
          subst hxk
          go_wp2
          go_round
          case rel => exact ⟨k + 1, X % 2 ^ (k + 1), by omega, by go_num, by rw [HN.out], Lib.hid rfl⟩
          case measure => simp [intOf] <;> omega
        | rw [if_pos rfl] at hxk
          have HBX := HBX hxk
          clear hxk
          rcases (show z = 0 ∨ z = 1 by omega) with rfl | rfl
          · have HN := HN0 rfl
            clear HN0 HN1
            go_wp2_with (go_at_call 242; refine (HBX.out _).mono ?_; rintro e w' ⟨rfl, rfl⟩)
            go_round
            case rel => exact ⟨k + 1, X % 2 ^ (k + 1), by omega, by go_num, by rw [HN.out], Lib.hid rfl⟩
            case measure => simp [intOf] <;> omega
          · have HN := HN1 rfl
            clear HN0 HN1
            go_wp2_with (go_at_call 242; refine (HBX.out _).mono ?_; rintro e w' ⟨rfl, rfl⟩)
            go_round
            case rel => exact ⟨k + 1, X % 2 ^ (k + 1), by omega, by go_num, by rw [HN.out]; push_cast; simp, Lib.hid rfl⟩
            case measure => simp [intOf] <;> omega
  · obtain rfl : k = W := by omega
    go_wp2
    go_ret
    exact ⟨ret_eq (congrArg (fun n : Nat => Value.int .i64 (n : Int)) HC.out), rfl⟩
theorem shift_op2 (kind : Int) (hk : kind = 16 ∨ kind = 17 ∨ kind = 18) {W A : Nat} (B : Nat) (h1 : 1 ≤ W) (h3 : A < 2 ^ W) : ∃ X, ShiftX kind W A B X ∧ ((X % 2 ^ W : Nat) : Int) = op2 kind W A B := by
 have hm : min W B ≤ W := Nat.min_le_left _ _
 have hs := btN_lt A (W - 1)
 rcases hk with rfl | rfl | rfl
 · refine ⟨A * 2 ^ B, fun i hi => ?_, ?_⟩
   · rw [if_pos rfl, btN_shl]
     by_cases h : i < B
     · rw [if_pos h, if_neg (by omega)]
     · rw [if_neg h, if_pos (by omega)]
   · unfold op2
     rw [shl_lw]
     simp only [lw_nat, Int.toNat_natCast]
     push_cast
     simp
 · refine ⟨A / 2 ^ B, fun i hi => ?_, ?_⟩
   · rw [if_neg (by decide), btN_shr]
     by_cases h : i + B < W
     · rw [if_pos h]
     · rw [if_neg h, if_neg (by decide), btN_big h3 (by omega)]
   · unfold op2
     rw [Nat.mod_eq_of_lt (Nat.lt_of_le_of_lt (Nat.div_le_self _ _) h3), shr_lw W A B h3]
     simp only [lw_nat, Int.toNat_natCast]
     push_cast
     simp
 · refine ⟨sarN W (min W B) A (btN A (W - 1)), fun i hi => ?_, ?_⟩
   · rw [if_neg (by decide), btN_sarN hm h3 hs hi, if_pos rfl]
     by_cases h : i + B < W
     · rw [if_pos h, if_pos (by omega), Nat.min_eq_right (by omega)]
     · rw [if_neg h, if_neg (by omega)]
   · unfold op2
     rw [Nat.mod_eq_of_lt (sarN_lt hm h3 hs)]
     simp only [lw_nat, Int.toNat_natCast]
     rw [← sar_lw W A _ h1 h3 hm]
     simp
theorem each_op2 (kind : Int) (hk : kind = 6 ∨ kind = 7 ∨ kind = 8) {W A B : Nat} (hA : A < 2 ^ W) (hB : B < 2 ^ W) : ∃ X, (∀ i, btN X i = if kind = 7 then btN A i + btN B i - btN A i * btN B i else if kind = 8 then (btN A i + btN B i) % 2 else btN A i * btN B i) ∧ ((X % 2 ^ W : Nat) : Int) = op2 kind W A B := by
 rcases hk with rfl | rfl | rfl
 · exact ⟨A &&& B, fun i => by rw [if_neg (by decide), if_neg (by decide), btN_and], by rw [Nat.mod_eq_of_lt (Nat.and_lt_two_pow _ hB)]; simp [op2]⟩
 · exact ⟨A ||| B, fun i => by rw [if_pos rfl, btN_or], by rw [Nat.mod_eq_of_lt (Nat.or_lt_two_pow hA hB)]; simp [op2]⟩
 · exact ⟨A ^^^ B, fun i => by rw [if_neg (by decide), if_pos rfl, btN_xor], by rw [Nat.mod_eq_of_lt (Nat.xor_lt_two_pow hA hB)]; simp [op2]⟩
theorem l1Turn_calls (kind : Int) (W A B c : Nat) (hW : 1 ≤ W) (hW2 : W ≤ 16) (hA : A < 2 ^ W) (hB : B ≤ 65535)
 (hc : (kind = 20 ∧ c = (W - B % W) % W) ∨ (kind = 19 ∧ c = B % W)) (w : World) :
 Makes Tryz.prog 238 #[.int .i64 kind, .int .i64 (W : Int), .int .i64 (A : Int), .int .i64 (B : Int)] w (.int .i64 ((rolN (W - c) c A W : Nat) : Int)) := by
 have h65 : 2 ^ W ≤ 2 ^ 16 := pow_nat_le hW2
 have hA2 : A ≤ 65536 := by omega
 have hcW : c < W := by rcases hc with ⟨-, h⟩ | ⟨-, h⟩ <;> rw [h] <;> exact Nat.mod_lt _ (by omega)
 have HLE := Lib.hid (fun i (hi : i ≤ W) => rolN_le W c A i hcW hi hA)
 have HST := Lib.hid (fun i (hi : i < W) => rolN_step W c A i hcW hi)
 have HZ := Lib.hid (show rolN (W - c) c A 0 = 0 by simp [rolN, Nat.mod_one])
 have H65 := Lib.hid h65
 have hr1 : B % W < W := Nat.mod_lt _ (by omega)
 have her : (B : Int) % (W : Int) = ((B % W : Nat) : Int) := by push_cast; rfl
 have HTO := Lib.hid (show ∀ k : Nat, (kind = 20 → ((k : Int) + W - ((B % W : Nat) : Int)) % W = (((k + c) % W : Nat) : Int)) ∧ (kind = 19 → ((k : Int) + ((B % W : Nat) : Int)) % W = (((k + c) % W : Nat) : Int)) from fun k => by
  constructor
  · intro hk
    rcases hc with ⟨-, h⟩ | ⟨h0, -⟩
    · rw [h, Nat.add_mod_mod, show (k : Int) + W - ((B % W : Nat) : Int) = ((k + (W - B % W) : Nat) : Int) by omega]
      exact (Int.natCast_emod _ _).symm
    · omega
  · intro hk
    rcases hc with ⟨h0, -⟩ | ⟨-, h⟩
    · omega
    · rw [h]
      exact_mod_cast rfl)
 have hkk : kind = 20 ∨ kind = 19 := by rcases hc with ⟨h, -⟩ | ⟨h, -⟩ <;> simp [h]
 generalize B % W = r at *
 clear hA h65 hc
 have hw0 : ((W : Int) == 0) = false := by simp; omega
 go_enter Tryz.func238, Tryz.ntmps238
 go_wp2
 go_loopw [9, 10] (fun v i wr => ∃ (k d : Nat), k ≤ W ∧ i = .int .i64 k ∧ v = .int .i64 d ∧ Hid (d = rolN (W - c) c A k) ∧ LaterC w wr) (fun _ i _ => W - (intOf i).toNat)
 case atStart => exact ⟨0, 0, Nat.zero_le _, rfl, rfl, Lib.hid HZ.out.symm, LaterC.refl _⟩
 case round =>
  obtain ⟨k, d, hkW, rfl, rfl, HD, ⟨u, rfl⟩⟩ := hrel
  by_cases hlt : k < W
  · have HS := Lib.hid (HST.out k hlt)
    have hd2 : d ≤ 131072 := by
     have h1 := HLE.out k hkW
     have h2 := HD.out
     have h3 := H65.out
     omega
    have hto := HTO.out k
    have hs1 : (k + c) % W < W := Nat.mod_lt _ (by omega)
    have b3 := btN_lt A k
    have HBA := Lib.hid (fun w => l1Bit_same A k (by omega) (by omega) w)
    generalize (k + c) % W = s at *
    generalize btN A k = z at *
    obtain ⟨q1, q2⟩ := pow60 (i := s) (by omega)
    have q3 : (2 : Int) ^ s ≤ 65536 := (pw_nat (m := s) (by omega)).2
    have HN0 : z = 0 → Hid (rolN (W - c) c A (k + 1) = d) := fun h => Lib.hid (by rw [HS.out, h, HD.out]; simp)
    have HN1 : z = 1 → Hid (rolN (W - c) c A (k + 1) = d + 2 ^ s) := fun h => Lib.hid (by rw [HS.out, h, HD.out]; simp)
    rcases hkk with rfl | rfl
    · have hto := hto.1 rfl
      rcases (show z = 0 ∨ z = 1 by omega) with rfl | rfl
      · have HN := HN0 rfl
        clear HN0 HN1
        go_wp2
        refine wp_region_later (w0 := w) (by kernel_rfl) (by kernel_rfl) ⟨u, rfl⟩ ?_
        repeat (go_big_quiet_step ((go_at_call 242; exact Calls.later (Makes.of_same (HBA.out _)))))
        refine wpQuiet_nil ?_
        rintro _ ⟨u1, rfl⟩
        go_wp2
        go_roundw
        case rel => exact ⟨k + 1, rolN (W - c) c A (k + 1), by omega, by go_num, by rw [HN.out], Lib.hid rfl, ⟨u1, rfl⟩⟩
        case measure => simp [intOf] <;> omega
      · have HN := HN1 rfl
        clear HN0 HN1
        go_wp2
        refine wp_region_later (w0 := w) (by kernel_rfl) (by kernel_rfl) ⟨u, rfl⟩ ?_
        repeat (go_big_quiet_step ((go_at_call 242; exact Calls.later (Makes.of_same (HBA.out _)))))
        refine wpQuiet_nil ?_
        rintro _ ⟨u1, rfl⟩
        go_wp2
        go_roundw
        case rel => exact ⟨k + 1, rolN (W - c) c A (k + 1), by omega, by go_num, by rw [HN.out]; push_cast; simp, Lib.hid rfl, ⟨u1, rfl⟩⟩
        case measure => simp [intOf] <;> omega
    · have hto := hto.2 rfl
      rcases (show z = 0 ∨ z = 1 by omega) with rfl | rfl
      · have HN := HN0 rfl
        clear HN0 HN1
        go_wp2
        refine wp_region_later (w0 := w) (by kernel_rfl) (by kernel_rfl) ⟨u, rfl⟩ ?_
        repeat (go_big_quiet_step ((go_at_call 242; exact Calls.later (Makes.of_same (HBA.out _)))))
        refine wpQuiet_nil ?_
        rintro _ ⟨u1, rfl⟩
        go_wp2
        go_roundw
        case rel => exact ⟨k + 1, rolN (W - c) c A (k + 1), by omega, by go_num, by rw [HN.out], Lib.hid rfl, ⟨u1, rfl⟩⟩
        case measure => simp [intOf] <;> omega
      · have HN := HN1 rfl
        clear HN0 HN1
        go_wp2
        refine wp_region_later (w0 := w) (by kernel_rfl) (by kernel_rfl) ⟨u, rfl⟩ ?_
        repeat (go_big_quiet_step ((go_at_call 242; exact Calls.later (Makes.of_same (HBA.out _)))))
        refine wpQuiet_nil ?_
        rintro _ ⟨u1, rfl⟩
        go_wp2
        go_roundw
        case rel => exact ⟨k + 1, rolN (W - c) c A (k + 1), by omega, by go_num, by rw [HN.out]; push_cast; simp, Lib.hid rfl, ⟨u1, rfl⟩⟩
        case measure => simp [intOf] <;> omega
  · obtain rfl : k = W := by omega
    go_wp2
    go_ret
    exact ⟨ret_eq (congrArg (fun n : Nat => Value.int .i64 (n : Int)) HD.out), u.prop⟩
theorem turn_op2 (kind : Int) (hk : kind = 20 ∨ kind = 19) {W A B : Nat} (h1 : 1 ≤ W) (h3 : A < 2 ^ W) : ∃ c, ((kind = 20 ∧ c = (W - B % W) % W) ∨ (kind = 19 ∧ c = B % W)) ∧ ((rolN (W - c) c A W : Nat) : Int) = op2 kind W A B := by
 have hr : B % W < W := Nat.mod_lt _ (by omega)
 have her : Int.tmod (B : Int) (W : Int) = ((B % W : Nat) : Int) := by rw [Int.tmod_eq_emod_of_nonneg (by omega)]; push_cast; rfl
 rcases hk with rfl | rfl
 · refine ⟨(W - B % W) % W, .inl ⟨rfl, rfl⟩, ?_⟩
   rw [rolN_end W _ A (Nat.mod_lt _ (by omega)) h3]
   unfold op2 rorc
   simp
   rw [her, Int.tmod_eq_emod_of_nonneg (by omega)]
   congr 1
   rw [show (W : Int) - ((B % W : Nat) : Int) = ((W - B % W : Nat) : Int) by omega]
   try push_cast
   try rfl
 · refine ⟨B % W, .inr ⟨rfl, rfl⟩, ?_⟩
   rw [rolN_end W _ A hr h3]
   unfold op2 rolc
   simp
   rw [her]
   try push_cast
   try rfl
theorem l1Yes_same (b : Bool) (w : World) : Calls Tryz.prog 213 #[.bool b] w fun e w' => e = .returned (.int .i64 (yes b)) ∧ w = w' := l1Yes_some b w
theorem l1Div_same (kind W A B : Int) (hk : kind = 12 ∨ kind = 13) (ha : Wo W A) (hb : Wo W B) (w : World) : Calls Tryz.prog 235 #[.int .i64 kind, .int .i64 W, .int .i64 A, .int .i64 B] w fun e w' => e = .returned (.int .i64 (op2 kind W A B)) ∧ w = w' := by
 have h1 := ha.wd.lo
 have h2 := ha.wd.hi
 have h3 := ha.lo
 have h4 := hb.lo
 have h5 := ha.top
 have h6 := hb.top
 obtain ⟨q1, q2⟩ := pw_le (a := W) (by omega) (by omega)
 by_cases hz : B = 0
 · subst hz
   rcases hk with rfl | rfl
   all_goals
    go_enter Tryz.func235, Tryz.ntmps235
    go_wp2
    go_ret
    exact ⟨ret_eq (congrArg (Value.int .i64) (by simp [op2])), rfl⟩
 · have hz1 : (B == 0) = false := by simpa using hz
   have hz2 : ¬ B = 0 := hz
   rcases hk with rfl | rfl
   all_goals
    go_enter Tryz.func235, Tryz.ntmps235
    go_wp2
    go_ret
    exact ⟨ret_eq (congrArg (Value.int .i64) (by simp [op2, hz2])), rfl⟩
theorem WordFrom_int (W : Int) (n : Int) (hW : 1 ≤ W) (hW2 : W ≤ 16) (h1 : -1099511627776 ≤ n) (h2 : n ≤ 1099511627776) (w : World) : Calls Tryz.prog 230 #[.int .i64 W, .int .i64 n] w fun e w' => e = .returned (.int .i64 (n % 2 ^ W.toNat)) ∧ w = w' := by
 obtain ⟨m, rfl⟩ := Int.eq_ofNat_of_zero_le (show 0 ≤ W by omega)
 have := WordFrom_same m n (by omega) (by omega) h1 h2 w
 rwa [Int.toNat_natCast]
theorem tdiv_small {x y : Int} (hx : -32768 ≤ x ∧ x ≤ 32767) : -65536 ≤ x.tdiv y ∧ x.tdiv y ≤ 65536 := by
 have h : (x.tdiv y).natAbs ≤ x.natAbs := by rw [Int.natAbs_tdiv]; exact Nat.div_le_self _ _
 omega
theorem tmod_small {x y : Int} (hx : -32768 ≤ x ∧ x ≤ 32767) : -65536 ≤ x.tmod y ∧ x.tmod y ≤ 65536 := by
 have h : (x.tmod y).natAbs ≤ x.natAbs := by rw [Int.natAbs_tmod]; exact Nat.mod_le _ _
 omega
theorem l1Sdiv_same (kind W A B : Int) (hk : kind = 14 ∨ kind = 15) (ha : Wo W A) (hb : Wo W B) (w : World) : Calls Tryz.prog 236 #[.int .i64 kind, .int .i64 W, .int .i64 A, .int .i64 B] w fun e w' => e = .returned (.int .i64 (op2 kind W A B)) ∧ w = w' := by
 have h1 := ha.wd.lo
 have h2 := ha.wd.hi
 obtain ⟨q1, q2⟩ := pw_le (a := W) (by omega) (by omega)
 have hx := sg_small ha
 have hy := sg_small hb
 have HA := Lib.hid (fun w => WordSigned_same W A ha w)
 have HB := Lib.hid (fun w => WordSigned_same W B hb w)
 have HO14 := Lib.hid (show op2 14 W A B = if sg W B = 0 then (if sg W A < 0 then 1 else 2 ^ W.toNat - 1) else Int.tdiv (sg W A) (sg W B) % 2 ^ W.toNat by simp [op2, sdv])
 have HO15 := Lib.hid (show op2 15 W A B = if sg W B = 0 then A else Int.tmod (sg W A) (sg W B) % 2 ^ W.toNat by simp [op2, srm])
 have HF := Lib.hid (fun n (h1 : -1099511627776 ≤ n) (h2 : n ≤ 1099511627776) w => WordFrom_int W n ha.wd.lo ha.wd.hi h1 h2 w)
 have hd := tdiv_small (x := sg W A) (y := sg W B) hx
 have hm := tmod_small (x := sg W A) (y := sg W B) hx
 generalize sg W A = x at *
 generalize sg W B = y at *
 clear ha hb
 rcases hk with rfl | rfl
 · generalize op2 14 W A B = R at *
   by_cases hz : y = 0
   · subst hz
     by_cases hn : x < 0
     · have HR := Lib.hid (show R = 1 by rw [HO14.out, if_pos rfl, if_pos hn])
       go_enter Tryz.func236, Tryz.ntmps236
       go_wp2_with (go_at_call 231; first | (with_reducible refine (HA.out _).mono ?_; rintro e w' ⟨rfl, rfl⟩) | (with_reducible refine (HB.out _).mono ?_; rintro e w' ⟨rfl, rfl⟩))
       go_ret
       exact ⟨ret_eq (congrArg (Value.int .i64) HR.out.symm), rfl⟩
     · have HR := Lib.hid (show R = 2 ^ W.toNat - 1 by rw [HO14.out, if_pos rfl, if_neg hn])
       go_enter Tryz.func236, Tryz.ntmps236
       go_wp2_with (go_at_call 231; first | (with_reducible refine (HA.out _).mono ?_; rintro e w' ⟨rfl, rfl⟩) | (with_reducible refine (HB.out _).mono ?_; rintro e w' ⟨rfl, rfl⟩))
       go_ret
       exact ⟨ret_eq (congrArg (Value.int .i64) HR.out.symm), rfl⟩
   · have HR := Lib.hid (show R = x.tdiv y % 2 ^ W.toNat by rw [HO14.out, if_neg hz])
     have hz1 : (y == 0) = false := by simpa using hz
     go_enter Tryz.func236, Tryz.ntmps236
     go_wp2_with (first | (go_at_call 231; first | (with_reducible refine (HA.out _).mono ?_; rintro e w' ⟨rfl, rfl⟩) | (with_reducible refine (HB.out _).mono ?_; rintro e w' ⟨rfl, rfl⟩)) | (go_at_call 230; refine (HF.out _ (by omega) (by omega) _).mono ?_; rintro e w' ⟨rfl, rfl⟩))
     go_ret
     exact ⟨ret_eq (congrArg (Value.int .i64) HR.out.symm), rfl⟩
 · generalize op2 15 W A B = R at *
   by_cases hz : y = 0
   · subst hz
     have HR := Lib.hid (show R = A by rw [HO15.out, if_pos rfl])
     go_enter Tryz.func236, Tryz.ntmps236
     go_wp2_with (go_at_call 231; first | (with_reducible refine (HA.out _).mono ?_; rintro e w' ⟨rfl, rfl⟩) | (with_reducible refine (HB.out _).mono ?_; rintro e w' ⟨rfl, rfl⟩))
     go_ret
     exact ⟨ret_eq (congrArg (Value.int .i64) HR.out.symm), rfl⟩
   · have HR := Lib.hid (show R = x.tmod y % 2 ^ W.toNat by rw [HO15.out, if_neg hz])
     have hz1 : (y == 0) = false := by simpa using hz
     go_enter Tryz.func236, Tryz.ntmps236
     go_wp2_with (first | (go_at_call 231; first | (with_reducible refine (HA.out _).mono ?_; rintro e w' ⟨rfl, rfl⟩) | (with_reducible refine (HB.out _).mono ?_; rintro e w' ⟨rfl, rfl⟩)) | (go_at_call 230; refine (HF.out _ (by omega) (by omega) _).mono ?_; rintro e w' ⟨rfl, rfl⟩))
     go_ret
     exact ⟨ret_eq (congrArg (Value.int .i64) HR.out.symm), rfl⟩
theorem wokB_big {W n : Int} (h : Wd W) (h0 : 0 ≤ n) : (!wokB W n) = decide (2 ^ W.toNat ≤ n) := by
 unfold wokB
 rw [show widB W = true from inB_yes ⟨h.lo, h.hi⟩, Bool.true_and]
 by_cases hn : 2 ^ W.toNat ≤ n
 · rw [inB_no (by omega), decide_eq_true hn]; rfl
 · rw [inB_yes (by omega), decide_eq_false hn]; rfl
theorem sg_over {W n : Int} (h : Wd W) : (sg W (n % 2 ^ W.toNat) != n) = !decide (-2 ^ (W - 1).toNat ≤ n ∧ n < 2 ^ (W - 1).toNat) := by
 by_cases hn : -2 ^ (W - 1).toNat ≤ n ∧ n < 2 ^ (W - 1).toNat
 · rw [sg_of_mod h hn.1 hn.2, decide_eq_true hn]; simp
 · have hb := sg_bounds (mod_wo h n)
   rw [decide_eq_false hn]
   have : sg W (n % 2 ^ W.toNat) ≠ n := fun e => hn (by rw [← e]; exact hb)
   simpa using this
theorem l1Says_same (kind W A B : Int) (h21 : 21 ≤ kind) (h28 : kind ≤ 28) (ha : Wo W A) (hb : Wo W B) (w : World) : Calls Tryz.prog 233 #[.int .i64 kind, .int .i64 W, .int .i64 A, .int .i64 B] w fun e w' => e = .returned (.tuple #[.bool (says kind W A B), .bool true]) ∧ w = w' := by
 have h1 := ha.wd.lo
 have h2 := ha.wd.hi
 have ha0 := ha.lo
 have ha1 := ha.top
 have hb0 := hb.lo
 have hb1 := hb.top
 have hx := sg_small ha
 have hy := sg_small hb
 have hab : 0 ≤ A * B := Int.mul_nonneg ha0 hb0
 have hab1 : A * B ≤ 65536 * 65536 := Int.mul_le_mul (by omega) (by omega) hb0 (by omega)
 have hab2 : A * B ≤ 4294967296 := by omega
 clear hab1
 have HA := Lib.hid (fun w => WordSigned_same W A ha w)
 have HB := Lib.hid (fun w => WordSigned_same W B hb w)
 have HC := Lib.hid (wokB_big (n := A + B) ha.wd (by omega))
 have HM := Lib.hid (wokB_big (n := A * B) ha.wd hab)
 have HS := Lib.hid (sg_over (n := sg W A + sg W B) ha.wd)
 have HF := Lib.hid (fun n (h1 : -1099511627776 ≤ n) (h2 : n ≤ 1099511627776) w => WordFrom_int W n ha.wd.lo ha.wd.hi h1 h2 w)
 have HG := Lib.hid (fun n w => WordSigned_same W (n % 2 ^ W.toNat) (mod_wo ha.wd n) w)
 obtain ⟨R, hR⟩ : ∃ R, R = says kind W A B := ⟨_, rfl⟩
 rw [← hR]
 have HR := Lib.hid hR
 clear hR ha hb
 unfold says at HR
 generalize sg W A = x at *
 generalize sg W B = y at *
 rcases (show kind = 21 ∨ kind = 22 ∨ kind = 23 ∨ kind = 24 ∨ kind = 25 ∨ kind = 26 ∨ kind = 27 ∨ kind = 28 by omega) with rfl | rfl | rfl | rfl | rfl | rfl | rfl | rfl
 · have HE := Lib.hid (show R = (A == B) from by rw [HR.out, if_pos rfl]; by_cases h : A = B <;> simp [h])
   go_enter Tryz.func233, Tryz.ntmps233
   go_wp2_with (first | (go_at_call 231; first | (with_reducible refine (HA.out _).mono ?_; rintro e w' ⟨rfl, rfl⟩) | (with_reducible refine (HB.out _).mono ?_; rintro e w' ⟨rfl, rfl⟩) | (with_reducible refine (HG.out _ _).mono ?_; rintro e w' ⟨rfl, rfl⟩)) | (go_at_call 230; refine (HF.out _ (by omega) (by omega) _).mono ?_; rintro e w' ⟨rfl, rfl⟩) | (go_at_call 212; refine (WordOk_same _ _ _).mono ?_; rintro e w' ⟨rfl, rfl⟩))
   go_ret2
   exact ⟨ret_eq (by rw [HE.out]; rfl), rfl⟩
 · have HE := Lib.hid (show R = (decide (A < B)) from by rw [HR.out]; simp)
   go_enter Tryz.func233, Tryz.ntmps233
   go_wp2_with (first | (go_at_call 231; first | (with_reducible refine (HA.out _).mono ?_; rintro e w' ⟨rfl, rfl⟩) | (with_reducible refine (HB.out _).mono ?_; rintro e w' ⟨rfl, rfl⟩) | (with_reducible refine (HG.out _ _).mono ?_; rintro e w' ⟨rfl, rfl⟩)) | (go_at_call 230; refine (HF.out _ (by omega) (by omega) _).mono ?_; rintro e w' ⟨rfl, rfl⟩) | (go_at_call 212; refine (WordOk_same _ _ _).mono ?_; rintro e w' ⟨rfl, rfl⟩))
   go_ret2
   exact ⟨ret_eq (by rw [HE.out]; rfl), rfl⟩
 · have HE := Lib.hid (show R = (decide (x < y)) from by rw [HR.out]; simp)
   go_enter Tryz.func233, Tryz.ntmps233
   go_wp2_with (first | (go_at_call 231; first | (with_reducible refine (HA.out _).mono ?_; rintro e w' ⟨rfl, rfl⟩) | (with_reducible refine (HB.out _).mono ?_; rintro e w' ⟨rfl, rfl⟩) | (with_reducible refine (HG.out _ _).mono ?_; rintro e w' ⟨rfl, rfl⟩)) | (go_at_call 230; refine (HF.out _ (by omega) (by omega) _).mono ?_; rintro e w' ⟨rfl, rfl⟩) | (go_at_call 212; refine (WordOk_same _ _ _).mono ?_; rintro e w' ⟨rfl, rfl⟩))
   go_ret2
   exact ⟨ret_eq (by rw [HE.out]; rfl), rfl⟩
 · have HE := Lib.hid (show R = (decide (A ≤ B)) from by rw [HR.out]; simp)
   go_enter Tryz.func233, Tryz.ntmps233
   go_wp2_with (first | (go_at_call 231; first | (with_reducible refine (HA.out _).mono ?_; rintro e w' ⟨rfl, rfl⟩) | (with_reducible refine (HB.out _).mono ?_; rintro e w' ⟨rfl, rfl⟩) | (with_reducible refine (HG.out _ _).mono ?_; rintro e w' ⟨rfl, rfl⟩)) | (go_at_call 230; refine (HF.out _ (by omega) (by omega) _).mono ?_; rintro e w' ⟨rfl, rfl⟩) | (go_at_call 212; refine (WordOk_same _ _ _).mono ?_; rintro e w' ⟨rfl, rfl⟩))
   go_ret2
   exact ⟨ret_eq (by rw [HE.out]; rfl), rfl⟩
 · have HE := Lib.hid (show R = (decide (x ≤ y)) from by rw [HR.out]; simp)
   go_enter Tryz.func233, Tryz.ntmps233
   go_wp2_with (first | (go_at_call 231; first | (with_reducible refine (HA.out _).mono ?_; rintro e w' ⟨rfl, rfl⟩) | (with_reducible refine (HB.out _).mono ?_; rintro e w' ⟨rfl, rfl⟩) | (with_reducible refine (HG.out _ _).mono ?_; rintro e w' ⟨rfl, rfl⟩)) | (go_at_call 230; refine (HF.out _ (by omega) (by omega) _).mono ?_; rintro e w' ⟨rfl, rfl⟩) | (go_at_call 212; refine (WordOk_same _ _ _).mono ?_; rintro e w' ⟨rfl, rfl⟩))
   go_ret2
   exact ⟨ret_eq (by rw [HE.out]; rfl), rfl⟩
 · have HE := Lib.hid (show R = (!wokB W (A + B)) from by rw [HC.out, HR.out]; simp)
   go_enter Tryz.func233, Tryz.ntmps233
   go_wp2_with (first | (go_at_call 231; first | (with_reducible refine (HA.out _).mono ?_; rintro e w' ⟨rfl, rfl⟩) | (with_reducible refine (HB.out _).mono ?_; rintro e w' ⟨rfl, rfl⟩) | (with_reducible refine (HG.out _ _).mono ?_; rintro e w' ⟨rfl, rfl⟩)) | (go_at_call 230; refine (HF.out _ (by omega) (by omega) _).mono ?_; rintro e w' ⟨rfl, rfl⟩) | (go_at_call 212; refine (WordOk_same _ _ _).mono ?_; rintro e w' ⟨rfl, rfl⟩))
   go_ret2
   exact ⟨ret_eq (by rw [HE.out]; rfl), rfl⟩
 · have HE := Lib.hid (show R = (sg W ((x + y) % 2 ^ W.toNat) != x + y) from by rw [HS.out, HR.out]; simp)
   go_enter Tryz.func233, Tryz.ntmps233
   go_wp2_with (first | (go_at_call 231; first | (with_reducible refine (HA.out _).mono ?_; rintro e w' ⟨rfl, rfl⟩) | (with_reducible refine (HB.out _).mono ?_; rintro e w' ⟨rfl, rfl⟩) | (with_reducible refine (HG.out _ _).mono ?_; rintro e w' ⟨rfl, rfl⟩)) | (go_at_call 230; refine (HF.out _ (by omega) (by omega) _).mono ?_; rintro e w' ⟨rfl, rfl⟩) | (go_at_call 212; refine (WordOk_same _ _ _).mono ?_; rintro e w' ⟨rfl, rfl⟩))
   go_ret2
   exact ⟨ret_eq (by rw [HE.out]; rfl), rfl⟩
 · have HE := Lib.hid (show R = (!wokB W (A * B)) from by rw [HM.out, HR.out]; simp)
   go_enter Tryz.func233, Tryz.ntmps233
   go_wp2_with (first | (go_at_call 231; first | (with_reducible refine (HA.out _).mono ?_; rintro e w' ⟨rfl, rfl⟩) | (with_reducible refine (HB.out _).mono ?_; rintro e w' ⟨rfl, rfl⟩) | (with_reducible refine (HG.out _ _).mono ?_; rintro e w' ⟨rfl, rfl⟩)) | (go_at_call 230; refine (HF.out _ (by omega) (by omega) _).mono ?_; rintro e w' ⟨rfl, rfl⟩) | (go_at_call 212; refine (WordOk_same _ _ _).mono ?_; rintro e w' ⟨rfl, rfl⟩))
   go_ret2
   exact ⟨ret_eq (by rw [HE.out]; rfl), rfl⟩
theorem l1Says_none (kind W A B : Int) (h6 : 6 ≤ kind) (h20 : kind ≤ 20) (ha : Wo W A) (hb : Wo W B) (w : World) : Calls Tryz.prog 233 #[.int .i64 kind, .int .i64 W, .int .i64 A, .int .i64 B] w fun e w' => e = .returned (.tuple #[.bool false, .bool false]) ∧ w = w' := by
 have HA := Lib.hid (fun w => WordSigned_same W A ha w)
 have HB := Lib.hid (fun w => WordSigned_same W B hb w)
 generalize sg W A = x at *
 generalize sg W B = y at *
 have k21 : (kind == 21) = false := by simp; omega
 have k22 : (kind == 22) = false := by simp; omega
 have k23 : (kind == 23) = false := by simp; omega
 have k24 : (kind == 24) = false := by simp; omega
 have k25 : (kind == 25) = false := by simp; omega
 have k26 : (kind == 26) = false := by simp; omega
 have k27 : (kind == 27) = false := by simp; omega
 have k28 : (kind == 28) = false := by simp; omega
 clear h6 h20 ha hb
 go_enter Tryz.func233, Tryz.ntmps233
 go_wp2_with (go_at_call 231; first | (with_reducible refine (HA.out _).mono ?_; rintro e w' ⟨rfl, rfl⟩) | (with_reducible refine (HB.out _).mono ?_; rintro e w' ⟨rfl, rfl⟩))
 go_ret2
 exact ⟨rfl, rfl⟩
end Go.Proofs.YtbenebcphaiohaaGreat
namespace Go.Proofs.YtbenebcphaiohaaGreat
open Go.RowKit
theorem tdiv_small2 {x y : Int} (h0 : -32768 ≤ x) (h1 : x ≤ 32767) : -32768 ≤ x.tdiv y ∧ x.tdiv y ≤ 32768 := by
 have hq : (Int.tdiv x y).natAbs ≤ x.natAbs := by rw [Int.natAbs_tdiv]; exact Nat.div_le_self _ _
 omega
theorem divided_same (kind W A B : Int) (hk : kind = 14 ∨ kind = 15) (ha : Wo W A) (hb : Wo W B) (w : World) : Makes Tryz.prog 225 #[.int .i64 kind, .int .i64 W, .int .i64 A, .int .i64 B] w (.int .i64 (op2 kind W A B)) := by
 have h1 := ha.wd.lo
 have h2 := ha.wd.hi
 have HO14 := Lib.hid (show op2 14 W A B = if sg W B = 0 then (if sg W A < 0 then 1 else 2 ^ W.toNat - 1) else (sg W A).tdiv (sg W B) % 2 ^ W.toNat from rfl)
 have HO15 := Lib.hid (show op2 15 W A B = if sg W B = 0 then A else (sg W A).tmod (sg W B) % 2 ^ W.toNat from rfl)
 obtain ⟨p1, p2⟩ := sg_small ha
 obtain ⟨p3, p4⟩ := sg_small hb
 have HA := Lib.hid (fun w => signed_same W A ha w)
 have HB := Lib.hid (fun w => signed_same W B hb w)
 have HM := Lib.hid (fun w => mask_same W w (by omega) h2)
 have ht := tdiv_small2 (y := sg W B) p1 p2
 have HAD := Lib.hid (and_mask ((sg W A).tdiv (sg W B)) W.toNat (by omega))
 have HAR := Lib.hid (and_mask ((sg W A).tmod (sg W B)) W.toNat (by omega))
 clear ha hb
 generalize sg W A = x at *
 generalize sg W B = y at *
 obtain ⟨t1, t2⟩ := ht
 rcases hk with rfl | rfl
 · generalize op2 14 W A B = R at *
   by_cases hz : y = 0
   · subst hz
     by_cases hn : x < 0
     · have HR := Lib.hid (show R = 1 by rw [HO14.out, if_pos rfl, if_pos hn])
       go_enter Tryz.func225, Tryz.ntmps225
       go_wp2_with (go_at_call 223; first | (with_reducible refine (HA.out _).mono ?_; rintro e w' ⟨rfl, rfl⟩) | (with_reducible refine (HB.out _).mono ?_; rintro e w' ⟨rfl, rfl⟩))
       go_ret
       exact ⟨ret_eq (congrArg (Value.int .i64) HR.out.symm), Below.refl _ _⟩
     · have HR := Lib.hid (show R = 2 ^ W.toNat - 1 by rw [HO14.out, if_pos rfl, if_neg hn])
       go_enter Tryz.func225, Tryz.ntmps225
       go_wp2_with (first | (go_at_call 80; refine (HM.out _).mono ?_; rintro e w' ⟨rfl, rfl⟩) | (go_at_call 223; first | (with_reducible refine (HA.out _).mono ?_; rintro e w' ⟨rfl, rfl⟩) | (with_reducible refine (HB.out _).mono ?_; rintro e w' ⟨rfl, rfl⟩)))
       go_ret
       exact ⟨ret_eq (congrArg (Value.int .i64) HR.out.symm), Below.refl _ _⟩
   · have HR := Lib.hid (show R = x.tdiv y % 2 ^ W.toNat by rw [HO14.out, if_neg hz])
     have hz1 : (y == 0) = false := by simpa using hz
     go_enter Tryz.func225, Tryz.ntmps225
     go_upto_region 9 with (go_at_call 223; first | (with_reducible refine (HA.out _).mono ?_; rintro e w' ⟨rfl, rfl⟩) | (with_reducible refine (HB.out _).mono ?_; rintro e w' ⟨rfl, rfl⟩))
     refine wp_region_later (w0 := w) (by kernel_rfl) (by kernel_rfl) (LaterC.refl _) ?_
     repeat (go_big_quiet_step ((go_at_call 80; exact Calls.later (Makes.of_same (HM.out _)))))
     refine wpQuiet_nil ?_
     rintro _ ⟨u1, rfl⟩
     go_wp2
     go_ret
     exact ⟨ret_eq (congrArg (Value.int .i64) (HAD.out.trans HR.out.symm)), u1.prop.mono (Nat.le_refl _)⟩
 · generalize op2 15 W A B = R at *
   by_cases hz : y = 0
   · subst hz
     have HR := Lib.hid (show R = A by rw [HO15.out, if_pos rfl])
     go_enter Tryz.func225, Tryz.ntmps225
     go_wp2_with (go_at_call 223; first | (with_reducible refine (HA.out _).mono ?_; rintro e w' ⟨rfl, rfl⟩) | (with_reducible refine (HB.out _).mono ?_; rintro e w' ⟨rfl, rfl⟩))
     go_ret
     exact ⟨ret_eq (congrArg (Value.int .i64) HR.out.symm), Below.refl _ _⟩
   · have HR := Lib.hid (show R = x.tmod y % 2 ^ W.toNat by rw [HO15.out, if_neg hz])
     have hz1 : (y == 0) = false := by simpa using hz
     go_enter Tryz.func225, Tryz.ntmps225
     go_upto_region 10 with (go_at_call 223; first | (with_reducible refine (HA.out _).mono ?_; rintro e w' ⟨rfl, rfl⟩) | (with_reducible refine (HB.out _).mono ?_; rintro e w' ⟨rfl, rfl⟩))
     refine wp_region_later (w0 := w) (by kernel_rfl) (by kernel_rfl) (LaterC.refl _) ?_
     repeat (go_big_quiet_step ((go_at_call 80; exact Calls.later (Makes.of_same (HM.out _)))))
     refine wpQuiet_nil ?_
     rintro _ ⟨u1, rfl⟩
     go_wp2
     go_ret
     exact ⟨ret_eq (congrArg (Value.int .i64) (HAR.out.trans HR.out.symm)), u1.prop.mono (Nat.le_refl _)⟩
attribute [local go_sem] min_ints max_ints
theorem lw_if (W B : Int) : (if W < B then W else B) = lw W B := rfl
theorem shifted_same (kind W A B : Int) (hk : kind = 16 ∨ kind = 17 ∨ kind = 18) (ha : Wo W A) (hb : Wo W B) (w : World) : Makes Tryz.prog 226 #[.int .i64 kind, .int .i64 W, .int .i64 A, .int .i64 B] w (.int .i64 (op2 kind W A B)) := by
 have h1 := ha.wd.lo
 have h2 := ha.wd.hi
 have ha0 := ha.lo
 have ha1 := ha.top
 have hb0 := hb.lo
 have hl : 0 ≤ lw W B ∧ lw W B ≤ 16 := by unfold lw; split <;> omega
 have HO := Lib.hid (show op2 kind W A B = op2 kind W A B from rfl)
 obtain ⟨RV, hRV⟩ : ∃ r, r = op2 kind W A B := ⟨_, rfl⟩
 rw [← hRV]
 obtain ⟨p1, p2⟩ := sg_small ha
 have HS := Lib.hid (fun w => signed_same W A ha w)
 have HM := Lib.hid (fun w => mask_same W w (by omega) h2)
 obtain ⟨q1, q2⟩ := pow60 (i := (lw W B).toNat) (by omega)
 have q3 : (2 : Int) ^ (lw W B).toNat ≤ 65536 := by
  have h := pow_nat_le (show (lw W B).toNat ≤ 16 by omega)
  have h' := natpow (lw W B).toNat
  omega
 have hm : A * 2 ^ (lw W B).toNat ≤ 65536 * 65536 := Int.mul_le_mul (by omega) (by omega) (by omega) (by omega)
 have hm2 : A * 2 ^ (lw W B).toNat ≤ 4294967296 := by omega
 have hm0 : 0 ≤ A * 2 ^ (lw W B).toNat := Int.mul_nonneg ha0 (by omega)
 clear hm
 have HA1 := Lib.hid (and_mask (A * 2 ^ (lw W B).toNat) W.toNat (by omega))
 have HA2 := Lib.hid (and_mask (sg W A / 2 ^ (lw W B).toNat) W.toNat (by omega))
 have hlw := lw_if W B
 rcases hk with rfl | rfl | rfl
 · have HV := Lib.hid (show RV = A * 2 ^ (lw W B).toNat % 2 ^ W.toNat from hRV)
   clear hRV ha hb
   generalize sg W A = x at *
   generalize lw W B = l at *
   go_enter Tryz.func226, Tryz.ntmps226
   go_upto_region 4 with fail
   refine wp_region_later (w0 := w) (by kernel_rfl) (by kernel_rfl) (LaterC.refl _) ?_
   repeat (go_big_quiet_step ((go_at_call 80; exact Calls.later (Makes.of_same (HM.out _)))))
   refine wpQuiet_nil ?_
   rintro _ ⟨u1, rfl⟩
   go_wp2
   go_ret
   exact ⟨ret_eq (congrArg (Value.int .i64) (HA1.out.trans HV.out.symm)), u1.prop.mono (Nat.le_refl _)⟩
 · have HV := Lib.hid (show RV = A / 2 ^ (lw W B).toNat from hRV)
   clear hRV ha hb
   generalize sg W A = x at *
   generalize lw W B = l at *
   go_enter Tryz.func226, Tryz.ntmps226
   go_wp2
   go_ret
   exact ⟨ret_eq (congrArg (Value.int .i64) HV.out.symm), Below.refl _ _⟩
 · have HV := Lib.hid (show RV = sg W A / 2 ^ (lw W B).toNat % 2 ^ W.toNat from hRV)
   clear hRV ha hb
   generalize sg W A = x at *
   generalize lw W B = l at *
   go_enter Tryz.func226, Tryz.ntmps226
   go_upto_region 7 with fail
   refine wp_region_later (w0 := w) (by kernel_rfl) (by kernel_rfl) (LaterC.refl _) ?_
   repeat (go_big_quiet_step (first | (go_at_call 80; exact Calls.later (Makes.of_same (HM.out _))) | (go_at_call 223; exact Calls.later (Makes.of_same (HS.out _)))))
   refine wpQuiet_nil ?_
   rintro _ ⟨u1, rfl⟩
   go_wp2
   go_ret
   exact ⟨ret_eq (congrArg (Value.int .i64) (HA2.out.trans HV.out.symm)), u1.prop.mono (Nat.le_refl _)⟩
end Go.Proofs.YtbenebcphaiohaaGreat
namespace Go.Proofs.YtbenebcphaiohaaGreat
open Go.RowKit
theorem rot_or {W A c : Int} (ha : Wo W A) (h0 : 0 ≤ c) (h1 : c < W) : Go.bits .and .i64 (Go.bits .or .i64 (A * 2 ^ c.toNat) (A / 2 ^ (W - c).toNat)) (2 ^ W.toNat - 1) = rolv W A c ∧ 0 ≤ A * 2 ^ c.toNat ∧ A * 2 ^ c.toNat ≤ 4294967296 ∧ 0 ≤ A / 2 ^ (W - c).toNat ∧ A / 2 ^ (W - c).toNat ≤ 65536 := by
 have hd := ha.wd
 have hl0 := hd.lo
 have hl1 := hd.hi
 rw [and_mask _ _ (by omega)]
 obtain ⟨c, rfl⟩ := Int.eq_ofNat_of_zero_le h0
 obtain ⟨W, A, rfl, rfl, h1', h2, h3⟩ := word_nat ha
 have hcW : c < W := by omega
 have h65 : 2 ^ W ≤ 2 ^ 16 := pow_nat_le h2
 have hc16 : 2 ^ c ≤ 2 ^ 16 := pow_nat_le (by omega)
 have hm : A * 2 ^ c ≤ 2 ^ 16 * 2 ^ 16 := Nat.mul_le_mul (by omega) hc16
 have hcast : (A : Int) * 2 ^ c = ((A * 2 ^ c : Nat) : Int) := by push_cast; rfl
 have hcast2 : (A : Int) / 2 ^ (W - c) = ((A / 2 ^ (W - c) : Nat) : Int) := by push_cast; rfl
 have hdl := Nat.div_le_self A (2 ^ (W - c))
 rw [← rolN_end W c A hcW h3, ← rol_or W c A hcW h3]
 rw [show ((W : Int) - (c : Int)).toNat = W - c by omega, Int.toNat_natCast, Int.toNat_natCast, hcast, hcast2, bits_or_nat _ _ (by omega) (by omega)]
 refine ⟨?_, by omega, by omega, Int.natCast_nonneg _, by omega⟩
 push_cast
 rfl
theorem rotate_same (W A P : Int) (ha : Wo W A) (hp0 : 0 ≤ P) (hp1 : P ≤ 65552) (w : World) : Makes Tryz.prog 227 #[.int .i64 W, .int .i64 A, .int .i64 P] w (.int .i64 (rolv W A (P.tmod W))) := by
 have h1 := ha.wd.lo
 have h2 := ha.wd.hi
 have ha0 := ha.lo
 have ha1 := ha.top
 have hc0 : 0 ≤ P.tmod W := Int.tmod_nonneg _ hp0
 have hc1 : P.tmod W < W := Int.tmod_lt_of_pos _ (by omega)
 obtain ⟨e, q0, q1, q2, q3⟩ := rot_or ha hc0 hc1
 have HE := Lib.hid e
 have HM := Lib.hid (fun w => mask_same W w (by omega) h2)
 obtain ⟨q4, q5⟩ := pow60 (i := (P.tmod W).toNat) (by omega)
 obtain ⟨q6, q7⟩ := pow60 (i := (W - P.tmod W).toNat) (by omega)
 have hz : (W == 0) = false := beq_eq_false_iff_ne.2 (by omega)
 clear e ha
 generalize hcc : P.tmod W = c at *
 go_enter Tryz.func227, Tryz.ntmps227
 go_upto_region 2 with fail
 refine wp_region_later (w0 := w) (by kernel_rfl) (by kernel_rfl) (LaterC.refl _) ?_
 repeat (go_big_quiet_step ((go_at_call 80; exact Calls.later (Makes.of_same (HM.out _)))))
 refine wpQuiet_nil ?_
 rintro _ ⟨u1, rfl⟩
 go_wp2
 go_ret
 exact ⟨ret_eq (congrArg (Value.int .i64) HE.out), u1.prop.mono (Nat.le_refl _)⟩
theorem compared_same (kind W A B : Int) (h21 : 21 ≤ kind) (h28 : kind ≤ 28) (ha : Wo W A) (hb : Wo W B) (w : World) : Makes Tryz.prog 228 #[.int .i64 kind, .int .i64 W, .int .i64 A, .int .i64 B] w (.bool (says kind W A B)) := by
 have h1 := ha.wd.lo
 have h2 := ha.wd.hi
 have ha0 := ha.lo
 have ha1 := ha.top
 have hb0 := hb.lo
 have hb1 := hb.top
 obtain ⟨p1, p2⟩ := sg_small ha
 obtain ⟨p3, p4⟩ := sg_small hb
 have HA := Lib.hid (fun w => signed_same W A ha w)
 have HB := Lib.hid (fun w => signed_same W B hb w)
 have HM := Lib.hid (fun w => mask_same W w (by omega) h2)
 obtain ⟨q4, q5⟩ := pow60 (i := W.toNat) (by omega)
 obtain ⟨q6, q7⟩ := pow60 (i := W.toNat - 1) (by omega)
 have hab : 0 ≤ A * B := Int.mul_nonneg ha0 hb0
 have hab1 : A * B ≤ 65536 * 65536 := Int.mul_le_mul (by omega) (by omega) hb0 (by omega)
 have hab2 : A * B ≤ 4294967296 := by omega
 clear hab1
 obtain ⟨RV, hRV⟩ : ∃ r, r = says kind W A B := ⟨_, rfl⟩
 rw [← hRV]
 unfold says at hRV
 rw [show (W - 1).toNat = W.toNat - 1 by omega] at hRV
 have HR := Lib.hid hRV
 clear hRV ha hb
 generalize sg W A = x at *
 generalize sg W B = y at *
 rcases (show kind = 21 ∨ kind = 22 ∨ kind = 23 ∨ kind = 24 ∨ kind = 25 ∨ kind = 26 ∨ kind = 27 ∨ kind = 28 by omega) with rfl | rfl | rfl | rfl | rfl | rfl | rfl | rfl
 · have HE := Lib.hid (show RV = (A == B) from by rw [HR.out, if_pos rfl]; by_cases h : A = B <;> simp [h])
   go_enter Tryz.func228, Tryz.ntmps228
   go_wp2_with (go_at_call 223; first | (with_reducible refine (HA.out _).mono ?_; rintro e w' ⟨rfl, rfl⟩) | (with_reducible refine (HB.out _).mono ?_; rintro e w' ⟨rfl, rfl⟩))
   go_ret
   exact ⟨ret_eq (congrArg Value.bool HE.out.symm), Below.refl _ _⟩
 · have HE := Lib.hid (show RV = decide (A < B) from HR.out)
   go_enter Tryz.func228, Tryz.ntmps228
   go_wp2_with (go_at_call 223; first | (with_reducible refine (HA.out _).mono ?_; rintro e w' ⟨rfl, rfl⟩) | (with_reducible refine (HB.out _).mono ?_; rintro e w' ⟨rfl, rfl⟩))
   go_ret
   exact ⟨ret_eq (congrArg Value.bool HE.out.symm), Below.refl _ _⟩
 · have HE := Lib.hid (show RV = decide (x < y) from HR.out)
   go_enter Tryz.func228, Tryz.ntmps228
   go_wp2_with (go_at_call 223; first | (with_reducible refine (HA.out _).mono ?_; rintro e w' ⟨rfl, rfl⟩) | (with_reducible refine (HB.out _).mono ?_; rintro e w' ⟨rfl, rfl⟩))
   go_ret
   exact ⟨ret_eq (congrArg Value.bool HE.out.symm), Below.refl _ _⟩
 · have HE := Lib.hid (show RV = decide (A ≤ B) from HR.out)
   go_enter Tryz.func228, Tryz.ntmps228
   go_wp2_with (go_at_call 223; first | (with_reducible refine (HA.out _).mono ?_; rintro e w' ⟨rfl, rfl⟩) | (with_reducible refine (HB.out _).mono ?_; rintro e w' ⟨rfl, rfl⟩))
   go_ret
   exact ⟨ret_eq (congrArg Value.bool HE.out.symm), Below.refl _ _⟩
 · have HE := Lib.hid (show RV = decide (x ≤ y) from HR.out)
   go_enter Tryz.func228, Tryz.ntmps228
   go_wp2_with (go_at_call 223; first | (with_reducible refine (HA.out _).mono ?_; rintro e w' ⟨rfl, rfl⟩) | (with_reducible refine (HB.out _).mono ?_; rintro e w' ⟨rfl, rfl⟩))
   go_ret
   exact ⟨ret_eq (congrArg Value.bool HE.out.symm), Below.refl _ _⟩
 · have HE := Lib.hid (show RV = decide (2 ^ W.toNat - 1 < A + B) from HR.out.trans (by simp; omega))
   go_enter Tryz.func228, Tryz.ntmps228
   go_wp2_with (first | (go_at_call 80; refine (HM.out _).mono ?_; rintro e w' ⟨rfl, rfl⟩) | (go_at_call 223; first | (with_reducible refine (HA.out _).mono ?_; rintro e w' ⟨rfl, rfl⟩) | (with_reducible refine (HB.out _).mono ?_; rintro e w' ⟨rfl, rfl⟩)))
   go_ret
   exact ⟨ret_eq (congrArg Value.bool HE.out.symm), Below.refl _ _⟩
 · have HE := Lib.hid (show RV = !(inB (x + y) (-2 ^ (W.toNat - 1)) (2 ^ (W.toNat - 1) - 1)) from HR.out.trans (by
    by_cases h : -2 ^ (W.toNat - 1) ≤ x + y ∧ x + y < 2 ^ (W.toNat - 1)
    · rw [inB_yes ⟨h.1, by omega⟩]; simp [h]
    · rw [inB_no (by omega)]; simp [h]))
   have HI := Lib.hid (fun w => in_same (x + y) (-2 ^ (W.toNat - 1)) (2 ^ (W.toNat - 1) - 1) w)
   go_enter Tryz.func228, Tryz.ntmps228
   go_upto_region 16 with (go_at_call 223; first | (with_reducible refine (HA.out _).mono ?_; rintro e w' ⟨rfl, rfl⟩) | (with_reducible refine (HB.out _).mono ?_; rintro e w' ⟨rfl, rfl⟩))
   refine wp_region_later (w0 := w) (by kernel_rfl) (by kernel_rfl) (LaterC.refl _) ?_
   repeat (go_big_quiet_step ((go_at_call 79; exact Calls.later (Makes.of_same (HI.out _)))))
   refine wpQuiet_nil ?_
   rintro _ ⟨u1, rfl⟩
   go_wp2
   go_ret
   exact ⟨ret_eq (congrArg Value.bool HE.out.symm), u1.prop.mono (Nat.le_refl _)⟩
 · have HE := Lib.hid (show RV = decide (2 ^ W.toNat - 1 < A * B) from HR.out.trans (by simp; omega))
   go_enter Tryz.func228, Tryz.ntmps228
   go_wp2_with (first | (go_at_call 80; refine (HM.out _).mono ?_; rintro e w' ⟨rfl, rfl⟩) | (go_at_call 223; first | (with_reducible refine (HA.out _).mono ?_; rintro e w' ⟨rfl, rfl⟩) | (with_reducible refine (HB.out _).mono ?_; rintro e w' ⟨rfl, rfl⟩)))
   go_ret
   exact ⟨ret_eq (congrArg Value.bool HE.out.symm), Below.refl _ _⟩
end Go.Proofs.YtbenebcphaiohaaGreat
