import Derived.Test.YteboalbpgghdhaaGreatK8
import Derived.Lib.AppendZeros
import Derived.Deep.AppendLies
import Derived.Deep.RegionHeld3
set_option linter.unusedVariables false
set_option linter.unusedSimpArgs false
namespace Go.Proofs.YteboalbpgghdhaaGreat
open Go.RowKit
/-! impl.valueOk, impl.Model.fits. -/
theorem any_not (p : Int → Bool) (xs : List Int) : (!(xs.any fun n => !p n)) = xs.all p := by
  induction xs with
  | nil => rfl
  | cons x l ih => rw [List.any_cons, List.all_cons, ← ih]; cases p x <;> simp
theorem vclosure_calls (Bs : Nat) (a n : Int) (w : World) (h : w.cell? ⟨Bs, 1, none⟩ = some (.int .i64 a)) :
    Makes Tryz.prog 123 #[.int .i64 n, .pointer (some ⟨Bs, 0, none⟩)] w (.bool (!wokB a n)) := by
  go_enter Tryz.func123, Tryz.ntmps123
  go_wp2_with (go_at_call 124; refine (WordOk'_same a n _).mono ?_; rintro e w' ⟨rfl, rfl⟩)
  go_ret
  exact ⟨rfl, Below.refl _ _⟩
set_option maxHeartbeats 2000000 in
set_option maxRecDepth 8000 in
theorem valueOk_calls (i a : Int) (sv : Value) (xs : List Int) (w : World) (hS : SlN enI w sv xs) :
    Makes Tryz.prog 94 #[.agg #[.int .i64 i, .int .i64 a], .agg #[sv]] w (.bool (valN i a xs)) := by
  have HS0 := Lib.hid hS
  obtain ⟨A, c, rfl, hnc, hn, -⟩ := hS
  have HR := Lib.hid (show valN i a xs = (((xs.length : Int) == cellsN i a) && !(xs.any fun n => !wokB a n)) by rw [any_not]; rfl)
  generalize hR : valN i a xs = R at *
  clear hR
  have HS1 := Lib.hid (show Below w.heap.size w ((w.alloc (Obj.cells #[.int .i64 i, .int .i64 a] 99)).alloc (Obj.cells #[.slice A xs.length c] 67)) by
    refine Below.alloc (Below.alloc (Below.refl _ _) (Nat.le_refl _) _) ?_ _ <;> first | (simp; done) | (simp; omega))
  have HS := Lib.hid (HS0.out.below HS1.out)
  generalize hm : xs.length = m at *
  have HM := Lib.hid hm
  have hmf : ∀ (fn : Fn) (first cap : Array Value) (w : World), (Instr.makeFunc fn first cap).run Tryz.prog w = .ok (.func fn first cap) w := fun _ _ _ _ => rfl
  clear hm HS0
  go_enter Tryz.func94, Tryz.ntmps94
  go_wp2
  have y0 : ((w.alloc (Obj.cells #[.int .i64 i, .int .i64 a] 99)).alloc (Obj.cells #[.slice A m c] 67)).cell? ⟨w.heap.size, 0, none⟩ = some (.int .i64 i) := by go_simp
  have y1 : ((w.alloc (Obj.cells #[.int .i64 i, .int .i64 a] 99)).alloc (Obj.cells #[.slice A m c] 67)).cell? ⟨w.heap.size, 1, none⟩ = some (.int .i64 a) := by go_simp
  have z0 : ((w.alloc (Obj.cells #[.int .i64 i, .int .i64 a] 99)).alloc (Obj.cells #[.slice A m c] 67)).cell? ⟨w.heap.size + 1, 0, none⟩ = some (.slice A m c) := by go_simp
  generalize (w.alloc (Obj.cells #[.int .i64 i, .int .i64 a] 99)).alloc (Obj.cells #[.slice A m c] 67) = w1 at *
  have y0 := Later.cell y0
  have y1 := Later.cell y1
  have z0 := Later.cell z0
  have HANS := Lib.hid (show ∀ u : Later w1, Answers u.val 123 #[.pointer (some ⟨w.heap.size, 0, none⟩)] (fun n => !wokB a n) xs from fun u y u2 _ => vclosure_calls w.heap.size a y u2.val (y1 ⟨u2.val, u2.back u.prop⟩))
  obtain ⟨V, hV⟩ : ∃ V, V = xs.any fun n => !wokB a n := ⟨_, rfl⟩
  rw [← hV] at HR
  have HV := Lib.hid hV.symm
  clear hV
  by_cases hl : ((m : Int) == cellsN i a) = true
  · have HC := Lib.hid (show cellsN i a = (m : Int) from (by simpa using hl : (m : Int) = cellsN i a).symm)
    rw [hl, Bool.true_and] at HR
    clear hl
    refine wp_region_later (w0 := w1) (by kernel_rfl) (by kernel_rfl) (LaterC.refl _) ?_
    repeat (go_big_quiet_step (first | (go_at_call 122; exact Calls.later_eq (SortCells'_calls i a _) (congrArg (Value.int .i64) HC.out)) | (go_at_call 89; exact Calls.later_eq (containsI_calls _ #[.pointer (some ⟨w.heap.size, 0, none⟩)] (fun n => !wokB a n) _ xs _ (HS.out.later _) (fun _ _ => rfl) (HANS.out _)) (congrArg Value.bool HV.out))))
    refine wpQuiet_nil ?_
    rintro _ ⟨u1, rfl⟩
    go_wp2
    go_ret
    exact ⟨ret_eq (congrArg Value.bool HR.out.symm), u1.back HS1.out⟩
  · have hl := eq_false_of_ne_true hl
    have HRF := Lib.hid (show R = false by rw [HR.out, hl, Bool.false_and])
    clear HR
    refine wp_region_later (w0 := w1) (by kernel_rfl) (by kernel_rfl) (LaterC.refl _) ?_
    repeat (go_big_quiet_step ((go_at_call 122; exact Calls.later (SortCells'_calls i a _))))
    refine wpQuiet_nil ?_
    rintro _ ⟨u1, rfl⟩
    go_wp2
    go_ret
    exact ⟨ret_eq (congrArg Value.bool HRF.out.symm), u1.back HS1.out⟩
set_option maxHeartbeats 2000000 in
set_option maxRecDepth 8000 in
theorem fits_calls (mv pv lv : Value) (M : Md) (ps : List Int) (L : List (List Int)) (w : World) (hM : MdAt w mv M) (hP : SlN enI w pv ps) (hI : InN ps M.nodes.length) (hL : VlAt w lv L) :
    Makes Tryz.prog 51 #[mv, pv, lv] w (.bool (fitsB M.nodes ps L)) := by
  obtain ⟨s0, s1, s2, s3, s4, rfl, hS, -, -, -, -⟩ := hM.at_
  obtain ⟨A, c, rfl, hnc, hc', hA⟩ := hS
  obtain ⟨B, d, rfl, -, hd', hB⟩ := hP
  obtain ⟨D, e, rfl, -, he', hD⟩ := hL
  clear hM
  have HNO := Lib.hid (show ∀ k, k < L.length → valB (M.nodes.getD (ps.getD k 0).toNat Nd.zero) (L.getD k []) = false → fitsB M.nodes ps L = false from fun k h1 h2 => fits_no h1 h2)
  have HYES := Lib.hid (show L.length = ps.length → (∀ k, k < L.length → valB (M.nodes.getD (ps.getD k 0).toNat Nd.zero) (L.getD k []) = true) → fitsB M.nodes ps L = true from fun h1 h2 => fits_yes h1 h2)
  have HLN := Lib.hid (show (L.length == ps.length) = false → fitsB M.nodes ps L = false from fun h => fits_len h)
  generalize fitsB M.nodes ps L = R at *
  have HI := Lib.hid hI
  generalize hN : M.nodes.length = n at *
  have HN := Lib.hid hN
  generalize hQ : ps.length = q at *
  have HQ := Lib.hid hQ
  generalize hT : L.length = t at *
  have HT := Lib.hid hT
  clear hN hQ hT hI
  have hn : n ≤ 281474976710656 := Nat.le_trans hnc hc'
  clear hnc hc'
  by_cases hqt : t = q
  · subst hqt
    go_enter Tryz.func51, Tryz.ntmps51
    go_wp2
    generalize hw1 : w.alloc (Obj.cells #[.slice A n c, s1, s2, s3, s4] 34) = w1
    have hb0 : ∀ u : Later w1, u.val.cell? ⟨w.heap.size, 0, none⟩ = some (.slice A n c) := Later.cell (by rw [← hw1]; simp)
    have HB := Lib.hid (show Below w.heap.size w w1 by rw [← hw1]; exact (Below.refl _ _).alloc (Nat.le_refl _) _)
    clear hw1
    go_loopw [16] (fun i wr => ∃ k : Nat, k ≤ t ∧ i = .int .i64 k ∧ Hid (∀ j, j < k → valB (M.nodes.getD (ps.getD j 0).toNat Nd.zero) (L.getD j []) = true) ∧ LaterC w1 wr) (fun i _ => t - (intOf i).toNat)
    case atStart => exact ⟨0, Nat.zero_le _, rfl, Lib.hid (fun i hi => absurd hi (Nat.not_lt_zero _)), LaterC.refl _⟩
    case round =>
      obtain ⟨k, hk, rfl, HTO, ⟨u, rfl⟩⟩ := hrel
      by_cases hlt : k < t
      · have hlt' : (k : Int) < t := by omega
        have hgp := getD_at (show k < ps.length by rw [HQ.out]; exact hlt) 0
        obtain ⟨p, hp, hpn⟩ := HI.out k _ hgp
        obtain ⟨bp, op, rfl, hpx⟩ := hB k _ hgp
        have hgl := getD_at (show k < L.length by rw [HT.out]; exact hlt) []
        obtain ⟨bl, ol, sv, rfl, hlc, hls⟩ := hD k _ hgl
        have hgn := getD_at (show p < M.nodes.length by rw [HN.out]; exact hpn) Nd.zero
        obtain ⟨bn, on, rfl, hnx⟩ := hA p _ hgn
        have HVV := Lib.hid (show valB (M.nodes.getD (ps.getD k 0).toNat Nd.zero) (L.getD k []) = valB (M.nodes.getD p Nd.zero) (L.getD k []) by rw [hp]; rfl)
        rw [hp] at hpx
        generalize M.nodes.getD p Nd.zero = x at *
        generalize hxs : L.getD k [] = xs at *
        have HXS := Lib.hid hxs
        have p0 : ∀ l : Later w1, l.val.cell? ⟨bp, op + k, none⟩ = some (.int .i64 (p : Int)) := hpx.int HB.out
        have q0 : ∀ l : Later w1, l.val.cell? ⟨bl, ol + k, none⟩ = some sv := back_cell hlc HB.out
        have p6 : ∀ l : Later w1, l.val.cell? ⟨bn, on + p * 9 + 6, none⟩ = some (.int .i64 x.idx) := hnx.at_ HB.out 6 _ rfl
        have p7 : ∀ l : Later w1, l.val.cell? ⟨bn, on + p * 9 + 7, none⟩ = some (.int .i64 x.wid) := hnx.at_ HB.out 7 _ rfl
        have HS := Lib.hid (hls.below HB.out)
        clear hxs hgp hgl hgn hpx hnx hlc hls hp hA hB hD
        by_cases hv : valN x.idx x.wid xs = true
        · have HV := Lib.hid hv
          have HTO2 := Lib.hid (show ∀ j, j < k + 1 → valB (M.nodes.getD (ps.getD j 0).toNat Nd.zero) (L.getD j []) = true from fun j hj => by
            rcases Nat.lt_or_ge j k with g | g
            · exact HTO.out j g
            · obtain rfl : j = k := by omega
              rw [HXS.out, HVV.out]; exact hv)
          clear hv HTO
          go_wp2
          refine wp_region_later (w0 := w1) (by kernel_rfl) (by kernel_rfl) ⟨u, rfl⟩ ?_
          repeat (go_big_quiet_step ((go_at_call 94; exact Calls.later_eq (valueOk_calls x.idx x.wid sv xs _ (HS.out.later _)) (congrArg Value.bool HV.out))))
          refine wpQuiet_nil ?_
          rintro _ ⟨u1, rfl⟩
          go_wp2
          go_roundw
          case rel => exact ⟨k + 1, by omega, by go_num, HTO2, ⟨u1, rfl⟩⟩
          case measure => simp [intOf] <;> omega
        · have hv := eq_false_of_ne_true hv
          have HV := Lib.hid hv
          have HR := Lib.hid (HNO.out k hlt (by rw [HXS.out, HVV.out]; exact hv))
          clear hv HTO
          go_wp2
          refine wp_region_later (w0 := w1) (by kernel_rfl) (by kernel_rfl) ⟨u, rfl⟩ ?_
          repeat (go_big_quiet_step ((go_at_call 94; exact Calls.later_eq (valueOk_calls x.idx x.wid sv xs _ (HS.out.later _)) (congrArg Value.bool HV.out))))
          refine wpQuiet_nil ?_
          rintro _ ⟨u1, rfl⟩
          go_wp2
          go_ret
          exact ⟨ret_eq (congrArg Value.bool HR.out.symm), u1.back HB.out⟩
      · obtain rfl : k = t := by omega
        have HR := Lib.hid (HYES.out trivial HTO.out)
        clear hA hB hD
        go_wp2
        go_ret
        exact ⟨ret_eq (congrArg Value.bool HR.out.symm), u.back HB.out⟩
  · have HR := Lib.hid (HLN.out (by simpa using hqt))
    have hne : (t == q) = false := by simpa using hqt
    go_enter Tryz.func51, Tryz.ntmps51
    go_wp2
    go_ret
    exact ⟨ret_eq (congrArg Value.bool HR.out.symm), box_below _ _ _⟩
end Go.Proofs.YteboalbpgghdhaaGreat
namespace Go.Proofs.YteboalbpgghdhaaGreat
open Go.RowKit
/-! The places of all nodes of a kind. -/
/-- One integer more, behind a row of the call's own. -/
theorem ownsRow_mono {w : World} {B B' n s : Nat} {e : TypeId} {v : Value} {xs : List Value} (h : w.ownsRow B e s v n xs) (hB : B' ≤ B) : w.ownsRow B' e s v n xs := by
  refine ⟨h.1, ?_⟩
  rcases h.2 with h0 | ⟨g, cap, cur, hv, hb, r⟩
  · exact .inl h0
  · exact .inr ⟨g, cap, cur, hv, Nat.le_trans hB hb, r⟩
set_option maxHeartbeats 2000000 in
set_option maxRecDepth 8000 in
theorem l2Places_calls (mv : Value) (M : Md) (kind : Int) (w : World) (hM : MdAt w mv M) (hsz : M.nodes.length ≤ 1048576) :
    Calls Tryz.prog 45 #[mv, .int .i64 kind] w fun e w' => ∃ v, e = .returned v ∧ Below w.heap.size w w' ∧ w'.ownsRow w.heap.size 3 1 v (placesN kind M.nodes M.nodes.length).length ((placesN kind M.nodes M.nodes.length).map (Value.int .i64)) := by
  obtain ⟨s0, s1, s2, s3, s4, rfl, hS, -, -, -, -⟩ := hM.at_
  obtain ⟨A, c, rfl, hnc, hc', hA⟩ := hS
  clear hM
  obtain ⟨ti, hti⟩ := info_parts info_int
  have HTI := Lib.hid hti
  clear hti
  generalize hN : M.nodes.length = n at *
  have HN := Lib.hid hN
  clear hN
  have hn : n ≤ 281474976710656 := Nat.le_trans hnc hc'
  clear hc' hnc
  go_enter Tryz.func45, Tryz.ntmps45
  go_wp2
  generalize hw1 : w.alloc (Obj.cells #[.slice A n c, s1, s2, s3, s4] 34) = w1
  have hb0 : ∀ u : Later w1, u.val.cell? ⟨w.heap.size, 0, none⟩ = some (.slice A n c) := Later.cell (by rw [← hw1]; simp)
  have HB := Lib.hid (show Below w.heap.size w w1 by rw [← hw1]; exact (Below.refl _ _).alloc (Nat.le_refl _) _)
  clear hw1
  go_loopw [5, 6] (fun s i wr => ∃ (k q : Nat) (sv : Value), k ≤ n ∧ i = .int .i64 k ∧ sv = s ∧ q ≤ k ∧ Hid (wr.ownsRow w1.heap.size 3 1 sv q ((placesN kind M.nodes k).map (Value.int .i64))) ∧ LaterC w1 wr) (fun _ i _ => n - (intOf i).toNat)
  case atStart => exact ⟨0, 0, _, Nat.zero_le _, rfl, rfl, Nat.le_refl _, Lib.hid ⟨rfl, .inl ⟨rfl, rfl⟩⟩, LaterC.refl _⟩
  case round =>
    obtain ⟨k, q, sv, hk, rfl, hsv, hq, HOWN, ⟨u, rfl⟩⟩ := hrel
    subst hsv
    by_cases hlt : k < n
    · have hget := getD_at (show k < M.nodes.length by rw [HN.out]; exact hlt) Nd.zero
      obtain ⟨b, o, rfl, hx⟩ := hA k _ hget
      by_cases hkd : ((M.nodes.getD k Nd.zero).kind == kind) = true
      · have HP := Lib.hid (placesN_yes hkd)
        generalize hxe : M.nodes.getD k Nd.zero = x at hx hkd
        have p0 : ∀ l : Later w1, l.val.cell? ⟨b, o + k * 9, none⟩ = some (.int .i64 x.kind) := hx.at_ HB.out 0 _ rfl
        clear hx hget hxe hA
        have HNEWS := Lib.hid (show ∀ j u', ([.int .i64 k] : List Value)[j]? = some u' → (u.val.alloc (Obj.cells #[.int .i64 k] 3)).cell? ((⟨u.val.heap.size, 0, none⟩ : Addr).add j) = some u' from World.news_of_block (OwnB.new u.val _ _))
        have HBASE := Lib.hid (show w1.heap.size ≤ (u.val.alloc (Obj.cells #[.int .i64 k] 3)).heap.size from (u.alloc (Obj.cells #[.int .i64 k] 3)).size)
        have HOWN0 := Lib.hid (ownsRow_below HOWN.out (box_below u.val #[.int .i64 k] 3))
        go_wp2_with (at_builtin; refine wpList_append_lies _ (by rfl) _ _ _ (by rfl) w1.heap.size 3 ti _ 1 8 Tryz.underlying24 HTI.out.1 HTI.out.2.1 HTI.out.2.2.1 HTI.out.2.2.2 rfl (by omega) sv q ((placesN kind M.nodes k).map (Value.int .i64)) (by rfl) HOWN0.out ⟨u.val.heap.size, 0, none⟩ 1 1 [.int .i64 k] (by rfl) rfl HNEWS.out (by intro y hy; simp at hy; subst hy; rfl) (by omega) (by unfold maxLen; omega) (by omega) HBASE.out (u.val.heap.size + 1) (by simp) ?_; intro g' cap' wn hown2 hgrow hat hglt; have HOWN2 := Lib.hid hown2; have hL := laterC_grown (u.alloc _) HOWN0.out hgrow; obtain ⟨u2, hu2⟩ := hL; subst hu2; clear hgrow hat hglt hown2)
        go_roundw
        case rel =>
          refine ⟨k + 1, q + 1, _, by omega, by go_num, rfl, by omega, Lib.hid ?_, ⟨u2, rfl⟩⟩
          rw [HP.out, List.map_append]
          exact HOWN2.out
        case measure => simp [intOf] <;> omega
      · have hkd := eq_false_of_ne_true hkd
        have HP := Lib.hid (placesN_no hkd)
        generalize hxe : M.nodes.getD k Nd.zero = x at hx hkd
        have p0 : ∀ l : Later w1, l.val.cell? ⟨b, o + k * 9, none⟩ = some (.int .i64 x.kind) := hx.at_ HB.out 0 _ rfl
        clear hx hget hxe hA
        go_wp2
        go_roundw
        case rel =>
          refine ⟨k + 1, q, _, by omega, by go_num, rfl, by omega, Lib.hid ?_, ⟨u, rfl⟩⟩
          rw [HP.out]
          exact HOWN.out
        case measure => simp [intOf] <;> omega
    · obtain rfl : k = n := by omega
      clear hA
      go_wp2
      go_ret
      have hql : q = (placesN kind M.nodes k).length := by have := HOWN.out.1; simpa using this.symm
      subst hql
      exact ⟨_, rfl, HB.out.trans (u.prop.mono HB.out.size), ownsRow_mono HOWN.out HB.out.size⟩
set_option maxHeartbeats 2000000 in
set_option maxRecDepth 8000 in
theorem places_calls (mv : Value) (M : Md) (kind : Int) (w : World) (hM : MdAt w mv M) (hsz : M.nodes.length ≤ 1048576) :
    Calls Tryz.prog 52 #[mv, .int .i64 kind] w fun e w' => ∃ v, e = .returned v ∧ Below w.heap.size w w' ∧ w'.ownsRow w.heap.size 3 1 v (placesN kind M.nodes M.nodes.length).length ((placesN kind M.nodes M.nodes.length).map (Value.int .i64)) := by
  obtain ⟨s0, s1, s2, s3, s4, rfl, hS, -, -, -, -⟩ := hM.at_
  obtain ⟨A, c, rfl, hnc, hc', hA⟩ := hS
  clear hM
  obtain ⟨ti, hti⟩ := info_parts info_int
  have HTI := Lib.hid hti
  clear hti
  generalize hN : M.nodes.length = n at *
  have HN := Lib.hid hN
  clear hN
  have hn : n ≤ 281474976710656 := Nat.le_trans hnc hc'
  clear hc' hnc
  go_enter Tryz.func52, Tryz.ntmps52
  go_wp2
  generalize hw1 : w.alloc (Obj.cells #[.slice A n c, s1, s2, s3, s4] 34) = w1
  have hb0 : ∀ u : Later w1, u.val.cell? ⟨w.heap.size, 0, none⟩ = some (.slice A n c) := Later.cell (by rw [← hw1]; simp)
  have HB := Lib.hid (show Below w.heap.size w w1 by rw [← hw1]; exact (Below.refl _ _).alloc (Nat.le_refl _) _)
  clear hw1
  go_loopw [5, 11] (fun s i wr => ∃ (k q : Nat) (sv : Value), k ≤ n ∧ i = .int .i64 k ∧ sv = s ∧ q ≤ k ∧ Hid (wr.ownsRow w1.heap.size 3 1 sv q ((placesN kind M.nodes k).map (Value.int .i64))) ∧ LaterC w1 wr) (fun _ i _ => n - (intOf i).toNat)
  case atStart => exact ⟨0, 0, _, Nat.zero_le _, rfl, rfl, Nat.le_refl _, Lib.hid ⟨rfl, .inl ⟨rfl, rfl⟩⟩, LaterC.refl _⟩
  case round =>
    obtain ⟨k, q, sv, hk, rfl, hsv, hq, HOWN, ⟨u, rfl⟩⟩ := hrel
    subst hsv
    by_cases hlt : k < n
    · have hget := getD_at (show k < M.nodes.length by rw [HN.out]; exact hlt) Nd.zero
      obtain ⟨b, o, rfl, hx⟩ := hA k _ hget
      by_cases hkd : ((M.nodes.getD k Nd.zero).kind == kind) = true
      · have HP := Lib.hid (placesN_yes hkd)
        generalize hxe : M.nodes.getD k Nd.zero = x at hx hkd
        have p0 : ∀ l : Later w1, l.val.cell? ⟨b, o + k * 9, none⟩ = some (.int .i64 x.kind) := hx.at_ HB.out 0 _ rfl
        have p1 : ∀ l : Later w1, l.val.cell? ⟨b, o + k * 9 + 1, none⟩ = some (.int .i64 x.a) := hx.at_ HB.out 1 _ rfl
        have p2 : ∀ l : Later w1, l.val.cell? ⟨b, o + k * 9 + 2, none⟩ = some (.int .i64 x.b) := hx.at_ HB.out 2 _ rfl
        have p3 : ∀ l : Later w1, l.val.cell? ⟨b, o + k * 9 + 3, none⟩ = some (.int .i64 x.c) := hx.at_ HB.out 3 _ rfl
        have p4 : ∀ l : Later w1, l.val.cell? ⟨b, o + k * 9 + 4, none⟩ = some (.int .i64 x.n) := hx.at_ HB.out 4 _ rfl
        have p5 : ∀ l : Later w1, l.val.cell? ⟨b, o + k * 9 + 5, none⟩ = some (.int .i64 x.m) := hx.at_ HB.out 5 _ rfl
        have p6 : ∀ l : Later w1, l.val.cell? ⟨b, o + k * 9 + 6, none⟩ = some (.int .i64 x.idx) := hx.at_ HB.out 6 _ rfl
        have p7 : ∀ l : Later w1, l.val.cell? ⟨b, o + k * 9 + 7, none⟩ = some (.int .i64 x.wid) := hx.at_ HB.out 7 _ rfl
        have p8 : ∀ l : Later w1, l.val.cell? ⟨b, o + k * 9 + 8, none⟩ = some (.string x.name) := hx.at_ HB.out 8 _ rfl
        clear hx hget hxe hA
        go_upto_region 5 with fail
        have y0 := box_cell u.val #[.int .i64 x.kind, .int .i64 x.a, .int .i64 x.b, .int .i64 x.c, .int .i64 x.n, .int .i64 x.m, .int .i64 x.idx, .int .i64 x.wid, .string x.name] 101 0 _ rfl
        have y0 : ∀ l : Later (u.val.alloc (Obj.cells #[.int .i64 x.kind, .int .i64 x.a, .int .i64 x.b, .int .i64 x.c, .int .i64 x.n, .int .i64 x.m, .int .i64 x.idx, .int .i64 x.wid, .string x.name] 101)), l.val.cell? ⟨u.val.heap.size, 0, none⟩ = some (.int .i64 x.kind) := y0
        have HOWN1 := Lib.hid (ownsRow_below HOWN.out (box_below u.val #[.int .i64 x.kind, .int .i64 x.a, .int .i64 x.b, .int .i64 x.c, .int .i64 x.n, .int .i64 x.m, .int .i64 x.idx, .int .i64 x.wid, .string x.name] 101))
        have hL5 : LaterC w1 (u.val.alloc (Obj.cells #[.int .i64 x.kind, .int .i64 x.a, .int .i64 x.b, .int .i64 x.c, .int .i64 x.n, .int .i64 x.m, .int .i64 x.idx, .int .i64 x.wid, .string x.name] 101)) := u.alloc _
        generalize (u.val.alloc (Obj.cells #[.int .i64 x.kind, .int .i64 x.a, .int .i64 x.b, .int .i64 x.c, .int .i64 x.n, .int .i64 x.m, .int .i64 x.idx, .int .i64 x.wid, .string x.name] 101)) = w5 at *
        generalize u.val.heap.size = GX at *
        clear p0 p1 p2 p3 p4 p5 p6 p7 p8 HOWN
        have HL5 := Lib.hid hL5
        clear hL5
        refine at_world (w := w5) ?_
        intro u
        have HOWN := Lib.hid (ownsRow_below HOWN1.out u.prop)
        have HNEWS := Lib.hid (show ∀ j u', ([.int .i64 k] : List Value)[j]? = some u' → (u.val.alloc (Obj.cells #[.int .i64 k] 3)).cell? ((⟨u.val.heap.size, 0, none⟩ : Addr).add j) = some u' from World.news_of_block (OwnB.new u.val _ _))
        have HBASE := Lib.hid (show w1.heap.size ≤ (u.val.alloc (Obj.cells #[.int .i64 k] 3)).heap.size from (HL5.out.trans (u.alloc (Obj.cells #[.int .i64 k] 3))).size)
        have HOWN0 := Lib.hid (ownsRow_below HOWN.out (box_below u.val #[.int .i64 k] 3))
        go_wp2_with (at_builtin; refine wpList_append_lies _ (by rfl) _ _ _ (by rfl) w1.heap.size 3 ti _ 1 8 Tryz.underlying24 HTI.out.1 HTI.out.2.1 HTI.out.2.2.1 HTI.out.2.2.2 rfl (by omega) sv q ((placesN kind M.nodes k).map (Value.int .i64)) (by rfl) HOWN0.out ⟨u.val.heap.size, 0, none⟩ 1 1 [.int .i64 k] (by rfl) rfl HNEWS.out (by intro y hy; simp at hy; subst hy; rfl) (by omega) (by unfold maxLen; omega) (by omega) HBASE.out (u.val.heap.size + 1) (by simp) ?_; intro g' cap' wn hown2 hgrow hat hglt; have HOWN2 := Lib.hid hown2; have hL := laterC_grown (HL5.out.trans (u.alloc _)) HOWN0.out hgrow; obtain ⟨u2, hu2⟩ := hL; subst hu2; clear hgrow hat hglt hown2)
        go_roundw
        case rel =>
          refine ⟨k + 1, q + 1, _, by omega, by go_num, rfl, by omega, Lib.hid ?_, ⟨u2, rfl⟩⟩
          rw [HP.out, List.map_append]
          exact HOWN2.out
        case measure => simp [intOf] <;> omega
      · have hkd := eq_false_of_ne_true hkd
        have HP := Lib.hid (placesN_no hkd)
        generalize hxe : M.nodes.getD k Nd.zero = x at hx hkd
        have p0 : ∀ l : Later w1, l.val.cell? ⟨b, o + k * 9, none⟩ = some (.int .i64 x.kind) := hx.at_ HB.out 0 _ rfl
        have p1 : ∀ l : Later w1, l.val.cell? ⟨b, o + k * 9 + 1, none⟩ = some (.int .i64 x.a) := hx.at_ HB.out 1 _ rfl
        have p2 : ∀ l : Later w1, l.val.cell? ⟨b, o + k * 9 + 2, none⟩ = some (.int .i64 x.b) := hx.at_ HB.out 2 _ rfl
        have p3 : ∀ l : Later w1, l.val.cell? ⟨b, o + k * 9 + 3, none⟩ = some (.int .i64 x.c) := hx.at_ HB.out 3 _ rfl
        have p4 : ∀ l : Later w1, l.val.cell? ⟨b, o + k * 9 + 4, none⟩ = some (.int .i64 x.n) := hx.at_ HB.out 4 _ rfl
        have p5 : ∀ l : Later w1, l.val.cell? ⟨b, o + k * 9 + 5, none⟩ = some (.int .i64 x.m) := hx.at_ HB.out 5 _ rfl
        have p6 : ∀ l : Later w1, l.val.cell? ⟨b, o + k * 9 + 6, none⟩ = some (.int .i64 x.idx) := hx.at_ HB.out 6 _ rfl
        have p7 : ∀ l : Later w1, l.val.cell? ⟨b, o + k * 9 + 7, none⟩ = some (.int .i64 x.wid) := hx.at_ HB.out 7 _ rfl
        have p8 : ∀ l : Later w1, l.val.cell? ⟨b, o + k * 9 + 8, none⟩ = some (.string x.name) := hx.at_ HB.out 8 _ rfl
        clear hx hget hxe hA
        go_upto_region 5 with fail
        have y0 := box_cell u.val #[.int .i64 x.kind, .int .i64 x.a, .int .i64 x.b, .int .i64 x.c, .int .i64 x.n, .int .i64 x.m, .int .i64 x.idx, .int .i64 x.wid, .string x.name] 101 0 _ rfl
        have y0 : ∀ l : Later (u.val.alloc (Obj.cells #[.int .i64 x.kind, .int .i64 x.a, .int .i64 x.b, .int .i64 x.c, .int .i64 x.n, .int .i64 x.m, .int .i64 x.idx, .int .i64 x.wid, .string x.name] 101)), l.val.cell? ⟨u.val.heap.size, 0, none⟩ = some (.int .i64 x.kind) := y0
        have HOWN1 := Lib.hid (ownsRow_below HOWN.out (box_below u.val #[.int .i64 x.kind, .int .i64 x.a, .int .i64 x.b, .int .i64 x.c, .int .i64 x.n, .int .i64 x.m, .int .i64 x.idx, .int .i64 x.wid, .string x.name] 101))
        have hL5 : LaterC w1 (u.val.alloc (Obj.cells #[.int .i64 x.kind, .int .i64 x.a, .int .i64 x.b, .int .i64 x.c, .int .i64 x.n, .int .i64 x.m, .int .i64 x.idx, .int .i64 x.wid, .string x.name] 101)) := u.alloc _
        generalize (u.val.alloc (Obj.cells #[.int .i64 x.kind, .int .i64 x.a, .int .i64 x.b, .int .i64 x.c, .int .i64 x.n, .int .i64 x.m, .int .i64 x.idx, .int .i64 x.wid, .string x.name] 101)) = w5 at *
        generalize u.val.heap.size = GX at *
        clear p0 p1 p2 p3 p4 p5 p6 p7 p8 HOWN
        have HL5 := Lib.hid hL5
        clear hL5
        refine at_world (w := w5) ?_
        intro u
        have HOWN := Lib.hid (ownsRow_below HOWN1.out u.prop)
        go_wp2
        go_roundw
        case rel =>
          refine ⟨k + 1, q, _, by omega, by go_num, rfl, by omega, Lib.hid ?_, HL5.out.trans ⟨u, rfl⟩⟩
          rw [HP.out]
          exact HOWN.out
        case measure => simp [intOf] <;> omega
    · obtain rfl : k = n := by omega
      clear hA
      go_wp2
      go_ret
      have hql : q = (placesN kind M.nodes k).length := by have := HOWN.out.1; simpa using this.symm
      subst hql
      exact ⟨_, rfl, HB.out.trans (u.prop.mono HB.out.size), ownsRow_mono HOWN.out HB.out.size⟩
end Go.Proofs.YteboalbpgghdhaaGreat
namespace Go.Proofs.YteboalbpgghdhaaGreat
open Go.RowKit
/-! StateFits, InputFits. -/
noncomputable def fitsK (kind : Int) (M : Md) (L : List (List Int)) : Bool := if codeN M = 0 then fitsB M.nodes (placesN kind M.nodes M.nodes.length) L else false
theorem placesN_InN (kind : Int) (l : List Nd) : InN (placesN kind l l.length) l.length := by
  intro i p h
  obtain ⟨j, h1, h2, -⟩ := placesN_in (List.mem_of_getElem? h)
  exact ⟨j, h1, h2⟩
theorem places_slN {w : World} {B : Nat} {v : Value} {kind : Int} {l : List Nd} (h : w.ownsRow B 3 1 v (placesN kind l l.length).length ((placesN kind l l.length).map (Value.int .i64))) (hl : l.length ≤ 1048576) : SlN enI w v (placesN kind l l.length) :=
  (RowI.of_owns h rfl (by have := placesN_le kind l l.length; omega)).slN
set_option maxHeartbeats 2000000 in
set_option maxRecDepth 8000 in
theorem StateFits_calls (mv lv : Value) (M : Md) (L : List (List Int)) (w : World) (hM : MdAt w mv M) (hL : VlAt w lv L) (hsz : M.nodes.length ≤ 1048576) (hnm : ∀ x, x ∈ M.nodes → x.name.size ≤ 140737488351232) :
    Makes Tryz.prog 19 #[mv, lv] w (.bool (fitsK 36 M L)) := by
  have HM := Lib.hid hM
  have HNM := Lib.hid hnm
  have HSZ := Lib.hid hsz
  have HL := Lib.hid hL
  have HIN := Lib.hid (placesN_InN 36 M.nodes)
  obtain ⟨s0, s1, s2, s3, s4, rfl, -⟩ := hM.at_
  clear hM hnm hsz hL
  generalize hR : fitsK 36 M L = R
  unfold fitsK at hR
  go_enter Tryz.func19, Tryz.ntmps19
  have HB := Lib.hid (box_below w #[s0, s1, s2, s3, s4] 34)
  have m0 := box_cell w #[s0, s1, s2, s3, s4] 34 0 _ rfl
  have m1 := box_cell w #[s0, s1, s2, s3, s4] 34 1 _ rfl
  have m2 := box_cell w #[s0, s1, s2, s3, s4] 34 2 _ rfl
  have m3 := box_cell w #[s0, s1, s2, s3, s4] 34 3 _ rfl
  have m4 := box_cell w #[s0, s1, s2, s3, s4] 34 4 _ rfl
  go_upto_region 1 with fail
  generalize w.alloc (.cells #[s0, s1, s2, s3, s4] 34) = w1 at *
  have m0 : ∀ u : Later w1, u.val.cell? ⟨w.heap.size, 0, none⟩ = some s0 := m0
  have m1 : ∀ u : Later w1, u.val.cell? ⟨w.heap.size, 1, none⟩ = some s1 := m1
  have m2 : ∀ u : Later w1, u.val.cell? ⟨w.heap.size, 2, none⟩ = some s2 := m2
  have m3 : ∀ u : Later w1, u.val.cell? ⟨w.heap.size, 3, none⟩ = some s3 := m3
  have m4 : ∀ u : Later w1, u.val.cell? ⟨w.heap.size, 4, none⟩ = some s4 := m4
  have HM1 := Lib.hid (HM.out.below HB.out)
  have HL1 := Lib.hid (HL.out.below HB.out)
  by_cases hc : codeN M = 0
  · rw [if_pos hc] at hR
    have HC := Lib.hid hc
    have HR := Lib.hid hR
    clear hc hR
    have HQL := Lib.hid (show ∀ w', LaterC w1 w' → w'.cell? ⟨w.heap.size, 0, none⟩ = some s0 ∧ w'.cell? ⟨w.heap.size, 1, none⟩ = some s1 ∧ w'.cell? ⟨w.heap.size, 2, none⟩ = some s2 ∧ w'.cell? ⟨w.heap.size, 3, none⟩ = some s3 ∧ w'.cell? ⟨w.heap.size, 4, none⟩ = some s4 from fun W h => by
      obtain ⟨v, rfl⟩ := h
      exact ⟨m0 v, m1 v, m2 v, m3 v, m4 v⟩)
    refine at_world (w := w1) ?_
    intro u0
    go_region_held3 (fun w' => w'.cell? ⟨w.heap.size, 0, none⟩ = some s0 ∧ w'.cell? ⟨w.heap.size, 1, none⟩ = some s1 ∧ w'.cell? ⟨w.heap.size, 2, none⟩ = some s2 ∧ w'.cell? ⟨w.heap.size, 3, none⟩ = some s3 ∧ w'.cell? ⟨w.heap.size, 4, none⟩ = some s4) ((refine HQL.out _ ?_; repeat (first | exact ⟨_, rfl⟩ | refine LaterC.drew' ?_ | refine LaterC.alloc' ?_ _))) (first | (go_at_call 43; refine (ModelCode_calls _ M _ (HM1.out.below (LaterC.below (by repeat (first | exact ⟨_, rfl⟩ | refine LaterC.drew' ?_ | refine LaterC.alloc' ?_ _)))) HNM.out).mono ?_; rintro e w' ⟨rfl, hb⟩; rw [HC.out]; obtain ⟨v1, hv1⟩ := laterC_step (w1 := w1) (by repeat (first | exact ⟨_, rfl⟩ | refine LaterC.drew' ?_ | refine LaterC.alloc' ?_ _)) hb; subst hv1; clear hb) | (go_at_call 45; refine (l2Places_calls _ M 36 _ (HM1.out.below (LaterC.below (by repeat (first | exact ⟨_, rfl⟩ | refine LaterC.drew' ?_ | refine LaterC.alloc' ?_ _)))) HSZ.out).mono ?_; rintro e w' ⟨pv, rfl, hb, hown⟩; have HOWN := Lib.hid (places_slN hown HSZ.out); obtain ⟨v2, hv2⟩ := laterC_step (w1 := w1) (by repeat (first | exact ⟨_, rfl⟩ | refine LaterC.drew' ?_ | refine LaterC.alloc' ?_ _)) hb; subst hv2; clear hb hown) | (go_at_call 44; refine (l4Fits_calls _ pv _ M _ L _ (HM1.out.below (LaterC.below (by repeat (first | exact ⟨_, rfl⟩ | refine LaterC.drew' ?_ | refine LaterC.alloc' ?_ _)))) (HOWN.out.below (by first | exact Below.refl _ _ | exact (Below.refl _ _).drew)) HIN.out (HL1.out.below (LaterC.below (by repeat (first | exact ⟨_, rfl⟩ | refine LaterC.drew' ?_ | refine LaterC.alloc' ?_ _))))).mono ?_; rintro e w' ⟨rfl, hb⟩; rw [HR.out]; obtain ⟨v3, hv3⟩ := laterC_step (w1 := w1) (by repeat (first | exact ⟨_, rfl⟩ | refine LaterC.drew' ?_ | refine LaterC.alloc' ?_ _)) hb; subst hv3; clear hb))
    go_wp2
    go_ret
    exact ⟨rfl, v3.back HB.out⟩
  · rw [if_neg hc] at hR
    subst hR
    generalize hcm : codeN M = cm at *
    have HC := Lib.hid hcm
    have hne : (cm == 0) = false := by simpa using hc
    clear hcm hc
    refine wp_region_later (w0 := w1) (by kernel_rfl) (by kernel_rfl) (LaterC.refl _) ?_
    repeat (go_big_quiet_step ((go_at_call 43; exact Calls.later_eq (ModelCode_calls _ M _ (HM1.out.later _) HNM.out) (congrArg (Value.int .i64) HC.out))))
    refine wpQuiet_nil ?_
    rintro _ ⟨u1, rfl⟩
    go_wp2
    go_ret
    exact ⟨rfl, u1.back HB.out⟩
set_option maxHeartbeats 2000000 in
set_option maxRecDepth 8000 in
theorem StateFits'_calls (mv lv : Value) (M : Md) (L : List (List Int)) (w : World) (hM : MdAt w mv M) (hL : VlAt w lv L) (hsz : M.nodes.length ≤ 1048576) (hnm : ∀ x, x ∈ M.nodes → x.name.size ≤ 140737488351232) (hw1 : ∀ b, b ∈ M.inits → (Lit.int .i64 b.st).wf = true) (hw2 : ∀ b, b ∈ M.nexts → (Lit.int .i64 b.st).wf = true) :
    Makes Tryz.prog 20 #[mv, lv] w (.bool (fitsK 36 M L)) := by
  have HM := Lib.hid hM
  have HNM := Lib.hid hnm
  have HSZ := Lib.hid hsz
  have HL := Lib.hid hL
  have HW1 := Lib.hid hw1
  have HW2 := Lib.hid hw2
  clear hw1 hw2
  have HIN := Lib.hid (placesN_InN 36 M.nodes)
  obtain ⟨s0, s1, s2, s3, s4, rfl, -⟩ := hM.at_
  clear hM hnm hsz hL
  generalize hR : fitsK 36 M L = R
  unfold fitsK at hR
  go_enter Tryz.func20, Tryz.ntmps20
  have HB := Lib.hid (box_below w #[s0, s1, s2, s3, s4] 34)
  have m0 := box_cell w #[s0, s1, s2, s3, s4] 34 0 _ rfl
  have m1 := box_cell w #[s0, s1, s2, s3, s4] 34 1 _ rfl
  have m2 := box_cell w #[s0, s1, s2, s3, s4] 34 2 _ rfl
  have m3 := box_cell w #[s0, s1, s2, s3, s4] 34 3 _ rfl
  have m4 := box_cell w #[s0, s1, s2, s3, s4] 34 4 _ rfl
  go_upto_region 1 with fail
  generalize w.alloc (.cells #[s0, s1, s2, s3, s4] 34) = w1 at *
  have m0 : ∀ u : Later w1, u.val.cell? ⟨w.heap.size, 0, none⟩ = some s0 := m0
  have m1 : ∀ u : Later w1, u.val.cell? ⟨w.heap.size, 1, none⟩ = some s1 := m1
  have m2 : ∀ u : Later w1, u.val.cell? ⟨w.heap.size, 2, none⟩ = some s2 := m2
  have m3 : ∀ u : Later w1, u.val.cell? ⟨w.heap.size, 3, none⟩ = some s3 := m3
  have m4 : ∀ u : Later w1, u.val.cell? ⟨w.heap.size, 4, none⟩ = some s4 := m4
  have HM1 := Lib.hid (HM.out.below HB.out)
  have HL1 := Lib.hid (HL.out.below HB.out)
  by_cases hc : codeN M = 0
  · rw [if_pos hc] at hR
    have HC := Lib.hid hc
    have HR := Lib.hid hR
    clear hc hR
    have HQL := Lib.hid (show ∀ w', LaterC w1 w' → w'.cell? ⟨w.heap.size, 0, none⟩ = some s0 ∧ w'.cell? ⟨w.heap.size, 1, none⟩ = some s1 ∧ w'.cell? ⟨w.heap.size, 2, none⟩ = some s2 ∧ w'.cell? ⟨w.heap.size, 3, none⟩ = some s3 ∧ w'.cell? ⟨w.heap.size, 4, none⟩ = some s4 from fun W h => by
      obtain ⟨v, rfl⟩ := h
      exact ⟨m0 v, m1 v, m2 v, m3 v, m4 v⟩)
    refine at_world (w := w1) ?_
    intro u0
    go_region_held3 (fun w' => w'.cell? ⟨w.heap.size, 0, none⟩ = some s0 ∧ w'.cell? ⟨w.heap.size, 1, none⟩ = some s1 ∧ w'.cell? ⟨w.heap.size, 2, none⟩ = some s2 ∧ w'.cell? ⟨w.heap.size, 3, none⟩ = some s3 ∧ w'.cell? ⟨w.heap.size, 4, none⟩ = some s4) ((refine HQL.out _ ?_; repeat (first | exact ⟨_, rfl⟩ | refine LaterC.drew' ?_ | refine LaterC.alloc' ?_ _))) (first | (go_at_call 50; refine (ModelCode'_calls _ M _ (HM1.out.below (LaterC.below (by repeat (first | exact ⟨_, rfl⟩ | refine LaterC.drew' ?_ | refine LaterC.alloc' ?_ _)))) HNM.out HW1.out HW2.out).mono ?_; rintro e w' ⟨rfl, hb⟩; rw [HC.out]; obtain ⟨v1, hv1⟩ := laterC_step (w1 := w1) (by repeat (first | exact ⟨_, rfl⟩ | refine LaterC.drew' ?_ | refine LaterC.alloc' ?_ _)) hb; subst hv1; clear hb) | (go_at_call 52; refine (places_calls _ M 36 _ (HM1.out.below (LaterC.below (by repeat (first | exact ⟨_, rfl⟩ | refine LaterC.drew' ?_ | refine LaterC.alloc' ?_ _)))) HSZ.out).mono ?_; rintro e w' ⟨pv, rfl, hb, hown⟩; have HOWN := Lib.hid (places_slN hown HSZ.out); obtain ⟨v2, hv2⟩ := laterC_step (w1 := w1) (by repeat (first | exact ⟨_, rfl⟩ | refine LaterC.drew' ?_ | refine LaterC.alloc' ?_ _)) hb; subst hv2; clear hb hown) | (go_at_call 51; refine (fits_calls _ pv _ M _ L _ (HM1.out.below (LaterC.below (by repeat (first | exact ⟨_, rfl⟩ | refine LaterC.drew' ?_ | refine LaterC.alloc' ?_ _)))) (HOWN.out.below (by first | exact Below.refl _ _ | exact (Below.refl _ _).drew)) HIN.out (HL1.out.below (LaterC.below (by repeat (first | exact ⟨_, rfl⟩ | refine LaterC.drew' ?_ | refine LaterC.alloc' ?_ _))))).mono ?_; rintro e w' ⟨rfl, hb⟩; rw [HR.out]; obtain ⟨v3, hv3⟩ := laterC_step (w1 := w1) (by repeat (first | exact ⟨_, rfl⟩ | refine LaterC.drew' ?_ | refine LaterC.alloc' ?_ _)) hb; subst hv3; clear hb))
    go_wp2
    go_ret
    exact ⟨rfl, v3.back HB.out⟩
  · rw [if_neg hc] at hR
    subst hR
    generalize hcm : codeN M = cm at *
    have HC := Lib.hid hcm
    have hne : (cm == 0) = false := by simpa using hc
    clear hcm hc
    refine wp_region_later (w0 := w1) (by kernel_rfl) (by kernel_rfl) (LaterC.refl _) ?_
    repeat (go_big_quiet_step ((go_at_call 50; exact Calls.later_eq (ModelCode'_calls _ M _ (HM1.out.later _) HNM.out HW1.out HW2.out) (congrArg (Value.int .i64) HC.out))))
    refine wpQuiet_nil ?_
    rintro _ ⟨u1, rfl⟩
    go_wp2
    go_ret
    exact ⟨rfl, u1.back HB.out⟩
set_option maxHeartbeats 2000000 in
set_option maxRecDepth 8000 in
theorem InputFits_calls (mv lv : Value) (M : Md) (L : List (List Int)) (w : World) (hM : MdAt w mv M) (hL : VlAt w lv L) (hsz : M.nodes.length ≤ 1048576) (hnm : ∀ x, x ∈ M.nodes → x.name.size ≤ 140737488351232) :
    Makes Tryz.prog 13 #[mv, lv] w (.bool (fitsK 35 M L)) := by
  have HM := Lib.hid hM
  have HNM := Lib.hid hnm
  have HSZ := Lib.hid hsz
  have HL := Lib.hid hL
  have HIN := Lib.hid (placesN_InN 35 M.nodes)
  obtain ⟨s0, s1, s2, s3, s4, rfl, -⟩ := hM.at_
  clear hM hnm hsz hL
  generalize hR : fitsK 35 M L = R
  unfold fitsK at hR
  go_enter Tryz.func13, Tryz.ntmps13
  have HB := Lib.hid (box_below w #[s0, s1, s2, s3, s4] 34)
  have m0 := box_cell w #[s0, s1, s2, s3, s4] 34 0 _ rfl
  have m1 := box_cell w #[s0, s1, s2, s3, s4] 34 1 _ rfl
  have m2 := box_cell w #[s0, s1, s2, s3, s4] 34 2 _ rfl
  have m3 := box_cell w #[s0, s1, s2, s3, s4] 34 3 _ rfl
  have m4 := box_cell w #[s0, s1, s2, s3, s4] 34 4 _ rfl
  go_upto_region 1 with fail
  generalize w.alloc (.cells #[s0, s1, s2, s3, s4] 34) = w1 at *
  have m0 : ∀ u : Later w1, u.val.cell? ⟨w.heap.size, 0, none⟩ = some s0 := m0
  have m1 : ∀ u : Later w1, u.val.cell? ⟨w.heap.size, 1, none⟩ = some s1 := m1
  have m2 : ∀ u : Later w1, u.val.cell? ⟨w.heap.size, 2, none⟩ = some s2 := m2
  have m3 : ∀ u : Later w1, u.val.cell? ⟨w.heap.size, 3, none⟩ = some s3 := m3
  have m4 : ∀ u : Later w1, u.val.cell? ⟨w.heap.size, 4, none⟩ = some s4 := m4
  have HM1 := Lib.hid (HM.out.below HB.out)
  have HL1 := Lib.hid (HL.out.below HB.out)
  by_cases hc : codeN M = 0
  · rw [if_pos hc] at hR
    have HC := Lib.hid hc
    have HR := Lib.hid hR
    clear hc hR
    have HQL := Lib.hid (show ∀ w', LaterC w1 w' → w'.cell? ⟨w.heap.size, 0, none⟩ = some s0 ∧ w'.cell? ⟨w.heap.size, 1, none⟩ = some s1 ∧ w'.cell? ⟨w.heap.size, 2, none⟩ = some s2 ∧ w'.cell? ⟨w.heap.size, 3, none⟩ = some s3 ∧ w'.cell? ⟨w.heap.size, 4, none⟩ = some s4 from fun W h => by
      obtain ⟨v, rfl⟩ := h
      exact ⟨m0 v, m1 v, m2 v, m3 v, m4 v⟩)
    refine at_world (w := w1) ?_
    intro u0
    go_region_held3 (fun w' => w'.cell? ⟨w.heap.size, 0, none⟩ = some s0 ∧ w'.cell? ⟨w.heap.size, 1, none⟩ = some s1 ∧ w'.cell? ⟨w.heap.size, 2, none⟩ = some s2 ∧ w'.cell? ⟨w.heap.size, 3, none⟩ = some s3 ∧ w'.cell? ⟨w.heap.size, 4, none⟩ = some s4) ((refine HQL.out _ ?_; repeat (first | exact ⟨_, rfl⟩ | refine LaterC.drew' ?_ | refine LaterC.alloc' ?_ _))) (first | (go_at_call 43; refine (ModelCode_calls _ M _ (HM1.out.below (LaterC.below (by repeat (first | exact ⟨_, rfl⟩ | refine LaterC.drew' ?_ | refine LaterC.alloc' ?_ _)))) HNM.out).mono ?_; rintro e w' ⟨rfl, hb⟩; rw [HC.out]; obtain ⟨v1, hv1⟩ := laterC_step (w1 := w1) (by repeat (first | exact ⟨_, rfl⟩ | refine LaterC.drew' ?_ | refine LaterC.alloc' ?_ _)) hb; subst hv1; clear hb) | (go_at_call 45; refine (l2Places_calls _ M 35 _ (HM1.out.below (LaterC.below (by repeat (first | exact ⟨_, rfl⟩ | refine LaterC.drew' ?_ | refine LaterC.alloc' ?_ _)))) HSZ.out).mono ?_; rintro e w' ⟨pv, rfl, hb, hown⟩; have HOWN := Lib.hid (places_slN hown HSZ.out); obtain ⟨v2, hv2⟩ := laterC_step (w1 := w1) (by repeat (first | exact ⟨_, rfl⟩ | refine LaterC.drew' ?_ | refine LaterC.alloc' ?_ _)) hb; subst hv2; clear hb hown) | (go_at_call 44; refine (l4Fits_calls _ pv _ M _ L _ (HM1.out.below (LaterC.below (by repeat (first | exact ⟨_, rfl⟩ | refine LaterC.drew' ?_ | refine LaterC.alloc' ?_ _)))) (HOWN.out.below (by first | exact Below.refl _ _ | exact (Below.refl _ _).drew)) HIN.out (HL1.out.below (LaterC.below (by repeat (first | exact ⟨_, rfl⟩ | refine LaterC.drew' ?_ | refine LaterC.alloc' ?_ _))))).mono ?_; rintro e w' ⟨rfl, hb⟩; rw [HR.out]; obtain ⟨v3, hv3⟩ := laterC_step (w1 := w1) (by repeat (first | exact ⟨_, rfl⟩ | refine LaterC.drew' ?_ | refine LaterC.alloc' ?_ _)) hb; subst hv3; clear hb))
    go_wp2
    go_ret
    exact ⟨rfl, v3.back HB.out⟩
  · rw [if_neg hc] at hR
    subst hR
    generalize hcm : codeN M = cm at *
    have HC := Lib.hid hcm
    have hne : (cm == 0) = false := by simpa using hc
    clear hcm hc
    refine wp_region_later (w0 := w1) (by kernel_rfl) (by kernel_rfl) (LaterC.refl _) ?_
    repeat (go_big_quiet_step ((go_at_call 43; exact Calls.later_eq (ModelCode_calls _ M _ (HM1.out.later _) HNM.out) (congrArg (Value.int .i64) HC.out))))
    refine wpQuiet_nil ?_
    rintro _ ⟨u1, rfl⟩
    go_wp2
    go_ret
    exact ⟨rfl, u1.back HB.out⟩
set_option maxHeartbeats 2000000 in
set_option maxRecDepth 8000 in
theorem InputFits'_calls (mv lv : Value) (M : Md) (L : List (List Int)) (w : World) (hM : MdAt w mv M) (hL : VlAt w lv L) (hsz : M.nodes.length ≤ 1048576) (hnm : ∀ x, x ∈ M.nodes → x.name.size ≤ 140737488351232) (hw1 : ∀ b, b ∈ M.inits → (Lit.int .i64 b.st).wf = true) (hw2 : ∀ b, b ∈ M.nexts → (Lit.int .i64 b.st).wf = true) :
    Makes Tryz.prog 16 #[mv, lv] w (.bool (fitsK 35 M L)) := by
  have HM := Lib.hid hM
  have HNM := Lib.hid hnm
  have HSZ := Lib.hid hsz
  have HL := Lib.hid hL
  have HW1 := Lib.hid hw1
  have HW2 := Lib.hid hw2
  clear hw1 hw2
  have HIN := Lib.hid (placesN_InN 35 M.nodes)
  obtain ⟨s0, s1, s2, s3, s4, rfl, -⟩ := hM.at_
  clear hM hnm hsz hL
  generalize hR : fitsK 35 M L = R
  unfold fitsK at hR
  go_enter Tryz.func16, Tryz.ntmps16
  have HB := Lib.hid (box_below w #[s0, s1, s2, s3, s4] 34)
  have m0 := box_cell w #[s0, s1, s2, s3, s4] 34 0 _ rfl
  have m1 := box_cell w #[s0, s1, s2, s3, s4] 34 1 _ rfl
  have m2 := box_cell w #[s0, s1, s2, s3, s4] 34 2 _ rfl
  have m3 := box_cell w #[s0, s1, s2, s3, s4] 34 3 _ rfl
  have m4 := box_cell w #[s0, s1, s2, s3, s4] 34 4 _ rfl
  go_upto_region 1 with fail
  generalize w.alloc (.cells #[s0, s1, s2, s3, s4] 34) = w1 at *
  have m0 : ∀ u : Later w1, u.val.cell? ⟨w.heap.size, 0, none⟩ = some s0 := m0
  have m1 : ∀ u : Later w1, u.val.cell? ⟨w.heap.size, 1, none⟩ = some s1 := m1
  have m2 : ∀ u : Later w1, u.val.cell? ⟨w.heap.size, 2, none⟩ = some s2 := m2
  have m3 : ∀ u : Later w1, u.val.cell? ⟨w.heap.size, 3, none⟩ = some s3 := m3
  have m4 : ∀ u : Later w1, u.val.cell? ⟨w.heap.size, 4, none⟩ = some s4 := m4
  have HM1 := Lib.hid (HM.out.below HB.out)
  have HL1 := Lib.hid (HL.out.below HB.out)
  by_cases hc : codeN M = 0
  · rw [if_pos hc] at hR
    have HC := Lib.hid hc
    have HR := Lib.hid hR
    clear hc hR
    have HQL := Lib.hid (show ∀ w', LaterC w1 w' → w'.cell? ⟨w.heap.size, 0, none⟩ = some s0 ∧ w'.cell? ⟨w.heap.size, 1, none⟩ = some s1 ∧ w'.cell? ⟨w.heap.size, 2, none⟩ = some s2 ∧ w'.cell? ⟨w.heap.size, 3, none⟩ = some s3 ∧ w'.cell? ⟨w.heap.size, 4, none⟩ = some s4 from fun W h => by
      obtain ⟨v, rfl⟩ := h
      exact ⟨m0 v, m1 v, m2 v, m3 v, m4 v⟩)
    refine at_world (w := w1) ?_
    intro u0
    go_region_held3 (fun w' => w'.cell? ⟨w.heap.size, 0, none⟩ = some s0 ∧ w'.cell? ⟨w.heap.size, 1, none⟩ = some s1 ∧ w'.cell? ⟨w.heap.size, 2, none⟩ = some s2 ∧ w'.cell? ⟨w.heap.size, 3, none⟩ = some s3 ∧ w'.cell? ⟨w.heap.size, 4, none⟩ = some s4) ((refine HQL.out _ ?_; repeat (first | exact ⟨_, rfl⟩ | refine LaterC.drew' ?_ | refine LaterC.alloc' ?_ _))) (first | (go_at_call 50; refine (ModelCode'_calls _ M _ (HM1.out.below (LaterC.below (by repeat (first | exact ⟨_, rfl⟩ | refine LaterC.drew' ?_ | refine LaterC.alloc' ?_ _)))) HNM.out HW1.out HW2.out).mono ?_; rintro e w' ⟨rfl, hb⟩; rw [HC.out]; obtain ⟨v1, hv1⟩ := laterC_step (w1 := w1) (by repeat (first | exact ⟨_, rfl⟩ | refine LaterC.drew' ?_ | refine LaterC.alloc' ?_ _)) hb; subst hv1; clear hb) | (go_at_call 52; refine (places_calls _ M 35 _ (HM1.out.below (LaterC.below (by repeat (first | exact ⟨_, rfl⟩ | refine LaterC.drew' ?_ | refine LaterC.alloc' ?_ _)))) HSZ.out).mono ?_; rintro e w' ⟨pv, rfl, hb, hown⟩; have HOWN := Lib.hid (places_slN hown HSZ.out); obtain ⟨v2, hv2⟩ := laterC_step (w1 := w1) (by repeat (first | exact ⟨_, rfl⟩ | refine LaterC.drew' ?_ | refine LaterC.alloc' ?_ _)) hb; subst hv2; clear hb hown) | (go_at_call 51; refine (fits_calls _ pv _ M _ L _ (HM1.out.below (LaterC.below (by repeat (first | exact ⟨_, rfl⟩ | refine LaterC.drew' ?_ | refine LaterC.alloc' ?_ _)))) (HOWN.out.below (by first | exact Below.refl _ _ | exact (Below.refl _ _).drew)) HIN.out (HL1.out.below (LaterC.below (by repeat (first | exact ⟨_, rfl⟩ | refine LaterC.drew' ?_ | refine LaterC.alloc' ?_ _))))).mono ?_; rintro e w' ⟨rfl, hb⟩; rw [HR.out]; obtain ⟨v3, hv3⟩ := laterC_step (w1 := w1) (by repeat (first | exact ⟨_, rfl⟩ | refine LaterC.drew' ?_ | refine LaterC.alloc' ?_ _)) hb; subst hv3; clear hb))
    go_wp2
    go_ret
    exact ⟨rfl, v3.back HB.out⟩
  · rw [if_neg hc] at hR
    subst hR
    generalize hcm : codeN M = cm at *
    have HC := Lib.hid hcm
    have hne : (cm == 0) = false := by simpa using hc
    clear hcm hc
    refine wp_region_later (w0 := w1) (by kernel_rfl) (by kernel_rfl) (LaterC.refl _) ?_
    repeat (go_big_quiet_step ((go_at_call 50; exact Calls.later_eq (ModelCode'_calls _ M _ (HM1.out.later _) HNM.out HW1.out HW2.out) (congrArg (Value.int .i64) HC.out))))
    refine wpQuiet_nil ?_
    rintro _ ⟨u1, rfl⟩
    go_wp2
    go_ret
    exact ⟨rfl, u1.back HB.out⟩
end Go.Proofs.YteboalbpgghdhaaGreat
namespace Go.Proofs.YteboalbpgghdhaaGreat
open Go.RowKit
/-! The laws FnExactStateFits, FnExactInputFits. -/
set_option maxHeartbeats 8000000 in
set_option maxRecDepth 8000 in
theorem FnExactStateFits_calls (mv lv1 : Value) (M : Md) (L1 : List (List Int)) (w : World) (hM : MdAt w mv M) (hl1 : VlAt w lv1 L1) (hnm : ∀ x, x ∈ M.nodes → x.name.size ≤ 140737488351232) (hw1 : ∀ b, b ∈ M.inits → (Lit.int .i64 b.st).wf = true) (hw2 : ∀ b, b ∈ M.nexts → (Lit.int .i64 b.st).wf = true) :
    Makes Tryz.prog 4 #[mv, lv1] w (.bool true) := by
  have HM := Lib.hid hM
  have HNM := Lib.hid hnm
  have HW1 := Lib.hid hw1
  have HW2 := Lib.hid hw2
  have HSZ := Lib.hid (show ∀ x ∈ M.nodes, x.name.size ≤ 281474976710656 from fun x hx => by have := hnm x hx; omega)
  have HV1 := Lib.hid hl1
  obtain ⟨s0, s1, s2, s3, s4, rfl, -⟩ := hM.at_
  clear hM hnm hw1 hw2 hl1
  go_enter Tryz.func4, Tryz.ntmps4
  have HB := Lib.hid (box_below w #[s0, s1, s2, s3, s4] 26)
  have m0 := box_cell w #[s0, s1, s2, s3, s4] 26 0 _ rfl
  have m1 := box_cell w #[s0, s1, s2, s3, s4] 26 1 _ rfl
  have m2 := box_cell w #[s0, s1, s2, s3, s4] 26 2 _ rfl
  have m3 := box_cell w #[s0, s1, s2, s3, s4] 26 3 _ rfl
  have m4 := box_cell w #[s0, s1, s2, s3, s4] 26 4 _ rfl
  go_upto_region 1 with fail
  generalize w.alloc (.cells #[s0, s1, s2, s3, s4] 26) = w1 at *
  have m0 : ∀ u : Later w1, u.val.cell? ⟨w.heap.size, 0, none⟩ = some s0 := m0
  have m1 : ∀ u : Later w1, u.val.cell? ⟨w.heap.size, 1, none⟩ = some s1 := m1
  have m2 : ∀ u : Later w1, u.val.cell? ⟨w.heap.size, 2, none⟩ = some s2 := m2
  have m3 : ∀ u : Later w1, u.val.cell? ⟨w.heap.size, 3, none⟩ = some s3 := m3
  have m4 : ∀ u : Later w1, u.val.cell? ⟨w.heap.size, 4, none⟩ = some s4 := m4
  have HM1 := Lib.hid (HM.out.below HB.out)
  have HU1 := Lib.hid (HV1.out.below HB.out)
  refine at_world (w := w1) ?_
  intro u0
  go_upto_region 3 with (go_at_call 11; refine (szModel_calls _ M _ (HM1.out.later u0) HSZ.out).mono ?_; rintro e w' ⟨r, rfl, hb, hr⟩; obtain ⟨u1, hu1⟩ := u0.step hb; subst hu1; have HL := Lib.hid hr; clear hb hr)
  by_cases hneg : r < 0
  · go_wp2
    go_ret
    exact ⟨rfl, u1.back HB.out⟩
  have HLEN := Lib.hid (show M.nodes.length ≤ 1048576 ∧ M.inits.length ≤ 1048576 ∧ M.nexts.length ≤ 1048576 ∧ M.bads.length ≤ 1048576 ∧ M.holds.length ≤ 1048576 by
    have := HL.out
    unfold LeftOf at this
    omega)
  have hr0 : r ≤ 1048576 := by
    have := HL.out
    unfold LeftOf at this
    omega
  go_upto_region 6 with (go_at_call 12; refine (szValueS_calls _ L1 r _ (HU1.out.later u1) (by omega) (by omega)).mono ?_; rintro e w' ⟨q1, rfl, hb, hr⟩; obtain ⟨c1, hc⟩ := u1.step hb; subst hc; have HQ1 := Lib.hid hr; clear hb hr)
  by_cases hneg1 : q1 < 0
  · go_wp2
    go_ret
    exact ⟨rfl, c1.back HB.out⟩
  have HLV1 := Lib.hid (show L1.length ≤ 1048576 ∧ ∀ xs ∈ L1, xs.length ≤ 1048576 by
    have := HQ1.out
    unfold LeftV at this
    refine ⟨by omega, fun xs hx => ?_⟩
    rcases this with h | ⟨h0, h1, h2⟩
    · omega
    · have := h2 xs hx; omega)
  have hq1 : q1 ≤ 1048576 := by
    have := HQ1.out
    unfold LeftV at this
    omega
  clear HL HQ1
  go_wp2_with fail
  refine (toModel_at _ M _ (HM1.out.later c1) HLEN.out.1 HLEN.out.2.1 HLEN.out.2.2.1 HLEN.out.2.2.2.1 HLEN.out.2.2.2.2).mono ?_
  rintro e w' ⟨t0, t1, t2, t3, t4, rfl, hb, hc⟩
  obtain ⟨d0, hd⟩ := c1.step hb
  subst hd
  have HC := Lib.hid hc
  clear hb hc
  go_wp2_with fail
  refine (toValueS_calls _ L1 _ (HU1.out.later d0) HLV1.out.1 HLV1.out.2).mono ?_
  rintro e w' ⟨y1, ys1, rfl, hb, hr⟩
  have HC := Lib.hid (HC.out.below hb)
  have HY1 := Lib.hid hr.vlAt
  obtain ⟨d1, hd⟩ := d0.step hb
  subst hd
  clear hb hr
  generalize hR : fitsK 36 M L1 = R at *
  have ER := Lib.hid hR
  clear hR
  go_wp2_with fail
  refine (Calls.later_eq (u := d1) (StateFits_calls _ _ M L1 _ HC.out HY1.out HLEN.out.1 HNM.out) (congrArg Value.bool ER.out)).mono ?_
  rintro e w' ⟨rfl, e0, rfl⟩
  clear HC HY1
  go_wp2_with fail
  refine (toModel_at _ M _ (HM1.out.later e0) HLEN.out.1 HLEN.out.2.1 HLEN.out.2.2.1 HLEN.out.2.2.2.1 HLEN.out.2.2.2.2).mono ?_
  rintro e w' ⟨x0, x1, x2, x3, x4, rfl, hb, hc⟩
  obtain ⟨e1, he⟩ := e0.step hb
  subst he
  have HC2 := Lib.hid hc
  clear hb hc
  go_wp2_with fail
  have HB2 := Lib.hid (show LaterC w1 (e1.val.alloc (Obj.cells #[slOf x0 M.nodes, slOf x1 M.inits, slOf x2 M.nexts, slOf x3 M.bads, slOf x4 M.holds] 34)) from LaterC.alloc' ⟨e1, rfl⟩ _)
  have HC3 := Lib.hid (show MdAt (e1.val.alloc (Obj.cells #[slOf x0 M.nodes, slOf x1 M.inits, slOf x2 M.nexts, slOf x3 M.bads, slOf x4 M.holds] 34)) (Value.agg #[slOf x0 M.nodes, slOf x1 M.inits, slOf x2 M.nexts, slOf x3 M.bads, slOf x4 M.holds]) M from HC2.out.below ((Below.refl _ _).alloc (Nat.le_refl _) _))
  have b0 := box_cell e1.val #[slOf x0 M.nodes, slOf x1 M.inits, slOf x2 M.nexts, slOf x3 M.bads, slOf x4 M.holds] 34 0 _ rfl
  have b1 := box_cell e1.val #[slOf x0 M.nodes, slOf x1 M.inits, slOf x2 M.nexts, slOf x3 M.bads, slOf x4 M.holds] 34 1 _ rfl
  have b2 := box_cell e1.val #[slOf x0 M.nodes, slOf x1 M.inits, slOf x2 M.nexts, slOf x3 M.bads, slOf x4 M.holds] 34 2 _ rfl
  have b3 := box_cell e1.val #[slOf x0 M.nodes, slOf x1 M.inits, slOf x2 M.nexts, slOf x3 M.bads, slOf x4 M.holds] 34 3 _ rfl
  have b4 := box_cell e1.val #[slOf x0 M.nodes, slOf x1 M.inits, slOf x2 M.nexts, slOf x3 M.bads, slOf x4 M.holds] 34 4 _ rfl
  generalize e1.val.alloc (Obj.cells #[slOf x0 M.nodes, slOf x1 M.inits, slOf x2 M.nexts, slOf x3 M.bads, slOf x4 M.holds] 34) = w2 at *
  generalize e1.val.heap.size = G at *
  have b0 : ∀ u : Later w2, u.val.cell? ⟨G, 0, none⟩ = some (slOf x0 M.nodes) := b0
  have b1 : ∀ u : Later w2, u.val.cell? ⟨G, 1, none⟩ = some (slOf x1 M.inits) := b1
  have b2 : ∀ u : Later w2, u.val.cell? ⟨G, 2, none⟩ = some (slOf x2 M.nexts) := b2
  have b3 : ∀ u : Later w2, u.val.cell? ⟨G, 3, none⟩ = some (slOf x3 M.bads) := b3
  have b4 : ∀ u : Later w2, u.val.cell? ⟨G, 4, none⟩ = some (slOf x4 M.holds) := b4
  have n0 := Later.re m0 HB2.out
  have n1 := Later.re m1 HB2.out
  have n2 := Later.re m2 HB2.out
  have n3 := Later.re m3 HB2.out
  have n4 := Later.re m4 HB2.out
  clear m0 m1 m2 m3 m4 HC2
  have HM3 := Lib.hid (HM1.out.below HB2.out.below)
  have HU1 := Lib.hid (HU1.out.below HB2.out.below)
  refine calls_at (w := w2) fun v0 => ?_
  refine (toValueS_calls _ L1 _ (HU1.out.later v0) HLV1.out.1 HLV1.out.2).mono ?_
  rintro e w' ⟨z1, zs1, rfl, hb, hr⟩
  have HZ1 := Lib.hid hr.vlAt
  obtain ⟨v1, hv⟩ := v0.step hb
  subst hv
  clear hb hr
  go_wp2_with fail
  refine (StateFits'_calls _ _ M L1 _ (HC3.out.later v1) HZ1.out HLEN.out.1 HNM.out HW1.out HW2.out).mono ?_
  rintro e w' ⟨he, hb⟩
  subst he
  have HZ1 := Lib.hid (HZ1.out.below hb)
  obtain ⟨p0, hp⟩ := v1.step hb
  subst hp
  clear hb
  rw [show Value.bool (fitsK 36 M L1) = Value.bool R from congrArg Value.bool ER.out]
  go_upto_region 14 with fail
  have HQL := Lib.hid (show ∀ w', LaterC w2 w' → w'.cell? ⟨w.heap.size, 0, none⟩ = some s0 ∧ w'.cell? ⟨w.heap.size, 1, none⟩ = some s1 ∧ w'.cell? ⟨w.heap.size, 2, none⟩ = some s2 ∧ w'.cell? ⟨w.heap.size, 3, none⟩ = some s3 ∧ w'.cell? ⟨w.heap.size, 4, none⟩ = some s4 ∧ w'.cell? ⟨G, 0, none⟩ = some (slOf x0 M.nodes) ∧ w'.cell? ⟨G, 1, none⟩ = some (slOf x1 M.inits) ∧ w'.cell? ⟨G, 2, none⟩ = some (slOf x2 M.nexts) ∧ w'.cell? ⟨G, 3, none⟩ = some (slOf x3 M.bads) ∧ w'.cell? ⟨G, 4, none⟩ = some (slOf x4 M.holds) from fun W h => by
    obtain ⟨v, rfl⟩ := h
    exact ⟨n0 v, n1 v, n2 v, n3 v, n4 v, b0 v, b1 v, b2 v, b3 v, b4 v⟩)
  go_region_held3 (fun w' => w'.cell? ⟨w.heap.size, 0, none⟩ = some s0 ∧ w'.cell? ⟨w.heap.size, 1, none⟩ = some s1 ∧ w'.cell? ⟨w.heap.size, 2, none⟩ = some s2 ∧ w'.cell? ⟨w.heap.size, 3, none⟩ = some s3 ∧ w'.cell? ⟨w.heap.size, 4, none⟩ = some s4 ∧ w'.cell? ⟨G, 0, none⟩ = some (slOf x0 M.nodes) ∧ w'.cell? ⟨G, 1, none⟩ = some (slOf x1 M.inits) ∧ w'.cell? ⟨G, 2, none⟩ = some (slOf x2 M.nexts) ∧ w'.cell? ⟨G, 3, none⟩ = some (slOf x3 M.bads) ∧ w'.cell? ⟨G, 4, none⟩ = some (slOf x4 M.holds)) ((refine HQL.out _ ?_; repeat (first | exact ⟨_, rfl⟩ | refine LaterC.drew' ?_ | refine LaterC.alloc' ?_ _))) (first | (go_at_call 14; refine (toModel_at _ M _ (HM3.out.below (LaterC.below (by repeat (first | exact ⟨_, rfl⟩ | refine LaterC.drew' ?_ | refine LaterC.alloc' ?_ _)))) HLEN.out.1 HLEN.out.2.1 HLEN.out.2.2.1 HLEN.out.2.2.2.1 HLEN.out.2.2.2.2).mono ?_; rintro e w' ⟨y0, y1, y2, y3, y4, rfl, hb, hc⟩; have HZ1 : Hid (VlAt w' z1 L1) := Lib.hid (by first | exact HZ1.out.below hb | exact (HZ1.out.below (Below.refl _ _).drew).below hb); obtain ⟨p1, hp⟩ := laterC_step (w1 := w2) (by repeat (first | exact ⟨_, rfl⟩ | refine LaterC.drew' ?_ | refine LaterC.alloc' ?_ _)) hb; subst hp; have HC4 := Lib.hid hc; clear hb hc) | (go_at_call 17; refine (eqModel_calls _ _ M _ (HC3.out.below (LaterC.below (by repeat (first | exact ⟨_, rfl⟩ | refine LaterC.drew' ?_ | refine LaterC.alloc' ?_ _)))) (HC4.out.below (by first | exact Below.refl _ _ | exact (Below.refl _ _).drew))).mono ?_; rintro e w' ⟨rfl, hb⟩; have HZ1 : Hid (VlAt w' z1 L1) := Lib.hid (by first | exact HZ1.out.below hb | exact (HZ1.out.below (Below.refl _ _).drew).below hb); obtain ⟨p2, hp⟩ := laterC_step (w1 := w2) (by repeat (first | exact ⟨_, rfl⟩ | refine LaterC.drew' ?_ | refine LaterC.alloc' ?_ _)) hb; subst hp; clear hb))
  go_wp2_with fail
  refine (toValueS_calls _ L1 _ (HU1.out.later p2) HLV1.out.1 HLV1.out.2).mono ?_
  rintro e w' ⟨k1, ks1, rfl, hb, hr⟩
  have HZ1 := Lib.hid (HZ1.out.below hb)
  have HK1 := Lib.hid hr.vlAt
  obtain ⟨g1, hg⟩ := p2.step hb
  subst hg
  clear hb hr
  go_wp2_with fail
  refine (eqValueS_calls _ _ L1 _ HZ1.out HK1.out).mono ?_
  rintro e w' ⟨rfl, hb⟩
  obtain ⟨l1, hg⟩ := g1.step hb
  subst hg
  clear hb
  go_wp2
  go_ret
  exact ⟨rfl, l1.back (below_of HB.out HB2.out)⟩
set_option maxHeartbeats 8000000 in
set_option maxRecDepth 8000 in
theorem FnExactInputFits_calls (mv lv1 : Value) (M : Md) (L1 : List (List Int)) (w : World) (hM : MdAt w mv M) (hl1 : VlAt w lv1 L1) (hnm : ∀ x, x ∈ M.nodes → x.name.size ≤ 140737488351232) (hw1 : ∀ b, b ∈ M.inits → (Lit.int .i64 b.st).wf = true) (hw2 : ∀ b, b ∈ M.nexts → (Lit.int .i64 b.st).wf = true) :
    Makes Tryz.prog 3 #[mv, lv1] w (.bool true) := by
  have HM := Lib.hid hM
  have HNM := Lib.hid hnm
  have HW1 := Lib.hid hw1
  have HW2 := Lib.hid hw2
  have HSZ := Lib.hid (show ∀ x ∈ M.nodes, x.name.size ≤ 281474976710656 from fun x hx => by have := hnm x hx; omega)
  have HV1 := Lib.hid hl1
  obtain ⟨s0, s1, s2, s3, s4, rfl, -⟩ := hM.at_
  clear hM hnm hw1 hw2 hl1
  go_enter Tryz.func3, Tryz.ntmps3
  have HB := Lib.hid (box_below w #[s0, s1, s2, s3, s4] 26)
  have m0 := box_cell w #[s0, s1, s2, s3, s4] 26 0 _ rfl
  have m1 := box_cell w #[s0, s1, s2, s3, s4] 26 1 _ rfl
  have m2 := box_cell w #[s0, s1, s2, s3, s4] 26 2 _ rfl
  have m3 := box_cell w #[s0, s1, s2, s3, s4] 26 3 _ rfl
  have m4 := box_cell w #[s0, s1, s2, s3, s4] 26 4 _ rfl
  go_upto_region 1 with fail
  generalize w.alloc (.cells #[s0, s1, s2, s3, s4] 26) = w1 at *
  have m0 : ∀ u : Later w1, u.val.cell? ⟨w.heap.size, 0, none⟩ = some s0 := m0
  have m1 : ∀ u : Later w1, u.val.cell? ⟨w.heap.size, 1, none⟩ = some s1 := m1
  have m2 : ∀ u : Later w1, u.val.cell? ⟨w.heap.size, 2, none⟩ = some s2 := m2
  have m3 : ∀ u : Later w1, u.val.cell? ⟨w.heap.size, 3, none⟩ = some s3 := m3
  have m4 : ∀ u : Later w1, u.val.cell? ⟨w.heap.size, 4, none⟩ = some s4 := m4
  have HM1 := Lib.hid (HM.out.below HB.out)
  have HU1 := Lib.hid (HV1.out.below HB.out)
  refine at_world (w := w1) ?_
  intro u0
  go_upto_region 3 with (go_at_call 11; refine (szModel_calls _ M _ (HM1.out.later u0) HSZ.out).mono ?_; rintro e w' ⟨r, rfl, hb, hr⟩; obtain ⟨u1, hu1⟩ := u0.step hb; subst hu1; have HL := Lib.hid hr; clear hb hr)
  by_cases hneg : r < 0
  · go_wp2
    go_ret
    exact ⟨rfl, u1.back HB.out⟩
  have HLEN := Lib.hid (show M.nodes.length ≤ 1048576 ∧ M.inits.length ≤ 1048576 ∧ M.nexts.length ≤ 1048576 ∧ M.bads.length ≤ 1048576 ∧ M.holds.length ≤ 1048576 by
    have := HL.out
    unfold LeftOf at this
    omega)
  have hr0 : r ≤ 1048576 := by
    have := HL.out
    unfold LeftOf at this
    omega
  go_upto_region 6 with (go_at_call 12; refine (szValueS_calls _ L1 r _ (HU1.out.later u1) (by omega) (by omega)).mono ?_; rintro e w' ⟨q1, rfl, hb, hr⟩; obtain ⟨c1, hc⟩ := u1.step hb; subst hc; have HQ1 := Lib.hid hr; clear hb hr)
  by_cases hneg1 : q1 < 0
  · go_wp2
    go_ret
    exact ⟨rfl, c1.back HB.out⟩
  have HLV1 := Lib.hid (show L1.length ≤ 1048576 ∧ ∀ xs ∈ L1, xs.length ≤ 1048576 by
    have := HQ1.out
    unfold LeftV at this
    refine ⟨by omega, fun xs hx => ?_⟩
    rcases this with h | ⟨h0, h1, h2⟩
    · omega
    · have := h2 xs hx; omega)
  have hq1 : q1 ≤ 1048576 := by
    have := HQ1.out
    unfold LeftV at this
    omega
  clear HL HQ1
  go_wp2_with fail
  refine (toModel_at _ M _ (HM1.out.later c1) HLEN.out.1 HLEN.out.2.1 HLEN.out.2.2.1 HLEN.out.2.2.2.1 HLEN.out.2.2.2.2).mono ?_
  rintro e w' ⟨t0, t1, t2, t3, t4, rfl, hb, hc⟩
  obtain ⟨d0, hd⟩ := c1.step hb
  subst hd
  have HC := Lib.hid hc
  clear hb hc
  go_wp2_with fail
  refine (toValueS_calls _ L1 _ (HU1.out.later d0) HLV1.out.1 HLV1.out.2).mono ?_
  rintro e w' ⟨y1, ys1, rfl, hb, hr⟩
  have HC := Lib.hid (HC.out.below hb)
  have HY1 := Lib.hid hr.vlAt
  obtain ⟨d1, hd⟩ := d0.step hb
  subst hd
  clear hb hr
  generalize hR : fitsK 35 M L1 = R at *
  have ER := Lib.hid hR
  clear hR
  go_wp2_with fail
  refine (Calls.later_eq (u := d1) (InputFits_calls _ _ M L1 _ HC.out HY1.out HLEN.out.1 HNM.out) (congrArg Value.bool ER.out)).mono ?_
  rintro e w' ⟨rfl, e0, rfl⟩
  clear HC HY1
  go_wp2_with fail
  refine (toModel_at _ M _ (HM1.out.later e0) HLEN.out.1 HLEN.out.2.1 HLEN.out.2.2.1 HLEN.out.2.2.2.1 HLEN.out.2.2.2.2).mono ?_
  rintro e w' ⟨x0, x1, x2, x3, x4, rfl, hb, hc⟩
  obtain ⟨e1, he⟩ := e0.step hb
  subst he
  have HC2 := Lib.hid hc
  clear hb hc
  go_wp2_with fail
  have HB2 := Lib.hid (show LaterC w1 (e1.val.alloc (Obj.cells #[slOf x0 M.nodes, slOf x1 M.inits, slOf x2 M.nexts, slOf x3 M.bads, slOf x4 M.holds] 34)) from LaterC.alloc' ⟨e1, rfl⟩ _)
  have HC3 := Lib.hid (show MdAt (e1.val.alloc (Obj.cells #[slOf x0 M.nodes, slOf x1 M.inits, slOf x2 M.nexts, slOf x3 M.bads, slOf x4 M.holds] 34)) (Value.agg #[slOf x0 M.nodes, slOf x1 M.inits, slOf x2 M.nexts, slOf x3 M.bads, slOf x4 M.holds]) M from HC2.out.below ((Below.refl _ _).alloc (Nat.le_refl _) _))
  have b0 := box_cell e1.val #[slOf x0 M.nodes, slOf x1 M.inits, slOf x2 M.nexts, slOf x3 M.bads, slOf x4 M.holds] 34 0 _ rfl
  have b1 := box_cell e1.val #[slOf x0 M.nodes, slOf x1 M.inits, slOf x2 M.nexts, slOf x3 M.bads, slOf x4 M.holds] 34 1 _ rfl
  have b2 := box_cell e1.val #[slOf x0 M.nodes, slOf x1 M.inits, slOf x2 M.nexts, slOf x3 M.bads, slOf x4 M.holds] 34 2 _ rfl
  have b3 := box_cell e1.val #[slOf x0 M.nodes, slOf x1 M.inits, slOf x2 M.nexts, slOf x3 M.bads, slOf x4 M.holds] 34 3 _ rfl
  have b4 := box_cell e1.val #[slOf x0 M.nodes, slOf x1 M.inits, slOf x2 M.nexts, slOf x3 M.bads, slOf x4 M.holds] 34 4 _ rfl
  generalize e1.val.alloc (Obj.cells #[slOf x0 M.nodes, slOf x1 M.inits, slOf x2 M.nexts, slOf x3 M.bads, slOf x4 M.holds] 34) = w2 at *
  generalize e1.val.heap.size = G at *
  have b0 : ∀ u : Later w2, u.val.cell? ⟨G, 0, none⟩ = some (slOf x0 M.nodes) := b0
  have b1 : ∀ u : Later w2, u.val.cell? ⟨G, 1, none⟩ = some (slOf x1 M.inits) := b1
  have b2 : ∀ u : Later w2, u.val.cell? ⟨G, 2, none⟩ = some (slOf x2 M.nexts) := b2
  have b3 : ∀ u : Later w2, u.val.cell? ⟨G, 3, none⟩ = some (slOf x3 M.bads) := b3
  have b4 : ∀ u : Later w2, u.val.cell? ⟨G, 4, none⟩ = some (slOf x4 M.holds) := b4
  have n0 := Later.re m0 HB2.out
  have n1 := Later.re m1 HB2.out
  have n2 := Later.re m2 HB2.out
  have n3 := Later.re m3 HB2.out
  have n4 := Later.re m4 HB2.out
  clear m0 m1 m2 m3 m4 HC2
  have HM3 := Lib.hid (HM1.out.below HB2.out.below)
  have HU1 := Lib.hid (HU1.out.below HB2.out.below)
  refine calls_at (w := w2) fun v0 => ?_
  refine (toValueS_calls _ L1 _ (HU1.out.later v0) HLV1.out.1 HLV1.out.2).mono ?_
  rintro e w' ⟨z1, zs1, rfl, hb, hr⟩
  have HZ1 := Lib.hid hr.vlAt
  obtain ⟨v1, hv⟩ := v0.step hb
  subst hv
  clear hb hr
  go_wp2_with fail
  refine (InputFits'_calls _ _ M L1 _ (HC3.out.later v1) HZ1.out HLEN.out.1 HNM.out HW1.out HW2.out).mono ?_
  rintro e w' ⟨he, hb⟩
  subst he
  have HZ1 := Lib.hid (HZ1.out.below hb)
  obtain ⟨p0, hp⟩ := v1.step hb
  subst hp
  clear hb
  rw [show Value.bool (fitsK 35 M L1) = Value.bool R from congrArg Value.bool ER.out]
  go_upto_region 14 with fail
  have HQL := Lib.hid (show ∀ w', LaterC w2 w' → w'.cell? ⟨w.heap.size, 0, none⟩ = some s0 ∧ w'.cell? ⟨w.heap.size, 1, none⟩ = some s1 ∧ w'.cell? ⟨w.heap.size, 2, none⟩ = some s2 ∧ w'.cell? ⟨w.heap.size, 3, none⟩ = some s3 ∧ w'.cell? ⟨w.heap.size, 4, none⟩ = some s4 ∧ w'.cell? ⟨G, 0, none⟩ = some (slOf x0 M.nodes) ∧ w'.cell? ⟨G, 1, none⟩ = some (slOf x1 M.inits) ∧ w'.cell? ⟨G, 2, none⟩ = some (slOf x2 M.nexts) ∧ w'.cell? ⟨G, 3, none⟩ = some (slOf x3 M.bads) ∧ w'.cell? ⟨G, 4, none⟩ = some (slOf x4 M.holds) from fun W h => by
    obtain ⟨v, rfl⟩ := h
    exact ⟨n0 v, n1 v, n2 v, n3 v, n4 v, b0 v, b1 v, b2 v, b3 v, b4 v⟩)
  go_region_held3 (fun w' => w'.cell? ⟨w.heap.size, 0, none⟩ = some s0 ∧ w'.cell? ⟨w.heap.size, 1, none⟩ = some s1 ∧ w'.cell? ⟨w.heap.size, 2, none⟩ = some s2 ∧ w'.cell? ⟨w.heap.size, 3, none⟩ = some s3 ∧ w'.cell? ⟨w.heap.size, 4, none⟩ = some s4 ∧ w'.cell? ⟨G, 0, none⟩ = some (slOf x0 M.nodes) ∧ w'.cell? ⟨G, 1, none⟩ = some (slOf x1 M.inits) ∧ w'.cell? ⟨G, 2, none⟩ = some (slOf x2 M.nexts) ∧ w'.cell? ⟨G, 3, none⟩ = some (slOf x3 M.bads) ∧ w'.cell? ⟨G, 4, none⟩ = some (slOf x4 M.holds)) ((refine HQL.out _ ?_; repeat (first | exact ⟨_, rfl⟩ | refine LaterC.drew' ?_ | refine LaterC.alloc' ?_ _))) (first | (go_at_call 14; refine (toModel_at _ M _ (HM3.out.below (LaterC.below (by repeat (first | exact ⟨_, rfl⟩ | refine LaterC.drew' ?_ | refine LaterC.alloc' ?_ _)))) HLEN.out.1 HLEN.out.2.1 HLEN.out.2.2.1 HLEN.out.2.2.2.1 HLEN.out.2.2.2.2).mono ?_; rintro e w' ⟨y0, y1, y2, y3, y4, rfl, hb, hc⟩; have HZ1 : Hid (VlAt w' z1 L1) := Lib.hid (by first | exact HZ1.out.below hb | exact (HZ1.out.below (Below.refl _ _).drew).below hb); obtain ⟨p1, hp⟩ := laterC_step (w1 := w2) (by repeat (first | exact ⟨_, rfl⟩ | refine LaterC.drew' ?_ | refine LaterC.alloc' ?_ _)) hb; subst hp; have HC4 := Lib.hid hc; clear hb hc) | (go_at_call 17; refine (eqModel_calls _ _ M _ (HC3.out.below (LaterC.below (by repeat (first | exact ⟨_, rfl⟩ | refine LaterC.drew' ?_ | refine LaterC.alloc' ?_ _)))) (HC4.out.below (by first | exact Below.refl _ _ | exact (Below.refl _ _).drew))).mono ?_; rintro e w' ⟨rfl, hb⟩; have HZ1 : Hid (VlAt w' z1 L1) := Lib.hid (by first | exact HZ1.out.below hb | exact (HZ1.out.below (Below.refl _ _).drew).below hb); obtain ⟨p2, hp⟩ := laterC_step (w1 := w2) (by repeat (first | exact ⟨_, rfl⟩ | refine LaterC.drew' ?_ | refine LaterC.alloc' ?_ _)) hb; subst hp; clear hb))
  go_wp2_with fail
  refine (toValueS_calls _ L1 _ (HU1.out.later p2) HLV1.out.1 HLV1.out.2).mono ?_
  rintro e w' ⟨k1, ks1, rfl, hb, hr⟩
  have HZ1 := Lib.hid (HZ1.out.below hb)
  have HK1 := Lib.hid hr.vlAt
  obtain ⟨g1, hg⟩ := p2.step hb
  subst hg
  clear hb hr
  go_wp2_with fail
  refine (eqValueS_calls _ _ L1 _ HZ1.out HK1.out).mono ?_
  rintro e w' ⟨rfl, hb⟩
  obtain ⟨l1, hg⟩ := g1.step hb
  subst hg
  clear hb
  go_wp2
  go_ret
  exact ⟨rfl, l1.back (below_of HB.out HB2.out)⟩
end Go.Proofs.YteboalbpgghdhaaGreat
