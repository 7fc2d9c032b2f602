import Derived.Test.YteboalbpgghdhaaGreatK8
import Derived.Lib.AppendZeros
import Derived.Deep.AppendLies
import Derived.Test.YteboalbpgghdhaaGreatK0
import Derived.Laws.BitsLemmas
set_option linter.unusedVariables false
set_option linter.unusedSimpArgs false
namespace Go.Proofs.YteboalbpgghdhaaGreat
open Go.RowKit
/-! impl.valueOk, impl.Model.fits. -/
theorem any_not (p : Int → Bool) (xs : List Int) : (!(xs.any fun n => !p n)) = xs.all p := by
  induction xs with
  | nil => rfl
  | cons x l ih => rw [List.any_cons, List.all_cons, ← ih]; cases p x <;> simp
theorem vclosure_calls (Bs : Nat) (a n : Int) (w : World) (h : w.cell? ⟨Bs, 1, none⟩ = some (.int .i64 a)) :
    Makes Tryz.prog 123 #[.int .i64 n, .pointer (some ⟨Bs, 0, none⟩)] w (.bool (!wokB a n)) := by
  go_enter Tryz.func123, Tryz.ntmps123
  go_wp2_with (go_at_call 124; refine (WordOk'_same a n _).mono ?_; rintro e w' ⟨rfl, rfl⟩)
  go_ret
  exact ⟨rfl, Below.refl _ _⟩
set_option maxHeartbeats 2000000 in
set_option maxRecDepth 8000 in
theorem valueOk_calls (i a : Int) (sv : Value) (xs : List Int) (w : World) (hS : SlN enI w sv xs) :
    Makes Tryz.prog 94 #[.agg #[.int .i64 i, .int .i64 a], .agg #[sv]] w (.bool (valN i a xs)) := by
  have HS0 := Lib.hid hS
  obtain ⟨A, c, rfl, hnc, hn, -⟩ := hS
  have HR := Lib.hid (show valN i a xs = (((xs.length : Int) == cellsN i a) && !(xs.any fun n => !wokB a n)) by rw [any_not]; rfl)
  generalize hR : valN i a xs = R at *
  clear hR
  have HS1 := Lib.hid (show Below w.heap.size w ((w.alloc (Obj.cells #[.int .i64 i, .int .i64 a] 99)).alloc (Obj.cells #[.slice A xs.length c] 67)) by
    refine Below.alloc (Below.alloc (Below.refl _ _) (Nat.le_refl _) _) ?_ _ <;> first | (simp; done) | (simp; omega))
  have HS := Lib.hid (HS0.out.below HS1.out)
  generalize hm : xs.length = m at *
  have HM := Lib.hid hm
  have hmf : ∀ (fn : Fn) (first cap : Array Value) (w : World), (Instr.makeFunc fn first cap).run Tryz.prog w = .ok (.func fn first cap) w := fun _ _ _ _ => rfl
  clear hm HS0
  go_enter Tryz.func94, Tryz.ntmps94
  go_wp2
  have y0 : ((w.alloc (Obj.cells #[.int .i64 i, .int .i64 a] 99)).alloc (Obj.cells #[.slice A m c] 67)).cell? ⟨w.heap.size, 0, none⟩ = some (.int .i64 i) := by go_simp
  have y1 : ((w.alloc (Obj.cells #[.int .i64 i, .int .i64 a] 99)).alloc (Obj.cells #[.slice A m c] 67)).cell? ⟨w.heap.size, 1, none⟩ = some (.int .i64 a) := by go_simp
  have z0 : ((w.alloc (Obj.cells #[.int .i64 i, .int .i64 a] 99)).alloc (Obj.cells #[.slice A m c] 67)).cell? ⟨w.heap.size + 1, 0, none⟩ = some (.slice A m c) := by go_simp
  generalize (w.alloc (Obj.cells #[.int .i64 i, .int .i64 a] 99)).alloc (Obj.cells #[.slice A m c] 67) = w1 at *
  have y0 := Later.cell y0
  have y1 := Later.cell y1
  have z0 := Later.cell z0
  have HANS := Lib.hid (show ∀ u : Later w1, Answers u.val 123 #[.pointer (some ⟨w.heap.size, 0, none⟩)] (fun n => !wokB a n) xs from fun u y u2 _ => vclosure_calls w.heap.size a y u2.val (y1 ⟨u2.val, u2.back u.prop⟩))
  obtain ⟨V, hV⟩ : ∃ V, V = xs.any fun n => !wokB a n := ⟨_, rfl⟩
  rw [← hV] at HR
  have HV := Lib.hid hV.symm
  clear hV
  by_cases hl : ((m : Int) == cellsN i a) = true
  · have HC := Lib.hid (show cellsN i a = (m : Int) from (by simpa using hl : (m : Int) = cellsN i a).symm)
    rw [hl, Bool.true_and] at HR
    clear hl
    refine wp_region_later (w0 := w1) (by kernel_rfl) (by kernel_rfl) (LaterC.refl _) ?_
    repeat (go_big_quiet_step (first | (go_at_call 122; exact Calls.later_eq (SortCells'_calls i a _) (congrArg (Value.int .i64) HC.out)) | (go_at_call 89; exact Calls.later_eq (containsI_calls _ #[.pointer (some ⟨w.heap.size, 0, none⟩)] (fun n => !wokB a n) _ xs _ (HS.out.later _) (fun _ _ => rfl) (HANS.out _)) (congrArg Value.bool HV.out))))
    refine wpQuiet_nil ?_
    rintro _ ⟨u1, rfl⟩
    go_wp2
    go_ret
    exact ⟨ret_eq (congrArg Value.bool HR.out.symm), u1.back HS1.out⟩
  · have hl := eq_false_of_ne_true hl
    have HRF := Lib.hid (show R = false by rw [HR.out, hl, Bool.false_and])
    clear HR
    refine wp_region_later (w0 := w1) (by kernel_rfl) (by kernel_rfl) (LaterC.refl _) ?_
    repeat (go_big_quiet_step ((go_at_call 122; exact Calls.later (SortCells'_calls i a _))))
    refine wpQuiet_nil ?_
    rintro _ ⟨u1, rfl⟩
    go_wp2
    go_ret
    exact ⟨ret_eq (congrArg Value.bool HRF.out.symm), u1.back HS1.out⟩
set_option maxHeartbeats 2000000 in
set_option maxRecDepth 8000 in
theorem fits_calls (mv pv lv : Value) (M : Md) (ps : List Int) (L : List (List Int)) (w : World) (hM : MdAt w mv M) (hP : SlN enI w pv ps) (hI : InN ps M.nodes.length) (hL : VlAt w lv L) :
    Makes Tryz.prog 51 #[mv, pv, lv] w (.bool (fitsB M.nodes ps L)) := by
  obtain ⟨s0, s1, s2, s3, s4, rfl, hS, -, -, -, -⟩ := hM.at_
  obtain ⟨A, c, rfl, hnc, hc', hA⟩ := hS
  obtain ⟨B, d, rfl, -, hd', hB⟩ := hP
  obtain ⟨D, e, rfl, -, he', hD⟩ := hL
  clear hM
  have HNO := Lib.hid (show ∀ k, k < L.length → valB (M.nodes.getD (ps.getD k 0).toNat Nd.zero) (L.getD k []) = false → fitsB M.nodes ps L = false from fun k h1 h2 => fits_no h1 h2)
  have HYES := Lib.hid (show L.length = ps.length → (∀ k, k < L.length → valB (M.nodes.getD (ps.getD k 0).toNat Nd.zero) (L.getD k []) = true) → fitsB M.nodes ps L = true from fun h1 h2 => fits_yes h1 h2)
  have HLN := Lib.hid (show (L.length == ps.length) = false → fitsB M.nodes ps L = false from fun h => fits_len h)
  generalize fitsB M.nodes ps L = R at *
  have HI := Lib.hid hI
  generalize hN : M.nodes.length = n at *
  have HN := Lib.hid hN
  generalize hQ : ps.length = q at *
  have HQ := Lib.hid hQ
  generalize hT : L.length = t at *
  have HT := Lib.hid hT
  clear hN hQ hT hI
  have hn : n ≤ 281474976710656 := Nat.le_trans hnc hc'
  clear hnc hc'
  by_cases hqt : t = q
  · subst hqt
    go_enter Tryz.func51, Tryz.ntmps51
    go_wp2
    generalize hw1 : w.alloc (Obj.cells #[.slice A n c, s1, s2, s3, s4] 34) = w1
    have hb0 : ∀ u : Later w1, u.val.cell? ⟨w.heap.size, 0, none⟩ = some (.slice A n c) := Later.cell (by rw [← hw1]; simp)
    have HB := Lib.hid (show Below w.heap.size w w1 by rw [← hw1]; exact (Below.refl _ _).alloc (Nat.le_refl _) _)
    clear hw1
    go_loopw [16] (fun i wr => ∃ k : Nat, k ≤ t ∧ i = .int .i64 k ∧ Hid (∀ j, j < k → valB (M.nodes.getD (ps.getD j 0).toNat Nd.zero) (L.getD j []) = true) ∧ LaterC w1 wr) (fun i _ => t - (intOf i).toNat)
    case atStart => exact ⟨0, Nat.zero_le _, rfl, Lib.hid (fun i hi => absurd hi (Nat.not_lt_zero _)), LaterC.refl _⟩
    case round =>
      obtain ⟨k, hk, rfl, HTO, ⟨u, rfl⟩⟩ := hrel
      by_cases hlt : k < t
      · have hlt' : (k : Int) < t := by omega
        have hgp := getD_at (show k < ps.length by rw [HQ.out]; exact hlt) 0
        obtain ⟨p, hp, hpn⟩ := HI.out k _ hgp
        obtain ⟨bp, op, rfl, hpx⟩ := hB k _ hgp
        have hgl := getD_at (show k < L.length by rw [HT.out]; exact hlt) []
        obtain ⟨bl, ol, sv, rfl, hlc, hls⟩ := hD k _ hgl
        have hgn := getD_at (show p < M.nodes.length by rw [HN.out]; exact hpn) Nd.zero
        obtain ⟨bn, on, rfl, hnx⟩ := hA p _ hgn
        have HVV := Lib.hid (show valB (M.nodes.getD (ps.getD k 0).toNat Nd.zero) (L.getD k []) = valB (M.nodes.getD p Nd.zero) (L.getD k []) by rw [hp]; rfl)
        rw [hp] at hpx
        generalize M.nodes.getD p Nd.zero = x at *
        generalize hxs : L.getD k [] = xs at *
        have HXS := Lib.hid hxs
        have p0 : ∀ l : Later w1, l.val.cell? ⟨bp, op + k, none⟩ = some (.int .i64 (p : Int)) := hpx.int HB.out
        have q0 : ∀ l : Later w1, l.val.cell? ⟨bl, ol + k, none⟩ = some sv := back_cell hlc HB.out
        have p6 : ∀ l : Later w1, l.val.cell? ⟨bn, on + p * 9 + 6, none⟩ = some (.int .i64 x.idx) := hnx.at_ HB.out 6 _ rfl
        have p7 : ∀ l : Later w1, l.val.cell? ⟨bn, on + p * 9 + 7, none⟩ = some (.int .i64 x.wid) := hnx.at_ HB.out 7 _ rfl
        have HS := Lib.hid (hls.below HB.out)
        clear hxs hgp hgl hgn hpx hnx hlc hls hp hA hB hD
        by_cases hv : valN x.idx x.wid xs = true
        · have HV := Lib.hid hv
          have HTO2 := Lib.hid (show ∀ j, j < k + 1 → valB (M.nodes.getD (ps.getD j 0).toNat Nd.zero) (L.getD j []) = true from fun j hj => by
            rcases Nat.lt_or_ge j k with g | g
            · exact HTO.out j g
            · obtain rfl : j = k := by omega
              rw [HXS.out, HVV.out]; exact hv)
          clear hv HTO
          go_wp2
          refine wp_region_later (w0 := w1) (by kernel_rfl) (by kernel_rfl) ⟨u, rfl⟩ ?_
          repeat (go_big_quiet_step ((go_at_call 94; exact Calls.later_eq (valueOk_calls x.idx x.wid sv xs _ (HS.out.later _)) (congrArg Value.bool HV.out))))
          refine wpQuiet_nil ?_
          rintro _ ⟨u1, rfl⟩
          go_wp2
          go_roundw
          case rel => exact ⟨k + 1, by omega, by go_num, HTO2, ⟨u1, rfl⟩⟩
          case measure => simp [intOf] <;> omega
        · have hv := eq_false_of_ne_true hv
          have HV := Lib.hid hv
          have HR := Lib.hid (HNO.out k hlt (by rw [HXS.out, HVV.out]; exact hv))
          clear hv HTO
          go_wp2
          refine wp_region_later (w0 := w1) (by kernel_rfl) (by kernel_rfl) ⟨u, rfl⟩ ?_
          repeat (go_big_quiet_step ((go_at_call 94; exact Calls.later_eq (valueOk_calls x.idx x.wid sv xs _ (HS.out.later _)) (congrArg Value.bool HV.out))))
          refine wpQuiet_nil ?_
          rintro _ ⟨u1, rfl⟩
          go_wp2
          go_ret
          exact ⟨ret_eq (congrArg Value.bool HR.out.symm), u1.back HB.out⟩
      · obtain rfl : k = t := by omega
        have HR := Lib.hid (HYES.out trivial HTO.out)
        clear hA hB hD
        go_wp2
        go_ret
        exact ⟨ret_eq (congrArg Value.bool HR.out.symm), u.back HB.out⟩
  · have HR := Lib.hid (HLN.out (by simpa using hqt))
    have hne : (t == q) = false := by simpa using hqt
    go_enter Tryz.func51, Tryz.ntmps51
    go_wp2
    go_ret
    exact ⟨ret_eq (congrArg Value.bool HR.out.symm), box_below _ _ _⟩
end Go.Proofs.YteboalbpgghdhaaGreat
namespace Go.Proofs.YteboalbpgghdhaaGreat
open Go.RowKit
/-! The places of all nodes of a kind. -/
/-- One integer more, behind a row of the call's own. -/
theorem ownsRow_mono {w : World} {B B' n s : Nat} {e : TypeId} {v : Value} {xs : List Value} (h : w.ownsRow B e s v n xs) (hB : B' ≤ B) : w.ownsRow B' e s v n xs := by
  refine ⟨h.1, ?_⟩
  rcases h.2 with h0 | ⟨g, cap, cur, hv, hb, r⟩
  · exact .inl h0
  · exact .inr ⟨g, cap, cur, hv, Nat.le_trans hB hb, r⟩
set_option maxHeartbeats 2000000 in
set_option maxRecDepth 8000 in
theorem l2Places_calls (mv : Value) (M : Md) (kind : Int) (w : World) (hM : MdAt w mv M) (hsz : M.nodes.length ≤ 1048576) :
    Calls Tryz.prog 45 #[mv, .int .i64 kind] w fun e w' => ∃ v, e = .returned v ∧ Below w.heap.size w w' ∧ w'.ownsRow w.heap.size 3 1 v (placesN kind M.nodes M.nodes.length).length ((placesN kind M.nodes M.nodes.length).map (Value.int .i64)) := by
  obtain ⟨s0, s1, s2, s3, s4, rfl, hS, -, -, -, -⟩ := hM.at_
  obtain ⟨A, c, rfl, hnc, hc', hA⟩ := hS
  clear hM
  obtain ⟨ti, hti⟩ := info_parts info_int
  have HTI := Lib.hid hti
  clear hti
  generalize hN : M.nodes.length = n at *
  have HN := Lib.hid hN
  clear hN
  have hn : n ≤ 281474976710656 := Nat.le_trans hnc hc'
  clear hc' hnc
  go_enter Tryz.func45, Tryz.ntmps45
  go_wp2
  generalize hw1 : w.alloc (Obj.cells #[.slice A n c, s1, s2, s3, s4] 34) = w1
  have hb0 : ∀ u : Later w1, u.val.cell? ⟨w.heap.size, 0, none⟩ = some (.slice A n c) := Later.cell (by rw [← hw1]; simp)
  have HB := Lib.hid (show Below w.heap.size w w1 by rw [← hw1]; exact (Below.refl _ _).alloc (Nat.le_refl _) _)
  clear hw1
  go_loopw [5, 6] (fun s i wr => ∃ (k q : Nat) (sv : Value), k ≤ n ∧ i = .int .i64 k ∧ sv = s ∧ q ≤ k ∧ Hid (wr.ownsRow w1.heap.size 3 1 sv q ((placesN kind M.nodes k).map (Value.int .i64))) ∧ LaterC w1 wr) (fun _ i _ => n - (intOf i).toNat)
  case atStart => exact ⟨0, 0, _, Nat.zero_le _, rfl, rfl, Nat.le_refl _, Lib.hid ⟨rfl, .inl ⟨rfl, rfl⟩⟩, LaterC.refl _⟩
  case round =>
    obtain ⟨k, q, sv, hk, rfl, hsv, hq, HOWN, ⟨u, rfl⟩⟩ := hrel
    subst hsv
    by_cases hlt : k < n
    · have hget := getD_at (show k < M.nodes.length by rw [HN.out]; exact hlt) Nd.zero
      obtain ⟨b, o, rfl, hx⟩ := hA k _ hget
      by_cases hkd : ((M.nodes.getD k Nd.zero).kind == kind) = true
      · have HP := Lib.hid (placesN_yes hkd)
        generalize hxe : M.nodes.getD k Nd.zero = x at hx hkd
        have p0 : ∀ l : Later w1, l.val.cell? ⟨b, o + k * 9, none⟩ = some (.int .i64 x.kind) := hx.at_ HB.out 0 _ rfl
        clear hx hget hxe hA
        have HNEWS := Lib.hid (show ∀ j u', ([.int .i64 k] : List Value)[j]? = some u' → (u.val.alloc (Obj.cells #[.int .i64 k] 3)).cell? ((⟨u.val.heap.size, 0, none⟩ : Addr).add j) = some u' from World.news_of_block (OwnB.new u.val _ _))
        have HBASE := Lib.hid (show w1.heap.size ≤ (u.val.alloc (Obj.cells #[.int .i64 k] 3)).heap.size from (u.alloc (Obj.cells #[.int .i64 k] 3)).size)
        have HOWN0 := Lib.hid (ownsRow_below HOWN.out (box_below u.val #[.int .i64 k] 3))
        go_wp2_with (at_builtin; refine wpList_append_lies _ (by rfl) _ _ _ (by rfl) w1.heap.size 3 ti _ 1 8 Tryz.underlying24 HTI.out.1 HTI.out.2.1 HTI.out.2.2.1 HTI.out.2.2.2 rfl (by omega) sv q ((placesN kind M.nodes k).map (Value.int .i64)) (by rfl) HOWN0.out ⟨u.val.heap.size, 0, none⟩ 1 1 [.int .i64 k] (by rfl) rfl HNEWS.out (by intro y hy; simp at hy; subst hy; rfl) (by omega) (by unfold maxLen; omega) (by omega) HBASE.out (u.val.heap.size + 1) (by simp) ?_; intro g' cap' wn hown2 hgrow hat hglt; have HOWN2 := Lib.hid hown2; have hL := laterC_grown (u.alloc _) HOWN0.out hgrow; obtain ⟨u2, hu2⟩ := hL; subst hu2; clear hgrow hat hglt hown2)
        go_roundw
        case rel =>
          refine ⟨k + 1, q + 1, _, by omega, by go_num, rfl, by omega, Lib.hid ?_, ⟨u2, rfl⟩⟩
          rw [HP.out, List.map_append]
          exact HOWN2.out
        case measure => simp [intOf] <;> omega
      · have hkd := eq_false_of_ne_true hkd
        have HP := Lib.hid (placesN_no hkd)
        generalize hxe : M.nodes.getD k Nd.zero = x at hx hkd
        have p0 : ∀ l : Later w1, l.val.cell? ⟨b, o + k * 9, none⟩ = some (.int .i64 x.kind) := hx.at_ HB.out 0 _ rfl
        clear hx hget hxe hA
        go_wp2
        go_roundw
        case rel =>
          refine ⟨k + 1, q, _, by omega, by go_num, rfl, by omega, Lib.hid ?_, ⟨u, rfl⟩⟩
          rw [HP.out]
          exact HOWN.out
        case measure => simp [intOf] <;> omega
    · obtain rfl : k = n := by omega
      clear hA
      go_wp2
      go_ret
      have hql : q = (placesN kind M.nodes k).length := by have := HOWN.out.1; simpa using this.symm
      subst hql
      exact ⟨_, rfl, HB.out.trans (u.prop.mono HB.out.size), ownsRow_mono HOWN.out HB.out.size⟩
set_option maxHeartbeats 2000000 in
set_option maxRecDepth 8000 in
theorem places_calls (mv : Value) (M : Md) (kind : Int) (w : World) (hM : MdAt w mv M) (hsz : M.nodes.length ≤ 1048576) :
    Calls Tryz.prog 52 #[mv, .int .i64 kind] w fun e w' => ∃ v, e = .returned v ∧ Below w.heap.size w w' ∧ w'.ownsRow w.heap.size 3 1 v (placesN kind M.nodes M.nodes.length).length ((placesN kind M.nodes M.nodes.length).map (Value.int .i64)) := by
  obtain ⟨s0, s1, s2, s3, s4, rfl, hS, -, -, -, -⟩ := hM.at_
  obtain ⟨A, c, rfl, hnc, hc', hA⟩ := hS
  clear hM
  obtain ⟨ti, hti⟩ := info_parts info_int
  have HTI := Lib.hid hti
  clear hti
  generalize hN : M.nodes.length = n at *
  have HN := Lib.hid hN
  clear hN
  have hn : n ≤ 281474976710656 := Nat.le_trans hnc hc'
  clear hc' hnc
  go_enter Tryz.func52, Tryz.ntmps52
  go_wp2
  generalize hw1 : w.alloc (Obj.cells #[.slice A n c, s1, s2, s3, s4] 34) = w1
  have hb0 : ∀ u : Later w1, u.val.cell? ⟨w.heap.size, 0, none⟩ = some (.slice A n c) := Later.cell (by rw [← hw1]; simp)
  have HB := Lib.hid (show Below w.heap.size w w1 by rw [← hw1]; exact (Below.refl _ _).alloc (Nat.le_refl _) _)
  clear hw1
  go_loopw [5, 11] (fun s i wr => ∃ (k q : Nat) (sv : Value), k ≤ n ∧ i = .int .i64 k ∧ sv = s ∧ q ≤ k ∧ Hid (wr.ownsRow w1.heap.size 3 1 sv q ((placesN kind M.nodes k).map (Value.int .i64))) ∧ LaterC w1 wr) (fun _ i _ => n - (intOf i).toNat)
  case atStart => exact ⟨0, 0, _, Nat.zero_le _, rfl, rfl, Nat.le_refl _, Lib.hid ⟨rfl, .inl ⟨rfl, rfl⟩⟩, LaterC.refl _⟩
  case round =>
    obtain ⟨k, q, sv, hk, rfl, hsv, hq, HOWN, ⟨u, rfl⟩⟩ := hrel
    subst hsv
    by_cases hlt : k < n
    · have hget := getD_at (show k < M.nodes.length by rw [HN.out]; exact hlt) Nd.zero
      obtain ⟨b, o, rfl, hx⟩ := hA k _ hget
      by_cases hkd : ((M.nodes.getD k Nd.zero).kind == kind) = true
      · have HP := Lib.hid (placesN_yes hkd)
        generalize hxe : M.nodes.getD k Nd.zero = x at hx hkd
        have p0 : ∀ l : Later w1, l.val.cell? ⟨b, o + k * 9, none⟩ = some (.int .i64 x.kind) := hx.at_ HB.out 0 _ rfl
        have p1 : ∀ l : Later w1, l.val.cell? ⟨b, o + k * 9 + 1, none⟩ = some (.int .i64 x.a) := hx.at_ HB.out 1 _ rfl
        have p2 : ∀ l : Later w1, l.val.cell? ⟨b, o + k * 9 + 2, none⟩ = some (.int .i64 x.b) := hx.at_ HB.out 2 _ rfl
        have p3 : ∀ l : Later w1, l.val.cell? ⟨b, o + k * 9 + 3, none⟩ = some (.int .i64 x.c) := hx.at_ HB.out 3 _ rfl
        have p4 : ∀ l : Later w1, l.val.cell? ⟨b, o + k * 9 + 4, none⟩ = some (.int .i64 x.n) := hx.at_ HB.out 4 _ rfl
        have p5 : ∀ l : Later w1, l.val.cell? ⟨b, o + k * 9 + 5, none⟩ = some (.int .i64 x.m) := hx.at_ HB.out 5 _ rfl
        have p6 : ∀ l : Later w1, l.val.cell? ⟨b, o + k * 9 + 6, none⟩ = some (.int .i64 x.idx) := hx.at_ HB.out 6 _ rfl
        have p7 : ∀ l : Later w1, l.val.cell? ⟨b, o + k * 9 + 7, none⟩ = some (.int .i64 x.wid) := hx.at_ HB.out 7 _ rfl
        have p8 : ∀ l : Later w1, l.val.cell? ⟨b, o + k * 9 + 8, none⟩ = some (.string x.name) := hx.at_ HB.out 8 _ rfl
        clear hx hget hxe hA
        go_upto_region 5 with fail
        have y0 := box_cell u.val #[.int .i64 x.kind, .int .i64 x.a, .int .i64 x.b, .int .i64 x.c, .int .i64 x.n, .int .i64 x.m, .int .i64 x.idx, .int .i64 x.wid, .string x.name] 101 0 _ rfl
        have y0 : ∀ l : Later (u.val.alloc (Obj.cells #[.int .i64 x.kind, .int .i64 x.a, .int .i64 x.b, .int .i64 x.c, .int .i64 x.n, .int .i64 x.m, .int .i64 x.idx, .int .i64 x.wid, .string x.name] 101)), l.val.cell? ⟨u.val.heap.size, 0, none⟩ = some (.int .i64 x.kind) := y0
        have HOWN1 := Lib.hid (ownsRow_below HOWN.out (box_below u.val #[.int .i64 x.kind, .int .i64 x.a, .int .i64 x.b, .int .i64 x.c, .int .i64 x.n, .int .i64 x.m, .int .i64 x.idx, .int .i64 x.wid, .string x.name] 101))
        have hL5 : LaterC w1 (u.val.alloc (Obj.cells #[.int .i64 x.kind, .int .i64 x.a, .int .i64 x.b, .int .i64 x.c, .int .i64 x.n, .int .i64 x.m, .int .i64 x.idx, .int .i64 x.wid, .string x.name] 101)) := u.alloc _
        generalize (u.val.alloc (Obj.cells #[.int .i64 x.kind, .int .i64 x.a, .int .i64 x.b, .int .i64 x.c, .int .i64 x.n, .int .i64 x.m, .int .i64 x.idx, .int .i64 x.wid, .string x.name] 101)) = w5 at *
        generalize u.val.heap.size = GX at *
        clear p0 p1 p2 p3 p4 p5 p6 p7 p8 HOWN
        have HL5 := Lib.hid hL5
        clear hL5
        refine at_world (w := w5) ?_
        intro u
        have HOWN := Lib.hid (ownsRow_below HOWN1.out u.prop)
        have HNEWS := Lib.hid (show ∀ j u', ([.int .i64 k] : List Value)[j]? = some u' → (u.val.alloc (Obj.cells #[.int .i64 k] 3)).cell? ((⟨u.val.heap.size, 0, none⟩ : Addr).add j) = some u' from World.news_of_block (OwnB.new u.val _ _))
        have HBASE := Lib.hid (show w1.heap.size ≤ (u.val.alloc (Obj.cells #[.int .i64 k] 3)).heap.size from (HL5.out.trans (u.alloc (Obj.cells #[.int .i64 k] 3))).size)
        have HOWN0 := Lib.hid (ownsRow_below HOWN.out (box_below u.val #[.int .i64 k] 3))
        go_wp2_with (at_builtin; refine wpList_append_lies _ (by rfl) _ _ _ (by rfl) w1.heap.size 3 ti _ 1 8 Tryz.underlying24 HTI.out.1 HTI.out.2.1 HTI.out.2.2.1 HTI.out.2.2.2 rfl (by omega) sv q ((placesN kind M.nodes k).map (Value.int .i64)) (by rfl) HOWN0.out ⟨u.val.heap.size, 0, none⟩ 1 1 [.int .i64 k] (by rfl) rfl HNEWS.out (by intro y hy; simp at hy; subst hy; rfl) (by omega) (by unfold maxLen; omega) (by omega) HBASE.out (u.val.heap.size + 1) (by simp) ?_; intro g' cap' wn hown2 hgrow hat hglt; have HOWN2 := Lib.hid hown2; have hL := laterC_grown (HL5.out.trans (u.alloc _)) HOWN0.out hgrow; obtain ⟨u2, hu2⟩ := hL; subst hu2; clear hgrow hat hglt hown2)
        go_roundw
        case rel =>
          refine ⟨k + 1, q + 1, _, by omega, by go_num, rfl, by omega, Lib.hid ?_, ⟨u2, rfl⟩⟩
          rw [HP.out, List.map_append]
          exact HOWN2.out
        case measure => simp [intOf] <;> omega
      · have hkd := eq_false_of_ne_true hkd
        have HP := Lib.hid (placesN_no hkd)
        generalize hxe : M.nodes.getD k Nd.zero = x at hx hkd
        have p0 : ∀ l : Later w1, l.val.cell? ⟨b, o + k * 9, none⟩ = some (.int .i64 x.kind) := hx.at_ HB.out 0 _ rfl
        have p1 : ∀ l : Later w1, l.val.cell? ⟨b, o + k * 9 + 1, none⟩ = some (.int .i64 x.a) := hx.at_ HB.out 1 _ rfl
        have p2 : ∀ l : Later w1, l.val.cell? ⟨b, o + k * 9 + 2, none⟩ = some (.int .i64 x.b) := hx.at_ HB.out 2 _ rfl
        have p3 : ∀ l : Later w1, l.val.cell? ⟨b, o + k * 9 + 3, none⟩ = some (.int .i64 x.c) := hx.at_ HB.out 3 _ rfl
        have p4 : ∀ l : Later w1, l.val.cell? ⟨b, o + k * 9 + 4, none⟩ = some (.int .i64 x.n) := hx.at_ HB.out 4 _ rfl
        have p5 : ∀ l : Later w1, l.val.cell? ⟨b, o + k * 9 + 5, none⟩ = some (.int .i64 x.m) := hx.at_ HB.out 5 _ rfl
        have p6 : ∀ l : Later w1, l.val.cell? ⟨b, o + k * 9 + 6, none⟩ = some (.int .i64 x.idx) := hx.at_ HB.out 6 _ rfl
        have p7 : ∀ l : Later w1, l.val.cell? ⟨b, o + k * 9 + 7, none⟩ = some (.int .i64 x.wid) := hx.at_ HB.out 7 _ rfl
        have p8 : ∀ l : Later w1, l.val.cell? ⟨b, o + k * 9 + 8, none⟩ = some (.string x.name) := hx.at_ HB.out 8 _ rfl
        clear hx hget hxe hA
        go_upto_region 5 with fail
        have y0 := box_cell u.val #[.int .i64 x.kind, .int .i64 x.a, .int .i64 x.b, .int .i64 x.c, .int .i64 x.n, .int .i64 x.m, .int .i64 x.idx, .int .i64 x.wid, .string x.name] 101 0 _ rfl
        have y0 : ∀ l : Later (u.val.alloc (Obj.cells #[.int .i64 x.kind, .int .i64 x.a, .int .i64 x.b, .int .i64 x.c, .int .i64 x.n, .int .i64 x.m, .int .i64 x.idx, .int .i64 x.wid, .string x.name] 101)), l.val.cell? ⟨u.val.heap.size, 0, none⟩ = some (.int .i64 x.kind) := y0
        have HOWN1 := Lib.hid (ownsRow_below HOWN.out (box_below u.val #[.int .i64 x.kind, .int .i64 x.a, .int .i64 x.b, .int .i64 x.c, .int .i64 x.n, .int .i64 x.m, .int .i64 x.idx, .int .i64 x.wid, .string x.name] 101))
        have hL5 : LaterC w1 (u.val.alloc (Obj.cells #[.int .i64 x.kind, .int .i64 x.a, .int .i64 x.b, .int .i64 x.c, .int .i64 x.n, .int .i64 x.m, .int .i64 x.idx, .int .i64 x.wid, .string x.name] 101)) := u.alloc _
        generalize (u.val.alloc (Obj.cells #[.int .i64 x.kind, .int .i64 x.a, .int .i64 x.b, .int .i64 x.c, .int .i64 x.n, .int .i64 x.m, .int .i64 x.idx, .int .i64 x.wid, .string x.name] 101)) = w5 at *
        generalize u.val.heap.size = GX at *
        clear p0 p1 p2 p3 p4 p5 p6 p7 p8 HOWN
        have HL5 := Lib.hid hL5
        clear hL5
        refine at_world (w := w5) ?_
        intro u
        have HOWN := Lib.hid (ownsRow_below HOWN1.out u.prop)
        go_wp2
        go_roundw
        case rel =>
          refine ⟨k + 1, q, _, by omega, by go_num, rfl, by omega, Lib.hid ?_, HL5.out.trans ⟨u, rfl⟩⟩
          rw [HP.out]
          exact HOWN.out
        case measure => simp [intOf] <;> omega
    · obtain rfl : k = n := by omega
      clear hA
      go_wp2
      go_ret
      have hql : q = (placesN kind M.nodes k).length := by have := HOWN.out.1; simpa using this.symm
      subst hql
      exact ⟨_, rfl, HB.out.trans (u.prop.mono HB.out.size), ownsRow_mono HOWN.out HB.out.size⟩
end Go.Proofs.YteboalbpgghdhaaGreat
namespace Go.Proofs.YteboalbpgghdhaaGreat
open Go.RowKit
/-! StateFits, InputFits. -/
noncomputable def fitsK (kind : Int) (M : Md) (L : List (List Int)) : Bool := if codeN M = 0 then fitsB M.nodes (placesN kind M.nodes M.nodes.length) L else false
theorem placesN_InN (kind : Int) (l : List Nd) : InN (placesN kind l l.length) l.length := by
  intro i p h
  obtain ⟨j, h1, h2, -⟩ := placesN_in (List.mem_of_getElem? h)
  exact ⟨j, h1, h2⟩
theorem places_slN {w : World} {B : Nat} {v : Value} {kind : Int} {l : List Nd} (h : w.ownsRow B 3 1 v (placesN kind l l.length).length ((placesN kind l l.length).map (Value.int .i64))) (hl : l.length ≤ 1048576) : SlN enI w v (placesN kind l l.length) :=
  (RowI.of_owns h rfl (by have := placesN_le kind l l.length; omega)).slN
set_option maxHeartbeats 2000000 in
set_option maxRecDepth 8000 in
theorem StateFits_calls (mv lv : Value) (M : Md) (L : List (List Int)) (w : World) (hM : MdAt w mv M) (hL : VlAt w lv L) (hsz : M.nodes.length ≤ 1048576) (hnm : ∀ x, x ∈ M.nodes → x.name.size ≤ 140737488351232) :
    Makes Tryz.prog 19 #[mv, lv] w (.bool (fitsK 36 M L)) := by
  have HM := Lib.hid hM
  have HNM := Lib.hid hnm
  have HSZ := Lib.hid hsz
  have HL := Lib.hid hL
  have HIN := Lib.hid (placesN_InN 36 M.nodes)
  obtain ⟨s0, s1, s2, s3, s4, rfl, -⟩ := hM.at_
  clear hM hnm hsz hL
  generalize hR : fitsK 36 M L = R
  unfold fitsK at hR
  go_enter Tryz.func19, Tryz.ntmps19
  have HB := Lib.hid (box_below w #[s0, s1, s2, s3, s4] 34)
  have m0 := box_cell w #[s0, s1, s2, s3, s4] 34 0 _ rfl
  have m1 := box_cell w #[s0, s1, s2, s3, s4] 34 1 _ rfl
  have m2 := box_cell w #[s0, s1, s2, s3, s4] 34 2 _ rfl
  have m3 := box_cell w #[s0, s1, s2, s3, s4] 34 3 _ rfl
  have m4 := box_cell w #[s0, s1, s2, s3, s4] 34 4 _ rfl
  go_upto_region 1 with fail
  generalize w.alloc (.cells #[s0, s1, s2, s3, s4] 34) = w1 at *
  have m0 : ∀ u : Later w1, u.val.cell? ⟨w.heap.size, 0, none⟩ = some s0 := m0
  have m1 : ∀ u : Later w1, u.val.cell? ⟨w.heap.size, 1, none⟩ = some s1 := m1
  have m2 : ∀ u : Later w1, u.val.cell? ⟨w.heap.size, 2, none⟩ = some s2 := m2
  have m3 : ∀ u : Later w1, u.val.cell? ⟨w.heap.size, 3, none⟩ = some s3 := m3
  have m4 : ∀ u : Later w1, u.val.cell? ⟨w.heap.size, 4, none⟩ = some s4 := m4
  have HM1 := Lib.hid (HM.out.below HB.out)
  have HL1 := Lib.hid (HL.out.below HB.out)
  by_cases hc : codeN M = 0
  · rw [if_pos hc] at hR
    have HC := Lib.hid hc
    have HR := Lib.hid hR
    clear hc hR
    have HQL := Lib.hid (show ∀ w', LaterC w1 w' → w'.cell? ⟨w.heap.size, 0, none⟩ = some s0 ∧ w'.cell? ⟨w.heap.size, 1, none⟩ = some s1 ∧ w'.cell? ⟨w.heap.size, 2, none⟩ = some s2 ∧ w'.cell? ⟨w.heap.size, 3, none⟩ = some s3 ∧ w'.cell? ⟨w.heap.size, 4, none⟩ = some s4 from fun W h => by
      obtain ⟨v, rfl⟩ := h
      exact ⟨m0 v, m1 v, m2 v, m3 v, m4 v⟩)
    refine at_world (w := w1) ?_
    intro u0
    go_region_held3 (fun w' => w'.cell? ⟨w.heap.size, 0, none⟩ = some s0 ∧ w'.cell? ⟨w.heap.size, 1, none⟩ = some s1 ∧ w'.cell? ⟨w.heap.size, 2, none⟩ = some s2 ∧ w'.cell? ⟨w.heap.size, 3, none⟩ = some s3 ∧ w'.cell? ⟨w.heap.size, 4, none⟩ = some s4) ((refine HQL.out _ ?_; repeat (first | exact ⟨_, rfl⟩ | refine LaterC.drew' ?_ | refine LaterC.alloc' ?_ _))) (first | (go_at_call 43; refine (ModelCode_calls _ M _ (HM1.out.below (LaterC.below (by repeat (first | exact ⟨_, rfl⟩ | refine LaterC.drew' ?_ | refine LaterC.alloc' ?_ _)))) HNM.out).mono ?_; rintro e w' ⟨rfl, hb⟩; rw [HC.out]; obtain ⟨v1, hv1⟩ := laterC_step (w1 := w1) (by repeat (first | exact ⟨_, rfl⟩ | refine LaterC.drew' ?_ | refine LaterC.alloc' ?_ _)) hb; subst hv1; clear hb) | (go_at_call 45; refine (l2Places_calls _ M 36 _ (HM1.out.below (LaterC.below (by repeat (first | exact ⟨_, rfl⟩ | refine LaterC.drew' ?_ | refine LaterC.alloc' ?_ _)))) HSZ.out).mono ?_; rintro e w' ⟨pv, rfl, hb, hown⟩; have HOWN := Lib.hid (places_slN hown HSZ.out); obtain ⟨v2, hv2⟩ := laterC_step (w1 := w1) (by repeat (first | exact ⟨_, rfl⟩ | refine LaterC.drew' ?_ | refine LaterC.alloc' ?_ _)) hb; subst hv2; clear hb hown) | (go_at_call 44; refine (l4Fits_calls _ pv _ M _ L _ (HM1.out.below (LaterC.below (by repeat (first | exact ⟨_, rfl⟩ | refine LaterC.drew' ?_ | refine LaterC.alloc' ?_ _)))) (HOWN.out.below (by first | exact Below.refl _ _ | exact (Below.refl _ _).drew)) HIN.out (HL1.out.below (LaterC.below (by repeat (first | exact ⟨_, rfl⟩ | refine LaterC.drew' ?_ | refine LaterC.alloc' ?_ _))))).mono ?_; rintro e w' ⟨rfl, hb⟩; rw [HR.out]; obtain ⟨v3, hv3⟩ := laterC_step (w1 := w1) (by repeat (first | exact ⟨_, rfl⟩ | refine LaterC.drew' ?_ | refine LaterC.alloc' ?_ _)) hb; subst hv3; clear hb))
    go_wp2
    go_ret
    exact ⟨rfl, v3.back HB.out⟩
  · rw [if_neg hc] at hR
    subst hR
    generalize hcm : codeN M = cm at *
    have HC := Lib.hid hcm
    have hne : (cm == 0) = false := by simpa using hc
    clear hcm hc
    refine wp_region_later (w0 := w1) (by kernel_rfl) (by kernel_rfl) (LaterC.refl _) ?_
    repeat (go_big_quiet_step ((go_at_call 43; exact Calls.later_eq (ModelCode_calls _ M _ (HM1.out.later _) HNM.out) (congrArg (Value.int .i64) HC.out))))
    refine wpQuiet_nil ?_
    rintro _ ⟨u1, rfl⟩
    go_wp2
    go_ret
    exact ⟨rfl, u1.back HB.out⟩
set_option maxHeartbeats 2000000 in
set_option maxRecDepth 8000 in
theorem StateFits'_calls (mv lv : Value) (M : Md) (L : List (List Int)) (w : World) (hM : MdAt w mv M) (hL : VlAt w lv L) (hsz : M.nodes.length ≤ 1048576) (hnm : ∀ x, x ∈ M.nodes → x.name.size ≤ 140737488351232) (hw1 : ∀ b, b ∈ M.inits → (Lit.int .i64 b.st).wf = true) (hw2 : ∀ b, b ∈ M.nexts → (Lit.int .i64 b.st).wf = true) :
    Makes Tryz.prog 20 #[mv, lv] w (.bool (fitsK 36 M L)) := by
  have HM := Lib.hid hM
  have HNM := Lib.hid hnm
  have HSZ := Lib.hid hsz
  have HL := Lib.hid hL
  have HW1 := Lib.hid hw1
  have HW2 := Lib.hid hw2
  clear hw1 hw2
  have HIN := Lib.hid (placesN_InN 36 M.nodes)
  obtain ⟨s0, s1, s2, s3, s4, rfl, -⟩ := hM.at_
  clear hM hnm hsz hL
  generalize hR : fitsK 36 M L = R
  unfold fitsK at hR
  go_enter Tryz.func20, Tryz.ntmps20
  have HB := Lib.hid (box_below w #[s0, s1, s2, s3, s4] 34)
  have m0 := box_cell w #[s0, s1, s2, s3, s4] 34 0 _ rfl
  have m1 := box_cell w #[s0, s1, s2, s3, s4] 34 1 _ rfl
  have m2 := box_cell w #[s0, s1, s2, s3, s4] 34 2 _ rfl
  have m3 := box_cell w #[s0, s1, s2, s3, s4] 34 3 _ rfl
  have m4 := box_cell w #[s0, s1, s2, s3, s4] 34 4 _ rfl
  go_upto_region 1 with fail
  generalize w.alloc (.cells #[s0, s1, s2, s3, s4] 34) = w1 at *
  have m0 : ∀ u : Later w1, u.val.cell? ⟨w.heap.size, 0, none⟩ = some s0 := m0
  have m1 : ∀ u : Later w1, u.val.cell? ⟨w.heap.size, 1, none⟩ = some s1 := m1
  have m2 : ∀ u : Later w1, u.val.cell? ⟨w.heap.size, 2, none⟩ = some s2 := m2
  have m3 : ∀ u : Later w1, u.val.cell? ⟨w.heap.size, 3, none⟩ = some s3 := m3
  have m4 : ∀ u : Later w1, u.val.cell? ⟨w.heap.size, 4, none⟩ = some s4 := m4
  have HM1 := Lib.hid (HM.out.below HB.out)
  have HL1 := Lib.hid (HL.out.below HB.out)
  by_cases hc : codeN M = 0
  · rw [if_pos hc] at hR
    have HC := Lib.hid hc
    have HR := Lib.hid hR
    clear hc hR
    have HQL := Lib.hid (show ∀ w', LaterC w1 w' → w'.cell? ⟨w.heap.size, 0, none⟩ = some s0 ∧ w'.cell? ⟨w.heap.size, 1, none⟩ = some s1 ∧ w'.cell? ⟨w.heap.size, 2, none⟩ = some s2 ∧ w'.cell? ⟨w.heap.size, 3, none⟩ = some s3 ∧ w'.cell? ⟨w.heap.size, 4, none⟩ = some s4 from fun W h => by
      obtain ⟨v, rfl⟩ := h
      exact ⟨m0 v, m1 v, m2 v, m3 v, m4 v⟩)
    refine at_world (w := w1) ?_
    intro u0
    go_region_held3 (fun w' => w'.cell? ⟨w.heap.size, 0, none⟩ = some s0 ∧ w'.cell? ⟨w.heap.size, 1, none⟩ = some s1 ∧ w'.cell? ⟨w.heap.size, 2, none⟩ = some s2 ∧ w'.cell? ⟨w.heap.size, 3, none⟩ = some s3 ∧ w'.cell? ⟨w.heap.size, 4, none⟩ = some s4) ((refine HQL.out _ ?_; repeat (first | exact ⟨_, rfl⟩ | refine LaterC.drew' ?_ | refine LaterC.alloc' ?_ _))) (first | (go_at_call 50; refine (ModelCode'_calls _ M _ (HM1.out.below (LaterC.below (by repeat (first | exact ⟨_, rfl⟩ | refine LaterC.drew' ?_ | refine LaterC.alloc' ?_ _)))) HNM.out HW1.out HW2.out).mono ?_; rintro e w' ⟨rfl, hb⟩; rw [HC.out]; obtain ⟨v1, hv1⟩ := laterC_step (w1 := w1) (by repeat (first | exact ⟨_, rfl⟩ | refine LaterC.drew' ?_ | refine LaterC.alloc' ?_ _)) hb; subst hv1; clear hb) | (go_at_call 52; refine (places_calls _ M 36 _ (HM1.out.below (LaterC.below (by repeat (first | exact ⟨_, rfl⟩ | refine LaterC.drew' ?_ | refine LaterC.alloc' ?_ _)))) HSZ.out).mono ?_; rintro e w' ⟨pv, rfl, hb, hown⟩; have HOWN := Lib.hid (places_slN hown HSZ.out); obtain ⟨v2, hv2⟩ := laterC_step (w1 := w1) (by repeat (first | exact ⟨_, rfl⟩ | refine LaterC.drew' ?_ | refine LaterC.alloc' ?_ _)) hb; subst hv2; clear hb hown) | (go_at_call 51; refine (fits_calls _ pv _ M _ L _ (HM1.out.below (LaterC.below (by repeat (first | exact ⟨_, rfl⟩ | refine LaterC.drew' ?_ | refine LaterC.alloc' ?_ _)))) (HOWN.out.below (by first | exact Below.refl _ _ | exact (Below.refl _ _).drew)) HIN.out (HL1.out.below (LaterC.below (by repeat (first | exact ⟨_, rfl⟩ | refine LaterC.drew' ?_ | refine LaterC.alloc' ?_ _))))).mono ?_; rintro e w' ⟨rfl, hb⟩; rw [HR.out]; obtain ⟨v3, hv3⟩ := laterC_step (w1 := w1) (by repeat (first | exact ⟨_, rfl⟩ | refine LaterC.drew' ?_ | refine LaterC.alloc' ?_ _)) hb; subst hv3; clear hb))
    go_wp2
    go_ret
    exact ⟨rfl, v3.back HB.out⟩
  · rw [if_neg hc] at hR
    subst hR
    generalize hcm : codeN M = cm at *
    have HC := Lib.hid hcm
    have hne : (cm == 0) = false := by simpa using hc
    clear hcm hc
    refine wp_region_later (w0 := w1) (by kernel_rfl) (by kernel_rfl) (LaterC.refl _) ?_
    repeat (go_big_quiet_step ((go_at_call 50; exact Calls.later_eq (ModelCode'_calls _ M _ (HM1.out.later _) HNM.out HW1.out HW2.out) (congrArg (Value.int .i64) HC.out))))
    refine wpQuiet_nil ?_
    rintro _ ⟨u1, rfl⟩
    go_wp2
    go_ret
    exact ⟨rfl, u1.back HB.out⟩
set_option maxHeartbeats 2000000 in
set_option maxRecDepth 8000 in
theorem InputFits_calls (mv lv : Value) (M : Md) (L : List (List Int)) (w : World) (hM : MdAt w mv M) (hL : VlAt w lv L) (hsz : M.nodes.length ≤ 1048576) (hnm : ∀ x, x ∈ M.nodes → x.name.size ≤ 140737488351232) :
    Makes Tryz.prog 13 #[mv, lv] w (.bool (fitsK 35 M L)) := by
  have HM := Lib.hid hM
  have HNM := Lib.hid hnm
  have HSZ := Lib.hid hsz
  have HL := Lib.hid hL
  have HIN := Lib.hid (placesN_InN 35 M.nodes)
  obtain ⟨s0, s1, s2, s3, s4, rfl, -⟩ := hM.at_
  clear hM hnm hsz hL
  generalize hR : fitsK 35 M L = R
  unfold fitsK at hR
  go_enter Tryz.func13, Tryz.ntmps13
  have HB := Lib.hid (box_below w #[s0, s1, s2, s3, s4] 34)
  have m0 := box_cell w #[s0, s1, s2, s3, s4] 34 0 _ rfl
  have m1 := box_cell w #[s0, s1, s2, s3, s4] 34 1 _ rfl
  have m2 := box_cell w #[s0, s1, s2, s3, s4] 34 2 _ rfl
  have m3 := box_cell w #[s0, s1, s2, s3, s4] 34 3 _ rfl
  have m4 := box_cell w #[s0, s1, s2, s3, s4] 34 4 _ rfl
  go_upto_region 1 with fail
  generalize w.alloc (.cells #[s0, s1, s2, s3, s4] 34) = w1 at *
  have m0 : ∀ u : Later w1, u.val.cell? ⟨w.heap.size, 0, none⟩ = some s0 := m0
  have m1 : ∀ u : Later w1, u.val.cell? ⟨w.heap.size, 1, none⟩ = some s1 := m1
  have m2 : ∀ u : Later w1, u.val.cell? ⟨w.heap.size, 2, none⟩ = some s2 := m2
  have m3 : ∀ u : Later w1, u.val.cell? ⟨w.heap.size, 3, none⟩ = some s3 := m3
  have m4 : ∀ u : Later w1, u.val.cell? ⟨w.heap.size, 4, none⟩ = some s4 := m4
  have HM1 := Lib.hid (HM.out.below HB.out)
  have HL1 := Lib.hid (HL.out.below HB.out)
  by_cases hc : codeN M = 0
  · rw [if_pos hc] at hR
    have HC := Lib.hid hc
    have HR := Lib.hid hR
    clear hc hR
    have HQL := Lib.hid (show ∀ w', LaterC w1 w' → w'.cell? ⟨w.heap.size, 0, none⟩ = some s0 ∧ w'.cell? ⟨w.heap.size, 1, none⟩ = some s1 ∧ w'.cell? ⟨w.heap.size, 2, none⟩ = some s2 ∧ w'.cell? ⟨w.heap.size, 3, none⟩ = some s3 ∧ w'.cell? ⟨w.heap.size, 4, none⟩ = some s4 from fun W h => by
      obtain ⟨v, rfl⟩ := h
      exact ⟨m0 v, m1 v, m2 v, m3 v, m4 v⟩)
    refine at_world (w := w1) ?_
    intro u0
    go_region_held3 (fun w' => w'.cell? ⟨w.heap.size, 0, none⟩ = some s0 ∧ w'.cell? ⟨w.heap.size, 1, none⟩ = some s1 ∧ w'.cell? ⟨w.heap.size, 2, none⟩ = some s2 ∧ w'.cell? ⟨w.heap.size, 3, none⟩ = some s3 ∧ w'.cell? ⟨w.heap.size, 4, none⟩ = some s4) ((refine HQL.out _ ?_; repeat (first | exact ⟨_, rfl⟩ | refine LaterC.drew' ?_ | refine LaterC.alloc' ?_ _))) (first | (go_at_call 43; refine (ModelCode_calls _ M _ (HM1.out.below (LaterC.below (by repeat (first | exact ⟨_, rfl⟩ | refine LaterC.drew' ?_ | refine LaterC.alloc' ?_ _)))) HNM.out).mono ?_; rintro e w' ⟨rfl, hb⟩; rw [HC.out]; obtain ⟨v1, hv1⟩ := laterC_step (w1 := w1) (by repeat (first | exact ⟨_, rfl⟩ | refine LaterC.drew' ?_ | refine LaterC.alloc' ?_ _)) hb; subst hv1; clear hb) | (go_at_call 45; refine (l2Places_calls _ M 35 _ (HM1.out.below (LaterC.below (by repeat (first | exact ⟨_, rfl⟩ | refine LaterC.drew' ?_ | refine LaterC.alloc' ?_ _)))) HSZ.out).mono ?_; rintro e w' ⟨pv, rfl, hb, hown⟩; have HOWN := Lib.hid (places_slN hown HSZ.out); obtain ⟨v2, hv2⟩ := laterC_step (w1 := w1) (by repeat (first | exact ⟨_, rfl⟩ | refine LaterC.drew' ?_ | refine LaterC.alloc' ?_ _)) hb; subst hv2; clear hb hown) | (go_at_call 44; refine (l4Fits_calls _ pv _ M _ L _ (HM1.out.below (LaterC.below (by repeat (first | exact ⟨_, rfl⟩ | refine LaterC.drew' ?_ | refine LaterC.alloc' ?_ _)))) (HOWN.out.below (by first | exact Below.refl _ _ | exact (Below.refl _ _).drew)) HIN.out (HL1.out.below (LaterC.below (by repeat (first | exact ⟨_, rfl⟩ | refine LaterC.drew' ?_ | refine LaterC.alloc' ?_ _))))).mono ?_; rintro e w' ⟨rfl, hb⟩; rw [HR.out]; obtain ⟨v3, hv3⟩ := laterC_step (w1 := w1) (by repeat (first | exact ⟨_, rfl⟩ | refine LaterC.drew' ?_ | refine LaterC.alloc' ?_ _)) hb; subst hv3; clear hb))
    go_wp2
    go_ret
    exact ⟨rfl, v3.back HB.out⟩
  · rw [if_neg hc] at hR
    subst hR
    generalize hcm : codeN M = cm at *
    have HC := Lib.hid hcm
    have hne : (cm == 0) = false := by simpa using hc
    clear hcm hc
    refine wp_region_later (w0 := w1) (by kernel_rfl) (by kernel_rfl) (LaterC.refl _) ?_
    repeat (go_big_quiet_step ((go_at_call 43; exact Calls.later_eq (ModelCode_calls _ M _ (HM1.out.later _) HNM.out) (congrArg (Value.int .i64) HC.out))))
    refine wpQuiet_nil ?_
    rintro _ ⟨u1, rfl⟩
    go_wp2
    go_ret
    exact ⟨rfl, u1.back HB.out⟩
set_option maxHeartbeats 2000000 in
set_option maxRecDepth 8000 in
theorem InputFits'_calls (mv lv : Value) (M : Md) (L : List (List Int)) (w : World) (hM : MdAt w mv M) (hL : VlAt w lv L) (hsz : M.nodes.length ≤ 1048576) (hnm : ∀ x, x ∈ M.nodes → x.name.size ≤ 140737488351232) (hw1 : ∀ b, b ∈ M.inits → (Lit.int .i64 b.st).wf = true) (hw2 : ∀ b, b ∈ M.nexts → (Lit.int .i64 b.st).wf = true) :
    Makes Tryz.prog 16 #[mv, lv] w (.bool (fitsK 35 M L)) := by
  have HM := Lib.hid hM
  have HNM := Lib.hid hnm
  have HSZ := Lib.hid hsz
  have HL := Lib.hid hL
  have HW1 := Lib.hid hw1
  have HW2 := Lib.hid hw2
  clear hw1 hw2
  have HIN := Lib.hid (placesN_InN 35 M.nodes)
  obtain ⟨s0, s1, s2, s3, s4, rfl, -⟩ := hM.at_
  clear hM hnm hsz hL
  generalize hR : fitsK 35 M L = R
  unfold fitsK at hR
  go_enter Tryz.func16, Tryz.ntmps16
  have HB := Lib.hid (box_below w #[s0, s1, s2, s3, s4] 34)
  have m0 := box_cell w #[s0, s1, s2, s3, s4] 34 0 _ rfl
  have m1 := box_cell w #[s0, s1, s2, s3, s4] 34 1 _ rfl
  have m2 := box_cell w #[s0, s1, s2, s3, s4] 34 2 _ rfl
  have m3 := box_cell w #[s0, s1, s2, s3, s4] 34 3 _ rfl
  have m4 := box_cell w #[s0, s1, s2, s3, s4] 34 4 _ rfl
  go_upto_region 1 with fail
  generalize w.alloc (.cells #[s0, s1, s2, s3, s4] 34) = w1 at *
  have m0 : ∀ u : Later w1, u.val.cell? ⟨w.heap.size, 0, none⟩ = some s0 := m0
  have m1 : ∀ u : Later w1, u.val.cell? ⟨w.heap.size, 1, none⟩ = some s1 := m1
  have m2 : ∀ u : Later w1, u.val.cell? ⟨w.heap.size, 2, none⟩ = some s2 := m2
  have m3 : ∀ u : Later w1, u.val.cell? ⟨w.heap.size, 3, none⟩ = some s3 := m3
  have m4 : ∀ u : Later w1, u.val.cell? ⟨w.heap.size, 4, none⟩ = some s4 := m4
  have HM1 := Lib.hid (HM.out.below HB.out)
  have HL1 := Lib.hid (HL.out.below HB.out)
  by_cases hc : codeN M = 0
  · rw [if_pos hc] at hR
    have HC := Lib.hid hc
    have HR := Lib.hid hR
    clear hc hR
    have HQL := Lib.hid (show ∀ w', LaterC w1 w' → w'.cell? ⟨w.heap.size, 0, none⟩ = some s0 ∧ w'.cell? ⟨w.heap.size, 1, none⟩ = some s1 ∧ w'.cell? ⟨w.heap.size, 2, none⟩ = some s2 ∧ w'.cell? ⟨w.heap.size, 3, none⟩ = some s3 ∧ w'.cell? ⟨w.heap.size, 4, none⟩ = some s4 from fun W h => by
      obtain ⟨v, rfl⟩ := h
      exact ⟨m0 v, m1 v, m2 v, m3 v, m4 v⟩)
    refine at_world (w := w1) ?_
    intro u0
    go_region_held3 (fun w' => w'.cell? ⟨w.heap.size, 0, none⟩ = some s0 ∧ w'.cell? ⟨w.heap.size, 1, none⟩ = some s1 ∧ w'.cell? ⟨w.heap.size, 2, none⟩ = some s2 ∧ w'.cell? ⟨w.heap.size, 3, none⟩ = some s3 ∧ w'.cell? ⟨w.heap.size, 4, none⟩ = some s4) ((refine HQL.out _ ?_; repeat (first | exact ⟨_, rfl⟩ | refine LaterC.drew' ?_ | refine LaterC.alloc' ?_ _))) (first | (go_at_call 50; refine (ModelCode'_calls _ M _ (HM1.out.below (LaterC.below (by repeat (first | exact ⟨_, rfl⟩ | refine LaterC.drew' ?_ | refine LaterC.alloc' ?_ _)))) HNM.out HW1.out HW2.out).mono ?_; rintro e w' ⟨rfl, hb⟩; rw [HC.out]; obtain ⟨v1, hv1⟩ := laterC_step (w1 := w1) (by repeat (first | exact ⟨_, rfl⟩ | refine LaterC.drew' ?_ | refine LaterC.alloc' ?_ _)) hb; subst hv1; clear hb) | (go_at_call 52; refine (places_calls _ M 35 _ (HM1.out.below (LaterC.below (by repeat (first | exact ⟨_, rfl⟩ | refine LaterC.drew' ?_ | refine LaterC.alloc' ?_ _)))) HSZ.out).mono ?_; rintro e w' ⟨pv, rfl, hb, hown⟩; have HOWN := Lib.hid (places_slN hown HSZ.out); obtain ⟨v2, hv2⟩ := laterC_step (w1 := w1) (by repeat (first | exact ⟨_, rfl⟩ | refine LaterC.drew' ?_ | refine LaterC.alloc' ?_ _)) hb; subst hv2; clear hb hown) | (go_at_call 51; refine (fits_calls _ pv _ M _ L _ (HM1.out.below (LaterC.below (by repeat (first | exact ⟨_, rfl⟩ | refine LaterC.drew' ?_ | refine LaterC.alloc' ?_ _)))) (HOWN.out.below (by first | exact Below.refl _ _ | exact (Below.refl _ _).drew)) HIN.out (HL1.out.below (LaterC.below (by repeat (first | exact ⟨_, rfl⟩ | refine LaterC.drew' ?_ | refine LaterC.alloc' ?_ _))))).mono ?_; rintro e w' ⟨rfl, hb⟩; rw [HR.out]; obtain ⟨v3, hv3⟩ := laterC_step (w1 := w1) (by repeat (first | exact ⟨_, rfl⟩ | refine LaterC.drew' ?_ | refine LaterC.alloc' ?_ _)) hb; subst hv3; clear hb))
    go_wp2
    go_ret
    exact ⟨rfl, v3.back HB.out⟩
  · rw [if_neg hc] at hR
    subst hR
    generalize hcm : codeN M = cm at *
    have HC := Lib.hid hcm
    have hne : (cm == 0) = false := by simpa using hc
    clear hcm hc
    refine wp_region_later (w0 := w1) (by kernel_rfl) (by kernel_rfl) (LaterC.refl _) ?_
    repeat (go_big_quiet_step ((go_at_call 50; exact Calls.later_eq (ModelCode'_calls _ M _ (HM1.out.later _) HNM.out HW1.out HW2.out) (congrArg (Value.int .i64) HC.out))))
    refine wpQuiet_nil ?_
    rintro _ ⟨u1, rfl⟩
    go_wp2
    go_ret
    exact ⟨rfl, u1.back HB.out⟩
end Go.Proofs.YteboalbpgghdhaaGreat
namespace Go.Proofs.YteboalbpgghdhaaGreat
open Go.RowKit
/-! Values as numbers: plain mathematics. -/
abbrev ndAt (ns : List Nd) (ps : List Int) (i : Nat) : Nd := ns.getD (ps.getD i 0).toNat Nd.zero
/-- The bits of the first places. -/
def bitsTo (ns : List Nd) (ps : List Int) : Nat → Int
  | 0 => 0
  | i + 1 => bitsTo ns ps i + bitsN (ndAt ns ps i).idx (ndAt ns ps i).wid
theorem bitsTo_mono (ns : List Nd) (ps : List Int) (i : Nat) : ∀ d, 0 ≤ bitsTo ns ps i ∧ bitsTo ns ps i ≤ bitsTo ns ps (i + d) := by
  have h0 : ∀ i, 0 ≤ bitsTo ns ps i := fun i => by
    induction i with
    | zero => exact Int.le_refl _
    | succ i ih => have := bitsN_bd (ndAt ns ps i).idx (ndAt ns ps i).wid; unfold bitsTo; omega
  intro d
  refine ⟨h0 i, ?_⟩
  induction d with
  | zero => exact Int.le_refl _
  | succ d ih => have := bitsN_bd (ndAt ns ps (i + d)).idx (ndAt ns ps (i + d)).wid; rw [← Nat.add_assoc, bitsTo]; omega
/-- One cell more. -/
def stP (w : Int) (s : Int × Int) (v : Int) : Int × Int := (s.1 + v * 2 ^ s.2.toNat, s.2 + w)
def rowS (w : Int) (xs : List Int) (k : Nat) (s : Int × Int) : Int × Int := (xs.take k).foldl (stP w) s
theorem rowS_succ {w : Int} {xs : List Int} {k : Nat} {s : Int × Int} (hk : k < xs.length) : rowS w xs (k + 1) s = stP w (rowS w xs k s) (xs.getD k 0) := by
  unfold rowS
  rw [List.take_add_one, getD_at hk 0, List.foldl_append]
  rfl
def packS (ns : List Nd) (ps : List Int) (L : List (List Int)) : Nat → Int × Int
  | 0 => (0, 0)
  | i + 1 => rowS (ndAt ns ps i).wid (L.getD i []) (L.getD i []).length (packS ns ps L i)
theorem wokB_yes {w v : Int} (h : wokB w v = true) : 1 ≤ w ∧ w ≤ 16 ∧ 0 ≤ v ∧ v < 2 ^ w.toNat := by
  unfold wokB widB at h
  rw [Bool.and_eq_true] at h
  have h1 := of_inB h.1
  have h2 := of_inB h.2
  omega
theorem val_parts {i a : Int} {xs : List Int} (h : valN i a xs = true) : (xs.length : Int) = cellsN i a ∧ ∀ k, k < xs.length → wokB a (xs.getD k 0) = true := by
  unfold valN at h
  rw [Bool.and_eq_true] at h
  refine ⟨by simpa using h.1, fun k hk => ?_⟩
  exact List.all_eq_true.1 h.2 _ (List.mem_of_getElem? (getD_at hk 0))
theorem cells_bits (i a : Int) : cellsN i a * a = bitsN i a ∧ (0 < cellsN i a → sokB i a = true) ∧ 0 ≤ cellsN i a ∧ cellsN i a ≤ 4 := by
  by_cases h : sokB i a = true
  · have h1 := bitsN_yes h
    have h2 := sokB_yes h
    have h3 := pw2 h2.1 h2.2.1
    have h4 : cellsN i a = 2 ^ i.toNat := by unfold cellsN; rw [if_pos h]
    refine ⟨h1.1.symm, fun _ => h, ?_, ?_⟩ <;> omega
  · have h1 := bitsN_no (eq_false_of_ne_true h)
    rw [h1.1, h1.2]
    exact ⟨by simp, fun h => by omega, by omega, by omega⟩
theorem fits_parts {ns : List Nd} {ps : List Int} {L : List (List Int)} (h : fitsB ns ps L = true) : L.length = ps.length ∧ ∀ i, i < L.length → valB (ndAt ns ps i) (L.getD i []) = true := by
  unfold fitsB at h
  rw [Bool.and_eq_true, List.all_eq_true] at h
  exact ⟨by simpa using h.1, fun i hi => h.2 i (by simpa using hi)⟩
/-- A state of the reckoning. -/
def Ok8 (s : Int × Int) : Prop := 0 ≤ s.2 ∧ 0 ≤ s.1 ∧ s.1 < 2 ^ s.2.toNat
theorem pow_add_i (a b : Int) (ha : 0 ≤ a) (hb : 0 ≤ b) : (2 : Int) ^ (a + b).toNat = 2 ^ a.toNat * 2 ^ b.toNat := by
  rw [Int.toNat_add ha hb, Int.pow_add]
theorem pow_pos_i (a : Int) : (1 : Int) ≤ 2 ^ a.toNat := by
  have : (0 : Int) < 2 ^ a.toNat := Int.pow_pos (by decide)
  omega
theorem pow_le_i {a : Int} (h0 : 0 ≤ a) (h : a ≤ 8) : (2 : Int) ^ a.toNat ≤ 256 := by
  have h1 := Nat.pow_le_pow_right (n := 2) (by omega) (show a.toNat ≤ 8 by omega)
  have h' : ((2 ^ a.toNat : Nat) : Int) ≤ ((2 ^ 8 : Nat) : Int) := Int.ofNat_le.2 h1
  simpa using h'
theorem st_ok {w v : Int} {s : Int × Int} (h : Ok8 s) (hw : 1 ≤ w) (h0 : 0 ≤ v) (h1 : v < 2 ^ w.toNat) : Ok8 (stP w s v) := by
  obtain ⟨ha, hb, hc⟩ := h
  have hp := pow_pos_i s.2
  refine ⟨by simp only [stP]; omega, ?_, ?_⟩
  · simp only [stP]
    have : 0 ≤ v * 2 ^ s.2.toNat := Int.mul_nonneg h0 (by omega)
    omega
  · simp only [stP]
    rw [pow_add_i _ _ ha (by omega), Int.mul_comm (2 ^ s.2.toNat)]
    have : (v + 1) * 2 ^ s.2.toNat ≤ 2 ^ w.toNat * 2 ^ s.2.toNat := Int.mul_le_mul_of_nonneg_right (by omega) (by omega)
    rw [Int.add_mul, Int.one_mul] at this
    omega
theorem row_ok {w i : Int} {xs : List Int} {s : Int × Int} (hv : valN i w xs = true) (hs : Ok8 s) : ∀ k, k ≤ xs.length → Ok8 (rowS w xs k s) ∧ (rowS w xs k s).2 = s.2 + k * w
  | 0, _ => by
    unfold rowS
    simpa using hs
  | k + 1, hk => by
    obtain ⟨h1, h2⟩ := row_ok hv hs k (by omega)
    have h3 := wokB_yes ((val_parts hv).2 k (by omega))
    rw [rowS_succ (by omega)]
    refine ⟨st_ok h1 h3.1 h3.2.2.1 h3.2.2.2, ?_⟩
    simp only [stP]
    rw [h2]
    push_cast
    rw [Int.add_mul]
    omega
theorem pack_ok {ns : List Nd} {ps : List Int} {L : List (List Int)} (h : fitsB ns ps L = true) : ∀ i, i ≤ L.length → Ok8 (packS ns ps L i) ∧ (packS ns ps L i).2 = bitsTo ns ps i
  | 0, _ => ⟨⟨Int.le_refl _, Int.le_refl _, by show (0 : Int) < 2 ^ (0 : Int).toNat; decide⟩, rfl⟩
  | i + 1, hi => by
    obtain ⟨h1, h2⟩ := pack_ok h i (by omega)
    have hv := (fits_parts h).2 i (by omega)
    obtain ⟨h3, h4⟩ := row_ok hv h1 _ (Nat.le_refl _)
    refine ⟨h3, ?_⟩
    unfold packS bitsTo
    rw [h4, h2, (val_parts hv).1, (cells_bits _ _).1]
/-- What a walk asks at each cell. -/
def CellOk (w : Int) (s : Int × Int) (v : Int) : Prop := 0 ≤ s.2 ∧ s.2 + w ≤ 8 ∧ 1 ≤ w ∧ 0 ≤ s.1 ∧ s.1 < 2 ^ s.2.toNat ∧ 0 ≤ v ∧ v < 2 ^ w.toNat ∧ s.1 + v * 2 ^ s.2.toNat < 256
theorem pack_cell {ns : List Nd} {ps : List Int} {L : List (List Int)} (h : fitsB ns ps L = true) (h8 : bitsTo ns ps L.length ≤ 8) (i k : Nat) (hi : i < L.length) (hk : k < (L.getD i []).length) :
    CellOk (ndAt ns ps i).wid (rowS (ndAt ns ps i).wid (L.getD i []) k (packS ns ps L i)) ((L.getD i []).getD k 0) := by
  have hv := (fits_parts h).2 i hi
  obtain ⟨h1, h2⟩ := pack_ok h i (by omega)
  obtain ⟨⟨h3, h4, h5⟩, h6⟩ := row_ok hv h1 k (by omega)
  have h7 := wokB_yes ((val_parts hv).2 k hk)
  have hlen := (val_parts hv).1
  have hb := (cells_bits (ndAt ns ps i).idx (ndAt ns ps i).wid).1
  have hm := (bitsTo_mono ns ps (i + 1) (L.length - (i + 1))).2
  rw [show i + 1 + (L.length - (i + 1)) = L.length by omega, bitsTo, ← hb, ← hlen] at hm
  have hk1 : ((k : Int) + 1) * (ndAt ns ps i).wid ≤ ((L.getD i []).length : Int) * (ndAt ns ps i).wid := Int.mul_le_mul_of_nonneg_right (by omega) (by omega)
  rw [Int.add_mul, Int.one_mul] at hk1
  have hs8 : (rowS (ndAt ns ps i).wid (L.getD i []) k (packS ns ps L i)).2 + (ndAt ns ps i).wid ≤ 8 := by
    rw [h6, h2]
    omega
  have hst := st_ok (w := (ndAt ns ps i).wid) ⟨h3, h4, h5⟩ h7.1 h7.2.2.1 h7.2.2.2
  generalize rowS (ndAt ns ps i).wid (L.getD i []) k (packS ns ps L i) = s at *
  generalize (ndAt ns ps i).wid = w at *
  have h256 : (2 : Int) ^ (s.2 + w).toNat ≤ 256 := by
    have : (s.2 + w).toNat ≤ 8 := by omega
    have h := Nat.pow_le_pow_right (n := 2) (by omega) this
    have h' : ((2 ^ (s.2 + w).toNat : Nat) : Int) ≤ ((2 ^ 8 : Nat) : Int) := Int.ofNat_le.2 h
    simpa using h'
  exact ⟨h3, hs8, h7.1, h4, h5, h7.2.2.1, h7.2.2.2, Int.lt_of_lt_of_le hst.2.2 h256⟩
/-- All bits of a kind. -/
theorem bits_app (ns : List Nd) (ps qs : List Int) : ∀ i, i ≤ ps.length → bitsTo ns (ps ++ qs) i = bitsTo ns ps i
  | 0, _ => rfl
  | i + 1, hi => by
    have e : ndAt ns (ps ++ qs) i = ndAt ns ps i := by
      unfold ndAt
      rw [show (ps ++ qs).getD i 0 = ps.getD i 0 by rw [List.getD_eq_getElem?_getD, List.getElem?_append_left (by omega), ← List.getD_eq_getElem?_getD]]
    rw [bitsTo, bitsTo, bits_app ns ps qs i (by omega), e]
theorem bits_places (kind : Int) (ns : List Nd) : ∀ k, k ≤ ns.length → bitsTo ns (placesN kind ns k) (placesN kind ns k).length = allN kind (ns.take k)
  | 0, _ => by simp [placesN, bitsTo, allN]
  | k + 1, hk => by
    have ih := bits_places kind ns k (by omega)
    rw [allN_step (by omega), ← ih]
    by_cases h : ((ns.getD k Nd.zero).kind == kind) = true
    · rw [placesN_yes h, List.length_append, List.length_singleton, bitsTo, bits_app _ _ _ _ (Nat.le_refl _)]
      have e : ndAt ns (placesN kind ns k ++ [(k : Int)]) (placesN kind ns k).length = ns.getD k Nd.zero := by
        unfold ndAt
        rw [show (placesN kind ns k ++ [(k : Int)]).getD (placesN kind ns k).length 0 = (k : Int) by rw [List.getD_eq_getElem?_getD, List.getElem?_append_right (Nat.le_refl _), Nat.sub_self]; rfl]
        rfl
      rw [e]
      unfold bitsIf
      rw [if_pos (by simpa using h)]
    · have h := eq_false_of_ne_true h
      rw [placesN_no h]
      unfold bitsIf
      rw [if_neg (by simpa using h)]
      omega
theorem bits_all (kind : Int) (ns : List Nd) : bitsTo ns (placesN kind ns ns.length) (placesN kind ns ns.length).length = allN kind ns := by
  rw [bits_places kind ns _ (Nat.le_refl _), List.take_length]
end Go.Proofs.YteboalbpgghdhaaGreat
namespace Go.Proofs.YteboalbpgghdhaaGreat
open Go.RowKit
/-! Bits: a mask is a rest, an or of parts that do not meet is a sum. -/
theorem two_pow_pos (i : Nat) : (0 : Int) < 2 ^ i := Int.pow_pos (by decide)
theorem two_pow_le {i j : Nat} (h : i ≤ j) : (2 : Int) ^ i ≤ 2 ^ j := by
  have := Nat.pow_le_pow_right (n := 2) (by decide) h
  exact_mod_cast this
theorem wrap_i64_id {x : Int} (h0 : -9223372036854775808 ≤ x) (h1 : x ≤ 9223372036854775807) : IntKind.i64.wrap x = x := by
  rw [IntKind.wrap_i64]; omega
theorem wrap_u64_id {x : Int} (h0 : 0 ≤ x) (h1 : x ≤ 18446744073709551615) : IntKind.u64.wrap x = x := by
  simp [IntKind.wrap, IntKind.bits, IntKind.signed]; omega
theorem and_mask (x : Int) (i : Nat) (hi : i ≤ 62) : Go.bits .and .i64 x (2 ^ i - 1) = x % 2 ^ i := by
  have hpos : 0 < 2 ^ i := Nat.two_pow_pos i
  have hle : 2 ^ i ≤ 2 ^ 62 := Nat.pow_le_pow_right (by decide) hi
  have hc : ((2 : Int) ^ i - 1) = ((2 ^ i - 1 : Nat) : Int) := by
    rw [Int.natCast_sub hpos]; simp
  have e : (BitVec.ofInt 64 x &&& BitVec.ofInt 64 (2 ^ i - 1)).toNat = (x % 2 ^ i).toNat := by
    rw [hc, BitVec.ofInt_natCast, BitVec.toNat_and, BitVec.toNat_ofNat, BitVec.toNat_ofInt]
    rw [Nat.mod_eq_of_lt (a := 2 ^ i - 1) (by omega), Nat.and_two_pow_sub_one_eq_mod]
    have hdvd : (2 : Int) ^ i ∣ 2 ^ 64 := ⟨2 ^ (64 - i), by rw [← Int.pow_add]; congr 1; omega⟩
    have h1 : (x % (2 ^ 64 : Int)) % 2 ^ i = x % 2 ^ i := Int.emod_emod_of_dvd x hdvd
    have h64 : (0 : Int) ≤ x % 2 ^ 64 := Int.emod_nonneg _ (by decide)
    have h2 : (0 : Int) ≤ x % 2 ^ i := Int.emod_nonneg _ (by have := two_pow_pos i; omega)
    have h3 : (((x % ((2 ^ 64 : Nat) : Int)).toNat % 2 ^ i : Nat) : Int) = x % 2 ^ i := by
      rw [Int.natCast_emod]
      have : ((2 ^ 64 : Nat) : Int) = 2 ^ 64 := by simp
      rw [this, Int.toNat_of_nonneg h64]
      push_cast
      exact h1
    omega
  have h2 : (0 : Int) ≤ x % 2 ^ i := Int.emod_nonneg _ (by have := two_pow_pos i; omega)
  have h3 : x % 2 ^ i < 2 ^ i := Int.emod_lt_of_pos _ (two_pow_pos i)
  have h4 : (2 : Int) ^ i ≤ 2 ^ 62 := two_pow_le hi
  show IntKind.i64.wrap ((BitVec.ofInt 64 x &&& BitVec.ofInt 64 (2 ^ i - 1)).toNat : Int) = _
  rw [e, Int.toNat_of_nonneg h2]
  exact wrap_i64_id (by omega) (by omega)
theorem bits_or_nat (a b : Nat) (ha : a < 2 ^ 62) (hb : b < 2 ^ 62) : Go.bits .or .i64 a b = ((a ||| b : Nat) : Int) :=
  (bits_nat .i64 62 (by decide) (fun n h0 h1 => wrap_i64_id (by omega) (by omega)) a b ha hb).2
theorem or_shift {c y a : Int} (h4 : 0 ≤ c) (h5 : c < 2 ^ a.toNat) (h6 : 0 ≤ y) (h9 : c + y * 2 ^ a.toNat < 256) : Go.bits .or .i64 c (y * 2 ^ a.toNat) = c + y * 2 ^ a.toNat := by
  obtain ⟨C, rfl⟩ := Int.eq_ofNat_of_zero_le h4
  obtain ⟨Y, rfl⟩ := Int.eq_ofNat_of_zero_le h6
  generalize a.toNat = n at *
  have hp : ((2 ^ n : Nat) : Int) = 2 ^ n := by simp
  rw [← hp] at h5 h9 ⊢
  rw [← Int.natCast_mul] at h9 ⊢
  have hc : C < 2 ^ n := by omega
  rw [bits_or_nat C (Y * 2 ^ n) (by omega) (by omega), Nat.or_comm, Nat.mul_comm, ← Nat.two_pow_add_eq_or_of_lt hc]
  push_cast
  omega
end Go.Proofs.YteboalbpgghdhaaGreat
namespace Go.Proofs.YteboalbpgghdhaaGreat
open Go.RowKit
/-! Values as a number: both walks. -/
theorem pow_le_w {a : Int} (h0 : 0 ≤ a) (h : a ≤ 16) : (2 : Int) ^ a.toNat ≤ 65536 := (pw_le h0 h).2
set_option maxHeartbeats 2000000 in
set_option maxRecDepth 8000 in
theorem l5Pack_calls (mv pv lv : Value) (M : Md) (ps : List Int) (L : List (List Int)) (w : World) (hM : MdAt w mv M) (hP : SlN enI w pv ps) (hI : InN ps M.nodes.length) (hL : VlAt w lv L) (hF : fitsB M.nodes ps L = true) (h8 : bitsTo M.nodes ps L.length ≤ 8) :
    Makes Tryz.prog 56 #[mv, pv, lv] w (.int .i64 (packS M.nodes ps L L.length).1) := by
  obtain ⟨s0, s1, s2, s3, s4, rfl, hS, -, -, -, -⟩ := hM.at_
  obtain ⟨A, c, rfl, hnc, hc', hA⟩ := hS
  obtain ⟨B, d, rfl, -, hd', hB⟩ := hP
  obtain ⟨D, e, rfl, -, he', hD⟩ := hL
  clear hM
  have HPC := Lib.hid (pack_cell hF h8)
  have HTQ := Lib.hid (fits_parts hF).1
  have HI := Lib.hid hI
  generalize hN : M.nodes.length = n at *
  have HN := Lib.hid hN
  generalize hT : L.length = t at *
  have HT := Lib.hid hT
  have HQ := Lib.hid (show ps.length = t by rw [← HTQ.out])
  rw [HQ.out] at hd' ⊢
  have hn : n ≤ 281474976710656 := Nat.le_trans hnc hc'
  clear hN hT hI hnc hc' hF h8 HTQ
  go_enter Tryz.func56, Tryz.ntmps56
  go_wp2
  generalize hw1 : w.alloc (Obj.cells #[.slice A n c, s1, s2, s3, s4] 34) = w1
  have hb0 : ∀ u : Later w1, u.val.cell? ⟨w.heap.size, 0, none⟩ = some (.slice A n c) := Later.cell (by rw [← hw1]; simp)
  have HB := Lib.hid (show Below w.heap.size w w1 by rw [← hw1]; exact (Below.refl _ _).alloc (Nat.le_refl _) _)
  clear hw1
  go_loopw [7, 8, 9] (fun cc aa i wr => ∃ (k : Nat) (cv av : Int), k ≤ t ∧ i = .int .i64 k ∧ cc = .int .i64 cv ∧ aa = .int .i64 av ∧ Hid (packS M.nodes ps L k = (cv, av)) ∧ LaterC w1 wr) (fun _ _ i _ => t - (intOf i).toNat)
  case atStart => exact ⟨0, 0, 0, Nat.zero_le _, rfl, rfl, rfl, Lib.hid rfl, LaterC.refl _⟩
  case round =>
    obtain ⟨k, cv, av, hk, rfl, rfl, rfl, HS, ⟨u, rfl⟩⟩ := hrel
    by_cases hlt : k < t
    · have hlt' : (k : Int) < t := by omega
      have hgp := getD_at (show k < ps.length by rw [HQ.out]; exact hlt) 0
      obtain ⟨p, hp, hpn⟩ := HI.out k _ hgp
      obtain ⟨bp, op, rfl, hpx⟩ := hB k _ hgp
      have hgl := getD_at (show k < L.length by rw [HT.out]; exact hlt) []
      obtain ⟨bl, ol, sv, rfl, hlc, hls⟩ := hD k _ hgl
      have hgn := getD_at (show p < M.nodes.length by rw [HN.out]; exact hpn) Nd.zero
      obtain ⟨bn, on, rfl, hnx⟩ := hA p _ hgn
      have HPK := Lib.hid (fun j (hj : j < (L.getD k []).length) => HPC.out k j hlt hj)
      have HST := Lib.hid (show packS M.nodes ps L (k + 1) = rowS (ndAt M.nodes ps k).wid (L.getD k []) (L.getD k []).length (packS M.nodes ps L k) from rfl)
      have hnd : ndAt M.nodes ps k = M.nodes.getD p Nd.zero := by unfold ndAt; rw [hp]; rfl
      rw [hnd, HS.out] at HPK HST
      rw [hp] at hpx
      clear hnd
      generalize M.nodes.getD p Nd.zero = x at *
      generalize L.getD k [] = xs at *
      have p0 : ∀ l : Later w1, l.val.cell? ⟨bp, op + k, none⟩ = some (.int .i64 (p : Int)) := hpx.int HB.out
      have q0 : ∀ l : Later w1, l.val.cell? ⟨bl, ol + k, none⟩ = some sv := back_cell hlc HB.out
      have p7 : ∀ l : Later w1, l.val.cell? ⟨bn, on + p * 9 + 7, none⟩ = some (.int .i64 x.wid) := hnx.at_ HB.out 7 _ rfl
      obtain ⟨As, cs, rfl, -, hm0, hAs⟩ := hls.below HB.out
      have HAS := Lib.hid (fun (j : Nat) y (hy : xs[j]? = some y) => (hAs j y hy : ∃ b o, As = some ⟨b, o, none⟩ ∧ CellsAt enI w1 b o j y))
      have HGX := Lib.hid (fun (j : Nat) (hj : j < xs.length) => getD_at hj (0 : Int))
      have HRS := Lib.hid (fun (j : Nat) (s : Int × Int) (hj : j < xs.length) => rowS_succ (w := x.wid) (s := s) hj)
      generalize hm : xs.length = m at *
      have HM := Lib.hid hm
      clear hm hgp hgl hgn hpx hnx hlc hls hp hA hB hD hAs
      generalize x.wid = ww at *
      go_wp2
      refine wp_region_later (w0 := w1) (by kernel_rfl) (by kernel_rfl) ⟨u, rfl⟩ ?_
      repeat (go_big_quiet_step (fail))
      refine wpQuiet_nil ?_
      rintro _ ⟨u1, rfl⟩
      go_wp2
      go_loopw [7, 8, 11] (fun cc aa j wr => ∃ (jj : Nat) (cj aj : Int), jj ≤ m ∧ j = .int .i64 jj ∧ cc = .int .i64 cj ∧ aa = .int .i64 aj ∧ Hid (rowS ww xs jj (cv, av) = (cj, aj)) ∧ LaterC w1 wr) (fun _ _ j _ => m - (intOf j).toNat)
      case atStart => exact ⟨0, cv, av, Nat.zero_le _, rfl, rfl, rfl, Lib.hid rfl, ⟨u1, rfl⟩⟩
      case round =>
        obtain ⟨j, cj, aj, hj, rfl, rfl, rfl, HR, ⟨v, rfl⟩⟩ := hrel
        by_cases hlt2 : j < m
        · have hlt2' : (j : Int) < m := by omega
          have hget2 := HGX.out j hlt2
          obtain ⟨bs, os, rfl, hcx⟩ := HAS.out j _ hget2
          have c0 : ∀ l : Later w1, l.val.cell? ⟨bs, os + j, none⟩ = some (.int .i64 (xs.getD j 0)) := hcx.int (Below.refl _ _)
          have hpk := HPK.out j hlt2
          have HR2 := Lib.hid (HRS.out j (cv, av) hlt2)
          rw [HR.out] at hpk HR2
          generalize xs.getD j 0 = y at *
          clear hcx hget2
          obtain ⟨h1, h2, h3, h4, h5, h6, h7, h9⟩ := hpk
          have hp1 := pow_pos_i aj
          have hpa : (2 : Int) ^ aj.toNat ≤ 256 := pow_le_i (by omega) (by omega)
          have hy0 : 0 ≤ y * 2 ^ aj.toNat := Int.mul_nonneg h6 (by omega)
          have hy1 : y ≤ 65535 := by have := pow_le_w (a := ww) (by omega) (by omega); omega
          dsimp only at h1 h2 h3 h4 h5 h6 h7 h9
          have HR3 := Lib.hid (show rowS ww xs (j + 1) (cv, av) = (cj + y * 2 ^ aj.toNat, aj + ww) from HR2.out)
          go_wp2
          go_roundw
          case rel => exact ⟨j + 1, cj + y * 2 ^ aj.toNat, aj + ww, by omega, by go_num, by go_num, by go_num, HR3, ⟨v, rfl⟩⟩
          case measure => simp [intOf] <;> omega
        · obtain rfl : j = m := by omega
          have HS2 := Lib.hid (show packS M.nodes ps L (k + 1) = (cj, aj) from HST.out.trans HR.out)
          go_wp2
          go_roundw
          case rel => exact ⟨k + 1, cj, aj, by omega, by go_num, rfl, rfl, HS2, ⟨v, rfl⟩⟩
          case measure => simp [intOf] <;> omega
    · obtain rfl : k = t := by omega
      clear hA hB hD
      go_wp2
      go_ret
      exact ⟨ret_eq (congrArg (Value.int .i64) (by rw [HS.out])), u.back HB.out⟩
set_option maxHeartbeats 2000000 in
set_option maxRecDepth 8000 in
theorem code_calls (mv pv lv : Value) (M : Md) (ps : List Int) (L : List (List Int)) (w : World) (hM : MdAt w mv M) (hP : SlN enI w pv ps) (hI : InN ps M.nodes.length) (hL : VlAt w lv L) (hF : fitsB M.nodes ps L = true) (h8 : bitsTo M.nodes ps L.length ≤ 8) :
    Makes Tryz.prog 57 #[mv, pv, lv] w (.int .i64 (packS M.nodes ps L L.length).1) := by
  obtain ⟨s0, s1, s2, s3, s4, rfl, hS, -, -, -, -⟩ := hM.at_
  obtain ⟨A, c, rfl, hnc, hc', hA⟩ := hS
  obtain ⟨B, d, rfl, -, hd', hB⟩ := hP
  obtain ⟨D, e, rfl, -, he', hD⟩ := hL
  clear hM
  have HPC := Lib.hid (pack_cell hF h8)
  have HTQ := Lib.hid (fits_parts hF).1
  have HI := Lib.hid hI
  generalize hN : M.nodes.length = n at *
  have HN := Lib.hid hN
  generalize hT : L.length = t at *
  have HT := Lib.hid hT
  have HQ := Lib.hid (show ps.length = t by rw [← HTQ.out])
  rw [HQ.out] at hd' ⊢
  have hn : n ≤ 281474976710656 := Nat.le_trans hnc hc'
  clear hN hT hI hnc hc' hF h8 HTQ
  go_enter Tryz.func57, Tryz.ntmps57
  go_wp2
  generalize hw1 : w.alloc (Obj.cells #[.slice A n c, s1, s2, s3, s4] 34) = w1
  have hb0 : ∀ u : Later w1, u.val.cell? ⟨w.heap.size, 0, none⟩ = some (.slice A n c) := Later.cell (by rw [← hw1]; simp)
  have HB := Lib.hid (show Below w.heap.size w w1 by rw [← hw1]; exact (Below.refl _ _).alloc (Nat.le_refl _) _)
  clear hw1
  go_loopw [7, 8, 15] (fun cc aa i wr => ∃ (k : Nat) (cv av : Int), k ≤ t ∧ i = .int .i64 k ∧ cc = .int .i64 cv ∧ aa = .int .i64 av ∧ Hid (packS M.nodes ps L k = (cv, av)) ∧ LaterC w1 wr) (fun _ _ i _ => t - (intOf i).toNat)
  case atStart => exact ⟨0, 0, 0, Nat.zero_le _, rfl, rfl, rfl, Lib.hid rfl, LaterC.refl _⟩
  case round =>
    obtain ⟨k, cv, av, hk, rfl, rfl, rfl, HS, ⟨u, rfl⟩⟩ := hrel
    by_cases hlt : k < t
    · have hlt' : (k : Int) < t := by omega
      have hgp := getD_at (show k < ps.length by rw [HQ.out]; exact hlt) 0
      obtain ⟨p, hp, hpn⟩ := HI.out k _ hgp
      obtain ⟨bp, op, rfl, hpx⟩ := hB k _ hgp
      have hgl := getD_at (show k < L.length by rw [HT.out]; exact hlt) []
      obtain ⟨bl, ol, sv, rfl, hlc, hls⟩ := hD k _ hgl
      have hgn := getD_at (show p < M.nodes.length by rw [HN.out]; exact hpn) Nd.zero
      obtain ⟨bn, on, rfl, hnx⟩ := hA p _ hgn
      have HPK := Lib.hid (fun j (hj : j < (L.getD k []).length) => HPC.out k j hlt hj)
      have HST := Lib.hid (show packS M.nodes ps L (k + 1) = rowS (ndAt M.nodes ps k).wid (L.getD k []) (L.getD k []).length (packS M.nodes ps L k) from rfl)
      have hnd : ndAt M.nodes ps k = M.nodes.getD p Nd.zero := by unfold ndAt; rw [hp]; rfl
      rw [hnd, HS.out] at HPK HST
      rw [hp] at hpx
      clear hnd
      generalize M.nodes.getD p Nd.zero = x at *
      generalize L.getD k [] = xs at *
      have p0 : ∀ l : Later w1, l.val.cell? ⟨bp, op + k, none⟩ = some (.int .i64 (p : Int)) := hpx.int HB.out
      have q0 : ∀ l : Later w1, l.val.cell? ⟨bl, ol + k, none⟩ = some sv := back_cell hlc HB.out
      have p7 : ∀ l : Later w1, l.val.cell? ⟨bn, on + p * 9 + 7, none⟩ = some (.int .i64 x.wid) := hnx.at_ HB.out 7 _ rfl
      obtain ⟨As, cs, rfl, -, hm0, hAs⟩ := hls.below HB.out
      have HAS := Lib.hid (fun (j : Nat) y (hy : xs[j]? = some y) => (hAs j y hy : ∃ b o, As = some ⟨b, o, none⟩ ∧ CellsAt enI w1 b o j y))
      have HGX := Lib.hid (fun (j : Nat) (hj : j < xs.length) => getD_at hj (0 : Int))
      have HRS := Lib.hid (fun (j : Nat) (s : Int × Int) (hj : j < xs.length) => rowS_succ (w := x.wid) (s := s) hj)
      generalize hm : xs.length = m at *
      have HM := Lib.hid hm
      clear hm hgp hgl hgn hpx hnx hlc hls hp hA hB hD hAs
      generalize x.wid = ww at *
      go_wp2
      go_loopw [7, 8, 26] (fun cc aa j wr => ∃ (jj : Nat) (cj aj : Int), jj ≤ m ∧ j = .int .i64 jj ∧ cc = .int .i64 cj ∧ aa = .int .i64 aj ∧ Hid (rowS ww xs jj (cv, av) = (cj, aj)) ∧ LaterC w1 wr) (fun _ _ j _ => m - (intOf j).toNat)
      case atStart => exact ⟨0, cv, av, Nat.zero_le _, rfl, rfl, rfl, Lib.hid rfl, ⟨u, rfl⟩⟩
      case round =>
        obtain ⟨j, cj, aj, hj, rfl, rfl, rfl, HR, ⟨v, rfl⟩⟩ := hrel
        by_cases hlt2 : j < m
        · have hlt2' : (j : Int) < m := by omega
          have hget2 := HGX.out j hlt2
          obtain ⟨bs, os, rfl, hcx⟩ := HAS.out j _ hget2
          have c0 : ∀ l : Later w1, l.val.cell? ⟨bs, os + j, none⟩ = some (.int .i64 (xs.getD j 0)) := hcx.int (Below.refl _ _)
          have hpk := HPK.out j hlt2
          have HR2 := Lib.hid (HRS.out j (cv, av) hlt2)
          rw [HR.out] at hpk HR2
          generalize xs.getD j 0 = y at *
          clear hcx hget2
          obtain ⟨h1, h2, h3, h4, h5, h6, h7, h9⟩ := hpk
          have hp1 := pow_pos_i aj
          have hpa : (2 : Int) ^ aj.toNat ≤ 256 := pow_le_i (by omega) (by omega)
          have hy0 : 0 ≤ y * 2 ^ aj.toNat := Int.mul_nonneg h6 (by omega)
          have hy1 : y ≤ 65535 := by have := pow_le_w (a := ww) (by omega) (by omega); omega
          dsimp only at h1 h2 h3 h4 h5 h6 h7 h9
          have HR3 := Lib.hid (show rowS ww xs (j + 1) (cv, av) = (cj + y * 2 ^ aj.toNat, aj + ww) from HR2.out)
          have HOR := Lib.hid (or_shift (c := cj) (y := y) (a := aj) h4 h5 h6 h9)
          go_wp2
          go_roundw
          case rel => exact ⟨j + 1, cj + y * 2 ^ aj.toNat, aj + ww, by omega, by go_num, by rw [HOR.out], by go_num, HR3, ⟨v, rfl⟩⟩
          case measure => simp [intOf] <;> omega
        · obtain rfl : j = m := by omega
          have HS2 := Lib.hid (show packS M.nodes ps L (k + 1) = (cj, aj) from HST.out.trans HR.out)
          go_wp2
          go_roundw
          case rel => exact ⟨k + 1, cj, aj, by omega, by go_num, rfl, rfl, HS2, ⟨v, rfl⟩⟩
          case measure => simp [intOf] <;> omega
    · obtain rfl : k = t := by omega
      clear hA hB hD
      go_wp2
      go_ret
      exact ⟨ret_eq (congrArg (Value.int .i64) (by rw [HS.out])), u.back HB.out⟩
end Go.Proofs.YteboalbpgghdhaaGreat
namespace Go.Proofs.YteboalbpgghdhaaGreat
open Go.RowKit
/-! StateCode, InputCode. -/
noncomputable def codeK (kind : Int) (M : Md) (L : List (List Int)) : Int := if fitsK kind M L = true then (packS M.nodes (placesN kind M.nodes M.nodes.length) L L.length).1 else 0
theorem fitsK_code {kind : Int} {M : Md} {L : List (List Int)} (h : fitsK kind M L = true) : codeN M = 0 := by
  unfold fitsK at h
  split at h
  · assumption
  · cases h
theorem fitsK_parts {kind : Int} {M : Md} {L : List (List Int)} (h : fitsK kind M L = true) : fitsB M.nodes (placesN kind M.nodes M.nodes.length) L = true := by
  have h0 := fitsK_code h
  unfold fitsK at h
  rwa [if_pos h0] at h
theorem code_bits {M : Md} (h : codeN M = 0) : allN 36 M.nodes ≤ 8 ∧ allN 35 M.nodes ≤ 5 := by
  unfold codeN at h
  by_cases h1 : 8 < allN 36 M.nodes
  · simp [h1] at h
    repeat' split at h
    all_goals omega
  · by_cases h2 : 5 < allN 35 M.nodes
    · simp [h1, h2] at h
      repeat' split at h
      all_goals omega
    · omega
theorem code_bits8 {kind : Int} {M : Md} (hk : kind = 36 ∨ kind = 35) (h : codeN M = 0) : allN kind M.nodes ≤ 8 := by
  have := code_bits h
  rcases hk with rfl | rfl <;> omega
theorem fitsK_bits {kind : Int} {M : Md} {L : List (List Int)} (hk : kind = 36 ∨ kind = 35) (h : fitsK kind M L = true) : bitsTo M.nodes (placesN kind M.nodes M.nodes.length) L.length ≤ 8 := by
  rw [(fits_parts (fitsK_parts h)).1, bits_all]
  exact code_bits8 hk (fitsK_code h)
set_option maxHeartbeats 2000000 in
set_option maxRecDepth 8000 in
theorem StateCode_calls (mv lv : Value) (M : Md) (L : List (List Int)) (w : World) (hM : MdAt w mv M) (hL : VlAt w lv L) (hsz : M.nodes.length ≤ 1048576) (hnm : ∀ x, x ∈ M.nodes → x.name.size ≤ 140737488351232) :
    Makes Tryz.prog 23 #[mv, lv] w (.tuple #[.int .i64 (codeK 36 M L), .bool (fitsK 36 M L)]) := by
  have HM := Lib.hid hM
  have HNM := Lib.hid hnm
  have HSZ := Lib.hid hsz
  have HL := Lib.hid hL
  have HIN := Lib.hid (placesN_InN 36 M.nodes)
  obtain ⟨s0, s1, s2, s3, s4, rfl, -⟩ := hM.at_
  clear hM hnm hsz hL
  obtain ⟨RV, hRV⟩ : ∃ RV, RV = Value.tuple #[.int .i64 (codeK 36 M L), .bool (fitsK 36 M L)] := ⟨_, rfl⟩
  rw [← hRV]
  have HRV := Lib.hid hRV
  clear hRV
  go_enter Tryz.func23, Tryz.ntmps23
  have HB := Lib.hid (box_below w #[s0, s1, s2, s3, s4] 34)
  have m0 := box_cell w #[s0, s1, s2, s3, s4] 34 0 _ rfl
  have m1 := box_cell w #[s0, s1, s2, s3, s4] 34 1 _ rfl
  have m2 := box_cell w #[s0, s1, s2, s3, s4] 34 2 _ rfl
  have m3 := box_cell w #[s0, s1, s2, s3, s4] 34 3 _ rfl
  have m4 := box_cell w #[s0, s1, s2, s3, s4] 34 4 _ rfl
  go_upto_region 1 with fail
  generalize w.alloc (.cells #[s0, s1, s2, s3, s4] 34) = w1 at *
  have m0 : ∀ u : Later w1, u.val.cell? ⟨w.heap.size, 0, none⟩ = some s0 := m0
  have m1 : ∀ u : Later w1, u.val.cell? ⟨w.heap.size, 1, none⟩ = some s1 := m1
  have m2 : ∀ u : Later w1, u.val.cell? ⟨w.heap.size, 2, none⟩ = some s2 := m2
  have m3 : ∀ u : Later w1, u.val.cell? ⟨w.heap.size, 3, none⟩ = some s3 := m3
  have m4 : ∀ u : Later w1, u.val.cell? ⟨w.heap.size, 4, none⟩ = some s4 := m4
  have HM1 := Lib.hid (HM.out.below HB.out)
  have HL1 := Lib.hid (HL.out.below HB.out)
  refine at_world (w := w1) ?_
  intro u0
  by_cases hc : fitsK 36 M L = true
  · have HC := Lib.hid hc
    have HFB := Lib.hid (fitsK_parts hc)
    have HP := Lib.hid (show codeK 36 M L = (packS M.nodes (placesN 36 M.nodes M.nodes.length) L L.length).1 by unfold codeK; rw [if_pos hc])
    have H8 := Lib.hid (fitsK_bits (Or.inl rfl) hc)
    clear hc
    go_upto_region 3 with (go_at_call 19; refine (Calls.later_eq (u := u0) (StateFits_calls _ _ M L _ (HM1.out.later u0) (HL1.out.later u0) HSZ.out HNM.out) (congrArg Value.bool HC.out)).mono ?_; rintro e w' ⟨rfl, u1, rfl⟩)
    generalize hR : (packS M.nodes (placesN 36 M.nodes M.nodes.length) L L.length).1 = R
    have HR := Lib.hid hR
    clear hR
    rw [HC.out, HP.out, HR.out] at HRV
    have HQL := Lib.hid (show ∀ w', LaterC w1 w' → w'.cell? ⟨w.heap.size, 0, none⟩ = some s0 ∧ w'.cell? ⟨w.heap.size, 1, none⟩ = some s1 ∧ w'.cell? ⟨w.heap.size, 2, none⟩ = some s2 ∧ w'.cell? ⟨w.heap.size, 3, none⟩ = some s3 ∧ w'.cell? ⟨w.heap.size, 4, none⟩ = some s4 from fun W h => by
      obtain ⟨v, rfl⟩ := h
      exact ⟨m0 v, m1 v, m2 v, m3 v, m4 v⟩)
    go_region_held3 (fun w' => w'.cell? ⟨w.heap.size, 0, none⟩ = some s0 ∧ w'.cell? ⟨w.heap.size, 1, none⟩ = some s1 ∧ w'.cell? ⟨w.heap.size, 2, none⟩ = some s2 ∧ w'.cell? ⟨w.heap.size, 3, none⟩ = some s3 ∧ w'.cell? ⟨w.heap.size, 4, none⟩ = some s4) ((refine HQL.out _ ?_; repeat (first | exact ⟨_, rfl⟩ | refine LaterC.drew' ?_ | refine LaterC.alloc' ?_ _))) (first | (go_at_call 45; refine (l2Places_calls _ M 36 _ (HM1.out.below (LaterC.below (by repeat (first | exact ⟨_, rfl⟩ | refine LaterC.drew' ?_ | refine LaterC.alloc' ?_ _)))) HSZ.out).mono ?_; rintro e w' ⟨pv, rfl, hb, hown⟩; have HOWN := Lib.hid (places_slN hown HSZ.out); obtain ⟨v2, hv2⟩ := laterC_step (w1 := w1) (by repeat (first | exact ⟨_, rfl⟩ | refine LaterC.drew' ?_ | refine LaterC.alloc' ?_ _)) hb; subst hv2; clear hb hown) | (go_at_call 56; refine (l5Pack_calls _ pv _ M _ L _ (HM1.out.below (LaterC.below (by repeat (first | exact ⟨_, rfl⟩ | refine LaterC.drew' ?_ | refine LaterC.alloc' ?_ _)))) (HOWN.out.below (by first | exact Below.refl _ _ | exact (Below.refl _ _).drew)) HIN.out (HL1.out.below (LaterC.below (by repeat (first | exact ⟨_, rfl⟩ | refine LaterC.drew' ?_ | refine LaterC.alloc' ?_ _)))) HFB.out H8.out).mono ?_; rintro e w' ⟨rfl, hb⟩; rw [HR.out]; obtain ⟨v3, hv3⟩ := laterC_step (w1 := w1) (by repeat (first | exact ⟨_, rfl⟩ | refine LaterC.drew' ?_ | refine LaterC.alloc' ?_ _)) hb; subst hv3; clear hb))
    go_wp2
    go_ret2
    exact ⟨ret_eq HRV.out.symm, v3.back HB.out⟩
  · have hc := eq_false_of_ne_true hc
    have HC := Lib.hid hc
    have HP := Lib.hid (show codeK 36 M L = 0 by unfold codeK; rw [if_neg (by rw [hc]; decide)])
    clear hc
    rw [HC.out, HP.out] at HRV
    go_wp2_with (go_at_call 19; refine (Calls.later_eq (u := u0) (StateFits_calls _ _ M L _ (HM1.out.later u0) (HL1.out.later u0) HSZ.out HNM.out) (congrArg Value.bool HC.out)).mono ?_; rintro e w' ⟨rfl, u1, rfl⟩)
    go_ret2
    exact ⟨ret_eq HRV.out.symm, u1.back HB.out⟩
set_option maxHeartbeats 2000000 in
set_option maxRecDepth 8000 in
theorem StateCode'_calls (mv lv : Value) (M : Md) (L : List (List Int)) (w : World) (hM : MdAt w mv M) (hL : VlAt w lv L) (hsz : M.nodes.length ≤ 1048576) (hnm : ∀ x, x ∈ M.nodes → x.name.size ≤ 140737488351232) (hw1 : ∀ b, b ∈ M.inits → (Lit.int .i64 b.st).wf = true) (hw2 : ∀ b, b ∈ M.nexts → (Lit.int .i64 b.st).wf = true) :
    Makes Tryz.prog 24 #[mv, lv] w (.tuple #[.int .i64 (codeK 36 M L), .bool (fitsK 36 M L)]) := by
  have HM := Lib.hid hM
  have HNM := Lib.hid hnm
  have HSZ := Lib.hid hsz
  have HL := Lib.hid hL
  have HW1 := Lib.hid hw1
  have HW2 := Lib.hid hw2
  clear hw1 hw2
  have HIN := Lib.hid (placesN_InN 36 M.nodes)
  obtain ⟨s0, s1, s2, s3, s4, rfl, -⟩ := hM.at_
  clear hM hnm hsz hL
  obtain ⟨RV, hRV⟩ : ∃ RV, RV = Value.tuple #[.int .i64 (codeK 36 M L), .bool (fitsK 36 M L)] := ⟨_, rfl⟩
  rw [← hRV]
  have HRV := Lib.hid hRV
  clear hRV
  go_enter Tryz.func24, Tryz.ntmps24
  have HB := Lib.hid (box_below w #[s0, s1, s2, s3, s4] 34)
  have m0 := box_cell w #[s0, s1, s2, s3, s4] 34 0 _ rfl
  have m1 := box_cell w #[s0, s1, s2, s3, s4] 34 1 _ rfl
  have m2 := box_cell w #[s0, s1, s2, s3, s4] 34 2 _ rfl
  have m3 := box_cell w #[s0, s1, s2, s3, s4] 34 3 _ rfl
  have m4 := box_cell w #[s0, s1, s2, s3, s4] 34 4 _ rfl
  go_upto_region 1 with fail
  generalize w.alloc (.cells #[s0, s1, s2, s3, s4] 34) = w1 at *
  have m0 : ∀ u : Later w1, u.val.cell? ⟨w.heap.size, 0, none⟩ = some s0 := m0
  have m1 : ∀ u : Later w1, u.val.cell? ⟨w.heap.size, 1, none⟩ = some s1 := m1
  have m2 : ∀ u : Later w1, u.val.cell? ⟨w.heap.size, 2, none⟩ = some s2 := m2
  have m3 : ∀ u : Later w1, u.val.cell? ⟨w.heap.size, 3, none⟩ = some s3 := m3
  have m4 : ∀ u : Later w1, u.val.cell? ⟨w.heap.size, 4, none⟩ = some s4 := m4
  have HM1 := Lib.hid (HM.out.below HB.out)
  have HL1 := Lib.hid (HL.out.below HB.out)
  refine at_world (w := w1) ?_
  intro u0
  by_cases hc : fitsK 36 M L = true
  · have HC := Lib.hid hc
    have HFB := Lib.hid (fitsK_parts hc)
    have HP := Lib.hid (show codeK 36 M L = (packS M.nodes (placesN 36 M.nodes M.nodes.length) L L.length).1 by unfold codeK; rw [if_pos hc])
    have H8 := Lib.hid (fitsK_bits (Or.inl rfl) hc)
    clear hc
    go_upto_region 3 with (go_at_call 20; refine (Calls.later_eq (u := u0) (StateFits'_calls _ _ M L _ (HM1.out.later u0) (HL1.out.later u0) HSZ.out HNM.out HW1.out HW2.out) (congrArg Value.bool HC.out)).mono ?_; rintro e w' ⟨rfl, u1, rfl⟩)
    generalize hR : (packS M.nodes (placesN 36 M.nodes M.nodes.length) L L.length).1 = R
    have HR := Lib.hid hR
    clear hR
    rw [HC.out, HP.out, HR.out] at HRV
    have HQL := Lib.hid (show ∀ w', LaterC w1 w' → w'.cell? ⟨w.heap.size, 0, none⟩ = some s0 ∧ w'.cell? ⟨w.heap.size, 1, none⟩ = some s1 ∧ w'.cell? ⟨w.heap.size, 2, none⟩ = some s2 ∧ w'.cell? ⟨w.heap.size, 3, none⟩ = some s3 ∧ w'.cell? ⟨w.heap.size, 4, none⟩ = some s4 from fun W h => by
      obtain ⟨v, rfl⟩ := h
      exact ⟨m0 v, m1 v, m2 v, m3 v, m4 v⟩)
    go_region_held3 (fun w' => w'.cell? ⟨w.heap.size, 0, none⟩ = some s0 ∧ w'.cell? ⟨w.heap.size, 1, none⟩ = some s1 ∧ w'.cell? ⟨w.heap.size, 2, none⟩ = some s2 ∧ w'.cell? ⟨w.heap.size, 3, none⟩ = some s3 ∧ w'.cell? ⟨w.heap.size, 4, none⟩ = some s4) ((refine HQL.out _ ?_; repeat (first | exact ⟨_, rfl⟩ | refine LaterC.drew' ?_ | refine LaterC.alloc' ?_ _))) (first | (go_at_call 52; refine (places_calls _ M 36 _ (HM1.out.below (LaterC.below (by repeat (first | exact ⟨_, rfl⟩ | refine LaterC.drew' ?_ | refine LaterC.alloc' ?_ _)))) HSZ.out).mono ?_; rintro e w' ⟨pv, rfl, hb, hown⟩; have HOWN := Lib.hid (places_slN hown HSZ.out); obtain ⟨v2, hv2⟩ := laterC_step (w1 := w1) (by repeat (first | exact ⟨_, rfl⟩ | refine LaterC.drew' ?_ | refine LaterC.alloc' ?_ _)) hb; subst hv2; clear hb hown) | (go_at_call 57; refine (code_calls _ pv _ M _ L _ (HM1.out.below (LaterC.below (by repeat (first | exact ⟨_, rfl⟩ | refine LaterC.drew' ?_ | refine LaterC.alloc' ?_ _)))) (HOWN.out.below (by first | exact Below.refl _ _ | exact (Below.refl _ _).drew)) HIN.out (HL1.out.below (LaterC.below (by repeat (first | exact ⟨_, rfl⟩ | refine LaterC.drew' ?_ | refine LaterC.alloc' ?_ _)))) HFB.out H8.out).mono ?_; rintro e w' ⟨rfl, hb⟩; rw [HR.out]; obtain ⟨v3, hv3⟩ := laterC_step (w1 := w1) (by repeat (first | exact ⟨_, rfl⟩ | refine LaterC.drew' ?_ | refine LaterC.alloc' ?_ _)) hb; subst hv3; clear hb))
    go_wp2
    go_ret2
    exact ⟨ret_eq HRV.out.symm, v3.back HB.out⟩
  · have hc := eq_false_of_ne_true hc
    have HC := Lib.hid hc
    have HP := Lib.hid (show codeK 36 M L = 0 by unfold codeK; rw [if_neg (by rw [hc]; decide)])
    clear hc
    rw [HC.out, HP.out] at HRV
    go_wp2_with (go_at_call 20; refine (Calls.later_eq (u := u0) (StateFits'_calls _ _ M L _ (HM1.out.later u0) (HL1.out.later u0) HSZ.out HNM.out HW1.out HW2.out) (congrArg Value.bool HC.out)).mono ?_; rintro e w' ⟨rfl, u1, rfl⟩)
    go_ret2
    exact ⟨ret_eq HRV.out.symm, u1.back HB.out⟩
set_option maxHeartbeats 2000000 in
set_option maxRecDepth 8000 in
theorem InputCode_calls (mv lv : Value) (M : Md) (L : List (List Int)) (w : World) (hM : MdAt w mv M) (hL : VlAt w lv L) (hsz : M.nodes.length ≤ 1048576) (hnm : ∀ x, x ∈ M.nodes → x.name.size ≤ 140737488351232) :
    Makes Tryz.prog 21 #[mv, lv] w (.tuple #[.int .i64 (codeK 35 M L), .bool (fitsK 35 M L)]) := by
  have HM := Lib.hid hM
  have HNM := Lib.hid hnm
  have HSZ := Lib.hid hsz
  have HL := Lib.hid hL
  have HIN := Lib.hid (placesN_InN 35 M.nodes)
  obtain ⟨s0, s1, s2, s3, s4, rfl, -⟩ := hM.at_
  clear hM hnm hsz hL
  obtain ⟨RV, hRV⟩ : ∃ RV, RV = Value.tuple #[.int .i64 (codeK 35 M L), .bool (fitsK 35 M L)] := ⟨_, rfl⟩
  rw [← hRV]
  have HRV := Lib.hid hRV
  clear hRV
  go_enter Tryz.func21, Tryz.ntmps21
  have HB := Lib.hid (box_below w #[s0, s1, s2, s3, s4] 34)
  have m0 := box_cell w #[s0, s1, s2, s3, s4] 34 0 _ rfl
  have m1 := box_cell w #[s0, s1, s2, s3, s4] 34 1 _ rfl
  have m2 := box_cell w #[s0, s1, s2, s3, s4] 34 2 _ rfl
  have m3 := box_cell w #[s0, s1, s2, s3, s4] 34 3 _ rfl
  have m4 := box_cell w #[s0, s1, s2, s3, s4] 34 4 _ rfl
  go_upto_region 1 with fail
  generalize w.alloc (.cells #[s0, s1, s2, s3, s4] 34) = w1 at *
  have m0 : ∀ u : Later w1, u.val.cell? ⟨w.heap.size, 0, none⟩ = some s0 := m0
  have m1 : ∀ u : Later w1, u.val.cell? ⟨w.heap.size, 1, none⟩ = some s1 := m1
  have m2 : ∀ u : Later w1, u.val.cell? ⟨w.heap.size, 2, none⟩ = some s2 := m2
  have m3 : ∀ u : Later w1, u.val.cell? ⟨w.heap.size, 3, none⟩ = some s3 := m3
  have m4 : ∀ u : Later w1, u.val.cell? ⟨w.heap.size, 4, none⟩ = some s4 := m4
  have HM1 := Lib.hid (HM.out.below HB.out)
  have HL1 := Lib.hid (HL.out.below HB.out)
  refine at_world (w := w1) ?_
  intro u0
  by_cases hc : fitsK 35 M L = true
  · have HC := Lib.hid hc
    have HFB := Lib.hid (fitsK_parts hc)
    have HP := Lib.hid (show codeK 35 M L = (packS M.nodes (placesN 35 M.nodes M.nodes.length) L L.length).1 by unfold codeK; rw [if_pos hc])
    have H8 := Lib.hid (fitsK_bits (Or.inr rfl) hc)
    clear hc
    go_upto_region 3 with (go_at_call 13; refine (Calls.later_eq (u := u0) (InputFits_calls _ _ M L _ (HM1.out.later u0) (HL1.out.later u0) HSZ.out HNM.out) (congrArg Value.bool HC.out)).mono ?_; rintro e w' ⟨rfl, u1, rfl⟩)
    generalize hR : (packS M.nodes (placesN 35 M.nodes M.nodes.length) L L.length).1 = R
    have HR := Lib.hid hR
    clear hR
    rw [HC.out, HP.out, HR.out] at HRV
    have HQL := Lib.hid (show ∀ w', LaterC w1 w' → w'.cell? ⟨w.heap.size, 0, none⟩ = some s0 ∧ w'.cell? ⟨w.heap.size, 1, none⟩ = some s1 ∧ w'.cell? ⟨w.heap.size, 2, none⟩ = some s2 ∧ w'.cell? ⟨w.heap.size, 3, none⟩ = some s3 ∧ w'.cell? ⟨w.heap.size, 4, none⟩ = some s4 from fun W h => by
      obtain ⟨v, rfl⟩ := h
      exact ⟨m0 v, m1 v, m2 v, m3 v, m4 v⟩)
    go_region_held3 (fun w' => w'.cell? ⟨w.heap.size, 0, none⟩ = some s0 ∧ w'.cell? ⟨w.heap.size, 1, none⟩ = some s1 ∧ w'.cell? ⟨w.heap.size, 2, none⟩ = some s2 ∧ w'.cell? ⟨w.heap.size, 3, none⟩ = some s3 ∧ w'.cell? ⟨w.heap.size, 4, none⟩ = some s4) ((refine HQL.out _ ?_; repeat (first | exact ⟨_, rfl⟩ | refine LaterC.drew' ?_ | refine LaterC.alloc' ?_ _))) (first | (go_at_call 45; refine (l2Places_calls _ M 35 _ (HM1.out.below (LaterC.below (by repeat (first | exact ⟨_, rfl⟩ | refine LaterC.drew' ?_ | refine LaterC.alloc' ?_ _)))) HSZ.out).mono ?_; rintro e w' ⟨pv, rfl, hb, hown⟩; have HOWN := Lib.hid (places_slN hown HSZ.out); obtain ⟨v2, hv2⟩ := laterC_step (w1 := w1) (by repeat (first | exact ⟨_, rfl⟩ | refine LaterC.drew' ?_ | refine LaterC.alloc' ?_ _)) hb; subst hv2; clear hb hown) | (go_at_call 56; refine (l5Pack_calls _ pv _ M _ L _ (HM1.out.below (LaterC.below (by repeat (first | exact ⟨_, rfl⟩ | refine LaterC.drew' ?_ | refine LaterC.alloc' ?_ _)))) (HOWN.out.below (by first | exact Below.refl _ _ | exact (Below.refl _ _).drew)) HIN.out (HL1.out.below (LaterC.below (by repeat (first | exact ⟨_, rfl⟩ | refine LaterC.drew' ?_ | refine LaterC.alloc' ?_ _)))) HFB.out H8.out).mono ?_; rintro e w' ⟨rfl, hb⟩; rw [HR.out]; obtain ⟨v3, hv3⟩ := laterC_step (w1 := w1) (by repeat (first | exact ⟨_, rfl⟩ | refine LaterC.drew' ?_ | refine LaterC.alloc' ?_ _)) hb; subst hv3; clear hb))
    go_wp2
    go_ret2
    exact ⟨ret_eq HRV.out.symm, v3.back HB.out⟩
  · have hc := eq_false_of_ne_true hc
    have HC := Lib.hid hc
    have HP := Lib.hid (show codeK 35 M L = 0 by unfold codeK; rw [if_neg (by rw [hc]; decide)])
    clear hc
    rw [HC.out, HP.out] at HRV
    go_wp2_with (go_at_call 13; refine (Calls.later_eq (u := u0) (InputFits_calls _ _ M L _ (HM1.out.later u0) (HL1.out.later u0) HSZ.out HNM.out) (congrArg Value.bool HC.out)).mono ?_; rintro e w' ⟨rfl, u1, rfl⟩)
    go_ret2
    exact ⟨ret_eq HRV.out.symm, u1.back HB.out⟩
set_option maxHeartbeats 2000000 in
set_option maxRecDepth 8000 in
theorem InputCode'_calls (mv lv : Value) (M : Md) (L : List (List Int)) (w : World) (hM : MdAt w mv M) (hL : VlAt w lv L) (hsz : M.nodes.length ≤ 1048576) (hnm : ∀ x, x ∈ M.nodes → x.name.size ≤ 140737488351232) (hw1 : ∀ b, b ∈ M.inits → (Lit.int .i64 b.st).wf = true) (hw2 : ∀ b, b ∈ M.nexts → (Lit.int .i64 b.st).wf = true) :
    Makes Tryz.prog 22 #[mv, lv] w (.tuple #[.int .i64 (codeK 35 M L), .bool (fitsK 35 M L)]) := by
  have HM := Lib.hid hM
  have HNM := Lib.hid hnm
  have HSZ := Lib.hid hsz
  have HL := Lib.hid hL
  have HW1 := Lib.hid hw1
  have HW2 := Lib.hid hw2
  clear hw1 hw2
  have HIN := Lib.hid (placesN_InN 35 M.nodes)
  obtain ⟨s0, s1, s2, s3, s4, rfl, -⟩ := hM.at_
  clear hM hnm hsz hL
  obtain ⟨RV, hRV⟩ : ∃ RV, RV = Value.tuple #[.int .i64 (codeK 35 M L), .bool (fitsK 35 M L)] := ⟨_, rfl⟩
  rw [← hRV]
  have HRV := Lib.hid hRV
  clear hRV
  go_enter Tryz.func22, Tryz.ntmps22
  have HB := Lib.hid (box_below w #[s0, s1, s2, s3, s4] 34)
  have m0 := box_cell w #[s0, s1, s2, s3, s4] 34 0 _ rfl
  have m1 := box_cell w #[s0, s1, s2, s3, s4] 34 1 _ rfl
  have m2 := box_cell w #[s0, s1, s2, s3, s4] 34 2 _ rfl
  have m3 := box_cell w #[s0, s1, s2, s3, s4] 34 3 _ rfl
  have m4 := box_cell w #[s0, s1, s2, s3, s4] 34 4 _ rfl
  go_upto_region 1 with fail
  generalize w.alloc (.cells #[s0, s1, s2, s3, s4] 34) = w1 at *
  have m0 : ∀ u : Later w1, u.val.cell? ⟨w.heap.size, 0, none⟩ = some s0 := m0
  have m1 : ∀ u : Later w1, u.val.cell? ⟨w.heap.size, 1, none⟩ = some s1 := m1
  have m2 : ∀ u : Later w1, u.val.cell? ⟨w.heap.size, 2, none⟩ = some s2 := m2
  have m3 : ∀ u : Later w1, u.val.cell? ⟨w.heap.size, 3, none⟩ = some s3 := m3
  have m4 : ∀ u : Later w1, u.val.cell? ⟨w.heap.size, 4, none⟩ = some s4 := m4
  have HM1 := Lib.hid (HM.out.below HB.out)
  have HL1 := Lib.hid (HL.out.below HB.out)
  refine at_world (w := w1) ?_
  intro u0
  by_cases hc : fitsK 35 M L = true
  · have HC := Lib.hid hc
    have HFB := Lib.hid (fitsK_parts hc)
    have HP := Lib.hid (show codeK 35 M L = (packS M.nodes (placesN 35 M.nodes M.nodes.length) L L.length).1 by unfold codeK; rw [if_pos hc])
    have H8 := Lib.hid (fitsK_bits (Or.inr rfl) hc)
    clear hc
    go_upto_region 3 with (go_at_call 16; refine (Calls.later_eq (u := u0) (InputFits'_calls _ _ M L _ (HM1.out.later u0) (HL1.out.later u0) HSZ.out HNM.out HW1.out HW2.out) (congrArg Value.bool HC.out)).mono ?_; rintro e w' ⟨rfl, u1, rfl⟩)
    generalize hR : (packS M.nodes (placesN 35 M.nodes M.nodes.length) L L.length).1 = R
    have HR := Lib.hid hR
    clear hR
    rw [HC.out, HP.out, HR.out] at HRV
    have HQL := Lib.hid (show ∀ w', LaterC w1 w' → w'.cell? ⟨w.heap.size, 0, none⟩ = some s0 ∧ w'.cell? ⟨w.heap.size, 1, none⟩ = some s1 ∧ w'.cell? ⟨w.heap.size, 2, none⟩ = some s2 ∧ w'.cell? ⟨w.heap.size, 3, none⟩ = some s3 ∧ w'.cell? ⟨w.heap.size, 4, none⟩ = some s4 from fun W h => by
      obtain ⟨v, rfl⟩ := h
      exact ⟨m0 v, m1 v, m2 v, m3 v, m4 v⟩)
    go_region_held3 (fun w' => w'.cell? ⟨w.heap.size, 0, none⟩ = some s0 ∧ w'.cell? ⟨w.heap.size, 1, none⟩ = some s1 ∧ w'.cell? ⟨w.heap.size, 2, none⟩ = some s2 ∧ w'.cell? ⟨w.heap.size, 3, none⟩ = some s3 ∧ w'.cell? ⟨w.heap.size, 4, none⟩ = some s4) ((refine HQL.out _ ?_; repeat (first | exact ⟨_, rfl⟩ | refine LaterC.drew' ?_ | refine LaterC.alloc' ?_ _))) (first | (go_at_call 52; refine (places_calls _ M 35 _ (HM1.out.below (LaterC.below (by repeat (first | exact ⟨_, rfl⟩ | refine LaterC.drew' ?_ | refine LaterC.alloc' ?_ _)))) HSZ.out).mono ?_; rintro e w' ⟨pv, rfl, hb, hown⟩; have HOWN := Lib.hid (places_slN hown HSZ.out); obtain ⟨v2, hv2⟩ := laterC_step (w1 := w1) (by repeat (first | exact ⟨_, rfl⟩ | refine LaterC.drew' ?_ | refine LaterC.alloc' ?_ _)) hb; subst hv2; clear hb hown) | (go_at_call 57; refine (code_calls _ pv _ M _ L _ (HM1.out.below (LaterC.below (by repeat (first | exact ⟨_, rfl⟩ | refine LaterC.drew' ?_ | refine LaterC.alloc' ?_ _)))) (HOWN.out.below (by first | exact Below.refl _ _ | exact (Below.refl _ _).drew)) HIN.out (HL1.out.below (LaterC.below (by repeat (first | exact ⟨_, rfl⟩ | refine LaterC.drew' ?_ | refine LaterC.alloc' ?_ _)))) HFB.out H8.out).mono ?_; rintro e w' ⟨rfl, hb⟩; rw [HR.out]; obtain ⟨v3, hv3⟩ := laterC_step (w1 := w1) (by repeat (first | exact ⟨_, rfl⟩ | refine LaterC.drew' ?_ | refine LaterC.alloc' ?_ _)) hb; subst hv3; clear hb))
    go_wp2
    go_ret2
    exact ⟨ret_eq HRV.out.symm, v3.back HB.out⟩
  · have hc := eq_false_of_ne_true hc
    have HC := Lib.hid hc
    have HP := Lib.hid (show codeK 35 M L = 0 by unfold codeK; rw [if_neg (by rw [hc]; decide)])
    clear hc
    rw [HC.out, HP.out] at HRV
    go_wp2_with (go_at_call 16; refine (Calls.later_eq (u := u0) (InputFits'_calls _ _ M L _ (HM1.out.later u0) (HL1.out.later u0) HSZ.out HNM.out HW1.out HW2.out) (congrArg Value.bool HC.out)).mono ?_; rintro e w' ⟨rfl, u1, rfl⟩)
    go_ret2
    exact ⟨ret_eq HRV.out.symm, u1.back HB.out⟩
end Go.Proofs.YteboalbpgghdhaaGreat
