import Derived.Test.YtbenebcphaiohaaGreatet7
import Derived.Deep.RegionHeld3
import Derived.Lib.AppendZeros
import Derived.Deep.AppendLies
import Derived.Test.YtbenebcphaiohaaGreatet0
import Derived.Laws.BitsLemmas
import Derived.Deep.RegionLaw
import Derived.Test.YtbenebcphaiohaaGreatet2
set_option linter.unusedVariables false
set_option linter.unusedSimpArgs false
set_option maxRecDepth 8000
set_option maxHeartbeats 16000000
namespace Go.Proofs.YtbenebcphaiohaaGreat
open Go.RowKit
def valN (i a : Int) (xs : List Int) : Bool := ((xs.length : Int) == cellsN i a) && xs.all (wokB a)
abbrev valB (x : Nd) (xs : List Int) : Bool := valN x.idx x.wid xs
def fitsB (ns : List Nd) (ps : List Int) (L : List (List Int)) : Bool := (L.length == ps.length) && (List.range L.length).all fun j => valB (ns.getD (ps.getD j 0).toNat Nd.zero) (L.getD j [])
theorem fits_len {ns : List Nd} {ps : List Int} {L : List (List Int)} (h : (L.length == ps.length) = false) : fitsB ns ps L = false := by unfold fitsB; rw [h]; rfl
theorem fits_no {ns : List Nd} {ps : List Int} {L : List (List Int)} {k : Nat} (hk : k < L.length) (h : valB (ns.getD (ps.getD k 0).toNat Nd.zero) (L.getD k []) = false) : fitsB ns ps L = false := by
 unfold fitsB
 rw [Bool.and_eq_false_iff]
 right
 rw [List.all_eq_false]
 exact ⟨k, by simpa using hk, by simpa using h⟩
theorem fits_yes {ns : List Nd} {ps : List Int} {L : List (List Int)} (hl : L.length = ps.length) (h : ∀ k, k < L.length → valB (ns.getD (ps.getD k 0).toNat Nd.zero) (L.getD k []) = true) : fitsB ns ps L = true := by
 unfold fitsB
 rw [Bool.and_eq_true]
 exact ⟨by simpa using hl, by rw [List.all_eq_true]; intro k hk; exact h k (by simpa using hk)⟩
theorem val_len {i a : Int} {xs : List Int} (h : ((xs.length : Int) == cellsN i a) = false) : valN i a xs = false := by unfold valN; rw [h]; rfl
theorem val_no {i a : Int} {xs : List Int} {k : Nat} (hk : k < xs.length) (h : wokB a (xs.getD k 0) = false) : valN i a xs = false := by
 unfold valN
 rw [Bool.and_eq_false_iff]
 right
 rw [List.all_eq_false]
 exact ⟨_, List.mem_of_getElem? (getD_at hk 0), by simpa using h⟩
theorem val_yes {i a : Int} {xs : List Int} (hl : (xs.length : Int) = cellsN i a) (h : ∀ k, k < xs.length → wokB a (xs.getD k 0) = true) : valN i a xs = true := by
 unfold valN
 rw [Bool.and_eq_true]
 refine ⟨by simpa using hl, ?_⟩
 rw [List.all_eq_true]
 intro y hy
 obtain ⟨k, hk⟩ := List.getElem?_of_mem hy
 have hlt := (List.getElem?_eq_some_iff.1 hk).1
 have := h k hlt
 rw [getD_at hlt 0] at hk
 rw [Option.some.inj hk] at this
 exact this
theorem WordOk_calls (a v : Int) (w : World) : Makes Tryz.prog 212 #[.int .i64 a, .int .i64 v] w (.bool (wokB a v)) := .of_same (WordOk_same a v w)
def InN (ps : List Int) (n : Nat) : Prop := ∀ (i : Nat) (p : Int), ps[i]? = some p → ∃ j : Nat, p = j ∧ j < n
theorem l4Fits_calls (mv pv lv : Value) (M : Md) (ps : List Int) (L : List (List Int)) (w : World) (hM : MdAt w mv M) (hP : SlN enI w pv ps) (hI : InN ps M.nodes.length) (hL : VlAt w lv L) :
 Makes Tryz.prog 179 #[mv, pv, lv] w (.bool (fitsB M.nodes ps L)) := by
 obtain ⟨s0, s1, s2, s3, s4, rfl, hS, -, -, -, -⟩ := hM.at_
 obtain ⟨A, c, rfl, hnc, hc', hA⟩ := hS
 obtain ⟨B, d, rfl, -, hd', hB⟩ := hP
 obtain ⟨D, e, rfl, -, he', hD⟩ := hL
 clear hM
 have HNO := Lib.hid (show ∀ k, k < L.length → valB (M.nodes.getD (ps.getD k 0).toNat Nd.zero) (L.getD k []) = false → fitsB M.nodes ps L = false from fun k h1 h2 => fits_no h1 h2)
 have HYES := Lib.hid (show L.length = ps.length → (∀ k, k < L.length → valB (M.nodes.getD (ps.getD k 0).toNat Nd.zero) (L.getD k []) = true) → fitsB M.nodes ps L = true from fun h1 h2 => fits_yes h1 h2)
 have HLN := Lib.hid (show (L.length == ps.length) = false → fitsB M.nodes ps L = false from fun h => fits_len h)
 generalize fitsB M.nodes ps L = R at *
 have HI := Lib.hid hI
 generalize hN : M.nodes.length = n at *
 have HN := Lib.hid hN
 generalize hQ : ps.length = q at *
 have HQ := Lib.hid hQ
 generalize hT : L.length = t at *
 have HT := Lib.hid hT
 clear hN hQ hT hI
 have hn : n ≤ 281474976710656 := Nat.le_trans hnc hc'
 clear hnc hc'
 by_cases hqt : t = q
 · subst hqt
   go_enter Tryz.func179, Tryz.ntmps179
   go_wp2
   generalize hw1 : w.alloc (Obj.cells #[.slice A n c, s1, s2, s3, s4] 27) = w1
   have hb0 : ∀ u : Later w1, u.val.cell? ⟨w.heap.size, 0, none⟩ = some (.slice A n c) := Later.cell (by rw [← hw1]; simp)
   have HB := Lib.hid (show Below w.heap.size w w1 by rw [← hw1]; exact (Below.refl _ _).alloc (Nat.le_refl _) _)
   clear hw1
   go_loopw [7] (fun i wr => ∃ k : Nat, k ≤ t ∧ i = .int .i64 k ∧ Hid (∀ j, j < k → valB (M.nodes.getD (ps.getD j 0).toNat Nd.zero) (L.getD j []) = true) ∧ LaterC w1 wr) (fun i _ => t - (intOf i).toNat)
   case atStart => exact ⟨0, Nat.zero_le _, rfl, Lib.hid (fun i hi => absurd hi (Nat.not_lt_zero _)), LaterC.refl _⟩
   case round =>
    obtain ⟨k, hk, rfl, HTO, ⟨u, rfl⟩⟩ := hrel
    by_cases hlt : k < t
    · have hgp := getD_at (show k < ps.length by rw [HQ.out]; exact hlt) 0
      obtain ⟨p, hp, hpn⟩ := HI.out k _ hgp
      obtain ⟨bp, op, rfl, hpx⟩ := hB k _ hgp
      have hgl := getD_at (show k < L.length by rw [HT.out]; exact hlt) []
      obtain ⟨bl, ol, sv, rfl, hlc, hls⟩ := hD k _ hgl
      have hgn := getD_at (show p < M.nodes.length by rw [HN.out]; exact hpn) Nd.zero
      obtain ⟨bn, on, rfl, hnx⟩ := hA p _ hgn
      have HV := Lib.hid (show valB (M.nodes.getD (ps.getD k 0).toNat Nd.zero) (L.getD k []) = valB (M.nodes.getD p Nd.zero) (L.getD k []) by rw [hp]; rfl)
      rw [hp] at hpx
      generalize M.nodes.getD p Nd.zero = x at *
      generalize hxs : L.getD k [] = xs at *
      have HXS := Lib.hid hxs
      have p0 : ∀ l : Later w1, l.val.cell? ⟨bp, op + k, none⟩ = some (.int .i64 (p : Int)) := hpx.int HB.out
      have q0 : ∀ l : Later w1, l.val.cell? ⟨bl, ol + k, none⟩ = some sv := back_cell hlc HB.out
      have p6 : ∀ l : Later w1, l.val.cell? ⟨bn, on + p * 9 + 6, none⟩ = some (.int .i64 x.idx) := hnx.at_ HB.out 6 _ rfl
      have p7 : ∀ l : Later w1, l.val.cell? ⟨bn, on + p * 9 + 7, none⟩ = some (.int .i64 x.wid) := hnx.at_ HB.out 7 _ rfl
      obtain ⟨As, cs, rfl, -, hm0, hAs⟩ := hls.below HB.out
      generalize hm : xs.length = m at *
      have HM := Lib.hid hm
      clear hm
      clear hxs hgp hgl hgn hpx hnx hlc hls hp hA hB hD
      go_wp2
      have HQL := Lib.hid (show ∀ W, LaterC w1 W → W.cell? ⟨w.heap.size, 0, none⟩ = some (.slice (some ⟨bn, on, none⟩) n c) ∧ W.cell? ⟨bp, op + k, none⟩ = some (.int .i64 (p : Int)) ∧ W.cell? ⟨bn, on + p * 9 + 6, none⟩ = some (.int .i64 x.idx) ∧ W.cell? ⟨bn, on + p * 9 + 7, none⟩ = some (.int .i64 x.wid) from fun W h => by
       obtain ⟨l, rfl⟩ := h
       exact ⟨hb0 l, p0 l, p6 l, p7 l⟩)
      go_region_held3 (fun w' => w'.cell? ⟨w.heap.size, 0, none⟩ = some (.slice (some ⟨bn, on, none⟩) n c) ∧ w'.cell? ⟨bp, op + k, none⟩ = some (.int .i64 (p : Int)) ∧ w'.cell? ⟨bn, on + p * 9 + 6, none⟩ = some (.int .i64 x.idx) ∧ w'.cell? ⟨bn, on + p * 9 + 7, none⟩ = some (.int .i64 x.wid)) ((refine HQL.out _ ?_; repeat (first | exact ⟨_, rfl⟩ | refine LaterC.drew' ?_ | refine LaterC.alloc' ?_ _))) (fail)
      go_wp2
      have HL2 := Lib.hid (show LaterC w1 (u.val.alloc (Obj.cells #[.int .i64 x.idx, .int .i64 x.wid] 34)).drew from LaterC.drew' (u.alloc _))
      have y0 := Later.re (box_cell u.val #[.int .i64 x.idx, .int .i64 x.wid] 34 0 _ rfl) (LaterC.drew' (LaterC.refl _))
      have y1 := Later.re (box_cell u.val #[.int .i64 x.idx, .int .i64 x.wid] 34 1 _ rfl) (LaterC.drew' (LaterC.refl _))
      generalize (u.val.alloc (Obj.cells #[.int .i64 x.idx, .int .i64 x.wid] 34)).drew = w2 at *
      generalize u.val.heap.size = G at *
      have y0 : ∀ l : Later w2, l.val.cell? ⟨G, 0, none⟩ = some (.int .i64 x.idx) := y0
      have y1 : ∀ l : Later w2, l.val.cell? ⟨G, 1, none⟩ = some (.int .i64 x.wid) := y1
      have r0 := Later.re q0 HL2.out
      have HAS := Lib.hid (fun (j : Nat) y (hy : xs[j]? = some y) => (hAs j y hy : ∃ b o, As = some ⟨b, o, none⟩ ∧ CellsAt enI w1 b o j y))
      clear p0 q0 p6 p7 hAs hb0
      refine at_world (w := w2) ?_
      intro v
      by_cases hl : ((m : Int) == cellsN x.idx x.wid) = true
      · have HC := Lib.hid (show cellsN x.idx x.wid = (m : Int) from (by simpa using hl : (m : Int) = cellsN x.idx x.wid).symm)
        clear hl
        refine wp_region_later (w0 := w2) (by kernel_rfl) (by kernel_rfl) ⟨v, rfl⟩ ?_
        repeat (go_big_quiet_step ((go_at_call 190; exact Calls.later_eq (SortCells_calls x.idx x.wid _) (congrArg (Value.int .i64) HC.out))))
        refine wpQuiet_nil ?_
        rintro _ ⟨v1, rfl⟩
        go_wp2
        go_loopw [9] (fun j wr => ∃ jj : Nat, jj ≤ m ∧ j = .int .i64 jj ∧ Hid (∀ i, i < jj → wokB x.wid (xs.getD i 0) = true) ∧ LaterC w2 wr) (fun j _ => m - (intOf j).toNat)
        case atStart => exact ⟨0, Nat.zero_le _, rfl, Lib.hid (fun i hi => absurd hi (Nat.not_lt_zero _)), ⟨v1, rfl⟩⟩
        case round =>
         obtain ⟨j, hj, rfl, HJ, ⟨v2, rfl⟩⟩ := hrel
         by_cases hlt2 : j < m
         · have hget2 := getD_at (show j < xs.length by rw [HM.out]; exact hlt2) 0
           obtain ⟨bs, os, rfl, hcx⟩ := HAS.out j _ hget2
           have c0 : ∀ l : Later w2, l.val.cell? ⟨bs, os + j, none⟩ = some (.int .i64 (xs.getD j 0)) := hcx.int HL2.out.below
           generalize hy : xs.getD j 0 = y at *
           have HY := Lib.hid hy
           clear hy hcx hget2
           by_cases hw : wokB x.wid y = true
           · have HW := Lib.hid hw
             have HJ2 := Lib.hid (show ∀ i, i < j + 1 → wokB x.wid (xs.getD i 0) = true from fun i hi => by
              rcases Nat.lt_or_ge i j with g | g
              · exact HJ.out i g
              · obtain rfl : i = j := by omega
                rw [HY.out]; exact hw)
             clear hw
             go_wp2
             refine wp_region_later (w0 := w2) (by kernel_rfl) (by kernel_rfl) ⟨v2, rfl⟩ ?_
             repeat (go_big_quiet_step ((go_at_call 212; exact Calls.later_eq (WordOk_calls x.wid y _) (congrArg Value.bool HW.out))))
             refine wpQuiet_nil ?_
             rintro _ ⟨v3, rfl⟩
             go_wp2
             go_roundw
             case rel => exact ⟨j + 1, by omega, by go_num, HJ2, ⟨v3, rfl⟩⟩
             case measure => simp [intOf] <;> omega
           · have hw := eq_false_of_ne_true hw
             have HW := Lib.hid hw
             have HR := Lib.hid (HNO.out k hlt (by rw [HXS.out, HV.out]; exact val_no (k := j) (by rw [HM.out]; exact hlt2) (by rw [HY.out]; exact hw)))
             clear hw
             go_wp2
             refine wp_region_later (w0 := w2) (by kernel_rfl) (by kernel_rfl) ⟨v2, rfl⟩ ?_
             repeat (go_big_quiet_step ((go_at_call 212; exact Calls.later_eq (WordOk_calls x.wid y _) (congrArg Value.bool HW.out))))
             refine wpQuiet_nil ?_
             rintro _ ⟨v3, rfl⟩
             go_wp2
             go_ret
             exact ⟨ret_eq (congrArg Value.bool HR.out.symm), v3.back (below_of HB.out HL2.out)⟩
         · obtain rfl : j = m := by omega
           have HTO2 := Lib.hid (show ∀ j, j < k + 1 → valB (M.nodes.getD (ps.getD j 0).toNat Nd.zero) (L.getD j []) = true from fun i hi => by
            rcases Nat.lt_or_ge i k with g | g
            · exact HTO.out i g
            · obtain rfl : i = k := by omega
              rw [HXS.out, HV.out]; exact val_yes (by rw [HM.out, HC.out]) (fun q hq => HJ.out q (by rw [← HM.out]; exact hq)))
           go_wp2
           go_roundw
           case rel => exact ⟨k + 1, by omega, by go_num, HTO2, HL2.out.trans ⟨v2, rfl⟩⟩
           case measure => simp [intOf] <;> omega
      · have hl := eq_false_of_ne_true hl
        have HR := Lib.hid (HNO.out k hlt (by rw [HXS.out, HV.out]; exact val_len (by rw [HM.out]; exact hl)))
        generalize hcv : cellsN x.idx x.wid = cv at *
        have HC := Lib.hid hcv
        have hne : ((m : Int) != cv) = true := by rw [bne, hl]; rfl
        clear hcv hl
        refine wp_region_later (w0 := w2) (by kernel_rfl) (by kernel_rfl) ⟨v, rfl⟩ ?_
        repeat (go_big_quiet_step ((go_at_call 190; exact Calls.later_eq (SortCells_calls x.idx x.wid _) (congrArg (Value.int .i64) HC.out))))
        refine wpQuiet_nil ?_
        rintro _ ⟨v1, rfl⟩
        go_wp2
        go_ret
        exact ⟨ret_eq (congrArg Value.bool HR.out.symm), v1.back (below_of HB.out HL2.out)⟩
    · obtain rfl : k = t := by omega
      have HR := Lib.hid (HYES.out trivial HTO.out)
      clear hA hB hD
      go_wp2
      go_ret
      exact ⟨ret_eq (congrArg Value.bool HR.out.symm), u.back HB.out⟩
 · have HR := Lib.hid (HLN.out (by simpa using hqt))
   have hne : (t == q) = false := by simpa using hqt
   go_enter Tryz.func179, Tryz.ntmps179
   go_wp2
   go_ret
   exact ⟨ret_eq (congrArg Value.bool HR.out.symm), box_below _ _ _⟩
def firstN (p : Int → Bool) : List Int → Int
 | [] => -1
 | x :: l => if p x = true then 0 else if firstN p l < 0 then -1 else firstN p l + 1
theorem first_at {p : Int → Bool} : ∀ {xs : List Int} {k : Nat}, k < xs.length → (∀ j, j < k → p (xs.getD j 0) = false) → p (xs.getD k 0) = true → firstN p xs = k
 | x :: l, 0, _, _, h => by
   have h' : p x = true := h
   simp [firstN, h']
 | x :: l, k + 1, hk, hto, h => by
   have h0 : p x = false := hto 0 (Nat.succ_pos _)
   have ih := first_at (xs := l) (k := k) (by simpa using hk) (fun j hj => hto (j + 1) (by omega)) h
   unfold firstN
   rw [if_neg (by simp [h0]), ih, if_neg (by omega)]
   rfl
theorem first_none {p : Int → Bool} : ∀ {xs : List Int}, (∀ j, j < xs.length → p (xs.getD j 0) = false) → firstN p xs = -1
 | [], _ => rfl
 | x :: l, h => by
   have h0 : p x = false := h 0 (Nat.succ_pos _)
   have ih := first_none (xs := l) (fun j hj => h (j + 1) (by simpa using hj))
   unfold firstN
   rw [if_neg (by simp [h0]), ih]
   rfl
theorem first_any (p : Int → Bool) : ∀ xs : List Int, decide (0 ≤ firstN p xs) = xs.any p
 | [] => rfl
 | x :: l => by
   have ih := first_any p l
   unfold firstN
   rw [List.any_cons, ← ih]
   by_cases h : p x = true
   · simp [h]
   · have h := eq_false_of_ne_true h
     rw [h, Bool.false_or, if_neg (by simp)]
     by_cases hl : firstN p l < 0
     · rw [if_pos hl]
       rw [decide_eq_false (by omega), decide_eq_false (by omega)]
     · rw [if_neg hl]
       rw [decide_eq_true (by omega), decide_eq_true (by omega)]
def Answers (w : World) (F : FuncId) (caps : Array Value) (p : Int → Bool) (xs : List Int) : Prop :=
 ∀ (y : Int) (u : Later w), y ∈ xs → Makes Tryz.prog F (#[.int .i64 y] ++ caps) u.val (.bool (p y))
theorem indexI_calls (F : FuncId) (caps : Array Value) (p : Int → Bool) (sv : Value) (xs : List Int) (w : World) (hS : SlN enI w sv xs) (heg : ∀ (args : Array Value) (w : World), (callFunc F args).run Tryz.prog w = .ok (.enter F args) w) (hF : Answers w F caps p xs) :
 Makes Tryz.prog 185 #[sv, .func (.func F) #[] caps] w (.int .i64 (firstN p xs)) := by
 obtain ⟨A, c, rfl, hnc, hn, hA⟩ := hS
 have HAT := Lib.hid (show ∀ k, k < xs.length → (∀ j, j < k → p (xs.getD j 0) = false) → p (xs.getD k 0) = true → firstN p xs = k from fun k => first_at)
 have HNO := Lib.hid (show (∀ j, j < xs.length → p (xs.getD j 0) = false) → firstN p xs = -1 from first_none)
 generalize firstN p xs = R at *
 have HF := Lib.hid hF
 generalize hN : xs.length = n at *
 have HN := Lib.hid hN
 clear hN hnc hF
 go_enter Tryz.func185, Tryz.ntmps185
 go_wp2
 go_loopw [8] (fun i wr => ∃ k : Nat, k ≤ n ∧ i = .int .i64 k ∧ Hid (∀ j, j < k → p (xs.getD j 0) = false) ∧ LaterC w wr) (fun i _ => n - (intOf i).toNat)
 case atStart => exact ⟨0, Nat.zero_le _, rfl, Lib.hid (fun j hj => absurd hj (Nat.not_lt_zero _)), LaterC.refl _⟩
 case round =>
  obtain ⟨k, hk, rfl, hto, ⟨u, rfl⟩⟩ := hrel
  by_cases hlt : k < n
  · have hlt' : (k : Int) < n := by omega
    have hget := getD_at (show k < xs.length by rw [HN.out]; exact hlt) 0
    obtain ⟨g, o, rfl, hx⟩ := hA k _ hget
    have HM := Lib.hid (List.mem_of_getElem? hget)
    generalize hxe : xs.getD k 0 = x at *
    have HX := Lib.hid hxe
    have p0 : ∀ l : Later w, l.val.cell? ⟨g, o + k, none⟩ = some (.int .i64 x) := hx.int (Below.refl _ _)
    clear hx hA hxe hget
    by_cases hv : p x = true
    · have HV := Lib.hid hv
      have HR := Lib.hid (HAT.out k hlt hto.out (by rw [HX.out]; exact hv))
      clear hv hto
      go_wp2_with fail
      refine (Calls.later (u := u) (HF.out x u HM.out)).mono ?_
      rintro e w' ⟨rfl, u1, rfl⟩
      rw [HV.out]
      go_wp2
      go_ret
      exact ⟨ret_eq (congrArg (Value.int .i64) HR.out.symm), u1.prop⟩
    · have hv := eq_false_of_ne_true hv
      have HV := Lib.hid hv
      have HTO := Lib.hid (show ∀ j, j < k + 1 → p (xs.getD j 0) = false from fun j hj => by
       rcases Nat.lt_or_ge j k with g | g
       · exact hto.out j g
       · obtain rfl : j = k := by omega
         rw [HX.out]; exact hv)
      clear hv hto
      go_wp2_with fail
      refine (Calls.later (u := u) (HF.out x u HM.out)).mono ?_
      rintro e w' ⟨rfl, u1, rfl⟩
      rw [HV.out]
      go_wp2
      go_roundw
      case rel => exact ⟨k + 1, by omega, by go_num, HTO, ⟨u1, rfl⟩⟩
      case measure => simp [intOf] <;> omega
  · obtain rfl : k = n := by omega
    have HR := Lib.hid (HNO.out hto.out)
    clear hA hto
    go_wp2
    go_ret
    exact ⟨ret_eq (congrArg (Value.int .i64) HR.out.symm), u.prop⟩
theorem containsI_calls (F : FuncId) (caps : Array Value) (p : Int → Bool) (sv : Value) (xs : List Int) (w : World) (hS : SlN enI w sv xs) (heg : ∀ (args : Array Value) (w : World), (callFunc F args).run Tryz.prog w = .ok (.enter F args) w) (hF : Answers w F caps p xs) :
 Makes Tryz.prog 168 #[sv, .func (.func F) #[] caps] w (.bool (xs.any p)) := by
 have HA := Lib.hid (first_any p xs)
 have HX := Lib.hid (indexI_calls F caps p sv xs w hS heg hF)
 generalize firstN p xs = z at *
 generalize xs.any p = R at *
 clear hS hF heg
 by_cases hz : 0 ≤ z
 · have HR := Lib.hid (show R = true by rw [← HA.out]; exact decide_eq_true hz)
   go_enter Tryz.func168, Tryz.ntmps168
   go_wp2_with (go_at_call 185; refine HX.out.mono ?_; rintro e w' ⟨rfl, hb⟩; have HB := Lib.hid hb; clear hb)
   go_ret
   exact ⟨ret_eq (congrArg Value.bool (by simp [HR.out, hz])), HB.out⟩
 · have HR := Lib.hid (show R = false by rw [← HA.out]; exact decide_eq_false hz)
   go_enter Tryz.func168, Tryz.ntmps168
   go_wp2_with (go_at_call 185; refine HX.out.mono ?_; rintro e w' ⟨rfl, hb⟩; have HB := Lib.hid hb; clear hb)
   go_ret
   exact ⟨ret_eq (congrArg Value.bool (by simp [HR.out, hz])), HB.out⟩
theorem any_not (p : Int → Bool) (xs : List Int) : (!(xs.any fun n => !p n)) = xs.all p := by
 induction xs with
 | nil => rfl
 | cons x l ih => rw [List.any_cons, List.all_cons, ← ih]; cases p x <;> simp
theorem ownsRow_mono {w : World} {B B' n s : Nat} {e : TypeId} {v : Value} {xs : List Value} (h : w.ownsRow B e s v n xs) (hB : B' ≤ B) : w.ownsRow B' e s v n xs := by
 refine ⟨h.1, ?_⟩
 rcases h.2 with h0 | ⟨g, cap, cur, hv, hb, r⟩
 · exact .inl h0
 · exact .inr ⟨g, cap, cur, hv, Nat.le_trans hB hb, r⟩
theorem l2Places_calls (mv : Value) (M : Md) (kind : Int) (w : World) (hM : MdAt w mv M) (hsz : M.nodes.length ≤ 1048576) :
 Calls Tryz.prog 116 #[mv, .int .i64 kind] w fun e w' => ∃ v, e = .returned v ∧ Below w.heap.size w w' ∧ w'.ownsRow w.heap.size 3 1 v (placesN kind M.nodes M.nodes.length).length ((placesN kind M.nodes M.nodes.length).map (Value.int .i64)) := by
 obtain ⟨s0, s1, s2, s3, s4, rfl, hS, -, -, -, -⟩ := hM.at_
 obtain ⟨A, c, rfl, hnc, hc', hA⟩ := hS
 clear hM
 obtain ⟨ti, hti⟩ := info_parts info_int
 have HTI := Lib.hid hti
 clear hti
 generalize hN : M.nodes.length = n at *
 have HN := Lib.hid hN
 clear hN
 have hn : n ≤ 281474976710656 := Nat.le_trans hnc hc'
 clear hc' hnc
 go_enter Tryz.func116, Tryz.ntmps116
 go_wp2
 generalize hw1 : w.alloc (Obj.cells #[.slice A n c, s1, s2, s3, s4] 27) = w1
 have hb0 : ∀ u : Later w1, u.val.cell? ⟨w.heap.size, 0, none⟩ = some (.slice A n c) := Later.cell (by rw [← hw1]; simp)
 have HB := Lib.hid (show Below w.heap.size w w1 by rw [← hw1]; exact (Below.refl _ _).alloc (Nat.le_refl _) _)
 clear hw1
 go_loopw [5, 6] (fun s i wr => ∃ (k q : Nat) (sv : Value), k ≤ n ∧ i = .int .i64 k ∧ sv = s ∧ q ≤ k ∧ Hid (wr.ownsRow w1.heap.size 3 1 sv q ((placesN kind M.nodes k).map (Value.int .i64))) ∧ LaterC w1 wr) (fun _ i _ => n - (intOf i).toNat)
 case atStart => exact ⟨0, 0, _, Nat.zero_le _, rfl, rfl, Nat.le_refl _, Lib.hid ⟨rfl, .inl ⟨rfl, rfl⟩⟩, LaterC.refl _⟩
 case round =>
  obtain ⟨k, q, sv, hk, rfl, hsv, hq, HOWN, ⟨u, rfl⟩⟩ := hrel
  subst hsv
  by_cases hlt : k < n
  · have hget := getD_at (show k < M.nodes.length by rw [HN.out]; exact hlt) Nd.zero
    obtain ⟨b, o, rfl, hx⟩ := hA k _ hget
    by_cases hkd : ((M.nodes.getD k Nd.zero).kind == kind) = true
    · have HP := Lib.hid (placesN_yes hkd)
      generalize hxe : M.nodes.getD k Nd.zero = x at hx hkd
      have p0 : ∀ l : Later w1, l.val.cell? ⟨b, o + k * 9, none⟩ = some (.int .i64 x.kind) := hx.at_ HB.out 0 _ rfl
      clear hx hget hxe hA
      have HNEWS := Lib.hid (show ∀ j u', ([.int .i64 k] : List Value)[j]? = some u' → (u.val.alloc (Obj.cells #[.int .i64 k] 3)).cell? ((⟨u.val.heap.size, 0, none⟩ : Addr).add j) = some u' from World.news_of_block (OwnB.new u.val _ _))
      have HBASE := Lib.hid (show w1.heap.size ≤ (u.val.alloc (Obj.cells #[.int .i64 k] 3)).heap.size from (u.alloc (Obj.cells #[.int .i64 k] 3)).size)
      have HOWN0 := Lib.hid (ownsRow_below HOWN.out (box_below u.val #[.int .i64 k] 3))
      go_wp2_with (at_builtin; refine wpList_append_lies _ (by rfl) _ _ _ (by rfl) w1.heap.size 3 ti _ 1 8 Tryz.underlying25 HTI.out.1 HTI.out.2.1 HTI.out.2.2.1 HTI.out.2.2.2 rfl (by omega) sv q ((placesN kind M.nodes k).map (Value.int .i64)) (by rfl) HOWN0.out ⟨u.val.heap.size, 0, none⟩ 1 1 [.int .i64 k] (by rfl) rfl HNEWS.out (by intro y hy; simp at hy; subst hy; rfl) (by omega) (by unfold maxLen; omega) (by omega) HBASE.out (u.val.heap.size + 1) (by simp) ?_; intro g' cap' wn hown2 hgrow hat hglt; have HOWN2 := Lib.hid hown2; have hL := laterC_grown (u.alloc _) HOWN0.out hgrow; obtain ⟨u2, hu2⟩ := hL; subst hu2; clear hgrow hat hglt hown2)
      go_roundw
      case rel =>
       refine ⟨k + 1, q + 1, _, by omega, by go_num, rfl, by omega, Lib.hid ?_, ⟨u2, rfl⟩⟩
       rw [HP.out, List.map_append]
       exact HOWN2.out
      case measure => simp [intOf] <;> omega
    · have hkd := eq_false_of_ne_true hkd
      have HP := Lib.hid (placesN_no hkd)
      generalize hxe : M.nodes.getD k Nd.zero = x at hx hkd
      have p0 : ∀ l : Later w1, l.val.cell? ⟨b, o + k * 9, none⟩ = some (.int .i64 x.kind) := hx.at_ HB.out 0 _ rfl
      clear hx hget hxe hA
      go_wp2
      go_roundw
      case rel =>
       refine ⟨k + 1, q, _, by omega, by go_num, rfl, by omega, Lib.hid ?_, ⟨u, rfl⟩⟩
       rw [HP.out]
       exact HOWN.out
      case measure => simp [intOf] <;> omega
  · obtain rfl : k = n := by omega
    clear hA
    go_wp2
    go_ret
    have hql : q = (placesN kind M.nodes k).length := by have := HOWN.out.1; simpa using this.symm
    subst hql
    exact ⟨_, rfl, HB.out.trans (u.prop.mono HB.out.size), ownsRow_mono HOWN.out HB.out.size⟩
theorem places_calls (mv : Value) (M : Md) (kind : Int) (w : World) (hM : MdAt w mv M) (hsz : M.nodes.length ≤ 1048576) :
 Calls Tryz.prog 127 #[mv, .int .i64 kind] w fun e w' => ∃ v, e = .returned v ∧ Below w.heap.size w w' ∧ w'.ownsRow w.heap.size 3 1 v (placesN kind M.nodes M.nodes.length).length ((placesN kind M.nodes M.nodes.length).map (Value.int .i64)) := by
 obtain ⟨s0, s1, s2, s3, s4, rfl, hS, -, -, -, -⟩ := hM.at_
 obtain ⟨A, c, rfl, hnc, hc', hA⟩ := hS
 clear hM
 obtain ⟨ti, hti⟩ := info_parts info_int
 have HTI := Lib.hid hti
 clear hti
 generalize hN : M.nodes.length = n at *
 have HN := Lib.hid hN
 clear hN
 have hn : n ≤ 281474976710656 := Nat.le_trans hnc hc'
 clear hc' hnc
 go_enter Tryz.func127, Tryz.ntmps127
 go_wp2
 generalize hw1 : w.alloc (Obj.cells #[.slice A n c, s1, s2, s3, s4] 27) = w1
 have hb0 : ∀ u : Later w1, u.val.cell? ⟨w.heap.size, 0, none⟩ = some (.slice A n c) := Later.cell (by rw [← hw1]; simp)
 have HB := Lib.hid (show Below w.heap.size w w1 by rw [← hw1]; exact (Below.refl _ _).alloc (Nat.le_refl _) _)
 clear hw1
 go_loopw [5, 11] (fun s i wr => ∃ (k q : Nat) (sv : Value), k ≤ n ∧ i = .int .i64 k ∧ sv = s ∧ q ≤ k ∧ Hid (wr.ownsRow w1.heap.size 3 1 sv q ((placesN kind M.nodes k).map (Value.int .i64))) ∧ LaterC w1 wr) (fun _ i _ => n - (intOf i).toNat)
 case atStart => exact ⟨0, 0, _, Nat.zero_le _, rfl, rfl, Nat.le_refl _, Lib.hid ⟨rfl, .inl ⟨rfl, rfl⟩⟩, LaterC.refl _⟩
 case round =>
  obtain ⟨k, q, sv, hk, rfl, hsv, hq, HOWN, ⟨u, rfl⟩⟩ := hrel
  subst hsv
  by_cases hlt : k < n
  · have hget := getD_at (show k < M.nodes.length by rw [HN.out]; exact hlt) Nd.zero
    obtain ⟨b, o, rfl, hx⟩ := hA k _ hget
    by_cases hkd : ((M.nodes.getD k Nd.zero).kind == kind) = true
    · have HP := Lib.hid (placesN_yes hkd)
      generalize hxe : M.nodes.getD k Nd.zero = x at hx hkd
      have p0 : ∀ l : Later w1, l.val.cell? ⟨b, o + k * 9, none⟩ = some (.int .i64 x.kind) := hx.at_ HB.out 0 _ rfl
      have p1 : ∀ l : Later w1, l.val.cell? ⟨b, o + k * 9 + 1, none⟩ = some (.int .i64 x.a) := hx.at_ HB.out 1 _ rfl
      have p2 : ∀ l : Later w1, l.val.cell? ⟨b, o + k * 9 + 2, none⟩ = some (.int .i64 x.b) := hx.at_ HB.out 2 _ rfl
      have p3 : ∀ l : Later w1, l.val.cell? ⟨b, o + k * 9 + 3, none⟩ = some (.int .i64 x.c) := hx.at_ HB.out 3 _ rfl
      have p4 : ∀ l : Later w1, l.val.cell? ⟨b, o + k * 9 + 4, none⟩ = some (.int .i64 x.n) := hx.at_ HB.out 4 _ rfl
      have p5 : ∀ l : Later w1, l.val.cell? ⟨b, o + k * 9 + 5, none⟩ = some (.int .i64 x.m) := hx.at_ HB.out 5 _ rfl
      have p6 : ∀ l : Later w1, l.val.cell? ⟨b, o + k * 9 + 6, none⟩ = some (.int .i64 x.idx) := hx.at_ HB.out 6 _ rfl
      have p7 : ∀ l : Later w1, l.val.cell? ⟨b, o + k * 9 + 7, none⟩ = some (.int .i64 x.wid) := hx.at_ HB.out 7 _ rfl
      have p8 : ∀ l : Later w1, l.val.cell? ⟨b, o + k * 9 + 8, none⟩ = some (.string x.name) := hx.at_ HB.out 8 _ rfl
      clear hx hget hxe hA
      go_upto_region 5 with fail
      have y0 := box_cell u.val #[.int .i64 x.kind, .int .i64 x.a, .int .i64 x.b, .int .i64 x.c, .int .i64 x.n, .int .i64 x.m, .int .i64 x.idx, .int .i64 x.wid, .string x.name] 38 0 _ rfl
      have y0 : ∀ l : Later (u.val.alloc (Obj.cells #[.int .i64 x.kind, .int .i64 x.a, .int .i64 x.b, .int .i64 x.c, .int .i64 x.n, .int .i64 x.m, .int .i64 x.idx, .int .i64 x.wid, .string x.name] 38)), l.val.cell? ⟨u.val.heap.size, 0, none⟩ = some (.int .i64 x.kind) := y0
      have HOWN1 := Lib.hid (ownsRow_below HOWN.out (box_below u.val #[.int .i64 x.kind, .int .i64 x.a, .int .i64 x.b, .int .i64 x.c, .int .i64 x.n, .int .i64 x.m, .int .i64 x.idx, .int .i64 x.wid, .string x.name] 38))
      have hL5 : LaterC w1 (u.val.alloc (Obj.cells #[.int .i64 x.kind, .int .i64 x.a, .int .i64 x.b, .int .i64 x.c, .int .i64 x.n, .int .i64 x.m, .int .i64 x.idx, .int .i64 x.wid, .string x.name] 38)) := u.alloc _
      generalize (u.val.alloc (Obj.cells #[.int .i64 x.kind, .int .i64 x.a, .int .i64 x.b, .int .i64 x.c, .int .i64 x.n, .int .i64 x.m, .int .i64 x.idx, .int .i64 x.wid, .string x.name] 38)) = w5 at *
      generalize u.val.heap.size = GX at *
      clear p0 p1 p2 p3 p4 p5 p6 p7 p8 HOWN
      have HL5 := Lib.hid hL5
      clear hL5
      refine at_world (w := w5) ?_
      intro u
      have HOWN := Lib.hid (ownsRow_below HOWN1.out u.prop)
      have HNEWS := Lib.hid (show ∀ j u', ([.int .i64 k] : List Value)[j]? = some u' → (u.val.alloc (Obj.cells #[.int .i64 k] 3)).cell? ((⟨u.val.heap.size, 0, none⟩ : Addr).add j) = some u' from World.news_of_block (OwnB.new u.val _ _))
      have HBASE := Lib.hid (show w1.heap.size ≤ (u.val.alloc (Obj.cells #[.int .i64 k] 3)).heap.size from (HL5.out.trans (u.alloc (Obj.cells #[.int .i64 k] 3))).size)
      have HOWN0 := Lib.hid (ownsRow_below HOWN.out (box_below u.val #[.int .i64 k] 3))
      go_wp2_with (at_builtin; refine wpList_append_lies _ (by rfl) _ _ _ (by rfl) w1.heap.size 3 ti _ 1 8 Tryz.underlying25 HTI.out.1 HTI.out.2.1 HTI.out.2.2.1 HTI.out.2.2.2 rfl (by omega) sv q ((placesN kind M.nodes k).map (Value.int .i64)) (by rfl) HOWN0.out ⟨u.val.heap.size, 0, none⟩ 1 1 [.int .i64 k] (by rfl) rfl HNEWS.out (by intro y hy; simp at hy; subst hy; rfl) (by omega) (by unfold maxLen; omega) (by omega) HBASE.out (u.val.heap.size + 1) (by simp) ?_; intro g' cap' wn hown2 hgrow hat hglt; have HOWN2 := Lib.hid hown2; have hL := laterC_grown (HL5.out.trans (u.alloc _)) HOWN0.out hgrow; obtain ⟨u2, hu2⟩ := hL; subst hu2; clear hgrow hat hglt hown2)
      go_roundw
      case rel =>
       refine ⟨k + 1, q + 1, _, by omega, by go_num, rfl, by omega, Lib.hid ?_, ⟨u2, rfl⟩⟩
       rw [HP.out, List.map_append]
       exact HOWN2.out
      case measure => simp [intOf] <;> omega
    · have hkd := eq_false_of_ne_true hkd
      have HP := Lib.hid (placesN_no hkd)
      generalize hxe : M.nodes.getD k Nd.zero = x at hx hkd
      have p0 : ∀ l : Later w1, l.val.cell? ⟨b, o + k * 9, none⟩ = some (.int .i64 x.kind) := hx.at_ HB.out 0 _ rfl
      have p1 : ∀ l : Later w1, l.val.cell? ⟨b, o + k * 9 + 1, none⟩ = some (.int .i64 x.a) := hx.at_ HB.out 1 _ rfl
      have p2 : ∀ l : Later w1, l.val.cell? ⟨b, o + k * 9 + 2, none⟩ = some (.int .i64 x.b) := hx.at_ HB.out 2 _ rfl
      have p3 : ∀ l : Later w1, l.val.cell? ⟨b, o + k * 9 + 3, none⟩ = some (.int .i64 x.c) := hx.at_ HB.out 3 _ rfl
      have p4 : ∀ l : Later w1, l.val.cell? ⟨b, o + k * 9 + 4, none⟩ = some (.int .i64 x.n) := hx.at_ HB.out 4 _ rfl
      have p5 : ∀ l : Later w1, l.val.cell? ⟨b, o + k * 9 + 5, none⟩ = some (.int .i64 x.m) := hx.at_ HB.out 5 _ rfl
      have p6 : ∀ l : Later w1, l.val.cell? ⟨b, o + k * 9 + 6, none⟩ = some (.int .i64 x.idx) := hx.at_ HB.out 6 _ rfl
      have p7 : ∀ l : Later w1, l.val.cell? ⟨b, o + k * 9 + 7, none⟩ = some (.int .i64 x.wid) := hx.at_ HB.out 7 _ rfl
      have p8 : ∀ l : Later w1, l.val.cell? ⟨b, o + k * 9 + 8, none⟩ = some (.string x.name) := hx.at_ HB.out 8 _ rfl
      clear hx hget hxe hA
      go_upto_region 5 with fail
      have y0 := box_cell u.val #[.int .i64 x.kind, .int .i64 x.a, .int .i64 x.b, .int .i64 x.c, .int .i64 x.n, .int .i64 x.m, .int .i64 x.idx, .int .i64 x.wid, .string x.name] 38 0 _ rfl
      have y0 : ∀ l : Later (u.val.alloc (Obj.cells #[.int .i64 x.kind, .int .i64 x.a, .int .i64 x.b, .int .i64 x.c, .int .i64 x.n, .int .i64 x.m, .int .i64 x.idx, .int .i64 x.wid, .string x.name] 38)), l.val.cell? ⟨u.val.heap.size, 0, none⟩ = some (.int .i64 x.kind) := y0
      have HOWN1 := Lib.hid (ownsRow_below HOWN.out (box_below u.val #[.int .i64 x.kind, .int .i64 x.a, .int .i64 x.b, .int .i64 x.c, .int .i64 x.n, .int .i64 x.m, .int .i64 x.idx, .int .i64 x.wid, .string x.name] 38))
      have hL5 : LaterC w1 (u.val.alloc (Obj.cells #[.int .i64 x.kind, .int .i64 x.a, .int .i64 x.b, .int .i64 x.c, .int .i64 x.n, .int .i64 x.m, .int .i64 x.idx, .int .i64 x.wid, .string x.name] 38)) := u.alloc _
      generalize (u.val.alloc (Obj.cells #[.int .i64 x.kind, .int .i64 x.a, .int .i64 x.b, .int .i64 x.c, .int .i64 x.n, .int .i64 x.m, .int .i64 x.idx, .int .i64 x.wid, .string x.name] 38)) = w5 at *
      generalize u.val.heap.size = GX at *
      clear p0 p1 p2 p3 p4 p5 p6 p7 p8 HOWN
      have HL5 := Lib.hid hL5
      clear hL5
      refine at_world (w := w5) ?_
      intro u
      have HOWN := Lib.hid (ownsRow_below HOWN1.out u.prop)
      go_wp2
      go_roundw
      case rel =>
       refine ⟨k + 1, q, _, by omega, by go_num, rfl, by omega, Lib.hid ?_, HL5.out.trans ⟨u, rfl⟩⟩
       rw [HP.out]
       exact HOWN.out
      case measure => simp [intOf] <;> omega
  · obtain rfl : k = n := by omega
    clear hA
    go_wp2
    go_ret
    have hql : q = (placesN kind M.nodes k).length := by have := HOWN.out.1; simpa using this.symm
    subst hql
    exact ⟨_, rfl, HB.out.trans (u.prop.mono HB.out.size), ownsRow_mono HOWN.out HB.out.size⟩
noncomputable def fitsK (kind : Int) (M : Md) (L : List (List Int)) : Bool := if codeN M = 0 then fitsB M.nodes (placesN kind M.nodes M.nodes.length) L else false
theorem placesN_InN (kind : Int) (l : List Nd) : InN (placesN kind l l.length) l.length := by
 intro i p h
 obtain ⟨j, h1, h2, -⟩ := placesN_in (List.mem_of_getElem? h)
 exact ⟨j, h1, h2⟩
theorem places_slN {w : World} {B : Nat} {v : Value} {kind : Int} {l : List Nd} (h : w.ownsRow B 3 1 v (placesN kind l l.length).length ((placesN kind l l.length).map (Value.int .i64))) (hl : l.length ≤ 1048576) : SlN enI w v (placesN kind l l.length) :=
 (RowI.of_owns h rfl (by have := placesN_le kind l l.length; omega)).slN
theorem StateFits_calls (mv lv : Value) (M : Md) (L : List (List Int)) (w : World) (hM : MdAt w mv M) (hL : VlAt w lv L) (hsz : M.nodes.length ≤ 1048576) (hnm : ∀ x, x ∈ M.nodes → x.name.size ≤ 140737488351232) :
 Makes Tryz.prog 106 #[mv, lv] w (.bool (fitsK 36 M L)) := by
 have HM := Lib.hid hM
 have HNM := Lib.hid hnm
 have HSZ := Lib.hid hsz
 have HL := Lib.hid hL
 have HIN := Lib.hid (placesN_InN 36 M.nodes)
 obtain ⟨s0, s1, s2, s3, s4, rfl, -⟩ := hM.at_
 clear hM hnm hsz hL
 generalize hR : fitsK 36 M L = R
 unfold fitsK at hR
 go_enter Tryz.func106, Tryz.ntmps106
 go_upto_region 1 with fail
 obtain ⟨w1, hw1, HB, m0, m1, m2, m3, m4⟩ := model_box 27 s0 s1 s2 s3 s4 w
 rw [hw1]
 clear hw1
 have HM1 := Lib.hid (HM.out.below HB.out)
 have HL1 := Lib.hid (HL.out.below HB.out)
 by_cases hc : codeN M = 0
 · rw [if_pos hc] at hR
   have HC := Lib.hid hc
   have HR := Lib.hid hR
   clear hc hR
   refine at_world (w := w1) ?_
   intro u0
   go_region_held3 (fun w' => w'.cell? ⟨w.heap.size, 0, none⟩ = some s0 ∧ w'.cell? ⟨w.heap.size, 1, none⟩ = some s1 ∧ w'.cell? ⟨w.heap.size, 2, none⟩ = some s2 ∧ w'.cell? ⟨w.heap.size, 3, none⟩ = some s3 ∧ w'.cell? ⟨w.heap.size, 4, none⟩ = some s4) (exact ⟨lf m0, lf m1, lf m2, lf m3, lf m4⟩) (first | (go_at_call 84; refine (ModelCode_calls _ M _ (HM1.out.below lcb) HNM.out).mono ?_; rintro e w' ⟨rfl, hb⟩; rw [HC.out]; obtain ⟨v1, hv1⟩ := laterC_step (w1 := w1) lcx hb; subst hv1; clear hb) | (go_at_call 116; refine (l2Places_calls _ M 36 _ (HM1.out.below lcb) HSZ.out).mono ?_; rintro e w' ⟨pv, rfl, hb, hown⟩; have HOWN := Lib.hid (places_slN hown HSZ.out); obtain ⟨v2, hv2⟩ := laterC_step (w1 := w1) lcx hb; subst hv2; clear hb hown) | (go_at_call 179; refine (l4Fits_calls _ pv _ M _ L _ (HM1.out.below lcb) (HOWN.out.below bdx) HIN.out (HL1.out.below lcb)).mono ?_; rintro e w' ⟨rfl, hb⟩; rw [HR.out]; obtain ⟨v3, hv3⟩ := laterC_step (w1 := w1) lcx hb; subst hv3; clear hb))
   go_wp2
   go_ret
   exact ⟨rfl, v3.back HB.out⟩
 · rw [if_neg hc] at hR
   subst hR
   generalize hcm : codeN M = cm at *
   have HC := Lib.hid hcm
   have hne : (cm == 0) = false := by simpa using hc
   clear hcm hc
   refine wp_region_later (w0 := w1) (by kernel_rfl) (by kernel_rfl) (LaterC.refl _) ?_
   repeat (go_big_quiet_step ((go_at_call 84; exact Calls.later_eq (ModelCode_calls _ M _ (HM1.out.later _) HNM.out) (congrArg (Value.int .i64) HC.out))))
   refine wpQuiet_nil ?_
   rintro _ ⟨u1, rfl⟩
   go_wp2
   go_ret
   exact ⟨rfl, u1.back HB.out⟩
theorem InputFits_calls (mv lv : Value) (M : Md) (L : List (List Int)) (w : World) (hM : MdAt w mv M) (hL : VlAt w lv L) (hsz : M.nodes.length ≤ 1048576) (hnm : ∀ x, x ∈ M.nodes → x.name.size ≤ 140737488351232) :
 Makes Tryz.prog 107 #[mv, lv] w (.bool (fitsK 35 M L)) := by
 have HM := Lib.hid hM
 have HNM := Lib.hid hnm
 have HSZ := Lib.hid hsz
 have HL := Lib.hid hL
 have HIN := Lib.hid (placesN_InN 35 M.nodes)
 obtain ⟨s0, s1, s2, s3, s4, rfl, -⟩ := hM.at_
 clear hM hnm hsz hL
 generalize hR : fitsK 35 M L = R
 unfold fitsK at hR
 go_enter Tryz.func107, Tryz.ntmps107
 go_upto_region 1 with fail
 obtain ⟨w1, hw1, HB, m0, m1, m2, m3, m4⟩ := model_box 27 s0 s1 s2 s3 s4 w
 rw [hw1]
 clear hw1
 have HM1 := Lib.hid (HM.out.below HB.out)
 have HL1 := Lib.hid (HL.out.below HB.out)
 by_cases hc : codeN M = 0
 · rw [if_pos hc] at hR
   have HC := Lib.hid hc
   have HR := Lib.hid hR
   clear hc hR
   refine at_world (w := w1) ?_
   intro u0
   go_region_held3 (fun w' => w'.cell? ⟨w.heap.size, 0, none⟩ = some s0 ∧ w'.cell? ⟨w.heap.size, 1, none⟩ = some s1 ∧ w'.cell? ⟨w.heap.size, 2, none⟩ = some s2 ∧ w'.cell? ⟨w.heap.size, 3, none⟩ = some s3 ∧ w'.cell? ⟨w.heap.size, 4, none⟩ = some s4) (exact ⟨lf m0, lf m1, lf m2, lf m3, lf m4⟩) (first | (go_at_call 84; refine (ModelCode_calls _ M _ (HM1.out.below lcb) HNM.out).mono ?_; rintro e w' ⟨rfl, hb⟩; rw [HC.out]; obtain ⟨v1, hv1⟩ := laterC_step (w1 := w1) lcx hb; subst hv1; clear hb) | (go_at_call 116; refine (l2Places_calls _ M 35 _ (HM1.out.below lcb) HSZ.out).mono ?_; rintro e w' ⟨pv, rfl, hb, hown⟩; have HOWN := Lib.hid (places_slN hown HSZ.out); obtain ⟨v2, hv2⟩ := laterC_step (w1 := w1) lcx hb; subst hv2; clear hb hown) | (go_at_call 179; refine (l4Fits_calls _ pv _ M _ L _ (HM1.out.below lcb) (HOWN.out.below bdx) HIN.out (HL1.out.below lcb)).mono ?_; rintro e w' ⟨rfl, hb⟩; rw [HR.out]; obtain ⟨v3, hv3⟩ := laterC_step (w1 := w1) lcx hb; subst hv3; clear hb))
   go_wp2
   go_ret
   exact ⟨rfl, v3.back HB.out⟩
 · rw [if_neg hc] at hR
   subst hR
   generalize hcm : codeN M = cm at *
   have HC := Lib.hid hcm
   have hne : (cm == 0) = false := by simpa using hc
   clear hcm hc
   refine wp_region_later (w0 := w1) (by kernel_rfl) (by kernel_rfl) (LaterC.refl _) ?_
   repeat (go_big_quiet_step ((go_at_call 84; exact Calls.later_eq (ModelCode_calls _ M _ (HM1.out.later _) HNM.out) (congrArg (Value.int .i64) HC.out))))
   refine wpQuiet_nil ?_
   rintro _ ⟨u1, rfl⟩
   go_wp2
   go_ret
   exact ⟨rfl, u1.back HB.out⟩
abbrev ndAt (ns : List Nd) (ps : List Int) (i : Nat) : Nd := ns.getD (ps.getD i 0).toNat Nd.zero
def bitsTo (ns : List Nd) (ps : List Int) : Nat → Int
 | 0 => 0
 | i + 1 => bitsTo ns ps i + bitsN (ndAt ns ps i).idx (ndAt ns ps i).wid
theorem bitsTo_mono (ns : List Nd) (ps : List Int) (i : Nat) : ∀ d, 0 ≤ bitsTo ns ps i ∧ bitsTo ns ps i ≤ bitsTo ns ps (i + d) := by
 have h0 : ∀ i, 0 ≤ bitsTo ns ps i := fun i => by
  induction i with
  | zero => exact Int.le_refl _
  | succ i ih => have := bitsN_bd (ndAt ns ps i).idx (ndAt ns ps i).wid; unfold bitsTo; omega
 intro d
 refine ⟨h0 i, ?_⟩
 induction d with
 | zero => exact Int.le_refl _
 | succ d ih => have := bitsN_bd (ndAt ns ps (i + d)).idx (ndAt ns ps (i + d)).wid; rw [← Nat.add_assoc, bitsTo]; omega
theorem wokB_yes {w v : Int} (h : wokB w v = true) : 1 ≤ w ∧ w ≤ 16 ∧ 0 ≤ v ∧ v < 2 ^ w.toNat := by
 unfold wokB widB at h
 rw [Bool.and_eq_true] at h
 have h1 := of_inB h.1
 have h2 := of_inB h.2
 omega
theorem val_parts {i a : Int} {xs : List Int} (h : valN i a xs = true) : (xs.length : Int) = cellsN i a ∧ ∀ k, k < xs.length → wokB a (xs.getD k 0) = true := by
 unfold valN at h
 rw [Bool.and_eq_true] at h
 refine ⟨by simpa using h.1, fun k hk => ?_⟩
 exact List.all_eq_true.1 h.2 _ (List.mem_of_getElem? (getD_at hk 0))
theorem cells_bits (i a : Int) : cellsN i a * a = bitsN i a ∧ (0 < cellsN i a → sokB i a = true) ∧ 0 ≤ cellsN i a ∧ cellsN i a ≤ 4 := by
 by_cases h : sokB i a = true
 · have h1 := bitsN_yes h
   have h2 := sokB_yes h
   have h3 := pw2 h2.1 h2.2.1
   have h4 : cellsN i a = 2 ^ i.toNat := by unfold cellsN; rw [if_pos h]
   refine ⟨h1.1.symm, fun _ => h, ?_, ?_⟩ <;> omega
 · have h1 := bitsN_no (eq_false_of_ne_true h)
   rw [h1.1, h1.2]
   exact ⟨by simp, fun h => by omega, by omega, by omega⟩
theorem fits_parts {ns : List Nd} {ps : List Int} {L : List (List Int)} (h : fitsB ns ps L = true) : L.length = ps.length ∧ ∀ i, i < L.length → valB (ndAt ns ps i) (L.getD i []) = true := by
 unfold fitsB at h
 rw [Bool.and_eq_true, List.all_eq_true] at h
 exact ⟨by simpa using h.1, fun i hi => h.2 i (by simpa using hi)⟩
theorem pow_add_i (a b : Int) (ha : 0 ≤ a) (hb : 0 ≤ b) : (2 : Int) ^ (a + b).toNat = 2 ^ a.toNat * 2 ^ b.toNat := by
 rw [Int.toNat_add ha hb, Int.pow_add]
theorem pow_pos_i (a : Int) : (1 : Int) ≤ 2 ^ a.toNat := by
 have : (0 : Int) < 2 ^ a.toNat := Int.pow_pos (by decide)
 omega
theorem pow_le_i {a : Int} (h0 : 0 ≤ a) (h : a ≤ 8) : (2 : Int) ^ a.toNat ≤ 256 := by
 have h1 := Nat.pow_le_pow_right (n := 2) (by omega) (show a.toNat ≤ 8 by omega)
 have h' : ((2 ^ a.toNat : Nat) : Int) ≤ ((2 ^ 8 : Nat) : Int) := Int.ofNat_le.2 h1
 simpa using h'
theorem bits_app (ns : List Nd) (ps qs : List Int) : ∀ i, i ≤ ps.length → bitsTo ns (ps ++ qs) i = bitsTo ns ps i
 | 0, _ => rfl
 | i + 1, hi => by
   have e : ndAt ns (ps ++ qs) i = ndAt ns ps i := by
    unfold ndAt
    rw [show (ps ++ qs).getD i 0 = ps.getD i 0 by rw [List.getD_eq_getElem?_getD, List.getElem?_append_left (by omega), ← List.getD_eq_getElem?_getD]]
   rw [bitsTo, bitsTo, bits_app ns ps qs i (by omega), e]
theorem bits_places (kind : Int) (ns : List Nd) : ∀ k, k ≤ ns.length → bitsTo ns (placesN kind ns k) (placesN kind ns k).length = allN kind (ns.take k)
 | 0, _ => by simp [placesN, bitsTo, allN]
 | k + 1, hk => by
   have ih := bits_places kind ns k (by omega)
   rw [allN_step (by omega), ← ih]
   by_cases h : ((ns.getD k Nd.zero).kind == kind) = true
   · rw [placesN_yes h, List.length_append, List.length_singleton, bitsTo, bits_app _ _ _ _ (Nat.le_refl _)]
     have e : ndAt ns (placesN kind ns k ++ [(k : Int)]) (placesN kind ns k).length = ns.getD k Nd.zero := by
      unfold ndAt
      rw [show (placesN kind ns k ++ [(k : Int)]).getD (placesN kind ns k).length 0 = (k : Int) by rw [List.getD_eq_getElem?_getD, List.getElem?_append_right (Nat.le_refl _), Nat.sub_self]; rfl]
      rfl
     rw [e]
     unfold bitsIf
     rw [if_pos (by simpa using h)]
   · have h := eq_false_of_ne_true h
     rw [placesN_no h]
     unfold bitsIf
     rw [if_neg (by simpa using h)]
     omega
theorem bits_all (kind : Int) (ns : List Nd) : bitsTo ns (placesN kind ns ns.length) (placesN kind ns ns.length).length = allN kind ns := by
 rw [bits_places kind ns _ (Nat.le_refl _), List.take_length]
theorem two_pow_pos (i : Nat) : (0 : Int) < 2 ^ i := Int.pow_pos (by decide)
theorem two_pow_le {i j : Nat} (h : i ≤ j) : (2 : Int) ^ i ≤ 2 ^ j := by
 have := Nat.pow_le_pow_right (n := 2) (by decide) h
 exact_mod_cast this
theorem wrap_i64_id {x : Int} (h0 : -9223372036854775808 ≤ x) (h1 : x ≤ 9223372036854775807) : IntKind.i64.wrap x = x := by
 rw [IntKind.wrap_i64]; omega
theorem wrap_u64_id {x : Int} (h0 : 0 ≤ x) (h1 : x ≤ 18446744073709551615) : IntKind.u64.wrap x = x := by
 simp [IntKind.wrap, IntKind.bits, IntKind.signed]; omega
theorem and_mask (x : Int) (i : Nat) (hi : i ≤ 62) : Go.bits .and .i64 x (2 ^ i - 1) = x % 2 ^ i := by
 have hpos : 0 < 2 ^ i := Nat.two_pow_pos i
 have hle : 2 ^ i ≤ 2 ^ 62 := Nat.pow_le_pow_right (by decide) hi
 have hc : ((2 : Int) ^ i - 1) = ((2 ^ i - 1 : Nat) : Int) := by
  rw [Int.natCast_sub hpos]; simp
 have e : (BitVec.ofInt 64 x &&& BitVec.ofInt 64 (2 ^ i - 1)).toNat = (x % 2 ^ i).toNat := by
  rw [hc, BitVec.ofInt_natCast, BitVec.toNat_and, BitVec.toNat_ofNat, BitVec.toNat_ofInt]
  rw [Nat.mod_eq_of_lt (a := 2 ^ i - 1) (by omega), Nat.and_two_pow_sub_one_eq_mod]
  have hdvd : (2 : Int) ^ i ∣ 2 ^ 64 := ⟨2 ^ (64 - i), by rw [← Int.pow_add]; congr 1; omega⟩
  have h1 : (x % (2 ^ 64 : Int)) % 2 ^ i = x % 2 ^ i := Int.emod_emod_of_dvd x hdvd
  have h64 : (0 : Int) ≤ x % 2 ^ 64 := Int.emod_nonneg _ (by decide)
  have h2 : (0 : Int) ≤ x % 2 ^ i := Int.emod_nonneg _ (by have := two_pow_pos i; omega)
  have h3 : (((x % ((2 ^ 64 : Nat) : Int)).toNat % 2 ^ i : Nat) : Int) = x % 2 ^ i := by
   rw [Int.natCast_emod]
   have : ((2 ^ 64 : Nat) : Int) = 2 ^ 64 := by simp
   rw [this, Int.toNat_of_nonneg h64]
   push_cast
   exact h1
  omega
 have h2 : (0 : Int) ≤ x % 2 ^ i := Int.emod_nonneg _ (by have := two_pow_pos i; omega)
 have h3 : x % 2 ^ i < 2 ^ i := Int.emod_lt_of_pos _ (two_pow_pos i)
 have h4 : (2 : Int) ^ i ≤ 2 ^ 62 := two_pow_le hi
 show IntKind.i64.wrap ((BitVec.ofInt 64 x &&& BitVec.ofInt 64 (2 ^ i - 1)).toNat : Int) = _
 rw [e, Int.toNat_of_nonneg h2]
 exact wrap_i64_id (by omega) (by omega)
theorem bits_or_nat (a b : Nat) (ha : a < 2 ^ 62) (hb : b < 2 ^ 62) : Go.bits .or .i64 a b = ((a ||| b : Nat) : Int) :=
 (bits_nat .i64 62 (by decide) (fun n h0 h1 => wrap_i64_id (by omega) (by omega)) a b ha hb).2
def AccV (lo : Nat) (w : World) (v : Value) (svs : List Value) (L : List (List Int)) : Prop :=
 w.ownsRow lo 40 1 v svs.length svs ∧ svs.length = L.length ∧
 (∀ (i : Nat) (sv : Value) (xs : List Int), svs[i]? = some sv → L[i]? = some xs → RowI w sv xs ∧ ∀ b, sv.ownBlock = some b → lo ≤ b ∧ v.ownBlock ≠ some b) ∧
 (∀ (i j : Nat) (si sj : Value) (b : Nat), svs[i]? = some si → svs[j]? = some sj → i < j → si.ownBlock = some b → sj.ownBlock ≠ some b)
theorem AccV.nil (lo : Nat) (w : World) : AccV lo w (.slice none 0 0) [] [] :=
 ⟨World.ownsRow_nil w lo _ 1, rfl, fun i sv xs hi => by simp at hi, fun i j si sj b hi => by simp at hi⟩
theorem AccV.below {lo : Nat} {w w' : World} {v : Value} {svs : List Value} {L : List (List Int)} (h : AccV lo w v svs L) (hb : Below w.heap.size w w') : AccV lo w' v svs L := by
 obtain ⟨h1, h2, h3, h4⟩ := h
 exact ⟨ownsRow_below h1 hb, h2, fun i sv xs hi hx => ⟨(h3 i sv xs hi hx).1.below hb, (h3 i sv xs hi hx).2⟩, h4⟩
theorem But.of_grown {w w' : World} {row : Option Nat} (h : w.grownBy w' row) : But (fun k => some k = row) w w' := ⟨h.os, h.tape, h.output, h.size, h.block⟩
theorem AccV.snoc {lo g cap : Nat} {W W2 W3 wn : World} {v s : Value} {svs : List Value} {L : List (List Int)} {xs : List Int} (h : AccV lo W v svs L) (hb : Below W.heap.size W W2) (hr : RowI W2 s xs) (hg : ∀ b, s.ownBlock = some b → W.heap.size ≤ b) (hlo : lo ≤ W.heap.size)
 (hb3 : Below W2.heap.size W2 W3) (hown : wn.ownsRow lo 40 1 (.slice (some ⟨g, 0, none⟩) (svs.length + 1) cap) (svs.length + 1) (svs ++ [s])) (hgrow : W3.grownBy wn v.ownBlock) (hat : v.ownBlock = some g ∨ g = W3.heap.size) :
 AccV lo wn (.slice (some ⟨g, 0, none⟩) (svs.length + 1) cap) (svs ++ [s]) (L ++ [xs]) := by
 have hbut := But.of_grown hgrow
 have hb23 := hb.trans (hb3.mono hb.size)
 obtain ⟨h1, h2, h3, h4⟩ := h
 have hvl : ∀ b, v.ownBlock = some b → b < W.heap.size := fun b hb => (h1.lt b hb).2
 have hsz2 := hb.size
 have hsz3 := hb3.size
 have key : ∀ (sv : Value) (ys : List Int), RowI W3 sv ys → (∀ b, sv.ownBlock = some b → v.ownBlock ≠ some b) → RowI wn sv ys ∧ ∀ b, sv.ownBlock = some b → b ≠ g := by
  intro sv ys hr hne
  refine ⟨hr.but hbut fun b hb' e => hne b hb' e.symm, fun b hb' e => ?_⟩
  subst e
  rcases hat with e | e
  · exact hne b hb' e
  · have := hr.lt hb'; omega
 have hold : ∀ (i : Nat) (sv : Value) (b : Nat), svs[i]? = some sv → sv.ownBlock = some b → b < W.heap.size := by
  intro i sv b hi hsb
  have hil := (List.getElem?_eq_some_iff.1 hi).1
  exact (h3 i sv _ hi (List.getElem?_eq_getElem (show i < L.length by omega))).1.lt hsb
 have hnew : ∀ b, s.ownBlock = some b → v.ownBlock ≠ some b := fun b hb' e => by
  have h1 := hg b hb'
  have h2 := hvl b e
  omega
 refine ⟨by rw [List.length_append]; exact hown, by simp [h2], fun i sv ys hi hy => ?_, fun i j si sj b hi hj hij hbi hbj => ?_⟩
 · rcases snoc_get hi with hi1 | ⟨hi1, hi2⟩
   · have hil := (List.getElem?_eq_some_iff.1 hi1).1
     rw [List.getElem?_append_left (by omega)] at hy
     obtain ⟨k1, k2⟩ := h3 i sv ys hi1 hy
     obtain ⟨k3, k4⟩ := key sv ys (k1.below hb23) fun b hb' => (k2 b hb').2
     exact ⟨k3, fun b hb' => ⟨(k2 b hb').1, fun e => k4 b hb' (by simpa [Value.ownBlock] using e.symm)⟩⟩
   · subst hi1
     subst hi2
     rw [h2, List.getElem?_append_right (Nat.le_refl _), Nat.sub_self] at hy
     simp at hy
     subst hy
     obtain ⟨k3, k4⟩ := key sv xs (hr.below hb3) hnew
     exact ⟨k3, fun b hb' => ⟨Nat.le_trans hlo (hg b hb'), fun e => k4 b hb' (by simpa [Value.ownBlock] using e.symm)⟩⟩
 · rcases snoc_get hi with hi1 | ⟨hi1, hi2⟩
   · rcases snoc_get hj with hj1 | ⟨hj1, hj2⟩
     · exact h4 i j si sj b hi1 hj1 hij hbi hbj
     · have := hold i si b hi1 hbi
       have := hg b (by rw [← hj2]; exact hbj)
       omega
   · rcases snoc_get hj with hj1 | ⟨hj1, hj2⟩
     · have := (List.getElem?_eq_some_iff.1 hj1).1; omega
     · omega
theorem AccV.rowVs {lo : Nat} {w : World} {v : Value} {svs : List Value} {L : List (List Int)} (h : AccV lo w v svs L) (hl : L.length ≤ 281474976710656) : RowVs lo w v svs L := by
 obtain ⟨h1, h2, h3, h4⟩ := h
 refine ⟨hl, h2, ?_, h3, h4⟩
 rcases h1.2 with ⟨rfl, h0⟩ | ⟨g, cap, cur, rfl, hlo, hg, hc, -, hs, ht⟩
 · exact .inl ⟨rfl, List.eq_nil_of_length_eq_zero (by omega)⟩
 · refine .inr ⟨g, cap, cur, by rw [h2], hlo, hg, by omega, by rw [hs, Nat.mul_one], fun i sv hi => ?_⟩
   have hil := (List.getElem?_eq_some_iff.1 hi).1
   rw [← ht, List.getElem?_take_of_lt (by omega)] at hi
   simpa using hi
theorem AccV.mono {lo lo' : Nat} {w : World} {v : Value} {svs : List Value} {L : List (List Int)} (h : AccV lo w v svs L) (hl : lo' ≤ lo) : AccV lo' w v svs L := by
 obtain ⟨h1, h2, h3, h4⟩ := h
 exact ⟨ownsRow_mono h1 hl, h2, fun i sv xs hi hx => ⟨(h3 i sv xs hi hx).1, fun b hb => ⟨Nat.le_trans hl ((h3 i sv xs hi hx).2 b hb).1, ((h3 i sv xs hi hx).2 b hb).2⟩⟩, h4⟩
theorem info_val : (Tryz.prog.info? 40).map (fun i => (i.zero, i.size, i.bytes)) = some (some (.agg #[.slice none 0 0]), 1, 24) := by kernel_rfl
theorem RowI.one {w : World} {v : Value} {xs : List Int} (h : RowI w v xs) : v.oneCell' = true := by
 obtain ⟨-, ⟨rfl, -⟩ | ⟨g, cap, cur, rfl, -⟩⟩ := h <;> rfl
section
variable {ops : Array Oper} {o : Oper} {a : Act} {Q : Exit → Act → World → Prop}
theorem wp_append_acc {K : Act → World → Prop} (hgd : o.guard = none) (s x : Operand) (ho : o.op = .call { callee := .builtin .append, args := #[s, x], argTypes := #[29, 29] })
 (w0 W W2 W3 : World) (H : Nat) (v s' : Value) (svs : List Value) (L : List (List Int)) (xs : List Int) (hs : a.eval s = v) (hac : AccV w0.heap.size W v svs L) (hL : LaterC w0 W) (hb : Below W.heap.size W W2) (hr : RowI W2 s' xs) (hg : ∀ b, s'.ownBlock = some b → W.heap.size ≤ b)
 (hl : svs.length ≤ 1048576) (hb3 : Below W2.heap.size W2 W3) (hbox : W3.heap[H]? = some (.cells #[s'] 40 (0, 0))) (hx : a.eval x = .slice (some ⟨H, 0, none⟩) 1 1)
 (k : ∀ (v' : Value) (u : Later w0), AccV w0.heap.size u.val v' (svs ++ [s']) (L ++ [xs]) → K (a.put o.dst v') u.val) : Oper.wp Tryz.prog o a W3 K Q := by
 obtain ⟨ti, hti, hz, hsz, hby⟩ := info_parts info_val
 have hown := ownsRow_below (ownsRow_below hac.1 hb) hb3
 have hL3 : LaterC w0 W3 := laterC_step (laterC_step hL hb) hb3
 refine wp_append_lies W3 s x _ ho w0.heap.size 40 ti _ 1 24 Tryz.underlying29 hti hz hsz hby rfl (by decide) v svs.length svs hs hown ⟨H, 0, none⟩ 1 1 [s'] hx rfl (World.news_of_block hbox) (fun u hu => by simp at hu; subst hu; exact hr.one) (by decide) (by unfold maxLen; omega) (by omega) hL3.size W3.heap.size rfl ?_
 intro g cap wn hown2 hgrow hat hlt
 obtain ⟨u, hu⟩ := laterC_grown hL3 hown hgrow
 subst hu
 exact k _ u (hac.snoc hb hr hg hL.size hb3 hown2 hgrow hat)
theorem wpList_append_acc {rest : List Oper} (hgd : o.guard = none) (s x : Operand) (ho : o.op = .call { callee := .builtin .append, args := #[s, x], argTypes := #[29, 29] })
 (w0 W W2 W3 : World) (H : Nat) (v s' : Value) (svs : List Value) (L : List (List Int)) (xs : List Int) (hs : a.eval s = v) (hac : AccV w0.heap.size W v svs L) (hL : LaterC w0 W) (hb : Below W.heap.size W W2) (hr : RowI W2 s' xs) (hg : ∀ b, s'.ownBlock = some b → W.heap.size ≤ b)
 (hl : svs.length ≤ 1048576) (hb3 : Below W2.heap.size W2 W3) (hbox : W3.heap[H]? = some (.cells #[s'] 40 (0, 0))) (hx : a.eval x = .slice (some ⟨H, 0, none⟩) 1 1)
 (k : ∀ (v' : Value) (u : Later w0), AccV w0.heap.size u.val v' (svs ++ [s']) (L ++ [xs]) → wpList Tryz.prog ops Q rest (a.put o.dst v') u.val) : wpList Tryz.prog ops Q (o :: rest) a W3 :=
 wpList_plain hgd fun _ hK => wp_append_acc hgd s x ho w0 W W2 W3 H v s' svs L xs hs hac hL hb hr hg hl hb3 hbox hx fun v' u h => hK _ _ (k v' u h)
abbrev AccI (lo : Nat) (w : World) (v : Value) (xs : List Int) : Prop := w.ownsRow lo 3 1 v xs.length (xs.map (Value.int .i64))
theorem AccI.nil (lo : Nat) (w : World) : AccI lo w (.slice none 0 0) [] := World.ownsRow_nil w lo _ 1
theorem wp_append_int {K : Act → World → Prop} (hgd : o.guard = none) (s x : Operand) (ho : o.op = .call { callee := .builtin .append, args := #[s, x], argTypes := #[25, 25] })
 (lo : Nat) (W W3 : World) (H : Nat) (v : Value) (y : Int) (xs : List Int) (n : Nat) (hn : xs.length = n) (hs : a.eval s = v) (hac : AccI lo W v xs) (hlo : lo ≤ W.heap.size)
 (hl : xs.length ≤ 1048576) (hb3 : Below W.heap.size W W3) (hbox : W3.heap[H]? = some (.cells #[.int .i64 y] 3 (0, 0))) (hx : a.eval x = .slice (some ⟨H, 0, none⟩) 1 1)
 (k : ∀ (g cap : Nat) (wn : World), AccI lo wn (.slice (some ⟨g, 0, none⟩) (n + 1) cap) (xs ++ [y]) → W3.grownBy wn v.ownBlock → (v.ownBlock = some g ∨ g = W3.heap.size) → K (a.put o.dst (.slice (some ⟨g, 0, none⟩) (n + 1) cap)) wn) : Oper.wp Tryz.prog o a W3 K Q := by
 subst hn
 obtain ⟨ti, hti, hz, hsz, hby⟩ := info_parts info_int
 have hown := ownsRow_below hac hb3
 have hlo3 : lo ≤ W3.heap.size := Nat.le_trans hlo hb3.size
 refine wp_append_lies W3 s x _ ho lo 3 ti _ 1 8 Tryz.underlying25 hti hz hsz hby rfl (by decide) v xs.length (xs.map (Value.int .i64)) hs hown ⟨H, 0, none⟩ 1 1 [.int .i64 y] hx rfl (World.news_of_block hbox) (fun u hu => by simp at hu; subst hu; rfl) (by decide) (by unfold maxLen; omega) (by omega) hlo3 W3.heap.size rfl ?_
 intro g cap wn hown2 hgrow hat hlt
 refine k g cap wn ?_ hgrow hat
 unfold AccI
 rw [List.map_append, List.length_append]
 exact hown2
theorem step_append_int {K : Act → World → Prop} {E : Prop} (hgd : o.guard = none) (s x : Operand) (ho : o.op = .call { callee := .builtin .append, args := #[s, x], argTypes := #[25, 25] })
 (lo : Nat) (W W3 : World) (H : Nat) (v : Value) (y : Int) (xs : List Int) (n : Nat) (hn : xs.length = n) (hs : a.eval s = v) (hac : AccI lo W v xs) (hlo : lo ≤ W.heap.size)
 (hl : xs.length ≤ 1048576) (hb3 : Below W.heap.size W W3) (hbox : W3.heap[H]? = some (.cells #[.int .i64 y] 3 (0, 0))) (hx : a.eval x = .slice (some ⟨H, 0, none⟩) 1 1)
 (k : ∀ (g cap : Nat) (wn : World), AccI lo wn (.slice (some ⟨g, 0, none⟩) (n + 1) cap) (xs ++ [y]) → W3.grownBy wn v.ownBlock → (v.ownBlock = some g ∨ g = W3.heap.size) → K (a.put o.dst (.slice (some ⟨g, 0, none⟩) (n + 1) cap)) wn) : if Region.wanted o (yielded ops a.tmps) = true then Oper.wp Tryz.prog o a W3 K Q else E := by
 have hw : Region.wanted o (yielded ops a.tmps) = true := by simp [Region.wanted, hgd]
 rw [if_pos hw]
 exact wp_append_int hgd s x ho lo W W3 H v y xs n hn hs hac hlo hl hb3 hbox hx k
end
theorem owns_but {S : Nat → Prop} {w w' : World} {base n s : Nat} {e : TypeId} {v : Value} {xs : List Value} (h : w.ownsRow base e s v n xs) (hb : But S w w') (hS : ∀ b, v.ownBlock = some b → ¬ S b) : w'.ownsRow base e s v n xs := by
 refine ⟨h.1, ?_⟩
 rcases h.2 with h0 | ⟨g, cap, cur, hv, hg, hh, r⟩
 · exact .inl h0
 · subst hv
   exact .inr ⟨g, cap, cur, rfl, hg, (hb.block g (Array.getElem?_eq_some_iff.1 hh).1 (hS g rfl)).trans hh, r⟩
theorem push_done {w2 w4 W3 wn : World} {B g cap n : Nat} {T : TypeId} {cv : Value} {ys : List Int} (hO : OwnB w4 B T #[cv]) (hL : LaterC w2 w4) (hG : w2.heap.size ≤ B) (hb3 : Below w4.heap.size w4 W3) (hne : ∀ b, cv.ownBlock = some b → B + 1 ≤ b) (hgr : W3.grownBy wn cv.ownBlock)
 (hat : cv.ownBlock = some g ∨ g = W3.heap.size) (hac : AccI (B + 1) wn (.slice (some ⟨g, 0, none⟩) n cap) ys) :
 OwnB (wn.setCell ⟨B, 0, none⟩ (.slice (some ⟨g, 0, none⟩) n cap)) B T #[.slice (some ⟨g, 0, none⟩) n cap] ∧ AccI (B + 1) (wn.setCell ⟨B, 0, none⟩ (.slice (some ⟨g, 0, none⟩) n cap)) (.slice (some ⟨g, 0, none⟩) n cap) ys ∧ LaterC w2 (wn.setCell ⟨B, 0, none⟩ (.slice (some ⟨g, 0, none⟩) n cap)) := by
 have hO3 := hO.below hb3 hO.lt
 have hOn : OwnB wn B T #[cv] := hO3.but (But.of_grown hgr) fun e => by have := hne B e.symm; omega
 have hL3 := laterC_step hL hb3
 have hgB : B ≠ g := by
  rcases hat with e | e
  · have := hne g e; omega
  · have := hO3.lt; omega
 refine ⟨hOn.set 0 _, owns_but hac (S := (· = B)) (But.setCell (S := (· = B)) (But.refl _ _) rfl _) (fun b hb e => hgB (by simp [Value.ownBlock] at hb; omega)), ?_⟩
 have hLn : LaterC w2 wn := .of (hL3.below.trans ((But.of_grown hgr).below (fun k hk => by have := hne k hk.symm; omega) hL3.size))
 exact LaterC.setCell' hLn _ _ hG
def zerosN (ns : List Nd) (ps : List Int) : Nat → List (List Int)
 | 0 => []
 | i + 1 => zerosN ns ps i ++ [List.replicate (cellsN (ndAt ns ps i).idx (ndAt ns ps i).wid).toNat 0]
theorem zerosN_length (ns : List Nd) (ps : List Int) : ∀ i, (zerosN ns ps i).length = i
 | 0 => rfl
 | i + 1 => by rw [zerosN, List.length_append, zerosN_length ns ps i]; rfl
theorem rowI_zero (w : World) (m : Nat) (hm : m ≤ 281474976710656) : RowI (w.alloc (.cells (madeCells #[.int .i64 0] m) 3)) (.slice (some ⟨w.heap.size, 0, none⟩) m m) (List.replicate m 0) := by
 refine ⟨by simpa using hm, .inr ⟨w.heap.size, m, madeCells #[.int .i64 0] m, by simp, OwnB.new _ _ _, by simp, size_madeCells _ _, fun i x hx => ?_⟩⟩
 have hi := (List.getElem?_eq_some_iff.1 hx).1
 rw [List.length_replicate] at hi
 rw [List.getElem?_replicate, if_pos hi] at hx
 cases hx
 rw [Array.getElem?_eq_getElem (by rw [size_madeCells]; exact hi)]
 simp [madeCells, Nat.mod_one]
theorem zeros_calls (mv pv : Value) (M : Md) (ps : List Int) (w : World) (hM : MdAt w mv M) (hP : SlN enI w pv ps) (hI : InN ps M.nodes.length) (hsz : ps.length ≤ 1048576) :
 Calls Tryz.prog 191 #[mv, pv] w fun e w' => ∃ v svs, e = .returned v ∧ Below w.heap.size w w' ∧ AccV w.heap.size w' v svs (zerosN M.nodes ps ps.length) := by
 obtain ⟨s0, s1, s2, s3, s4, rfl, hS, -, -, -, -⟩ := hM.at_
 obtain ⟨A, c, rfl, hnc, hc', hA⟩ := hS
 obtain ⟨B, d, rfl, -, hd', hB⟩ := hP
 clear hM
 obtain ⟨ti, hti⟩ := info_parts info_val
 have HTI := Lib.hid hti
 have HI := Lib.hid hI
 generalize hN : M.nodes.length = n at *
 have HN := Lib.hid hN
 generalize hQ : ps.length = q at *
 have HQ := Lib.hid hQ
 have hn : n ≤ 281474976710656 := Nat.le_trans hnc hc'
 clear hN hQ hI hnc hc' hti
 go_enter Tryz.func191, Tryz.ntmps191
 go_wp2
 generalize hw1 : w.alloc (Obj.cells #[.slice A n c, s1, s2, s3, s4] 27) = w1
 have hb0 : ∀ u : Later w1, u.val.cell? ⟨w.heap.size, 0, none⟩ = some (.slice A n c) := Later.cell (by rw [← hw1]; simp)
 have HB := Lib.hid (show Below w.heap.size w w1 by rw [← hw1]; exact (Below.refl _ _).alloc (Nat.le_refl _) _)
 clear hw1
 go_loopw [5, 10] (fun s i wr => ∃ (k : Nat) (svs : List Value) (sv : Value), k ≤ q ∧ i = .int .i64 k ∧ sv = s ∧ Hid (AccV w1.heap.size wr sv svs (zerosN M.nodes ps k)) ∧ LaterC w1 wr) (fun _ i _ => q - (intOf i).toNat)
 case atStart => exact ⟨0, [], _, Nat.zero_le _, rfl, rfl, Lib.hid (AccV.nil _ _), LaterC.refl _⟩
 case round =>
  obtain ⟨k, svs, sv, hk, rfl, hsv, HAC, ⟨u, rfl⟩⟩ := hrel
  subst hsv
  by_cases hlt : k < q
  · have hlt' : (k : Int) < q := by omega
    have hgp := getD_at (show k < ps.length by rw [HQ.out]; exact hlt) 0
    obtain ⟨p, hp, hpn⟩ := HI.out k _ hgp
    obtain ⟨bp, op, rfl, hpx⟩ := hB k _ hgp
    have hgn := getD_at (show p < M.nodes.length by rw [HN.out]; exact hpn) Nd.zero
    obtain ⟨bn, on, rfl, hnx⟩ := hA p _ hgn
    have hnd : ndAt M.nodes ps k = M.nodes.getD p Nd.zero := by unfold ndAt; rw [hp]; rfl
    have HZ := Lib.hid (show zerosN M.nodes ps (k + 1) = zerosN M.nodes ps k ++ [List.replicate (cellsN (ndAt M.nodes ps k).idx (ndAt M.nodes ps k).wid).toNat 0] from rfl)
    rw [hnd] at HZ
    rw [hp] at hpx
    generalize M.nodes.getD p Nd.zero = x at *
    have p0 : ∀ l : Later w1, l.val.cell? ⟨bp, op + k, none⟩ = some (.int .i64 (p : Int)) := hpx.int HB.out
    have p6 : ∀ l : Later w1, l.val.cell? ⟨bn, on + p * 9 + 6, none⟩ = some (.int .i64 x.idx) := hnx.at_ HB.out 6 _ rfl
    have p7 : ∀ l : Later w1, l.val.cell? ⟨bn, on + p * 9 + 7, none⟩ = some (.int .i64 x.wid) := hnx.at_ HB.out 7 _ rfl
    have hcb := cells_bits x.idx x.wid
    obtain ⟨m, hm⟩ := Int.eq_ofNat_of_zero_le hcb.2.2.1
    have hm4 : m ≤ 4 := by omega
    have HC := Lib.hid hm
    rw [hm, Int.toNat_natCast] at HZ
    have hmk := make_any (P := Tryz.prog) 25 3 (.int .i64 0) 1 8 Tryz.underlying25 (by kernel_rfl) m (by omega) (by omega)
    simp only [Nat.mul_one, Value.cells] at hmk
    have HSL := Lib.hid (show svs.length = k from HAC.out.2.1.trans (zerosN_length _ _ _))
    have hsl : svs.length ≤ 1048576 := by have := HSL.out; omega
    clear hgp hgn hpx hnx hp hA hB hnd hcb hm
    have HSC := Lib.hid (fun W => (show Makes Tryz.prog 19 #[.agg #[.int .i64 x.idx, .int .i64 x.wid]] W (.int .i64 (m : Int)) from HC.out ▸ SortCells'_calls x.idx x.wid W))
    go_wp2_with (first | (at_builtin; refine wpList_append_acc (by rfl) _ _ (by rfl) w1 u.val _ _ (w2.heap.size + 1) _ _ svs _ _ (by rfl) HAC.out ⟨u, rfl⟩ (HB2.out.alloc HB2.out.size _) (rowI_zero w2 m (by omega)) (fun b hb => by cases hb; exact HB2.out.size) hsl (box_below _ _ _) (OwnB.new' _ _ _ _ (by simp)) (by rfl) ?_; intro v' u2 hac; have HAC2 := Lib.hid hac; clear hac) | (go_at_call 19; refine (HSC.out _).mono ?_; rintro e w2 ⟨rfl, hb⟩; have HB2 := Lib.hid hb; clear hb))
    go_roundw
    case rel =>
     have hac2 := HAC2.out
     rw [← HZ.out] at hac2
     exact ⟨k + 1, _, _, by omega, by go_num, rfl, Lib.hid hac2, ⟨u2, rfl⟩⟩
    case measure => simp [intOf] <;> omega
  · obtain rfl : k = q := by omega
    clear hA hB
    go_wp2
    go_ret
    exact ⟨_, svs, rfl, u.back HB.out, HAC.out.mono HB.out.size⟩
def rowU (ns : List Nd) (ps : List Int) (code : Int) (i : Nat) : List Int :=
 (List.range (cellsN (ndAt ns ps i).idx (ndAt ns ps i).wid).toNat).map fun (k : Nat) => code / 2 ^ (bitsTo ns ps i + k * (ndAt ns ps i).wid).toNat % 2 ^ (ndAt ns ps i).wid.toNat
def unpackN (ns : List Nd) (ps : List Int) (code : Int) (n : Nat) : List (List Int) := (List.range n).map (rowU ns ps code)
theorem unpackN_length (ns : List Nd) (ps : List Int) (code : Int) (n : Nat) : (unpackN ns ps code n).length = n := by simp [unpackN]
theorem unpackN_succ (ns : List Nd) (ps : List Int) (code : Int) (n : Nat) : unpackN ns ps code (n + 1) = unpackN ns ps code n ++ [rowU ns ps code n] := by
 unfold unpackN
 rw [List.range_succ, List.map_append]
 rfl
theorem rowU_length (ns : List Nd) (ps : List Int) (code : Int) (i : Nat) : (rowU ns ps code i).length = (cellsN (ndAt ns ps i).idx (ndAt ns ps i).wid).toNat := by simp [rowU]
def CellU (ns : List Nd) (ps : List Int) (i k : Nat) : Prop := 0 ≤ bitsTo ns ps i + k * (ndAt ns ps i).wid ∧ bitsTo ns ps i + k * (ndAt ns ps i).wid + (ndAt ns ps i).wid ≤ 8 ∧ 1 ≤ (ndAt ns ps i).wid
theorem cellU {ns : List Nd} {ps : List Int} (h8 : bitsTo ns ps ps.length ≤ 8) (i k : Nat) (hi : i < ps.length) (hk : (k : Int) < cellsN (ndAt ns ps i).idx (ndAt ns ps i).wid) : CellU ns ps i k := by
 have hm := (bitsTo_mono ns ps (i + 1) (ps.length - (i + 1))).2
 have hb := cells_bits (ndAt ns ps i).idx (ndAt ns ps i).wid
 have h0 := (bitsTo_mono ns ps i 0).1
 rw [show i + 1 + (ps.length - (i + 1)) = ps.length by omega, bitsTo, ← hb.1] at hm
 have hs := sokB_yes (hb.2.1 (by omega))
 have hk1 : ((k : Int) + 1) * (ndAt ns ps i).wid ≤ cellsN (ndAt ns ps i).idx (ndAt ns ps i).wid * (ndAt ns ps i).wid := Int.mul_le_mul_of_nonneg_right (by omega) (by omega)
 rw [Int.add_mul, Int.one_mul] at hk1
 have hk0 : 0 ≤ (k : Int) * (ndAt ns ps i).wid := Int.mul_nonneg (by omega) (by omega)
 exact ⟨by omega, by omega, hs.2.2.1⟩
theorem rowU_take {ns : List Nd} {ps : List Int} {code : Int} {i k : Nat} (hk : (k : Int) < cellsN (ndAt ns ps i).idx (ndAt ns ps i).wid) :
 (rowU ns ps code i).take (k + 1) = (rowU ns ps code i).take k ++ [code / 2 ^ (bitsTo ns ps i + k * (ndAt ns ps i).wid).toNat % 2 ^ (ndAt ns ps i).wid.toNat] := by
 have hl : k < (rowU ns ps code i).length := by rw [rowU_length]; omega
 rw [List.take_succ_eq_append_getElem hl]
 simp [rowU]
theorem l5Unpack_calls (mv pv : Value) (M : Md) (ps : List Int) (code : Int) (w : World) (hM : MdAt w mv M) (hP : SlN enI w pv ps) (hI : InN ps M.nodes.length) (hsz : ps.length ≤ 1048576) (h8 : bitsTo M.nodes ps ps.length ≤ 8) (hc0 : 0 ≤ code) (hc1 : code ≤ 65535) :
 Calls Tryz.prog 136 #[mv, pv, .int .i64 code] w fun e w' => ∃ v svs, e = .returned v ∧ Below w.heap.size w w' ∧ AccV w.heap.size w' v svs (unpackN M.nodes ps code ps.length) := by
 obtain ⟨s0, s1, s2, s3, s4, rfl, hS, -, -, -, -⟩ := hM.at_
 obtain ⟨A, c, rfl, hnc, hc', hA⟩ := hS
 obtain ⟨B, d, rfl, -, hd', hB⟩ := hP
 clear hM
 have HCU := Lib.hid (cellU h8)
 have HI := Lib.hid hI
 generalize hN : M.nodes.length = n at *
 have HN := Lib.hid hN
 generalize hQ : ps.length = q at *
 have HQ := Lib.hid hQ
 have hn : n ≤ 281474976710656 := Nat.le_trans hnc hc'
 clear hN hQ hI hnc hc' h8
 go_enter Tryz.func136, Tryz.ntmps136
 go_wp2
 generalize hw1 : w.alloc (Obj.cells #[.slice A n c, s1, s2, s3, s4] 27) = w1
 have hb0 : ∀ u : Later w1, u.val.cell? ⟨w.heap.size, 0, none⟩ = some (.slice A n c) := Later.cell (by rw [← hw1]; simp)
 have HB := Lib.hid (show Below w.heap.size w w1 by rw [← hw1]; exact (Below.refl _ _).alloc (Nat.le_refl _) _)
 clear hw1
 go_loopw [7, 8, 9] (fun s aa i wr => ∃ (k : Nat) (svs : List Value) (sv : Value) (av : Int), k ≤ q ∧ i = .int .i64 k ∧ sv = s ∧ aa = .int .i64 av ∧ Hid (av = bitsTo M.nodes ps k ∧ AccV w1.heap.size wr sv svs (unpackN M.nodes ps code k)) ∧ LaterC w1 wr) (fun _ _ i _ => q - (intOf i).toNat)
 case atStart => exact ⟨0, [], _, 0, Nat.zero_le _, rfl, rfl, rfl, Lib.hid ⟨rfl, AccV.nil _ _⟩, LaterC.refl _⟩
 case round =>
  obtain ⟨k, svs, sv, av, hk, rfl, hsv, rfl, HAC, ⟨u, rfl⟩⟩ := hrel
  subst hsv
  by_cases hlt : k < q
  · have hlt' : (k : Int) < q := by omega
    have hgp := getD_at (show k < ps.length by rw [HQ.out]; exact hlt) 0
    obtain ⟨p, hp, hpn⟩ := HI.out k _ hgp
    obtain ⟨bp, op, rfl, hpx⟩ := hB k _ hgp
    have hgn := getD_at (show p < M.nodes.length by rw [HN.out]; exact hpn) Nd.zero
    obtain ⟨bn, on, rfl, hnx⟩ := hA p _ hgn
    have hnd : ndAt M.nodes ps k = M.nodes.getD p Nd.zero := by unfold ndAt; rw [hp]; rfl
    have HND := Lib.hid hnd
    have HCK := Lib.hid (fun (j : Nat) (hj : (j : Int) < cellsN (ndAt M.nodes ps k).idx (ndAt M.nodes ps k).wid) => HCU.out k j hlt hj)
    have HTK := Lib.hid (fun (j : Nat) (hj : (j : Int) < cellsN (ndAt M.nodes ps k).idx (ndAt M.nodes ps k).wid) => rowU_take (code := code) hj)
    have HRL := Lib.hid (rowU_length M.nodes ps code k)
    have HBT := Lib.hid (show bitsTo M.nodes ps (k + 1) = bitsTo M.nodes ps k + cellsN (ndAt M.nodes ps k).idx (ndAt M.nodes ps k).wid * (ndAt M.nodes ps k).wid by rw [bitsTo, (cells_bits _ _).1])
    unfold CellU at HCK
    rw [hnd] at HCK HTK HRL HBT
    rw [hp] at hpx
    generalize M.nodes.getD p Nd.zero = x at *
    have p0 : ∀ l : Later w1, l.val.cell? ⟨bp, op + k, none⟩ = some (.int .i64 (p : Int)) := hpx.int HB.out
    have p6 : ∀ l : Later w1, l.val.cell? ⟨bn, on + p * 9 + 6, none⟩ = some (.int .i64 x.idx) := hnx.at_ HB.out 6 _ rfl
    have p7 : ∀ l : Later w1, l.val.cell? ⟨bn, on + p * 9 + 7, none⟩ = some (.int .i64 x.wid) := hnx.at_ HB.out 7 _ rfl
    have hcb := cells_bits x.idx x.wid
    obtain ⟨m, hm⟩ := Int.eq_ofNat_of_zero_le hcb.2.2.1
    have hm4 : m ≤ 4 := by omega
    have HC := Lib.hid hm
    rw [hm, Int.toNat_natCast] at HRL
    rw [hm] at HCK HTK HBT
    have HSL := Lib.hid (show svs.length = k from HAC.out.2.2.1.trans (unpackN_length _ _ _ _))
    have hsl : svs.length ≤ 1048576 := by have := HSL.out; omega
    clear hgp hgn hpx hnx hp hA hB hnd hcb hm
    have HQL := Lib.hid (show ∀ W, LaterC w1 W → W.cell? ⟨w.heap.size, 0, none⟩ = some (.slice (some ⟨bn, on, none⟩) n c) ∧ W.cell? ⟨bp, op + k, none⟩ = some (.int .i64 (p : Int)) ∧ W.cell? ⟨bn, on + p * 9 + 6, none⟩ = some (.int .i64 x.idx) ∧ W.cell? ⟨bn, on + p * 9 + 7, none⟩ = some (.int .i64 x.wid) from fun W h => by
     obtain ⟨l, rfl⟩ := h
     exact ⟨hb0 l, p0 l, p6 l, p7 l⟩)
    go_wp2
    go_region_held3 (fun w' => w'.cell? ⟨w.heap.size, 0, none⟩ = some (.slice (some ⟨bn, on, none⟩) n c) ∧ w'.cell? ⟨bp, op + k, none⟩ = some (.int .i64 (p : Int)) ∧ w'.cell? ⟨bn, on + p * 9 + 6, none⟩ = some (.int .i64 x.idx) ∧ w'.cell? ⟨bn, on + p * 9 + 7, none⟩ = some (.int .i64 x.wid)) ((refine HQL.out _ ?_; repeat (first | exact ⟨_, rfl⟩ | refine LaterC.drew' ?_ | refine LaterC.alloc' ?_ _))) (fail)
    go_upto_region 8 with fail
    have y0 := box_cell u.val #[.int .i64 x.idx, .int .i64 x.wid] 34 0 _ rfl
    have y1 := box_cell u.val #[.int .i64 x.idx, .int .i64 x.wid] 34 1 _ rfl
    have HL2 := Lib.hid (show LaterC w1 (u.val.alloc (Obj.cells #[.int .i64 x.idx, .int .i64 x.wid] 34)) from u.alloc _)
    have HAC2 := Lib.hid (HAC.out.2.below (box_below u.val #[.int .i64 x.idx, .int .i64 x.wid] 34))
    have HG := Lib.hid (show (u.val.alloc (Obj.cells #[.int .i64 x.idx, .int .i64 x.wid] 34)).heap.size = u.val.heap.size + 1 by simp)
    generalize u.val.alloc (Obj.cells #[.int .i64 x.idx, .int .i64 x.wid] 34) = w2 at *
    have HO3 := Lib.hid (show OwnB (w2.alloc (Obj.cells #[.slice none 0 0] 40)).drew (u.val.heap.size + 1) 40 #[.slice none 0 0] from OwnB.new' _ _ _ _ HG.out)
    have HL3 := Lib.hid (show LaterC w2 (w2.alloc (Obj.cells #[.slice none 0 0] 40)).drew from LaterC.drew' (LaterC.alloc' (LaterC.refl _) _))
    generalize (w2.alloc (Obj.cells #[.slice none 0 0] 40)).drew = w3 at *
    have HAV := Lib.hid HAC.out.1
    have HLO := Lib.hid (show u.val.heap.size + 1 < w3.heap.size from HO3.out.lt)
    generalize u.val.heap.size = G at *
    have y0 : ∀ l : Later w2, l.val.cell? ⟨G, 0, none⟩ = some (.int .i64 x.idx) := y0
    have y1 : ∀ l : Later w2, l.val.cell? ⟨G, 1, none⟩ = some (.int .i64 x.wid) := y1
    clear HAC p0 p6 p7 hb0 HQL
    have HSC := Lib.hid (fun W => (show Makes Tryz.prog 190 #[.agg #[.int .i64 x.idx, .int .i64 x.wid]] W (.int .i64 (m : Int)) from HC.out ▸ SortCells_calls x.idx x.wid W))
    generalize x.wid = ww at *
    generalize x.idx = xi at *
    go_wp2
    go_loopw [8, 12] (fun aa j wr => ∃ (jj : Nat) (cv : Value) (aj : Int), jj ≤ m ∧ j = .int .i64 jj ∧ aa = .int .i64 aj ∧ Hid (aj = bitsTo M.nodes ps k + jj * ww ∧ OwnB wr (G + 1) 40 #[cv] ∧ AccI (G + 2) wr cv ((rowU M.nodes ps code k).take jj) ∧ LaterC w2 wr)) (fun _ j _ => m - (intOf j).toNat)
    case atStart => exact ⟨0, .slice none 0 0, av, Nat.zero_le _, rfl, rfl, Lib.hid ⟨by rw [HAV.out]; simp, HO3.out, by simpa using AccI.nil (G + 2) w3, HL3.out⟩⟩
    case round =>
     obtain ⟨j, cv, aj, hj, rfl, rfl, HR⟩ := hrel
     by_cases hlt2 : j < m
     · have hlt2' : (j : Int) < m := by omega
       have hck := HCK.out j hlt2'
       have HTK2 := Lib.hid (HTK.out j hlt2')
       rw [← HR.out.1] at hck HTK2
       obtain ⟨h1, h2, h3⟩ := hck
       have z0 := Later.cell (Later.cell (y0 ⟨w2, Below.refl _ _⟩) ⟨wr, HR.out.2.2.2.below⟩)
       have z1 := Later.cell (Later.cell (y1 ⟨w2, Below.refl _ _⟩) ⟨wr, HR.out.2.2.2.below⟩)
       have hq1 := pow_pos_i aj
       have hq2 : (2 : Int) ^ aj.toNat ≤ 256 := pow_le_i (by omega) (by omega)
       have hq3 := pow_pos_i ww
       have hq4 : (2 : Int) ^ ww.toNat ≤ 256 := pow_le_i (by omega) (by omega)
       have hd0 : 0 ≤ code / 2 ^ aj.toNat := Int.ediv_nonneg hc0 (by omega)
       have hz1 : ¬ (2 : Int) ^ ww.toNat = 0 := by omega
       have hz2 : ((2 : Int) ^ ww.toNat == 0) = false := by simpa using hz1
       refine at_world (w := wr) ?_
       intro v0
       go_upto_region 11 with (go_at_call 190; refine (HSC.out _).mono ?_; rintro e w4 ⟨rfl, hb⟩; have HB4 := Lib.hid (v0.prop.trans (hb.mono v0.size)); clear hb)
       have HO4 := Lib.hid (HR.out.2.1.below HB4.out HR.out.2.1.lt)
       have HA4 := Lib.hid (ownsRow_below HR.out.2.2.1 HB4.out)
       have HL4 := Lib.hid (laterC_step HR.out.2.2.2 HB4.out)
       have q0 : w4.cell? ⟨G + 1, 0, none⟩ = some cv := HO4.out.cell 0
       have z2 : w4.cell? ⟨G, 1, none⟩ = some (.int .i64 ww) := (HB4.out.cell (World.block_lt_of_cell? _ _ (z1 ⟨wr, Below.refl _ _⟩))).trans (z1 ⟨wr, Below.refl _ _⟩)
       have HQ4 := Lib.hid (show ∀ W, Below w4.heap.size w4 W → W.cell? ⟨G + 1, 0, none⟩ = some cv ∧ W.cell? ⟨G, 1, none⟩ = some (.int .i64 ww) from fun W h => ⟨keepcell h q0, keepcell h z2⟩)
       have HLO4 := Lib.hid (show G + 2 ≤ w4.heap.size by have := HO4.out.lt; omega)
       have HTL := Lib.hid (show ((rowU M.nodes ps code k).take j).length ≤ 1048576 from Nat.le_trans (List.length_take_le _ _) (by omega))
       have HTJ := Lib.hid (show ((rowU M.nodes ps code k).take j).length = j by rw [List.length_take, HRL.out]; omega)
       have HNE := Lib.hid (show ∀ b, cv.ownBlock = some b → G + 2 ≤ b ∧ b < w4.heap.size from fun b hb => HA4.out.lt b hb)
       have hu1 : IntKind.u64.wrap aj = aj := wrap_u64_id (by omega) (by omega)
       have hu2 : IntKind.u64.wrap ww = ww := wrap_u64_id (by omega) (by omega)
       have hwp : IntKind.i64.wrap (2 ^ ww.toNat) = 2 ^ ww.toNat := wrap_i64_id (by omega) (by omega)
       have htm : (code / 2 ^ aj.toNat).tmod (2 ^ ww.toNat) = code / 2 ^ aj.toNat % 2 ^ ww.toNat := Int.tmod_eq_emod_of_nonneg hd0
       clear z0 z1
       have q0a : ∀ o, (w4.alloc o).cell? ⟨G + 1, 0, none⟩ = some cv := fun o => keepcell ((Below.refl _ _).alloc (Nat.le_refl _) o) q0
       have z2a : ∀ o, (w4.alloc o).cell? ⟨G, 1, none⟩ = some (.int .i64 ww) := fun o => keepcell ((Below.refl _ _).alloc (Nat.le_refl _) o) z2
       have HTK3 := Lib.hid (show (rowU M.nodes ps code k).take (j + 1) = (rowU M.nodes ps code k).take j ++ [code / 2 ^ aj.toNat % 2 ^ ww.toNat] from HTK2.out)
       go_region_law ((refine step_append_int (by rfl) _ _ (by rfl) (G + 2) w4 _ w4.heap.size cv (code / 2 ^ aj.toNat % 2 ^ ww.toNat) _ j HTJ.out (by rfl) HA4.out HLO4.out HTL.out bax (heap_alloc_new w4 _) (by rfl) ?_; intro g cap wn hac hgrow hat; have HPD := Lib.hid (push_done (B := G + 1) (ys := (rowU M.nodes ps code k).take (j + 1)) HO4.out HL4.out (Nat.le_of_eq HG.out) bax (fun b hb => (HNE.out b hb).1) hgrow hat (by rw [HTK3.out]; exact hac)); have q1 : wn.cell? ⟨G + 1, 0, none⟩ = some cv := (hgrow.cell_far _ (by have := HLO4.out; simp; omega) (fun e => by have := HNE.out _ e.symm; simp at this)).trans (HQ4.out _ bax).1; have f1 : wn.frozen? ⟨G + 1, 0, none⟩ = false := (hgrow.frozen_far _ (by have := HLO4.out; simp; omega) (fun e => by have := HNE.out _ e.symm; simp at this)).trans ((HO4.out.below bax HO4.out.lt).frozen 0); have z3 : wn.cell? ⟨G, 1, none⟩ = some (.int .i64 ww) := (hgrow.cell_far _ (by have := HLO4.out; simp; omega) (fun e => by have := HNE.out _ e.symm; simp at this; omega)).trans (HQ4.out _ bax).2; clear hac hgrow hat))
       all_goals
        go_wp2
        go_roundw
        case rel => exact ⟨j + 1, _, aj + ww, by omega, by go_num, by go_num, Lib.hid ⟨by rw [HR.out.1]; push_cast; rw [Int.add_mul]; omega, HPD.out.1, HPD.out.2.1, HPD.out.2.2⟩⟩
        case measure => simp [intOf] <;> omega
     · obtain rfl : j = m := by omega
       have HRF := Lib.hid (show (rowU M.nodes ps code k).take j = rowU M.nodes ps code k by rw [← HRL.out, List.take_length])
       have z0 := Later.cell (Later.cell (y0 ⟨w2, Below.refl _ _⟩) ⟨wr, HR.out.2.2.2.below⟩)
       have z1 := Later.cell (Later.cell (y1 ⟨w2, Below.refl _ _⟩) ⟨wr, HR.out.2.2.2.below⟩)
       refine at_world (w := wr) ?_
       intro v0
       go_wp2_with (first | (at_builtin; refine wpList_append_acc (by rfl) _ _ (by rfl) w1 w2 w4 _ w4.heap.size sv cv svs _ (rowU M.nodes ps code k) (by rfl) HAC2.out HL2.out HL4.out.below HROW.out HCB.out hsl (box_below _ _ _) (OwnB.new _ _ _) (by rfl) ?_; intro v' u2 hac; have HACN := Lib.hid hac; clear hac) | (go_at_call 190; refine (HSC.out _).mono ?_; rintro e w4 ⟨rfl, hb⟩; have HB4 := Lib.hid (v0.prop.trans (hb.mono v0.size)); have HO4 := Lib.hid (HR.out.2.1.below HB4.out HR.out.2.1.lt); have HA4 := Lib.hid (ownsRow_below HR.out.2.2.1 HB4.out); have HL4 := Lib.hid (laterC_step HR.out.2.2.2 HB4.out); have q0 : w4.cell? ⟨G + 1, 0, none⟩ = some cv := HO4.out.cell 0; have HROW := Lib.hid (show RowI w4 cv (rowU M.nodes ps code k) from by have h := HA4.out; rw [HRF.out] at h; exact .of_owns h rfl (by rw [HRL.out]; omega)); have HCB := Lib.hid (show ∀ b, cv.ownBlock = some b → w2.heap.size ≤ b from fun b hb' => by have h1 := (HA4.out.lt b hb').1; have h2 := HG.out; omega); clear hb z0 z1))
       go_roundw
       case rel =>
        have hacn := HACN.out
        rw [← unpackN_succ] at hacn
        exact ⟨k + 1, _, _, aj, by omega, by go_num, rfl, rfl, Lib.hid ⟨by rw [HBT.out, HR.out.1], hacn⟩, ⟨u2, rfl⟩⟩
       case measure => simp [intOf] <;> omega
  · obtain rfl : k = q := by omega
    clear hA hB
    go_wp2
    go_ret
    exact ⟨_, svs, rfl, u.back HB.out, HAC.out.2.mono HB.out.size⟩
theorem RowI.setAt {w : World} {g n cap : Nat} {xs : List Int} (h : RowI w (.slice (some ⟨g, 0, none⟩) n cap) xs) {j : Nat} (hj : j < xs.length) (y : Int) : RowI (w.setCell ⟨g, j, none⟩ (.int .i64 y)) (.slice (some ⟨g, 0, none⟩) n cap) (xs.set j y) := by
 obtain ⟨hl, ⟨h0, -⟩ | ⟨g', cap', cur, hv, ho, hc, hs, hf⟩⟩ := h
 · cases h0
 · cases hv
   refine ⟨by simpa using hl, .inr ⟨g, cap, cur.setIfInBounds j (.int .i64 y), by simp, ho.set _ _, by simpa using hc, by simpa using hs, fun i x hx => ?_⟩⟩
   rw [List.getElem?_set] at hx
   by_cases e : j = i
   · subst e
     rw [if_pos rfl, if_pos hj] at hx
     cases hx
     rw [Array.getElem?_setIfInBounds_self_of_lt (by omega)]
   · rw [if_neg e] at hx
     rw [Array.getElem?_setIfInBounds_ne (by omega)]
     exact hf i x hx
theorem RowVs.setAt {lo : Nat} {w : World} {v : Value} {svs : List Value} {L : List (List Int)} (h : RowVs lo w v svs L) {k g n cap : Nat} (hk : svs[k]? = some (.slice (some ⟨g, 0, none⟩) n cap)) {xs : List Int} (hx : L[k]? = some xs) {j : Nat} (hj : j < xs.length) (y : Int) :
 RowVs lo (w.setCell ⟨g, j, none⟩ (.int .i64 y)) v svs (L.set k (xs.set j y)) := by
 obtain ⟨h1, h2, h3, h4, h5⟩ := h
 have hne := (h4 k _ xs hk hx).2 g rfl
 refine ⟨by simpa using h1, by simpa using h2, ?_, fun i sv ys hi hy => ?_, h5⟩
 · rcases h3 with ⟨rfl, rfl⟩ | ⟨g', cap', cur, rfl, hlo, ho, hc, hs, hf⟩
   · simp at hx
   · refine .inr ⟨g', cap', cur, by simp, hlo, ho.keep (fun e => hne.2 (by rw [e]; rfl)) _, by simpa using hc, hs, hf⟩
 · rw [List.getElem?_set] at hy
   by_cases e : k = i
   · subst e
     have hil := (List.getElem?_eq_some_iff.1 hx).1
     rw [if_pos rfl, if_pos hil] at hy
     cases hy
     rw [hk] at hi
     cases hi
     exact ⟨(h4 k _ xs hk hx).1.setAt hj y, (h4 k _ xs hk hx).2⟩
   · rw [if_neg e] at hy
     obtain ⟨k1, k2⟩ := h4 i sv ys hi hy
     refine ⟨k1.set (fun b hb e' => ?_) _, k2⟩
     subst e'
     rcases Nat.lt_or_ge k i with hlt | hge
     · exact h5 k i _ _ g hk hi hlt rfl hb
     · exact h5 i k _ _ g hi hk (by omega) hb rfl
theorem RowVs.outer {lo : Nat} {w : World} {v : Value} {svs : List Value} {L : List (List Int)} (h : RowVs lo w v svs L) {k : Nat} (hk : k < L.length) : ∃ g cap, v = .slice (some ⟨g, 0, none⟩) L.length cap ∧ L.length ≤ cap ∧ ∃ sv, svs[k]? = some sv ∧ w.cell? ⟨g, k, none⟩ = some sv := by
 obtain ⟨sv, hsv⟩ := h.get hk
 obtain ⟨h1, h2, ⟨rfl, rfl⟩ | ⟨g, cap, cur, rfl, hlo, ho, hc, hs, hf⟩, -⟩ := h
 · simp at hk
 · exact ⟨g, cap, rfl, hc, sv, hsv, by rw [ho.cell]; exact hf k sv hsv⟩
theorem RowI.shape {w : World} {sv : Value} {xs : List Int} (h : RowI w sv xs) : ∃ A c, sv = .slice A xs.length c := by
 obtain ⟨-, ⟨rfl, rfl⟩ | ⟨g, cap, cur, rfl, -⟩⟩ := h
 · exact ⟨_, _, rfl⟩
 · exact ⟨_, _, rfl⟩
theorem RowI.cellAt {w : World} {sv : Value} {xs : List Int} (h : RowI w sv xs) {j : Nat} (hj : j < xs.length) : ∃ g cap, sv = .slice (some ⟨g, 0, none⟩) xs.length cap ∧ w.cell? ⟨g, j, none⟩ = some (.int .i64 (xs.getD j 0)) ∧ w.frozen? ⟨g, j, none⟩ = false ∧ g < w.heap.size := by
 obtain ⟨-, ⟨rfl, rfl⟩ | ⟨g, cap, cur, rfl, ho, hc, hs, hf⟩⟩ := h
 · simp at hj
 · exact ⟨g, cap, rfl, by rw [ho.cell]; exact hf j _ (getD_at hj 0), ho.frozen j, ho.lt⟩
theorem unpackN_get {ns : List Nd} {ps : List Int} {code : Int} {n j : Nat} (hj : j < n) : (unpackN ns ps code n)[j]? = some (rowU ns ps code j) := by
 unfold unpackN
 rw [List.getElem?_map, List.getElem?_range hj]
 rfl
theorem unpack_of {ns : List Nd} {ps : List Int} {code : Int} {n : Nat} {L : List (List Int)} (hl : L.length = n) (h : ∀ j, j < n → L.getD j [] = rowU ns ps code j) : L = unpackN ns ps code n := by
 refine List.ext_getElem? fun i => ?_
 rcases Nat.lt_or_ge i n with g | g
 · rw [unpackN_get g, getD_at (by omega) [], h i g]
 · rw [List.getElem?_eq_none (by omega), List.getElem?_eq_none (by rw [unpackN_length]; exact g)]
theorem row_of {l l' : List Int} (h1 : l.length = l'.length) (h : ∀ i, i < l'.length → l.getD i 0 = l'.getD i 0) : l = l' := by
 refine List.ext_getElem? fun i => ?_
 rcases Nat.lt_or_ge i l'.length with g | g
 · rw [getD_at (by omega) 0, getD_at g 0, h i g]
 · rw [List.getElem?_eq_none (by omega), List.getElem?_eq_none g]
theorem rowU_get {ns : List Nd} {ps : List Int} {code : Int} {i k : Nat} (hk : (k : Int) < cellsN (ndAt ns ps i).idx (ndAt ns ps i).wid) :
 (rowU ns ps code i).getD k 0 = code / 2 ^ (bitsTo ns ps i + k * (ndAt ns ps i).wid).toNat % 2 ^ (ndAt ns ps i).wid.toNat := by
 have hl : k < (rowU ns ps code i).length := by rw [rowU_length]; omega
 rw [List.getD_eq_getElem?_getD, List.getElem?_eq_getElem hl]
 simp [rowU]
def MidOf (ns : List Nd) (ps : List Int) (code : Int) (q k m jj : Nat) (L : List (List Int)) : Prop :=
 L.length = q ∧ (∀ i, i < k → L.getD i [] = rowU ns ps code i) ∧ (∀ i, k < i → i < q → L.getD i [] = List.replicate (cellsN (ndAt ns ps i).idx (ndAt ns ps i).wid).toNat 0) ∧ (L.getD k []).length = m ∧ ∀ i, i < jj → (L.getD k []).getD i 0 = (rowU ns ps code k).getD i 0
theorem set_getD {α : Type} (L : List α) (k i : Nat) (x z : α) (hk : k < L.length) : (L.set k x).getD i z = if i = k then x else L.getD i z := by
 rw [List.getD_eq_getElem?_getD, List.getElem?_set, List.getD_eq_getElem?_getD]
 by_cases e : k = i
 · subst e; simp [hk]
 · rw [if_neg e, if_neg (fun h => e h.symm)]
theorem MidOf.step {ns : List Nd} {ps : List Int} {code : Int} {q k m jj : Nat} {L : List (List Int)} (h : MidOf ns ps code q k m jj L) (hk : k < q) (hj : jj < m) {y : Int} (hy : (rowU ns ps code k).getD jj 0 = y) : MidOf ns ps code q k m (jj + 1) (L.set k ((L.getD k []).set jj y)) := by
 obtain ⟨h1, h2, h3, h4, h5⟩ := h
 refine ⟨by simpa using h1, fun i hi => ?_, fun i hi hq => ?_, ?_, fun i hi => ?_⟩
 · rw [set_getD _ _ _ _ _ (by omega), if_neg (by omega)]; exact h2 i hi
 · rw [set_getD _ _ _ _ _ (by omega), if_neg (by omega)]; exact h3 i hi hq
 · rw [set_getD _ _ _ _ _ (by omega), if_pos rfl, List.length_set]; exact h4
 · rw [set_getD _ _ _ _ _ (by omega), if_pos rfl, set_getD _ _ _ _ _ (by omega)]
   by_cases e : i = jj
   · rw [if_pos e, e, hy]
   · rw [if_neg e]; exact h5 i (by omega)
def OutOf (ns : List Nd) (ps : List Int) (code : Int) (q k : Nat) (L : List (List Int)) : Prop :=
 L.length = q ∧ (∀ i, i < k → L.getD i [] = rowU ns ps code i) ∧ (∀ i, k ≤ i → i < q → L.getD i [] = List.replicate (cellsN (ndAt ns ps i).idx (ndAt ns ps i).wid).toNat 0)
theorem OutOf.mid {ns : List Nd} {ps : List Int} {code : Int} {q k m : Nat} {L : List (List Int)} (h : OutOf ns ps code q k L) (hk : k < q) (hm : (cellsN (ndAt ns ps k).idx (ndAt ns ps k).wid).toNat = m) : MidOf ns ps code q k m 0 L :=
 ⟨h.1, h.2.1, fun i hi hq => h.2.2 i (by omega) hq, by rw [h.2.2 k (Nat.le_refl _) hk, List.length_replicate, hm], fun i hi => absurd hi (Nat.not_lt_zero _)⟩
theorem MidOf.out {ns : List Nd} {ps : List Int} {code : Int} {q k m : Nat} {L : List (List Int)} (h : MidOf ns ps code q k m m L) (hm : (cellsN (ndAt ns ps k).idx (ndAt ns ps k).wid).toNat = m) : OutOf ns ps code q (k + 1) L := by
 obtain ⟨h1, h2, h3, h4, h5⟩ := h
 refine ⟨h1, fun i hi => ?_, fun i hi hq => h3 i (by omega) hq⟩
 rcases Nat.lt_or_ge i k with g | g
 · exact h2 i g
 · obtain rfl : i = k := by omega
   exact row_of (by rw [h4, rowU_length, hm]) fun i hi => h5 i (by rw [rowU_length, hm] at hi; exact hi)
theorem zerosN_get (ns : List Nd) (ps : List Int) : ∀ {n i : Nat}, i < n → (zerosN ns ps n)[i]? = some (List.replicate (cellsN (ndAt ns ps i).idx (ndAt ns ps i).wid).toNat 0)
 | n + 1, i, hi => by
   rw [zerosN]
   rcases Nat.lt_or_ge i n with g | g
   · rw [List.getElem?_append_left (by rw [zerosN_length]; exact g)]; exact zerosN_get ns ps g
   · obtain rfl : i = n := by omega
     rw [List.getElem?_append_right (by rw [zerosN_length]; exact Nat.le_refl _), zerosN_length, Nat.sub_self]; rfl
theorem outOf_zeros (ns : List Nd) (ps : List Int) (code : Int) (q : Nat) : OutOf ns ps code q 0 (zerosN ns ps q) :=
 ⟨zerosN_length _ _ _, fun i hi => absurd hi (Nat.not_lt_zero _), fun i _ hq => by rw [List.getD_eq_getElem?_getD, zerosN_get ns ps hq]; rfl⟩
theorem div_pow_step {c a b : Int} (ha : 0 ≤ a) (hb : 0 ≤ b) : c / 2 ^ a.toNat / 2 ^ b.toNat = c / 2 ^ (a + b).toNat := by
 have h := pow_pos_i a
 rw [pow_add_i _ _ ha hb, Int.ediv_ediv, if_neg (by omega), Int.sub_zero]
theorem of_calls (mv pv : Value) (M : Md) (ps : List Int) (code : Int) (w : World) (hM : MdAt w mv M) (hP : SlN enI w pv ps) (hI : InN ps M.nodes.length) (hsz : ps.length ≤ 1048576) (h8 : bitsTo M.nodes ps ps.length ≤ 8) (hc0 : 0 ≤ code) (hc1 : code ≤ 65535) :
 Calls Tryz.prog 128 #[mv, pv, .int .i64 code] w fun e w' => ∃ v svs, e = .returned v ∧ Below w.heap.size w w' ∧ RowVs w.heap.size w' v svs (unpackN M.nodes ps code ps.length) := by
 have HM := Lib.hid hM
 have HP := Lib.hid hP
 obtain ⟨s0, s1, s2, s3, s4, rfl, hS, -, -, -, -⟩ := hM.at_
 obtain ⟨A, c, rfl, hnc, hc', hA⟩ := hS
 obtain ⟨B, d, rfl, -, hd', hB⟩ := hP
 clear hM
 have HCU := Lib.hid (cellU h8)
 have HI := Lib.hid hI
 have HSZ := Lib.hid hsz
 generalize hN : M.nodes.length = n at *
 have HN := Lib.hid hN
 have HI2 := Lib.hid (show InN ps M.nodes.length by rw [hN]; exact hI)
 generalize hQ : ps.length = q at *
 have HQ := Lib.hid hQ
 have hn : n ≤ 281474976710656 := Nat.le_trans hnc hc'
 clear hN hI hnc hc' h8
 go_enter Tryz.func128, Tryz.ntmps128
 have m0 := box_cell w #[.slice A n c, s1, s2, s3, s4] 27 0 _ rfl
 have m1 := box_cell w #[.slice A n c, s1, s2, s3, s4] 27 1 _ rfl
 have m2 := box_cell w #[.slice A n c, s1, s2, s3, s4] 27 2 _ rfl
 have m3 := box_cell w #[.slice A n c, s1, s2, s3, s4] 27 3 _ rfl
 have m4 := box_cell w #[.slice A n c, s1, s2, s3, s4] 27 4 _ rfl
 have HB := Lib.hid (box_below w #[.slice A n c, s1, s2, s3, s4] 27)
 go_upto_region 1 with fail
 generalize w.alloc (Obj.cells #[.slice A n c, s1, s2, s3, s4] 27) = w1 at *
 have m0 : ∀ u : Later w1, u.val.cell? ⟨w.heap.size, 0, none⟩ = some (.slice A n c) := m0
 have m1 : ∀ u : Later w1, u.val.cell? ⟨w.heap.size, 1, none⟩ = some s1 := m1
 have m2 : ∀ u : Later w1, u.val.cell? ⟨w.heap.size, 2, none⟩ = some s2 := m2
 have m3 : ∀ u : Later w1, u.val.cell? ⟨w.heap.size, 3, none⟩ = some s3 := m3
 have m4 : ∀ u : Later w1, u.val.cell? ⟨w.heap.size, 4, none⟩ = some s4 := m4
 refine at_world (w := w1) ?_
 intro u0
 go_upto_region 2 with (go_at_call 191; refine (zeros_calls _ _ M ps _ ((HM.out.below HB.out).later u0) ((HP.out.below HB.out).later u0) HI2.out (by rw [HQ.out]; exact HSZ.out)).mono ?_; rintro e w2 ⟨v, svs, rfl, hb, hac⟩; have HRV := Lib.hid ((hac.mono u0.size).rowVs (by rw [zerosN_length, HQ.out]; have := HSZ.out; omega)); have HL2 := Lib.hid (laterC_step (w1 := w1) ⟨u0, rfl⟩ hb); clear hb hac)
 rw [HQ.out] at HRV
 clear m1 m2 m3 m4 hQ
 go_wp2
 go_loopw [2, 17] (fun cc i wr => ∃ (k : Nat) (L : List (List Int)) (cv : Int), k ≤ q ∧ i = .int .i64 k ∧ cc = .int .i64 cv ∧ Hid (cv = code / 2 ^ (bitsTo M.nodes ps k).toNat ∧ RowVs w1.heap.size wr v svs L ∧ OutOf M.nodes ps code q k L) ∧ LaterC w1 wr) (fun _ i _ => q - (intOf i).toNat)
 case atStart => exact ⟨0, _, code, Nat.zero_le _, rfl, rfl, Lib.hid ⟨by simp [bitsTo], HRV.out, outOf_zeros _ _ _ _⟩, HL2.out⟩
 case round =>
  obtain ⟨k, L, cv, hk, rfl, rfl, HR, ⟨u, rfl⟩⟩ := hrel
  by_cases hlt : k < q
  · have hlt' : (k : Int) < q := by omega
    have hgp := getD_at (show k < ps.length by rw [HQ.out]; exact hlt) 0
    obtain ⟨p, hp, hpn⟩ := HI2.out k _ hgp
    obtain ⟨bp, op, rfl, hpx⟩ := hB k _ hgp
    have hgn := getD_at hpn Nd.zero
    obtain ⟨bn, on, rfl, hnx⟩ := hA p _ hgn
    have hpn2 : p < n := by rw [← HN.out]; exact hpn
    have hnd : ndAt M.nodes ps k = M.nodes.getD p Nd.zero := by unfold ndAt; rw [hp]; rfl
    have HCK := Lib.hid (fun (j : Nat) (hj : (j : Int) < cellsN (ndAt M.nodes ps k).idx (ndAt M.nodes ps k).wid) => HCU.out k j hlt hj)
    have HRG := Lib.hid (fun (j : Nat) (hj : (j : Int) < cellsN (ndAt M.nodes ps k).idx (ndAt M.nodes ps k).wid) => rowU_get (code := code) hj)
    have HBT := Lib.hid (show bitsTo M.nodes ps (k + 1) = bitsTo M.nodes ps k + cellsN (ndAt M.nodes ps k).idx (ndAt M.nodes ps k).wid * (ndAt M.nodes ps k).wid by rw [bitsTo, (cells_bits _ _).1])
    have hcb := cells_bits (ndAt M.nodes ps k).idx (ndAt M.nodes ps k).wid
    obtain ⟨m, hm⟩ := Int.eq_ofNat_of_zero_le hcb.2.2.1
    have hm4 : m ≤ 4 := by omega
    have HC := Lib.hid (show (cellsN (ndAt M.nodes ps k).idx (ndAt M.nodes ps k).wid).toNat = m by rw [hm]; rfl)
    unfold CellU at HCK
    rw [hm] at HCK HRG HBT
    rw [hnd] at HCK HRG HBT
    rw [hp] at hpx
    have HMID := Lib.hid (HR.out.2.2.mid hlt HC.out)
    have p0 : ∀ l : Later w1, l.val.cell? ⟨bp, op + k, none⟩ = some (.int .i64 (p : Int)) := hpx.int HB.out
    have p7 : ∀ l : Later w1, l.val.cell? ⟨bn, on + p * 9 + 7, none⟩ = some (.int .i64 (M.nodes.getD p Nd.zero).wid) := hnx.at_ HB.out 7 _ rfl
    generalize (M.nodes.getD p Nd.zero).wid = ww at *
    obtain ⟨g, cap, hv, hcap, sv, hsv, hcell⟩ := HR.out.2.1.outer (k := k) (by rw [HR.out.2.2.1]; exact hlt)
    rw [HR.out.2.2.1] at hv hcap
    subst hv
    have hgl := getD_at (show k < L.length by rw [HR.out.2.2.1]; exact hlt) []
    obtain ⟨As, cs, hsve⟩ := (HR.out.2.1.2.2.2.1 k sv _ hsv hgl).1.shape
    rw [HMID.out.2.2.2.1] at hsve
    subst hsve
    have HSV := Lib.hid hsv
    clear hgp hgn hpx hnx hp hpn hA hB hnd hcb hm hsv hgl
    go_wp2
    go_loopw [2, 35] (fun cc j wr => ∃ (jj : Nat) (L2 : List (List Int)) (cj : Int), jj ≤ m ∧ j = .int .i64 jj ∧ cc = .int .i64 cj ∧ Hid (cj = code / 2 ^ (bitsTo M.nodes ps k + jj * ww).toNat ∧ RowVs w1.heap.size wr (.slice (some ⟨g, 0, none⟩) q cap) svs L2 ∧ MidOf M.nodes ps code q k m jj L2) ∧ LaterC w1 wr) (fun _ j _ => m - (intOf j).toNat)
    case atStart => exact ⟨0, L, cv, Nat.zero_le _, rfl, rfl, Lib.hid ⟨by rw [HR.out.1]; simp, HR.out.2.1, HMID.out⟩, ⟨u, rfl⟩⟩
    case round =>
     obtain ⟨jj, L2, cj, hj, rfl, rfl, HR2, ⟨v0, rfl⟩⟩ := hrel
     by_cases hlt2 : jj < m
     · have hlt2' : (jj : Int) < m := by omega
       have hck := HCK.out jj hlt2'
       have HRG2 := Lib.hid (HRG.out jj hlt2')
       have HAJ := Lib.hid (show bitsTo M.nodes ps k + ((jj + 1 : Nat) : Int) * ww = bitsTo M.nodes ps k + jj * ww + ww by push_cast; rw [Int.add_mul]; omega)
       obtain ⟨h1, h2, h3⟩ := hck
       generalize bitsTo M.nodes ps k + jj * ww = aj at *
       have hq1 := pow_pos_i aj
       have hq3 := pow_pos_i ww
       have hq4 : (2 : Int) ^ ww.toNat ≤ 256 := pow_le_i (by omega) (by omega)
       have hcj0 : 0 ≤ cj := by rw [HR2.out.1]; exact Int.ediv_nonneg hc0 (by omega)
       have hcj1 : cj ≤ 65535 := by rw [HR2.out.1]; have := Int.ediv_le_self (b := 2 ^ aj.toNat) hc0; omega
       obtain ⟨g', cap', hv, -, sv', hsv', hcell'⟩ := HR2.out.2.1.outer (k := k) (by rw [HR2.out.2.2.1]; exact hlt)
       rw [HR2.out.2.2.1] at hv
       cases hv
       rw [HSV.out] at hsv'
       cases hsv'
       have hgl2 := getD_at (show k < L2.length by rw [HR2.out.2.2.1]; exact hlt) []
       have hrk := HR2.out.2.1.2.2.2.1 k _ _ HSV.out hgl2
       obtain ⟨gk, capk, hse, hck0, hfr, hgk⟩ := hrk.1.cellAt (j := jj) (by rw [HR2.out.2.2.2.2.2.1]; exact hlt2)
       rw [HR2.out.2.2.2.2.2.1] at hse
       cases hse
       have HGK := Lib.hid (hrk.2 gk rfl).1
       have c0 := Later.cell hcell'
       have d0 := Later.cell hck0
       have f0 : ∀ l : Later v0.val, l.val.frozen? ⟨gk, jj, none⟩ = false := Later.frozen hfr hgk
       have HGL2 := Lib.hid hgl2
       generalize (L2.getD k []).getD jj 0 = y0 at *
       have HAM := Lib.hid (and_mask cj ww.toNat (by omega))
       clear hcell hcell' hck0 hfr hrk hgl2
       go_wp2
       refine wp_region_later_tail (w0 := v0.val) 11 (by kernel_rfl) (by kernel_rfl) (LaterC.refl _) ?_
       simp only [List.take_succ_cons, List.take_zero, List.drop_succ_cons, List.drop_zero]
       repeat (go_big_quiet_step ((go_at_call 80; exact Calls.later (Makes.of_same (mask_same ww _ (by omega) (by omega))))))
       refine wpQuiet_nil ?_
       rintro _ ⟨u1, rfl⟩
       go_wp2
       go_roundw
       case rel =>
        have hrv := (HR2.out.2.1.below u1.prop).setAt HSV.out HGL2.out (j := jj) (by rw [HR2.out.2.2.2.2.2.1]; exact hlt2) (bits .and .i64 cj (2 ^ ww.toNat - 1))
        have hmid := HR2.out.2.2.step hlt hlt2 (y := bits .and .i64 cj (2 ^ ww.toNat - 1)) (by rw [HRG2.out, HAM.out, HR2.out.1])
        refine ⟨jj + 1, _, cj / 2 ^ ww.toNat, by omega, by go_num, rfl, Lib.hid ⟨?_, hrv, hmid⟩, LaterC.setCell' (LaterC.trans ⟨v0, rfl⟩ ⟨u1, rfl⟩) _ _ HGK.out⟩
        rw [HAJ.out, HR2.out.1, div_pow_step h1 (by omega)]
       case measure => simp [intOf] <;> omega
     · obtain rfl : jj = m := by omega
       go_wp2
       go_roundw
       case rel => exact ⟨k + 1, L2, cj, by omega, by go_num, rfl, Lib.hid ⟨by rw [HR2.out.1, HBT.out], HR2.out.2.1, HR2.out.2.2.out HC.out⟩, ⟨v0, rfl⟩⟩
       case measure => simp [intOf] <;> omega
  · obtain rfl : k = q := by omega
    have HU := Lib.hid (unpack_of HR.out.2.2.1 fun j hj => HR.out.2.2.2.1 j hj)
    clear hA hB
    go_wp2
    go_ret
    exact ⟨v, svs, rfl, u.back HB.out, by rw [← HU.out]; exact HR.out.2.1.mono HB.out.size⟩
end Go.Proofs.YtbenebcphaiohaaGreat
