import Derived.Test.YtdojaijnejcoiaaGreatmc9
import Derived.Deep.RegionLaw
set_option linter.unusedVariables false
set_option linter.unusedSimpArgs false
set_option maxRecDepth 8000
set_option maxHeartbeats 16000000
namespace Go.Proofs.YtdojaijnejcoiaaGreat
open Go.RowKit
theorem laterC_but {w1 W w' : World} {g : Nat} (h : LaterC w1 W) (hb : But (fun b => b = g) W w') (hg : w1.heap.size ≤ g) : LaterC w1 w' :=
 .of (h.below.trans (hb.below (fun k e => by subst e; exact hg) h.size))
def ClosedB (M : Md) (L : List Bool) (k : Nat) : Prop := ∀ (q : Nat) (b : Bd), q < k → tt L q → b ∈ M.inits ++ M.nexts → b.st = (q : Int) → tt L b.nd.toNat
def Roots (M : Md) (L : List Bool) : Prop := ∀ x, x ∈ M.bads ++ M.holds → tt L x.toNat
def LoopB (M : Md) (L L' : List Bool) (k : Nat) (more : Bool) : Prop :=
 Good M L' ∧ Roots M L' ∧ fls L' ≤ fls L ∧ (more = true → fls L' < fls L) ∧ (more = false → ClosedB M L' k)
def Phase (M : Md) (xs : List Bd) (k : Nat) (L L' : List Bool) (more : Bool) : Prop :=
 Good M L' ∧ (∀ j, tt L j → tt L' j) ∧ fls L' ≤ fls L ∧ (more = true → fls L' < fls L) ∧ (more = false → ∀ j, tt L' j → tt L j) ∧ ∀ b, b ∈ xs → b.st = (k : Int) → tt L' b.nd.toNat
theorem Phase.none {M : Md} {xs : List Bd} {k : Nat} {L : List Bool} (h : Good M L) (ha : againB xs = false) (hb : bdQ (k : Int) xs < 0) (hp : ∀ b, b ∈ xs → 0 ≤ b.nd) : Phase M xs k L L false :=
 ⟨h, fun _ h => h, Nat.le_refl _, fun h => (by cases h), fun _ _ h => h, fun b hm hs => by
  have h1 := bq_of ha hm
  rw [hs] at h1
  have := hp b hm
  omega⟩
theorem Phase.join {M : Md} {xs : List Bd} {k a : Nat} {L L' : List Bool} {more : Bool} (h : Good M L) (ha : againB xs = false) (hk : Kept M a) (hb : bdQ (k : Int) xs = (a : Int)) (hj : JoinP M.nodes a L L' more) : Phase M xs k L L' more := by
 refine ⟨h.join hk hj, fun j g => (hj.2.1 j).2 (.inl g), hj.2.2.1, hj.2.2.2.1, fun hm j g => ?_, fun b hm hs => ?_⟩
 · rcases (hj.2.1 j).1 g with e | e
   · exact e
   · exact hj.2.2.2.2 hm j e
 · have h1 := bq_of ha hm
   rw [hs, hb] at h1
   rw [← h1, Int.toNat_natCast]
   exact (hj.2.1 a).2 (.inr .self)
theorem LoopB.skip {M : Md} {L L' : List Bool} {k : Nat} {more : Bool} (h : LoopB M L L' k more) (hn : tt L' k → ∀ b, b ∈ M.inits ++ M.nexts → b.st ≠ (k : Int)) : LoopB M L L' (k + 1) more := by
 obtain ⟨h1, h2, h3, h4, h5⟩ := h
 refine ⟨h1, h2, h3, h4, fun hm q b hq ht hb hs => ?_⟩
 rcases Nat.lt_or_ge q k with g | g
 · exact h5 hm q b g ht hb hs
 · obtain rfl : q = k := by omega
   exact absurd hs (hn ht b hb)
theorem LoopB.step {M : Md} {L L' L1 L2 : List Bool} {k : Nat} {more m1 m2 : Bool} (h : LoopB M L L' k more) (p1 : Phase M M.inits k L' L1 m1) (p2 : Phase M M.nexts k L1 L2 m2) : LoopB M L L2 (k + 1) (m2 || (m1 || more)) := by
 obtain ⟨h1, h2, h3, h4, h5⟩ := h
 obtain ⟨a1, a2, a3, a4, a5, a6⟩ := p1
 obtain ⟨b1, b2, b3, b4, b5, b6⟩ := p2
 refine ⟨b1, fun x hx => b2 _ (a2 _ (h2 x hx)), by omega, fun hm => ?_, fun hm q b hq ht hb hs => ?_⟩
 · cases m2
   · cases m1
     · have := h4 (by simpa using hm); omega
     · have := a4 rfl; omega
   · have := b4 rfl; omega
 · cases m2
   · cases m1
     · have hm' : more = false := by simpa using hm
       rcases Nat.lt_or_ge q k with g | g
       · exact b2 _ (a2 _ (h5 hm' q b g (a5 rfl _ (b5 rfl _ ht)) hb hs))
       · obtain rfl : q = k := by omega
         rcases List.mem_append.1 hb with e | e
         · exact b2 _ (a6 b e hs)
         · exact b6 b e hs
     · simp at hm
   · simp at hm
theorem need_done {M : Md} {L : List Bool} (hc : codeN M = 0) (hg : Good M L) (hr : Roots M L) (hb : ClosedB M L M.nodes.length) : L = keptL M := by
 refine kept_eq hc hg.1 (kept_of hg.2.1 hr fun q j hq hs => ?_)
 rcases hs with hs | ⟨b, h1, h2, rfl⟩
 · exact hg.2.2 q j hq hs
 · exact hb q b (by have := tt_lt hq; rw [hg.1] at this; exact this) hq h1 h2
theorem tt_rep (n j : Nat) : ¬ tt (List.replicate n false) j := by
 intro hj
 unfold tt at hj
 rw [List.getD_eq_getElem?_getD, List.getElem?_replicate] at hj
 split at hj <;> cases hj
theorem good_rep (M : Md) {n : Nat} (h : n = M.nodes.length) : Good M (List.replicate n false) :=
 ⟨by rw [List.length_replicate, h], fun j hj => absurd hj (tt_rep n j), fun q j hq => absurd hq (tt_rep n q)⟩
theorem l9JoinN_calls (mv : Value) (M : Md) (g a n : Nat) (L : List Bool) (w : World) (hn : M.nodes.length = n) (hM : MdAt w mv M) (hO : OwnL w g L) (hl : L.length = M.nodes.length) (ha : a < M.nodes.length) (hd : Down M.nodes n) :
 Calls Tryz.prog 44 #[mv, .slice (some ⟨g, 0, none⟩) n n, .int .i64 (a : Int)] w fun e w' => JoinPost g M.nodes a L w e w' := by
 subst hn
 exact l9Join_calls mv M g a L w hM hO hl ha hd
def NeedPost (M : Md) (w : World) (e : Ending) (w' : World) : Prop := ∃ g, e = .returned (.slice (some ⟨g, 0, none⟩) M.nodes.length M.nodes.length) ∧ Below w.heap.size w w' ∧ w.heap.size ≤ g ∧ OwnL w' g (keptL M)
theorem l9Need_calls (mv : Value) (M : Md) (w : World) (hM : MdAt w mv M) (hco : codeN M = 0) :
 Calls Tryz.prog 15 #[mv] w fun e w' => NeedPost M w e w' := by
 have HM := Lib.hid hM
 have HCO := Lib.hid hco
 have HD := Lib.hid (nodes_down (code_q hco).2.1)
 obtain ⟨s0, s1, s2, s3, s4, rfl, h0s, h1s, h2s, h3s, h4s⟩ := hM.at_
 have HSI := Lib.hid h1s
 have HSN := Lib.hid h2s
 obtain ⟨NA, nc, rfl, hnc, hnc', hNA⟩ := h0s
 obtain ⟨BA, bc, rfl, hbc, hbc', hBA⟩ := h3s
 obtain ⟨HA, hc, rfl, hhc, hhc', hHA⟩ := h4s
 have hn2 : M.nodes.length ≤ 281474976710656 := Nat.le_trans hnc hnc'
 have hb2 : M.bads.length ≤ 281474976710656 := Nat.le_trans hbc hbc'
 have hh2 : M.holds.length ≤ 281474976710656 := Nat.le_trans hhc hhc'
 have HNA := Lib.hid hNA
 have HBA := Lib.hid hBA
 have HHA := Lib.hid hHA
 clear hM hco h1s h2s hnc hnc' hbc hbc' hhc hhc' hNA hBA hHA
 unfold NeedPost
 generalize hn : M.nodes.length = n at *
 have HN := Lib.hid hn
 generalize hnb : M.bads.length = nb at *
 have HNB := Lib.hid hnb
 generalize hnh : M.holds.length = nh at *
 have HNH := Lib.hid hnh
 clear hn hnb hnh
 have hmk := make_any (P := Tryz.prog) 41 4 (.bool false) 1 1 Tryz.underlying41 (by kernel_rfl) n (by omega) (by omega)
 simp only [Value.cells, Nat.mul_one] at hmk
 go_enter Tryz.func15, Tryz.ntmps15
 have HB := Lib.hid (box_below w #[.slice NA n nc, s1, s2, .slice BA nb bc, .slice HA nh hc] 31)
 have m0 := box_cell w #[.slice NA n nc, s1, s2, .slice BA nb bc, .slice HA nh hc] 31 0 _ rfl
 have m1 := box_cell w #[.slice NA n nc, s1, s2, .slice BA nb bc, .slice HA nh hc] 31 1 _ rfl
 have m2 := box_cell w #[.slice NA n nc, s1, s2, .slice BA nb bc, .slice HA nh hc] 31 2 _ rfl
 have m3 := box_cell w #[.slice NA n nc, s1, s2, .slice BA nb bc, .slice HA nh hc] 31 3 _ rfl
 have m4 := box_cell w #[.slice NA n nc, s1, s2, .slice BA nb bc, .slice HA nh hc] 31 4 _ rfl
 have HSZ := Lib.hid (show (w.alloc (.cells #[.slice NA n nc, s1, s2, .slice BA nb bc, .slice HA nh hc] 31)).heap.size = w.heap.size + 1 by simp)
 go_upto_region 1 with fail
 generalize w.alloc (.cells #[.slice NA n nc, s1, s2, .slice BA nb bc, .slice HA nh hc] 31) = w1 at *
 replace m0 : ∀ u : Later w1, u.val.cell? ⟨w.heap.size, 0, none⟩ = some (.slice NA n nc) := m0
 replace m1 : ∀ u : Later w1, u.val.cell? ⟨w.heap.size, 1, none⟩ = some s1 := m1
 replace m2 : ∀ u : Later w1, u.val.cell? ⟨w.heap.size, 2, none⟩ = some s2 := m2
 replace m3 : ∀ u : Later w1, u.val.cell? ⟨w.heap.size, 3, none⟩ = some (.slice BA nb bc) := m3
 replace m4 : ∀ u : Later w1, u.val.cell? ⟨w.heap.size, 4, none⟩ = some (.slice HA nh hc) := m4
 have HM1 := Lib.hid (HM.out.below HB.out)
 have HS1 := Lib.hid (HSI.out.below HB.out)
 have HS2 := Lib.hid (HSN.out.below HB.out)
 refine at_world (w := w1) ?_
 intro u0
 go_upto_region 2 with fail
 have HO := Lib.hid (OwnL.made u0.val n)
 have HL2 : LaterC w1 (u0.val.alloc (.cells (madeCells #[.bool false] n) 4)) := u0.alloc _
 have HGG := Lib.hid (show w1.heap.size ≤ u0.val.heap.size from u0.size)
 clear hmk
 generalize u0.val.alloc (.cells (madeCells #[.bool false] n) 4) = w2 at *
 generalize u0.val.heap.size = g at *
 obtain ⟨v0, rfl⟩ := HL2
 clear u0
 have HST := Lib.hid (show OwnL v0.val g (List.replicate n false) ∧ Good M (List.replicate n false) from ⟨HO.out, good_rep M (by rw [HN.out])⟩)
 go_upto_region 3 with fail
 go_loopw [4] (fun i wr => ∃ (k : Nat) (L : List Bool), k ≤ nb ∧ i = .int .i64 k ∧ Hid (OwnL wr g L ∧ Good M L ∧ (∀ j, j < k → tt L (M.bads.getD j 0).toNat)) ∧ LaterC w1 wr) (fun i _ => nb - (intOf i).toNat)
 case atStart => exact ⟨0, _, Nat.zero_le _, rfl, Lib.hid ⟨HST.out.1, HST.out.2, fun j hj => absurd hj (Nat.not_lt_zero _)⟩, ⟨v0, rfl⟩⟩
 case round =>
  obtain ⟨k, L, hk, rfl, HI, ⟨u, rfl⟩⟩ := hrel
  by_cases hlt : k < nb
  · have hlt' : (k : Int) < nb := by omega
    have hgx := getD_at (show k < M.bads.length by rw [HNB.out]; exact hlt) 0
    obtain ⟨bx, ox, rfl, hx⟩ := HBA.out k _ hgx
    have HRT := Lib.hid (show M.bads.getD k 0 ∈ M.bads ++ M.holds from List.mem_append_left _ (List.mem_of_getElem? hgx))
    have hrq := root_q HCO.out HRT.out
    obtain ⟨a, ha⟩ := Int.eq_ofNat_of_zero_le hrq.1
    have HAE := Lib.hid ha
    have HKA := Lib.hid (show Kept M a by have h := Kept.root HRT.out; rw [ha, Int.toNat_natCast] at h; exact h)
    have p0 : ∀ l : Later w1, l.val.cell? ⟨bx, ox + k, none⟩ = some (.int .i64 (a : Int)) := ha ▸ hx.int HB.out
    have hal : a < M.nodes.length := by omega
    clear hx hgx hrq ha
    have HOL := Lib.hid HI.out.1
    have HGD := Lib.hid HI.out.2.1
    have HQL := Lib.hid (show ∀ w', LaterC w1 w' → w'.cell? ⟨w.heap.size, 0, none⟩ = some (.slice NA n nc) ∧ w'.cell? ⟨w.heap.size, 1, none⟩ = some s1 ∧ w'.cell? ⟨w.heap.size, 2, none⟩ = some s2 ∧ w'.cell? ⟨w.heap.size, 3, none⟩ = some (.slice (some ⟨bx, ox, none⟩) nb bc) ∧ w'.cell? ⟨w.heap.size, 4, none⟩ = some (.slice HA nh hc) ∧ w'.cell? ⟨bx, ox + k, none⟩ = some (.int .i64 (a : Int)) from fun W h => by
     obtain ⟨v, rfl⟩ := h
     exact ⟨m0 v, m1 v, m2 v, m3 v, m4 v, p0 v⟩)
    go_upto_region 5 with fail
    go_region_held3 (fun w' => w'.cell? ⟨w.heap.size, 0, none⟩ = some (.slice NA n nc) ∧ w'.cell? ⟨w.heap.size, 1, none⟩ = some s1 ∧ w'.cell? ⟨w.heap.size, 2, none⟩ = some s2 ∧ w'.cell? ⟨w.heap.size, 3, none⟩ = some (.slice (some ⟨bx, ox, none⟩) nb bc) ∧ w'.cell? ⟨w.heap.size, 4, none⟩ = some (.slice HA nh hc) ∧ w'.cell? ⟨bx, ox + k, none⟩ = some (.int .i64 (a : Int))) ((refine HQL.out _ ?_; repeat (first | exact ⟨_, rfl⟩ | exact LaterC.refl _ | refine LaterC.drew' ?_ | refine LaterC.alloc' ?_ _))) (first | (go_at_call 44; refine (l9JoinN_calls _ M g a n L _ HN.out (HM1.out.below (LaterC.below (w1 := w1) (by repeat (first | exact ⟨_, rfl⟩ | exact LaterC.refl _ | refine LaterC.drew' ?_ | refine LaterC.alloc' ?_ _)))) (HOL.out.below (by first | exact Below.refl _ _ | exact (Below.refl _ _).drew)) HGD.out.1 hal HD.out).mono ?_; rintro e w' ⟨L', more, rfl, hbut, hown, hj⟩; have HJ := Lib.hid (And.intro hown hj); obtain ⟨v1, hv1⟩ := laterC_but (w1 := w1) (by repeat (first | exact ⟨_, rfl⟩ | exact LaterC.refl _ | refine LaterC.drew' ?_ | refine LaterC.alloc' ?_ _)) hbut HGG.out; subst hv1; clear hbut hown hj))
    have HNX := Lib.hid (show OwnL v1.val g L' ∧ Good M L' ∧ (∀ j, j < k + 1 → tt L' (M.bads.getD j 0).toNat) from ⟨HJ.out.1, HGD.out.join HKA.out HJ.out.2, fun j hj => (HJ.out.2.2.1 _).2 (by
     rcases Nat.lt_or_ge j k with h1 | h1
     · exact .inl (HI.out.2.2 j h1)
     · obtain rfl : j = k := by omega
       right
       rw [HAE.out, Int.toNat_natCast]
       exact .self)⟩)
    go_wp2
    go_roundw
    case rel => exact ⟨k + 1, L', by omega, by go_num, HNX, ⟨v1, rfl⟩⟩
    case measure => simp [intOf] <;> omega
  · obtain rfl : nb = k := by omega
    have HST2 := Lib.hid (show OwnL u.val g L ∧ Good M L ∧ (∀ x, x ∈ M.bads → tt L x.toNat) from ⟨HI.out.1, HI.out.2.1, fun x hx => by
     obtain ⟨j, hj⟩ := List.getElem?_of_mem hx
     have hjl := (List.getElem?_eq_some_iff.1 hj).1
     have h1 := HI.out.2.2 j (by have := HNB.out; omega)
     have h2 := getD_at hjl (0 : Int)
     rw [hj] at h2
     rw [← Option.some.inj h2] at h1
     exact h1⟩)
    go_upto_region 7 with fail
    go_loopw [5] (fun i wr => ∃ (k : Nat) (L : List Bool), k ≤ nh ∧ i = .int .i64 k ∧ Hid (OwnL wr g L ∧ Good M L ∧ (∀ j, j < k → tt L (M.holds.getD j 0).toNat) ∧ (∀ x, x ∈ M.bads → tt L x.toNat)) ∧ LaterC w1 wr) (fun i _ => nh - (intOf i).toNat)
    case atStart => exact ⟨0, _, Nat.zero_le _, rfl, Lib.hid ⟨HST2.out.1, HST2.out.2.1, fun j hj => absurd hj (Nat.not_lt_zero _), HST2.out.2.2⟩, ⟨u, rfl⟩⟩
    case round =>
     obtain ⟨k, L, hk, rfl, HI, ⟨u, rfl⟩⟩ := hrel
     by_cases hlt : k < nh
     · have hlt' : (k : Int) < nh := by omega
       have hgx := getD_at (show k < M.holds.length by rw [HNH.out]; exact hlt) 0
       obtain ⟨bx, ox, rfl, hx⟩ := HHA.out k _ hgx
       have HRT := Lib.hid (show M.holds.getD k 0 ∈ M.bads ++ M.holds from List.mem_append_right _ (List.mem_of_getElem? hgx))
       have hrq := root_q HCO.out HRT.out
       obtain ⟨a, ha⟩ := Int.eq_ofNat_of_zero_le hrq.1
       have HAE := Lib.hid ha
       have HKA := Lib.hid (show Kept M a by have h := Kept.root HRT.out; rw [ha, Int.toNat_natCast] at h; exact h)
       have p0 : ∀ l : Later w1, l.val.cell? ⟨bx, ox + k, none⟩ = some (.int .i64 (a : Int)) := ha ▸ hx.int HB.out
       have hal : a < M.nodes.length := by omega
       clear hx hgx hrq ha
       have HOL := Lib.hid HI.out.1
       have HGD := Lib.hid HI.out.2.1
       have HQL := Lib.hid (show ∀ w', LaterC w1 w' → w'.cell? ⟨w.heap.size, 0, none⟩ = some (.slice NA n nc) ∧ w'.cell? ⟨w.heap.size, 1, none⟩ = some s1 ∧ w'.cell? ⟨w.heap.size, 2, none⟩ = some s2 ∧ w'.cell? ⟨w.heap.size, 3, none⟩ = some (.slice BA nb bc) ∧ w'.cell? ⟨w.heap.size, 4, none⟩ = some (.slice (some ⟨bx, ox, none⟩) nh hc) ∧ w'.cell? ⟨bx, ox + k, none⟩ = some (.int .i64 (a : Int)) from fun W h => by
        obtain ⟨v, rfl⟩ := h
        exact ⟨m0 v, m1 v, m2 v, m3 v, m4 v, p0 v⟩)
       go_upto_region 9 with fail
       go_region_held3 (fun w' => w'.cell? ⟨w.heap.size, 0, none⟩ = some (.slice NA n nc) ∧ w'.cell? ⟨w.heap.size, 1, none⟩ = some s1 ∧ w'.cell? ⟨w.heap.size, 2, none⟩ = some s2 ∧ w'.cell? ⟨w.heap.size, 3, none⟩ = some (.slice BA nb bc) ∧ w'.cell? ⟨w.heap.size, 4, none⟩ = some (.slice (some ⟨bx, ox, none⟩) nh hc) ∧ w'.cell? ⟨bx, ox + k, none⟩ = some (.int .i64 (a : Int))) ((refine HQL.out _ ?_; repeat (first | exact ⟨_, rfl⟩ | exact LaterC.refl _ | refine LaterC.drew' ?_ | refine LaterC.alloc' ?_ _))) (first | (go_at_call 44; refine (l9JoinN_calls _ M g a n L _ HN.out (HM1.out.below (LaterC.below (w1 := w1) (by repeat (first | exact ⟨_, rfl⟩ | exact LaterC.refl _ | refine LaterC.drew' ?_ | refine LaterC.alloc' ?_ _)))) (HOL.out.below (by first | exact Below.refl _ _ | exact (Below.refl _ _).drew)) HGD.out.1 hal HD.out).mono ?_; rintro e w' ⟨L', more, rfl, hbut, hown, hj⟩; have HJ := Lib.hid (And.intro hown hj); obtain ⟨v1, hv1⟩ := laterC_but (w1 := w1) (by repeat (first | exact ⟨_, rfl⟩ | exact LaterC.refl _ | refine LaterC.drew' ?_ | refine LaterC.alloc' ?_ _)) hbut HGG.out; subst hv1; clear hbut hown hj))
       have HNX := Lib.hid (show OwnL v1.val g L' ∧ Good M L' ∧ (∀ j, j < k + 1 → tt L' (M.holds.getD j 0).toNat) ∧ (∀ x, x ∈ M.bads → tt L' x.toNat) from ⟨HJ.out.1, HGD.out.join HKA.out HJ.out.2, fun j hj => (HJ.out.2.2.1 _).2 (by
        rcases Nat.lt_or_ge j k with h1 | h1
        · exact .inl (HI.out.2.2.1 j h1)
        · obtain rfl : j = k := by omega
          right
          rw [HAE.out, Int.toNat_natCast]
          exact .self), fun x hx => (HJ.out.2.2.1 _).2 (.inl (HI.out.2.2.2 x hx))⟩)
       go_wp2
       go_roundw
       case rel => exact ⟨k + 1, L', by omega, by go_num, HNX, ⟨v1, rfl⟩⟩
       case measure => simp [intOf] <;> omega
     · obtain rfl : nh = k := by omega
       have HST3 := Lib.hid (show OwnL u.val g L ∧ Good M L ∧ (∀ x, x ∈ M.holds → tt L x.toNat) ∧ (∀ x, x ∈ M.bads → tt L x.toNat) from ⟨HI.out.1, HI.out.2.1, fun x hx => by
        obtain ⟨j, hj⟩ := List.getElem?_of_mem hx
        have hjl := (List.getElem?_eq_some_iff.1 hj).1
        have h1 := HI.out.2.2.1 j (by have := HNH.out; omega)
        have h2 := getD_at hjl (0 : Int)
        rw [hj] at h2
        rw [← Option.some.inj h2] at h1
        exact h1, HI.out.2.2.2⟩)
       go_upto_region 11 with fail
       have HRT := Lib.hid (show OwnL u.val g L ∧ Good M L ∧ Roots M L from ⟨HST3.out.1, HST3.out.2.1, fun x hx => by
        rcases List.mem_append.1 hx with e | e
        · exact HST3.out.2.2.2 x e
        · exact HST3.out.2.2.1 x e⟩)
       go_loopg [6] (2 * fls L + 1) (fun r mv wr => ∃ (L3 : List Bool) (more : Bool), mv = .bool more ∧ r = 2 * fls L3 + more.toNat ∧ Hid (OwnL wr g L3 ∧ Good M L3 ∧ Roots M L3 ∧ (more = false → ClosedB M L3 n)) ∧ LaterC w1 wr)
       case atStart => exact ⟨L, true, rfl, rfl, Lib.hid ⟨HRT.out.1, HRT.out.2.1, HRT.out.2.2, fun h => (by cases h)⟩, ⟨u, rfl⟩⟩
       case round =>
        obtain ⟨L3, more, rfl, rfl, HI3, ⟨u3, rfl⟩⟩ := hrel
        cases more
        · have HKL := Lib.hid (need_done HCO.out HI3.out.2.1 HI3.out.2.2.1 (by rw [HN.out]; exact HI3.out.2.2.2 rfl))
          go_wp2
          go_ret
          exact ⟨g, rfl, u3.back HB.out, Nat.le_trans HB.out.size HGG.out, by rw [← HKL.out]; exact HI3.out.1⟩
        · go_upto_region 14 with fail
          go_loopw [6, 7] (fun mv i wr => ∃ (k : Nat) (L4 : List Bool) (more : Bool), k ≤ n ∧ mv = .bool more ∧ i = .int .i64 k ∧ Hid (OwnL wr g L4 ∧ LoopB M L3 L4 k more) ∧ LaterC w1 wr) (fun _ i _ => n - (intOf i).toNat)
          case atStart => exact ⟨0, L3, false, Nat.zero_le _, rfl, rfl, Lib.hid ⟨HI3.out.1, HI3.out.2.1, HI3.out.2.2.1, Nat.le_refl _, fun h => (by cases h), fun _ q b hq => absurd hq (Nat.not_lt_zero _)⟩, ⟨u3, rfl⟩⟩
          case round =>
           obtain ⟨k, L4, more, hk, rfl, rfl, HI, ⟨u, rfl⟩⟩ := hrel
           by_cases hlt : k < n
           · have hlt' : (k : Int) < n := by omega
             have c0 := HI.out.1.cell (show k < L4.length by rw [HI.out.2.1.1, HN.out]; exact hlt)
             have hgn := getD_at (show k < M.nodes.length by rw [HN.out]; exact hlt) Nd.zero
             obtain ⟨bn, on, rfl, hnx⟩ := HNA.out k _ hgn
             have p0 : ∀ l : Later w1, l.val.cell? ⟨bn, on + k * 9, none⟩ = some (.int .i64 (M.nodes.getD k Nd.zero).kind) := hnx.at_ HB.out 0 _ rfl
             clear hnx hgn
             obtain ⟨x, hx⟩ : ∃ x, (M.nodes.getD k Nd.zero).kind = x := ⟨_, rfl⟩
             rw [hx] at p0
             have HX := Lib.hid hx
             clear hx
             obtain ⟨q, hq⟩ : ∃ q, L4.getD k false = q := ⟨_, rfl⟩
             rw [hq] at c0
             have HQ := Lib.hid hq
             clear hq
             cases q
             · have HNX := Lib.hid (show LoopB M L3 L4 (k + 1) more from HI.out.2.skip (fun h => by have h1 := HQ.out; unfold tt at h; rw [h1] at h; cases h))
               go_wp2
               go_roundw
               case rel => exact ⟨k + 1, L4, more, by omega, rfl, by go_num, Lib.hid ⟨HI.out.1, HNX.out⟩, ⟨u, rfl⟩⟩
               case measure => simp [intOf] <;> omega
             · by_cases h36 : x = 36
               · subst h36
                 have HKK := Lib.hid (show Kept M k from HI.out.2.1.2.1 k HQ.out)
                 have HOL := Lib.hid HI.out.1
                 have HGD := Lib.hid HI.out.2.1
                 have HAG := Lib.hid (again_parts HCO.out)
                 have HND := Lib.hid (show ∀ b, b ∈ M.inits ++ M.nexts → 0 ≤ b.nd ∧ b.nd < M.nodes.length from fun b hb => (binds_q HCO.out hb).2.1)
                 go_upto_region 18 with (go_at_call 45; (with_reducible refine (l4BoundQ_calls s1 M.inits (k : Int) _ (HS1.out.below (LaterC.below (w1 := w1) (by repeat (first | exact ⟨_, rfl⟩ | exact LaterC.refl _ | refine LaterC.drew' ?_ | refine LaterC.alloc' ?_ _))))).mono ?_); rintro e w' ⟨rfl, hb⟩; have hvb0 := Lib.hid hb; obtain ⟨b0, hbb0⟩ := laterC_step (w1 := w1) (by repeat (first | exact ⟨_, rfl⟩ | exact LaterC.refl _ | refine LaterC.drew' ?_ | refine LaterC.alloc' ?_ _)) hb; subst hbb0; clear hb)
                 replace HOL := Lib.hid (HOL.out.below hvb0.out)
                 go_upto_region 19 with (go_at_call 45; (with_reducible refine (l4BoundQ_calls s2 M.nexts (k : Int) _ (HS2.out.below (LaterC.below (w1 := w1) (by repeat (first | exact ⟨_, rfl⟩ | exact LaterC.refl _ | refine LaterC.drew' ?_ | refine LaterC.alloc' ?_ _))))).mono ?_); rintro e w' ⟨rfl, hb⟩; have hvb1 := Lib.hid hb; obtain ⟨b1, hbb1⟩ := laterC_step (w1 := w1) (by repeat (first | exact ⟨_, rfl⟩ | exact LaterC.refl _ | refine LaterC.drew' ?_ | refine LaterC.alloc' ?_ _)) hb; subst hbb1; clear hb)
                 replace HOL := Lib.hid (HOL.out.below hvb1.out)
                 rcases bq_cases (k : Int) M.inits with he0 | ⟨bb0, hm0, hs0, he0⟩
                 · have HE0 := Lib.hid he0
                   have HP0 := Lib.hid (Phase.none (k := k) HGD.out HAG.out.1 (by rw [he0]; decide) (fun b hb => (HND.out b (List.mem_append_left _ hb)).1))
                   rw [he0]
                   clear he0
                   go_upto_region 21 with fail
                   rcases bq_cases (k : Int) M.nexts with he1 | ⟨bb1, hm1, hs1, he1⟩
                   · have HP1 := Lib.hid (Phase.none (k := k) HGD.out HAG.out.2 (by rw [he1]; decide) (fun b hb => (HND.out b (List.mem_append_right _ hb)).1))
                     have HNX := Lib.hid (HI.out.2.step HP0.out HP1.out)
                     simp only [Bool.false_or, Bool.true_or] at HNX
                     rw [he1]
                     clear he1
                     go_wp2
                     go_roundw
                     case rel => exact ⟨k + 1, L4, _, by omega, rfl, by go_num, Lib.hid ⟨HOL.out, HNX.out⟩, ⟨b1, rfl⟩⟩
                     case measure => simp [intOf] <;> omega
                   · obtain ⟨d1, hd1⟩ := Int.eq_ofNat_of_zero_le (HND.out bb1 (List.mem_append_right _ hm1)).1
                     have hl1 : d1 < M.nodes.length := by have := (HND.out bb1 (List.mem_append_right _ hm1)).2; omega
                     have HE1 := Lib.hid (he1.trans hd1)
                     have HK1 := Lib.hid (show Kept M d1 from HKK.out.next (.inr ⟨bb1, List.mem_append_right _ hm1, hs1, by rw [hd1, Int.toNat_natCast]⟩))
                     rw [he1, hd1]
                     have hge1 : (0 : Int) ≤ (d1 : Int) := by omega
                     clear he1 hd1 hs1 hm1
                     go_wp2_with fail
                     (refine (l9JoinN_calls _ M g d1 n L4 _ HN.out (HM1.out.below (LaterC.below (w1 := w1) (by repeat (first | exact ⟨_, rfl⟩ | exact LaterC.refl _ | refine LaterC.drew' ?_ | refine LaterC.alloc' ?_ _)))) (HOL.out.below (by first | exact Below.refl _ _ | exact (Below.refl _ _).drew)) HGD.out.1 hl1 HD.out).mono ?_; rintro e w' ⟨L6, m2, rfl, hbut, hown, hj⟩; have HJ := Lib.hid (And.intro hown hj); obtain ⟨c2, hc2⟩ := laterC_but (w1 := w1) (by repeat (first | exact ⟨_, rfl⟩ | exact LaterC.refl _ | refine LaterC.drew' ?_ | refine LaterC.alloc' ?_ _)) hbut HGG.out; subst hc2; clear hbut hown hj)
                     have HOL := Lib.hid HJ.out.1
                     have HP1 := Lib.hid (Phase.join HGD.out HAG.out.2 HK1.out HE1.out HJ.out.2)
                     have HNX := Lib.hid (HI.out.2.step HP0.out HP1.out)
                     cases m2
                     · simp only [Bool.false_or, Bool.true_or] at HNX
                       go_wp2
                       go_roundw
                       case rel => exact ⟨k + 1, L6, _, by omega, rfl, by go_num, Lib.hid ⟨HOL.out, HNX.out⟩, ⟨c2, rfl⟩⟩
                       case measure => simp [intOf] <;> omega
                     · simp only [Bool.false_or, Bool.true_or] at HNX
                       go_wp2
                       go_roundw
                       case rel => exact ⟨k + 1, L6, _, by omega, rfl, by go_num, Lib.hid ⟨HOL.out, HNX.out⟩, ⟨c2, rfl⟩⟩
                       case measure => simp [intOf] <;> omega
                 · obtain ⟨d0, hd0⟩ := Int.eq_ofNat_of_zero_le (HND.out bb0 (List.mem_append_left _ hm0)).1
                   have hl0 : d0 < M.nodes.length := by have := (HND.out bb0 (List.mem_append_left _ hm0)).2; omega
                   have HE0 := Lib.hid (he0.trans hd0)
                   have HK0 := Lib.hid (show Kept M d0 from HKK.out.next (.inr ⟨bb0, List.mem_append_left _ hm0, hs0, by rw [hd0, Int.toNat_natCast]⟩))
                   rw [he0, hd0]
                   have hge0 : (0 : Int) ≤ (d0 : Int) := by omega
                   clear he0 hd0 hs0 hm0
                   go_wp2_with fail
                   (refine (l9JoinN_calls _ M g d0 n L4 _ HN.out (HM1.out.below (LaterC.below (w1 := w1) (by repeat (first | exact ⟨_, rfl⟩ | exact LaterC.refl _ | refine LaterC.drew' ?_ | refine LaterC.alloc' ?_ _)))) (HOL.out.below (by first | exact Below.refl _ _ | exact (Below.refl _ _).drew)) HGD.out.1 hl0 HD.out).mono ?_; rintro e w' ⟨L5, m1, rfl, hbut, hown, hj⟩; have HJ := Lib.hid (And.intro hown hj); obtain ⟨c1, hc1⟩ := laterC_but (w1 := w1) (by repeat (first | exact ⟨_, rfl⟩ | exact LaterC.refl _ | refine LaterC.drew' ?_ | refine LaterC.alloc' ?_ _)) hbut HGG.out; subst hc1; clear hbut hown hj)
                   have HOL := Lib.hid HJ.out.1
                   have HP0 := Lib.hid (Phase.join HGD.out HAG.out.1 HK0.out HE0.out HJ.out.2)
                   have HGD := Lib.hid HP0.out.1
                   cases m1
                   · go_upto_region 21 with fail
                     rcases bq_cases (k : Int) M.nexts with he1 | ⟨bb1, hm1, hs1, he1⟩
                     · have HP1 := Lib.hid (Phase.none (k := k) HGD.out HAG.out.2 (by rw [he1]; decide) (fun b hb => (HND.out b (List.mem_append_right _ hb)).1))
                       have HNX := Lib.hid (HI.out.2.step HP0.out HP1.out)
                       simp only [Bool.false_or, Bool.true_or] at HNX
                       rw [he1]
                       clear he1
                       go_wp2
                       go_roundw
                       case rel => exact ⟨k + 1, L5, _, by omega, rfl, by go_num, Lib.hid ⟨HOL.out, HNX.out⟩, ⟨c1, rfl⟩⟩
                       case measure => simp [intOf] <;> omega
                     · obtain ⟨d1, hd1⟩ := Int.eq_ofNat_of_zero_le (HND.out bb1 (List.mem_append_right _ hm1)).1
                       have hl1 : d1 < M.nodes.length := by have := (HND.out bb1 (List.mem_append_right _ hm1)).2; omega
                       have HE1 := Lib.hid (he1.trans hd1)
                       have HK1 := Lib.hid (show Kept M d1 from HKK.out.next (.inr ⟨bb1, List.mem_append_right _ hm1, hs1, by rw [hd1, Int.toNat_natCast]⟩))
                       rw [he1, hd1]
                       have hge1 : (0 : Int) ≤ (d1 : Int) := by omega
                       clear he1 hd1 hs1 hm1
                       go_wp2_with fail
                       (refine (l9JoinN_calls _ M g d1 n L5 _ HN.out (HM1.out.below (LaterC.below (w1 := w1) (by repeat (first | exact ⟨_, rfl⟩ | exact LaterC.refl _ | refine LaterC.drew' ?_ | refine LaterC.alloc' ?_ _)))) (HOL.out.below (by first | exact Below.refl _ _ | exact (Below.refl _ _).drew)) HGD.out.1 hl1 HD.out).mono ?_; rintro e w' ⟨L6, m2, rfl, hbut, hown, hj⟩; have HJ := Lib.hid (And.intro hown hj); obtain ⟨c2, hc2⟩ := laterC_but (w1 := w1) (by repeat (first | exact ⟨_, rfl⟩ | exact LaterC.refl _ | refine LaterC.drew' ?_ | refine LaterC.alloc' ?_ _)) hbut HGG.out; subst hc2; clear hbut hown hj)
                       have HOL := Lib.hid HJ.out.1
                       have HP1 := Lib.hid (Phase.join HGD.out HAG.out.2 HK1.out HE1.out HJ.out.2)
                       have HNX := Lib.hid (HI.out.2.step HP0.out HP1.out)
                       cases m2
                       · simp only [Bool.false_or, Bool.true_or] at HNX
                         go_wp2
                         go_roundw
                         case rel => exact ⟨k + 1, L6, _, by omega, rfl, by go_num, Lib.hid ⟨HOL.out, HNX.out⟩, ⟨c2, rfl⟩⟩
                         case measure => simp [intOf] <;> omega
                       · simp only [Bool.false_or, Bool.true_or] at HNX
                         go_wp2
                         go_roundw
                         case rel => exact ⟨k + 1, L6, _, by omega, rfl, by go_num, Lib.hid ⟨HOL.out, HNX.out⟩, ⟨c2, rfl⟩⟩
                         case measure => simp [intOf] <;> omega
                   · go_upto_region 21 with fail
                     rcases bq_cases (k : Int) M.nexts with he1 | ⟨bb1, hm1, hs1, he1⟩
                     · have HP1 := Lib.hid (Phase.none (k := k) HGD.out HAG.out.2 (by rw [he1]; decide) (fun b hb => (HND.out b (List.mem_append_right _ hb)).1))
                       have HNX := Lib.hid (HI.out.2.step HP0.out HP1.out)
                       simp only [Bool.false_or, Bool.true_or] at HNX
                       rw [he1]
                       clear he1
                       go_wp2
                       go_roundw
                       case rel => exact ⟨k + 1, L5, _, by omega, rfl, by go_num, Lib.hid ⟨HOL.out, HNX.out⟩, ⟨c1, rfl⟩⟩
                       case measure => simp [intOf] <;> omega
                     · obtain ⟨d1, hd1⟩ := Int.eq_ofNat_of_zero_le (HND.out bb1 (List.mem_append_right _ hm1)).1
                       have hl1 : d1 < M.nodes.length := by have := (HND.out bb1 (List.mem_append_right _ hm1)).2; omega
                       have HE1 := Lib.hid (he1.trans hd1)
                       have HK1 := Lib.hid (show Kept M d1 from HKK.out.next (.inr ⟨bb1, List.mem_append_right _ hm1, hs1, by rw [hd1, Int.toNat_natCast]⟩))
                       rw [he1, hd1]
                       have hge1 : (0 : Int) ≤ (d1 : Int) := by omega
                       clear he1 hd1 hs1 hm1
                       go_wp2_with fail
                       (refine (l9JoinN_calls _ M g d1 n L5 _ HN.out (HM1.out.below (LaterC.below (w1 := w1) (by repeat (first | exact ⟨_, rfl⟩ | exact LaterC.refl _ | refine LaterC.drew' ?_ | refine LaterC.alloc' ?_ _)))) (HOL.out.below (by first | exact Below.refl _ _ | exact (Below.refl _ _).drew)) HGD.out.1 hl1 HD.out).mono ?_; rintro e w' ⟨L6, m2, rfl, hbut, hown, hj⟩; have HJ := Lib.hid (And.intro hown hj); obtain ⟨c2, hc2⟩ := laterC_but (w1 := w1) (by repeat (first | exact ⟨_, rfl⟩ | exact LaterC.refl _ | refine LaterC.drew' ?_ | refine LaterC.alloc' ?_ _)) hbut HGG.out; subst hc2; clear hbut hown hj)
                       have HOL := Lib.hid HJ.out.1
                       have HP1 := Lib.hid (Phase.join HGD.out HAG.out.2 HK1.out HE1.out HJ.out.2)
                       have HNX := Lib.hid (HI.out.2.step HP0.out HP1.out)
                       cases m2
                       · simp only [Bool.false_or, Bool.true_or] at HNX
                         go_wp2
                         go_roundw
                         case rel => exact ⟨k + 1, L6, _, by omega, rfl, by go_num, Lib.hid ⟨HOL.out, HNX.out⟩, ⟨c2, rfl⟩⟩
                         case measure => simp [intOf] <;> omega
                       · simp only [Bool.false_or, Bool.true_or] at HNX
                         go_wp2
                         go_roundw
                         case rel => exact ⟨k + 1, L6, _, by omega, rfl, by go_num, Lib.hid ⟨HOL.out, HNX.out⟩, ⟨c2, rfl⟩⟩
                         case measure => simp [intOf] <;> omega
               · have hx2 : (x == 36) = false := beq_eq_false_iff_ne.2 h36
                 have HNX := Lib.hid (show LoopB M L3 L4 (k + 1) more from HI.out.2.skip (fun _ b hb hs => by
                  have h1 := (binds_q HCO.out hb).2.2
                  rw [hs, Int.toNat_natCast, HX.out] at h1
                  exact h36 h1))
                 go_wp2
                 go_roundw
                 case rel => exact ⟨k + 1, L4, more, by omega, rfl, by go_num, Lib.hid ⟨HI.out.1, HNX.out⟩, ⟨u, rfl⟩⟩
                 case measure => simp [intOf] <;> omega
           · obtain rfl : n = k := by omega
             go_wp2
             go_roundg (2 * fls L4 + more.toNat)
             case measure =>
              have h1 := HI.out.2.2.2.1
              have h2 := HI.out.2.2.2.2.1
              cases more
              · simp; omega
              · have := h2 rfl; simp; omega
             case rel => exact ⟨L4, more, rfl, rfl, Lib.hid ⟨HI.out.1, HI.out.2.1, HI.out.2.2.1, HI.out.2.2.2.2.2⟩, ⟨u, rfl⟩⟩
end Go.Proofs.YtdojaijnejcoiaaGreat
namespace Go.Proofs.YtdojaijnejcoiaaGreat
open Go.RowKit
def GivesM (P : Program) (f : FuncId) (args : Array Value) (w : World) (M : Md) : Prop :=
 Calls P f args w fun e w' => ∃ s0 s1 s2 s3 s4, e = .returned (.agg #[s0, s1, s2, s3, s4]) ∧ Below w.heap.size w w' ∧ OwnM w.heap.size w' s0 s1 s2 s3 s4 M
theorem But.laterC {S : Nat → Prop} {W w w' : World} (h : But S w w') (hl : LaterC W w) (hS : ∀ b, S b → W.heap.size ≤ b) : LaterC W w' :=
 .of (hl.below.trans (h.below hS hl.below.size))
theorem Acc.slI {lo : Nat} {w : World} {v : Value} {xs : List Int} (h : Acc kI lo w v xs) (hl : xs.length ≤ 281474976710656) : SlN enI w v xs := h.slN kI_ok hl
theorem Acc.slB {lo : Nat} {w : World} {v : Value} {xs : List Bd} (h : Acc kB lo w v xs) (hl : xs.length ≤ 281474976710656) : SlN enBd w v xs := h.slN kB_ok hl
theorem Acc.slD {lo : Nat} {w : World} {v : Value} {xs : List Nd} (h : Acc kN lo w v xs) (hl : xs.length ≤ 281474976710656) : SlN enNd w v xs := h.slN kN_ok hl
structure ConeP (lo B : Nat) (wr : World) (ov tv : Value) (ns : List Nd) (T : List Int) : Prop where
 bx : OwnB wr B 31 #[ov, .slice none 0 0, .slice none 0 0, .slice none 0 0, .slice none 0 0]
 nd : Acc kN lo wr ov ns
 tb : Acc kI lo wr tv T
 sp : Sep ov tv
theorem ConeP.below {lo B : Nat} {wr w' : World} {ov tv : Value} {ns : List Nd} {T : List Int} (h : ConeP lo B wr ov tv ns T) (hb : Below wr.heap.size wr w') : ConeP lo B w' ov tv ns T :=
 ⟨h.bx.below hb h.bx.lt, h.nd.below hb, h.tb.below hb, h.sp⟩
theorem ConeP.table {lo B g cap n : Nat} {wr w3 wn : World} {ov tv : Value} {ns : List Nd} {T T' : List Int} (h : ConeP lo B wr ov tv ns T) (hB : B < lo) (hb3 : Below wr.heap.size wr w3) (hgr : w3.grownBy wn tv.ownBlock) (hat : tv.ownBlock = some g ∨ g = w3.heap.size)
 (hac : Acc kI lo wn (.slice (some ⟨g, 0, none⟩) n cap) T') : ConeP lo B wn ov (.slice (some ⟨g, 0, none⟩) n cap) ns T' := by
 have h3 := h.below hb3
 have hbut := grown_but hgr
 refine ⟨h3.bx.but hbut fun e => ?_, h3.nd.but hbut fun b hb e => ?_, hac, fun k h1 h2 => ?_⟩
 · have := (h3.tb.lt B e.symm).1; omega
 · exact h.sp b hb e.symm
 · have hk : g = k := by simpa [Value.ownBlock] using h2
   subst hk
   rcases hat with e | e
   · exact h.sp g h1 e
   · have := (h3.nd.lt g h1).2; omega
theorem ConeP.nodes {lo B g cap n : Nat} {wr w3 wn : World} {ov tv : Value} {ns ns' : List Nd} {T : List Int} (h : ConeP lo B wr ov tv ns T) (hB : B < lo) (hb3 : Below wr.heap.size wr w3) (hgr : w3.grownBy wn ov.ownBlock) (hat : ov.ownBlock = some g ∨ g = w3.heap.size)
 (hac : Acc kN lo wn (.slice (some ⟨g, 0, none⟩) n cap) ns') : ConeP lo B (wn.setCell ⟨B, 0, none⟩ (.slice (some ⟨g, 0, none⟩) n cap)) (.slice (some ⟨g, 0, none⟩) n cap) tv ns' T := by
 have h3 := h.below hb3
 have hbut := grown_but hgr
 have hs : But (fun b => b = B) wn (wn.setCell ⟨B, 0, none⟩ (.slice (some ⟨g, 0, none⟩) n cap)) := (But.refl (fun b => b = B) wn).setCell (p := ⟨B, 0, none⟩) rfl _
 have hbx := h3.bx.but hbut fun e => by have := (h3.nd.lt B e.symm).1; omega
 have htb := h3.tb.but hbut fun b hb e => h.sp b e.symm hb
 refine ⟨hbx.set 0 _, hac.but hs fun b hb e => ?_, htb.but hs fun b hb e => ?_, fun k h1 h2 => ?_⟩
 · have := (hac.lt b hb).1; omega
 · have := (htb.lt b hb).1; omega
 · have hk : g = k := by simpa [Value.ownBlock] using h1
   subst hk
   rcases hat with e | e
   · exact h.sp g e h2
   · have := (h3.tb.lt g h2).2; omega
theorem ConeP.last {lo B : Nat} {wr : World} {ov tv : Value} {ns : List Nd} {T : List Int} {y z : Int} (h : ConeP lo B wr ov tv ns (T ++ [y])) (e : y = z) : ConeP lo B wr ov tv ns (T ++ [z]) := e ▸ h
theorem Acc.put {α : Type} {K : Rk α} {lo B : Nat} {w w' : World} {v : Value} {xs : List α} (h : Acc K lo w v xs) (hb : Below w.heap.size w w') (hB : B < lo) (j : Nat) (a : Value) : Acc K lo (w'.setCell ⟨B, j, none⟩ a) v xs :=
 (h.below hb).but ((But.refl (fun b => b = B) w').setCell (p := ⟨B, j, none⟩) rfl a) fun b hb' e => by have := (h.lt b hb').1; omega
theorem cone_len (M : Md) : (coneN M).nodes.length ≤ M.nodes.length ∧ (coneN M).inits.length ≤ M.inits.length ∧ (coneN M).nexts.length ≤ M.nexts.length ∧ (coneN M).bads.length ≤ M.bads.length ∧ (coneN M).holds.length ≤ M.holds.length := by
 unfold coneN
 split
 · refine ⟨by rw [coneNs_len]; exact rk_le _ _, ?_, ?_, by simp [coneIs], by simp [coneIs]⟩
   · unfold coneBs; rw [List.length_map]; exact List.length_filter_le _ _
   · unfold coneBs; rw [List.length_map]; exact List.length_filter_le _ _
 · simp [noMd]
theorem ModelCone_calls (mv : Value) (M : Md) (w : World) (hM : MdAt w mv M) (hnm : ∀ x, x ∈ M.nodes → x.name.size ≤ 140737488351232) :
 GivesM Tryz.prog 5 #[mv] w (coneN M) := by
 have HM := Lib.hid hM
 have HNM := Lib.hid hnm
 obtain ⟨s0, s1, s2, s3, s4, rfl, h0s, h1s, h2s, h3s, h4s⟩ := hM.at_
 have HS1 := Lib.hid h1s
 have HS2 := Lib.hid h2s
 have HS3 := Lib.hid h3s
 have HS4 := Lib.hid h4s
 obtain ⟨NA, nc, rfl, hnc, hnc', hNA⟩ := h0s
 have HNA := Lib.hid hNA
 clear hM hnm h1s h2s h3s h4s hnc hnc' hNA
 unfold GivesM
 obtain ⟨C, hC⟩ : ∃ C, coneN M = C := ⟨_, rfl⟩
 have HCN := Lib.hid hC
 rw [hC]
 clear hC
 generalize hn : M.nodes.length = n at *
 have HN := Lib.hid hn
 clear hn
 go_enter Tryz.func5, Tryz.ntmps5
 go_upto_region 1 with fail
 generalize hw2 : (w.alloc (Obj.cells #[.slice NA n nc, s1, s2, s3, s4] 31)).alloc (Obj.cells #[.slice none 0 0, .slice none 0 0, .slice none 0 0, .slice none 0 0, .slice none 0 0] 31) = w1
 have m0 : ∀ u : Later w1, u.val.cell? ⟨w.heap.size, 0, none⟩ = some (.slice NA n nc) := Later.cell (by rw [← hw2]; clear hw2; go_simp)
 have m1 : ∀ u : Later w1, u.val.cell? ⟨w.heap.size, 1, none⟩ = some s1 := Later.cell (by rw [← hw2]; clear hw2; go_simp)
 have m2 : ∀ u : Later w1, u.val.cell? ⟨w.heap.size, 2, none⟩ = some s2 := Later.cell (by rw [← hw2]; clear hw2; go_simp)
 have m3 : ∀ u : Later w1, u.val.cell? ⟨w.heap.size, 3, none⟩ = some s3 := Later.cell (by rw [← hw2]; clear hw2; go_simp)
 have m4 : ∀ u : Later w1, u.val.cell? ⟨w.heap.size, 4, none⟩ = some s4 := Later.cell (by rw [← hw2]; clear hw2; go_simp)
 have HO := Lib.hid (show OwnB w1 (w.heap.size + 1) 31 #[.slice none 0 0, .slice none 0 0, .slice none 0 0, .slice none 0 0, .slice none 0 0] by
  have h := OwnB.new (w.alloc (Obj.cells #[.slice NA n nc, s1, s2, s3, s4] 31)) 31 #[.slice none 0 0, .slice none 0 0, .slice none 0 0, .slice none 0 0, .slice none 0 0]
  rw [hw2] at h
  simpa using h)
 have HB := Lib.hid (show Below w.heap.size w w1 by rw [← hw2]; exact ((Below.refl _ _).alloc (Nat.le_refl _) _).alloc (by simp) _)
 have HSZ := Lib.hid (show w1.heap.size = w.heap.size + 2 by rw [← hw2]; simp)
 clear hw2
 have HM1 := Lib.hid (HM.out.below HB.out)
 have HRW := Lib.hid (show ∀ W, LaterC w1 W → OwnB W (w.heap.size + 1) 31 #[.slice none 0 0, .slice none 0 0, .slice none 0 0, .slice none 0 0, .slice none 0 0] from fun W h => HO.out.below h.below HO.out.lt)
 by_cases hc : codeN M = 0
 rotate_left
 · have HCE := Lib.hid (show C = noMd by rw [← HCN.out, coneN, if_neg hc])
   generalize hcm : codeN M = cm at *
   have HC := Lib.hid hcm
   clear hcm
   refine at_world (w := w1) ?_
   intro u0
   go_upto_region 2 with (go_at_call 14; refine (Calls.later_eq (u := u0) (ModelCode_calls _ M _ (HM1.out.later u0) HNM.out) (congrArg (Value.int .i64) HC.out)).mono ?_; rintro e w' ⟨rfl, u1, rfl⟩)
   have HF := Lib.hid (five_set (HRW.out _ ⟨u1, rfl⟩) (.slice none 0 0) (.slice none 0 0) (.slice none 0 0) (.slice none 0 0) (.slice none 0 0))
   have y0 : u1.val.cell? ⟨w.heap.size + 1, 0, none⟩ = some (.slice none 0 0) := (HRW.out _ ⟨_, rfl⟩).cell 0
   have f0 : u1.val.frozen? ⟨w.heap.size + 1, 0, none⟩ = false := (HRW.out _ ⟨_, rfl⟩).frozen 0
   have y1 : u1.val.cell? ⟨w.heap.size + 1, 1, none⟩ = some (.slice none 0 0) := (HRW.out _ ⟨_, rfl⟩).cell 1
   have f1 : u1.val.frozen? ⟨w.heap.size + 1, 1, none⟩ = false := (HRW.out _ ⟨_, rfl⟩).frozen 1
   have y2 : u1.val.cell? ⟨w.heap.size + 1, 2, none⟩ = some (.slice none 0 0) := (HRW.out _ ⟨_, rfl⟩).cell 2
   have f2 : u1.val.frozen? ⟨w.heap.size + 1, 2, none⟩ = false := (HRW.out _ ⟨_, rfl⟩).frozen 2
   have y3 : u1.val.cell? ⟨w.heap.size + 1, 3, none⟩ = some (.slice none 0 0) := (HRW.out _ ⟨_, rfl⟩).cell 3
   have f3 : u1.val.frozen? ⟨w.heap.size + 1, 3, none⟩ = false := (HRW.out _ ⟨_, rfl⟩).frozen 3
   have y4 : u1.val.cell? ⟨w.heap.size + 1, 4, none⟩ = some (.slice none 0 0) := (HRW.out _ ⟨_, rfl⟩).cell 4
   have f4 : u1.val.frozen? ⟨w.heap.size + 1, 4, none⟩ = false := (HRW.out _ ⟨_, rfl⟩).frozen 4
   have r0 := HF.out.cell 0
   have r1 := HF.out.cell 1
   have r2 := HF.out.cell 2
   have r3 := HF.out.cell 3
   have r4 := HF.out.cell 4
   have HBB := Lib.hid (show Below w.heap.size w _ from (u1.back HB.out).trans ((five_but u1.val (w.heap.size + 1) (.slice none 0 0) (.slice none 0 0) (.slice none 0 0) (.slice none 0 0) (.slice none 0 0)).below (B := w.heap.size) (fun k e => by subst e; omega) (u1.back HB.out).size))
   go_wp2
   refine bodyPost_ret (v := .agg #[.slice none 0 0, .slice none 0 0, .slice none 0 0, .slice none 0 0, .slice none 0 0]) (by simp [results, Tryz.results5, go_sem, r0, r1, r2, r3, r4]) rfl ?_
   exact ⟨_, _, _, _, _, rfl, HBB.out, by rw [HCE.out]; exact OwnM.none _ _⟩
 · have HC := Lib.hid hc
   have HCE := Lib.hid (show C = ⟨coneNs M.nodes (keptL M) M.nodes.length, coneBs (keptL M) M.inits, coneBs (keptL M) M.nexts, coneIs (keptL M) M.bads, coneIs (keptL M) M.holds⟩ by rw [← HCN.out, coneN, if_pos hc])
   have hbig := (code_q hc).1
   have HLN := Lib.hid (show M.nodes.length ≤ 60 ∧ M.inits.length ≤ 60 ∧ M.nexts.length ≤ 60 ∧ M.bads.length ≤ 60 ∧ M.holds.length ≤ 60 by
    unfold bigB at hbig
    simp only [Bool.or_eq_false_iff, decide_eq_false_iff_not] at hbig
    omega)
   have hn60 : n ≤ 60 := by have h1 := HLN.out.1; have h2 := HN.out; omega
   clear hc hbig
   refine at_world (w := w1) ?_
   intro u0
   go_upto_region 3 with (go_at_call 14; refine (Calls.later_eq (u := u0) (ModelCode_calls _ M _ (HM1.out.later u0) HNM.out) (congrArg (Value.int .i64) HC.out)).mono ?_; rintro e w' ⟨rfl, u1, rfl⟩)
   go_upto_region 4 with (go_at_call 15; refine (l9Need_calls _ M _ (HM1.out.later u1) HC.out).mono ?_; rintro e W ⟨g, rfl, hb, hg, hown⟩; have HOWN := Lib.hid hown; have HLW := Lib.hid (laterC_step (w1 := w1) ⟨u1, rfl⟩ hb); clear hb hg hown)
   try rw [HN.out]
   have n0 := Later.re m0 HLW.out
   have n1 := Later.re m1 HLW.out
   have n2 := Later.re m2 HLW.out
   have n3 := Later.re m3 HLW.out
   have n4 := Later.re m4 HLW.out
   have HRW2 := Lib.hid (show ∀ W', LaterC W W' → OwnB W' (w.heap.size + 1) 31 #[.slice none 0 0, .slice none 0 0, .slice none 0 0, .slice none 0 0, .slice none 0 0] from fun W' h => HRW.out W' (HLW.out.trans h))
   have HMW := Lib.hid (HM1.out.below HLW.out.below)
   have HBW := Lib.hid (HB.out.trans (HLW.out.below.mono HB.out.size))
   clear m0 m1 m2 m3 m4 HRW
   refine at_world (w := W) ?_
   intro v0
   go_upto_region 5 with fail
   have HLO := Lib.hid (show ConeP (v0.val.heap.size + 1) v0.val.heap.size (v0.val.alloc (Obj.cells #[.slice none 0 0, .slice none 0 0, .slice none 0 0, .slice none 0 0, .slice none 0 0] 31)) (.slice none 0 0) (.slice none 0 0) (coneNs M.nodes (keptL M) 0) (toL (keptL M) 0) from ⟨OwnB.new v0.val 31 #[.slice none 0 0, .slice none 0 0, .slice none 0 0, .slice none 0 0, .slice none 0 0], Acc.nil kN _ _, Acc.nil kI _ _, fun k e => (by cases e)⟩)
   have HLA := Lib.hid (show LaterC W (v0.val.alloc (Obj.cells #[.slice none 0 0, .slice none 0 0, .slice none 0 0, .slice none 0 0, .slice none 0 0] 31)) from v0.alloc _)
   have HSA := Lib.hid (show (v0.val.alloc (Obj.cells #[.slice none 0 0, .slice none 0 0, .slice none 0 0, .slice none 0 0, .slice none 0 0] 31)).heap.size = v0.val.heap.size + 1 by simp)
   have HW4 := Lib.hid v0.size
   obtain ⟨va, hva⟩ := HLA.out
   rw [hva] at HLO HSA
   rw [hva]
   clear hva HLA
   generalize v0.val.heap.size = B4 at *
   obtain ⟨KL, hKL⟩ : ∃ KL, keptL M = KL := ⟨_, rfl⟩
   have HKL := Lib.hid hKL
   rw [hKL] at HOWN HLO
   clear hKL
   go_upto_region 7 with fail
   go_loopw [5, 6] (fun v i wr => ∃ (k : Nat) (tv ov : Value), k ≤ n ∧ tv = v ∧ i = .int .i64 k ∧ Hid (ConeP (B4 + 1) B4 wr ov tv (coneNs M.nodes KL k) (toL KL k) ∧ B4 < wr.heap.size) ∧ LaterC W wr) (fun _ i _ => n - (intOf i).toNat)
   case atStart => exact ⟨0, _, _, Nat.zero_le _, rfl, rfl, Lib.hid ⟨HLO.out, by rw [HSA.out]; omega⟩, ⟨va, rfl⟩⟩
   case round =>
    obtain ⟨k, tv, ov, hk, rfl, rfl, HI, ⟨u, rfl⟩⟩ := hrel
    obtain ⟨A5, e5, h5⟩ := HI.out.1.tb.shape
    obtain ⟨A6, e6, h6⟩ := HI.out.1.nd.shape
    subst h5
    subst h6
    have HKN := Lib.hid (show KL.length = n by rw [← HKL.out, keptL_len, HN.out])
    have htl : (toL KL k).length = k := toL_len _ _
    rw [htl] at HI ⊢
    have HCL := Lib.hid (coneNs_len M.nodes KL k)
    have HRK := Lib.hid (rk_le KL k)
    rw [HCL.out] at HI
    obtain ⟨q, hq⟩ : ∃ q, rk KL k = q := ⟨_, rfl⟩
    have HQQ := Lib.hid hq
    rw [hq] at HI HRK
    clear hq htl
    have hq60 : q ≤ 60 := by have := HRK.out; omega
    by_cases hlt : k < n
    · have hlt' : (k : Int) < n := by omega
      have c0 : u.val.cell? ⟨g, k, none⟩ = some (.bool (KL.getD k false)) := (HOWN.out.below u.prop).cell (show k < KL.length by rw [HKN.out]; exact hlt)
      obtain ⟨t, ht⟩ : ∃ t, KL.getD k false = t := ⟨_, rfl⟩
      rw [ht] at c0
      have HT := Lib.hid ht
      clear ht
      have HTL := Lib.hid (show (toL KL k).length = k from toL_len _ _)
      have HTB := Lib.hid (show (toL KL k).length ≤ 1048576 by rw [HTL.out]; omega)
      cases t
      · have HSN := Lib.hid (show toL KL (k + 1) = toL KL k ++ [-1] by rw [toL_snoc, toI, if_neg (by rw [HT.out]; exact Bool.false_ne_true)])
        have HNO := Lib.hid (coneNs_no (ns := M.nodes) HT.out)
        go_wp2_with (at_builtin; refine wpList_push kI_ok (by rfl) _ _ (by rfl) (B4 + 1) u.val _ u.val.heap.size (.slice A5 k e5) (-1) (toL KL k) k _ _ HTL.out (by rfl) HI.out.1.tb HI.out.2 HTB.out (by repeat (first | exact Below.refl _ _ | refine Below.drew ?_ | refine Below.alloc ?_ (Nat.le_refl _) _)) (heap_alloc_new u.val _) (by rfl) (by rfl) ?_; intro g2 cap wn hac hgr hat; have HP2 := Lib.hid (HI.out.1.table (Nat.lt_succ_self _) (by repeat (first | exact Below.refl _ _ | refine Below.drew ?_ | refine Below.alloc ?_ (Nat.le_refl _) _)) hgr hat hac); have HLW2 := Lib.hid ((grown_but hgr).laterC (W := W) (u.alloc _) (fun b hb => by have h1 := (HI.out.1.tb.lt b hb.symm).1; have h2 := HW4.out; omega)); have HSZ2 := Lib.hid (show B4 < wn.heap.size from HP2.out.bx.lt); clear hac hgr hat)
        go_roundw
        case rel => exact ⟨k + 1, _, _, by omega, rfl, by go_num, Lib.hid ⟨by rw [HSN.out, HNO.out]; exact HP2.out, HSZ2.out⟩, HLW2.out⟩
        case measure => simp [intOf] <;> omega
      · have hkt : tt (keptL M) k := by rw [HKL.out]; exact HT.out
        have hgn := getD_at (show k < M.nodes.length by rw [HN.out]; exact hlt) Nd.zero
        obtain ⟨bn, on, rfl, hnx⟩ := HNA.out k _ hgn
        have hmem := List.mem_of_getElem? hgn
        have hpos := nodes_pos (code_q HC.out).2.1 _ hmem
        have hpt := part_tables HC.out hkt
        rw [HKL.out] at hpt
        have HPI := Lib.hid (show PartsIn (toL KL k).length (M.nodes.getD k Nd.zero) from fun m h3 hm => by
         have := kept_part HC.out hkt h3 hm
         rw [HTL.out]
         exact ⟨this.1, this.2.1⟩)
        have HYN := Lib.hid (coneNs_yes (ns := M.nodes) HT.out)
        obtain ⟨x, hx⟩ : ∃ x, M.nodes.getD k Nd.zero = x := ⟨_, rfl⟩
        rw [hx] at hnx hpos hpt HPI HYN
        rw [← hpt] at HYN
        have HPOS := Lib.hid hpos
        clear hgn hmem hpos hpt hx hkt
        have p0 : ∀ l : Later W, l.val.cell? ⟨bn, on + k * 9, none⟩ = some (.int .i64 x.kind) := hnx.at_ HBW.out 0 _ rfl
        have p1 : ∀ l : Later W, l.val.cell? ⟨bn, on + k * 9 + 1, none⟩ = some (.int .i64 x.a) := hnx.at_ HBW.out 1 _ rfl
        have p2 : ∀ l : Later W, l.val.cell? ⟨bn, on + k * 9 + 2, none⟩ = some (.int .i64 x.b) := hnx.at_ HBW.out 2 _ rfl
        have p3 : ∀ l : Later W, l.val.cell? ⟨bn, on + k * 9 + 3, none⟩ = some (.int .i64 x.c) := hnx.at_ HBW.out 3 _ rfl
        have p4 : ∀ l : Later W, l.val.cell? ⟨bn, on + k * 9 + 4, none⟩ = some (.int .i64 x.n) := hnx.at_ HBW.out 4 _ rfl
        have p5 : ∀ l : Later W, l.val.cell? ⟨bn, on + k * 9 + 5, none⟩ = some (.int .i64 x.m) := hnx.at_ HBW.out 5 _ rfl
        have p6 : ∀ l : Later W, l.val.cell? ⟨bn, on + k * 9 + 6, none⟩ = some (.int .i64 x.idx) := hnx.at_ HBW.out 6 _ rfl
        have p7 : ∀ l : Later W, l.val.cell? ⟨bn, on + k * 9 + 7, none⟩ = some (.int .i64 x.wid) := hnx.at_ HBW.out 7 _ rfl
        have p8 : ∀ l : Later W, l.val.cell? ⟨bn, on + k * 9 + 8, none⟩ = some (.string x.name) := hnx.at_ HBW.out 8 _ rfl
        have HNL := Lib.hid (show (coneNs M.nodes KL k).length = q by rw [HCL.out, HQQ.out])
        have HNB := Lib.hid (show (coneNs M.nodes KL k).length ≤ 1048576 by rw [HNL.out]; omega)
        have HQL := Lib.hid (show ∀ w', But (fun b => some b = (Value.slice A6 q e6).ownBlock ∨ b = B4) u.val w' → w'.cell? ⟨w.heap.size, 0, none⟩ = some (.slice (some ⟨bn, on, none⟩) n nc) ∧ w'.cell? ⟨bn, on + k * 9, none⟩ = some (.int .i64 x.kind) ∧ w'.cell? ⟨bn, on + k * 9 + 1, none⟩ = some (.int .i64 x.a) ∧ w'.cell? ⟨bn, on + k * 9 + 2, none⟩ = some (.int .i64 x.b) ∧ w'.cell? ⟨bn, on + k * 9 + 3, none⟩ = some (.int .i64 x.c) ∧ w'.cell? ⟨bn, on + k * 9 + 4, none⟩ = some (.int .i64 x.n) ∧ w'.cell? ⟨bn, on + k * 9 + 5, none⟩ = some (.int .i64 x.m) ∧ w'.cell? ⟨bn, on + k * 9 + 6, none⟩ = some (.int .i64 x.idx) ∧ w'.cell? ⟨bn, on + k * 9 + 7, none⟩ = some (.int .i64 x.wid) ∧ w'.cell? ⟨bn, on + k * 9 + 8, none⟩ = some (.string x.name) from fun W' h => by
         have hl := h.laterC (W := W) ⟨u, rfl⟩ (fun b hb => by
          have h2 := HW4.out
          rcases hb with hb | hb
          · have h1 := (HI.out.1.nd.lt b hb.symm).1; omega
          · omega)
         obtain ⟨v, rfl⟩ := hl
         exact ⟨n0 v, p0 v, p1 v, p2 v, p3 v, p4 v, p5 v, p6 v, p7 v, p8 v⟩)
        clear hnx
        have yb : ∀ l : Later u.val, l.val.cell? ⟨B4, 0, none⟩ = some (.slice A6 q e6) := fun l => (HI.out.1.bx.below l.prop HI.out.1.bx.lt).cell 0
        have yf : ∀ l : Later u.val, l.val.frozen? ⟨B4, 0, none⟩ = false := fun l => (HI.out.1.bx.below l.prop HI.out.1.bx.lt).frozen 0
        go_upto_region 11 with fail
        have n0' := Later.re n0 (show LaterC W u.val from ⟨u, rfl⟩)
        have p0' := Later.re p0 (show LaterC W u.val from ⟨u, rfl⟩)
        have p1' := Later.re p1 (show LaterC W u.val from ⟨u, rfl⟩)
        have p2' := Later.re p2 (show LaterC W u.val from ⟨u, rfl⟩)
        have p3' := Later.re p3 (show LaterC W u.val from ⟨u, rfl⟩)
        have p4' := Later.re p4 (show LaterC W u.val from ⟨u, rfl⟩)
        have p5' := Later.re p5 (show LaterC W u.val from ⟨u, rfl⟩)
        have p6' := Later.re p6 (show LaterC W u.val from ⟨u, rfl⟩)
        have p7' := Later.re p7 (show LaterC W u.val from ⟨u, rfl⟩)
        have p8' := Later.re p8 (show LaterC W u.val from ⟨u, rfl⟩)
        clear yf n0 p0 p1 p2 p3 p4 p5 p6 p7 p8
        refine at_world (w := u.val) ?_
        intro cu
        go_region_law ((first | (refine step_push kN_ok (by rfl) _ _ (by rfl) (B4 + 1) u.val _ v1.val.heap.size (.slice A6 q e6) (partT (toL KL k) x) (coneNs M.nodes KL k) q _ _ HNL.out (by rfl) HI.out.1.nd HI.out.2 HNB.out (LaterC.below (w1 := u.val) (by repeat (first | exact ⟨_, rfl⟩ | exact LaterC.refl _ | refine LaterC.drew' ?_ | refine LaterC.alloc' ?_ _))) (heap_alloc_new v1.val _) (by rfl) (by rfl) ?_; intro g2 cap wn hac hgr hat; have HGB := Lib.hid (show But (fun b => some b = (Value.slice A6 q e6).ownBlock) u.val wn from (But.alloc' (But.of_below v1.prop) _).trans (grown_but hgr)); have HGB2 := Lib.hid (HGB.out.mono (T := fun b => some b = (Value.slice A6 q e6).ownBlock ∨ b = B4) fun b hb => .inl hb); have HP2 := Lib.hid (HI.out.1.nodes (Nat.lt_succ_self _) (show Below u.val.heap.size u.val _ from v1.prop.alloc v1.size _) hgr hat hac); have HBN := Lib.hid (HI.out.1.bx.but HGB.out (fun e => by have h1 := (HI.out.1.nd.lt B4 e.symm).1; omega)); have b1n := HBN.out.cell 0; have f1n := HBN.out.frozen 0; replace b1n : wn.cell? ⟨B4, 0, none⟩ = some (.slice A6 q e6) := b1n; clear hac hgr hat) | (go_simp; go_at_call 16; (refine (l9Parts_calls x (.slice A5 k e5) (toL KL k) _ ((HI.out.1.tb.below (LaterC.below (w1 := u.val) (by repeat (first | exact ⟨_, rfl⟩ | exact LaterC.refl _ | refine LaterC.drew' ?_ | refine LaterC.alloc' ?_ _)))).slI (by rw [HTL.out]; omega)) HPI.out HPOS.out HTB.out).mono ?_); rintro e wv ⟨rfl, hb⟩; obtain ⟨v1, hv1⟩ := laterC_step (w1 := u.val) (by repeat (first | exact ⟨_, rfl⟩ | exact LaterC.refl _ | refine LaterC.drew' ?_ | refine LaterC.alloc' ?_ _)) hb; subst hv1; have yb1 : v1.val.cell? ⟨B4, 0, none⟩ = some (.slice A6 q e6) := yb v1; have yb2 : ∀ o, (v1.val.alloc o).cell? ⟨B4, 0, none⟩ = some (.slice A6 q e6) := fun o => keepcell ((Below.refl _ _).alloc (Nat.le_refl _) o) yb1; clear hb)))
        all_goals
         have HLW7 := Lib.hid (show LaterC W (wn.setCell ⟨B4, 0, none⟩ (.slice (some ⟨g2, 0, none⟩) (q + 1) cap)) from LaterC.setCell' (HGB.out.laterC (W := W) ⟨u, rfl⟩ (fun b hb => by have h1 := (HI.out.1.nd.lt b hb.symm).1; have h2 := HW4.out; omega)) _ _ HW4.out)
         have HSN := Lib.hid (show toL KL (k + 1) = toL KL k ++ [(q : Int)] by rw [toL_snoc, toI_yes HT.out, HQQ.out])
         generalize wn.setCell ⟨B4, 0, none⟩ (.slice (some ⟨g2, 0, none⟩) (q + 1) cap) = w7 at *
         have b0 : w7.cell? ⟨B4, 0, none⟩ = some (.slice (some ⟨g2, 0, none⟩) (q + 1) cap) := HP2.out.bx.cell 0
         have HSZ7 := Lib.hid (show B4 < w7.heap.size from HP2.out.bx.lt)
         go_wp2_with (at_builtin; refine wpList_push kI_ok (by rfl) _ _ (by rfl) (B4 + 1) w7 _ w7.heap.size (.slice A5 k e5) _ (toL KL k) k _ _ HTL.out (by rfl) HP2.out.tb HSZ7.out HTB.out (by repeat (first | exact Below.refl _ _ | refine Below.drew ?_ | refine Below.alloc ?_ (Nat.le_refl _) _)) (heap_alloc_new w7 _) (by rfl) (by rfl) ?_; intro g3 cap3 wn3 hac hgr hat; have HP3 := Lib.hid (HP2.out.table (Nat.lt_succ_self _) (by repeat (first | exact Below.refl _ _ | refine Below.drew ?_ | refine Below.alloc ?_ (Nat.le_refl _) _)) hgr hat hac); have HLW3 := Lib.hid ((grown_but hgr).laterC (W := W) (LaterC.alloc' HLW7.out _) (fun b hb => by have h1 := (HP2.out.tb.lt b hb.symm).1; have h2 := HW4.out; omega)); clear hac hgr hat)
         go_roundw
         case rel => exact ⟨k + 1, _, _, by omega, rfl, by go_num, Lib.hid ⟨by rw [HSN.out, HYN.out]; exact HP3.out.last (by omega), HP3.out.bx.lt⟩, HLW3.out⟩
         case measure => simp [intOf] <;> omega
    · obtain rfl : n = k := by omega
      have HCE2 := Lib.hid (show C = ⟨coneNs M.nodes KL n, coneBs KL M.inits, coneBs KL M.nexts, coneIs KL M.bads, coneIs KL M.holds⟩ by rw [HCE.out, HKL.out, HN.out])
      have HE1 := Lib.hid (show bindsT (toL KL n) M.inits = coneBs KL M.inits by have h := binds_cone HC.out (xs := M.inits) (fun b hb => List.mem_append_left _ hb); rwa [HKL.out, HN.out] at h)
      have HE2 := Lib.hid (show bindsT (toL KL n) M.nexts = coneBs KL M.nexts by have h := binds_cone HC.out (xs := M.nexts) (fun b hb => List.mem_append_right _ hb); rwa [HKL.out, HN.out] at h)
      have HE3 := Lib.hid (show (M.bads.map fun x => (toL KL n).getD x.toNat 0) = coneIs KL M.bads by have h := ints_cone HC.out (xs := M.bads) (fun b hb => List.mem_append_left _ hb); rwa [HKL.out, HN.out] at h)
      have HE4 := Lib.hid (show (M.holds.map fun x => (toL KL n).getD x.toNat 0) = coneIs KL M.holds by have h := ints_cone HC.out (xs := M.holds) (fun b hb => List.mem_append_right _ hb); rwa [HKL.out, HN.out] at h)
      have HTL := Lib.hid (show (toL KL n).length = n from toL_len _ _)
      have HBQ := Lib.hid (show ∀ b, b ∈ M.inits ++ M.nexts → (0 ≤ b.st ∧ b.st < (toL KL n).length) ∧ (0 ≤ b.nd ∧ b.nd < (toL KL n).length) from fun b hb => by
       have h := binds_q HC.out hb
       rw [HTL.out, ← HN.out]
       exact ⟨h.1, h.2.1⟩)
      have HRQ := Lib.hid (show ∀ x, x ∈ M.bads ++ M.holds → 0 ≤ x ∧ x < (toL KL n).length from fun x hx => by
       have h := root_q HC.out hx
       rw [HTL.out, ← HN.out]
       exact h)
      have HX0 := Lib.hid HI.out.1.bx
      have HA0 := Lib.hid HI.out.1.nd
      have HTT := Lib.hid HI.out.1.tb
      have HBZ := Lib.hid HI.out.2
      clear HI
      go_upto_region 13 with fail
      have HZ1 := Lib.hid (show B4 + 1 ≤ u.val.heap.size from HX0.out.lt)
      obtain ⟨R1, hR1⟩ : ∃ R, coneBs KL M.inits = R := ⟨_, rfl⟩
      rw [hR1] at HE1 HCE2
      clear hR1
      go_upto_region 14 with (go_at_call 17; (with_reducible refine (l9Binds_calls s1 (.slice A5 n e5) M.inits (toL KL n) _ (HS1.out.slN.below (HBW.out.trans (u.prop.mono HBW.out.size))) (HTT.out.slI (by rw [HTL.out]; omega)) (fun b hb => HBQ.out b (List.mem_append_left _ hb)) (by have := HLN.out.2.1; omega) (by rw [HTL.out]; omega)).mono ?_); rw [HE1.out]; rintro e z1 ⟨r1, rfl, hb, hac⟩; have HB1 := Lib.hid hb; have HC1 := Lib.hid hac; obtain ⟨F1, d1, hs1⟩ := hac.shape; subst hs1; have hxx := HX0.out.below hb HX0.out.lt; have HXX1 := Lib.hid hxx; have y1 := hxx.cell 1; have f1 := hxx.frozen 1; replace y1 : z1.cell? ⟨B4, 1, none⟩ = some (.slice none 0 0) := y1; clear hb hac hxx)
      clear y1 f1
      have HD01 := Lib.hid (sep_of HA0.out (Nat.le_refl _) HC1.out)
      have HP1 := Lib.hid (show (kB).Ok from kB_ok)
      have HX1 := Lib.hid (show OwnB (z1.setCell ⟨B4, 1, none⟩ (.slice F1 R1.length d1)) B4 31 #[.slice A6 q e6, .slice F1 R1.length d1, .slice none 0 0, .slice none 0 0, .slice none 0 0] from HXX1.out.set 1 (.slice F1 R1.length d1))
      replace HA0 := Lib.hid (HA0.out.put HB1.out (Nat.lt_succ_self B4) 1 (.slice F1 R1.length d1))
      replace HTT := Lib.hid (HTT.out.put HB1.out (Nat.lt_succ_self B4) 1 (.slice F1 R1.length d1))
      have HA1 := Lib.hid ((HC1.out.mono HZ1.out).put (Below.refl _ _) (Nat.lt_succ_self B4) 1 (.slice F1 R1.length d1))
      have HL1 := Lib.hid (show LaterC W (z1.setCell ⟨B4, 1, none⟩ (.slice F1 R1.length d1)) from LaterC.setCell' (laterC_step (w1 := W) ⟨u, rfl⟩ HB1.out) _ _ HW4.out)
      generalize z1.setCell ⟨B4, 1, none⟩ (.slice F1 R1.length d1) = x1 at *
      obtain ⟨v1, hv1⟩ := HL1.out
      subst hv1
      clear HL1 HXX1 HP1
      have HZ2 := Lib.hid (show B4 + 1 ≤ v1.val.heap.size from HX1.out.lt)
      obtain ⟨R2, hR2⟩ : ∃ R, coneBs KL M.nexts = R := ⟨_, rfl⟩
      rw [hR2] at HE2 HCE2
      clear hR2
      go_upto_region 15 with (go_at_call 17; (with_reducible refine (l9Binds_calls s2 (.slice A5 n e5) M.nexts (toL KL n) _ (HS2.out.slN.below (HBW.out.trans (v1.prop.mono HBW.out.size))) (HTT.out.slI (by rw [HTL.out]; omega)) (fun b hb => HBQ.out b (List.mem_append_right _ hb)) (by have := HLN.out.2.2.1; omega) (by rw [HTL.out]; omega)).mono ?_); rw [HE2.out]; rintro e z2 ⟨r2, rfl, hb, hac⟩; have HB2 := Lib.hid hb; have HC2 := Lib.hid hac; obtain ⟨F2, d2, hs2⟩ := hac.shape; subst hs2; have hxx := HX1.out.below hb HX1.out.lt; have HXX2 := Lib.hid hxx; have y2 := hxx.cell 2; have f2 := hxx.frozen 2; replace y2 : z2.cell? ⟨B4, 2, none⟩ = some (.slice none 0 0) := y2; clear hb hac hxx)
      clear y2 f2
      have HD02 := Lib.hid (sep_of HA0.out (Nat.le_refl _) HC2.out)
      have HD12 := Lib.hid (sep_of HA1.out (Nat.le_refl _) HC2.out)
      have HP2 := Lib.hid (show (kB).Ok from kB_ok)
      have HX2 := Lib.hid (show OwnB (z2.setCell ⟨B4, 2, none⟩ (.slice F2 R2.length d2)) B4 31 #[.slice A6 q e6, .slice F1 R1.length d1, .slice F2 R2.length d2, .slice none 0 0, .slice none 0 0] from HXX2.out.set 2 (.slice F2 R2.length d2))
      replace HA0 := Lib.hid (HA0.out.put HB2.out (Nat.lt_succ_self B4) 2 (.slice F2 R2.length d2))
      replace HA1 := Lib.hid (HA1.out.put HB2.out (Nat.lt_succ_self B4) 2 (.slice F2 R2.length d2))
      replace HTT := Lib.hid (HTT.out.put HB2.out (Nat.lt_succ_self B4) 2 (.slice F2 R2.length d2))
      have HA2 := Lib.hid ((HC2.out.mono HZ2.out).put (Below.refl _ _) (Nat.lt_succ_self B4) 2 (.slice F2 R2.length d2))
      have HL2 := Lib.hid (show LaterC W (z2.setCell ⟨B4, 2, none⟩ (.slice F2 R2.length d2)) from LaterC.setCell' (laterC_step (w1 := W) ⟨v1, rfl⟩ HB2.out) _ _ HW4.out)
      generalize z2.setCell ⟨B4, 2, none⟩ (.slice F2 R2.length d2) = x2 at *
      obtain ⟨v2, hv2⟩ := HL2.out
      subst hv2
      clear HL2 HXX2 HP2
      have HZ3 := Lib.hid (show B4 + 1 ≤ v2.val.heap.size from HX2.out.lt)
      obtain ⟨R3, hR3⟩ : ∃ R, coneIs KL M.bads = R := ⟨_, rfl⟩
      rw [hR3] at HE3 HCE2
      clear hR3
      go_upto_region 16 with (go_at_call 18; (with_reducible refine (l9Moved_calls s3 (.slice A5 n e5) M.bads (toL KL n) _ (HS3.out.slN.below (HBW.out.trans (v2.prop.mono HBW.out.size))) (HTT.out.slI (by rw [HTL.out]; omega)) (fun b hb => HRQ.out b (List.mem_append_left _ hb)) (by have := HLN.out.2.2.2.1; omega) (by rw [HTL.out]; omega)).mono ?_); rw [HE3.out]; rintro e z3 ⟨r3, rfl, hb, hac⟩; have HB3 := Lib.hid hb; have HC3 := Lib.hid hac; obtain ⟨F3, d3, hs3⟩ := hac.shape; subst hs3; have hxx := HX2.out.below hb HX2.out.lt; have HXX3 := Lib.hid hxx; have y3 := hxx.cell 3; have f3 := hxx.frozen 3; replace y3 : z3.cell? ⟨B4, 3, none⟩ = some (.slice none 0 0) := y3; clear hb hac hxx)
      clear y3 f3
      have HD03 := Lib.hid (sep_of HA0.out (Nat.le_refl _) HC3.out)
      have HD13 := Lib.hid (sep_of HA1.out (Nat.le_refl _) HC3.out)
      have HD23 := Lib.hid (sep_of HA2.out (Nat.le_refl _) HC3.out)
      have HP3 := Lib.hid (show (kI).Ok from kI_ok)
      have HX3 := Lib.hid (show OwnB (z3.setCell ⟨B4, 3, none⟩ (.slice F3 R3.length d3)) B4 31 #[.slice A6 q e6, .slice F1 R1.length d1, .slice F2 R2.length d2, .slice F3 R3.length d3, .slice none 0 0] from HXX3.out.set 3 (.slice F3 R3.length d3))
      replace HA0 := Lib.hid (HA0.out.put HB3.out (Nat.lt_succ_self B4) 3 (.slice F3 R3.length d3))
      replace HA1 := Lib.hid (HA1.out.put HB3.out (Nat.lt_succ_self B4) 3 (.slice F3 R3.length d3))
      replace HA2 := Lib.hid (HA2.out.put HB3.out (Nat.lt_succ_self B4) 3 (.slice F3 R3.length d3))
      replace HTT := Lib.hid (HTT.out.put HB3.out (Nat.lt_succ_self B4) 3 (.slice F3 R3.length d3))
      have HA3 := Lib.hid ((HC3.out.mono HZ3.out).put (Below.refl _ _) (Nat.lt_succ_self B4) 3 (.slice F3 R3.length d3))
      have HL3 := Lib.hid (show LaterC W (z3.setCell ⟨B4, 3, none⟩ (.slice F3 R3.length d3)) from LaterC.setCell' (laterC_step (w1 := W) ⟨v2, rfl⟩ HB3.out) _ _ HW4.out)
      generalize z3.setCell ⟨B4, 3, none⟩ (.slice F3 R3.length d3) = x3 at *
      obtain ⟨v3, hv3⟩ := HL3.out
      subst hv3
      clear HL3 HXX3 HP3
      have HZ4 := Lib.hid (show B4 + 1 ≤ v3.val.heap.size from HX3.out.lt)
      obtain ⟨R4, hR4⟩ : ∃ R, coneIs KL M.holds = R := ⟨_, rfl⟩
      rw [hR4] at HE4 HCE2
      clear hR4
      go_upto_region 17 with (go_at_call 18; (with_reducible refine (l9Moved_calls s4 (.slice A5 n e5) M.holds (toL KL n) _ (HS4.out.slN.below (HBW.out.trans (v3.prop.mono HBW.out.size))) (HTT.out.slI (by rw [HTL.out]; omega)) (fun b hb => HRQ.out b (List.mem_append_right _ hb)) (by have := HLN.out.2.2.2.2; omega) (by rw [HTL.out]; omega)).mono ?_); rw [HE4.out]; rintro e z4 ⟨r4, rfl, hb, hac⟩; have HB4 := Lib.hid hb; have HC4 := Lib.hid hac; obtain ⟨F4, d4, hs4⟩ := hac.shape; subst hs4; have hxx := HX3.out.below hb HX3.out.lt; have HXX4 := Lib.hid hxx; have y4 := hxx.cell 4; have f4 := hxx.frozen 4; replace y4 : z4.cell? ⟨B4, 4, none⟩ = some (.slice none 0 0) := y4; clear hb hac hxx)
      clear y4 f4
      have HD04 := Lib.hid (sep_of HA0.out (Nat.le_refl _) HC4.out)
      have HD14 := Lib.hid (sep_of HA1.out (Nat.le_refl _) HC4.out)
      have HD24 := Lib.hid (sep_of HA2.out (Nat.le_refl _) HC4.out)
      have HD34 := Lib.hid (sep_of HA3.out (Nat.le_refl _) HC4.out)
      have HP4 := Lib.hid (show (kI).Ok from kI_ok)
      have HX4 := Lib.hid (show OwnB (z4.setCell ⟨B4, 4, none⟩ (.slice F4 R4.length d4)) B4 31 #[.slice A6 q e6, .slice F1 R1.length d1, .slice F2 R2.length d2, .slice F3 R3.length d3, .slice F4 R4.length d4] from HXX4.out.set 4 (.slice F4 R4.length d4))
      replace HA0 := Lib.hid (HA0.out.put HB4.out (Nat.lt_succ_self B4) 4 (.slice F4 R4.length d4))
      replace HA1 := Lib.hid (HA1.out.put HB4.out (Nat.lt_succ_self B4) 4 (.slice F4 R4.length d4))
      replace HA2 := Lib.hid (HA2.out.put HB4.out (Nat.lt_succ_self B4) 4 (.slice F4 R4.length d4))
      replace HA3 := Lib.hid (HA3.out.put HB4.out (Nat.lt_succ_self B4) 4 (.slice F4 R4.length d4))
      replace HTT := Lib.hid (HTT.out.put HB4.out (Nat.lt_succ_self B4) 4 (.slice F4 R4.length d4))
      have HA4 := Lib.hid ((HC4.out.mono HZ4.out).put (Below.refl _ _) (Nat.lt_succ_self B4) 4 (.slice F4 R4.length d4))
      have HL4 := Lib.hid (show LaterC W (z4.setCell ⟨B4, 4, none⟩ (.slice F4 R4.length d4)) from LaterC.setCell' (laterC_step (w1 := W) ⟨v3, rfl⟩ HB4.out) _ _ HW4.out)
      generalize z4.setCell ⟨B4, 4, none⟩ (.slice F4 R4.length d4) = x4 at *
      obtain ⟨v4, hv4⟩ := HL4.out
      subst hv4
      clear HL4 HXX4 HP4
      go_upto_region 17 with fail
      have a0 : v4.val.cell? ⟨B4, 0, none⟩ = some (.slice A6 q e6) := HX4.out.cell 0
      have a1 : v4.val.cell? ⟨B4, 1, none⟩ = some (.slice F1 R1.length d1) := HX4.out.cell 1
      have a2 : v4.val.cell? ⟨B4, 2, none⟩ = some (.slice F2 R2.length d2) := HX4.out.cell 2
      have a3 : v4.val.cell? ⟨B4, 3, none⟩ = some (.slice F3 R3.length d3) := HX4.out.cell 3
      have a4 : v4.val.cell? ⟨B4, 4, none⟩ = some (.slice F4 R4.length d4) := HX4.out.cell 4
      have y0 : v4.val.cell? ⟨w.heap.size + 1, 0, none⟩ = some (.slice none 0 0) := (HRW2.out _ ⟨v4, rfl⟩).cell 0
      have f0 : v4.val.frozen? ⟨w.heap.size + 1, 0, none⟩ = false := (HRW2.out _ ⟨v4, rfl⟩).frozen 0
      have y1 : v4.val.cell? ⟨w.heap.size + 1, 1, none⟩ = some (.slice none 0 0) := (HRW2.out _ ⟨v4, rfl⟩).cell 1
      have f1 : v4.val.frozen? ⟨w.heap.size + 1, 1, none⟩ = false := (HRW2.out _ ⟨v4, rfl⟩).frozen 1
      have y2 : v4.val.cell? ⟨w.heap.size + 1, 2, none⟩ = some (.slice none 0 0) := (HRW2.out _ ⟨v4, rfl⟩).cell 2
      have f2 : v4.val.frozen? ⟨w.heap.size + 1, 2, none⟩ = false := (HRW2.out _ ⟨v4, rfl⟩).frozen 2
      have y3 : v4.val.cell? ⟨w.heap.size + 1, 3, none⟩ = some (.slice none 0 0) := (HRW2.out _ ⟨v4, rfl⟩).cell 3
      have f3 : v4.val.frozen? ⟨w.heap.size + 1, 3, none⟩ = false := (HRW2.out _ ⟨v4, rfl⟩).frozen 3
      have y4 : v4.val.cell? ⟨w.heap.size + 1, 4, none⟩ = some (.slice none 0 0) := (HRW2.out _ ⟨v4, rfl⟩).cell 4
      have f4 : v4.val.frozen? ⟨w.heap.size + 1, 4, none⟩ = false := (HRW2.out _ ⟨v4, rfl⟩).frozen 4
      have HF := Lib.hid (five_set (HRW2.out _ ⟨v4, rfl⟩) (.slice A6 q e6) (.slice F1 R1.length d1) (.slice F2 R2.length d2) (.slice F3 R3.length d3) (.slice F4 R4.length d4))
      have r0 := HF.out.cell 0
      have r1 := HF.out.cell 1
      have r2 := HF.out.cell 2
      have r3 := HF.out.cell 3
      have r4 := HF.out.cell 4
      have HWS := Lib.hid (show w.heap.size + 2 ≤ W.heap.size by have h1 := HLW.out.below.size; have h2 := HSZ.out; omega)
      have HBB := Lib.hid (show Below w.heap.size w _ from (v4.back HBW.out).trans ((five_but v4.val (w.heap.size + 1) (.slice A6 q e6) (.slice F1 R1.length d1) (.slice F2 R2.length d2) (.slice F3 R3.length d3) (.slice F4 R4.length d4)).below (B := w.heap.size) (fun k e => by subst e; omega) (v4.back HBW.out).size))
      go_wp2
      refine bodyPost_ret (v := .agg #[.slice A6 q e6, .slice F1 R1.length d1, .slice F2 R2.length d2, .slice F3 R3.length d3, .slice F4 R4.length d4]) (by simp [results, Tryz.results5, go_sem, r0, r1, r2, r3, r4]) rfl ?_
      refine ⟨_, _, _, _, _, rfl, HBB.out, ?_⟩
      rw [HCE2.out]
      exact (OwnM.but (lo := B4 + 1) ⟨HA0.out, HA1.out, HA2.out, HA3.out, HA4.out, HD01.out, HD02.out, HD03.out, HD04.out, HD12.out, HD13.out, HD14.out, HD23.out, HD24.out, HD34.out⟩ (five_but _ _ _ _ _ _ _) (fun b hb e => by have h1 := HWS.out; have h2 := HW4.out; omega)).mono (by have h1 := HWS.out; have h2 := HW4.out; omega)
end Go.Proofs.YtdojaijnejcoiaaGreat
namespace Go.Proofs.YtdojaijnejcoiaaGreat
open Go.RowKit
abbrev bdV (y : Bd) : Value := .agg #[.int .i64 y.st, .int .i64 y.nd]
def firstB (p : Bd → Bool) : List Bd → Int
 | [] => -1
 | x :: l => if p x = true then 0 else if firstB p l < 0 then -1 else firstB p l + 1
theorem firstB_at {p : Bd → Bool} : ∀ {xs : List Bd} {k : Nat}, k < xs.length → (∀ j, j < k → p (xs.getD j Bd.zero) = false) → p (xs.getD k Bd.zero) = true → firstB p xs = k
 | x :: l, 0, _, _, h => by
   have h' : p x = true := h
   simp [firstB, h']
 | x :: l, k + 1, hk, hto, h => by
   have h0 : p x = false := hto 0 (Nat.succ_pos _)
   have ih := firstB_at (xs := l) (k := k) (by simpa using hk) (fun j hj => hto (j + 1) (by omega)) h
   unfold firstB
   rw [if_neg (by simp [h0]), ih, if_neg (by omega)]
   rfl
theorem firstB_none {p : Bd → Bool} : ∀ {xs : List Bd}, (∀ j, j < xs.length → p (xs.getD j Bd.zero) = false) → firstB p xs = -1
 | [], _ => rfl
 | x :: l, h => by
   have h0 : p x = false := h 0 (Nat.succ_pos _)
   have ih := firstB_none (xs := l) (fun j hj => h (j + 1) (by simpa using hj))
   unfold firstB
   rw [if_neg (by simp [h0]), ih]
   rfl
theorem firstB_cases (p : Bd → Bool) : ∀ xs : List Bd, (firstB p xs = -1 ∧ xs.filter (fun b => !p b) = xs) ∨ ∃ k : Nat, firstB p xs = k ∧ k < xs.length ∧ p (xs.getD k Bd.zero) = true ∧ (xs.take k).filter (fun b => !p b) = xs.take k
 | [] => .inl ⟨rfl, rfl⟩
 | x :: l => by
   by_cases h : p x = true
   · exact .inr ⟨0, by simp [firstB, h], by simp, h, by simp⟩
   · rcases firstB_cases p l with ⟨h1, h2⟩ | ⟨k, h1, h2, h3, h4⟩
     · refine .inl ⟨by simp [firstB, h, h1], ?_⟩
       rw [List.filter_cons, if_pos (by simp [h]), h2]
     · refine .inr ⟨k + 1, ?_, by simpa using h2, h3, ?_⟩
       · rw [firstB, if_neg h, h1, if_neg (by omega)]
         push_cast
         rfl
       · rw [List.take_succ_cons, List.filter_cons, if_pos (by simp [h]), h4]
def AnswersB (w : World) (F : FuncId) (caps : Array Value) (p : Bd → Bool) (xs : List Bd) : Prop :=
 ∀ (y : Bd) (u : Later w), y ∈ xs → Makes Tryz.prog F (#[bdV y] ++ caps) u.val (.bool (p y))
theorem indexB_calls (F : FuncId) (caps : Array Value) (p : Bd → Bool) (sv : Value) (xs : List Bd) (w : World) (hS : SlN enBd w sv xs) (heg : ∀ (args : Array Value) (w : World), (callFunc F args).run Tryz.prog w = .ok (.enter F args) w) (hF : AnswersB w F caps p xs) :
 Makes Tryz.prog 67 #[sv, .func (.func F) #[] caps] w (.int .i64 (firstB p xs)) := by
 obtain ⟨A, c, rfl, hnc, hn, hA⟩ := hS
 have HAT := Lib.hid (show ∀ k, k < xs.length → (∀ j, j < k → p (xs.getD j Bd.zero) = false) → p (xs.getD k Bd.zero) = true → firstB p xs = k from fun k => firstB_at)
 have HNO := Lib.hid (show (∀ j, j < xs.length → p (xs.getD j Bd.zero) = false) → firstB p xs = -1 from firstB_none)
 generalize firstB p xs = R at *
 have HF := Lib.hid hF
 generalize hN : xs.length = n at *
 have HN := Lib.hid hN
 clear hN hnc hF
 go_enter Tryz.func67, Tryz.ntmps67
 go_wp2
 go_loopw [8] (fun i wr => ∃ k : Nat, k ≤ n ∧ i = .int .i64 k ∧ Hid (∀ j, j < k → p (xs.getD j Bd.zero) = false) ∧ LaterC w wr) (fun i _ => n - (intOf i).toNat)
 case atStart => exact ⟨0, Nat.zero_le _, rfl, Lib.hid (fun j hj => absurd hj (Nat.not_lt_zero _)), LaterC.refl _⟩
 case round =>
  obtain ⟨k, hk, rfl, hto, ⟨u, rfl⟩⟩ := hrel
  by_cases hlt : k < n
  · have hlt' : (k : Int) < n := by omega
    have hget := getD_at (show k < xs.length by rw [HN.out]; exact hlt) Bd.zero
    obtain ⟨g, o, rfl, hx⟩ := hA k _ hget
    have HM := Lib.hid (List.mem_of_getElem? hget)
    generalize hxe : xs.getD k Bd.zero = x at *
    have HX := Lib.hid hxe
    have p0 : ∀ l : Later w, l.val.cell? ⟨g, o + k * 2, none⟩ = some (.int .i64 x.st) := hx.at_ (Below.refl _ _) 0 _ rfl
    have p1 : ∀ l : Later w, l.val.cell? ⟨g, o + k * 2 + 1, none⟩ = some (.int .i64 x.nd) := hx.at_ (Below.refl _ _) 1 _ rfl
    clear hx hA hxe hget
    by_cases hv : p x = true
    · have HV := Lib.hid hv
      have HR := Lib.hid (HAT.out k hlt hto.out (by rw [HX.out]; exact hv))
      clear hv hto
      go_wp2_with fail
      refine (Calls.later (u := u) (HF.out x u HM.out)).mono ?_
      rintro e w' ⟨rfl, u1, rfl⟩
      rw [HV.out]
      go_wp2
      go_ret
      exact ⟨ret_eq (congrArg (Value.int .i64) HR.out.symm), u1.prop⟩
    · have hv := eq_false_of_ne_true hv
      have HV := Lib.hid hv
      have HTO := Lib.hid (show ∀ j, j < k + 1 → p (xs.getD j Bd.zero) = false from fun j hj => by
       rcases Nat.lt_or_ge j k with g | g
       · exact hto.out j g
       · obtain rfl : j = k := by omega
         rw [HX.out]; exact hv)
      clear hv hto
      go_wp2_with fail
      refine (Calls.later (u := u) (HF.out x u HM.out)).mono ?_
      rintro e w' ⟨rfl, u1, rfl⟩
      rw [HV.out]
      go_wp2
      go_roundw
      case rel => exact ⟨k + 1, by omega, by go_num, HTO, ⟨u1, rfl⟩⟩
      case measure => simp [intOf] <;> omega
  · obtain rfl : k = n := by omega
    have HR := Lib.hid (HNO.out hto.out)
    clear hA hto
    go_wp2
    go_ret
    exact ⟨ret_eq (congrArg (Value.int .i64) HR.out.symm), u.prop⟩
theorem own_setCells {T : TypeId} {G : Nat} : ∀ (l : List Value) (o : Nat) (w : World) (cs : Array Value), OwnB w G T cs → ∃ cs', OwnB (w.setCells G o l) G T cs' ∧ cs'.size = cs.size ∧ (∀ q, q < o → cs'[q]? = cs[q]?) ∧ But (fun b => b = G) w (w.setCells G o l)
 | [], o, w, cs, h => ⟨cs, h, rfl, fun _ _ => rfl, .refl _ _⟩
 | v :: l, o, w, cs, h => by
   obtain ⟨cs', h1, h2, h3, h4⟩ := own_setCells l (o + 1) (w.setCell ⟨G, o, none⟩ v) _ (h.set o v)
   refine ⟨cs', h1, by rw [h2]; simp, fun q hq => ?_, ((But.refl (fun b => b = G) w).setCell (p := ⟨G, o, none⟩) rfl v).trans h4⟩
   rw [h3 q (by omega), Array.getElem?_setIfInBounds_ne (by omega)]
theorem run_clear_binds (w : World) (ty : TypeId) (b o n c : Nat) (hn : 0 < n) (hc : ∀ j, j < n * 2 → (w.cell? ⟨b, o + j, none⟩).isSome = true) (hf : ∀ j, j < n * 2 → w.frozen? ⟨b, o + j, none⟩ = false) :
 ∃ l, (Builtin.clear_ #[29] ty #[.slice (some ⟨b, o, none⟩) n c]).run Tryz.prog w = .ok (.tuple #[]) (w.setCells b o l) := by
 obtain ⟨i, hi, hz, hs, hb⟩ := info_parts kB_ok.info
 have hv : ∀ w, (zeroValue 57).run Tryz.prog w = .ok (.agg #[.int .i64 0, .int .i64 0]) w := fun w => by
  have hz' : i.zero = some (.agg #[.int .i64 0, .int .i64 0]) := hz
  have hi' : Tryz.prog.info? 57 = some i := hi
  simp [zeroValue, typeInfo, hi', hz']
 have hl : (Builtin.zeroCells (Value.agg #[.int .i64 0, .int .i64 0]).cells n).toList.length = n * 2 := by
  rw [Array.length_toList, size_zeroCells]
  rfl
 have h1 : ∀ v ∈ (Builtin.zeroCells (Value.agg #[.int .i64 0, .int .i64 0]).cells n).toList, v.oneCell' = true := fun v hv => by
  have hm := Array.mem_toList_iff.1 hv
  obtain ⟨i, -, rfl⟩ := Array.mem_map.1 hm
  have hz2 : (Value.agg #[.int .i64 0, .int .i64 0]).cells = #[Value.int .i64 0, .int .i64 0] := rfl
  rw [hz2]
  rcases (show i % 2 = 0 ∨ i % 2 = 1 by omega) with e | e
  · have : i % (#[Value.int .i64 0, .int .i64 0] : Array Value).size = 0 := e
    rw [this]; rfl
  · have : i % (#[Value.int .i64 0, .int .i64 0] : Array Value).size = 1 := e
    rw [this]; rfl
 have hst := run_storeCells_cells (P := Tryz.prog) b o (Builtin.zeroCells (Value.agg #[.int .i64 0, .int .i64 0]).cells n).toList 0 w (by rw [hl]; simpa using hc) (by rw [hl]; simpa using hf) h1
 simp only [Nat.add_zero] at hst
 obtain ⟨m, rfl⟩ : ∃ m, n = m + 1 := ⟨n - 1, by omega⟩
 exact ⟨(Builtin.zeroCells (Value.agg #[.int .i64 0, .int .i64 0]).cells (m + 1)).toList, by simp [Builtin.clear_, run_underlying Tryz.underlying29, hv, hst]⟩
def BdAt (cs : Array Value) (m : Nat) (x : Bd) : Prop := ∀ (f : Nat) (u : Value), (enBd.cells x)[f]? = some u → cs[m * 2 + f]? = some u
def DelP (p : Bd → Bool) (xs : List Bd) (cs : Array Value) (i j : Nat) : Prop :=
 ((xs.take j).filter fun b => !p b).length = i ∧ i ≤ j ∧ (∀ m x, ((xs.take j).filter fun b => !p b)[m]? = some x → BdAt cs m x) ∧ ∀ m x, j ≤ m → xs[m]? = some x → BdAt cs m x
theorem DelP.drop {p : Bd → Bool} {xs : List Bd} {cs : Array Value} {i j : Nat} (h : DelP p xs cs i j) (hj : j < xs.length) (hp : p (xs.getD j Bd.zero) = true) : DelP p xs cs i (j + 1) := by
 obtain ⟨h1, h2, h3, h4⟩ := h
 have e : (xs.take (j + 1)).filter (fun b => !p b) = (xs.take j).filter (fun b => !p b) := by
  rw [take_snoc xs hj Bd.zero, List.filter_append, List.filter_cons, if_neg (by rw [hp]; decide)]
  simp
 exact ⟨by rw [e]; exact h1, by omega, fun m x hm => h3 m x (by rw [e] at hm; exact hm), fun m x hm => h4 m x (by omega)⟩
theorem DelP.keep {p : Bd → Bool} {xs : List Bd} {cs : Array Value} {i j : Nat} (h : DelP p xs cs i j) (hj : j < xs.length) (hs : xs.length * 2 ≤ cs.size) (hp : p (xs.getD j Bd.zero) = false) : DelP p xs (put2 cs i (xs.getD j Bd.zero)) (i + 1) (j + 1) := by
 obtain ⟨h1, h2, h3, h4⟩ := h
 have e : (xs.take (j + 1)).filter (fun b => !p b) = (xs.take j).filter (fun b => !p b) ++ [xs.getD j Bd.zero] := by
  rw [take_snoc xs hj Bd.zero, List.filter_append, List.filter_cons, if_pos (by rw [hp]; rfl)]
  simp
 refine ⟨by rw [e, List.length_append, h1]; rfl, by omega, fun m x hm => ?_, fun m x hm hx f u hu => ?_⟩
 · rw [e] at hm
   rcases Nat.lt_or_ge m i with g | g
   · rw [List.getElem?_append_left (by omega)] at hm
     intro f u hu
     have hf : f < 2 := (List.getElem?_eq_some_iff.1 hu).1
     rw [put2_low cs i _ _ (by omega)]
     exact h3 m x hm f u hu
   · rw [List.getElem?_append_right (by omega), h1] at hm
     obtain rfl : m = i := by
      rcases Nat.lt_or_ge i m with g' | g'
      · rw [List.getElem?_eq_none (by simp; omega)] at hm; cases hm
      · omega
     simp at hm
     subst hm
     intro f u hu
     exact put2_at cs m _ (by omega) f u hu
 · have hf : f < 2 := (List.getElem?_eq_some_iff.1 hu).1
   unfold put2
   rw [Array.getElem?_setIfInBounds_ne (by omega), Array.getElem?_setIfInBounds_ne (by omega)]
   exact h4 m x (by omega) hx f u hu
theorem bdAt_flat {cs : Array Value} {n : Nat} {ys : List Bd} (hn : ys.length = n) (hs : n * 2 ≤ cs.size) (h : ∀ m x, ys[m]? = some x → BdAt cs m x) : cs.toList.take (n * 2) = flatE enBd ys := by
 apply List.ext_getElem?
 intro q
 rcases Nat.lt_or_ge q (n * 2) with g | g
 · rw [List.getElem?_take_of_lt g]
   obtain ⟨m, f, rfl, hf⟩ : ∃ m f, q = m * 2 + f ∧ f < 2 := ⟨q / 2, q % 2, by omega, by omega⟩
   have hm : m < ys.length := by omega
   have hx := List.getElem?_eq_getElem hm
   have h2 : (flatE enBd ys)[m * 2 + f]? = (enBd.cells ys[m])[f]? := flatE_get kB_ok hx f hf
   obtain ⟨u, hu⟩ : ∃ u, (enBd.cells ys[m])[f]? = some u := ⟨_, List.getElem?_eq_getElem (show f < 2 from hf)⟩
   rw [h2, hu]
   have := h _ _ hx f u hu
   simpa using this
 · rw [List.getElem?_eq_none (by simp; omega), List.getElem?_eq_none (by have := flatE_len kB_ok ys; have h2 : (flatE enBd ys).length = ys.length * 2 := this; omega)]
theorem deleteB_calls (F : FuncId) (caps : Array Value) (p : Bd → Bool) (lo : Nat) (sv : Value) (xs : List Bd) (w : World) (h : Acc kB lo w sv xs) (hx : xs.length ≤ 1048576) (heg : ∀ (args : Array Value) (w : World), (callFunc F args).run Tryz.prog w = .ok (.enter F args) w)
 (hF : ∀ W, But (fun b => sv.ownBlock = some b) w W → AnswersB W F caps p xs) :
 Calls Tryz.prog 27 #[sv, .func (.func F) #[] caps] w fun e w' => ∃ v, e = .returned v ∧ But (fun b => sv.ownBlock = some b) w w' ∧ Acc kB lo w' v (xs.filter fun b => !p b) ∧ ∀ b, v.ownBlock = some b → sv.ownBlock = some b := by
 have HF := Lib.hid hF
 have HA := Lib.hid h
 have HX := Lib.hid hx
 rcases firstB_cases p xs with ⟨h1, h2⟩ | ⟨k0, h1, h2, h3, h4⟩
 · have HI := Lib.hid h1
   have HFI := Lib.hid h2
   obtain ⟨A, c, hs⟩ := h.shape
   subst hs
   clear h1 h2 h hF hx
   go_enter Tryz.func27, Tryz.ntmps27
   go_wp2_with (go_at_call 67; refine (indexB_calls F caps p (.slice A xs.length c) xs w (HA.out.slN kB_ok (by have := HX.out; omega)) heg (HF.out w (.refl _ _))).mono ?_; rintro e w' ⟨rfl, hb⟩; rw [HI.out]; have HB := Lib.hid hb; clear hb)
   go_ret
   exact ⟨_, rfl, .of_below HB.out, by rw [HFI.out]; exact HA.out.below HB.out, fun b hb => hb⟩
 · rcases h.2 with ⟨-, h0⟩ | ⟨G, cap, cur, rfl, hlo, hG, hnc, hmax, hsz, htk⟩
   · omega
   have HI := Lib.hid h1
   have HPT := Lib.hid h3
   have HLO := Lib.hid hlo
   have HMX := Lib.hid hmax
   have HD0 := Lib.hid (show DelP p xs cur k0 (k0 + 1) from by
    have hat : ∀ m x, xs[m]? = some x → BdAt cur m x := fun m x hm f u hu => by
     have hf : f < 2 := (List.getElem?_eq_some_iff.1 hu).1
     have hml := (List.getElem?_eq_some_iff.1 hm).1
     have e1 := (flatE_get kB_ok hm f hf).trans hu
     have e2 : (cur.toList.take (xs.length * 2))[m * 2 + f]? = some u := by
      have htk' : cur.toList.take (xs.length * 2) = flatE enBd xs := htk
      rw [htk']; exact e1
     rw [List.getElem?_take_of_lt (by omega)] at e2
     simpa using e2
    refine DelP.drop (j := k0) (i := k0) ⟨?_, Nat.le_refl _, fun m x hm => ?_, fun m x _ hx => hat m x hx⟩ h2 h3
    · rw [h4, List.length_take]; omega
    · rw [h4] at hm
      have hml := (List.getElem?_eq_some_iff.1 hm).1
      rw [List.length_take] at hml
      rw [List.getElem?_take_of_lt (by omega)] at hm
      exact hat m x hm)
   have HSZ := Lib.hid (show cur.size = cap * 2 from hsz)
   have HNC := Lib.hid hnc
   have HGW := Lib.hid (show OwnB w G 57 cur from hG)
   obtain ⟨n, hn⟩ : ∃ n, xs.length = n := ⟨_, rfl⟩
   rw [hn] at HA HNC h2 hx
   have HN := Lib.hid hn
   rw [hn]
   have hcap : n ≤ cap := HNC.out
   clear h1 h3 h4 h hF hlo hmax hsz htk hn hG hnc
   go_enter Tryz.func27, Tryz.ntmps27
   go_upto_region 2 with (go_at_call 67; refine (indexB_calls F caps p (.slice (some ⟨G, 0, none⟩) n cap) xs w (HA.out.slN kB_ok (by have := HX.out; omega)) heg (HF.out w (.refl _ _))).mono ?_; rintro e w1 ⟨rfl, hb⟩; rw [HI.out]; have HB := Lib.hid hb; clear hb)
   have HG1 := Lib.hid (HGW.out.below HB.out HGW.out.lt)
   have HBT := Lib.hid (show But (fun b => (Value.slice (some ⟨G, 0, none⟩) n cap).ownBlock = some b) w w1 from .of_below HB.out)
   have hk1 : ((k0 : Int) == -1) = false := beq_eq_false_iff_ne.2 (by omega)
   go_wp2
   go_loopw [5, 6] (fun iv jv wr => ∃ (i j : Nat) (cs : Array Value), i < j ∧ j ≤ n ∧ iv = .int .i64 i ∧ jv = .int .i64 j ∧ Hid (OwnB wr G 57 cs ∧ cs.size = cap * 2 ∧ DelP p xs cs i j ∧ But (fun b => (Value.slice (some ⟨G, 0, none⟩) n cap).ownBlock = some b) w wr)) (fun _ jv _ => n - (intOf jv).toNat)
   case atStart => exact ⟨k0, k0 + 1, cur, by omega, by omega, rfl, by go_num, Lib.hid ⟨HG1.out, HSZ.out, HD0.out, HBT.out⟩⟩
   case round =>
    obtain ⟨i, j, cs, hij, hj, rfl, rfl, HR⟩ := hrel
    by_cases hlt : j < n
    · have hlt' : (j : Int) < n := by omega
      have hget := getD_at (show j < xs.length by rw [HN.out]; exact hlt) Bd.zero
      have HMEM := Lib.hid (List.mem_of_getElem? hget)
      have hat := HR.out.2.2.1.2.2.2 j _ (Nat.le_refl _) hget
      have HDR := Lib.hid (show p (xs.getD j Bd.zero) = true → DelP p xs cs i (j + 1) from fun h => HR.out.2.2.1.drop (by rw [HN.out]; exact hlt) h)
      have HKP := Lib.hid (show p (xs.getD j Bd.zero) = false → DelP p xs (put2 cs i (xs.getD j Bd.zero)) (i + 1) (j + 1) from fun h => HR.out.2.2.1.keep (by rw [HN.out]; exact hlt) (by rw [HN.out, HR.out.2.1]; omega) h)
      obtain ⟨y, hy⟩ : ∃ y, xs.getD j Bd.zero = y := ⟨_, rfl⟩
      rw [hy] at hat HMEM HDR HKP
      have p0 : wr.cell? ⟨G, j * 2, none⟩ = some (.int .i64 y.st) := (HR.out.1.cell _).trans (hat 0 _ rfl)
      have p1 : wr.cell? ⟨G, j * 2 + 1, none⟩ = some (.int .i64 y.nd) := (HR.out.1.cell _).trans (hat 1 _ rfl)
      clear hget hat hy
      obtain ⟨t, ht⟩ : ∃ t, p y = t := ⟨_, rfl⟩
      have HT := Lib.hid ht
      clear ht
      have HBX := Lib.hid (OwnB.new wr 57 #[.int .i64 y.st, .int .i64 y.nd])
      have HBA := Lib.hid (show Below wr.heap.size wr (wr.alloc (Obj.cells #[.int .i64 y.st, .int .i64 y.nd] 57)) from box_below _ _ _)
      go_upto_region 8 with fail
      generalize wr.alloc (Obj.cells #[.int .i64 y.st, .int .i64 y.nd] 57) = w2 at *
      have q0 : w2.cell? ⟨wr.heap.size, 0, none⟩ = some (.int .i64 y.st) := HBX.out.cell 0
      have q1 : w2.cell? ⟨wr.heap.size, 1, none⟩ = some (.int .i64 y.nd) := HBX.out.cell 1
      go_wp2_with fail
      refine (HF.out w2 (HR.out.2.2.2.trans (.of_below HBA.out)) y ⟨w2, Below.refl _ _⟩ HMEM.out).mono ?_
      rintro e w3 ⟨rfl, hb⟩
      rw [HT.out]
      have HB3 := Lib.hid (show Below wr.heap.size wr w3 from HBA.out.trans (hb.mono HBA.out.size))
      have q2 : w3.cell? ⟨wr.heap.size, 0, none⟩ = some (.int .i64 y.st) := keepcell hb q0
      have q3 : w3.cell? ⟨wr.heap.size, 1, none⟩ = some (.int .i64 y.nd) := keepcell hb q1
      have HG3 := Lib.hid (HR.out.1.below HB3.out HR.out.1.lt)
      have HBT3 := Lib.hid (HR.out.2.2.2.trans (.of_below HB3.out))
      clear hb q0 q1
      cases t
      · have hi2 : i * 2 + 2 ≤ cs.size := by rw [HR.out.2.1]; omega
        have c0 : w3.cell? ⟨G, i * 2, none⟩ = some cs[i * 2] := (HG3.out.cell _).trans (Array.getElem?_eq_getElem (by omega))
        have c1 : w3.cell? ⟨G, i * 2 + 1, none⟩ = some cs[i * 2 + 1] := (HG3.out.cell _).trans (Array.getElem?_eq_getElem (by omega))
        have e0 : w3.frozen? ⟨G, i * 2, none⟩ = false := HG3.out.frozen _
        have e1 : w3.frozen? ⟨G, i * 2 + 1, none⟩ = false := HG3.out.frozen _
        have hin' : (i : Int) < n := by omega
        have HR2 := Lib.hid (show OwnB ((w3.setCell ⟨G, i * 2, none⟩ (.int .i64 y.st)).setCell ⟨G, i * 2 + 1, none⟩ (.int .i64 y.nd)) G 57 (put2 cs i y) ∧ (put2 cs i y).size = cap * 2 ∧ DelP p xs (put2 cs i y) (i + 1) (j + 1) ∧ But (fun b => (Value.slice (some ⟨G, 0, none⟩) n cap).ownBlock = some b) w ((w3.setCell ⟨G, i * 2, none⟩ (.int .i64 y.st)).setCell ⟨G, i * 2 + 1, none⟩ (.int .i64 y.nd)) from
         ⟨(HG3.out.set _ _).set _ _, by rw [put2_size]; exact HR.out.2.1, HKP.out HT.out, (HBT3.out.setCell (p := ⟨G, i * 2, none⟩) rfl _).setCell (p := ⟨G, i * 2 + 1, none⟩) rfl _⟩)
        go_wp2
        go_roundw
        case rel => exact ⟨i + 1, j + 1, _, by omega, by omega, by go_num, by go_num, HR2⟩
        case measure => simp [intOf] <;> omega
      · have HR2 := Lib.hid (show OwnB w3 G 57 cs ∧ cs.size = cap * 2 ∧ DelP p xs cs i (j + 1) ∧ But (fun b => (Value.slice (some ⟨G, 0, none⟩) n cap).ownBlock = some b) w w3 from ⟨HG3.out, HR.out.2.1, HDR.out HT.out, HBT3.out⟩)
        go_wp2
        go_roundw
        case rel => exact ⟨i, j + 1, _, by omega, by omega, rfl, by go_num, HR2⟩
        case measure => simp [intOf] <;> omega
    · obtain rfl : n = j := by omega
      have hin : i < n := hij
      have hic : i < cap := by omega
      have hin' : (i : Int) < n := by omega
      have hsz : cs.size = cap * 2 := HR.out.2.1
      obtain ⟨l, hl⟩ := run_clear_binds wr 0 G (i * 2) (n - i) (cap - i) (by omega) (fun j hj => by rw [HR.out.1.cell, Array.getElem?_eq_getElem (by omega)]; rfl) (fun j _ => HR.out.1.frozen _)
      obtain ⟨cs', ho, hs', hlow, hbt⟩ := own_setCells l (i * 2) wr cs HR.out.1
      have HCL := Lib.hid hl
      have HTK := Lib.hid (show xs.take n = xs from List.take_of_length_le (by rw [HN.out]; exact Nat.le_refl _))
      have HFIN := Lib.hid (show Acc kB lo (wr.setCells G (i * 2) l) (.slice (some ⟨G, 0, none⟩) i cap) (xs.filter fun b => !p b) from by
       have h1 := HR.out.2.2.1.1
       have h3 := HR.out.2.2.1.2.2.1
       rw [HTK.out] at h1 h3
       refine ⟨by rw [flatE_len kB_ok], .inr ⟨G, cap, cs', by rw [h1], HLO.out, ho, by omega, HMX.out, hs'.trans hsz, ?_⟩⟩
       rw [h1]
       refine bdAt_flat h1 (by omega) fun m x hm f u hu => ?_
       have hf : f < 2 := (List.getElem?_eq_some_iff.1 hu).1
       have hml := (List.getElem?_eq_some_iff.1 hm).1
       rw [hlow _ (by omega)]
       exact h3 m x hm f u hu)
      have HBF := Lib.hid (show But (fun b => (Value.slice (some ⟨G, 0, none⟩) n cap).ownBlock = some b) w (wr.setCells G (i * 2) l) from HR.out.2.2.2.trans (hbt.mono fun b hb => by subst hb; rfl))
      clear ho hs' hlow hbt
      go_wp2
      go_ret
      exact ⟨_, rfl, HBF.out, HFIN.out, fun b hb => hb⟩
end Go.Proofs.YtdojaijnejcoiaaGreat
