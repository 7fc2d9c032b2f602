import Derived.Test.YthejgnabgglmhaaGreatkk8
import Derived.Test.YthejgnabgglmhaaGreatkk7
import Derived.Deep.AppendLies
import Derived.Laws.IdiomStrings
import Derived.LoopN
set_option linter.unusedVariables false
set_option linter.unusedSimpArgs false
set_option maxRecDepth 8000
set_option maxHeartbeats 16000000
namespace Go.Proofs.YthejgnabgglmhaaGreat
open Go.RowKit
theorem laterC_but {w1 W w' : World} {g : Nat} (h : LaterC w1 W) (hb : But (fun b => b = g) W w') (hg : w1.heap.size ≤ g) : LaterC w1 w' :=
 .of (h.below.trans (hb.below (fun k e => by subst e; exact hg) h.size))
def ClosedB (M : Md) (L : List Bool) (k : Nat) : Prop := ∀ (q : Nat) (b : Bd), q < k → tt L q → b ∈ M.inits ++ M.nexts → b.st = (q : Int) → tt L b.nd.toNat
def Roots (M : Md) (L : List Bool) : Prop := ∀ x, x ∈ M.bads ++ M.holds → tt L x.toNat
def LoopB (M : Md) (L L' : List Bool) (k : Nat) (more : Bool) : Prop :=
 Good M L' ∧ Roots M L' ∧ fls L' ≤ fls L ∧ (more = true → fls L' < fls L) ∧ (more = false → ClosedB M L' k)
def Phase (M : Md) (xs : List Bd) (k : Nat) (L L' : List Bool) (more : Bool) : Prop :=
 Good M L' ∧ (∀ j, tt L j → tt L' j) ∧ fls L' ≤ fls L ∧ (more = true → fls L' < fls L) ∧ (more = false → ∀ j, tt L' j → tt L j) ∧ ∀ b, b ∈ xs → b.st = (k : Int) → tt L' b.nd.toNat
theorem Phase.none {M : Md} {xs : List Bd} {k : Nat} {L : List Bool} (h : Good M L) (ha : againB xs = false) (hb : bdQ (k : Int) xs < 0) (hp : ∀ b, b ∈ xs → 0 ≤ b.nd) : Phase M xs k L L false :=
 ⟨h, fun _ h => h, Nat.le_refl _, fun h => (by cases h), fun _ _ h => h, fun b hm hs => by
  have h1 := bq_of ha hm
  rw [hs] at h1
  have := hp b hm
  omega⟩
theorem Phase.join {M : Md} {xs : List Bd} {k a : Nat} {L L' : List Bool} {more : Bool} (h : Good M L) (ha : againB xs = false) (hk : Kept M a) (hb : bdQ (k : Int) xs = (a : Int)) (hj : JoinP M.nodes a L L' more) : Phase M xs k L L' more := by
 refine ⟨h.join hk hj, fun j g => (hj.2.1 j).2 (.inl g), hj.2.2.1, hj.2.2.2.1, fun hm j g => ?_, fun b hm hs => ?_⟩
 · rcases (hj.2.1 j).1 g with e | e
   · exact e
   · exact hj.2.2.2.2 hm j e
 · have h1 := bq_of ha hm
   rw [hs, hb] at h1
   rw [← h1, Int.toNat_natCast]
   exact (hj.2.1 a).2 (.inr .self)
theorem LoopB.skip {M : Md} {L L' : List Bool} {k : Nat} {more : Bool} (h : LoopB M L L' k more) (hn : tt L' k → ∀ b, b ∈ M.inits ++ M.nexts → b.st ≠ (k : Int)) : LoopB M L L' (k + 1) more := by
 obtain ⟨h1, h2, h3, h4, h5⟩ := h
 refine ⟨h1, h2, h3, h4, fun hm q b hq ht hb hs => ?_⟩
 rcases Nat.lt_or_ge q k with g | g
 · exact h5 hm q b g ht hb hs
 · obtain rfl : q = k := by omega
   exact absurd hs (hn ht b hb)
theorem LoopB.step {M : Md} {L L' L1 L2 : List Bool} {k : Nat} {more m1 m2 : Bool} (h : LoopB M L L' k more) (p1 : Phase M M.inits k L' L1 m1) (p2 : Phase M M.nexts k L1 L2 m2) : LoopB M L L2 (k + 1) (m2 || (m1 || more)) := by
 obtain ⟨h1, h2, h3, h4, h5⟩ := h
 obtain ⟨a1, a2, a3, a4, a5, a6⟩ := p1
 obtain ⟨b1, b2, b3, b4, b5, b6⟩ := p2
 refine ⟨b1, fun x hx => b2 _ (a2 _ (h2 x hx)), by omega, fun hm => ?_, fun hm q b hq ht hb hs => ?_⟩
 · cases m2
   · cases m1
     · have := h4 (by simpa using hm); omega
     · have := a4 rfl; omega
   · have := b4 rfl; omega
 · cases m2
   · cases m1
     · have hm' : more = false := by simpa using hm
       rcases Nat.lt_or_ge q k with g | g
       · exact b2 _ (a2 _ (h5 hm' q b g (a5 rfl _ (b5 rfl _ ht)) hb hs))
       · obtain rfl : q = k := by omega
         rcases List.mem_append.1 hb with e | e
         · exact b2 _ (a6 b e hs)
         · exact b6 b e hs
     · simp at hm
   · simp at hm
theorem need_done {M : Md} {L : List Bool} (hc : codeN M = 0) (hg : Good M L) (hr : Roots M L) (hb : ClosedB M L M.nodes.length) : L = keptL M := by
 refine kept_eq hc hg.1 (kept_of hg.2.1 hr fun q j hq hs => ?_)
 rcases hs with hs | ⟨b, h1, h2, rfl⟩
 · exact hg.2.2 q j hq hs
 · exact hb q b (by have := tt_lt hq; rw [hg.1] at this; exact this) hq h1 h2
theorem tt_rep (n j : Nat) : ¬ tt (List.replicate n false) j := by
 intro hj
 unfold tt at hj
 rw [List.getD_eq_getElem?_getD, List.getElem?_replicate] at hj
 split at hj <;> cases hj
theorem good_rep (M : Md) {n : Nat} (h : n = M.nodes.length) : Good M (List.replicate n false) :=
 ⟨by rw [List.length_replicate, h], fun j hj => absurd hj (tt_rep n j), fun q j hq => absurd hq (tt_rep n q)⟩
theorem l9JoinN_calls (mv : Value) (M : Md) (g a n : Nat) (L : List Bool) (w : World) (hn : M.nodes.length = n) (hM : MdAt w mv M) (hO : OwnL w g L) (hl : L.length = M.nodes.length) (ha : a < M.nodes.length) (hd : Down M.nodes n) :
 Calls Tryz.prog 33 #[mv, .slice (some ⟨g, 0, none⟩) n n, .int .i64 (a : Int)] w fun e w' => JoinPost g M.nodes a L w e w' := by
 subst hn
 exact l9Join_calls mv M g a L w hM hO hl ha hd
def NeedPost (M : Md) (w : World) (e : Ending) (w' : World) : Prop := ∃ g, e = .returned (.slice (some ⟨g, 0, none⟩) M.nodes.length M.nodes.length) ∧ Below w.heap.size w w' ∧ w.heap.size ≤ g ∧ OwnL w' g (keptL M)
theorem l9Need_calls (mv : Value) (M : Md) (w : World) (hM : MdAt w mv M) (hco : codeN M = 0) :
 Calls Tryz.prog 17 #[mv] w fun e w' => NeedPost M w e w' := by
 have HM := Lib.hid hM
 have HCO := Lib.hid hco
 have HD := Lib.hid (nodes_down (code_q hco).2.1)
 obtain ⟨s0, s1, s2, s3, s4, rfl, h0s, h1s, h2s, h3s, h4s⟩ := hM.at_
 have HSI := Lib.hid h1s
 have HSN := Lib.hid h2s
 obtain ⟨NA, nc, rfl, hnc, hnc', hNA⟩ := h0s
 obtain ⟨BA, bc, rfl, hbc, hbc', hBA⟩ := h3s
 obtain ⟨HA, hc, rfl, hhc, hhc', hHA⟩ := h4s
 have hn2 : M.nodes.length ≤ 281474976710656 := Nat.le_trans hnc hnc'
 have hb2 : M.bads.length ≤ 281474976710656 := Nat.le_trans hbc hbc'
 have hh2 : M.holds.length ≤ 281474976710656 := Nat.le_trans hhc hhc'
 have HNA := Lib.hid hNA
 have HBA := Lib.hid hBA
 have HHA := Lib.hid hHA
 clear hM hco h1s h2s hnc hnc' hbc hbc' hhc hhc' hNA hBA hHA
 unfold NeedPost
 generalize hn : M.nodes.length = n at *
 have HN := Lib.hid hn
 generalize hnb : M.bads.length = nb at *
 have HNB := Lib.hid hnb
 generalize hnh : M.holds.length = nh at *
 have HNH := Lib.hid hnh
 clear hn hnb hnh
 have hmk := make_any (P := Tryz.prog) 42 4 (.bool false) 1 1 Tryz.underlying42 (by kernel_rfl) n (by omega) (by omega)
 simp only [Value.cells, Nat.mul_one] at hmk
 go_enter Tryz.func17, Tryz.ntmps17
 have HB := Lib.hid (box_below w #[.slice NA n nc, s1, s2, .slice BA nb bc, .slice HA nh hc] 32)
 have m0 := box_cell w #[.slice NA n nc, s1, s2, .slice BA nb bc, .slice HA nh hc] 32 0 _ rfl
 have m1 := box_cell w #[.slice NA n nc, s1, s2, .slice BA nb bc, .slice HA nh hc] 32 1 _ rfl
 have m2 := box_cell w #[.slice NA n nc, s1, s2, .slice BA nb bc, .slice HA nh hc] 32 2 _ rfl
 have m3 := box_cell w #[.slice NA n nc, s1, s2, .slice BA nb bc, .slice HA nh hc] 32 3 _ rfl
 have m4 := box_cell w #[.slice NA n nc, s1, s2, .slice BA nb bc, .slice HA nh hc] 32 4 _ rfl
 have HSZ := Lib.hid (show (w.alloc (.cells #[.slice NA n nc, s1, s2, .slice BA nb bc, .slice HA nh hc] 32)).heap.size = w.heap.size + 1 by simp)
 go_upto_region 1 with fail
 generalize w.alloc (.cells #[.slice NA n nc, s1, s2, .slice BA nb bc, .slice HA nh hc] 32) = w1 at *
 replace m0 : ∀ u : Later w1, u.val.cell? ⟨w.heap.size, 0, none⟩ = some (.slice NA n nc) := m0
 replace m1 : ∀ u : Later w1, u.val.cell? ⟨w.heap.size, 1, none⟩ = some s1 := m1
 replace m2 : ∀ u : Later w1, u.val.cell? ⟨w.heap.size, 2, none⟩ = some s2 := m2
 replace m3 : ∀ u : Later w1, u.val.cell? ⟨w.heap.size, 3, none⟩ = some (.slice BA nb bc) := m3
 replace m4 : ∀ u : Later w1, u.val.cell? ⟨w.heap.size, 4, none⟩ = some (.slice HA nh hc) := m4
 have HM1 := Lib.hid (HM.out.below HB.out)
 have HS1 := Lib.hid (HSI.out.below HB.out)
 have HS2 := Lib.hid (HSN.out.below HB.out)
 refine at_world (w := w1) ?_
 intro u0
 go_upto_region 2 with fail
 have HO := Lib.hid (OwnL.made u0.val n)
 have HL2 : LaterC w1 (u0.val.alloc (.cells (madeCells #[.bool false] n) 4)) := u0.alloc _
 have HGG := Lib.hid (show w1.heap.size ≤ u0.val.heap.size from u0.size)
 clear hmk
 generalize u0.val.alloc (.cells (madeCells #[.bool false] n) 4) = w2 at *
 generalize u0.val.heap.size = g at *
 obtain ⟨v0, rfl⟩ := HL2
 clear u0
 have HST := Lib.hid (show OwnL v0.val g (List.replicate n false) ∧ Good M (List.replicate n false) from ⟨HO.out, good_rep M (by rw [HN.out])⟩)
 go_upto_region 3 with fail
 go_loopw [4] (fun i wr => ∃ (k : Nat) (L : List Bool), k ≤ nb ∧ i = .int .i64 k ∧ Hid (OwnL wr g L ∧ Good M L ∧ (∀ j, j < k → tt L (M.bads.getD j 0).toNat)) ∧ LaterC w1 wr) (fun i _ => nb - (intOf i).toNat)
 case atStart => exact ⟨0, _, Nat.zero_le _, rfl, Lib.hid ⟨HST.out.1, HST.out.2, fun j hj => absurd hj (Nat.not_lt_zero _)⟩, ⟨v0, rfl⟩⟩
 case round =>
  obtain ⟨k, L, hk, rfl, HI, ⟨u, rfl⟩⟩ := hrel
  by_cases hlt : k < nb
  · have hlt' : (k : Int) < nb := by omega
    have hgx := getD_at (show k < M.bads.length by rw [HNB.out]; exact hlt) 0
    obtain ⟨bx, ox, rfl, hx⟩ := HBA.out k _ hgx
    have HRT := Lib.hid (show M.bads.getD k 0 ∈ M.bads ++ M.holds from List.mem_append_left _ (List.mem_of_getElem? hgx))
    have hrq := root_q HCO.out HRT.out
    obtain ⟨a, ha⟩ := Int.eq_ofNat_of_zero_le hrq.1
    have HAE := Lib.hid ha
    have HKA := Lib.hid (show Kept M a by have h := Kept.root HRT.out; rw [ha, Int.toNat_natCast] at h; exact h)
    have p0 : ∀ l : Later w1, l.val.cell? ⟨bx, ox + k, none⟩ = some (.int .i64 (a : Int)) := ha ▸ hx.int HB.out
    have hal : a < M.nodes.length := by omega
    clear hx hgx hrq ha
    have HOL := Lib.hid HI.out.1
    have HGD := Lib.hid HI.out.2.1
    have HQL := Lib.hid (show ∀ w', LaterC w1 w' → w'.cell? ⟨w.heap.size, 0, none⟩ = some (.slice NA n nc) ∧ w'.cell? ⟨w.heap.size, 1, none⟩ = some s1 ∧ w'.cell? ⟨w.heap.size, 2, none⟩ = some s2 ∧ w'.cell? ⟨w.heap.size, 3, none⟩ = some (.slice (some ⟨bx, ox, none⟩) nb bc) ∧ w'.cell? ⟨w.heap.size, 4, none⟩ = some (.slice HA nh hc) ∧ w'.cell? ⟨bx, ox + k, none⟩ = some (.int .i64 (a : Int)) from fun W h => by
     obtain ⟨v, rfl⟩ := h
     exact ⟨m0 v, m1 v, m2 v, m3 v, m4 v, p0 v⟩)
    go_upto_region 5 with fail
    go_region_held3 (fun w' => w'.cell? ⟨w.heap.size, 0, none⟩ = some (.slice NA n nc) ∧ w'.cell? ⟨w.heap.size, 1, none⟩ = some s1 ∧ w'.cell? ⟨w.heap.size, 2, none⟩ = some s2 ∧ w'.cell? ⟨w.heap.size, 3, none⟩ = some (.slice (some ⟨bx, ox, none⟩) nb bc) ∧ w'.cell? ⟨w.heap.size, 4, none⟩ = some (.slice HA nh hc) ∧ w'.cell? ⟨bx, ox + k, none⟩ = some (.int .i64 (a : Int))) ((refine HQL.out _ ?_; repeat (first | exact ⟨_, rfl⟩ | exact LaterC.refl _ | refine LaterC.drew' ?_ | refine LaterC.alloc' ?_ _))) (first | (go_at_call 33; refine (l9JoinN_calls _ M g a n L _ HN.out (HM1.out.below (LaterC.below (w1 := w1) (by repeat (first | exact ⟨_, rfl⟩ | exact LaterC.refl _ | refine LaterC.drew' ?_ | refine LaterC.alloc' ?_ _)))) (HOL.out.below (by first | exact Below.refl _ _ | exact (Below.refl _ _).drew)) HGD.out.1 hal HD.out).mono ?_; rintro e w' ⟨L', more, rfl, hbut, hown, hj⟩; have HJ := Lib.hid (And.intro hown hj); obtain ⟨v1, hv1⟩ := laterC_but (w1 := w1) (by repeat (first | exact ⟨_, rfl⟩ | exact LaterC.refl _ | refine LaterC.drew' ?_ | refine LaterC.alloc' ?_ _)) hbut HGG.out; subst hv1; clear hbut hown hj))
    have HNX := Lib.hid (show OwnL v1.val g L' ∧ Good M L' ∧ (∀ j, j < k + 1 → tt L' (M.bads.getD j 0).toNat) from ⟨HJ.out.1, HGD.out.join HKA.out HJ.out.2, fun j hj => (HJ.out.2.2.1 _).2 (by
     rcases Nat.lt_or_ge j k with h1 | h1
     · exact .inl (HI.out.2.2 j h1)
     · obtain rfl : j = k := by omega
       right
       rw [HAE.out, Int.toNat_natCast]
       exact .self)⟩)
    go_wp2
    go_roundw
    case rel => exact ⟨k + 1, L', by omega, by go_num, HNX, ⟨v1, rfl⟩⟩
    case measure => simp [intOf] <;> omega
  · obtain rfl : nb = k := by omega
    have HST2 := Lib.hid (show OwnL u.val g L ∧ Good M L ∧ (∀ x, x ∈ M.bads → tt L x.toNat) from ⟨HI.out.1, HI.out.2.1, fun x hx => by
     obtain ⟨j, hj⟩ := List.getElem?_of_mem hx
     have hjl := (List.getElem?_eq_some_iff.1 hj).1
     have h1 := HI.out.2.2 j (by have := HNB.out; omega)
     have h2 := getD_at hjl (0 : Int)
     rw [hj] at h2
     rw [← Option.some.inj h2] at h1
     exact h1⟩)
    go_upto_region 7 with fail
    go_loopw [5] (fun i wr => ∃ (k : Nat) (L : List Bool), k ≤ nh ∧ i = .int .i64 k ∧ Hid (OwnL wr g L ∧ Good M L ∧ (∀ j, j < k → tt L (M.holds.getD j 0).toNat) ∧ (∀ x, x ∈ M.bads → tt L x.toNat)) ∧ LaterC w1 wr) (fun i _ => nh - (intOf i).toNat)
    case atStart => exact ⟨0, _, Nat.zero_le _, rfl, Lib.hid ⟨HST2.out.1, HST2.out.2.1, fun j hj => absurd hj (Nat.not_lt_zero _), HST2.out.2.2⟩, ⟨u, rfl⟩⟩
    case round =>
     obtain ⟨k, L, hk, rfl, HI, ⟨u, rfl⟩⟩ := hrel
     by_cases hlt : k < nh
     · have hlt' : (k : Int) < nh := by omega
       have hgx := getD_at (show k < M.holds.length by rw [HNH.out]; exact hlt) 0
       obtain ⟨bx, ox, rfl, hx⟩ := HHA.out k _ hgx
       have HRT := Lib.hid (show M.holds.getD k 0 ∈ M.bads ++ M.holds from List.mem_append_right _ (List.mem_of_getElem? hgx))
       have hrq := root_q HCO.out HRT.out
       obtain ⟨a, ha⟩ := Int.eq_ofNat_of_zero_le hrq.1
       have HAE := Lib.hid ha
       have HKA := Lib.hid (show Kept M a by have h := Kept.root HRT.out; rw [ha, Int.toNat_natCast] at h; exact h)
       have p0 : ∀ l : Later w1, l.val.cell? ⟨bx, ox + k, none⟩ = some (.int .i64 (a : Int)) := ha ▸ hx.int HB.out
       have hal : a < M.nodes.length := by omega
       clear hx hgx hrq ha
       have HOL := Lib.hid HI.out.1
       have HGD := Lib.hid HI.out.2.1
       have HQL := Lib.hid (show ∀ w', LaterC w1 w' → w'.cell? ⟨w.heap.size, 0, none⟩ = some (.slice NA n nc) ∧ w'.cell? ⟨w.heap.size, 1, none⟩ = some s1 ∧ w'.cell? ⟨w.heap.size, 2, none⟩ = some s2 ∧ w'.cell? ⟨w.heap.size, 3, none⟩ = some (.slice BA nb bc) ∧ w'.cell? ⟨w.heap.size, 4, none⟩ = some (.slice (some ⟨bx, ox, none⟩) nh hc) ∧ w'.cell? ⟨bx, ox + k, none⟩ = some (.int .i64 (a : Int)) from fun W h => by
        obtain ⟨v, rfl⟩ := h
        exact ⟨m0 v, m1 v, m2 v, m3 v, m4 v, p0 v⟩)
       go_upto_region 9 with fail
       go_region_held3 (fun w' => w'.cell? ⟨w.heap.size, 0, none⟩ = some (.slice NA n nc) ∧ w'.cell? ⟨w.heap.size, 1, none⟩ = some s1 ∧ w'.cell? ⟨w.heap.size, 2, none⟩ = some s2 ∧ w'.cell? ⟨w.heap.size, 3, none⟩ = some (.slice BA nb bc) ∧ w'.cell? ⟨w.heap.size, 4, none⟩ = some (.slice (some ⟨bx, ox, none⟩) nh hc) ∧ w'.cell? ⟨bx, ox + k, none⟩ = some (.int .i64 (a : Int))) ((refine HQL.out _ ?_; repeat (first | exact ⟨_, rfl⟩ | exact LaterC.refl _ | refine LaterC.drew' ?_ | refine LaterC.alloc' ?_ _))) (first | (go_at_call 33; refine (l9JoinN_calls _ M g a n L _ HN.out (HM1.out.below (LaterC.below (w1 := w1) (by repeat (first | exact ⟨_, rfl⟩ | exact LaterC.refl _ | refine LaterC.drew' ?_ | refine LaterC.alloc' ?_ _)))) (HOL.out.below (by first | exact Below.refl _ _ | exact (Below.refl _ _).drew)) HGD.out.1 hal HD.out).mono ?_; rintro e w' ⟨L', more, rfl, hbut, hown, hj⟩; have HJ := Lib.hid (And.intro hown hj); obtain ⟨v1, hv1⟩ := laterC_but (w1 := w1) (by repeat (first | exact ⟨_, rfl⟩ | exact LaterC.refl _ | refine LaterC.drew' ?_ | refine LaterC.alloc' ?_ _)) hbut HGG.out; subst hv1; clear hbut hown hj))
       have HNX := Lib.hid (show OwnL v1.val g L' ∧ Good M L' ∧ (∀ j, j < k + 1 → tt L' (M.holds.getD j 0).toNat) ∧ (∀ x, x ∈ M.bads → tt L' x.toNat) from ⟨HJ.out.1, HGD.out.join HKA.out HJ.out.2, fun j hj => (HJ.out.2.2.1 _).2 (by
        rcases Nat.lt_or_ge j k with h1 | h1
        · exact .inl (HI.out.2.2.1 j h1)
        · obtain rfl : j = k := by omega
          right
          rw [HAE.out, Int.toNat_natCast]
          exact .self), fun x hx => (HJ.out.2.2.1 _).2 (.inl (HI.out.2.2.2 x hx))⟩)
       go_wp2
       go_roundw
       case rel => exact ⟨k + 1, L', by omega, by go_num, HNX, ⟨v1, rfl⟩⟩
       case measure => simp [intOf] <;> omega
     · obtain rfl : nh = k := by omega
       have HST3 := Lib.hid (show OwnL u.val g L ∧ Good M L ∧ (∀ x, x ∈ M.holds → tt L x.toNat) ∧ (∀ x, x ∈ M.bads → tt L x.toNat) from ⟨HI.out.1, HI.out.2.1, fun x hx => by
        obtain ⟨j, hj⟩ := List.getElem?_of_mem hx
        have hjl := (List.getElem?_eq_some_iff.1 hj).1
        have h1 := HI.out.2.2.1 j (by have := HNH.out; omega)
        have h2 := getD_at hjl (0 : Int)
        rw [hj] at h2
        rw [← Option.some.inj h2] at h1
        exact h1, HI.out.2.2.2⟩)
       go_upto_region 11 with fail
       have HRT := Lib.hid (show OwnL u.val g L ∧ Good M L ∧ Roots M L from ⟨HST3.out.1, HST3.out.2.1, fun x hx => by
        rcases List.mem_append.1 hx with e | e
        · exact HST3.out.2.2.2 x e
        · exact HST3.out.2.2.1 x e⟩)
       go_loopg [6] (2 * fls L + 1) (fun r mv wr => ∃ (L3 : List Bool) (more : Bool), mv = .bool more ∧ r = 2 * fls L3 + more.toNat ∧ Hid (OwnL wr g L3 ∧ Good M L3 ∧ Roots M L3 ∧ (more = false → ClosedB M L3 n)) ∧ LaterC w1 wr)
       case atStart => exact ⟨L, true, rfl, rfl, Lib.hid ⟨HRT.out.1, HRT.out.2.1, HRT.out.2.2, fun h => (by cases h)⟩, ⟨u, rfl⟩⟩
       case round =>
        obtain ⟨L3, more, rfl, rfl, HI3, ⟨u3, rfl⟩⟩ := hrel
        cases more
        · have HKL := Lib.hid (need_done HCO.out HI3.out.2.1 HI3.out.2.2.1 (by rw [HN.out]; exact HI3.out.2.2.2 rfl))
          go_wp2
          go_ret
          exact ⟨g, rfl, u3.back HB.out, Nat.le_trans HB.out.size HGG.out, by rw [← HKL.out]; exact HI3.out.1⟩
        · go_upto_region 14 with fail
          go_loopw [6, 7] (fun mv i wr => ∃ (k : Nat) (L4 : List Bool) (more : Bool), k ≤ n ∧ mv = .bool more ∧ i = .int .i64 k ∧ Hid (OwnL wr g L4 ∧ LoopB M L3 L4 k more) ∧ LaterC w1 wr) (fun _ i _ => n - (intOf i).toNat)
          case atStart => exact ⟨0, L3, false, Nat.zero_le _, rfl, rfl, Lib.hid ⟨HI3.out.1, HI3.out.2.1, HI3.out.2.2.1, Nat.le_refl _, fun h => (by cases h), fun _ q b hq => absurd hq (Nat.not_lt_zero _)⟩, ⟨u3, rfl⟩⟩
          case round =>
           obtain ⟨k, L4, more, hk, rfl, rfl, HI, ⟨u, rfl⟩⟩ := hrel
           by_cases hlt : k < n
           · have hlt' : (k : Int) < n := by omega
             have c0 := HI.out.1.cell (show k < L4.length by rw [HI.out.2.1.1, HN.out]; exact hlt)
             have hgn := getD_at (show k < M.nodes.length by rw [HN.out]; exact hlt) Nd.zero
             obtain ⟨bn, on, rfl, hnx⟩ := HNA.out k _ hgn
             have p0 : ∀ l : Later w1, l.val.cell? ⟨bn, on + k * 9, none⟩ = some (.int .i64 (M.nodes.getD k Nd.zero).kind) := hnx.at_ HB.out 0 _ rfl
             clear hnx hgn
             obtain ⟨x, hx⟩ : ∃ x, (M.nodes.getD k Nd.zero).kind = x := ⟨_, rfl⟩
             rw [hx] at p0
             have HX := Lib.hid hx
             clear hx
             obtain ⟨q, hq⟩ : ∃ q, L4.getD k false = q := ⟨_, rfl⟩
             rw [hq] at c0
             have HQ := Lib.hid hq
             clear hq
             cases q
             · have HNX := Lib.hid (show LoopB M L3 L4 (k + 1) more from HI.out.2.skip (fun h => by have h1 := HQ.out; unfold tt at h; rw [h1] at h; cases h))
               go_wp2
               go_roundw
               case rel => exact ⟨k + 1, L4, more, by omega, rfl, by go_num, Lib.hid ⟨HI.out.1, HNX.out⟩, ⟨u, rfl⟩⟩
               case measure => simp [intOf] <;> omega
             · by_cases h36 : x = 36
               · subst h36
                 have HKK := Lib.hid (show Kept M k from HI.out.2.1.2.1 k HQ.out)
                 have HOL := Lib.hid HI.out.1
                 have HGD := Lib.hid HI.out.2.1
                 have HAG := Lib.hid (again_parts HCO.out)
                 have HND := Lib.hid (show ∀ b, b ∈ M.inits ++ M.nexts → 0 ≤ b.nd ∧ b.nd < M.nodes.length from fun b hb => (binds_q HCO.out hb).2.1)
                 go_upto_region 18 with (go_at_call 34; (with_reducible refine (l4BoundQ_calls s1 M.inits (k : Int) _ (HS1.out.below (LaterC.below (w1 := w1) (by repeat (first | exact ⟨_, rfl⟩ | exact LaterC.refl _ | refine LaterC.drew' ?_ | refine LaterC.alloc' ?_ _))))).mono ?_); rintro e w' ⟨rfl, hb⟩; have hvb0 := Lib.hid hb; obtain ⟨b0, hbb0⟩ := laterC_step (w1 := w1) (by repeat (first | exact ⟨_, rfl⟩ | exact LaterC.refl _ | refine LaterC.drew' ?_ | refine LaterC.alloc' ?_ _)) hb; subst hbb0; clear hb)
                 replace HOL := Lib.hid (HOL.out.below hvb0.out)
                 go_upto_region 19 with (go_at_call 34; (with_reducible refine (l4BoundQ_calls s2 M.nexts (k : Int) _ (HS2.out.below (LaterC.below (w1 := w1) (by repeat (first | exact ⟨_, rfl⟩ | exact LaterC.refl _ | refine LaterC.drew' ?_ | refine LaterC.alloc' ?_ _))))).mono ?_); rintro e w' ⟨rfl, hb⟩; have hvb1 := Lib.hid hb; obtain ⟨b1, hbb1⟩ := laterC_step (w1 := w1) (by repeat (first | exact ⟨_, rfl⟩ | exact LaterC.refl _ | refine LaterC.drew' ?_ | refine LaterC.alloc' ?_ _)) hb; subst hbb1; clear hb)
                 replace HOL := Lib.hid (HOL.out.below hvb1.out)
                 rcases bq_cases (k : Int) M.inits with he0 | ⟨bb0, hm0, hs0, he0⟩
                 · have HE0 := Lib.hid he0
                   have HP0 := Lib.hid (Phase.none (k := k) HGD.out HAG.out.1 (by rw [he0]; decide) (fun b hb => (HND.out b (List.mem_append_left _ hb)).1))
                   rw [he0]
                   clear he0
                   go_upto_region 21 with fail
                   rcases bq_cases (k : Int) M.nexts with he1 | ⟨bb1, hm1, hs1, he1⟩
                   · have HP1 := Lib.hid (Phase.none (k := k) HGD.out HAG.out.2 (by rw [he1]; decide) (fun b hb => (HND.out b (List.mem_append_right _ hb)).1))
                     have HNX := Lib.hid (HI.out.2.step HP0.out HP1.out)
                     simp only [Bool.false_or, Bool.true_or] at HNX
                     rw [he1]
                     clear he1
                     go_wp2
                     go_roundw
                     case rel => exact ⟨k + 1, L4, _, by omega, rfl, by go_num, Lib.hid ⟨HOL.out, HNX.out⟩, ⟨b1, rfl⟩⟩
                     case measure => simp [intOf] <;> omega
                   · obtain ⟨d1, hd1⟩ := Int.eq_ofNat_of_zero_le (HND.out bb1 (List.mem_append_right _ hm1)).1
                     have hl1 : d1 < M.nodes.length := by have := (HND.out bb1 (List.mem_append_right _ hm1)).2; omega
                     have HE1 := Lib.hid (he1.trans hd1)
                     have HK1 := Lib.hid (show Kept M d1 from HKK.out.next (.inr ⟨bb1, List.mem_append_right _ hm1, hs1, by rw [hd1, Int.toNat_natCast]⟩))
                     rw [he1, hd1]
                     have hge1 : (0 : Int) ≤ (d1 : Int) := by omega
                     clear he1 hd1 hs1 hm1
                     go_wp2_with fail
                     (refine (l9JoinN_calls _ M g d1 n L4 _ HN.out (HM1.out.below (LaterC.below (w1 := w1) (by repeat (first | exact ⟨_, rfl⟩ | exact LaterC.refl _ | refine LaterC.drew' ?_ | refine LaterC.alloc' ?_ _)))) (HOL.out.below (by first | exact Below.refl _ _ | exact (Below.refl _ _).drew)) HGD.out.1 hl1 HD.out).mono ?_; rintro e w' ⟨L6, m2, rfl, hbut, hown, hj⟩; have HJ := Lib.hid (And.intro hown hj); obtain ⟨c2, hc2⟩ := laterC_but (w1 := w1) (by repeat (first | exact ⟨_, rfl⟩ | exact LaterC.refl _ | refine LaterC.drew' ?_ | refine LaterC.alloc' ?_ _)) hbut HGG.out; subst hc2; clear hbut hown hj)
                     have HOL := Lib.hid HJ.out.1
                     have HP1 := Lib.hid (Phase.join HGD.out HAG.out.2 HK1.out HE1.out HJ.out.2)
                     have HNX := Lib.hid (HI.out.2.step HP0.out HP1.out)
                     cases m2
                     · simp only [Bool.false_or, Bool.true_or] at HNX
                       go_wp2
                       go_roundw
                       case rel => exact ⟨k + 1, L6, _, by omega, rfl, by go_num, Lib.hid ⟨HOL.out, HNX.out⟩, ⟨c2, rfl⟩⟩
                       case measure => simp [intOf] <;> omega
                     · simp only [Bool.false_or, Bool.true_or] at HNX
                       go_wp2
                       go_roundw
                       case rel => exact ⟨k + 1, L6, _, by omega, rfl, by go_num, Lib.hid ⟨HOL.out, HNX.out⟩, ⟨c2, rfl⟩⟩
                       case measure => simp [intOf] <;> omega
                 · obtain ⟨d0, hd0⟩ := Int.eq_ofNat_of_zero_le (HND.out bb0 (List.mem_append_left _ hm0)).1
                   have hl0 : d0 < M.nodes.length := by have := (HND.out bb0 (List.mem_append_left _ hm0)).2; omega
                   have HE0 := Lib.hid (he0.trans hd0)
                   have HK0 := Lib.hid (show Kept M d0 from HKK.out.next (.inr ⟨bb0, List.mem_append_left _ hm0, hs0, by rw [hd0, Int.toNat_natCast]⟩))
                   rw [he0, hd0]
                   have hge0 : (0 : Int) ≤ (d0 : Int) := by omega
                   clear he0 hd0 hs0 hm0
                   go_wp2_with fail
                   (refine (l9JoinN_calls _ M g d0 n L4 _ HN.out (HM1.out.below (LaterC.below (w1 := w1) (by repeat (first | exact ⟨_, rfl⟩ | exact LaterC.refl _ | refine LaterC.drew' ?_ | refine LaterC.alloc' ?_ _)))) (HOL.out.below (by first | exact Below.refl _ _ | exact (Below.refl _ _).drew)) HGD.out.1 hl0 HD.out).mono ?_; rintro e w' ⟨L5, m1, rfl, hbut, hown, hj⟩; have HJ := Lib.hid (And.intro hown hj); obtain ⟨c1, hc1⟩ := laterC_but (w1 := w1) (by repeat (first | exact ⟨_, rfl⟩ | exact LaterC.refl _ | refine LaterC.drew' ?_ | refine LaterC.alloc' ?_ _)) hbut HGG.out; subst hc1; clear hbut hown hj)
                   have HOL := Lib.hid HJ.out.1
                   have HP0 := Lib.hid (Phase.join HGD.out HAG.out.1 HK0.out HE0.out HJ.out.2)
                   have HGD := Lib.hid HP0.out.1
                   cases m1
                   · go_upto_region 21 with fail
                     rcases bq_cases (k : Int) M.nexts with he1 | ⟨bb1, hm1, hs1, he1⟩
                     · have HP1 := Lib.hid (Phase.none (k := k) HGD.out HAG.out.2 (by rw [he1]; decide) (fun b hb => (HND.out b (List.mem_append_right _ hb)).1))
                       have HNX := Lib.hid (HI.out.2.step HP0.out HP1.out)
                       simp only [Bool.false_or, Bool.true_or] at HNX
                       rw [he1]
                       clear he1
                       go_wp2
                       go_roundw
                       case rel => exact ⟨k + 1, L5, _, by omega, rfl, by go_num, Lib.hid ⟨HOL.out, HNX.out⟩, ⟨c1, rfl⟩⟩
                       case measure => simp [intOf] <;> omega
                     · obtain ⟨d1, hd1⟩ := Int.eq_ofNat_of_zero_le (HND.out bb1 (List.mem_append_right _ hm1)).1
                       have hl1 : d1 < M.nodes.length := by have := (HND.out bb1 (List.mem_append_right _ hm1)).2; omega
                       have HE1 := Lib.hid (he1.trans hd1)
                       have HK1 := Lib.hid (show Kept M d1 from HKK.out.next (.inr ⟨bb1, List.mem_append_right _ hm1, hs1, by rw [hd1, Int.toNat_natCast]⟩))
                       rw [he1, hd1]
                       have hge1 : (0 : Int) ≤ (d1 : Int) := by omega
                       clear he1 hd1 hs1 hm1
                       go_wp2_with fail
                       (refine (l9JoinN_calls _ M g d1 n L5 _ HN.out (HM1.out.below (LaterC.below (w1 := w1) (by repeat (first | exact ⟨_, rfl⟩ | exact LaterC.refl _ | refine LaterC.drew' ?_ | refine LaterC.alloc' ?_ _)))) (HOL.out.below (by first | exact Below.refl _ _ | exact (Below.refl _ _).drew)) HGD.out.1 hl1 HD.out).mono ?_; rintro e w' ⟨L6, m2, rfl, hbut, hown, hj⟩; have HJ := Lib.hid (And.intro hown hj); obtain ⟨c2, hc2⟩ := laterC_but (w1 := w1) (by repeat (first | exact ⟨_, rfl⟩ | exact LaterC.refl _ | refine LaterC.drew' ?_ | refine LaterC.alloc' ?_ _)) hbut HGG.out; subst hc2; clear hbut hown hj)
                       have HOL := Lib.hid HJ.out.1
                       have HP1 := Lib.hid (Phase.join HGD.out HAG.out.2 HK1.out HE1.out HJ.out.2)
                       have HNX := Lib.hid (HI.out.2.step HP0.out HP1.out)
                       cases m2
                       · simp only [Bool.false_or, Bool.true_or] at HNX
                         go_wp2
                         go_roundw
                         case rel => exact ⟨k + 1, L6, _, by omega, rfl, by go_num, Lib.hid ⟨HOL.out, HNX.out⟩, ⟨c2, rfl⟩⟩
                         case measure => simp [intOf] <;> omega
                       · simp only [Bool.false_or, Bool.true_or] at HNX
                         go_wp2
                         go_roundw
                         case rel => exact ⟨k + 1, L6, _, by omega, rfl, by go_num, Lib.hid ⟨HOL.out, HNX.out⟩, ⟨c2, rfl⟩⟩
                         case measure => simp [intOf] <;> omega
                   · go_upto_region 21 with fail
                     rcases bq_cases (k : Int) M.nexts with he1 | ⟨bb1, hm1, hs1, he1⟩
                     · have HP1 := Lib.hid (Phase.none (k := k) HGD.out HAG.out.2 (by rw [he1]; decide) (fun b hb => (HND.out b (List.mem_append_right _ hb)).1))
                       have HNX := Lib.hid (HI.out.2.step HP0.out HP1.out)
                       simp only [Bool.false_or, Bool.true_or] at HNX
                       rw [he1]
                       clear he1
                       go_wp2
                       go_roundw
                       case rel => exact ⟨k + 1, L5, _, by omega, rfl, by go_num, Lib.hid ⟨HOL.out, HNX.out⟩, ⟨c1, rfl⟩⟩
                       case measure => simp [intOf] <;> omega
                     · obtain ⟨d1, hd1⟩ := Int.eq_ofNat_of_zero_le (HND.out bb1 (List.mem_append_right _ hm1)).1
                       have hl1 : d1 < M.nodes.length := by have := (HND.out bb1 (List.mem_append_right _ hm1)).2; omega
                       have HE1 := Lib.hid (he1.trans hd1)
                       have HK1 := Lib.hid (show Kept M d1 from HKK.out.next (.inr ⟨bb1, List.mem_append_right _ hm1, hs1, by rw [hd1, Int.toNat_natCast]⟩))
                       rw [he1, hd1]
                       have hge1 : (0 : Int) ≤ (d1 : Int) := by omega
                       clear he1 hd1 hs1 hm1
                       go_wp2_with fail
                       (refine (l9JoinN_calls _ M g d1 n L5 _ HN.out (HM1.out.below (LaterC.below (w1 := w1) (by repeat (first | exact ⟨_, rfl⟩ | exact LaterC.refl _ | refine LaterC.drew' ?_ | refine LaterC.alloc' ?_ _)))) (HOL.out.below (by first | exact Below.refl _ _ | exact (Below.refl _ _).drew)) HGD.out.1 hl1 HD.out).mono ?_; rintro e w' ⟨L6, m2, rfl, hbut, hown, hj⟩; have HJ := Lib.hid (And.intro hown hj); obtain ⟨c2, hc2⟩ := laterC_but (w1 := w1) (by repeat (first | exact ⟨_, rfl⟩ | exact LaterC.refl _ | refine LaterC.drew' ?_ | refine LaterC.alloc' ?_ _)) hbut HGG.out; subst hc2; clear hbut hown hj)
                       have HOL := Lib.hid HJ.out.1
                       have HP1 := Lib.hid (Phase.join HGD.out HAG.out.2 HK1.out HE1.out HJ.out.2)
                       have HNX := Lib.hid (HI.out.2.step HP0.out HP1.out)
                       cases m2
                       · simp only [Bool.false_or, Bool.true_or] at HNX
                         go_wp2
                         go_roundw
                         case rel => exact ⟨k + 1, L6, _, by omega, rfl, by go_num, Lib.hid ⟨HOL.out, HNX.out⟩, ⟨c2, rfl⟩⟩
                         case measure => simp [intOf] <;> omega
                       · simp only [Bool.false_or, Bool.true_or] at HNX
                         go_wp2
                         go_roundw
                         case rel => exact ⟨k + 1, L6, _, by omega, rfl, by go_num, Lib.hid ⟨HOL.out, HNX.out⟩, ⟨c2, rfl⟩⟩
                         case measure => simp [intOf] <;> omega
               · have hx2 : (x == 36) = false := beq_eq_false_iff_ne.2 h36
                 have HNX := Lib.hid (show LoopB M L3 L4 (k + 1) more from HI.out.2.skip (fun _ b hb hs => by
                  have h1 := (binds_q HCO.out hb).2.2
                  rw [hs, Int.toNat_natCast, HX.out] at h1
                  exact h36 h1))
                 go_wp2
                 go_roundw
                 case rel => exact ⟨k + 1, L4, more, by omega, rfl, by go_num, Lib.hid ⟨HI.out.1, HNX.out⟩, ⟨u, rfl⟩⟩
                 case measure => simp [intOf] <;> omega
           · obtain rfl : n = k := by omega
             go_wp2
             go_roundg (2 * fls L4 + more.toNat)
             case measure =>
              have h1 := HI.out.2.2.2.1
              have h2 := HI.out.2.2.2.2.1
              cases more
              · simp; omega
              · have := h2 rfl; simp; omega
             case rel => exact ⟨L4, more, rfl, rfl, Lib.hid ⟨HI.out.1, HI.out.2.1, HI.out.2.2.1, HI.out.2.2.2.2.2⟩, ⟨u, rfl⟩⟩
end Go.Proofs.YthejgnabgglmhaaGreat
namespace Go.Proofs.YthejgnabgglmhaaGreat
open Go.RowKit
def RootsK (M : Md) (k : Nat) (L : List Bool) : Prop :=
 L.length = M.nodes.length ∧ (∀ j, tt L j → Kept M j) ∧ (∀ q j, tt L q → Succ M q j → tt L j) ∧ ∀ j, j < k → tt L ((M.bads ++ M.holds).getD j 0).toNat
theorem RootsK.start (M : Md) {n : Nat} (h : n = M.nodes.length) : RootsK M 0 (List.replicate n false) :=
 ⟨by rw [List.length_replicate, h], fun j hj => absurd hj (tt_rep n j), fun q j hq => absurd hq (tt_rep n q), fun j hj => absurd hj (Nat.not_lt_zero _)⟩
theorem RootsK.step {M : Md} {k a : Nat} {L L' : List Bool} (h : RootsK M k L) (hk : Kept M a) (ha : ((M.bads ++ M.holds).getD k 0).toNat = a) (hm : MarkP M a L L') : RootsK M (k + 1) L' := by
 obtain ⟨h1, h2, h3, h4⟩ := h
 obtain ⟨g1, g2, g3, g4, g5, g6⟩ := hm
 refine ⟨g1.trans h1, g4 hk h2, fun q j hq hs => ?_, fun j hj => ?_⟩
 · by_cases e : tt L q
   · exact g2 j (h3 q j e hs)
   · exact g5 q j hq e hs
 · rcases Nat.lt_or_ge j k with e | e
   · exact g2 _ (h4 j e)
   · obtain rfl : j = k := by omega
     rw [ha]; exact g3
theorem RootsK.done {M : Md} {L : List Bool} (hc : codeN M = 0) (h : RootsK M (M.bads ++ M.holds).length L) : L = keptL M := by
 obtain ⟨h1, h2, h3, h4⟩ := h
 refine kept_eq hc h1 (kept_of h2 (fun x hx => ?_) h3)
 obtain ⟨i, hi⟩ := List.getElem?_of_mem hx
 have hil := (List.getElem?_eq_some_iff.1 hi).1
 have hg := getD_at hil (0 : Int)
 rw [hi] at hg
 have := h4 i hil
 rw [← Option.some.inj hg] at this
 exact this
theorem run_store_fn {P : Program} {w : World} {a : Addr} {m : Mode} (f : Fn) (x y : Array Value) : (store a (.func f x y) m).run P w = stored P w a (.func f x y) m := run_store P w a _ m rfl
attribute [local go_sem] run_store_fn
theorem kept_calls (mv : Value) (M : Md) (w : World) (hM : MdAt w mv M) (hco : codeN M = 0) :
 Calls Tryz.prog 22 #[mv] w fun e w' => NeedPost M w e w' := by
 have HM := Lib.hid hM
 have HCO := Lib.hid hco
 obtain ⟨s0, s1, s2, s3, s4, rfl, h0s, h1s, h2s, h3s, h4s⟩ := hM.at_
 have HS1 := Lib.hid h1s
 have HS2 := Lib.hid h2s
 have HS3 := Lib.hid h3s
 have HS4 := Lib.hid h4s
 have HS0 := Lib.hid h0s
 obtain ⟨A, c, rfl, hnc, hc', -⟩ := h0s
 have hn2 : M.nodes.length ≤ 281474976710656 := Nat.le_trans hnc hc'
 have hbig := (code_q hco).1
 have HLN := Lib.hid (show M.bads.length + M.holds.length ≤ 1000 by
  unfold bigB at hbig
  simp only [Bool.or_eq_false_iff, decide_eq_false_iff_not] at hbig
  omega)
 have HST := Lib.hid (RootsK.start M (n := M.nodes.length) rfl)
 clear hM hco h1s h2s h3s h4s hnc hc' hbig
 unfold NeedPost
 generalize hn : M.nodes.length = n at *
 have HN := Lib.hid hn
 clear hn
 have hmk := make_any (P := Tryz.prog) 42 4 (.bool false) 1 1 Tryz.underlying42 (by kernel_rfl) n (by omega) (by omega)
 simp only [Value.cells, Nat.mul_one] at hmk
 have hmf : ∀ (fn : Fn) (first cap : Array Value) (w : World), (Instr.makeFunc fn first cap).run Tryz.prog w = .ok (.func fn first cap) w := fun _ _ _ _ => rfl
 have heg : ∀ (args : Array Value) (w : World), (callFunc 50 args).run Tryz.prog w = .ok (.enter 50 args) w := fun _ _ => rfl
 go_enter Tryz.func22, Tryz.ntmps22
 have HB := Lib.hid (box_below w #[.slice A n c, s1, s2, s3, s4] 32)
 have m0 := box_cell w #[.slice A n c, s1, s2, s3, s4] 32 0 _ rfl
 have m1 := box_cell w #[.slice A n c, s1, s2, s3, s4] 32 1 _ rfl
 have m2 := box_cell w #[.slice A n c, s1, s2, s3, s4] 32 2 _ rfl
 have m3 := box_cell w #[.slice A n c, s1, s2, s3, s4] 32 3 _ rfl
 have m4 := box_cell w #[.slice A n c, s1, s2, s3, s4] 32 4 _ rfl
 go_upto_region 1 with fail
 have HSZ := Lib.hid (show (w.alloc (.cells #[.slice A n c, s1, s2, s3, s4] 32)).heap.size = w.heap.size + 1 by simp)
 generalize w.alloc (.cells #[.slice A n c, s1, s2, s3, s4] 32) = w1 at *
 replace m0 : w1.cell? ⟨w.heap.size, 0, none⟩ = some (.slice A n c) := m0 ⟨w1, Below.refl _ _⟩
 replace m1 : w1.cell? ⟨w.heap.size, 1, none⟩ = some s1 := m1 ⟨w1, Below.refl _ _⟩
 replace m2 : w1.cell? ⟨w.heap.size, 2, none⟩ = some s2 := m2 ⟨w1, Below.refl _ _⟩
 replace m3 : w1.cell? ⟨w.heap.size, 3, none⟩ = some s3 := m3 ⟨w1, Below.refl _ _⟩
 replace m4 : w1.cell? ⟨w.heap.size, 4, none⟩ = some s4 := m4 ⟨w1, Below.refl _ _⟩
 go_upto_region 2 with fail
 have HO := Lib.hid (OwnL.made w1 n)
 have HG := Lib.hid (show (w1.alloc (.cells (madeCells #[.bool false] n) 4)).heap.size = w1.heap.size + 1 by simp)
 have HB1 := Lib.hid (show Below w1.heap.size w1 (w1.alloc (.cells (madeCells #[.bool false] n) 4)) from box_below _ _ _)
 have co : ∀ u : Later ((w1.alloc (Obj.cells (madeCells #[.bool false] n) 4)).alloc (Obj.cells #[.slice (some ⟨w1.heap.size, 0, none⟩) n n] 42)), u.val.cell? ⟨w1.heap.size + 1, 0, none⟩ = some (.slice (some ⟨w1.heap.size, 0, none⟩) n n) := Later.cell (by simp)
 have HB2 := Lib.hid (show Below w1.heap.size w1 ((w1.alloc (Obj.cells (madeCells #[.bool false] n) 4)).alloc (Obj.cells #[.slice (some ⟨w1.heap.size, 0, none⟩) n n] 42)) from (HB1.out).trans ((box_below _ _ _).mono (by simp)))
 have HO2 := Lib.hid (show OwnL ((w1.alloc (Obj.cells (madeCells #[.bool false] n) 4)).alloc (Obj.cells #[.slice (some ⟨w1.heap.size, 0, none⟩) n n] 42)) w1.heap.size (List.replicate n false) from HO.out.below (box_below _ _ _))
 have HZ := Lib.hid (show ((w1.alloc (Obj.cells (madeCells #[.bool false] n) 4)).alloc (Obj.cells #[.slice (some ⟨w1.heap.size, 0, none⟩) n n] 42)).heap.size = w1.heap.size + 2 by simp)
 clear hmk
 generalize ((w1.alloc (Obj.cells (madeCells #[.bool false] n) 4)).alloc (Obj.cells #[.slice (some ⟨w1.heap.size, 0, none⟩) n n] 42)) = w3 at *
 replace co : w3.cell? ⟨w1.heap.size + 1, 0, none⟩ = some (.slice (some ⟨w1.heap.size, 0, none⟩) n n) := co ⟨w3, Below.refl _ _⟩
 go_upto_region 3 with fail
 have HO3 := Lib.hid (show OwnB (w3.alloc (Obj.cells #[Value.nilFunc] 77)) w3.heap.size 77 #[Value.nilFunc] from OwnB.new w3 77 #[Value.nilFunc])
 have hb4 : Below w3.heap.size w3 (w3.alloc (Obj.cells #[Value.nilFunc] 77)) := box_below _ _ _
 have HB4 := Lib.hid hb4
 generalize w3.alloc (Obj.cells #[Value.nilFunc] 77) = w4 at *
 have z0 : w4.cell? ⟨w3.heap.size, 0, none⟩ = some Value.nilFunc := HO3.out.cell 0
 have f0 : w4.frozen? ⟨w3.heap.size, 0, none⟩ = false := HO3.out.frozen 0
 clear hb4
 go_upto_region 4 with fail
 have HB5 := Lib.hid (show Below w3.heap.size w3 (w4.setCell ⟨w3.heap.size, 0, none⟩ (.func (.func 50) #[] #[.pointer (some ⟨w1.heap.size + 1, 0, none⟩), .pointer (some ⟨w.heap.size, 0, none⟩), .pointer (some ⟨w3.heap.size, 0, none⟩)])) from HB4.out.setCell (Nat.le_refl _) _)
 have ck := (OwnB.set HO3.out 0 (.func (.func 50) #[] #[.pointer (some ⟨w1.heap.size + 1, 0, none⟩), .pointer (some ⟨w.heap.size, 0, none⟩), .pointer (some ⟨w3.heap.size, 0, none⟩)])).cell 0
 replace ck : (w4.setCell ⟨w3.heap.size, 0, none⟩ (.func (.func 50) #[] #[.pointer (some ⟨w1.heap.size + 1, 0, none⟩), .pointer (some ⟨w.heap.size, 0, none⟩), .pointer (some ⟨w3.heap.size, 0, none⟩)])).cell? ⟨w3.heap.size, 0, none⟩ = some (.func (.func 50) #[] #[.pointer (some ⟨w1.heap.size + 1, 0, none⟩), .pointer (some ⟨w.heap.size, 0, none⟩), .pointer (some ⟨w3.heap.size, 0, none⟩)]) := ck
 generalize w4.setCell ⟨w3.heap.size, 0, none⟩ (.func (.func 50) #[] #[.pointer (some ⟨w1.heap.size + 1, 0, none⟩), .pointer (some ⟨w.heap.size, 0, none⟩), .pointer (some ⟨w3.heap.size, 0, none⟩)]) = w5 at *
 have HBW := Lib.hid (show Below w.heap.size w w5 from HB.out.trans ((HB2.out.trans (HB5.out.mono HB2.out.size)).mono HB.out.size))
 have HB15 := Lib.hid (HB2.out.trans (HB5.out.mono HB2.out.size))
 have HK := Lib.hid (show KEnv M w w1.heap.size (w1.heap.size + 1) w.heap.size w3.heap.size (.slice A n c) s1 s2 w5 from
  ⟨by rw [HN.out]; exact keepcell HB5.out co, keepcell HB15.out m0, keepcell HB15.out m1, keepcell HB15.out m2, ck, HS0.out, HS1.out, HS2.out, HBW.out, HB.out.size, by omega, by have := HSZ.out; omega, by have := HZ.out; omega⟩)
 have HOW := Lib.hid (HO2.out.below HB5.out)
 have b3 := keepcell HB15.out m3
 have b4 := keepcell HB15.out m4
 have HA3 := Lib.hid (HS3.out.below HBW.out)
 have HA4 := Lib.hid (HS4.out.below HBW.out)
 have HGE := Lib.hid (show w.heap.size ≤ w1.heap.size from HB.out.size)
 clear m0 m1 m2 m3 m4 co z0 f0 ck HO HO2 HO3 HB1 HB2 HB4 HB5 HB15 HG HZ HSZ
 generalize w3.heap.size = mk at *
 generalize w1.heap.size = g at *
 obtain ⟨A1, e1, hs1, -⟩ := HA3.out
 obtain ⟨A2, e2, hs2, -⟩ := HA4.out
 subst hs1
 subst hs2
 have hba := box_below w5 #[.slice A1 M.bads.length e1, .slice A2 M.holds.length e2] 24
 have g1 : (w5.alloc (Obj.cells #[.slice A1 M.bads.length e1, .slice A2 M.holds.length e2] 24)).cell? ⟨w5.heap.size, 0, none⟩ = some (.slice A1 M.bads.length e1) := by go_simp
 have g2 : (w5.alloc (Obj.cells #[.slice A1 M.bads.length e1, .slice A2 M.holds.length e2] 24)).cell? ⟨w5.heap.size, 1, none⟩ = some (.slice A2 M.holds.length e2) := by go_simp
 have HGL := Lib.hid HOW.out.lt
 have HR0 := Lib.hid (show KEnv M w g (g + 1) w.heap.size mk (.slice A n c) s1 s2 (w5.alloc (Obj.cells #[.slice A1 M.bads.length e1, .slice A2 M.holds.length e2] 24)) ∧ OwnL (w5.alloc (Obj.cells #[.slice A1 M.bads.length e1, .slice A2 M.holds.length e2] 24)) g (List.replicate n false) from ⟨HK.out.but (.of_below hba), HOW.out.below hba⟩)
 have hsz9 := hba.size
 have HSZ9 := Lib.hid hsz9
 have HA1a := Lib.hid (HA3.out.below hba)
 have HA2a := Lib.hid (HA4.out.below hba)
 clear hba hsz9
 go_wp2_with fail
 refine (ConcatI_calls w5.heap.size (.slice A1 M.bads.length e1) (.slice A2 M.holds.length e2) M.bads M.holds (w5.alloc (Obj.cells #[.slice A1 M.bads.length e1, .slice A2 M.holds.length e2] 24)) HA1a.out HA2a.out g1 g2 HLN.out).mono ?_
 rintro e w' ⟨cv, rfl, hb, hge, hsl⟩
 have HR1 := Lib.hid (show KEnv M w g (g + 1) w.heap.size mk (.slice A n c) s1 s2 w' ∧ OwnL w' g (List.replicate n false) from ⟨HR0.out.1.but (.of_below hb), HR0.out.2.below hb⟩)
 have HSC := Lib.hid hsl
 have HNG := Lib.hid (show ∀ b, cv.ownBlock = some b → b ≠ g from fun b hb' e => by have h1 := hge b hb'; have h2 := HGL.out; have h3 := HSZ9.out; omega)
 clear hb hge hsl g1 g2 HR0
 obtain ⟨RA, rc, rfl, -, hrl, -⟩ := HSC.out
 have hrl2 : (M.bads ++ M.holds).length ≤ 1000 := by rw [List.length_append]; exact HLN.out
 generalize hq : (M.bads ++ M.holds).length = q at *
 have HQ := Lib.hid hq
 clear hq b3 b4
 go_wp2
 go_loopw [19] (fun i wi => ∃ (k : Nat) (L : List Bool), k ≤ q ∧ i = .int .i64 k ∧ Hid (KEnv M w g (g + 1) w.heap.size mk (.slice A n c) s1 s2 wi ∧ OwnL wi g L ∧ SlN enI wi (.slice RA q rc) (M.bads ++ M.holds) ∧ RootsK M k L)) (fun i _ => q - (intOf i).toNat)
 case atStart => exact ⟨0, _, Nat.zero_le _, rfl, Lib.hid ⟨HR1.out.1, HR1.out.2, HSC.out, HST.out⟩⟩
 case round =>
  obtain ⟨k, L, hk, rfl, HI⟩ := hrel
  by_cases hlt : k < q
  · have hlt' : (k : Int) < q := by omega
    have hget := getD_at (show k < (M.bads ++ M.holds).length by rw [HQ.out]; exact hlt) (0 : Int)
    obtain ⟨A', c', he, -, -, hAB⟩ := HI.out.2.2.1
    have heA : A' = RA := by injection he with h1 h2 h3; exact h1.symm
    rw [heA] at hAB
    clear he heA
    obtain ⟨bb, bo, rfl, hx⟩ := hAB k _ hget
    have hmem := List.mem_of_getElem? hget
    have hrq := root_q HCO.out hmem
    have HKP := Lib.hid (Kept.root hmem)
    obtain ⟨a, ha⟩ := Int.eq_ofNat_of_zero_le hrq.1
    have hal : a < M.nodes.length := by omega
    have p0 : wr.cell? ⟨bb, bo + k, none⟩ = some (.int .i64 (a : Int)) := by
     have := hx 0 _ rfl
     rw [ha] at this
     simpa using this
    have HA := Lib.hid ha
    have ck := HI.out.1.ck
    clear hx hAB hget hmem hrq ha
    go_wp2_with fail
    refine (mark_calls M HCO.out w g (g + 1) w.heap.size mk (.slice A n c) s1 s2 (fls L) L a _ (Nat.le_refl _) HI.out.1 HI.out.2.1 HI.out.2.2.2.1 hal).mono ?_
    rintro e w' ⟨L2, rfl, hbut, hown, hmp⟩
    have HI2 := Lib.hid (show KEnv M w g (g + 1) w.heap.size mk (.slice A n c) s1 s2 w' ∧ OwnL w' g L2 ∧ SlN enI w' (.slice (some ⟨bb, bo, none⟩) q rc) (M.bads ++ M.holds) ∧ RootsK M (k + 1) L2 from ⟨HI.out.1.but hbut, hown, HI.out.2.2.1.but hbut HNG.out, HI.out.2.2.2.step (a := a) (by have h := HKP.out; rw [HA.out, Int.toNat_natCast] at h; exact h) (by rw [HA.out, Int.toNat_natCast]) hmp⟩)
    clear hbut hown hmp
    go_wp2
    go_roundw
    case rel => exact ⟨k + 1, L2, by omega, by go_num, HI2⟩
    case measure => simp [intOf] <;> omega
  · obtain rfl : q = k := by omega
    have HD := Lib.hid (RootsK.done HCO.out (by rw [HQ.out]; exact HI.out.2.2.2))
    have HF := Lib.hid (show Below w.heap.size w wr ∧ OwnL wr g (keptL M) from ⟨HI.out.1.bl, by rw [← HD.out]; exact HI.out.2.1⟩)
    have co := HI.out.1.co
    rw [HN.out] at co
    go_wp2
    go_ret
    exact ⟨g, rfl, HF.out.1, HGE.out, HF.out.2⟩
end Go.Proofs.YthejgnabgglmhaaGreat
namespace Go.Proofs.YthejgnabgglmhaaGreat
open Go.RowKit
def flatE {α : Type} (E : En α) : List α → List Value
 | [] => []
 | x :: l => E.cells x ++ flatE E l
structure Rk (α : Type) where
 E : En α
 T : TypeId
 S : TypeId
 z : Value
 bytes : Nat
structure Rk.Ok {α : Type} (K : Rk α) : Prop where
 under : Tryz.prog.underlying K.S = some (.slice K.T)
 info : (Tryz.prog.info? K.T).map (fun i => (i.zero, i.size, i.bytes)) = some (some K.z, K.E.sz, K.bytes)
 len : ∀ x, (K.E.cells x).length = K.E.sz
 pos : 0 < K.E.sz
 one : ∀ x u, u ∈ K.E.cells x → u.oneCell' = true
 zs : K.z.cells.size = K.E.sz
 small : K.bytes ≤ 128
def kI : Rk Int := ⟨enI, 3, 24, .int .i64 0, 8⟩
theorem kI_ok : kI.Ok := ⟨Tryz.underlying24, by kernel_rfl, fun _ => rfl, by decide, fun x u h => by simp [kI] at h; subst h; rfl, rfl, by decide⟩
section
variable {α : Type} {K : Rk α}
theorem flatE_append (E : En α) : ∀ l k : List α, flatE E (l ++ k) = flatE E l ++ flatE E k
 | [], k => rfl
 | x :: l, k => by rw [List.cons_append, flatE, flatE, flatE_append E l k, List.append_assoc]
theorem flatE_get (h : K.Ok) : ∀ {l : List α} {i : Nat} {x : α}, l[i]? = some x → ∀ f, f < K.E.sz → (flatE K.E l)[i * K.E.sz + f]? = (K.E.cells x)[f]?
 | y :: l, 0, x, hx, f, hf => by
   simp at hx
   subst hx
   rw [flatE, Nat.zero_mul, Nat.zero_add, List.getElem?_append_left (by rw [h.len]; exact hf)]
 | y :: l, i + 1, x, hx, f, hf => by
   simp at hx
   rw [flatE, List.getElem?_append_right (by rw [h.len, Nat.add_mul]; omega), h.len, ← flatE_get h hx f hf]
   congr 1
   rw [Nat.add_mul]
   omega
abbrev Acc (K : Rk α) (lo : Nat) (w : World) (v : Value) (xs : List α) : Prop := w.ownsRow lo K.T K.E.sz v xs.length (flatE K.E xs)
theorem Acc.nil (K : Rk α) (lo : Nat) (w : World) : Acc K lo w (.slice none 0 0) [] := World.ownsRow_nil w lo _ _
theorem Acc.below {lo : Nat} {w w' : World} {v : Value} {xs : List α} (h : Acc K lo w v xs) (hb : Below w.heap.size w w') : Acc K lo w' v xs := ownsRow_below h hb
theorem Acc.but {S : Nat → Prop} {lo : Nat} {w w' : World} {v : Value} {xs : List α} (h : Acc K lo w v xs) (hb : But S w w') (hg : ∀ b, v.ownBlock = some b → ¬ S b) : Acc K lo w' v xs := by
 refine ⟨h.1, ?_⟩
 rcases h.2 with ⟨rfl, h0⟩ | ⟨g, cap, cur, rfl, h1, h2, r⟩
 · exact .inl ⟨rfl, h0⟩
 · exact .inr ⟨g, cap, cur, rfl, h1, (hb.block g (by
    rcases Nat.lt_or_ge g w.heap.size with k | k
    · exact k
    · rw [Array.getElem?_eq_none k] at h2; cases h2) (hg g rfl)).trans h2, r⟩
theorem add_at (b o j : Nat) : (⟨b, o, none⟩ : Addr).add j = ⟨b, o + j, none⟩ := by
 unfold Addr.add; split <;> simp_all
theorem Acc.slN (hk : K.Ok) {lo : Nat} {w : World} {v : Value} {xs : List α} (h : Acc K lo w v xs) (hl : xs.length ≤ 281474976710656) : SlN K.E w v xs := by
 rcases h.2 with ⟨rfl, h0⟩ | ⟨g, cap, cur, rfl, _, _, hc, _⟩
 · have : xs = [] := List.eq_nil_of_length_eq_zero h0
   subst this
   exact ⟨none, 0, rfl, Nat.le_refl _, by simp, fun i x hx => by simp at hx⟩
 · refine ⟨some ⟨g, 0, none⟩, cap, rfl, hc, hl, fun i x hx => ⟨g, 0, rfl, fun f u hu => ?_⟩⟩
   have hf : f < K.E.sz := by rw [← hk.len x]; exact (List.getElem?_eq_some_iff.1 hu).1
   have := h.cells (g := g) rfl (i * K.E.sz + f) u ((flatE_get hk hx f hf).trans hu)
   rw [add_at] at this
   simpa [Nat.add_assoc] using this
section
variable {ops : Array Oper} {o : Oper} {a : Act} {Q : Exit → Act → World → Prop}
theorem wp_push {P : Act → World → Prop} (hk : K.Ok) (s x : Operand) (ho : o.op = .call { callee := .builtin .append, args := #[s, x], argTypes := #[K.S, K.S] })
 (lo : Nat) (W W3 : World) (H : Nat) (v : Value) (y : α) (xs : List α) (n : Nat) (T : TypeId) (cs : Array Value) (hn : xs.length = n) (hs : a.eval s = v) (hac : Acc K lo W v xs) (hlo : lo ≤ W.heap.size)
 (hl : xs.length ≤ 1048576) (hb3 : Below W.heap.size W W3) (hbox : W3.heap[H]? = some (.cells cs T (0, 0))) (hcs : cs.toList = K.E.cells y) (hx : a.eval x = .slice (some ⟨H, 0, none⟩) 1 1)
 (k : ∀ (g cap : Nat) (wn : World), Acc K lo wn (.slice (some ⟨g, 0, none⟩) (n + 1) cap) (xs ++ [y]) → W3.grownBy wn v.ownBlock → (v.ownBlock = some g ∨ g = W3.heap.size) → P (a.put o.dst (.slice (some ⟨g, 0, none⟩) (n + 1) cap)) wn) : Oper.wp Tryz.prog o a W3 P Q := by
 subst hn
 obtain ⟨ti, hti, hz, hsz, hby⟩ := info_parts hk.info
 have hown := ownsRow_below hac hb3
 have hlo3 : lo ≤ W3.heap.size := Nat.le_trans hlo hb3.size
 have hsm := hk.small
 have hmul : (xs.length + 1) * K.bytes ≤ 1048577 * 128 := Nat.mul_le_mul (by omega) hsm
 refine wp_append_lies W3 s x _ ho lo K.T ti _ K.E.sz K.bytes hk.under hti hz hsz hby hk.zs hk.pos v xs.length (flatE K.E xs) hs hown ⟨H, 0, none⟩ 1 1 (K.E.cells y) hx (by rw [hk.len, Nat.one_mul]) (by rw [← hcs]; exact World.news_of_block hbox) (fun u hu => hk.one y u hu) (by decide) (by unfold maxLen; omega) (by omega) hlo3 W3.heap.size rfl ?_
 intro g cap wn hown2 hgrow hat hlt
 refine k g cap wn ?_ hgrow hat
 unfold Acc
 rw [flatE_append, List.length_append]
 have : flatE K.E [y] = K.E.cells y := by simp [flatE]
 rw [this]
 exact hown2
theorem wpList_push {rest : List Oper} (hk : K.Ok) (hgd : o.guard = none) (s x : Operand) (ho : o.op = .call { callee := .builtin .append, args := #[s, x], argTypes := #[K.S, K.S] })
 (lo : Nat) (W W3 : World) (H : Nat) (v : Value) (y : α) (xs : List α) (n : Nat) (T : TypeId) (cs : Array Value) (hn : xs.length = n) (hs : a.eval s = v) (hac : Acc K lo W v xs) (hlo : lo ≤ W.heap.size)
 (hl : xs.length ≤ 1048576) (hb3 : Below W.heap.size W W3) (hbox : W3.heap[H]? = some (.cells cs T (0, 0))) (hcs : cs.toList = K.E.cells y) (hx : a.eval x = .slice (some ⟨H, 0, none⟩) 1 1)
 (k : ∀ (g cap : Nat) (wn : World), Acc K lo wn (.slice (some ⟨g, 0, none⟩) (n + 1) cap) (xs ++ [y]) → W3.grownBy wn v.ownBlock → (v.ownBlock = some g ∨ g = W3.heap.size) → wpList Tryz.prog ops Q rest (a.put o.dst (.slice (some ⟨g, 0, none⟩) (n + 1) cap)) wn) : wpList Tryz.prog ops Q (o :: rest) a W3 :=
 wpList_plain hgd fun _ hK => wp_push hk s x ho lo W W3 H v y xs n T cs hn hs hac hlo hl hb3 hbox hcs hx fun g cap u h1 h2 h3 => hK _ _ (k g cap u h1 h2 h3)
end
end
end Go.Proofs.YthejgnabgglmhaaGreat
namespace Go.Proofs.YthejgnabgglmhaaGreat
open Go.RowKit
def GivesL (P : Program) (f : FuncId) (args : Array Value) (w : World) (L : List Int) : Prop :=
 Calls P f args w fun e w' => ∃ v, e = .returned v ∧ Below w.heap.size w w' ∧ RowI w' v L ∧ ∀ b, v.ownBlock = some b → w.heap.size ≤ b
noncomputable def keptR (M : Md) : List Int := if codeN M = 0 then truesN (keptL M) M.nodes.length else []
theorem keptR_le (M : Md) : (keptR M).length ≤ M.nodes.length := by
 unfold keptR
 split
 · exact truesN_len _ _
 · simp
theorem truesN_yes {L : List Bool} {k : Nat} (h : L.getD k false = true) : truesN L (k + 1) = truesN L k ++ [(k : Int)] := by rw [truesN, if_pos h]
theorem truesN_no {L : List Bool} {k : Nat} (h : L.getD k false = false) : truesN L (k + 1) = truesN L k := by rw [truesN, h]; simp
theorem flat_ints : ∀ xs : List Int, flatE enI xs = xs.map (Value.int .i64)
 | [] => rfl
 | x :: l => by rw [flatE, flat_ints l]; rfl
theorem Acc.rowI {lo : Nat} {w : World} {v : Value} {xs : List Int} (h : Acc kI lo w v xs) (hl : xs.length ≤ 281474976710656) : RowI w v xs := by
 refine .of_owns (base := lo) (n := xs.length) ?_ rfl hl
 have h2 : w.ownsRow lo 3 1 v xs.length (flatE enI xs) := h
 rwa [flat_ints] at h2
theorem ModelKept_calls (mv : Value) (M : Md) (w : World) (hM : MdAt w mv M) (hsz : M.nodes.length ≤ 1048576) (hnm : ∀ x, x ∈ M.nodes → x.name.size ≤ 140737488351232) :
 GivesL Tryz.prog 5 #[mv] w (keptR M) := by
 have HM := Lib.hid hM
 have HNM := Lib.hid hnm
 have HSZ := Lib.hid hsz
 obtain ⟨s0, s1, s2, s3, s4, rfl, -⟩ := hM.at_
 clear hM hnm hsz
 unfold GivesL
 generalize hL : keptR M = L
 unfold keptR at hL
 go_enter Tryz.func5, Tryz.ntmps5
 have HB := Lib.hid (box_below w #[s0, s1, s2, s3, s4] 32)
 have m := fun f v h => box_cell w #[s0, s1, s2, s3, s4] 32 f v h
 have m0 := m 0 _ rfl
 have m1 := m 1 _ rfl
 have m2 := m 2 _ rfl
 have m3 := m 3 _ rfl
 have m4 := m 4 _ rfl
 clear m
 go_upto_region 1 with fail
 generalize w.alloc (.cells #[s0, s1, s2, s3, s4] 32) = w1 at *
 replace m0 : ∀ u : Later w1, u.val.cell? ⟨w.heap.size, 0, none⟩ = some s0 := m0
 replace m1 : ∀ u : Later w1, u.val.cell? ⟨w.heap.size, 1, none⟩ = some s1 := m1
 replace m2 : ∀ u : Later w1, u.val.cell? ⟨w.heap.size, 2, none⟩ = some s2 := m2
 replace m3 : ∀ u : Later w1, u.val.cell? ⟨w.heap.size, 3, none⟩ = some s3 := m3
 replace m4 : ∀ u : Later w1, u.val.cell? ⟨w.heap.size, 4, none⟩ = some s4 := m4
 have HM1 := Lib.hid (HM.out.below HB.out)
 by_cases hc : codeN M = 0
 · rw [if_pos hc] at hL
   have HC := Lib.hid hc
   have HL := Lib.hid hL
   clear hc hL
   refine at_world (w := w1) ?_
   intro u0
   go_upto_region 4 with (go_at_call 16; refine (Calls.later_eq (u := u0) (ModelCode_calls _ M _ (HM1.out.later u0) HNM.out) (congrArg (Value.int .i64) HC.out)).mono ?_; rintro e w' ⟨rfl, u1, rfl⟩)
   go_upto_region 5 with (go_at_call 17; refine (l9Need_calls _ M _ (HM1.out.later u1) HC.out).mono ?_; rintro e w' ⟨g, rfl, hb, hg, hown⟩; have HOWN := Lib.hid hown; have HU1 := Lib.hid u1.size; have HBW := Lib.hid ((u1.back HB.out).trans (hb.mono (u1.back HB.out).size)); clear hb hg hown)
   clear m0 m1 m2 m3 m4
   have HSB := Lib.hid HBW.out.size
   have HKN := Lib.hid (keptL_len M)
   generalize w' = W at *
   obtain ⟨KL, hKL⟩ : ∃ KL, keptL M = KL := ⟨_, rfl⟩
   rw [hKL] at HOWN HKN HL
   clear hKL
   generalize hn : M.nodes.length = n at *
   have HN := Lib.hid hn
   clear hn
   have hn2 : n ≤ 1048576 := HSZ.out
   go_wp2
   go_loopw [3, 5] (fun v i wr => ∃ (k : Nat) (xv : Value), k ≤ n ∧ xv = v ∧ i = .int .i64 k ∧ Hid (Acc kI W.heap.size wr xv (truesN KL k) ∧ OwnL wr g KL) ∧ LaterC W wr) (fun _ i _ => n - (intOf i).toNat)
   case atStart => exact ⟨0, _, Nat.zero_le _, rfl, rfl, Lib.hid ⟨Acc.nil kI _ _, HOWN.out⟩, LaterC.refl _⟩
   case round =>
    obtain ⟨k, xv, hk, rfl, rfl, HI, ⟨u, rfl⟩⟩ := hrel
    by_cases hlt : k < n
    · have hlt' : (k : Int) < n := by omega
      have c0 := HI.out.2.cell (show k < KL.length by have := HKN.out; omega)
      obtain ⟨q, hq⟩ : ∃ q, KL.getD k false = q := ⟨_, rfl⟩
      rw [hq] at c0
      have HQ := Lib.hid hq
      clear hq
      cases q
      · have HI2 := Lib.hid (show Acc kI W.heap.size u.val xv (truesN KL (k + 1)) ∧ OwnL u.val g KL by rw [truesN_no HQ.out]; exact HI.out)
        go_wp2
        go_roundw
        case rel => exact ⟨k + 1, _, by omega, rfl, by go_num, HI2, ⟨u, rfl⟩⟩
        case measure => simp [intOf] <;> omega
      · have HTL := Lib.hid (show (truesN KL k).length ≤ 1048576 by have h1 := truesN_len KL k; have h2 := HSZ.out; omega)
        obtain ⟨nt, hnt⟩ : ∃ nt, (truesN KL k).length = nt := ⟨_, rfl⟩
        have HNT := Lib.hid hnt
        clear hnt
        have HG0 := Lib.hid (show g < W.heap.size from HOWN.out.lt)
        go_upto_region 9 with fail
        go_wp2_with (at_builtin; refine wpList_push kI_ok (by rfl) _ _ (by rfl) W.heap.size u.val _ u.val.heap.size xv (k : Int) (truesN KL k) nt _ _ HNT.out (by rfl) HI.out.1 u.size HTL.out (by repeat (first | exact Below.refl _ _ | refine Below.drew ?_ | refine Below.alloc ?_ (Nat.le_refl _) _)) (heap_alloc_new u.val _) (by rfl) (by rfl) ?_; intro g2 cap wn hac hgr hat; have HA := Lib.hid hac; have HLW := Lib.hid (laterC_grown (w3 := W) (u.alloc _) (ownsRow_below HI.out.1 (box_below u.val _ _)) hgr); clear hac hgr hat)
        have HI2 := Lib.hid (show Acc kI W.heap.size wn (.slice (some ⟨g2, 0, none⟩) (nt + 1) cap) (truesN KL (k + 1)) ∧ OwnL wn g KL by rw [truesN_yes HQ.out]; exact ⟨HA.out, HOWN.out.below HLW.out.below⟩)
        go_roundw
        case rel => exact ⟨k + 1, _, by omega, rfl, by go_num, HI2, HLW.out⟩
        case measure => simp [intOf] <;> omega
    · obtain rfl : n = k := by omega
      rw [HL.out] at HI
      have HLE := Lib.hid (show L.length ≤ 1048576 by rw [← HL.out]; have h1 := truesN_len KL n; have h2 := HSZ.out; omega)
      go_wp2
      go_ret
      exact ⟨_, rfl, u.back HBW.out, HI.out.1.rowI (by have := HLE.out; omega), fun b hb => by have h1 := (HI.out.1.lt b hb).1; have h2 := HSB.out; omega⟩
 · rw [if_neg hc] at hL
   subst hL
   generalize hcm : codeN M = cm at *
   have HC := Lib.hid hcm
   clear hcm
   refine at_world (w := w1) ?_
   intro u0
   go_wp2_with (go_at_call 16; refine (Calls.later_eq (u := u0) (ModelCode_calls _ M _ (HM1.out.later u0) HNM.out) (congrArg (Value.int .i64) HC.out)).mono ?_; rintro e w' ⟨rfl, u1, rfl⟩)
   go_ret
   exact ⟨_, rfl, u1.back HB.out, ⟨by simp, .inl ⟨rfl, rfl⟩⟩, fun b hb => by cases hb⟩
theorem ModelKept'_calls (mv : Value) (M : Md) (w : World) (hM : MdAt w mv M) (hsz : M.nodes.length ≤ 1048576) (hnm : ∀ x, x ∈ M.nodes → x.name.size ≤ 140737488351232) (hw1 : ∀ b, b ∈ M.inits → (Lit.int .i64 b.st).wf = true) (hw2 : ∀ b, b ∈ M.nexts → (Lit.int .i64 b.st).wf = true) :
 GivesL Tryz.prog 7 #[mv] w (keptR M) := by
 have HM := Lib.hid hM
 have HNM := Lib.hid hnm
 have HSZ := Lib.hid hsz
 have HW1 := Lib.hid hw1
 have HW2 := Lib.hid hw2
 clear hw1 hw2
 obtain ⟨s0, s1, s2, s3, s4, rfl, -⟩ := hM.at_
 clear hM hnm hsz
 unfold GivesL
 generalize hL : keptR M = L
 unfold keptR at hL
 go_enter Tryz.func7, Tryz.ntmps7
 have HB := Lib.hid (box_below w #[s0, s1, s2, s3, s4] 32)
 have m := fun f v h => box_cell w #[s0, s1, s2, s3, s4] 32 f v h
 have m0 := m 0 _ rfl
 have m1 := m 1 _ rfl
 have m2 := m 2 _ rfl
 have m3 := m 3 _ rfl
 have m4 := m 4 _ rfl
 clear m
 go_upto_region 1 with fail
 generalize w.alloc (.cells #[s0, s1, s2, s3, s4] 32) = w1 at *
 replace m0 : ∀ u : Later w1, u.val.cell? ⟨w.heap.size, 0, none⟩ = some s0 := m0
 replace m1 : ∀ u : Later w1, u.val.cell? ⟨w.heap.size, 1, none⟩ = some s1 := m1
 replace m2 : ∀ u : Later w1, u.val.cell? ⟨w.heap.size, 2, none⟩ = some s2 := m2
 replace m3 : ∀ u : Later w1, u.val.cell? ⟨w.heap.size, 3, none⟩ = some s3 := m3
 replace m4 : ∀ u : Later w1, u.val.cell? ⟨w.heap.size, 4, none⟩ = some s4 := m4
 have HM1 := Lib.hid (HM.out.below HB.out)
 by_cases hc : codeN M = 0
 · rw [if_pos hc] at hL
   have HC := Lib.hid hc
   have HL := Lib.hid hL
   clear hc hL
   refine at_world (w := w1) ?_
   intro u0
   go_upto_region 4 with (go_at_call 21; refine (Calls.later_eq (u := u0) (ModelCode'_calls _ M _ (HM1.out.later u0) HNM.out HW1.out HW2.out) (congrArg (Value.int .i64) HC.out)).mono ?_; rintro e w' ⟨rfl, u1, rfl⟩)
   go_upto_region 5 with (go_at_call 22; refine (kept_calls _ M _ (HM1.out.later u1) HC.out).mono ?_; rintro e w' ⟨g, rfl, hb, hg, hown⟩; have HOWN := Lib.hid hown; have HU1 := Lib.hid u1.size; have HBW := Lib.hid ((u1.back HB.out).trans (hb.mono (u1.back HB.out).size)); clear hb hg hown)
   clear m0 m1 m2 m3 m4
   have HSB := Lib.hid HBW.out.size
   have HKN := Lib.hid (keptL_len M)
   generalize w' = W at *
   obtain ⟨KL, hKL⟩ : ∃ KL, keptL M = KL := ⟨_, rfl⟩
   rw [hKL] at HOWN HKN HL
   clear hKL
   generalize hn : M.nodes.length = n at *
   have HN := Lib.hid hn
   clear hn
   have hn2 : n ≤ 1048576 := HSZ.out
   go_wp2
   go_loopw [3, 12] (fun v i wr => ∃ (k : Nat) (xv : Value), k ≤ n ∧ xv = v ∧ i = .int .i64 k ∧ Hid (Acc kI W.heap.size wr xv (truesN KL k) ∧ OwnL wr g KL) ∧ LaterC W wr) (fun _ i _ => n - (intOf i).toNat)
   case atStart => exact ⟨0, _, Nat.zero_le _, rfl, rfl, Lib.hid ⟨Acc.nil kI _ _, HOWN.out⟩, LaterC.refl _⟩
   case round =>
    obtain ⟨k, xv, hk, rfl, rfl, HI, ⟨u, rfl⟩⟩ := hrel
    by_cases hlt : k < n
    · have hlt' : (k : Int) < n := by omega
      have c0 := HI.out.2.cell (show k < KL.length by have := HKN.out; omega)
      obtain ⟨q, hq⟩ : ∃ q, KL.getD k false = q := ⟨_, rfl⟩
      rw [hq] at c0
      have HQ := Lib.hid hq
      clear hq
      cases q
      · have HI2 := Lib.hid (show Acc kI W.heap.size u.val xv (truesN KL (k + 1)) ∧ OwnL u.val g KL by rw [truesN_no HQ.out]; exact HI.out)
        go_wp2
        go_roundw
        case rel => exact ⟨k + 1, _, by omega, rfl, by go_num, HI2, ⟨u, rfl⟩⟩
        case measure => simp [intOf] <;> omega
      · have HTL := Lib.hid (show (truesN KL k).length ≤ 1048576 by have h1 := truesN_len KL k; have h2 := HSZ.out; omega)
        obtain ⟨nt, hnt⟩ : ∃ nt, (truesN KL k).length = nt := ⟨_, rfl⟩
        have HNT := Lib.hid hnt
        clear hnt
        have HG0 := Lib.hid (show g < W.heap.size from HOWN.out.lt)
        go_upto_region 8 with fail
        go_wp2_with (at_builtin; refine wpList_push kI_ok (by rfl) _ _ (by rfl) W.heap.size u.val _ u.val.heap.size xv (k : Int) (truesN KL k) nt _ _ HNT.out (by rfl) HI.out.1 u.size HTL.out (by repeat (first | exact Below.refl _ _ | refine Below.drew ?_ | refine Below.alloc ?_ (Nat.le_refl _) _)) (heap_alloc_new u.val _) (by rfl) (by rfl) ?_; intro g2 cap wn hac hgr hat; have HA := Lib.hid hac; have HLW := Lib.hid (laterC_grown (w3 := W) (u.alloc _) (ownsRow_below HI.out.1 (box_below u.val _ _)) hgr); clear hac hgr hat)
        have HI2 := Lib.hid (show Acc kI W.heap.size wn (.slice (some ⟨g2, 0, none⟩) (nt + 1) cap) (truesN KL (k + 1)) ∧ OwnL wn g KL by rw [truesN_yes HQ.out]; exact ⟨HA.out, HOWN.out.below HLW.out.below⟩)
        go_roundw
        case rel => exact ⟨k + 1, _, by omega, rfl, by go_num, HI2, HLW.out⟩
        case measure => simp [intOf] <;> omega
    · obtain rfl : n = k := by omega
      rw [HL.out] at HI
      have HLE := Lib.hid (show L.length ≤ 1048576 by rw [← HL.out]; have h1 := truesN_len KL n; have h2 := HSZ.out; omega)
      go_wp2
      go_ret
      exact ⟨_, rfl, u.back HBW.out, HI.out.1.rowI (by have := HLE.out; omega), fun b hb => by have h1 := (HI.out.1.lt b hb).1; have h2 := HSB.out; omega⟩
 · rw [if_neg hc] at hL
   subst hL
   generalize hcm : codeN M = cm at *
   have HC := Lib.hid hcm
   clear hcm
   refine at_world (w := w1) ?_
   intro u0
   go_wp2_with (go_at_call 21; refine (Calls.later_eq (u := u0) (ModelCode'_calls _ M _ (HM1.out.later u0) HNM.out HW1.out HW2.out) (congrArg (Value.int .i64) HC.out)).mono ?_; rintro e w' ⟨rfl, u1, rfl⟩)
   go_ret
   exact ⟨_, rfl, u1.back HB.out, ⟨by simp, .inl ⟨rfl, rfl⟩⟩, fun b hb => by cases hb⟩
end Go.Proofs.YthejgnabgglmhaaGreat
namespace Go.Proofs.YthejgnabgglmhaaGreat
open Go.RowKit
def OwnP (w : World) (g : Nat) (T : TypeId) (m : Nat) (W : World) : Prop := ∃ cs, OwnB W g T cs ∧ cs.size = m ∧ But (· = g) w W
theorem OwnP.set {w W : World} {g : Nat} {T : TypeId} {m : Nat} (h : OwnP w g T m W) (i : Nat) (v : Value) : OwnP w g T m (W.setCell ⟨g, i, none⟩ v) := by
 obtain ⟨cs, h1, h2, h3⟩ := h
 exact ⟨_, h1.set i v, by simp [h2], h3.setCell rfl v⟩
theorem OwnP.below {w W W' : World} {g : Nat} {T : TypeId} {m : Nat} (h : OwnP w g T m W) (hb : Below W.heap.size W W') : OwnP w g T m W' := by
 obtain ⟨cs, h1, h2, h3⟩ := h
 exact ⟨cs, h1.below hb h1.lt, h2, h3.trans (.of_below hb)⟩
theorem OwnP.cell {w W : World} {g : Nat} {T : TypeId} {m : Nat} (h : OwnP w g T m W) {i : Nat} (hi : i < m) : ∃ v, W.cell? ⟨g, i, none⟩ = some v := by
 obtain ⟨cs, h1, rfl, h3⟩ := h
 exact ⟨cs[i], by rw [h1.cell, Array.getElem?_eq_getElem hi]⟩
theorem OwnP.frozen {w W : World} {g : Nat} {T : TypeId} {m : Nat} (h : OwnP w g T m W) (i : Nat) : W.frozen? ⟨g, i, none⟩ = false := by
 obtain ⟨cs, h1, -, -⟩ := h
 exact h1.frozen i
theorem OwnP.but {w W : World} {g : Nat} {T : TypeId} {m : Nat} (h : OwnP w g T m W) : But (· = g) w W := by
 obtain ⟨cs, h1, -, h3⟩ := h
 exact h3
theorem heldIntS_calls (v : Value) (k : Int) (n : Nat) (w : World) (h : SlN enI w v (marks k n)) (h0 : 0 ≤ k) (h1 : k + n ≤ 1000000000000) :
 Makes Tryz.prog 12 #[v, .int .i64 k] w (.int .i64 (k + n)) := by
 obtain ⟨A, c, rfl, hnc, hl, hA⟩ := h
 rw [marks_length] at hnc hl ⊢
 go_enter Tryz.func12, Tryz.ntmps12
 go_wp2
 go_loopw [1, 5] (fun kk i wr => ∃ (j : Nat) (t : Int), j ≤ n ∧ i = .int .i64 j ∧ kk = .int .i64 t ∧ 0 ≤ t ∧ t ≤ 1000000000000 ∧ Hid (t = k + j) ∧ LaterC w wr) (fun _ i _ => n - (intOf i).toNat)
 case atStart => exact ⟨0, k, Nat.zero_le _, rfl, rfl, by omega, by omega, Lib.hid (by simp), LaterC.refl _⟩
 case round =>
  obtain ⟨j, t, hj, rfl, rfl, ht0, ht1, HT, ⟨u, rfl⟩⟩ := hrel
  by_cases hlt : j < n
  · obtain ⟨b, o, rfl, hx⟩ := hA j _ (marks_get hlt)
    rw [← HT.out] at hx
    have p0 := hx.int (Below.refl _ _)
    have hb2 : t + 1 ≤ 1000000000000 := by have := HT.out; omega
    clear hA hx
    go_wp2
    go_roundw
    case rel => exact ⟨j + 1, t + 1, by omega, by go_num, rfl, by omega, hb2, Lib.hid (by have := HT.out; push_cast; omega), ⟨u, rfl⟩⟩
    case measure => simp [intOf] <;> omega
  · obtain rfl : j = n := by omega
    clear hA
    go_wp2
    go_ret
    exact ⟨ret_eq (congrArg (Value.int .i64) HT.out), u.prop⟩
theorem markIntS_calls (v : Value) (xs : List Int) (k : Int) (w : World) (h : RowI w v xs) (h0 : 0 ≤ k) (h1 : k + xs.length ≤ 1000000000000) :
 Calls Tryz.prog 11 #[v, .int .i64 k] w fun e w' => e = .returned (.int .i64 (k + xs.length)) ∧ But (fun b => v.ownBlock = some b) w w' ∧ RowI w' v (marks k xs.length) := by
 obtain ⟨hl, ⟨rfl, rfl⟩ | ⟨g, cap, cur, rfl, ho, hc, hs, hf⟩⟩ := h
 · go_enter Tryz.func11, Tryz.ntmps11
   go_wp2
   refine wp_loop_rounds 1 ?_
   rw [rounds_succ]
   go_wp2
   go_ret
   exact ⟨ret_eq (congrArg (Value.int .i64) (by simp)), .refl _ _, by simp [marks], .inl ⟨rfl, rfl⟩⟩
 · generalize xs.length = n at *
   have HO := Lib.hid ho
   have HS := Lib.hid hs
   clear ho hs hf
   go_enter Tryz.func11, Tryz.ntmps11
   go_wp2
   go_loopw [1, 5] (fun kk i wr => ∃ (j : Nat) (t : Int) (cs : Array Value), j ≤ n ∧ i = .int .i64 j ∧ kk = .int .i64 t ∧ 0 ≤ t ∧ t ≤ 1000000000000 ∧ Hid (t = k + j ∧ OwnB wr g 3 cs ∧ cs.size = cap ∧ (∀ i, i < j → cs[i]? = some (.int .i64 (k + i))) ∧ But (· = g) w wr)) (fun _ i _ => n - (intOf i).toNat)
   case atStart => exact ⟨0, k, cur, Nat.zero_le _, rfl, rfl, by omega, by omega, Lib.hid ⟨by simp, HO.out, HS.out, fun i hi => absurd hi (Nat.not_lt_zero _), .refl _ _⟩⟩
   case round =>
    obtain ⟨j, t, cs, hj, rfl, rfl, ht0, ht1, HT⟩ := hrel
    by_cases hlt : j < n
    · have hjc : j < cs.size := by have := HT.out.2.2.1; omega
      have p0 : wr.cell? ⟨g, j, none⟩ = some cs[j] := by rw [HT.out.2.1.cell, Array.getElem?_eq_getElem hjc]
      have f0 := HT.out.2.1.frozen j
      have hb2 : t + 1 ≤ 1000000000000 := by have := HT.out.1; omega
      go_wp2
      go_roundw
      case rel =>
       refine ⟨j + 1, t + 1, cs.setIfInBounds j (.int .i64 t), by omega, by go_num, rfl, by omega, hb2, Lib.hid ⟨by have := HT.out.1; push_cast; omega, HT.out.2.1.set _ _, by simpa using HT.out.2.2.1, fun i hi => ?_, HT.out.2.2.2.2.setCell rfl _⟩⟩
       rcases Nat.lt_or_ge i j with g' | g'
       · rw [Array.getElem?_setIfInBounds_ne (by omega)]
         exact HT.out.2.2.2.1 i g'
       · obtain rfl : i = j := by omega
         rw [Array.getElem?_setIfInBounds_self_of_lt hjc, HT.out.1]
      case measure => simp [intOf] <;> omega
    · obtain rfl : j = n := by omega
      go_wp2
      go_ret
      refine ⟨ret_eq (congrArg (Value.int .i64) HT.out.1), HT.out.2.2.2.2.mono (fun b hb => congrArg some hb.symm), by rw [marks_length]; exact hl, .inr ⟨g, cap, cs, by rw [marks_length], HT.out.2.1, by rw [marks_length]; exact hc, HT.out.2.2.1, fun i x hx => ?_⟩⟩
      have hi : i < j := by have := (List.getElem?_eq_some_iff.1 hx).1; rwa [marks_length] at this
      rw [marks_get hi] at hx
      cases hx
      exact HT.out.2.2.2.1 i hi
theorem eqIntN_calls (v1 v2 : Value) (xs : List Int) (w : World) (h1 : SlN enI w v1 xs) (h2 : SlN enI w v2 xs) :
 Makes Tryz.prog 8 #[v1, v2] w (.bool true) := by
 obtain ⟨A, c, rfl, hnc, hc', hA⟩ := h1
 obtain ⟨B, d, rfl, -, hd', hB⟩ := h2
 generalize hN : xs.length = n at *
 have HN := Lib.hid hN
 clear hN
 have hn : n ≤ 281474976710656 := hc'
 clear hc' hd' hnc
 go_enter Tryz.func8, Tryz.ntmps8
 go_wp2
 go_loopw [5] (fun i wr => ∃ k : Nat, k ≤ n ∧ i = .int .i64 k ∧ LaterC w wr) (fun i _ => n - (intOf i).toNat)
 case atStart => exact ⟨0, Nat.zero_le _, rfl, LaterC.refl w⟩
 case round =>
  obtain ⟨k, hk, rfl, ⟨u, rfl⟩⟩ := hrel
  by_cases hlt : k < n
  · have hget := getD_at (show k < xs.length by rw [HN.out]; exact hlt) 0
    obtain ⟨b, o, rfl, hx⟩ := hA k _ hget
    obtain ⟨b', o', rfl, hy⟩ := hB k _ hget
    generalize xs.getD k 0 = x at hx hy
    have hx0 := hx.int (Below.refl _ _)
    have hy0 := hy.int (Below.refl _ _)
    clear hx hy hget hA hB
    go_wp2
    refine wp_region_later (w0 := w) (by kernel_rfl) (by kernel_rfl) ⟨_, rfl⟩ ?_
    repeat (go_big_quiet_step (fail))
    refine wpQuiet_nil ?_
    rintro _ ⟨u1, rfl⟩
    go_wp2
    go_roundw
    case rel => exact ⟨k + 1, by omega, by go_num, ⟨u1, rfl⟩⟩
    case measure => simp [intOf]; omega
  · obtain rfl : k = n := by omega
    clear hA hB
    go_wp2
    go_ret
    exact ⟨rfl, u.prop⟩
theorem markBindS_calls (g n m c : Nat) (k : Int) (w0 w : World) (h : OwnP w0 g 65 m w) (hm : n * 2 ≤ m) (hc : n ≤ c) (hn : n ≤ 1048576) (h0 : 0 ≤ k) (h1 : k + 2 * n ≤ 1000000000000) :
 Calls Tryz.prog 26 #[.slice (some ⟨g, 0, none⟩) n c, .int .i64 k] w fun e w' => e = .returned (.int .i64 (k + 2 * n)) ∧ OwnP w0 g 65 m w' := by
 have HO := Lib.hid h
 clear h
 go_enter Tryz.func26, Tryz.ntmps26
 go_wp2
 go_loopw [1, 5] (fun kk i wr => ∃ (j : Nat) (t : Int), j ≤ n ∧ i = .int .i64 j ∧ kk = .int .i64 t ∧ 0 ≤ t ∧ t ≤ 1000000000000 ∧ Hid (t = k + 2 * j ∧ OwnP w0 g 65 m wr)) (fun _ i _ => n - (intOf i).toNat)
 case atStart => exact ⟨0, k, Nat.zero_le _, rfl, rfl, by omega, by omega, Lib.hid ⟨by simp, HO.out⟩⟩
 case round =>
  obtain ⟨j, t, hj, rfl, rfl, ht0, ht1, HT⟩ := hrel
  by_cases hlt : j < n
  · obtain ⟨x0, p0⟩ := HT.out.2.cell (i := j * 2) (by omega)
    obtain ⟨x1, p1⟩ := HT.out.2.cell (i := j * 2 + 1) (by omega)
    have f0 := HT.out.2.frozen (j * 2)
    have f1 := HT.out.2.frozen (j * 2 + 1)
    have hb2 : t + 2 ≤ 1000000000000 := by have := HT.out.1; omega
    go_wp2
    go_roundw
    case rel => exact ⟨j + 1, t + 1 + 1, by omega, by go_num, rfl, by omega, by omega, Lib.hid ⟨by have := HT.out.1; push_cast; omega, (HT.out.2.set _ _).set _ _⟩⟩
    case measure => simp [intOf] <;> omega
  · obtain rfl : j = n := by omega
    go_wp2
    go_ret
    exact ⟨ret_eq (congrArg (Value.int .i64) HT.out.1), HT.out.2⟩
theorem pow_step {t d : Nat} (h : t < 10 ^ (d + 1)) : t / 10 < 10 ^ d := by
 rw [Nat.pow_succ] at h
 omega
theorem markText_calls (k : Int) (w : World) (h0 : 1 ≤ k) (h1 : k ≤ 1000000000000) :
 Calls Tryz.prog 55 #[.int .i64 k] w fun e w' => ∃ s, e = .returned (.string s) ∧ Below w.heap.size w w' := by
 obtain ⟨K, rfl⟩ := Int.eq_ofNat_of_zero_le (show 0 ≤ k by omega)
 go_enter Tryz.func55, Tryz.ntmps55
 go_wp2
 go_loopw [0, 3] (fun kk s wr => ∃ (t d : Nat) (b : ByteArray), kk = .int .i64 t ∧ s = .string b ∧ t ≤ 1000000000000 ∧ Hid (t < 10 ^ d ∧ b.size + d ≤ 20) ∧ LaterC w wr) (fun kk _ _ => (intOf kk).toNat)
 case atStart => exact ⟨K, 13, ByteArray.empty, rfl, rfl, by omega, Lib.hid ⟨by omega, by decide⟩, LaterC.refl _⟩
 case round =>
  obtain ⟨t, d, b, rfl, rfl, ht, HT, ⟨u, rfl⟩⟩ := hrel
  by_cases hlt : 0 < t
  · have hd : ∃ d', d = d' + 1 := ⟨d - 1, by
     have h1 := HT.out.1
     rcases d with _ | d'
     · simp at h1; omega
     · rfl⟩
    obtain ⟨d', rfl⟩ := hd
    have HT2 := Lib.hid (show t / 10 < 10 ^ d' ∧ (b.size + 1) + d' ≤ 20 from ⟨pow_step HT.out.1, by have := HT.out.2; omega⟩)
    have hbs : b.size ≤ 20 := by have := HT.out.2; omega
    have hcv : (convert 100 9 (.slice (some ⟨u.val.heap.size, 0, none⟩) 1 1)).run Tryz.prog (u.val.alloc (Obj.cells #[.int .u8 (48 + (t : Int) % 10)] 5)) = .ok (.string ⟨#[UInt8.ofNat (48 + t % 10)]⟩) (u.val.alloc (Obj.cells #[.int .u8 (48 + (t : Int) % 10)] 5)) := by
     refine run_convert_bytes_back _ _ _ 5 ⟨u.val.heap.size, 0, none⟩ 1 [UInt8.ofNat (48 + t % 10)] Tryz.underlying100 Tryz.underlying5 Tryz.underlying9 (fun j hj => ?_)
     obtain rfl : j = 0 := by simpa using hj
     have h1 : (48 + t % 10) % 256 = 48 + t % 10 := by omega
     show (u.val.alloc (Obj.cells #[.int .u8 (48 + (t : Int) % 10)] 5)).cell? ⟨u.val.heap.size, 0, none⟩ = _
     rw [(OwnB.new u.val 5 #[.int .u8 (48 + (t : Int) % 10)] : OwnB _ _ _ _).cell 0]
     simp [UInt8.toNat_ofNat', h1]
    go_wp2
    go_roundw
    case rel =>
     refine ⟨t / 10, d', _, by push_cast; rfl, rfl, by omega, Lib.hid ⟨HT2.out.1, ?_⟩, u.alloc _⟩
     have := HT2.out.2
     rw [ByteArray.size_append]
     show 1 + b.size + d' ≤ 20
     omega
    case measure => simp [intOf] <;> omega
  · obtain rfl : t = 0 := by omega
    have hbs : b.size ≤ 20 := by have := HT.out.2; omega
    go_wp2
    go_ret
    exact ⟨_, rfl, u.prop⟩
theorem at_own {φ : World → Prop} {W w0 : World} {g m : Nat} {T : TypeId} (h : OwnP w0 g T m W) (k : ∀ W', OwnP w0 g T m W' → φ W') : φ W := k W h
theorem markNodeS_calls (g n m c : Nat) (k : Int) (w0 w : World) (h : OwnP w0 g 62 m w) (hm : n * 9 ≤ m) (hc : n ≤ c) (hn : n ≤ 1048576) (h0 : 1 ≤ k) (h1 : k + 9 * n ≤ 1000000000000) :
 Calls Tryz.prog 25 #[.slice (some ⟨g, 0, none⟩) n c, .int .i64 k] w fun e w' => e = .returned (.int .i64 (k + 9 * n)) ∧ OwnP w0 g 62 m w' := by
 have HO := Lib.hid h
 clear h
 go_enter Tryz.func25, Tryz.ntmps25
 go_wp2
 go_loopw [1, 5] (fun kk i wr => ∃ (j : Nat) (t : Int), j ≤ n ∧ i = .int .i64 j ∧ kk = .int .i64 t ∧ 1 ≤ t ∧ t ≤ 1000000000000 ∧ Hid (t = k + 9 * j ∧ OwnP w0 g 62 m wr)) (fun _ i _ => n - (intOf i).toNat)
 case atStart => exact ⟨0, k, Nat.zero_le _, rfl, rfl, by omega, by omega, Lib.hid ⟨by simp, HO.out⟩⟩
 case round =>
  obtain ⟨j, t, hj, rfl, rfl, ht0, ht1, HT⟩ := hrel
  by_cases hlt : j < n
  · obtain ⟨x0, p0⟩ := HT.out.2.cell (i := j * 9) (by omega)
    obtain ⟨x1, p1⟩ := HT.out.2.cell (i := j * 9 + 1) (by omega)
    obtain ⟨x2, p2⟩ := HT.out.2.cell (i := j * 9 + 2) (by omega)
    obtain ⟨x3, p3⟩ := HT.out.2.cell (i := j * 9 + 3) (by omega)
    obtain ⟨x4, p4⟩ := HT.out.2.cell (i := j * 9 + 4) (by omega)
    obtain ⟨x5, p5⟩ := HT.out.2.cell (i := j * 9 + 5) (by omega)
    obtain ⟨x6, p6⟩ := HT.out.2.cell (i := j * 9 + 6) (by omega)
    obtain ⟨x7, p7⟩ := HT.out.2.cell (i := j * 9 + 7) (by omega)
    have f0 := HT.out.2.frozen (j * 9)
    have f1 := HT.out.2.frozen (j * 9 + 1)
    have f2 := HT.out.2.frozen (j * 9 + 2)
    have f3 := HT.out.2.frozen (j * 9 + 3)
    have f4 := HT.out.2.frozen (j * 9 + 4)
    have f5 := HT.out.2.frozen (j * 9 + 5)
    have f6 := HT.out.2.frozen (j * 9 + 6)
    have f7 := HT.out.2.frozen (j * 9 + 7)
    have hb2 : t + 9 ≤ 1000000000000 := by have := HT.out.1; omega
    go_upto_region 20 with fail
    refine at_own (w0 := w0) (g := g) (T := 62) (m := m) ?_ ?_
    · repeat (first | with_reducible exact HT.out.2 | with_reducible refine OwnP.set ?_ _ _)
    intro W8 h8
    have H8 := Lib.hid h8
    clear h8 p0 p1 p2 p3 p4 p5 p6 p7 f0 f1 f2 f3 f4 f5 f6 f7
    go_wp2_with (go_at_call 55; refine (markText_calls _ _ (by omega) (by omega)).mono ?_; rintro e w' ⟨s, rfl, hb⟩; have H9 := Lib.hid (H8.out.below hb); obtain ⟨x8, p8⟩ := H9.out.cell (i := j * 9 + 8) (by omega); have f8 := H9.out.frozen (j * 9 + 8); clear hb)
    go_roundw
    case rel => exact ⟨j + 1, _, by omega, by go_num, rfl, by omega, by omega, Lib.hid ⟨by have := HT.out.1; push_cast; omega, H9.out.set _ _⟩⟩
    case measure => simp [intOf] <;> omega
  · obtain rfl : j = n := by omega
    go_wp2
    go_ret
    exact ⟨ret_eq (congrArg (Value.int .i64) HT.out.1), HT.out.2⟩
theorem fresh_own {α : Type} {E : En α} {T : TypeId} {wa w W : World} {g : Nat} {xs : List α} {S : Nat → Prop} (f : FreshG E T wa w g xs) (hb : But S w W) (hg : ¬ S g) : OwnP W g T (xs.length * E.sz) W := by
 obtain ⟨cs, -, ho, hs, -⟩ := f
 exact ⟨cs, ho.but hb hg, hs, .refl _ _⟩
theorem FreshG.rowI {wa w : World} {g : Nat} {xs : List Int} (f : FreshG enI 3 wa w g xs) (hl : xs.length ≤ 281474976710656) : RowI w (slOf g xs) xs := by
 obtain ⟨cs, -, ho, hs, hf⟩ := f
 refine ⟨hl, .inr ⟨g, xs.length, cs, rfl, ho, Nat.le_refl _, by simpa using hs, fun i x hx => ?_⟩⟩
 have := hf i x (List.getElem?_eq_some_iff.1 hx).1 hx 0 _ rfl
 simpa using this
theorem but_step {w wi wj : World} {g0 g h : Nat} (hi : But (fun b => g0 ≤ b ∧ b < g) w wi) (hj : But (· = g) wi wj) (h0 : g0 ≤ g) (hg : g < h) : But (fun b => g0 ≤ b ∧ b < h) w wj :=
 (hi.mono fun b hb => ⟨hb.1, by omega⟩).trans (hj.mono fun b hb => by subst hb; exact ⟨h0, hg⟩)
theorem markModel_le (M : Md) {wa : World} (w : World) (g0 g1 g2 g3 g4 : Nat) (hlen : M.nodes.length ≤ 1048576 ∧ M.inits.length ≤ 1048576 ∧ M.nexts.length ≤ 1048576 ∧ M.bads.length ≤ 1048576 ∧ M.holds.length ≤ 1048576) (hx : g0 < g1 ∧ g1 < g2 ∧ g2 < g3 ∧ g3 < g4)
 (f0 : FreshG enNd 62 wa w g0 M.nodes) (f1 : FreshG enBd 65 wa w g1 M.inits) (f2 : FreshG enBd 65 wa w g2 M.nexts) (f3 : FreshG enI 3 wa w g3 M.bads) (f4 : FreshG enI 3 wa w g4 M.holds) :
 Calls Tryz.prog 10 #[.agg #[slOf g0 M.nodes, slOf g1 M.inits, slOf g2 M.nexts, slOf g3 M.bads, slOf g4 M.holds], .int .i64 1] w fun e w' => ∃ r, e = .returned (.int .i64 r) ∧ (0 ≤ r ∧ r ≤ 100000000) ∧ But (fun b => g0 ≤ b ∧ b ≤ g4) w w' := by
 have HF := Lib.hid (show _ ∧ _ ∧ _ ∧ _ ∧ _ from ⟨f0, f1, f2, f3, f4⟩)
 have HX := Lib.hid hx
 have HLT := Lib.hid (show g4 < w.heap.size from f4.lt)
 obtain ⟨l0, l1, l2, l3, l4⟩ := hlen
 clear f0 f1 f2 f3 f4 hx
 go_enter Tryz.func10, Tryz.ntmps10
 have b0 := box_cell w #[slOf g0 M.nodes, slOf g1 M.inits, slOf g2 M.nexts, slOf g3 M.bads, slOf g4 M.holds] 32 0 _ rfl
 have b1 := box_cell w #[slOf g0 M.nodes, slOf g1 M.inits, slOf g2 M.nexts, slOf g3 M.bads, slOf g4 M.holds] 32 1 _ rfl
 have b2 := box_cell w #[slOf g0 M.nodes, slOf g1 M.inits, slOf g2 M.nexts, slOf g3 M.bads, slOf g4 M.holds] 32 2 _ rfl
 have b3 := box_cell w #[slOf g0 M.nodes, slOf g1 M.inits, slOf g2 M.nexts, slOf g3 M.bads, slOf g4 M.holds] 32 3 _ rfl
 have b4 := box_cell w #[slOf g0 M.nodes, slOf g1 M.inits, slOf g2 M.nexts, slOf g3 M.bads, slOf g4 M.holds] 32 4 _ rfl
 have hb := box_below w #[slOf g0 M.nodes, slOf g1 M.inits, slOf g2 M.nexts, slOf g3 M.bads, slOf g4 M.holds] 32
 go_upto_region 1 with fail
 generalize w.alloc (.cells #[slOf g0 M.nodes, slOf g1 M.inits, slOf g2 M.nexts, slOf g3 M.bads, slOf g4 M.holds] 32) = W0 at *
 have c0 : W0.cell? ⟨w.heap.size, 0, none⟩ = some (slOf g0 M.nodes) := b0 ⟨W0, Below.refl _ _⟩
 have c1 : W0.cell? ⟨w.heap.size, 1, none⟩ = some (slOf g1 M.inits) := b1 ⟨W0, Below.refl _ _⟩
 have c2 : W0.cell? ⟨w.heap.size, 2, none⟩ = some (slOf g2 M.nexts) := b2 ⟨W0, Below.refl _ _⟩
 have c3 : W0.cell? ⟨w.heap.size, 3, none⟩ = some (slOf g3 M.bads) := b3 ⟨W0, Below.refl _ _⟩
 have c4 : W0.cell? ⟨w.heap.size, 4, none⟩ = some (slOf g4 M.holds) := b4 ⟨W0, Below.refl _ _⟩
 have HB0 := Lib.hid (show But (fun b => g0 ≤ b ∧ b < g0) w W0 from .of_below hb)
 clear b0 b1 b2 b3 b4 hb
 go_upto_region 2 with (go_at_call 25; refine (markNodeS_calls g0 M.nodes.length _ _ 1 W0 W0 (fresh_own HF.out.1 HB0.out (fun h => Nat.lt_irrefl _ h.2)) (Nat.le_refl _) (Nat.le_refl _) l0 (by omega) (by omega)).mono ?_; rintro e W1 ⟨rfl, ho⟩; have HB1 := Lib.hid (but_step HB0.out ho.but (Nat.le_refl _) HX.out.1); have HO1 := Lib.hid ho.but; clear ho)
 have c1 := cell_but c1 HO1.out (by show ¬ w.heap.size = g0; have := HLT.out; have := HX.out; omega)
 have c2 := cell_but c2 HO1.out (by show ¬ w.heap.size = g0; have := HLT.out; have := HX.out; omega)
 have c3 := cell_but c3 HO1.out (by show ¬ w.heap.size = g0; have := HLT.out; have := HX.out; omega)
 have c4 := cell_but c4 HO1.out (by show ¬ w.heap.size = g0; have := HLT.out; have := HX.out; omega)
 clear c0
 generalize hk1 : (1 : Int) + 9 * (M.nodes.length : Int) = k1 at *
 have h1 : 1 ≤ k1 ∧ k1 ≤ 10000000 := by omega
 clear hk1
 go_upto_region 3 with (go_at_call 26; refine (markBindS_calls g1 M.inits.length _ _ k1 W1 W1 (fresh_own HF.out.2.1 HB1.out (fun h => Nat.lt_irrefl _ h.2)) (Nat.le_refl _) (Nat.le_refl _) l1 (by omega) (by omega)).mono ?_; rintro e W2 ⟨rfl, ho⟩; have HB2 := Lib.hid (but_step HB1.out ho.but (by have := HX.out; omega) HX.out.2.1); have HO2 := Lib.hid ho.but; clear ho)
 have c2 := cell_but c2 HO2.out (by show ¬ w.heap.size = g1; have := HLT.out; have := HX.out; omega)
 have c3 := cell_but c3 HO2.out (by show ¬ w.heap.size = g1; have := HLT.out; have := HX.out; omega)
 have c4 := cell_but c4 HO2.out (by show ¬ w.heap.size = g1; have := HLT.out; have := HX.out; omega)
 clear c1
 generalize hk2 : k1 + 2 * (M.inits.length : Int) = k2 at *
 have h2 : 1 ≤ k2 ∧ k2 ≤ 20000000 := by omega
 clear hk2 h1
 go_upto_region 4 with (go_at_call 26; refine (markBindS_calls g2 M.nexts.length _ _ k2 W2 W2 (fresh_own HF.out.2.2.1 HB2.out (fun h => Nat.lt_irrefl _ h.2)) (Nat.le_refl _) (Nat.le_refl _) l2 (by omega) (by omega)).mono ?_; rintro e W3 ⟨rfl, ho⟩; have HB3 := Lib.hid (but_step HB2.out ho.but (by have := HX.out; omega) HX.out.2.2.1); have HO3 := Lib.hid ho.but; clear ho)
 have c3 := cell_but c3 HO3.out (by show ¬ w.heap.size = g2; have := HLT.out; have := HX.out; omega)
 have c4 := cell_but c4 HO3.out (by show ¬ w.heap.size = g2; have := HLT.out; have := HX.out; omega)
 clear c2
 generalize hk3 : k2 + 2 * (M.nexts.length : Int) = k3 at *
 have h3 : 1 ≤ k3 ∧ k3 ≤ 30000000 := by omega
 clear hk3 h2
 go_upto_region 5 with (go_at_call 11; refine (markIntS_calls _ M.bads k3 W3 ((HF.out.2.2.2.1.rowI (by omega)).but HB3.out (fun b hb h => by cases hb; exact Nat.lt_irrefl _ h.2)) (by omega) (by omega)).mono ?_; rintro e W4 ⟨rfl, hbut, -⟩; have HO4 := Lib.hid (show But (· = g3) W3 W4 from hbut.mono fun b hb => by cases hb; rfl); have HB4 := Lib.hid (but_step HB3.out HO4.out (by have := HX.out; omega) HX.out.2.2.2); clear hbut)
 have c4 := cell_but c4 HO4.out (by show ¬ w.heap.size = g3; have := HLT.out; have := HX.out; omega)
 clear c3
 generalize hk4 : k3 + (M.bads.length : Int) = k4 at *
 have h4 : 1 ≤ k4 ∧ k4 ≤ 40000000 := by omega
 clear hk4 h3
 go_wp2_with (go_at_call 11; refine (markIntS_calls _ M.holds k4 W4 ((HF.out.2.2.2.2.rowI (by omega)).but HB4.out (fun b hb h => by cases hb; exact Nat.lt_irrefl _ h.2)) (by omega) (by omega)).mono ?_; rintro e W5 ⟨rfl, hbut, -⟩; have HO5 := Lib.hid (show But (· = g4) W4 W5 from hbut.mono fun b hb => by cases hb; rfl); clear hbut)
 go_ret
 exact ⟨_, rfl, ⟨by omega, by omega⟩, (but_step HB4.out HO5.out (by have := HX.out; omega) (Nat.lt_succ_self _)).mono fun b hb => ⟨hb.1, Nat.lt_succ_iff.1 hb.2⟩⟩
theorem markModel_calls (M : Md) {wa : World} (w : World) (g0 g1 g2 g3 g4 : Nat) (hlen : M.nodes.length ≤ 1048576 ∧ M.inits.length ≤ 1048576 ∧ M.nexts.length ≤ 1048576 ∧ M.bads.length ≤ 1048576 ∧ M.holds.length ≤ 1048576) (hx : g0 < g1 ∧ g1 < g2 ∧ g2 < g3 ∧ g3 < g4)
 (f0 : FreshG enNd 62 wa w g0 M.nodes) (f1 : FreshG enBd 65 wa w g1 M.inits) (f2 : FreshG enBd 65 wa w g2 M.nexts) (f3 : FreshG enI 3 wa w g3 M.bads) (f4 : FreshG enI 3 wa w g4 M.holds) :
 Calls Tryz.prog 10 #[.agg #[slOf g0 M.nodes, slOf g1 M.inits, slOf g2 M.nexts, slOf g3 M.bads, slOf g4 M.holds], .int .i64 1] w fun e w' => ∃ r, e = .returned (.int .i64 r) ∧ 0 ≤ r ∧ But (fun b => g0 ≤ b ∧ b ≤ g4) w w' :=
 (markModel_le M w g0 g1 g2 g3 g4 hlen hx f0 f1 f2 f3 f4).mono fun _ _ ⟨r, he, hr, hb⟩ => ⟨r, he, hr.1, hb⟩
end Go.Proofs.YthejgnabgglmhaaGreat
namespace Go.Proofs.YthejgnabgglmhaaGreat
open Go.RowKit
theorem FnExactModelKept_calls (mv : Value) (M : Md) (w : World) (hM : MdAt w mv M) (hnm : ∀ x, x ∈ M.nodes → x.name.size ≤ 140737488351232) (hw1 : ∀ b, b ∈ M.inits → (Lit.int .i64 b.st).wf = true) (hw2 : ∀ b, b ∈ M.nexts → (Lit.int .i64 b.st).wf = true) :
 Makes Tryz.prog 3 #[mv] w (.bool true) := by
 have HM := Lib.hid hM
 have HNM := Lib.hid hnm
 have HW1 := Lib.hid hw1
 have HW2 := Lib.hid hw2
 have HSZ := Lib.hid (show ∀ x ∈ M.nodes, x.name.size ≤ 281474976710656 from fun x hx => by have := hnm x hx; omega)
 obtain ⟨s0, s1, s2, s3, s4, rfl, -⟩ := hM.at_
 clear hM hnm hw1 hw2
 go_enter Tryz.func3, Tryz.ntmps3
 have HB := Lib.hid (box_below w #[s0, s1, s2, s3, s4] 26)
 have m0 := box_cell w #[s0, s1, s2, s3, s4] 26 0 _ rfl
 have m1 := box_cell w #[s0, s1, s2, s3, s4] 26 1 _ rfl
 have m2 := box_cell w #[s0, s1, s2, s3, s4] 26 2 _ rfl
 have m3 := box_cell w #[s0, s1, s2, s3, s4] 26 3 _ rfl
 have m4 := box_cell w #[s0, s1, s2, s3, s4] 26 4 _ rfl
 go_upto_region 1 with fail
 generalize w.alloc (.cells #[s0, s1, s2, s3, s4] 26) = w1 at *
 have m0 : ∀ u : Later w1, u.val.cell? ⟨w.heap.size, 0, none⟩ = some s0 := m0
 have m1 : ∀ u : Later w1, u.val.cell? ⟨w.heap.size, 1, none⟩ = some s1 := m1
 have m2 : ∀ u : Later w1, u.val.cell? ⟨w.heap.size, 2, none⟩ = some s2 := m2
 have m3 : ∀ u : Later w1, u.val.cell? ⟨w.heap.size, 3, none⟩ = some s3 := m3
 have m4 : ∀ u : Later w1, u.val.cell? ⟨w.heap.size, 4, none⟩ = some s4 := m4
 have HM1 := Lib.hid (HM.out.below HB.out)
 refine at_world (w := w1) ?_
 intro u0
 go_upto_region 3 with (go_at_call 4; refine (szModel_calls _ M _ (HM1.out.later u0) HSZ.out).mono ?_; rintro e w' ⟨r, rfl, hb, hr⟩; obtain ⟨u1, hu1⟩ := u0.step hb; subst hu1; have HL := Lib.hid hr; clear hb hr)
 by_cases hneg : r < 0
 · go_wp2
   go_ret
   exact ⟨rfl, u1.back HB.out⟩
 have HLEN := Lib.hid (show M.nodes.length ≤ 1048576 ∧ M.inits.length ≤ 1048576 ∧ M.nexts.length ≤ 1048576 ∧ M.bads.length ≤ 1048576 ∧ M.holds.length ≤ 1048576 by
  have := HL.out
  unfold LeftOf at this
  omega)
 go_upto_region 6 with (first | (go_at_call 5; refine (ModelKept_calls _ M _ HC1.out HLEN.out.1 HNM.out).mono ?_; rintro e w' ⟨v4, rfl, hb, hr, hbl⟩; obtain ⟨u3, hu3⟩ := u2.step hb; subst hu3; have HR4 := Lib.hid hr; clear hb hr hbl) | (go_at_call 6; refine (toModel_at _ M _ (HM1.out.later u1) HLEN.out.1 HLEN.out.2.1 HLEN.out.2.2.1 HLEN.out.2.2.2.1 HLEN.out.2.2.2.2).mono ?_; rintro e w' ⟨t0, t1, t2, t3, t4, rfl, hb, hc⟩; obtain ⟨u2, hu2⟩ := u1.step hb; subst hu2; have HC1 := Lib.hid hc; clear hb hc))
 go_upto_region 7 with (go_at_call 6; refine (toModel_calls _ M _ (HM1.out.later u3) HLEN.out.1 HLEN.out.2.1 HLEN.out.2.2.1 HLEN.out.2.2.2.1 HLEN.out.2.2.2.2).mono ?_; rintro e w' ⟨x0, x1, x2, x3, x4, rfl, hb, hx01, hx12, hx23, hx34, hf0, hf1, hf2, hf3, hf4⟩; have HR4' := Lib.hid (HR4.out.below hb); have HV4 := Lib.hid (show ∀ b, v4.ownBlock = some b → b < x0 from fun b hb' => Nat.lt_of_lt_of_le (HR4.out.lt hb') hf0.ge); have HX := Lib.hid (show (x0 < x1 ∧ x1 < x2 ∧ x2 < x3 ∧ x3 < x4) from ⟨hx01, hx12, hx23, hx34⟩); have HF := Lib.hid (show _ ∧ _ ∧ _ ∧ _ ∧ _ from ⟨hf0, hf1, hf2, hf3, hf4⟩); have HG := Lib.hid (show w1.heap.size ≤ x0 from Nat.le_trans u3.size hf0.ge); obtain ⟨u4, hu4⟩ := u3.step hb; subst hu4; clear hb hx01 hx12 hx23 hx34 hf0 hf1 hf2 hf3 hf4 HR4)
 have HC2 := Lib.hid (show MdAt u4.val (Value.agg #[slOf x0 M.nodes, slOf x1 M.inits, slOf x2 M.nexts, slOf x3 M.bads, slOf x4 M.holds]) M from ⟨⟨_, _, _, _, _, rfl, HF.out.1.slAt (by have := HLEN.out; omega), HF.out.2.1.slAt (by have := HLEN.out; omega), HF.out.2.2.1.slAt (by have := HLEN.out; omega), HF.out.2.2.2.1.slAt (by have := HLEN.out; omega), HF.out.2.2.2.2.slAt (by have := HLEN.out; omega)⟩⟩)
 have HB2 := Lib.hid (show LaterC w1 (u4.val.alloc (Obj.cells #[slOf x0 M.nodes, slOf x1 M.inits, slOf x2 M.nexts, slOf x3 M.bads, slOf x4 M.holds] 32)) from LaterC.alloc' ⟨u4, rfl⟩ _)
 have hba : Below u4.val.heap.size u4.val (u4.val.alloc (Obj.cells #[slOf x0 M.nodes, slOf x1 M.inits, slOf x2 M.nexts, slOf x3 M.bads, slOf x4 M.holds] 32)) := (Below.refl _ _).alloc (Nat.le_refl _) _
 have HC3 := Lib.hid (HC2.out.below hba)
 have HR5 := Lib.hid (HR4'.out.below hba)
 have HF5 := Lib.hid (show _ ∧ _ ∧ _ ∧ _ ∧ _ from ⟨HF.out.1.below hba, HF.out.2.1.below hba, HF.out.2.2.1.below hba, HF.out.2.2.2.1.below hba, HF.out.2.2.2.2.below hba⟩)
 have HX4 := Lib.hid (show x4 < u4.val.heap.size from HF.out.2.2.2.2.lt)
 clear HC2 HR4' HF hba
 have b0 := box_cell u4.val #[slOf x0 M.nodes, slOf x1 M.inits, slOf x2 M.nexts, slOf x3 M.bads, slOf x4 M.holds] 32 0 _ rfl
 have b1 := box_cell u4.val #[slOf x0 M.nodes, slOf x1 M.inits, slOf x2 M.nexts, slOf x3 M.bads, slOf x4 M.holds] 32 1 _ rfl
 have b2 := box_cell u4.val #[slOf x0 M.nodes, slOf x1 M.inits, slOf x2 M.nexts, slOf x3 M.bads, slOf x4 M.holds] 32 2 _ rfl
 have b3 := box_cell u4.val #[slOf x0 M.nodes, slOf x1 M.inits, slOf x2 M.nexts, slOf x3 M.bads, slOf x4 M.holds] 32 3 _ rfl
 have b4 := box_cell u4.val #[slOf x0 M.nodes, slOf x1 M.inits, slOf x2 M.nexts, slOf x3 M.bads, slOf x4 M.holds] 32 4 _ rfl
 have HGS := Lib.hid (show u4.val.heap.size < (u4.val.alloc (Obj.cells #[slOf x0 M.nodes, slOf x1 M.inits, slOf x2 M.nexts, slOf x3 M.bads, slOf x4 M.holds] 32)).heap.size from by show _ < (Array.push _ _).size; rw [Array.size_push]; exact Nat.lt_succ_self _)
 generalize u4.val.alloc (Obj.cells #[slOf x0 M.nodes, slOf x1 M.inits, slOf x2 M.nexts, slOf x3 M.bads, slOf x4 M.holds] 32) = w2 at *
 generalize u4.val.heap.size = G at *
 have b0 : ∀ u : Later w2, u.val.cell? ⟨G, 0, none⟩ = some (slOf x0 M.nodes) := b0
 have b1 : ∀ u : Later w2, u.val.cell? ⟨G, 1, none⟩ = some (slOf x1 M.inits) := b1
 have b2 : ∀ u : Later w2, u.val.cell? ⟨G, 2, none⟩ = some (slOf x2 M.nexts) := b2
 have b3 : ∀ u : Later w2, u.val.cell? ⟨G, 3, none⟩ = some (slOf x3 M.bads) := b3
 have b4 : ∀ u : Later w2, u.val.cell? ⟨G, 4, none⟩ = some (slOf x4 M.holds) := b4
 have n0 := Later.re m0 HB2.out
 have n1 := Later.re m1 HB2.out
 have n2 := Later.re m2 HB2.out
 have n3 := Later.re m3 HB2.out
 have n4 := Later.re m4 HB2.out
 have HM3 := Lib.hid (HM1.out.below HB2.out.below)
 refine at_world (w := w2) ?_
 intro v0
 go_upto_region 8 with (go_at_call 7; refine (ModelKept'_calls _ M _ (HC3.out.later v0) HLEN.out.1 HNM.out HW1.out HW2.out).mono ?_; rintro e w3 ⟨v6, rfl, hb, hr, hbl⟩; have HV6 := Lib.hid (show ∀ b, v6.ownBlock = some b → w2.heap.size ≤ b from fun b hb' => Nat.le_trans v0.size (hbl b hb')); have HB3 := Lib.hid (laterC_step (w1 := w2) ⟨v0, rfl⟩ hb); have HR6 := Lib.hid hr; clear hb hr hbl)
 have n0 := Later.re n0 HB3.out
 have n1 := Later.re n1 HB3.out
 have n2 := Later.re n2 HB3.out
 have n3 := Later.re n3 HB3.out
 have n4 := Later.re n4 HB3.out
 have b0 := Later.re b0 HB3.out
 have b1 := Later.re b1 HB3.out
 have b2 := Later.re b2 HB3.out
 have b3 := Later.re b3 HB3.out
 have b4 := Later.re b4 HB3.out
 have HR7 := Lib.hid (HR5.out.below HB3.out.below)
 have HF6 := Lib.hid (show _ ∧ _ ∧ _ ∧ _ ∧ _ from ⟨HF5.out.1.below HB3.out.below, HF5.out.2.1.below HB3.out.below, HF5.out.2.2.1.below HB3.out.below, HF5.out.2.2.2.1.below HB3.out.below, HF5.out.2.2.2.2.below HB3.out.below⟩)
 have HM4 := Lib.hid (HM3.out.below HB3.out.below)
 have HC4 := Lib.hid (HC3.out.below HB3.out.below)
 have HL3 := Lib.hid (HB2.out.trans HB3.out)
 clear HR5 HF5 HM3 HC3
 refine at_world (w := w3) ?_
 intro v1
 go_upto_region 10 with (go_at_call 8; refine (Calls.later (u := v1) (eqIntN_calls _ _ _ _ (HR6.out.below v1.prop).slN (HR7.out.below v1.prop).slN)).mono ?_; rintro e w' ⟨rfl, v2, rfl⟩)
 have HQL := Lib.hid (show ∀ w', LaterC w3 w' → w'.cell? ⟨w.heap.size, 0, none⟩ = some s0 ∧ w'.cell? ⟨w.heap.size, 1, none⟩ = some s1 ∧ w'.cell? ⟨w.heap.size, 2, none⟩ = some s2 ∧ w'.cell? ⟨w.heap.size, 3, none⟩ = some s3 ∧ w'.cell? ⟨w.heap.size, 4, none⟩ = some s4 ∧ w'.cell? ⟨G, 0, none⟩ = some (slOf x0 M.nodes) ∧ w'.cell? ⟨G, 1, none⟩ = some (slOf x1 M.inits) ∧ w'.cell? ⟨G, 2, none⟩ = some (slOf x2 M.nexts) ∧ w'.cell? ⟨G, 3, none⟩ = some (slOf x3 M.bads) ∧ w'.cell? ⟨G, 4, none⟩ = some (slOf x4 M.holds) from fun W h => by
  obtain ⟨v, rfl⟩ := h
  exact ⟨n0 v, n1 v, n2 v, n3 v, n4 v, b0 v, b1 v, b2 v, b3 v, b4 v⟩)
 go_region_held3 (fun w' => w'.cell? ⟨w.heap.size, 0, none⟩ = some s0 ∧ w'.cell? ⟨w.heap.size, 1, none⟩ = some s1 ∧ w'.cell? ⟨w.heap.size, 2, none⟩ = some s2 ∧ w'.cell? ⟨w.heap.size, 3, none⟩ = some s3 ∧ w'.cell? ⟨w.heap.size, 4, none⟩ = some s4 ∧ w'.cell? ⟨G, 0, none⟩ = some (slOf x0 M.nodes) ∧ w'.cell? ⟨G, 1, none⟩ = some (slOf x1 M.inits) ∧ w'.cell? ⟨G, 2, none⟩ = some (slOf x2 M.nexts) ∧ w'.cell? ⟨G, 3, none⟩ = some (slOf x3 M.bads) ∧ w'.cell? ⟨G, 4, none⟩ = some (slOf x4 M.holds)) ((refine HQL.out _ ?_; repeat (first | exact ⟨_, rfl⟩ | refine LaterC.drew' ?_ | refine LaterC.alloc' ?_ _))) (first | (go_at_call 6; refine (toModel_at _ M _ (HM4.out.below (LaterC.below (by repeat (first | exact ⟨_, rfl⟩ | refine LaterC.drew' ?_ | refine LaterC.alloc' ?_ _)))) HLEN.out.1 HLEN.out.2.1 HLEN.out.2.2.1 HLEN.out.2.2.2.1 HLEN.out.2.2.2.2).mono ?_; rintro e w' ⟨y0, y1, y2, y3, y4, rfl, hb, hc⟩; obtain ⟨v3, hv3⟩ := laterC_step (w1 := w3) (by repeat (first | exact ⟨_, rfl⟩ | refine LaterC.drew' ?_ | refine LaterC.alloc' ?_ _)) hb; subst hv3; have HC5 := Lib.hid hc; clear hb hc) | (go_at_call 9; refine (eqModel_calls _ _ M _ (HC4.out.below (LaterC.below (by repeat (first | exact ⟨_, rfl⟩ | refine LaterC.drew' ?_ | refine LaterC.alloc' ?_ _)))) (HC5.out.below (by first | exact Below.refl _ _ | exact (Below.refl _ _).drew))).mono ?_; rintro e w' ⟨rfl, hb⟩; obtain ⟨v4', hv4⟩ := laterC_step (w1 := w3) (by repeat (first | exact ⟨_, rfl⟩ | refine LaterC.drew' ?_ | refine LaterC.alloc' ?_ _)) hb; subst hv4; clear hb))
 go_upto_region 14 with (go_at_call 10; refine (markModel_calls M _ x0 x1 x2 x3 x4 HLEN.out HX.out (HF6.out.1.below v4'.prop) (HF6.out.2.1.below v4'.prop) (HF6.out.2.2.1.below v4'.prop) (HF6.out.2.2.2.1.below v4'.prop) (HF6.out.2.2.2.2.below v4'.prop)).mono ?_; rintro e w4 ⟨r2, rfl, hr2, hbut⟩; have HR2 := Lib.hid hr2; have HBUT := Lib.hid hbut; clear hr2 hbut)
 have HR6d := Lib.hid ((HR6.out.below v4'.prop).but HBUT.out (fun b hb h => by have h1 := HV6.out b hb; have h2 := HX4.out; have h3 := HGS.out; have h4 := h.2; omega))
 have HR7d := Lib.hid ((HR7.out.below v4'.prop).but HBUT.out (fun b hb h => by have h1 := HV4.out b hb; have h4 := h.1; omega))
 have HL4 := Lib.hid (show LaterC w1 w4 from .of ((HL3.out.trans ⟨v4', rfl⟩).below.trans (HBUT.out.below (fun k hk => Nat.le_trans HG.out hk.1) (HL3.out.trans ⟨v4', rfl⟩).size)))
 have hr2 := HR2.out
 clear n0 n1 n2 n3 n4 b0 b1 b2 b3 b4 HR6 HR7 HBUT HF6
 refine at_world (w := w4) ?_
 intro a0
 go_upto_region 17 with (go_at_call 8; refine (Calls.later (u := a0) (eqIntN_calls _ _ _ _ (HR6d.out.below a0.prop).slN (HR7d.out.below a0.prop).slN)).mono ?_; rintro e w' ⟨rfl, a1, rfl⟩)
 have HLL := Lib.hid (show (keptR M).length ≤ 1048576 from Nat.le_trans (keptR_le _) HLEN.out.1)
 generalize hLL : (keptR M) = LL at *
 go_upto_region 18 with (go_at_call 11; refine (markIntS_calls _ LL 1 _ (HR6d.out.below a1.prop) (by omega) (by have := HLL.out; omega)).mono ?_; rintro e w5 ⟨rfl, hbut, hr⟩; have HR8 := Lib.hid hr; have HBUT := Lib.hid hbut; clear hbut hr)
 have HR9 := Lib.hid ((HR7d.out.below a1.prop).but HBUT.out (fun b hb h => by have h1 := HV4.out b hb; have h2 := HV6.out b h; have h3 := HX4.out; have h4 := HGS.out; have h5 := HX.out; omega))
 have HL5 := Lib.hid (show LaterC w1 w5 from .of ((HL4.out.trans ⟨a1, rfl⟩).below.trans (HBUT.out.below (fun k hk => Nat.le_trans HB2.out.size (HV6.out k hk)) (HL4.out.trans ⟨a1, rfl⟩).size)))
 have k0 := Later.re m0 HL5.out
 have k1 := Later.re m1 HL5.out
 have k2 := Later.re m2 HL5.out
 have k3 := Later.re m3 HL5.out
 have k4 := Later.re m4 HL5.out
 have HM6 := Lib.hid (HM1.out.below HL5.out.below)
 have hq0 : (0 : Int) ≤ 1 + (LL.length : Int) := by omega
 generalize hq : (1 : Int) + (LL.length : Int) = q at *
 have HQ := Lib.hid hq
 clear hq HR6d HR7d HBUT m0 m1 m2 m3 m4
 refine at_world (w := w5) ?_
 intro d0
 go_upto_region 24 with (go_at_call 12; refine (Calls.later_eq (u := d0) (heldIntS_calls _ 1 LL.length _ (HR8.out.below d0.prop).slN (by omega) (by have := HLL.out; omega)) (congrArg (Value.int .i64) HQ.out)).mono ?_; rintro e w' ⟨rfl, d1, rfl⟩)
 go_upto_region 25 with (first | (go_at_call 7; refine (ModelKept'_calls _ M _ HC7.out HLEN.out.1 HNM.out HW1.out HW2.out).mono ?_; rw [hLL]; rintro e w6 ⟨v10, rfl, hb, hr, hbl⟩; have HB6 := Lib.hid (laterC_step (w1 := w5) ⟨d2, rfl⟩ hb); have HR10 := Lib.hid hr; clear hb hr hbl) | (go_at_call 6; refine (toModel_at _ M _ (HM6.out.later d1) HLEN.out.1 HLEN.out.2.1 HLEN.out.2.2.1 HLEN.out.2.2.2.1 HLEN.out.2.2.2.2).mono ?_; rintro e w' ⟨z0, z1, z2, z3, z4, rfl, hb, hc⟩; obtain ⟨d2, hd2⟩ := d1.step hb; subst hd2; have HC7 := Lib.hid hc; clear hb hc))
 have HR11 := Lib.hid (HR8.out.below HB6.out.below)
 have HR12 := Lib.hid (HR9.out.below HB6.out.below)
 refine at_world (w := w6) ?_
 intro c0
 go_upto_region 28 with (go_at_call 8; refine (Calls.later (u := c0) (eqIntN_calls _ _ _ _ (HR10.out.below c0.prop).slN (HR12.out.below c0.prop).slN)).mono ?_; rintro e w' ⟨rfl, c1, rfl⟩)
 go_wp2_with (go_at_call 12; refine (Calls.later_eq (u := c1) (heldIntS_calls _ 1 LL.length _ (HR11.out.below c1.prop).slN (by omega) (by have := HLL.out; omega)) (congrArg (Value.int .i64) HQ.out)).mono ?_; rintro e w' ⟨rfl, c2, rfl⟩)
 go_ret
 exact ⟨rfl, c2.back (below_of HB.out (HL5.out.trans HB6.out))⟩
end Go.Proofs.YthejgnabgglmhaaGreat
