import Derived.Test.YtdojaijnejcoiaaGreatmc10
import Derived.Test.YtdojaijnejcoiaaGreatmc6
import Derived.Test.YtdojaijnejcoiaaGreatmc7
import Derived.Test.YtdojaijnejcoiaaGreatmc9
set_option linter.unusedVariables false
set_option linter.unusedSimpArgs false
set_option maxRecDepth 8000
set_option maxHeartbeats 16000000
namespace Go.Proofs.YtdojaijnejcoiaaGreat
open Go.RowKit
def mapK {α : Type} (f : α → α) (xs : List α) (k : Nat) : List α := (xs.take k).map f ++ xs.drop k
theorem mapK_zero {α : Type} (f : α → α) (xs : List α) : mapK f xs 0 = xs := by simp [mapK]
theorem mapK_len {α : Type} (f : α → α) (xs : List α) (k : Nat) : (mapK f xs k).length = xs.length := by simp [mapK]; omega
theorem mapK_all {α : Type} (f : α → α) (xs : List α) : mapK f xs xs.length = xs.map f := by simp [mapK]
theorem mapK_at {α : Type} (f : α → α) {xs : List α} {k : Nat} (h : k < xs.length) (z : α) : (mapK f xs k)[k]? = some (xs.getD k z) := by
 unfold mapK
 rw [List.getElem?_append_right (by simp; omega)]
 have : k - ((xs.take k).map f).length = 0 := by simp; omega
 rw [this, List.getElem?_drop, Nat.add_zero]
 exact getD_at h z
theorem mapK_set {α : Type} (f : α → α) {xs : List α} {k : Nat} (h : k < xs.length) (z : α) : (mapK f xs k).set k (f (xs.getD k z)) = mapK f xs (k + 1) := by
 apply List.ext_getElem?
 intro j
 rw [List.getElem?_set]
 have hl1 := mapK_len f xs k
 split
 · rename_i e
   subst e
   rw [if_pos (by omega)]
   unfold mapK
   rw [List.getElem?_append_left (by simp; omega), List.getElem?_map, List.getElem?_take_of_lt (by omega), getD_at h z]
   rfl
 · rename_i e
   unfold mapK
   rcases Nat.lt_or_ge j k with g | g
   · rw [List.getElem?_append_left (by simp; omega), List.getElem?_append_left (by simp; omega), List.getElem?_map, List.getElem?_map, List.getElem?_take_of_lt g, List.getElem?_take_of_lt (by omega)]
   · rw [List.getElem?_append_right (by simp; omega), List.getElem?_append_right (by simp; omega), List.getElem?_drop, List.getElem?_drop]
     congr 1
     simp
     omega
theorem flatE_set {α : Type} {K : Rk α} (hk : K.Ok) : ∀ (xs : List α) (k : Nat) (y : α) (q : Nat), k < xs.length → (flatE K.E (xs.set k y))[q]? = if k * K.E.sz ≤ q ∧ q < k * K.E.sz + K.E.sz then (K.E.cells y)[q - k * K.E.sz]? else (flatE K.E xs)[q]?
 | x :: l, 0, y, q, _ => by
   rw [List.set_cons_zero, flatE, flatE, Nat.zero_mul, Nat.zero_add]
   rcases Nat.lt_or_ge q K.E.sz with g | g
   · rw [if_pos ⟨Nat.zero_le _, g⟩, List.getElem?_append_left (by rw [hk.len]; exact g), Nat.sub_zero]
   · rw [if_neg (by omega), List.getElem?_append_right (by rw [hk.len]; exact g), List.getElem?_append_right (by rw [hk.len]; exact g), hk.len, hk.len]
 | x :: l, k + 1, y, q, h => by
   have ih := flatE_set hk l k y (q - K.E.sz) (by simpa using h)
   have hm : (k + 1) * K.E.sz = k * K.E.sz + K.E.sz := by rw [Nat.add_mul, Nat.one_mul]
   rw [List.set_cons_succ, flatE, flatE]
   rcases Nat.lt_or_ge q K.E.sz with g | g
   · rw [List.getElem?_append_left (by rw [hk.len]; exact g), List.getElem?_append_left (by rw [hk.len]; exact g), if_neg (by omega)]
   · rw [List.getElem?_append_right (by rw [hk.len]; exact g), List.getElem?_append_right (by rw [hk.len]; exact g), hk.len, ih]
     by_cases c : (k + 1) * K.E.sz ≤ q ∧ q < (k + 1) * K.E.sz + K.E.sz
     · rw [if_pos c, if_pos (by omega)]
       congr 1
       omega
     · rw [if_neg c, if_neg (by omega)]
theorem Acc.atI {lo : Nat} {w : World} {A : Option Addr} {n c : Nat} {xs : List Int} (h : Acc kI lo w (.slice A n c) xs) {k : Nat} (hk : k < xs.length) :
 ∃ G, A = some ⟨G, 0, none⟩ ∧ w.cell? ⟨G, k, none⟩ = some (.int .i64 (xs.getD k 0)) ∧ w.frozen? ⟨G, k, none⟩ = false ∧ ∀ y, Acc kI lo (w.setCell ⟨G, k, none⟩ (.int .i64 y)) (.slice A n c) (xs.set k y) := by
 rcases h.2 with ⟨-, h0⟩ | ⟨G, cap, cur, e, h1, h2, h3, h4, h5, h6⟩
 · omega
 cases e
 have hb : OwnB w G 3 cur := h2
 have hsz : cur.size = c * 1 := h5
 have htk : cur.toList.take (xs.length * 1) = flatE enI xs := h6
 have hkc : k < cur.size := by omega
 have hg := flatE_get kI_ok (getD_at hk 0) 0 (by decide)
 refine ⟨G, rfl, ?_, hb.frozen k, fun y => ?_⟩
 · rw [hb.cell]
   have e1 : (flatE enI xs)[k]? = some (.int .i64 (xs.getD k 0)) := by
    have h9 : (flatE enI xs)[k * 1 + 0]? = some (.int .i64 (xs.getD k 0)) := hg
    rw [Nat.mul_one, Nat.add_zero] at h9
    exact h9
   rw [← htk, List.getElem?_take_of_lt (by omega)] at e1
   simpa using e1
 · refine ⟨by rw [flatE_len kI_ok, List.length_set], .inr ⟨G, c, cur.setIfInBounds k (.int .i64 y), by rw [List.length_set], h1, hb.set k _, by rw [List.length_set]; exact h3, h4, by simpa using h5, ?_⟩⟩
   apply List.ext_getElem?
   intro q
   rw [List.length_set]
   have hf := flatE_set kI_ok xs k y q hk
   have hf' : (flatE kI.E (xs.set k y))[q]? = if k * 1 ≤ q ∧ q < k * 1 + 1 then (kI.E.cells y)[q - k * 1]? else (flatE kI.E xs)[q]? := hf
   rw [hf']
   rcases Nat.lt_or_ge q (xs.length * 1) with g | g
   · show ((cur.setIfInBounds k (Value.int .i64 y)).toList.take (xs.length * 1))[q]? = _
     rw [List.getElem?_take_of_lt g, Array.getElem?_toList]
     by_cases c : k = q
     · subst c
       rw [Array.getElem?_setIfInBounds_self_of_lt hkc, if_pos (by omega)]
       simp [kI]
     · rw [Array.getElem?_setIfInBounds_ne c, if_neg (by omega)]
       have : (flatE kI.E xs) = cur.toList.take (xs.length * 1) := htk.symm
       rw [this, List.getElem?_take_of_lt g, Array.getElem?_toList]
   · show ((cur.setIfInBounds k (Value.int .i64 y)).toList.take (xs.length * 1))[q]? = _
     rw [List.getElem?_eq_none (by simp; omega), if_neg (by omega)]
     have h7 := flatE_len kI_ok xs
     have h8 : (flatE kI.E xs).length = xs.length * 1 := h7
     rw [List.getElem?_eq_none (by omega)]
theorem Acc.atB {lo : Nat} {w : World} {A : Option Addr} {n c : Nat} {xs : List Bd} (h : Acc kB lo w (.slice A n c) xs) {k : Nat} (hk : k < xs.length) :
 ∃ G, A = some ⟨G, 0, none⟩ ∧ w.cell? ⟨G, k * 2, none⟩ = some (.int .i64 (xs.getD k Bd.zero).st) ∧ w.cell? ⟨G, k * 2 + 1, none⟩ = some (.int .i64 (xs.getD k Bd.zero).nd) ∧ w.frozen? ⟨G, k * 2, none⟩ = false ∧ w.frozen? ⟨G, k * 2 + 1, none⟩ = false ∧
  ∀ y : Bd, Acc kB lo ((w.setCell ⟨G, k * 2, none⟩ (.int .i64 y.st)).setCell ⟨G, k * 2 + 1, none⟩ (.int .i64 y.nd)) (.slice A n c) (xs.set k y) := by
 rcases h.2 with ⟨-, h0⟩ | ⟨G, cap, cur, e, h1, h2, h3, h4, h5, h6⟩
 · omega
 cases e
 have hb : OwnB w G 57 cur := h2
 have hsz : cur.size = c * 2 := h5
 have htk : cur.toList.take (xs.length * 2) = flatE enBd xs := h6
 have hkc : k * 2 + 2 ≤ cur.size := by omega
 have hcell : ∀ f u, (enBd.cells (xs.getD k Bd.zero))[f]? = some u → w.cell? ⟨G, k * 2 + f, none⟩ = some u := fun f u hu => by
  have hf : f < 2 := (List.getElem?_eq_some_iff.1 hu).1
  have e1 : (flatE enBd xs)[k * 2 + f]? = some u := (flatE_get kB_ok (getD_at hk Bd.zero) f hf).trans hu
  rw [← htk, List.getElem?_take_of_lt (by omega)] at e1
  rw [hb.cell]
  simpa using e1
 refine ⟨G, rfl, hcell 0 _ rfl, hcell 1 _ rfl, hb.frozen _, hb.frozen _, fun y => ?_⟩
 refine ⟨by rw [flatE_len kB_ok, List.length_set], .inr ⟨G, c, put2 cur k y, by rw [List.length_set], h1, (hb.set _ _).set _ _, by rw [List.length_set]; exact h3, h4, by rw [put2_size]; exact h5, ?_⟩⟩
 apply List.ext_getElem?
 intro q
 rw [List.length_set]
 have hf := flatE_set kB_ok xs k y q hk
 have hf' : (flatE kB.E (xs.set k y))[q]? = if k * 2 ≤ q ∧ q < k * 2 + 2 then (kB.E.cells y)[q - k * 2]? else (flatE kB.E xs)[q]? := hf
 rw [hf']
 show ((put2 cur k y).toList.take (xs.length * 2))[q]? = _
 rcases Nat.lt_or_ge q (xs.length * 2) with g | g
 · rw [List.getElem?_take_of_lt g, Array.getElem?_toList]
   by_cases c : k * 2 ≤ q ∧ q < k * 2 + 2
   · rw [if_pos c]
     obtain ⟨u, hu⟩ : ∃ u, (enBd.cells y)[q - k * 2]? = some u := ⟨_, List.getElem?_eq_getElem (show q - k * 2 < 2 by omega)⟩
     have := put2_at cur k y hkc (q - k * 2) u hu
     rw [show k * 2 + (q - k * 2) = q by omega] at this
     rw [this]
     exact hu.symm
   · rw [if_neg c]
     have e1 : (flatE kB.E xs) = cur.toList.take (xs.length * 2) := htk.symm
     rw [e1, List.getElem?_take_of_lt g, Array.getElem?_toList]
     unfold put2
     rw [Array.getElem?_setIfInBounds_ne (by omega), Array.getElem?_setIfInBounds_ne (by omega)]
 · rw [List.getElem?_eq_none (by simp; omega), if_neg (by omega)]
   have h7 := flatE_len kB_ok xs
   have h8 : (flatE kB.E xs).length = xs.length * 2 := h7
   rw [List.getElem?_eq_none (by omega)]
structure MovS (lo hi : Nat) (w : World) (R6 B7 : Nat) (nv r1 r2 r3 r4 : Value) (V : World) (x1 x2 : List Bd) (x3 x4 : List Int) : Prop where
 bl : Below w.heap.size w V
 b7 : OwnB V B7 31 #[nv, r1, r2, r3, r4]
 r6 : OwnB V R6 31 #[.slice none 0 0, .slice none 0 0, .slice none 0 0, .slice none 0 0, .slice none 0 0]
 a1 : Acc kB lo V r1 x1
 a2 : Acc kB lo V r2 x2
 a3 : Acc kI lo V r3 x3
 a4 : Acc kI lo V r4 x4
 h1 : ∀ b, r1.ownBlock = some b → b < hi
 h2 : ∀ b, r2.ownBlock = some b → b < hi
 h3 : ∀ b, r3.ownBlock = some b → b < hi
 h4 : ∀ b, r4.ownBlock = some b → b < hi
 d12 : Sep r1 r2
 d13 : Sep r1 r3
 d14 : Sep r1 r4
 d23 : Sep r2 r3
 d24 : Sep r2 r4
 d34 : Sep r3 r4
 e1 : hi ≤ B7
 e2 : R6 < lo
 e3 : w.heap.size ≤ R6
theorem MovS.below {lo hi : Nat} {w : World} {R6 B7 : Nat} {nv r1 r2 r3 r4 : Value} {V V' : World} {x1 x2 : List Bd} {x3 x4 : List Int} (h : MovS lo hi w R6 B7 nv r1 r2 r3 r4 V x1 x2 x3 x4) (hb : Below V.heap.size V V') : MovS lo hi w R6 B7 nv r1 r2 r3 r4 V' x1 x2 x3 x4 :=
 { h with bl := h.bl.trans (hb.mono h.bl.size), b7 := h.b7.below hb h.b7.lt, r6 := h.r6.below hb h.r6.lt, a1 := h.a1.below hb, a2 := h.a2.below hb, a3 := h.a3.below hb, a4 := h.a4.below hb }
theorem MovS.but1 {lo hi : Nat} {w : World} {R6 B7 : Nat} {nv r1 r2 r3 r4 : Value} {V V' : World} {x1 x2 : List Bd} {x3 x4 : List Int} {y : List Bd} (h : MovS lo hi w R6 B7 nv r1 r2 r3 r4 V x1 x2 x3 x4) (hb : But (fun b => r1.ownBlock = some b) V V') (ha : Acc kB lo V' r1 y) : MovS lo hi w R6 B7 nv r1 r2 r3 r4 V' y x2 x3 x4 := by
 have k1 : ∀ b, r1.ownBlock = some b → w.heap.size ≤ b := fun b e => by have h1 := (h.a1.lt b e).1; have h2 := h.e2; have h3 := h.e3; omega
 exact { h with bl := h.bl.trans (hb.below k1 h.bl.size), b7 := h.b7.but hb fun e => by have h1 := h.h1 _ e; have h2 := h.e1; omega, r6 := h.r6.but hb fun e => by have h1 := (h.a1.lt _ e).1; have h2 := h.e2; omega, a1 := ha, a2 := h.a2.but hb fun b e1 e2 => h.d12 b e2 e1, a3 := h.a3.but hb fun b e1 e2 => h.d13 b e2 e1, a4 := h.a4.but hb fun b e1 e2 => h.d14 b e2 e1 }
theorem MovS.but2 {lo hi : Nat} {w : World} {R6 B7 : Nat} {nv r1 r2 r3 r4 : Value} {V V' : World} {x1 x2 : List Bd} {x3 x4 : List Int} {y : List Bd} (h : MovS lo hi w R6 B7 nv r1 r2 r3 r4 V x1 x2 x3 x4) (hb : But (fun b => r2.ownBlock = some b) V V') (ha : Acc kB lo V' r2 y) : MovS lo hi w R6 B7 nv r1 r2 r3 r4 V' x1 y x3 x4 := by
 have k1 : ∀ b, r2.ownBlock = some b → w.heap.size ≤ b := fun b e => by have h1 := (h.a2.lt b e).1; have h2 := h.e2; have h3 := h.e3; omega
 exact { h with bl := h.bl.trans (hb.below k1 h.bl.size), b7 := h.b7.but hb fun e => by have h1 := h.h2 _ e; have h2 := h.e1; omega, r6 := h.r6.but hb fun e => by have h1 := (h.a2.lt _ e).1; have h2 := h.e2; omega, a1 := h.a1.but hb fun b e1 e2 => h.d12 b e1 e2, a2 := ha, a3 := h.a3.but hb fun b e1 e2 => h.d23 b e2 e1, a4 := h.a4.but hb fun b e1 e2 => h.d24 b e2 e1 }
theorem MovS.but3 {lo hi : Nat} {w : World} {R6 B7 : Nat} {nv r1 r2 r3 r4 : Value} {V V' : World} {x1 x2 : List Bd} {x3 x4 : List Int} {y : List Int} (h : MovS lo hi w R6 B7 nv r1 r2 r3 r4 V x1 x2 x3 x4) (hb : But (fun b => r3.ownBlock = some b) V V') (ha : Acc kI lo V' r3 y) : MovS lo hi w R6 B7 nv r1 r2 r3 r4 V' x1 x2 y x4 := by
 have k1 : ∀ b, r3.ownBlock = some b → w.heap.size ≤ b := fun b e => by have h1 := (h.a3.lt b e).1; have h2 := h.e2; have h3 := h.e3; omega
 exact { h with bl := h.bl.trans (hb.below k1 h.bl.size), b7 := h.b7.but hb fun e => by have h1 := h.h3 _ e; have h2 := h.e1; omega, r6 := h.r6.but hb fun e => by have h1 := (h.a3.lt _ e).1; have h2 := h.e2; omega, a1 := h.a1.but hb fun b e1 e2 => h.d13 b e1 e2, a2 := h.a2.but hb fun b e1 e2 => h.d23 b e1 e2, a3 := ha, a4 := h.a4.but hb fun b e1 e2 => h.d34 b e2 e1 }
theorem MovS.but4 {lo hi : Nat} {w : World} {R6 B7 : Nat} {nv r1 r2 r3 r4 : Value} {V V' : World} {x1 x2 : List Bd} {x3 x4 : List Int} {y : List Int} (h : MovS lo hi w R6 B7 nv r1 r2 r3 r4 V x1 x2 x3 x4) (hb : But (fun b => r4.ownBlock = some b) V V') (ha : Acc kI lo V' r4 y) : MovS lo hi w R6 B7 nv r1 r2 r3 r4 V' x1 x2 x3 y := by
 have k1 : ∀ b, r4.ownBlock = some b → w.heap.size ≤ b := fun b e => by have h1 := (h.a4.lt b e).1; have h2 := h.e2; have h3 := h.e3; omega
 exact { h with bl := h.bl.trans (hb.below k1 h.bl.size), b7 := h.b7.but hb fun e => by have h1 := h.h4 _ e; have h2 := h.e1; omega, r6 := h.r6.but hb fun e => by have h1 := (h.a4.lt _ e).1; have h2 := h.e2; omega, a1 := h.a1.but hb fun b e1 e2 => h.d14 b e1 e2, a2 := h.a2.but hb fun b e1 e2 => h.d24 b e1 e2, a3 := h.a3.but hb fun b e1 e2 => h.d34 b e1 e2, a4 := ha }
theorem moved_calls (mv nv tv : Value) (M : Md) (ns : List Nd) (T : List Int) (w : World) (hM : MdN w mv M) (hN : SlN enNd w nv ns) (hT : SlN enI w tv T) (hl : M.nodes.length ≤ 1048576 ∧ M.inits.length ≤ 1048576 ∧ M.nexts.length ≤ 1048576 ∧ M.bads.length ≤ 1048576 ∧ M.holds.length ≤ 1048576) (hTl : T.length ≤ 1048576)
 (hb : ∀ b, b ∈ M.inits ++ M.nexts → (0 ≤ b.st ∧ b.st < T.length) ∧ (0 ≤ b.nd ∧ b.nd < T.length)) (hi : ∀ x, x ∈ M.bads ++ M.holds → 0 ≤ x ∧ x < T.length) :
 Calls Tryz.prog 28 #[mv, nv, tv] w fun e w' => ∃ v, e = .returned v ∧ Below w.heap.size w w' ∧ MdN w' v ⟨ns, M.inits.map (bindT T), M.nexts.map (bindT T), M.bads.map (fun x => T.getD x.toNat 0), M.holds.map (fun x => T.getD x.toNat 0)⟩ := by
 have HM := Lib.hid hM
 have HN := Lib.hid hN
 have HL := Lib.hid hl
 have HBQ := Lib.hid hb
 have HIQ := Lib.hid hi
 obtain ⟨s0, s1, s2, s3, s4, rfl, -⟩ := hM.at_
 obtain ⟨NA, nc, rfl, -, -, -⟩ := hN
 obtain ⟨B, d, rfl, -, -, hB⟩ := hT
 have HBB := Lib.hid hB
 obtain ⟨nn, hnn⟩ : ∃ nn, ns.length = nn := ⟨_, rfl⟩
 rw [hnn] at HN ⊢
 clear hM hl hb hi hB hnn
 generalize hm : T.length = m at *
 have HMM := Lib.hid hm
 clear hm
 go_enter Tryz.func28, Tryz.ntmps28
 go_upto_region 1 with fail
 generalize hw2 : (w.alloc (Obj.cells #[s0, s1, s2, s3, s4] 31)).alloc (Obj.cells #[.slice none 0 0, .slice none 0 0, .slice none 0 0, .slice none 0 0, .slice none 0 0] 31) = w1
 have m0 : w1.cell? ⟨w.heap.size, 0, none⟩ = some s0 := (by rw [← hw2]; clear hw2; go_simp)
 have m1 : w1.cell? ⟨w.heap.size, 1, none⟩ = some s1 := (by rw [← hw2]; clear hw2; go_simp)
 have m2 : w1.cell? ⟨w.heap.size, 2, none⟩ = some s2 := (by rw [← hw2]; clear hw2; go_simp)
 have m3 : w1.cell? ⟨w.heap.size, 3, none⟩ = some s3 := (by rw [← hw2]; clear hw2; go_simp)
 have m4 : w1.cell? ⟨w.heap.size, 4, none⟩ = some s4 := (by rw [← hw2]; clear hw2; go_simp)
 have HO := Lib.hid (show OwnB w1 (w.heap.size + 1) 31 #[.slice none 0 0, .slice none 0 0, .slice none 0 0, .slice none 0 0, .slice none 0 0] by
  have h := OwnB.new (w.alloc (Obj.cells #[s0, s1, s2, s3, s4] 31)) 31 #[.slice none 0 0, .slice none 0 0, .slice none 0 0, .slice none 0 0, .slice none 0 0]
  rw [hw2] at h
  simpa using h)
 have HB := Lib.hid (show Below w.heap.size w w1 by rw [← hw2]; exact ((Below.refl _ _).alloc (Nat.le_refl _) _).alloc (by simp) _)
 have HSZ := Lib.hid (show w1.heap.size = w.heap.size + 2 by rw [← hw2]; simp)
 clear hw2
 go_wp2_with fail
 refine (clone_calls _ M w1 (HM.out.below HB.out) HL.out).mono ?_
 rintro e w2 ⟨r0, r1, r2, r3, r4, rfl, hb, hown⟩
 have HB2 := Lib.hid hb
 have HOW := Lib.hid hown
 obtain ⟨A0, c0, h0⟩ := hown.a0.shape
 obtain ⟨A1, c1, h1⟩ := hown.a1.shape
 obtain ⟨A2, c2, h2⟩ := hown.a2.shape
 obtain ⟨A3, c3, h3⟩ := hown.a3.shape
 obtain ⟨A4, c4, h4⟩ := hown.a4.shape
 subst h0
 subst h1
 subst h2
 subst h3
 subst h4
 clear hb hown m0 m1 m2 m3 m4
 go_upto_region 3 with fail
 have HS0 := Lib.hid (show MovS w1.heap.size w2.heap.size w (w.heap.size + 1) w2.heap.size (.slice NA nn nc) (.slice A1 M.inits.length c1) (.slice A2 M.nexts.length c2) (.slice A3 M.bads.length c3) (.slice A4 M.holds.length c4) (w2.alloc (Obj.cells #[.slice NA nn nc, .slice A1 M.inits.length c1, .slice A2 M.nexts.length c2, .slice A3 M.bads.length c3, .slice A4 M.holds.length c4] 31)) M.inits M.nexts M.bads M.holds from
  { bl := HB.out.trans ((HB2.out.trans ((box_below _ _ _).mono HB2.out.size)).mono HB.out.size), b7 := OwnB.new w2 31 #[.slice NA nn nc, .slice A1 M.inits.length c1, .slice A2 M.nexts.length c2, .slice A3 M.bads.length c3, .slice A4 M.holds.length c4], r6 := (HO.out.below HB2.out HO.out.lt).below (box_below _ _ _) (Nat.lt_of_lt_of_le HO.out.lt HB2.out.size), a1 := HOW.out.a1.below (box_below _ _ _), a2 := HOW.out.a2.below (box_below _ _ _), a3 := HOW.out.a3.below (box_below _ _ _), a4 := HOW.out.a4.below (box_below _ _ _), h1 := fun b e => (HOW.out.a1.lt b e).2, h2 := fun b e => (HOW.out.a2.lt b e).2, h3 := fun b e => (HOW.out.a3.lt b e).2, h4 := fun b e => (HOW.out.a4.lt b e).2, d12 := HOW.out.d12, d13 := HOW.out.d13, d14 := HOW.out.d14, d23 := HOW.out.d23, d24 := HOW.out.d24, d34 := HOW.out.d34, e1 := Nat.le_refl _, e2 := by have := HSZ.out; omega, e3 := by omega })
 generalize w2.alloc (Obj.cells #[.slice NA nn nc, .slice A1 M.inits.length c1, .slice A2 M.nexts.length c2, .slice A3 M.bads.length c3, .slice A4 M.holds.length c4] 31) = V0 at *
 have HLO := Lib.hid (show w.heap.size ≤ w1.heap.size from HB.out.size)
 have HWR := Lib.hid (show w.heap.size < w1.heap.size by have := HSZ.out; omega)
 clear HOW HB HB2 HSZ HO
 generalize hlo : w1.heap.size = lo at *
 generalize hhi : w2.heap.size = hi at *
 clear hlo hhi
 generalize hR6 : w.heap.size + 1 = R6 at *
 have HR6 := Lib.hid hR6
 clear hR6
 generalize hn1 : M.inits.length = n1 at *
 generalize hn2 : M.nexts.length = n2 at *
 generalize hn3 : M.bads.length = n3 at *
 generalize hn4 : M.holds.length = n4 at *
 have HN1 := Lib.hid hn1
 have HN2 := Lib.hid hn2
 have HN3 := Lib.hid hn3
 have HN4 := Lib.hid hn4
 obtain ⟨-, hl1, hl2, hl3, hl4⟩ := HL.out
 clear hn1 hn2 hn3 hn4
 have b1 : V0.cell? ⟨hi, 1, none⟩ = some (.slice A1 n1 c1) := HS0.out.b7.cell 1
 have b2 : V0.cell? ⟨hi, 2, none⟩ = some (.slice A2 n2 c2) := HS0.out.b7.cell 2
 have b3 : V0.cell? ⟨hi, 3, none⟩ = some (.slice A3 n3 c3) := HS0.out.b7.cell 3
 have b4 : V0.cell? ⟨hi, 4, none⟩ = some (.slice A4 n4 c4) := HS0.out.b7.cell 4
 have HBX0 := Lib.hid (OwnB.new V0 29 #[.slice A1 n1 c1, .slice A2 n2 c2])
 have HS1 := Lib.hid (HS0.out.below (box_below V0 #[.slice A1 n1 c1, .slice A2 n2 c2] 29))
 have HVH := Lib.hid (show hi < V0.heap.size from HS0.out.b7.lt)
 go_wp2
 generalize V0.alloc (Obj.cells #[.slice A1 n1 c1, .slice A2 n2 c2] 29) = Y0 at *
 generalize V0.heap.size = BL1 at *
 clear b1 b2 b3 b4
 refine wp_loop_rounds 3 ?_
 rw [rounds_succ]
 have g0 : Y0.cell? ⟨BL1, 0, none⟩ = some (.slice A1 n1 c1) := HBX0.out.cell 0
 go_wp2
 go_loopw [32] (fun iv wr => ∃ k : Nat, k ≤ n1 ∧ iv = .int .i64 k ∧ Hid (Acc kB lo wr (.slice A1 n1 c1) (mapK (bindT T) M.inits k) ∧ But (fun b => (Value.slice A1 n1 c1).ownBlock = some b) Y0 wr)) (fun iv _ => n1 - (intOf iv).toNat)
 case atStart => exact ⟨0, Nat.zero_le _, rfl, Lib.hid ⟨by rw [mapK_zero]; exact HS1.out.a1, .refl _ _⟩⟩
 case round =>
  obtain ⟨k, hk, rfl, HI⟩ := hrel
  obtain ⟨V1, hV1⟩ : ∃ V, V = wr := ⟨_, rfl⟩
  subst hV1
  by_cases hlt : k < n1
  · have hlt' : (k : Int) < n1 := by omega
    have hkx : k < M.inits.length := by rw [HN1.out]; exact hlt
    have hkl : k < (mapK (bindT T) M.inits k).length := by rw [mapK_len]; exact hkx
    have hge : (mapK (bindT T) M.inits k).getD k Bd.zero = M.inits.getD k Bd.zero := by
     have h1 := mapK_at (bindT T) hkx Bd.zero
     have h2 := getD_at hkl (Bd.zero)
     rw [h1] at h2
     exact (Option.some.inj h2).symm
    have HBW := Lib.hid (show Below w.heap.size w V1 from HS1.out.bl.trans (HI.out.2.below (fun b e => Nat.le_trans HLO.out (HS1.out.a1.lt b e).1) HS1.out.bl.size))
    have hst := mapK_set (bindT T) hkx Bd.zero
    obtain ⟨G, hG, p0, p1, f0, f1, -⟩ := HI.out.1.atB hkl
    rw [hge] at p0 p1
    have hbq := HBQ.out _ (List.mem_append_left _ (List.mem_of_getElem? (getD_at hkx Bd.zero)))
    obtain ⟨y, hy⟩ : ∃ y, M.inits.getD k Bd.zero = y := ⟨_, rfl⟩
    rw [hy] at p0 p1 hbq hst
    obtain ⟨i1, hi1⟩ := Int.eq_ofNat_of_zero_le hbq.1.1
    obtain ⟨i2, hi2⟩ := Int.eq_ofNat_of_zero_le hbq.2.1
    have him : i1 < m := by omega
    have him' : (i1 : Int) < m := by omega
    have hjm : i2 < m := by omega
    have hjm' : (i2 : Int) < m := by omega
    obtain ⟨bb, bo, hbb, hxi⟩ := HBB.out i1 _ (getD_at (show i1 < T.length by rw [HMM.out]; exact him) 0)
    subst hbb
    obtain ⟨bb', bo', hbb, hxj⟩ := HBB.out i2 _ (getD_at (show i2 < T.length by rw [HMM.out]; exact hjm) 0)
    cases hbb
    have HBT := Lib.hid (show bindT T y = ⟨T.getD i1 0, T.getD i2 0⟩ by unfold bindT; rw [hi1, hi2, Int.toNat_natCast, Int.toNat_natCast])
    obtain ⟨ta, hta⟩ : ∃ t, T.getD i1 0 = t := ⟨_, rfl⟩
    obtain ⟨tb, htb⟩ : ∃ t, T.getD i2 0 = t := ⟨_, rfl⟩
    rw [hta] at hxi HBT
    rw [htb] at hxj HBT
    rw [HBT.out] at hst
    rw [hi1] at p0
    rw [hi2] at p1
    have HST := Lib.hid hst
    have hb9 := box_below V1 #[.int .i64 (i1 : Int), .int .i64 (i2 : Int)] 57
    have HB9 := Lib.hid hb9
    have HXI := Lib.hid (hxi.below (HBW.out.trans (hb9.mono HBW.out.size)))
    have HXJ := Lib.hid (hxj.below (HBW.out.trans (hb9.mono HBW.out.size)))
    have HA9 := Lib.hid (HI.out.1.below hb9)
    have HQ9 := Lib.hid (OwnB.new V1 57 #[.int .i64 (i1 : Int), .int .i64 (i2 : Int)])
    have HKL := Lib.hid hkl
    clear hxi hxj hge hbq hy hi1 hi2 hta htb hst hb9 hkx hkl f0 f1
    subst hG
    go_upto_region 9 with fail
    generalize V1.alloc (Obj.cells #[.int .i64 (i1 : Int), .int .i64 (i2 : Int)] 57) = w9 at *
    have q0 : ∀ l : Later w9, l.val.cell? ⟨V1.heap.size, 0, none⟩ = some (.int .i64 (i1 : Int)) := Later.cell (HQ9.out.cell 0)
    have q1 : ∀ l : Later w9, l.val.cell? ⟨V1.heap.size, 1, none⟩ = some (.int .i64 (i2 : Int)) := Later.cell (HQ9.out.cell 1)
    have t0 : ∀ l : Later w9, l.val.cell? ⟨bb, bo + i1, none⟩ = some (.int .i64 ta) := HXI.out.int (Below.refl _ _)
    have t1 : ∀ l : Later w9, l.val.cell? ⟨bb, bo + i2, none⟩ = some (.int .i64 tb) := HXJ.out.int (Below.refl _ _)
    clear p0 p1
    refine at_world (w := w9) ?_
    intro u0
    refine wp_region_later_tail (w0 := w9) 13 (by kernel_rfl) (by kernel_rfl) ⟨u0, rfl⟩ ?_
    simp only [List.take_succ_cons, List.take_zero, List.drop_succ_cons, List.drop_zero]
    repeat (go_big_quiet_step (fail))
    refine wpQuiet_nil ?_
    rintro _ ⟨u1, rfl⟩
    obtain ⟨G', hG', p0, p1, f0, f1, hset⟩ := (HA9.out.below u1.prop).atB HKL.out
    cases hG'
    have HI2 := Lib.hid (show Acc kB lo ((u1.val.setCell ⟨G, k * 2, none⟩ (.int .i64 ta)).setCell ⟨G, k * 2 + 1, none⟩ (.int .i64 tb)) (.slice (some ⟨G, 0, none⟩) n1 c1) (mapK (bindT T) M.inits (k + 1)) ∧ But (fun b => (Value.slice (some ⟨G, 0, none⟩) n1 c1).ownBlock = some b) Y0 ((u1.val.setCell ⟨G, k * 2, none⟩ (.int .i64 ta)).setCell ⟨G, k * 2 + 1, none⟩ (.int .i64 tb)) from
     ⟨by rw [← HST.out]; exact hset ⟨ta, tb⟩, ((HI.out.2.trans (.of_below (HB9.out.trans (u1.prop.mono HB9.out.size)))).setCell (p := ⟨G, k * 2, none⟩) rfl _).setCell (p := ⟨G, k * 2 + 1, none⟩) rfl _⟩)
    clear hset
    go_wp2
    go_roundw
    case rel => exact ⟨k + 1, by omega, by go_num, HI2⟩
    case measure => simp [intOf] <;> omega
  · obtain rfl : n1 = k := by omega
    have HT1 := Lib.hid (HS1.out.but1 HI.out.2 (show Acc kB lo V1 (.slice A1 n1 c1) (M.inits.map (bindT T)) by have h := HI.out.1; rw [← HN1.out, mapK_all] at h; rw [← HN1.out]; exact h))
    have HBX1 := Lib.hid (HBX0.out.but HI.out.2 (fun e => by have h1 := HS1.out.h1 _ e; have h2 := HVH.out; omega))
    clear HI
    go_wp2
    rw [rounds_succ]
    have g1 : V1.cell? ⟨BL1, 1, none⟩ = some (.slice A2 n2 c2) := HBX1.out.cell 1
    go_wp2
    go_loopw [32] (fun iv wr => ∃ k : Nat, k ≤ n2 ∧ iv = .int .i64 k ∧ Hid (Acc kB lo wr (.slice A2 n2 c2) (mapK (bindT T) M.nexts k) ∧ But (fun b => (Value.slice A2 n2 c2).ownBlock = some b) V1 wr)) (fun iv _ => n2 - (intOf iv).toNat)
    case atStart => exact ⟨0, Nat.zero_le _, rfl, Lib.hid ⟨by rw [mapK_zero]; exact HT1.out.a2, .refl _ _⟩⟩
    case round =>
     obtain ⟨k, hk, rfl, HI⟩ := hrel
     obtain ⟨V2, hV2⟩ : ∃ V, V = wr := ⟨_, rfl⟩
     subst hV2
     by_cases hlt : k < n2
     · have hlt' : (k : Int) < n2 := by omega
       have hkx : k < M.nexts.length := by rw [HN2.out]; exact hlt
       have hkl : k < (mapK (bindT T) M.nexts k).length := by rw [mapK_len]; exact hkx
       have hge : (mapK (bindT T) M.nexts k).getD k Bd.zero = M.nexts.getD k Bd.zero := by
        have h1 := mapK_at (bindT T) hkx Bd.zero
        have h2 := getD_at hkl (Bd.zero)
        rw [h1] at h2
        exact (Option.some.inj h2).symm
       have HBW := Lib.hid (show Below w.heap.size w V2 from HT1.out.bl.trans (HI.out.2.below (fun b e => Nat.le_trans HLO.out (HT1.out.a2.lt b e).1) HT1.out.bl.size))
       have hst := mapK_set (bindT T) hkx Bd.zero
       obtain ⟨G, hG, p0, p1, f0, f1, -⟩ := HI.out.1.atB hkl
       rw [hge] at p0 p1
       have hbq := HBQ.out _ (List.mem_append_right _ (List.mem_of_getElem? (getD_at hkx Bd.zero)))
       obtain ⟨y, hy⟩ : ∃ y, M.nexts.getD k Bd.zero = y := ⟨_, rfl⟩
       rw [hy] at p0 p1 hbq hst
       obtain ⟨i1, hi1⟩ := Int.eq_ofNat_of_zero_le hbq.1.1
       obtain ⟨i2, hi2⟩ := Int.eq_ofNat_of_zero_le hbq.2.1
       have him : i1 < m := by omega
       have him' : (i1 : Int) < m := by omega
       have hjm : i2 < m := by omega
       have hjm' : (i2 : Int) < m := by omega
       obtain ⟨bb, bo, hbb, hxi⟩ := HBB.out i1 _ (getD_at (show i1 < T.length by rw [HMM.out]; exact him) 0)
       subst hbb
       obtain ⟨bb', bo', hbb, hxj⟩ := HBB.out i2 _ (getD_at (show i2 < T.length by rw [HMM.out]; exact hjm) 0)
       cases hbb
       have HBT := Lib.hid (show bindT T y = ⟨T.getD i1 0, T.getD i2 0⟩ by unfold bindT; rw [hi1, hi2, Int.toNat_natCast, Int.toNat_natCast])
       obtain ⟨ta, hta⟩ : ∃ t, T.getD i1 0 = t := ⟨_, rfl⟩
       obtain ⟨tb, htb⟩ : ∃ t, T.getD i2 0 = t := ⟨_, rfl⟩
       rw [hta] at hxi HBT
       rw [htb] at hxj HBT
       rw [HBT.out] at hst
       rw [hi1] at p0
       rw [hi2] at p1
       have HST := Lib.hid hst
       have hb9 := box_below V2 #[.int .i64 (i1 : Int), .int .i64 (i2 : Int)] 57
       have HB9 := Lib.hid hb9
       have HXI := Lib.hid (hxi.below (HBW.out.trans (hb9.mono HBW.out.size)))
       have HXJ := Lib.hid (hxj.below (HBW.out.trans (hb9.mono HBW.out.size)))
       have HA9 := Lib.hid (HI.out.1.below hb9)
       have HQ9 := Lib.hid (OwnB.new V2 57 #[.int .i64 (i1 : Int), .int .i64 (i2 : Int)])
       have HKL := Lib.hid hkl
       clear hxi hxj hge hbq hy hi1 hi2 hta htb hst hb9 hkx hkl f0 f1
       subst hG
       go_upto_region 9 with fail
       generalize V2.alloc (Obj.cells #[.int .i64 (i1 : Int), .int .i64 (i2 : Int)] 57) = w9 at *
       have q0 : ∀ l : Later w9, l.val.cell? ⟨V2.heap.size, 0, none⟩ = some (.int .i64 (i1 : Int)) := Later.cell (HQ9.out.cell 0)
       have q1 : ∀ l : Later w9, l.val.cell? ⟨V2.heap.size, 1, none⟩ = some (.int .i64 (i2 : Int)) := Later.cell (HQ9.out.cell 1)
       have t0 : ∀ l : Later w9, l.val.cell? ⟨bb, bo + i1, none⟩ = some (.int .i64 ta) := HXI.out.int (Below.refl _ _)
       have t1 : ∀ l : Later w9, l.val.cell? ⟨bb, bo + i2, none⟩ = some (.int .i64 tb) := HXJ.out.int (Below.refl _ _)
       clear p0 p1
       refine at_world (w := w9) ?_
       intro u0
       refine wp_region_later_tail (w0 := w9) 13 (by kernel_rfl) (by kernel_rfl) ⟨u0, rfl⟩ ?_
       simp only [List.take_succ_cons, List.take_zero, List.drop_succ_cons, List.drop_zero]
       repeat (go_big_quiet_step (fail))
       refine wpQuiet_nil ?_
       rintro _ ⟨u1, rfl⟩
       obtain ⟨G', hG', p0, p1, f0, f1, hset⟩ := (HA9.out.below u1.prop).atB HKL.out
       cases hG'
       have HI2 := Lib.hid (show Acc kB lo ((u1.val.setCell ⟨G, k * 2, none⟩ (.int .i64 ta)).setCell ⟨G, k * 2 + 1, none⟩ (.int .i64 tb)) (.slice (some ⟨G, 0, none⟩) n2 c2) (mapK (bindT T) M.nexts (k + 1)) ∧ But (fun b => (Value.slice (some ⟨G, 0, none⟩) n2 c2).ownBlock = some b) V1 ((u1.val.setCell ⟨G, k * 2, none⟩ (.int .i64 ta)).setCell ⟨G, k * 2 + 1, none⟩ (.int .i64 tb)) from
        ⟨by rw [← HST.out]; exact hset ⟨ta, tb⟩, ((HI.out.2.trans (.of_below (HB9.out.trans (u1.prop.mono HB9.out.size)))).setCell (p := ⟨G, k * 2, none⟩) rfl _).setCell (p := ⟨G, k * 2 + 1, none⟩) rfl _⟩)
       clear hset
       go_wp2
       go_roundw
       case rel => exact ⟨k + 1, by omega, by go_num, HI2⟩
       case measure => simp [intOf] <;> omega
     · obtain rfl : n2 = k := by omega
       have HT2 := Lib.hid (HT1.out.but2 HI.out.2 (show Acc kB lo V2 (.slice A2 n2 c2) (M.nexts.map (bindT T)) by have h := HI.out.1; rw [← HN2.out, mapK_all] at h; rw [← HN2.out]; exact h))
       have HBX2 := Lib.hid (HBX1.out.but HI.out.2 (fun e => by have h1 := HT1.out.h2 _ e; have h2 := HVH.out; omega))
       clear HI
       have b1 : V2.cell? ⟨hi, 1, none⟩ = some (.slice A1 n1 c1) := HT2.out.b7.cell 1
       have b2 : V2.cell? ⟨hi, 2, none⟩ = some (.slice A2 n2 c2) := HT2.out.b7.cell 2
       have b3 : V2.cell? ⟨hi, 3, none⟩ = some (.slice A3 n3 c3) := HT2.out.b7.cell 3
       have b4 : V2.cell? ⟨hi, 4, none⟩ = some (.slice A4 n4 c4) := HT2.out.b7.cell 4
       go_wp2
       rw [rounds_succ]
       have HBXb := Lib.hid (OwnB.new V2 24 #[.slice A3 n3 c3, .slice A4 n4 c4])
       have HS2 := Lib.hid (HT2.out.below (box_below V2 #[.slice A3 n3 c3, .slice A4 n4 c4] 24))
       have HVH := Lib.hid (show hi < V2.heap.size from HT2.out.b7.lt)
       go_wp2
       generalize V2.alloc (Obj.cells #[.slice A3 n3 c3, .slice A4 n4 c4] 24) = Y2 at *
       generalize V2.heap.size = BL3 at *
       clear b1 b2 b3 b4
       refine wp_loop_rounds 3 ?_
       rw [rounds_succ]
       have g0 : Y2.cell? ⟨BL3, 0, none⟩ = some (.slice A3 n3 c3) := HBXb.out.cell 0
       go_wp2
       go_loopw [65] (fun iv wr => ∃ k : Nat, k ≤ n3 ∧ iv = .int .i64 k ∧ Hid (Acc kI lo wr (.slice A3 n3 c3) (mapK (fun x => T.getD x.toNat 0) M.bads k) ∧ But (fun b => (Value.slice A3 n3 c3).ownBlock = some b) Y2 wr)) (fun iv _ => n3 - (intOf iv).toNat)
       case atStart => exact ⟨0, Nat.zero_le _, rfl, Lib.hid ⟨by rw [mapK_zero]; exact HS2.out.a3, .refl _ _⟩⟩
       case round =>
        obtain ⟨k, hk, rfl, HI⟩ := hrel
        obtain ⟨V3, hV3⟩ : ∃ V, V = wr := ⟨_, rfl⟩
        subst hV3
        by_cases hlt : k < n3
        · have hlt' : (k : Int) < n3 := by omega
          have hkx : k < M.bads.length := by rw [HN3.out]; exact hlt
          have hkl : k < (mapK (fun x => T.getD x.toNat 0) M.bads k).length := by rw [mapK_len]; exact hkx
          have hge : (mapK (fun x => T.getD x.toNat 0) M.bads k).getD k 0 = M.bads.getD k 0 := by
           have h1 := mapK_at (fun x => T.getD x.toNat 0) hkx 0
           have h2 := getD_at hkl (0)
           rw [h1] at h2
           exact (Option.some.inj h2).symm
          have HBW := Lib.hid (show Below w.heap.size w V3 from HS2.out.bl.trans (HI.out.2.below (fun b e => Nat.le_trans HLO.out (HS2.out.a3.lt b e).1) HS2.out.bl.size))
          have hst := mapK_set (fun x => T.getD x.toNat 0) hkx 0
          obtain ⟨G, hG, p0, f0, hset⟩ := HI.out.1.atI hkl
          rw [hge] at p0
          have hbq := HIQ.out _ (List.mem_append_left _ (List.mem_of_getElem? (getD_at hkx 0)))
          obtain ⟨y, hy⟩ : ∃ y, M.bads.getD k 0 = y := ⟨_, rfl⟩
          rw [hy] at p0 hbq hst
          obtain ⟨i1, hi1⟩ := Int.eq_ofNat_of_zero_le hbq.1
          have him : i1 < m := by omega
          have him' : (i1 : Int) < m := by omega
          obtain ⟨bb, bo, hbb, hxi⟩ := HBB.out i1 _ (getD_at (show i1 < T.length by rw [HMM.out]; exact him) 0)
          subst hbb
          obtain ⟨ta, hta⟩ : ∃ t, T.getD i1 0 = t := ⟨_, rfl⟩
          rw [hta] at hxi
          have hst2 : (mapK (fun x => T.getD x.toNat 0) M.bads k).set k ta = mapK (fun x => T.getD x.toNat 0) M.bads (k + 1) := by
           rw [← hst, ← hta, hi1, Int.toNat_natCast]
          rw [hi1] at p0
          have HST := Lib.hid hst2
          have t0 : V3.cell? ⟨bb, bo + i1, none⟩ = some (.int .i64 ta) := by
           have h := (hxi.below HBW.out) 0 _ rfl
           simpa using h
          subst hG
          have HI2 := Lib.hid (show Acc kI lo (V3.setCell ⟨G, k, none⟩ (.int .i64 ta)) (.slice (some ⟨G, 0, none⟩) n3 c3) (mapK (fun x => T.getD x.toNat 0) M.bads (k + 1)) ∧ But (fun b => (Value.slice (some ⟨G, 0, none⟩) n3 c3).ownBlock = some b) Y2 (V3.setCell ⟨G, k, none⟩ (.int .i64 ta)) from
           ⟨by rw [← HST.out]; exact hset ta, HI.out.2.setCell (p := ⟨G, k, none⟩) rfl _⟩)
          clear hset hxi hge hbq hy hi1 hta hst hst2 hkx hkl
          go_wp2
          go_roundw
          case rel => exact ⟨k + 1, by omega, by go_num, HI2⟩
          case measure => simp [intOf] <;> omega
        · obtain rfl : n3 = k := by omega
          have HT3 := Lib.hid (HS2.out.but3 HI.out.2 (show Acc kI lo V3 (.slice A3 n3 c3) (M.bads.map (fun x => T.getD x.toNat 0)) by have h := HI.out.1; rw [← HN3.out, mapK_all] at h; rw [← HN3.out]; exact h))
          have HBX3 := Lib.hid (HBXb.out.but HI.out.2 (fun e => by have h1 := HS2.out.h3 _ e; have h2 := HVH.out; omega))
          clear HI
          go_wp2
          rw [rounds_succ]
          have g1 : V3.cell? ⟨BL3, 1, none⟩ = some (.slice A4 n4 c4) := HBX3.out.cell 1
          go_wp2
          go_loopw [65] (fun iv wr => ∃ k : Nat, k ≤ n4 ∧ iv = .int .i64 k ∧ Hid (Acc kI lo wr (.slice A4 n4 c4) (mapK (fun x => T.getD x.toNat 0) M.holds k) ∧ But (fun b => (Value.slice A4 n4 c4).ownBlock = some b) V3 wr)) (fun iv _ => n4 - (intOf iv).toNat)
          case atStart => exact ⟨0, Nat.zero_le _, rfl, Lib.hid ⟨by rw [mapK_zero]; exact HT3.out.a4, .refl _ _⟩⟩
          case round =>
           obtain ⟨k, hk, rfl, HI⟩ := hrel
           obtain ⟨V4, hV4⟩ : ∃ V, V = wr := ⟨_, rfl⟩
           subst hV4
           by_cases hlt : k < n4
           · have hlt' : (k : Int) < n4 := by omega
             have hkx : k < M.holds.length := by rw [HN4.out]; exact hlt
             have hkl : k < (mapK (fun x => T.getD x.toNat 0) M.holds k).length := by rw [mapK_len]; exact hkx
             have hge : (mapK (fun x => T.getD x.toNat 0) M.holds k).getD k 0 = M.holds.getD k 0 := by
              have h1 := mapK_at (fun x => T.getD x.toNat 0) hkx 0
              have h2 := getD_at hkl (0)
              rw [h1] at h2
              exact (Option.some.inj h2).symm
             have HBW := Lib.hid (show Below w.heap.size w V4 from HT3.out.bl.trans (HI.out.2.below (fun b e => Nat.le_trans HLO.out (HT3.out.a4.lt b e).1) HT3.out.bl.size))
             have hst := mapK_set (fun x => T.getD x.toNat 0) hkx 0
             obtain ⟨G, hG, p0, f0, hset⟩ := HI.out.1.atI hkl
             rw [hge] at p0
             have hbq := HIQ.out _ (List.mem_append_right _ (List.mem_of_getElem? (getD_at hkx 0)))
             obtain ⟨y, hy⟩ : ∃ y, M.holds.getD k 0 = y := ⟨_, rfl⟩
             rw [hy] at p0 hbq hst
             obtain ⟨i1, hi1⟩ := Int.eq_ofNat_of_zero_le hbq.1
             have him : i1 < m := by omega
             have him' : (i1 : Int) < m := by omega
             obtain ⟨bb, bo, hbb, hxi⟩ := HBB.out i1 _ (getD_at (show i1 < T.length by rw [HMM.out]; exact him) 0)
             subst hbb
             obtain ⟨ta, hta⟩ : ∃ t, T.getD i1 0 = t := ⟨_, rfl⟩
             rw [hta] at hxi
             have hst2 : (mapK (fun x => T.getD x.toNat 0) M.holds k).set k ta = mapK (fun x => T.getD x.toNat 0) M.holds (k + 1) := by
              rw [← hst, ← hta, hi1, Int.toNat_natCast]
             rw [hi1] at p0
             have HST := Lib.hid hst2
             have t0 : V4.cell? ⟨bb, bo + i1, none⟩ = some (.int .i64 ta) := by
              have h := (hxi.below HBW.out) 0 _ rfl
              simpa using h
             subst hG
             have HI2 := Lib.hid (show Acc kI lo (V4.setCell ⟨G, k, none⟩ (.int .i64 ta)) (.slice (some ⟨G, 0, none⟩) n4 c4) (mapK (fun x => T.getD x.toNat 0) M.holds (k + 1)) ∧ But (fun b => (Value.slice (some ⟨G, 0, none⟩) n4 c4).ownBlock = some b) V3 (V4.setCell ⟨G, k, none⟩ (.int .i64 ta)) from
              ⟨by rw [← HST.out]; exact hset ta, HI.out.2.setCell (p := ⟨G, k, none⟩) rfl _⟩)
             clear hset hxi hge hbq hy hi1 hta hst hst2 hkx hkl
             go_wp2
             go_roundw
             case rel => exact ⟨k + 1, by omega, by go_num, HI2⟩
             case measure => simp [intOf] <;> omega
           · obtain rfl : n4 = k := by omega
             have HT4 := Lib.hid (HT3.out.but4 HI.out.2 (show Acc kI lo V4 (.slice A4 n4 c4) (M.holds.map (fun x => T.getD x.toNat 0)) by have h := HI.out.1; rw [← HN4.out, mapK_all] at h; rw [← HN4.out]; exact h))
             have HBX4 := Lib.hid (HBX3.out.but HI.out.2 (fun e => by have h1 := HT3.out.h4 _ e; have h2 := HVH.out; omega))
             clear HI
             go_wp2
             rw [rounds_succ]
             have b0 : V4.cell? ⟨hi, 0, none⟩ = some (.slice NA nn nc) := HT4.out.b7.cell 0
             have b1 : V4.cell? ⟨hi, 1, none⟩ = some (.slice A1 n1 c1) := HT4.out.b7.cell 1
             have b2 : V4.cell? ⟨hi, 2, none⟩ = some (.slice A2 n2 c2) := HT4.out.b7.cell 2
             have b3 : V4.cell? ⟨hi, 3, none⟩ = some (.slice A3 n3 c3) := HT4.out.b7.cell 3
             have b4 : V4.cell? ⟨hi, 4, none⟩ = some (.slice A4 n4 c4) := HT4.out.b7.cell 4
             have y0 : V4.cell? ⟨R6, 0, none⟩ = some (.slice none 0 0) := HT4.out.r6.cell 0
             have f0 : V4.frozen? ⟨R6, 0, none⟩ = false := HT4.out.r6.frozen 0
             have y1 : V4.cell? ⟨R6, 1, none⟩ = some (.slice none 0 0) := HT4.out.r6.cell 1
             have f1 : V4.frozen? ⟨R6, 1, none⟩ = false := HT4.out.r6.frozen 1
             have y2 : V4.cell? ⟨R6, 2, none⟩ = some (.slice none 0 0) := HT4.out.r6.cell 2
             have f2 : V4.frozen? ⟨R6, 2, none⟩ = false := HT4.out.r6.frozen 2
             have y3 : V4.cell? ⟨R6, 3, none⟩ = some (.slice none 0 0) := HT4.out.r6.cell 3
             have f3 : V4.frozen? ⟨R6, 3, none⟩ = false := HT4.out.r6.frozen 3
             have y4 : V4.cell? ⟨R6, 4, none⟩ = some (.slice none 0 0) := HT4.out.r6.cell 4
             have f4 : V4.frozen? ⟨R6, 4, none⟩ = false := HT4.out.r6.frozen 4
             have HF := Lib.hid (five_set HT4.out.r6 (.slice NA nn nc) (.slice A1 n1 c1) (.slice A2 n2 c2) (.slice A3 n3 c3) (.slice A4 n4 c4))
             have hbt := five_but V4 R6 (.slice NA nn nc) (.slice A1 n1 c1) (.slice A2 n2 c2) (.slice A3 n3 c3) (.slice A4 n4 c4)
             have HBB := Lib.hid (show Below w.heap.size w _ from HT4.out.bl.trans (hbt.below (B := w.heap.size) (fun k e => by subst e; exact HT4.out.e3) HT4.out.bl.size))
             have HMD := Lib.hid (show MdN _ (.agg #[.slice NA nn nc, .slice A1 n1 c1, .slice A2 n2 c2, .slice A3 n3 c3, .slice A4 n4 c4]) ⟨ns, M.inits.map (bindT T), M.nexts.map (bindT T), M.bads.map (fun x => T.getD x.toNat 0), M.holds.map (fun x => T.getD x.toNat 0)⟩ from ⟨_, _, _, _, _, rfl, (show SlN enNd _ _ ns from HN.out.below HBB.out), (HT4.out.a1.but hbt (fun b e1 e2 => by have h1 := (HT4.out.a1.lt b e1).1; have h2 := HT4.out.e2; omega)).slB (by rw [List.length_map, HN1.out]; omega), (HT4.out.a2.but hbt (fun b e1 e2 => by have h1 := (HT4.out.a2.lt b e1).1; have h2 := HT4.out.e2; omega)).slB (by rw [List.length_map, HN2.out]; omega), (HT4.out.a3.but hbt (fun b e1 e2 => by have h1 := (HT4.out.a3.lt b e1).1; have h2 := HT4.out.e2; omega)).slI (by rw [List.length_map, HN3.out]; omega), (HT4.out.a4.but hbt (fun b e1 e2 => by have h1 := (HT4.out.a4.lt b e1).1; have h2 := HT4.out.e2; omega)).slI (by rw [List.length_map, HN4.out]; omega)⟩)
             clear hbt
             go_wp2
             generalize (((((V4.setCell ⟨R6, 0, none⟩ (.slice NA nn nc)).setCell ⟨R6, 1, none⟩ (.slice A1 n1 c1)).setCell ⟨R6, 2, none⟩ (.slice A2 n2 c2)).setCell ⟨R6, 3, none⟩ (.slice A3 n3 c3)).setCell ⟨R6, 4, none⟩ (.slice A4 n4 c4)) = WF at *
             have r0 : WF.cell? ⟨R6, 0, none⟩ = some (.slice NA nn nc) := HF.out.cell 0
             have r1 : WF.cell? ⟨R6, 1, none⟩ = some (.slice A1 n1 c1) := HF.out.cell 1
             have r2 : WF.cell? ⟨R6, 2, none⟩ = some (.slice A2 n2 c2) := HF.out.cell 2
             have r3 : WF.cell? ⟨R6, 3, none⟩ = some (.slice A3 n3 c3) := HF.out.cell 3
             have r4 : WF.cell? ⟨R6, 4, none⟩ = some (.slice A4 n4 c4) := HF.out.cell 4
             exact bodyPost_ret (v := .agg #[.slice NA nn nc, .slice A1 n1 c1, .slice A2 n2 c2, .slice A3 n3 c3, .slice A4 n4 c4]) (by simp [results, Tryz.results28, go_sem, r0, r1, r2, r3, r4]) rfl ⟨_, rfl, HBB.out, HMD.out⟩
end Go.Proofs.YtdojaijnejcoiaaGreat
namespace Go.Proofs.YtdojaijnejcoiaaGreat
open Go.RowKit
def flatB : List Bd → List Value
 | [] => []
 | x :: l => .int .i64 x.st :: .int .i64 x.nd :: flatB l
theorem flatB_len : ∀ l : List Bd, (flatB l).length = l.length * 2
 | [] => rfl
 | x :: l => by simp [flatB, flatB_len l]; omega
theorem flatB_append : ∀ l k : List Bd, flatB (l ++ k) = flatB l ++ flatB k
 | [], k => rfl
 | x :: l, k => by simp [flatB, flatB_append l k]
theorem flatB_get : ∀ {l : List Bd} {i : Nat} {x : Bd}, l[i]? = some x → ∀ f, f < 2 → (flatB l)[i * 2 + f]? = (enBd.cells x)[f]?
 | y :: l, 0, x, h, f, hf => by
   simp at h
   subst h
   rcases f with _ | _ | f
   · rfl
   · rfl
   · omega
 | y :: l, i + 1, x, h, f, hf => by
   simp at h
   have := flatB_get (l := l) (i := i) h f hf
   rw [show (i + 1) * 2 + f = (i * 2 + f) + 1 + 1 by omega]
   simpa [flatB] using this
theorem flatB_split {l : List Bd} {j : Nat} {u : Value} (h : (flatB l)[j]? = some u) : ∃ i f x, j = i * 2 + f ∧ f < 2 ∧ l[i]? = some x ∧ (enBd.cells x)[f]? = some u := by
 have hj := (List.getElem?_eq_some_iff.1 h).1
 rw [flatB_len] at hj
 have hi : j / 2 < l.length := by omega
 have hx := List.getElem?_eq_getElem hi
 refine ⟨j / 2, j % 2, _, by omega, by omega, hx, ?_⟩
 rw [← flatB_get hx (j % 2) (by omega), show j / 2 * 2 + j % 2 = j by omega]
 exact h
theorem flatB_one {l : List Bd} {u : Value} (h : u ∈ flatB l) : u.oneCell' = true := by
 obtain ⟨j, hj⟩ := List.getElem?_of_mem h
 obtain ⟨i, f, x, -, hf, -, hu⟩ := flatB_split hj
 rcases f with _ | _ | f
 · simp at hu; subst hu; rfl
 · simp at hu; subst hu; rfl
 · omega
theorem info_bd : (Tryz.prog.info? 57).map (fun i => (i.zero, i.size, i.bytes)) = some (some (.agg #[.int .i64 0, .int .i64 0]), 2, 16) := by kernel_rfl
theorem appendB_none (w : World) (ty : TypeId) (base : Nat) (v : Value) (n : Nat) (xs : List Value) (hown : w.ownsRow base 57 2 v n xs) (A : Option Addr) (c : Nat) :
 (Builtin.append_ #[29, 29] ty #[v, .slice A 0 c]).run Tryz.prog w = .ok v w := by
 obtain ⟨i, hi, hz, hs, hb⟩ := info_parts info_bd
 have ht := Tryz.underlying29
 have hl : ∀ (a : Addr) (w : World), (loadCells a 0).run Tryz.prog w = .ok #[] w := fun _ _ => rfl
 rcases hown.2 with ⟨rfl, rfl⟩ | ⟨g, cap, cur, rfl, _, _, hnc, _⟩ <;> cases A <;>
  simp [Builtin.append_, run_underlying ht, sizeOf, typeInfo, hi, Builtin.lenOf, Builtin.firstCells, storeCells, *]
theorem appendB_list (w : World) (ty : TypeId) (base : Nat) (v : Value) (n : Nat) (xs : List Value) (hown : w.ownsRow base 57 2 v n xs) (hbase : base ≤ w.heap.size) (A : Option Addr) (c : Nat) (ys : List Bd)
 (hA : ∀ i x, ys[i]? = some x → ∃ b o, A = some ⟨b, o, none⟩ ∧ CellsAt enBd w b o i x) (hlen : n + ys.length ≤ 1000) :
 ∃ v' w', (Builtin.append_ #[29, 29] ty #[v, .slice A ys.length c]).run Tryz.prog w = .ok v' w' ∧ w'.ownsRow base 57 2 v' (n + ys.length) (xs ++ flatB ys) ∧ w.grownBy w' v.ownBlock := by
 rcases Nat.eq_zero_or_pos ys.length with h0 | h0
 · rw [h0]
   have : ys = [] := List.eq_nil_of_length_eq_zero h0
   subst this
   exact ⟨v, w, appendB_none w ty base v n xs hown A c, by simpa [flatB] using hown, World.grownBy.refl w _⟩
 · obtain ⟨i, hi, hz, hs, hb⟩ := info_parts info_bd
   obtain ⟨b, o, rfl, -⟩ := hA 0 _ (getD_at h0 Bd.zero)
   obtain ⟨v', w', hr, hown', hg, -⟩ := run_append_own (P := Tryz.prog) w base 29 ty 57 i (.agg #[.int .i64 0, .int .i64 0]) 2 16 Tryz.underlying29 hi hz hs hb rfl (by omega) v n xs hown ⟨b, o, none⟩ ys.length c (flatB ys) (flatB_len ys) (fun j u hu => by
    obtain ⟨i, f, y, rfl, hf, hy, hu'⟩ := flatB_split hu
    obtain ⟨b', o', he, hc⟩ := hA i y hy
    cases he
    have hadd : (⟨b, o, none⟩ : Addr).add (i * 2 + f) = ⟨b, o + (i * 2 + f), none⟩ := by unfold Addr.add; split <;> simp_all
    rw [hadd]
    have := hc f _ hu'
    rw [show o + (i * 2 + f) = o + i * 2 + f by omega]
    exact this) (fun u hu => flatB_one hu) (by unfold maxLen; omega) (by omega) hbase
   exact ⟨v', w', hr, hown', hg⟩
theorem GrowB_calls (n : Nat) (w : World) (hn : n ≤ 1000) :
 Calls Tryz.prog 86 #[.slice none 0 0, .int .i64 n] w fun e w' => ∃ v, e = .returned v ∧ Below w.heap.size w w' ∧ w'.ownsRow w.heap.size 57 2 v 0 [] := by
 rcases Nat.eq_zero_or_pos n with rfl | hpos
 · go_enter Tryz.func86, Tryz.ntmps86
   go_wp2
   go_ret
   exact ⟨_, rfl, Below.refl _ _, rfl, .inl ⟨rfl, rfl⟩⟩
 · obtain ⟨i, hi, hz, hs, hb⟩ := info_parts info_bd
   have hr := fun ty => Lib.run_append_nil_zeros (P := Tryz.prog) w 29 3 ty 57 i (.agg #[.int .i64 0, .int .i64 0]) .i64 .i64 Tryz.underlying29 Tryz.underlying3 hi hz n hpos (by omega) (by omega) (by rw [hb]; omega)
   have hcap := grownCap_ge w n 0 57
   have hmax := grownCap_le_maxLen w n 0 57 (by unfold maxLen; omega)
   generalize hG : grownCap w n 0 57 = G at *
   have hpos' : (0 : Int) < n := by omega
   have HR := Lib.hid hr
   clear hr hG hz hs hb hi
   go_enter Tryz.func86, Tryz.ntmps86
   go_wp2_with (at_builtin; refine Lib.wpList_append_run _ (by rfl) _ _ _ _ (by rfl) _ _ (by rfl) (by rfl) _ _ (HR.out _) ?_)
   go_ret
   refine ⟨_, rfl, (box_below w _ _).drew, rfl, .inr ⟨w.heap.size, G, _, rfl, Nat.le_refl _, OwnB.new w _ _, Nat.zero_le _, hmax, ?_, by simp⟩⟩
   simp [size_zeroCells, Value.cells]
   omega
theorem ownedB_list {w : World} {base n : Nat} {v : Value} {xs : List Bd} (h : w.ownsRow base 57 2 v n (flatB xs)) (hn : n = xs.length) (hn2 : n ≤ 1000) : SlN enBd w v xs := by
 subst hn
 rcases h.2 with ⟨rfl, h0⟩ | ⟨g, cap, cur, rfl, _, _, hc, _⟩
 · have : xs = [] := List.eq_nil_of_length_eq_zero h0
   subst this
   exact ⟨none, 0, rfl, Nat.le_refl _, by simp, fun i x hx => by simp at hx⟩
 · refine ⟨some ⟨g, 0, none⟩, cap, rfl, hc, by omega, fun i x hx => ⟨g, 0, rfl, fun f u hu => ?_⟩⟩
   have hf : f < 2 := (List.getElem?_eq_some_iff.1 hu).1
   have := h.cells (g := g) rfl (i * 2 + f) u ((flatB_get hx f hf).trans hu)
   have hadd : (⟨g, 0, none⟩ : Addr).add (i * 2 + f) = ⟨g, i * 2 + f, none⟩ := by unfold Addr.add; split <;> simp_all
   rw [hadd] at this
   simpa using this
theorem ConcatB_calls (GS : Nat) (v1 v2 : Value) (xs ys : List Bd) (w : World) (h1 : SlAt enBd w v1 xs) (h2 : SlAt enBd w v2 ys) (c1 : w.cell? ⟨GS, 0, none⟩ = some v1) (c2 : w.cell? ⟨GS, 1, none⟩ = some v2) (hl : xs.length + ys.length ≤ 1000) :
 Calls Tryz.prog 64 #[.slice (some ⟨GS, 0, none⟩) 2 2] w fun e w' => ∃ v, e = .returned v ∧ Below w.heap.size w w' ∧ (∀ b, v.ownBlock = some b → w.heap.size ≤ b) ∧ SlN enBd w' v (xs ++ ys) := by
 have H1 := Lib.hid h1
 have H2 := Lib.hid h2
 obtain ⟨A, c, rfl, -, -, -⟩ := h1
 obtain ⟨A', c', rfl, -, -, -⟩ := h2
 have d1 := Later.cell c1
 have d2 := Later.cell c2
 have hn1 : (xs.length : Int) ≤ 1000 := by omega
 have hn2 : (ys.length : Int) ≤ 1000 := by omega
 have hn3 : (xs.length : Int) + ys.length ≤ 1000 := by omega
 have hp1 : (0 : Int) ≤ xs.length := by omega
 have hp2 : (0 : Int) ≤ ys.length := by omega
 obtain ⟨n, hn⟩ : ∃ n, n = xs.length := ⟨_, rfl⟩
 obtain ⟨m, hm⟩ : ∃ m, m = ys.length := ⟨_, rfl⟩
 have HN := Lib.hid hn
 have HM := Lib.hid hm
 have HL := Lib.hid hl
 rw [← hn] at c1 d1 hn1 hn3 hp1 hl H1
 rw [← hm] at c2 d2 hn2 hn3 hp2 hl H2
 clear hn hm c1 c2
 go_enter Tryz.func64, Tryz.ntmps64
 go_upto_region 1 with fail
 refine at_world (w := w) ?_
 intro u0
 go_wp2
 refine wp_loop_rounds 3 ?_
 rw [rounds_succ]
 go_wp2
 rw [rounds_succ]
 go_wp2
 rw [rounds_succ]
 go_wp2_with (go_at_call 86; refine (GrowB_calls (n + m) _ (by omega)).mono ?_; rintro e w' ⟨gv, rfl, hb, hown⟩; have HB := Lib.hid hb; have HOWN := Lib.hid hown; clear hb hown)
 have HU := Lib.hid u0.prop
 have K1 := Lib.hid (H1.out.later u0)
 have K2 := Lib.hid (H2.out.later u0)
 have e1 := Later.re d1 ⟨u0, rfl⟩
 have e2 := Later.re d2 ⟨u0, rfl⟩
 clear d1 d2
 generalize u0.val = W0 at *
 obtain ⟨u1, hu1⟩ := laterC_step (w1 := W0) (LaterC.refl _) HB.out
 subst hu1
 have hS1 := K1.out.later u1
 obtain ⟨A1, c1, he1, -, -, hA1⟩ := hS1
 rw [← HN.out] at he1
 cases he1
 obtain ⟨x1, w1', hr1, ho1, hg1⟩ := appendB_list u1.val 29 W0.heap.size gv 0 [] HOWN.out u1.size A c xs hA1 (by have := HL.out; omega)
 obtain ⟨u2, hu2⟩ := laterC_grown ⟨u1, rfl⟩ HOWN.out hg1
 subst hu2
 have hS2 := K2.out.later u2
 obtain ⟨A2, c2, he2, -, -, hA2⟩ := hS2
 rw [← HM.out] at he2
 cases he2
 obtain ⟨x2, w2', hr2, ho2, hg2⟩ := appendB_list u2.val 29 W0.heap.size x1 (0 + xs.length) ([] ++ flatB xs) ho1 u2.size A' c' ys hA2 (by have := HL.out; omega)
 obtain ⟨u3, hu3⟩ := laterC_grown ⟨u2, rfl⟩ ho1 hg2
 subst hu3
 rw [← HN.out] at hr1
 rw [← HM.out] at hr2
 have HR1 := Lib.hid hr1
 have HR2 := Lib.hid hr2
 have HO2 := Lib.hid ho2
 clear hr1 hr2 ho1 ho2 hg1 hg2 hA1 hA2
 refine wp_loop_rounds 3 ?_
 rw [rounds_succ]
 go_wp2_with (at_builtin; refine Lib.wpList_append_run _ (by rfl) _ _ _ _ (by rfl) _ _ (by rfl) (by rfl) _ _ HR1.out ?_)
 rw [rounds_succ]
 go_wp2_with (at_builtin; refine Lib.wpList_append_run _ (by rfl) _ _ _ _ (by rfl) _ _ (by rfl) (by rfl) _ _ HR2.out ?_)
 rw [rounds_succ]
 go_wp2
 go_ret
 refine ⟨_, rfl, HU.out.trans (u3.prop.mono HU.out.size), fun b hb => Nat.le_trans HU.out.size (owns_block HO2.out hb), ownedB_list (n := 0 + xs.length + ys.length) (base := W0.heap.size) ?_ (by simp) (by have := HL.out; omega)⟩
 have := HO2.out
 rw [List.nil_append, ← flatB_append] at this
 exact this
theorem ConcatI_calls (GS : Nat) (v1 v2 : Value) (xs ys : List Int) (w : World) (h1 : SlAt enI w v1 xs) (h2 : SlAt enI w v2 ys) (c1 : w.cell? ⟨GS, 0, none⟩ = some v1) (c2 : w.cell? ⟨GS, 1, none⟩ = some v2) (hl : xs.length + ys.length ≤ 1000) :
 Calls Tryz.prog 57 #[.slice (some ⟨GS, 0, none⟩) 2 2] w fun e w' => ∃ v, e = .returned v ∧ Below w.heap.size w w' ∧ (∀ b, v.ownBlock = some b → w.heap.size ≤ b) ∧ SlN enI w' v (xs ++ ys) := by
 have H1 := Lib.hid h1
 have H2 := Lib.hid h2
 obtain ⟨A, c, rfl, -, -, -⟩ := h1
 obtain ⟨A', c', rfl, -, -, -⟩ := h2
 have d1 := Later.cell c1
 have d2 := Later.cell c2
 have hn1 : (xs.length : Int) ≤ 1000 := by omega
 have hn2 : (ys.length : Int) ≤ 1000 := by omega
 have hn3 : (xs.length : Int) + ys.length ≤ 1000 := by omega
 have hp1 : (0 : Int) ≤ xs.length := by omega
 have hp2 : (0 : Int) ≤ ys.length := by omega
 obtain ⟨n, hn⟩ : ∃ n, n = xs.length := ⟨_, rfl⟩
 obtain ⟨m, hm⟩ : ∃ m, m = ys.length := ⟨_, rfl⟩
 have HN := Lib.hid hn
 have HM := Lib.hid hm
 have HL := Lib.hid hl
 rw [← hn] at c1 d1 hn1 hn3 hp1 hl H1
 rw [← hm] at c2 d2 hn2 hn3 hp2 hl H2
 clear hn hm c1 c2
 go_enter Tryz.func57, Tryz.ntmps57
 go_upto_region 1 with fail
 refine at_world (w := w) ?_
 intro u0
 go_wp2
 refine wp_loop_rounds 3 ?_
 rw [rounds_succ]
 go_wp2
 rw [rounds_succ]
 go_wp2
 rw [rounds_succ]
 go_wp2_with (go_at_call 83; refine (Grow_calls (n + m) _ (by omega)).mono ?_; rintro e w' ⟨gv, rfl, hb, hown⟩; have HB := Lib.hid hb; have HOWN := Lib.hid hown; clear hb hown)
 have HU := Lib.hid u0.prop
 have K1 := Lib.hid (H1.out.later u0)
 have K2 := Lib.hid (H2.out.later u0)
 have e1 := Later.re d1 ⟨u0, rfl⟩
 have e2 := Later.re d2 ⟨u0, rfl⟩
 clear d1 d2
 generalize u0.val = W0 at *
 obtain ⟨u1, hu1⟩ := laterC_step (w1 := W0) (LaterC.refl _) HB.out
 subst hu1
 have hS1 := K1.out.later u1
 obtain ⟨A1, c1, he1, -, -, hA1⟩ := hS1
 rw [← HN.out] at he1
 cases he1
 obtain ⟨x1, w1', hr1, ho1, hg1⟩ := append_list u1.val 24 W0.heap.size gv 0 [] HOWN.out u1.size A c xs hA1 (by have := HL.out; omega)
 obtain ⟨u2, hu2⟩ := laterC_grown ⟨u1, rfl⟩ HOWN.out hg1
 subst hu2
 have hS2 := K2.out.later u2
 obtain ⟨A2, c2, he2, -, -, hA2⟩ := hS2
 rw [← HM.out] at he2
 cases he2
 obtain ⟨x2, w2', hr2, ho2, hg2⟩ := append_list u2.val 24 W0.heap.size x1 (0 + xs.length) ([] ++ xs.map (Value.int .i64)) ho1 u2.size A' c' ys hA2 (by have := HL.out; omega)
 obtain ⟨u3, hu3⟩ := laterC_grown ⟨u2, rfl⟩ ho1 hg2
 subst hu3
 rw [← HN.out] at hr1
 rw [← HM.out] at hr2
 have HR1 := Lib.hid hr1
 have HR2 := Lib.hid hr2
 have HO2 := Lib.hid ho2
 clear hr1 hr2 ho1 ho2 hg1 hg2 hA1 hA2
 refine wp_loop_rounds 3 ?_
 rw [rounds_succ]
 go_wp2_with (at_builtin; refine Lib.wpList_append_run _ (by rfl) _ _ _ _ (by rfl) _ _ (by rfl) (by rfl) _ _ HR1.out ?_)
 rw [rounds_succ]
 go_wp2_with (at_builtin; refine Lib.wpList_append_run _ (by rfl) _ _ _ _ (by rfl) _ _ (by rfl) (by rfl) _ _ HR2.out ?_)
 rw [rounds_succ]
 go_wp2
 go_ret
 refine ⟨_, rfl, HU.out.trans (u3.prop.mono HU.out.size), fun b hb => Nat.le_trans HU.out.size (owns_block HO2.out hb), owned_list (n := 0 + xs.length + ys.length) (base := W0.heap.size) ?_ (by simp) (by have := HL.out; omega)⟩
 have := HO2.out
 rw [List.nil_append, ← List.map_append] at this
 exact this
end Go.Proofs.YtdojaijnejcoiaaGreat
namespace Go.Proofs.YtdojaijnejcoiaaGreat
open Go.RowKit
structure KEnv (M : Md) (W0 : World) (g o mb mk : Nat) (s0 s1 s2 : Value) (w : World) : Prop where
 co : w.cell? ⟨o, 0, none⟩ = some (.slice (some ⟨g, 0, none⟩) M.nodes.length M.nodes.length)
 c0 : w.cell? ⟨mb, 0, none⟩ = some s0
 c1 : w.cell? ⟨mb, 1, none⟩ = some s1
 c2 : w.cell? ⟨mb, 2, none⟩ = some s2
 ck : w.cell? ⟨mk, 0, none⟩ = some (.func (.func 62) #[] #[.pointer (some ⟨o, 0, none⟩), .pointer (some ⟨mb, 0, none⟩), .pointer (some ⟨mk, 0, none⟩)])
 a0 : SlAt enNd W0 s0 M.nodes
 a1 : SlAt enBd W0 s1 M.inits
 a2 : SlAt enBd W0 s2 M.nexts
 bl : Below W0.heap.size W0 w
 hg : W0.heap.size ≤ g
 no : o ≠ g
 nb : mb ≠ g
 nk : mk ≠ g
theorem KEnv.but {M : Md} {W0 : World} {g o mb mk : Nat} {s0 s1 s2 : Value} {w w' : World} (h : KEnv M W0 g o mb mk s0 s1 s2 w) (hb : But (fun b => b = g) w w') : KEnv M W0 g o mb mk s0 s1 s2 w' :=
 ⟨cell_but h.co hb h.no, cell_but h.c0 hb h.nb, cell_but h.c1 hb h.nb, cell_but h.c2 hb h.nb, cell_but h.ck hb h.nk, h.a0, h.a1, h.a2, h.bl.trans (hb.below (fun k e => by subst e; exact h.hg) h.bl.size), h.hg, h.no, h.nb, h.nk⟩
def MarkPost (M : Md) (g a : Nat) (L : List Bool) (w : World) (e : Ending) (w' : World) : Prop := ∃ L', e = .returned (.tuple #[]) ∧ But (fun b => b = g) w w' ∧ OwnL w' g L' ∧ MarkP M a L L'
def RunK (M : Md) (W0 : World) (g o mb mk : Nat) (s0 s1 s2 : Value) (a : Nat) (L : List Bool) (w : World) (L' : List Bool) (wr : World) : Prop :=
 KEnv M W0 g o mb mk s0 s1 s2 wr ∧ OwnL wr g L' ∧ MidP M a L L' ∧ But (fun b => b = g) w wr
theorem RunK.below {M : Md} {W0 : World} {g o mb mk : Nat} {s0 s1 s2 : Value} {a : Nat} {L L' : List Bool} {w wr W : World} (h : RunK M W0 g o mb mk s0 s1 s2 a L w L' wr) (hb : Below wr.heap.size wr W) : RunK M W0 g o mb mk s0 s1 s2 a L w L' W :=
 ⟨h.1.but (.of_below hb), h.2.1.below hb, h.2.2.1, h.2.2.2.trans (.of_below hb)⟩
theorem RunK.step {M : Md} {W0 : World} {g o mb mk : Nat} {s0 s1 s2 : Value} {a p : Nat} {L L' L'' : List Bool} {w wr W : World} (h : RunK M W0 g o mb mk s0 s1 s2 a L w L' wr) (hs : Succ M a p) (hb : But (fun b => b = g) wr W) (ho : OwnL W g L'') (hm : MarkP M p L' L'') : RunK M W0 g o mb mk s0 s1 s2 a L w L'' W :=
 ⟨h.1.but hb, ho, h.2.2.1.step hs hm, h.2.2.2.trans hb⟩
theorem part_cell (x : Nd) {m : Nat} (h : m < 3) : (#[Value.int .i64 x.a, .int .i64 x.b, .int .i64 x.c] : Array Value)[m]? = some (.int .i64 (x.part m)) := by
 rcases (show m = 0 ∨ m = 1 ∨ m = 2 by omega) with rfl | rfl | rfl <;> rfl
theorem mark_calls (M : Md) (hco : codeN M = 0) (W0 : World) (g o mb mk : Nat) (s0 s1 s2 : Value) : ∀ (N : Nat) (L : List Bool) (a : Nat) (w : World), fls L ≤ N → KEnv M W0 g o mb mk s0 s1 s2 w → OwnL w g L → L.length = M.nodes.length → a < M.nodes.length →
 Calls Tryz.prog 62 #[.int .i64 (a : Int), .pointer (some ⟨o, 0, none⟩), .pointer (some ⟨mb, 0, none⟩), .pointer (some ⟨mk, 0, none⟩)] w (MarkPost M g a L w) := by
 intro N
 induction N with
 | zero =>
   intro L a w hf hK hO hl ha
   have ht : tt L a := by
    rcases Classical.em (tt L a) with h | h
    · exact h
    · have := fls_set (show a < L.length by omega) h; omega
   have c0 := hO.cell (show a < L.length by omega)
   rw [show L.getD a false = true from ht] at c0
   have co := hK.co
   have HP := Lib.hid (show MarkPost M g a L w (.returned (.tuple #[])) w from ⟨L, rfl, .refl _ _, hO, MarkP.refl ht⟩)
   have ha' : (a : Int) < M.nodes.length := by omega
   clear hK hO ht hl hf
   generalize M.nodes.length = n at *
   go_enter Tryz.func62, Tryz.ntmps62
   go_wp2
   exact bodyPost_ret (v := .tuple #[]) (results_none (by kernel_rfl) _ _ _) rfl HP.out
 | succ N ih =>
   intro L a w hf hK hO hl ha
   have ha' : (a : Int) < M.nodes.length := by omega
   have c0 := hO.cell (show a < L.length by omega)
   have f0 := hO.frozen a
   have co := hK.co
   obtain ⟨q, hq⟩ : ∃ q, L.getD a false = q := ⟨_, rfl⟩
   rw [hq] at c0
   have hq' := hq
   rcases q with _ | _
   rotate_left
   · have HP := Lib.hid (show MarkPost M g a L w (.returned (.tuple #[])) w from ⟨L, rfl, .refl _ _, hO, MarkP.refl hq⟩)
     clear hK hO hq hl hf ih
     generalize M.nodes.length = n at *
     go_enter Tryz.func62, Tryz.ntmps62
     go_wp2
     exact bodyPost_ret (v := .tuple #[]) (results_none (by kernel_rfl) _ _ _) rfl HP.out
   · have hnt : ¬ tt L a := by unfold tt; rw [hq]; exact Bool.false_ne_true
     have hR := fls_set (show a < L.length by omega) hnt
     have HR := Lib.hid (show RunK M W0 g o mb mk s0 s1 s2 a L w (L.set a true) (w.setCell ⟨g, a, none⟩ (.bool true)) from ⟨hK.but ((But.refl (fun b => b = g) w).setCell rfl _), hO.set a, .start (by omega) hnt, (But.refl (fun b => b = g) w).setCell rfl _⟩)
     have HLL := Lib.hid hl
     have HIH := Lib.hid (show ∀ (L' : List Bool) (b : Nat) (W : World), fls L' < fls L → KEnv M W0 g o mb mk s0 s1 s2 W → OwnL W g L' → L'.length = L.length → b < M.nodes.length → Calls Tryz.prog 62 #[.int .i64 (b : Int), .pointer (some ⟨o, 0, none⟩), .pointer (some ⟨mb, 0, none⟩), .pointer (some ⟨mk, 0, none⟩)] W (MarkPost M g b L' W) from fun L' b W h1 h2 h3 h4 h5 => ih L' b W (by omega) h2 h3 (by omega) h5)
     have HCO := Lib.hid hco
     have heg : ∀ (args : Array Value) (w : World), (callFunc 62 args).run Tryz.prog w = .ok (.enter 62 args) w := fun _ _ => rfl
     obtain ⟨A, c, hs0, hnc, hc', hA⟩ := hK.a0
     obtain ⟨bn, on, rfl, hx⟩ := hA a _ (getD_at ha Nd.zero)
     have hnd := nodes_down (code_q hco).2.1
     have hmem := List.mem_of_getElem? (getD_at ha Nd.zero)
     have hpos := nodes_pos (code_q hco).2.1 _ hmem
     obtain ⟨x, hxe⟩ : ∃ x, M.nodes.getD a Nd.zero = x := ⟨_, rfl⟩
     rw [hxe] at hx hpos
     have HX := Lib.hid hxe
     have HDN := Lib.hid (show ∀ m : Nat, m < 3 → (m : Int) < partsN x.kind → 0 ≤ x.part m ∧ x.part m < a from fun m h1 h2 => by
      have := hnd a ha m h1 (by rw [hxe]; exact h2)
      rw [hxe] at this
      exact this)
     obtain ⟨pk, hpk⟩ := Int.eq_ofNat_of_zero_le hpos
     have hpk3 : pk ≤ 3 := by have := partsN_le x.kind; omega
     have hpk3' : (pk : Int) ≤ 3 := by omega
     have HPN := Lib.hid hpk
     have HXC := Lib.hid (show ∀ W, KEnv M W0 g o mb mk s0 s1 s2 W → CellsAt enNd W bn on a x from fun W hk => hx.below hk.bl)
     have cb0 := HR.out.1.c0
     rw [hs0] at cb0
     have HS0 := Lib.hid hs0
     generalize hn : M.nodes.length = n at *
     have HN := Lib.hid hn
     clear hK hO hq hl hf ih hnt hR hco hA hx hnd hmem hpos hxe hs0 hpk hn
     go_enter Tryz.func62, Tryz.ntmps62
     go_upto_region 2 with fail
     have HXW := Lib.hid (HXC.out _ HR.out.1)
     generalize w.setCell ⟨g, a, none⟩ (.bool true) = w1 at *
     have q0 : w1.cell? ⟨bn, on + a * 9, none⟩ = some (.int .i64 x.kind) := HXW.out 0 _ rfl
     have q1 : w1.cell? ⟨bn, on + a * 9 + 1, none⟩ = some (.int .i64 x.a) := HXW.out 1 _ rfl
     have q2 : w1.cell? ⟨bn, on + a * 9 + 2, none⟩ = some (.int .i64 x.b) := HXW.out 2 _ rfl
     have q3 : w1.cell? ⟨bn, on + a * 9 + 3, none⟩ = some (.int .i64 x.c) := HXW.out 3 _ rfl
     have q4 : w1.cell? ⟨bn, on + a * 9 + 4, none⟩ = some (.int .i64 x.n) := HXW.out 4 _ rfl
     have q5 : w1.cell? ⟨bn, on + a * 9 + 5, none⟩ = some (.int .i64 x.m) := HXW.out 5 _ rfl
     have q6 : w1.cell? ⟨bn, on + a * 9 + 6, none⟩ = some (.int .i64 x.idx) := HXW.out 6 _ rfl
     have q7 : w1.cell? ⟨bn, on + a * 9 + 7, none⟩ = some (.int .i64 x.wid) := HXW.out 7 _ rfl
     have q8 : w1.cell? ⟨bn, on + a * 9 + 8, none⟩ = some (.string x.name) := HXW.out 8 _ rfl
     clear c0 f0 co
     go_upto_region 3 with fail
     have HR2 := Lib.hid (HR.out.below (box_below w1 #[.int .i64 x.kind, .int .i64 x.a, .int .i64 x.b, .int .i64 x.c, .int .i64 x.n, .int .i64 x.m, .int .i64 x.idx, .int .i64 x.wid, .string x.name] 46))
     have HGX := Lib.hid (show w1.heap.size < (w1.alloc (Obj.cells #[.int .i64 x.kind, .int .i64 x.a, .int .i64 x.b, .int .i64 x.c, .int .i64 x.n, .int .i64 x.m, .int .i64 x.idx, .int .i64 x.wid, .string x.name] 46)).heap.size by simp)
     have x0 : ∀ l : Later (w1.alloc (Obj.cells #[.int .i64 x.kind, .int .i64 x.a, .int .i64 x.b, .int .i64 x.c, .int .i64 x.n, .int .i64 x.m, .int .i64 x.idx, .int .i64 x.wid, .string x.name] 46)), l.val.cell? ⟨w1.heap.size, 0, none⟩ = some (.int .i64 x.kind) := box_cell w1 #[.int .i64 x.kind, .int .i64 x.a, .int .i64 x.b, .int .i64 x.c, .int .i64 x.n, .int .i64 x.m, .int .i64 x.idx, .int .i64 x.wid, .string x.name] 46 0 _ rfl
     have x1 : ∀ l : Later (w1.alloc (Obj.cells #[.int .i64 x.kind, .int .i64 x.a, .int .i64 x.b, .int .i64 x.c, .int .i64 x.n, .int .i64 x.m, .int .i64 x.idx, .int .i64 x.wid, .string x.name] 46)), l.val.cell? ⟨w1.heap.size, 1, none⟩ = some (.int .i64 x.a) := box_cell w1 #[.int .i64 x.kind, .int .i64 x.a, .int .i64 x.b, .int .i64 x.c, .int .i64 x.n, .int .i64 x.m, .int .i64 x.idx, .int .i64 x.wid, .string x.name] 46 1 _ rfl
     have x2 : ∀ l : Later (w1.alloc (Obj.cells #[.int .i64 x.kind, .int .i64 x.a, .int .i64 x.b, .int .i64 x.c, .int .i64 x.n, .int .i64 x.m, .int .i64 x.idx, .int .i64 x.wid, .string x.name] 46)), l.val.cell? ⟨w1.heap.size, 2, none⟩ = some (.int .i64 x.b) := box_cell w1 #[.int .i64 x.kind, .int .i64 x.a, .int .i64 x.b, .int .i64 x.c, .int .i64 x.n, .int .i64 x.m, .int .i64 x.idx, .int .i64 x.wid, .string x.name] 46 2 _ rfl
     have x3 : ∀ l : Later (w1.alloc (Obj.cells #[.int .i64 x.kind, .int .i64 x.a, .int .i64 x.b, .int .i64 x.c, .int .i64 x.n, .int .i64 x.m, .int .i64 x.idx, .int .i64 x.wid, .string x.name] 46)), l.val.cell? ⟨w1.heap.size, 3, none⟩ = some (.int .i64 x.c) := box_cell w1 #[.int .i64 x.kind, .int .i64 x.a, .int .i64 x.b, .int .i64 x.c, .int .i64 x.n, .int .i64 x.m, .int .i64 x.idx, .int .i64 x.wid, .string x.name] 46 3 _ rfl
     clear q0 q1 q2 q3 q4 q5 q6 q7 q8 cb0
     generalize w1.alloc (Obj.cells #[.int .i64 x.kind, .int .i64 x.a, .int .i64 x.b, .int .i64 x.c, .int .i64 x.n, .int .i64 x.m, .int .i64 x.idx, .int .i64 x.wid, .string x.name] 46) = w5 at *
     generalize w1.heap.size = GX at *
     have HQ := Lib.hid (show ∀ w', LaterC w5 w' → w'.cell? ⟨GX, 0, none⟩ = some (.int .i64 x.kind) ∧ w'.cell? ⟨GX, 1, none⟩ = some (.int .i64 x.a) ∧ w'.cell? ⟨GX, 2, none⟩ = some (.int .i64 x.b) ∧ w'.cell? ⟨GX, 3, none⟩ = some (.int .i64 x.c) from fun W h => by obtain ⟨v, rfl⟩ := h; exact ⟨x0 v, x1 v, x2 v, x3 v⟩)
     go_cut [32, 33, 34] (fun s l i wx => s = .slice (some ⟨w5.heap.size, 0, none⟩) pk 3 ∧ l = .int .i64 pk ∧ i = .int .i64 0 ∧ wx = (w5.alloc (Obj.cells #[.int .i64 x.a, .int .i64 x.b, .int .i64 x.c] 3)).drew)
     case first =>
      go_region_held3 (fun w' => w'.cell? ⟨GX, 0, none⟩ = some (.int .i64 x.kind) ∧ w'.cell? ⟨GX, 1, none⟩ = some (.int .i64 x.a) ∧ w'.cell? ⟨GX, 2, none⟩ = some (.int .i64 x.b) ∧ w'.cell? ⟨GX, 3, none⟩ = some (.int .i64 x.c)) ((refine HQ.out _ ?_; repeat (first | exact LaterC.refl _ | refine LaterC.drew' ?_ | refine LaterC.alloc' ?_ _))) (first | (go_at_call 63; refine (parts_same _ _).mono ?_; rintro e w' ⟨rfl, rfl⟩; rw [HPN.out]))
      all_goals go_wp2
      all_goals go_meet
      all_goals (case rel => exact ⟨rfl, rfl, rfl, rfl⟩)
     case rest =>
      obtain ⟨rfl, rfl, rfl, rfl⟩ := hcut
      have HP6 := Lib.hid (show OwnB (w5.alloc (Obj.cells #[.int .i64 x.a, .int .i64 x.b, .int .i64 x.c] 3)).drew w5.heap.size 3 #[.int .i64 x.a, .int .i64 x.b, .int .i64 x.c] from OwnB.new w5 3 #[.int .i64 x.a, .int .i64 x.b, .int .i64 x.c])
      have HR6 := Lib.hid (HR2.out.below (show Below w5.heap.size w5 (w5.alloc (Obj.cells #[.int .i64 x.a, .int .i64 x.b, .int .i64 x.c] 3)).drew from (box_below _ _ _).drew))
      have HNE := Lib.hid (show w5.heap.size ≠ g from fun e => by have := HR2.out.2.1.lt; omega)
      generalize (w5.alloc (Obj.cells #[.int .i64 x.a, .int .i64 x.b, .int .i64 x.c] 3)).drew = w6 at *
      generalize w5.heap.size = GP at *
      clear x0 x1 x2 x3 HR HR2
      go_wp2
      go_loopw [34] (fun i wi => ∃ (m : Nat) (L' : List Bool), m ≤ pk ∧ i = .int .i64 m ∧ Hid (RunK M W0 g o mb mk s0 s1 s2 a L w L' wi ∧ OwnB wi GP 3 #[.int .i64 x.a, .int .i64 x.b, .int .i64 x.c] ∧ ∀ j, j < m → tt L' (x.part j).toNat)) (fun i _ => pk - (intOf i).toNat)
      case atStart => exact ⟨0, _, Nat.zero_le _, rfl, Lib.hid ⟨HR6.out, HP6.out, fun j hj => absurd hj (Nat.not_lt_zero _)⟩⟩
      case round =>
       obtain ⟨m, L', hm, rfl, HI⟩ := hrel
       by_cases hlm : m < pk
       · have hm3 : m < 3 := by omega
         have hmk : (m : Int) < pk := by omega
         have hin := HDN.out m hm3 (by rw [HPN.out]; omega)
         have hpm : wr.cell? ⟨GP, m, none⟩ = some (.int .i64 (x.part m)) := (HI.out.2.1.cell m).trans (part_cell x hm3)
         obtain ⟨pp, hpp⟩ : ∃ pp, x.part m = pp := ⟨_, rfl⟩
         rw [hpp] at hpm hin
         obtain ⟨p, rfl⟩ := Int.eq_ofNat_of_zero_le hin.1
         have hpn : p < n := by omega
         have HSU := Lib.hid (show Succ M a p from .inl ⟨m, hm3, by rw [HX.out, HPN.out]; omega, by rw [HX.out]; exact hpp⟩)
         have HPP := Lib.hid hpp
         have ck := HI.out.1.1.ck
         clear hin hpp
         go_wp2_with fail
         refine (HIH.out L' p _ HI.out.1.2.2.1.2.2.2.2.2 HI.out.1.1 HI.out.1.2.1 HI.out.1.2.2.1.1 hpn).mono ?_
         rintro e w' ⟨L2, rfl, hbut, hown, hmp⟩
         have HI2 := Lib.hid (show RunK M W0 g o mb mk s0 s1 s2 a L w L2 w' ∧ OwnB w' GP 3 #[.int .i64 x.a, .int .i64 x.b, .int .i64 x.c] ∧ (∀ j, j < m + 1 → tt L2 (x.part j).toNat) from ⟨HI.out.1.step HSU.out hbut hown hmp, HI.out.2.1.but hbut HNE.out, fun j hj => by
          rcases Nat.lt_or_ge j m with e | e
          · exact hmp.2.1 _ (HI.out.2.2 j e)
          · obtain rfl : j = m := by omega
            rw [HPP.out, Int.toNat_natCast]
            exact hmp.2.2.1⟩)
         clear hbut hown hmp
         go_wp2
         go_roundw
         case rel => exact ⟨m + 1, L2, by omega, by go_num, HI2⟩
         case measure => simp [intOf] <;> omega
       · obtain rfl : m = pk := by omega
         have HPT := Lib.hid (show ∀ j, IsPart M.nodes a j → tt L' j from fun j ⟨m', h1, h2, h3⟩ => by
          rw [HX.out] at h2 h3
          rw [HPN.out] at h2
          have := HI.out.2.2 m' (by omega)
          rw [h3, Int.toNat_natCast] at this
          exact this)
         have HRK := Lib.hid HI.out.1
         have b1 := HRK.out.1.c1
         have b2 := HRK.out.1.c2
         have hbig := (code_q HCO.out).1
         have HLN := Lib.hid (show M.inits.length + M.nexts.length ≤ 1000 by
          unfold bigB at hbig
          simp only [Bool.or_eq_false_iff, decide_eq_false_iff_not] at hbig
          omega)
         have HA1 := Lib.hid (HRK.out.1.a1.below HRK.out.1.bl)
         have HA2 := Lib.hid (HRK.out.1.a2.below HRK.out.1.bl)
         have HGL := Lib.hid HRK.out.2.1.lt
         clear hbig HI
         obtain ⟨A1, e1, hs1, -⟩ := HA1.out
         obtain ⟨A2, e2, hs2, -⟩ := HA2.out
         subst hs1
         subst hs2
         have hba := box_below wr #[.slice A1 M.inits.length e1, .slice A2 M.nexts.length e2] 29
         have g1 : (wr.alloc (Obj.cells #[.slice A1 M.inits.length e1, .slice A2 M.nexts.length e2] 29)).cell? ⟨wr.heap.size, 0, none⟩ = some (.slice A1 M.inits.length e1) := by go_simp
         have g2 : (wr.alloc (Obj.cells #[.slice A1 M.inits.length e1, .slice A2 M.nexts.length e2] 29)).cell? ⟨wr.heap.size, 1, none⟩ = some (.slice A2 M.nexts.length e2) := by go_simp
         have hsz9 : wr.heap.size ≤ (wr.alloc (Obj.cells #[.slice A1 M.inits.length e1, .slice A2 M.nexts.length e2] 29)).heap.size := hba.size
         have HRKa := Lib.hid (HRK.out.below hba)
         have HA1a := Lib.hid (HA1.out.below hba)
         have HA2a := Lib.hid (HA2.out.below hba)
         go_wp2_with fail
         refine (ConcatB_calls wr.heap.size (.slice A1 M.inits.length e1) (.slice A2 M.nexts.length e2) M.inits M.nexts (wr.alloc (Obj.cells #[.slice A1 M.inits.length e1, .slice A2 M.nexts.length e2] 29)) HA1a.out HA2a.out g1 g2 HLN.out).mono ?_
         rintro e w' ⟨cv, rfl, hb, hge, hsl⟩
         have HRK2 := Lib.hid (HRKa.out.below hb)
         have HSC := Lib.hid hsl
         have HNG := Lib.hid (show ∀ b, cv.ownBlock = some b → b ≠ g from fun b hb' e => by have h1 := hge b hb'; have h2 := HGL.out; omega)
         clear hb hge hsl g1 g2 hba hsz9 HRKa HA1a HA2a
         obtain ⟨BA, bc, rfl, -, hbl, -⟩ := HSC.out
         have hbl2 : (M.inits ++ M.nexts).length ≤ 1000 := by rw [List.length_append]; exact HLN.out
         generalize hnb : (M.inits ++ M.nexts).length = nb at *
         have HNB := Lib.hid hnb
         clear hnb b1 b2 HA1 HA2
         go_wp2
         go_loopw [49] (fun i wi => ∃ (k : Nat) (L3 : List Bool), k ≤ nb ∧ i = .int .i64 k ∧ Hid (RunK M W0 g o mb mk s0 (.slice A1 M.inits.length e1) (.slice A2 M.nexts.length e2) a L w L3 wi ∧ SlN enBd wi (.slice BA nb bc) (M.inits ++ M.nexts) ∧ (∀ j, tt L' j → tt L3 j) ∧ ∀ j, j < k → ((M.inits ++ M.nexts).getD j Bd.zero).st = (a : Int) → tt L3 ((M.inits ++ M.nexts).getD j Bd.zero).nd.toNat)) (fun i _ => nb - (intOf i).toNat)
         case atStart => exact ⟨0, L', Nat.zero_le _, rfl, Lib.hid ⟨HRK2.out, HSC.out, fun _ h => h, fun j hj => absurd hj (Nat.not_lt_zero _)⟩⟩
         case round =>
          obtain ⟨k, L3, hk, rfl, HI⟩ := hrel
          by_cases hlt : k < nb
          · have hlt' : (k : Int) < nb := by omega
            have hget := getD_at (show k < (M.inits ++ M.nexts).length by rw [HNB.out]; exact hlt) Bd.zero
            obtain ⟨A', c', he, -, -, hAB⟩ := HI.out.2.1
            have heA : A' = BA := by injection he with h1 h2 h3; exact h1.symm
            rw [heA] at hAB
            clear he heA
            obtain ⟨bb, bo, rfl, hx⟩ := hAB k _ hget
            have hmem := List.mem_of_getElem? hget
            have hbq := binds_q HCO.out hmem
            obtain ⟨y, hy⟩ : ∃ y, (M.inits ++ M.nexts).getD k Bd.zero = y := ⟨_, rfl⟩
            rw [hy] at hx hmem hbq
            have HY := Lib.hid hy
            obtain ⟨d, hd⟩ := Int.eq_ofNat_of_zero_le hbq.2.1.1
            have hdn : d < n := by have := hbq.2.1.2; have := HN.out; omega
            have HD := Lib.hid hd
            have HMEM := Lib.hid hmem
            have p0 : wr.cell? ⟨bb, bo + k * 2, none⟩ = some (.int .i64 y.st) := hx 0 _ rfl
            have p1 : wr.cell? ⟨bb, bo + k * 2 + 1, none⟩ = some (.int .i64 (d : Int)) := (hx 1 _ rfl).trans (by rw [← hd])
            obtain ⟨s, hs⟩ : ∃ s, y.st = s := ⟨_, rfl⟩
            rw [hs] at p0
            have HS := Lib.hid hs
            clear hx hget hAB hmem hbq hy hd hs
            have hb9 := box_below wr #[.int .i64 s, .int .i64 (d : Int)] 57
            have HI9 := Lib.hid (show RunK M W0 g o mb mk s0 (.slice A1 M.inits.length e1) (.slice A2 M.nexts.length e2) a L w L3 (wr.alloc (Obj.cells #[.int .i64 s, .int .i64 (d : Int)] 57)) ∧ SlN enBd (wr.alloc (Obj.cells #[.int .i64 s, .int .i64 (d : Int)] 57)) (.slice (some ⟨bb, bo, none⟩) nb bc) (M.inits ++ M.nexts) from ⟨HI.out.1.below hb9, HI.out.2.1.below hb9⟩)
            have ck := HI9.out.1.1.ck
            clear hb9
            by_cases hsa : s = (a : Int)
            · subst hsa
              have HSU := Lib.hid (show Succ M a d from .inr ⟨y, HMEM.out, HS.out, by rw [HD.out, Int.toNat_natCast]⟩)
              go_wp2_with fail
              refine (HIH.out L3 d _ HI9.out.1.2.2.1.2.2.2.2.2 HI9.out.1.1 HI9.out.1.2.1 HI9.out.1.2.2.1.1 hdn).mono ?_
              rintro e w' ⟨L4, rfl, hbut, hown, hmp⟩
              have HI2 := Lib.hid (show RunK M W0 g o mb mk s0 (.slice A1 M.inits.length e1) (.slice A2 M.nexts.length e2) a L w L4 w' ∧ SlN enBd w' (.slice (some ⟨bb, bo, none⟩) nb bc) (M.inits ++ M.nexts) ∧ (∀ j, tt L' j → tt L4 j) ∧ (∀ j, j < k + 1 → ((M.inits ++ M.nexts).getD j Bd.zero).st = (a : Int) → tt L4 ((M.inits ++ M.nexts).getD j Bd.zero).nd.toNat) from ⟨HI9.out.1.step HSU.out hbut hown hmp, HI9.out.2.but hbut HNG.out, fun j hj => hmp.2.1 _ (HI.out.2.2.1 j hj), fun j hj hst => by
               rcases Nat.lt_or_ge j k with e | e
               · exact hmp.2.1 _ (HI.out.2.2.2 j e hst)
               · obtain rfl : j = k := by omega
                 rw [HY.out, HD.out, Int.toNat_natCast]
                 exact hmp.2.2.1⟩)
              clear hbut hown hmp
              go_wp2
              go_roundw
              case rel => exact ⟨k + 1, L4, by omega, by go_num, HI2⟩
              case measure => simp [intOf] <;> omega
            · have hne : (s == (a : Int)) = false := beq_eq_false_iff_ne.2 hsa
              have HI2 := Lib.hid (show RunK M W0 g o mb mk s0 (.slice A1 M.inits.length e1) (.slice A2 M.nexts.length e2) a L w L3 (wr.alloc (Obj.cells #[.int .i64 s, .int .i64 (d : Int)] 57)) ∧ SlN enBd (wr.alloc (Obj.cells #[.int .i64 s, .int .i64 (d : Int)] 57)) (.slice (some ⟨bb, bo, none⟩) nb bc) (M.inits ++ M.nexts) ∧ (∀ j, tt L' j → tt L3 j) ∧ (∀ j, j < k + 1 → ((M.inits ++ M.nexts).getD j Bd.zero).st = (a : Int) → tt L3 ((M.inits ++ M.nexts).getD j Bd.zero).nd.toNat) from ⟨HI9.out.1, HI9.out.2, HI.out.2.2.1, fun j hj hst => by
               rcases Nat.lt_or_ge j k with e | e
               · exact HI.out.2.2.2 j e hst
               · obtain rfl : j = k := by omega
                 rw [HY.out, HS.out] at hst
                 exact absurd hst hsa⟩)
              clear HI HI9
              go_wp2
              go_roundw
              case rel => exact ⟨k + 1, L3, by omega, by go_num, HI2⟩
              case measure => simp [intOf] <;> omega
          · obtain rfl : nb = k := by omega
            have HP := Lib.hid (show MarkPost M g a L w (.returned (.tuple #[])) wr from ⟨L3, rfl, HI.out.1.2.2.2, HI.out.1.2.1, HI.out.1.2.2.1.done fun j hj => by
             rcases hj with hj | ⟨b, h1, h2, rfl⟩
             · exact HI.out.2.2.1 j (HPT.out j hj)
             · obtain ⟨i, hi⟩ := List.getElem?_of_mem h1
               have hil := (List.getElem?_eq_some_iff.1 hi).1
               have hg := getD_at hil Bd.zero
               rw [hi] at hg
               have hgb : b = (M.inits ++ M.nexts).getD i Bd.zero := Option.some.inj hg
               rw [hgb] at h2 ⊢
               exact HI.out.2.2.2 i (by have := HNB.out; omega) h2⟩)
            go_wp2
            exact bodyPost_end (results_none (by kernel_rfl) _ _ _) rfl HP.out
end Go.Proofs.YtdojaijnejcoiaaGreat
namespace Go.Proofs.YtdojaijnejcoiaaGreat
open Go.RowKit
def RootsK (M : Md) (k : Nat) (L : List Bool) : Prop :=
 L.length = M.nodes.length ∧ (∀ j, tt L j → Kept M j) ∧ (∀ q j, tt L q → Succ M q j → tt L j) ∧ ∀ j, j < k → tt L ((M.bads ++ M.holds).getD j 0).toNat
theorem RootsK.start (M : Md) {n : Nat} (h : n = M.nodes.length) : RootsK M 0 (List.replicate n false) :=
 ⟨by rw [List.length_replicate, h], fun j hj => absurd hj (tt_rep n j), fun q j hq => absurd hq (tt_rep n q), fun j hj => absurd hj (Nat.not_lt_zero _)⟩
theorem RootsK.step {M : Md} {k a : Nat} {L L' : List Bool} (h : RootsK M k L) (hk : Kept M a) (ha : ((M.bads ++ M.holds).getD k 0).toNat = a) (hm : MarkP M a L L') : RootsK M (k + 1) L' := by
 obtain ⟨h1, h2, h3, h4⟩ := h
 obtain ⟨g1, g2, g3, g4, g5, g6⟩ := hm
 refine ⟨g1.trans h1, g4 hk h2, fun q j hq hs => ?_, fun j hj => ?_⟩
 · by_cases e : tt L q
   · exact g2 j (h3 q j e hs)
   · exact g5 q j hq e hs
 · rcases Nat.lt_or_ge j k with e | e
   · exact g2 _ (h4 j e)
   · obtain rfl : j = k := by omega
     rw [ha]; exact g3
theorem RootsK.done {M : Md} {L : List Bool} (hc : codeN M = 0) (h : RootsK M (M.bads ++ M.holds).length L) : L = keptL M := by
 obtain ⟨h1, h2, h3, h4⟩ := h
 refine kept_eq hc h1 (kept_of h2 (fun x hx => ?_) h3)
 obtain ⟨i, hi⟩ := List.getElem?_of_mem hx
 have hil := (List.getElem?_eq_some_iff.1 hi).1
 have hg := getD_at hil (0 : Int)
 rw [hi] at hg
 have := h4 i hil
 rw [← Option.some.inj hg] at this
 exact this
theorem run_store_fn {P : Program} {w : World} {a : Addr} {m : Mode} (f : Fn) (x y : Array Value) : (store a (.func f x y) m).run P w = stored P w a (.func f x y) m := run_store P w a _ m rfl
attribute [local go_sem] run_store_fn
theorem kept_calls (mv : Value) (M : Md) (w : World) (hM : MdAt w mv M) (hco : codeN M = 0) :
 Calls Tryz.prog 23 #[mv] w fun e w' => NeedPost M w e w' := by
 have HM := Lib.hid hM
 have HCO := Lib.hid hco
 obtain ⟨s0, s1, s2, s3, s4, rfl, h0s, h1s, h2s, h3s, h4s⟩ := hM.at_
 have HS1 := Lib.hid h1s
 have HS2 := Lib.hid h2s
 have HS3 := Lib.hid h3s
 have HS4 := Lib.hid h4s
 have HS0 := Lib.hid h0s
 obtain ⟨A, c, rfl, hnc, hc', -⟩ := h0s
 have hn2 : M.nodes.length ≤ 281474976710656 := Nat.le_trans hnc hc'
 have hbig := (code_q hco).1
 have HLN := Lib.hid (show M.bads.length + M.holds.length ≤ 1000 by
  unfold bigB at hbig
  simp only [Bool.or_eq_false_iff, decide_eq_false_iff_not] at hbig
  omega)
 have HST := Lib.hid (RootsK.start M (n := M.nodes.length) rfl)
 clear hM hco h1s h2s h3s h4s hnc hc' hbig
 unfold NeedPost
 generalize hn : M.nodes.length = n at *
 have HN := Lib.hid hn
 clear hn
 have hmk := make_any (P := Tryz.prog) 41 4 (.bool false) 1 1 Tryz.underlying41 (by kernel_rfl) n (by omega) (by omega)
 simp only [Value.cells, Nat.mul_one] at hmk
 have hmf : ∀ (fn : Fn) (first cap : Array Value) (w : World), (Instr.makeFunc fn first cap).run Tryz.prog w = .ok (.func fn first cap) w := fun _ _ _ _ => rfl
 have heg : ∀ (args : Array Value) (w : World), (callFunc 62 args).run Tryz.prog w = .ok (.enter 62 args) w := fun _ _ => rfl
 go_enter Tryz.func23, Tryz.ntmps23
 have HB := Lib.hid (box_below w #[.slice A n c, s1, s2, s3, s4] 31)
 have m0 := box_cell w #[.slice A n c, s1, s2, s3, s4] 31 0 _ rfl
 have m1 := box_cell w #[.slice A n c, s1, s2, s3, s4] 31 1 _ rfl
 have m2 := box_cell w #[.slice A n c, s1, s2, s3, s4] 31 2 _ rfl
 have m3 := box_cell w #[.slice A n c, s1, s2, s3, s4] 31 3 _ rfl
 have m4 := box_cell w #[.slice A n c, s1, s2, s3, s4] 31 4 _ rfl
 go_upto_region 1 with fail
 have HSZ := Lib.hid (show (w.alloc (.cells #[.slice A n c, s1, s2, s3, s4] 31)).heap.size = w.heap.size + 1 by simp)
 generalize w.alloc (.cells #[.slice A n c, s1, s2, s3, s4] 31) = w1 at *
 replace m0 : w1.cell? ⟨w.heap.size, 0, none⟩ = some (.slice A n c) := m0 ⟨w1, Below.refl _ _⟩
 replace m1 : w1.cell? ⟨w.heap.size, 1, none⟩ = some s1 := m1 ⟨w1, Below.refl _ _⟩
 replace m2 : w1.cell? ⟨w.heap.size, 2, none⟩ = some s2 := m2 ⟨w1, Below.refl _ _⟩
 replace m3 : w1.cell? ⟨w.heap.size, 3, none⟩ = some s3 := m3 ⟨w1, Below.refl _ _⟩
 replace m4 : w1.cell? ⟨w.heap.size, 4, none⟩ = some s4 := m4 ⟨w1, Below.refl _ _⟩
 go_upto_region 2 with fail
 have HO := Lib.hid (OwnL.made w1 n)
 have HG := Lib.hid (show (w1.alloc (.cells (madeCells #[.bool false] n) 4)).heap.size = w1.heap.size + 1 by simp)
 have HB1 := Lib.hid (show Below w1.heap.size w1 (w1.alloc (.cells (madeCells #[.bool false] n) 4)) from box_below _ _ _)
 have co : ∀ u : Later ((w1.alloc (Obj.cells (madeCells #[.bool false] n) 4)).alloc (Obj.cells #[.slice (some ⟨w1.heap.size, 0, none⟩) n n] 41)), u.val.cell? ⟨w1.heap.size + 1, 0, none⟩ = some (.slice (some ⟨w1.heap.size, 0, none⟩) n n) := Later.cell (by simp)
 have HB2 := Lib.hid (show Below w1.heap.size w1 ((w1.alloc (Obj.cells (madeCells #[.bool false] n) 4)).alloc (Obj.cells #[.slice (some ⟨w1.heap.size, 0, none⟩) n n] 41)) from (HB1.out).trans ((box_below _ _ _).mono (by simp)))
 have HO2 := Lib.hid (show OwnL ((w1.alloc (Obj.cells (madeCells #[.bool false] n) 4)).alloc (Obj.cells #[.slice (some ⟨w1.heap.size, 0, none⟩) n n] 41)) w1.heap.size (List.replicate n false) from HO.out.below (box_below _ _ _))
 have HZ := Lib.hid (show ((w1.alloc (Obj.cells (madeCells #[.bool false] n) 4)).alloc (Obj.cells #[.slice (some ⟨w1.heap.size, 0, none⟩) n n] 41)).heap.size = w1.heap.size + 2 by simp)
 clear hmk
 generalize ((w1.alloc (Obj.cells (madeCells #[.bool false] n) 4)).alloc (Obj.cells #[.slice (some ⟨w1.heap.size, 0, none⟩) n n] 41)) = w3 at *
 replace co : w3.cell? ⟨w1.heap.size + 1, 0, none⟩ = some (.slice (some ⟨w1.heap.size, 0, none⟩) n n) := co ⟨w3, Below.refl _ _⟩
 go_upto_region 3 with fail
 have HO3 := Lib.hid (show OwnB (w3.alloc (Obj.cells #[Value.nilFunc] 84)) w3.heap.size 84 #[Value.nilFunc] from OwnB.new w3 84 #[Value.nilFunc])
 have hb4 : Below w3.heap.size w3 (w3.alloc (Obj.cells #[Value.nilFunc] 84)) := box_below _ _ _
 have HB4 := Lib.hid hb4
 generalize w3.alloc (Obj.cells #[Value.nilFunc] 84) = w4 at *
 have z0 : w4.cell? ⟨w3.heap.size, 0, none⟩ = some Value.nilFunc := HO3.out.cell 0
 have f0 : w4.frozen? ⟨w3.heap.size, 0, none⟩ = false := HO3.out.frozen 0
 clear hb4
 go_upto_region 4 with fail
 have HB5 := Lib.hid (show Below w3.heap.size w3 (w4.setCell ⟨w3.heap.size, 0, none⟩ (.func (.func 62) #[] #[.pointer (some ⟨w1.heap.size + 1, 0, none⟩), .pointer (some ⟨w.heap.size, 0, none⟩), .pointer (some ⟨w3.heap.size, 0, none⟩)])) from HB4.out.setCell (Nat.le_refl _) _)
 have ck := (OwnB.set HO3.out 0 (.func (.func 62) #[] #[.pointer (some ⟨w1.heap.size + 1, 0, none⟩), .pointer (some ⟨w.heap.size, 0, none⟩), .pointer (some ⟨w3.heap.size, 0, none⟩)])).cell 0
 replace ck : (w4.setCell ⟨w3.heap.size, 0, none⟩ (.func (.func 62) #[] #[.pointer (some ⟨w1.heap.size + 1, 0, none⟩), .pointer (some ⟨w.heap.size, 0, none⟩), .pointer (some ⟨w3.heap.size, 0, none⟩)])).cell? ⟨w3.heap.size, 0, none⟩ = some (.func (.func 62) #[] #[.pointer (some ⟨w1.heap.size + 1, 0, none⟩), .pointer (some ⟨w.heap.size, 0, none⟩), .pointer (some ⟨w3.heap.size, 0, none⟩)]) := ck
 generalize w4.setCell ⟨w3.heap.size, 0, none⟩ (.func (.func 62) #[] #[.pointer (some ⟨w1.heap.size + 1, 0, none⟩), .pointer (some ⟨w.heap.size, 0, none⟩), .pointer (some ⟨w3.heap.size, 0, none⟩)]) = w5 at *
 have HBW := Lib.hid (show Below w.heap.size w w5 from HB.out.trans ((HB2.out.trans (HB5.out.mono HB2.out.size)).mono HB.out.size))
 have HB15 := Lib.hid (HB2.out.trans (HB5.out.mono HB2.out.size))
 have HK := Lib.hid (show KEnv M w w1.heap.size (w1.heap.size + 1) w.heap.size w3.heap.size (.slice A n c) s1 s2 w5 from
  ⟨by rw [HN.out]; exact keepcell HB5.out co, keepcell HB15.out m0, keepcell HB15.out m1, keepcell HB15.out m2, ck, HS0.out, HS1.out, HS2.out, HBW.out, HB.out.size, by omega, by have := HSZ.out; omega, by have := HZ.out; omega⟩)
 have HOW := Lib.hid (HO2.out.below HB5.out)
 have b3 := keepcell HB15.out m3
 have b4 := keepcell HB15.out m4
 have HA3 := Lib.hid (HS3.out.below HBW.out)
 have HA4 := Lib.hid (HS4.out.below HBW.out)
 have HGE := Lib.hid (show w.heap.size ≤ w1.heap.size from HB.out.size)
 clear m0 m1 m2 m3 m4 co z0 f0 ck HO HO2 HO3 HB1 HB2 HB4 HB5 HB15 HG HZ HSZ
 generalize w3.heap.size = mk at *
 generalize w1.heap.size = g at *
 obtain ⟨A1, e1, hs1, -⟩ := HA3.out
 obtain ⟨A2, e2, hs2, -⟩ := HA4.out
 subst hs1
 subst hs2
 have hba := box_below w5 #[.slice A1 M.bads.length e1, .slice A2 M.holds.length e2] 24
 have g1 : (w5.alloc (Obj.cells #[.slice A1 M.bads.length e1, .slice A2 M.holds.length e2] 24)).cell? ⟨w5.heap.size, 0, none⟩ = some (.slice A1 M.bads.length e1) := by go_simp
 have g2 : (w5.alloc (Obj.cells #[.slice A1 M.bads.length e1, .slice A2 M.holds.length e2] 24)).cell? ⟨w5.heap.size, 1, none⟩ = some (.slice A2 M.holds.length e2) := by go_simp
 have HGL := Lib.hid HOW.out.lt
 have HR0 := Lib.hid (show KEnv M w g (g + 1) w.heap.size mk (.slice A n c) s1 s2 (w5.alloc (Obj.cells #[.slice A1 M.bads.length e1, .slice A2 M.holds.length e2] 24)) ∧ OwnL (w5.alloc (Obj.cells #[.slice A1 M.bads.length e1, .slice A2 M.holds.length e2] 24)) g (List.replicate n false) from ⟨HK.out.but (.of_below hba), HOW.out.below hba⟩)
 have hsz9 := hba.size
 have HSZ9 := Lib.hid hsz9
 have HA1a := Lib.hid (HA3.out.below hba)
 have HA2a := Lib.hid (HA4.out.below hba)
 clear hba hsz9
 go_wp2_with fail
 refine (ConcatI_calls w5.heap.size (.slice A1 M.bads.length e1) (.slice A2 M.holds.length e2) M.bads M.holds (w5.alloc (Obj.cells #[.slice A1 M.bads.length e1, .slice A2 M.holds.length e2] 24)) HA1a.out HA2a.out g1 g2 HLN.out).mono ?_
 rintro e w' ⟨cv, rfl, hb, hge, hsl⟩
 have HR1 := Lib.hid (show KEnv M w g (g + 1) w.heap.size mk (.slice A n c) s1 s2 w' ∧ OwnL w' g (List.replicate n false) from ⟨HR0.out.1.but (.of_below hb), HR0.out.2.below hb⟩)
 have HSC := Lib.hid hsl
 have HNG := Lib.hid (show ∀ b, cv.ownBlock = some b → b ≠ g from fun b hb' e => by have h1 := hge b hb'; have h2 := HGL.out; have h3 := HSZ9.out; omega)
 clear hb hge hsl g1 g2 HR0
 obtain ⟨RA, rc, rfl, -, hrl, -⟩ := HSC.out
 have hrl2 : (M.bads ++ M.holds).length ≤ 1000 := by rw [List.length_append]; exact HLN.out
 generalize hq : (M.bads ++ M.holds).length = q at *
 have HQ := Lib.hid hq
 clear hq b3 b4
 go_wp2
 go_loopw [19] (fun i wi => ∃ (k : Nat) (L : List Bool), k ≤ q ∧ i = .int .i64 k ∧ Hid (KEnv M w g (g + 1) w.heap.size mk (.slice A n c) s1 s2 wi ∧ OwnL wi g L ∧ SlN enI wi (.slice RA q rc) (M.bads ++ M.holds) ∧ RootsK M k L)) (fun i _ => q - (intOf i).toNat)
 case atStart => exact ⟨0, _, Nat.zero_le _, rfl, Lib.hid ⟨HR1.out.1, HR1.out.2, HSC.out, HST.out⟩⟩
 case round =>
  obtain ⟨k, L, hk, rfl, HI⟩ := hrel
  by_cases hlt : k < q
  · have hlt' : (k : Int) < q := by omega
    have hget := getD_at (show k < (M.bads ++ M.holds).length by rw [HQ.out]; exact hlt) (0 : Int)
    obtain ⟨A', c', he, -, -, hAB⟩ := HI.out.2.2.1
    have heA : A' = RA := by injection he with h1 h2 h3; exact h1.symm
    rw [heA] at hAB
    clear he heA
    obtain ⟨bb, bo, rfl, hx⟩ := hAB k _ hget
    have hmem := List.mem_of_getElem? hget
    have hrq := root_q HCO.out hmem
    have HKP := Lib.hid (Kept.root hmem)
    obtain ⟨a, ha⟩ := Int.eq_ofNat_of_zero_le hrq.1
    have hal : a < M.nodes.length := by omega
    have p0 : wr.cell? ⟨bb, bo + k, none⟩ = some (.int .i64 (a : Int)) := by
     have := hx 0 _ rfl
     rw [ha] at this
     simpa using this
    have HA := Lib.hid ha
    have ck := HI.out.1.ck
    clear hx hAB hget hmem hrq ha
    go_wp2_with fail
    refine (mark_calls M HCO.out w g (g + 1) w.heap.size mk (.slice A n c) s1 s2 (fls L) L a _ (Nat.le_refl _) HI.out.1 HI.out.2.1 HI.out.2.2.2.1 hal).mono ?_
    rintro e w' ⟨L2, rfl, hbut, hown, hmp⟩
    have HI2 := Lib.hid (show KEnv M w g (g + 1) w.heap.size mk (.slice A n c) s1 s2 w' ∧ OwnL w' g L2 ∧ SlN enI w' (.slice (some ⟨bb, bo, none⟩) q rc) (M.bads ++ M.holds) ∧ RootsK M (k + 1) L2 from ⟨HI.out.1.but hbut, hown, HI.out.2.2.1.but hbut HNG.out, HI.out.2.2.2.step (a := a) (by have h := HKP.out; rw [HA.out, Int.toNat_natCast] at h; exact h) (by rw [HA.out, Int.toNat_natCast]) hmp⟩)
    clear hbut hown hmp
    go_wp2
    go_roundw
    case rel => exact ⟨k + 1, L2, by omega, by go_num, HI2⟩
    case measure => simp [intOf] <;> omega
  · obtain rfl : q = k := by omega
    have HD := Lib.hid (RootsK.done HCO.out (by rw [HQ.out]; exact HI.out.2.2.2))
    have HF := Lib.hid (show Below w.heap.size w wr ∧ OwnL wr g (keptL M) from ⟨HI.out.1.bl, by rw [← HD.out]; exact HI.out.2.1⟩)
    have co := HI.out.1.co
    rw [HN.out] at co
    go_wp2
    go_ret
    exact ⟨g, rfl, HF.out.1, HGE.out, HF.out.2⟩
end Go.Proofs.YtdojaijnejcoiaaGreat
namespace Go.Proofs.YtdojaijnejcoiaaGreat
open Go.RowKit
theorem gone_calls (K g n : Nat) (L : List Bool) (y : Bd) (w : World) (hk : w.cell? ⟨K, 0, none⟩ = some (.slice (some ⟨g, 0, none⟩) n n)) (ho : OwnL w g L) (hl : L.length = n) (h0 : 0 ≤ y.st ∧ y.st < n) :
 Makes Tryz.prog 26 (#[bdV y] ++ #[.pointer (some ⟨K, 0, none⟩)]) w (.bool (!keepB L y)) := by
 obtain ⟨s, hs⟩ := Int.eq_ofNat_of_zero_le h0.1
 have hsn : s < n := by omega
 have hsn' : (s : Int) < n := by omega
 have HC := Lib.hid (ho.cell (show s < L.length by omega))
 obtain ⟨t, ht⟩ : ∃ t, L.getD s false = t := ⟨_, rfl⟩
 have HR := Lib.hid (show (!keepB L y) = !t by unfold keepB; rw [hs, Int.toNat_natCast, ht])
 rw [HR.out]
 rw [ht] at HC
 obtain ⟨st, nd⟩ := y
 replace hs : st = (s : Int) := hs
 subst hs
 have hb := box_below w #[.int .i64 (s : Int), .int .i64 nd] 57
 have HB := Lib.hid hb
 have k1 := keepcell hb hk
 have c1 := keepcell hb HC.out
 clear ho hl h0 ht hb hk HR
 show Makes Tryz.prog 26 #[.agg #[.int .i64 (s : Int), .int .i64 nd], .pointer (some ⟨K, 0, none⟩)] w (.bool (!t))
 go_enter Tryz.func26, Tryz.ntmps26
 go_wp2
 go_ret
 exact ⟨rfl, HB.out⟩
def tabK (L : List Bool) (n k : Nat) : List Int := toR L k ++ List.replicate (n - k) 0
theorem tabK_len (L : List Bool) {n k : Nat} (h : k ≤ n) : (tabK L n k).length = n := by
 unfold tabK
 rw [List.length_append, toR_len, List.length_replicate]
 omega
theorem toR_snoc (L : List Bool) (k : Nat) : toR L (k + 1) = toR L k ++ [(rk L k : Int)] := by simp [toR, List.range_succ]
theorem tabK_set (L : List Bool) {n k : Nat} (h : k < n) : (tabK L n k).set k (rk L k : Int) = tabK L n (k + 1) := by
 unfold tabK
 rw [toR_snoc, List.set_append_right _ _ (by rw [toR_len]; exact Nat.le_refl _), toR_len, Nat.sub_self, show n - k = (n - (k + 1)) + 1 by omega, List.replicate_succ, List.set_cons_zero, List.append_assoc]
 rfl
theorem tabK_at (L : List Bool) {n k j : Nat} (h : j < k) : (tabK L n k).getD j 0 = (toR L k).getD j 0 := by
 unfold tabK
 rw [List.getD_eq_getElem?_getD, List.getElem?_append_left (by rw [toR_len]; exact h), ← List.getD_eq_getElem?_getD]
theorem toR_more (L : List Bool) {k j : Nat} (h : j < k) : (toR L (k + 1)).getD j 0 = (toR L k).getD j 0 := by rw [toR_get L (by omega), toR_get L h]
theorem tabK_zero (L : List Bool) (n : Nat) : tabK L n 0 = List.replicate n 0 := by simp [tabK, toR]
theorem tabK_all (L : List Bool) (n : Nat) : tabK L n n = toR L n := by simp [tabK]
def OwnI (w : World) (g : Nat) (xs : List Int) : Prop := OwnB w g 3 (xs.map (Value.int .i64)).toArray
theorem OwnI.lt {w : World} {g : Nat} {xs : List Int} (h : OwnI w g xs) : g < w.heap.size := OwnB.lt h
theorem OwnI.below {w w' : World} {g : Nat} {xs : List Int} (h : OwnI w g xs) (hb : Below w.heap.size w w') : OwnI w' g xs := OwnB.below h hb (OwnB.lt h)
theorem OwnI.but {S : Nat → Prop} {w w' : World} {g : Nat} {xs : List Int} (h : OwnI w g xs) (hb : But S w w') (hg : ¬ S g) : OwnI w' g xs := OwnB.but h hb hg
theorem OwnI.cell {w : World} {g : Nat} {xs : List Int} (h : OwnI w g xs) {j : Nat} (hj : j < xs.length) : w.cell? ⟨g, j, none⟩ = some (.int .i64 (xs.getD j 0)) := by
 refine (OwnB.cell h j).trans ?_
 rw [List.getElem?_toArray, List.getElem?_map, getD_at hj 0]
 rfl
theorem OwnI.frozen {w : World} {g : Nat} {xs : List Int} (h : OwnI w g xs) (j : Nat) : w.frozen? ⟨g, j, none⟩ = false := OwnB.frozen h j
theorem OwnI.set {w : World} {g : Nat} {xs : List Int} (h : OwnI w g xs) (j : Nat) (y : Int) : OwnI (w.setCell ⟨g, j, none⟩ (.int .i64 y)) g (xs.set j y) := by
 have := OwnB.set h j (.int .i64 y)
 unfold OwnI
 rw [List.map_set]
 simpa using this
theorem OwnI.slN {w : World} {g n : Nat} {xs : List Int} (h : OwnI w g xs) (hn : xs.length = n) (hl : n ≤ 281474976710656) : SlN enI w (.slice (some ⟨g, 0, none⟩) n n) xs := by
 subst hn
 refine ⟨some ⟨g, 0, none⟩, xs.length, rfl, Nat.le_refl _, hl, fun i x hx => ⟨g, 0, rfl, fun f u hu => ?_⟩⟩
 have hf : f = 0 := by
  have := (List.getElem?_eq_some_iff.1 hu).1
  simpa using this
 subst hf
 have hi := (List.getElem?_eq_some_iff.1 hx).1
 have := h.cell hi
 have hg := getD_at hi 0
 rw [hx] at hg
 rw [← Option.some.inj hg] at this
 have hu' : u = .int .i64 x := by simpa using hu.symm
 subst hu'
 simpa using this
theorem OwnI.made (w : World) (n : Nat) : OwnI (w.alloc (.cells (madeCells #[.int .i64 0] n) 3)) w.heap.size (List.replicate n 0) := by
 have h := OwnB.new w 3 (madeCells #[.int .i64 0] n)
 unfold OwnI
 have e : madeCells #[Value.int .i64 0] n = ((List.replicate n (0 : Int)).map (Value.int .i64)).toArray := by
  apply Array.ext_getElem?
  intro j
  simp only [List.getElem?_toArray, List.getElem?_map]
  rcases Nat.lt_or_ge j n with g | g
  · rw [madeCells_get _ _ _ g, List.getElem?_replicate, if_pos g]; rfl
  · rw [Array.getElem?_eq_none (by rw [size_madeCells]; simpa using g), List.getElem?_eq_none (by simpa using g)]; rfl
 rw [← e]
 exact h
end Go.Proofs.YtdojaijnejcoiaaGreat
