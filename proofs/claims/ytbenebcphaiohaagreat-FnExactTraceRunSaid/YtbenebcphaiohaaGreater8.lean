import Derived.Test.YtbenebcphaiohaaGreater7
import Derived.Laws.IdiomStrings
import Derived.LoopN
import Derived.Deep.RegionHeld3
import Derived.Lib.AppendZeros
import Derived.Deep.AppendLies
import Derived.Test.YtbenebcphaiohaaGreater0
import Derived.Laws.BitsLemmas
import Derived.Deep.RegionLaw
set_option linter.unusedVariables false
set_option linter.unusedSimpArgs false
set_option maxRecDepth 8000
set_option maxHeartbeats 16000000
namespace Go.Proofs.YtbenebcphaiohaaGreat
open Go.RowKit
def OwnP (w : World) (g : Nat) (T : TypeId) (m : Nat) (W : World) : Prop := ∃ cs, OwnB W g T cs ∧ cs.size = m ∧ But (· = g) w W
theorem OwnP.set {w W : World} {g : Nat} {T : TypeId} {m : Nat} (h : OwnP w g T m W) (i : Nat) (v : Value) : OwnP w g T m (W.setCell ⟨g, i, none⟩ v) := by
 obtain ⟨cs, h1, h2, h3⟩ := h
 exact ⟨_, h1.set i v, by simp [h2], h3.setCell rfl v⟩
theorem OwnP.below {w W W' : World} {g : Nat} {T : TypeId} {m : Nat} (h : OwnP w g T m W) (hb : Below W.heap.size W W') : OwnP w g T m W' := by
 obtain ⟨cs, h1, h2, h3⟩ := h
 exact ⟨cs, h1.below hb h1.lt, h2, h3.trans (.of_below hb)⟩
theorem OwnP.cell {w W : World} {g : Nat} {T : TypeId} {m : Nat} (h : OwnP w g T m W) {i : Nat} (hi : i < m) : ∃ v, W.cell? ⟨g, i, none⟩ = some v := by
 obtain ⟨cs, h1, rfl, h3⟩ := h
 exact ⟨cs[i], by rw [h1.cell, Array.getElem?_eq_getElem hi]⟩
theorem OwnP.frozen {w W : World} {g : Nat} {T : TypeId} {m : Nat} (h : OwnP w g T m W) (i : Nat) : W.frozen? ⟨g, i, none⟩ = false := by
 obtain ⟨cs, h1, -, -⟩ := h
 exact h1.frozen i
theorem OwnP.but {w W : World} {g : Nat} {T : TypeId} {m : Nat} (h : OwnP w g T m W) : But (· = g) w W := by
 obtain ⟨cs, h1, -, h3⟩ := h
 exact h3
theorem heldIntS_calls (v : Value) (k : Int) (n : Nat) (w : World) (h : SlN enI w v (marks k n)) (h0 : 0 ≤ k) (h1 : k + n ≤ 1000000000000) :
 Makes Tryz.prog 104 #[v, .int .i64 k] w (.int .i64 (k + n)) := by
 obtain ⟨A, c, rfl, hnc, hl, hA⟩ := h
 rw [marks_length] at hnc hl ⊢
 go_enter Tryz.func104, Tryz.ntmps104
 go_wp2
 go_loopw [1, 5] (fun kk i wr => ∃ (j : Nat) (t : Int), j ≤ n ∧ i = .int .i64 j ∧ kk = .int .i64 t ∧ 0 ≤ t ∧ t ≤ 1000000000000 ∧ Hid (t = k + j) ∧ LaterC w wr) (fun _ i _ => n - (intOf i).toNat)
 case atStart => exact ⟨0, k, Nat.zero_le _, rfl, rfl, by omega, by omega, Lib.hid (by simp), LaterC.refl _⟩
 case round =>
  obtain ⟨j, t, hj, rfl, rfl, ht0, ht1, HT, ⟨u, rfl⟩⟩ := hrel
  by_cases hlt : j < n
  · obtain ⟨b, o, rfl, hx⟩ := hA j _ (marks_get hlt)
    rw [← HT.out] at hx
    have p0 := hx.int (Below.refl _ _)
    have hb2 : t + 1 ≤ 1000000000000 := by have := HT.out; omega
    clear hA hx
    go_wp2
    go_roundw
    case rel => exact ⟨j + 1, t + 1, by omega, by go_num, rfl, by omega, hb2, Lib.hid (by have := HT.out; push_cast; omega), ⟨u, rfl⟩⟩
    case measure => simp [intOf] <;> omega
  · obtain rfl : j = n := by omega
    clear hA
    go_wp2
    go_ret
    exact ⟨ret_eq (congrArg (Value.int .i64) HT.out), u.prop⟩
theorem markIntS_calls (v : Value) (xs : List Int) (k : Int) (w : World) (h : RowI w v xs) (h0 : 0 ≤ k) (h1 : k + xs.length ≤ 1000000000000) :
 Calls Tryz.prog 50 #[v, .int .i64 k] w fun e w' => e = .returned (.int .i64 (k + xs.length)) ∧ But (fun b => v.ownBlock = some b) w w' ∧ RowI w' v (marks k xs.length) := by
 obtain ⟨hl, ⟨rfl, rfl⟩ | ⟨g, cap, cur, rfl, ho, hc, hs, hf⟩⟩ := h
 · go_enter Tryz.func50, Tryz.ntmps50
   go_wp2
   refine wp_loop_rounds 1 ?_
   rw [rounds_succ]
   go_wp2
   go_ret
   exact ⟨ret_eq (congrArg (Value.int .i64) (by simp)), .refl _ _, by simp [marks], .inl ⟨rfl, rfl⟩⟩
 · generalize xs.length = n at *
   have HO := Lib.hid ho
   have HS := Lib.hid hs
   clear ho hs hf
   go_enter Tryz.func50, Tryz.ntmps50
   go_wp2
   go_loopw [1, 5] (fun kk i wr => ∃ (j : Nat) (t : Int) (cs : Array Value), j ≤ n ∧ i = .int .i64 j ∧ kk = .int .i64 t ∧ 0 ≤ t ∧ t ≤ 1000000000000 ∧ Hid (t = k + j ∧ OwnB wr g 3 cs ∧ cs.size = cap ∧ (∀ i, i < j → cs[i]? = some (.int .i64 (k + i))) ∧ But (· = g) w wr)) (fun _ i _ => n - (intOf i).toNat)
   case atStart => exact ⟨0, k, cur, Nat.zero_le _, rfl, rfl, by omega, by omega, Lib.hid ⟨by simp, HO.out, HS.out, fun i hi => absurd hi (Nat.not_lt_zero _), .refl _ _⟩⟩
   case round =>
    obtain ⟨j, t, cs, hj, rfl, rfl, ht0, ht1, HT⟩ := hrel
    by_cases hlt : j < n
    · have hjc : j < cs.size := by have := HT.out.2.2.1; omega
      have p0 : wr.cell? ⟨g, j, none⟩ = some cs[j] := by rw [HT.out.2.1.cell, Array.getElem?_eq_getElem hjc]
      have f0 := HT.out.2.1.frozen j
      have hb2 : t + 1 ≤ 1000000000000 := by have := HT.out.1; omega
      go_wp2
      go_roundw
      case rel =>
       refine ⟨j + 1, t + 1, cs.setIfInBounds j (.int .i64 t), by omega, by go_num, rfl, by omega, hb2, Lib.hid ⟨by have := HT.out.1; push_cast; omega, HT.out.2.1.set _ _, by simpa using HT.out.2.2.1, fun i hi => ?_, HT.out.2.2.2.2.setCell rfl _⟩⟩
       rcases Nat.lt_or_ge i j with g' | g'
       · rw [Array.getElem?_setIfInBounds_ne (by omega)]
         exact HT.out.2.2.2.1 i g'
       · obtain rfl : i = j := by omega
         rw [Array.getElem?_setIfInBounds_self_of_lt hjc, HT.out.1]
      case measure => simp [intOf] <;> omega
    · obtain rfl : j = n := by omega
      go_wp2
      go_ret
      refine ⟨ret_eq (congrArg (Value.int .i64) HT.out.1), HT.out.2.2.2.2.mono (fun b hb => congrArg some hb.symm), by rw [marks_length]; exact hl, .inr ⟨g, cap, cs, by rw [marks_length], HT.out.2.1, by rw [marks_length]; exact hc, HT.out.2.2.1, fun i x hx => ?_⟩⟩
      have hi : i < j := by have := (List.getElem?_eq_some_iff.1 hx).1; rwa [marks_length] at this
      rw [marks_get hi] at hx
      cases hx
      exact HT.out.2.2.2.1 i hi
theorem eqIntN_calls (v1 v2 : Value) (xs : List Int) (w : World) (h1 : SlN enI w v1 xs) (h2 : SlN enI w v2 xs) :
 Makes Tryz.prog 49 #[v1, v2] w (.bool true) := by
 obtain ⟨A, c, rfl, hnc, hc', hA⟩ := h1
 obtain ⟨B, d, rfl, -, hd', hB⟩ := h2
 generalize hN : xs.length = n at *
 have HN := Lib.hid hN
 clear hN
 have hn : n ≤ 281474976710656 := hc'
 clear hc' hd' hnc
 go_enter Tryz.func49, Tryz.ntmps49
 go_wp2
 go_loopw [5] (fun i wr => ∃ k : Nat, k ≤ n ∧ i = .int .i64 k ∧ LaterC w wr) (fun i _ => n - (intOf i).toNat)
 case atStart => exact ⟨0, Nat.zero_le _, rfl, LaterC.refl w⟩
 case round =>
  obtain ⟨k, hk, rfl, ⟨u, rfl⟩⟩ := hrel
  by_cases hlt : k < n
  · have hget := getD_at (show k < xs.length by rw [HN.out]; exact hlt) 0
    obtain ⟨b, o, rfl, hx⟩ := hA k _ hget
    obtain ⟨b', o', rfl, hy⟩ := hB k _ hget
    generalize xs.getD k 0 = x at hx hy
    have hx0 := hx.int (Below.refl _ _)
    have hy0 := hy.int (Below.refl _ _)
    clear hx hy hget hA hB
    go_wp2
    refine wp_region_later (w0 := w) (by kernel_rfl) (by kernel_rfl) ⟨_, rfl⟩ ?_
    repeat (go_big_quiet_step (fail))
    refine wpQuiet_nil ?_
    rintro _ ⟨u1, rfl⟩
    go_wp2
    go_roundw
    case rel => exact ⟨k + 1, by omega, by go_num, ⟨u1, rfl⟩⟩
    case measure => simp [intOf]; omega
  · obtain rfl : k = n := by omega
    clear hA hB
    go_wp2
    go_ret
    exact ⟨rfl, u.prop⟩
theorem markBindS_calls (g n m c : Nat) (k : Int) (w0 w : World) (h : OwnP w0 g 117 m w) (hm : n * 2 ≤ m) (hc : n ≤ c) (hn : n ≤ 1048576) (h0 : 0 ≤ k) (h1 : k + 2 * n ≤ 1000000000000) :
 Calls Tryz.prog 101 #[.slice (some ⟨g, 0, none⟩) n c, .int .i64 k] w fun e w' => e = .returned (.int .i64 (k + 2 * n)) ∧ OwnP w0 g 117 m w' := by
 have HO := Lib.hid h
 clear h
 go_enter Tryz.func101, Tryz.ntmps101
 go_wp2
 go_loopw [1, 5] (fun kk i wr => ∃ (j : Nat) (t : Int), j ≤ n ∧ i = .int .i64 j ∧ kk = .int .i64 t ∧ 0 ≤ t ∧ t ≤ 1000000000000 ∧ Hid (t = k + 2 * j ∧ OwnP w0 g 117 m wr)) (fun _ i _ => n - (intOf i).toNat)
 case atStart => exact ⟨0, k, Nat.zero_le _, rfl, rfl, by omega, by omega, Lib.hid ⟨by simp, HO.out⟩⟩
 case round =>
  obtain ⟨j, t, hj, rfl, rfl, ht0, ht1, HT⟩ := hrel
  by_cases hlt : j < n
  · obtain ⟨x0, p0⟩ := HT.out.2.cell (i := j * 2) (by omega)
    obtain ⟨x1, p1⟩ := HT.out.2.cell (i := j * 2 + 1) (by omega)
    have f0 := HT.out.2.frozen (j * 2)
    have f1 := HT.out.2.frozen (j * 2 + 1)
    have hb2 : t + 2 ≤ 1000000000000 := by have := HT.out.1; omega
    go_wp2
    go_roundw
    case rel => exact ⟨j + 1, t + 1 + 1, by omega, by go_num, rfl, by omega, by omega, Lib.hid ⟨by have := HT.out.1; push_cast; omega, (HT.out.2.set _ _).set _ _⟩⟩
    case measure => simp [intOf] <;> omega
  · obtain rfl : j = n := by omega
    go_wp2
    go_ret
    exact ⟨ret_eq (congrArg (Value.int .i64) HT.out.1), HT.out.2⟩
theorem pow_step {t d : Nat} (h : t < 10 ^ (d + 1)) : t / 10 < 10 ^ d := by
 rw [Nat.pow_succ] at h
 omega
theorem markText_calls (k : Int) (w : World) (h0 : 1 ≤ k) (h1 : k ≤ 1000000000000) :
 Calls Tryz.prog 178 #[.int .i64 k] w fun e w' => ∃ s, e = .returned (.string s) ∧ Below w.heap.size w w' := by
 obtain ⟨K, rfl⟩ := Int.eq_ofNat_of_zero_le (show 0 ≤ k by omega)
 go_enter Tryz.func178, Tryz.ntmps178
 go_wp2
 go_loopw [0, 3] (fun kk s wr => ∃ (t d : Nat) (b : ByteArray), kk = .int .i64 t ∧ s = .string b ∧ t ≤ 1000000000000 ∧ Hid (t < 10 ^ d ∧ b.size + d ≤ 20) ∧ LaterC w wr) (fun kk _ _ => (intOf kk).toNat)
 case atStart => exact ⟨K, 13, ByteArray.empty, rfl, rfl, by omega, Lib.hid ⟨by omega, by decide⟩, LaterC.refl _⟩
 case round =>
  obtain ⟨t, d, b, rfl, rfl, ht, HT, ⟨u, rfl⟩⟩ := hrel
  by_cases hlt : 0 < t
  · have hd : ∃ d', d = d' + 1 := ⟨d - 1, by
     have h1 := HT.out.1
     rcases d with _ | d'
     · simp at h1; omega
     · rfl⟩
    obtain ⟨d', rfl⟩ := hd
    have HT2 := Lib.hid (show t / 10 < 10 ^ d' ∧ (b.size + 1) + d' ≤ 20 from ⟨pow_step HT.out.1, by have := HT.out.2; omega⟩)
    have hbs : b.size ≤ 20 := by have := HT.out.2; omega
    have hcv : (convert 22 9 (.slice (some ⟨u.val.heap.size, 0, none⟩) 1 1)).run Tryz.prog (u.val.alloc (Obj.cells #[.int .u8 (48 + (t : Int) % 10)] 5)) = .ok (.string ⟨#[UInt8.ofNat (48 + t % 10)]⟩) (u.val.alloc (Obj.cells #[.int .u8 (48 + (t : Int) % 10)] 5)) := by
     refine run_convert_bytes_back _ _ _ 5 ⟨u.val.heap.size, 0, none⟩ 1 [UInt8.ofNat (48 + t % 10)] Tryz.underlying22 Tryz.underlying5 Tryz.underlying9 (fun j hj => ?_)
     obtain rfl : j = 0 := by simpa using hj
     have h1 : (48 + t % 10) % 256 = 48 + t % 10 := by omega
     show (u.val.alloc (Obj.cells #[.int .u8 (48 + (t : Int) % 10)] 5)).cell? ⟨u.val.heap.size, 0, none⟩ = _
     rw [(OwnB.new u.val 5 #[.int .u8 (48 + (t : Int) % 10)] : OwnB _ _ _ _).cell 0]
     simp [UInt8.toNat_ofNat', h1]
    go_wp2
    go_roundw
    case rel =>
     refine ⟨t / 10, d', _, by push_cast; rfl, rfl, by omega, Lib.hid ⟨HT2.out.1, ?_⟩, u.alloc _⟩
     have := HT2.out.2
     rw [ByteArray.size_append]
     show 1 + b.size + d' ≤ 20
     omega
    case measure => simp [intOf] <;> omega
  · obtain rfl : t = 0 := by omega
    have hbs : b.size ≤ 20 := by have := HT.out.2; omega
    go_wp2
    go_ret
    exact ⟨_, rfl, u.prop⟩
theorem at_own {φ : World → Prop} {W w0 : World} {g m : Nat} {T : TypeId} (h : OwnP w0 g T m W) (k : ∀ W', OwnP w0 g T m W' → φ W') : φ W := k W h
theorem markNodeS_calls (g n m c : Nat) (k : Int) (w0 w : World) (h : OwnP w0 g 38 m w) (hm : n * 9 ≤ m) (hc : n ≤ c) (hn : n ≤ 1048576) (h0 : 1 ≤ k) (h1 : k + 9 * n ≤ 1000000000000) :
 Calls Tryz.prog 100 #[.slice (some ⟨g, 0, none⟩) n c, .int .i64 k] w fun e w' => e = .returned (.int .i64 (k + 9 * n)) ∧ OwnP w0 g 38 m w' := by
 have HO := Lib.hid h
 clear h
 go_enter Tryz.func100, Tryz.ntmps100
 go_wp2
 go_loopw [1, 5] (fun kk i wr => ∃ (j : Nat) (t : Int), j ≤ n ∧ i = .int .i64 j ∧ kk = .int .i64 t ∧ 1 ≤ t ∧ t ≤ 1000000000000 ∧ Hid (t = k + 9 * j ∧ OwnP w0 g 38 m wr)) (fun _ i _ => n - (intOf i).toNat)
 case atStart => exact ⟨0, k, Nat.zero_le _, rfl, rfl, by omega, by omega, Lib.hid ⟨by simp, HO.out⟩⟩
 case round =>
  obtain ⟨j, t, hj, rfl, rfl, ht0, ht1, HT⟩ := hrel
  by_cases hlt : j < n
  · obtain ⟨x0, p0⟩ := HT.out.2.cell (i := j * 9) (by omega)
    obtain ⟨x1, p1⟩ := HT.out.2.cell (i := j * 9 + 1) (by omega)
    obtain ⟨x2, p2⟩ := HT.out.2.cell (i := j * 9 + 2) (by omega)
    obtain ⟨x3, p3⟩ := HT.out.2.cell (i := j * 9 + 3) (by omega)
    obtain ⟨x4, p4⟩ := HT.out.2.cell (i := j * 9 + 4) (by omega)
    obtain ⟨x5, p5⟩ := HT.out.2.cell (i := j * 9 + 5) (by omega)
    obtain ⟨x6, p6⟩ := HT.out.2.cell (i := j * 9 + 6) (by omega)
    obtain ⟨x7, p7⟩ := HT.out.2.cell (i := j * 9 + 7) (by omega)
    have f0 := HT.out.2.frozen (j * 9)
    have f1 := HT.out.2.frozen (j * 9 + 1)
    have f2 := HT.out.2.frozen (j * 9 + 2)
    have f3 := HT.out.2.frozen (j * 9 + 3)
    have f4 := HT.out.2.frozen (j * 9 + 4)
    have f5 := HT.out.2.frozen (j * 9 + 5)
    have f6 := HT.out.2.frozen (j * 9 + 6)
    have f7 := HT.out.2.frozen (j * 9 + 7)
    have hb2 : t + 9 ≤ 1000000000000 := by have := HT.out.1; omega
    go_upto_region 20 with fail
    refine at_own (w0 := w0) (g := g) (T := 38) (m := m) ?_ ?_
    · repeat (first | with_reducible exact HT.out.2 | with_reducible refine OwnP.set ?_ _ _)
    intro W8 h8
    have H8 := Lib.hid h8
    clear h8 p0 p1 p2 p3 p4 p5 p6 p7 f0 f1 f2 f3 f4 f5 f6 f7
    go_wp2_with (go_at_call 178; refine (markText_calls _ _ (by omega) (by omega)).mono ?_; rintro e w' ⟨s, rfl, hb⟩; have H9 := Lib.hid (H8.out.below hb); obtain ⟨x8, p8⟩ := H9.out.cell (i := j * 9 + 8) (by omega); have f8 := H9.out.frozen (j * 9 + 8); clear hb)
    go_roundw
    case rel => exact ⟨j + 1, _, by omega, by go_num, rfl, by omega, by omega, Lib.hid ⟨by have := HT.out.1; push_cast; omega, H9.out.set _ _⟩⟩
    case measure => simp [intOf] <;> omega
  · obtain rfl : j = n := by omega
    go_wp2
    go_ret
    exact ⟨ret_eq (congrArg (Value.int .i64) HT.out.1), HT.out.2⟩
theorem fresh_own {α : Type} {E : En α} {T : TypeId} {wa w W : World} {g : Nat} {xs : List α} {S : Nat → Prop} (f : FreshG E T wa w g xs) (hb : But S w W) (hg : ¬ S g) : OwnP W g T (xs.length * E.sz) W := by
 obtain ⟨cs, -, ho, hs, -⟩ := f
 exact ⟨cs, ho.but hb hg, hs, .refl _ _⟩
theorem FreshG.rowI {wa w : World} {g : Nat} {xs : List Int} (f : FreshG enI 3 wa w g xs) (hl : xs.length ≤ 281474976710656) : RowI w (slOf g xs) xs := by
 obtain ⟨cs, -, ho, hs, hf⟩ := f
 refine ⟨hl, .inr ⟨g, xs.length, cs, rfl, ho, Nat.le_refl _, by simpa using hs, fun i x hx => ?_⟩⟩
 have := hf i x (List.getElem?_eq_some_iff.1 hx).1 hx 0 _ rfl
 simpa using this
theorem but_step {w wi wj : World} {g0 g h : Nat} (hi : But (fun b => g0 ≤ b ∧ b < g) w wi) (hj : But (· = g) wi wj) (h0 : g0 ≤ g) (hg : g < h) : But (fun b => g0 ≤ b ∧ b < h) w wj :=
 (hi.mono fun b hb => ⟨hb.1, by omega⟩).trans (hj.mono fun b hb => by subst hb; exact ⟨h0, hg⟩)
theorem markModel_le (M : Md) {wa : World} (w : World) (g0 g1 g2 g3 g4 : Nat) (hlen : M.nodes.length ≤ 1048576 ∧ M.inits.length ≤ 1048576 ∧ M.nexts.length ≤ 1048576 ∧ M.bads.length ≤ 1048576 ∧ M.holds.length ≤ 1048576) (hx : g0 < g1 ∧ g1 < g2 ∧ g2 < g3 ∧ g3 < g4)
 (f0 : FreshG enNd 38 wa w g0 M.nodes) (f1 : FreshG enBd 117 wa w g1 M.inits) (f2 : FreshG enBd 117 wa w g2 M.nexts) (f3 : FreshG enI 3 wa w g3 M.bads) (f4 : FreshG enI 3 wa w g4 M.holds) :
 Calls Tryz.prog 27 #[.agg #[slOf g0 M.nodes, slOf g1 M.inits, slOf g2 M.nexts, slOf g3 M.bads, slOf g4 M.holds], .int .i64 1] w fun e w' => ∃ r, e = .returned (.int .i64 r) ∧ (0 ≤ r ∧ r ≤ 100000000) ∧ But (fun b => g0 ≤ b ∧ b ≤ g4) w w' := by
 have HF := Lib.hid (show _ ∧ _ ∧ _ ∧ _ ∧ _ from ⟨f0, f1, f2, f3, f4⟩)
 have HX := Lib.hid hx
 have HLT := Lib.hid (show g4 < w.heap.size from f4.lt)
 obtain ⟨l0, l1, l2, l3, l4⟩ := hlen
 clear f0 f1 f2 f3 f4 hx
 go_enter Tryz.func27, Tryz.ntmps27
 have b0 := box_cell w #[slOf g0 M.nodes, slOf g1 M.inits, slOf g2 M.nexts, slOf g3 M.bads, slOf g4 M.holds] 27 0 _ rfl
 have b1 := box_cell w #[slOf g0 M.nodes, slOf g1 M.inits, slOf g2 M.nexts, slOf g3 M.bads, slOf g4 M.holds] 27 1 _ rfl
 have b2 := box_cell w #[slOf g0 M.nodes, slOf g1 M.inits, slOf g2 M.nexts, slOf g3 M.bads, slOf g4 M.holds] 27 2 _ rfl
 have b3 := box_cell w #[slOf g0 M.nodes, slOf g1 M.inits, slOf g2 M.nexts, slOf g3 M.bads, slOf g4 M.holds] 27 3 _ rfl
 have b4 := box_cell w #[slOf g0 M.nodes, slOf g1 M.inits, slOf g2 M.nexts, slOf g3 M.bads, slOf g4 M.holds] 27 4 _ rfl
 have hb := box_below w #[slOf g0 M.nodes, slOf g1 M.inits, slOf g2 M.nexts, slOf g3 M.bads, slOf g4 M.holds] 27
 go_upto_region 1 with fail
 generalize w.alloc (.cells #[slOf g0 M.nodes, slOf g1 M.inits, slOf g2 M.nexts, slOf g3 M.bads, slOf g4 M.holds] 27) = W0 at *
 have c0 : W0.cell? ⟨w.heap.size, 0, none⟩ = some (slOf g0 M.nodes) := b0 ⟨W0, Below.refl _ _⟩
 have c1 : W0.cell? ⟨w.heap.size, 1, none⟩ = some (slOf g1 M.inits) := b1 ⟨W0, Below.refl _ _⟩
 have c2 : W0.cell? ⟨w.heap.size, 2, none⟩ = some (slOf g2 M.nexts) := b2 ⟨W0, Below.refl _ _⟩
 have c3 : W0.cell? ⟨w.heap.size, 3, none⟩ = some (slOf g3 M.bads) := b3 ⟨W0, Below.refl _ _⟩
 have c4 : W0.cell? ⟨w.heap.size, 4, none⟩ = some (slOf g4 M.holds) := b4 ⟨W0, Below.refl _ _⟩
 have HB0 := Lib.hid (show But (fun b => g0 ≤ b ∧ b < g0) w W0 from .of_below hb)
 clear b0 b1 b2 b3 b4 hb
 go_upto_region 2 with (go_at_call 100; refine (markNodeS_calls g0 M.nodes.length _ _ 1 W0 W0 (fresh_own HF.out.1 HB0.out (fun h => Nat.lt_irrefl _ h.2)) (Nat.le_refl _) (Nat.le_refl _) l0 (by omega) (by omega)).mono ?_; rintro e W1 ⟨rfl, ho⟩; have HB1 := Lib.hid (but_step HB0.out ho.but (Nat.le_refl _) HX.out.1); have HO1 := Lib.hid ho.but; clear ho)
 have c1 := cell_but c1 HO1.out (by show ¬ w.heap.size = g0; have := HLT.out; have := HX.out; omega)
 have c2 := cell_but c2 HO1.out (by show ¬ w.heap.size = g0; have := HLT.out; have := HX.out; omega)
 have c3 := cell_but c3 HO1.out (by show ¬ w.heap.size = g0; have := HLT.out; have := HX.out; omega)
 have c4 := cell_but c4 HO1.out (by show ¬ w.heap.size = g0; have := HLT.out; have := HX.out; omega)
 clear c0
 generalize hk1 : (1 : Int) + 9 * (M.nodes.length : Int) = k1 at *
 have h1 : 1 ≤ k1 ∧ k1 ≤ 10000000 := by omega
 clear hk1
 go_upto_region 3 with (go_at_call 101; refine (markBindS_calls g1 M.inits.length _ _ k1 W1 W1 (fresh_own HF.out.2.1 HB1.out (fun h => Nat.lt_irrefl _ h.2)) (Nat.le_refl _) (Nat.le_refl _) l1 (by omega) (by omega)).mono ?_; rintro e W2 ⟨rfl, ho⟩; have HB2 := Lib.hid (but_step HB1.out ho.but (by have := HX.out; omega) HX.out.2.1); have HO2 := Lib.hid ho.but; clear ho)
 have c2 := cell_but c2 HO2.out (by show ¬ w.heap.size = g1; have := HLT.out; have := HX.out; omega)
 have c3 := cell_but c3 HO2.out (by show ¬ w.heap.size = g1; have := HLT.out; have := HX.out; omega)
 have c4 := cell_but c4 HO2.out (by show ¬ w.heap.size = g1; have := HLT.out; have := HX.out; omega)
 clear c1
 generalize hk2 : k1 + 2 * (M.inits.length : Int) = k2 at *
 have h2 : 1 ≤ k2 ∧ k2 ≤ 20000000 := by omega
 clear hk2 h1
 go_upto_region 4 with (go_at_call 101; refine (markBindS_calls g2 M.nexts.length _ _ k2 W2 W2 (fresh_own HF.out.2.2.1 HB2.out (fun h => Nat.lt_irrefl _ h.2)) (Nat.le_refl _) (Nat.le_refl _) l2 (by omega) (by omega)).mono ?_; rintro e W3 ⟨rfl, ho⟩; have HB3 := Lib.hid (but_step HB2.out ho.but (by have := HX.out; omega) HX.out.2.2.1); have HO3 := Lib.hid ho.but; clear ho)
 have c3 := cell_but c3 HO3.out (by show ¬ w.heap.size = g2; have := HLT.out; have := HX.out; omega)
 have c4 := cell_but c4 HO3.out (by show ¬ w.heap.size = g2; have := HLT.out; have := HX.out; omega)
 clear c2
 generalize hk3 : k2 + 2 * (M.nexts.length : Int) = k3 at *
 have h3 : 1 ≤ k3 ∧ k3 ≤ 30000000 := by omega
 clear hk3 h2
 go_upto_region 5 with (go_at_call 50; refine (markIntS_calls _ M.bads k3 W3 ((HF.out.2.2.2.1.rowI (by omega)).but HB3.out (fun b hb h => by cases hb; exact Nat.lt_irrefl _ h.2)) (by omega) (by omega)).mono ?_; rintro e W4 ⟨rfl, hbut, -⟩; have HO4 := Lib.hid (show But (· = g3) W3 W4 from hbut.mono fun b hb => by cases hb; rfl); have HB4 := Lib.hid (but_step HB3.out HO4.out (by have := HX.out; omega) HX.out.2.2.2); clear hbut)
 have c4 := cell_but c4 HO4.out (by show ¬ w.heap.size = g3; have := HLT.out; have := HX.out; omega)
 clear c3
 generalize hk4 : k3 + (M.bads.length : Int) = k4 at *
 have h4 : 1 ≤ k4 ∧ k4 ≤ 40000000 := by omega
 clear hk4 h3
 go_wp2_with (go_at_call 50; refine (markIntS_calls _ M.holds k4 W4 ((HF.out.2.2.2.2.rowI (by omega)).but HB4.out (fun b hb h => by cases hb; exact Nat.lt_irrefl _ h.2)) (by omega) (by omega)).mono ?_; rintro e W5 ⟨rfl, hbut, -⟩; have HO5 := Lib.hid (show But (· = g4) W4 W5 from hbut.mono fun b hb => by cases hb; rfl); clear hbut)
 go_ret
 exact ⟨_, rfl, ⟨by omega, by omega⟩, (but_step HB4.out HO5.out (by have := HX.out; omega) (Nat.lt_succ_self _)).mono fun b hb => ⟨hb.1, Nat.lt_succ_iff.1 hb.2⟩⟩
def VlAt (w : World) (v : Value) (L : List (List Int)) : Prop :=
 ∃ (A : Option Addr) (c : Nat), v = .slice A L.length c ∧ L.length ≤ c ∧ L.length ≤ 281474976710656 ∧ ∀ (i : Nat) (xs : List Int), L[i]? = some xs → ∃ b o sv, A = some ⟨b, o, none⟩ ∧ w.cell? ⟨b, o + i, none⟩ = some sv ∧ SlN enI w sv xs
theorem VlAt.below {w w' : World} {v : Value} {L : List (List Int)} (h : VlAt w v L) (hb : Below w.heap.size w w') : VlAt w' v L := by
 obtain ⟨A, c, hv, h1, h2, h3⟩ := h
 exact ⟨A, c, hv, h1, h2, fun i x hx => by
  obtain ⟨b, o, sv, hA, hc, hs⟩ := h3 i x hx
  exact ⟨b, o, sv, hA, (hb.cell (World.block_lt_of_cell? _ _ hc)).trans hc, hs.below hb⟩⟩
theorem VlAt.later {w : World} {v : Value} {L : List (List Int)} (h : VlAt w v L) (u : Later w) : VlAt u.val v L := h.below u.prop
def RowVs (lo : Nat) (w : World) (v : Value) (svs : List Value) (L : List (List Int)) : Prop :=
 L.length ≤ 281474976710656 ∧ svs.length = L.length ∧
 ((v = .slice none 0 0 ∧ L = []) ∨ ∃ g cap cur, v = .slice (some ⟨g, 0, none⟩) L.length cap ∧ lo ≤ g ∧ OwnB w g 40 cur ∧ L.length ≤ cap ∧ cur.size = cap ∧ ∀ (i : Nat) (sv : Value), svs[i]? = some sv → cur[i]? = some sv) ∧
 (∀ (i : Nat) (sv : Value) (xs : List Int), svs[i]? = some sv → L[i]? = some xs → RowI w sv xs ∧ ∀ b, sv.ownBlock = some b → lo ≤ b ∧ v.ownBlock ≠ some b) ∧
 (∀ (i j : Nat) (si sj : Value) (b : Nat), svs[i]? = some si → svs[j]? = some sj → i < j → si.ownBlock = some b → sj.ownBlock ≠ some b)
theorem RowVs.below {lo : Nat} {w w' : World} {v : Value} {svs : List Value} {L : List (List Int)} (h : RowVs lo w v svs L) (hb : Below w.heap.size w w') : RowVs lo w' v svs L := by
 obtain ⟨h1, h2, h3, h4, h5⟩ := h
 refine ⟨h1, h2, ?_, fun i sv xs hs hx => ⟨(h4 i sv xs hs hx).1.below hb, (h4 i sv xs hs hx).2⟩, h5⟩
 rcases h3 with h3 | ⟨g, cap, cur, hv, hlo, ho, hr⟩
 · exact .inl h3
 · exact .inr ⟨g, cap, cur, hv, hlo, ho.below hb ho.lt, hr⟩
theorem RowVs.get {lo : Nat} {w : World} {v : Value} {svs : List Value} {L : List (List Int)} (h : RowVs lo w v svs L) {i : Nat} (hi : i < L.length) : ∃ sv, svs[i]? = some sv := ⟨svs[i]'(by rw [h.2.1]; exact hi), List.getElem?_eq_getElem _⟩
theorem RowVs.vlAt {lo : Nat} {w : World} {v : Value} {svs : List Value} {L : List (List Int)} (h : RowVs lo w v svs L) : VlAt w v L := by
 have hg := fun i (hi : i < L.length) => h.get hi
 obtain ⟨h1, h2, h3, h4, h5⟩ := h
 rcases h3 with ⟨rfl, rfl⟩ | ⟨g, cap, cur, rfl, hlo, ho, hc, hs, hr⟩
 · exact ⟨none, 0, rfl, Nat.le_refl _, h1, fun i x hx => by simp at hx⟩
 · refine ⟨some ⟨g, 0, none⟩, cap, rfl, hc, h1, fun i x hx => ?_⟩
   obtain ⟨sv, hsv⟩ := hg i (List.getElem?_eq_some_iff.1 hx).1
   exact ⟨g, 0, sv, rfl, by rw [Nat.zero_add, ho.cell]; exact hr i sv hsv, (h4 i sv x hsv hx).1.slN⟩
theorem RowVs.lt {lo : Nat} {w : World} {v : Value} {svs : List Value} {L : List (List Int)} (h : RowVs lo w v svs L) {b : Nat} (hb : v.ownBlock = some b) : b < w.heap.size := by
 obtain ⟨-, -, ⟨rfl, -⟩ | ⟨g, cap, cur, rfl, -, ho, -⟩, -⟩ := h
 · cases hb
 · cases hb; exact ho.lt
def Filling (g n : Nat) (w : World) (svs : List Value) (L : List (List Int)) (k : Nat) : Prop :=
 ∃ cs, OwnB w g 40 cs ∧ cs.size = n ∧ svs.length = k ∧ (∀ (i : Nat) (sv : Value), svs[i]? = some sv → cs[i]? = some sv) ∧
 (∀ (i : Nat) (sv : Value) (xs : List Int), svs[i]? = some sv → L[i]? = some xs → RowI w sv xs ∧ ∀ b, sv.ownBlock = some b → g < b) ∧
 (∀ (i j : Nat) (si sj : Value) (b : Nat), svs[i]? = some si → svs[j]? = some sj → i < j → si.ownBlock = some b → sj.ownBlock ≠ some b)
theorem Filling.nil {w : World} {g n : Nat} {cs : Array Value} (L : List (List Int)) (h : OwnB w g 40 cs) (hs : cs.size = n) : Filling g n w [] L 0 :=
 ⟨cs, h, hs, rfl, fun i sv hi => by simp at hi, fun i sv xs hi => by simp at hi, fun i j si sj b hi => by simp at hi⟩
theorem Filling.below {w w' : World} {g n k : Nat} {svs : List Value} {L : List (List Int)} (h : Filling g n w svs L k) (hb : Below w.heap.size w w') : Filling g n w' svs L k := by
 obtain ⟨cs, h1, h2, h3, h4, h5, h6⟩ := h
 exact ⟨cs, h1.below hb h1.lt, h2, h3, h4, fun i sv xs hi hx => ⟨(h5 i sv xs hi hx).1.below hb, (h5 i sv xs hi hx).2⟩, h6⟩
theorem Filling.lt {w : World} {g n k : Nat} {svs : List Value} {L : List (List Int)} (h : Filling g n w svs L k) : g < w.heap.size := by
 obtain ⟨cs, h1, -⟩ := h
 exact h1.lt
theorem Filling.cell {w : World} {g n k : Nat} {svs : List Value} {L : List (List Int)} (h : Filling g n w svs L k) {i : Nat} (hi : i < n) : ∃ v, w.cell? ⟨g, i, none⟩ = some v := by
 obtain ⟨cs, h1, rfl, -⟩ := h
 exact ⟨cs[i], by rw [h1.cell, Array.getElem?_eq_getElem hi]⟩
theorem Filling.frozen {w : World} {g n k : Nat} {svs : List Value} {L : List (List Int)} (h : Filling g n w svs L k) (i : Nat) : w.frozen? ⟨g, i, none⟩ = false := by
 obtain ⟨cs, h1, -⟩ := h
 exact h1.frozen i
theorem snoc_get {α : Type} {l : List α} {a x : α} {i : Nat} (h : (l ++ [a])[i]? = some x) : l[i]? = some x ∨ (i = l.length ∧ x = a) := by
 rcases Nat.lt_or_ge i l.length with g | g
 · rw [List.getElem?_append_left g] at h; exact .inl h
 · rw [List.getElem?_append_right g] at h
   have := (List.getElem?_eq_some_iff.1 h).1
   have e : i = l.length := by simp at this; omega
   subst e
   simp at h
   exact .inr ⟨rfl, h.symm⟩
theorem RowI.set {w : World} {sv : Value} {xs : List Int} (h : RowI w sv xs) {p : Addr} (hp : ∀ b, sv.ownBlock = some b → p.block ≠ b) (v : Value) : RowI (w.setCell p v) sv xs :=
 h.but (S := (· = p.block)) (But.setCell (S := (· = p.block)) (But.refl _ _) rfl v) fun b hb e => hp b hb e.symm
theorem Filling.step {W w : World} {g n k : Nat} {svs : List Value} {L : List (List Int)} (h : Filling g n W svs L k) (hb : Below W.heap.size W w) (hk : k < n) {s : Value} {xs : List Int} (hx : L[k]? = some xs) (hr : RowI w s xs) (hg : ∀ b, s.ownBlock = some b → W.heap.size ≤ b) : Filling g n (w.setCell ⟨g, k, none⟩ s) (svs ++ [s]) L (k + 1) := by
 have hlt := h.lt
 have hold : ∀ (i : Nat) (sv : Value) (b : Nat), svs[i]? = some sv → i < k → sv.ownBlock = some b → b < W.heap.size := by
  obtain ⟨cs, h1, h2, h3, h4, h5, h6⟩ := h
  intro i sv b hi hik hsb
  rcases Nat.lt_or_ge i L.length with g | g
  · exact (h5 i sv _ hi (List.getElem?_eq_getElem g)).1.lt hsb
  · have := (List.getElem?_eq_some_iff.1 hx).1; omega
 obtain ⟨cs, h1, h2, h3, h4, h5, h6⟩ := h.below hb
 refine ⟨cs.setIfInBounds k s, h1.set _ _, by simpa using h2, by simp [h3], fun i sv hi => ?_, fun i sv ys hi hy => ?_, fun i j si sj b hi hj hij hbi hbj => ?_⟩
 · rcases snoc_get hi with hi | ⟨rfl, rfl⟩
   · have := (List.getElem?_eq_some_iff.1 hi).1
     rw [Array.getElem?_setIfInBounds_ne (by omega)]
     exact h4 i sv hi
   · rw [h3, Array.getElem?_setIfInBounds_self_of_lt (by omega)]
 · rcases snoc_get hi with hi | ⟨rfl, rfl⟩
   · refine ⟨(h5 i sv ys hi hy).1.set (fun b hb' => ?_) _, (h5 i sv ys hi hy).2⟩
     have := (h5 i sv ys hi hy).2 b hb'
     show g ≠ b
     omega
   · rw [h3, hx] at hy
     cases hy
     refine ⟨hr.set (fun b hb' => ?_) _, fun b hb' => ?_⟩
     · have := hg b hb'
       show g ≠ b
       omega
     · have := hg b hb'
       omega
 · rcases snoc_get hi with hi1 | ⟨hi1, hi2⟩
   · rcases snoc_get hj with hj1 | ⟨hj1, hj2⟩
     · exact h6 i j si sj b hi1 hj1 hij hbi hbj
     · have := hold i si b hi1 (by omega) hbi
       have := hg b (by rw [← hj2]; exact hbj)
       omega
   · rcases snoc_get hj with hj1 | ⟨hj1, hj2⟩
     · have := (List.getElem?_eq_some_iff.1 hj1).1; omega
     · omega
theorem Filling.done {w : World} {g n : Nat} {svs : List Value} {L : List (List Int)} (h : Filling g n w svs L n) (hn : L.length = n) (hl : n ≤ 281474976710656) : RowVs g w (.slice (some ⟨g, 0, none⟩) n n) svs L := by
 obtain ⟨cs, h1, h2, h3, h4, h5, h6⟩ := h
 subst hn
 refine ⟨hl, h3, .inr ⟨g, L.length, cs, rfl, Nat.le_refl _, h1, Nat.le_refl _, h2, h4⟩, fun i sv xs hi hx => ⟨(h5 i sv xs hi hx).1, fun b hb => ?_⟩, h6⟩
 have := (h5 i sv xs hi hx).2 b hb
 refine ⟨by omega, fun e => ?_⟩
 have e' : g = b := by simpa [Value.ownBlock] using e
 omega
theorem RowVs.mono {lo lo' : Nat} {w : World} {v : Value} {svs : List Value} {L : List (List Int)} (h : RowVs lo w v svs L) (hl : lo' ≤ lo) : RowVs lo' w v svs L := by
 obtain ⟨h1, h2, h3, h4, h5⟩ := h
 refine ⟨h1, h2, ?_, fun i sv xs hi hx => ⟨(h4 i sv xs hi hx).1, fun b hb => ⟨Nat.le_trans hl ((h4 i sv xs hi hx).2 b hb).1, ((h4 i sv xs hi hx).2 b hb).2⟩⟩, h5⟩
 rcases h3 with h3 | ⟨g, cap, cur, hv, hg, r⟩
 · exact .inl h3
 · exact .inr ⟨g, cap, cur, hv, Nat.le_trans hl hg, r⟩
def valN (i a : Int) (xs : List Int) : Bool := ((xs.length : Int) == cellsN i a) && xs.all (wokB a)
abbrev valB (x : Nd) (xs : List Int) : Bool := valN x.idx x.wid xs
def fitsB (ns : List Nd) (ps : List Int) (L : List (List Int)) : Bool := (L.length == ps.length) && (List.range L.length).all fun j => valB (ns.getD (ps.getD j 0).toNat Nd.zero) (L.getD j [])
theorem fits_yes {ns : List Nd} {ps : List Int} {L : List (List Int)} (hl : L.length = ps.length) (h : ∀ k, k < L.length → valB (ns.getD (ps.getD k 0).toNat Nd.zero) (L.getD k []) = true) : fitsB ns ps L = true := by
 unfold fitsB
 rw [Bool.and_eq_true]
 exact ⟨by simpa using hl, by rw [List.all_eq_true]; intro k hk; exact h k (by simpa using hk)⟩
theorem val_yes {i a : Int} {xs : List Int} (hl : (xs.length : Int) = cellsN i a) (h : ∀ k, k < xs.length → wokB a (xs.getD k 0) = true) : valN i a xs = true := by
 unfold valN
 rw [Bool.and_eq_true]
 refine ⟨by simpa using hl, ?_⟩
 rw [List.all_eq_true]
 intro y hy
 obtain ⟨k, hk⟩ := List.getElem?_of_mem hy
 have hlt := (List.getElem?_eq_some_iff.1 hk).1
 have := h k hlt
 rw [getD_at hlt 0] at hk
 rw [Option.some.inj hk] at this
 exact this
def InN (ps : List Int) (n : Nat) : Prop := ∀ (i : Nat) (p : Int), ps[i]? = some p → ∃ j : Nat, p = j ∧ j < n
def firstN (p : Int → Bool) : List Int → Int
 | [] => -1
 | x :: l => if p x = true then 0 else if firstN p l < 0 then -1 else firstN p l + 1
theorem ownsRow_mono {w : World} {B B' n s : Nat} {e : TypeId} {v : Value} {xs : List Value} (h : w.ownsRow B e s v n xs) (hB : B' ≤ B) : w.ownsRow B' e s v n xs := by
 refine ⟨h.1, ?_⟩
 rcases h.2 with h0 | ⟨g, cap, cur, hv, hb, r⟩
 · exact .inl h0
 · exact .inr ⟨g, cap, cur, hv, Nat.le_trans hB hb, r⟩
theorem l2Places_calls (mv : Value) (M : Md) (kind : Int) (w : World) (hM : MdAt w mv M) (hsz : M.nodes.length ≤ 1048576) :
 Calls Tryz.prog 116 #[mv, .int .i64 kind] w fun e w' => ∃ v, e = .returned v ∧ Below w.heap.size w w' ∧ w'.ownsRow w.heap.size 3 1 v (placesN kind M.nodes M.nodes.length).length ((placesN kind M.nodes M.nodes.length).map (Value.int .i64)) := by
 obtain ⟨s0, s1, s2, s3, s4, rfl, hS, -, -, -, -⟩ := hM.at_
 obtain ⟨A, c, rfl, hnc, hc', hA⟩ := hS
 clear hM
 obtain ⟨ti, hti⟩ := info_parts info_int
 have HTI := Lib.hid hti
 clear hti
 generalize hN : M.nodes.length = n at *
 have HN := Lib.hid hN
 clear hN
 have hn : n ≤ 281474976710656 := Nat.le_trans hnc hc'
 clear hc' hnc
 go_enter Tryz.func116, Tryz.ntmps116
 go_wp2
 generalize hw1 : w.alloc (Obj.cells #[.slice A n c, s1, s2, s3, s4] 27) = w1
 have hb0 : ∀ u : Later w1, u.val.cell? ⟨w.heap.size, 0, none⟩ = some (.slice A n c) := Later.cell (by rw [← hw1]; simp)
 have HB := Lib.hid (show Below w.heap.size w w1 by rw [← hw1]; exact (Below.refl _ _).alloc (Nat.le_refl _) _)
 clear hw1
 go_loopw [5, 6] (fun s i wr => ∃ (k q : Nat) (sv : Value), k ≤ n ∧ i = .int .i64 k ∧ sv = s ∧ q ≤ k ∧ Hid (wr.ownsRow w1.heap.size 3 1 sv q ((placesN kind M.nodes k).map (Value.int .i64))) ∧ LaterC w1 wr) (fun _ i _ => n - (intOf i).toNat)
 case atStart => exact ⟨0, 0, _, Nat.zero_le _, rfl, rfl, Nat.le_refl _, Lib.hid ⟨rfl, .inl ⟨rfl, rfl⟩⟩, LaterC.refl _⟩
 case round =>
  obtain ⟨k, q, sv, hk, rfl, hsv, hq, HOWN, ⟨u, rfl⟩⟩ := hrel
  subst hsv
  by_cases hlt : k < n
  · have hget := getD_at (show k < M.nodes.length by rw [HN.out]; exact hlt) Nd.zero
    obtain ⟨b, o, rfl, hx⟩ := hA k _ hget
    by_cases hkd : ((M.nodes.getD k Nd.zero).kind == kind) = true
    · have HP := Lib.hid (placesN_yes hkd)
      generalize hxe : M.nodes.getD k Nd.zero = x at hx hkd
      have p0 : ∀ l : Later w1, l.val.cell? ⟨b, o + k * 9, none⟩ = some (.int .i64 x.kind) := hx.at_ HB.out 0 _ rfl
      clear hx hget hxe hA
      have HNEWS := Lib.hid (show ∀ j u', ([.int .i64 k] : List Value)[j]? = some u' → (u.val.alloc (Obj.cells #[.int .i64 k] 3)).cell? ((⟨u.val.heap.size, 0, none⟩ : Addr).add j) = some u' from World.news_of_block (OwnB.new u.val _ _))
      have HBASE := Lib.hid (show w1.heap.size ≤ (u.val.alloc (Obj.cells #[.int .i64 k] 3)).heap.size from (u.alloc (Obj.cells #[.int .i64 k] 3)).size)
      have HOWN0 := Lib.hid (ownsRow_below HOWN.out (box_below u.val #[.int .i64 k] 3))
      go_wp2_with (at_builtin; refine wpList_append_lies _ (by rfl) _ _ _ (by rfl) w1.heap.size 3 ti _ 1 8 Tryz.underlying25 HTI.out.1 HTI.out.2.1 HTI.out.2.2.1 HTI.out.2.2.2 rfl (by omega) sv q ((placesN kind M.nodes k).map (Value.int .i64)) (by rfl) HOWN0.out ⟨u.val.heap.size, 0, none⟩ 1 1 [.int .i64 k] (by rfl) rfl HNEWS.out (by intro y hy; simp at hy; subst hy; rfl) (by omega) (by unfold maxLen; omega) (by omega) HBASE.out (u.val.heap.size + 1) (by simp) ?_; intro g' cap' wn hown2 hgrow hat hglt; have HOWN2 := Lib.hid hown2; have hL := laterC_grown (u.alloc _) HOWN0.out hgrow; obtain ⟨u2, hu2⟩ := hL; subst hu2; clear hgrow hat hglt hown2)
      go_roundw
      case rel =>
       refine ⟨k + 1, q + 1, _, by omega, by go_num, rfl, by omega, Lib.hid ?_, ⟨u2, rfl⟩⟩
       rw [HP.out, List.map_append]
       exact HOWN2.out
      case measure => simp [intOf] <;> omega
    · have hkd := eq_false_of_ne_true hkd
      have HP := Lib.hid (placesN_no hkd)
      generalize hxe : M.nodes.getD k Nd.zero = x at hx hkd
      have p0 : ∀ l : Later w1, l.val.cell? ⟨b, o + k * 9, none⟩ = some (.int .i64 x.kind) := hx.at_ HB.out 0 _ rfl
      clear hx hget hxe hA
      go_wp2
      go_roundw
      case rel =>
       refine ⟨k + 1, q, _, by omega, by go_num, rfl, by omega, Lib.hid ?_, ⟨u, rfl⟩⟩
       rw [HP.out]
       exact HOWN.out
      case measure => simp [intOf] <;> omega
  · obtain rfl : k = n := by omega
    clear hA
    go_wp2
    go_ret
    have hql : q = (placesN kind M.nodes k).length := by have := HOWN.out.1; simpa using this.symm
    subst hql
    exact ⟨_, rfl, HB.out.trans (u.prop.mono HB.out.size), ownsRow_mono HOWN.out HB.out.size⟩
theorem places_calls (mv : Value) (M : Md) (kind : Int) (w : World) (hM : MdAt w mv M) (hsz : M.nodes.length ≤ 1048576) :
 Calls Tryz.prog 127 #[mv, .int .i64 kind] w fun e w' => ∃ v, e = .returned v ∧ Below w.heap.size w w' ∧ w'.ownsRow w.heap.size 3 1 v (placesN kind M.nodes M.nodes.length).length ((placesN kind M.nodes M.nodes.length).map (Value.int .i64)) := by
 obtain ⟨s0, s1, s2, s3, s4, rfl, hS, -, -, -, -⟩ := hM.at_
 obtain ⟨A, c, rfl, hnc, hc', hA⟩ := hS
 clear hM
 obtain ⟨ti, hti⟩ := info_parts info_int
 have HTI := Lib.hid hti
 clear hti
 generalize hN : M.nodes.length = n at *
 have HN := Lib.hid hN
 clear hN
 have hn : n ≤ 281474976710656 := Nat.le_trans hnc hc'
 clear hc' hnc
 go_enter Tryz.func127, Tryz.ntmps127
 go_wp2
 generalize hw1 : w.alloc (Obj.cells #[.slice A n c, s1, s2, s3, s4] 27) = w1
 have hb0 : ∀ u : Later w1, u.val.cell? ⟨w.heap.size, 0, none⟩ = some (.slice A n c) := Later.cell (by rw [← hw1]; simp)
 have HB := Lib.hid (show Below w.heap.size w w1 by rw [← hw1]; exact (Below.refl _ _).alloc (Nat.le_refl _) _)
 clear hw1
 go_loopw [5, 11] (fun s i wr => ∃ (k q : Nat) (sv : Value), k ≤ n ∧ i = .int .i64 k ∧ sv = s ∧ q ≤ k ∧ Hid (wr.ownsRow w1.heap.size 3 1 sv q ((placesN kind M.nodes k).map (Value.int .i64))) ∧ LaterC w1 wr) (fun _ i _ => n - (intOf i).toNat)
 case atStart => exact ⟨0, 0, _, Nat.zero_le _, rfl, rfl, Nat.le_refl _, Lib.hid ⟨rfl, .inl ⟨rfl, rfl⟩⟩, LaterC.refl _⟩
 case round =>
  obtain ⟨k, q, sv, hk, rfl, hsv, hq, HOWN, ⟨u, rfl⟩⟩ := hrel
  subst hsv
  by_cases hlt : k < n
  · have hget := getD_at (show k < M.nodes.length by rw [HN.out]; exact hlt) Nd.zero
    obtain ⟨b, o, rfl, hx⟩ := hA k _ hget
    by_cases hkd : ((M.nodes.getD k Nd.zero).kind == kind) = true
    · have HP := Lib.hid (placesN_yes hkd)
      generalize hxe : M.nodes.getD k Nd.zero = x at hx hkd
      have p0 : ∀ l : Later w1, l.val.cell? ⟨b, o + k * 9, none⟩ = some (.int .i64 x.kind) := hx.at_ HB.out 0 _ rfl
      have p1 : ∀ l : Later w1, l.val.cell? ⟨b, o + k * 9 + 1, none⟩ = some (.int .i64 x.a) := hx.at_ HB.out 1 _ rfl
      have p2 : ∀ l : Later w1, l.val.cell? ⟨b, o + k * 9 + 2, none⟩ = some (.int .i64 x.b) := hx.at_ HB.out 2 _ rfl
      have p3 : ∀ l : Later w1, l.val.cell? ⟨b, o + k * 9 + 3, none⟩ = some (.int .i64 x.c) := hx.at_ HB.out 3 _ rfl
      have p4 : ∀ l : Later w1, l.val.cell? ⟨b, o + k * 9 + 4, none⟩ = some (.int .i64 x.n) := hx.at_ HB.out 4 _ rfl
      have p5 : ∀ l : Later w1, l.val.cell? ⟨b, o + k * 9 + 5, none⟩ = some (.int .i64 x.m) := hx.at_ HB.out 5 _ rfl
      have p6 : ∀ l : Later w1, l.val.cell? ⟨b, o + k * 9 + 6, none⟩ = some (.int .i64 x.idx) := hx.at_ HB.out 6 _ rfl
      have p7 : ∀ l : Later w1, l.val.cell? ⟨b, o + k * 9 + 7, none⟩ = some (.int .i64 x.wid) := hx.at_ HB.out 7 _ rfl
      have p8 : ∀ l : Later w1, l.val.cell? ⟨b, o + k * 9 + 8, none⟩ = some (.string x.name) := hx.at_ HB.out 8 _ rfl
      clear hx hget hxe hA
      go_upto_region 5 with fail
      have y0 := box_cell u.val #[.int .i64 x.kind, .int .i64 x.a, .int .i64 x.b, .int .i64 x.c, .int .i64 x.n, .int .i64 x.m, .int .i64 x.idx, .int .i64 x.wid, .string x.name] 38 0 _ rfl
      have y0 : ∀ l : Later (u.val.alloc (Obj.cells #[.int .i64 x.kind, .int .i64 x.a, .int .i64 x.b, .int .i64 x.c, .int .i64 x.n, .int .i64 x.m, .int .i64 x.idx, .int .i64 x.wid, .string x.name] 38)), l.val.cell? ⟨u.val.heap.size, 0, none⟩ = some (.int .i64 x.kind) := y0
      have HOWN1 := Lib.hid (ownsRow_below HOWN.out (box_below u.val #[.int .i64 x.kind, .int .i64 x.a, .int .i64 x.b, .int .i64 x.c, .int .i64 x.n, .int .i64 x.m, .int .i64 x.idx, .int .i64 x.wid, .string x.name] 38))
      have hL5 : LaterC w1 (u.val.alloc (Obj.cells #[.int .i64 x.kind, .int .i64 x.a, .int .i64 x.b, .int .i64 x.c, .int .i64 x.n, .int .i64 x.m, .int .i64 x.idx, .int .i64 x.wid, .string x.name] 38)) := u.alloc _
      generalize (u.val.alloc (Obj.cells #[.int .i64 x.kind, .int .i64 x.a, .int .i64 x.b, .int .i64 x.c, .int .i64 x.n, .int .i64 x.m, .int .i64 x.idx, .int .i64 x.wid, .string x.name] 38)) = w5 at *
      generalize u.val.heap.size = GX at *
      clear p0 p1 p2 p3 p4 p5 p6 p7 p8 HOWN
      have HL5 := Lib.hid hL5
      clear hL5
      refine at_world (w := w5) ?_
      intro u
      have HOWN := Lib.hid (ownsRow_below HOWN1.out u.prop)
      have HNEWS := Lib.hid (show ∀ j u', ([.int .i64 k] : List Value)[j]? = some u' → (u.val.alloc (Obj.cells #[.int .i64 k] 3)).cell? ((⟨u.val.heap.size, 0, none⟩ : Addr).add j) = some u' from World.news_of_block (OwnB.new u.val _ _))
      have HBASE := Lib.hid (show w1.heap.size ≤ (u.val.alloc (Obj.cells #[.int .i64 k] 3)).heap.size from (HL5.out.trans (u.alloc (Obj.cells #[.int .i64 k] 3))).size)
      have HOWN0 := Lib.hid (ownsRow_below HOWN.out (box_below u.val #[.int .i64 k] 3))
      go_wp2_with (at_builtin; refine wpList_append_lies _ (by rfl) _ _ _ (by rfl) w1.heap.size 3 ti _ 1 8 Tryz.underlying25 HTI.out.1 HTI.out.2.1 HTI.out.2.2.1 HTI.out.2.2.2 rfl (by omega) sv q ((placesN kind M.nodes k).map (Value.int .i64)) (by rfl) HOWN0.out ⟨u.val.heap.size, 0, none⟩ 1 1 [.int .i64 k] (by rfl) rfl HNEWS.out (by intro y hy; simp at hy; subst hy; rfl) (by omega) (by unfold maxLen; omega) (by omega) HBASE.out (u.val.heap.size + 1) (by simp) ?_; intro g' cap' wn hown2 hgrow hat hglt; have HOWN2 := Lib.hid hown2; have hL := laterC_grown (HL5.out.trans (u.alloc _)) HOWN0.out hgrow; obtain ⟨u2, hu2⟩ := hL; subst hu2; clear hgrow hat hglt hown2)
      go_roundw
      case rel =>
       refine ⟨k + 1, q + 1, _, by omega, by go_num, rfl, by omega, Lib.hid ?_, ⟨u2, rfl⟩⟩
       rw [HP.out, List.map_append]
       exact HOWN2.out
      case measure => simp [intOf] <;> omega
    · have hkd := eq_false_of_ne_true hkd
      have HP := Lib.hid (placesN_no hkd)
      generalize hxe : M.nodes.getD k Nd.zero = x at hx hkd
      have p0 : ∀ l : Later w1, l.val.cell? ⟨b, o + k * 9, none⟩ = some (.int .i64 x.kind) := hx.at_ HB.out 0 _ rfl
      have p1 : ∀ l : Later w1, l.val.cell? ⟨b, o + k * 9 + 1, none⟩ = some (.int .i64 x.a) := hx.at_ HB.out 1 _ rfl
      have p2 : ∀ l : Later w1, l.val.cell? ⟨b, o + k * 9 + 2, none⟩ = some (.int .i64 x.b) := hx.at_ HB.out 2 _ rfl
      have p3 : ∀ l : Later w1, l.val.cell? ⟨b, o + k * 9 + 3, none⟩ = some (.int .i64 x.c) := hx.at_ HB.out 3 _ rfl
      have p4 : ∀ l : Later w1, l.val.cell? ⟨b, o + k * 9 + 4, none⟩ = some (.int .i64 x.n) := hx.at_ HB.out 4 _ rfl
      have p5 : ∀ l : Later w1, l.val.cell? ⟨b, o + k * 9 + 5, none⟩ = some (.int .i64 x.m) := hx.at_ HB.out 5 _ rfl
      have p6 : ∀ l : Later w1, l.val.cell? ⟨b, o + k * 9 + 6, none⟩ = some (.int .i64 x.idx) := hx.at_ HB.out 6 _ rfl
      have p7 : ∀ l : Later w1, l.val.cell? ⟨b, o + k * 9 + 7, none⟩ = some (.int .i64 x.wid) := hx.at_ HB.out 7 _ rfl
      have p8 : ∀ l : Later w1, l.val.cell? ⟨b, o + k * 9 + 8, none⟩ = some (.string x.name) := hx.at_ HB.out 8 _ rfl
      clear hx hget hxe hA
      go_upto_region 5 with fail
      have y0 := box_cell u.val #[.int .i64 x.kind, .int .i64 x.a, .int .i64 x.b, .int .i64 x.c, .int .i64 x.n, .int .i64 x.m, .int .i64 x.idx, .int .i64 x.wid, .string x.name] 38 0 _ rfl
      have y0 : ∀ l : Later (u.val.alloc (Obj.cells #[.int .i64 x.kind, .int .i64 x.a, .int .i64 x.b, .int .i64 x.c, .int .i64 x.n, .int .i64 x.m, .int .i64 x.idx, .int .i64 x.wid, .string x.name] 38)), l.val.cell? ⟨u.val.heap.size, 0, none⟩ = some (.int .i64 x.kind) := y0
      have HOWN1 := Lib.hid (ownsRow_below HOWN.out (box_below u.val #[.int .i64 x.kind, .int .i64 x.a, .int .i64 x.b, .int .i64 x.c, .int .i64 x.n, .int .i64 x.m, .int .i64 x.idx, .int .i64 x.wid, .string x.name] 38))
      have hL5 : LaterC w1 (u.val.alloc (Obj.cells #[.int .i64 x.kind, .int .i64 x.a, .int .i64 x.b, .int .i64 x.c, .int .i64 x.n, .int .i64 x.m, .int .i64 x.idx, .int .i64 x.wid, .string x.name] 38)) := u.alloc _
      generalize (u.val.alloc (Obj.cells #[.int .i64 x.kind, .int .i64 x.a, .int .i64 x.b, .int .i64 x.c, .int .i64 x.n, .int .i64 x.m, .int .i64 x.idx, .int .i64 x.wid, .string x.name] 38)) = w5 at *
      generalize u.val.heap.size = GX at *
      clear p0 p1 p2 p3 p4 p5 p6 p7 p8 HOWN
      have HL5 := Lib.hid hL5
      clear hL5
      refine at_world (w := w5) ?_
      intro u
      have HOWN := Lib.hid (ownsRow_below HOWN1.out u.prop)
      go_wp2
      go_roundw
      case rel =>
       refine ⟨k + 1, q, _, by omega, by go_num, rfl, by omega, Lib.hid ?_, HL5.out.trans ⟨u, rfl⟩⟩
       rw [HP.out]
       exact HOWN.out
      case measure => simp [intOf] <;> omega
  · obtain rfl : k = n := by omega
    clear hA
    go_wp2
    go_ret
    have hql : q = (placesN kind M.nodes k).length := by have := HOWN.out.1; simpa using this.symm
    subst hql
    exact ⟨_, rfl, HB.out.trans (u.prop.mono HB.out.size), ownsRow_mono HOWN.out HB.out.size⟩
noncomputable def fitsK (kind : Int) (M : Md) (L : List (List Int)) : Bool := if codeN M = 0 then fitsB M.nodes (placesN kind M.nodes M.nodes.length) L else false
theorem placesN_InN (kind : Int) (l : List Nd) : InN (placesN kind l l.length) l.length := by
 intro i p h
 obtain ⟨j, h1, h2, -⟩ := placesN_in (List.mem_of_getElem? h)
 exact ⟨j, h1, h2⟩
theorem places_slN {w : World} {B : Nat} {v : Value} {kind : Int} {l : List Nd} (h : w.ownsRow B 3 1 v (placesN kind l l.length).length ((placesN kind l l.length).map (Value.int .i64))) (hl : l.length ≤ 1048576) : SlN enI w v (placesN kind l l.length) :=
 (RowI.of_owns h rfl (by have := placesN_le kind l l.length; omega)).slN
abbrev ndAt (ns : List Nd) (ps : List Int) (i : Nat) : Nd := ns.getD (ps.getD i 0).toNat Nd.zero
def bitsTo (ns : List Nd) (ps : List Int) : Nat → Int
 | 0 => 0
 | i + 1 => bitsTo ns ps i + bitsN (ndAt ns ps i).idx (ndAt ns ps i).wid
theorem bitsTo_mono (ns : List Nd) (ps : List Int) (i : Nat) : ∀ d, 0 ≤ bitsTo ns ps i ∧ bitsTo ns ps i ≤ bitsTo ns ps (i + d) := by
 have h0 : ∀ i, 0 ≤ bitsTo ns ps i := fun i => by
  induction i with
  | zero => exact Int.le_refl _
  | succ i ih => have := bitsN_bd (ndAt ns ps i).idx (ndAt ns ps i).wid; unfold bitsTo; omega
 intro d
 refine ⟨h0 i, ?_⟩
 induction d with
 | zero => exact Int.le_refl _
 | succ d ih => have := bitsN_bd (ndAt ns ps (i + d)).idx (ndAt ns ps (i + d)).wid; rw [← Nat.add_assoc, bitsTo]; omega
def stP (w : Int) (s : Int × Int) (v : Int) : Int × Int := (s.1 + v * 2 ^ s.2.toNat, s.2 + w)
def rowS (w : Int) (xs : List Int) (k : Nat) (s : Int × Int) : Int × Int := (xs.take k).foldl (stP w) s
theorem rowS_succ {w : Int} {xs : List Int} {k : Nat} {s : Int × Int} (hk : k < xs.length) : rowS w xs (k + 1) s = stP w (rowS w xs k s) (xs.getD k 0) := by
 unfold rowS
 rw [List.take_add_one, getD_at hk 0, List.foldl_append]
 rfl
def packS (ns : List Nd) (ps : List Int) (L : List (List Int)) : Nat → Int × Int
 | 0 => (0, 0)
 | i + 1 => rowS (ndAt ns ps i).wid (L.getD i []) (L.getD i []).length (packS ns ps L i)
theorem wokB_yes {w v : Int} (h : wokB w v = true) : 1 ≤ w ∧ w ≤ 16 ∧ 0 ≤ v ∧ v < 2 ^ w.toNat := by
 unfold wokB widB at h
 rw [Bool.and_eq_true] at h
 have h1 := of_inB h.1
 have h2 := of_inB h.2
 omega
theorem val_parts {i a : Int} {xs : List Int} (h : valN i a xs = true) : (xs.length : Int) = cellsN i a ∧ ∀ k, k < xs.length → wokB a (xs.getD k 0) = true := by
 unfold valN at h
 rw [Bool.and_eq_true] at h
 refine ⟨by simpa using h.1, fun k hk => ?_⟩
 exact List.all_eq_true.1 h.2 _ (List.mem_of_getElem? (getD_at hk 0))
theorem cells_bits (i a : Int) : cellsN i a * a = bitsN i a ∧ (0 < cellsN i a → sokB i a = true) ∧ 0 ≤ cellsN i a ∧ cellsN i a ≤ 4 := by
 by_cases h : sokB i a = true
 · have h1 := bitsN_yes h
   have h2 := sokB_yes h
   have h3 := pw2 h2.1 h2.2.1
   have h4 : cellsN i a = 2 ^ i.toNat := by unfold cellsN; rw [if_pos h]
   refine ⟨h1.1.symm, fun _ => h, ?_, ?_⟩ <;> omega
 · have h1 := bitsN_no (eq_false_of_ne_true h)
   rw [h1.1, h1.2]
   exact ⟨by simp, fun h => by omega, by omega, by omega⟩
theorem fits_parts {ns : List Nd} {ps : List Int} {L : List (List Int)} (h : fitsB ns ps L = true) : L.length = ps.length ∧ ∀ i, i < L.length → valB (ndAt ns ps i) (L.getD i []) = true := by
 unfold fitsB at h
 rw [Bool.and_eq_true, List.all_eq_true] at h
 exact ⟨by simpa using h.1, fun i hi => h.2 i (by simpa using hi)⟩
def Ok8 (s : Int × Int) : Prop := 0 ≤ s.2 ∧ 0 ≤ s.1 ∧ s.1 < 2 ^ s.2.toNat
theorem pow_add_i (a b : Int) (ha : 0 ≤ a) (hb : 0 ≤ b) : (2 : Int) ^ (a + b).toNat = 2 ^ a.toNat * 2 ^ b.toNat := by
 rw [Int.toNat_add ha hb, Int.pow_add]
theorem pow_pos_i (a : Int) : (1 : Int) ≤ 2 ^ a.toNat := by
 have : (0 : Int) < 2 ^ a.toNat := Int.pow_pos (by decide)
 omega
theorem pow_le_i {a : Int} (h0 : 0 ≤ a) (h : a ≤ 8) : (2 : Int) ^ a.toNat ≤ 256 := by
 have h1 := Nat.pow_le_pow_right (n := 2) (by omega) (show a.toNat ≤ 8 by omega)
 have h' : ((2 ^ a.toNat : Nat) : Int) ≤ ((2 ^ 8 : Nat) : Int) := Int.ofNat_le.2 h1
 simpa using h'
theorem st_ok {w v : Int} {s : Int × Int} (h : Ok8 s) (hw : 1 ≤ w) (h0 : 0 ≤ v) (h1 : v < 2 ^ w.toNat) : Ok8 (stP w s v) := by
 obtain ⟨ha, hb, hc⟩ := h
 have hp := pow_pos_i s.2
 refine ⟨by simp only [stP]; omega, ?_, ?_⟩
 · simp only [stP]
   have : 0 ≤ v * 2 ^ s.2.toNat := Int.mul_nonneg h0 (by omega)
   omega
 · simp only [stP]
   rw [pow_add_i _ _ ha (by omega), Int.mul_comm (2 ^ s.2.toNat)]
   have : (v + 1) * 2 ^ s.2.toNat ≤ 2 ^ w.toNat * 2 ^ s.2.toNat := Int.mul_le_mul_of_nonneg_right (by omega) (by omega)
   rw [Int.add_mul, Int.one_mul] at this
   omega
theorem row_ok {w i : Int} {xs : List Int} {s : Int × Int} (hv : valN i w xs = true) (hs : Ok8 s) : ∀ k, k ≤ xs.length → Ok8 (rowS w xs k s) ∧ (rowS w xs k s).2 = s.2 + k * w
 | 0, _ => by
   unfold rowS
   simpa using hs
 | k + 1, hk => by
   obtain ⟨h1, h2⟩ := row_ok hv hs k (by omega)
   have h3 := wokB_yes ((val_parts hv).2 k (by omega))
   rw [rowS_succ (by omega)]
   refine ⟨st_ok h1 h3.1 h3.2.2.1 h3.2.2.2, ?_⟩
   simp only [stP]
   rw [h2]
   push_cast
   rw [Int.add_mul]
   omega
theorem pack_ok {ns : List Nd} {ps : List Int} {L : List (List Int)} (h : fitsB ns ps L = true) : ∀ i, i ≤ L.length → Ok8 (packS ns ps L i) ∧ (packS ns ps L i).2 = bitsTo ns ps i
 | 0, _ => ⟨⟨Int.le_refl _, Int.le_refl _, by show (0 : Int) < 2 ^ (0 : Int).toNat; decide⟩, rfl⟩
 | i + 1, hi => by
   obtain ⟨h1, h2⟩ := pack_ok h i (by omega)
   have hv := (fits_parts h).2 i (by omega)
   obtain ⟨h3, h4⟩ := row_ok hv h1 _ (Nat.le_refl _)
   refine ⟨h3, ?_⟩
   unfold packS bitsTo
   rw [h4, h2, (val_parts hv).1, (cells_bits _ _).1]
def CellOk (w : Int) (s : Int × Int) (v : Int) : Prop := 0 ≤ s.2 ∧ s.2 + w ≤ 8 ∧ 1 ≤ w ∧ 0 ≤ s.1 ∧ s.1 < 2 ^ s.2.toNat ∧ 0 ≤ v ∧ v < 2 ^ w.toNat ∧ s.1 + v * 2 ^ s.2.toNat < 256
theorem pack_cell {ns : List Nd} {ps : List Int} {L : List (List Int)} (h : fitsB ns ps L = true) (h8 : bitsTo ns ps L.length ≤ 8) (i k : Nat) (hi : i < L.length) (hk : k < (L.getD i []).length) :
 CellOk (ndAt ns ps i).wid (rowS (ndAt ns ps i).wid (L.getD i []) k (packS ns ps L i)) ((L.getD i []).getD k 0) := by
 have hv := (fits_parts h).2 i hi
 obtain ⟨h1, h2⟩ := pack_ok h i (by omega)
 obtain ⟨⟨h3, h4, h5⟩, h6⟩ := row_ok hv h1 k (by omega)
 have h7 := wokB_yes ((val_parts hv).2 k hk)
 have hlen := (val_parts hv).1
 have hb := (cells_bits (ndAt ns ps i).idx (ndAt ns ps i).wid).1
 have hm := (bitsTo_mono ns ps (i + 1) (L.length - (i + 1))).2
 rw [show i + 1 + (L.length - (i + 1)) = L.length by omega, bitsTo, ← hb, ← hlen] at hm
 have hk1 : ((k : Int) + 1) * (ndAt ns ps i).wid ≤ ((L.getD i []).length : Int) * (ndAt ns ps i).wid := Int.mul_le_mul_of_nonneg_right (by omega) (by omega)
 rw [Int.add_mul, Int.one_mul] at hk1
 have hs8 : (rowS (ndAt ns ps i).wid (L.getD i []) k (packS ns ps L i)).2 + (ndAt ns ps i).wid ≤ 8 := by
  rw [h6, h2]
  omega
 have hst := st_ok (w := (ndAt ns ps i).wid) ⟨h3, h4, h5⟩ h7.1 h7.2.2.1 h7.2.2.2
 generalize rowS (ndAt ns ps i).wid (L.getD i []) k (packS ns ps L i) = s at *
 generalize (ndAt ns ps i).wid = w at *
 have h256 : (2 : Int) ^ (s.2 + w).toNat ≤ 256 := by
  have : (s.2 + w).toNat ≤ 8 := by omega
  have h := Nat.pow_le_pow_right (n := 2) (by omega) this
  have h' : ((2 ^ (s.2 + w).toNat : Nat) : Int) ≤ ((2 ^ 8 : Nat) : Int) := Int.ofNat_le.2 h
  simpa using h'
 exact ⟨h3, hs8, h7.1, h4, h5, h7.2.2.1, h7.2.2.2, Int.lt_of_lt_of_le hst.2.2 h256⟩
theorem bits_app (ns : List Nd) (ps qs : List Int) : ∀ i, i ≤ ps.length → bitsTo ns (ps ++ qs) i = bitsTo ns ps i
 | 0, _ => rfl
 | i + 1, hi => by
   have e : ndAt ns (ps ++ qs) i = ndAt ns ps i := by
    unfold ndAt
    rw [show (ps ++ qs).getD i 0 = ps.getD i 0 by rw [List.getD_eq_getElem?_getD, List.getElem?_append_left (by omega), ← List.getD_eq_getElem?_getD]]
   rw [bitsTo, bitsTo, bits_app ns ps qs i (by omega), e]
theorem bits_places (kind : Int) (ns : List Nd) : ∀ k, k ≤ ns.length → bitsTo ns (placesN kind ns k) (placesN kind ns k).length = allN kind (ns.take k)
 | 0, _ => by simp [placesN, bitsTo, allN]
 | k + 1, hk => by
   have ih := bits_places kind ns k (by omega)
   rw [allN_step (by omega), ← ih]
   by_cases h : ((ns.getD k Nd.zero).kind == kind) = true
   · rw [placesN_yes h, List.length_append, List.length_singleton, bitsTo, bits_app _ _ _ _ (Nat.le_refl _)]
     have e : ndAt ns (placesN kind ns k ++ [(k : Int)]) (placesN kind ns k).length = ns.getD k Nd.zero := by
      unfold ndAt
      rw [show (placesN kind ns k ++ [(k : Int)]).getD (placesN kind ns k).length 0 = (k : Int) by rw [List.getD_eq_getElem?_getD, List.getElem?_append_right (Nat.le_refl _), Nat.sub_self]; rfl]
      rfl
     rw [e]
     unfold bitsIf
     rw [if_pos (by simpa using h)]
   · have h := eq_false_of_ne_true h
     rw [placesN_no h]
     unfold bitsIf
     rw [if_neg (by simpa using h)]
     omega
theorem bits_all (kind : Int) (ns : List Nd) : bitsTo ns (placesN kind ns ns.length) (placesN kind ns ns.length).length = allN kind ns := by
 rw [bits_places kind ns _ (Nat.le_refl _), List.take_length]
theorem two_pow_pos (i : Nat) : (0 : Int) < 2 ^ i := Int.pow_pos (by decide)
theorem two_pow_le {i j : Nat} (h : i ≤ j) : (2 : Int) ^ i ≤ 2 ^ j := by
 have := Nat.pow_le_pow_right (n := 2) (by decide) h
 exact_mod_cast this
theorem wrap_i64_id {x : Int} (h0 : -9223372036854775808 ≤ x) (h1 : x ≤ 9223372036854775807) : IntKind.i64.wrap x = x := by
 rw [IntKind.wrap_i64]; omega
theorem wrap_u64_id {x : Int} (h0 : 0 ≤ x) (h1 : x ≤ 18446744073709551615) : IntKind.u64.wrap x = x := by
 simp [IntKind.wrap, IntKind.bits, IntKind.signed]; omega
theorem and_mask (x : Int) (i : Nat) (hi : i ≤ 62) : Go.bits .and .i64 x (2 ^ i - 1) = x % 2 ^ i := by
 have hpos : 0 < 2 ^ i := Nat.two_pow_pos i
 have hle : 2 ^ i ≤ 2 ^ 62 := Nat.pow_le_pow_right (by decide) hi
 have hc : ((2 : Int) ^ i - 1) = ((2 ^ i - 1 : Nat) : Int) := by
  rw [Int.natCast_sub hpos]; simp
 have e : (BitVec.ofInt 64 x &&& BitVec.ofInt 64 (2 ^ i - 1)).toNat = (x % 2 ^ i).toNat := by
  rw [hc, BitVec.ofInt_natCast, BitVec.toNat_and, BitVec.toNat_ofNat, BitVec.toNat_ofInt]
  rw [Nat.mod_eq_of_lt (a := 2 ^ i - 1) (by omega), Nat.and_two_pow_sub_one_eq_mod]
  have hdvd : (2 : Int) ^ i ∣ 2 ^ 64 := ⟨2 ^ (64 - i), by rw [← Int.pow_add]; congr 1; omega⟩
  have h1 : (x % (2 ^ 64 : Int)) % 2 ^ i = x % 2 ^ i := Int.emod_emod_of_dvd x hdvd
  have h64 : (0 : Int) ≤ x % 2 ^ 64 := Int.emod_nonneg _ (by decide)
  have h2 : (0 : Int) ≤ x % 2 ^ i := Int.emod_nonneg _ (by have := two_pow_pos i; omega)
  have h3 : (((x % ((2 ^ 64 : Nat) : Int)).toNat % 2 ^ i : Nat) : Int) = x % 2 ^ i := by
   rw [Int.natCast_emod]
   have : ((2 ^ 64 : Nat) : Int) = 2 ^ 64 := by simp
   rw [this, Int.toNat_of_nonneg h64]
   push_cast
   exact h1
  omega
 have h2 : (0 : Int) ≤ x % 2 ^ i := Int.emod_nonneg _ (by have := two_pow_pos i; omega)
 have h3 : x % 2 ^ i < 2 ^ i := Int.emod_lt_of_pos _ (two_pow_pos i)
 have h4 : (2 : Int) ^ i ≤ 2 ^ 62 := two_pow_le hi
 show IntKind.i64.wrap ((BitVec.ofInt 64 x &&& BitVec.ofInt 64 (2 ^ i - 1)).toNat : Int) = _
 rw [e, Int.toNat_of_nonneg h2]
 exact wrap_i64_id (by omega) (by omega)
theorem bits_or_nat (a b : Nat) (ha : a < 2 ^ 62) (hb : b < 2 ^ 62) : Go.bits .or .i64 a b = ((a ||| b : Nat) : Int) :=
 (bits_nat .i64 62 (by decide) (fun n h0 h1 => wrap_i64_id (by omega) (by omega)) a b ha hb).2
theorem or_shift {c y a : Int} (h4 : 0 ≤ c) (h5 : c < 2 ^ a.toNat) (h6 : 0 ≤ y) (h9 : c + y * 2 ^ a.toNat < 256) : Go.bits .or .i64 c (y * 2 ^ a.toNat) = c + y * 2 ^ a.toNat := by
 obtain ⟨C, rfl⟩ := Int.eq_ofNat_of_zero_le h4
 obtain ⟨Y, rfl⟩ := Int.eq_ofNat_of_zero_le h6
 generalize a.toNat = n at *
 have hp : ((2 ^ n : Nat) : Int) = 2 ^ n := by simp
 rw [← hp] at h5 h9 ⊢
 rw [← Int.natCast_mul] at h9 ⊢
 have hc : C < 2 ^ n := by omega
 rw [bits_or_nat C (Y * 2 ^ n) (by omega) (by omega), Nat.or_comm, Nat.mul_comm, ← Nat.two_pow_add_eq_or_of_lt hc]
 push_cast
 omega
def AccV (lo : Nat) (w : World) (v : Value) (svs : List Value) (L : List (List Int)) : Prop :=
 w.ownsRow lo 40 1 v svs.length svs ∧ svs.length = L.length ∧
 (∀ (i : Nat) (sv : Value) (xs : List Int), svs[i]? = some sv → L[i]? = some xs → RowI w sv xs ∧ ∀ b, sv.ownBlock = some b → lo ≤ b ∧ v.ownBlock ≠ some b) ∧
 (∀ (i j : Nat) (si sj : Value) (b : Nat), svs[i]? = some si → svs[j]? = some sj → i < j → si.ownBlock = some b → sj.ownBlock ≠ some b)
theorem AccV.nil (lo : Nat) (w : World) : AccV lo w (.slice none 0 0) [] [] :=
 ⟨World.ownsRow_nil w lo _ 1, rfl, fun i sv xs hi => by simp at hi, fun i j si sj b hi => by simp at hi⟩
theorem AccV.below {lo : Nat} {w w' : World} {v : Value} {svs : List Value} {L : List (List Int)} (h : AccV lo w v svs L) (hb : Below w.heap.size w w') : AccV lo w' v svs L := by
 obtain ⟨h1, h2, h3, h4⟩ := h
 exact ⟨ownsRow_below h1 hb, h2, fun i sv xs hi hx => ⟨(h3 i sv xs hi hx).1.below hb, (h3 i sv xs hi hx).2⟩, h4⟩
theorem But.of_grown {w w' : World} {row : Option Nat} (h : w.grownBy w' row) : But (fun k => some k = row) w w' := ⟨h.os, h.tape, h.output, h.size, h.block⟩
theorem AccV.snoc {lo g cap : Nat} {W W2 W3 wn : World} {v s : Value} {svs : List Value} {L : List (List Int)} {xs : List Int} (h : AccV lo W v svs L) (hb : Below W.heap.size W W2) (hr : RowI W2 s xs) (hg : ∀ b, s.ownBlock = some b → W.heap.size ≤ b) (hlo : lo ≤ W.heap.size)
 (hb3 : Below W2.heap.size W2 W3) (hown : wn.ownsRow lo 40 1 (.slice (some ⟨g, 0, none⟩) (svs.length + 1) cap) (svs.length + 1) (svs ++ [s])) (hgrow : W3.grownBy wn v.ownBlock) (hat : v.ownBlock = some g ∨ g = W3.heap.size) :
 AccV lo wn (.slice (some ⟨g, 0, none⟩) (svs.length + 1) cap) (svs ++ [s]) (L ++ [xs]) := by
 have hbut := But.of_grown hgrow
 have hb23 := hb.trans (hb3.mono hb.size)
 obtain ⟨h1, h2, h3, h4⟩ := h
 have hvl : ∀ b, v.ownBlock = some b → b < W.heap.size := fun b hb => (h1.lt b hb).2
 have hsz2 := hb.size
 have hsz3 := hb3.size
 have key : ∀ (sv : Value) (ys : List Int), RowI W3 sv ys → (∀ b, sv.ownBlock = some b → v.ownBlock ≠ some b) → RowI wn sv ys ∧ ∀ b, sv.ownBlock = some b → b ≠ g := by
  intro sv ys hr hne
  refine ⟨hr.but hbut fun b hb' e => hne b hb' e.symm, fun b hb' e => ?_⟩
  subst e
  rcases hat with e | e
  · exact hne b hb' e
  · have := hr.lt hb'; omega
 have hold : ∀ (i : Nat) (sv : Value) (b : Nat), svs[i]? = some sv → sv.ownBlock = some b → b < W.heap.size := by
  intro i sv b hi hsb
  have hil := (List.getElem?_eq_some_iff.1 hi).1
  exact (h3 i sv _ hi (List.getElem?_eq_getElem (show i < L.length by omega))).1.lt hsb
 have hnew : ∀ b, s.ownBlock = some b → v.ownBlock ≠ some b := fun b hb' e => by
  have h1 := hg b hb'
  have h2 := hvl b e
  omega
 refine ⟨by rw [List.length_append]; exact hown, by simp [h2], fun i sv ys hi hy => ?_, fun i j si sj b hi hj hij hbi hbj => ?_⟩
 · rcases snoc_get hi with hi1 | ⟨hi1, hi2⟩
   · have hil := (List.getElem?_eq_some_iff.1 hi1).1
     rw [List.getElem?_append_left (by omega)] at hy
     obtain ⟨k1, k2⟩ := h3 i sv ys hi1 hy
     obtain ⟨k3, k4⟩ := key sv ys (k1.below hb23) fun b hb' => (k2 b hb').2
     exact ⟨k3, fun b hb' => ⟨(k2 b hb').1, fun e => k4 b hb' (by simpa [Value.ownBlock] using e.symm)⟩⟩
   · subst hi1
     subst hi2
     rw [h2, List.getElem?_append_right (Nat.le_refl _), Nat.sub_self] at hy
     simp at hy
     subst hy
     obtain ⟨k3, k4⟩ := key sv xs (hr.below hb3) hnew
     exact ⟨k3, fun b hb' => ⟨Nat.le_trans hlo (hg b hb'), fun e => k4 b hb' (by simpa [Value.ownBlock] using e.symm)⟩⟩
 · rcases snoc_get hi with hi1 | ⟨hi1, hi2⟩
   · rcases snoc_get hj with hj1 | ⟨hj1, hj2⟩
     · exact h4 i j si sj b hi1 hj1 hij hbi hbj
     · have := hold i si b hi1 hbi
       have := hg b (by rw [← hj2]; exact hbj)
       omega
   · rcases snoc_get hj with hj1 | ⟨hj1, hj2⟩
     · have := (List.getElem?_eq_some_iff.1 hj1).1; omega
     · omega
theorem AccV.rowVs {lo : Nat} {w : World} {v : Value} {svs : List Value} {L : List (List Int)} (h : AccV lo w v svs L) (hl : L.length ≤ 281474976710656) : RowVs lo w v svs L := by
 obtain ⟨h1, h2, h3, h4⟩ := h
 refine ⟨hl, h2, ?_, h3, h4⟩
 rcases h1.2 with ⟨rfl, h0⟩ | ⟨g, cap, cur, rfl, hlo, hg, hc, -, hs, ht⟩
 · exact .inl ⟨rfl, List.eq_nil_of_length_eq_zero (by omega)⟩
 · refine .inr ⟨g, cap, cur, by rw [h2], hlo, hg, by omega, by rw [hs, Nat.mul_one], fun i sv hi => ?_⟩
   have hil := (List.getElem?_eq_some_iff.1 hi).1
   rw [← ht, List.getElem?_take_of_lt (by omega)] at hi
   simpa using hi
theorem AccV.mono {lo lo' : Nat} {w : World} {v : Value} {svs : List Value} {L : List (List Int)} (h : AccV lo w v svs L) (hl : lo' ≤ lo) : AccV lo' w v svs L := by
 obtain ⟨h1, h2, h3, h4⟩ := h
 exact ⟨ownsRow_mono h1 hl, h2, fun i sv xs hi hx => ⟨(h3 i sv xs hi hx).1, fun b hb => ⟨Nat.le_trans hl ((h3 i sv xs hi hx).2 b hb).1, ((h3 i sv xs hi hx).2 b hb).2⟩⟩, h4⟩
theorem info_val : (Tryz.prog.info? 40).map (fun i => (i.zero, i.size, i.bytes)) = some (some (.agg #[.slice none 0 0]), 1, 24) := by kernel_rfl
theorem RowI.one {w : World} {v : Value} {xs : List Int} (h : RowI w v xs) : v.oneCell' = true := by
 obtain ⟨-, ⟨rfl, -⟩ | ⟨g, cap, cur, rfl, -⟩⟩ := h <;> rfl
section
variable {ops : Array Oper} {o : Oper} {a : Act} {Q : Exit → Act → World → Prop}
theorem wp_append_acc {K : Act → World → Prop} (hgd : o.guard = none) (s x : Operand) (ho : o.op = .call { callee := .builtin .append, args := #[s, x], argTypes := #[29, 29] })
 (w0 W W2 W3 : World) (H : Nat) (v s' : Value) (svs : List Value) (L : List (List Int)) (xs : List Int) (hs : a.eval s = v) (hac : AccV w0.heap.size W v svs L) (hL : LaterC w0 W) (hb : Below W.heap.size W W2) (hr : RowI W2 s' xs) (hg : ∀ b, s'.ownBlock = some b → W.heap.size ≤ b)
 (hl : svs.length ≤ 1048576) (hb3 : Below W2.heap.size W2 W3) (hbox : W3.heap[H]? = some (.cells #[s'] 40 (0, 0))) (hx : a.eval x = .slice (some ⟨H, 0, none⟩) 1 1)
 (k : ∀ (v' : Value) (u : Later w0), AccV w0.heap.size u.val v' (svs ++ [s']) (L ++ [xs]) → K (a.put o.dst v') u.val) : Oper.wp Tryz.prog o a W3 K Q := by
 obtain ⟨ti, hti, hz, hsz, hby⟩ := info_parts info_val
 have hown := ownsRow_below (ownsRow_below hac.1 hb) hb3
 have hL3 : LaterC w0 W3 := laterC_step (laterC_step hL hb) hb3
 refine wp_append_lies W3 s x _ ho w0.heap.size 40 ti _ 1 24 Tryz.underlying29 hti hz hsz hby rfl (by decide) v svs.length svs hs hown ⟨H, 0, none⟩ 1 1 [s'] hx rfl (World.news_of_block hbox) (fun u hu => by simp at hu; subst hu; exact hr.one) (by decide) (by unfold maxLen; omega) (by omega) hL3.size W3.heap.size rfl ?_
 intro g cap wn hown2 hgrow hat hlt
 obtain ⟨u, hu⟩ := laterC_grown hL3 hown hgrow
 subst hu
 exact k _ u (hac.snoc hb hr hg hL.size hb3 hown2 hgrow hat)
theorem wpList_append_acc {rest : List Oper} (hgd : o.guard = none) (s x : Operand) (ho : o.op = .call { callee := .builtin .append, args := #[s, x], argTypes := #[29, 29] })
 (w0 W W2 W3 : World) (H : Nat) (v s' : Value) (svs : List Value) (L : List (List Int)) (xs : List Int) (hs : a.eval s = v) (hac : AccV w0.heap.size W v svs L) (hL : LaterC w0 W) (hb : Below W.heap.size W W2) (hr : RowI W2 s' xs) (hg : ∀ b, s'.ownBlock = some b → W.heap.size ≤ b)
 (hl : svs.length ≤ 1048576) (hb3 : Below W2.heap.size W2 W3) (hbox : W3.heap[H]? = some (.cells #[s'] 40 (0, 0))) (hx : a.eval x = .slice (some ⟨H, 0, none⟩) 1 1)
 (k : ∀ (v' : Value) (u : Later w0), AccV w0.heap.size u.val v' (svs ++ [s']) (L ++ [xs]) → wpList Tryz.prog ops Q rest (a.put o.dst v') u.val) : wpList Tryz.prog ops Q (o :: rest) a W3 :=
 wpList_plain hgd fun _ hK => wp_append_acc hgd s x ho w0 W W2 W3 H v s' svs L xs hs hac hL hb hr hg hl hb3 hbox hx fun v' u h => hK _ _ (k v' u h)
abbrev AccI (lo : Nat) (w : World) (v : Value) (xs : List Int) : Prop := w.ownsRow lo 3 1 v xs.length (xs.map (Value.int .i64))
theorem AccI.nil (lo : Nat) (w : World) : AccI lo w (.slice none 0 0) [] := World.ownsRow_nil w lo _ 1
theorem wp_append_int {K : Act → World → Prop} (hgd : o.guard = none) (s x : Operand) (ho : o.op = .call { callee := .builtin .append, args := #[s, x], argTypes := #[25, 25] })
 (lo : Nat) (W W3 : World) (H : Nat) (v : Value) (y : Int) (xs : List Int) (n : Nat) (hn : xs.length = n) (hs : a.eval s = v) (hac : AccI lo W v xs) (hlo : lo ≤ W.heap.size)
 (hl : xs.length ≤ 1048576) (hb3 : Below W.heap.size W W3) (hbox : W3.heap[H]? = some (.cells #[.int .i64 y] 3 (0, 0))) (hx : a.eval x = .slice (some ⟨H, 0, none⟩) 1 1)
 (k : ∀ (g cap : Nat) (wn : World), AccI lo wn (.slice (some ⟨g, 0, none⟩) (n + 1) cap) (xs ++ [y]) → W3.grownBy wn v.ownBlock → (v.ownBlock = some g ∨ g = W3.heap.size) → K (a.put o.dst (.slice (some ⟨g, 0, none⟩) (n + 1) cap)) wn) : Oper.wp Tryz.prog o a W3 K Q := by
 subst hn
 obtain ⟨ti, hti, hz, hsz, hby⟩ := info_parts info_int
 have hown := ownsRow_below hac hb3
 have hlo3 : lo ≤ W3.heap.size := Nat.le_trans hlo hb3.size
 refine wp_append_lies W3 s x _ ho lo 3 ti _ 1 8 Tryz.underlying25 hti hz hsz hby rfl (by decide) v xs.length (xs.map (Value.int .i64)) hs hown ⟨H, 0, none⟩ 1 1 [.int .i64 y] hx rfl (World.news_of_block hbox) (fun u hu => by simp at hu; subst hu; rfl) (by decide) (by unfold maxLen; omega) (by omega) hlo3 W3.heap.size rfl ?_
 intro g cap wn hown2 hgrow hat hlt
 refine k g cap wn ?_ hgrow hat
 unfold AccI
 rw [List.map_append, List.length_append]
 exact hown2
theorem wpList_append_int {rest : List Oper} (hgd : o.guard = none) (s x : Operand) (ho : o.op = .call { callee := .builtin .append, args := #[s, x], argTypes := #[25, 25] })
 (lo : Nat) (W W3 : World) (H : Nat) (v : Value) (y : Int) (xs : List Int) (n : Nat) (hn : xs.length = n) (hs : a.eval s = v) (hac : AccI lo W v xs) (hlo : lo ≤ W.heap.size)
 (hl : xs.length ≤ 1048576) (hb3 : Below W.heap.size W W3) (hbox : W3.heap[H]? = some (.cells #[.int .i64 y] 3 (0, 0))) (hx : a.eval x = .slice (some ⟨H, 0, none⟩) 1 1)
 (k : ∀ (g cap : Nat) (wn : World), AccI lo wn (.slice (some ⟨g, 0, none⟩) (n + 1) cap) (xs ++ [y]) → W3.grownBy wn v.ownBlock → (v.ownBlock = some g ∨ g = W3.heap.size) → wpList Tryz.prog ops Q rest (a.put o.dst (.slice (some ⟨g, 0, none⟩) (n + 1) cap)) wn) : wpList Tryz.prog ops Q (o :: rest) a W3 :=
 wpList_plain hgd fun _ hK => wp_append_int hgd s x ho lo W W3 H v y xs n hn hs hac hlo hl hb3 hbox hx fun g cap u h1 h2 h3 => hK _ _ (k g cap u h1 h2 h3)
theorem step_append_int {K : Act → World → Prop} {E : Prop} (hgd : o.guard = none) (s x : Operand) (ho : o.op = .call { callee := .builtin .append, args := #[s, x], argTypes := #[25, 25] })
 (lo : Nat) (W W3 : World) (H : Nat) (v : Value) (y : Int) (xs : List Int) (n : Nat) (hn : xs.length = n) (hs : a.eval s = v) (hac : AccI lo W v xs) (hlo : lo ≤ W.heap.size)
 (hl : xs.length ≤ 1048576) (hb3 : Below W.heap.size W W3) (hbox : W3.heap[H]? = some (.cells #[.int .i64 y] 3 (0, 0))) (hx : a.eval x = .slice (some ⟨H, 0, none⟩) 1 1)
 (k : ∀ (g cap : Nat) (wn : World), AccI lo wn (.slice (some ⟨g, 0, none⟩) (n + 1) cap) (xs ++ [y]) → W3.grownBy wn v.ownBlock → (v.ownBlock = some g ∨ g = W3.heap.size) → K (a.put o.dst (.slice (some ⟨g, 0, none⟩) (n + 1) cap)) wn) : if Region.wanted o (yielded ops a.tmps) = true then Oper.wp Tryz.prog o a W3 K Q else E := by
 have hw : Region.wanted o (yielded ops a.tmps) = true := by simp [Region.wanted, hgd]
 rw [if_pos hw]
 exact wp_append_int hgd s x ho lo W W3 H v y xs n hn hs hac hlo hl hb3 hbox hx k
end
theorem owns_but {S : Nat → Prop} {w w' : World} {base n s : Nat} {e : TypeId} {v : Value} {xs : List Value} (h : w.ownsRow base e s v n xs) (hb : But S w w') (hS : ∀ b, v.ownBlock = some b → ¬ S b) : w'.ownsRow base e s v n xs := by
 refine ⟨h.1, ?_⟩
 rcases h.2 with h0 | ⟨g, cap, cur, hv, hg, hh, r⟩
 · exact .inl h0
 · subst hv
   exact .inr ⟨g, cap, cur, rfl, hg, (hb.block g (Array.getElem?_eq_some_iff.1 hh).1 (hS g rfl)).trans hh, r⟩
theorem push_done {w2 w4 W3 wn : World} {B g cap n : Nat} {T : TypeId} {cv : Value} {ys : List Int} (hO : OwnB w4 B T #[cv]) (hL : LaterC w2 w4) (hG : w2.heap.size ≤ B) (hb3 : Below w4.heap.size w4 W3) (hne : ∀ b, cv.ownBlock = some b → B + 1 ≤ b) (hgr : W3.grownBy wn cv.ownBlock)
 (hat : cv.ownBlock = some g ∨ g = W3.heap.size) (hac : AccI (B + 1) wn (.slice (some ⟨g, 0, none⟩) n cap) ys) :
 OwnB (wn.setCell ⟨B, 0, none⟩ (.slice (some ⟨g, 0, none⟩) n cap)) B T #[.slice (some ⟨g, 0, none⟩) n cap] ∧ AccI (B + 1) (wn.setCell ⟨B, 0, none⟩ (.slice (some ⟨g, 0, none⟩) n cap)) (.slice (some ⟨g, 0, none⟩) n cap) ys ∧ LaterC w2 (wn.setCell ⟨B, 0, none⟩ (.slice (some ⟨g, 0, none⟩) n cap)) := by
 have hO3 := hO.below hb3 hO.lt
 have hOn : OwnB wn B T #[cv] := hO3.but (But.of_grown hgr) fun e => by have := hne B e.symm; omega
 have hL3 := laterC_step hL hb3
 have hgB : B ≠ g := by
  rcases hat with e | e
  · have := hne g e; omega
  · have := hO3.lt; omega
 refine ⟨hOn.set 0 _, owns_but hac (S := (· = B)) (But.setCell (S := (· = B)) (But.refl _ _) rfl _) (fun b hb e => hgB (by simp [Value.ownBlock] at hb; omega)), ?_⟩
 have hLn : LaterC w2 wn := .of (hL3.below.trans ((But.of_grown hgr).below (fun k hk => by have := hne k hk.symm; omega) hL3.size))
 exact LaterC.setCell' hLn _ _ hG
def zerosN (ns : List Nd) (ps : List Int) : Nat → List (List Int)
 | 0 => []
 | i + 1 => zerosN ns ps i ++ [List.replicate (cellsN (ndAt ns ps i).idx (ndAt ns ps i).wid).toNat 0]
theorem zerosN_length (ns : List Nd) (ps : List Int) : ∀ i, (zerosN ns ps i).length = i
 | 0 => rfl
 | i + 1 => by rw [zerosN, List.length_append, zerosN_length ns ps i]; rfl
theorem rowI_zero (w : World) (m : Nat) (hm : m ≤ 281474976710656) : RowI (w.alloc (.cells (madeCells #[.int .i64 0] m) 3)) (.slice (some ⟨w.heap.size, 0, none⟩) m m) (List.replicate m 0) := by
 refine ⟨by simpa using hm, .inr ⟨w.heap.size, m, madeCells #[.int .i64 0] m, by simp, OwnB.new _ _ _, by simp, size_madeCells _ _, fun i x hx => ?_⟩⟩
 have hi := (List.getElem?_eq_some_iff.1 hx).1
 rw [List.length_replicate] at hi
 rw [List.getElem?_replicate, if_pos hi] at hx
 cases hx
 rw [Array.getElem?_eq_getElem (by rw [size_madeCells]; exact hi)]
 simp [madeCells, Nat.mod_one]
theorem zeros_calls (mv pv : Value) (M : Md) (ps : List Int) (w : World) (hM : MdAt w mv M) (hP : SlN enI w pv ps) (hI : InN ps M.nodes.length) (hsz : ps.length ≤ 1048576) :
 Calls Tryz.prog 191 #[mv, pv] w fun e w' => ∃ v svs, e = .returned v ∧ Below w.heap.size w w' ∧ AccV w.heap.size w' v svs (zerosN M.nodes ps ps.length) := by
 obtain ⟨s0, s1, s2, s3, s4, rfl, hS, -, -, -, -⟩ := hM.at_
 obtain ⟨A, c, rfl, hnc, hc', hA⟩ := hS
 obtain ⟨B, d, rfl, -, hd', hB⟩ := hP
 clear hM
 obtain ⟨ti, hti⟩ := info_parts info_val
 have HTI := Lib.hid hti
 have HI := Lib.hid hI
 generalize hN : M.nodes.length = n at *
 have HN := Lib.hid hN
 generalize hQ : ps.length = q at *
 have HQ := Lib.hid hQ
 have hn : n ≤ 281474976710656 := Nat.le_trans hnc hc'
 clear hN hQ hI hnc hc' hti
 go_enter Tryz.func191, Tryz.ntmps191
 go_wp2
 generalize hw1 : w.alloc (Obj.cells #[.slice A n c, s1, s2, s3, s4] 27) = w1
 have hb0 : ∀ u : Later w1, u.val.cell? ⟨w.heap.size, 0, none⟩ = some (.slice A n c) := Later.cell (by rw [← hw1]; simp)
 have HB := Lib.hid (show Below w.heap.size w w1 by rw [← hw1]; exact (Below.refl _ _).alloc (Nat.le_refl _) _)
 clear hw1
 go_loopw [5, 10] (fun s i wr => ∃ (k : Nat) (svs : List Value) (sv : Value), k ≤ q ∧ i = .int .i64 k ∧ sv = s ∧ Hid (AccV w1.heap.size wr sv svs (zerosN M.nodes ps k)) ∧ LaterC w1 wr) (fun _ i _ => q - (intOf i).toNat)
 case atStart => exact ⟨0, [], _, Nat.zero_le _, rfl, rfl, Lib.hid (AccV.nil _ _), LaterC.refl _⟩
 case round =>
  obtain ⟨k, svs, sv, hk, rfl, hsv, HAC, ⟨u, rfl⟩⟩ := hrel
  subst hsv
  by_cases hlt : k < q
  · have hlt' : (k : Int) < q := by omega
    have hgp := getD_at (show k < ps.length by rw [HQ.out]; exact hlt) 0
    obtain ⟨p, hp, hpn⟩ := HI.out k _ hgp
    obtain ⟨bp, op, rfl, hpx⟩ := hB k _ hgp
    have hgn := getD_at (show p < M.nodes.length by rw [HN.out]; exact hpn) Nd.zero
    obtain ⟨bn, on, rfl, hnx⟩ := hA p _ hgn
    have hnd : ndAt M.nodes ps k = M.nodes.getD p Nd.zero := by unfold ndAt; rw [hp]; rfl
    have HZ := Lib.hid (show zerosN M.nodes ps (k + 1) = zerosN M.nodes ps k ++ [List.replicate (cellsN (ndAt M.nodes ps k).idx (ndAt M.nodes ps k).wid).toNat 0] from rfl)
    rw [hnd] at HZ
    rw [hp] at hpx
    generalize M.nodes.getD p Nd.zero = x at *
    have p0 : ∀ l : Later w1, l.val.cell? ⟨bp, op + k, none⟩ = some (.int .i64 (p : Int)) := hpx.int HB.out
    have p6 : ∀ l : Later w1, l.val.cell? ⟨bn, on + p * 9 + 6, none⟩ = some (.int .i64 x.idx) := hnx.at_ HB.out 6 _ rfl
    have p7 : ∀ l : Later w1, l.val.cell? ⟨bn, on + p * 9 + 7, none⟩ = some (.int .i64 x.wid) := hnx.at_ HB.out 7 _ rfl
    have hcb := cells_bits x.idx x.wid
    obtain ⟨m, hm⟩ := Int.eq_ofNat_of_zero_le hcb.2.2.1
    have hm4 : m ≤ 4 := by omega
    have HC := Lib.hid hm
    rw [hm, Int.toNat_natCast] at HZ
    have hmk := make_any (P := Tryz.prog) 25 3 (.int .i64 0) 1 8 Tryz.underlying25 (by kernel_rfl) m (by omega) (by omega)
    simp only [Nat.mul_one, Value.cells] at hmk
    have HSL := Lib.hid (show svs.length = k from HAC.out.2.1.trans (zerosN_length _ _ _))
    have hsl : svs.length ≤ 1048576 := by have := HSL.out; omega
    clear hgp hgn hpx hnx hp hA hB hnd hcb hm
    have HSC := Lib.hid (fun W => (show Makes Tryz.prog 19 #[.agg #[.int .i64 x.idx, .int .i64 x.wid]] W (.int .i64 (m : Int)) from HC.out ▸ SortCells'_calls x.idx x.wid W))
    go_wp2_with (first | (at_builtin; refine wpList_append_acc (by rfl) _ _ (by rfl) w1 u.val _ _ (w2.heap.size + 1) _ _ svs _ _ (by rfl) HAC.out ⟨u, rfl⟩ (HB2.out.alloc HB2.out.size _) (rowI_zero w2 m (by omega)) (fun b hb => by cases hb; exact HB2.out.size) hsl (box_below _ _ _) (OwnB.new' _ _ _ _ (by simp)) (by rfl) ?_; intro v' u2 hac; have HAC2 := Lib.hid hac; clear hac) | (go_at_call 19; refine (HSC.out _).mono ?_; rintro e w2 ⟨rfl, hb⟩; have HB2 := Lib.hid hb; clear hb))
    go_roundw
    case rel =>
     have hac2 := HAC2.out
     rw [← HZ.out] at hac2
     exact ⟨k + 1, _, _, by omega, by go_num, rfl, Lib.hid hac2, ⟨u2, rfl⟩⟩
    case measure => simp [intOf] <;> omega
  · obtain rfl : k = q := by omega
    clear hA hB
    go_wp2
    go_ret
    exact ⟨_, svs, rfl, u.back HB.out, HAC.out.mono HB.out.size⟩
def rowU (ns : List Nd) (ps : List Int) (code : Int) (i : Nat) : List Int :=
 (List.range (cellsN (ndAt ns ps i).idx (ndAt ns ps i).wid).toNat).map fun (k : Nat) => code / 2 ^ (bitsTo ns ps i + k * (ndAt ns ps i).wid).toNat % 2 ^ (ndAt ns ps i).wid.toNat
def unpackN (ns : List Nd) (ps : List Int) (code : Int) (n : Nat) : List (List Int) := (List.range n).map (rowU ns ps code)
theorem unpackN_length (ns : List Nd) (ps : List Int) (code : Int) (n : Nat) : (unpackN ns ps code n).length = n := by simp [unpackN]
theorem unpackN_succ (ns : List Nd) (ps : List Int) (code : Int) (n : Nat) : unpackN ns ps code (n + 1) = unpackN ns ps code n ++ [rowU ns ps code n] := by
 unfold unpackN
 rw [List.range_succ, List.map_append]
 rfl
theorem rowU_length (ns : List Nd) (ps : List Int) (code : Int) (i : Nat) : (rowU ns ps code i).length = (cellsN (ndAt ns ps i).idx (ndAt ns ps i).wid).toNat := by simp [rowU]
def CellU (ns : List Nd) (ps : List Int) (i k : Nat) : Prop := 0 ≤ bitsTo ns ps i + k * (ndAt ns ps i).wid ∧ bitsTo ns ps i + k * (ndAt ns ps i).wid + (ndAt ns ps i).wid ≤ 8 ∧ 1 ≤ (ndAt ns ps i).wid
theorem cellU {ns : List Nd} {ps : List Int} (h8 : bitsTo ns ps ps.length ≤ 8) (i k : Nat) (hi : i < ps.length) (hk : (k : Int) < cellsN (ndAt ns ps i).idx (ndAt ns ps i).wid) : CellU ns ps i k := by
 have hm := (bitsTo_mono ns ps (i + 1) (ps.length - (i + 1))).2
 have hb := cells_bits (ndAt ns ps i).idx (ndAt ns ps i).wid
 have h0 := (bitsTo_mono ns ps i 0).1
 rw [show i + 1 + (ps.length - (i + 1)) = ps.length by omega, bitsTo, ← hb.1] at hm
 have hs := sokB_yes (hb.2.1 (by omega))
 have hk1 : ((k : Int) + 1) * (ndAt ns ps i).wid ≤ cellsN (ndAt ns ps i).idx (ndAt ns ps i).wid * (ndAt ns ps i).wid := Int.mul_le_mul_of_nonneg_right (by omega) (by omega)
 rw [Int.add_mul, Int.one_mul] at hk1
 have hk0 : 0 ≤ (k : Int) * (ndAt ns ps i).wid := Int.mul_nonneg (by omega) (by omega)
 exact ⟨by omega, by omega, hs.2.2.1⟩
theorem rowU_take {ns : List Nd} {ps : List Int} {code : Int} {i k : Nat} (hk : (k : Int) < cellsN (ndAt ns ps i).idx (ndAt ns ps i).wid) :
 (rowU ns ps code i).take (k + 1) = (rowU ns ps code i).take k ++ [code / 2 ^ (bitsTo ns ps i + k * (ndAt ns ps i).wid).toNat % 2 ^ (ndAt ns ps i).wid.toNat] := by
 have hl : k < (rowU ns ps code i).length := by rw [rowU_length]; omega
 rw [List.take_succ_eq_append_getElem hl]
 simp [rowU]
theorem l5Unpack_calls (mv pv : Value) (M : Md) (ps : List Int) (code : Int) (w : World) (hM : MdAt w mv M) (hP : SlN enI w pv ps) (hI : InN ps M.nodes.length) (hsz : ps.length ≤ 1048576) (h8 : bitsTo M.nodes ps ps.length ≤ 8) (hc0 : 0 ≤ code) (hc1 : code ≤ 65535) :
 Calls Tryz.prog 136 #[mv, pv, .int .i64 code] w fun e w' => ∃ v svs, e = .returned v ∧ Below w.heap.size w w' ∧ AccV w.heap.size w' v svs (unpackN M.nodes ps code ps.length) := by
 obtain ⟨s0, s1, s2, s3, s4, rfl, hS, -, -, -, -⟩ := hM.at_
 obtain ⟨A, c, rfl, hnc, hc', hA⟩ := hS
 obtain ⟨B, d, rfl, -, hd', hB⟩ := hP
 clear hM
 have HCU := Lib.hid (cellU h8)
 have HI := Lib.hid hI
 generalize hN : M.nodes.length = n at *
 have HN := Lib.hid hN
 generalize hQ : ps.length = q at *
 have HQ := Lib.hid hQ
 have hn : n ≤ 281474976710656 := Nat.le_trans hnc hc'
 clear hN hQ hI hnc hc' h8
 go_enter Tryz.func136, Tryz.ntmps136
 go_wp2
 generalize hw1 : w.alloc (Obj.cells #[.slice A n c, s1, s2, s3, s4] 27) = w1
 have hb0 : ∀ u : Later w1, u.val.cell? ⟨w.heap.size, 0, none⟩ = some (.slice A n c) := Later.cell (by rw [← hw1]; simp)
 have HB := Lib.hid (show Below w.heap.size w w1 by rw [← hw1]; exact (Below.refl _ _).alloc (Nat.le_refl _) _)
 clear hw1
 go_loopw [7, 8, 9] (fun s aa i wr => ∃ (k : Nat) (svs : List Value) (sv : Value) (av : Int), k ≤ q ∧ i = .int .i64 k ∧ sv = s ∧ aa = .int .i64 av ∧ Hid (av = bitsTo M.nodes ps k ∧ AccV w1.heap.size wr sv svs (unpackN M.nodes ps code k)) ∧ LaterC w1 wr) (fun _ _ i _ => q - (intOf i).toNat)
 case atStart => exact ⟨0, [], _, 0, Nat.zero_le _, rfl, rfl, rfl, Lib.hid ⟨rfl, AccV.nil _ _⟩, LaterC.refl _⟩
 case round =>
  obtain ⟨k, svs, sv, av, hk, rfl, hsv, rfl, HAC, ⟨u, rfl⟩⟩ := hrel
  subst hsv
  by_cases hlt : k < q
  · have hlt' : (k : Int) < q := by omega
    have hgp := getD_at (show k < ps.length by rw [HQ.out]; exact hlt) 0
    obtain ⟨p, hp, hpn⟩ := HI.out k _ hgp
    obtain ⟨bp, op, rfl, hpx⟩ := hB k _ hgp
    have hgn := getD_at (show p < M.nodes.length by rw [HN.out]; exact hpn) Nd.zero
    obtain ⟨bn, on, rfl, hnx⟩ := hA p _ hgn
    have hnd : ndAt M.nodes ps k = M.nodes.getD p Nd.zero := by unfold ndAt; rw [hp]; rfl
    have HND := Lib.hid hnd
    have HCK := Lib.hid (fun (j : Nat) (hj : (j : Int) < cellsN (ndAt M.nodes ps k).idx (ndAt M.nodes ps k).wid) => HCU.out k j hlt hj)
    have HTK := Lib.hid (fun (j : Nat) (hj : (j : Int) < cellsN (ndAt M.nodes ps k).idx (ndAt M.nodes ps k).wid) => rowU_take (code := code) hj)
    have HRL := Lib.hid (rowU_length M.nodes ps code k)
    have HBT := Lib.hid (show bitsTo M.nodes ps (k + 1) = bitsTo M.nodes ps k + cellsN (ndAt M.nodes ps k).idx (ndAt M.nodes ps k).wid * (ndAt M.nodes ps k).wid by rw [bitsTo, (cells_bits _ _).1])
    unfold CellU at HCK
    rw [hnd] at HCK HTK HRL HBT
    rw [hp] at hpx
    generalize M.nodes.getD p Nd.zero = x at *
    have p0 : ∀ l : Later w1, l.val.cell? ⟨bp, op + k, none⟩ = some (.int .i64 (p : Int)) := hpx.int HB.out
    have p6 : ∀ l : Later w1, l.val.cell? ⟨bn, on + p * 9 + 6, none⟩ = some (.int .i64 x.idx) := hnx.at_ HB.out 6 _ rfl
    have p7 : ∀ l : Later w1, l.val.cell? ⟨bn, on + p * 9 + 7, none⟩ = some (.int .i64 x.wid) := hnx.at_ HB.out 7 _ rfl
    have hcb := cells_bits x.idx x.wid
    obtain ⟨m, hm⟩ := Int.eq_ofNat_of_zero_le hcb.2.2.1
    have hm4 : m ≤ 4 := by omega
    have HC := Lib.hid hm
    rw [hm, Int.toNat_natCast] at HRL
    rw [hm] at HCK HTK HBT
    have HSL := Lib.hid (show svs.length = k from HAC.out.2.2.1.trans (unpackN_length _ _ _ _))
    have hsl : svs.length ≤ 1048576 := by have := HSL.out; omega
    clear hgp hgn hpx hnx hp hA hB hnd hcb hm
    have HQL := Lib.hid (show ∀ W, LaterC w1 W → W.cell? ⟨w.heap.size, 0, none⟩ = some (.slice (some ⟨bn, on, none⟩) n c) ∧ W.cell? ⟨bp, op + k, none⟩ = some (.int .i64 (p : Int)) ∧ W.cell? ⟨bn, on + p * 9 + 6, none⟩ = some (.int .i64 x.idx) ∧ W.cell? ⟨bn, on + p * 9 + 7, none⟩ = some (.int .i64 x.wid) from fun W h => by
     obtain ⟨l, rfl⟩ := h
     exact ⟨hb0 l, p0 l, p6 l, p7 l⟩)
    go_wp2
    go_region_held3 (fun w' => w'.cell? ⟨w.heap.size, 0, none⟩ = some (.slice (some ⟨bn, on, none⟩) n c) ∧ w'.cell? ⟨bp, op + k, none⟩ = some (.int .i64 (p : Int)) ∧ w'.cell? ⟨bn, on + p * 9 + 6, none⟩ = some (.int .i64 x.idx) ∧ w'.cell? ⟨bn, on + p * 9 + 7, none⟩ = some (.int .i64 x.wid)) ((refine HQL.out _ ?_; repeat (first | exact ⟨_, rfl⟩ | refine LaterC.drew' ?_ | refine LaterC.alloc' ?_ _))) (fail)
    go_upto_region 8 with fail
    have y0 := box_cell u.val #[.int .i64 x.idx, .int .i64 x.wid] 34 0 _ rfl
    have y1 := box_cell u.val #[.int .i64 x.idx, .int .i64 x.wid] 34 1 _ rfl
    have HL2 := Lib.hid (show LaterC w1 (u.val.alloc (Obj.cells #[.int .i64 x.idx, .int .i64 x.wid] 34)) from u.alloc _)
    have HAC2 := Lib.hid (HAC.out.2.below (box_below u.val #[.int .i64 x.idx, .int .i64 x.wid] 34))
    have HG := Lib.hid (show (u.val.alloc (Obj.cells #[.int .i64 x.idx, .int .i64 x.wid] 34)).heap.size = u.val.heap.size + 1 by simp)
    generalize u.val.alloc (Obj.cells #[.int .i64 x.idx, .int .i64 x.wid] 34) = w2 at *
    have HO3 := Lib.hid (show OwnB (w2.alloc (Obj.cells #[.slice none 0 0] 40)).drew (u.val.heap.size + 1) 40 #[.slice none 0 0] from OwnB.new' _ _ _ _ HG.out)
    have HL3 := Lib.hid (show LaterC w2 (w2.alloc (Obj.cells #[.slice none 0 0] 40)).drew from LaterC.drew' (LaterC.alloc' (LaterC.refl _) _))
    generalize (w2.alloc (Obj.cells #[.slice none 0 0] 40)).drew = w3 at *
    have HAV := Lib.hid HAC.out.1
    have HLO := Lib.hid (show u.val.heap.size + 1 < w3.heap.size from HO3.out.lt)
    generalize u.val.heap.size = G at *
    have y0 : ∀ l : Later w2, l.val.cell? ⟨G, 0, none⟩ = some (.int .i64 x.idx) := y0
    have y1 : ∀ l : Later w2, l.val.cell? ⟨G, 1, none⟩ = some (.int .i64 x.wid) := y1
    clear HAC p0 p6 p7 hb0 HQL
    have HSC := Lib.hid (fun W => (show Makes Tryz.prog 190 #[.agg #[.int .i64 x.idx, .int .i64 x.wid]] W (.int .i64 (m : Int)) from HC.out ▸ SortCells_calls x.idx x.wid W))
    generalize x.wid = ww at *
    generalize x.idx = xi at *
    go_wp2
    go_loopw [8, 12] (fun aa j wr => ∃ (jj : Nat) (cv : Value) (aj : Int), jj ≤ m ∧ j = .int .i64 jj ∧ aa = .int .i64 aj ∧ Hid (aj = bitsTo M.nodes ps k + jj * ww ∧ OwnB wr (G + 1) 40 #[cv] ∧ AccI (G + 2) wr cv ((rowU M.nodes ps code k).take jj) ∧ LaterC w2 wr)) (fun _ j _ => m - (intOf j).toNat)
    case atStart => exact ⟨0, .slice none 0 0, av, Nat.zero_le _, rfl, rfl, Lib.hid ⟨by rw [HAV.out]; simp, HO3.out, by simpa using AccI.nil (G + 2) w3, HL3.out⟩⟩
    case round =>
     obtain ⟨j, cv, aj, hj, rfl, rfl, HR⟩ := hrel
     by_cases hlt2 : j < m
     · have hlt2' : (j : Int) < m := by omega
       have hck := HCK.out j hlt2'
       have HTK2 := Lib.hid (HTK.out j hlt2')
       rw [← HR.out.1] at hck HTK2
       obtain ⟨h1, h2, h3⟩ := hck
       have z0 := Later.cell (Later.cell (y0 ⟨w2, Below.refl _ _⟩) ⟨wr, HR.out.2.2.2.below⟩)
       have z1 := Later.cell (Later.cell (y1 ⟨w2, Below.refl _ _⟩) ⟨wr, HR.out.2.2.2.below⟩)
       have hq1 := pow_pos_i aj
       have hq2 : (2 : Int) ^ aj.toNat ≤ 256 := pow_le_i (by omega) (by omega)
       have hq3 := pow_pos_i ww
       have hq4 : (2 : Int) ^ ww.toNat ≤ 256 := pow_le_i (by omega) (by omega)
       have hd0 : 0 ≤ code / 2 ^ aj.toNat := Int.ediv_nonneg hc0 (by omega)
       have hz1 : ¬ (2 : Int) ^ ww.toNat = 0 := by omega
       have hz2 : ((2 : Int) ^ ww.toNat == 0) = false := by simpa using hz1
       refine at_world (w := wr) ?_
       intro v0
       go_upto_region 11 with (go_at_call 190; refine (HSC.out _).mono ?_; rintro e w4 ⟨rfl, hb⟩; have HB4 := Lib.hid (v0.prop.trans (hb.mono v0.size)); clear hb)
       have HO4 := Lib.hid (HR.out.2.1.below HB4.out HR.out.2.1.lt)
       have HA4 := Lib.hid (ownsRow_below HR.out.2.2.1 HB4.out)
       have HL4 := Lib.hid (laterC_step HR.out.2.2.2 HB4.out)
       have q0 : w4.cell? ⟨G + 1, 0, none⟩ = some cv := HO4.out.cell 0
       have z2 : w4.cell? ⟨G, 1, none⟩ = some (.int .i64 ww) := (HB4.out.cell (World.block_lt_of_cell? _ _ (z1 ⟨wr, Below.refl _ _⟩))).trans (z1 ⟨wr, Below.refl _ _⟩)
       have HQ4 := Lib.hid (show ∀ W, Below w4.heap.size w4 W → W.cell? ⟨G + 1, 0, none⟩ = some cv ∧ W.cell? ⟨G, 1, none⟩ = some (.int .i64 ww) from fun W h => ⟨keepcell h q0, keepcell h z2⟩)
       have HLO4 := Lib.hid (show G + 2 ≤ w4.heap.size by have := HO4.out.lt; omega)
       have HTL := Lib.hid (show ((rowU M.nodes ps code k).take j).length ≤ 1048576 from Nat.le_trans (List.length_take_le _ _) (by omega))
       have HTJ := Lib.hid (show ((rowU M.nodes ps code k).take j).length = j by rw [List.length_take, HRL.out]; omega)
       have HNE := Lib.hid (show ∀ b, cv.ownBlock = some b → G + 2 ≤ b ∧ b < w4.heap.size from fun b hb => HA4.out.lt b hb)
       have hu1 : IntKind.u64.wrap aj = aj := wrap_u64_id (by omega) (by omega)
       have hu2 : IntKind.u64.wrap ww = ww := wrap_u64_id (by omega) (by omega)
       have hwp : IntKind.i64.wrap (2 ^ ww.toNat) = 2 ^ ww.toNat := wrap_i64_id (by omega) (by omega)
       have htm : (code / 2 ^ aj.toNat).tmod (2 ^ ww.toNat) = code / 2 ^ aj.toNat % 2 ^ ww.toNat := Int.tmod_eq_emod_of_nonneg hd0
       clear z0 z1
       have q0a : ∀ o, (w4.alloc o).cell? ⟨G + 1, 0, none⟩ = some cv := fun o => keepcell ((Below.refl _ _).alloc (Nat.le_refl _) o) q0
       have z2a : ∀ o, (w4.alloc o).cell? ⟨G, 1, none⟩ = some (.int .i64 ww) := fun o => keepcell ((Below.refl _ _).alloc (Nat.le_refl _) o) z2
       have HTK3 := Lib.hid (show (rowU M.nodes ps code k).take (j + 1) = (rowU M.nodes ps code k).take j ++ [code / 2 ^ aj.toNat % 2 ^ ww.toNat] from HTK2.out)
       go_region_law ((refine step_append_int (by rfl) _ _ (by rfl) (G + 2) w4 _ w4.heap.size cv (code / 2 ^ aj.toNat % 2 ^ ww.toNat) _ j HTJ.out (by rfl) HA4.out HLO4.out HTL.out bax (heap_alloc_new w4 _) (by rfl) ?_; intro g cap wn hac hgrow hat; have HPD := Lib.hid (push_done (B := G + 1) (ys := (rowU M.nodes ps code k).take (j + 1)) HO4.out HL4.out (Nat.le_of_eq HG.out) bax (fun b hb => (HNE.out b hb).1) hgrow hat (by rw [HTK3.out]; exact hac)); have q1 : wn.cell? ⟨G + 1, 0, none⟩ = some cv := (hgrow.cell_far _ (by have := HLO4.out; simp; omega) (fun e => by have := HNE.out _ e.symm; simp at this)).trans (HQ4.out _ bax).1; have f1 : wn.frozen? ⟨G + 1, 0, none⟩ = false := (hgrow.frozen_far _ (by have := HLO4.out; simp; omega) (fun e => by have := HNE.out _ e.symm; simp at this)).trans ((HO4.out.below bax HO4.out.lt).frozen 0); have z3 : wn.cell? ⟨G, 1, none⟩ = some (.int .i64 ww) := (hgrow.cell_far _ (by have := HLO4.out; simp; omega) (fun e => by have := HNE.out _ e.symm; simp at this; omega)).trans (HQ4.out _ bax).2; clear hac hgrow hat))
       all_goals
        go_wp2
        go_roundw
        case rel => exact ⟨j + 1, _, aj + ww, by omega, by go_num, by go_num, Lib.hid ⟨by rw [HR.out.1]; push_cast; rw [Int.add_mul]; omega, HPD.out.1, HPD.out.2.1, HPD.out.2.2⟩⟩
        case measure => simp [intOf] <;> omega
     · obtain rfl : j = m := by omega
       have HRF := Lib.hid (show (rowU M.nodes ps code k).take j = rowU M.nodes ps code k by rw [← HRL.out, List.take_length])
       have z0 := Later.cell (Later.cell (y0 ⟨w2, Below.refl _ _⟩) ⟨wr, HR.out.2.2.2.below⟩)
       have z1 := Later.cell (Later.cell (y1 ⟨w2, Below.refl _ _⟩) ⟨wr, HR.out.2.2.2.below⟩)
       refine at_world (w := wr) ?_
       intro v0
       go_wp2_with (first | (at_builtin; refine wpList_append_acc (by rfl) _ _ (by rfl) w1 w2 w4 _ w4.heap.size sv cv svs _ (rowU M.nodes ps code k) (by rfl) HAC2.out HL2.out HL4.out.below HROW.out HCB.out hsl (box_below _ _ _) (OwnB.new _ _ _) (by rfl) ?_; intro v' u2 hac; have HACN := Lib.hid hac; clear hac) | (go_at_call 190; refine (HSC.out _).mono ?_; rintro e w4 ⟨rfl, hb⟩; have HB4 := Lib.hid (v0.prop.trans (hb.mono v0.size)); have HO4 := Lib.hid (HR.out.2.1.below HB4.out HR.out.2.1.lt); have HA4 := Lib.hid (ownsRow_below HR.out.2.2.1 HB4.out); have HL4 := Lib.hid (laterC_step HR.out.2.2.2 HB4.out); have q0 : w4.cell? ⟨G + 1, 0, none⟩ = some cv := HO4.out.cell 0; have HROW := Lib.hid (show RowI w4 cv (rowU M.nodes ps code k) from by have h := HA4.out; rw [HRF.out] at h; exact .of_owns h rfl (by rw [HRL.out]; omega)); have HCB := Lib.hid (show ∀ b, cv.ownBlock = some b → w2.heap.size ≤ b from fun b hb' => by have h1 := (HA4.out.lt b hb').1; have h2 := HG.out; omega); clear hb z0 z1))
       go_roundw
       case rel =>
        have hacn := HACN.out
        rw [← unpackN_succ] at hacn
        exact ⟨k + 1, _, _, aj, by omega, by go_num, rfl, rfl, Lib.hid ⟨by rw [HBT.out, HR.out.1], hacn⟩, ⟨u2, rfl⟩⟩
       case measure => simp [intOf] <;> omega
  · obtain rfl : k = q := by omega
    clear hA hB
    go_wp2
    go_ret
    exact ⟨_, svs, rfl, u.back HB.out, HAC.out.2.mono HB.out.size⟩
end Go.Proofs.YtbenebcphaiohaaGreat
