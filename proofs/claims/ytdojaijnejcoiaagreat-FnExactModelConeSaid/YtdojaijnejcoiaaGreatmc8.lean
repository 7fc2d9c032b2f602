import Derived.Test.YtdojaijnejcoiaaGreatmc7
import Derived.Deep.RegionHeldLaw
import Derived.Test.YtdojaijnejcoiaaGreatmc4
set_option linter.unusedVariables false
set_option linter.unusedSimpArgs false
set_option maxRecDepth 8000
set_option maxHeartbeats 16000000
namespace Go.Proofs.YtdojaijnejcoiaaGreat
open Go.RowKit
def digF : Nat → Nat → ByteArray → ByteArray
 | 0, _, b => b
 | d + 1, t, b => if t = 0 then b else digF d (t / 10) (⟨#[UInt8.ofNat (48 + t % 10)]⟩ ++ b)
theorem digF_zero (d : Nat) (b : ByteArray) : digF d 0 b = b := by
 cases d with
 | zero => rfl
 | succ d => rw [digF, if_pos rfl]
theorem digF_step {d t : Nat} (h : 0 < t) (b : ByteArray) : digF (d + 1) t b = digF d (t / 10) (⟨#[UInt8.ofNat (48 + t % 10)]⟩ ++ b) := by
 rw [digF, if_neg (by omega)]
def textK (k : Int) : ByteArray := ⟨#[109]⟩ ++ digF 13 k.toNat ByteArray.empty
theorem markTextK_calls (k : Int) (w : World) (h0 : 1 ≤ k) (h1 : k ≤ 1000000000000) :
 Makes Tryz.prog 70 #[.int .i64 k] w (.string (textK k)) := by
 obtain ⟨K, rfl⟩ := Int.eq_ofNat_of_zero_le (show 0 ≤ k by omega)
 obtain ⟨R, hR⟩ : ∃ R, textK (K : Int) = R := ⟨_, rfl⟩
 have HR := Lib.hid hR
 rw [hR]
 clear hR
 go_enter Tryz.func70, Tryz.ntmps70
 go_wp2
 go_loopw [0, 3] (fun kk s wr => ∃ (t d : Nat) (b : ByteArray), kk = .int .i64 t ∧ s = .string b ∧ t ≤ 1000000000000 ∧ Hid (t < 10 ^ d ∧ b.size + d ≤ 20 ∧ ⟨#[109]⟩ ++ digF d t b = R) ∧ LaterC w wr) (fun kk _ _ => (intOf kk).toNat)
 case atStart => exact ⟨K, 13, ByteArray.empty, rfl, rfl, by omega, Lib.hid ⟨by omega, by decide, HR.out⟩, LaterC.refl _⟩
 case round =>
  obtain ⟨t, d, b, rfl, rfl, ht, HT, ⟨u, rfl⟩⟩ := hrel
  by_cases hlt : 0 < t
  · have hd : ∃ d', d = d' + 1 := ⟨d - 1, by
     have h1 := HT.out.1
     rcases d with _ | d'
     · simp at h1; omega
     · rfl⟩
    obtain ⟨d', rfl⟩ := hd
    have HT2 := Lib.hid (show t / 10 < 10 ^ d' ∧ (b.size + 1) + d' ≤ 20 ∧ ⟨#[109]⟩ ++ digF d' (t / 10) (⟨#[UInt8.ofNat (48 + t % 10)]⟩ ++ b) = R from ⟨pow_step HT.out.1, by have := HT.out.2.1; omega, by rw [← digF_step hlt]; exact HT.out.2.2⟩)
    have hbs : b.size ≤ 20 := by have := HT.out.2.1; omega
    have hcv : (convert 110 9 (.slice (some ⟨u.val.heap.size, 0, none⟩) 1 1)).run Tryz.prog (u.val.alloc (Obj.cells #[.int .u8 (48 + (t : Int) % 10)] 5)) = .ok (.string ⟨#[UInt8.ofNat (48 + t % 10)]⟩) (u.val.alloc (Obj.cells #[.int .u8 (48 + (t : Int) % 10)] 5)) := by
     refine run_convert_bytes_back _ _ _ 5 ⟨u.val.heap.size, 0, none⟩ 1 [UInt8.ofNat (48 + t % 10)] Tryz.underlying110 Tryz.underlying5 Tryz.underlying9 (fun j hj => ?_)
     obtain rfl : j = 0 := by simpa using hj
     have h1 : (48 + t % 10) % 256 = 48 + t % 10 := by omega
     show (u.val.alloc (Obj.cells #[.int .u8 (48 + (t : Int) % 10)] 5)).cell? ⟨u.val.heap.size, 0, none⟩ = _
     rw [(OwnB.new u.val 5 #[.int .u8 (48 + (t : Int) % 10)] : OwnB _ _ _ _).cell 0]
     simp [UInt8.toNat_ofNat', h1]
    obtain ⟨cc, hcc⟩ : ∃ cc, UInt8.ofNat (48 + t % 10) = cc := ⟨_, rfl⟩
    rw [hcc] at hcv HT2
    clear hcc
    go_wp2
    go_roundw
    case rel =>
     refine ⟨t / 10, d', _, by push_cast; rfl, rfl, by omega, Lib.hid ⟨HT2.out.1, ?_, HT2.out.2.2⟩, u.alloc _⟩
     have := HT2.out.2.1
     rw [ByteArray.size_append]
     show 1 + b.size + d' ≤ 20
     omega
    case measure => simp [intOf] <;> omega
  · obtain rfl : t = 0 := by omega
    have hbs : b.size ≤ 20 := by have := HT.out.2.1; omega
    have HE := Lib.hid (show ⟨#[109]⟩ ++ b = R by have := HT.out.2.2; rw [digF_zero] at this; exact this)
    go_wp2
    go_ret
    exact ⟨ret_eq (congrArg Value.string HE.out), u.prop⟩
def markC (s : Nat) (tx : Bool) (k : Int) (q : Nat) : Value := if tx && q % s == s - 1 then .string (textK (k + q)) else .int .i64 (k + q)
def MarkC (T : TypeId) (s : Nat) (tx : Bool) (w0 : World) (g m : Nat) (k : Int) (q : Nat) (W : World) : Prop := ∃ cs, OwnB W g T cs ∧ cs.size = m ∧ (∀ i, i < q → cs[i]? = some (markC s tx k i)) ∧ But (· = g) w0 W
theorem MarkC.set {T : TypeId} {s : Nat} {tx : Bool} {w0 W : World} {g m q : Nat} {k : Int} {v : Value} (h : MarkC T s tx w0 g m k q W) (hq : q < m) (hv : v = markC s tx k q) : MarkC T s tx w0 g m k (q + 1) (W.setCell ⟨g, q, none⟩ v) := by
 obtain ⟨cs, h1, h2, h3, h4⟩ := h
 refine ⟨_, h1.set q v, by simpa using h2, fun i hi => ?_, h4.setCell rfl v⟩
 rcases Nat.lt_or_ge i q with e | e
 · rw [Array.getElem?_setIfInBounds_ne (by omega)]
   exact h3 i e
 · obtain rfl : i = q := by omega
   rw [Array.getElem?_setIfInBounds_self_of_lt (by omega), hv]
theorem MarkC.below {T : TypeId} {s : Nat} {tx : Bool} {w0 W W' : World} {g m q : Nat} {k : Int} (h : MarkC T s tx w0 g m k q W) (hb : Below W.heap.size W W') : MarkC T s tx w0 g m k q W' := by
 obtain ⟨cs, h1, h2, h3, h4⟩ := h
 exact ⟨cs, h1.below hb h1.lt, h2, h3, h4.trans (.of_below hb)⟩
theorem MarkC.cell {T : TypeId} {s : Nat} {tx : Bool} {w0 W : World} {g m q : Nat} {k : Int} (h : MarkC T s tx w0 g m k q W) {i : Nat} (hi : i < m) : ∃ v, W.cell? ⟨g, i, none⟩ = some v := by
 obtain ⟨cs, h1, rfl, -, -⟩ := h
 exact ⟨cs[i], by rw [h1.cell, Array.getElem?_eq_getElem hi]⟩
theorem MarkC.frozen {T : TypeId} {s : Nat} {tx : Bool} {w0 W : World} {g m q : Nat} {k : Int} (h : MarkC T s tx w0 g m k q W) (i : Nat) : W.frozen? ⟨g, i, none⟩ = false := by
 obtain ⟨cs, h1, -⟩ := h
 exact h1.frozen i
theorem at_mark {φ : World → Prop} {T : TypeId} {s : Nat} {tx : Bool} {w0 W : World} {g m q : Nat} {k : Int} (h : MarkC T s tx w0 g m k q W) (f : ∀ W', MarkC T s tx w0 g m k q W' → φ W') : φ W := f W h
def markNs (k : Int) (n : Nat) : List Nd := (List.range n).map fun (i : Nat) => ⟨k + 9 * i, k + 9 * i + 1, k + 9 * i + 1 + 1, k + 9 * i + 1 + 1 + 1, k + 9 * i + 1 + 1 + 1 + 1, k + 9 * i + 1 + 1 + 1 + 1 + 1, k + 9 * i + 1 + 1 + 1 + 1 + 1 + 1, k + 9 * i + 1 + 1 + 1 + 1 + 1 + 1 + 1, textK (k + 9 * i + 1 + 1 + 1 + 1 + 1 + 1 + 1 + 1)⟩
def markBs (k : Int) (n : Nat) : List Bd := (List.range n).map fun (i : Nat) => ⟨k + 2 * i, k + 2 * i + 1⟩
theorem markNs_len (k : Int) (n : Nat) : (markNs k n).length = n := by simp [markNs]
theorem markBs_len (k : Int) (n : Nat) : (markBs k n).length = n := by simp [markBs]
theorem markNs_at {k : Int} {n i : Nat} (h : i < n) : (markNs k n)[i]? = some ⟨k + 9 * i, k + 9 * i + 1, k + 9 * i + 1 + 1, k + 9 * i + 1 + 1 + 1, k + 9 * i + 1 + 1 + 1 + 1, k + 9 * i + 1 + 1 + 1 + 1 + 1, k + 9 * i + 1 + 1 + 1 + 1 + 1 + 1, k + 9 * i + 1 + 1 + 1 + 1 + 1 + 1 + 1, textK (k + 9 * i + 1 + 1 + 1 + 1 + 1 + 1 + 1 + 1)⟩ := by
 unfold markNs
 rw [List.getElem?_map, List.getElem?_range h]
 rfl
theorem markBs_at {k : Int} {n i : Nat} (h : i < n) : (markBs k n)[i]? = some ⟨k + 2 * i, k + 2 * i + 1⟩ := by
 unfold markBs
 rw [List.getElem?_map, List.getElem?_range h]
 rfl
theorem markC_int {s q : Nat} {k : Int} (tx : Bool) (h : q % s ≠ s - 1) : markC s tx k q = .int .i64 (k + q) := by
 unfold markC
 rw [if_neg]
 simp [h]
theorem markC_text {s q : Nat} {k : Int} (h : q % s = s - 1) : markC s true k q = .string (textK (k + q)) := by
 unfold markC
 rw [if_pos]
 simp [h]
theorem markC_no {s q : Nat} {k : Int} : markC s false k q = .int .i64 (k + q) := rfl
theorem MarkC.nodes {w0 W : World} {g m n c : Nat} {k : Int} (h : MarkC 46 9 true w0 g m k (n * 9) W) (hc : n ≤ c) (hn : n ≤ 281474976710656) : SlN enNd W (.slice (some ⟨g, 0, none⟩) n c) (markNs k n) := by
 obtain ⟨cs, h1, h2, h3, h4⟩ := h
 refine ⟨some ⟨g, 0, none⟩, c, by rw [markNs_len], by rw [markNs_len]; exact hc, by rw [markNs_len]; exact hn, fun i x hx => ⟨g, 0, rfl, fun f u hu => ?_⟩⟩
 have hi : i < n := by have := (List.getElem?_eq_some_iff.1 hx).1; rwa [markNs_len] at this
 rw [markNs_at hi] at hx
 cases hx
 have hf : f < 9 := (List.getElem?_eq_some_iff.1 hu).1
 rw [h1.cell, Nat.zero_add]
 show cs[i * 9 + f]? = some u
 rw [h3 (i * 9 + f) (by omega)]
 rw [← hu]
 have e : ∀ j : Nat, j < 8 → markC 9 true k (i * 9 + j) = .int .i64 (k + 9 * i + j) := fun j hj => by
  rw [markC_int true (by omega)]
  congr 1
  push_cast
  omega
 rcases f with _ | _ | _ | _ | _ | _ | _ | _ | _ | f
 · rw [e 0 (by omega)]; simp
 · rw [e 1 (by omega)]; simp
 · rw [e 2 (by omega)]; simp; omega
 · rw [e 3 (by omega)]; simp; omega
 · rw [e 4 (by omega)]; simp; omega
 · rw [e 5 (by omega)]; simp; omega
 · rw [e 6 (by omega)]; simp; omega
 · rw [e 7 (by omega)]; simp; omega
 · rw [markC_text (by omega)]
   have : k + ((i * 9 + 8 : Nat) : Int) = k + 9 * i + 1 + 1 + 1 + 1 + 1 + 1 + 1 + 1 := by push_cast; omega
   rw [this]
   rfl
 · omega
theorem MarkC.binds {w0 W : World} {g m n c : Nat} {k : Int} (h : MarkC 57 2 false w0 g m k (n * 2) W) (hc : n ≤ c) (hn : n ≤ 281474976710656) : SlN enBd W (.slice (some ⟨g, 0, none⟩) n c) (markBs k n) := by
 obtain ⟨cs, h1, h2, h3, h4⟩ := h
 refine ⟨some ⟨g, 0, none⟩, c, by rw [markBs_len], by rw [markBs_len]; exact hc, by rw [markBs_len]; exact hn, fun i x hx => ⟨g, 0, rfl, fun f u hu => ?_⟩⟩
 have hi : i < n := by have := (List.getElem?_eq_some_iff.1 hx).1; rwa [markBs_len] at this
 rw [markBs_at hi] at hx
 cases hx
 have hf : f < 2 := (List.getElem?_eq_some_iff.1 hu).1
 rw [h1.cell, Nat.zero_add]
 show cs[i * 2 + f]? = some u
 rw [h3 (i * 2 + f) (by omega), ← hu, markC_no]
 rcases f with _ | _ | f
 · simp; omega
 · simp; omega
 · omega
theorem markNodeSB_calls (g n m c : Nat) (k : Int) (w0 w : World) (h : MarkC 46 9 true w0 g m k 0 w) (hm : n * 9 ≤ m) (hc : n ≤ c) (hn : n ≤ 1048576) (h0 : 1 ≤ k) (h1 : k + 9 * n ≤ 1000000000000) :
 Calls Tryz.prog 32 #[.slice (some ⟨g, 0, none⟩) n c, .int .i64 k] w fun e w' => e = .returned (.int .i64 (k + 9 * n)) ∧ MarkC 46 9 true w0 g m k (n * 9) w' := by
 have HO := Lib.hid h
 clear h
 go_enter Tryz.func32, Tryz.ntmps32
 go_wp2
 go_loopw [1, 5] (fun kk i wr => ∃ (j : Nat) (t : Int), j ≤ n ∧ i = .int .i64 j ∧ kk = .int .i64 t ∧ 1 ≤ t ∧ t ≤ 1000000000000 ∧ Hid (t = k + 9 * j ∧ MarkC 46 9 true w0 g m k (j * 9) wr)) (fun _ i _ => n - (intOf i).toNat)
 case atStart => exact ⟨0, k, Nat.zero_le _, rfl, rfl, by omega, by omega, Lib.hid ⟨by simp, by rw [Nat.zero_mul]; exact HO.out⟩⟩
 case round =>
  obtain ⟨j, t, hj, rfl, rfl, ht0, ht1, HT⟩ := hrel
  by_cases hlt : j < n
  · have hmm : j * 9 + 9 ≤ m := by omega
    obtain ⟨x0, p0⟩ := HT.out.2.cell (i := j * 9) (by omega)
    have f0 := HT.out.2.frozen (j * 9)
    obtain ⟨x1, p1⟩ := HT.out.2.cell (i := j * 9 + 1) (by omega)
    have f1 := HT.out.2.frozen (j * 9 + 1)
    obtain ⟨x2, p2⟩ := HT.out.2.cell (i := j * 9 + 2) (by omega)
    have f2 := HT.out.2.frozen (j * 9 + 2)
    obtain ⟨x3, p3⟩ := HT.out.2.cell (i := j * 9 + 3) (by omega)
    have f3 := HT.out.2.frozen (j * 9 + 3)
    obtain ⟨x4, p4⟩ := HT.out.2.cell (i := j * 9 + 4) (by omega)
    have f4 := HT.out.2.frozen (j * 9 + 4)
    obtain ⟨x5, p5⟩ := HT.out.2.cell (i := j * 9 + 5) (by omega)
    have f5 := HT.out.2.frozen (j * 9 + 5)
    obtain ⟨x6, p6⟩ := HT.out.2.cell (i := j * 9 + 6) (by omega)
    have f6 := HT.out.2.frozen (j * 9 + 6)
    obtain ⟨x7, p7⟩ := HT.out.2.cell (i := j * 9 + 7) (by omega)
    have f7 := HT.out.2.frozen (j * 9 + 7)
    have hb2 : t + 9 ≤ 1000000000000 := by have := HT.out.1; omega
    have HE := Lib.hid (show ∀ (f : Nat) (x : Int), x = t + f → (j * 9 + f) % 9 ≠ 8 → Value.int .i64 x = markC 9 true k (j * 9 + f) from fun f x hx hf => by
     rw [markC_int true (by omega), hx, HT.out.1]
     congr 1
     push_cast
     omega)
    go_upto_region 20 with fail
    refine at_mark (T := 46) (s := 9) (tx := true) (w0 := w0) (g := g) (m := m) (k := k) (q := j * 9 + 8) ?_ ?_
    · exact MarkC.set (q := j * 9 + 7) (MarkC.set (q := j * 9 + 6) (MarkC.set (q := j * 9 + 5) (MarkC.set (q := j * 9 + 4) (MarkC.set (q := j * 9 + 3) (MarkC.set (q := j * 9 + 2) (MarkC.set (q := j * 9 + 1) (MarkC.set (q := j * 9) (HT.out.2) (by omega) (HE.out 0 (t) (by push_cast; omega) (by omega))) (by omega) (HE.out 1 (t + 1) (by push_cast; omega) (by omega))) (by omega) (HE.out 2 (t + 1 + 1) (by push_cast; omega) (by omega))) (by omega) (HE.out 3 (t + 1 + 1 + 1) (by push_cast; omega) (by omega))) (by omega) (HE.out 4 (t + 1 + 1 + 1 + 1) (by push_cast; omega) (by omega))) (by omega) (HE.out 5 (t + 1 + 1 + 1 + 1 + 1) (by push_cast; omega) (by omega))) (by omega) (HE.out 6 (t + 1 + 1 + 1 + 1 + 1 + 1) (by push_cast; omega) (by omega))) (by omega) (HE.out 7 (t + 1 + 1 + 1 + 1 + 1 + 1 + 1) (by push_cast; omega) (by omega))
    intro W8 h8
    have H8 := Lib.hid h8
    clear h8 p0 f0 p1 f1 p2 f2 p3 f3 p4 f4 p5 f5 p6 f6 p7 f7
    have HE8 := Lib.hid (show ∀ x : Int, x = t + 8 → Value.string (textK x) = markC 9 true k (j * 9 + 8) from fun x hx => by
     rw [markC_text (by omega), hx, HT.out.1]
     congr 2
     push_cast
     omega)
    go_wp2_with (go_at_call 70; refine (markTextK_calls _ _ (by omega) (by omega)).mono ?_; rintro e w' ⟨rfl, hb⟩; have H9 := Lib.hid (H8.out.below hb); obtain ⟨x8, p8⟩ := H9.out.cell (i := j * 9 + 8) (by omega); have f8 := H9.out.frozen (j * 9 + 8); clear hb)
    go_roundw
    case rel => exact ⟨j + 1, _, by omega, by go_num, rfl, by omega, by omega, Lib.hid ⟨by have := HT.out.1; push_cast; omega, by have h9 := MarkC.set H9.out (by omega) (HE8.out (t + 1 + 1 + 1 + 1 + 1 + 1 + 1 + 1) (by omega)); rw [show (j + 1) * 9 = j * 9 + 8 + 1 by omega]; exact h9⟩⟩
    case measure => simp [intOf] <;> omega
  · obtain rfl : j = n := by omega
    go_wp2
    go_ret
    exact ⟨ret_eq (congrArg (Value.int .i64) HT.out.1), HT.out.2⟩
theorem markNodeSA_calls (lo : Nat) (v : Value) (xs : List Nd) (k : Int) (w : World) (h : Acc kN lo w v xs) (hn : xs.length ≤ 1048576) (h0 : 1 ≤ k) (h1 : k + 9 * xs.length ≤ 1000000000000) :
 Calls Tryz.prog 32 #[v, .int .i64 k] w fun e w' => e = .returned (.int .i64 (k + 9 * xs.length)) ∧ But (fun b => v.ownBlock = some b) w w' ∧ SlN enNd w' v (markNs k xs.length) := by
 rcases h.2 with ⟨rfl, h2⟩ | ⟨g, cap, cur, rfl, -, hg, hc, -, hs, -⟩
 · rw [h2]
   go_enter Tryz.func32, Tryz.ntmps32
   go_wp2
   refine wp_loop_rounds 1 ?_
   rw [rounds_succ]
   go_wp2
   go_ret
   exact ⟨ret_eq (congrArg (Value.int .i64) (by simp)), .refl _ _, none, 0, rfl, Nat.le_refl _, by simp [markNs], fun i x hx => by simp [markNs] at hx⟩
 · refine (markNodeSB_calls g xs.length (cap * 9) cap k w w ⟨cur, hg, hs, fun i hi => absurd hi (Nat.not_lt_zero _), .refl _ _⟩ (Nat.mul_le_mul_right _ hc) hc hn h0 h1).mono ?_
   rintro e w' ⟨he, hm⟩
   refine ⟨he, ?_, hm.nodes hc (by omega)⟩
   obtain ⟨cs, -, -, -, hb⟩ := hm
   exact hb.mono fun b hb => congrArg some hb.symm
theorem markBindSB_calls (g n m c : Nat) (k : Int) (w0 w : World) (h : MarkC 57 2 false w0 g m k 0 w) (hm : n * 2 ≤ m) (hc : n ≤ c) (hn : n ≤ 1048576) (h0 : 0 ≤ k) (h1 : k + 2 * n ≤ 1000000000000) :
 Calls Tryz.prog 33 #[.slice (some ⟨g, 0, none⟩) n c, .int .i64 k] w fun e w' => e = .returned (.int .i64 (k + 2 * n)) ∧ MarkC 57 2 false w0 g m k (n * 2) w' := by
 have HO := Lib.hid h
 clear h
 go_enter Tryz.func33, Tryz.ntmps33
 go_wp2
 go_loopw [1, 5] (fun kk i wr => ∃ (j : Nat) (t : Int), j ≤ n ∧ i = .int .i64 j ∧ kk = .int .i64 t ∧ 0 ≤ t ∧ t ≤ 1000000000000 ∧ Hid (t = k + 2 * j ∧ MarkC 57 2 false w0 g m k (j * 2) wr)) (fun _ i _ => n - (intOf i).toNat)
 case atStart => exact ⟨0, k, Nat.zero_le _, rfl, rfl, by omega, by omega, Lib.hid ⟨by simp, by rw [Nat.zero_mul]; exact HO.out⟩⟩
 case round =>
  obtain ⟨j, t, hj, rfl, rfl, ht0, ht1, HT⟩ := hrel
  by_cases hlt : j < n
  · have hmm : j * 2 + 2 ≤ m := by omega
    obtain ⟨x0, p0⟩ := HT.out.2.cell (i := j * 2) (by omega)
    have f0 := HT.out.2.frozen (j * 2)
    obtain ⟨x1, p1⟩ := HT.out.2.cell (i := j * 2 + 1) (by omega)
    have f1 := HT.out.2.frozen (j * 2 + 1)
    have hb2 : t + 2 ≤ 1000000000000 := by have := HT.out.1; omega
    have HE := Lib.hid (show ∀ (f : Nat) (x : Int), x = t + f → (j * 2 + f) % 2 < 2 → Value.int .i64 x = markC 2 false k (j * 2 + f) from fun f x hx hf => by
     rw [markC_no, hx, HT.out.1]
     congr 1
     push_cast
     omega)
    go_wp2
    go_roundw
    case rel => exact ⟨j + 1, t + 1 + 1, by omega, by go_num, rfl, by omega, by omega, Lib.hid ⟨by have := HT.out.1; push_cast; omega, by have h9 := MarkC.set (q := j * 2 + 1) (MarkC.set (q := j * 2) (HT.out.2) (by omega) (HE.out 0 (t) (by push_cast; omega) (by omega))) (by omega) (HE.out 1 (t + 1) (by push_cast; omega) (by omega)); rw [show (j + 1) * 2 = j * 2 + 1 + 1 by omega]; exact h9⟩⟩
    case measure => simp [intOf] <;> omega
  · obtain rfl : j = n := by omega
    go_wp2
    go_ret
    exact ⟨ret_eq (congrArg (Value.int .i64) HT.out.1), HT.out.2⟩
theorem markBindSA_calls (lo : Nat) (v : Value) (xs : List Bd) (k : Int) (w : World) (h : Acc kB lo w v xs) (hn : xs.length ≤ 1048576) (h0 : 0 ≤ k) (h1 : k + 2 * xs.length ≤ 1000000000000) :
 Calls Tryz.prog 33 #[v, .int .i64 k] w fun e w' => e = .returned (.int .i64 (k + 2 * xs.length)) ∧ But (fun b => v.ownBlock = some b) w w' ∧ SlN enBd w' v (markBs k xs.length) := by
 rcases h.2 with ⟨rfl, h2⟩ | ⟨g, cap, cur, rfl, -, hg, hc, -, hs, -⟩
 · rw [h2]
   go_enter Tryz.func33, Tryz.ntmps33
   go_wp2
   refine wp_loop_rounds 1 ?_
   rw [rounds_succ]
   go_wp2
   go_ret
   exact ⟨ret_eq (congrArg (Value.int .i64) (by simp)), .refl _ _, none, 0, rfl, Nat.le_refl _, by simp [markBs], fun i x hx => by simp [markBs] at hx⟩
 · refine (markBindSB_calls g xs.length (cap * 2) cap k w w ⟨cur, hg, hs, fun i hi => absurd hi (Nat.not_lt_zero _), .refl _ _⟩ (Nat.mul_le_mul_right _ hc) hc hn h0 h1).mono ?_
   rintro e w' ⟨he, hm⟩
   refine ⟨he, ?_, hm.binds hc (by omega)⟩
   obtain ⟨cs, -, -, -, hb⟩ := hm
   exact hb.mono fun b hb => congrArg some hb.symm
theorem heldNodeS_calls (v : Value) (k : Int) (n : Nat) (w : World) (h : SlN enNd w v (markNs k n)) (h0 : 1 ≤ k) (h1 : k + 9 * n ≤ 1000000000000) :
 Makes Tryz.prog 35 #[v, .int .i64 k] w (.int .i64 (k + 9 * n)) := by
 obtain ⟨A, c, rfl, hnc, hl, hA⟩ := h
 rw [markNs_len] at hnc hl ⊢
 go_enter Tryz.func35, Tryz.ntmps35
 go_wp2
 go_loopw [1, 5] (fun kk i wr => ∃ (j : Nat) (t : Int), j ≤ n ∧ i = .int .i64 j ∧ kk = .int .i64 t ∧ 1 ≤ t ∧ t ≤ 1000000000000 ∧ Hid (t = k + 9 * j) ∧ LaterC w wr) (fun _ i _ => n - (intOf i).toNat)
 case atStart => exact ⟨0, k, Nat.zero_le _, rfl, rfl, by omega, by omega, Lib.hid (by simp), LaterC.refl _⟩
 case round =>
  obtain ⟨j, t, hj, rfl, rfl, ht0, ht1, HT, ⟨u, rfl⟩⟩ := hrel
  by_cases hlt : j < n
  · obtain ⟨b, o, rfl, hx⟩ := hA j _ (markNs_at hlt)
    rw [← HT.out] at hx
    have p0 : ∀ l : Later w, l.val.cell? ⟨b, o + j * 9, none⟩ = some (.int .i64 (t)) := hx.at_ (Below.refl _ _) 0 _ rfl
    have p1 : ∀ l : Later w, l.val.cell? ⟨b, o + j * 9 + 1, none⟩ = some (.int .i64 (t + 1)) := hx.at_ (Below.refl _ _) 1 _ rfl
    have p2 : ∀ l : Later w, l.val.cell? ⟨b, o + j * 9 + 2, none⟩ = some (.int .i64 (t + 1 + 1)) := hx.at_ (Below.refl _ _) 2 _ rfl
    have p3 : ∀ l : Later w, l.val.cell? ⟨b, o + j * 9 + 3, none⟩ = some (.int .i64 (t + 1 + 1 + 1)) := hx.at_ (Below.refl _ _) 3 _ rfl
    have p4 : ∀ l : Later w, l.val.cell? ⟨b, o + j * 9 + 4, none⟩ = some (.int .i64 (t + 1 + 1 + 1 + 1)) := hx.at_ (Below.refl _ _) 4 _ rfl
    have p5 : ∀ l : Later w, l.val.cell? ⟨b, o + j * 9 + 5, none⟩ = some (.int .i64 (t + 1 + 1 + 1 + 1 + 1)) := hx.at_ (Below.refl _ _) 5 _ rfl
    have p6 : ∀ l : Later w, l.val.cell? ⟨b, o + j * 9 + 6, none⟩ = some (.int .i64 (t + 1 + 1 + 1 + 1 + 1 + 1)) := hx.at_ (Below.refl _ _) 6 _ rfl
    have p7 : ∀ l : Later w, l.val.cell? ⟨b, o + j * 9 + 7, none⟩ = some (.int .i64 (t + 1 + 1 + 1 + 1 + 1 + 1 + 1)) := hx.at_ (Below.refl _ _) 7 _ rfl
    have p8 : ∀ l : Later w, l.val.cell? ⟨b, o + j * 9 + 8, none⟩ = some (.string (textK (t + 1 + 1 + 1 + 1 + 1 + 1 + 1 + 1))) := hx.at_ (Below.refl _ _) 8 _ rfl
    have hb2 : t + 9 ≤ 1000000000000 := by have := HT.out; omega
    clear hA hx
    go_upto_region 28 with fail
    refine wp_region_later (w0 := w) (by kernel_rfl) (by kernel_rfl) ⟨_, rfl⟩ ?_
    repeat (go_big_quiet_step ((go_at_call 70; exact Calls.later (markTextK_calls _ _ (by omega) (by omega)))))
    refine wpQuiet_nil ?_
    rintro _ ⟨u1, rfl⟩
    go_wp2
    go_roundw
    case rel => exact ⟨j + 1, _, by omega, by go_num, rfl, by omega, by omega, Lib.hid (by have := HT.out; push_cast; omega), ⟨u1, rfl⟩⟩
    case measure => simp [intOf] <;> omega
  · obtain rfl : j = n := by omega
    clear hA
    go_wp2
    go_ret
    exact ⟨ret_eq (congrArg (Value.int .i64) HT.out), u.prop⟩
theorem heldBindS_calls (v : Value) (k : Int) (n : Nat) (w : World) (h : SlN enBd w v (markBs k n)) (h0 : 0 ≤ k) (h1 : k + 2 * n ≤ 1000000000000) :
 Makes Tryz.prog 36 #[v, .int .i64 k] w (.int .i64 (k + 2 * n)) := by
 obtain ⟨A, c, rfl, hnc, hl, hA⟩ := h
 rw [markBs_len] at hnc hl ⊢
 go_enter Tryz.func36, Tryz.ntmps36
 go_wp2
 go_loopw [1, 5] (fun kk i wr => ∃ (j : Nat) (t : Int), j ≤ n ∧ i = .int .i64 j ∧ kk = .int .i64 t ∧ 0 ≤ t ∧ t ≤ 1000000000000 ∧ Hid (t = k + 2 * j) ∧ LaterC w wr) (fun _ i _ => n - (intOf i).toNat)
 case atStart => exact ⟨0, k, Nat.zero_le _, rfl, rfl, by omega, by omega, Lib.hid (by simp), LaterC.refl _⟩
 case round =>
  obtain ⟨j, t, hj, rfl, rfl, ht0, ht1, HT, ⟨u, rfl⟩⟩ := hrel
  by_cases hlt : j < n
  · obtain ⟨b, o, rfl, hx⟩ := hA j _ (markBs_at hlt)
    rw [← HT.out] at hx
    have p0 : ∀ l : Later w, l.val.cell? ⟨b, o + j * 2, none⟩ = some (.int .i64 (t)) := hx.at_ (Below.refl _ _) 0 _ rfl
    have p1 : ∀ l : Later w, l.val.cell? ⟨b, o + j * 2 + 1, none⟩ = some (.int .i64 (t + 1)) := hx.at_ (Below.refl _ _) 1 _ rfl
    have hb2 : t + 2 ≤ 1000000000000 := by have := HT.out; omega
    clear hA hx
    go_wp2
    go_roundw
    case rel => exact ⟨j + 1, t + 1 + 1, by omega, by go_num, rfl, by omega, by omega, Lib.hid (by have := HT.out; push_cast; omega), ⟨u, rfl⟩⟩
    case measure => simp [intOf] <;> omega
  · obtain rfl : j = n := by omega
    clear hA
    go_wp2
    go_ret
    exact ⟨ret_eq (congrArg (Value.int .i64) HT.out), u.prop⟩
end Go.Proofs.YtdojaijnejcoiaaGreat
namespace Go.Proofs.YtdojaijnejcoiaaGreat
open Go.RowKit
structure MdN (w : World) (v : Value) (M : Md) : Prop where
 at_ : ∃ s0 s1 s2 s3 s4, v = .agg #[s0, s1, s2, s3, s4] ∧ SlN enNd w s0 M.nodes ∧ SlN enBd w s1 M.inits ∧ SlN enBd w s2 M.nexts ∧ SlN enI w s3 M.bads ∧ SlN enI w s4 M.holds
theorem MdN.below {w w' : World} {v : Value} {M : Md} (h : MdN w v M) (hb : Below w.heap.size w w') : MdN w' v M := by
 obtain ⟨s0, s1, s2, s3, s4, hv, h0, h1, h2, h3, h4⟩ := h.at_
 exact ⟨s0, s1, s2, s3, s4, hv, h0.below hb, h1.below hb, h2.below hb, h3.below hb, h4.below hb⟩
theorem MdN.later {w : World} {v : Value} {M : Md} (h : MdN w v M) (u : Later w) : MdN u.val v M := h.below u.prop
theorem MdAt.mdN {w : World} {v : Value} {M : Md} (h : MdAt w v M) : MdN w v M := by
 obtain ⟨s0, s1, s2, s3, s4, hv, h0, h1, h2, h3, h4⟩ := h.at_
 exact ⟨s0, s1, s2, s3, s4, hv, h0.slN, h1.slN, h2.slN, h3.slN, h4.slN⟩
theorem eqBindN_calls (v1 v2 : Value) (xs : List Bd) (w : World) (h1 : SlN enBd w v1 xs) (h2 : SlN enBd w v2 xs) :
 Makes Tryz.prog 30 #[v1, v2] w (.bool true) := by
 obtain ⟨A, c, rfl, hnc, hc', hA⟩ := h1
 obtain ⟨B, d, rfl, -, hd', hB⟩ := h2
 generalize hN : xs.length = n at *
 have HN := Lib.hid hN
 clear hN
 have hn : n ≤ 281474976710656 := hc'
 clear hc' hd' hnc
 go_enter Tryz.func30, Tryz.ntmps30
 go_wp2
 go_loopw [5] (fun i wr => ∃ k : Nat, k ≤ n ∧ i = .int .i64 k ∧ LaterC w wr) (fun i _ => n - (intOf i).toNat)
 case atStart => exact ⟨0, Nat.zero_le _, rfl, LaterC.refl w⟩
 case round =>
  obtain ⟨k, hk, rfl, ⟨u, rfl⟩⟩ := hrel
  by_cases hlt : k < n
  · have hget := getD_at (show k < xs.length by rw [HN.out]; exact hlt) Bd.zero
    obtain ⟨b, o, rfl, hx⟩ := hA k _ hget
    obtain ⟨b', o', rfl, hy⟩ := hB k _ hget
    generalize xs.getD k Bd.zero = x at hx hy
    have p0 : ∀ l : Later w, l.val.cell? ⟨b, o + k * 2, none⟩ = some (.int .i64 x.st) := hx.at_ (Below.refl _ _) 0 _ rfl
    have q0 : ∀ l : Later w, l.val.cell? ⟨b', o' + k * 2, none⟩ = some (.int .i64 x.st) := hy.at_ (Below.refl _ _) 0 _ rfl
    have p1 : ∀ l : Later w, l.val.cell? ⟨b, o + k * 2 + 1, none⟩ = some (.int .i64 x.nd) := hx.at_ (Below.refl _ _) 1 _ rfl
    have q1 : ∀ l : Later w, l.val.cell? ⟨b', o' + k * 2 + 1, none⟩ = some (.int .i64 x.nd) := hy.at_ (Below.refl _ _) 1 _ rfl
    clear hx hy hget hA hB
    go_wp2
    refine wp_region_later (w0 := w) (by kernel_rfl) (by kernel_rfl) ⟨_, rfl⟩ ?_
    repeat (go_big_quiet_step ((go_at_call 69; exact Calls.later (eqBind_calls _ _ _))))
    refine wpQuiet_nil ?_
    rintro _ ⟨u1, rfl⟩
    go_wp2
    go_roundw
    case rel => exact ⟨k + 1, by omega, by go_num, ⟨u1, rfl⟩⟩
    case measure => simp [intOf]; omega
  · obtain rfl : k = n := by omega
    clear hA hB
    go_wp2
    go_ret
    exact ⟨rfl, u.prop⟩
theorem eqNodeN_calls (v1 v2 : Value) (xs : List Nd) (w : World) (h1 : SlN enNd w v1 xs) (h2 : SlN enNd w v2 xs) :
 Makes Tryz.prog 29 #[v1, v2] w (.bool true) := by
 obtain ⟨A, c, rfl, hnc, hc', hA⟩ := h1
 obtain ⟨B, d, rfl, -, hd', hB⟩ := h2
 generalize hN : xs.length = n at *
 have HN := Lib.hid hN
 clear hN
 have hn : n ≤ 281474976710656 := hc'
 clear hc' hd' hnc
 go_enter Tryz.func29, Tryz.ntmps29
 go_wp2
 go_loopw [5] (fun i wr => ∃ k : Nat, k ≤ n ∧ i = .int .i64 k ∧ LaterC w wr) (fun i _ => n - (intOf i).toNat)
 case atStart => exact ⟨0, Nat.zero_le _, rfl, LaterC.refl w⟩
 case round =>
  obtain ⟨k, hk, rfl, ⟨u, rfl⟩⟩ := hrel
  by_cases hlt : k < n
  · have hget := getD_at (show k < xs.length by rw [HN.out]; exact hlt) Nd.zero
    obtain ⟨b, o, rfl, hx⟩ := hA k _ hget
    obtain ⟨b', o', rfl, hy⟩ := hB k _ hget
    generalize xs.getD k Nd.zero = x at hx hy
    have p0 : ∀ l : Later w, l.val.cell? ⟨b, o + k * 9, none⟩ = some (.int .i64 x.kind) := hx.at_ (Below.refl _ _) 0 _ rfl
    have q0 : ∀ l : Later w, l.val.cell? ⟨b', o' + k * 9, none⟩ = some (.int .i64 x.kind) := hy.at_ (Below.refl _ _) 0 _ rfl
    have p1 : ∀ l : Later w, l.val.cell? ⟨b, o + k * 9 + 1, none⟩ = some (.int .i64 x.a) := hx.at_ (Below.refl _ _) 1 _ rfl
    have q1 : ∀ l : Later w, l.val.cell? ⟨b', o' + k * 9 + 1, none⟩ = some (.int .i64 x.a) := hy.at_ (Below.refl _ _) 1 _ rfl
    have p2 : ∀ l : Later w, l.val.cell? ⟨b, o + k * 9 + 2, none⟩ = some (.int .i64 x.b) := hx.at_ (Below.refl _ _) 2 _ rfl
    have q2 : ∀ l : Later w, l.val.cell? ⟨b', o' + k * 9 + 2, none⟩ = some (.int .i64 x.b) := hy.at_ (Below.refl _ _) 2 _ rfl
    have p3 : ∀ l : Later w, l.val.cell? ⟨b, o + k * 9 + 3, none⟩ = some (.int .i64 x.c) := hx.at_ (Below.refl _ _) 3 _ rfl
    have q3 : ∀ l : Later w, l.val.cell? ⟨b', o' + k * 9 + 3, none⟩ = some (.int .i64 x.c) := hy.at_ (Below.refl _ _) 3 _ rfl
    have p4 : ∀ l : Later w, l.val.cell? ⟨b, o + k * 9 + 4, none⟩ = some (.int .i64 x.n) := hx.at_ (Below.refl _ _) 4 _ rfl
    have q4 : ∀ l : Later w, l.val.cell? ⟨b', o' + k * 9 + 4, none⟩ = some (.int .i64 x.n) := hy.at_ (Below.refl _ _) 4 _ rfl
    have p5 : ∀ l : Later w, l.val.cell? ⟨b, o + k * 9 + 5, none⟩ = some (.int .i64 x.m) := hx.at_ (Below.refl _ _) 5 _ rfl
    have q5 : ∀ l : Later w, l.val.cell? ⟨b', o' + k * 9 + 5, none⟩ = some (.int .i64 x.m) := hy.at_ (Below.refl _ _) 5 _ rfl
    have p6 : ∀ l : Later w, l.val.cell? ⟨b, o + k * 9 + 6, none⟩ = some (.int .i64 x.idx) := hx.at_ (Below.refl _ _) 6 _ rfl
    have q6 : ∀ l : Later w, l.val.cell? ⟨b', o' + k * 9 + 6, none⟩ = some (.int .i64 x.idx) := hy.at_ (Below.refl _ _) 6 _ rfl
    have p7 : ∀ l : Later w, l.val.cell? ⟨b, o + k * 9 + 7, none⟩ = some (.int .i64 x.wid) := hx.at_ (Below.refl _ _) 7 _ rfl
    have q7 : ∀ l : Later w, l.val.cell? ⟨b', o' + k * 9 + 7, none⟩ = some (.int .i64 x.wid) := hy.at_ (Below.refl _ _) 7 _ rfl
    have p8 : ∀ l : Later w, l.val.cell? ⟨b, o + k * 9 + 8, none⟩ = some (.string x.name) := hx.at_ (Below.refl _ _) 8 _ rfl
    have q8 : ∀ l : Later w, l.val.cell? ⟨b', o' + k * 9 + 8, none⟩ = some (.string x.name) := hy.at_ (Below.refl _ _) 8 _ rfl
    clear hx hy hget hA hB
    go_wp2
    refine wp_region_later (w0 := w) (by kernel_rfl) (by kernel_rfl) ⟨_, rfl⟩ ?_
    repeat (go_big_quiet_step ((go_at_call 68; exact Calls.later (eqNode_calls x _))))
    refine wpQuiet_nil ?_
    rintro _ ⟨u1, rfl⟩
    go_wp2
    go_roundw
    case rel => exact ⟨k + 1, by omega, by go_num, ⟨u1, rfl⟩⟩
    case measure => simp [intOf]; omega
  · obtain rfl : k = n := by omega
    clear hA hB
    go_wp2
    go_ret
    exact ⟨rfl, u.prop⟩
theorem eqModelN_calls (v1 v2 : Value) (M : Md) (w : World) (h1 : MdN w v1 M) (h2 : MdN w v2 M) :
 Makes Tryz.prog 8 #[v1, v2] w (.bool true) := by
 obtain ⟨s0, s1, s2, s3, s4, rfl, S0, S1, S2, S3, S4⟩ := h1.at_
 obtain ⟨t0, t1, t2, t3, t4, rfl, T0, T1, T2, T3, T4⟩ := h2.at_
 clear h1 h2
 go_enter Tryz.func8, Tryz.ntmps8
 go_wp2_with fail
 have HB := Lib.hid (show Below w.heap.size w ((w.alloc (.cells #[s0, s1, s2, s3, s4] 31)).alloc (.cells #[t0, t1, t2, t3, t4] 31)) by
  refine Below.alloc (Below.alloc (Below.refl _ _) (Nat.le_refl _) _) ?_ _ <;> first | (simp; done) | (simp; omega))
 have S0' := Lib.hid (S0.below HB.out)
 have T0' := Lib.hid (T0.below HB.out)
 clear S0 T0
 have p0 : ((w.alloc (.cells #[s0, s1, s2, s3, s4] 31)).alloc (.cells #[t0, t1, t2, t3, t4] 31)).cell? ⟨w.heap.size, 0, none⟩ = some s0 := by go_simp
 have q0 : ((w.alloc (.cells #[s0, s1, s2, s3, s4] 31)).alloc (.cells #[t0, t1, t2, t3, t4] 31)).cell? ⟨w.heap.size + 1, 0, none⟩ = some t0 := by go_simp
 have S1' := Lib.hid (S1.below HB.out)
 have T1' := Lib.hid (T1.below HB.out)
 clear S1 T1
 have p1 : ((w.alloc (.cells #[s0, s1, s2, s3, s4] 31)).alloc (.cells #[t0, t1, t2, t3, t4] 31)).cell? ⟨w.heap.size, 1, none⟩ = some s1 := by go_simp
 have q1 : ((w.alloc (.cells #[s0, s1, s2, s3, s4] 31)).alloc (.cells #[t0, t1, t2, t3, t4] 31)).cell? ⟨w.heap.size + 1, 1, none⟩ = some t1 := by go_simp
 have S2' := Lib.hid (S2.below HB.out)
 have T2' := Lib.hid (T2.below HB.out)
 clear S2 T2
 have p2 : ((w.alloc (.cells #[s0, s1, s2, s3, s4] 31)).alloc (.cells #[t0, t1, t2, t3, t4] 31)).cell? ⟨w.heap.size, 2, none⟩ = some s2 := by go_simp
 have q2 : ((w.alloc (.cells #[s0, s1, s2, s3, s4] 31)).alloc (.cells #[t0, t1, t2, t3, t4] 31)).cell? ⟨w.heap.size + 1, 2, none⟩ = some t2 := by go_simp
 have S3' := Lib.hid (S3.below HB.out)
 have T3' := Lib.hid (T3.below HB.out)
 clear S3 T3
 have p3 : ((w.alloc (.cells #[s0, s1, s2, s3, s4] 31)).alloc (.cells #[t0, t1, t2, t3, t4] 31)).cell? ⟨w.heap.size, 3, none⟩ = some s3 := by go_simp
 have q3 : ((w.alloc (.cells #[s0, s1, s2, s3, s4] 31)).alloc (.cells #[t0, t1, t2, t3, t4] 31)).cell? ⟨w.heap.size + 1, 3, none⟩ = some t3 := by go_simp
 have S4' := Lib.hid (S4.below HB.out)
 have T4' := Lib.hid (T4.below HB.out)
 clear S4 T4
 have p4 : ((w.alloc (.cells #[s0, s1, s2, s3, s4] 31)).alloc (.cells #[t0, t1, t2, t3, t4] 31)).cell? ⟨w.heap.size, 4, none⟩ = some s4 := by go_simp
 have q4 : ((w.alloc (.cells #[s0, s1, s2, s3, s4] 31)).alloc (.cells #[t0, t1, t2, t3, t4] 31)).cell? ⟨w.heap.size + 1, 4, none⟩ = some t4 := by go_simp
 generalize (w.alloc (.cells #[s0, s1, s2, s3, s4] 31)).alloc (.cells #[t0, t1, t2, t3, t4] 31) = v0 at *
 have p0 := Later.cell p0
 have q0 := Later.cell q0
 have p1 := Later.cell p1
 have q1 := Later.cell q1
 have p2 := Later.cell p2
 have q2 := Later.cell q2
 have p3 := Later.cell p3
 have q3 := Later.cell q3
 have p4 := Later.cell p4
 have q4 := Later.cell q4
 refine (Calls.later (u := (⟨v0, Below.refl _ _⟩ : Later v0)) (eqNodeN_calls s0 t0 M.nodes _ (S0'.out.later _) (T0'.out.later _))).mono ?_
 rintro e w' ⟨rfl, u1, rfl⟩
 go_wp2_with fail
 refine (Calls.later (u := u1) (eqBindN_calls s1 t1 M.inits _ (S1'.out.later _) (T1'.out.later _))).mono ?_
 rintro e w' ⟨rfl, u2, rfl⟩
 go_wp2_with fail
 refine (Calls.later (u := u2) (eqBindN_calls s2 t2 M.nexts _ (S2'.out.later _) (T2'.out.later _))).mono ?_
 rintro e w' ⟨rfl, u3, rfl⟩
 go_wp2_with fail
 refine (Calls.later (u := u3) (eqIntN_calls s3 t3 M.bads _ (S3'.out.later _) (T3'.out.later _))).mono ?_
 rintro e w' ⟨rfl, u4, rfl⟩
 go_wp2_with fail
 refine (Calls.later (u := u4) (eqIntN_calls s4 t4 M.holds _ (S4'.out.later _) (T4'.out.later _))).mono ?_
 rintro e w' ⟨rfl, u5, rfl⟩
 go_wp2
 go_ret
 exact ⟨rfl, u5.back HB.out⟩
end Go.Proofs.YtdojaijnejcoiaaGreat
namespace Go.Proofs.YtdojaijnejcoiaaGreat
open Go.RowKit
theorem Acc.mono {α : Type} {K : Rk α} {lo lo' : Nat} {w : World} {v : Value} {xs : List α} (h : Acc K lo w v xs) (hl : lo' ≤ lo) : Acc K lo' w v xs := by
 refine ⟨h.1, ?_⟩
 rcases h.2 with h0 | ⟨g, cap, cur, h1, h2, r⟩
 · exact .inl h0
 · exact .inr ⟨g, cap, cur, h1, Nat.le_trans hl h2, r⟩
theorem Acc.shape {α : Type} {K : Rk α} {lo : Nat} {w : World} {v : Value} {xs : List α} (h : Acc K lo w v xs) : ∃ A c, v = .slice A xs.length c := by
 rcases h.2 with ⟨rfl, h0⟩ | ⟨g, cap, cur, rfl, -⟩
 · exact ⟨none, 0, by rw [h0]⟩
 · exact ⟨_, _, rfl⟩
theorem But.drew' {S : Nat → Prop} {w w' : World} (h : But S w w') : But S w w'.drew := h.trans (.of_below (Below.refl _ _).drew)
theorem But.alloc' {S : Nat → Prop} {w w' : World} (h : But S w w') (o : Obj) : But S w (w'.alloc o) := h.trans (.of_below ((Below.refl _ _).alloc (Nat.le_refl _) _))
theorem But.set1 {w w' : World} {R j : Nat} (h : But (fun b => b = R) w w') (v : Value) : But (fun b => b = R) w (w'.setCell ⟨R, j, none⟩ v) := h.setCell (p := ⟨R, j, none⟩) rfl v
def Sep (a b : Value) : Prop := ∀ k, a.ownBlock = some k → b.ownBlock ≠ some k
theorem Sep.symm {a b : Value} (h : Sep a b) : Sep b a := fun k h1 h2 => h k h2 h1
theorem sep_of {α β : Type} {K : Rk α} {K' : Rk β} {lo lo' : Nat} {w w' : World} {a b : Value} {xs : List α} {ys : List β} (h : Acc K lo w a xs) (hl : w.heap.size ≤ lo') (h' : Acc K' lo' w' b ys) : Sep a b := fun k h1 h2 => by
 have e1 := (h.lt k h1).2
 have e2 := (h'.lt k h2).1
 omega
structure OwnM (lo : Nat) (w : World) (s0 s1 s2 s3 s4 : Value) (M : Md) : Prop where
 a0 : Acc kN lo w s0 M.nodes
 a1 : Acc kB lo w s1 M.inits
 a2 : Acc kB lo w s2 M.nexts
 a3 : Acc kI lo w s3 M.bads
 a4 : Acc kI lo w s4 M.holds
 d01 : Sep s0 s1
 d02 : Sep s0 s2
 d03 : Sep s0 s3
 d04 : Sep s0 s4
 d12 : Sep s1 s2
 d13 : Sep s1 s3
 d14 : Sep s1 s4
 d23 : Sep s2 s3
 d24 : Sep s2 s4
 d34 : Sep s3 s4
theorem OwnM.mono {lo lo' : Nat} {w : World} {s0 s1 s2 s3 s4 : Value} {M : Md} (h : OwnM lo w s0 s1 s2 s3 s4 M) (hl : lo' ≤ lo) : OwnM lo' w s0 s1 s2 s3 s4 M :=
 { h with a0 := h.a0.mono hl, a1 := h.a1.mono hl, a2 := h.a2.mono hl, a3 := h.a3.mono hl, a4 := h.a4.mono hl }
theorem OwnM.below {lo : Nat} {w w' : World} {s0 s1 s2 s3 s4 : Value} {M : Md} (h : OwnM lo w s0 s1 s2 s3 s4 M) (hb : Below w.heap.size w w') : OwnM lo w' s0 s1 s2 s3 s4 M :=
 { h with a0 := h.a0.below hb, a1 := h.a1.below hb, a2 := h.a2.below hb, a3 := h.a3.below hb, a4 := h.a4.below hb }
theorem OwnM.but {S : Nat → Prop} {lo : Nat} {w w' : World} {s0 s1 s2 s3 s4 : Value} {M : Md} (h : OwnM lo w s0 s1 s2 s3 s4 M) (hb : But S w w') (hS : ∀ b, lo ≤ b → ¬ S b) : OwnM lo w' s0 s1 s2 s3 s4 M :=
 { h with a0 := h.a0.but hb fun b e => hS b (h.a0.lt b e).1, a1 := h.a1.but hb fun b e => hS b (h.a1.lt b e).1, a2 := h.a2.but hb fun b e => hS b (h.a2.lt b e).1, a3 := h.a3.but hb fun b e => hS b (h.a3.lt b e).1, a4 := h.a4.but hb fun b e => hS b (h.a4.lt b e).1 }
theorem OwnM.mdN {lo : Nat} {w : World} {s0 s1 s2 s3 s4 : Value} {M : Md} (h : OwnM lo w s0 s1 s2 s3 s4 M) (hl : M.nodes.length ≤ 1048576 ∧ M.inits.length ≤ 1048576 ∧ M.nexts.length ≤ 1048576 ∧ M.bads.length ≤ 1048576 ∧ M.holds.length ≤ 1048576) : MdN w (.agg #[s0, s1, s2, s3, s4]) M :=
 ⟨_, _, _, _, _, rfl, h.a0.slN kN_ok (by omega), h.a1.slN kB_ok (by omega), h.a2.slN kB_ok (by omega), h.a3.slN kI_ok (by omega), h.a4.slN kI_ok (by omega)⟩
theorem OwnM.none (lo : Nat) (w : World) : OwnM lo w (.slice none 0 0) (.slice none 0 0) (.slice none 0 0) (.slice none 0 0) (.slice none 0 0) ⟨[], [], [], [], []⟩ :=
 ⟨.nil _ _ _, .nil _ _ _, .nil _ _ _, .nil _ _ _, .nil _ _ _, fun k e => (by cases e), fun k e => (by cases e), fun k e => (by cases e), fun k e => (by cases e), fun k e => (by cases e), fun k e => (by cases e), fun k e => (by cases e), fun k e => (by cases e), fun k e => (by cases e), fun k e => (by cases e)⟩
theorem five_set {w : World} {R : Nat} {T : TypeId} {x0 x1 x2 x3 x4 : Value} (h : OwnB w R T #[x0, x1, x2, x3, x4]) (a0 a1 a2 a3 a4 : Value) :
 OwnB (((((w.setCell ⟨R, 0, none⟩ a0).setCell ⟨R, 1, none⟩ a1).setCell ⟨R, 2, none⟩ a2).setCell ⟨R, 3, none⟩ a3).setCell ⟨R, 4, none⟩ a4) R T #[a0, a1, a2, a3, a4] :=
 ((((h.set 0 a0).set 1 a1).set 2 a2).set 3 a3).set 4 a4
theorem five_but (w : World) (R : Nat) (a0 a1 a2 a3 a4 : Value) : But (fun b => b = R) w (((((w.setCell ⟨R, 0, none⟩ a0).setCell ⟨R, 1, none⟩ a1).setCell ⟨R, 2, none⟩ a2).setCell ⟨R, 3, none⟩ a3).setCell ⟨R, 4, none⟩ a4) :=
 ((((((But.refl (fun b => b = R) w).setCell (p := ⟨R, 0, none⟩) rfl _).setCell (p := ⟨R, 1, none⟩) rfl _).setCell (p := ⟨R, 2, none⟩) rfl _).setCell (p := ⟨R, 3, none⟩) rfl _).setCell (p := ⟨R, 4, none⟩) rfl _)
section
variable {α : Type} {K : Rk α} {ops : Array Oper} {o : Oper} {a : Act} {Q : Exit → Act → World → Prop}
theorem clone_run (hk : K.Ok) (W : World) (vx : Value) (ys : List α) (hS : SlN K.E W vx ys) (hl : ys.length ≤ 1048576) (ty : TypeId) :
 ∃ v' w', (Builtin.append_ #[K.S, K.S] ty #[.slice none 0 0, vx]).run Tryz.prog W = .ok v' w' ∧ Acc K W.heap.size w' v' ys ∧ Below W.heap.size W w' := by
 obtain ⟨A, c, rfl, -, -, hA⟩ := hS
 obtain ⟨v', w', hr, hac, hg⟩ := append_acc hk W ty W.heap.size (.slice none 0 0) [] (Acc.nil K _ _) (Nat.le_refl _) A ys.length c ys rfl hA (by simp; omega)
 exact ⟨v', w', hr, hac, (grown_but hg).below (fun k e => by cases e) (Nat.le_refl _)⟩
theorem step_clone {P : Act → World → Prop} {E : Prop} (hk : K.Ok) (hgd : o.guard = none) (s x : Operand) (ho : o.op = .call { callee := .builtin .append, args := #[s, x], argTypes := #[K.S, K.S] })
 (W : World) (vx : Value) (ys : List α) (hs : a.eval s = .slice none 0 0) (hx : a.eval x = vx) (hS : SlN K.E W vx ys) (hl : ys.length ≤ 1048576)
 (k : ∀ v' w', Acc K W.heap.size w' v' ys → Below W.heap.size W w' → P (a.put o.dst v') w') : if Region.wanted o (yielded ops a.tmps) = true then Oper.wp Tryz.prog o a W P Q else E := by
 have hw : Region.wanted o (yielded ops a.tmps) = true := by simp [Region.wanted, hgd]
 rw [if_pos hw]
 obtain ⟨v', w', hr, hac, hb⟩ := clone_run hk W vx ys hS hl o.type
 exact Lib.wp_append_run W s x _ _ ho _ _ hs hx v' w' hr (k v' w' hac hb)
theorem step_push {P : Act → World → Prop} {E : Prop} (hk : K.Ok) (hgd : o.guard = none) (s x : Operand) (ho : o.op = .call { callee := .builtin .append, args := #[s, x], argTypes := #[K.S, K.S] })
 (lo : Nat) (W W3 : World) (H : Nat) (v : Value) (y : α) (xs : List α) (n : Nat) (T : TypeId) (cs : Array Value) (hn : xs.length = n) (hs : a.eval s = v) (hac : Acc K lo W v xs) (hlo : lo ≤ W.heap.size)
 (hl : xs.length ≤ 1048576) (hb3 : Below W.heap.size W W3) (hbox : W3.heap[H]? = some (.cells cs T (0, 0))) (hcs : cs.toList = K.E.cells y) (hx : a.eval x = .slice (some ⟨H, 0, none⟩) 1 1)
 (k : ∀ (g cap : Nat) (wn : World), Acc K lo wn (.slice (some ⟨g, 0, none⟩) (n + 1) cap) (xs ++ [y]) → W3.grownBy wn v.ownBlock → (v.ownBlock = some g ∨ g = W3.heap.size) → P (a.put o.dst (.slice (some ⟨g, 0, none⟩) (n + 1) cap)) wn) : if Region.wanted o (yielded ops a.tmps) = true then Oper.wp Tryz.prog o a W3 P Q else E := by
 have hw : Region.wanted o (yielded ops a.tmps) = true := by simp [Region.wanted, hgd]
 rw [if_pos hw]
 exact wp_push hk s x ho lo W W3 H v y xs n T cs hn hs hac hlo hl hb3 hbox hcs hx k
end
theorem cloneBindsK_calls (sv : Value) (xs : List Bd) (w : World) (hS : SlN enBd w sv xs) (hl : xs.length ≤ 1048576) :
 Calls Tryz.prog 65 #[sv] w fun e w' => ∃ s, e = .returned s ∧ Below w.heap.size w w' ∧ Acc kB w.heap.size w' s xs := by
 have hr : ∀ ty, ∃ v' w', (Builtin.append_ #[29, 29] ty #[.slice none 0 0, sv]).run Tryz.prog w = .ok v' w' ∧ Acc kB w.heap.size w' v' xs ∧ Below w.heap.size w w' := clone_run kB_ok w sv xs hS hl
 obtain ⟨v', w', hr, hac, hb⟩ := hr 29
 have HR := Lib.hid hr
 obtain ⟨A, c, rfl, -⟩ := hS
 clear hr
 go_enter Tryz.func65, Tryz.ntmps65
 go_wp2_with (at_builtin; refine Lib.wpList_append_run _ (by rfl) _ _ _ _ (by rfl) _ _ (by rfl) (by rfl) _ _ HR.out ?_)
 go_ret
 exact ⟨v', rfl, hb, hac⟩
theorem cloneIntsK_calls (sv : Value) (xs : List Int) (w : World) (hS : SlN enI w sv xs) (hl : xs.length ≤ 1048576) :
 Calls Tryz.prog 66 #[sv] w fun e w' => ∃ s, e = .returned s ∧ Below w.heap.size w w' ∧ Acc kI w.heap.size w' s xs := by
 have hr : ∀ ty, ∃ v' w', (Builtin.append_ #[24, 24] ty #[.slice none 0 0, sv]).run Tryz.prog w = .ok v' w' ∧ Acc kI w.heap.size w' v' xs ∧ Below w.heap.size w w' := clone_run kI_ok w sv xs hS hl
 obtain ⟨v', w', hr, hac, hb⟩ := hr 24
 have HR := Lib.hid hr
 obtain ⟨A, c, rfl, -⟩ := hS
 clear hr
 go_enter Tryz.func66, Tryz.ntmps66
 go_wp2_with (at_builtin; refine Lib.wpList_append_run _ (by rfl) _ _ _ _ (by rfl) _ _ (by rfl) (by rfl) _ _ HR.out ?_)
 go_ret
 exact ⟨v', rfl, hb, hac⟩
theorem clone_calls (mv : Value) (M : Md) (w : World) (hM : MdN w mv M) (hl : M.nodes.length ≤ 1048576 ∧ M.inits.length ≤ 1048576 ∧ M.nexts.length ≤ 1048576 ∧ M.bads.length ≤ 1048576 ∧ M.holds.length ≤ 1048576) :
 Calls Tryz.prog 25 #[mv] w fun e w' => ∃ s0 s1 s2 s3 s4, e = .returned (.agg #[s0, s1, s2, s3, s4]) ∧ Below w.heap.size w w' ∧ OwnM w.heap.size w' s0 s1 s2 s3 s4 M := by
 obtain ⟨t0, t1, t2, t3, t4, rfl, ht0, ht1, ht2, ht3, ht4⟩ := hM.at_
 clear hM
 have HS0 := Lib.hid ht0
 have HS1 := Lib.hid ht1
 have HS2 := Lib.hid ht2
 have HS3 := Lib.hid ht3
 have HS4 := Lib.hid ht4
 obtain ⟨A0, c0, rfl, -⟩ := ht0
 obtain ⟨A1, c1, rfl, -⟩ := ht1
 obtain ⟨A2, c2, rfl, -⟩ := ht2
 obtain ⟨A3, c3, rfl, -⟩ := ht3
 obtain ⟨A4, c4, rfl, -⟩ := ht4
 have HL := Lib.hid hl
 clear hl
 generalize hn0 : M.nodes.length = n0 at *
 generalize hn1 : M.inits.length = n1 at *
 generalize hn2 : M.nexts.length = n2 at *
 generalize hn3 : M.bads.length = n3 at *
 generalize hn4 : M.holds.length = n4 at *
 have HN0 := Lib.hid hn0
 have HN1 := Lib.hid hn1
 have HN2 := Lib.hid hn2
 have HN3 := Lib.hid hn3
 have HN4 := Lib.hid hn4
 clear hn0 hn1 hn2 hn3 hn4
 go_enter Tryz.func25, Tryz.ntmps25
 go_upto_region 1 with fail
 generalize hw2 : (w.alloc (Obj.cells #[.slice A0 n0 c0, .slice A1 n1 c1, .slice A2 n2 c2, .slice A3 n3 c3, .slice A4 n4 c4] 31)).alloc (Obj.cells #[.slice none 0 0, .slice none 0 0, .slice none 0 0, .slice none 0 0, .slice none 0 0] 31) = w2
 have m0 : ∀ u : Later w2, u.val.cell? ⟨w.heap.size, 0, none⟩ = some (.slice A0 n0 c0) := Later.cell (by rw [← hw2]; clear hw2; go_simp)
 have m1 : ∀ u : Later w2, u.val.cell? ⟨w.heap.size, 1, none⟩ = some (.slice A1 n1 c1) := Later.cell (by rw [← hw2]; clear hw2; go_simp)
 have m2 : ∀ u : Later w2, u.val.cell? ⟨w.heap.size, 2, none⟩ = some (.slice A2 n2 c2) := Later.cell (by rw [← hw2]; clear hw2; go_simp)
 have m3 : ∀ u : Later w2, u.val.cell? ⟨w.heap.size, 3, none⟩ = some (.slice A3 n3 c3) := Later.cell (by rw [← hw2]; clear hw2; go_simp)
 have m4 : ∀ u : Later w2, u.val.cell? ⟨w.heap.size, 4, none⟩ = some (.slice A4 n4 c4) := Later.cell (by rw [← hw2]; clear hw2; go_simp)
 have HO := Lib.hid (show OwnB w2 (w.heap.size + 1) 31 #[.slice none 0 0, .slice none 0 0, .slice none 0 0, .slice none 0 0, .slice none 0 0] by
  have h := OwnB.new (w.alloc (Obj.cells #[.slice A0 n0 c0, .slice A1 n1 c1, .slice A2 n2 c2, .slice A3 n3 c3, .slice A4 n4 c4] 31)) 31 #[.slice none 0 0, .slice none 0 0, .slice none 0 0, .slice none 0 0, .slice none 0 0]
  rw [hw2] at h
  simpa using h)
 have HB := Lib.hid (show Below w.heap.size w w2 by rw [← hw2]; exact ((Below.refl _ _).alloc (Nat.le_refl _) _).alloc (by simp) _)
 have HSZ := Lib.hid (show w2.heap.size = w.heap.size + 2 by rw [← hw2]; simp)
 clear hw2
 have HT0 := Lib.hid (HS0.out.below HB.out)
 have HT1 := Lib.hid (HS1.out.below HB.out)
 have HT2 := Lib.hid (HS2.out.below HB.out)
 have HT3 := Lib.hid (HS3.out.below HB.out)
 have HT4 := Lib.hid (HS4.out.below HB.out)
 clear HS0 HS1 HS2 HS3 HS4
 have HR := Lib.hid (show ∀ u : Later w2, OwnB u.val (w.heap.size + 1) 31 #[.slice none 0 0, .slice none 0 0, .slice none 0 0, .slice none 0 0, .slice none 0 0] from fun u => HO.out.below u.prop HO.out.lt)
 have y0 : ∀ u : Later w2, u.val.cell? ⟨w.heap.size + 1, 0, none⟩ = some (.slice none 0 0) := fun u => (HR.out u).cell 0
 have f0 : ∀ u : Later w2, u.val.frozen? ⟨w.heap.size + 1, 0, none⟩ = false := fun u => (HR.out u).frozen 0
 have y1 : ∀ u : Later w2, u.val.cell? ⟨w.heap.size + 1, 1, none⟩ = some (.slice none 0 0) := fun u => (HR.out u).cell 1
 have f1 : ∀ u : Later w2, u.val.frozen? ⟨w.heap.size + 1, 1, none⟩ = false := fun u => (HR.out u).frozen 1
 have y2 : ∀ u : Later w2, u.val.cell? ⟨w.heap.size + 1, 2, none⟩ = some (.slice none 0 0) := fun u => (HR.out u).cell 2
 have f2 : ∀ u : Later w2, u.val.frozen? ⟨w.heap.size + 1, 2, none⟩ = false := fun u => (HR.out u).frozen 2
 have y3 : ∀ u : Later w2, u.val.cell? ⟨w.heap.size + 1, 3, none⟩ = some (.slice none 0 0) := fun u => (HR.out u).cell 3
 have f3 : ∀ u : Later w2, u.val.frozen? ⟨w.heap.size + 1, 3, none⟩ = false := fun u => (HR.out u).frozen 3
 have y4 : ∀ u : Later w2, u.val.cell? ⟨w.heap.size + 1, 4, none⟩ = some (.slice none 0 0) := fun u => (HR.out u).cell 4
 have f4 : ∀ u : Later w2, u.val.frozen? ⟨w.heap.size + 1, 4, none⟩ = false := fun u => (HR.out u).frozen 4
 have hne : ¬ w.heap.size = w.heap.size + 1 := by omega
 have HQL := Lib.hid (show ∀ w', But (fun b => b = w.heap.size + 1) w2 w' → w'.cell? ⟨w.heap.size, 0, none⟩ = some (.slice A0 n0 c0) ∧ w'.cell? ⟨w.heap.size, 1, none⟩ = some (.slice A1 n1 c1) ∧ w'.cell? ⟨w.heap.size, 2, none⟩ = some (.slice A2 n2 c2) ∧ w'.cell? ⟨w.heap.size, 3, none⟩ = some (.slice A3 n3 c3) ∧ w'.cell? ⟨w.heap.size, 4, none⟩ = some (.slice A4 n4 c4) from fun W h => ⟨cell_but (m0 ⟨w2, Below.refl _ _⟩) h hne, cell_but (m1 ⟨w2, Below.refl _ _⟩) h hne, cell_but (m2 ⟨w2, Below.refl _ _⟩) h hne, cell_but (m3 ⟨w2, Below.refl _ _⟩) h hne, cell_but (m4 ⟨w2, Below.refl _ _⟩) h hne⟩)
 clear hne
 refine at_world (w := w2) ?_
 intro u0
 go_region_held_law (fun w' => w'.cell? ⟨w.heap.size, 0, none⟩ = some (.slice A0 n0 c0) ∧ w'.cell? ⟨w.heap.size, 1, none⟩ = some (.slice A1 n1 c1) ∧ w'.cell? ⟨w.heap.size, 2, none⟩ = some (.slice A2 n2 c2) ∧ w'.cell? ⟨w.heap.size, 3, none⟩ = some (.slice A3 n3 c3) ∧ w'.cell? ⟨w.heap.size, 4, none⟩ = some (.slice A4 n4 c4)) ((refine HQL.out _ ?_; repeat (first | exact But.of_below (Later.prop _) | refine But.drew' ?_ | refine But.alloc' ?_ _ | refine But.set1 ?_ _))) (first | (refine step_clone kN_ok (by rfl) _ _ (by rfl) _ (.slice A0 n0 c0) M.nodes (by rfl) (by rfl) (HT0.out.below (LaterC.below (w1 := w2) (by repeat (first | exact ⟨_, rfl⟩ | exact LaterC.refl _ | refine LaterC.drew' ?_ | refine LaterC.alloc' ?_ _)))) (by rw [HN0.out]; have := HL.out; omega) ?_; intro r0 w' hac hb; have HA0' := Lib.hid (hac.mono (lo' := w2.heap.size) (LaterC.below (w1 := w2) (by repeat (first | exact ⟨_, rfl⟩ | exact LaterC.refl _ | refine LaterC.drew' ?_ | refine LaterC.alloc' ?_ _))).size); obtain ⟨v0, hv0⟩ := laterC_step (w1 := w2) (by repeat (first | exact ⟨_, rfl⟩ | exact LaterC.refl _ | refine LaterC.drew' ?_ | refine LaterC.alloc' ?_ _)) hb; subst hv0; have HA0 := HA0'; obtain ⟨B0, d0, hs0⟩ := hac.shape; subst hs0; clear hb hac) | (go_at_call 65; (with_reducible refine (cloneBindsK_calls (.slice A1 n1 c1) M.inits _ (HT1.out.below (LaterC.below (w1 := w2) (by repeat (first | exact ⟨_, rfl⟩ | exact LaterC.refl _ | refine LaterC.drew' ?_ | refine LaterC.alloc' ?_ _)))) (by rw [HN1.out]; have := HL.out; omega)).mono ?_); rintro e w' ⟨r1, rfl, hb, hac⟩; have HD01 := Lib.hid (sep_of HA0.out (by first | exact Nat.le_refl _ | simp) hac); have HA0 := Lib.hid ((HA0.out.below (by first | exact Below.refl _ _ | exact (Below.refl _ _).drew)).below hb); have HA1' := Lib.hid (hac.mono (lo' := w2.heap.size) (LaterC.below (w1 := w2) (by repeat (first | exact ⟨_, rfl⟩ | exact LaterC.refl _ | refine LaterC.drew' ?_ | refine LaterC.alloc' ?_ _))).size); obtain ⟨v1, hv1⟩ := laterC_step (w1 := w2) (by repeat (first | exact ⟨_, rfl⟩ | exact LaterC.refl _ | refine LaterC.drew' ?_ | refine LaterC.alloc' ?_ _)) hb; subst hv1; have HA1 := HA1'; obtain ⟨B1, d1, hs1⟩ := hac.shape; subst hs1; clear hb hac) | (go_at_call 65; (with_reducible refine (cloneBindsK_calls (.slice A2 n2 c2) M.nexts _ (HT2.out.below (LaterC.below (w1 := w2) (by repeat (first | exact ⟨_, rfl⟩ | exact LaterC.refl _ | refine LaterC.drew' ?_ | refine LaterC.alloc' ?_ _)))) (by rw [HN2.out]; have := HL.out; omega)).mono ?_); rintro e w' ⟨r2, rfl, hb, hac⟩; have HD02 := Lib.hid (sep_of HA0.out (by first | exact Nat.le_refl _ | simp) hac); have HD12 := Lib.hid (sep_of HA1.out (by first | exact Nat.le_refl _ | simp) hac); have HA0 := Lib.hid ((HA0.out.below (by first | exact Below.refl _ _ | exact (Below.refl _ _).drew)).below hb); have HA1 := Lib.hid ((HA1.out.below (by first | exact Below.refl _ _ | exact (Below.refl _ _).drew)).below hb); have HA2' := Lib.hid (hac.mono (lo' := w2.heap.size) (LaterC.below (w1 := w2) (by repeat (first | exact ⟨_, rfl⟩ | exact LaterC.refl _ | refine LaterC.drew' ?_ | refine LaterC.alloc' ?_ _))).size); obtain ⟨v2, hv2⟩ := laterC_step (w1 := w2) (by repeat (first | exact ⟨_, rfl⟩ | exact LaterC.refl _ | refine LaterC.drew' ?_ | refine LaterC.alloc' ?_ _)) hb; subst hv2; have HA2 := HA2'; obtain ⟨B2, d2, hs2⟩ := hac.shape; subst hs2; clear hb hac) | (go_at_call 66; (with_reducible refine (cloneIntsK_calls (.slice A3 n3 c3) M.bads _ (HT3.out.below (LaterC.below (w1 := w2) (by repeat (first | exact ⟨_, rfl⟩ | exact LaterC.refl _ | refine LaterC.drew' ?_ | refine LaterC.alloc' ?_ _)))) (by rw [HN3.out]; have := HL.out; omega)).mono ?_); rintro e w' ⟨r3, rfl, hb, hac⟩; have HD03 := Lib.hid (sep_of HA0.out (by first | exact Nat.le_refl _ | simp) hac); have HD13 := Lib.hid (sep_of HA1.out (by first | exact Nat.le_refl _ | simp) hac); have HD23 := Lib.hid (sep_of HA2.out (by first | exact Nat.le_refl _ | simp) hac); have HA0 := Lib.hid ((HA0.out.below (by first | exact Below.refl _ _ | exact (Below.refl _ _).drew)).below hb); have HA1 := Lib.hid ((HA1.out.below (by first | exact Below.refl _ _ | exact (Below.refl _ _).drew)).below hb); have HA2 := Lib.hid ((HA2.out.below (by first | exact Below.refl _ _ | exact (Below.refl _ _).drew)).below hb); have HA3' := Lib.hid (hac.mono (lo' := w2.heap.size) (LaterC.below (w1 := w2) (by repeat (first | exact ⟨_, rfl⟩ | exact LaterC.refl _ | refine LaterC.drew' ?_ | refine LaterC.alloc' ?_ _))).size); obtain ⟨v3, hv3⟩ := laterC_step (w1 := w2) (by repeat (first | exact ⟨_, rfl⟩ | exact LaterC.refl _ | refine LaterC.drew' ?_ | refine LaterC.alloc' ?_ _)) hb; subst hv3; have HA3 := HA3'; obtain ⟨B3, d3, hs3⟩ := hac.shape; subst hs3; clear hb hac) | (go_at_call 66; (with_reducible refine (cloneIntsK_calls (.slice A4 n4 c4) M.holds _ (HT4.out.below (LaterC.below (w1 := w2) (by repeat (first | exact ⟨_, rfl⟩ | exact LaterC.refl _ | refine LaterC.drew' ?_ | refine LaterC.alloc' ?_ _)))) (by rw [HN4.out]; have := HL.out; omega)).mono ?_); rintro e w' ⟨r4, rfl, hb, hac⟩; have HD04 := Lib.hid (sep_of HA0.out (by first | exact Nat.le_refl _ | simp) hac); have HD14 := Lib.hid (sep_of HA1.out (by first | exact Nat.le_refl _ | simp) hac); have HD24 := Lib.hid (sep_of HA2.out (by first | exact Nat.le_refl _ | simp) hac); have HD34 := Lib.hid (sep_of HA3.out (by first | exact Nat.le_refl _ | simp) hac); have HA0 := Lib.hid ((HA0.out.below (by first | exact Below.refl _ _ | exact (Below.refl _ _).drew)).below hb); have HA1 := Lib.hid ((HA1.out.below (by first | exact Below.refl _ _ | exact (Below.refl _ _).drew)).below hb); have HA2 := Lib.hid ((HA2.out.below (by first | exact Below.refl _ _ | exact (Below.refl _ _).drew)).below hb); have HA3 := Lib.hid ((HA3.out.below (by first | exact Below.refl _ _ | exact (Below.refl _ _).drew)).below hb); have HA4' := Lib.hid (hac.mono (lo' := w2.heap.size) (LaterC.below (w1 := w2) (by repeat (first | exact ⟨_, rfl⟩ | exact LaterC.refl _ | refine LaterC.drew' ?_ | refine LaterC.alloc' ?_ _))).size); obtain ⟨v4, hv4⟩ := laterC_step (w1 := w2) (by repeat (first | exact ⟨_, rfl⟩ | exact LaterC.refl _ | refine LaterC.drew' ?_ | refine LaterC.alloc' ?_ _)) hb; subst hv4; have HA4 := HA4'; obtain ⟨B4, d4, hs4⟩ := hac.shape; subst hs4; clear hb hac))
 all_goals
  have hrr := five_set (HR.out v4) (.slice B0 M.nodes.length d0) (.slice B1 M.inits.length d1) (.slice B2 M.nexts.length d2) (.slice B3 M.bads.length d3) (.slice B4 M.holds.length d4)
  obtain ⟨r0, r1, r2, r3, r4⟩ := (show _ ∧ _ ∧ _ ∧ _ ∧ _ from ⟨hrr.cell 0, hrr.cell 1, hrr.cell 2, hrr.cell 3, hrr.cell 4⟩)
  clear hrr
  go_wp2
  refine bodyPost_ret (v := .agg #[.slice B0 M.nodes.length d0, .slice B1 M.inits.length d1, .slice B2 M.nexts.length d2, .slice B3 M.bads.length d3, .slice B4 M.holds.length d4]) (by simp [results, Tryz.results25, go_sem, r0, r1, r2, r3, r4]) rfl ?_
  refine ⟨_, _, _, _, _, rfl, ?_, ?_⟩
  · exact (v4.back HB.out).trans ((five_but _ _ _ _ _ _ _).below (fun k e => by subst e; omega) (by have := v4.size; have := HSZ.out; omega))
  · exact (OwnM.but (lo := w2.heap.size) ⟨HA0.out, HA1.out, HA2.out, HA3.out, HA4.out, HD01.out, HD02.out, HD03.out, HD04.out, HD12.out, HD13.out, HD14.out, HD23.out, HD24.out, HD34.out⟩ (five_but _ _ _ _ _ _ _) (fun b hb e => by have := HSZ.out; omega)).mono (by have := HSZ.out; omega)
end Go.Proofs.YtdojaijnejcoiaaGreat
namespace Go.Proofs.YtdojaijnejcoiaaGreat
open Go.RowKit
def bdQ (st : Int) : List Bd → Int
 | [] => -1
 | b :: l => if b.st = st then b.nd else bdQ st l
theorem bq_at {st : Int} : ∀ {xs : List Bd} {k : Nat}, k < xs.length → (∀ j, j < k → (xs.getD j Bd.zero).st ≠ st) → (xs.getD k Bd.zero).st = st → bdQ st xs = (xs.getD k Bd.zero).nd
 | x :: l, 0, _, _, h => by
   simp at h ⊢
   rw [bdQ, if_pos h]
 | x :: l, k + 1, hk, hj, h => by
   have h0 := hj 0 (by omega)
   simp at h0
   rw [bdQ, if_neg h0]
   simpa using bq_at (xs := l) (k := k) (by simpa using hk) (fun j hjk => by simpa using hj (j + 1) (by omega)) (by simpa using h)
theorem bq_none {st : Int} : ∀ {xs : List Bd}, (∀ j, j < xs.length → (xs.getD j Bd.zero).st ≠ st) → bdQ st xs = -1
 | [], _ => rfl
 | x :: l, h => by
   have h0 := h 0 (by simp)
   simp at h0
   rw [bdQ, if_neg h0]
   exact bq_none fun j hj => by simpa using h (j + 1) (by simpa using hj)
theorem bq_cases (st : Int) : ∀ xs : List Bd, bdQ st xs = -1 ∨ ∃ b, b ∈ xs ∧ b.st = st ∧ bdQ st xs = b.nd
 | [] => .inl rfl
 | x :: l => by
   by_cases h : x.st = st
   · exact .inr ⟨x, by simp, h, by rw [bdQ, if_pos h]⟩
   · rw [bdQ, if_neg h]
     rcases bq_cases st l with h1 | ⟨b, h1, h2, h3⟩
     · exact .inl h1
     · exact .inr ⟨b, by simp [h1], h2, h3⟩
theorem again_q {xs : List Bd} (h : againB xs = false) {i j : Nat} (hi : i < xs.length) (hj : j < i) : (xs.getD i Bd.zero).st ≠ (xs.getD j Bd.zero).st := by
 intro e
 rw [again_yes hi hj e] at h
 cases h
theorem bq_of {xs : List Bd} (h : againB xs = false) {b : Bd} (hb : b ∈ xs) : bdQ b.st xs = b.nd := by
 obtain ⟨k, hk⟩ := List.getElem?_of_mem hb
 have hlt := (List.getElem?_eq_some_iff.1 hk).1
 have hg : xs.getD k Bd.zero = b := by
  have := getD_at hlt Bd.zero
  rw [hk] at this
  exact (Option.some.inj this).symm
 have := bq_at (st := b.st) hlt (fun j hj e => again_q h hlt hj (by rw [hg, e])) (by rw [hg])
 rw [this, hg]
theorem l4BoundQ_calls (sv : Value) (xs : List Bd) (st : Int) (w : World) (hS : SlAt enBd w sv xs) :
 Makes Tryz.prog 45 #[sv, .int .i64 st] w (.int .i64 (bdQ st xs)) := by
 obtain ⟨A, c, rfl, hnc, hc', hA⟩ := hS
 have HAT := Lib.hid (show ∀ k, k < xs.length → (∀ j, j < k → (xs.getD j Bd.zero).st ≠ st) → (xs.getD k Bd.zero).st = st → bdQ st xs = (xs.getD k Bd.zero).nd from fun k => bq_at)
 have HNO := Lib.hid (show (∀ j, j < xs.length → (xs.getD j Bd.zero).st ≠ st) → bdQ st xs = -1 from bq_none)
 generalize bdQ st xs = R at *
 generalize hN : xs.length = n at *
 have HN := Lib.hid hN
 clear hN
 have hn : n ≤ 281474976710656 := Nat.le_trans hnc hc'
 clear hc' hnc
 go_enter Tryz.func45, Tryz.ntmps45
 go_wp2
 go_loopw [5] (fun i wr => ∃ k : Nat, k ≤ n ∧ i = .int .i64 k ∧ Hid (∀ j, j < k → (xs.getD j Bd.zero).st ≠ st) ∧ LaterC w wr) (fun i _ => n - (intOf i).toNat)
 case atStart => exact ⟨0, Nat.zero_le _, rfl, Lib.hid (fun j hj => absurd hj (Nat.not_lt_zero _)), LaterC.refl w⟩
 case round =>
  obtain ⟨k, hk, rfl, hto, ⟨u, rfl⟩⟩ := hrel
  by_cases hlt : k < n
  · have hlt' : (k : Int) < n := by omega
    have hget := getD_at (show k < xs.length by rw [HN.out]; exact hlt) Bd.zero
    obtain ⟨b, o, rfl, hx⟩ := hA k _ hget
    have p0 : ∀ l : Later w, l.val.cell? ⟨b, o + k * 2, none⟩ = some (.int .i64 (xs.getD k Bd.zero).st) := hx.at_ (Below.refl _ _) 0 _ rfl
    have p1 : ∀ l : Later w, l.val.cell? ⟨b, o + k * 2 + 1, none⟩ = some (.int .i64 (xs.getD k Bd.zero).nd) := hx.at_ (Below.refl _ _) 1 _ rfl
    generalize hxe : (xs.getD k Bd.zero).st = x at p0
    generalize hye : (xs.getD k Bd.zero).nd = y at p1
    have HX := Lib.hid hxe
    by_cases heq : x = st
    · have HR := Lib.hid ((HAT.out k hlt hto.out (hxe.trans heq)).trans hye)
      clear hx hget hxe hye hA hto
      subst heq
      go_wp2
      go_ret
      exact ⟨ret_eq (congrArg (Value.int .i64) HR.out.symm), u.prop⟩
    · have HTO := Lib.hid (show ∀ j, j < k + 1 → (xs.getD j Bd.zero).st ≠ st from fun j hj => by
       rcases Nat.lt_or_ge j k with g | g
       · exact hto.out j g
       · obtain rfl : j = k := by omega
         rw [HX.out]; exact heq)
      have hne : (x == st) = false := by simpa using heq
      clear hx hget hxe hye hA hto
      go_wp2
      go_roundw
      case rel => exact ⟨k + 1, by omega, by go_num, HTO, ⟨u, rfl⟩⟩
      case measure => simp [intOf] <;> omega
  · obtain rfl : k = n := by omega
    have HR := Lib.hid (HNO.out hto.out)
    clear hA hto
    go_wp2
    go_ret
    exact ⟨ret_eq (congrArg (Value.int .i64) HR.out.symm), u.prop⟩
theorem code_q {M : Md} (h : codeN M = 0) : bigB M = false ∧ nodesB M.nodes = true ∧ twiceB M = false ∧ bindsB M = true ∧ propsB M.nodes M.bads = true ∧ propsB M.nodes M.holds = true := by
 unfold codeN at h
 split at h
 · omega
 split at h
 · omega
 split at h
 · omega
 split at h
 · omega
 split at h
 · omega
 split at h
 · omega
 rename_i h1 h2 h3 h4 h5 h6
 exact ⟨by simpa using h1, by simpa using h2, by simpa using h3, by simpa using h4, by simpa using h5, by simpa using h6⟩
theorem bnd_q {ns : List Nd} {b : Bd} (h : boundB ns b = true) : (0 ≤ b.st ∧ b.st < ns.length) ∧ (0 ≤ b.nd ∧ b.nd < ns.length) ∧ (ns.getD b.st.toNat Nd.zero).kind = 36 := by
 unfold boundB at h
 simp only [Bool.and_eq_true, beq_iff_eq] at h
 obtain ⟨h1, h2, h3, h4, h5⟩ := h
 have h1 := of_inB h1
 have h2 := of_inB h2
 exact ⟨by omega, by omega, h3⟩
theorem ini_q {ns : List Nd} {b : Bd} (h : initB ns b = true) : (0 ≤ b.st ∧ b.st < ns.length) ∧ (0 ≤ b.nd ∧ b.nd < ns.length) ∧ (ns.getD b.st.toNat Nd.zero).kind = 36 := by
 unfold initB at h
 rw [Bool.and_eq_true] at h
 have hb := bound_nd h.1
 have h1 := h.1
 unfold wordBd at h1
 split at h1
 · have := bnd_q h1
   exact ⟨this.1, by omega, this.2.2⟩
 · have := bnd_q h1
   exact ⟨this.1, this.2.1, this.2.2⟩
theorem binds_q {M : Md} (h : codeN M = 0) {b : Bd} (hb : b ∈ M.inits ++ M.nexts) : (0 ≤ b.st ∧ b.st < M.nodes.length) ∧ (0 ≤ b.nd ∧ b.nd < M.nodes.length) ∧ (M.nodes.getD b.st.toNat Nd.zero).kind = 36 := by
 have h1 := (code_q h).2.2.2.1
 unfold bindsB at h1
 rw [Bool.and_eq_true, List.all_eq_true, List.all_eq_true] at h1
 rcases List.mem_append.1 hb with g | g
 · exact ini_q (h1.1 b g)
 · exact bnd_q (h1.2 b g)
theorem again_parts {M : Md} (h : codeN M = 0) : againB M.inits = false ∧ againB M.nexts = false := by
 have h1 := (code_q h).2.2.1
 unfold twiceB at h1
 simp only [Bool.or_eq_false_iff] at h1
 exact h1.2
theorem root_q {M : Md} (h : codeN M = 0) {x : Int} (hx : x ∈ M.bads ++ M.holds) : 0 ≤ x ∧ x < M.nodes.length := by
 have h1 := (code_q h).2.2.2.2
 unfold propsB at h1
 rw [List.all_eq_true, List.all_eq_true] at h1
 have h2 : propB M.nodes x = true := by
  rcases List.mem_append.1 hx with g | g
  · exact h1.1 x g
  · exact h1.2 x g
 unfold propB at h2
 rw [Bool.and_eq_true] at h2
 have := of_inB h2.1
 omega
def Succ (M : Md) (q j : Nat) : Prop := IsPart M.nodes q j ∨ ∃ b, b ∈ M.inits ++ M.nexts ∧ b.st = (q : Int) ∧ b.nd.toNat = j
inductive Kept (M : Md) : Nat → Prop
 | root {x : Int} : x ∈ M.bads ++ M.holds → Kept M x.toNat
 | next {q j : Nat} : Kept M q → Succ M q j → Kept M j
theorem Succ.lt {M : Md} (h : codeN M = 0) {q j : Nat} (hq : q < M.nodes.length) (hs : Succ M q j) : j < M.nodes.length := by
 rcases hs with hs | ⟨b, hb, -, rfl⟩
 · have := hs.lt (nodes_down (code_q h).2.1) hq; omega
 · have := (binds_q h hb).2.1; omega
theorem Kept.lt {M : Md} (h : codeN M = 0) {j : Nat} (hj : Kept M j) : j < M.nodes.length := by
 induction hj with
 | root hx => have := root_q h hx; omega
 | next _ hs ih => exact hs.lt h ih
theorem Kept.reach {M : Md} {q j : Nat} (hq : Kept M q) (h : Reach M.nodes q j) : Kept M j := by
 induction h with
 | self => exact hq
 | step _ hp ih => exact ih.next (.inl hp)
abbrev tt (L : List Bool) (j : Nat) : Prop := L.getD j false = true
abbrev fls (L : List Bool) : Nat := L.count false
theorem tt_lt {L : List Bool} {j : Nat} (h : tt L j) : j < L.length := by
 rcases Nat.lt_or_ge j L.length with g | g
 · exact g
 · unfold tt at h
   rw [List.getD_eq_getElem?_getD, List.getElem?_eq_none g] at h
   cases h
theorem tt_set {L : List Bool} {i : Nat} (hi : i < L.length) (j : Nat) : tt (L.set i true) j ↔ tt L j ∨ j = i := by
 unfold tt
 rw [List.getD_eq_getElem?_getD, List.getD_eq_getElem?_getD, List.getElem?_set]
 by_cases e : i = j
 · subst e; rw [if_pos rfl, if_pos hi]; simp
 · rw [if_neg e]
   constructor
   · exact .inl
   · rintro (h | h)
     · exact h
     · exact absurd h.symm e
theorem fls_set {L : List Bool} {i : Nat} (hi : i < L.length) (h : ¬ tt L i) : fls (L.set i true) + 1 = fls L := by
 have h2 : L[i] = false := by
  unfold tt at h
  rw [List.getD_eq_getElem?_getD, List.getElem?_eq_getElem hi] at h
  simpa using h
 have hpos : 0 < fls L := List.count_pos_iff.2 (by rw [← h2]; exact List.getElem_mem hi)
 unfold fls at hpos ⊢
 rw [List.count_set hi, h2]
 simp
 omega
theorem kept_of {M : Md} {L : List Bool} (h1 : ∀ j, tt L j → Kept M j) (h2 : ∀ x, x ∈ M.bads ++ M.holds → tt L x.toNat) (h3 : ∀ q j, tt L q → Succ M q j → tt L j) (j : Nat) : tt L j ↔ Kept M j := by
 refine ⟨h1 j, fun h => ?_⟩
 induction h with
 | root hx => exact h2 _ hx
 | next _ hs ih => exact h3 _ _ ih hs
def truesN (L : List Bool) : Nat → List Int
 | 0 => []
 | k + 1 => truesN L k ++ (if L.getD k false = true then [(k : Int)] else [])
theorem truesN_len (L : List Bool) : ∀ k, (truesN L k).length ≤ k
 | 0 => Nat.le_refl _
 | k + 1 => by
   have := truesN_len L k
   rw [truesN, List.length_append]
   split
   · simp; omega
   · simp; omega
noncomputable def keptL (M : Md) : List Bool := by
 classical
 exact (List.range M.nodes.length).map fun j => decide (Kept M j)
theorem keptL_len (M : Md) : (keptL M).length = M.nodes.length := by simp [keptL]
theorem keptL_tt {M : Md} (h : codeN M = 0) (j : Nat) : tt (keptL M) j ↔ Kept M j := by
 unfold tt keptL
 rw [List.getD_eq_getElem?_getD, List.getElem?_map]
 rcases Nat.lt_or_ge j M.nodes.length with g | g
 · rw [List.getElem?_range g]; simp
 · rw [List.getElem?_eq_none (by simpa using g)]
   constructor
   · intro e; cases e
   · intro e; have := e.lt h; omega
theorem bool_ext {L L' : List Bool} (hl : L.length = L'.length) (h : ∀ j, tt L j ↔ tt L' j) : L = L' := by
 apply List.ext_getElem?
 intro j
 rcases Nat.lt_or_ge j L.length with g | g
 · have h1 := h j
   unfold tt at h1
   rw [getD_at g false, getD_at (show j < L'.length by omega) false, Option.some.injEq]
   cases hx : L.getD j false <;> cases hy : L'.getD j false <;> rw [hx, hy] at h1 <;> simp at h1 ⊢
 · rw [List.getElem?_eq_none g, List.getElem?_eq_none (by omega)]
theorem kept_eq {M : Md} {L : List Bool} (h : codeN M = 0) (hl : L.length = M.nodes.length) (hk : ∀ j, tt L j ↔ Kept M j) : L = keptL M :=
 bool_ext (by rw [hl, keptL_len]) fun j => (hk j).trans (keptL_tt h j).symm
def JoinP (ns : List Nd) (a : Nat) (L L' : List Bool) (more : Bool) : Prop :=
 L'.length = L.length ∧ (∀ j, tt L' j ↔ tt L j ∨ Reach ns a j) ∧ fls L' ≤ fls L ∧ (more = true → fls L' < fls L) ∧ (more = false → ∀ j, Reach ns a j → tt L j)
def Good (M : Md) (L : List Bool) : Prop := L.length = M.nodes.length ∧ (∀ j, tt L j → Kept M j) ∧ ∀ q j, tt L q → IsPart M.nodes q j → tt L j
theorem Good.join {M : Md} {L L' : List Bool} {a : Nat} {more : Bool} (h : Good M L) (ha : Kept M a) (hj : JoinP M.nodes a L L' more) : Good M L' := by
 obtain ⟨h1, h2, -⟩ := hj
 refine ⟨h1.trans h.1, fun j hj => ?_, fun q j hq hp => ?_⟩
 · rcases (h2 j).1 hj with g | g
   · exact h.2.1 j g
   · exact ha.reach g
 · rcases (h2 q).1 hq with g | g
   · exact (h2 j).2 (.inl (h.2.2 q j g hp))
   · exact (h2 j).2 (.inr (g.step hp))
def MarkP (M : Md) (a : Nat) (L L' : List Bool) : Prop :=
 L'.length = L.length ∧ (∀ j, tt L j → tt L' j) ∧ tt L' a ∧ (Kept M a → (∀ j, tt L j → Kept M j) → ∀ j, tt L' j → Kept M j) ∧ (∀ q j, tt L' q → ¬ tt L q → Succ M q j → tt L' j) ∧ fls L' ≤ fls L
def MidP (M : Md) (a : Nat) (L L' : List Bool) : Prop :=
 L'.length = L.length ∧ (∀ j, tt L j → tt L' j) ∧ tt L' a ∧ (Kept M a → (∀ j, tt L j → Kept M j) → ∀ j, tt L' j → Kept M j) ∧ (∀ q j, tt L' q → ¬ tt L q → q ≠ a → Succ M q j → tt L' j) ∧ fls L' < fls L
theorem MidP.start {M : Md} {a : Nat} {L : List Bool} (ha : a < L.length) (h : ¬ tt L a) : MidP M a L (L.set a true) := by
 refine ⟨by simp, fun j hj => (tt_set ha j).2 (.inl hj), (tt_set ha a).2 (.inr rfl), fun hk hL j hj => ?_, fun q j hq hn hne _ => ?_, ?_⟩
 · rcases (tt_set ha j).1 hj with g | rfl
   · exact hL j g
   · exact hk
 · rcases (tt_set ha q).1 hq with g | g
   · exact absurd g hn
   · exact absurd g hne
 · have := fls_set ha h; omega
theorem MidP.step {M : Md} {a p : Nat} {L L' L'' : List Bool} (h : MidP M a L L') (hs : Succ M a p) (hm : MarkP M p L' L'') : MidP M a L L'' := by
 obtain ⟨h1, h2, h3, h4, h5, h6⟩ := h
 obtain ⟨g1, g2, g3, g4, g5, g6⟩ := hm
 refine ⟨g1.trans h1, fun j hj => g2 j (h2 j hj), g2 a h3, fun hk hL => g4 (hk.next hs) (h4 hk hL), fun q j hq hn hne hsq => ?_, by omega⟩
 by_cases e : tt L' q
 · exact g2 j (h5 q j e hn hne hsq)
 · exact g5 q j hq e hsq
theorem MidP.done {M : Md} {a : Nat} {L L' : List Bool} (h : MidP M a L L') (hs : ∀ j, Succ M a j → tt L' j) : MarkP M a L L' := by
 obtain ⟨h1, h2, h3, h4, h5, h6⟩ := h
 refine ⟨h1, h2, h3, h4, fun q j hq hn hsq => ?_, by omega⟩
 by_cases e : q = a
 · subst e; exact hs j hsq
 · exact h5 q j hq hn e hsq
theorem MarkP.refl {M : Md} {a : Nat} {L : List Bool} (h : tt L a) : MarkP M a L L :=
 ⟨rfl, fun _ h => h, h, fun _ hL => hL, fun q j hq hn => absurd hq hn, Nat.le_refl _⟩
end Go.Proofs.YtdojaijnejcoiaaGreat
namespace Go.Proofs.YtdojaijnejcoiaaGreat
open Go.RowKit
def rk (L : List Bool) (j : Nat) : Nat := (truesN L j).length
theorem rk_yes {L : List Bool} {k : Nat} (h : L.getD k false = true) : rk L (k + 1) = rk L k + 1 := by
 unfold rk
 rw [truesN, if_pos h]
 simp
theorem rk_no {L : List Bool} {k : Nat} (h : L.getD k false = false) : rk L (k + 1) = rk L k := by
 unfold rk
 rw [truesN, h]
 simp
theorem rk_le (L : List Bool) (j : Nat) : rk L j ≤ j := truesN_len L j
def toI (L : List Bool) (j : Nat) : Int := if L.getD j false = true then (rk L j : Int) else -1
def toL (L : List Bool) (k : Nat) : List Int := (List.range k).map (toI L)
def toR (L : List Bool) (k : Nat) : List Int := (List.range k).map fun j => (rk L j : Int)
theorem toL_len (L : List Bool) (k : Nat) : (toL L k).length = k := by simp [toL]
theorem toR_len (L : List Bool) (k : Nat) : (toR L k).length = k := by simp [toR]
theorem toL_get (L : List Bool) {k j : Nat} (h : j < k) : (toL L k).getD j 0 = toI L j := by
 unfold toL
 rw [List.getD_eq_getElem?_getD, List.getElem?_map, List.getElem?_range h]
 rfl
theorem toR_get (L : List Bool) {k j : Nat} (h : j < k) : (toR L k).getD j 0 = (rk L j : Int) := by
 unfold toR
 rw [List.getD_eq_getElem?_getD, List.getElem?_map, List.getElem?_range h]
 rfl
theorem toL_snoc (L : List Bool) (k : Nat) : toL L (k + 1) = toL L k ++ [toI L k] := by simp [toL, List.range_succ]
def partT (T : List Int) (x : Nd) : Nd :=
 ⟨x.kind, if 0 < partsN x.kind then T.getD x.a.toNat 0 else x.a, if 1 < partsN x.kind then T.getD x.b.toNat 0 else x.b, if 2 < partsN x.kind then T.getD x.c.toNat 0 else x.c, x.n, x.m, x.idx, x.wid, x.name⟩
def PartsIn (n : Nat) (x : Nd) : Prop := ∀ m : Nat, m < 3 → (m : Int) < partsN x.kind → 0 ≤ x.part m ∧ x.part m < n
theorem partT_congr {T T' : List Int} {x : Nd} (h : ∀ m : Nat, m < 3 → (m : Int) < partsN x.kind → T.getD (x.part m).toNat 0 = T'.getD (x.part m).toNat 0) : partT T x = partT T' x := by
 have h0 : (0 : Int) < partsN x.kind → T.getD x.a.toNat 0 = T'.getD x.a.toNat 0 := h 0 (by omega)
 have h1 : (1 : Int) < partsN x.kind → T.getD x.b.toNat 0 = T'.getD x.b.toNat 0 := h 1 (by omega)
 have h2 : (2 : Int) < partsN x.kind → T.getD x.c.toNat 0 = T'.getD x.c.toNat 0 := h 2 (by omega)
 unfold partT
 congr 1
 · split
   · rename_i g; exact h0 g
   · rfl
 · split
   · rename_i g; exact h1 g
   · rfl
 · split
   · rename_i g; exact h2 g
   · rfl
def coneNs (ns : List Nd) (L : List Bool) : Nat → List Nd
 | 0 => []
 | k + 1 => coneNs ns L k ++ (if L.getD k false = true then [partT (toR L k) (ns.getD k Nd.zero)] else [])
theorem coneNs_len (ns : List Nd) (L : List Bool) : ∀ k, (coneNs ns L k).length = rk L k
 | 0 => rfl
 | k + 1 => by
   rw [coneNs, List.length_append, coneNs_len ns L k]
   cases h : L.getD k false
   · rw [rk_no h]; simp
   · rw [rk_yes h]; simp
theorem coneNs_yes {ns : List Nd} {L : List Bool} {k : Nat} (h : L.getD k false = true) : coneNs ns L (k + 1) = coneNs ns L k ++ [partT (toR L k) (ns.getD k Nd.zero)] := by rw [coneNs, if_pos h]
theorem coneNs_no {ns : List Nd} {L : List Bool} {k : Nat} (h : L.getD k false = false) : coneNs ns L (k + 1) = coneNs ns L k := by rw [coneNs, h]; simp
def keepB (L : List Bool) (b : Bd) : Bool := L.getD b.st.toNat false
def moveB (L : List Bool) (b : Bd) : Bd := ⟨rk L b.st.toNat, rk L b.nd.toNat⟩
def coneBs (L : List Bool) (xs : List Bd) : List Bd := (xs.filter (keepB L)).map (moveB L)
def coneIs (L : List Bool) (xs : List Int) : List Int := xs.map fun x => (rk L x.toNat : Int)
def noMd : Md := ⟨[], [], [], [], []⟩
noncomputable def coneN (M : Md) : Md :=
 if codeN M = 0 then ⟨coneNs M.nodes (keptL M) M.nodes.length, coneBs (keptL M) M.inits, coneBs (keptL M) M.nexts, coneIs (keptL M) M.bads, coneIs (keptL M) M.holds⟩ else noMd
theorem kept_part {M : Md} (h : codeN M = 0) {k : Nat} (hk : tt (keptL M) k) {m : Nat} (h3 : m < 3) (hm : (m : Int) < partsN (M.nodes.getD k Nd.zero).kind) :
 0 ≤ (M.nodes.getD k Nd.zero).part m ∧ (M.nodes.getD k Nd.zero).part m < k ∧ tt (keptL M) ((M.nodes.getD k Nd.zero).part m).toNat := by
 have hkl : k < M.nodes.length := by have := tt_lt hk; rwa [keptL_len] at this
 have hd := nodes_down (code_q h).2.1 k hkl m h3 hm
 refine ⟨hd.1, hd.2, (keptL_tt h _).2 (((keptL_tt h _).1 hk).next (.inl ⟨m, h3, hm, by rw [Int.toNat_of_nonneg hd.1]⟩))⟩
theorem toI_yes {L : List Bool} {j : Nat} (h : tt L j) : toI L j = (rk L j : Int) := if_pos h
theorem part_tables {M : Md} (h : codeN M = 0) {k : Nat} (hk : tt (keptL M) k) : partT (toL (keptL M) k) (M.nodes.getD k Nd.zero) = partT (toR (keptL M) k) (M.nodes.getD k Nd.zero) := by
 refine partT_congr fun m h3 hm => ?_
 obtain ⟨h0, h1, h2⟩ := kept_part h hk h3 hm
 rw [toL_get _ (by omega), toR_get _ (by omega), toI_yes h2]
theorem partT_more {T T' : List Int} {n : Nat} {x : Nd} (hx : PartsIn n x) (h : ∀ j, j < n → T.getD j 0 = T'.getD j 0) : partT T x = partT T' x :=
 partT_congr fun m h3 hm => h _ (by have := hx m h3 hm; omega)
theorem kept_bind {M : Md} (h : codeN M = 0) {b : Bd} (hb : b ∈ M.inits ++ M.nexts) (hk : tt (keptL M) b.st.toNat) : tt (keptL M) b.nd.toNat := by
 have hq := binds_q h hb
 exact (keptL_tt h _).2 (((keptL_tt h _).1 hk).next (.inr ⟨b, hb, by omega, rfl⟩))
theorem kept_root {M : Md} (h : codeN M = 0) {x : Int} (hx : x ∈ M.bads ++ M.holds) : tt (keptL M) x.toNat := (keptL_tt h _).2 (.root hx)
def bindT (T : List Int) (b : Bd) : Bd := ⟨T.getD b.st.toNat 0, T.getD b.nd.toNat 0⟩
def bindsT (T : List Int) : List Bd → List Bd
 | [] => []
 | b :: l => if 0 ≤ T.getD b.st.toNat 0 then bindT T b :: bindsT T l else bindsT T l
theorem bindsT_snoc (T : List Int) (b : Bd) : ∀ l : List Bd, bindsT T (l ++ [b]) = bindsT T l ++ (if 0 ≤ T.getD b.st.toNat 0 then [bindT T b] else [])
 | [] => by simp [bindsT]
 | x :: l => by
   rw [List.cons_append, bindsT, bindsT, bindsT_snoc T b l]
   split <;> simp
theorem bindsT_len (T : List Int) : ∀ l : List Bd, (bindsT T l).length ≤ l.length
 | [] => Nat.le_refl _
 | b :: l => by
   have := bindsT_len T l
   rw [bindsT]
   split <;> simp <;> omega
theorem binds_cone {M : Md} (h : codeN M = 0) : ∀ {xs : List Bd}, (∀ b, b ∈ xs → b ∈ M.inits ++ M.nexts) → bindsT (toL (keptL M) M.nodes.length) xs = coneBs (keptL M) xs
 | [], _ => rfl
 | b :: l, hx => by
   have ih := binds_cone h (xs := l) fun c hc => hx c (List.mem_cons_of_mem _ hc)
   have hq := binds_q h (hx b (List.mem_cons_self ..))
   have h1 : (toL (keptL M) M.nodes.length).getD b.st.toNat 0 = toI (keptL M) b.st.toNat := toL_get _ (by omega)
   have h2 : (toL (keptL M) M.nodes.length).getD b.nd.toNat 0 = toI (keptL M) b.nd.toNat := toL_get _ (by omega)
   unfold coneBs at ih ⊢
   by_cases e : tt (keptL M) b.st.toNat
   · have e2 := kept_bind h (hx b (List.mem_cons_self ..)) e
     have hk : keepB (keptL M) b = true := e
     rw [bindsT, h1, toI_yes e, if_pos (by omega), List.filter_cons, if_pos hk, List.map_cons, ih]
     unfold bindT moveB
     rw [h1, h2, toI_yes e, toI_yes e2]
   · have hk : keepB (keptL M) b = false := by unfold keepB; exact eq_false_of_ne_true e
     rw [bindsT, h1, toI, if_neg e, if_neg (by omega), List.filter_cons, hk, ih]
     simp
theorem ints_cone {M : Md} (h : codeN M = 0) {xs : List Int} (hx : ∀ x, x ∈ xs → x ∈ M.bads ++ M.holds) : (xs.map fun x => (toL (keptL M) M.nodes.length).getD x.toNat 0) = coneIs (keptL M) xs := by
 refine List.map_congr_left fun x hm => ?_
 have hq := root_q h (hx x hm)
 rw [toL_get _ (by omega), toI_yes (kept_root h (hx x hm))]
theorem binds_move {M : Md} (h : codeN M = 0) {xs : List Bd} (hx : ∀ b, b ∈ xs → b ∈ M.inits ++ M.nexts) : (xs.filter (keepB (keptL M))).map (bindT (toR (keptL M) M.nodes.length)) = coneBs (keptL M) xs := by
 refine List.map_congr_left fun b hm => ?_
 have hq := binds_q h (hx b (List.mem_filter.1 hm).1)
 unfold bindT moveB
 rw [toR_get _ (by omega), toR_get _ (by omega)]
theorem ints_move {M : Md} (h : codeN M = 0) {xs : List Int} (hx : ∀ x, x ∈ xs → x ∈ M.bads ++ M.holds) : (xs.map fun x => (toR (keptL M) M.nodes.length).getD x.toNat 0) = coneIs (keptL M) xs := by
 refine List.map_congr_left fun x hm => ?_
 have hq := root_q h (hx x hm)
 rw [toR_get _ (by omega)]
end Go.Proofs.YtdojaijnejcoiaaGreat
namespace Go.Proofs.YtdojaijnejcoiaaGreat
open Go.RowKit
theorem take_snoc {α : Type} (l : List α) {k : Nat} (h : k < l.length) (z : α) : l.take (k + 1) = l.take k ++ [l.getD k z] := by
 rw [List.take_add_one, getD_at h z]
 rfl
theorem l9Moved_calls (lv tv : Value) (xs T : List Int) (w : World) (hl : SlN enI w lv xs) (ht : SlN enI w tv T) (hin : ∀ x, x ∈ xs → 0 ≤ x ∧ x < T.length) (hx : xs.length ≤ 1048576) (hT : T.length ≤ 1048576) :
 Calls Tryz.prog 18 #[lv, tv] w fun e w' => ∃ v, e = .returned v ∧ Below w.heap.size w w' ∧ Acc kI w.heap.size w' v (xs.map fun x => T.getD x.toNat 0) := by
 obtain ⟨A, c, rfl, -, -, hA⟩ := hl
 obtain ⟨B, d, rfl, -, -, hB⟩ := ht
 have HIN := Lib.hid hin
 have HA := Lib.hid hA
 have HBB := Lib.hid hB
 obtain ⟨R, hR⟩ : ∃ R, (xs.map fun x => T.getD x.toNat 0) = R := ⟨_, rfl⟩
 have HRL := Lib.hid (show R.length = xs.length by rw [← hR]; simp)
 have HRG := Lib.hid (show ∀ k, k < xs.length → R.getD k 0 = T.getD (xs.getD k 0).toNat 0 from fun k hk => by
  rw [← hR, List.getD_eq_getElem?_getD, List.getElem?_map, getD_at hk 0]
  rfl)
 rw [hR]
 clear hR hin hA hB
 generalize hn : xs.length = n at *
 generalize hm : T.length = m at *
 have HN := Lib.hid hn
 have HM := Lib.hid hm
 clear hn hm
 go_enter Tryz.func18, Tryz.ntmps18
 go_wp2
 go_loopw [5, 6] (fun v i wr => ∃ (k : Nat) (xv : Value), k ≤ n ∧ xv = v ∧ i = .int .i64 k ∧ Hid (Acc kI w.heap.size wr xv (R.take k)) ∧ LaterC w wr) (fun _ i _ => n - (intOf i).toNat)
 case atStart => exact ⟨0, _, Nat.zero_le _, rfl, rfl, Lib.hid (Acc.nil kI _ _), LaterC.refl _⟩
 case round =>
  obtain ⟨k, xv, hk, rfl, rfl, HI, ⟨u, rfl⟩⟩ := hrel
  by_cases hlt : k < n
  · have hlt' : (k : Int) < n := by omega
    have hget := getD_at (show k < xs.length by rw [HN.out]; exact hlt) 0
    obtain ⟨ab, ao, rfl, hxa⟩ := HA.out k _ hget
    have hb := HIN.out _ (List.mem_of_getElem? hget)
    have HRK := Lib.hid (HRG.out k hlt)
    generalize xs.getD k 0 = x at *
    obtain ⟨j, rfl⟩ := Int.eq_ofNat_of_zero_le hb.1
    have hjm : j < m := by omega
    have hjm' : (j : Int) < m := by omega
    obtain ⟨bb, bo, rfl, hxb⟩ := HBB.out j _ (getD_at (show j < T.length by rw [HM.out]; exact hjm) 0)
    have HRJ := Lib.hid (show R.getD k 0 = T.getD j 0 from HRK.out)
    generalize T.getD j 0 = y at *
    have p0 : ∀ l : Later w, l.val.cell? ⟨ab, ao + k, none⟩ = some (.int .i64 (j : Int)) := hxa.int (Below.refl _ _)
    have p1 : ∀ l : Later w, l.val.cell? ⟨bb, bo + j, none⟩ = some (.int .i64 y) := hxb.int (Below.refl _ _)
    have HTL := Lib.hid (show (R.take k).length = k by rw [List.length_take, HRL.out]; omega)
    have HTB := Lib.hid (show (R.take k).length ≤ 1048576 by rw [HTL.out]; omega)
    have HSN := Lib.hid (show R.take (k + 1) = R.take k ++ [y] by rw [take_snoc R (by rw [HRL.out]; exact hlt) 0, HRJ.out])
    clear hxa hxb hget hb HA HBB
    go_wp2_with (at_builtin; refine wpList_push kI_ok (by rfl) _ _ (by rfl) w.heap.size u.val _ u.val.heap.size xv y (R.take k) k _ _ HTL.out (by rfl) HI.out u.size HTB.out (by repeat (first | exact Below.refl _ _ | refine Below.drew ?_ | refine Below.alloc ?_ (Nat.le_refl _) _)) (heap_alloc_new u.val _) (by rfl) (by rfl) ?_; intro g2 cap wn hac hgr hat; have HAC := Lib.hid hac; have HLW := Lib.hid (laterC_grown (w3 := w) (u.alloc _) (ownsRow_below HI.out (box_below u.val _ _)) hgr); clear hac hgr hat)
    go_roundw
    case rel => exact ⟨k + 1, _, by omega, rfl, by go_num, Lib.hid (by rw [HSN.out]; exact HAC.out), HLW.out⟩
    case measure => simp [intOf] <;> omega
  · obtain rfl : n = k := by omega
    have HE := Lib.hid (show R.take n = R from List.take_of_length_le (by rw [HRL.out]; exact Nat.le_refl _))
    go_wp2
    go_ret
    exact ⟨_, rfl, u.prop, by rw [← HE.out]; exact HI.out⟩
theorem l9Binds_calls (lv tv : Value) (xs : List Bd) (T : List Int) (w : World) (hl : SlN enBd w lv xs) (ht : SlN enI w tv T) (hin : ∀ b, b ∈ xs → (0 ≤ b.st ∧ b.st < T.length) ∧ (0 ≤ b.nd ∧ b.nd < T.length)) (hx : xs.length ≤ 1048576) (hT : T.length ≤ 1048576) :
 Calls Tryz.prog 17 #[lv, tv] w fun e w' => ∃ v, e = .returned v ∧ Below w.heap.size w w' ∧ Acc kB w.heap.size w' v (bindsT T xs) := by
 obtain ⟨A, c, rfl, -, -, hA⟩ := hl
 obtain ⟨B, d, rfl, -, -, hB⟩ := ht
 have HIN := Lib.hid hin
 have HA := Lib.hid hA
 have HBB := Lib.hid hB
 clear hin hA hB
 generalize hn : xs.length = n at *
 generalize hm : T.length = m at *
 have HN := Lib.hid hn
 have HM := Lib.hid hm
 clear hn hm
 go_enter Tryz.func17, Tryz.ntmps17
 go_wp2
 go_loopw [5, 6] (fun v i wr => ∃ (k : Nat) (xv : Value), k ≤ n ∧ xv = v ∧ i = .int .i64 k ∧ Hid (Acc kB w.heap.size wr xv (bindsT T (xs.take k))) ∧ LaterC w wr) (fun _ i _ => n - (intOf i).toNat)
 case atStart => exact ⟨0, _, Nat.zero_le _, rfl, rfl, Lib.hid (Acc.nil kB _ _), LaterC.refl _⟩
 case round =>
  obtain ⟨k, xv, hk, rfl, rfl, HI, ⟨u, rfl⟩⟩ := hrel
  by_cases hlt : k < n
  · have hlt' : (k : Int) < n := by omega
    have hget := getD_at (show k < xs.length by rw [HN.out]; exact hlt) Bd.zero
    obtain ⟨ab, ao, rfl, hxa⟩ := HA.out k _ hget
    have hb := HIN.out _ (List.mem_of_getElem? hget)
    have HSN := Lib.hid (show bindsT T (xs.take (k + 1)) = bindsT T (xs.take k) ++ (if 0 ≤ T.getD (xs.getD k Bd.zero).st.toNat 0 then [bindT T (xs.getD k Bd.zero)] else []) by rw [take_snoc xs (by rw [HN.out]; exact hlt) Bd.zero, bindsT_snoc])
    obtain ⟨b, hbe⟩ : ∃ b, xs.getD k Bd.zero = b := ⟨_, rfl⟩
    rw [hbe] at hxa hb HSN
    clear hbe hget
    obtain ⟨i, hi⟩ := Int.eq_ofNat_of_zero_le hb.1.1
    obtain ⟨j, hj⟩ := Int.eq_ofNat_of_zero_le hb.2.1
    have him : i < m := by omega
    have him' : (i : Int) < m := by omega
    have hjm : j < m := by omega
    have hjm' : (j : Int) < m := by omega
    obtain ⟨bb, bo, hbb, hxi⟩ := HBB.out i _ (getD_at (show i < T.length by rw [HM.out]; exact him) 0)
    subst hbb
    obtain ⟨bb', bo', hbb, hxj⟩ := HBB.out j _ (getD_at (show j < T.length by rw [HM.out]; exact hjm) 0)
    cases hbb
    have HBT := Lib.hid (show bindT T b = ⟨T.getD i 0, T.getD j 0⟩ by unfold bindT; rw [hi, hj, Int.toNat_natCast, Int.toNat_natCast])
    have HST := Lib.hid (show b.st.toNat = i by omega)
    rw [HST.out] at HSN
    obtain ⟨y, hy⟩ : ∃ y, T.getD i 0 = y := ⟨_, rfl⟩
    obtain ⟨z, hz⟩ : ∃ z, T.getD j 0 = z := ⟨_, rfl⟩
    rw [hy] at hxi HBT HSN
    rw [hz] at hxj HBT
    have p0 : ∀ l : Later w, l.val.cell? ⟨ab, ao + k * 2, none⟩ = some (.int .i64 (i : Int)) := hi ▸ hxa.at_ (Below.refl _ _) 0 _ rfl
    have p1 : ∀ l : Later w, l.val.cell? ⟨ab, ao + k * 2 + 1, none⟩ = some (.int .i64 (j : Int)) := hj ▸ hxa.at_ (Below.refl _ _) 1 _ rfl
    have p2 : ∀ l : Later w, l.val.cell? ⟨bb, bo + i, none⟩ = some (.int .i64 y) := hxi.int (Below.refl _ _)
    have p3 : ∀ l : Later w, l.val.cell? ⟨bb, bo + j, none⟩ = some (.int .i64 z) := hxj.int (Below.refl _ _)
    clear hxa hxi hxj hb HA HBB hi hj hy hz
    by_cases hy0 : 0 ≤ y
    · have HS2 := Lib.hid (show bindsT T (xs.take (k + 1)) = bindsT T (xs.take k) ++ [⟨y, z⟩] by rw [HSN.out, if_pos hy0, HBT.out])
      have HLE := Lib.hid (show (bindsT T (xs.take k)).length ≤ 1048576 by have h1 := bindsT_len T (xs.take k); rw [List.length_take] at h1; omega)
      obtain ⟨q, hq⟩ : ∃ q, (bindsT T (xs.take k)).length = q := ⟨_, rfl⟩
      have HQ := Lib.hid hq
      clear hq
      have HQL := Lib.hid (show ∀ w', LaterC w w' → w'.cell? ⟨ab, ao + k * 2, none⟩ = some (.int .i64 (i : Int)) ∧ w'.cell? ⟨ab, ao + k * 2 + 1, none⟩ = some (.int .i64 (j : Int)) ∧ w'.cell? ⟨bb, bo + i, none⟩ = some (.int .i64 y) ∧ w'.cell? ⟨bb, bo + j, none⟩ = some (.int .i64 z) from fun W h => by
       obtain ⟨v, rfl⟩ := h
       exact ⟨p0 v, p1 v, p2 v, p3 v⟩)
      go_upto_region 6 with fail
      go_region_held_law (fun w' => w'.cell? ⟨ab, ao + k * 2, none⟩ = some (.int .i64 (i : Int)) ∧ w'.cell? ⟨ab, ao + k * 2 + 1, none⟩ = some (.int .i64 (j : Int)) ∧ w'.cell? ⟨bb, bo + i, none⟩ = some (.int .i64 y) ∧ w'.cell? ⟨bb, bo + j, none⟩ = some (.int .i64 z)) ((refine HQL.out _ ?_; repeat (first | exact ⟨_, rfl⟩ | exact HLW.out | exact LaterC.refl _ | refine LaterC.drew' ?_ | refine LaterC.alloc' ?_ _))) ((refine step_push kB_ok (by rfl) _ _ (by rfl) w.heap.size u.val _ u.val.heap.size xv (⟨y, z⟩ : Bd) (bindsT T (xs.take k)) q _ _ HQ.out (by rfl) HI.out u.size HLE.out (by repeat (first | exact Below.refl _ _ | refine Below.drew ?_ | refine Below.alloc ?_ (Nat.le_refl _) _)) (heap_alloc_new u.val _) (by rfl) (by rfl) ?_; intro g2 cap wn hac hgr hat; have HAC := Lib.hid hac; have HLW := Lib.hid (laterC_grown (w3 := w) (by repeat (first | exact ⟨_, rfl⟩ | exact LaterC.refl _ | refine LaterC.drew' ?_ | refine LaterC.alloc' ?_ _)) (ownsRow_below HI.out (by repeat (first | exact Below.refl _ _ | refine Below.drew ?_ | refine Below.alloc ?_ (Nat.le_refl _) _))) hgr); clear hac hgr hat))
      all_goals
       go_wp2
       go_roundw
       case rel => exact ⟨k + 1, _, by omega, rfl, by go_num, Lib.hid (by rw [HS2.out]; exact HAC.out), HLW.out⟩
       case measure => simp [intOf] <;> omega
    · have HS2 := Lib.hid (show bindsT T (xs.take (k + 1)) = bindsT T (xs.take k) by rw [HSN.out, if_neg hy0, List.append_nil])
      go_wp2
      go_roundw
      case rel => exact ⟨k + 1, _, by omega, rfl, by go_num, Lib.hid (by rw [HS2.out]; exact HI.out), ⟨u, rfl⟩⟩
      case measure => simp [intOf] <;> omega
  · obtain rfl : n = k := by omega
    have HE := Lib.hid (show xs.take n = xs from List.take_of_length_le (by rw [HN.out]; exact Nat.le_refl _))
    go_wp2
    go_ret
    exact ⟨_, rfl, u.prop, by have h := HI.out; rw [HE.out] at h; exact h⟩
end Go.Proofs.YtdojaijnejcoiaaGreat
