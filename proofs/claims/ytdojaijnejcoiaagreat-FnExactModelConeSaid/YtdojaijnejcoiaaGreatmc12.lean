import Derived.Test.YtdojaijnejcoiaaGreatmc11
import Derived.Test.YtdojaijnejcoiaaGreatmc7
import Derived.Deep.RegionWith
import Derived.Test.YtdojaijnejcoiaaGreatmc8
set_option linter.unusedVariables false
set_option linter.unusedSimpArgs false
set_option maxRecDepth 8000
set_option maxHeartbeats 16000000
namespace Go.Proofs.YtdojaijnejcoiaaGreat
open Go.RowKit
theorem ModelCone'_calls (mv : Value) (M : Md) (w : World) (hM : MdAt w mv M) (hnm : ∀ x, x ∈ M.nodes → x.name.size ≤ 140737488351232) (hw1 : ∀ b, b ∈ M.inits → (Lit.int .i64 b.st).wf = true) (hw2 : ∀ b, b ∈ M.nexts → (Lit.int .i64 b.st).wf = true) :
 GivesM Tryz.prog 7 #[mv] w (coneN M) := by
 have HM := Lib.hid hM
 have HNM := Lib.hid hnm
 have HW1 := Lib.hid hw1
 have HW2 := Lib.hid hw2
 obtain ⟨s0, s1, s2, s3, s4, rfl, h0s, -⟩ := hM.at_
 obtain ⟨NA, nc, rfl, hnc, hnc', hNA⟩ := h0s
 have HNA := Lib.hid hNA
 clear hM hnm hw1 hw2 hnc hnc' hNA
 unfold GivesM
 obtain ⟨C, hC⟩ : ∃ C, coneN M = C := ⟨_, rfl⟩
 have HCN := Lib.hid hC
 rw [hC]
 clear hC
 generalize hn : M.nodes.length = n at *
 have HN := Lib.hid hn
 clear hn
 have hmf : ∀ (fn : Fn) (first cap : Array Value) (w : World), (Instr.makeFunc fn first cap).run Tryz.prog w = .ok (.func fn first cap) w := fun _ _ _ _ => rfl
 go_enter Tryz.func7, Tryz.ntmps7
 go_upto_region 1 with fail
 generalize hw2 : (w.alloc (Obj.cells #[.slice NA n nc, s1, s2, s3, s4] 31)).alloc (Obj.cells #[.slice none 0 0, .slice none 0 0, .slice none 0 0, .slice none 0 0, .slice none 0 0] 31) = w1
 have m0 : ∀ u : Later w1, u.val.cell? ⟨w.heap.size, 0, none⟩ = some (.slice NA n nc) := Later.cell (by rw [← hw2]; clear hw2; go_simp)
 have m1 : ∀ u : Later w1, u.val.cell? ⟨w.heap.size, 1, none⟩ = some s1 := Later.cell (by rw [← hw2]; clear hw2; go_simp)
 have m2 : ∀ u : Later w1, u.val.cell? ⟨w.heap.size, 2, none⟩ = some s2 := Later.cell (by rw [← hw2]; clear hw2; go_simp)
 have m3 : ∀ u : Later w1, u.val.cell? ⟨w.heap.size, 3, none⟩ = some s3 := Later.cell (by rw [← hw2]; clear hw2; go_simp)
 have m4 : ∀ u : Later w1, u.val.cell? ⟨w.heap.size, 4, none⟩ = some s4 := Later.cell (by rw [← hw2]; clear hw2; go_simp)
 have HO := Lib.hid (show OwnB w1 (w.heap.size + 1) 31 #[.slice none 0 0, .slice none 0 0, .slice none 0 0, .slice none 0 0, .slice none 0 0] by
  have h := OwnB.new (w.alloc (Obj.cells #[.slice NA n nc, s1, s2, s3, s4] 31)) 31 #[.slice none 0 0, .slice none 0 0, .slice none 0 0, .slice none 0 0, .slice none 0 0]
  rw [hw2] at h
  simpa using h)
 have HB := Lib.hid (show Below w.heap.size w w1 by rw [← hw2]; exact ((Below.refl _ _).alloc (Nat.le_refl _) _).alloc (by simp) _)
 have HSZ := Lib.hid (show w1.heap.size = w.heap.size + 2 by rw [← hw2]; simp)
 clear hw2
 have HM1 := Lib.hid (HM.out.below HB.out)
 have HRW := Lib.hid (show ∀ W, LaterC w1 W → OwnB W (w.heap.size + 1) 31 #[.slice none 0 0, .slice none 0 0, .slice none 0 0, .slice none 0 0, .slice none 0 0] from fun W h => HO.out.below h.below HO.out.lt)
 generalize hR2 : w.heap.size + 1 = R2 at *
 have HR2 := Lib.hid hR2
 clear hR2
 by_cases hc : codeN M = 0
 rotate_left
 · have HCE := Lib.hid (show C = noMd by rw [← HCN.out, coneN, if_neg hc])
   generalize hcm : codeN M = cm at *
   have HC := Lib.hid hcm
   clear hcm
   refine at_world (w := w1) ?_
   intro u0
   go_upto_region 2 with (go_at_call 22; refine (Calls.later_eq (u := u0) (ModelCode'_calls _ M _ (HM1.out.later u0) HNM.out HW1.out HW2.out) (congrArg (Value.int .i64) HC.out)).mono ?_; rintro e w' ⟨rfl, u1, rfl⟩)
   have HF := Lib.hid (five_set (HRW.out _ ⟨u1, rfl⟩) (.slice none 0 0) (.slice none 0 0) (.slice none 0 0) (.slice none 0 0) (.slice none 0 0))
   have y0 : u1.val.cell? ⟨R2, 0, none⟩ = some (.slice none 0 0) := (HRW.out _ ⟨_, rfl⟩).cell 0
   have f0 : u1.val.frozen? ⟨R2, 0, none⟩ = false := (HRW.out _ ⟨_, rfl⟩).frozen 0
   have y1 : u1.val.cell? ⟨R2, 1, none⟩ = some (.slice none 0 0) := (HRW.out _ ⟨_, rfl⟩).cell 1
   have f1 : u1.val.frozen? ⟨R2, 1, none⟩ = false := (HRW.out _ ⟨_, rfl⟩).frozen 1
   have y2 : u1.val.cell? ⟨R2, 2, none⟩ = some (.slice none 0 0) := (HRW.out _ ⟨_, rfl⟩).cell 2
   have f2 : u1.val.frozen? ⟨R2, 2, none⟩ = false := (HRW.out _ ⟨_, rfl⟩).frozen 2
   have y3 : u1.val.cell? ⟨R2, 3, none⟩ = some (.slice none 0 0) := (HRW.out _ ⟨_, rfl⟩).cell 3
   have f3 : u1.val.frozen? ⟨R2, 3, none⟩ = false := (HRW.out _ ⟨_, rfl⟩).frozen 3
   have y4 : u1.val.cell? ⟨R2, 4, none⟩ = some (.slice none 0 0) := (HRW.out _ ⟨_, rfl⟩).cell 4
   have f4 : u1.val.frozen? ⟨R2, 4, none⟩ = false := (HRW.out _ ⟨_, rfl⟩).frozen 4
   have r0 := HF.out.cell 0
   have r1 := HF.out.cell 1
   have r2 := HF.out.cell 2
   have r3 := HF.out.cell 3
   have r4 := HF.out.cell 4
   have HBB := Lib.hid (show Below w.heap.size w _ from (u1.back HB.out).trans ((five_but u1.val R2 (.slice none 0 0) (.slice none 0 0) (.slice none 0 0) (.slice none 0 0) (.slice none 0 0)).below (B := w.heap.size) (fun k e => by subst e; have := HR2.out; omega) (u1.back HB.out).size))
   go_wp2
   refine bodyPost_ret (v := .agg #[.slice none 0 0, .slice none 0 0, .slice none 0 0, .slice none 0 0, .slice none 0 0]) (by simp [results, Tryz.results7, go_sem, r0, r1, r2, r3, r4]) rfl ?_
   exact ⟨_, _, _, _, _, rfl, HBB.out, by rw [HCE.out]; exact OwnM.none _ _⟩
 · have HC := Lib.hid hc
   have HCE := Lib.hid (show C = ⟨coneNs M.nodes (keptL M) M.nodes.length, coneBs (keptL M) M.inits, coneBs (keptL M) M.nexts, coneIs (keptL M) M.bads, coneIs (keptL M) M.holds⟩ by rw [← HCN.out, coneN, if_pos hc])
   have hbig := (code_q hc).1
   have HLN := Lib.hid (show M.nodes.length ≤ 60 ∧ M.inits.length ≤ 60 ∧ M.nexts.length ≤ 60 ∧ M.bads.length ≤ 60 ∧ M.holds.length ≤ 60 by
    unfold bigB at hbig
    simp only [Bool.or_eq_false_iff, decide_eq_false_iff_not] at hbig
    omega)
   have hn60 : n ≤ 60 := by have h1 := HLN.out.1; have h2 := HN.out; omega
   have hmk := make_any (P := Tryz.prog) 24 3 (.int .i64 0) 1 8 Tryz.underlying24 (by kernel_rfl) n (by omega) (by omega)
   simp only [Value.cells, Nat.mul_one] at hmk
   clear hc hbig
   refine at_world (w := w1) ?_
   intro u0
   go_upto_region 3 with (go_at_call 22; refine (Calls.later_eq (u := u0) (ModelCode'_calls _ M _ (HM1.out.later u0) HNM.out HW1.out HW2.out) (congrArg (Value.int .i64) HC.out)).mono ?_; rintro e w' ⟨rfl, u1, rfl⟩)
   go_upto_region 4 with (go_at_call 23; refine (kept_calls _ M _ (HM1.out.later u1) HC.out).mono ?_; rintro e W ⟨g, rfl, hb, hg, hown⟩; have HOWN := Lib.hid hown; have HLW := Lib.hid (laterC_step (w1 := w1) ⟨u1, rfl⟩ hb); clear hb hg hown)
   try rw [HN.out]
   have HLK := Lib.hid (show LaterC w1 (W.alloc (Obj.cells #[.slice (some ⟨g, 0, none⟩) n n] 41)) from LaterC.alloc' HLW.out _)
   have k0 : ∀ u : Later (W.alloc (Obj.cells #[.slice (some ⟨g, 0, none⟩) n n] 41)), u.val.cell? ⟨W.heap.size, 0, none⟩ = some (.slice (some ⟨g, 0, none⟩) n n) := Later.cell (by simp)
   have HOK := Lib.hid (HOWN.out.below (box_below W #[.slice (some ⟨g, 0, none⟩) n n] 41))
   have HKS := Lib.hid (show W.heap.size < (W.alloc (Obj.cells #[.slice (some ⟨g, 0, none⟩) n n] 41)).heap.size by simp)
   clear HOWN HLW
   generalize W.alloc (Obj.cells #[.slice (some ⟨g, 0, none⟩) n n] 41) = Wk at *
   generalize W.heap.size = K3 at *
   have n0 := Later.re m0 HLK.out
   have n1 := Later.re m1 HLK.out
   have n2 := Later.re m2 HLK.out
   have n3 := Later.re m3 HLK.out
   have n4 := Later.re m4 HLK.out
   have HRW2 := Lib.hid (show ∀ W', LaterC Wk W' → OwnB W' R2 31 #[.slice none 0 0, .slice none 0 0, .slice none 0 0, .slice none 0 0, .slice none 0 0] from fun W' h => HRW.out W' (HLK.out.trans h))
   have HMW := Lib.hid (HM1.out.below HLK.out.below)
   have HBW := Lib.hid (HB.out.trans (HLK.out.below.mono HB.out.size))
   clear m0 m1 m2 m3 m4 HRW
   refine at_world (w := Wk) ?_
   intro v0
   go_upto_region 5 with fail
   have HTA := Lib.hid (OwnI.made v0.val n)
   have HLA := Lib.hid (show LaterC Wk (v0.val.alloc (Obj.cells (madeCells #[.int .i64 0] n) 3)) from v0.alloc _)
   have HW4 := Lib.hid v0.size
   clear hmk
   obtain ⟨va, hva⟩ := HLA.out
   rw [hva] at HTA
   rw [hva]
   clear hva HLA
   generalize v0.val.heap.size = TB at *
   obtain ⟨KL, hKL⟩ : ∃ KL, keptL M = KL := ⟨_, rfl⟩
   have HKL := Lib.hid hKL
   have HKN := Lib.hid (show KL.length = n by rw [← hKL, keptL_len, HN.out])
   rw [hKL] at HOK
   clear hKL
   have HT0 := Lib.hid (show OwnI va.val TB (tabK KL n 0) by rw [tabK_zero]; exact HTA.out)
   go_upto_region 7 with fail
   go_loopw [5, 23] (fun v i wr => ∃ (k : Nat) (ov : Value), k ≤ n ∧ ov = v ∧ i = .int .i64 k ∧ Hid (Acc kN (TB + 1) wr ov (coneNs M.nodes KL k) ∧ OwnI wr TB (tabK KL n k)) ∧ LaterC Wk wr) (fun _ i _ => n - (intOf i).toNat)
   case atStart => exact ⟨0, _, Nat.zero_le _, rfl, rfl, Lib.hid ⟨Acc.nil kN _ _, HT0.out⟩, ⟨va, rfl⟩⟩
   case round =>
    obtain ⟨k, ov, hk, rfl, rfl, HI, ⟨u, rfl⟩⟩ := hrel
    obtain ⟨A6, e6, h6⟩ := HI.out.1.shape
    subst h6
    have HCL := Lib.hid (coneNs_len M.nodes KL k)
    have HRK := Lib.hid (rk_le KL k)
    rw [HCL.out] at HI
    obtain ⟨q, hq⟩ : ∃ q, rk KL k = q := ⟨_, rfl⟩
    have HQQ := Lib.hid hq
    rw [hq] at HI HRK
    try rw [HCL.out, hq]
    clear hq
    have hq60 : q ≤ 60 := by have := HRK.out; omega
    by_cases hlt : k < n
    · have hlt' : (k : Int) < n := by omega
      have hgn := getD_at (show k < M.nodes.length by rw [HN.out]; exact hlt) Nd.zero
      obtain ⟨bn, on, rfl, hnx⟩ := HNA.out k _ hgn
      have hmem := List.mem_of_getElem? hgn
      have hpos := nodes_pos (code_q HC.out).2.1 _ hmem
      have HDN := Lib.hid (nodes_down (code_q HC.out).2.1 k (by rw [HN.out]; exact hlt))
      obtain ⟨x, hx⟩ : ∃ x, M.nodes.getD k Nd.zero = x := ⟨_, rfl⟩
      rw [hx] at hnx hpos HDN
      have HX := Lib.hid hx
      have HPOS := Lib.hid hpos
      clear hgn hmem hpos hx
      have HTL := Lib.hid (show (tabK KL n (k + 1)).length = n from tabK_len KL (by omega))
      have HPI := Lib.hid (show PartsIn (tabK KL n (k + 1)).length x from fun m h3 hm => by
       have h1 := HDN.out m h3 hm
       rw [HTL.out]
       omega)
      have HPT := Lib.hid (show partT (tabK KL n (k + 1)) x = partT (toR KL k) x from partT_more (n := k) HDN.out (fun j hj => by rw [tabK_at KL (by omega), toR_more KL hj]))
      have p0 : ∀ l : Later Wk, l.val.cell? ⟨bn, on + k * 9, none⟩ = some (.int .i64 x.kind) := hnx.at_ HBW.out 0 _ rfl
      have p1 : ∀ l : Later Wk, l.val.cell? ⟨bn, on + k * 9 + 1, none⟩ = some (.int .i64 x.a) := hnx.at_ HBW.out 1 _ rfl
      have p2 : ∀ l : Later Wk, l.val.cell? ⟨bn, on + k * 9 + 2, none⟩ = some (.int .i64 x.b) := hnx.at_ HBW.out 2 _ rfl
      have p3 : ∀ l : Later Wk, l.val.cell? ⟨bn, on + k * 9 + 3, none⟩ = some (.int .i64 x.c) := hnx.at_ HBW.out 3 _ rfl
      have p4 : ∀ l : Later Wk, l.val.cell? ⟨bn, on + k * 9 + 4, none⟩ = some (.int .i64 x.n) := hnx.at_ HBW.out 4 _ rfl
      have p5 : ∀ l : Later Wk, l.val.cell? ⟨bn, on + k * 9 + 5, none⟩ = some (.int .i64 x.m) := hnx.at_ HBW.out 5 _ rfl
      have p6 : ∀ l : Later Wk, l.val.cell? ⟨bn, on + k * 9 + 6, none⟩ = some (.int .i64 x.idx) := hnx.at_ HBW.out 6 _ rfl
      have p7 : ∀ l : Later Wk, l.val.cell? ⟨bn, on + k * 9 + 7, none⟩ = some (.int .i64 x.wid) := hnx.at_ HBW.out 7 _ rfl
      have p8 : ∀ l : Later Wk, l.val.cell? ⟨bn, on + k * 9 + 8, none⟩ = some (.string x.name) := hnx.at_ HBW.out 8 _ rfl
      clear hnx
      have hb5 := box_below u.val #[.int .i64 x.kind, .int .i64 x.a, .int .i64 x.b, .int .i64 x.c, .int .i64 x.n, .int .i64 x.m, .int .i64 x.idx, .int .i64 x.wid, .string x.name] 46
      have HB5 := Lib.hid hb5
      have HX5 := Lib.hid (OwnB.new u.val 46 #[.int .i64 x.kind, .int .i64 x.a, .int .i64 x.b, .int .i64 x.c, .int .i64 x.n, .int .i64 x.m, .int .i64 x.idx, .int .i64 x.wid, .string x.name])
      have HT5 := Lib.hid (HI.out.2.below hb5)
      have HA5 := Lib.hid (HI.out.1.below hb5)
      have HXT := Lib.hid (show TB < u.val.heap.size from HI.out.2.lt)
      clear hb5
      go_upto_region 9 with fail
      obtain ⟨v5, hv5⟩ := (show LaterC Wk (u.val.alloc (Obj.cells #[.int .i64 x.kind, .int .i64 x.a, .int .i64 x.b, .int .i64 x.c, .int .i64 x.n, .int .i64 x.m, .int .i64 x.idx, .int .i64 x.wid, .string x.name] 46)) from u.alloc _)
      rw [hv5] at HX5 HT5 HA5 HB5
      rw [hv5]
      clear hv5
      have HXG := Lib.hid (show u.val.heap.size ≠ TB by have := HXT.out; omega)
      generalize u.val.heap.size = X at *
      have t0 : v5.val.cell? ⟨TB, k, none⟩ = some (.int .i64 ((tabK KL n k).getD k 0)) := HT5.out.cell (show k < (tabK KL n k).length by rw [tabK_len KL (by omega)]; exact hlt)
      have f0 : v5.val.frozen? ⟨TB, k, none⟩ = false := HT5.out.frozen k
      generalize (tabK KL n k).getD k 0 = old at t0
      go_upto_region 10 with fail
      have HT6 := Lib.hid (show OwnI (v5.val.setCell ⟨TB, k, none⟩ (.int .i64 (q : Int))) TB (tabK KL n (k + 1)) by rw [← tabK_set KL hlt, HQQ.out]; exact HT5.out.set k q)
      have HX6 := Lib.hid (show OwnB (v5.val.setCell ⟨TB, k, none⟩ (.int .i64 (q : Int))) X 46 #[.int .i64 x.kind, .int .i64 x.a, .int .i64 x.b, .int .i64 x.c, .int .i64 x.n, .int .i64 x.m, .int .i64 x.idx, .int .i64 x.wid, .string x.name] from HX5.out.set_ne (by have := HXG.out; omega) _ _)
      have HA6 := Lib.hid (show Acc kN (TB + 1) (v5.val.setCell ⟨TB, k, none⟩ (.int .i64 (q : Int))) (.slice A6 q e6) (coneNs M.nodes KL k) from HA5.out.put (Below.refl _ _) (Nat.lt_succ_self _) _ _)
      obtain ⟨v6, hv6⟩ := (show LaterC Wk (v5.val.setCell ⟨TB, k, none⟩ (.int .i64 (q : Int))) from LaterC.setCell' ⟨v5, rfl⟩ _ _ HW4.out)
      rw [hv6] at HT6 HX6 HA6
      rw [hv6]
      clear hv6 t0 f0 HT5 HX5 HA5 HB5
      have c0 : v6.val.cell? ⟨g, k, none⟩ = some (.bool (KL.getD k false)) := (HOK.out.below v6.prop).cell (show k < KL.length by rw [HKN.out]; exact hlt)
      obtain ⟨t, ht⟩ : ∃ t, KL.getD k false = t := ⟨_, rfl⟩
      rw [ht] at c0
      have HT := Lib.hid ht
      clear ht
      cases t
      · have HNO := Lib.hid (coneNs_no (ns := M.nodes) HT.out)
        go_wp2
        go_roundw
        case rel => exact ⟨k + 1, _, by omega, rfl, by go_num, Lib.hid ⟨by rw [HNO.out]; exact HA6.out, HT6.out⟩, ⟨v6, rfl⟩⟩
        case measure => simp [intOf] <;> omega
      · have HYN := Lib.hid (coneNs_yes (ns := M.nodes) HT.out)
        rw [HX.out, ← HPT.out] at HYN
        have HNL := Lib.hid (show (coneNs M.nodes KL k).length = q by rw [HCL.out, HQQ.out])
        have HNB := Lib.hid (show (coneNs M.nodes KL k).length ≤ 1048576 by rw [HNL.out]; omega)
        have HBX := Lib.hid (show TB + 1 ≤ v6.val.heap.size from HT6.out.lt)
        go_upto_region 11 with fail
        have q0 : v6.val.cell? ⟨X, 0, none⟩ = some (.int .i64 x.kind) := HX6.out.cell 0
        have q1 : v6.val.cell? ⟨X, 1, none⟩ = some (.int .i64 x.a) := HX6.out.cell 1
        have q2 : v6.val.cell? ⟨X, 2, none⟩ = some (.int .i64 x.b) := HX6.out.cell 2
        have q3 : v6.val.cell? ⟨X, 3, none⟩ = some (.int .i64 x.c) := HX6.out.cell 3
        have q4 : v6.val.cell? ⟨X, 4, none⟩ = some (.int .i64 x.n) := HX6.out.cell 4
        have q5 : v6.val.cell? ⟨X, 5, none⟩ = some (.int .i64 x.m) := HX6.out.cell 5
        have q6 : v6.val.cell? ⟨X, 6, none⟩ = some (.int .i64 x.idx) := HX6.out.cell 6
        have q7 : v6.val.cell? ⟨X, 7, none⟩ = some (.int .i64 x.wid) := HX6.out.cell 7
        have q8 : v6.val.cell? ⟨X, 8, none⟩ = some (.string x.name) := HX6.out.cell 8
        go_wp2_with fail
        refine (parted_calls x (.slice (some ⟨TB, 0, none⟩) n n) (tabK KL n (k + 1)) _ (HT6.out.slN HTL.out (by omega)) HPI.out HPOS.out (by rw [HTL.out]; omega)).mono ?_
        rintro e w7 ⟨rfl, hb⟩
        have HB7 := Lib.hid hb
        clear hb q0 q1 q2 q3 q4 q5 q6 q7 q8
        go_wp2_with (at_builtin; refine wpList_push kN_ok (by rfl) _ _ (by rfl) (TB + 1) v6.val _ w7.heap.size (.slice A6 q e6) (partT (tabK KL n (k + 1)) x) (coneNs M.nodes KL k) q _ _ HNL.out (by rfl) HA6.out HBX.out HNB.out (HB7.out.trans (Below.mono (box_below w7 _ _) HB7.out.size)) (heap_alloc_new w7 _) (by rfl) (by rfl) ?_; intro g3 cap3 wn hac hgr hat; have HAC := Lib.hid hac; have HBT := Lib.hid (show But (fun b => some b = (Value.slice A6 q e6).ownBlock) v6.val wn from (But.alloc' (But.of_below HB7.out) _).trans (grown_but hgr)); clear hac hgr hat)
        have HLN7 := Lib.hid (HBT.out.laterC (W := Wk) ⟨v6, rfl⟩ (fun b hb => by have h1 := (HA6.out.lt b hb.symm).1; have h2 := HW4.out; omega))
        have HT7 := Lib.hid (HT6.out.but HBT.out (fun e => by have h1 := (HA6.out.lt TB e.symm).1; omega))
        go_roundw
        case rel => exact ⟨k + 1, _, by omega, rfl, by go_num, Lib.hid ⟨by rw [HYN.out]; exact HAC.out, HT7.out⟩, HLN7.out⟩
        case measure => simp [intOf] <;> omega
    · obtain rfl : n = k := by omega
      have HTT := Lib.hid (show OwnI u.val TB (toR KL n) by have h := HI.out.2; rw [tabK_all] at h; exact h)
      have HND := Lib.hid HI.out.1
      clear HI
      have HLM := Lib.hid (show M.nodes.length ≤ 1048576 ∧ M.inits.length ≤ 1048576 ∧ M.nexts.length ≤ 1048576 ∧ M.bads.length ≤ 1048576 ∧ M.holds.length ≤ 1048576 by have := HLN.out; omega)
      have HANS := Lib.hid (show ∀ W', LaterC Wk W' → ∀ y, y ∈ M.inits ++ M.nexts → ∀ u2 : Later W', Makes Tryz.prog 26 (#[bdV y] ++ #[.pointer (some ⟨K3, 0, none⟩)]) u2.val (.bool (!keepB KL y)) from fun W' h y hy u2 => by
       obtain ⟨l, hl⟩ := h.trans ⟨u2, rfl⟩
       rw [hl]
       exact gone_calls K3 g n KL y l.val (k0 l) (HOK.out.below l.prop) HKN.out (by have h1 := (binds_q HC.out hy).1; rw [HN.out] at h1; exact h1))
      have heg : ∀ (args : Array Value) (w : World), (callFunc 26 args).run Tryz.prog w = .ok (.enter 26 args) w := fun _ _ => rfl
      go_upto_region 13 with fail
      go_wp2_with fail
      refine (clone_calls _ M u.val (HMW.out.later u).mdN HLM.out).mono ?_
      rintro e w2 ⟨r0, r1, r2, r3, r4, rfl, hb, hown⟩
      have HB2 := Lib.hid hb
      have HOW := Lib.hid hown
      obtain ⟨D0, d0, h0⟩ := hown.a0.shape
      obtain ⟨D1, d1, h1⟩ := hown.a1.shape
      obtain ⟨D2, d2, h2⟩ := hown.a2.shape
      obtain ⟨D3, d3, h3⟩ := hown.a3.shape
      obtain ⟨D4, d4, h4⟩ := hown.a4.shape
      subst h0
      subst h1
      subst h2
      subst h3
      subst h4
      clear hb hown
      go_upto_region 14 with fail
      have HC8 := Lib.hid (OwnB.new w2 31 #[.slice D0 M.nodes.length d0, .slice D1 M.inits.length d1, .slice D2 M.nexts.length d2, .slice D3 M.bads.length d3, .slice D4 M.holds.length d4])
      have hb8 := box_below w2 #[.slice D0 M.nodes.length d0, .slice D1 M.inits.length d1, .slice D2 M.nexts.length d2, .slice D3 M.bads.length d3, .slice D4 M.holds.length d4] 31
      have HB8 := Lib.hid (HB2.out.trans (hb8.mono HB2.out.size))
      have HO8 := Lib.hid (HOW.out.below hb8)
      have HL8 := Lib.hid (show ∀ b, ((.slice D0 M.nodes.length d0 : Value).ownBlock = some b → b < w2.heap.size) ∧ ((.slice D1 M.inits.length d1 : Value).ownBlock = some b → b < w2.heap.size) ∧ ((.slice D2 M.nexts.length d2 : Value).ownBlock = some b → b < w2.heap.size) ∧ ((.slice D3 M.bads.length d3 : Value).ownBlock = some b → b < w2.heap.size) ∧ ((.slice D4 M.holds.length d4 : Value).ownBlock = some b → b < w2.heap.size) from fun b => ⟨fun e => (HOW.out.a0.lt b e).2, fun e => (HOW.out.a1.lt b e).2, fun e => (HOW.out.a2.lt b e).2, fun e => (HOW.out.a3.lt b e).2, fun e => (HOW.out.a4.lt b e).2⟩)
      have HB8L := Lib.hid HB2.out.size
      have HNL2 := Lib.hid (show ∀ b, (Value.slice A6 q e6).ownBlock = some b → b < u.val.heap.size from fun b e => (HND.out.lt b e).2)
      clear hb8
      generalize w2.alloc (Obj.cells #[.slice D0 M.nodes.length d0, .slice D1 M.inits.length d1, .slice D2 M.nexts.length d2, .slice D3 M.bads.length d3, .slice D4 M.holds.length d4] 31) = Y0 at *
      generalize w2.heap.size = B8 at *
      clear HOW HB2
      have HLY := Lib.hid (show LaterC Wk Y0 from laterC_step (w1 := Wk) ⟨u, rfl⟩ HB8.out)
      have HUS := Lib.hid (show TB + 1 ≤ u.val.heap.size from HTT.out.lt)
      have HNDy := Lib.hid (HND.out.below HB8.out)
      have HTTy := Lib.hid (HTT.out.below HB8.out)
      have HWU := Lib.hid u.size
      generalize u.val.heap.size = lo at *
      clear HND HTT HB8
      go_upto_region 15 with fail
      have b1 : Y0.cell? ⟨B8, 1, none⟩ = some (.slice D1 M.inits.length d1) := HC8.out.cell 1
      have b2 : Y0.cell? ⟨B8, 2, none⟩ = some (.slice D2 M.nexts.length d2) := HC8.out.cell 2
      have b1d : Y0.drew.cell? ⟨B8, 1, none⟩ = some (.slice D1 M.inits.length d1) := b1
      have b2d : Y0.drew.cell? ⟨B8, 2, none⟩ = some (.slice D2 M.nexts.length d2) := b2
      have HDR := Lib.hid (show Below Y0.heap.size Y0 Y0.drew from (Below.refl _ _).drew)
      have HFF := Lib.hid (show ∀ xs : List Bd, xs.filter (fun b => !(fun b => !keepB KL b) b) = xs.filter (keepB KL) from fun xs => by simp)
      clear n0 n1 n2 n3 n4 k0 hmf b1 b2
      have HC8' := HC8
      go_region_with (first | (go_at_call 27; refine (deleteB_calls 26 #[.pointer (some ⟨K3, 0, none⟩)] (fun b => !keepB KL b) lo (.slice D2 M.nexts.length d2) M.nexts w9 HA2.out HLM.out.2.2.1 heg (fun W hb y u2 hy => HANS.out W (hb.laterC (HB9.out.laterC HLY.out (fun b e => Nat.le_trans HWU.out (HO8.out.a1.lt b e).1)) (fun b e => Nat.le_trans HWU.out (HO8.out.a2.lt b e).1)) y (List.mem_append_right _ hy) u2)).mono ?_; rw [HFF.out]; rintro e w10 ⟨v2, rfl, hbut, hacc, hsub⟩; have HB10 := Lib.hid hbut; have HA3 := Lib.hid hacc; have HS2 := Lib.hid hsub; obtain ⟨I2, i2, hs2⟩ := hacc.shape; subst hs2; have HN10 := Lib.hid (show ¬ ((.slice D2 M.nexts.length d2 : Value).ownBlock = some B8) from fun e => Nat.lt_irrefl _ ((HL8.out B8).2.2.1 e)); have HC10 := Lib.hid ((HC8.out.but HB9.out HN9.out).but HB10.out HN10.out); have x1 : w10.cell? ⟨B8, 1, none⟩ = some (.slice D1 M.inits.length d1) := HC10.out.cell 1; have x2 : w10.cell? ⟨B8, 2, none⟩ = some (.slice D2 M.nexts.length d2) := HC10.out.cell 2; have g1 : w10.frozen? ⟨B8, 1, none⟩ = false := HC10.out.frozen 1; have g2 : w10.frozen? ⟨B8, 2, none⟩ = false := HC10.out.frozen 2; clear hbut hacc hsub) | (go_at_call 27; refine (deleteB_calls 26 #[.pointer (some ⟨K3, 0, none⟩)] (fun b => !keepB KL b) lo (.slice D1 M.inits.length d1) M.inits Y0.drew (HO8.out.a1.below HDR.out) HLM.out.2.1 heg (fun W hb y u2 hy => HANS.out W (hb.laterC (LaterC.drew' HLY.out) (fun b e => Nat.le_trans HWU.out (HO8.out.a1.lt b e).1)) y (List.mem_append_left _ hy) u2)).mono ?_; rw [HFF.out]; rintro e w9 ⟨v1, rfl, hbut, hacc, hsub⟩; have HB9 := Lib.hid (show But (fun b => (.slice D1 M.inits.length d1 : Value).ownBlock = some b) Y0 w9 from (But.of_below HDR.out).trans hbut); have HA1 := Lib.hid hacc; have HS1 := Lib.hid hsub; obtain ⟨I1, i1, hs1⟩ := hacc.shape; subst hs1; have HN9 := Lib.hid (show ¬ ((.slice D1 M.inits.length d1 : Value).ownBlock = some B8) from fun e => Nat.lt_irrefl _ ((HL8.out B8).2.1 e)); have c2 : w9.cell? ⟨B8, 2, none⟩ = some (.slice D2 M.nexts.length d2) := cell_but (HC8.out.cell 2) HB9.out HN9.out; have HA2 := Lib.hid (HO8.out.a2.but HB9.out (fun b e1 e2 => HO8.out.d12 b e2 e1)); clear hbut hacc hsub))
      all_goals
       have HC11 := Lib.hid (show OwnB ((w10.setCell ⟨B8, 1, none⟩ (.slice I1 (M.inits.filter (keepB KL)).length i1)).setCell ⟨B8, 2, none⟩ (.slice I2 (M.nexts.filter (keepB KL)).length i2)) B8 31 #[.slice D0 M.nodes.length d0, .slice I1 (M.inits.filter (keepB KL)).length i1, .slice I2 (M.nexts.filter (keepB KL)).length i2, .slice D3 M.bads.length d3, .slice D4 M.holds.length d4] from (HC10.out.set 1 _).set 2 _)
       have HBS := Lib.hid (show But (fun b => b = B8) w10 ((w10.setCell ⟨B8, 1, none⟩ (.slice I1 (M.inits.filter (keepB KL)).length i1)).setCell ⟨B8, 2, none⟩ (.slice I2 (M.nexts.filter (keepB KL)).length i2)) from ((But.refl (fun b => b = B8) w10).set1 _).set1 _)
       have HLX := Lib.hid (show LaterC Wk w10 from HB10.out.laterC (HB9.out.laterC HLY.out (fun b e => Nat.le_trans HWU.out (HO8.out.a1.lt b e).1)) (fun b e => Nat.le_trans HWU.out (HO8.out.a2.lt b e).1))
       have HL11 := Lib.hid (show LaterC Wk ((w10.setCell ⟨B8, 1, none⟩ (.slice I1 (M.inits.filter (keepB KL)).length i1)).setCell ⟨B8, 2, none⟩ (.slice I2 (M.nexts.filter (keepB KL)).length i2)) from LaterC.setCell' (LaterC.setCell' HLX.out _ _ (Nat.le_trans HWU.out HB8L.out)) _ _ (Nat.le_trans HWU.out HB8L.out))
       have HMD := Lib.hid (show MdN ((w10.setCell ⟨B8, 1, none⟩ (.slice I1 (M.inits.filter (keepB KL)).length i1)).setCell ⟨B8, 2, none⟩ (.slice I2 (M.nexts.filter (keepB KL)).length i2)) (.agg #[.slice D0 M.nodes.length d0, .slice I1 (M.inits.filter (keepB KL)).length i1, .slice I2 (M.nexts.filter (keepB KL)).length i2, .slice D3 M.bads.length d3, .slice D4 M.holds.length d4]) (⟨M.nodes, M.inits.filter (keepB KL), M.nexts.filter (keepB KL), M.bads, M.holds⟩ : Md) from ⟨_, _, _, _, _, rfl, (((HO8.out.a0.but HB9.out (fun b e1 e2 => HO8.out.d01 b e1 e2)).but HB10.out (fun b e1 e2 => HO8.out.d02 b e1 e2)).but HBS.out (fun b e1 e2 => by subst e2; exact Nat.lt_irrefl _ ((HL8.out _).1 e1))).slD (by have := HLN.out; omega), ((HA1.out.but HB10.out (fun b e1 e2 => HO8.out.d12 b (HS1.out b e1) e2)).but HBS.out (fun b e1 e2 => by subst e2; exact HN9.out (HS1.out _ e1))).slB (by have h1 := List.length_filter_le (keepB KL) M.inits; have := HLN.out; omega), (HA3.out.but HBS.out (fun b e1 e2 => by subst e2; exact HN10.out (HS2.out _ e1))).slB (by have h1 := List.length_filter_le (keepB KL) M.nexts; have := HLN.out; omega), (((HO8.out.a3.but HB9.out (fun b e1 e2 => HO8.out.d13 b e2 e1)).but HB10.out (fun b e1 e2 => HO8.out.d23 b e2 e1)).but HBS.out (fun b e1 e2 => by subst e2; exact Nat.lt_irrefl _ ((HL8.out _).2.2.2.1 e1))).slI (by have := HLN.out; omega), (((HO8.out.a4.but HB9.out (fun b e1 e2 => HO8.out.d14 b e2 e1)).but HB10.out (fun b e1 e2 => HO8.out.d24 b e2 e1)).but HBS.out (fun b e1 e2 => by subst e2; exact Nat.lt_irrefl _ ((HL8.out _).2.2.2.2 e1))).slI (by have := HLN.out; omega)⟩)
       have HN11 := Lib.hid (((HNDy.out.but HB9.out (fun b e1 e2 => by have h1 := HNL2.out b e1; have h2 := (HO8.out.a1.lt b e2).1; omega)).but HB10.out (fun b e1 e2 => by have h1 := HNL2.out b e1; have h2 := (HO8.out.a2.lt b e2).1; omega)).but HBS.out (fun b e1 e2 => by have h1 := HNL2.out b e1; have h2 := HB8L.out; omega))
       have HT11 := Lib.hid (((HTTy.out.but HB9.out (fun e2 => by have h1 := HUS.out; have h2 := (HO8.out.a1.lt TB e2).1; omega)).but HB10.out (fun e2 => by have h1 := HUS.out; have h2 := (HO8.out.a2.lt TB e2).1; omega)).but HBS.out (fun e2 => by have h1 := HUS.out; have h2 := HB8L.out; omega))
       generalize (w10.setCell ⟨B8, 1, none⟩ (.slice I1 (M.inits.filter (keepB KL)).length i1)).setCell ⟨B8, 2, none⟩ (.slice I2 (M.nexts.filter (keepB KL)).length i2) = W11 at *
       clear x1 x2 g1 g2 c2 b1d b2d
       have HCLN := Lib.hid (show C.nodes.length ≤ 1048576 ∧ C.inits.length ≤ 1048576 ∧ C.nexts.length ≤ 1048576 ∧ C.bads.length ≤ 1048576 ∧ C.holds.length ≤ 1048576 by
        have h := cone_len M
        rw [HCN.out] at h
        have := HLN.out
        omega)
       have HTLL := Lib.hid (toR_len KL n)
       have HM3 := Lib.hid (show (⟨coneNs M.nodes KL n, (M.inits.filter (keepB KL)).map (bindT (toR KL n)), (M.nexts.filter (keepB KL)).map (bindT (toR KL n)), M.bads.map (fun x => (toR KL n).getD x.toNat 0), M.holds.map (fun x => (toR KL n).getD x.toNat 0)⟩ : Md) = C by
        have h1 := binds_move HC.out (xs := M.inits) (fun b hb => List.mem_append_left _ hb)
        have h2 := binds_move HC.out (xs := M.nexts) (fun b hb => List.mem_append_right _ hb)
        have h3 := ints_move HC.out (xs := M.bads) (fun b hb => List.mem_append_left _ hb)
        have h4 := ints_move HC.out (xs := M.holds) (fun b hb => List.mem_append_right _ hb)
        rw [HKL.out, HN.out] at h1 h2 h3 h4
        rw [HCE.out, HKL.out, HN.out, h1, h2, h3, h4])
       have HR2L := Lib.hid (show R2 < Wk.heap.size by have h1 := HR2.out; have h2 := HSZ.out; have h3 := HLK.out.size; omega)
       have c0 : W11.cell? ⟨B8, 0, none⟩ = some (.slice D0 M.nodes.length d0) := HC11.out.cell 0
       have c1 : W11.cell? ⟨B8, 1, none⟩ = some (.slice I1 (M.inits.filter (keepB KL)).length i1) := HC11.out.cell 1
       have c2 : W11.cell? ⟨B8, 2, none⟩ = some (.slice I2 (M.nexts.filter (keepB KL)).length i2) := HC11.out.cell 2
       have c3 : W11.cell? ⟨B8, 3, none⟩ = some (.slice D3 M.bads.length d3) := HC11.out.cell 3
       have c4 : W11.cell? ⟨B8, 4, none⟩ = some (.slice D4 M.holds.length d4) := HC11.out.cell 4
       go_wp2_with fail
       refine (moved_calls (.agg #[.slice D0 M.nodes.length d0, .slice I1 (M.inits.filter (keepB KL)).length i1, .slice I2 (M.nexts.filter (keepB KL)).length i2, .slice D3 M.bads.length d3, .slice D4 M.holds.length d4]) (.slice A6 q e6) (.slice (some ⟨TB, 0, none⟩) n n) (⟨M.nodes, M.inits.filter (keepB KL), M.nexts.filter (keepB KL), M.bads, M.holds⟩ : Md) (coneNs M.nodes KL n) (toR KL n) W11 HMD.out (HN11.out.slD (by rw [HCL.out]; have := HRK.out; have := HQQ.out; omega)) (HT11.out.slN HTLL.out (by omega)) ⟨HLM.out.1, Nat.le_trans (List.length_filter_le _ _) HLM.out.2.1, Nat.le_trans (List.length_filter_le _ _) HLM.out.2.2.1, HLM.out.2.2.2.1, HLM.out.2.2.2.2⟩ (by rw [HTLL.out]; omega) (fun b hb => by
        have hm : b ∈ M.inits ++ M.nexts := by
         rcases List.mem_append.1 hb with h | h
         · exact List.mem_append_left _ (List.mem_filter.1 h).1
         · exact List.mem_append_right _ (List.mem_filter.1 h).1
        have h := binds_q HC.out hm
        rw [HTLL.out, ← HN.out]
        exact ⟨h.1, h.2.1⟩) (fun x hx => by
        have h := root_q HC.out hx
        rw [HTLL.out, ← HN.out]
        exact h)).mono ?_
       rintro e w12 ⟨mv2, rfl, hb, hmd⟩
       have HB12 := Lib.hid hb
       have HMD2 := Lib.hid (show MdN w12 mv2 C by have h := hmd; rw [HM3.out] at h; exact h)
       clear hb hmd c0 c1 c2 c3 c4
       go_wp2_with fail
       refine (clone_calls mv2 C w12 HMD2.out HCLN.out).mono ?_
       rintro e w13 ⟨z0, z1, z2, z3, z4, rfl, hb, hown⟩
       have HB13 := Lib.hid hb
       have HZ := Lib.hid hown
       obtain ⟨E0, e0', h0⟩ := hown.a0.shape
       obtain ⟨E1, e1', h1⟩ := hown.a1.shape
       obtain ⟨E2, e2', h2⟩ := hown.a2.shape
       obtain ⟨E3, e3', h3⟩ := hown.a3.shape
       obtain ⟨E4, e4', h4⟩ := hown.a4.shape
       subst h0
       subst h1
       subst h2
       subst h3
       subst h4
       clear hb hown
       have HL13 := Lib.hid (show LaterC Wk w13 from laterC_step (laterC_step HL11.out HB12.out) HB13.out)
       have HW12 := Lib.hid (show Wk.heap.size ≤ w12.heap.size from (laterC_step HL11.out HB12.out).size)
       have y0 : w13.cell? ⟨R2, 0, none⟩ = some (.slice none 0 0) := (HRW2.out _ HL13.out).cell 0
       have f0 : w13.frozen? ⟨R2, 0, none⟩ = false := (HRW2.out _ HL13.out).frozen 0
       have y1 : w13.cell? ⟨R2, 1, none⟩ = some (.slice none 0 0) := (HRW2.out _ HL13.out).cell 1
       have f1 : w13.frozen? ⟨R2, 1, none⟩ = false := (HRW2.out _ HL13.out).frozen 1
       have y2 : w13.cell? ⟨R2, 2, none⟩ = some (.slice none 0 0) := (HRW2.out _ HL13.out).cell 2
       have f2 : w13.frozen? ⟨R2, 2, none⟩ = false := (HRW2.out _ HL13.out).frozen 2
       have y3 : w13.cell? ⟨R2, 3, none⟩ = some (.slice none 0 0) := (HRW2.out _ HL13.out).cell 3
       have f3 : w13.frozen? ⟨R2, 3, none⟩ = false := (HRW2.out _ HL13.out).frozen 3
       have y4 : w13.cell? ⟨R2, 4, none⟩ = some (.slice none 0 0) := (HRW2.out _ HL13.out).cell 4
       have f4 : w13.frozen? ⟨R2, 4, none⟩ = false := (HRW2.out _ HL13.out).frozen 4
       have HF := Lib.hid (five_set (HRW2.out _ HL13.out) (.slice E0 C.nodes.length e0') (.slice E1 C.inits.length e1') (.slice E2 C.nexts.length e2') (.slice E3 C.bads.length e3') (.slice E4 C.holds.length e4'))
       have HBT2 := Lib.hid (five_but w13 R2 (.slice E0 C.nodes.length e0') (.slice E1 C.inits.length e1') (.slice E2 C.nexts.length e2') (.slice E3 C.bads.length e3') (.slice E4 C.holds.length e4'))
       have HBW13 := Lib.hid (show Below w.heap.size w w13 from HBW.out.trans (HL13.out.below.mono HBW.out.size))
       have HBB := Lib.hid (show Below w.heap.size w _ from HBW13.out.trans (HBT2.out.below (B := w.heap.size) (fun k e => by subst e; have := HR2.out; omega) HBW13.out.size))
       have HOF := Lib.hid ((HZ.out.but HBT2.out (fun b hb e => by have h1 := HR2L.out; have h2 := HW12.out; omega)).mono (lo' := w.heap.size) (by have h2 := HW12.out; have h3 := HBW.out.size; omega))
       clear HBT2
       go_wp2
       generalize (((((w13.setCell ⟨R2, 0, none⟩ (.slice E0 C.nodes.length e0')).setCell ⟨R2, 1, none⟩ (.slice E1 C.inits.length e1')).setCell ⟨R2, 2, none⟩ (.slice E2 C.nexts.length e2')).setCell ⟨R2, 3, none⟩ (.slice E3 C.bads.length e3')).setCell ⟨R2, 4, none⟩ (.slice E4 C.holds.length e4')) = WF at *
       have r0 : WF.cell? ⟨R2, 0, none⟩ = some (.slice E0 C.nodes.length e0') := HF.out.cell 0
       have r1 : WF.cell? ⟨R2, 1, none⟩ = some (.slice E1 C.inits.length e1') := HF.out.cell 1
       have r2 : WF.cell? ⟨R2, 2, none⟩ = some (.slice E2 C.nexts.length e2') := HF.out.cell 2
       have r3 : WF.cell? ⟨R2, 3, none⟩ = some (.slice E3 C.bads.length e3') := HF.out.cell 3
       have r4 : WF.cell? ⟨R2, 4, none⟩ = some (.slice E4 C.holds.length e4') := HF.out.cell 4
       exact bodyPost_ret (v := .agg #[.slice E0 C.nodes.length e0', .slice E1 C.inits.length e1', .slice E2 C.nexts.length e2', .slice E3 C.bads.length e3', .slice E4 C.holds.length e4']) (by simp [results, Tryz.results7, go_sem, r0, r1, r2, r3, r4]) rfl ⟨_, _, _, _, _, rfl, HBB.out, HOF.out⟩
end Go.Proofs.YtdojaijnejcoiaaGreat
namespace Go.Proofs.YtdojaijnejcoiaaGreat
open Go.RowKit
theorem flat_ints' : ∀ xs : List Int, flatE enI xs = xs.map (Value.int .i64)
 | [] => rfl
 | x :: l => by rw [flatE, flat_ints' l]; rfl
theorem Acc.rowI' {lo : Nat} {w : World} {v : Value} {xs : List Int} (h : Acc kI lo w v xs) (hl : xs.length ≤ 281474976710656) : RowI w v xs := by
 refine .of_owns (base := lo) (n := xs.length) ?_ rfl hl
 have h2 : w.ownsRow lo 3 1 v xs.length (flatE enI xs) := h
 rwa [flat_ints'] at h2
def mk1 (M : Md) : Int := 1 + 9 * (M.nodes.length : Int)
def mk2 (M : Md) : Int := mk1 M + 2 * (M.inits.length : Int)
def mk3 (M : Md) : Int := mk2 M + 2 * (M.nexts.length : Int)
def mk4 (M : Md) : Int := mk3 M + (M.bads.length : Int)
def mk5 (M : Md) : Int := mk4 M + (M.holds.length : Int)
theorem mk_e1 (M : Md) : Value.int .i64 (1 + 9 * (M.nodes.length : Int)) = .int .i64 (mk1 M) := rfl
theorem mk_e2 (M : Md) : Value.int .i64 (mk1 M + 2 * (M.inits.length : Int)) = .int .i64 (mk2 M) := rfl
theorem mk_e3 (M : Md) : Value.int .i64 (mk2 M + 2 * (M.nexts.length : Int)) = .int .i64 (mk3 M) := rfl
theorem mk_e4 (M : Md) : Value.int .i64 (mk3 M + (M.bads.length : Int)) = .int .i64 (mk4 M) := rfl
theorem mk_e5 (M : Md) : Value.int .i64 (mk4 M + (M.holds.length : Int)) = .int .i64 (mk5 M) := rfl
def markM (M : Md) : Md := ⟨markNs 1 M.nodes.length, markBs (mk1 M) M.inits.length, markBs (mk2 M) M.nexts.length, marks (mk3 M) M.bads.length, marks (mk4 M) M.holds.length⟩
theorem mk_small {M : Md} (hl : M.nodes.length ≤ 1048576 ∧ M.inits.length ≤ 1048576 ∧ M.nexts.length ≤ 1048576 ∧ M.bads.length ≤ 1048576 ∧ M.holds.length ≤ 1048576) : (1 ≤ mk1 M ∧ mk1 M ≤ 10000000) ∧ (1 ≤ mk2 M ∧ mk2 M ≤ 20000000) ∧ (1 ≤ mk3 M ∧ mk3 M ≤ 30000000) ∧ (1 ≤ mk4 M ∧ mk4 M ≤ 40000000) ∧ 1 ≤ mk5 M ∧ mk5 M ≤ 50000000 := by
 unfold mk5 mk4 mk3 mk2 mk1
 omega
theorem markModelA_calls (lo : Nat) (s0 s1 s2 s3 s4 : Value) (M : Md) (wh w : World) (h : OwnM lo w s0 s1 s2 s3 s4 M) (hh : OwnM lo wh s0 s1 s2 s3 s4 M) (hl : M.nodes.length ≤ 1048576 ∧ M.inits.length ≤ 1048576 ∧ M.nexts.length ≤ 1048576 ∧ M.bads.length ≤ 1048576 ∧ M.holds.length ≤ 1048576) :
 Calls Tryz.prog 9 #[.agg #[s0, s1, s2, s3, s4], .int .i64 1] w fun e w' => e = .returned (.int .i64 (mk5 M)) ∧ But (fun b => lo ≤ b ∧ b < wh.heap.size) w w' ∧ MdN w' (.agg #[s0, s1, s2, s3, s4]) (markM M) := by
 have HH := Lib.hid h
 have HHH := Lib.hid hh
 have HL := Lib.hid hl
 have HMK := Lib.hid (mk_small hl)
 obtain ⟨A0, c0, h0⟩ := h.a0.shape
 obtain ⟨A1, c1, h1⟩ := h.a1.shape
 obtain ⟨A2, c2, h2⟩ := h.a2.shape
 obtain ⟨A3, c3, h3⟩ := h.a3.shape
 obtain ⟨A4, c4, h4⟩ := h.a4.shape
 subst h0
 subst h1
 subst h2
 subst h3
 subst h4
 clear h hh hl
 go_enter Tryz.func9, Tryz.ntmps9
 have b0 := box_cell w #[.slice A0 M.nodes.length c0, .slice A1 M.inits.length c1, .slice A2 M.nexts.length c2, .slice A3 M.bads.length c3, .slice A4 M.holds.length c4] 31 0 _ rfl
 have b1 := box_cell w #[.slice A0 M.nodes.length c0, .slice A1 M.inits.length c1, .slice A2 M.nexts.length c2, .slice A3 M.bads.length c3, .slice A4 M.holds.length c4] 31 1 _ rfl
 have b2 := box_cell w #[.slice A0 M.nodes.length c0, .slice A1 M.inits.length c1, .slice A2 M.nexts.length c2, .slice A3 M.bads.length c3, .slice A4 M.holds.length c4] 31 2 _ rfl
 have b3 := box_cell w #[.slice A0 M.nodes.length c0, .slice A1 M.inits.length c1, .slice A2 M.nexts.length c2, .slice A3 M.bads.length c3, .slice A4 M.holds.length c4] 31 3 _ rfl
 have b4 := box_cell w #[.slice A0 M.nodes.length c0, .slice A1 M.inits.length c1, .slice A2 M.nexts.length c2, .slice A3 M.bads.length c3, .slice A4 M.holds.length c4] 31 4 _ rfl
 have hb := box_below w #[.slice A0 M.nodes.length c0, .slice A1 M.inits.length c1, .slice A2 M.nexts.length c2, .slice A3 M.bads.length c3, .slice A4 M.holds.length c4] 31
 have HWS := Lib.hid (show w.heap.size ≠ 0 ∨ True from .inr trivial)
 go_upto_region 1 with fail
 generalize w.alloc (.cells #[.slice A0 M.nodes.length c0, .slice A1 M.inits.length c1, .slice A2 M.nexts.length c2, .slice A3 M.bads.length c3, .slice A4 M.holds.length c4] 31) = W0 at *
 have k0 : W0.cell? ⟨w.heap.size, 0, none⟩ = some (.slice A0 M.nodes.length c0) := b0 ⟨W0, Below.refl _ _⟩
 have k1 : W0.cell? ⟨w.heap.size, 1, none⟩ = some (.slice A1 M.inits.length c1) := b1 ⟨W0, Below.refl _ _⟩
 have k2 : W0.cell? ⟨w.heap.size, 2, none⟩ = some (.slice A2 M.nexts.length c2) := b2 ⟨W0, Below.refl _ _⟩
 have k3 : W0.cell? ⟨w.heap.size, 3, none⟩ = some (.slice A3 M.bads.length c3) := b3 ⟨W0, Below.refl _ _⟩
 have k4 : W0.cell? ⟨w.heap.size, 4, none⟩ = some (.slice A4 M.holds.length c4) := b4 ⟨W0, Below.refl _ _⟩
 have HB0 := Lib.hid (show But (fun b => lo ≤ b ∧ b < wh.heap.size) w W0 from .of_below hb)
 have HO0 := Lib.hid (HH.out.below hb)
 clear b0 b1 b2 b3 b4 hb
 have HR0 := Lib.hid (HO0.out.a0)
 go_upto_region 2 with (go_at_call 32; (with_reducible refine (markNodeSA_calls lo (.slice A0 M.nodes.length c0) M.nodes 1 W0 HR0.out (by have := HL.out.1; omega) (by have := HMK.out; omega) (by have := HMK.out; have := HL.out.1; omega)).mono ?_); rintro e W1 ⟨rfl, hbut, hrd⟩; rw [show (1 : Int) + 9 * (M.nodes.length : Int) = mk1 M from rfl]; have HU0 := Lib.hid hbut; have HS0 := Lib.hid hrd; clear hbut hrd)
 have HB1 := Lib.hid (HB0.out.trans (HU0.out.mono (T := fun b => lo ≤ b ∧ b < wh.heap.size) fun b e => HHH.out.a0.lt b e))
 replace k1 := cell_but k1 HU0.out (fun e => Nat.lt_irrefl _ (HH.out.a0.lt _ e).2)
 replace k2 := cell_but k2 HU0.out (fun e => Nat.lt_irrefl _ (HH.out.a0.lt _ e).2)
 replace k3 := cell_but k3 HU0.out (fun e => Nat.lt_irrefl _ (HH.out.a0.lt _ e).2)
 replace k4 := cell_but k4 HU0.out (fun e => Nat.lt_irrefl _ (HH.out.a0.lt _ e).2)
 clear k0
 have HR1 := Lib.hid (show Acc kB lo W1 (.slice A1 M.inits.length c1) M.inits from (HO0.out.a1.but HU0.out (fun b e1 e2 => HH.out.d01 b e2 e1)))
 go_upto_region 3 with (go_at_call 33; (with_reducible refine (markBindSA_calls lo (.slice A1 M.inits.length c1) M.inits (mk1 M) W1 HR1.out (by have := HL.out.2.1; omega) (by have := HMK.out; omega) (by have := HMK.out; have := HL.out.2.1; omega)).mono ?_); rintro e W2 ⟨rfl, hbut, hrd⟩; rw [show mk1 M + 2 * (M.inits.length : Int) = mk2 M from rfl]; have HU1 := Lib.hid hbut; have HS1 := Lib.hid hrd; clear hbut hrd)
 have HB2 := Lib.hid (HB1.out.trans (HU1.out.mono (T := fun b => lo ≤ b ∧ b < wh.heap.size) fun b e => HHH.out.a1.lt b e))
 replace k2 := cell_but k2 HU1.out (fun e => Nat.lt_irrefl _ (HH.out.a1.lt _ e).2)
 replace k3 := cell_but k3 HU1.out (fun e => Nat.lt_irrefl _ (HH.out.a1.lt _ e).2)
 replace k4 := cell_but k4 HU1.out (fun e => Nat.lt_irrefl _ (HH.out.a1.lt _ e).2)
 clear k1
 have HR2 := Lib.hid (show Acc kB lo W2 (.slice A2 M.nexts.length c2) M.nexts from ((HO0.out.a2.but HU0.out (fun b e1 e2 => HH.out.d02 b e2 e1)).but HU1.out (fun b e1 e2 => HH.out.d12 b e2 e1)))
 go_upto_region 4 with (go_at_call 33; (with_reducible refine (markBindSA_calls lo (.slice A2 M.nexts.length c2) M.nexts (mk2 M) W2 HR2.out (by have := HL.out.2.2.1; omega) (by have := HMK.out; omega) (by have := HMK.out; have := HL.out.2.2.1; omega)).mono ?_); rintro e W3 ⟨rfl, hbut, hrd⟩; rw [show mk2 M + 2 * (M.nexts.length : Int) = mk3 M from rfl]; have HU2 := Lib.hid hbut; have HS2 := Lib.hid hrd; clear hbut hrd)
 have HB3 := Lib.hid (HB2.out.trans (HU2.out.mono (T := fun b => lo ≤ b ∧ b < wh.heap.size) fun b e => HHH.out.a2.lt b e))
 replace k3 := cell_but k3 HU2.out (fun e => Nat.lt_irrefl _ (HH.out.a2.lt _ e).2)
 replace k4 := cell_but k4 HU2.out (fun e => Nat.lt_irrefl _ (HH.out.a2.lt _ e).2)
 clear k2
 have HR3 := Lib.hid (show Acc kI lo W3 (.slice A3 M.bads.length c3) M.bads from (((HO0.out.a3.but HU0.out (fun b e1 e2 => HH.out.d03 b e2 e1)).but HU1.out (fun b e1 e2 => HH.out.d13 b e2 e1)).but HU2.out (fun b e1 e2 => HH.out.d23 b e2 e1)))
 go_upto_region 5 with (go_at_call 34; (with_reducible refine (markIntS_calls (.slice A3 M.bads.length c3) M.bads (mk3 M) W3 (HR3.out.rowI' (by have := HL.out.2.2.2.1; omega)) (by have := HMK.out; omega) (by have := HMK.out; have := HL.out.2.2.2.1; omega)).mono ?_); rintro e W4 ⟨rfl, hbut, hrd⟩; rw [show mk3 M + (M.bads.length : Int) = mk4 M from rfl]; have HU3 := Lib.hid hbut; have HS3 := Lib.hid hrd.slN; clear hbut hrd)
 have HB4 := Lib.hid (HB3.out.trans (HU3.out.mono (T := fun b => lo ≤ b ∧ b < wh.heap.size) fun b e => HHH.out.a3.lt b e))
 replace k4 := cell_but k4 HU3.out (fun e => Nat.lt_irrefl _ (HH.out.a3.lt _ e).2)
 clear k3
 have HR4 := Lib.hid (show Acc kI lo W4 (.slice A4 M.holds.length c4) M.holds from ((((HO0.out.a4.but HU0.out (fun b e1 e2 => HH.out.d04 b e2 e1)).but HU1.out (fun b e1 e2 => HH.out.d14 b e2 e1)).but HU2.out (fun b e1 e2 => HH.out.d24 b e2 e1)).but HU3.out (fun b e1 e2 => HH.out.d34 b e2 e1)))
 go_wp2_with (go_at_call 34; (with_reducible refine (markIntS_calls (.slice A4 M.holds.length c4) M.holds (mk4 M) W4 (HR4.out.rowI' (by have := HL.out.2.2.2.2; omega)) (by have := HMK.out; omega) (by have := HMK.out; have := HL.out.2.2.2.2; omega)).mono ?_); rintro e W5 ⟨rfl, hbut, hrd⟩; rw [show mk4 M + (M.holds.length : Int) = mk5 M from rfl]; have HU4 := Lib.hid hbut; have HS4 := Lib.hid hrd.slN; clear hbut hrd)
 have HB5 := Lib.hid (HB4.out.trans (HU4.out.mono (T := fun b => lo ≤ b ∧ b < wh.heap.size) fun b e => HHH.out.a4.lt b e))
 go_ret
 exact ⟨rfl, HB5.out, ⟨_, _, _, _, _, rfl, ((((HS0.out.but HU1.out (fun b e1 e2 => HH.out.d01 b e1 e2)).but HU2.out (fun b e1 e2 => HH.out.d02 b e1 e2)).but HU3.out (fun b e1 e2 => HH.out.d03 b e1 e2)).but HU4.out (fun b e1 e2 => HH.out.d04 b e1 e2)), (((HS1.out.but HU2.out (fun b e1 e2 => HH.out.d12 b e1 e2)).but HU3.out (fun b e1 e2 => HH.out.d13 b e1 e2)).but HU4.out (fun b e1 e2 => HH.out.d14 b e1 e2)), ((HS2.out.but HU3.out (fun b e1 e2 => HH.out.d23 b e1 e2)).but HU4.out (fun b e1 e2 => HH.out.d24 b e1 e2)), (HS3.out.but HU4.out (fun b e1 e2 => HH.out.d34 b e1 e2)), HS4.out⟩⟩
theorem heldModel_calls (v : Value) (M : Md) (w : World) (h : MdN w v (markM M)) (hl : M.nodes.length ≤ 1048576 ∧ M.inits.length ≤ 1048576 ∧ M.nexts.length ≤ 1048576 ∧ M.bads.length ≤ 1048576 ∧ M.holds.length ≤ 1048576) :
 Makes Tryz.prog 10 #[v, .int .i64 1] w (.int .i64 (mk5 M)) := by
 obtain ⟨s0, s1, s2, s3, s4, rfl, t0, t1, t2, t3, t4⟩ := h.at_
 have HL := Lib.hid hl
 have HMK := Lib.hid (mk_small hl)
 have HT0 := Lib.hid t0
 have HT1 := Lib.hid t1
 have HT2 := Lib.hid t2
 have HT3 := Lib.hid t3
 have HT4 := Lib.hid t4
 clear h hl t0 t1 t2 t3 t4
 have hk1 : 1 ≤ mk1 M ∧ mk1 M ≤ 10000000 := HMK.out.1
 have hk2 : 1 ≤ mk2 M ∧ mk2 M ≤ 20000000 := HMK.out.2.1
 have hk3 : 1 ≤ mk3 M ∧ mk3 M ≤ 30000000 := HMK.out.2.2.1
 have hk4 : 1 ≤ mk4 M ∧ mk4 M ≤ 40000000 := HMK.out.2.2.2.1
 have hk5 : 1 ≤ mk5 M ∧ mk5 M ≤ 50000000 := HMK.out.2.2.2.2
 go_enter Tryz.func10, Tryz.ntmps10
 have b0 := box_cell w #[s0, s1, s2, s3, s4] 31 0 _ rfl
 have b1 := box_cell w #[s0, s1, s2, s3, s4] 31 1 _ rfl
 have b2 := box_cell w #[s0, s1, s2, s3, s4] 31 2 _ rfl
 have b3 := box_cell w #[s0, s1, s2, s3, s4] 31 3 _ rfl
 have b4 := box_cell w #[s0, s1, s2, s3, s4] 31 4 _ rfl
 have HB := Lib.hid (box_below w #[s0, s1, s2, s3, s4] 31)
 go_upto_region 1 with fail
 generalize w.alloc (.cells #[s0, s1, s2, s3, s4] 31) = w1 at *
 replace b0 : ∀ u : Later w1, u.val.cell? ⟨w.heap.size, 0, none⟩ = some s0 := b0
 replace b1 : ∀ u : Later w1, u.val.cell? ⟨w.heap.size, 1, none⟩ = some s1 := b1
 replace b2 : ∀ u : Later w1, u.val.cell? ⟨w.heap.size, 2, none⟩ = some s2 := b2
 replace b3 : ∀ u : Later w1, u.val.cell? ⟨w.heap.size, 3, none⟩ = some s3 := b3
 replace b4 : ∀ u : Later w1, u.val.cell? ⟨w.heap.size, 4, none⟩ = some s4 := b4
 refine at_world (w := w1) ?_
 intro u0
 go_wp2_with (first | (go_at_call 37; (refine (Calls.later_eq (u := u4) (heldIntS_calls s4 (mk4 M) M.holds.length _ (HT4.out.below (HB.out.trans (u4.prop.mono HB.out.size))) (by have := HMK.out; omega) (by have := HMK.out; have := HL.out.2.2.2.2; omega)) (mk_e5 M)).mono ?_); rintro e w' ⟨rfl, u5, rfl⟩) | (go_at_call 37; (refine (Calls.later_eq (u := u3) (heldIntS_calls s3 (mk3 M) M.bads.length _ (HT3.out.below (HB.out.trans (u3.prop.mono HB.out.size))) (by have := HMK.out; omega) (by have := HMK.out; have := HL.out.2.2.2.1; omega)) (mk_e4 M)).mono ?_); rintro e w' ⟨rfl, u4, rfl⟩) | (go_at_call 36; (refine (Calls.later_eq (u := u2) (heldBindS_calls s2 (mk2 M) M.nexts.length _ (HT2.out.below (HB.out.trans (u2.prop.mono HB.out.size))) (by have := HMK.out; omega) (by have := HMK.out; have := HL.out.2.2.1; omega)) (mk_e3 M)).mono ?_); rintro e w' ⟨rfl, u3, rfl⟩) | (go_at_call 36; (refine (Calls.later_eq (u := u1) (heldBindS_calls s1 (mk1 M) M.inits.length _ (HT1.out.below (HB.out.trans (u1.prop.mono HB.out.size))) (by have := HMK.out; omega) (by have := HMK.out; have := HL.out.2.1; omega)) (mk_e2 M)).mono ?_); rintro e w' ⟨rfl, u2, rfl⟩) | (go_at_call 35; (refine (Calls.later_eq (u := u0) (heldNodeS_calls s0 1 M.nodes.length _ (HT0.out.below (HB.out.trans (u0.prop.mono HB.out.size))) (by have := HMK.out; omega) (by have := HMK.out; have := HL.out.1; omega)) (mk_e1 M)).mono ?_); rintro e w' ⟨rfl, u1, rfl⟩))
 go_ret
 exact ⟨rfl, u5.back HB.out⟩
end Go.Proofs.YtdojaijnejcoiaaGreat
namespace Go.Proofs.YtdojaijnejcoiaaGreat
open Go.RowKit
theorem FnExactModelCone_calls (mv : Value) (M : Md) (w : World) (hM : MdAt w mv M) (hnm : ∀ x, x ∈ M.nodes → x.name.size ≤ 140737488351232) (hw1 : ∀ b, b ∈ M.inits → (Lit.int .i64 b.st).wf = true) (hw2 : ∀ b, b ∈ M.nexts → (Lit.int .i64 b.st).wf = true) :
 Makes Tryz.prog 3 #[mv] w (.bool true) := by
 have HM := Lib.hid hM
 have HNM := Lib.hid hnm
 have HW1 := Lib.hid hw1
 have HW2 := Lib.hid hw2
 have HSZ := Lib.hid (show ∀ x ∈ M.nodes, x.name.size ≤ 281474976710656 from fun x hx => by have := hnm x hx; omega)
 obtain ⟨s0, s1, s2, s3, s4, rfl, -⟩ := hM.at_
 clear hM hnm hw1 hw2
 go_enter Tryz.func3, Tryz.ntmps3
 have HB := Lib.hid (box_below w #[s0, s1, s2, s3, s4] 26)
 have m0 := box_cell w #[s0, s1, s2, s3, s4] 26 0 _ rfl
 have m1 := box_cell w #[s0, s1, s2, s3, s4] 26 1 _ rfl
 have m2 := box_cell w #[s0, s1, s2, s3, s4] 26 2 _ rfl
 have m3 := box_cell w #[s0, s1, s2, s3, s4] 26 3 _ rfl
 have m4 := box_cell w #[s0, s1, s2, s3, s4] 26 4 _ rfl
 go_upto_region 1 with fail
 generalize w.alloc (.cells #[s0, s1, s2, s3, s4] 26) = w1 at *
 replace m0 : ∀ u : Later w1, u.val.cell? ⟨w.heap.size, 0, none⟩ = some s0 := m0
 replace m1 : ∀ u : Later w1, u.val.cell? ⟨w.heap.size, 1, none⟩ = some s1 := m1
 replace m2 : ∀ u : Later w1, u.val.cell? ⟨w.heap.size, 2, none⟩ = some s2 := m2
 replace m3 : ∀ u : Later w1, u.val.cell? ⟨w.heap.size, 3, none⟩ = some s3 := m3
 replace m4 : ∀ u : Later w1, u.val.cell? ⟨w.heap.size, 4, none⟩ = some s4 := m4
 have HM1 := Lib.hid (HM.out.below HB.out)
 refine at_world (w := w1) ?_
 intro u0
 go_upto_region 3 with (go_at_call 4; refine (szModel_calls _ M _ (HM1.out.later u0) HSZ.out).mono ?_; rintro e w' ⟨r, rfl, hb, hr⟩; obtain ⟨u1, hu1⟩ := u0.step hb; subst hu1; have HL := Lib.hid hr; clear hb hr)
 by_cases hneg : r < 0
 · go_wp2
   go_ret
   exact ⟨rfl, u1.back HB.out⟩
 have HLEN := Lib.hid (show M.nodes.length ≤ 1048576 ∧ M.inits.length ≤ 1048576 ∧ M.nexts.length ≤ 1048576 ∧ M.bads.length ≤ 1048576 ∧ M.holds.length ≤ 1048576 by
  have := HL.out
  unfold LeftOf at this
  omega)
 obtain ⟨C, hC⟩ : ∃ C, coneN M = C := ⟨_, rfl⟩
 have HCL := Lib.hid (show C.nodes.length ≤ 1048576 ∧ C.inits.length ≤ 1048576 ∧ C.nexts.length ≤ 1048576 ∧ C.bads.length ≤ 1048576 ∧ C.holds.length ≤ 1048576 by rw [← hC]; exact ⟨Nat.le_trans (cone_len M).1 HLEN.out.1, Nat.le_trans (cone_len M).2.1 HLEN.out.2.1, Nat.le_trans (cone_len M).2.2.1 HLEN.out.2.2.1, Nat.le_trans (cone_len M).2.2.2.1 HLEN.out.2.2.2.1, Nat.le_trans (cone_len M).2.2.2.2 HLEN.out.2.2.2.2⟩)
 have HCE := Lib.hid hC
 clear hC
 go_upto_region 6 with (first | (go_at_call 5; refine (ModelCone_calls _ M _ HCu2.out HNM.out).mono ?_; rw [HCE.out]; rintro e w' ⟨z0, z1, z2, z3, z4, rfl, hb, hown⟩; obtain ⟨u3, hu3⟩ := u2.step hb; subst hu3; have HZ := Lib.hid hown; obtain ⟨A0, a0, h0⟩ := hown.a0.shape; obtain ⟨A1, a1, h1⟩ := hown.a1.shape; obtain ⟨A2, a2, h2⟩ := hown.a2.shape; obtain ⟨A3, a3, h3⟩ := hown.a3.shape; obtain ⟨A4, a4, h4⟩ := hown.a4.shape; subst h0 h1 h2 h3 h4; clear hb hown) | (go_at_call 6; refine (toModel_at _ M _ (HM1.out.later u1) HLEN.out.1 HLEN.out.2.1 HLEN.out.2.2.1 HLEN.out.2.2.2.1 HLEN.out.2.2.2.2).mono ?_; rintro e w' ⟨t0, t1, t2, t3, t4, rfl, hb, hc⟩; obtain ⟨u2, hu2⟩ := u1.step hb; subst hu2; have HCu2 := Lib.hid hc; clear hb hc))
 have HZB := Lib.hid (show LaterC w1 (u3.val.alloc (Obj.cells #[.slice A0 C.nodes.length a0, .slice A1 C.inits.length a1, .slice A2 C.nexts.length a2, .slice A3 C.bads.length a3, .slice A4 C.holds.length a4] 31)) from u3.alloc _)
 have HZ8 := Lib.hid (show MdN (u3.val.alloc (Obj.cells #[.slice A0 C.nodes.length a0, .slice A1 C.inits.length a1, .slice A2 C.nexts.length a2, .slice A3 C.bads.length a3, .slice A4 C.holds.length a4] 31)) (.agg #[.slice A0 C.nodes.length a0, .slice A1 C.inits.length a1, .slice A2 C.nexts.length a2, .slice A3 C.bads.length a3, .slice A4 C.holds.length a4]) C from (HZ.out.mdN HCL.out).below (box_below _ _ _))
 have z0 := box_cell u3.val #[.slice A0 C.nodes.length a0, .slice A1 C.inits.length a1, .slice A2 C.nexts.length a2, .slice A3 C.bads.length a3, .slice A4 C.holds.length a4] 31 0 _ rfl
 have z1 := box_cell u3.val #[.slice A0 C.nodes.length a0, .slice A1 C.inits.length a1, .slice A2 C.nexts.length a2, .slice A3 C.bads.length a3, .slice A4 C.holds.length a4] 31 1 _ rfl
 have z2 := box_cell u3.val #[.slice A0 C.nodes.length a0, .slice A1 C.inits.length a1, .slice A2 C.nexts.length a2, .slice A3 C.bads.length a3, .slice A4 C.holds.length a4] 31 2 _ rfl
 have z3 := box_cell u3.val #[.slice A0 C.nodes.length a0, .slice A1 C.inits.length a1, .slice A2 C.nexts.length a2, .slice A3 C.bads.length a3, .slice A4 C.holds.length a4] 31 3 _ rfl
 have z4 := box_cell u3.val #[.slice A0 C.nodes.length a0, .slice A1 C.inits.length a1, .slice A2 C.nexts.length a2, .slice A3 C.bads.length a3, .slice A4 C.holds.length a4] 31 4 _ rfl
 clear HZ
 generalize u3.val.alloc (Obj.cells #[.slice A0 C.nodes.length a0, .slice A1 C.inits.length a1, .slice A2 C.nexts.length a2, .slice A3 C.bads.length a3, .slice A4 C.holds.length a4] 31) = w8 at *
 generalize u3.val.heap.size = G4 at *
 replace z0 : ∀ u : Later w8, u.val.cell? ⟨G4, 0, none⟩ = some (.slice A0 C.nodes.length a0) := z0
 replace z1 : ∀ u : Later w8, u.val.cell? ⟨G4, 1, none⟩ = some (.slice A1 C.inits.length a1) := z1
 replace z2 : ∀ u : Later w8, u.val.cell? ⟨G4, 2, none⟩ = some (.slice A2 C.nexts.length a2) := z2
 replace z3 : ∀ u : Later w8, u.val.cell? ⟨G4, 3, none⟩ = some (.slice A3 C.bads.length a3) := z3
 replace z4 : ∀ u : Later w8, u.val.cell? ⟨G4, 4, none⟩ = some (.slice A4 C.holds.length a4) := z4
 have n0 := Later.re m0 HZB.out
 have n1 := Later.re m1 HZB.out
 have n2 := Later.re m2 HZB.out
 have n3 := Later.re m3 HZB.out
 have n4 := Later.re m4 HZB.out
 have HM8 := Lib.hid (HM1.out.below HZB.out.below)
 have HBW := Lib.hid (HB.out.trans (HZB.out.below.mono HB.out.size))
 clear m0 m1 m2 m3 m4
 refine at_world (w := w8) ?_
 intro v0
 go_upto_region 7 with (go_at_call 6; refine (toModel_calls _ M _ (HM8.out.later v0) HLEN.out.1 HLEN.out.2.1 HLEN.out.2.2.1 HLEN.out.2.2.2.1 HLEN.out.2.2.2.2).mono ?_; rintro e w' ⟨x0, x1, x2, x3, x4, rfl, hb, hx01, hx12, hx23, hx34, hf0, hf1, hf2, hf3, hf4⟩; have HX := Lib.hid (show (x0 < x1 ∧ x1 < x2 ∧ x2 < x3 ∧ x3 < x4) from ⟨hx01, hx12, hx23, hx34⟩); have HF := Lib.hid (show _ ∧ _ ∧ _ ∧ _ ∧ _ from ⟨hf0, hf1, hf2, hf3, hf4⟩); have HG := Lib.hid (show w8.heap.size ≤ x0 from Nat.le_trans v0.size hf0.ge); obtain ⟨v1, hv1⟩ := v0.step hb; subst hv1; clear hb hx01 hx12 hx23 hx34 hf0 hf1 hf2 hf3 hf4)
 have HC2 := Lib.hid (show MdAt v1.val (Value.agg #[slOf x0 M.nodes, slOf x1 M.inits, slOf x2 M.nexts, slOf x3 M.bads, slOf x4 M.holds]) M from ⟨⟨_, _, _, _, _, rfl, HF.out.1.slAt (by have := HLEN.out; omega), HF.out.2.1.slAt (by have := HLEN.out; omega), HF.out.2.2.1.slAt (by have := HLEN.out; omega), HF.out.2.2.2.1.slAt (by have := HLEN.out; omega), HF.out.2.2.2.2.slAt (by have := HLEN.out; omega)⟩⟩)
 have HXB := Lib.hid (show LaterC w8 (v1.val.alloc (Obj.cells #[slOf x0 M.nodes, slOf x1 M.inits, slOf x2 M.nexts, slOf x3 M.bads, slOf x4 M.holds] 31)) from v1.alloc _)
 have hba : Below v1.val.heap.size v1.val (v1.val.alloc (Obj.cells #[slOf x0 M.nodes, slOf x1 M.inits, slOf x2 M.nexts, slOf x3 M.bads, slOf x4 M.holds] 31)) := (Below.refl _ _).alloc (Nat.le_refl _) _
 have HC3 := Lib.hid (HC2.out.below hba)
 have HF5 := Lib.hid (show _ ∧ _ ∧ _ ∧ _ ∧ _ from ⟨HF.out.1.below hba, HF.out.2.1.below hba, HF.out.2.2.1.below hba, HF.out.2.2.2.1.below hba, HF.out.2.2.2.2.below hba⟩)
 have HX4 := Lib.hid (show x4 < v1.val.heap.size from HF.out.2.2.2.2.lt)
 clear HC2 HF hba
 have b0 := box_cell v1.val #[slOf x0 M.nodes, slOf x1 M.inits, slOf x2 M.nexts, slOf x3 M.bads, slOf x4 M.holds] 31 0 _ rfl
 have b1 := box_cell v1.val #[slOf x0 M.nodes, slOf x1 M.inits, slOf x2 M.nexts, slOf x3 M.bads, slOf x4 M.holds] 31 1 _ rfl
 have b2 := box_cell v1.val #[slOf x0 M.nodes, slOf x1 M.inits, slOf x2 M.nexts, slOf x3 M.bads, slOf x4 M.holds] 31 2 _ rfl
 have b3 := box_cell v1.val #[slOf x0 M.nodes, slOf x1 M.inits, slOf x2 M.nexts, slOf x3 M.bads, slOf x4 M.holds] 31 3 _ rfl
 have b4 := box_cell v1.val #[slOf x0 M.nodes, slOf x1 M.inits, slOf x2 M.nexts, slOf x3 M.bads, slOf x4 M.holds] 31 4 _ rfl
 have HGS := Lib.hid (show v1.val.heap.size < (v1.val.alloc (Obj.cells #[slOf x0 M.nodes, slOf x1 M.inits, slOf x2 M.nexts, slOf x3 M.bads, slOf x4 M.holds] 31)).heap.size from by show _ < (Array.push _ _).size; rw [Array.size_push]; exact Nat.lt_succ_self _)
 generalize v1.val.alloc (Obj.cells #[slOf x0 M.nodes, slOf x1 M.inits, slOf x2 M.nexts, slOf x3 M.bads, slOf x4 M.holds] 31) = w9 at *
 generalize v1.val.heap.size = G5 at *
 replace b0 : ∀ u : Later w9, u.val.cell? ⟨G5, 0, none⟩ = some (slOf x0 M.nodes) := b0
 replace b1 : ∀ u : Later w9, u.val.cell? ⟨G5, 1, none⟩ = some (slOf x1 M.inits) := b1
 replace b2 : ∀ u : Later w9, u.val.cell? ⟨G5, 2, none⟩ = some (slOf x2 M.nexts) := b2
 replace b3 : ∀ u : Later w9, u.val.cell? ⟨G5, 3, none⟩ = some (slOf x3 M.bads) := b3
 replace b4 : ∀ u : Later w9, u.val.cell? ⟨G5, 4, none⟩ = some (slOf x4 M.holds) := b4
 refine at_world (w := w9) ?_
 intro c0
 go_upto_region 8 with (go_at_call 7; refine (ModelCone'_calls _ M _ (HC3.out.later c0) HNM.out HW1.out HW2.out).mono ?_; rw [HCE.out]; rintro e w' ⟨g0, g1, g2, g3, g4, rfl, hb, hown⟩; have HLO := Lib.hid c0.size; obtain ⟨c1, hc1⟩ := c0.step hb; subst hc1; have HGO := Lib.hid (hown.mono HLO.out); obtain ⟨E0, e0, h0⟩ := hown.a0.shape; obtain ⟨E1, e1, h1⟩ := hown.a1.shape; obtain ⟨E2, e2, h2⟩ := hown.a2.shape; obtain ⟨E3, e3, h3⟩ := hown.a3.shape; obtain ⟨E4, e4, h4⟩ := hown.a4.shape; subst h0 h1 h2 h3 h4; clear hb hown)
 have HGB := Lib.hid (show LaterC w9 (c1.val.alloc (Obj.cells #[.slice E0 C.nodes.length e0, .slice E1 C.inits.length e1, .slice E2 C.nexts.length e2, .slice E3 C.bads.length e3, .slice E4 C.holds.length e4] 31)) from c1.alloc _)
 have HG0 := Lib.hid (show OwnM w9.heap.size (c1.val.alloc (Obj.cells #[.slice E0 C.nodes.length e0, .slice E1 C.inits.length e1, .slice E2 C.nexts.length e2, .slice E3 C.bads.length e3, .slice E4 C.holds.length e4] 31)) (.slice E0 C.nodes.length e0) (.slice E1 C.inits.length e1) (.slice E2 C.nexts.length e2) (.slice E3 C.bads.length e3) (.slice E4 C.holds.length e4) C from HGO.out.below (box_below _ _ _))
 have g0 := box_cell c1.val #[.slice E0 C.nodes.length e0, .slice E1 C.inits.length e1, .slice E2 C.nexts.length e2, .slice E3 C.bads.length e3, .slice E4 C.holds.length e4] 31 0 _ rfl
 have g1 := box_cell c1.val #[.slice E0 C.nodes.length e0, .slice E1 C.inits.length e1, .slice E2 C.nexts.length e2, .slice E3 C.bads.length e3, .slice E4 C.holds.length e4] 31 1 _ rfl
 have g2 := box_cell c1.val #[.slice E0 C.nodes.length e0, .slice E1 C.inits.length e1, .slice E2 C.nexts.length e2, .slice E3 C.bads.length e3, .slice E4 C.holds.length e4] 31 2 _ rfl
 have g3 := box_cell c1.val #[.slice E0 C.nodes.length e0, .slice E1 C.inits.length e1, .slice E2 C.nexts.length e2, .slice E3 C.bads.length e3, .slice E4 C.holds.length e4] 31 3 _ rfl
 have g4 := box_cell c1.val #[.slice E0 C.nodes.length e0, .slice E1 C.inits.length e1, .slice E2 C.nexts.length e2, .slice E3 C.bads.length e3, .slice E4 C.holds.length e4] 31 4 _ rfl
 obtain ⟨wh, hwh⟩ : ∃ wh, wh = c1.val := ⟨_, rfl⟩
 have HGH := Lib.hid (show OwnM w9.heap.size wh (.slice E0 C.nodes.length e0) (.slice E1 C.inits.length e1) (.slice E2 C.nexts.length e2) (.slice E3 C.bads.length e3) (.slice E4 C.holds.length e4) C by rw [hwh]; exact HGO.out)
 have HWH := Lib.hid (show wh.heap.size = c1.val.heap.size by rw [hwh])
 have HC9 := Lib.hid c1.size
 clear HGO hwh
 generalize c1.val.alloc (Obj.cells #[.slice E0 C.nodes.length e0, .slice E1 C.inits.length e1, .slice E2 C.nexts.length e2, .slice E3 C.bads.length e3, .slice E4 C.holds.length e4] 31) = w10 at *
 generalize c1.val.heap.size = G6 at *
 replace g0 : ∀ u : Later w10, u.val.cell? ⟨G6, 0, none⟩ = some (.slice E0 C.nodes.length e0) := g0
 replace g1 : ∀ u : Later w10, u.val.cell? ⟨G6, 1, none⟩ = some (.slice E1 C.inits.length e1) := g1
 replace g2 : ∀ u : Later w10, u.val.cell? ⟨G6, 2, none⟩ = some (.slice E2 C.nexts.length e2) := g2
 replace g3 : ∀ u : Later w10, u.val.cell? ⟨G6, 3, none⟩ = some (.slice E3 C.bads.length e3) := g3
 replace g4 : ∀ u : Later w10, u.val.cell? ⟨G6, 4, none⟩ = some (.slice E4 C.holds.length e4) := g4
 have HL10 := Lib.hid (show LaterC w8 w10 from HXB.out.trans HGB.out)
 have p0 := Later.re n0 HL10.out
 have q0 := Later.re z0 HL10.out
 have r0 := Later.re b0 HGB.out
 have p1 := Later.re n1 HL10.out
 have q1 := Later.re z1 HL10.out
 have r1 := Later.re b1 HGB.out
 have p2 := Later.re n2 HL10.out
 have q2 := Later.re z2 HL10.out
 have r2 := Later.re b2 HGB.out
 have p3 := Later.re n3 HL10.out
 have q3 := Later.re z3 HL10.out
 have r3 := Later.re b3 HGB.out
 have p4 := Later.re n4 HL10.out
 have q4 := Later.re z4 HL10.out
 have r4 := Later.re b4 HGB.out
 have HZX := Lib.hid (HZ8.out.below HL10.out.below)
 have HM10 := Lib.hid (HM8.out.below HL10.out.below)
 have HC10 := Lib.hid (HC3.out.below HGB.out.below)
 have HF10 := Lib.hid (show _ ∧ _ ∧ _ ∧ _ ∧ _ from ⟨HF5.out.1.below HGB.out.below, HF5.out.2.1.below HGB.out.below, HF5.out.2.2.1.below HGB.out.below, HF5.out.2.2.2.1.below HGB.out.below, HF5.out.2.2.2.2.below HGB.out.below⟩)
 clear HC3 HF5
 refine at_world (w := w10) ?_
 intro d0
 go_upto_region 10 with (go_at_call 8; refine (Calls.later (u := d0) (eqModelN_calls _ _ C _ ((HG0.out.mdN HCL.out).later d0) (HZX.out.later d0))).mono ?_; rintro e w' ⟨rfl, d1, rfl⟩)
 have HQL := Lib.hid (show ∀ w', LaterC w10 w' → w'.cell? ⟨w.heap.size, 0, none⟩ = some s0 ∧ w'.cell? ⟨w.heap.size, 1, none⟩ = some s1 ∧ w'.cell? ⟨w.heap.size, 2, none⟩ = some s2 ∧ w'.cell? ⟨w.heap.size, 3, none⟩ = some s3 ∧ w'.cell? ⟨w.heap.size, 4, none⟩ = some s4 ∧ w'.cell? ⟨G5, 0, none⟩ = some (slOf x0 M.nodes) ∧ w'.cell? ⟨G5, 1, none⟩ = some (slOf x1 M.inits) ∧ w'.cell? ⟨G5, 2, none⟩ = some (slOf x2 M.nexts) ∧ w'.cell? ⟨G5, 3, none⟩ = some (slOf x3 M.bads) ∧ w'.cell? ⟨G5, 4, none⟩ = some (slOf x4 M.holds) from fun W h => by
  obtain ⟨v, rfl⟩ := h
  exact ⟨p0 v, p1 v, p2 v, p3 v, p4 v, r0 v, r1 v, r2 v, r3 v, r4 v⟩)
 go_region_held3 (fun w' => w'.cell? ⟨w.heap.size, 0, none⟩ = some s0 ∧ w'.cell? ⟨w.heap.size, 1, none⟩ = some s1 ∧ w'.cell? ⟨w.heap.size, 2, none⟩ = some s2 ∧ w'.cell? ⟨w.heap.size, 3, none⟩ = some s3 ∧ w'.cell? ⟨w.heap.size, 4, none⟩ = some s4 ∧ w'.cell? ⟨G5, 0, none⟩ = some (slOf x0 M.nodes) ∧ w'.cell? ⟨G5, 1, none⟩ = some (slOf x1 M.inits) ∧ w'.cell? ⟨G5, 2, none⟩ = some (slOf x2 M.nexts) ∧ w'.cell? ⟨G5, 3, none⟩ = some (slOf x3 M.bads) ∧ w'.cell? ⟨G5, 4, none⟩ = some (slOf x4 M.holds)) ((refine HQL.out _ ?_; repeat (first | exact ⟨_, rfl⟩ | exact LaterC.refl _ | refine LaterC.drew' ?_ | refine LaterC.alloc' ?_ _))) (first | (go_at_call 6; refine (toModel_at _ M _ (HM10.out.below (LaterC.below (by repeat (first | exact ⟨_, rfl⟩ | exact LaterC.refl _ | refine LaterC.drew' ?_ | refine LaterC.alloc' ?_ _)))) HLEN.out.1 HLEN.out.2.1 HLEN.out.2.2.1 HLEN.out.2.2.2.1 HLEN.out.2.2.2.2).mono ?_; rintro e w' ⟨y0, y1, y2, y3, y4, rfl, hb, hc⟩; obtain ⟨d2, hd2⟩ := laterC_step (w1 := w10) (by repeat (first | exact ⟨_, rfl⟩ | exact LaterC.refl _ | refine LaterC.drew' ?_ | refine LaterC.alloc' ?_ _)) hb; subst hd2; have HC5 := Lib.hid hc; clear hb hc) | (go_at_call 8; refine (eqModelN_calls _ _ M _ (HC10.out.below (LaterC.below (by repeat (first | exact ⟨_, rfl⟩ | exact LaterC.refl _ | refine LaterC.drew' ?_ | refine LaterC.alloc' ?_ _)))).mdN (HC5.out.below (by first | exact Below.refl _ _ | exact (Below.refl _ _).drew)).mdN).mono ?_; rintro e w' ⟨rfl, hb⟩; obtain ⟨d3, hd3⟩ := laterC_step (w1 := w10) (by repeat (first | exact ⟨_, rfl⟩ | exact LaterC.refl _ | refine LaterC.drew' ?_ | refine LaterC.alloc' ?_ _)) hb; subst hd3; clear hb))
 go_upto_region 14 with (go_at_call 9; refine (markModel_calls M _ x0 x1 x2 x3 x4 HLEN.out HX.out (HF10.out.1.below d3.prop) (HF10.out.2.1.below d3.prop) (HF10.out.2.2.1.below d3.prop) (HF10.out.2.2.2.1.below d3.prop) (HF10.out.2.2.2.2.below d3.prop)).mono ?_; rintro e w11 ⟨k2, rfl, hk2, hbut⟩; have HK2 := Lib.hid hk2; have HBUT := Lib.hid hbut; clear hk2 hbut)
 have HN9 := Lib.hid (show x4 < w9.heap.size by have h1 := HX4.out; have h2 := HGS.out; omega)
 have HG11 := Lib.hid ((HG0.out.below d3.prop).but HBUT.out (fun b hb h => by have h1 := HN9.out; have h2 := h.2; omega))
 have HL11 := Lib.hid (show LaterC w8 w11 from .of ((HL10.out.trans ⟨d3, rfl⟩).below.trans (HBUT.out.below (fun k hk => Nat.le_trans HG.out hk.1) (HL10.out.trans ⟨d3, rfl⟩).size)))
 have hk2 := HK2.out
 have e0' : w11.cell? ⟨G6, 0, none⟩ = some (.slice E0 C.nodes.length e0) := cell_but (g0 d3) HBUT.out (fun h => by have h1 := HN9.out; have h2 := HC9.out; have h3 : G6 ≤ x4 := h.2; omega)
 have e1' : w11.cell? ⟨G6, 1, none⟩ = some (.slice E1 C.inits.length e1) := cell_but (g1 d3) HBUT.out (fun h => by have h1 := HN9.out; have h2 := HC9.out; have h3 : G6 ≤ x4 := h.2; omega)
 have e2' : w11.cell? ⟨G6, 2, none⟩ = some (.slice E2 C.nexts.length e2) := cell_but (g2 d3) HBUT.out (fun h => by have h1 := HN9.out; have h2 := HC9.out; have h3 : G6 ≤ x4 := h.2; omega)
 have e3' : w11.cell? ⟨G6, 3, none⟩ = some (.slice E3 C.bads.length e3) := cell_but (g3 d3) HBUT.out (fun h => by have h1 := HN9.out; have h2 := HC9.out; have h3 : G6 ≤ x4 := h.2; omega)
 have e4' : w11.cell? ⟨G6, 4, none⟩ = some (.slice E4 C.holds.length e4) := cell_but (g4 d3) HBUT.out (fun h => by have h1 := HN9.out; have h2 := HC9.out; have h3 : G6 ≤ x4 := h.2; omega)
 have f0 := Later.re z0 HL11.out
 have o0 := Later.re n0 HL11.out
 have f1 := Later.re z1 HL11.out
 have o1 := Later.re n1 HL11.out
 have f2 := Later.re z2 HL11.out
 have o2 := Later.re n2 HL11.out
 have f3 := Later.re z3 HL11.out
 have o3 := Later.re n3 HL11.out
 have f4 := Later.re z4 HL11.out
 have o4 := Later.re n4 HL11.out
 have HZ11 := Lib.hid (HZ8.out.below HL11.out.below)
 have HS11 := Lib.hid (show G6 < w11.heap.size from World.block_lt_of_cell? _ _ e0')
 clear p0 p1 p2 p3 p4 q0 q1 q2 q3 q4 r0 r1 r2 r3 r4 b0 b1 b2 b3 b4 HG0 HBUT HF10
 replace e0' := Later.cell e0'
 replace e1' := Later.cell e1'
 replace e2' := Later.cell e2'
 replace e3' := Later.cell e3'
 replace e4' := Later.cell e4'
 refine at_world (w := w11) ?_
 intro a0'
 go_upto_region 17 with (go_at_call 8; refine (Calls.later (u := a0') (eqModelN_calls _ _ C _ ((HG11.out.mdN HCL.out).later a0') (HZ11.out.later a0'))).mono ?_; rintro e w' ⟨rfl, a1', rfl⟩)
 go_upto_region 18 with (go_at_call 9; refine (markModelA_calls w9.heap.size (.slice E0 C.nodes.length e0) (.slice E1 C.inits.length e1) (.slice E2 C.nexts.length e2) (.slice E3 C.bads.length e3) (.slice E4 C.holds.length e4) C wh _ (HG11.out.below a1'.prop) HGH.out HCL.out).mono ?_; rintro e w12 ⟨rfl, hbut, hr⟩; have HR := Lib.hid hr; have HBUT := Lib.hid hbut; clear hbut hr)
 have HL12 := Lib.hid (show LaterC w8 w12 from .of ((HL11.out.trans ⟨a1', rfl⟩).below.trans (HBUT.out.below (fun k hk => Nat.le_trans HXB.out.size hk.1) (HL11.out.trans ⟨a1', rfl⟩).size)))
 have k0 : w12.cell? ⟨G6, 0, none⟩ = some (.slice E0 C.nodes.length e0) := cell_but (e0' a1') HBUT.out (fun h => by have h1 := HWH.out; have h2 : G6 < wh.heap.size := h.2; omega)
 have k1 : w12.cell? ⟨G6, 1, none⟩ = some (.slice E1 C.inits.length e1) := cell_but (e1' a1') HBUT.out (fun h => by have h1 := HWH.out; have h2 : G6 < wh.heap.size := h.2; omega)
 have k2 : w12.cell? ⟨G6, 2, none⟩ = some (.slice E2 C.nexts.length e2) := cell_but (e2' a1') HBUT.out (fun h => by have h1 := HWH.out; have h2 : G6 < wh.heap.size := h.2; omega)
 have k3 : w12.cell? ⟨G6, 3, none⟩ = some (.slice E3 C.bads.length e3) := cell_but (e3' a1') HBUT.out (fun h => by have h1 := HWH.out; have h2 : G6 < wh.heap.size := h.2; omega)
 have k4 : w12.cell? ⟨G6, 4, none⟩ = some (.slice E4 C.holds.length e4) := cell_but (e4' a1') HBUT.out (fun h => by have h1 := HWH.out; have h2 : G6 < wh.heap.size := h.2; omega)
 have f0 := Later.re z0 HL12.out
 have o0 := Later.re n0 HL12.out
 have f1 := Later.re z1 HL12.out
 have o1 := Later.re n1 HL12.out
 have f2 := Later.re z2 HL12.out
 have o2 := Later.re n2 HL12.out
 have f3 := Later.re z3 HL12.out
 have o3 := Later.re n3 HL12.out
 have f4 := Later.re z4 HL12.out
 have o4 := Later.re n4 HL12.out
 have HZ12 := Lib.hid (HZ8.out.below HL12.out.below)
 have HM12 := Lib.hid (HM8.out.below HL12.out.below)
 have HKS := Lib.hid (mk_small HCL.out)
 obtain ⟨q, hq⟩ : ∃ q, mk5 C = q := ⟨_, rfl⟩
 have HQ := Lib.hid hq
 have hq0 : (0 : Int) ≤ q := by have := HKS.out; omega
 rw [hq]
 clear hq e0' e1' e2' e3' e4' HG11 HBUT z0 z1 z2 z3 z4 n0 n1 n2 n3 n4
 replace k0 := Later.cell k0
 replace k1 := Later.cell k1
 replace k2 := Later.cell k2
 replace k3 := Later.cell k3
 replace k4 := Later.cell k4
 refine at_world (w := w12) ?_
 intro j0
 go_upto_region 24 with (go_at_call 10; refine (Calls.later_eq (u := j0) (heldModel_calls _ C _ (HR.out.later j0) HCL.out) (congrArg (Value.int .i64) HQ.out)).mono ?_; rintro e w' ⟨rfl, j1, rfl⟩)
 go_upto_region 25 with (first | (go_at_call 7; refine (ModelCone'_calls _ M _ HCj2.out HNM.out HW1.out HW2.out).mono ?_; rw [HCE.out]; rintro e w' ⟨h0', h1', h2', h3', h4', rfl, hb, hown⟩; obtain ⟨j3, hj3⟩ := j2.step hb; subst hj3; have HH := Lib.hid hown; obtain ⟨F0, d0', h0⟩ := hown.a0.shape; obtain ⟨F1, d1', h1⟩ := hown.a1.shape; obtain ⟨F2, d2', h2⟩ := hown.a2.shape; obtain ⟨F3, d3', h3⟩ := hown.a3.shape; obtain ⟨F4, d4', h4⟩ := hown.a4.shape; subst h0 h1 h2 h3 h4; clear hb hown) | (go_at_call 6; refine (toModel_at _ M _ (HM12.out.later j1) HLEN.out.1 HLEN.out.2.1 HLEN.out.2.2.1 HLEN.out.2.2.2.1 HLEN.out.2.2.2.2).mono ?_; rintro e w' ⟨l0, l1, l2, l3, l4, rfl, hb, hc⟩; obtain ⟨j2, hj2⟩ := j1.step hb; subst hj2; have HCj2 := Lib.hid hc; clear hb hc))
 have HLH := Lib.hid (show LaterC w12 (j3.val.alloc (Obj.cells #[.slice F0 C.nodes.length d0', .slice F1 C.inits.length d1', .slice F2 C.nexts.length d2', .slice F3 C.bads.length d3', .slice F4 C.holds.length d4'] 31)) from j3.alloc _)
 have HHN := Lib.hid (show MdN (j3.val.alloc (Obj.cells #[.slice F0 C.nodes.length d0', .slice F1 C.inits.length d1', .slice F2 C.nexts.length d2', .slice F3 C.bads.length d3', .slice F4 C.holds.length d4'] 31)) (.agg #[.slice F0 C.nodes.length d0', .slice F1 C.inits.length d1', .slice F2 C.nexts.length d2', .slice F3 C.bads.length d3', .slice F4 C.holds.length d4']) C from (HH.out.mdN HCL.out).below (box_below _ _ _))
 have t0 := box_cell j3.val #[.slice F0 C.nodes.length d0', .slice F1 C.inits.length d1', .slice F2 C.nexts.length d2', .slice F3 C.bads.length d3', .slice F4 C.holds.length d4'] 31 0 _ rfl
 have t1 := box_cell j3.val #[.slice F0 C.nodes.length d0', .slice F1 C.inits.length d1', .slice F2 C.nexts.length d2', .slice F3 C.bads.length d3', .slice F4 C.holds.length d4'] 31 1 _ rfl
 have t2 := box_cell j3.val #[.slice F0 C.nodes.length d0', .slice F1 C.inits.length d1', .slice F2 C.nexts.length d2', .slice F3 C.bads.length d3', .slice F4 C.holds.length d4'] 31 2 _ rfl
 have t3 := box_cell j3.val #[.slice F0 C.nodes.length d0', .slice F1 C.inits.length d1', .slice F2 C.nexts.length d2', .slice F3 C.bads.length d3', .slice F4 C.holds.length d4'] 31 3 _ rfl
 have t4 := box_cell j3.val #[.slice F0 C.nodes.length d0', .slice F1 C.inits.length d1', .slice F2 C.nexts.length d2', .slice F3 C.bads.length d3', .slice F4 C.holds.length d4'] 31 4 _ rfl
 clear HH
 generalize j3.val.alloc (Obj.cells #[.slice F0 C.nodes.length d0', .slice F1 C.inits.length d1', .slice F2 C.nexts.length d2', .slice F3 C.bads.length d3', .slice F4 C.holds.length d4'] 31) = w13 at *
 generalize j3.val.heap.size = G10 at *
 replace t0 : ∀ u : Later w13, u.val.cell? ⟨G10, 0, none⟩ = some (.slice F0 C.nodes.length d0') := t0
 replace t1 : ∀ u : Later w13, u.val.cell? ⟨G10, 1, none⟩ = some (.slice F1 C.inits.length d1') := t1
 replace t2 : ∀ u : Later w13, u.val.cell? ⟨G10, 2, none⟩ = some (.slice F2 C.nexts.length d2') := t2
 replace t3 : ∀ u : Later w13, u.val.cell? ⟨G10, 3, none⟩ = some (.slice F3 C.bads.length d3') := t3
 replace t4 : ∀ u : Later w13, u.val.cell? ⟨G10, 4, none⟩ = some (.slice F4 C.holds.length d4') := t4
 replace k0 := Later.re k0 HLH.out
 replace f0 := Later.re f0 HLH.out
 replace k1 := Later.re k1 HLH.out
 replace f1 := Later.re f1 HLH.out
 replace k2 := Later.re k2 HLH.out
 replace f2 := Later.re f2 HLH.out
 replace k3 := Later.re k3 HLH.out
 replace f3 := Later.re f3 HLH.out
 replace k4 := Later.re k4 HLH.out
 replace f4 := Later.re f4 HLH.out
 have HZ13 := Lib.hid (HZ12.out.below HLH.out.below)
 have HR13 := Lib.hid (HR.out.below HLH.out.below)
 refine at_world (w := w13) ?_
 intro l0'
 go_upto_region 27 with (go_at_call 8; refine (Calls.later (u := l0') (eqModelN_calls _ _ C _ (HHN.out.later l0') (HZ13.out.later l0'))).mono ?_; rintro e w' ⟨rfl, l1', rfl⟩)
 go_wp2_with (go_at_call 10; refine (Calls.later_eq (u := l1') (heldModel_calls _ C _ (HR13.out.later l1') HCL.out) (congrArg (Value.int .i64) HQ.out)).mono ?_; rintro e w' ⟨rfl, l2', rfl⟩)
 go_ret
 exact ⟨rfl, l2'.back (below_of HBW.out (HL12.out.trans HLH.out))⟩
end Go.Proofs.YtdojaijnejcoiaaGreat
