import Derived.Test.YthejgnabgglmhaaGreatkk7
import Derived.Test.YthejgnabgglmhaaGreatkk1
import Derived.Test.YthejgnabgglmhaaGreatkk4
import Derived.WalkKit
import Derived.ProofKit
import Derived.OpenShut
import Derived.ShutString
import Derived.ChangeOld
import Derived.Below
import Derived.SizedLaws
import Derived.RowKit3
import Derived.Carry
import Derived.Deep.Slices
import Derived.Lib.SmallJoins
import Derived.Deep.RegionHeld3
import Derived.Deep.LoopGhost
set_option linter.unusedVariables false
set_option linter.unusedSimpArgs false
set_option maxRecDepth 8000
set_option maxHeartbeats 16000000
namespace Go.Proofs.YthejgnabgglmhaaGreat
open Go.RowKit
structure But (S : Nat → Prop) (w w' : World) : Prop where
 os : w'.os = w.os
 tape : w'.tape = w.tape
 output : w'.output = w.output
 size : w.heap.size ≤ w'.heap.size
 block : ∀ k, k < w.heap.size → ¬ S k → w'.heap[k]? = w.heap[k]?
theorem But.refl (S : Nat → Prop) (w : World) : But S w w := ⟨rfl, rfl, rfl, Nat.le_refl _, fun _ _ _ => rfl⟩
theorem But.trans {S : Nat → Prop} {a b c : World} (h : But S a b) (k : But S b c) : But S a c :=
 ⟨k.os.trans h.os, k.tape.trans h.tape, k.output.trans h.output, Nat.le_trans h.size k.size, fun i hi hn => (k.block i (Nat.lt_of_lt_of_le hi h.size) hn).trans (h.block i hi hn)⟩
theorem But.mono {S T : Nat → Prop} {a b : World} (h : But S a b) (hs : ∀ k, S k → T k) : But T a b := ⟨h.os, h.tape, h.output, h.size, fun k hk hn => h.block k hk fun hS => hn (hs k hS)⟩
theorem But.of_below {S : Nat → Prop} {w w' : World} (h : Below w.heap.size w w') : But S w w' := ⟨h.os, h.tape, h.output, h.size, fun k hk _ => h.block k hk⟩
theorem But.below {S : Nat → Prop} {w w' : World} {B : Nat} (h : But S w w') (hS : ∀ k, S k → B ≤ k) (hB : B ≤ w.heap.size) : Below B w w' :=
 ⟨h.os, h.tape, h.output, h.size, fun k hk => h.block k (by omega) fun hk' => by have := hS k hk'; omega⟩
theorem But.setCell {S : Nat → Prop} {w w' : World} (h : But S w w') {p : Addr} (hp : S p.block) (v : Value) : But S w (w'.setCell p v) := by
 refine ⟨h.os, h.tape, h.output, by simpa [World.setCell] using h.size, fun k hk hn => ?_⟩
 have : p.block ≠ k := fun e => hn (e ▸ hp)
 simp [World.setCell, Array.getElem?_modify, this, h.block k hk hn]
theorem OwnB.but {S : Nat → Prop} {w w' : World} {g : Nat} {T : TypeId} {cs : Array Value} (h : OwnB w g T cs) (hb : But S w w') (hg : ¬ S g) : OwnB w' g T cs := (hb.block g h.lt hg).trans h
theorem cell_but {S : Nat → Prop} {w w' : World} {a : Addr} {v : Value} (h : w.cell? a = some v) (hb : But S w w') (hg : ¬ S a.block) : w'.cell? a = some v := by
 have := hb.block a.block (World.block_lt_of_cell? _ _ h) hg
 unfold World.cell? at h ⊢
 rw [this]
 exact h
theorem SlN.but {α : Type} {E : En α} {S : Nat → Prop} {w w' : World} {v : Value} {xs : List α} (h : SlN E w v xs) (hb : But S w w') (hg : ∀ b, v.ownBlock = some b → ¬ S b) : SlN E w' v xs := by
 obtain ⟨A, c, rfl, h1, h2, h3⟩ := h
 refine ⟨A, c, rfl, h1, h2, fun i x hx => ?_⟩
 obtain ⟨b, o, rfl, hc⟩ := h3 i x hx
 exact ⟨b, o, rfl, fun f u hu => cell_but (hc f u hu) hb (hg b rfl)⟩
def RowI (w : World) (v : Value) (xs : List Int) : Prop :=
 xs.length ≤ 281474976710656 ∧ ((v = .slice none 0 0 ∧ xs = []) ∨ ∃ g cap cur, v = .slice (some ⟨g, 0, none⟩) xs.length cap ∧ OwnB w g 3 cur ∧ xs.length ≤ cap ∧ cur.size = cap ∧ ∀ (i : Nat) (x : Int), xs[i]? = some x → cur[i]? = some (Value.int .i64 x))
theorem RowI.slN {w : World} {v : Value} {xs : List Int} (h : RowI w v xs) : SlN enI w v xs := by
 obtain ⟨hl, ⟨rfl, rfl⟩ | ⟨g, cap, cur, rfl, ho, hc, hs, hf⟩⟩ := h
 · exact ⟨none, 0, rfl, Nat.le_refl _, by simp, fun i x hx => by simp at hx⟩
 · refine ⟨some ⟨g, 0, none⟩, cap, rfl, hc, hl, fun i x hx => ⟨g, 0, rfl, fun f u hu => ?_⟩⟩
   have hf0 : f = 0 := by
    have := (List.getElem?_eq_some_iff.1 hu).1
    simpa using this
   subst hf0
   have hu' : u = .int .i64 x := by simpa using hu.symm
   subst hu'
   rw [ho.cell]
   simpa using hf i x hx
theorem RowI.but {S : Nat → Prop} {w w' : World} {v : Value} {xs : List Int} (h : RowI w v xs) (hb : But S w w') (hg : ∀ b, v.ownBlock = some b → ¬ S b) : RowI w' v xs := by
 obtain ⟨hl, ⟨rfl, rfl⟩ | ⟨g, cap, cur, rfl, ho, r⟩⟩ := h
 · exact ⟨hl, .inl ⟨rfl, rfl⟩⟩
 · exact ⟨hl, .inr ⟨g, cap, cur, rfl, ho.but hb (hg g rfl), r⟩⟩
theorem RowI.lt {w : World} {v : Value} {xs : List Int} (h : RowI w v xs) {b : Nat} (hb : v.ownBlock = some b) : b < w.heap.size := by
 obtain ⟨-, ⟨rfl, -⟩ | ⟨g, cap, cur, rfl, ho, -⟩⟩ := h
 · cases hb
 · cases hb; exact ho.lt
theorem RowI.below {w w' : World} {v : Value} {xs : List Int} (h : RowI w v xs) (hb : Below w.heap.size w w') : RowI w' v xs := h.but (S := fun _ => False) (.of_below hb) fun _ _ h => h
theorem RowI.of_owns {w : World} {base n : Nat} {v : Value} {xs : List Int} (h : w.ownsRow base 3 1 v n (xs.map (Value.int .i64))) (hn : n = xs.length) (hl : xs.length ≤ 281474976710656) : RowI w v xs := by
 subst hn
 refine ⟨hl, ?_⟩
 rcases h.2 with ⟨rfl, h0⟩ | ⟨g, cap, cur, rfl, _, hg, hc, _, hs, ht⟩
 · exact .inl ⟨rfl, List.eq_nil_of_length_eq_zero h0⟩
 · refine .inr ⟨g, cap, cur, rfl, hg, hc, by rw [hs, Nat.mul_one], fun i x hx => ?_⟩
   have hi := (List.getElem?_eq_some_iff.1 hx).1
   have h1 : (cur.toList.take (xs.length * 1))[i]? = some (.int .i64 x) := by rw [ht, List.getElem?_map, hx]; rfl
   rw [List.getElem?_take_of_lt (by omega)] at h1
   simpa using h1
theorem owns_block {w : World} {base n s : Nat} {e : TypeId} {v : Value} {xs : List Value} (h : w.ownsRow base e s v n xs) {b : Nat} (hb : v.ownBlock = some b) : base ≤ b := (h.lt b hb).1
def marks (k : Int) (n : Nat) : List Int := (List.range n).map fun (i : Nat) => k + (i : Int)
theorem marks_length (k : Int) (n : Nat) : (marks k n).length = n := by simp [marks]
theorem marks_get {k : Int} {n i : Nat} (h : i < n) : (marks k n)[i]? = some (k + i) := by simp [marks, h]
theorem toModel_at (mv : Value) (M : Md) (w : World) (hM : MdAt w mv M) (h0 : M.nodes.length ≤ 1048576) (h1 : M.inits.length ≤ 1048576) (h2 : M.nexts.length ≤ 1048576) (h3 : M.bads.length ≤ 1048576) (h4 : M.holds.length ≤ 1048576) :
 Calls Tryz.prog 6 #[mv] w fun e w' => ∃ g0 g1 g2 g3 g4, e = .returned (.agg #[slOf g0 M.nodes, slOf g1 M.inits, slOf g2 M.nexts, slOf g3 M.bads, slOf g4 M.holds]) ∧ Below w.heap.size w w' ∧ MdAt w' (.agg #[slOf g0 M.nodes, slOf g1 M.inits, slOf g2 M.nexts, slOf g3 M.bads, slOf g4 M.holds]) M :=
 (toModel_calls mv M w hM h0 h1 h2 h3 h4).mono fun e w' ⟨g0, g1, g2, g3, g4, he, hb, _, _, _, _, f0, f1, f2, f3, f4⟩ =>
   ⟨_, _, _, _, _, he, hb, ⟨_, _, _, _, _, rfl, f0.slAt (by omega), f1.slAt (by omega), f2.slAt (by omega), f3.slAt (by omega), f4.slAt (by omega)⟩⟩
end Go.Proofs.YthejgnabgglmhaaGreat
namespace Go.Proofs.YthejgnabgglmhaaGreat
open Go.Joins Go.ChangeShapes Go.WideShapes Go.ChangeAt Go.RowKit Go.Deep
section
variable {H : Type} {enc : TypeId × Value → H} {w : World}
theorem list_of {α : Type} (Q : Nat → α → Prop) : ∀ (n : Nat), (∀ i, i < n → ∃ x, Q i x) → ∃ xs : List α, xs.length = n ∧ ∀ i x, xs[i]? = some x → Q i x
 | 0, _ => ⟨[], rfl, fun i x h => by simp at h⟩
 | n + 1, h => by
   obtain ⟨xs, hl, hx⟩ := list_of Q n fun i hi => h i (by omega)
   obtain ⟨y, hy⟩ := h n (by omega)
   refine ⟨xs ++ [y], by simp [hl], fun i x hi => ?_⟩
   rcases Nat.lt_trichotomy i n with g | g | g
   · rw [List.getElem?_append_left (by omega)] at hi
     exact hx i x hi
   · subst g
     rw [List.getElem?_append_right (by omega), hl, Nat.sub_self] at hi
     simp at hi
     exact hi ▸ hy
   · rw [List.getElem?_eq_none (by simp; omega)] at hi
     simp at hi
theorem weightsAll_mem' {P : Program} {e : TypeId} : ∀ {l : List (DataW H)} {d : DataW H}, d ∈ l → ∀ n ∈ d.weights P e, n ∈ DataW.weightsAll P e l
 | d' :: r, d, hd, n, hn => by
   simp only [DataW.weightsAll, List.mem_append]
   rcases List.mem_cons.1 hd with rfl | h
   · exact Or.inl hn
   · exact Or.inr (weightsAll_mem' h n hn)
theorem addr_at {a : Addr} (hs : a.spot = none) (k : Nat) : a.add k = ⟨a.block, a.off + k, none⟩ := by
 obtain ⟨b, o, s⟩ := a
 subst hs
 unfold Addr.add
 split
 · next h => subst h; rfl
 · rfl
theorem slAt_of {α : Type} (E : En α) (R : α → Prop) {t e : TypeId} (ht : Tryz.prog.underlying t = some (.slice e)) (hce : Tryz.prog.cellsOf e = E.sz) (hby : 1 ≤ Tryz.prog.bytesOf e) (hsz : 1 ≤ E.sz)
 (hel : ∀ (fuel : Nat) (cs : List Value) (d : DataW H) (p : List MemPlace), DataW.trod enc Tryz.prog w 0 (fun _ => true) true fuel e cs = some (d, p) → (∀ n ∈ d.weights Tryz.prog e, n ≤ reachBytes) → ∃ x, (∀ f u, (E.cells x)[f]? = some u → f < E.sz ∧ cs[f]? = some u) ∧ R x)
 {fuel : Nat} {v : Value} {d : DataW H} {p : List MemPlace} (h : DataW.trod enc Tryz.prog w 0 (fun _ => true) true fuel t [v] = some (d, p)) (hw : ∀ n ∈ d.weights Tryz.prog t, n ≤ reachBytes) :
 ∃ xs : List α, SlAt E w v xs ∧ ∀ x ∈ xs, R x := by
 rcases open_slice ht h with ⟨h0, -⟩ | ⟨a, len, cap, m, n, D, Pl, hv, hb, hl, hm, hmm, hx, hi⟩
 · simp at h0
   subst h0
   exact ⟨[], ⟨.none, 0, rfl, Nat.le_refl _, by omega, fun i x hx => by simp at hx⟩, fun x hx => by simp at hx⟩
 · simp at hv
   subst hv
   simp at hmm
   subst hmm
   simp only [Prod.mk.injEq] at hx
   obtain ⟨rfl, -⟩ := hx
   have hwt : ∀ n ∈ (((List.range len).map D).length + ((List.range (m - len)).map fun j => D (len + j)).length) * Tryz.prog.bytesOf e :: (DataW.weightsAll Tryz.prog e ((List.range len).map D) ++ DataW.weightsAll Tryz.prog e ((List.range (m - len)).map fun j => D (len + j))), n ≤ reachBytes := by
    intro n hn
    refine hw n ?_
    simp only [DataW.weights, ht]
    exact hn
   have hcap : m * Tryz.prog.bytesOf e ≤ reachBytes := by
    have := hwt _ List.mem_cons_self
    simpa [show len + (m - len) = m by omega] using this
   have hm8 : m ≤ 281474976710656 := by
    have h1 : m * 1 ≤ m * Tryz.prog.bytesOf e := Nat.mul_le_mul_left m hby
    have h2 : reachBytes = 140737488351232 := rfl
    omega
   obtain ⟨xs, hxl, hxs⟩ := list_of (fun i x => (∀ f u, (E.cells x)[f]? = some u → w.cell? ((a.add (i * E.sz)).add f) = some u) ∧ R x) len fun i hil => by
    obtain ⟨cs', hc, ht'⟩ := hi i (by omega)
    obtain ⟨x, hx, hR⟩ := hel _ cs' _ _ ht' fun n hn => hwt n (List.mem_cons_of_mem _ (List.mem_append_left _ (weightsAll_mem' (List.mem_map.2 ⟨i, List.mem_range.2 hil, rfl⟩) n hn)))
    rw [hce] at hc
    obtain ⟨_, _, hat⟩ := World.cells?_some hc
    refine ⟨x, fun f u hu => ?_, hR⟩
    obtain ⟨hf, hcs⟩ := hx f u hu
    exact (hat f hf).trans hcs
   refine ⟨xs, ⟨some a, m, by rw [hxl], by omega, hm8, fun i x hx => ?_⟩, fun x hx => ?_⟩
   · have hil : i < len := hxl ▸ (List.getElem?_eq_some_iff.1 hx).1
     have hsp : a.spot = none := by
      obtain ⟨cs', hc, -⟩ := hi 0 (by omega)
      rw [hce] at hc
      obtain ⟨_, hl', hat⟩ := World.cells?_some hc
      have h0 := hat 0 (by omega)
      rw [List.getElem?_eq_getElem (by omega)] at h0
      simpa [Addr.add] using World.cell?_spot h0
     obtain ⟨hc, -⟩ := hxs i x hx
     refine ⟨a.block, a.off, congrArg some (by rw [← hsp]), fun f u hu => ?_⟩
     have := hc f u hu
     rw [add_add, addr_at hsp] at this
     rw [Nat.add_assoc]
     exact this
   · obtain ⟨i, hi'⟩ := List.getElem?_of_mem hx
     exact (hxs i x hi').2
theorem one_cell {cs : List Value} {k : Nat} {c : Value} {T : TypeId} (hT : Tryz.prog.cellsOf T = 1) (hc : cs[k]? = some c) : (cs.drop k).take (Tryz.prog.cellsOf T) = [c] := by
 obtain ⟨hk, rfl⟩ := List.getElem?_eq_some_iff.1 hc
 rw [hT, List.drop_eq_getElem_cons hk]
 rfl
theorem int_el {fuel : Nat} {cs : List Value} {d : DataW H} {p : List MemPlace} (h : DataW.trod enc Tryz.prog w 0 (fun _ => true) true fuel 3 cs = some (d, p)) : ∃ x : Int, (∀ f u, (enI.cells x)[f]? = some u → f < enI.sz ∧ cs[f]? = some u) ∧ True := by
 obtain ⟨a, rfl, -, -⟩ := DataW.trod_int Tryz.underlying3 h
 refine ⟨a, fun f u hu => ?_, trivial⟩
 match f, hu with
 | 0, hu => exact ⟨Nat.lt_succ_self 0, hu⟩
theorem cells_int : Tryz.prog.cellsOf 3 = 1 := by kernel_rfl
theorem cells_str : Tryz.prog.cellsOf 9 = 1 := by kernel_rfl
theorem cells_sort : Tryz.prog.cellsOf 54 = 2 := by kernel_rfl
theorem cells_node : Tryz.prog.cellsOf 56 = 9 := by kernel_rfl
theorem cells_bind : Tryz.prog.cellsOf 67 = 2 := by kernel_rfl
theorem cells_mod : Tryz.prog.cellsOf 26 = 5 := by kernel_rfl
theorem int_cell {fuel : Nat} {cs : List Value} {k : Nat} {y : Option (DataW H × List MemPlace)} {x : DataW H × List MemPlace} (h : DataW.trod enc Tryz.prog w 0 (fun _ => true) true fuel 3 ((cs.drop k).take (Tryz.prog.cellsOf 3)) = y) (hy : y = some x) :
 ∃ a : Int, cs[k]? = some (.int .i64 a) ∧ (Lit.int .i64 a).wf = true := by
 obtain ⟨a, ha, -, hw⟩ := DataW.trod_int Tryz.underlying3 (h.trans hy)
 refine ⟨a, ?_, hw⟩
 rw [cells_int] at ha
 have := congrArg (·[0]?) ha
 simpa [List.getElem?_take, List.getElem?_drop] using this
theorem bind_el {fuel : Nat} {cs : List Value} {d : DataW H} {p : List MemPlace} (h : DataW.trod enc Tryz.prog w 0 (fun _ => true) true fuel 67 cs = some (d, p)) : ∃ x : Bd, (∀ f u, (enBd.cells x)[f]? = some u → f < enBd.sz ∧ cs[f]? = some u) ∧ (Lit.int .i64 x.st).wf = true := by
 obtain ⟨xs, n, -, -, -, hxl, hf⟩ := DataW.trod_struct Tryz.underlying67 h
 match xs, hxl with
 | [y0, y1], _ =>
   obtain ⟨a0, h0, w0⟩ := int_cell (hf 0 _ rfl) rfl
   obtain ⟨a1, h1, w1⟩ := int_cell (hf 1 _ rfl) rfl
   refine ⟨⟨a0, a1⟩, fun f u hu => ?_, w0⟩
   match f, hu with
   | 0, hu => exact ⟨Nat.zero_lt_succ _, h0.trans hu⟩
   | 1, hu => exact ⟨Nat.lt_succ_self _, h1.trans hu⟩
theorem node_el {fuel : Nat} {cs : List Value} {d : DataW H} {p : List MemPlace} (h : DataW.trod enc Tryz.prog w 0 (fun _ => true) true fuel 56 cs = some (d, p)) (hw : ∀ n ∈ d.weights Tryz.prog 56, n ≤ reachBytes) :
 ∃ x : Nd, (∀ f u, (enNd.cells x)[f]? = some u → f < enNd.sz ∧ cs[f]? = some u) ∧ x.name.size ≤ 140737488351232 := by
 obtain ⟨xs, n, -, hd, hcl, hxl, hf⟩ := DataW.trod_struct Tryz.underlying56 h
 simp only [Prod.mk.injEq] at hd
 obtain ⟨rfl, -⟩ := hd
 match xs, hxl with
 | [y0, y1, y2, y3, y4, y5, y6, y7], _ =>
   obtain ⟨a0, h0, -⟩ := int_cell (hf 0 _ rfl) rfl
   obtain ⟨a1, h1, -⟩ := int_cell (hf 1 _ rfl) rfl
   obtain ⟨a2, h2, -⟩ := int_cell (hf 2 _ rfl) rfl
   obtain ⟨a3, h3, -⟩ := int_cell (hf 3 _ rfl) rfl
   obtain ⟨a4, h4, -⟩ := int_cell (hf 4 _ rfl) rfl
   obtain ⟨a5, h5, -⟩ := int_cell (hf 5 _ rfl) rfl
   obtain ⟨zs, n', -, -, -, hzl, hg⟩ := DataW.trod_struct Tryz.underlying54 ((hf 6 _ rfl).trans (show [y0, y1, y2, y3, y4, y5, y6, y7][6]? = some (y6.1, y6.2) from rfl))
   match zs, hzl with
   | [z0, z1], _ =>
     obtain ⟨a6, h6, -⟩ := int_cell (hg 0 _ rfl) rfl
     obtain ⟨a7, h7, -⟩ := int_cell (hg 1 _ rfl) rfl
     obtain ⟨s, hs, hy, -⟩ := DataW.trod_string Tryz.underlying9 ((hf 7 _ rfl).trans (show [y0, y1, y2, y3, y4, y5, y6, y7][7]? = some y7 from rfl))
     have hs : (cs.drop 8).take (Tryz.prog.cellsOf 9) = [.string s] := hs
     have h6 : ((cs.drop 6).take (Tryz.prog.cellsOf 54))[0]? = some (.int .i64 a6) := h6
     have h7 : ((cs.drop 6).take (Tryz.prog.cellsOf 54))[1]? = some (.int .i64 a7) := h7
     rw [cells_str] at hs
     rw [cells_sort] at h6 h7
     have h8 : cs[8]? = some (.string s) := by
      have := congrArg (·[0]?) hs
      simpa [List.getElem?_take, List.getElem?_drop] using this
     have h6 : cs[6]? = some (.int .i64 a6) := by simpa [List.getElem?_take, List.getElem?_drop] using h6
     have h7 : cs[7]? = some (.int .i64 a7) := by simpa [List.getElem?_take, List.getElem?_drop] using h7
     refine ⟨⟨a0, a1, a2, a3, a4, a5, a6, a7, s⟩, fun f u hu => ?_, ?_⟩
     · match f, hu with
       | 0, hu => exact ⟨by decide, h0.trans hu⟩
       | 1, hu => exact ⟨by decide, h1.trans hu⟩
       | 2, hu => exact ⟨by decide, h2.trans hu⟩
       | 3, hu => exact ⟨by decide, h3.trans hu⟩
       | 4, hu => exact ⟨by decide, h4.trans hu⟩
       | 5, hu => exact ⟨by decide, h5.trans hu⟩
       | 6, hu => exact ⟨by decide, h6.trans hu⟩
       | 7, hu => exact ⟨by decide, h7.trans hu⟩
       | 8, hu => exact ⟨by decide, h8.trans hu⟩
     · have := hw s.data.toList.length (by
        simp only [DataW.weights, Tryz.underlying56]
        refine DataW.weights_mem_each (j := 7) (t := 9) (d := y7.1) rfl rfl _ ?_
        rw [hy]
        simp [DataW.weights])
       have h2 : reachBytes = 140737488351232 := rfl
       have h3 : s.data.toList.length = s.size := Array.length_toList
       show s.size ≤ _
       omega
theorem md_open {r : _root_.Go.Reach} {b0 : Nat} {v : Value} {d : DataW H} {p : List MemPlace} (hv : Value.okWide Tryz.prog w r b0 26 v) (h : DataW.Trod enc Tryz.prog w 0 (fun _ => true) true 26 v d p) (hw : ∀ n ∈ d.weights Tryz.prog 26, n ≤ reachBytes) :
 ∃ M : Md, MdAt w v M ∧ (∀ x, x ∈ M.nodes → x.name.size ≤ 140737488351232) ∧ (∀ b, b ∈ M.inits → (Lit.int .i64 b.st).wf = true) ∧ (∀ b, b ∈ M.nexts → (Lit.int .i64 b.st).wf = true) := by
 obtain ⟨cs, rfl, hsz⟩ := okWide_struct Tryz.underlying26 hv
 obtain ⟨l⟩ := cs
 match l, hsz.trans cells_mod with
 | [c0, c1, c2, c3, c4], _ =>
   obtain ⟨fuel, hf⟩ := h
   obtain ⟨xs, n, -, hd, -, hxl, hg⟩ := DataW.trod_struct Tryz.underlying26 hf
   have hd := congrArg Prod.fst hd
   have hd : d = .agg (xs.map (·.1)) := hd
   subst hd
   match xs, hxl with
   | [y0, y1, y2, y3, y4], _ =>
     have hwt : ∀ (j : Nat) t y, ([22, 23, 23, 24, 24] : List TypeId)[j]? = some t → ([y0.1, y1.1, y2.1, y3.1, y4.1] : List (DataW H))[j]? = some y → ∀ n ∈ y.weights Tryz.prog t, n ≤ reachBytes := fun j t y ht hy n hn => hw n (by
      show n ∈ DataW.weights Tryz.prog 26 (.agg [y0.1, y1.1, y2.1, y3.1, y4.1])
      rw [DataW.weights, Tryz.underlying26]
      exact DataW.weights_mem_each (j := j) ht hy n hn)
     have k0 : Tryz.prog.cellsOf 22 = 1 := by kernel_rfl
     have k1 : Tryz.prog.cellsOf 23 = 1 := by kernel_rfl
     have k2 : Tryz.prog.cellsOf 24 = 1 := by kernel_rfl
     obtain ⟨ns, hN, hn⟩ := slAt_of enNd (fun x => x.name.size ≤ 140737488351232) Tryz.underlying22 cells_node (by decide +kernel) (by decide) (fun _ _ _ _ h hw => node_el h hw) (d := y0.1) (p := y0.2) (v := c0) ((congrArg (DataW.trod enc Tryz.prog w 0 (fun _ => true) true n _) (one_cell (cs := [c0, c1, c2, c3, c4]) (k := 0) k0 rfl)).symm.trans (hg 0 _ rfl)) (hwt 0 _ _ rfl rfl)
     obtain ⟨is, hI, hi⟩ := slAt_of enBd (fun x => (Lit.int .i64 x.st).wf = true) Tryz.underlying23 cells_bind (by decide +kernel) (by decide) (fun _ _ _ _ h _ => bind_el h) (d := y1.1) (p := y1.2) (v := c1) ((congrArg (DataW.trod enc Tryz.prog w 0 (fun _ => true) true n _) (one_cell (cs := [c0, c1, c2, c3, c4]) (k := 1) k1 rfl)).symm.trans (hg 1 _ rfl)) (hwt 1 _ _ rfl rfl)
     obtain ⟨qs, hQ, hq⟩ := slAt_of enBd (fun x => (Lit.int .i64 x.st).wf = true) Tryz.underlying23 cells_bind (by decide +kernel) (by decide) (fun _ _ _ _ h _ => bind_el h) (d := y2.1) (p := y2.2) (v := c2) ((congrArg (DataW.trod enc Tryz.prog w 0 (fun _ => true) true n _) (one_cell (cs := [c0, c1, c2, c3, c4]) (k := 2) k1 rfl)).symm.trans (hg 2 _ rfl)) (hwt 2 _ _ rfl rfl)
     obtain ⟨bs, hB, -⟩ := slAt_of enI (fun _ => True) Tryz.underlying24 cells_int (by decide +kernel) (by decide) (fun _ _ _ _ h _ => int_el h) (d := y3.1) (p := y3.2) (v := c3) ((congrArg (DataW.trod enc Tryz.prog w 0 (fun _ => true) true n _) (one_cell (cs := [c0, c1, c2, c3, c4]) (k := 3) k2 rfl)).symm.trans (hg 3 _ rfl)) (hwt 3 _ _ rfl rfl)
     obtain ⟨hs, hH, -⟩ := slAt_of enI (fun _ => True) Tryz.underlying24 cells_int (by decide +kernel) (by decide) (fun _ _ _ _ h _ => int_el h) (d := y4.1) (p := y4.2) (v := c4) ((congrArg (DataW.trod enc Tryz.prog w 0 (fun _ => true) true n _) (one_cell (cs := [c0, c1, c2, c3, c4]) (k := 4) k2 rfl)).symm.trans (hg 4 _ rfl)) (hwt 4 _ _ rfl rfl)
     exact ⟨⟨ns, is, qs, bs, hs⟩, ⟨⟨c0, c1, c2, c3, c4, rfl, hN, hI, hQ, hB, hH⟩⟩, hn, hi, hq⟩
end
end Go.Proofs.YthejgnabgglmhaaGreat
namespace Go.Proofs.YthejgnabgglmhaaGreat
open Go.RowKit
def bdQ (st : Int) : List Bd → Int
 | [] => -1
 | b :: l => if b.st = st then b.nd else bdQ st l
theorem bq_at {st : Int} : ∀ {xs : List Bd} {k : Nat}, k < xs.length → (∀ j, j < k → (xs.getD j Bd.zero).st ≠ st) → (xs.getD k Bd.zero).st = st → bdQ st xs = (xs.getD k Bd.zero).nd
 | x :: l, 0, _, _, h => by
   simp at h ⊢
   rw [bdQ, if_pos h]
 | x :: l, k + 1, hk, hj, h => by
   have h0 := hj 0 (by omega)
   simp at h0
   rw [bdQ, if_neg h0]
   simpa using bq_at (xs := l) (k := k) (by simpa using hk) (fun j hjk => by simpa using hj (j + 1) (by omega)) (by simpa using h)
theorem bq_none {st : Int} : ∀ {xs : List Bd}, (∀ j, j < xs.length → (xs.getD j Bd.zero).st ≠ st) → bdQ st xs = -1
 | [], _ => rfl
 | x :: l, h => by
   have h0 := h 0 (by simp)
   simp at h0
   rw [bdQ, if_neg h0]
   exact bq_none fun j hj => by simpa using h (j + 1) (by simpa using hj)
theorem bq_cases (st : Int) : ∀ xs : List Bd, bdQ st xs = -1 ∨ ∃ b, b ∈ xs ∧ b.st = st ∧ bdQ st xs = b.nd
 | [] => .inl rfl
 | x :: l => by
   by_cases h : x.st = st
   · exact .inr ⟨x, by simp, h, by rw [bdQ, if_pos h]⟩
   · rw [bdQ, if_neg h]
     rcases bq_cases st l with h1 | ⟨b, h1, h2, h3⟩
     · exact .inl h1
     · exact .inr ⟨b, by simp [h1], h2, h3⟩
theorem again_q {xs : List Bd} (h : againB xs = false) {i j : Nat} (hi : i < xs.length) (hj : j < i) : (xs.getD i Bd.zero).st ≠ (xs.getD j Bd.zero).st := by
 intro e
 rw [again_yes hi hj e] at h
 cases h
theorem bq_of {xs : List Bd} (h : againB xs = false) {b : Bd} (hb : b ∈ xs) : bdQ b.st xs = b.nd := by
 obtain ⟨k, hk⟩ := List.getElem?_of_mem hb
 have hlt := (List.getElem?_eq_some_iff.1 hk).1
 have hg : xs.getD k Bd.zero = b := by
  have := getD_at hlt Bd.zero
  rw [hk] at this
  exact (Option.some.inj this).symm
 have := bq_at (st := b.st) hlt (fun j hj e => again_q h hlt hj (by rw [hg, e])) (by rw [hg])
 rw [this, hg]
theorem l4BoundQ_calls (sv : Value) (xs : List Bd) (st : Int) (w : World) (hS : SlAt enBd w sv xs) :
 Makes Tryz.prog 34 #[sv, .int .i64 st] w (.int .i64 (bdQ st xs)) := by
 obtain ⟨A, c, rfl, hnc, hc', hA⟩ := hS
 have HAT := Lib.hid (show ∀ k, k < xs.length → (∀ j, j < k → (xs.getD j Bd.zero).st ≠ st) → (xs.getD k Bd.zero).st = st → bdQ st xs = (xs.getD k Bd.zero).nd from fun k => bq_at)
 have HNO := Lib.hid (show (∀ j, j < xs.length → (xs.getD j Bd.zero).st ≠ st) → bdQ st xs = -1 from bq_none)
 generalize bdQ st xs = R at *
 generalize hN : xs.length = n at *
 have HN := Lib.hid hN
 clear hN
 have hn : n ≤ 281474976710656 := Nat.le_trans hnc hc'
 clear hc' hnc
 go_enter Tryz.func34, Tryz.ntmps34
 go_wp2
 go_loopw [5] (fun i wr => ∃ k : Nat, k ≤ n ∧ i = .int .i64 k ∧ Hid (∀ j, j < k → (xs.getD j Bd.zero).st ≠ st) ∧ LaterC w wr) (fun i _ => n - (intOf i).toNat)
 case atStart => exact ⟨0, Nat.zero_le _, rfl, Lib.hid (fun j hj => absurd hj (Nat.not_lt_zero _)), LaterC.refl w⟩
 case round =>
  obtain ⟨k, hk, rfl, hto, ⟨u, rfl⟩⟩ := hrel
  by_cases hlt : k < n
  · have hlt' : (k : Int) < n := by omega
    have hget := getD_at (show k < xs.length by rw [HN.out]; exact hlt) Bd.zero
    obtain ⟨b, o, rfl, hx⟩ := hA k _ hget
    have p0 : ∀ l : Later w, l.val.cell? ⟨b, o + k * 2, none⟩ = some (.int .i64 (xs.getD k Bd.zero).st) := hx.at_ (Below.refl _ _) 0 _ rfl
    have p1 : ∀ l : Later w, l.val.cell? ⟨b, o + k * 2 + 1, none⟩ = some (.int .i64 (xs.getD k Bd.zero).nd) := hx.at_ (Below.refl _ _) 1 _ rfl
    generalize hxe : (xs.getD k Bd.zero).st = x at p0
    generalize hye : (xs.getD k Bd.zero).nd = y at p1
    have HX := Lib.hid hxe
    by_cases heq : x = st
    · have HR := Lib.hid ((HAT.out k hlt hto.out (hxe.trans heq)).trans hye)
      clear hx hget hxe hye hA hto
      subst heq
      go_wp2
      go_ret
      exact ⟨ret_eq (congrArg (Value.int .i64) HR.out.symm), u.prop⟩
    · have HTO := Lib.hid (show ∀ j, j < k + 1 → (xs.getD j Bd.zero).st ≠ st from fun j hj => by
       rcases Nat.lt_or_ge j k with g | g
       · exact hto.out j g
       · obtain rfl : j = k := by omega
         rw [HX.out]; exact heq)
      have hne : (x == st) = false := by simpa using heq
      clear hx hget hxe hye hA hto
      go_wp2
      go_roundw
      case rel => exact ⟨k + 1, by omega, by go_num, HTO, ⟨u, rfl⟩⟩
      case measure => simp [intOf] <;> omega
  · obtain rfl : k = n := by omega
    have HR := Lib.hid (HNO.out hto.out)
    clear hA hto
    go_wp2
    go_ret
    exact ⟨ret_eq (congrArg (Value.int .i64) HR.out.symm), u.prop⟩
theorem code_q {M : Md} (h : codeN M = 0) : bigB M = false ∧ nodesB M.nodes = true ∧ twiceB M = false ∧ bindsB M = true ∧ propsB M.nodes M.bads = true ∧ propsB M.nodes M.holds = true := by
 unfold codeN at h
 split at h
 · omega
 split at h
 · omega
 split at h
 · omega
 split at h
 · omega
 split at h
 · omega
 split at h
 · omega
 rename_i h1 h2 h3 h4 h5 h6
 exact ⟨by simpa using h1, by simpa using h2, by simpa using h3, by simpa using h4, by simpa using h5, by simpa using h6⟩
theorem bnd_q {ns : List Nd} {b : Bd} (h : boundB ns b = true) : (0 ≤ b.st ∧ b.st < ns.length) ∧ (0 ≤ b.nd ∧ b.nd < ns.length) ∧ (ns.getD b.st.toNat Nd.zero).kind = 36 := by
 unfold boundB at h
 simp only [Bool.and_eq_true, beq_iff_eq] at h
 obtain ⟨h1, h2, h3, h4, h5⟩ := h
 have h1 := of_inB h1
 have h2 := of_inB h2
 exact ⟨by omega, by omega, h3⟩
theorem ini_q {ns : List Nd} {b : Bd} (h : initB ns b = true) : (0 ≤ b.st ∧ b.st < ns.length) ∧ (0 ≤ b.nd ∧ b.nd < ns.length) ∧ (ns.getD b.st.toNat Nd.zero).kind = 36 := by
 unfold initB at h
 rw [Bool.and_eq_true] at h
 have hb := bound_nd h.1
 have h1 := h.1
 unfold wordBd at h1
 split at h1
 · have := bnd_q h1
   exact ⟨this.1, by omega, this.2.2⟩
 · have := bnd_q h1
   exact ⟨this.1, this.2.1, this.2.2⟩
theorem binds_q {M : Md} (h : codeN M = 0) {b : Bd} (hb : b ∈ M.inits ++ M.nexts) : (0 ≤ b.st ∧ b.st < M.nodes.length) ∧ (0 ≤ b.nd ∧ b.nd < M.nodes.length) ∧ (M.nodes.getD b.st.toNat Nd.zero).kind = 36 := by
 have h1 := (code_q h).2.2.2.1
 unfold bindsB at h1
 rw [Bool.and_eq_true, List.all_eq_true, List.all_eq_true] at h1
 rcases List.mem_append.1 hb with g | g
 · exact ini_q (h1.1 b g)
 · exact bnd_q (h1.2 b g)
theorem again_parts {M : Md} (h : codeN M = 0) : againB M.inits = false ∧ againB M.nexts = false := by
 have h1 := (code_q h).2.2.1
 unfold twiceB at h1
 simp only [Bool.or_eq_false_iff] at h1
 exact h1.2
theorem root_q {M : Md} (h : codeN M = 0) {x : Int} (hx : x ∈ M.bads ++ M.holds) : 0 ≤ x ∧ x < M.nodes.length := by
 have h1 := (code_q h).2.2.2.2
 unfold propsB at h1
 rw [List.all_eq_true, List.all_eq_true] at h1
 have h2 : propB M.nodes x = true := by
  rcases List.mem_append.1 hx with g | g
  · exact h1.1 x g
  · exact h1.2 x g
 unfold propB at h2
 rw [Bool.and_eq_true] at h2
 have := of_inB h2.1
 omega
def Succ (M : Md) (q j : Nat) : Prop := IsPart M.nodes q j ∨ ∃ b, b ∈ M.inits ++ M.nexts ∧ b.st = (q : Int) ∧ b.nd.toNat = j
inductive Kept (M : Md) : Nat → Prop
 | root {x : Int} : x ∈ M.bads ++ M.holds → Kept M x.toNat
 | next {q j : Nat} : Kept M q → Succ M q j → Kept M j
theorem Succ.lt {M : Md} (h : codeN M = 0) {q j : Nat} (hq : q < M.nodes.length) (hs : Succ M q j) : j < M.nodes.length := by
 rcases hs with hs | ⟨b, hb, -, rfl⟩
 · have := hs.lt (nodes_down (code_q h).2.1) hq; omega
 · have := (binds_q h hb).2.1; omega
theorem Kept.lt {M : Md} (h : codeN M = 0) {j : Nat} (hj : Kept M j) : j < M.nodes.length := by
 induction hj with
 | root hx => have := root_q h hx; omega
 | next _ hs ih => exact hs.lt h ih
theorem Kept.reach {M : Md} {q j : Nat} (hq : Kept M q) (h : Reach M.nodes q j) : Kept M j := by
 induction h with
 | self => exact hq
 | step _ hp ih => exact ih.next (.inl hp)
abbrev tt (L : List Bool) (j : Nat) : Prop := L.getD j false = true
abbrev fls (L : List Bool) : Nat := L.count false
theorem tt_lt {L : List Bool} {j : Nat} (h : tt L j) : j < L.length := by
 rcases Nat.lt_or_ge j L.length with g | g
 · exact g
 · unfold tt at h
   rw [List.getD_eq_getElem?_getD, List.getElem?_eq_none g] at h
   cases h
theorem tt_set {L : List Bool} {i : Nat} (hi : i < L.length) (j : Nat) : tt (L.set i true) j ↔ tt L j ∨ j = i := by
 unfold tt
 rw [List.getD_eq_getElem?_getD, List.getD_eq_getElem?_getD, List.getElem?_set]
 by_cases e : i = j
 · subst e; rw [if_pos rfl, if_pos hi]; simp
 · rw [if_neg e]
   constructor
   · exact .inl
   · rintro (h | h)
     · exact h
     · exact absurd h.symm e
theorem fls_set {L : List Bool} {i : Nat} (hi : i < L.length) (h : ¬ tt L i) : fls (L.set i true) + 1 = fls L := by
 have h2 : L[i] = false := by
  unfold tt at h
  rw [List.getD_eq_getElem?_getD, List.getElem?_eq_getElem hi] at h
  simpa using h
 have hpos : 0 < fls L := List.count_pos_iff.2 (by rw [← h2]; exact List.getElem_mem hi)
 unfold fls at hpos ⊢
 rw [List.count_set hi, h2]
 simp
 omega
theorem kept_of {M : Md} {L : List Bool} (h1 : ∀ j, tt L j → Kept M j) (h2 : ∀ x, x ∈ M.bads ++ M.holds → tt L x.toNat) (h3 : ∀ q j, tt L q → Succ M q j → tt L j) (j : Nat) : tt L j ↔ Kept M j := by
 refine ⟨h1 j, fun h => ?_⟩
 induction h with
 | root hx => exact h2 _ hx
 | next _ hs ih => exact h3 _ _ ih hs
def truesN (L : List Bool) : Nat → List Int
 | 0 => []
 | k + 1 => truesN L k ++ (if L.getD k false = true then [(k : Int)] else [])
theorem truesN_len (L : List Bool) : ∀ k, (truesN L k).length ≤ k
 | 0 => Nat.le_refl _
 | k + 1 => by
   have := truesN_len L k
   rw [truesN, List.length_append]
   split
   · simp; omega
   · simp; omega
noncomputable def keptL (M : Md) : List Bool := by
 classical
 exact (List.range M.nodes.length).map fun j => decide (Kept M j)
theorem keptL_len (M : Md) : (keptL M).length = M.nodes.length := by simp [keptL]
theorem keptL_tt {M : Md} (h : codeN M = 0) (j : Nat) : tt (keptL M) j ↔ Kept M j := by
 unfold tt keptL
 rw [List.getD_eq_getElem?_getD, List.getElem?_map]
 rcases Nat.lt_or_ge j M.nodes.length with g | g
 · rw [List.getElem?_range g]; simp
 · rw [List.getElem?_eq_none (by simpa using g)]
   constructor
   · intro e; cases e
   · intro e; have := e.lt h; omega
theorem bool_ext {L L' : List Bool} (hl : L.length = L'.length) (h : ∀ j, tt L j ↔ tt L' j) : L = L' := by
 apply List.ext_getElem?
 intro j
 rcases Nat.lt_or_ge j L.length with g | g
 · have h1 := h j
   unfold tt at h1
   rw [getD_at g false, getD_at (show j < L'.length by omega) false, Option.some.injEq]
   cases hx : L.getD j false <;> cases hy : L'.getD j false <;> rw [hx, hy] at h1 <;> simp at h1 ⊢
 · rw [List.getElem?_eq_none g, List.getElem?_eq_none (by omega)]
theorem kept_eq {M : Md} {L : List Bool} (h : codeN M = 0) (hl : L.length = M.nodes.length) (hk : ∀ j, tt L j ↔ Kept M j) : L = keptL M :=
 bool_ext (by rw [hl, keptL_len]) fun j => (hk j).trans (keptL_tt h j).symm
def JoinP (ns : List Nd) (a : Nat) (L L' : List Bool) (more : Bool) : Prop :=
 L'.length = L.length ∧ (∀ j, tt L' j ↔ tt L j ∨ Reach ns a j) ∧ fls L' ≤ fls L ∧ (more = true → fls L' < fls L) ∧ (more = false → ∀ j, Reach ns a j → tt L j)
def Good (M : Md) (L : List Bool) : Prop := L.length = M.nodes.length ∧ (∀ j, tt L j → Kept M j) ∧ ∀ q j, tt L q → IsPart M.nodes q j → tt L j
theorem Good.join {M : Md} {L L' : List Bool} {a : Nat} {more : Bool} (h : Good M L) (ha : Kept M a) (hj : JoinP M.nodes a L L' more) : Good M L' := by
 obtain ⟨h1, h2, -⟩ := hj
 refine ⟨h1.trans h.1, fun j hj => ?_, fun q j hq hp => ?_⟩
 · rcases (h2 j).1 hj with g | g
   · exact h.2.1 j g
   · exact ha.reach g
 · rcases (h2 q).1 hq with g | g
   · exact (h2 j).2 (.inl (h.2.2 q j g hp))
   · exact (h2 j).2 (.inr (g.step hp))
def MarkP (M : Md) (a : Nat) (L L' : List Bool) : Prop :=
 L'.length = L.length ∧ (∀ j, tt L j → tt L' j) ∧ tt L' a ∧ (Kept M a → (∀ j, tt L j → Kept M j) → ∀ j, tt L' j → Kept M j) ∧ (∀ q j, tt L' q → ¬ tt L q → Succ M q j → tt L' j) ∧ fls L' ≤ fls L
def MidP (M : Md) (a : Nat) (L L' : List Bool) : Prop :=
 L'.length = L.length ∧ (∀ j, tt L j → tt L' j) ∧ tt L' a ∧ (Kept M a → (∀ j, tt L j → Kept M j) → ∀ j, tt L' j → Kept M j) ∧ (∀ q j, tt L' q → ¬ tt L q → q ≠ a → Succ M q j → tt L' j) ∧ fls L' < fls L
theorem MidP.start {M : Md} {a : Nat} {L : List Bool} (ha : a < L.length) (h : ¬ tt L a) : MidP M a L (L.set a true) := by
 refine ⟨by simp, fun j hj => (tt_set ha j).2 (.inl hj), (tt_set ha a).2 (.inr rfl), fun hk hL j hj => ?_, fun q j hq hn hne _ => ?_, ?_⟩
 · rcases (tt_set ha j).1 hj with g | rfl
   · exact hL j g
   · exact hk
 · rcases (tt_set ha q).1 hq with g | g
   · exact absurd g hn
   · exact absurd g hne
 · have := fls_set ha h; omega
theorem MidP.step {M : Md} {a p : Nat} {L L' L'' : List Bool} (h : MidP M a L L') (hs : Succ M a p) (hm : MarkP M p L' L'') : MidP M a L L'' := by
 obtain ⟨h1, h2, h3, h4, h5, h6⟩ := h
 obtain ⟨g1, g2, g3, g4, g5, g6⟩ := hm
 refine ⟨g1.trans h1, fun j hj => g2 j (h2 j hj), g2 a h3, fun hk hL => g4 (hk.next hs) (h4 hk hL), fun q j hq hn hne hsq => ?_, by omega⟩
 by_cases e : tt L' q
 · exact g2 j (h5 q j e hn hne hsq)
 · exact g5 q j hq e hsq
theorem MidP.done {M : Md} {a : Nat} {L L' : List Bool} (h : MidP M a L L') (hs : ∀ j, Succ M a j → tt L' j) : MarkP M a L L' := by
 obtain ⟨h1, h2, h3, h4, h5, h6⟩ := h
 refine ⟨h1, h2, h3, h4, fun q j hq hn hsq => ?_, by omega⟩
 by_cases e : q = a
 · subst e; exact hs j hsq
 · exact h5 q j hq hn e hsq
theorem MarkP.refl {M : Md} {a : Nat} {L : List Bool} (h : tt L a) : MarkP M a L L :=
 ⟨rfl, fun _ h => h, h, fun _ hL => hL, fun q j hq hn => absurd hq hn, Nat.le_refl _⟩
end Go.Proofs.YthejgnabgglmhaaGreat
namespace Go.Proofs.YthejgnabgglmhaaGreat
open Go.RowKit
def OwnL (w : World) (g : Nat) (L : List Bool) : Prop := OwnB w g 4 (L.map Value.bool).toArray
theorem OwnL.lt {w : World} {g : Nat} {L : List Bool} (h : OwnL w g L) : g < w.heap.size := OwnB.lt h
theorem OwnL.cell {w : World} {g : Nat} {L : List Bool} (h : OwnL w g L) {j : Nat} (hj : j < L.length) : w.cell? ⟨g, j, none⟩ = some (.bool (L.getD j false)) := by
 refine (OwnB.cell h j).trans ?_
 rw [List.getElem?_toArray, List.getElem?_map, getD_at hj false]
 rfl
theorem OwnL.frozen {w : World} {g : Nat} {L : List Bool} (h : OwnL w g L) (j : Nat) : w.frozen? ⟨g, j, none⟩ = false := OwnB.frozen h j
theorem OwnL.set {w : World} {g : Nat} {L : List Bool} (h : OwnL w g L) (j : Nat) : OwnL (w.setCell ⟨g, j, none⟩ (.bool true)) g (L.set j true) := by
 have := OwnB.set h j (.bool true)
 unfold OwnL
 rw [List.map_set]
 simpa using this
theorem OwnL.below {w w' : World} {g : Nat} {L : List Bool} (h : OwnL w g L) (hb : Below w.heap.size w w') : OwnL w' g L := OwnB.below h hb (OwnB.lt h)
theorem OwnL.but {S : Nat → Prop} {w w' : World} {g : Nat} {L : List Bool} (h : OwnL w g L) (hb : But S w w') (hg : ¬ S g) : OwnL w' g L := OwnB.but h hb hg
theorem OwnL.made (w : World) (n : Nat) : OwnL (w.alloc (.cells (madeCells #[.bool false] n) 4)) w.heap.size (List.replicate n false) := by
 have h := OwnB.new w 4 (madeCells #[.bool false] n)
 unfold OwnL
 have e : madeCells #[Value.bool false] n = ((List.replicate n false).map Value.bool).toArray := by
  apply Array.ext_getElem?
  intro j
  simp only [List.getElem?_toArray, List.getElem?_map]
  rcases Nat.lt_or_ge j n with g | g
  · rw [madeCells_get _ _ _ g, List.getElem?_replicate, if_pos g]; rfl
  · rw [Array.getElem?_eq_none (by rw [size_madeCells]; exact g), List.getElem?_eq_none (by simpa using g)]; rfl
 rw [← e]
 exact h
def asB : Option Value → Bool
 | some (.bool b) => b
 | _ => false
theorem OwnL.of {w : World} {g n : Nat} {cs : Array Value} {T : Nat → Prop} (h : OwnB w g 4 cs) (hb : BoolsAt cs n T) : ∃ K : List Bool, K.length = n ∧ OwnL w g K ∧ ∀ j, j < n → (tt K j ↔ T j) := by
 obtain ⟨h1, h2⟩ := hb
 refine ⟨(List.range n).map (fun j => asB cs[j]?), by simp, ?_, fun j hj => ?_⟩
 · unfold OwnL
   have e : cs = (((List.range n).map (fun j => asB cs[j]?)).map Value.bool).toArray := by
    apply Array.ext_getElem?
    intro j
    simp only [List.getElem?_toArray, List.getElem?_map]
    rcases Nat.lt_or_ge j n with g | g
    · obtain ⟨v, hv, -⟩ := h2 j g
      rw [List.getElem?_range g]
      simp [hv, asB]
    · rw [Array.getElem?_eq_none (by omega), List.getElem?_eq_none (by simpa using g)]
      rfl
   rw [← e]
   exact h
 · obtain ⟨v, hv, ht⟩ := h2 j hj
   unfold tt
   rw [List.getD_eq_getElem?_getD, List.getElem?_map, List.getElem?_range hj]
   simp [hv, asB]
   exact ht
def StepJ (ns : List Nd) (a k : Nat) (L L' : List Bool) (more : Bool) : Prop :=
 L'.length = L.length ∧ (∀ j, tt L' j ↔ tt L j ∨ (Reach ns a j ∧ j < k)) ∧ fls L' ≤ fls L ∧ (more = true → fls L' < fls L) ∧ (more = false → ∀ j, j < k → Reach ns a j → tt L j)
theorem StepJ.start (ns : List Nd) (a : Nat) (L : List Bool) : StepJ ns a 0 L L false :=
 ⟨rfl, fun j => ⟨.inl, fun h => h.elim id fun h => absurd h.2 (Nat.not_lt_zero _)⟩, Nat.le_refl _, fun h => (by cases h), fun _ j hj => absurd hj (Nat.not_lt_zero _)⟩
theorem StepJ.skip {ns : List Nd} {a k : Nat} {L L' : List Bool} {more : Bool} (h : StepJ ns a k L L' more) (hk : Reach ns a k → tt L' k) : StepJ ns a (k + 1) L L' more := by
 obtain ⟨h1, h2, h3, h4, h5⟩ := h
 have key : Reach ns a k → tt L k := fun hr => by
  rcases (h2 k).1 (hk hr) with g | g
  · exact g
  · exact absurd g.2 (Nat.lt_irrefl _)
 refine ⟨h1, fun j => ?_, h3, h4, fun hm j hj hr => ?_⟩
 · rw [h2 j]
   constructor
   · rintro (g | g)
     · exact .inl g
     · exact .inr ⟨g.1, by omega⟩
   · rintro (g | ⟨g1, g2⟩)
     · exact .inl g
     · rcases Nat.lt_or_ge j k with e | e
       · exact .inr ⟨g1, e⟩
       · obtain rfl : j = k := by omega
         exact .inl (key g1)
 · rcases Nat.lt_or_ge j k with e | e
   · exact h5 hm j e hr
   · obtain rfl : j = k := by omega
     exact key hr
theorem StepJ.set {ns : List Nd} {a k : Nat} {L L' : List Bool} {more : Bool} (h : StepJ ns a k L L' more) (hk : k < L'.length) (hr : Reach ns a k) (hn : ¬ tt L' k) : StepJ ns a (k + 1) L (L'.set k true) true := by
 obtain ⟨h1, h2, h3, h4, h5⟩ := h
 have hf := fls_set hk hn
 refine ⟨by rw [List.length_set]; exact h1, fun j => ?_, by omega, fun _ => by omega, fun hm => by cases hm⟩
 rw [tt_set hk, h2 j]
 constructor
 · rintro ((g | g) | rfl)
   · exact .inl g
   · exact .inr ⟨g.1, by omega⟩
   · exact .inr ⟨hr, by omega⟩
 · rintro (g | ⟨g1, g2⟩)
   · exact .inl (.inl g)
   · rcases Nat.lt_or_ge j k with e | e
     · exact .inl (.inr ⟨g1, e⟩)
     · exact .inr (by omega)
theorem StepJ.done {ns : List Nd} {a b : Nat} {L L' : List Bool} {more : Bool} (h : StepJ ns a (a + 1) L L' more) (hd : Down ns b) (hab : a < b) : JoinP ns a L L' more := by
 obtain ⟨h1, h2, h3, h4, h5⟩ := h
 have hl : ∀ j, Reach ns a j → j < a + 1 := fun j hj => by have := hj.le hd hab; omega
 exact ⟨h1, fun j => (h2 j).trans ⟨fun g => g.elim .inl (fun g => .inr g.1), fun g => g.elim .inl (fun g => .inr ⟨g, hl j g⟩)⟩, h3, h4, fun hm j hr => h5 hm j (hl j hr) hr⟩
def JoinPost (g : Nat) (ns : List Nd) (a : Nat) (L : List Bool) (w : World) (e : Ending) (w' : World) : Prop := ∃ L' more, e = .returned (.bool more) ∧ But (fun b => b = g) w w' ∧ OwnL w' g L' ∧ JoinP ns a L L' more
theorem l9Join_calls (mv : Value) (M : Md) (g a : Nat) (L : List Bool) (w : World) (hM : MdAt w mv M) (hO : OwnL w g L) (hl : L.length = M.nodes.length) (ha : a < M.nodes.length) (hd : Down M.nodes M.nodes.length) :
 Calls Tryz.prog 33 #[mv, .slice (some ⟨g, 0, none⟩) M.nodes.length M.nodes.length, .int .i64 (a : Int)] w fun e w' => JoinPost g M.nodes a L w e w' := by
 have HM := Lib.hid hM
 have HO := Lib.hid hO
 have HD := Lib.hid hd
 obtain ⟨s0, s1, s2, s3, s4, rfl, h0s, -, -, -, -⟩ := hM.at_
 have HS := Lib.hid h0s
 obtain ⟨A, c, rfl, hnc, hc', -⟩ := h0s
 have hn2 : M.nodes.length ≤ 281474976710656 := Nat.le_trans hnc hc'
 clear hM hO hd hnc hc'
 generalize hn : M.nodes.length = n at *
 have HN := Lib.hid hn
 have HLN := Lib.hid hl
 clear hn
 go_enter Tryz.func33, Tryz.ntmps33
 have HB := Lib.hid (box_below w #[.slice A n c, s1, s2, s3, s4] 32)
 have m0 := box_cell w #[.slice A n c, s1, s2, s3, s4] 32 0 _ rfl
 go_upto_region 1 with fail
 have HO1 := Lib.hid (HO.out.below HB.out)
 have HS1 := Lib.hid (HS.out.below HB.out)
 have HGL := Lib.hid HO.out.lt
 have HSZ := Lib.hid (show w.heap.size < (w.alloc (.cells #[.slice A n c, s1, s2, s3, s4] 32)).heap.size by simp)
 generalize w.alloc (.cells #[.slice A n c, s1, s2, s3, s4] 32) = w1 at *
 replace m0 : ∀ u : Later w1, u.val.cell? ⟨w.heap.size, 0, none⟩ = some (.slice A n c) := m0
 refine at_world (w := w1) ?_
 intro u0
 go_upto_region 2 with (go_at_call 63; have hlm := l2Made_calls _ M.nodes a _ (HS1.out.later u0) (by rw [HN.out]; exact ha) (by rw [HN.out]; exact HD.out); rw [HN.out] at hlm; refine hlm.mono ?_; rintro e w' ⟨cs, rfl, hb, hown, hat⟩; clear hlm; have HMA := Lib.hid (And.intro hown hat); have HGM := Lib.hid (Nat.lt_of_lt_of_le HSZ.out u0.size); obtain ⟨u1, hu1⟩ := u0.step hb; subst hu1; clear hb hown hat)
 have hgm : g ≠ u0.val.heap.size := by have h1 := HGL.out; have h2 := HGM.out; omega
 obtain ⟨K, hk1, hk2, hk3⟩ := OwnL.of HMA.out.1 HMA.out.2
 have HK := Lib.hid (And.intro hk1 hk3)
 have HKW := Lib.hid hk2
 have HOW := Lib.hid (HO1.out.below u1.prop)
 have HBW := Lib.hid (u1.back HB.out)
 clear hk1 hk2 hk3 HMA HO1
 generalize u0.val.heap.size = gm at *
 generalize u1.val = W at *
 refine at_world (w := W) ?_
 intro w0
 go_upto_region 4 with fail
 have HO3 := Lib.hid (HOW.out.below w0.prop)
 have HK3 := Lib.hid (HKW.out.below w0.prop)
 have HB3 := Lib.hid (But.of_below (S := fun b => b = g) w0.prop)
 go_loopw [8, 9] (fun mr i wr => ∃ (k : Nat) (more : Bool) (L' : List Bool), k ≤ a + 1 ∧ mr = .bool more ∧ i = .int .i64 k ∧ Hid (OwnL wr g L' ∧ OwnL wr gm K ∧ StepJ M.nodes a k L L' more ∧ But (fun b => b = g) W wr)) (fun _ i _ => a + 1 - (intOf i).toNat)
 case atStart => exact ⟨0, false, L, Nat.zero_le _, rfl, rfl, Lib.hid ⟨HO3.out, HK3.out, StepJ.start _ _ _, HB3.out⟩⟩
 case round =>
  obtain ⟨k, more, L', hk, rfl, rfl, HI⟩ := hrel
  by_cases hlt : k < a + 1
  · have hka : (k : Int) ≤ (a : Int) := by omega
    have hkn : k < n := by omega
    have hkn2 : (k : Int) < (n : Int) := by omega
    have hL : k < L'.length := by have := HI.out.2.2.1.1; omega
    have c0 := HI.out.1.cell hL
    have f0 := HI.out.1.frozen k
    have d0 := HI.out.2.1.cell (show k < K.length by rw [HK.out.1]; exact hkn)
    have HR := Lib.hid (HK.out.2 k hkn)
    generalize hv : K.getD k false = v at *
    have HV := Lib.hid hv
    clear hv
    cases v
    · have HN2 := Lib.hid (show StepJ M.nodes a (k + 1) L L' more from HI.out.2.2.1.skip (fun hr => by have := HR.out.2 hr; unfold tt at this; rw [HV.out] at this; cases this))
      go_wp2
      go_roundw
      case rel => exact ⟨k + 1, more, L', by omega, rfl, by go_num, Lib.hid ⟨HI.out.1, HI.out.2.1, HN2.out, HI.out.2.2.2⟩⟩
      case measure => simp [intOf] <;> omega
    · have HRE := Lib.hid (HR.out.1 HV.out)
      generalize hu : L'.getD k false = q at *
      have HU := Lib.hid hu
      clear hu
      cases q
      · have HN2 := Lib.hid (show StepJ M.nodes a (k + 1) L (L'.set k true) true from HI.out.2.2.1.set hL HRE.out (fun h => by unfold tt at h; rw [HU.out] at h; cases h))
        have HB2 := Lib.hid (show But (fun b => b = g) W (wr.setCell ⟨g, k, none⟩ (.bool true)) from But.setCell HI.out.2.2.2 rfl _)
        have HKK := Lib.hid (show OwnL (wr.setCell ⟨g, k, none⟩ (.bool true)) gm K from HI.out.2.1.but (But.setCell (S := fun b => b = g) (But.refl _ _) rfl _) (fun e => hgm e.symm))
        go_wp2
        go_roundw
        case rel => exact ⟨k + 1, true, _, by omega, rfl, by go_num, Lib.hid ⟨HI.out.1.set k, HKK.out, HN2.out, HB2.out⟩⟩
        case measure => simp [intOf] <;> omega
      · have HN2 := Lib.hid (show StepJ M.nodes a (k + 1) L L' more from HI.out.2.2.1.skip (fun _ => HU.out))
        go_wp2
        go_roundw
        case rel => exact ⟨k + 1, more, L', by omega, rfl, by go_num, Lib.hid ⟨HI.out.1, HI.out.2.1, HN2.out, HI.out.2.2.2⟩⟩
        case measure => simp [intOf] <;> omega
  · obtain rfl : k = a + 1 := by omega
    have hle : ¬ ((a + 1 : Nat) : Int) ≤ (a : Int) := by omega
    have hle2 : ¬ (a : Int) + 1 ≤ (a : Int) := by omega
    go_wp2
    refine bodyPost_ret (v := .bool more) (by simp [results, Tryz.results33, go_sem]) rfl ?_
    exact ⟨L', more, rfl, (But.of_below HBW.out).trans HI.out.2.2.2, HI.out.1, HI.out.2.2.1.done HD.out ha⟩
end Go.Proofs.YthejgnabgglmhaaGreat
namespace Go.Proofs.YthejgnabgglmhaaGreat
open Go.RowKit
def flatB : List Bd → List Value
 | [] => []
 | x :: l => .int .i64 x.st :: .int .i64 x.nd :: flatB l
theorem flatB_len : ∀ l : List Bd, (flatB l).length = l.length * 2
 | [] => rfl
 | x :: l => by simp [flatB, flatB_len l]; omega
theorem flatB_append : ∀ l k : List Bd, flatB (l ++ k) = flatB l ++ flatB k
 | [], k => rfl
 | x :: l, k => by simp [flatB, flatB_append l k]
theorem flatB_get : ∀ {l : List Bd} {i : Nat} {x : Bd}, l[i]? = some x → ∀ f, f < 2 → (flatB l)[i * 2 + f]? = (enBd.cells x)[f]?
 | y :: l, 0, x, h, f, hf => by
   simp at h
   subst h
   rcases f with _ | _ | f
   · rfl
   · rfl
   · omega
 | y :: l, i + 1, x, h, f, hf => by
   simp at h
   have := flatB_get (l := l) (i := i) h f hf
   rw [show (i + 1) * 2 + f = (i * 2 + f) + 1 + 1 by omega]
   simpa [flatB] using this
theorem flatB_split {l : List Bd} {j : Nat} {u : Value} (h : (flatB l)[j]? = some u) : ∃ i f x, j = i * 2 + f ∧ f < 2 ∧ l[i]? = some x ∧ (enBd.cells x)[f]? = some u := by
 have hj := (List.getElem?_eq_some_iff.1 h).1
 rw [flatB_len] at hj
 have hi : j / 2 < l.length := by omega
 have hx := List.getElem?_eq_getElem hi
 refine ⟨j / 2, j % 2, _, by omega, by omega, hx, ?_⟩
 rw [← flatB_get hx (j % 2) (by omega), show j / 2 * 2 + j % 2 = j by omega]
 exact h
theorem flatB_one {l : List Bd} {u : Value} (h : u ∈ flatB l) : u.oneCell' = true := by
 obtain ⟨j, hj⟩ := List.getElem?_of_mem h
 obtain ⟨i, f, x, -, hf, -, hu⟩ := flatB_split hj
 rcases f with _ | _ | f
 · simp at hu; subst hu; rfl
 · simp at hu; subst hu; rfl
 · omega
theorem info_bd : (Tryz.prog.info? 65).map (fun i => (i.zero, i.size, i.bytes)) = some (some (.agg #[.int .i64 0, .int .i64 0]), 2, 16) := by kernel_rfl
theorem appendB_none (w : World) (ty : TypeId) (base : Nat) (v : Value) (n : Nat) (xs : List Value) (hown : w.ownsRow base 65 2 v n xs) (A : Option Addr) (c : Nat) :
 (Builtin.append_ #[30, 30] ty #[v, .slice A 0 c]).run Tryz.prog w = .ok v w := by
 obtain ⟨i, hi, hz, hs, hb⟩ := info_parts info_bd
 have ht := Tryz.underlying30
 have hl : ∀ (a : Addr) (w : World), (loadCells a 0).run Tryz.prog w = .ok #[] w := fun _ _ => rfl
 rcases hown.2 with ⟨rfl, rfl⟩ | ⟨g, cap, cur, rfl, _, _, hnc, _⟩ <;> cases A <;>
  simp [Builtin.append_, run_underlying ht, sizeOf, typeInfo, hi, Builtin.lenOf, Builtin.firstCells, storeCells, *]
theorem appendB_list (w : World) (ty : TypeId) (base : Nat) (v : Value) (n : Nat) (xs : List Value) (hown : w.ownsRow base 65 2 v n xs) (hbase : base ≤ w.heap.size) (A : Option Addr) (c : Nat) (ys : List Bd)
 (hA : ∀ i x, ys[i]? = some x → ∃ b o, A = some ⟨b, o, none⟩ ∧ CellsAt enBd w b o i x) (hlen : n + ys.length ≤ 1000) :
 ∃ v' w', (Builtin.append_ #[30, 30] ty #[v, .slice A ys.length c]).run Tryz.prog w = .ok v' w' ∧ w'.ownsRow base 65 2 v' (n + ys.length) (xs ++ flatB ys) ∧ w.grownBy w' v.ownBlock := by
 rcases Nat.eq_zero_or_pos ys.length with h0 | h0
 · rw [h0]
   have : ys = [] := List.eq_nil_of_length_eq_zero h0
   subst this
   exact ⟨v, w, appendB_none w ty base v n xs hown A c, by simpa [flatB] using hown, World.grownBy.refl w _⟩
 · obtain ⟨i, hi, hz, hs, hb⟩ := info_parts info_bd
   obtain ⟨b, o, rfl, -⟩ := hA 0 _ (getD_at h0 Bd.zero)
   obtain ⟨v', w', hr, hown', hg, -⟩ := run_append_own (P := Tryz.prog) w base 30 ty 65 i (.agg #[.int .i64 0, .int .i64 0]) 2 16 Tryz.underlying30 hi hz hs hb rfl (by omega) v n xs hown ⟨b, o, none⟩ ys.length c (flatB ys) (flatB_len ys) (fun j u hu => by
    obtain ⟨i, f, y, rfl, hf, hy, hu'⟩ := flatB_split hu
    obtain ⟨b', o', he, hc⟩ := hA i y hy
    cases he
    have hadd : (⟨b, o, none⟩ : Addr).add (i * 2 + f) = ⟨b, o + (i * 2 + f), none⟩ := by unfold Addr.add; split <;> simp_all
    rw [hadd]
    have := hc f _ hu'
    rw [show o + (i * 2 + f) = o + i * 2 + f by omega]
    exact this) (fun u hu => flatB_one hu) (by unfold maxLen; omega) (by omega) hbase
   exact ⟨v', w', hr, hown', hg⟩
theorem GrowB_calls (n : Nat) (w : World) (hn : n ≤ 1000) :
 Calls Tryz.prog 72 #[.slice none 0 0, .int .i64 n] w fun e w' => ∃ v, e = .returned v ∧ Below w.heap.size w w' ∧ w'.ownsRow w.heap.size 65 2 v 0 [] := by
 rcases Nat.eq_zero_or_pos n with rfl | hpos
 · go_enter Tryz.func72, Tryz.ntmps72
   go_wp2
   go_ret
   exact ⟨_, rfl, Below.refl _ _, rfl, .inl ⟨rfl, rfl⟩⟩
 · obtain ⟨i, hi, hz, hs, hb⟩ := info_parts info_bd
   have hr := fun ty => Lib.run_append_nil_zeros (P := Tryz.prog) w 30 3 ty 65 i (.agg #[.int .i64 0, .int .i64 0]) .i64 .i64 Tryz.underlying30 Tryz.underlying3 hi hz n hpos (by omega) (by omega) (by rw [hb]; omega)
   have hcap := grownCap_ge w n 0 65
   have hmax := grownCap_le_maxLen w n 0 65 (by unfold maxLen; omega)
   generalize hG : grownCap w n 0 65 = G at *
   have hpos' : (0 : Int) < n := by omega
   have HR := Lib.hid hr
   clear hr hG hz hs hb hi
   go_enter Tryz.func72, Tryz.ntmps72
   go_wp2_with (at_builtin; refine Lib.wpList_append_run _ (by rfl) _ _ _ _ (by rfl) _ _ (by rfl) (by rfl) _ _ (HR.out _) ?_)
   go_ret
   refine ⟨_, rfl, (box_below w _ _).drew, rfl, .inr ⟨w.heap.size, G, _, rfl, Nat.le_refl _, OwnB.new w _ _, Nat.zero_le _, hmax, ?_, by simp⟩⟩
   simp [size_zeroCells, Value.cells]
   omega
theorem ownedB_list {w : World} {base n : Nat} {v : Value} {xs : List Bd} (h : w.ownsRow base 65 2 v n (flatB xs)) (hn : n = xs.length) (hn2 : n ≤ 1000) : SlN enBd w v xs := by
 subst hn
 rcases h.2 with ⟨rfl, h0⟩ | ⟨g, cap, cur, rfl, _, _, hc, _⟩
 · have : xs = [] := List.eq_nil_of_length_eq_zero h0
   subst this
   exact ⟨none, 0, rfl, Nat.le_refl _, by simp, fun i x hx => by simp at hx⟩
 · refine ⟨some ⟨g, 0, none⟩, cap, rfl, hc, by omega, fun i x hx => ⟨g, 0, rfl, fun f u hu => ?_⟩⟩
   have hf : f < 2 := (List.getElem?_eq_some_iff.1 hu).1
   have := h.cells (g := g) rfl (i * 2 + f) u ((flatB_get hx f hf).trans hu)
   have hadd : (⟨g, 0, none⟩ : Addr).add (i * 2 + f) = ⟨g, i * 2 + f, none⟩ := by unfold Addr.add; split <;> simp_all
   rw [hadd] at this
   simpa using this
theorem ConcatB_calls (GS : Nat) (v1 v2 : Value) (xs ys : List Bd) (w : World) (h1 : SlAt enBd w v1 xs) (h2 : SlAt enBd w v2 ys) (c1 : w.cell? ⟨GS, 0, none⟩ = some v1) (c2 : w.cell? ⟨GS, 1, none⟩ = some v2) (hl : xs.length + ys.length ≤ 1000) :
 Calls Tryz.prog 52 #[.slice (some ⟨GS, 0, none⟩) 2 2] w fun e w' => ∃ v, e = .returned v ∧ Below w.heap.size w w' ∧ (∀ b, v.ownBlock = some b → w.heap.size ≤ b) ∧ SlN enBd w' v (xs ++ ys) := by
 have H1 := Lib.hid h1
 have H2 := Lib.hid h2
 obtain ⟨A, c, rfl, -, -, -⟩ := h1
 obtain ⟨A', c', rfl, -, -, -⟩ := h2
 have d1 := Later.cell c1
 have d2 := Later.cell c2
 have hn1 : (xs.length : Int) ≤ 1000 := by omega
 have hn2 : (ys.length : Int) ≤ 1000 := by omega
 have hn3 : (xs.length : Int) + ys.length ≤ 1000 := by omega
 have hp1 : (0 : Int) ≤ xs.length := by omega
 have hp2 : (0 : Int) ≤ ys.length := by omega
 obtain ⟨n, hn⟩ : ∃ n, n = xs.length := ⟨_, rfl⟩
 obtain ⟨m, hm⟩ : ∃ m, m = ys.length := ⟨_, rfl⟩
 have HN := Lib.hid hn
 have HM := Lib.hid hm
 have HL := Lib.hid hl
 rw [← hn] at c1 d1 hn1 hn3 hp1 hl H1
 rw [← hm] at c2 d2 hn2 hn3 hp2 hl H2
 clear hn hm c1 c2
 go_enter Tryz.func52, Tryz.ntmps52
 go_upto_region 1 with fail
 refine at_world (w := w) ?_
 intro u0
 go_wp2
 refine wp_loop_rounds 3 ?_
 rw [rounds_succ]
 go_wp2
 rw [rounds_succ]
 go_wp2
 rw [rounds_succ]
 go_wp2_with (go_at_call 72; refine (GrowB_calls (n + m) _ (by omega)).mono ?_; rintro e w' ⟨gv, rfl, hb, hown⟩; have HB := Lib.hid hb; have HOWN := Lib.hid hown; clear hb hown)
 have HU := Lib.hid u0.prop
 have K1 := Lib.hid (H1.out.later u0)
 have K2 := Lib.hid (H2.out.later u0)
 have e1 := Later.re d1 ⟨u0, rfl⟩
 have e2 := Later.re d2 ⟨u0, rfl⟩
 clear d1 d2
 generalize u0.val = W0 at *
 obtain ⟨u1, hu1⟩ := laterC_step (w1 := W0) (LaterC.refl _) HB.out
 subst hu1
 have hS1 := K1.out.later u1
 obtain ⟨A1, c1, he1, -, -, hA1⟩ := hS1
 rw [← HN.out] at he1
 cases he1
 obtain ⟨x1, w1', hr1, ho1, hg1⟩ := appendB_list u1.val 30 W0.heap.size gv 0 [] HOWN.out u1.size A c xs hA1 (by have := HL.out; omega)
 obtain ⟨u2, hu2⟩ := laterC_grown ⟨u1, rfl⟩ HOWN.out hg1
 subst hu2
 have hS2 := K2.out.later u2
 obtain ⟨A2, c2, he2, -, -, hA2⟩ := hS2
 rw [← HM.out] at he2
 cases he2
 obtain ⟨x2, w2', hr2, ho2, hg2⟩ := appendB_list u2.val 30 W0.heap.size x1 (0 + xs.length) ([] ++ flatB xs) ho1 u2.size A' c' ys hA2 (by have := HL.out; omega)
 obtain ⟨u3, hu3⟩ := laterC_grown ⟨u2, rfl⟩ ho1 hg2
 subst hu3
 rw [← HN.out] at hr1
 rw [← HM.out] at hr2
 have HR1 := Lib.hid hr1
 have HR2 := Lib.hid hr2
 have HO2 := Lib.hid ho2
 clear hr1 hr2 ho1 ho2 hg1 hg2 hA1 hA2
 refine wp_loop_rounds 3 ?_
 rw [rounds_succ]
 go_wp2_with (at_builtin; refine Lib.wpList_append_run _ (by rfl) _ _ _ _ (by rfl) _ _ (by rfl) (by rfl) _ _ HR1.out ?_)
 rw [rounds_succ]
 go_wp2_with (at_builtin; refine Lib.wpList_append_run _ (by rfl) _ _ _ _ (by rfl) _ _ (by rfl) (by rfl) _ _ HR2.out ?_)
 rw [rounds_succ]
 go_wp2
 go_ret
 refine ⟨_, rfl, HU.out.trans (u3.prop.mono HU.out.size), fun b hb => Nat.le_trans HU.out.size (owns_block HO2.out hb), ownedB_list (n := 0 + xs.length + ys.length) (base := W0.heap.size) ?_ (by simp) (by have := HL.out; omega)⟩
 have := HO2.out
 rw [List.nil_append, ← flatB_append] at this
 exact this
theorem ConcatI_calls (GS : Nat) (v1 v2 : Value) (xs ys : List Int) (w : World) (h1 : SlAt enI w v1 xs) (h2 : SlAt enI w v2 ys) (c1 : w.cell? ⟨GS, 0, none⟩ = some v1) (c2 : w.cell? ⟨GS, 1, none⟩ = some v2) (hl : xs.length + ys.length ≤ 1000) :
 Calls Tryz.prog 45 #[.slice (some ⟨GS, 0, none⟩) 2 2] w fun e w' => ∃ v, e = .returned v ∧ Below w.heap.size w w' ∧ (∀ b, v.ownBlock = some b → w.heap.size ≤ b) ∧ SlN enI w' v (xs ++ ys) := by
 have H1 := Lib.hid h1
 have H2 := Lib.hid h2
 obtain ⟨A, c, rfl, -, -, -⟩ := h1
 obtain ⟨A', c', rfl, -, -, -⟩ := h2
 have d1 := Later.cell c1
 have d2 := Later.cell c2
 have hn1 : (xs.length : Int) ≤ 1000 := by omega
 have hn2 : (ys.length : Int) ≤ 1000 := by omega
 have hn3 : (xs.length : Int) + ys.length ≤ 1000 := by omega
 have hp1 : (0 : Int) ≤ xs.length := by omega
 have hp2 : (0 : Int) ≤ ys.length := by omega
 obtain ⟨n, hn⟩ : ∃ n, n = xs.length := ⟨_, rfl⟩
 obtain ⟨m, hm⟩ : ∃ m, m = ys.length := ⟨_, rfl⟩
 have HN := Lib.hid hn
 have HM := Lib.hid hm
 have HL := Lib.hid hl
 rw [← hn] at c1 d1 hn1 hn3 hp1 hl H1
 rw [← hm] at c2 d2 hn2 hn3 hp2 hl H2
 clear hn hm c1 c2
 go_enter Tryz.func45, Tryz.ntmps45
 go_upto_region 1 with fail
 refine at_world (w := w) ?_
 intro u0
 go_wp2
 refine wp_loop_rounds 3 ?_
 rw [rounds_succ]
 go_wp2
 rw [rounds_succ]
 go_wp2
 rw [rounds_succ]
 go_wp2_with (go_at_call 69; refine (Grow_calls (n + m) _ (by omega)).mono ?_; rintro e w' ⟨gv, rfl, hb, hown⟩; have HB := Lib.hid hb; have HOWN := Lib.hid hown; clear hb hown)
 have HU := Lib.hid u0.prop
 have K1 := Lib.hid (H1.out.later u0)
 have K2 := Lib.hid (H2.out.later u0)
 have e1 := Later.re d1 ⟨u0, rfl⟩
 have e2 := Later.re d2 ⟨u0, rfl⟩
 clear d1 d2
 generalize u0.val = W0 at *
 obtain ⟨u1, hu1⟩ := laterC_step (w1 := W0) (LaterC.refl _) HB.out
 subst hu1
 have hS1 := K1.out.later u1
 obtain ⟨A1, c1, he1, -, -, hA1⟩ := hS1
 rw [← HN.out] at he1
 cases he1
 obtain ⟨x1, w1', hr1, ho1, hg1⟩ := append_list u1.val 24 W0.heap.size gv 0 [] HOWN.out u1.size A c xs hA1 (by have := HL.out; omega)
 obtain ⟨u2, hu2⟩ := laterC_grown ⟨u1, rfl⟩ HOWN.out hg1
 subst hu2
 have hS2 := K2.out.later u2
 obtain ⟨A2, c2, he2, -, -, hA2⟩ := hS2
 rw [← HM.out] at he2
 cases he2
 obtain ⟨x2, w2', hr2, ho2, hg2⟩ := append_list u2.val 24 W0.heap.size x1 (0 + xs.length) ([] ++ xs.map (Value.int .i64)) ho1 u2.size A' c' ys hA2 (by have := HL.out; omega)
 obtain ⟨u3, hu3⟩ := laterC_grown ⟨u2, rfl⟩ ho1 hg2
 subst hu3
 rw [← HN.out] at hr1
 rw [← HM.out] at hr2
 have HR1 := Lib.hid hr1
 have HR2 := Lib.hid hr2
 have HO2 := Lib.hid ho2
 clear hr1 hr2 ho1 ho2 hg1 hg2 hA1 hA2
 refine wp_loop_rounds 3 ?_
 rw [rounds_succ]
 go_wp2_with (at_builtin; refine Lib.wpList_append_run _ (by rfl) _ _ _ _ (by rfl) _ _ (by rfl) (by rfl) _ _ HR1.out ?_)
 rw [rounds_succ]
 go_wp2_with (at_builtin; refine Lib.wpList_append_run _ (by rfl) _ _ _ _ (by rfl) _ _ (by rfl) (by rfl) _ _ HR2.out ?_)
 rw [rounds_succ]
 go_wp2
 go_ret
 refine ⟨_, rfl, HU.out.trans (u3.prop.mono HU.out.size), fun b hb => Nat.le_trans HU.out.size (owns_block HO2.out hb), owned_list (n := 0 + xs.length + ys.length) (base := W0.heap.size) ?_ (by simp) (by have := HL.out; omega)⟩
 have := HO2.out
 rw [List.nil_append, ← List.map_append] at this
 exact this
end Go.Proofs.YthejgnabgglmhaaGreat
namespace Go.Proofs.YthejgnabgglmhaaGreat
open Go.RowKit
structure KEnv (M : Md) (W0 : World) (g o mb mk : Nat) (s0 s1 s2 : Value) (w : World) : Prop where
 co : w.cell? ⟨o, 0, none⟩ = some (.slice (some ⟨g, 0, none⟩) M.nodes.length M.nodes.length)
 c0 : w.cell? ⟨mb, 0, none⟩ = some s0
 c1 : w.cell? ⟨mb, 1, none⟩ = some s1
 c2 : w.cell? ⟨mb, 2, none⟩ = some s2
 ck : w.cell? ⟨mk, 0, none⟩ = some (.func (.func 50) #[] #[.pointer (some ⟨o, 0, none⟩), .pointer (some ⟨mb, 0, none⟩), .pointer (some ⟨mk, 0, none⟩)])
 a0 : SlAt enNd W0 s0 M.nodes
 a1 : SlAt enBd W0 s1 M.inits
 a2 : SlAt enBd W0 s2 M.nexts
 bl : Below W0.heap.size W0 w
 hg : W0.heap.size ≤ g
 no : o ≠ g
 nb : mb ≠ g
 nk : mk ≠ g
theorem KEnv.but {M : Md} {W0 : World} {g o mb mk : Nat} {s0 s1 s2 : Value} {w w' : World} (h : KEnv M W0 g o mb mk s0 s1 s2 w) (hb : But (fun b => b = g) w w') : KEnv M W0 g o mb mk s0 s1 s2 w' :=
 ⟨cell_but h.co hb h.no, cell_but h.c0 hb h.nb, cell_but h.c1 hb h.nb, cell_but h.c2 hb h.nb, cell_but h.ck hb h.nk, h.a0, h.a1, h.a2, h.bl.trans (hb.below (fun k e => by subst e; exact h.hg) h.bl.size), h.hg, h.no, h.nb, h.nk⟩
def MarkPost (M : Md) (g a : Nat) (L : List Bool) (w : World) (e : Ending) (w' : World) : Prop := ∃ L', e = .returned (.tuple #[]) ∧ But (fun b => b = g) w w' ∧ OwnL w' g L' ∧ MarkP M a L L'
def RunK (M : Md) (W0 : World) (g o mb mk : Nat) (s0 s1 s2 : Value) (a : Nat) (L : List Bool) (w : World) (L' : List Bool) (wr : World) : Prop :=
 KEnv M W0 g o mb mk s0 s1 s2 wr ∧ OwnL wr g L' ∧ MidP M a L L' ∧ But (fun b => b = g) w wr
theorem RunK.below {M : Md} {W0 : World} {g o mb mk : Nat} {s0 s1 s2 : Value} {a : Nat} {L L' : List Bool} {w wr W : World} (h : RunK M W0 g o mb mk s0 s1 s2 a L w L' wr) (hb : Below wr.heap.size wr W) : RunK M W0 g o mb mk s0 s1 s2 a L w L' W :=
 ⟨h.1.but (.of_below hb), h.2.1.below hb, h.2.2.1, h.2.2.2.trans (.of_below hb)⟩
theorem RunK.step {M : Md} {W0 : World} {g o mb mk : Nat} {s0 s1 s2 : Value} {a p : Nat} {L L' L'' : List Bool} {w wr W : World} (h : RunK M W0 g o mb mk s0 s1 s2 a L w L' wr) (hs : Succ M a p) (hb : But (fun b => b = g) wr W) (ho : OwnL W g L'') (hm : MarkP M p L' L'') : RunK M W0 g o mb mk s0 s1 s2 a L w L'' W :=
 ⟨h.1.but hb, ho, h.2.2.1.step hs hm, h.2.2.2.trans hb⟩
theorem part_cell (x : Nd) {m : Nat} (h : m < 3) : (#[Value.int .i64 x.a, .int .i64 x.b, .int .i64 x.c] : Array Value)[m]? = some (.int .i64 (x.part m)) := by
 rcases (show m = 0 ∨ m = 1 ∨ m = 2 by omega) with rfl | rfl | rfl <;> rfl
theorem mark_calls (M : Md) (hco : codeN M = 0) (W0 : World) (g o mb mk : Nat) (s0 s1 s2 : Value) : ∀ (N : Nat) (L : List Bool) (a : Nat) (w : World), fls L ≤ N → KEnv M W0 g o mb mk s0 s1 s2 w → OwnL w g L → L.length = M.nodes.length → a < M.nodes.length →
 Calls Tryz.prog 50 #[.int .i64 (a : Int), .pointer (some ⟨o, 0, none⟩), .pointer (some ⟨mb, 0, none⟩), .pointer (some ⟨mk, 0, none⟩)] w (MarkPost M g a L w) := by
 intro N
 induction N with
 | zero =>
   intro L a w hf hK hO hl ha
   have ht : tt L a := by
    rcases Classical.em (tt L a) with h | h
    · exact h
    · have := fls_set (show a < L.length by omega) h; omega
   have c0 := hO.cell (show a < L.length by omega)
   rw [show L.getD a false = true from ht] at c0
   have co := hK.co
   have HP := Lib.hid (show MarkPost M g a L w (.returned (.tuple #[])) w from ⟨L, rfl, .refl _ _, hO, MarkP.refl ht⟩)
   have ha' : (a : Int) < M.nodes.length := by omega
   clear hK hO ht hl hf
   generalize M.nodes.length = n at *
   go_enter Tryz.func50, Tryz.ntmps50
   go_wp2
   exact bodyPost_ret (v := .tuple #[]) (results_none (by kernel_rfl) _ _ _) rfl HP.out
 | succ N ih =>
   intro L a w hf hK hO hl ha
   have ha' : (a : Int) < M.nodes.length := by omega
   have c0 := hO.cell (show a < L.length by omega)
   have f0 := hO.frozen a
   have co := hK.co
   obtain ⟨q, hq⟩ : ∃ q, L.getD a false = q := ⟨_, rfl⟩
   rw [hq] at c0
   have hq' := hq
   rcases q with _ | _
   rotate_left
   · have HP := Lib.hid (show MarkPost M g a L w (.returned (.tuple #[])) w from ⟨L, rfl, .refl _ _, hO, MarkP.refl hq⟩)
     clear hK hO hq hl hf ih
     generalize M.nodes.length = n at *
     go_enter Tryz.func50, Tryz.ntmps50
     go_wp2
     exact bodyPost_ret (v := .tuple #[]) (results_none (by kernel_rfl) _ _ _) rfl HP.out
   · have hnt : ¬ tt L a := by unfold tt; rw [hq]; exact Bool.false_ne_true
     have hR := fls_set (show a < L.length by omega) hnt
     have HR := Lib.hid (show RunK M W0 g o mb mk s0 s1 s2 a L w (L.set a true) (w.setCell ⟨g, a, none⟩ (.bool true)) from ⟨hK.but ((But.refl (fun b => b = g) w).setCell rfl _), hO.set a, .start (by omega) hnt, (But.refl (fun b => b = g) w).setCell rfl _⟩)
     have HLL := Lib.hid hl
     have HIH := Lib.hid (show ∀ (L' : List Bool) (b : Nat) (W : World), fls L' < fls L → KEnv M W0 g o mb mk s0 s1 s2 W → OwnL W g L' → L'.length = L.length → b < M.nodes.length → Calls Tryz.prog 50 #[.int .i64 (b : Int), .pointer (some ⟨o, 0, none⟩), .pointer (some ⟨mb, 0, none⟩), .pointer (some ⟨mk, 0, none⟩)] W (MarkPost M g b L' W) from fun L' b W h1 h2 h3 h4 h5 => ih L' b W (by omega) h2 h3 (by omega) h5)
     have HCO := Lib.hid hco
     have heg : ∀ (args : Array Value) (w : World), (callFunc 50 args).run Tryz.prog w = .ok (.enter 50 args) w := fun _ _ => rfl
     obtain ⟨A, c, hs0, hnc, hc', hA⟩ := hK.a0
     obtain ⟨bn, on, rfl, hx⟩ := hA a _ (getD_at ha Nd.zero)
     have hnd := nodes_down (code_q hco).2.1
     have hmem := List.mem_of_getElem? (getD_at ha Nd.zero)
     have hpos := nodes_pos (code_q hco).2.1 _ hmem
     obtain ⟨x, hxe⟩ : ∃ x, M.nodes.getD a Nd.zero = x := ⟨_, rfl⟩
     rw [hxe] at hx hpos
     have HX := Lib.hid hxe
     have HDN := Lib.hid (show ∀ m : Nat, m < 3 → (m : Int) < partsN x.kind → 0 ≤ x.part m ∧ x.part m < a from fun m h1 h2 => by
      have := hnd a ha m h1 (by rw [hxe]; exact h2)
      rw [hxe] at this
      exact this)
     obtain ⟨pk, hpk⟩ := Int.eq_ofNat_of_zero_le hpos
     have hpk3 : pk ≤ 3 := by have := partsN_le x.kind; omega
     have hpk3' : (pk : Int) ≤ 3 := by omega
     have HPN := Lib.hid hpk
     have HXC := Lib.hid (show ∀ W, KEnv M W0 g o mb mk s0 s1 s2 W → CellsAt enNd W bn on a x from fun W hk => hx.below hk.bl)
     have cb0 := HR.out.1.c0
     rw [hs0] at cb0
     have HS0 := Lib.hid hs0
     generalize hn : M.nodes.length = n at *
     have HN := Lib.hid hn
     clear hK hO hq hl hf ih hnt hR hco hA hx hnd hmem hpos hxe hs0 hpk hn
     go_enter Tryz.func50, Tryz.ntmps50
     go_upto_region 2 with fail
     have HXW := Lib.hid (HXC.out _ HR.out.1)
     generalize w.setCell ⟨g, a, none⟩ (.bool true) = w1 at *
     have q0 : w1.cell? ⟨bn, on + a * 9, none⟩ = some (.int .i64 x.kind) := HXW.out 0 _ rfl
     have q1 : w1.cell? ⟨bn, on + a * 9 + 1, none⟩ = some (.int .i64 x.a) := HXW.out 1 _ rfl
     have q2 : w1.cell? ⟨bn, on + a * 9 + 2, none⟩ = some (.int .i64 x.b) := HXW.out 2 _ rfl
     have q3 : w1.cell? ⟨bn, on + a * 9 + 3, none⟩ = some (.int .i64 x.c) := HXW.out 3 _ rfl
     have q4 : w1.cell? ⟨bn, on + a * 9 + 4, none⟩ = some (.int .i64 x.n) := HXW.out 4 _ rfl
     have q5 : w1.cell? ⟨bn, on + a * 9 + 5, none⟩ = some (.int .i64 x.m) := HXW.out 5 _ rfl
     have q6 : w1.cell? ⟨bn, on + a * 9 + 6, none⟩ = some (.int .i64 x.idx) := HXW.out 6 _ rfl
     have q7 : w1.cell? ⟨bn, on + a * 9 + 7, none⟩ = some (.int .i64 x.wid) := HXW.out 7 _ rfl
     have q8 : w1.cell? ⟨bn, on + a * 9 + 8, none⟩ = some (.string x.name) := HXW.out 8 _ rfl
     clear c0 f0 co
     go_upto_region 3 with fail
     have HR2 := Lib.hid (HR.out.below (box_below w1 #[.int .i64 x.kind, .int .i64 x.a, .int .i64 x.b, .int .i64 x.c, .int .i64 x.n, .int .i64 x.m, .int .i64 x.idx, .int .i64 x.wid, .string x.name] 62))
     have HGX := Lib.hid (show w1.heap.size < (w1.alloc (Obj.cells #[.int .i64 x.kind, .int .i64 x.a, .int .i64 x.b, .int .i64 x.c, .int .i64 x.n, .int .i64 x.m, .int .i64 x.idx, .int .i64 x.wid, .string x.name] 62)).heap.size by simp)
     have x0 : ∀ l : Later (w1.alloc (Obj.cells #[.int .i64 x.kind, .int .i64 x.a, .int .i64 x.b, .int .i64 x.c, .int .i64 x.n, .int .i64 x.m, .int .i64 x.idx, .int .i64 x.wid, .string x.name] 62)), l.val.cell? ⟨w1.heap.size, 0, none⟩ = some (.int .i64 x.kind) := box_cell w1 #[.int .i64 x.kind, .int .i64 x.a, .int .i64 x.b, .int .i64 x.c, .int .i64 x.n, .int .i64 x.m, .int .i64 x.idx, .int .i64 x.wid, .string x.name] 62 0 _ rfl
     have x1 : ∀ l : Later (w1.alloc (Obj.cells #[.int .i64 x.kind, .int .i64 x.a, .int .i64 x.b, .int .i64 x.c, .int .i64 x.n, .int .i64 x.m, .int .i64 x.idx, .int .i64 x.wid, .string x.name] 62)), l.val.cell? ⟨w1.heap.size, 1, none⟩ = some (.int .i64 x.a) := box_cell w1 #[.int .i64 x.kind, .int .i64 x.a, .int .i64 x.b, .int .i64 x.c, .int .i64 x.n, .int .i64 x.m, .int .i64 x.idx, .int .i64 x.wid, .string x.name] 62 1 _ rfl
     have x2 : ∀ l : Later (w1.alloc (Obj.cells #[.int .i64 x.kind, .int .i64 x.a, .int .i64 x.b, .int .i64 x.c, .int .i64 x.n, .int .i64 x.m, .int .i64 x.idx, .int .i64 x.wid, .string x.name] 62)), l.val.cell? ⟨w1.heap.size, 2, none⟩ = some (.int .i64 x.b) := box_cell w1 #[.int .i64 x.kind, .int .i64 x.a, .int .i64 x.b, .int .i64 x.c, .int .i64 x.n, .int .i64 x.m, .int .i64 x.idx, .int .i64 x.wid, .string x.name] 62 2 _ rfl
     have x3 : ∀ l : Later (w1.alloc (Obj.cells #[.int .i64 x.kind, .int .i64 x.a, .int .i64 x.b, .int .i64 x.c, .int .i64 x.n, .int .i64 x.m, .int .i64 x.idx, .int .i64 x.wid, .string x.name] 62)), l.val.cell? ⟨w1.heap.size, 3, none⟩ = some (.int .i64 x.c) := box_cell w1 #[.int .i64 x.kind, .int .i64 x.a, .int .i64 x.b, .int .i64 x.c, .int .i64 x.n, .int .i64 x.m, .int .i64 x.idx, .int .i64 x.wid, .string x.name] 62 3 _ rfl
     clear q0 q1 q2 q3 q4 q5 q6 q7 q8 cb0
     generalize w1.alloc (Obj.cells #[.int .i64 x.kind, .int .i64 x.a, .int .i64 x.b, .int .i64 x.c, .int .i64 x.n, .int .i64 x.m, .int .i64 x.idx, .int .i64 x.wid, .string x.name] 62) = w5 at *
     generalize w1.heap.size = GX at *
     have HQ := Lib.hid (show ∀ w', LaterC w5 w' → w'.cell? ⟨GX, 0, none⟩ = some (.int .i64 x.kind) ∧ w'.cell? ⟨GX, 1, none⟩ = some (.int .i64 x.a) ∧ w'.cell? ⟨GX, 2, none⟩ = some (.int .i64 x.b) ∧ w'.cell? ⟨GX, 3, none⟩ = some (.int .i64 x.c) from fun W h => by obtain ⟨v, rfl⟩ := h; exact ⟨x0 v, x1 v, x2 v, x3 v⟩)
     go_cut [32, 33, 34] (fun s l i wx => s = .slice (some ⟨w5.heap.size, 0, none⟩) pk 3 ∧ l = .int .i64 pk ∧ i = .int .i64 0 ∧ wx = (w5.alloc (Obj.cells #[.int .i64 x.a, .int .i64 x.b, .int .i64 x.c] 3)).drew)
     case first =>
      go_region_held3 (fun w' => w'.cell? ⟨GX, 0, none⟩ = some (.int .i64 x.kind) ∧ w'.cell? ⟨GX, 1, none⟩ = some (.int .i64 x.a) ∧ w'.cell? ⟨GX, 2, none⟩ = some (.int .i64 x.b) ∧ w'.cell? ⟨GX, 3, none⟩ = some (.int .i64 x.c)) ((refine HQ.out _ ?_; repeat (first | exact LaterC.refl _ | refine LaterC.drew' ?_ | refine LaterC.alloc' ?_ _))) (first | (go_at_call 51; refine (parts_same _ _).mono ?_; rintro e w' ⟨rfl, rfl⟩; rw [HPN.out]))
      all_goals go_wp2
      all_goals go_meet
      all_goals (case rel => exact ⟨rfl, rfl, rfl, rfl⟩)
     case rest =>
      obtain ⟨rfl, rfl, rfl, rfl⟩ := hcut
      have HP6 := Lib.hid (show OwnB (w5.alloc (Obj.cells #[.int .i64 x.a, .int .i64 x.b, .int .i64 x.c] 3)).drew w5.heap.size 3 #[.int .i64 x.a, .int .i64 x.b, .int .i64 x.c] from OwnB.new w5 3 #[.int .i64 x.a, .int .i64 x.b, .int .i64 x.c])
      have HR6 := Lib.hid (HR2.out.below (show Below w5.heap.size w5 (w5.alloc (Obj.cells #[.int .i64 x.a, .int .i64 x.b, .int .i64 x.c] 3)).drew from (box_below _ _ _).drew))
      have HNE := Lib.hid (show w5.heap.size ≠ g from fun e => by have := HR2.out.2.1.lt; omega)
      generalize (w5.alloc (Obj.cells #[.int .i64 x.a, .int .i64 x.b, .int .i64 x.c] 3)).drew = w6 at *
      generalize w5.heap.size = GP at *
      clear x0 x1 x2 x3 HR HR2
      go_wp2
      go_loopw [34] (fun i wi => ∃ (m : Nat) (L' : List Bool), m ≤ pk ∧ i = .int .i64 m ∧ Hid (RunK M W0 g o mb mk s0 s1 s2 a L w L' wi ∧ OwnB wi GP 3 #[.int .i64 x.a, .int .i64 x.b, .int .i64 x.c] ∧ ∀ j, j < m → tt L' (x.part j).toNat)) (fun i _ => pk - (intOf i).toNat)
      case atStart => exact ⟨0, _, Nat.zero_le _, rfl, Lib.hid ⟨HR6.out, HP6.out, fun j hj => absurd hj (Nat.not_lt_zero _)⟩⟩
      case round =>
       obtain ⟨m, L', hm, rfl, HI⟩ := hrel
       by_cases hlm : m < pk
       · have hm3 : m < 3 := by omega
         have hmk : (m : Int) < pk := by omega
         have hin := HDN.out m hm3 (by rw [HPN.out]; omega)
         have hpm : wr.cell? ⟨GP, m, none⟩ = some (.int .i64 (x.part m)) := (HI.out.2.1.cell m).trans (part_cell x hm3)
         obtain ⟨pp, hpp⟩ : ∃ pp, x.part m = pp := ⟨_, rfl⟩
         rw [hpp] at hpm hin
         obtain ⟨p, rfl⟩ := Int.eq_ofNat_of_zero_le hin.1
         have hpn : p < n := by omega
         have HSU := Lib.hid (show Succ M a p from .inl ⟨m, hm3, by rw [HX.out, HPN.out]; omega, by rw [HX.out]; exact hpp⟩)
         have HPP := Lib.hid hpp
         have ck := HI.out.1.1.ck
         clear hin hpp
         go_wp2_with fail
         refine (HIH.out L' p _ HI.out.1.2.2.1.2.2.2.2.2 HI.out.1.1 HI.out.1.2.1 HI.out.1.2.2.1.1 hpn).mono ?_
         rintro e w' ⟨L2, rfl, hbut, hown, hmp⟩
         have HI2 := Lib.hid (show RunK M W0 g o mb mk s0 s1 s2 a L w L2 w' ∧ OwnB w' GP 3 #[.int .i64 x.a, .int .i64 x.b, .int .i64 x.c] ∧ (∀ j, j < m + 1 → tt L2 (x.part j).toNat) from ⟨HI.out.1.step HSU.out hbut hown hmp, HI.out.2.1.but hbut HNE.out, fun j hj => by
          rcases Nat.lt_or_ge j m with e | e
          · exact hmp.2.1 _ (HI.out.2.2 j e)
          · obtain rfl : j = m := by omega
            rw [HPP.out, Int.toNat_natCast]
            exact hmp.2.2.1⟩)
         clear hbut hown hmp
         go_wp2
         go_roundw
         case rel => exact ⟨m + 1, L2, by omega, by go_num, HI2⟩
         case measure => simp [intOf] <;> omega
       · obtain rfl : m = pk := by omega
         have HPT := Lib.hid (show ∀ j, IsPart M.nodes a j → tt L' j from fun j ⟨m', h1, h2, h3⟩ => by
          rw [HX.out] at h2 h3
          rw [HPN.out] at h2
          have := HI.out.2.2 m' (by omega)
          rw [h3, Int.toNat_natCast] at this
          exact this)
         have HRK := Lib.hid HI.out.1
         have b1 := HRK.out.1.c1
         have b2 := HRK.out.1.c2
         have hbig := (code_q HCO.out).1
         have HLN := Lib.hid (show M.inits.length + M.nexts.length ≤ 1000 by
          unfold bigB at hbig
          simp only [Bool.or_eq_false_iff, decide_eq_false_iff_not] at hbig
          omega)
         have HA1 := Lib.hid (HRK.out.1.a1.below HRK.out.1.bl)
         have HA2 := Lib.hid (HRK.out.1.a2.below HRK.out.1.bl)
         have HGL := Lib.hid HRK.out.2.1.lt
         clear hbig HI
         obtain ⟨A1, e1, hs1, -⟩ := HA1.out
         obtain ⟨A2, e2, hs2, -⟩ := HA2.out
         subst hs1
         subst hs2
         have hba := box_below wr #[.slice A1 M.inits.length e1, .slice A2 M.nexts.length e2] 30
         have g1 : (wr.alloc (Obj.cells #[.slice A1 M.inits.length e1, .slice A2 M.nexts.length e2] 30)).cell? ⟨wr.heap.size, 0, none⟩ = some (.slice A1 M.inits.length e1) := by go_simp
         have g2 : (wr.alloc (Obj.cells #[.slice A1 M.inits.length e1, .slice A2 M.nexts.length e2] 30)).cell? ⟨wr.heap.size, 1, none⟩ = some (.slice A2 M.nexts.length e2) := by go_simp
         have hsz9 : wr.heap.size ≤ (wr.alloc (Obj.cells #[.slice A1 M.inits.length e1, .slice A2 M.nexts.length e2] 30)).heap.size := hba.size
         have HRKa := Lib.hid (HRK.out.below hba)
         have HA1a := Lib.hid (HA1.out.below hba)
         have HA2a := Lib.hid (HA2.out.below hba)
         go_wp2_with fail
         refine (ConcatB_calls wr.heap.size (.slice A1 M.inits.length e1) (.slice A2 M.nexts.length e2) M.inits M.nexts (wr.alloc (Obj.cells #[.slice A1 M.inits.length e1, .slice A2 M.nexts.length e2] 30)) HA1a.out HA2a.out g1 g2 HLN.out).mono ?_
         rintro e w' ⟨cv, rfl, hb, hge, hsl⟩
         have HRK2 := Lib.hid (HRKa.out.below hb)
         have HSC := Lib.hid hsl
         have HNG := Lib.hid (show ∀ b, cv.ownBlock = some b → b ≠ g from fun b hb' e => by have h1 := hge b hb'; have h2 := HGL.out; omega)
         clear hb hge hsl g1 g2 hba hsz9 HRKa HA1a HA2a
         obtain ⟨BA, bc, rfl, -, hbl, -⟩ := HSC.out
         have hbl2 : (M.inits ++ M.nexts).length ≤ 1000 := by rw [List.length_append]; exact HLN.out
         generalize hnb : (M.inits ++ M.nexts).length = nb at *
         have HNB := Lib.hid hnb
         clear hnb b1 b2 HA1 HA2
         go_wp2
         go_loopw [49] (fun i wi => ∃ (k : Nat) (L3 : List Bool), k ≤ nb ∧ i = .int .i64 k ∧ Hid (RunK M W0 g o mb mk s0 (.slice A1 M.inits.length e1) (.slice A2 M.nexts.length e2) a L w L3 wi ∧ SlN enBd wi (.slice BA nb bc) (M.inits ++ M.nexts) ∧ (∀ j, tt L' j → tt L3 j) ∧ ∀ j, j < k → ((M.inits ++ M.nexts).getD j Bd.zero).st = (a : Int) → tt L3 ((M.inits ++ M.nexts).getD j Bd.zero).nd.toNat)) (fun i _ => nb - (intOf i).toNat)
         case atStart => exact ⟨0, L', Nat.zero_le _, rfl, Lib.hid ⟨HRK2.out, HSC.out, fun _ h => h, fun j hj => absurd hj (Nat.not_lt_zero _)⟩⟩
         case round =>
          obtain ⟨k, L3, hk, rfl, HI⟩ := hrel
          by_cases hlt : k < nb
          · have hlt' : (k : Int) < nb := by omega
            have hget := getD_at (show k < (M.inits ++ M.nexts).length by rw [HNB.out]; exact hlt) Bd.zero
            obtain ⟨A', c', he, -, -, hAB⟩ := HI.out.2.1
            have heA : A' = BA := by injection he with h1 h2 h3; exact h1.symm
            rw [heA] at hAB
            clear he heA
            obtain ⟨bb, bo, rfl, hx⟩ := hAB k _ hget
            have hmem := List.mem_of_getElem? hget
            have hbq := binds_q HCO.out hmem
            obtain ⟨y, hy⟩ : ∃ y, (M.inits ++ M.nexts).getD k Bd.zero = y := ⟨_, rfl⟩
            rw [hy] at hx hmem hbq
            have HY := Lib.hid hy
            obtain ⟨d, hd⟩ := Int.eq_ofNat_of_zero_le hbq.2.1.1
            have hdn : d < n := by have := hbq.2.1.2; have := HN.out; omega
            have HD := Lib.hid hd
            have HMEM := Lib.hid hmem
            have p0 : wr.cell? ⟨bb, bo + k * 2, none⟩ = some (.int .i64 y.st) := hx 0 _ rfl
            have p1 : wr.cell? ⟨bb, bo + k * 2 + 1, none⟩ = some (.int .i64 (d : Int)) := (hx 1 _ rfl).trans (by rw [← hd])
            obtain ⟨s, hs⟩ : ∃ s, y.st = s := ⟨_, rfl⟩
            rw [hs] at p0
            have HS := Lib.hid hs
            clear hx hget hAB hmem hbq hy hd hs
            have hb9 := box_below wr #[.int .i64 s, .int .i64 (d : Int)] 65
            have HI9 := Lib.hid (show RunK M W0 g o mb mk s0 (.slice A1 M.inits.length e1) (.slice A2 M.nexts.length e2) a L w L3 (wr.alloc (Obj.cells #[.int .i64 s, .int .i64 (d : Int)] 65)) ∧ SlN enBd (wr.alloc (Obj.cells #[.int .i64 s, .int .i64 (d : Int)] 65)) (.slice (some ⟨bb, bo, none⟩) nb bc) (M.inits ++ M.nexts) from ⟨HI.out.1.below hb9, HI.out.2.1.below hb9⟩)
            have ck := HI9.out.1.1.ck
            clear hb9
            by_cases hsa : s = (a : Int)
            · subst hsa
              have HSU := Lib.hid (show Succ M a d from .inr ⟨y, HMEM.out, HS.out, by rw [HD.out, Int.toNat_natCast]⟩)
              go_wp2_with fail
              refine (HIH.out L3 d _ HI9.out.1.2.2.1.2.2.2.2.2 HI9.out.1.1 HI9.out.1.2.1 HI9.out.1.2.2.1.1 hdn).mono ?_
              rintro e w' ⟨L4, rfl, hbut, hown, hmp⟩
              have HI2 := Lib.hid (show RunK M W0 g o mb mk s0 (.slice A1 M.inits.length e1) (.slice A2 M.nexts.length e2) a L w L4 w' ∧ SlN enBd w' (.slice (some ⟨bb, bo, none⟩) nb bc) (M.inits ++ M.nexts) ∧ (∀ j, tt L' j → tt L4 j) ∧ (∀ j, j < k + 1 → ((M.inits ++ M.nexts).getD j Bd.zero).st = (a : Int) → tt L4 ((M.inits ++ M.nexts).getD j Bd.zero).nd.toNat) from ⟨HI9.out.1.step HSU.out hbut hown hmp, HI9.out.2.but hbut HNG.out, fun j hj => hmp.2.1 _ (HI.out.2.2.1 j hj), fun j hj hst => by
               rcases Nat.lt_or_ge j k with e | e
               · exact hmp.2.1 _ (HI.out.2.2.2 j e hst)
               · obtain rfl : j = k := by omega
                 rw [HY.out, HD.out, Int.toNat_natCast]
                 exact hmp.2.2.1⟩)
              clear hbut hown hmp
              go_wp2
              go_roundw
              case rel => exact ⟨k + 1, L4, by omega, by go_num, HI2⟩
              case measure => simp [intOf] <;> omega
            · have hne : (s == (a : Int)) = false := beq_eq_false_iff_ne.2 hsa
              have HI2 := Lib.hid (show RunK M W0 g o mb mk s0 (.slice A1 M.inits.length e1) (.slice A2 M.nexts.length e2) a L w L3 (wr.alloc (Obj.cells #[.int .i64 s, .int .i64 (d : Int)] 65)) ∧ SlN enBd (wr.alloc (Obj.cells #[.int .i64 s, .int .i64 (d : Int)] 65)) (.slice (some ⟨bb, bo, none⟩) nb bc) (M.inits ++ M.nexts) ∧ (∀ j, tt L' j → tt L3 j) ∧ (∀ j, j < k + 1 → ((M.inits ++ M.nexts).getD j Bd.zero).st = (a : Int) → tt L3 ((M.inits ++ M.nexts).getD j Bd.zero).nd.toNat) from ⟨HI9.out.1, HI9.out.2, HI.out.2.2.1, fun j hj hst => by
               rcases Nat.lt_or_ge j k with e | e
               · exact HI.out.2.2.2 j e hst
               · obtain rfl : j = k := by omega
                 rw [HY.out, HS.out] at hst
                 exact absurd hst hsa⟩)
              clear HI HI9
              go_wp2
              go_roundw
              case rel => exact ⟨k + 1, L3, by omega, by go_num, HI2⟩
              case measure => simp [intOf] <;> omega
          · obtain rfl : nb = k := by omega
            have HP := Lib.hid (show MarkPost M g a L w (.returned (.tuple #[])) wr from ⟨L3, rfl, HI.out.1.2.2.2, HI.out.1.2.1, HI.out.1.2.2.1.done fun j hj => by
             rcases hj with hj | ⟨b, h1, h2, rfl⟩
             · exact HI.out.2.2.1 j (HPT.out j hj)
             · obtain ⟨i, hi⟩ := List.getElem?_of_mem h1
               have hil := (List.getElem?_eq_some_iff.1 hi).1
               have hg := getD_at hil Bd.zero
               rw [hi] at hg
               have hgb : b = (M.inits ++ M.nexts).getD i Bd.zero := Option.some.inj hg
               rw [hgb] at h2 ⊢
               exact HI.out.2.2.2 i (by have := HNB.out; omega) h2⟩)
            go_wp2
            exact bodyPost_end (results_none (by kernel_rfl) _ _ _) rfl HP.out
end Go.Proofs.YthejgnabgglmhaaGreat
