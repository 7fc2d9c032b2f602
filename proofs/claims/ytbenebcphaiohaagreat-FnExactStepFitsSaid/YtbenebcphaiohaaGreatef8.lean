import Derived.Test.YtbenebcphaiohaaGreatef7
import Derived.Test.YtbenebcphaiohaaGreatef1
import Derived.Test.YtbenebcphaiohaaGreatef4
import Derived.WalkKit
import Derived.ProofKit
import Derived.OpenShut
import Derived.ShutString
import Derived.ChangeOld
import Derived.Below
import Derived.SizedLaws
import Derived.RowKit3
import Derived.Carry
import Derived.Deep.Slices
import Derived.Lib.SmallJoins
import Derived.Laws.IdiomStrings
import Derived.LoopN
import Derived.Deep.RegionHeld3
import Derived.Lib.AppendZeros
import Derived.Deep.AppendLies
set_option linter.unusedVariables false
set_option linter.unusedSimpArgs false
set_option maxRecDepth 8000
set_option maxHeartbeats 16000000
namespace Go.Proofs.YtbenebcphaiohaaGreat
open Go.RowKit
structure But (S : Nat → Prop) (w w' : World) : Prop where
 os : w'.os = w.os
 tape : w'.tape = w.tape
 output : w'.output = w.output
 size : w.heap.size ≤ w'.heap.size
 block : ∀ k, k < w.heap.size → ¬ S k → w'.heap[k]? = w.heap[k]?
theorem But.refl (S : Nat → Prop) (w : World) : But S w w := ⟨rfl, rfl, rfl, Nat.le_refl _, fun _ _ _ => rfl⟩
theorem But.trans {S : Nat → Prop} {a b c : World} (h : But S a b) (k : But S b c) : But S a c :=
 ⟨k.os.trans h.os, k.tape.trans h.tape, k.output.trans h.output, Nat.le_trans h.size k.size, fun i hi hn => (k.block i (Nat.lt_of_lt_of_le hi h.size) hn).trans (h.block i hi hn)⟩
theorem But.mono {S T : Nat → Prop} {a b : World} (h : But S a b) (hs : ∀ k, S k → T k) : But T a b := ⟨h.os, h.tape, h.output, h.size, fun k hk hn => h.block k hk fun hS => hn (hs k hS)⟩
theorem But.of_below {S : Nat → Prop} {w w' : World} (h : Below w.heap.size w w') : But S w w' := ⟨h.os, h.tape, h.output, h.size, fun k hk _ => h.block k hk⟩
theorem But.below {S : Nat → Prop} {w w' : World} {B : Nat} (h : But S w w') (hS : ∀ k, S k → B ≤ k) (hB : B ≤ w.heap.size) : Below B w w' :=
 ⟨h.os, h.tape, h.output, h.size, fun k hk => h.block k (by omega) fun hk' => by have := hS k hk'; omega⟩
theorem But.setCell {S : Nat → Prop} {w w' : World} (h : But S w w') {p : Addr} (hp : S p.block) (v : Value) : But S w (w'.setCell p v) := by
 refine ⟨h.os, h.tape, h.output, by simpa [World.setCell] using h.size, fun k hk hn => ?_⟩
 have : p.block ≠ k := fun e => hn (e ▸ hp)
 simp [World.setCell, Array.getElem?_modify, this, h.block k hk hn]
theorem OwnB.but {S : Nat → Prop} {w w' : World} {g : Nat} {T : TypeId} {cs : Array Value} (h : OwnB w g T cs) (hb : But S w w') (hg : ¬ S g) : OwnB w' g T cs := (hb.block g h.lt hg).trans h
theorem cell_but {S : Nat → Prop} {w w' : World} {a : Addr} {v : Value} (h : w.cell? a = some v) (hb : But S w w') (hg : ¬ S a.block) : w'.cell? a = some v := by
 have := hb.block a.block (World.block_lt_of_cell? _ _ h) hg
 unfold World.cell? at h ⊢
 rw [this]
 exact h
theorem SlN.but {α : Type} {E : En α} {S : Nat → Prop} {w w' : World} {v : Value} {xs : List α} (h : SlN E w v xs) (hb : But S w w') (hg : ∀ b, v.ownBlock = some b → ¬ S b) : SlN E w' v xs := by
 obtain ⟨A, c, rfl, h1, h2, h3⟩ := h
 refine ⟨A, c, rfl, h1, h2, fun i x hx => ?_⟩
 obtain ⟨b, o, rfl, hc⟩ := h3 i x hx
 exact ⟨b, o, rfl, fun f u hu => cell_but (hc f u hu) hb (hg b rfl)⟩
def RowI (w : World) (v : Value) (xs : List Int) : Prop :=
 xs.length ≤ 281474976710656 ∧ ((v = .slice none 0 0 ∧ xs = []) ∨ ∃ g cap cur, v = .slice (some ⟨g, 0, none⟩) xs.length cap ∧ OwnB w g 3 cur ∧ xs.length ≤ cap ∧ cur.size = cap ∧ ∀ (i : Nat) (x : Int), xs[i]? = some x → cur[i]? = some (Value.int .i64 x))
theorem RowI.slN {w : World} {v : Value} {xs : List Int} (h : RowI w v xs) : SlN enI w v xs := by
 obtain ⟨hl, ⟨rfl, rfl⟩ | ⟨g, cap, cur, rfl, ho, hc, hs, hf⟩⟩ := h
 · exact ⟨none, 0, rfl, Nat.le_refl _, by simp, fun i x hx => by simp at hx⟩
 · refine ⟨some ⟨g, 0, none⟩, cap, rfl, hc, hl, fun i x hx => ⟨g, 0, rfl, fun f u hu => ?_⟩⟩
   have hf0 : f = 0 := by
    have := (List.getElem?_eq_some_iff.1 hu).1
    simpa using this
   subst hf0
   have hu' : u = .int .i64 x := by simpa using hu.symm
   subst hu'
   rw [ho.cell]
   simpa using hf i x hx
theorem RowI.but {S : Nat → Prop} {w w' : World} {v : Value} {xs : List Int} (h : RowI w v xs) (hb : But S w w') (hg : ∀ b, v.ownBlock = some b → ¬ S b) : RowI w' v xs := by
 obtain ⟨hl, ⟨rfl, rfl⟩ | ⟨g, cap, cur, rfl, ho, r⟩⟩ := h
 · exact ⟨hl, .inl ⟨rfl, rfl⟩⟩
 · exact ⟨hl, .inr ⟨g, cap, cur, rfl, ho.but hb (hg g rfl), r⟩⟩
theorem RowI.lt {w : World} {v : Value} {xs : List Int} (h : RowI w v xs) {b : Nat} (hb : v.ownBlock = some b) : b < w.heap.size := by
 obtain ⟨-, ⟨rfl, -⟩ | ⟨g, cap, cur, rfl, ho, -⟩⟩ := h
 · cases hb
 · cases hb; exact ho.lt
theorem RowI.below {w w' : World} {v : Value} {xs : List Int} (h : RowI w v xs) (hb : Below w.heap.size w w') : RowI w' v xs := h.but (S := fun _ => False) (.of_below hb) fun _ _ h => h
theorem RowI.of_owns {w : World} {base n : Nat} {v : Value} {xs : List Int} (h : w.ownsRow base 3 1 v n (xs.map (Value.int .i64))) (hn : n = xs.length) (hl : xs.length ≤ 281474976710656) : RowI w v xs := by
 subst hn
 refine ⟨hl, ?_⟩
 rcases h.2 with ⟨rfl, h0⟩ | ⟨g, cap, cur, rfl, _, hg, hc, _, hs, ht⟩
 · exact .inl ⟨rfl, List.eq_nil_of_length_eq_zero h0⟩
 · refine .inr ⟨g, cap, cur, rfl, hg, hc, by rw [hs, Nat.mul_one], fun i x hx => ?_⟩
   have hi := (List.getElem?_eq_some_iff.1 hx).1
   have h1 : (cur.toList.take (xs.length * 1))[i]? = some (.int .i64 x) := by rw [ht, List.getElem?_map, hx]; rfl
   rw [List.getElem?_take_of_lt (by omega)] at h1
   simpa using h1
def marks (k : Int) (n : Nat) : List Int := (List.range n).map fun (i : Nat) => k + (i : Int)
theorem marks_length (k : Int) (n : Nat) : (marks k n).length = n := by simp [marks]
theorem marks_get {k : Int} {n i : Nat} (h : i < n) : (marks k n)[i]? = some (k + i) := by simp [marks, h]
theorem toModel_at (mv : Value) (M : Md) (w : World) (hM : MdAt w mv M) (h0 : M.nodes.length ≤ 1048576) (h1 : M.inits.length ≤ 1048576) (h2 : M.nexts.length ≤ 1048576) (h3 : M.bads.length ≤ 1048576) (h4 : M.holds.length ≤ 1048576) :
 Calls Tryz.prog 24 #[mv] w fun e w' => ∃ g0 g1 g2 g3 g4, e = .returned (.agg #[slOf g0 M.nodes, slOf g1 M.inits, slOf g2 M.nexts, slOf g3 M.bads, slOf g4 M.holds]) ∧ Below w.heap.size w w' ∧ MdAt w' (.agg #[slOf g0 M.nodes, slOf g1 M.inits, slOf g2 M.nexts, slOf g3 M.bads, slOf g4 M.holds]) M :=
 (toModel_calls mv M w hM h0 h1 h2 h3 h4).mono fun e w' ⟨g0, g1, g2, g3, g4, he, hb, _, _, _, _, f0, f1, f2, f3, f4⟩ =>
   ⟨_, _, _, _, _, he, hb, ⟨_, _, _, _, _, rfl, f0.slAt (by omega), f1.slAt (by omega), f2.slAt (by omega), f3.slAt (by omega), f4.slAt (by omega)⟩⟩
def placesN (kind : Int) (l : List Nd) : Nat → List Int
 | 0 => []
 | k + 1 => placesN kind l k ++ (if (l.getD k Nd.zero).kind == kind then [(k : Int)] else [])
theorem placesN_le (kind : Int) (l : List Nd) (k : Nat) : (placesN kind l k).length ≤ k := by
 induction k with
 | zero => exact Nat.le_refl _
 | succ k ih =>
   unfold placesN
   rw [List.length_append]
   split <;> simp <;> omega
theorem placesN_yes {kind : Int} {l : List Nd} {k : Nat} (h : ((l.getD k Nd.zero).kind == kind) = true) : placesN kind l (k + 1) = placesN kind l k ++ [(k : Int)] := by
 rw [placesN, if_pos h]
theorem placesN_no {kind : Int} {l : List Nd} {k : Nat} (h : ((l.getD k Nd.zero).kind == kind) = false) : placesN kind l (k + 1) = placesN kind l k := by
 rw [placesN, h]
 simp
theorem placesN_in {kind : Int} {l : List Nd} : ∀ {k : Nat} {p : Int}, p ∈ placesN kind l k → ∃ j : Nat, p = j ∧ j < k ∧ ((l.getD j Nd.zero).kind == kind) = true
 | k + 1, p, h => by
   by_cases hk : ((l.getD k Nd.zero).kind == kind) = true
   · rw [placesN_yes hk] at h
     rcases List.mem_append.1 h with h | h
     · obtain ⟨j, h1, h2, h3⟩ := placesN_in h
       exact ⟨j, h1, by omega, h3⟩
     · exact ⟨k, List.mem_singleton.1 h, by omega, hk⟩
   · rw [placesN_no (eq_false_of_ne_true hk)] at h
     obtain ⟨j, h1, h2, h3⟩ := placesN_in h
     exact ⟨j, h1, by omega, h3⟩
end Go.Proofs.YtbenebcphaiohaaGreat
namespace Go.Proofs.YtbenebcphaiohaaGreat
open Go.Joins Go.ChangeShapes Go.WideShapes Go.ChangeAt Go.RowKit Go.Deep
section
variable {H : Type} {enc : TypeId × Value → H} {w : World}
theorem list_of {α : Type} (Q : Nat → α → Prop) : ∀ (n : Nat), (∀ i, i < n → ∃ x, Q i x) → ∃ xs : List α, xs.length = n ∧ ∀ i x, xs[i]? = some x → Q i x
 | 0, _ => ⟨[], rfl, fun i x h => by simp at h⟩
 | n + 1, h => by
   obtain ⟨xs, hl, hx⟩ := list_of Q n fun i hi => h i (by omega)
   obtain ⟨y, hy⟩ := h n (by omega)
   refine ⟨xs ++ [y], by simp [hl], fun i x hi => ?_⟩
   rcases Nat.lt_trichotomy i n with g | g | g
   · rw [List.getElem?_append_left (by omega)] at hi
     exact hx i x hi
   · subst g
     rw [List.getElem?_append_right (by omega), hl, Nat.sub_self] at hi
     simp at hi
     exact hi ▸ hy
   · rw [List.getElem?_eq_none (by simp; omega)] at hi
     simp at hi
theorem weightsAll_mem' {P : Program} {e : TypeId} : ∀ {l : List (DataW H)} {d : DataW H}, d ∈ l → ∀ n ∈ d.weights P e, n ∈ DataW.weightsAll P e l
 | d' :: r, d, hd, n, hn => by
   simp only [DataW.weightsAll, List.mem_append]
   rcases List.mem_cons.1 hd with rfl | h
   · exact Or.inl hn
   · exact Or.inr (weightsAll_mem' h n hn)
theorem addr_at {a : Addr} (hs : a.spot = none) (k : Nat) : a.add k = ⟨a.block, a.off + k, none⟩ := by
 obtain ⟨b, o, s⟩ := a
 subst hs
 unfold Addr.add
 split
 · next h => subst h; rfl
 · rfl
theorem slAt_of {α : Type} (E : En α) (R : α → Prop) {t e : TypeId} (ht : Tryz.prog.underlying t = some (.slice e)) (hce : Tryz.prog.cellsOf e = E.sz) (hby : 1 ≤ Tryz.prog.bytesOf e) (hsz : 1 ≤ E.sz)
 (hel : ∀ (fuel : Nat) (cs : List Value) (d : DataW H) (p : List MemPlace), DataW.trod enc Tryz.prog w 0 (fun _ => true) true fuel e cs = some (d, p) → (∀ n ∈ d.weights Tryz.prog e, n ≤ reachBytes) → ∃ x, (∀ f u, (E.cells x)[f]? = some u → f < E.sz ∧ cs[f]? = some u) ∧ R x)
 {fuel : Nat} {v : Value} {d : DataW H} {p : List MemPlace} (h : DataW.trod enc Tryz.prog w 0 (fun _ => true) true fuel t [v] = some (d, p)) (hw : ∀ n ∈ d.weights Tryz.prog t, n ≤ reachBytes) :
 ∃ xs : List α, SlAt E w v xs ∧ ∀ x ∈ xs, R x := by
 rcases open_slice ht h with ⟨h0, -⟩ | ⟨a, len, cap, m, n, D, Pl, hv, hb, hl, hm, hmm, hx, hi⟩
 · simp at h0
   subst h0
   exact ⟨[], ⟨.none, 0, rfl, Nat.le_refl _, by omega, fun i x hx => by simp at hx⟩, fun x hx => by simp at hx⟩
 · simp at hv
   subst hv
   simp at hmm
   subst hmm
   simp only [Prod.mk.injEq] at hx
   obtain ⟨rfl, -⟩ := hx
   have hwt : ∀ n ∈ (((List.range len).map D).length + ((List.range (m - len)).map fun j => D (len + j)).length) * Tryz.prog.bytesOf e :: (DataW.weightsAll Tryz.prog e ((List.range len).map D) ++ DataW.weightsAll Tryz.prog e ((List.range (m - len)).map fun j => D (len + j))), n ≤ reachBytes := by
    intro n hn
    refine hw n ?_
    simp only [DataW.weights, ht]
    exact hn
   have hcap : m * Tryz.prog.bytesOf e ≤ reachBytes := by
    have := hwt _ List.mem_cons_self
    simpa [show len + (m - len) = m by omega] using this
   have hm8 : m ≤ 281474976710656 := by
    have h1 : m * 1 ≤ m * Tryz.prog.bytesOf e := Nat.mul_le_mul_left m hby
    have h2 : reachBytes = 140737488351232 := rfl
    omega
   obtain ⟨xs, hxl, hxs⟩ := list_of (fun i x => (∀ f u, (E.cells x)[f]? = some u → w.cell? ((a.add (i * E.sz)).add f) = some u) ∧ R x) len fun i hil => by
    obtain ⟨cs', hc, ht'⟩ := hi i (by omega)
    obtain ⟨x, hx, hR⟩ := hel _ cs' _ _ ht' fun n hn => hwt n (List.mem_cons_of_mem _ (List.mem_append_left _ (weightsAll_mem' (List.mem_map.2 ⟨i, List.mem_range.2 hil, rfl⟩) n hn)))
    rw [hce] at hc
    obtain ⟨_, _, hat⟩ := World.cells?_some hc
    refine ⟨x, fun f u hu => ?_, hR⟩
    obtain ⟨hf, hcs⟩ := hx f u hu
    exact (hat f hf).trans hcs
   refine ⟨xs, ⟨some a, m, by rw [hxl], by omega, hm8, fun i x hx => ?_⟩, fun x hx => ?_⟩
   · have hil : i < len := hxl ▸ (List.getElem?_eq_some_iff.1 hx).1
     have hsp : a.spot = none := by
      obtain ⟨cs', hc, -⟩ := hi 0 (by omega)
      rw [hce] at hc
      obtain ⟨_, hl', hat⟩ := World.cells?_some hc
      have h0 := hat 0 (by omega)
      rw [List.getElem?_eq_getElem (by omega)] at h0
      simpa [Addr.add] using World.cell?_spot h0
     obtain ⟨hc, -⟩ := hxs i x hx
     refine ⟨a.block, a.off, congrArg some (by rw [← hsp]), fun f u hu => ?_⟩
     have := hc f u hu
     rw [add_add, addr_at hsp] at this
     rw [Nat.add_assoc]
     exact this
   · obtain ⟨i, hi'⟩ := List.getElem?_of_mem hx
     exact (hxs i x hi').2
theorem one_cell {cs : List Value} {k : Nat} {c : Value} {T : TypeId} (hT : Tryz.prog.cellsOf T = 1) (hc : cs[k]? = some c) : (cs.drop k).take (Tryz.prog.cellsOf T) = [c] := by
 obtain ⟨hk, rfl⟩ := List.getElem?_eq_some_iff.1 hc
 rw [hT, List.drop_eq_getElem_cons hk]
 rfl
theorem int_el {fuel : Nat} {cs : List Value} {d : DataW H} {p : List MemPlace} (h : DataW.trod enc Tryz.prog w 0 (fun _ => true) true fuel 3 cs = some (d, p)) : ∃ x : Int, (∀ f u, (enI.cells x)[f]? = some u → f < enI.sz ∧ cs[f]? = some u) ∧ True := by
 obtain ⟨a, rfl, -, -⟩ := DataW.trod_int Tryz.underlying3 h
 refine ⟨a, fun f u hu => ?_, trivial⟩
 match f, hu with
 | 0, hu => exact ⟨Nat.lt_succ_self 0, hu⟩
theorem cells_int : Tryz.prog.cellsOf 3 = 1 := by kernel_rfl
theorem cells_str : Tryz.prog.cellsOf 9 = 1 := by kernel_rfl
theorem cells_sort : Tryz.prog.cellsOf 162 = 2 := by kernel_rfl
theorem cells_node : Tryz.prog.cellsOf 164 = 9 := by kernel_rfl
theorem cells_bind : Tryz.prog.cellsOf 169 = 2 := by kernel_rfl
theorem cells_mod : Tryz.prog.cellsOf 47 = 5 := by kernel_rfl
theorem int_cell {fuel : Nat} {cs : List Value} {k : Nat} {y : Option (DataW H × List MemPlace)} {x : DataW H × List MemPlace} (h : DataW.trod enc Tryz.prog w 0 (fun _ => true) true fuel 3 ((cs.drop k).take (Tryz.prog.cellsOf 3)) = y) (hy : y = some x) :
 ∃ a : Int, cs[k]? = some (.int .i64 a) ∧ (Lit.int .i64 a).wf = true := by
 obtain ⟨a, ha, -, hw⟩ := DataW.trod_int Tryz.underlying3 (h.trans hy)
 refine ⟨a, ?_, hw⟩
 rw [cells_int] at ha
 have := congrArg (·[0]?) ha
 simpa [List.getElem?_take, List.getElem?_drop] using this
theorem bind_el {fuel : Nat} {cs : List Value} {d : DataW H} {p : List MemPlace} (h : DataW.trod enc Tryz.prog w 0 (fun _ => true) true fuel 169 cs = some (d, p)) : ∃ x : Bd, (∀ f u, (enBd.cells x)[f]? = some u → f < enBd.sz ∧ cs[f]? = some u) ∧ (Lit.int .i64 x.st).wf = true := by
 obtain ⟨xs, n, -, -, -, hxl, hf⟩ := DataW.trod_struct Tryz.underlying169 h
 match xs, hxl with
 | [y0, y1], _ =>
   obtain ⟨a0, h0, w0⟩ := int_cell (hf 0 _ rfl) rfl
   obtain ⟨a1, h1, w1⟩ := int_cell (hf 1 _ rfl) rfl
   refine ⟨⟨a0, a1⟩, fun f u hu => ?_, w0⟩
   match f, hu with
   | 0, hu => exact ⟨Nat.zero_lt_succ _, h0.trans hu⟩
   | 1, hu => exact ⟨Nat.lt_succ_self _, h1.trans hu⟩
theorem node_el {fuel : Nat} {cs : List Value} {d : DataW H} {p : List MemPlace} (h : DataW.trod enc Tryz.prog w 0 (fun _ => true) true fuel 164 cs = some (d, p)) (hw : ∀ n ∈ d.weights Tryz.prog 164, n ≤ reachBytes) :
 ∃ x : Nd, (∀ f u, (enNd.cells x)[f]? = some u → f < enNd.sz ∧ cs[f]? = some u) ∧ x.name.size ≤ 140737488351232 := by
 obtain ⟨xs, n, -, hd, hcl, hxl, hf⟩ := DataW.trod_struct Tryz.underlying164 h
 simp only [Prod.mk.injEq] at hd
 obtain ⟨rfl, -⟩ := hd
 match xs, hxl with
 | [y0, y1, y2, y3, y4, y5, y6, y7], _ =>
   obtain ⟨a0, h0, -⟩ := int_cell (hf 0 _ rfl) rfl
   obtain ⟨a1, h1, -⟩ := int_cell (hf 1 _ rfl) rfl
   obtain ⟨a2, h2, -⟩ := int_cell (hf 2 _ rfl) rfl
   obtain ⟨a3, h3, -⟩ := int_cell (hf 3 _ rfl) rfl
   obtain ⟨a4, h4, -⟩ := int_cell (hf 4 _ rfl) rfl
   obtain ⟨a5, h5, -⟩ := int_cell (hf 5 _ rfl) rfl
   obtain ⟨zs, n', -, -, -, hzl, hg⟩ := DataW.trod_struct Tryz.underlying162 ((hf 6 _ rfl).trans (show [y0, y1, y2, y3, y4, y5, y6, y7][6]? = some (y6.1, y6.2) from rfl))
   match zs, hzl with
   | [z0, z1], _ =>
     obtain ⟨a6, h6, -⟩ := int_cell (hg 0 _ rfl) rfl
     obtain ⟨a7, h7, -⟩ := int_cell (hg 1 _ rfl) rfl
     obtain ⟨s, hs, hy, -⟩ := DataW.trod_string Tryz.underlying9 ((hf 7 _ rfl).trans (show [y0, y1, y2, y3, y4, y5, y6, y7][7]? = some y7 from rfl))
     have hs : (cs.drop 8).take (Tryz.prog.cellsOf 9) = [.string s] := hs
     have h6 : ((cs.drop 6).take (Tryz.prog.cellsOf 162))[0]? = some (.int .i64 a6) := h6
     have h7 : ((cs.drop 6).take (Tryz.prog.cellsOf 162))[1]? = some (.int .i64 a7) := h7
     rw [cells_str] at hs
     rw [cells_sort] at h6 h7
     have h8 : cs[8]? = some (.string s) := by
      have := congrArg (·[0]?) hs
      simpa [List.getElem?_take, List.getElem?_drop] using this
     have h6 : cs[6]? = some (.int .i64 a6) := by simpa [List.getElem?_take, List.getElem?_drop] using h6
     have h7 : cs[7]? = some (.int .i64 a7) := by simpa [List.getElem?_take, List.getElem?_drop] using h7
     refine ⟨⟨a0, a1, a2, a3, a4, a5, a6, a7, s⟩, fun f u hu => ?_, ?_⟩
     · match f, hu with
       | 0, hu => exact ⟨by decide, h0.trans hu⟩
       | 1, hu => exact ⟨by decide, h1.trans hu⟩
       | 2, hu => exact ⟨by decide, h2.trans hu⟩
       | 3, hu => exact ⟨by decide, h3.trans hu⟩
       | 4, hu => exact ⟨by decide, h4.trans hu⟩
       | 5, hu => exact ⟨by decide, h5.trans hu⟩
       | 6, hu => exact ⟨by decide, h6.trans hu⟩
       | 7, hu => exact ⟨by decide, h7.trans hu⟩
       | 8, hu => exact ⟨by decide, h8.trans hu⟩
     · have := hw s.data.toList.length (by
        simp only [DataW.weights, Tryz.underlying164]
        refine DataW.weights_mem_each (j := 7) (t := 9) (d := y7.1) rfl rfl _ ?_
        rw [hy]
        simp [DataW.weights])
       have h2 : reachBytes = 140737488351232 := rfl
       have h3 : s.data.toList.length = s.size := Array.length_toList
       show s.size ≤ _
       omega
theorem md_open {r : _root_.Go.Reach} {b0 : Nat} {v : Value} {d : DataW H} {p : List MemPlace} (hv : Value.okWide Tryz.prog w r b0 47 v) (h : DataW.Trod enc Tryz.prog w 0 (fun _ => true) true 47 v d p) (hw : ∀ n ∈ d.weights Tryz.prog 47, n ≤ reachBytes) :
 ∃ M : Md, MdAt w v M ∧ (∀ x, x ∈ M.nodes → x.name.size ≤ 140737488351232) ∧ (∀ b, b ∈ M.inits → (Lit.int .i64 b.st).wf = true) ∧ (∀ b, b ∈ M.nexts → (Lit.int .i64 b.st).wf = true) := by
 obtain ⟨cs, rfl, hsz⟩ := okWide_struct Tryz.underlying47 hv
 obtain ⟨l⟩ := cs
 match l, hsz.trans cells_mod with
 | [c0, c1, c2, c3, c4], _ =>
   obtain ⟨fuel, hf⟩ := h
   obtain ⟨xs, n, -, hd, -, hxl, hg⟩ := DataW.trod_struct Tryz.underlying47 hf
   have hd := congrArg Prod.fst hd
   have hd : d = .agg (xs.map (·.1)) := hd
   subst hd
   match xs, hxl with
   | [y0, y1, y2, y3, y4], _ =>
     have hwt : ∀ (j : Nat) t y, ([44, 45, 45, 25, 25] : List TypeId)[j]? = some t → ([y0.1, y1.1, y2.1, y3.1, y4.1] : List (DataW H))[j]? = some y → ∀ n ∈ y.weights Tryz.prog t, n ≤ reachBytes := fun j t y ht hy n hn => hw n (by
      show n ∈ DataW.weights Tryz.prog 47 (.agg [y0.1, y1.1, y2.1, y3.1, y4.1])
      rw [DataW.weights, Tryz.underlying47]
      exact DataW.weights_mem_each (j := j) ht hy n hn)
     have k0 : Tryz.prog.cellsOf 44 = 1 := by kernel_rfl
     have k1 : Tryz.prog.cellsOf 45 = 1 := by kernel_rfl
     have k2 : Tryz.prog.cellsOf 25 = 1 := by kernel_rfl
     obtain ⟨ns, hN, hn⟩ := slAt_of enNd (fun x => x.name.size ≤ 140737488351232) Tryz.underlying44 cells_node (by decide +kernel) (by decide) (fun _ _ _ _ h hw => node_el h hw) (d := y0.1) (p := y0.2) (v := c0) ((congrArg (DataW.trod enc Tryz.prog w 0 (fun _ => true) true n _) (one_cell (cs := [c0, c1, c2, c3, c4]) (k := 0) k0 rfl)).symm.trans (hg 0 _ rfl)) (hwt 0 _ _ rfl rfl)
     obtain ⟨is, hI, hi⟩ := slAt_of enBd (fun x => (Lit.int .i64 x.st).wf = true) Tryz.underlying45 cells_bind (by decide +kernel) (by decide) (fun _ _ _ _ h _ => bind_el h) (d := y1.1) (p := y1.2) (v := c1) ((congrArg (DataW.trod enc Tryz.prog w 0 (fun _ => true) true n _) (one_cell (cs := [c0, c1, c2, c3, c4]) (k := 1) k1 rfl)).symm.trans (hg 1 _ rfl)) (hwt 1 _ _ rfl rfl)
     obtain ⟨qs, hQ, hq⟩ := slAt_of enBd (fun x => (Lit.int .i64 x.st).wf = true) Tryz.underlying45 cells_bind (by decide +kernel) (by decide) (fun _ _ _ _ h _ => bind_el h) (d := y2.1) (p := y2.2) (v := c2) ((congrArg (DataW.trod enc Tryz.prog w 0 (fun _ => true) true n _) (one_cell (cs := [c0, c1, c2, c3, c4]) (k := 2) k1 rfl)).symm.trans (hg 2 _ rfl)) (hwt 2 _ _ rfl rfl)
     obtain ⟨bs, hB, -⟩ := slAt_of enI (fun _ => True) Tryz.underlying25 cells_int (by decide +kernel) (by decide) (fun _ _ _ _ h _ => int_el h) (d := y3.1) (p := y3.2) (v := c3) ((congrArg (DataW.trod enc Tryz.prog w 0 (fun _ => true) true n _) (one_cell (cs := [c0, c1, c2, c3, c4]) (k := 3) k2 rfl)).symm.trans (hg 3 _ rfl)) (hwt 3 _ _ rfl rfl)
     obtain ⟨hs, hH, -⟩ := slAt_of enI (fun _ => True) Tryz.underlying25 cells_int (by decide +kernel) (by decide) (fun _ _ _ _ h _ => int_el h) (d := y4.1) (p := y4.2) (v := c4) ((congrArg (DataW.trod enc Tryz.prog w 0 (fun _ => true) true n _) (one_cell (cs := [c0, c1, c2, c3, c4]) (k := 4) k2 rfl)).symm.trans (hg 4 _ rfl)) (hwt 4 _ _ rfl rfl)
     exact ⟨⟨ns, is, qs, bs, hs⟩, ⟨⟨c0, c1, c2, c3, c4, rfl, hN, hI, hQ, hB, hH⟩⟩, hn, hi, hq⟩
end
end Go.Proofs.YtbenebcphaiohaaGreat
namespace Go.Proofs.YtbenebcphaiohaaGreat
open Go.RowKit
def OwnP (w : World) (g : Nat) (T : TypeId) (m : Nat) (W : World) : Prop := ∃ cs, OwnB W g T cs ∧ cs.size = m ∧ But (· = g) w W
theorem OwnP.set {w W : World} {g : Nat} {T : TypeId} {m : Nat} (h : OwnP w g T m W) (i : Nat) (v : Value) : OwnP w g T m (W.setCell ⟨g, i, none⟩ v) := by
 obtain ⟨cs, h1, h2, h3⟩ := h
 exact ⟨_, h1.set i v, by simp [h2], h3.setCell rfl v⟩
theorem OwnP.below {w W W' : World} {g : Nat} {T : TypeId} {m : Nat} (h : OwnP w g T m W) (hb : Below W.heap.size W W') : OwnP w g T m W' := by
 obtain ⟨cs, h1, h2, h3⟩ := h
 exact ⟨cs, h1.below hb h1.lt, h2, h3.trans (.of_below hb)⟩
theorem OwnP.cell {w W : World} {g : Nat} {T : TypeId} {m : Nat} (h : OwnP w g T m W) {i : Nat} (hi : i < m) : ∃ v, W.cell? ⟨g, i, none⟩ = some v := by
 obtain ⟨cs, h1, rfl, h3⟩ := h
 exact ⟨cs[i], by rw [h1.cell, Array.getElem?_eq_getElem hi]⟩
theorem OwnP.frozen {w W : World} {g : Nat} {T : TypeId} {m : Nat} (h : OwnP w g T m W) (i : Nat) : W.frozen? ⟨g, i, none⟩ = false := by
 obtain ⟨cs, h1, -, -⟩ := h
 exact h1.frozen i
theorem OwnP.but {w W : World} {g : Nat} {T : TypeId} {m : Nat} (h : OwnP w g T m W) : But (· = g) w W := by
 obtain ⟨cs, h1, -, h3⟩ := h
 exact h3
theorem heldIntS_calls (v : Value) (k : Int) (n : Nat) (w : World) (h : SlN enI w v (marks k n)) (h0 : 0 ≤ k) (h1 : k + n ≤ 1000000000000) :
 Makes Tryz.prog 104 #[v, .int .i64 k] w (.int .i64 (k + n)) := by
 obtain ⟨A, c, rfl, hnc, hl, hA⟩ := h
 rw [marks_length] at hnc hl ⊢
 go_enter Tryz.func104, Tryz.ntmps104
 go_wp2
 go_loopw [1, 5] (fun kk i wr => ∃ (j : Nat) (t : Int), j ≤ n ∧ i = .int .i64 j ∧ kk = .int .i64 t ∧ 0 ≤ t ∧ t ≤ 1000000000000 ∧ Hid (t = k + j) ∧ LaterC w wr) (fun _ i _ => n - (intOf i).toNat)
 case atStart => exact ⟨0, k, Nat.zero_le _, rfl, rfl, by omega, by omega, Lib.hid (by simp), LaterC.refl _⟩
 case round =>
  obtain ⟨j, t, hj, rfl, rfl, ht0, ht1, HT, ⟨u, rfl⟩⟩ := hrel
  by_cases hlt : j < n
  · obtain ⟨b, o, rfl, hx⟩ := hA j _ (marks_get hlt)
    rw [← HT.out] at hx
    have p0 := hx.int (Below.refl _ _)
    have hb2 : t + 1 ≤ 1000000000000 := by have := HT.out; omega
    clear hA hx
    go_wp2
    go_roundw
    case rel => exact ⟨j + 1, t + 1, by omega, by go_num, rfl, by omega, hb2, Lib.hid (by have := HT.out; push_cast; omega), ⟨u, rfl⟩⟩
    case measure => simp [intOf] <;> omega
  · obtain rfl : j = n := by omega
    clear hA
    go_wp2
    go_ret
    exact ⟨ret_eq (congrArg (Value.int .i64) HT.out), u.prop⟩
theorem markIntS_calls (v : Value) (xs : List Int) (k : Int) (w : World) (h : RowI w v xs) (h0 : 0 ≤ k) (h1 : k + xs.length ≤ 1000000000000) :
 Calls Tryz.prog 50 #[v, .int .i64 k] w fun e w' => e = .returned (.int .i64 (k + xs.length)) ∧ But (fun b => v.ownBlock = some b) w w' ∧ RowI w' v (marks k xs.length) := by
 obtain ⟨hl, ⟨rfl, rfl⟩ | ⟨g, cap, cur, rfl, ho, hc, hs, hf⟩⟩ := h
 · go_enter Tryz.func50, Tryz.ntmps50
   go_wp2
   refine wp_loop_rounds 1 ?_
   rw [rounds_succ]
   go_wp2
   go_ret
   exact ⟨ret_eq (congrArg (Value.int .i64) (by simp)), .refl _ _, by simp [marks], .inl ⟨rfl, rfl⟩⟩
 · generalize xs.length = n at *
   have HO := Lib.hid ho
   have HS := Lib.hid hs
   clear ho hs hf
   go_enter Tryz.func50, Tryz.ntmps50
   go_wp2
   go_loopw [1, 5] (fun kk i wr => ∃ (j : Nat) (t : Int) (cs : Array Value), j ≤ n ∧ i = .int .i64 j ∧ kk = .int .i64 t ∧ 0 ≤ t ∧ t ≤ 1000000000000 ∧ Hid (t = k + j ∧ OwnB wr g 3 cs ∧ cs.size = cap ∧ (∀ i, i < j → cs[i]? = some (.int .i64 (k + i))) ∧ But (· = g) w wr)) (fun _ i _ => n - (intOf i).toNat)
   case atStart => exact ⟨0, k, cur, Nat.zero_le _, rfl, rfl, by omega, by omega, Lib.hid ⟨by simp, HO.out, HS.out, fun i hi => absurd hi (Nat.not_lt_zero _), .refl _ _⟩⟩
   case round =>
    obtain ⟨j, t, cs, hj, rfl, rfl, ht0, ht1, HT⟩ := hrel
    by_cases hlt : j < n
    · have hjc : j < cs.size := by have := HT.out.2.2.1; omega
      have p0 : wr.cell? ⟨g, j, none⟩ = some cs[j] := by rw [HT.out.2.1.cell, Array.getElem?_eq_getElem hjc]
      have f0 := HT.out.2.1.frozen j
      have hb2 : t + 1 ≤ 1000000000000 := by have := HT.out.1; omega
      go_wp2
      go_roundw
      case rel =>
       refine ⟨j + 1, t + 1, cs.setIfInBounds j (.int .i64 t), by omega, by go_num, rfl, by omega, hb2, Lib.hid ⟨by have := HT.out.1; push_cast; omega, HT.out.2.1.set _ _, by simpa using HT.out.2.2.1, fun i hi => ?_, HT.out.2.2.2.2.setCell rfl _⟩⟩
       rcases Nat.lt_or_ge i j with g' | g'
       · rw [Array.getElem?_setIfInBounds_ne (by omega)]
         exact HT.out.2.2.2.1 i g'
       · obtain rfl : i = j := by omega
         rw [Array.getElem?_setIfInBounds_self_of_lt hjc, HT.out.1]
      case measure => simp [intOf] <;> omega
    · obtain rfl : j = n := by omega
      go_wp2
      go_ret
      refine ⟨ret_eq (congrArg (Value.int .i64) HT.out.1), HT.out.2.2.2.2.mono (fun b hb => congrArg some hb.symm), by rw [marks_length]; exact hl, .inr ⟨g, cap, cs, by rw [marks_length], HT.out.2.1, by rw [marks_length]; exact hc, HT.out.2.2.1, fun i x hx => ?_⟩⟩
      have hi : i < j := by have := (List.getElem?_eq_some_iff.1 hx).1; rwa [marks_length] at this
      rw [marks_get hi] at hx
      cases hx
      exact HT.out.2.2.2.1 i hi
theorem eqIntN_calls (v1 v2 : Value) (xs : List Int) (w : World) (h1 : SlN enI w v1 xs) (h2 : SlN enI w v2 xs) :
 Makes Tryz.prog 49 #[v1, v2] w (.bool true) := by
 obtain ⟨A, c, rfl, hnc, hc', hA⟩ := h1
 obtain ⟨B, d, rfl, -, hd', hB⟩ := h2
 generalize hN : xs.length = n at *
 have HN := Lib.hid hN
 clear hN
 have hn : n ≤ 281474976710656 := hc'
 clear hc' hd' hnc
 go_enter Tryz.func49, Tryz.ntmps49
 go_wp2
 go_loopw [5] (fun i wr => ∃ k : Nat, k ≤ n ∧ i = .int .i64 k ∧ LaterC w wr) (fun i _ => n - (intOf i).toNat)
 case atStart => exact ⟨0, Nat.zero_le _, rfl, LaterC.refl w⟩
 case round =>
  obtain ⟨k, hk, rfl, ⟨u, rfl⟩⟩ := hrel
  by_cases hlt : k < n
  · have hget := getD_at (show k < xs.length by rw [HN.out]; exact hlt) 0
    obtain ⟨b, o, rfl, hx⟩ := hA k _ hget
    obtain ⟨b', o', rfl, hy⟩ := hB k _ hget
    generalize xs.getD k 0 = x at hx hy
    have hx0 := hx.int (Below.refl _ _)
    have hy0 := hy.int (Below.refl _ _)
    clear hx hy hget hA hB
    go_wp2
    refine wp_region_later (w0 := w) (by kernel_rfl) (by kernel_rfl) ⟨_, rfl⟩ ?_
    repeat (go_big_quiet_step (fail))
    refine wpQuiet_nil ?_
    rintro _ ⟨u1, rfl⟩
    go_wp2
    go_roundw
    case rel => exact ⟨k + 1, by omega, by go_num, ⟨u1, rfl⟩⟩
    case measure => simp [intOf]; omega
  · obtain rfl : k = n := by omega
    clear hA hB
    go_wp2
    go_ret
    exact ⟨rfl, u.prop⟩
theorem markBindS_calls (g n m c : Nat) (k : Int) (w0 w : World) (h : OwnP w0 g 117 m w) (hm : n * 2 ≤ m) (hc : n ≤ c) (hn : n ≤ 1048576) (h0 : 0 ≤ k) (h1 : k + 2 * n ≤ 1000000000000) :
 Calls Tryz.prog 101 #[.slice (some ⟨g, 0, none⟩) n c, .int .i64 k] w fun e w' => e = .returned (.int .i64 (k + 2 * n)) ∧ OwnP w0 g 117 m w' := by
 have HO := Lib.hid h
 clear h
 go_enter Tryz.func101, Tryz.ntmps101
 go_wp2
 go_loopw [1, 5] (fun kk i wr => ∃ (j : Nat) (t : Int), j ≤ n ∧ i = .int .i64 j ∧ kk = .int .i64 t ∧ 0 ≤ t ∧ t ≤ 1000000000000 ∧ Hid (t = k + 2 * j ∧ OwnP w0 g 117 m wr)) (fun _ i _ => n - (intOf i).toNat)
 case atStart => exact ⟨0, k, Nat.zero_le _, rfl, rfl, by omega, by omega, Lib.hid ⟨by simp, HO.out⟩⟩
 case round =>
  obtain ⟨j, t, hj, rfl, rfl, ht0, ht1, HT⟩ := hrel
  by_cases hlt : j < n
  · obtain ⟨x0, p0⟩ := HT.out.2.cell (i := j * 2) (by omega)
    obtain ⟨x1, p1⟩ := HT.out.2.cell (i := j * 2 + 1) (by omega)
    have f0 := HT.out.2.frozen (j * 2)
    have f1 := HT.out.2.frozen (j * 2 + 1)
    have hb2 : t + 2 ≤ 1000000000000 := by have := HT.out.1; omega
    go_wp2
    go_roundw
    case rel => exact ⟨j + 1, t + 1 + 1, by omega, by go_num, rfl, by omega, by omega, Lib.hid ⟨by have := HT.out.1; push_cast; omega, (HT.out.2.set _ _).set _ _⟩⟩
    case measure => simp [intOf] <;> omega
  · obtain rfl : j = n := by omega
    go_wp2
    go_ret
    exact ⟨ret_eq (congrArg (Value.int .i64) HT.out.1), HT.out.2⟩
theorem pow_step {t d : Nat} (h : t < 10 ^ (d + 1)) : t / 10 < 10 ^ d := by
 rw [Nat.pow_succ] at h
 omega
theorem markText_calls (k : Int) (w : World) (h0 : 1 ≤ k) (h1 : k ≤ 1000000000000) :
 Calls Tryz.prog 178 #[.int .i64 k] w fun e w' => ∃ s, e = .returned (.string s) ∧ Below w.heap.size w w' := by
 obtain ⟨K, rfl⟩ := Int.eq_ofNat_of_zero_le (show 0 ≤ k by omega)
 go_enter Tryz.func178, Tryz.ntmps178
 go_wp2
 go_loopw [0, 3] (fun kk s wr => ∃ (t d : Nat) (b : ByteArray), kk = .int .i64 t ∧ s = .string b ∧ t ≤ 1000000000000 ∧ Hid (t < 10 ^ d ∧ b.size + d ≤ 20) ∧ LaterC w wr) (fun kk _ _ => (intOf kk).toNat)
 case atStart => exact ⟨K, 13, ByteArray.empty, rfl, rfl, by omega, Lib.hid ⟨by omega, by decide⟩, LaterC.refl _⟩
 case round =>
  obtain ⟨t, d, b, rfl, rfl, ht, HT, ⟨u, rfl⟩⟩ := hrel
  by_cases hlt : 0 < t
  · have hd : ∃ d', d = d' + 1 := ⟨d - 1, by
     have h1 := HT.out.1
     rcases d with _ | d'
     · simp at h1; omega
     · rfl⟩
    obtain ⟨d', rfl⟩ := hd
    have HT2 := Lib.hid (show t / 10 < 10 ^ d' ∧ (b.size + 1) + d' ≤ 20 from ⟨pow_step HT.out.1, by have := HT.out.2; omega⟩)
    have hbs : b.size ≤ 20 := by have := HT.out.2; omega
    have hcv : (convert 22 9 (.slice (some ⟨u.val.heap.size, 0, none⟩) 1 1)).run Tryz.prog (u.val.alloc (Obj.cells #[.int .u8 (48 + (t : Int) % 10)] 5)) = .ok (.string ⟨#[UInt8.ofNat (48 + t % 10)]⟩) (u.val.alloc (Obj.cells #[.int .u8 (48 + (t : Int) % 10)] 5)) := by
     refine run_convert_bytes_back _ _ _ 5 ⟨u.val.heap.size, 0, none⟩ 1 [UInt8.ofNat (48 + t % 10)] Tryz.underlying22 Tryz.underlying5 Tryz.underlying9 (fun j hj => ?_)
     obtain rfl : j = 0 := by simpa using hj
     have h1 : (48 + t % 10) % 256 = 48 + t % 10 := by omega
     show (u.val.alloc (Obj.cells #[.int .u8 (48 + (t : Int) % 10)] 5)).cell? ⟨u.val.heap.size, 0, none⟩ = _
     rw [(OwnB.new u.val 5 #[.int .u8 (48 + (t : Int) % 10)] : OwnB _ _ _ _).cell 0]
     simp [UInt8.toNat_ofNat', h1]
    go_wp2
    go_roundw
    case rel =>
     refine ⟨t / 10, d', _, by push_cast; rfl, rfl, by omega, Lib.hid ⟨HT2.out.1, ?_⟩, u.alloc _⟩
     have := HT2.out.2
     rw [ByteArray.size_append]
     show 1 + b.size + d' ≤ 20
     omega
    case measure => simp [intOf] <;> omega
  · obtain rfl : t = 0 := by omega
    have hbs : b.size ≤ 20 := by have := HT.out.2; omega
    go_wp2
    go_ret
    exact ⟨_, rfl, u.prop⟩
theorem at_own {φ : World → Prop} {W w0 : World} {g m : Nat} {T : TypeId} (h : OwnP w0 g T m W) (k : ∀ W', OwnP w0 g T m W' → φ W') : φ W := k W h
theorem markNodeS_calls (g n m c : Nat) (k : Int) (w0 w : World) (h : OwnP w0 g 38 m w) (hm : n * 9 ≤ m) (hc : n ≤ c) (hn : n ≤ 1048576) (h0 : 1 ≤ k) (h1 : k + 9 * n ≤ 1000000000000) :
 Calls Tryz.prog 100 #[.slice (some ⟨g, 0, none⟩) n c, .int .i64 k] w fun e w' => e = .returned (.int .i64 (k + 9 * n)) ∧ OwnP w0 g 38 m w' := by
 have HO := Lib.hid h
 clear h
 go_enter Tryz.func100, Tryz.ntmps100
 go_wp2
 go_loopw [1, 5] (fun kk i wr => ∃ (j : Nat) (t : Int), j ≤ n ∧ i = .int .i64 j ∧ kk = .int .i64 t ∧ 1 ≤ t ∧ t ≤ 1000000000000 ∧ Hid (t = k + 9 * j ∧ OwnP w0 g 38 m wr)) (fun _ i _ => n - (intOf i).toNat)
 case atStart => exact ⟨0, k, Nat.zero_le _, rfl, rfl, by omega, by omega, Lib.hid ⟨by simp, HO.out⟩⟩
 case round =>
  obtain ⟨j, t, hj, rfl, rfl, ht0, ht1, HT⟩ := hrel
  by_cases hlt : j < n
  · obtain ⟨x0, p0⟩ := HT.out.2.cell (i := j * 9) (by omega)
    obtain ⟨x1, p1⟩ := HT.out.2.cell (i := j * 9 + 1) (by omega)
    obtain ⟨x2, p2⟩ := HT.out.2.cell (i := j * 9 + 2) (by omega)
    obtain ⟨x3, p3⟩ := HT.out.2.cell (i := j * 9 + 3) (by omega)
    obtain ⟨x4, p4⟩ := HT.out.2.cell (i := j * 9 + 4) (by omega)
    obtain ⟨x5, p5⟩ := HT.out.2.cell (i := j * 9 + 5) (by omega)
    obtain ⟨x6, p6⟩ := HT.out.2.cell (i := j * 9 + 6) (by omega)
    obtain ⟨x7, p7⟩ := HT.out.2.cell (i := j * 9 + 7) (by omega)
    have f0 := HT.out.2.frozen (j * 9)
    have f1 := HT.out.2.frozen (j * 9 + 1)
    have f2 := HT.out.2.frozen (j * 9 + 2)
    have f3 := HT.out.2.frozen (j * 9 + 3)
    have f4 := HT.out.2.frozen (j * 9 + 4)
    have f5 := HT.out.2.frozen (j * 9 + 5)
    have f6 := HT.out.2.frozen (j * 9 + 6)
    have f7 := HT.out.2.frozen (j * 9 + 7)
    have hb2 : t + 9 ≤ 1000000000000 := by have := HT.out.1; omega
    go_upto_region 20 with fail
    refine at_own (w0 := w0) (g := g) (T := 38) (m := m) ?_ ?_
    · repeat (first | with_reducible exact HT.out.2 | with_reducible refine OwnP.set ?_ _ _)
    intro W8 h8
    have H8 := Lib.hid h8
    clear h8 p0 p1 p2 p3 p4 p5 p6 p7 f0 f1 f2 f3 f4 f5 f6 f7
    go_wp2_with (go_at_call 178; refine (markText_calls _ _ (by omega) (by omega)).mono ?_; rintro e w' ⟨s, rfl, hb⟩; have H9 := Lib.hid (H8.out.below hb); obtain ⟨x8, p8⟩ := H9.out.cell (i := j * 9 + 8) (by omega); have f8 := H9.out.frozen (j * 9 + 8); clear hb)
    go_roundw
    case rel => exact ⟨j + 1, _, by omega, by go_num, rfl, by omega, by omega, Lib.hid ⟨by have := HT.out.1; push_cast; omega, H9.out.set _ _⟩⟩
    case measure => simp [intOf] <;> omega
  · obtain rfl : j = n := by omega
    go_wp2
    go_ret
    exact ⟨ret_eq (congrArg (Value.int .i64) HT.out.1), HT.out.2⟩
theorem fresh_own {α : Type} {E : En α} {T : TypeId} {wa w W : World} {g : Nat} {xs : List α} {S : Nat → Prop} (f : FreshG E T wa w g xs) (hb : But S w W) (hg : ¬ S g) : OwnP W g T (xs.length * E.sz) W := by
 obtain ⟨cs, -, ho, hs, -⟩ := f
 exact ⟨cs, ho.but hb hg, hs, .refl _ _⟩
theorem FreshG.rowI {wa w : World} {g : Nat} {xs : List Int} (f : FreshG enI 3 wa w g xs) (hl : xs.length ≤ 281474976710656) : RowI w (slOf g xs) xs := by
 obtain ⟨cs, -, ho, hs, hf⟩ := f
 refine ⟨hl, .inr ⟨g, xs.length, cs, rfl, ho, Nat.le_refl _, by simpa using hs, fun i x hx => ?_⟩⟩
 have := hf i x (List.getElem?_eq_some_iff.1 hx).1 hx 0 _ rfl
 simpa using this
theorem but_step {w wi wj : World} {g0 g h : Nat} (hi : But (fun b => g0 ≤ b ∧ b < g) w wi) (hj : But (· = g) wi wj) (h0 : g0 ≤ g) (hg : g < h) : But (fun b => g0 ≤ b ∧ b < h) w wj :=
 (hi.mono fun b hb => ⟨hb.1, by omega⟩).trans (hj.mono fun b hb => by subst hb; exact ⟨h0, hg⟩)
theorem markModel_le (M : Md) {wa : World} (w : World) (g0 g1 g2 g3 g4 : Nat) (hlen : M.nodes.length ≤ 1048576 ∧ M.inits.length ≤ 1048576 ∧ M.nexts.length ≤ 1048576 ∧ M.bads.length ≤ 1048576 ∧ M.holds.length ≤ 1048576) (hx : g0 < g1 ∧ g1 < g2 ∧ g2 < g3 ∧ g3 < g4)
 (f0 : FreshG enNd 38 wa w g0 M.nodes) (f1 : FreshG enBd 117 wa w g1 M.inits) (f2 : FreshG enBd 117 wa w g2 M.nexts) (f3 : FreshG enI 3 wa w g3 M.bads) (f4 : FreshG enI 3 wa w g4 M.holds) :
 Calls Tryz.prog 27 #[.agg #[slOf g0 M.nodes, slOf g1 M.inits, slOf g2 M.nexts, slOf g3 M.bads, slOf g4 M.holds], .int .i64 1] w fun e w' => ∃ r, e = .returned (.int .i64 r) ∧ (0 ≤ r ∧ r ≤ 100000000) ∧ But (fun b => g0 ≤ b ∧ b ≤ g4) w w' := by
 have HF := Lib.hid (show _ ∧ _ ∧ _ ∧ _ ∧ _ from ⟨f0, f1, f2, f3, f4⟩)
 have HX := Lib.hid hx
 have HLT := Lib.hid (show g4 < w.heap.size from f4.lt)
 obtain ⟨l0, l1, l2, l3, l4⟩ := hlen
 clear f0 f1 f2 f3 f4 hx
 go_enter Tryz.func27, Tryz.ntmps27
 have b0 := box_cell w #[slOf g0 M.nodes, slOf g1 M.inits, slOf g2 M.nexts, slOf g3 M.bads, slOf g4 M.holds] 27 0 _ rfl
 have b1 := box_cell w #[slOf g0 M.nodes, slOf g1 M.inits, slOf g2 M.nexts, slOf g3 M.bads, slOf g4 M.holds] 27 1 _ rfl
 have b2 := box_cell w #[slOf g0 M.nodes, slOf g1 M.inits, slOf g2 M.nexts, slOf g3 M.bads, slOf g4 M.holds] 27 2 _ rfl
 have b3 := box_cell w #[slOf g0 M.nodes, slOf g1 M.inits, slOf g2 M.nexts, slOf g3 M.bads, slOf g4 M.holds] 27 3 _ rfl
 have b4 := box_cell w #[slOf g0 M.nodes, slOf g1 M.inits, slOf g2 M.nexts, slOf g3 M.bads, slOf g4 M.holds] 27 4 _ rfl
 have hb := box_below w #[slOf g0 M.nodes, slOf g1 M.inits, slOf g2 M.nexts, slOf g3 M.bads, slOf g4 M.holds] 27
 go_upto_region 1 with fail
 generalize w.alloc (.cells #[slOf g0 M.nodes, slOf g1 M.inits, slOf g2 M.nexts, slOf g3 M.bads, slOf g4 M.holds] 27) = W0 at *
 have c0 : W0.cell? ⟨w.heap.size, 0, none⟩ = some (slOf g0 M.nodes) := b0 ⟨W0, Below.refl _ _⟩
 have c1 : W0.cell? ⟨w.heap.size, 1, none⟩ = some (slOf g1 M.inits) := b1 ⟨W0, Below.refl _ _⟩
 have c2 : W0.cell? ⟨w.heap.size, 2, none⟩ = some (slOf g2 M.nexts) := b2 ⟨W0, Below.refl _ _⟩
 have c3 : W0.cell? ⟨w.heap.size, 3, none⟩ = some (slOf g3 M.bads) := b3 ⟨W0, Below.refl _ _⟩
 have c4 : W0.cell? ⟨w.heap.size, 4, none⟩ = some (slOf g4 M.holds) := b4 ⟨W0, Below.refl _ _⟩
 have HB0 := Lib.hid (show But (fun b => g0 ≤ b ∧ b < g0) w W0 from .of_below hb)
 clear b0 b1 b2 b3 b4 hb
 go_upto_region 2 with (go_at_call 100; refine (markNodeS_calls g0 M.nodes.length _ _ 1 W0 W0 (fresh_own HF.out.1 HB0.out (fun h => Nat.lt_irrefl _ h.2)) (Nat.le_refl _) (Nat.le_refl _) l0 (by omega) (by omega)).mono ?_; rintro e W1 ⟨rfl, ho⟩; have HB1 := Lib.hid (but_step HB0.out ho.but (Nat.le_refl _) HX.out.1); have HO1 := Lib.hid ho.but; clear ho)
 have c1 := cell_but c1 HO1.out (by show ¬ w.heap.size = g0; have := HLT.out; have := HX.out; omega)
 have c2 := cell_but c2 HO1.out (by show ¬ w.heap.size = g0; have := HLT.out; have := HX.out; omega)
 have c3 := cell_but c3 HO1.out (by show ¬ w.heap.size = g0; have := HLT.out; have := HX.out; omega)
 have c4 := cell_but c4 HO1.out (by show ¬ w.heap.size = g0; have := HLT.out; have := HX.out; omega)
 clear c0
 generalize hk1 : (1 : Int) + 9 * (M.nodes.length : Int) = k1 at *
 have h1 : 1 ≤ k1 ∧ k1 ≤ 10000000 := by omega
 clear hk1
 go_upto_region 3 with (go_at_call 101; refine (markBindS_calls g1 M.inits.length _ _ k1 W1 W1 (fresh_own HF.out.2.1 HB1.out (fun h => Nat.lt_irrefl _ h.2)) (Nat.le_refl _) (Nat.le_refl _) l1 (by omega) (by omega)).mono ?_; rintro e W2 ⟨rfl, ho⟩; have HB2 := Lib.hid (but_step HB1.out ho.but (by have := HX.out; omega) HX.out.2.1); have HO2 := Lib.hid ho.but; clear ho)
 have c2 := cell_but c2 HO2.out (by show ¬ w.heap.size = g1; have := HLT.out; have := HX.out; omega)
 have c3 := cell_but c3 HO2.out (by show ¬ w.heap.size = g1; have := HLT.out; have := HX.out; omega)
 have c4 := cell_but c4 HO2.out (by show ¬ w.heap.size = g1; have := HLT.out; have := HX.out; omega)
 clear c1
 generalize hk2 : k1 + 2 * (M.inits.length : Int) = k2 at *
 have h2 : 1 ≤ k2 ∧ k2 ≤ 20000000 := by omega
 clear hk2 h1
 go_upto_region 4 with (go_at_call 101; refine (markBindS_calls g2 M.nexts.length _ _ k2 W2 W2 (fresh_own HF.out.2.2.1 HB2.out (fun h => Nat.lt_irrefl _ h.2)) (Nat.le_refl _) (Nat.le_refl _) l2 (by omega) (by omega)).mono ?_; rintro e W3 ⟨rfl, ho⟩; have HB3 := Lib.hid (but_step HB2.out ho.but (by have := HX.out; omega) HX.out.2.2.1); have HO3 := Lib.hid ho.but; clear ho)
 have c3 := cell_but c3 HO3.out (by show ¬ w.heap.size = g2; have := HLT.out; have := HX.out; omega)
 have c4 := cell_but c4 HO3.out (by show ¬ w.heap.size = g2; have := HLT.out; have := HX.out; omega)
 clear c2
 generalize hk3 : k2 + 2 * (M.nexts.length : Int) = k3 at *
 have h3 : 1 ≤ k3 ∧ k3 ≤ 30000000 := by omega
 clear hk3 h2
 go_upto_region 5 with (go_at_call 50; refine (markIntS_calls _ M.bads k3 W3 ((HF.out.2.2.2.1.rowI (by omega)).but HB3.out (fun b hb h => by cases hb; exact Nat.lt_irrefl _ h.2)) (by omega) (by omega)).mono ?_; rintro e W4 ⟨rfl, hbut, -⟩; have HO4 := Lib.hid (show But (· = g3) W3 W4 from hbut.mono fun b hb => by cases hb; rfl); have HB4 := Lib.hid (but_step HB3.out HO4.out (by have := HX.out; omega) HX.out.2.2.2); clear hbut)
 have c4 := cell_but c4 HO4.out (by show ¬ w.heap.size = g3; have := HLT.out; have := HX.out; omega)
 clear c3
 generalize hk4 : k3 + (M.bads.length : Int) = k4 at *
 have h4 : 1 ≤ k4 ∧ k4 ≤ 40000000 := by omega
 clear hk4 h3
 go_wp2_with (go_at_call 50; refine (markIntS_calls _ M.holds k4 W4 ((HF.out.2.2.2.2.rowI (by omega)).but HB4.out (fun b hb h => by cases hb; exact Nat.lt_irrefl _ h.2)) (by omega) (by omega)).mono ?_; rintro e W5 ⟨rfl, hbut, -⟩; have HO5 := Lib.hid (show But (· = g4) W4 W5 from hbut.mono fun b hb => by cases hb; rfl); clear hbut)
 go_ret
 exact ⟨_, rfl, ⟨by omega, by omega⟩, (but_step HB4.out HO5.out (by have := HX.out; omega) (Nat.lt_succ_self _)).mono fun b hb => ⟨hb.1, Nat.lt_succ_iff.1 hb.2⟩⟩
end Go.Proofs.YtbenebcphaiohaaGreat
namespace Go.Proofs.YtbenebcphaiohaaGreat
open Go.RowKit
def VlAt (w : World) (v : Value) (L : List (List Int)) : Prop :=
 ∃ (A : Option Addr) (c : Nat), v = .slice A L.length c ∧ L.length ≤ c ∧ L.length ≤ 281474976710656 ∧ ∀ (i : Nat) (xs : List Int), L[i]? = some xs → ∃ b o sv, A = some ⟨b, o, none⟩ ∧ w.cell? ⟨b, o + i, none⟩ = some sv ∧ SlN enI w sv xs
theorem VlAt.below {w w' : World} {v : Value} {L : List (List Int)} (h : VlAt w v L) (hb : Below w.heap.size w w') : VlAt w' v L := by
 obtain ⟨A, c, hv, h1, h2, h3⟩ := h
 exact ⟨A, c, hv, h1, h2, fun i x hx => by
  obtain ⟨b, o, sv, hA, hc, hs⟩ := h3 i x hx
  exact ⟨b, o, sv, hA, (hb.cell (World.block_lt_of_cell? _ _ hc)).trans hc, hs.below hb⟩⟩
theorem VlAt.later {w : World} {v : Value} {L : List (List Int)} (h : VlAt w v L) (u : Later w) : VlAt u.val v L := h.below u.prop
def RowVs (lo : Nat) (w : World) (v : Value) (svs : List Value) (L : List (List Int)) : Prop :=
 L.length ≤ 281474976710656 ∧ svs.length = L.length ∧
 ((v = .slice none 0 0 ∧ L = []) ∨ ∃ g cap cur, v = .slice (some ⟨g, 0, none⟩) L.length cap ∧ lo ≤ g ∧ OwnB w g 40 cur ∧ L.length ≤ cap ∧ cur.size = cap ∧ ∀ (i : Nat) (sv : Value), svs[i]? = some sv → cur[i]? = some sv) ∧
 (∀ (i : Nat) (sv : Value) (xs : List Int), svs[i]? = some sv → L[i]? = some xs → RowI w sv xs ∧ ∀ b, sv.ownBlock = some b → lo ≤ b ∧ v.ownBlock ≠ some b) ∧
 (∀ (i j : Nat) (si sj : Value) (b : Nat), svs[i]? = some si → svs[j]? = some sj → i < j → si.ownBlock = some b → sj.ownBlock ≠ some b)
theorem RowVs.below {lo : Nat} {w w' : World} {v : Value} {svs : List Value} {L : List (List Int)} (h : RowVs lo w v svs L) (hb : Below w.heap.size w w') : RowVs lo w' v svs L := by
 obtain ⟨h1, h2, h3, h4, h5⟩ := h
 refine ⟨h1, h2, ?_, fun i sv xs hs hx => ⟨(h4 i sv xs hs hx).1.below hb, (h4 i sv xs hs hx).2⟩, h5⟩
 rcases h3 with h3 | ⟨g, cap, cur, hv, hlo, ho, hr⟩
 · exact .inl h3
 · exact .inr ⟨g, cap, cur, hv, hlo, ho.below hb ho.lt, hr⟩
theorem RowVs.get {lo : Nat} {w : World} {v : Value} {svs : List Value} {L : List (List Int)} (h : RowVs lo w v svs L) {i : Nat} (hi : i < L.length) : ∃ sv, svs[i]? = some sv := ⟨svs[i]'(by rw [h.2.1]; exact hi), List.getElem?_eq_getElem _⟩
theorem RowVs.vlAt {lo : Nat} {w : World} {v : Value} {svs : List Value} {L : List (List Int)} (h : RowVs lo w v svs L) : VlAt w v L := by
 have hg := fun i (hi : i < L.length) => h.get hi
 obtain ⟨h1, h2, h3, h4, h5⟩ := h
 rcases h3 with ⟨rfl, rfl⟩ | ⟨g, cap, cur, rfl, hlo, ho, hc, hs, hr⟩
 · exact ⟨none, 0, rfl, Nat.le_refl _, h1, fun i x hx => by simp at hx⟩
 · refine ⟨some ⟨g, 0, none⟩, cap, rfl, hc, h1, fun i x hx => ?_⟩
   obtain ⟨sv, hsv⟩ := hg i (List.getElem?_eq_some_iff.1 hx).1
   exact ⟨g, 0, sv, rfl, by rw [Nat.zero_add, ho.cell]; exact hr i sv hsv, (h4 i sv x hsv hx).1.slN⟩
theorem RowVs.lt {lo : Nat} {w : World} {v : Value} {svs : List Value} {L : List (List Int)} (h : RowVs lo w v svs L) {b : Nat} (hb : v.ownBlock = some b) : b < w.heap.size := by
 obtain ⟨-, -, ⟨rfl, -⟩ | ⟨g, cap, cur, rfl, -, ho, -⟩, -⟩ := h
 · cases hb
 · cases hb; exact ho.lt
theorem szValue_calls (sv : Value) (xs : List Int) (left : Int) (w : World) (h : SlN enI w sv xs) (h0 : 0 ≤ left) (h1 : left ≤ 1048576) :
 Makes Tryz.prog 105 #[.agg #[sv], .int .i64 left] w (.int .i64 (lessV left xs.length)) := by
 obtain ⟨A, c, rfl, -, hl, -⟩ := h
 generalize xs.length = n at *
 go_enter Tryz.func105, Tryz.ntmps105
 by_cases hlt : left - (n : Int) < 0
 · go_wp2_with (go_at_call 83; refine (szIntS_same A n c left hl h0 h1 _).mono ?_; rintro e w' ⟨rfl, rfl⟩; rw [lessV_neg hlt])
   go_ret
   exact ⟨congrArg (fun x => Ending.returned (.int .i64 x)) (lessV_neg (by omega)).symm, box_below _ _ _⟩
 · go_wp2_with (go_at_call 83; refine (szIntS_same A n c left hl h0 h1 _).mono ?_; rintro e w' ⟨rfl, rfl⟩; rw [lessV_pos hlt])
   go_ret
   exact ⟨congrArg (fun x => Ending.returned (.int .i64 x)) (lessV_pos (by omega)).symm, box_below _ _ _⟩
def LeftV (left : Int) (L : List (List Int)) (r : Int) : Prop := r = -1 ∨ (0 ≤ r ∧ r + L.length ≤ left ∧ ∀ xs ∈ L, r + xs.length ≤ left)
theorem szValueS_calls (v : Value) (L : List (List Int)) (left : Int) (w : World) (h : VlAt w v L) (h0 : 0 ≤ left) (h1 : left ≤ 1048576) :
 Calls Tryz.prog 29 #[v, .int .i64 left] w fun e w' => ∃ r : Int, e = .returned (.int .i64 r) ∧ Below w.heap.size w w' ∧ LeftV left L r := by
 obtain ⟨A, c, rfl, -, hn, hA⟩ := h
 generalize hN : L.length = n at *
 have HN := Lib.hid hN
 clear hN
 go_enter Tryz.func29, Tryz.ntmps29
 by_cases hlt : left - (n : Int) < 0
 · go_wp2
   go_ret
   exact ⟨_, rfl, Below.refl _ _, .inl rfl⟩
 · go_wp2
   go_loopw [1, 5] (fun l i wr => ∃ (k : Nat) (r : Int), k ≤ n ∧ i = .int .i64 k ∧ l = .int .i64 r ∧ 0 ≤ r ∧ r ≤ left - n ∧ Hid (∀ j xs, j < k → L[j]? = some xs → r + xs.length ≤ left) ∧ LaterC w wr) (fun _ i _ => n - (intOf i).toNat)
   case atStart => exact ⟨0, left - n, Nat.zero_le _, rfl, by go_num, by omega, by omega, Lib.hid (fun j xs hj => absurd hj (Nat.not_lt_zero _)), LaterC.refl _⟩
   case round =>
    obtain ⟨k, r, hk, rfl, rfl, hr0, hr1, HI, ⟨u, rfl⟩⟩ := hrel
    by_cases hlt2 : k < n
    · have hget := getD_at (show k < L.length by rw [HN.out]; exact hlt2) []
      obtain ⟨b, o, sv, rfl, hc, hs⟩ := hA k _ hget
      have HG := Lib.hid hget
      generalize L.getD k [] = xs at *
      have p0 := Later.cell hc
      have HS := Lib.hid hs
      clear hc hs hA hget
      go_wp2_with fail
      refine (Calls.later (u := u) (szValue_calls sv xs r _ (HS.out.later u) hr0 (by omega))).mono ?_
      rintro e w' ⟨rfl, u1, rfl⟩
      have HI2 := Lib.hid (show ∀ j ys, j < k + 1 → L[j]? = some ys → r - xs.length + ys.length ≤ left from fun j ys hj hy => by
       rcases Nat.lt_or_ge j k with g | g
       · have := HI.out j ys g hy; omega
       · obtain rfl : j = k := by omega
         rw [HG.out] at hy; cases hy; omega)
      generalize hm : xs.length = m at *
      clear hm p0
      by_cases hl3 : r - (m : Int) < 0
      · rw [lessV_neg hl3]
        go_wp2
        go_ret
        exact ⟨_, rfl, u1.prop, .inl rfl⟩
      · rw [lessV_pos hl3]
        have hl4 : (r - (m : Int) < 0) = False := eq_false hl3
        go_wp2
        go_roundw
        case rel => exact ⟨k + 1, r - m, by omega, by go_num, rfl, by omega, by omega, HI2, ⟨u1, rfl⟩⟩
        case measure => simp [intOf]; omega
    · obtain rfl : k = n := by omega
      clear hA
      go_wp2
      go_ret
      refine ⟨_, rfl, u.prop, .inr ⟨hr0, by rw [HN.out]; omega, fun xs hx => ?_⟩⟩
      obtain ⟨j, hj⟩ := List.getElem?_of_mem hx
      exact HI.out j xs (by have h1 := (List.getElem?_eq_some_iff.1 hj).1; have h2 := HN.out; omega) hj
theorem eqValue_calls (s1 s2 : Value) (xs : List Int) (w : World) (h1 : SlN enI w s1 xs) (h2 : SlN enI w s2 xs) :
 Makes Tryz.prog 112 #[.agg #[s1], .agg #[s2]] w (.bool true) := by
 have H1 := Lib.hid h1
 have H2 := Lib.hid h2
 clear h1 h2
 go_enter Tryz.func112, Tryz.ntmps112
 have HB := Lib.hid (show Below w.heap.size w ((w.alloc (.cells #[s1] 40)).alloc (.cells #[s2] 40)) by
  refine Below.alloc (Below.alloc (Below.refl _ _) (Nat.le_refl _) _) ?_ _ <;> first | (simp; done) | (simp; omega))
 go_wp2_with (go_at_call 49; refine calls_at fun u => (Calls.later (u := u) (eqIntN_calls s1 s2 xs _ (H1.out.below (u.back HB.out)) (H2.out.below (u.back HB.out)))).mono ?_; rintro e w' ⟨rfl, u1, rfl⟩)
 go_ret
 exact ⟨rfl, u1.back HB.out⟩
theorem eqValueS_calls (v1 v2 : Value) (L : List (List Int)) (w : World) (h1 : VlAt w v1 L) (h2 : VlAt w v2 L) :
 Makes Tryz.prog 33 #[v1, v2] w (.bool true) := by
 obtain ⟨A, c, rfl, -, hn, hA⟩ := h1
 obtain ⟨B, d, rfl, -, -, hB⟩ := h2
 generalize hN : L.length = n at *
 have HN := Lib.hid hN
 clear hN
 go_enter Tryz.func33, Tryz.ntmps33
 go_wp2
 go_loopw [5] (fun i wr => ∃ k : Nat, k ≤ n ∧ i = .int .i64 k ∧ LaterC w wr) (fun i _ => n - (intOf i).toNat)
 case atStart => exact ⟨0, Nat.zero_le _, rfl, LaterC.refl w⟩
 case round =>
  obtain ⟨k, hk, rfl, ⟨u, rfl⟩⟩ := hrel
  by_cases hlt : k < n
  · have hget := getD_at (show k < L.length by rw [HN.out]; exact hlt) []
    obtain ⟨b, o, sv, rfl, hc, hs⟩ := hA k _ hget
    obtain ⟨b', o', sv', rfl, hc', hs'⟩ := hB k _ hget
    generalize L.getD k [] = xs at *
    have p0 := Later.cell hc
    have q0 := Later.cell hc'
    have HS := Lib.hid hs
    have HS' := Lib.hid hs'
    clear hc hc' hs hs' hget hA hB
    go_wp2
    refine wp_region_later (w0 := w) (by kernel_rfl) (by kernel_rfl) ⟨_, rfl⟩ ?_
    repeat (go_big_quiet_step ((go_at_call 112; exact Calls.later (eqValue_calls sv sv' xs _ (HS.out.later _) (HS'.out.later _)))))
    refine wpQuiet_nil ?_
    rintro _ ⟨u1, rfl⟩
    go_wp2
    go_roundw
    case rel => exact ⟨k + 1, by omega, by go_num, ⟨u1, rfl⟩⟩
    case measure => simp [intOf]; omega
  · obtain rfl : k = n := by omega
    clear hA hB
    go_wp2
    go_ret
    exact ⟨rfl, u.prop⟩
theorem toValue_calls (sv : Value) (xs : List Int) (w : World) (h : SlN enI w sv xs) (hc : xs.length ≤ 1048576) :
 Calls Tryz.prog 110 #[.agg #[sv]] w fun e w' => ∃ g, e = .returned (.agg #[slOf g xs]) ∧ Below w.heap.size w w' ∧ FreshG enI 3 w w' g xs := by
 have H := Lib.hid h
 clear h
 go_enter Tryz.func110, Tryz.ntmps110
 go_wp2_with fail
 have HR0 := Lib.hid (show OwnB (((w.alloc (Obj.cells #[sv] 126)).alloc (Obj.cells #[.slice none 0 0] 40)).alloc (Obj.cells #[.slice none 0 0] 40)) (w.heap.size + 1) 40 #[.slice none 0 0] from (OwnB.new' _ _ _ _ (by simp)).alloc _)
 have HL0 := Lib.hid (show OwnB (((w.alloc (Obj.cells #[sv] 126)).alloc (Obj.cells #[.slice none 0 0] 40)).alloc (Obj.cells #[.slice none 0 0] 40)) (w.heap.size + 1 + 1) 40 #[.slice none 0 0] from OwnB.new' _ _ _ _ (by simp))
 have HB0 := Lib.hid (show Below w.heap.size w (((w.alloc (Obj.cells #[sv] 126)).alloc (Obj.cells #[.slice none 0 0] 40)).alloc (Obj.cells #[.slice none 0 0] 40)) by
  refine Below.alloc (Below.alloc (Below.alloc (Below.refl _ _) (Nat.le_refl _) _) ?_ _) ?_ _ <;> first | (simp; done) | (simp; omega))
 generalize ((w.alloc (Obj.cells #[sv] 126)).alloc (Obj.cells #[.slice none 0 0] 40)).alloc (Obj.cells #[.slice none 0 0] 40) = v0 at *
 refine (toIntN_calls sv xs v0 (H.out.below HB0.out) hc).mono ?_
 rintro e u0 ⟨t0, rfl, hb0, hfr0⟩
 obtain ⟨g0, rfl, hf0⟩ := hfr0.at_
 have HR1 := Lib.hid (HR0.out.below hb0 HR0.out.lt)
 have HL1 := Lib.hid (HL0.out.below hb0 HL0.out.lt)
 have HB1 := Lib.hid (HB0.out.trans (hb0.mono HB0.out.size))
 have HZ := Lib.hid (show w.heap.size + 1 + 1 < v0.heap.size from HL0.out.lt)
 have HF := Lib.hid hf0
 clear hb0 hf0 hfr0 HR0 HL0 HB0
 have q0 : u0.cell? ⟨w.heap.size + 1 + 1, 0, none⟩ = some (.slice none 0 0) := HL1.out.cell 0
 have r0 : u0.frozen? ⟨w.heap.size + 1 + 1, 0, none⟩ = false := HL1.out.frozen 0
 have d0 : u0.cell? ⟨w.heap.size + 1, 0, none⟩ = some (.slice none 0 0) := HR1.out.cell 0
 have e0 : u0.frozen? ⟨w.heap.size + 1, 0, none⟩ = false := HR1.out.frozen 0
 go_wp2_with fail
 refine bodyPost_ret (v := .agg #[slOf g0 xs]) ?_ rfl ⟨g0, rfl, ?_, ?_⟩
 · simp [results, Tryz.results110, go_sem, d0]
 · repeat (with_reducible refine Below.setCell ?_ ?_ _)
   · with_reducible exact HB1.out
   all_goals (simp only [Nat.le_add_right, Nat.le_refl]; try omega)
 · refine FreshG.mono (w1 := v0) ?_ (by have := HZ.out; omega)
   have hz := HZ.out
   repeat (with_reducible refine FreshG.keep ?_ ?_ _)
   · with_reducible exact HF.out
   all_goals omega
def Filling (g n : Nat) (w : World) (svs : List Value) (L : List (List Int)) (k : Nat) : Prop :=
 ∃ cs, OwnB w g 40 cs ∧ cs.size = n ∧ svs.length = k ∧ (∀ (i : Nat) (sv : Value), svs[i]? = some sv → cs[i]? = some sv) ∧
 (∀ (i : Nat) (sv : Value) (xs : List Int), svs[i]? = some sv → L[i]? = some xs → RowI w sv xs ∧ ∀ b, sv.ownBlock = some b → g < b) ∧
 (∀ (i j : Nat) (si sj : Value) (b : Nat), svs[i]? = some si → svs[j]? = some sj → i < j → si.ownBlock = some b → sj.ownBlock ≠ some b)
theorem Filling.nil {w : World} {g n : Nat} {cs : Array Value} (L : List (List Int)) (h : OwnB w g 40 cs) (hs : cs.size = n) : Filling g n w [] L 0 :=
 ⟨cs, h, hs, rfl, fun i sv hi => by simp at hi, fun i sv xs hi => by simp at hi, fun i j si sj b hi => by simp at hi⟩
theorem Filling.below {w w' : World} {g n k : Nat} {svs : List Value} {L : List (List Int)} (h : Filling g n w svs L k) (hb : Below w.heap.size w w') : Filling g n w' svs L k := by
 obtain ⟨cs, h1, h2, h3, h4, h5, h6⟩ := h
 exact ⟨cs, h1.below hb h1.lt, h2, h3, h4, fun i sv xs hi hx => ⟨(h5 i sv xs hi hx).1.below hb, (h5 i sv xs hi hx).2⟩, h6⟩
theorem Filling.lt {w : World} {g n k : Nat} {svs : List Value} {L : List (List Int)} (h : Filling g n w svs L k) : g < w.heap.size := by
 obtain ⟨cs, h1, -⟩ := h
 exact h1.lt
theorem Filling.cell {w : World} {g n k : Nat} {svs : List Value} {L : List (List Int)} (h : Filling g n w svs L k) {i : Nat} (hi : i < n) : ∃ v, w.cell? ⟨g, i, none⟩ = some v := by
 obtain ⟨cs, h1, rfl, -⟩ := h
 exact ⟨cs[i], by rw [h1.cell, Array.getElem?_eq_getElem hi]⟩
theorem Filling.frozen {w : World} {g n k : Nat} {svs : List Value} {L : List (List Int)} (h : Filling g n w svs L k) (i : Nat) : w.frozen? ⟨g, i, none⟩ = false := by
 obtain ⟨cs, h1, -⟩ := h
 exact h1.frozen i
theorem snoc_get {α : Type} {l : List α} {a x : α} {i : Nat} (h : (l ++ [a])[i]? = some x) : l[i]? = some x ∨ (i = l.length ∧ x = a) := by
 rcases Nat.lt_or_ge i l.length with g | g
 · rw [List.getElem?_append_left g] at h; exact .inl h
 · rw [List.getElem?_append_right g] at h
   have := (List.getElem?_eq_some_iff.1 h).1
   have e : i = l.length := by simp at this; omega
   subst e
   simp at h
   exact .inr ⟨rfl, h.symm⟩
theorem RowI.set {w : World} {sv : Value} {xs : List Int} (h : RowI w sv xs) {p : Addr} (hp : ∀ b, sv.ownBlock = some b → p.block ≠ b) (v : Value) : RowI (w.setCell p v) sv xs :=
 h.but (S := (· = p.block)) (But.setCell (S := (· = p.block)) (But.refl _ _) rfl v) fun b hb e => hp b hb e.symm
theorem Filling.step {W w : World} {g n k : Nat} {svs : List Value} {L : List (List Int)} (h : Filling g n W svs L k) (hb : Below W.heap.size W w) (hk : k < n) {s : Value} {xs : List Int} (hx : L[k]? = some xs) (hr : RowI w s xs) (hg : ∀ b, s.ownBlock = some b → W.heap.size ≤ b) : Filling g n (w.setCell ⟨g, k, none⟩ s) (svs ++ [s]) L (k + 1) := by
 have hlt := h.lt
 have hold : ∀ (i : Nat) (sv : Value) (b : Nat), svs[i]? = some sv → i < k → sv.ownBlock = some b → b < W.heap.size := by
  obtain ⟨cs, h1, h2, h3, h4, h5, h6⟩ := h
  intro i sv b hi hik hsb
  rcases Nat.lt_or_ge i L.length with g | g
  · exact (h5 i sv _ hi (List.getElem?_eq_getElem g)).1.lt hsb
  · have := (List.getElem?_eq_some_iff.1 hx).1; omega
 obtain ⟨cs, h1, h2, h3, h4, h5, h6⟩ := h.below hb
 refine ⟨cs.setIfInBounds k s, h1.set _ _, by simpa using h2, by simp [h3], fun i sv hi => ?_, fun i sv ys hi hy => ?_, fun i j si sj b hi hj hij hbi hbj => ?_⟩
 · rcases snoc_get hi with hi | ⟨rfl, rfl⟩
   · have := (List.getElem?_eq_some_iff.1 hi).1
     rw [Array.getElem?_setIfInBounds_ne (by omega)]
     exact h4 i sv hi
   · rw [h3, Array.getElem?_setIfInBounds_self_of_lt (by omega)]
 · rcases snoc_get hi with hi | ⟨rfl, rfl⟩
   · refine ⟨(h5 i sv ys hi hy).1.set (fun b hb' => ?_) _, (h5 i sv ys hi hy).2⟩
     have := (h5 i sv ys hi hy).2 b hb'
     show g ≠ b
     omega
   · rw [h3, hx] at hy
     cases hy
     refine ⟨hr.set (fun b hb' => ?_) _, fun b hb' => ?_⟩
     · have := hg b hb'
       show g ≠ b
       omega
     · have := hg b hb'
       omega
 · rcases snoc_get hi with hi1 | ⟨hi1, hi2⟩
   · rcases snoc_get hj with hj1 | ⟨hj1, hj2⟩
     · exact h6 i j si sj b hi1 hj1 hij hbi hbj
     · have := hold i si b hi1 (by omega) hbi
       have := hg b (by rw [← hj2]; exact hbj)
       omega
   · rcases snoc_get hj with hj1 | ⟨hj1, hj2⟩
     · have := (List.getElem?_eq_some_iff.1 hj1).1; omega
     · omega
theorem Filling.done {w : World} {g n : Nat} {svs : List Value} {L : List (List Int)} (h : Filling g n w svs L n) (hn : L.length = n) (hl : n ≤ 281474976710656) : RowVs g w (.slice (some ⟨g, 0, none⟩) n n) svs L := by
 obtain ⟨cs, h1, h2, h3, h4, h5, h6⟩ := h
 subst hn
 refine ⟨hl, h3, .inr ⟨g, L.length, cs, rfl, Nat.le_refl _, h1, Nat.le_refl _, h2, h4⟩, fun i sv xs hi hx => ⟨(h5 i sv xs hi hx).1, fun b hb => ?_⟩, h6⟩
 have := (h5 i sv xs hi hx).2 b hb
 refine ⟨by omega, fun e => ?_⟩
 have e' : g = b := by simpa [Value.ownBlock] using e
 omega
theorem RowVs.mono {lo lo' : Nat} {w : World} {v : Value} {svs : List Value} {L : List (List Int)} (h : RowVs lo w v svs L) (hl : lo' ≤ lo) : RowVs lo' w v svs L := by
 obtain ⟨h1, h2, h3, h4, h5⟩ := h
 refine ⟨h1, h2, ?_, fun i sv xs hi hx => ⟨(h4 i sv xs hi hx).1, fun b hb => ⟨Nat.le_trans hl ((h4 i sv xs hi hx).2 b hb).1, ((h4 i sv xs hi hx).2 b hb).2⟩⟩, h5⟩
 rcases h3 with h3 | ⟨g, cap, cur, hv, hg, r⟩
 · exact .inl h3
 · exact .inr ⟨g, cap, cur, hv, Nat.le_trans hl hg, r⟩
theorem toValueS_calls (v : Value) (L : List (List Int)) (w : World) (h : VlAt w v L) (hc : L.length ≤ 1048576) (hx : ∀ xs ∈ L, xs.length ≤ 1048576) :
 Calls Tryz.prog 31 #[v] w fun e w' => ∃ v' svs, e = .returned v' ∧ Below w.heap.size w w' ∧ RowVs w.heap.size w' v' svs L := by
 obtain ⟨A, c, rfl, -, -, hA⟩ := h
 generalize hn : L.length = n at *
 have HN := Lib.hid hn
 have HX := Lib.hid hx
 clear hn hx
 have hmk := make_any (P := Tryz.prog) 29 40 (.agg #[.slice none 0 0]) 1 24 Tryz.underlying29 (by kernel_rfl) n (by omega) (by omega)
 simp only [Value.cells, Nat.mul_one] at hmk
 go_enter Tryz.func31, Tryz.ntmps31
 go_wp2
 have HO := Lib.hid (OwnB.new w 40 (madeCells #[.slice none 0 0] n))
 have HB := Lib.hid (box_below w (madeCells #[.slice none 0 0] n) 40)
 have HSZ := Lib.hid (size_madeCells #[.slice none 0 0] n)
 generalize madeCells #[.slice none 0 0] n = cs0 at *
 generalize w.alloc (Obj.cells cs0 40) = w1 at *
 clear hmk
 go_loopw [4] (fun i wr => ∃ (k : Nat) (svs : List Value), k ≤ n ∧ i = .int .i64 k ∧ Hid (Filling w.heap.size n wr svs L k ∧ Below w.heap.size w wr)) (fun i _ => n - (intOf i).toNat)
 case atStart => exact ⟨0, [], Nat.zero_le _, rfl, Lib.hid ⟨.nil L HO.out HSZ.out, HB.out⟩⟩
 case round =>
  obtain ⟨k, svs, hk, rfl, HI⟩ := hrel
  by_cases hlt : k < n
  · have hget := getD_at (show k < L.length by rw [HN.out]; exact hlt) []
    obtain ⟨b, o, sv, rfl, hcl, hs⟩ := hA k _ hget
    have HG := Lib.hid hget
    generalize L.getD k [] = xs at *
    have p0 : wr.cell? ⟨b, o + k, none⟩ = some sv := (HI.out.2.cell (World.block_lt_of_cell? _ _ hcl)).trans hcl
    have HS := Lib.hid (hs.below HI.out.2)
    clear hcl hs hA hget
    go_wp2_with fail
    refine (toValue_calls sv xs _ HS.out (HX.out _ (List.mem_of_getElem? HG.out))).mono ?_
    rintro e w2 ⟨g, rfl, hb, hf⟩
    have HF := Lib.hid hf
    have HB2 := Lib.hid hb
    have HI2 := Lib.hid (HI.out.1.below hb)
    clear hf hb p0
    obtain ⟨y, q0⟩ := HI2.out.cell hlt
    have r0 := HI2.out.frozen k
    go_wp2
    go_roundw
    case rel =>
     refine ⟨k + 1, svs ++ [slOf g xs], by omega, by go_num, Lib.hid ⟨HI.out.1.step HB2.out hlt HG.out (HF.out.rowI (by have := HX.out _ (List.mem_of_getElem? HG.out); omega)) (fun b hb => by cases hb; exact HF.out.ge), ?_⟩⟩
     exact (HI.out.2.trans (HB2.out.mono HI.out.2.size)).setCell (Nat.le_refl _) _
    case measure => simp [intOf]; omega
  · obtain rfl : k = n := by omega
    clear hA
    go_wp2
    go_ret
    exact ⟨_, svs, rfl, HI.out.2, HI.out.1.done HN.out (by omega)⟩
end Go.Proofs.YtbenebcphaiohaaGreat
namespace Go.Proofs.YtbenebcphaiohaaGreat
open Go.Joins Go.ChangeShapes Go.WideShapes Go.ChangeAt Go.RowKit Go.Deep
section
variable {H : Type} {enc : TypeId × Value → H} {w : World}
theorem cells_val : Tryz.prog.cellsOf 126 = 1 := by kernel_rfl
theorem cells_ints : Tryz.prog.cellsOf 25 = 1 := by kernel_rfl
abbrev enV : En (Value × List Int) := ⟨1, fun x => [x.1]⟩
theorem val_el {fuel : Nat} {cs : List Value} {d : DataW H} {p : List MemPlace} (h : DataW.trod enc Tryz.prog w 0 (fun _ => true) true fuel 126 cs = some (d, p)) (hw : ∀ n ∈ d.weights Tryz.prog 126, n ≤ reachBytes) :
 ∃ x : Value × List Int, (∀ f u, (enV.cells x)[f]? = some u → f < enV.sz ∧ cs[f]? = some u) ∧ SlAt enI w x.1 x.2 := by
 obtain ⟨xs, n, -, hd, hcl, hxl, hf⟩ := DataW.trod_struct Tryz.underlying126 h
 simp only [Prod.mk.injEq] at hd
 obtain ⟨rfl, -⟩ := hd
 match xs, hxl with
 | [y0], _ =>
   have hcs : cs.length = 1 := hcl.trans cells_val
   match cs, hcs with
   | [c], _ =>
     obtain ⟨L, hL, -⟩ := slAt_of enI (fun _ => True) Tryz.underlying25 cells_int (by decide +kernel) (by decide) (fun _ _ _ _ h _ => int_el h) (d := y0.1) (p := y0.2) (v := c) ((congrArg (DataW.trod enc Tryz.prog w 0 (fun _ => true) true n _) (one_cell (cs := [c]) (k := 0) cells_ints rfl)).symm.trans (hf 0 _ rfl)) (fun n hn => hw n (by
      simp only [DataW.weights, Tryz.underlying126]
      exact DataW.weights_mem_each (j := 0) (t := 25) (d := y0.1) rfl rfl _ hn))
     refine ⟨(c, L), fun f u hu => ?_, hL⟩
     match f, hu with
     | 0, hu => exact ⟨Nat.lt_succ_self 0, hu⟩
theorem vl_open {r : _root_.Go.Reach} {b0 : Nat} {v : Value} {d : DataW H} {p : List MemPlace} (hv : Value.okWide Tryz.prog w r b0 54 v) (h : DataW.Trod enc Tryz.prog w 0 (fun _ => true) true 54 v d p) (hw : ∀ n ∈ d.weights Tryz.prog 54, n ≤ reachBytes) : ∃ L, VlAt w v L := by
 obtain ⟨a, len, cap, rfl⟩ := okWide_slice Tryz.underlying54 hv
 obtain ⟨fuel, hf⟩ := h
 obtain ⟨zs, hz, hR⟩ := slAt_of enV (fun x => SlAt enI w x.1 x.2) Tryz.underlying54 cells_val (by decide +kernel) (by decide) (fun _ _ _ _ h hw => val_el h hw) hf hw
 obtain ⟨A, c, hv, h1, h2, h3⟩ := hz
 refine ⟨zs.map (·.2), A, c, by simpa using hv, by simpa using h1, by simp; omega, fun i xs hx => ?_⟩
 rw [List.getElem?_map] at hx
 obtain ⟨z, hz, rfl⟩ := Option.map_eq_some_iff.1 hx
 obtain ⟨b, o, hA, hc⟩ := h3 i z hz
 refine ⟨b, o, z.1, hA, ?_, (hR z (List.mem_of_getElem? hz)).slN⟩
 have := hc 0 _ rfl
 simpa using this
end
end Go.Proofs.YtbenebcphaiohaaGreat
namespace Go.Proofs.YtbenebcphaiohaaGreat
open Go.RowKit
def valN (i a : Int) (xs : List Int) : Bool := ((xs.length : Int) == cellsN i a) && xs.all (wokB a)
abbrev valB (x : Nd) (xs : List Int) : Bool := valN x.idx x.wid xs
def fitsB (ns : List Nd) (ps : List Int) (L : List (List Int)) : Bool := (L.length == ps.length) && (List.range L.length).all fun j => valB (ns.getD (ps.getD j 0).toNat Nd.zero) (L.getD j [])
theorem fits_len {ns : List Nd} {ps : List Int} {L : List (List Int)} (h : (L.length == ps.length) = false) : fitsB ns ps L = false := by unfold fitsB; rw [h]; rfl
theorem fits_no {ns : List Nd} {ps : List Int} {L : List (List Int)} {k : Nat} (hk : k < L.length) (h : valB (ns.getD (ps.getD k 0).toNat Nd.zero) (L.getD k []) = false) : fitsB ns ps L = false := by
 unfold fitsB
 rw [Bool.and_eq_false_iff]
 right
 rw [List.all_eq_false]
 exact ⟨k, by simpa using hk, by simpa using h⟩
theorem fits_yes {ns : List Nd} {ps : List Int} {L : List (List Int)} (hl : L.length = ps.length) (h : ∀ k, k < L.length → valB (ns.getD (ps.getD k 0).toNat Nd.zero) (L.getD k []) = true) : fitsB ns ps L = true := by
 unfold fitsB
 rw [Bool.and_eq_true]
 exact ⟨by simpa using hl, by rw [List.all_eq_true]; intro k hk; exact h k (by simpa using hk)⟩
theorem val_len {i a : Int} {xs : List Int} (h : ((xs.length : Int) == cellsN i a) = false) : valN i a xs = false := by unfold valN; rw [h]; rfl
theorem val_no {i a : Int} {xs : List Int} {k : Nat} (hk : k < xs.length) (h : wokB a (xs.getD k 0) = false) : valN i a xs = false := by
 unfold valN
 rw [Bool.and_eq_false_iff]
 right
 rw [List.all_eq_false]
 exact ⟨_, List.mem_of_getElem? (getD_at hk 0), by simpa using h⟩
theorem val_yes {i a : Int} {xs : List Int} (hl : (xs.length : Int) = cellsN i a) (h : ∀ k, k < xs.length → wokB a (xs.getD k 0) = true) : valN i a xs = true := by
 unfold valN
 rw [Bool.and_eq_true]
 refine ⟨by simpa using hl, ?_⟩
 rw [List.all_eq_true]
 intro y hy
 obtain ⟨k, hk⟩ := List.getElem?_of_mem hy
 have hlt := (List.getElem?_eq_some_iff.1 hk).1
 have := h k hlt
 rw [getD_at hlt 0] at hk
 rw [Option.some.inj hk] at this
 exact this
theorem WordOk_calls (a v : Int) (w : World) : Makes Tryz.prog 212 #[.int .i64 a, .int .i64 v] w (.bool (wokB a v)) := .of_same (WordOk_same a v w)
def InN (ps : List Int) (n : Nat) : Prop := ∀ (i : Nat) (p : Int), ps[i]? = some p → ∃ j : Nat, p = j ∧ j < n
theorem l4Fits_calls (mv pv lv : Value) (M : Md) (ps : List Int) (L : List (List Int)) (w : World) (hM : MdAt w mv M) (hP : SlN enI w pv ps) (hI : InN ps M.nodes.length) (hL : VlAt w lv L) :
 Makes Tryz.prog 179 #[mv, pv, lv] w (.bool (fitsB M.nodes ps L)) := by
 obtain ⟨s0, s1, s2, s3, s4, rfl, hS, -, -, -, -⟩ := hM.at_
 obtain ⟨A, c, rfl, hnc, hc', hA⟩ := hS
 obtain ⟨B, d, rfl, -, hd', hB⟩ := hP
 obtain ⟨D, e, rfl, -, he', hD⟩ := hL
 clear hM
 have HNO := Lib.hid (show ∀ k, k < L.length → valB (M.nodes.getD (ps.getD k 0).toNat Nd.zero) (L.getD k []) = false → fitsB M.nodes ps L = false from fun k h1 h2 => fits_no h1 h2)
 have HYES := Lib.hid (show L.length = ps.length → (∀ k, k < L.length → valB (M.nodes.getD (ps.getD k 0).toNat Nd.zero) (L.getD k []) = true) → fitsB M.nodes ps L = true from fun h1 h2 => fits_yes h1 h2)
 have HLN := Lib.hid (show (L.length == ps.length) = false → fitsB M.nodes ps L = false from fun h => fits_len h)
 generalize fitsB M.nodes ps L = R at *
 have HI := Lib.hid hI
 generalize hN : M.nodes.length = n at *
 have HN := Lib.hid hN
 generalize hQ : ps.length = q at *
 have HQ := Lib.hid hQ
 generalize hT : L.length = t at *
 have HT := Lib.hid hT
 clear hN hQ hT hI
 have hn : n ≤ 281474976710656 := Nat.le_trans hnc hc'
 clear hnc hc'
 by_cases hqt : t = q
 · subst hqt
   go_enter Tryz.func179, Tryz.ntmps179
   go_wp2
   generalize hw1 : w.alloc (Obj.cells #[.slice A n c, s1, s2, s3, s4] 27) = w1
   have hb0 : ∀ u : Later w1, u.val.cell? ⟨w.heap.size, 0, none⟩ = some (.slice A n c) := Later.cell (by rw [← hw1]; simp)
   have HB := Lib.hid (show Below w.heap.size w w1 by rw [← hw1]; exact (Below.refl _ _).alloc (Nat.le_refl _) _)
   clear hw1
   go_loopw [7] (fun i wr => ∃ k : Nat, k ≤ t ∧ i = .int .i64 k ∧ Hid (∀ j, j < k → valB (M.nodes.getD (ps.getD j 0).toNat Nd.zero) (L.getD j []) = true) ∧ LaterC w1 wr) (fun i _ => t - (intOf i).toNat)
   case atStart => exact ⟨0, Nat.zero_le _, rfl, Lib.hid (fun i hi => absurd hi (Nat.not_lt_zero _)), LaterC.refl _⟩
   case round =>
    obtain ⟨k, hk, rfl, HTO, ⟨u, rfl⟩⟩ := hrel
    by_cases hlt : k < t
    · have hgp := getD_at (show k < ps.length by rw [HQ.out]; exact hlt) 0
      obtain ⟨p, hp, hpn⟩ := HI.out k _ hgp
      obtain ⟨bp, op, rfl, hpx⟩ := hB k _ hgp
      have hgl := getD_at (show k < L.length by rw [HT.out]; exact hlt) []
      obtain ⟨bl, ol, sv, rfl, hlc, hls⟩ := hD k _ hgl
      have hgn := getD_at (show p < M.nodes.length by rw [HN.out]; exact hpn) Nd.zero
      obtain ⟨bn, on, rfl, hnx⟩ := hA p _ hgn
      have HV := Lib.hid (show valB (M.nodes.getD (ps.getD k 0).toNat Nd.zero) (L.getD k []) = valB (M.nodes.getD p Nd.zero) (L.getD k []) by rw [hp]; rfl)
      rw [hp] at hpx
      generalize M.nodes.getD p Nd.zero = x at *
      generalize hxs : L.getD k [] = xs at *
      have HXS := Lib.hid hxs
      have p0 : ∀ l : Later w1, l.val.cell? ⟨bp, op + k, none⟩ = some (.int .i64 (p : Int)) := hpx.int HB.out
      have q0 : ∀ l : Later w1, l.val.cell? ⟨bl, ol + k, none⟩ = some sv := back_cell hlc HB.out
      have p6 : ∀ l : Later w1, l.val.cell? ⟨bn, on + p * 9 + 6, none⟩ = some (.int .i64 x.idx) := hnx.at_ HB.out 6 _ rfl
      have p7 : ∀ l : Later w1, l.val.cell? ⟨bn, on + p * 9 + 7, none⟩ = some (.int .i64 x.wid) := hnx.at_ HB.out 7 _ rfl
      obtain ⟨As, cs, rfl, -, hm0, hAs⟩ := hls.below HB.out
      generalize hm : xs.length = m at *
      have HM := Lib.hid hm
      clear hm
      clear hxs hgp hgl hgn hpx hnx hlc hls hp hA hB hD
      go_wp2
      have HQL := Lib.hid (show ∀ W, LaterC w1 W → W.cell? ⟨w.heap.size, 0, none⟩ = some (.slice (some ⟨bn, on, none⟩) n c) ∧ W.cell? ⟨bp, op + k, none⟩ = some (.int .i64 (p : Int)) ∧ W.cell? ⟨bn, on + p * 9 + 6, none⟩ = some (.int .i64 x.idx) ∧ W.cell? ⟨bn, on + p * 9 + 7, none⟩ = some (.int .i64 x.wid) from fun W h => by
       obtain ⟨l, rfl⟩ := h
       exact ⟨hb0 l, p0 l, p6 l, p7 l⟩)
      go_region_held3 (fun w' => w'.cell? ⟨w.heap.size, 0, none⟩ = some (.slice (some ⟨bn, on, none⟩) n c) ∧ w'.cell? ⟨bp, op + k, none⟩ = some (.int .i64 (p : Int)) ∧ w'.cell? ⟨bn, on + p * 9 + 6, none⟩ = some (.int .i64 x.idx) ∧ w'.cell? ⟨bn, on + p * 9 + 7, none⟩ = some (.int .i64 x.wid)) ((refine HQL.out _ ?_; repeat (first | exact ⟨_, rfl⟩ | refine LaterC.drew' ?_ | refine LaterC.alloc' ?_ _))) (fail)
      go_wp2
      have HL2 := Lib.hid (show LaterC w1 (u.val.alloc (Obj.cells #[.int .i64 x.idx, .int .i64 x.wid] 34)).drew from LaterC.drew' (u.alloc _))
      have y0 := Later.re (box_cell u.val #[.int .i64 x.idx, .int .i64 x.wid] 34 0 _ rfl) (LaterC.drew' (LaterC.refl _))
      have y1 := Later.re (box_cell u.val #[.int .i64 x.idx, .int .i64 x.wid] 34 1 _ rfl) (LaterC.drew' (LaterC.refl _))
      generalize (u.val.alloc (Obj.cells #[.int .i64 x.idx, .int .i64 x.wid] 34)).drew = w2 at *
      generalize u.val.heap.size = G at *
      have y0 : ∀ l : Later w2, l.val.cell? ⟨G, 0, none⟩ = some (.int .i64 x.idx) := y0
      have y1 : ∀ l : Later w2, l.val.cell? ⟨G, 1, none⟩ = some (.int .i64 x.wid) := y1
      have r0 := Later.re q0 HL2.out
      have HAS := Lib.hid (fun (j : Nat) y (hy : xs[j]? = some y) => (hAs j y hy : ∃ b o, As = some ⟨b, o, none⟩ ∧ CellsAt enI w1 b o j y))
      clear p0 q0 p6 p7 hAs hb0
      refine at_world (w := w2) ?_
      intro v
      by_cases hl : ((m : Int) == cellsN x.idx x.wid) = true
      · have HC := Lib.hid (show cellsN x.idx x.wid = (m : Int) from (by simpa using hl : (m : Int) = cellsN x.idx x.wid).symm)
        clear hl
        refine wp_region_later (w0 := w2) (by kernel_rfl) (by kernel_rfl) ⟨v, rfl⟩ ?_
        repeat (go_big_quiet_step ((go_at_call 190; exact Calls.later_eq (SortCells_calls x.idx x.wid _) (congrArg (Value.int .i64) HC.out))))
        refine wpQuiet_nil ?_
        rintro _ ⟨v1, rfl⟩
        go_wp2
        go_loopw [9] (fun j wr => ∃ jj : Nat, jj ≤ m ∧ j = .int .i64 jj ∧ Hid (∀ i, i < jj → wokB x.wid (xs.getD i 0) = true) ∧ LaterC w2 wr) (fun j _ => m - (intOf j).toNat)
        case atStart => exact ⟨0, Nat.zero_le _, rfl, Lib.hid (fun i hi => absurd hi (Nat.not_lt_zero _)), ⟨v1, rfl⟩⟩
        case round =>
         obtain ⟨j, hj, rfl, HJ, ⟨v2, rfl⟩⟩ := hrel
         by_cases hlt2 : j < m
         · have hget2 := getD_at (show j < xs.length by rw [HM.out]; exact hlt2) 0
           obtain ⟨bs, os, rfl, hcx⟩ := HAS.out j _ hget2
           have c0 : ∀ l : Later w2, l.val.cell? ⟨bs, os + j, none⟩ = some (.int .i64 (xs.getD j 0)) := hcx.int HL2.out.below
           generalize hy : xs.getD j 0 = y at *
           have HY := Lib.hid hy
           clear hy hcx hget2
           by_cases hw : wokB x.wid y = true
           · have HW := Lib.hid hw
             have HJ2 := Lib.hid (show ∀ i, i < j + 1 → wokB x.wid (xs.getD i 0) = true from fun i hi => by
              rcases Nat.lt_or_ge i j with g | g
              · exact HJ.out i g
              · obtain rfl : i = j := by omega
                rw [HY.out]; exact hw)
             clear hw
             go_wp2
             refine wp_region_later (w0 := w2) (by kernel_rfl) (by kernel_rfl) ⟨v2, rfl⟩ ?_
             repeat (go_big_quiet_step ((go_at_call 212; exact Calls.later_eq (WordOk_calls x.wid y _) (congrArg Value.bool HW.out))))
             refine wpQuiet_nil ?_
             rintro _ ⟨v3, rfl⟩
             go_wp2
             go_roundw
             case rel => exact ⟨j + 1, by omega, by go_num, HJ2, ⟨v3, rfl⟩⟩
             case measure => simp [intOf] <;> omega
           · have hw := eq_false_of_ne_true hw
             have HW := Lib.hid hw
             have HR := Lib.hid (HNO.out k hlt (by rw [HXS.out, HV.out]; exact val_no (k := j) (by rw [HM.out]; exact hlt2) (by rw [HY.out]; exact hw)))
             clear hw
             go_wp2
             refine wp_region_later (w0 := w2) (by kernel_rfl) (by kernel_rfl) ⟨v2, rfl⟩ ?_
             repeat (go_big_quiet_step ((go_at_call 212; exact Calls.later_eq (WordOk_calls x.wid y _) (congrArg Value.bool HW.out))))
             refine wpQuiet_nil ?_
             rintro _ ⟨v3, rfl⟩
             go_wp2
             go_ret
             exact ⟨ret_eq (congrArg Value.bool HR.out.symm), v3.back (below_of HB.out HL2.out)⟩
         · obtain rfl : j = m := by omega
           have HTO2 := Lib.hid (show ∀ j, j < k + 1 → valB (M.nodes.getD (ps.getD j 0).toNat Nd.zero) (L.getD j []) = true from fun i hi => by
            rcases Nat.lt_or_ge i k with g | g
            · exact HTO.out i g
            · obtain rfl : i = k := by omega
              rw [HXS.out, HV.out]; exact val_yes (by rw [HM.out, HC.out]) (fun q hq => HJ.out q (by rw [← HM.out]; exact hq)))
           go_wp2
           go_roundw
           case rel => exact ⟨k + 1, by omega, by go_num, HTO2, HL2.out.trans ⟨v2, rfl⟩⟩
           case measure => simp [intOf] <;> omega
      · have hl := eq_false_of_ne_true hl
        have HR := Lib.hid (HNO.out k hlt (by rw [HXS.out, HV.out]; exact val_len (by rw [HM.out]; exact hl)))
        generalize hcv : cellsN x.idx x.wid = cv at *
        have HC := Lib.hid hcv
        have hne : ((m : Int) != cv) = true := by rw [bne, hl]; rfl
        clear hcv hl
        refine wp_region_later (w0 := w2) (by kernel_rfl) (by kernel_rfl) ⟨v, rfl⟩ ?_
        repeat (go_big_quiet_step ((go_at_call 190; exact Calls.later_eq (SortCells_calls x.idx x.wid _) (congrArg (Value.int .i64) HC.out))))
        refine wpQuiet_nil ?_
        rintro _ ⟨v1, rfl⟩
        go_wp2
        go_ret
        exact ⟨ret_eq (congrArg Value.bool HR.out.symm), v1.back (below_of HB.out HL2.out)⟩
    · obtain rfl : k = t := by omega
      have HR := Lib.hid (HYES.out trivial HTO.out)
      clear hA hB hD
      go_wp2
      go_ret
      exact ⟨ret_eq (congrArg Value.bool HR.out.symm), u.back HB.out⟩
 · have HR := Lib.hid (HLN.out (by simpa using hqt))
   have hne : (t == q) = false := by simpa using hqt
   go_enter Tryz.func179, Tryz.ntmps179
   go_wp2
   go_ret
   exact ⟨ret_eq (congrArg Value.bool HR.out.symm), box_below _ _ _⟩
end Go.Proofs.YtbenebcphaiohaaGreat
namespace Go.Proofs.YtbenebcphaiohaaGreat
open Go.RowKit
def firstN (p : Int → Bool) : List Int → Int
 | [] => -1
 | x :: l => if p x = true then 0 else if firstN p l < 0 then -1 else firstN p l + 1
theorem first_at {p : Int → Bool} : ∀ {xs : List Int} {k : Nat}, k < xs.length → (∀ j, j < k → p (xs.getD j 0) = false) → p (xs.getD k 0) = true → firstN p xs = k
 | x :: l, 0, _, _, h => by
   have h' : p x = true := h
   simp [firstN, h']
 | x :: l, k + 1, hk, hto, h => by
   have h0 : p x = false := hto 0 (Nat.succ_pos _)
   have ih := first_at (xs := l) (k := k) (by simpa using hk) (fun j hj => hto (j + 1) (by omega)) h
   unfold firstN
   rw [if_neg (by simp [h0]), ih, if_neg (by omega)]
   rfl
theorem first_none {p : Int → Bool} : ∀ {xs : List Int}, (∀ j, j < xs.length → p (xs.getD j 0) = false) → firstN p xs = -1
 | [], _ => rfl
 | x :: l, h => by
   have h0 : p x = false := h 0 (Nat.succ_pos _)
   have ih := first_none (xs := l) (fun j hj => h (j + 1) (by simpa using hj))
   unfold firstN
   rw [if_neg (by simp [h0]), ih]
   rfl
theorem first_any (p : Int → Bool) : ∀ xs : List Int, decide (0 ≤ firstN p xs) = xs.any p
 | [] => rfl
 | x :: l => by
   have ih := first_any p l
   unfold firstN
   rw [List.any_cons, ← ih]
   by_cases h : p x = true
   · simp [h]
   · have h := eq_false_of_ne_true h
     rw [h, Bool.false_or, if_neg (by simp)]
     by_cases hl : firstN p l < 0
     · rw [if_pos hl]
       rw [decide_eq_false (by omega), decide_eq_false (by omega)]
     · rw [if_neg hl]
       rw [decide_eq_true (by omega), decide_eq_true (by omega)]
def Answers (w : World) (F : FuncId) (caps : Array Value) (p : Int → Bool) (xs : List Int) : Prop :=
 ∀ (y : Int) (u : Later w), y ∈ xs → Makes Tryz.prog F (#[.int .i64 y] ++ caps) u.val (.bool (p y))
theorem indexI_calls (F : FuncId) (caps : Array Value) (p : Int → Bool) (sv : Value) (xs : List Int) (w : World) (hS : SlN enI w sv xs) (heg : ∀ (args : Array Value) (w : World), (callFunc F args).run Tryz.prog w = .ok (.enter F args) w) (hF : Answers w F caps p xs) :
 Makes Tryz.prog 185 #[sv, .func (.func F) #[] caps] w (.int .i64 (firstN p xs)) := by
 obtain ⟨A, c, rfl, hnc, hn, hA⟩ := hS
 have HAT := Lib.hid (show ∀ k, k < xs.length → (∀ j, j < k → p (xs.getD j 0) = false) → p (xs.getD k 0) = true → firstN p xs = k from fun k => first_at)
 have HNO := Lib.hid (show (∀ j, j < xs.length → p (xs.getD j 0) = false) → firstN p xs = -1 from first_none)
 generalize firstN p xs = R at *
 have HF := Lib.hid hF
 generalize hN : xs.length = n at *
 have HN := Lib.hid hN
 clear hN hnc hF
 go_enter Tryz.func185, Tryz.ntmps185
 go_wp2
 go_loopw [8] (fun i wr => ∃ k : Nat, k ≤ n ∧ i = .int .i64 k ∧ Hid (∀ j, j < k → p (xs.getD j 0) = false) ∧ LaterC w wr) (fun i _ => n - (intOf i).toNat)
 case atStart => exact ⟨0, Nat.zero_le _, rfl, Lib.hid (fun j hj => absurd hj (Nat.not_lt_zero _)), LaterC.refl _⟩
 case round =>
  obtain ⟨k, hk, rfl, hto, ⟨u, rfl⟩⟩ := hrel
  by_cases hlt : k < n
  · have hlt' : (k : Int) < n := by omega
    have hget := getD_at (show k < xs.length by rw [HN.out]; exact hlt) 0
    obtain ⟨g, o, rfl, hx⟩ := hA k _ hget
    have HM := Lib.hid (List.mem_of_getElem? hget)
    generalize hxe : xs.getD k 0 = x at *
    have HX := Lib.hid hxe
    have p0 : ∀ l : Later w, l.val.cell? ⟨g, o + k, none⟩ = some (.int .i64 x) := hx.int (Below.refl _ _)
    clear hx hA hxe hget
    by_cases hv : p x = true
    · have HV := Lib.hid hv
      have HR := Lib.hid (HAT.out k hlt hto.out (by rw [HX.out]; exact hv))
      clear hv hto
      go_wp2_with fail
      refine (Calls.later (u := u) (HF.out x u HM.out)).mono ?_
      rintro e w' ⟨rfl, u1, rfl⟩
      rw [HV.out]
      go_wp2
      go_ret
      exact ⟨ret_eq (congrArg (Value.int .i64) HR.out.symm), u1.prop⟩
    · have hv := eq_false_of_ne_true hv
      have HV := Lib.hid hv
      have HTO := Lib.hid (show ∀ j, j < k + 1 → p (xs.getD j 0) = false from fun j hj => by
       rcases Nat.lt_or_ge j k with g | g
       · exact hto.out j g
       · obtain rfl : j = k := by omega
         rw [HX.out]; exact hv)
      clear hv hto
      go_wp2_with fail
      refine (Calls.later (u := u) (HF.out x u HM.out)).mono ?_
      rintro e w' ⟨rfl, u1, rfl⟩
      rw [HV.out]
      go_wp2
      go_roundw
      case rel => exact ⟨k + 1, by omega, by go_num, HTO, ⟨u1, rfl⟩⟩
      case measure => simp [intOf] <;> omega
  · obtain rfl : k = n := by omega
    have HR := Lib.hid (HNO.out hto.out)
    clear hA hto
    go_wp2
    go_ret
    exact ⟨ret_eq (congrArg (Value.int .i64) HR.out.symm), u.prop⟩
theorem containsI_calls (F : FuncId) (caps : Array Value) (p : Int → Bool) (sv : Value) (xs : List Int) (w : World) (hS : SlN enI w sv xs) (heg : ∀ (args : Array Value) (w : World), (callFunc F args).run Tryz.prog w = .ok (.enter F args) w) (hF : Answers w F caps p xs) :
 Makes Tryz.prog 168 #[sv, .func (.func F) #[] caps] w (.bool (xs.any p)) := by
 have HA := Lib.hid (first_any p xs)
 have HX := Lib.hid (indexI_calls F caps p sv xs w hS heg hF)
 generalize firstN p xs = z at *
 generalize xs.any p = R at *
 clear hS hF heg
 by_cases hz : 0 ≤ z
 · have HR := Lib.hid (show R = true by rw [← HA.out]; exact decide_eq_true hz)
   go_enter Tryz.func168, Tryz.ntmps168
   go_wp2_with (go_at_call 185; refine HX.out.mono ?_; rintro e w' ⟨rfl, hb⟩; have HB := Lib.hid hb; clear hb)
   go_ret
   exact ⟨ret_eq (congrArg Value.bool (by simp [HR.out, hz])), HB.out⟩
 · have HR := Lib.hid (show R = false by rw [← HA.out]; exact decide_eq_false hz)
   go_enter Tryz.func168, Tryz.ntmps168
   go_wp2_with (go_at_call 185; refine HX.out.mono ?_; rintro e w' ⟨rfl, hb⟩; have HB := Lib.hid hb; clear hb)
   go_ret
   exact ⟨ret_eq (congrArg Value.bool (by simp [HR.out, hz])), HB.out⟩
end Go.Proofs.YtbenebcphaiohaaGreat
namespace Go.Proofs.YtbenebcphaiohaaGreat
open Go.RowKit
theorem any_not (p : Int → Bool) (xs : List Int) : (!(xs.any fun n => !p n)) = xs.all p := by
 induction xs with
 | nil => rfl
 | cons x l ih => rw [List.any_cons, List.all_cons, ← ih]; cases p x <;> simp
theorem vclosure_calls (Bs : Nat) (a n : Int) (w : World) (h : w.cell? ⟨Bs, 1, none⟩ = some (.int .i64 a)) :
 Makes Tryz.prog 222 #[.int .i64 n, .pointer (some ⟨Bs, 0, none⟩)] w (.bool (!wokB a n)) := by
 go_enter Tryz.func222, Tryz.ntmps222
 go_wp2_with (go_at_call 21; refine (WordOk'_same a n _).mono ?_; rintro e w' ⟨rfl, rfl⟩)
 go_ret
 exact ⟨rfl, Below.refl _ _⟩
theorem valueOk_calls (i a : Int) (sv : Value) (xs : List Int) (w : World) (hS : SlN enI w sv xs) :
 Makes Tryz.prog 196 #[.agg #[.int .i64 i, .int .i64 a], .agg #[sv]] w (.bool (valN i a xs)) := by
 have HS0 := Lib.hid hS
 obtain ⟨A, c, rfl, hnc, hn, -⟩ := hS
 have HR := Lib.hid (show valN i a xs = (((xs.length : Int) == cellsN i a) && !(xs.any fun n => !wokB a n)) by rw [any_not]; rfl)
 generalize hR : valN i a xs = R at *
 clear hR
 have HS1 := Lib.hid (show Below w.heap.size w ((w.alloc (Obj.cells #[.int .i64 i, .int .i64 a] 34)).alloc (Obj.cells #[.slice A xs.length c] 40)) by
  refine Below.alloc (Below.alloc (Below.refl _ _) (Nat.le_refl _) _) ?_ _ <;> first | (simp; done) | (simp; omega))
 have HS := Lib.hid (HS0.out.below HS1.out)
 generalize hm : xs.length = m at *
 have HM := Lib.hid hm
 have hmf : ∀ (fn : Fn) (first cap : Array Value) (w : World), (Instr.makeFunc fn first cap).run Tryz.prog w = .ok (.func fn first cap) w := fun _ _ _ _ => rfl
 clear hm HS0
 go_enter Tryz.func196, Tryz.ntmps196
 go_wp2
 have y0 : ((w.alloc (Obj.cells #[.int .i64 i, .int .i64 a] 34)).alloc (Obj.cells #[.slice A m c] 40)).cell? ⟨w.heap.size, 0, none⟩ = some (.int .i64 i) := by go_simp
 have y1 : ((w.alloc (Obj.cells #[.int .i64 i, .int .i64 a] 34)).alloc (Obj.cells #[.slice A m c] 40)).cell? ⟨w.heap.size, 1, none⟩ = some (.int .i64 a) := by go_simp
 have z0 : ((w.alloc (Obj.cells #[.int .i64 i, .int .i64 a] 34)).alloc (Obj.cells #[.slice A m c] 40)).cell? ⟨w.heap.size + 1, 0, none⟩ = some (.slice A m c) := by go_simp
 generalize (w.alloc (Obj.cells #[.int .i64 i, .int .i64 a] 34)).alloc (Obj.cells #[.slice A m c] 40) = w1 at *
 have y0 := Later.cell y0
 have y1 := Later.cell y1
 have z0 := Later.cell z0
 have HANS := Lib.hid (show ∀ u : Later w1, Answers u.val 222 #[.pointer (some ⟨w.heap.size, 0, none⟩)] (fun n => !wokB a n) xs from fun u y u2 _ => vclosure_calls w.heap.size a y u2.val (y1 ⟨u2.val, u2.back u.prop⟩))
 obtain ⟨V, hV⟩ : ∃ V, V = xs.any fun n => !wokB a n := ⟨_, rfl⟩
 rw [← hV] at HR
 have HV := Lib.hid hV.symm
 clear hV
 by_cases hl : ((m : Int) == cellsN i a) = true
 · have HC := Lib.hid (show cellsN i a = (m : Int) from (by simpa using hl : (m : Int) = cellsN i a).symm)
   rw [hl, Bool.true_and] at HR
   clear hl
   refine wp_region_later (w0 := w1) (by kernel_rfl) (by kernel_rfl) (LaterC.refl _) ?_
   repeat (go_big_quiet_step (first | (go_at_call 19; exact Calls.later_eq (SortCells'_calls i a _) (congrArg (Value.int .i64) HC.out)) | (go_at_call 168; exact Calls.later_eq (containsI_calls _ #[.pointer (some ⟨w.heap.size, 0, none⟩)] (fun n => !wokB a n) _ xs _ (HS.out.later _) (fun _ _ => rfl) (HANS.out _)) (congrArg Value.bool HV.out))))
   refine wpQuiet_nil ?_
   rintro _ ⟨u1, rfl⟩
   go_wp2
   go_ret
   exact ⟨ret_eq (congrArg Value.bool HR.out.symm), u1.back HS1.out⟩
 · have hl := eq_false_of_ne_true hl
   have HRF := Lib.hid (show R = false by rw [HR.out, hl, Bool.false_and])
   clear HR
   refine wp_region_later (w0 := w1) (by kernel_rfl) (by kernel_rfl) (LaterC.refl _) ?_
   repeat (go_big_quiet_step ((go_at_call 19; exact Calls.later (SortCells'_calls i a _))))
   refine wpQuiet_nil ?_
   rintro _ ⟨u1, rfl⟩
   go_wp2
   go_ret
   exact ⟨ret_eq (congrArg Value.bool HRF.out.symm), u1.back HS1.out⟩
theorem fits_calls (mv pv lv : Value) (M : Md) (ps : List Int) (L : List (List Int)) (w : World) (hM : MdAt w mv M) (hP : SlN enI w pv ps) (hI : InN ps M.nodes.length) (hL : VlAt w lv L) :
 Makes Tryz.prog 145 #[mv, pv, lv] w (.bool (fitsB M.nodes ps L)) := by
 obtain ⟨s0, s1, s2, s3, s4, rfl, hS, -, -, -, -⟩ := hM.at_
 obtain ⟨A, c, rfl, hnc, hc', hA⟩ := hS
 obtain ⟨B, d, rfl, -, hd', hB⟩ := hP
 obtain ⟨D, e, rfl, -, he', hD⟩ := hL
 clear hM
 have HNO := Lib.hid (show ∀ k, k < L.length → valB (M.nodes.getD (ps.getD k 0).toNat Nd.zero) (L.getD k []) = false → fitsB M.nodes ps L = false from fun k h1 h2 => fits_no h1 h2)
 have HYES := Lib.hid (show L.length = ps.length → (∀ k, k < L.length → valB (M.nodes.getD (ps.getD k 0).toNat Nd.zero) (L.getD k []) = true) → fitsB M.nodes ps L = true from fun h1 h2 => fits_yes h1 h2)
 have HLN := Lib.hid (show (L.length == ps.length) = false → fitsB M.nodes ps L = false from fun h => fits_len h)
 generalize fitsB M.nodes ps L = R at *
 have HI := Lib.hid hI
 generalize hN : M.nodes.length = n at *
 have HN := Lib.hid hN
 generalize hQ : ps.length = q at *
 have HQ := Lib.hid hQ
 generalize hT : L.length = t at *
 have HT := Lib.hid hT
 clear hN hQ hT hI
 have hn : n ≤ 281474976710656 := Nat.le_trans hnc hc'
 clear hnc hc'
 by_cases hqt : t = q
 · subst hqt
   go_enter Tryz.func145, Tryz.ntmps145
   go_wp2
   generalize hw1 : w.alloc (Obj.cells #[.slice A n c, s1, s2, s3, s4] 27) = w1
   have hb0 : ∀ u : Later w1, u.val.cell? ⟨w.heap.size, 0, none⟩ = some (.slice A n c) := Later.cell (by rw [← hw1]; simp)
   have HB := Lib.hid (show Below w.heap.size w w1 by rw [← hw1]; exact (Below.refl _ _).alloc (Nat.le_refl _) _)
   clear hw1
   go_loopw [16] (fun i wr => ∃ k : Nat, k ≤ t ∧ i = .int .i64 k ∧ Hid (∀ j, j < k → valB (M.nodes.getD (ps.getD j 0).toNat Nd.zero) (L.getD j []) = true) ∧ LaterC w1 wr) (fun i _ => t - (intOf i).toNat)
   case atStart => exact ⟨0, Nat.zero_le _, rfl, Lib.hid (fun i hi => absurd hi (Nat.not_lt_zero _)), LaterC.refl _⟩
   case round =>
    obtain ⟨k, hk, rfl, HTO, ⟨u, rfl⟩⟩ := hrel
    by_cases hlt : k < t
    · have hlt' : (k : Int) < t := by omega
      have hgp := getD_at (show k < ps.length by rw [HQ.out]; exact hlt) 0
      obtain ⟨p, hp, hpn⟩ := HI.out k _ hgp
      obtain ⟨bp, op, rfl, hpx⟩ := hB k _ hgp
      have hgl := getD_at (show k < L.length by rw [HT.out]; exact hlt) []
      obtain ⟨bl, ol, sv, rfl, hlc, hls⟩ := hD k _ hgl
      have hgn := getD_at (show p < M.nodes.length by rw [HN.out]; exact hpn) Nd.zero
      obtain ⟨bn, on, rfl, hnx⟩ := hA p _ hgn
      have HVV := Lib.hid (show valB (M.nodes.getD (ps.getD k 0).toNat Nd.zero) (L.getD k []) = valB (M.nodes.getD p Nd.zero) (L.getD k []) by rw [hp]; rfl)
      rw [hp] at hpx
      generalize M.nodes.getD p Nd.zero = x at *
      generalize hxs : L.getD k [] = xs at *
      have HXS := Lib.hid hxs
      have p0 : ∀ l : Later w1, l.val.cell? ⟨bp, op + k, none⟩ = some (.int .i64 (p : Int)) := hpx.int HB.out
      have q0 : ∀ l : Later w1, l.val.cell? ⟨bl, ol + k, none⟩ = some sv := back_cell hlc HB.out
      have p6 : ∀ l : Later w1, l.val.cell? ⟨bn, on + p * 9 + 6, none⟩ = some (.int .i64 x.idx) := hnx.at_ HB.out 6 _ rfl
      have p7 : ∀ l : Later w1, l.val.cell? ⟨bn, on + p * 9 + 7, none⟩ = some (.int .i64 x.wid) := hnx.at_ HB.out 7 _ rfl
      have HS := Lib.hid (hls.below HB.out)
      clear hxs hgp hgl hgn hpx hnx hlc hls hp hA hB hD
      by_cases hv : valN x.idx x.wid xs = true
      · have HV := Lib.hid hv
        have HTO2 := Lib.hid (show ∀ j, j < k + 1 → valB (M.nodes.getD (ps.getD j 0).toNat Nd.zero) (L.getD j []) = true from fun j hj => by
         rcases Nat.lt_or_ge j k with g | g
         · exact HTO.out j g
         · obtain rfl : j = k := by omega
           rw [HXS.out, HVV.out]; exact hv)
        clear hv HTO
        go_wp2
        refine wp_region_later (w0 := w1) (by kernel_rfl) (by kernel_rfl) ⟨u, rfl⟩ ?_
        repeat (go_big_quiet_step ((go_at_call 196; exact Calls.later_eq (valueOk_calls x.idx x.wid sv xs _ (HS.out.later _)) (congrArg Value.bool HV.out))))
        refine wpQuiet_nil ?_
        rintro _ ⟨u1, rfl⟩
        go_wp2
        go_roundw
        case rel => exact ⟨k + 1, by omega, by go_num, HTO2, ⟨u1, rfl⟩⟩
        case measure => simp [intOf] <;> omega
      · have hv := eq_false_of_ne_true hv
        have HV := Lib.hid hv
        have HR := Lib.hid (HNO.out k hlt (by rw [HXS.out, HVV.out]; exact hv))
        clear hv HTO
        go_wp2
        refine wp_region_later (w0 := w1) (by kernel_rfl) (by kernel_rfl) ⟨u, rfl⟩ ?_
        repeat (go_big_quiet_step ((go_at_call 196; exact Calls.later_eq (valueOk_calls x.idx x.wid sv xs _ (HS.out.later _)) (congrArg Value.bool HV.out))))
        refine wpQuiet_nil ?_
        rintro _ ⟨u1, rfl⟩
        go_wp2
        go_ret
        exact ⟨ret_eq (congrArg Value.bool HR.out.symm), u1.back HB.out⟩
    · obtain rfl : k = t := by omega
      have HR := Lib.hid (HYES.out trivial HTO.out)
      clear hA hB hD
      go_wp2
      go_ret
      exact ⟨ret_eq (congrArg Value.bool HR.out.symm), u.back HB.out⟩
 · have HR := Lib.hid (HLN.out (by simpa using hqt))
   have hne : (t == q) = false := by simpa using hqt
   go_enter Tryz.func145, Tryz.ntmps145
   go_wp2
   go_ret
   exact ⟨ret_eq (congrArg Value.bool HR.out.symm), box_below _ _ _⟩
end Go.Proofs.YtbenebcphaiohaaGreat
namespace Go.Proofs.YtbenebcphaiohaaGreat
open Go.RowKit
theorem ownsRow_mono {w : World} {B B' n s : Nat} {e : TypeId} {v : Value} {xs : List Value} (h : w.ownsRow B e s v n xs) (hB : B' ≤ B) : w.ownsRow B' e s v n xs := by
 refine ⟨h.1, ?_⟩
 rcases h.2 with h0 | ⟨g, cap, cur, hv, hb, r⟩
 · exact .inl h0
 · exact .inr ⟨g, cap, cur, hv, Nat.le_trans hB hb, r⟩
theorem l2Places_calls (mv : Value) (M : Md) (kind : Int) (w : World) (hM : MdAt w mv M) (hsz : M.nodes.length ≤ 1048576) :
 Calls Tryz.prog 116 #[mv, .int .i64 kind] w fun e w' => ∃ v, e = .returned v ∧ Below w.heap.size w w' ∧ w'.ownsRow w.heap.size 3 1 v (placesN kind M.nodes M.nodes.length).length ((placesN kind M.nodes M.nodes.length).map (Value.int .i64)) := by
 obtain ⟨s0, s1, s2, s3, s4, rfl, hS, -, -, -, -⟩ := hM.at_
 obtain ⟨A, c, rfl, hnc, hc', hA⟩ := hS
 clear hM
 obtain ⟨ti, hti⟩ := info_parts info_int
 have HTI := Lib.hid hti
 clear hti
 generalize hN : M.nodes.length = n at *
 have HN := Lib.hid hN
 clear hN
 have hn : n ≤ 281474976710656 := Nat.le_trans hnc hc'
 clear hc' hnc
 go_enter Tryz.func116, Tryz.ntmps116
 go_wp2
 generalize hw1 : w.alloc (Obj.cells #[.slice A n c, s1, s2, s3, s4] 27) = w1
 have hb0 : ∀ u : Later w1, u.val.cell? ⟨w.heap.size, 0, none⟩ = some (.slice A n c) := Later.cell (by rw [← hw1]; simp)
 have HB := Lib.hid (show Below w.heap.size w w1 by rw [← hw1]; exact (Below.refl _ _).alloc (Nat.le_refl _) _)
 clear hw1
 go_loopw [5, 6] (fun s i wr => ∃ (k q : Nat) (sv : Value), k ≤ n ∧ i = .int .i64 k ∧ sv = s ∧ q ≤ k ∧ Hid (wr.ownsRow w1.heap.size 3 1 sv q ((placesN kind M.nodes k).map (Value.int .i64))) ∧ LaterC w1 wr) (fun _ i _ => n - (intOf i).toNat)
 case atStart => exact ⟨0, 0, _, Nat.zero_le _, rfl, rfl, Nat.le_refl _, Lib.hid ⟨rfl, .inl ⟨rfl, rfl⟩⟩, LaterC.refl _⟩
 case round =>
  obtain ⟨k, q, sv, hk, rfl, hsv, hq, HOWN, ⟨u, rfl⟩⟩ := hrel
  subst hsv
  by_cases hlt : k < n
  · have hget := getD_at (show k < M.nodes.length by rw [HN.out]; exact hlt) Nd.zero
    obtain ⟨b, o, rfl, hx⟩ := hA k _ hget
    by_cases hkd : ((M.nodes.getD k Nd.zero).kind == kind) = true
    · have HP := Lib.hid (placesN_yes hkd)
      generalize hxe : M.nodes.getD k Nd.zero = x at hx hkd
      have p0 : ∀ l : Later w1, l.val.cell? ⟨b, o + k * 9, none⟩ = some (.int .i64 x.kind) := hx.at_ HB.out 0 _ rfl
      clear hx hget hxe hA
      have HNEWS := Lib.hid (show ∀ j u', ([.int .i64 k] : List Value)[j]? = some u' → (u.val.alloc (Obj.cells #[.int .i64 k] 3)).cell? ((⟨u.val.heap.size, 0, none⟩ : Addr).add j) = some u' from World.news_of_block (OwnB.new u.val _ _))
      have HBASE := Lib.hid (show w1.heap.size ≤ (u.val.alloc (Obj.cells #[.int .i64 k] 3)).heap.size from (u.alloc (Obj.cells #[.int .i64 k] 3)).size)
      have HOWN0 := Lib.hid (ownsRow_below HOWN.out (box_below u.val #[.int .i64 k] 3))
      go_wp2_with (at_builtin; refine wpList_append_lies _ (by rfl) _ _ _ (by rfl) w1.heap.size 3 ti _ 1 8 Tryz.underlying25 HTI.out.1 HTI.out.2.1 HTI.out.2.2.1 HTI.out.2.2.2 rfl (by omega) sv q ((placesN kind M.nodes k).map (Value.int .i64)) (by rfl) HOWN0.out ⟨u.val.heap.size, 0, none⟩ 1 1 [.int .i64 k] (by rfl) rfl HNEWS.out (by intro y hy; simp at hy; subst hy; rfl) (by omega) (by unfold maxLen; omega) (by omega) HBASE.out (u.val.heap.size + 1) (by simp) ?_; intro g' cap' wn hown2 hgrow hat hglt; have HOWN2 := Lib.hid hown2; have hL := laterC_grown (u.alloc _) HOWN0.out hgrow; obtain ⟨u2, hu2⟩ := hL; subst hu2; clear hgrow hat hglt hown2)
      go_roundw
      case rel =>
       refine ⟨k + 1, q + 1, _, by omega, by go_num, rfl, by omega, Lib.hid ?_, ⟨u2, rfl⟩⟩
       rw [HP.out, List.map_append]
       exact HOWN2.out
      case measure => simp [intOf] <;> omega
    · have hkd := eq_false_of_ne_true hkd
      have HP := Lib.hid (placesN_no hkd)
      generalize hxe : M.nodes.getD k Nd.zero = x at hx hkd
      have p0 : ∀ l : Later w1, l.val.cell? ⟨b, o + k * 9, none⟩ = some (.int .i64 x.kind) := hx.at_ HB.out 0 _ rfl
      clear hx hget hxe hA
      go_wp2
      go_roundw
      case rel =>
       refine ⟨k + 1, q, _, by omega, by go_num, rfl, by omega, Lib.hid ?_, ⟨u, rfl⟩⟩
       rw [HP.out]
       exact HOWN.out
      case measure => simp [intOf] <;> omega
  · obtain rfl : k = n := by omega
    clear hA
    go_wp2
    go_ret
    have hql : q = (placesN kind M.nodes k).length := by have := HOWN.out.1; simpa using this.symm
    subst hql
    exact ⟨_, rfl, HB.out.trans (u.prop.mono HB.out.size), ownsRow_mono HOWN.out HB.out.size⟩
theorem places_calls (mv : Value) (M : Md) (kind : Int) (w : World) (hM : MdAt w mv M) (hsz : M.nodes.length ≤ 1048576) :
 Calls Tryz.prog 127 #[mv, .int .i64 kind] w fun e w' => ∃ v, e = .returned v ∧ Below w.heap.size w w' ∧ w'.ownsRow w.heap.size 3 1 v (placesN kind M.nodes M.nodes.length).length ((placesN kind M.nodes M.nodes.length).map (Value.int .i64)) := by
 obtain ⟨s0, s1, s2, s3, s4, rfl, hS, -, -, -, -⟩ := hM.at_
 obtain ⟨A, c, rfl, hnc, hc', hA⟩ := hS
 clear hM
 obtain ⟨ti, hti⟩ := info_parts info_int
 have HTI := Lib.hid hti
 clear hti
 generalize hN : M.nodes.length = n at *
 have HN := Lib.hid hN
 clear hN
 have hn : n ≤ 281474976710656 := Nat.le_trans hnc hc'
 clear hc' hnc
 go_enter Tryz.func127, Tryz.ntmps127
 go_wp2
 generalize hw1 : w.alloc (Obj.cells #[.slice A n c, s1, s2, s3, s4] 27) = w1
 have hb0 : ∀ u : Later w1, u.val.cell? ⟨w.heap.size, 0, none⟩ = some (.slice A n c) := Later.cell (by rw [← hw1]; simp)
 have HB := Lib.hid (show Below w.heap.size w w1 by rw [← hw1]; exact (Below.refl _ _).alloc (Nat.le_refl _) _)
 clear hw1
 go_loopw [5, 11] (fun s i wr => ∃ (k q : Nat) (sv : Value), k ≤ n ∧ i = .int .i64 k ∧ sv = s ∧ q ≤ k ∧ Hid (wr.ownsRow w1.heap.size 3 1 sv q ((placesN kind M.nodes k).map (Value.int .i64))) ∧ LaterC w1 wr) (fun _ i _ => n - (intOf i).toNat)
 case atStart => exact ⟨0, 0, _, Nat.zero_le _, rfl, rfl, Nat.le_refl _, Lib.hid ⟨rfl, .inl ⟨rfl, rfl⟩⟩, LaterC.refl _⟩
 case round =>
  obtain ⟨k, q, sv, hk, rfl, hsv, hq, HOWN, ⟨u, rfl⟩⟩ := hrel
  subst hsv
  by_cases hlt : k < n
  · have hget := getD_at (show k < M.nodes.length by rw [HN.out]; exact hlt) Nd.zero
    obtain ⟨b, o, rfl, hx⟩ := hA k _ hget
    by_cases hkd : ((M.nodes.getD k Nd.zero).kind == kind) = true
    · have HP := Lib.hid (placesN_yes hkd)
      generalize hxe : M.nodes.getD k Nd.zero = x at hx hkd
      have p0 : ∀ l : Later w1, l.val.cell? ⟨b, o + k * 9, none⟩ = some (.int .i64 x.kind) := hx.at_ HB.out 0 _ rfl
      have p1 : ∀ l : Later w1, l.val.cell? ⟨b, o + k * 9 + 1, none⟩ = some (.int .i64 x.a) := hx.at_ HB.out 1 _ rfl
      have p2 : ∀ l : Later w1, l.val.cell? ⟨b, o + k * 9 + 2, none⟩ = some (.int .i64 x.b) := hx.at_ HB.out 2 _ rfl
      have p3 : ∀ l : Later w1, l.val.cell? ⟨b, o + k * 9 + 3, none⟩ = some (.int .i64 x.c) := hx.at_ HB.out 3 _ rfl
      have p4 : ∀ l : Later w1, l.val.cell? ⟨b, o + k * 9 + 4, none⟩ = some (.int .i64 x.n) := hx.at_ HB.out 4 _ rfl
      have p5 : ∀ l : Later w1, l.val.cell? ⟨b, o + k * 9 + 5, none⟩ = some (.int .i64 x.m) := hx.at_ HB.out 5 _ rfl
      have p6 : ∀ l : Later w1, l.val.cell? ⟨b, o + k * 9 + 6, none⟩ = some (.int .i64 x.idx) := hx.at_ HB.out 6 _ rfl
      have p7 : ∀ l : Later w1, l.val.cell? ⟨b, o + k * 9 + 7, none⟩ = some (.int .i64 x.wid) := hx.at_ HB.out 7 _ rfl
      have p8 : ∀ l : Later w1, l.val.cell? ⟨b, o + k * 9 + 8, none⟩ = some (.string x.name) := hx.at_ HB.out 8 _ rfl
      clear hx hget hxe hA
      go_upto_region 5 with fail
      have y0 := box_cell u.val #[.int .i64 x.kind, .int .i64 x.a, .int .i64 x.b, .int .i64 x.c, .int .i64 x.n, .int .i64 x.m, .int .i64 x.idx, .int .i64 x.wid, .string x.name] 38 0 _ rfl
      have y0 : ∀ l : Later (u.val.alloc (Obj.cells #[.int .i64 x.kind, .int .i64 x.a, .int .i64 x.b, .int .i64 x.c, .int .i64 x.n, .int .i64 x.m, .int .i64 x.idx, .int .i64 x.wid, .string x.name] 38)), l.val.cell? ⟨u.val.heap.size, 0, none⟩ = some (.int .i64 x.kind) := y0
      have HOWN1 := Lib.hid (ownsRow_below HOWN.out (box_below u.val #[.int .i64 x.kind, .int .i64 x.a, .int .i64 x.b, .int .i64 x.c, .int .i64 x.n, .int .i64 x.m, .int .i64 x.idx, .int .i64 x.wid, .string x.name] 38))
      have hL5 : LaterC w1 (u.val.alloc (Obj.cells #[.int .i64 x.kind, .int .i64 x.a, .int .i64 x.b, .int .i64 x.c, .int .i64 x.n, .int .i64 x.m, .int .i64 x.idx, .int .i64 x.wid, .string x.name] 38)) := u.alloc _
      generalize (u.val.alloc (Obj.cells #[.int .i64 x.kind, .int .i64 x.a, .int .i64 x.b, .int .i64 x.c, .int .i64 x.n, .int .i64 x.m, .int .i64 x.idx, .int .i64 x.wid, .string x.name] 38)) = w5 at *
      generalize u.val.heap.size = GX at *
      clear p0 p1 p2 p3 p4 p5 p6 p7 p8 HOWN
      have HL5 := Lib.hid hL5
      clear hL5
      refine at_world (w := w5) ?_
      intro u
      have HOWN := Lib.hid (ownsRow_below HOWN1.out u.prop)
      have HNEWS := Lib.hid (show ∀ j u', ([.int .i64 k] : List Value)[j]? = some u' → (u.val.alloc (Obj.cells #[.int .i64 k] 3)).cell? ((⟨u.val.heap.size, 0, none⟩ : Addr).add j) = some u' from World.news_of_block (OwnB.new u.val _ _))
      have HBASE := Lib.hid (show w1.heap.size ≤ (u.val.alloc (Obj.cells #[.int .i64 k] 3)).heap.size from (HL5.out.trans (u.alloc (Obj.cells #[.int .i64 k] 3))).size)
      have HOWN0 := Lib.hid (ownsRow_below HOWN.out (box_below u.val #[.int .i64 k] 3))
      go_wp2_with (at_builtin; refine wpList_append_lies _ (by rfl) _ _ _ (by rfl) w1.heap.size 3 ti _ 1 8 Tryz.underlying25 HTI.out.1 HTI.out.2.1 HTI.out.2.2.1 HTI.out.2.2.2 rfl (by omega) sv q ((placesN kind M.nodes k).map (Value.int .i64)) (by rfl) HOWN0.out ⟨u.val.heap.size, 0, none⟩ 1 1 [.int .i64 k] (by rfl) rfl HNEWS.out (by intro y hy; simp at hy; subst hy; rfl) (by omega) (by unfold maxLen; omega) (by omega) HBASE.out (u.val.heap.size + 1) (by simp) ?_; intro g' cap' wn hown2 hgrow hat hglt; have HOWN2 := Lib.hid hown2; have hL := laterC_grown (HL5.out.trans (u.alloc _)) HOWN0.out hgrow; obtain ⟨u2, hu2⟩ := hL; subst hu2; clear hgrow hat hglt hown2)
      go_roundw
      case rel =>
       refine ⟨k + 1, q + 1, _, by omega, by go_num, rfl, by omega, Lib.hid ?_, ⟨u2, rfl⟩⟩
       rw [HP.out, List.map_append]
       exact HOWN2.out
      case measure => simp [intOf] <;> omega
    · have hkd := eq_false_of_ne_true hkd
      have HP := Lib.hid (placesN_no hkd)
      generalize hxe : M.nodes.getD k Nd.zero = x at hx hkd
      have p0 : ∀ l : Later w1, l.val.cell? ⟨b, o + k * 9, none⟩ = some (.int .i64 x.kind) := hx.at_ HB.out 0 _ rfl
      have p1 : ∀ l : Later w1, l.val.cell? ⟨b, o + k * 9 + 1, none⟩ = some (.int .i64 x.a) := hx.at_ HB.out 1 _ rfl
      have p2 : ∀ l : Later w1, l.val.cell? ⟨b, o + k * 9 + 2, none⟩ = some (.int .i64 x.b) := hx.at_ HB.out 2 _ rfl
      have p3 : ∀ l : Later w1, l.val.cell? ⟨b, o + k * 9 + 3, none⟩ = some (.int .i64 x.c) := hx.at_ HB.out 3 _ rfl
      have p4 : ∀ l : Later w1, l.val.cell? ⟨b, o + k * 9 + 4, none⟩ = some (.int .i64 x.n) := hx.at_ HB.out 4 _ rfl
      have p5 : ∀ l : Later w1, l.val.cell? ⟨b, o + k * 9 + 5, none⟩ = some (.int .i64 x.m) := hx.at_ HB.out 5 _ rfl
      have p6 : ∀ l : Later w1, l.val.cell? ⟨b, o + k * 9 + 6, none⟩ = some (.int .i64 x.idx) := hx.at_ HB.out 6 _ rfl
      have p7 : ∀ l : Later w1, l.val.cell? ⟨b, o + k * 9 + 7, none⟩ = some (.int .i64 x.wid) := hx.at_ HB.out 7 _ rfl
      have p8 : ∀ l : Later w1, l.val.cell? ⟨b, o + k * 9 + 8, none⟩ = some (.string x.name) := hx.at_ HB.out 8 _ rfl
      clear hx hget hxe hA
      go_upto_region 5 with fail
      have y0 := box_cell u.val #[.int .i64 x.kind, .int .i64 x.a, .int .i64 x.b, .int .i64 x.c, .int .i64 x.n, .int .i64 x.m, .int .i64 x.idx, .int .i64 x.wid, .string x.name] 38 0 _ rfl
      have y0 : ∀ l : Later (u.val.alloc (Obj.cells #[.int .i64 x.kind, .int .i64 x.a, .int .i64 x.b, .int .i64 x.c, .int .i64 x.n, .int .i64 x.m, .int .i64 x.idx, .int .i64 x.wid, .string x.name] 38)), l.val.cell? ⟨u.val.heap.size, 0, none⟩ = some (.int .i64 x.kind) := y0
      have HOWN1 := Lib.hid (ownsRow_below HOWN.out (box_below u.val #[.int .i64 x.kind, .int .i64 x.a, .int .i64 x.b, .int .i64 x.c, .int .i64 x.n, .int .i64 x.m, .int .i64 x.idx, .int .i64 x.wid, .string x.name] 38))
      have hL5 : LaterC w1 (u.val.alloc (Obj.cells #[.int .i64 x.kind, .int .i64 x.a, .int .i64 x.b, .int .i64 x.c, .int .i64 x.n, .int .i64 x.m, .int .i64 x.idx, .int .i64 x.wid, .string x.name] 38)) := u.alloc _
      generalize (u.val.alloc (Obj.cells #[.int .i64 x.kind, .int .i64 x.a, .int .i64 x.b, .int .i64 x.c, .int .i64 x.n, .int .i64 x.m, .int .i64 x.idx, .int .i64 x.wid, .string x.name] 38)) = w5 at *
      generalize u.val.heap.size = GX at *
      clear p0 p1 p2 p3 p4 p5 p6 p7 p8 HOWN
      have HL5 := Lib.hid hL5
      clear hL5
      refine at_world (w := w5) ?_
      intro u
      have HOWN := Lib.hid (ownsRow_below HOWN1.out u.prop)
      go_wp2
      go_roundw
      case rel =>
       refine ⟨k + 1, q, _, by omega, by go_num, rfl, by omega, Lib.hid ?_, HL5.out.trans ⟨u, rfl⟩⟩
       rw [HP.out]
       exact HOWN.out
      case measure => simp [intOf] <;> omega
  · obtain rfl : k = n := by omega
    clear hA
    go_wp2
    go_ret
    have hql : q = (placesN kind M.nodes k).length := by have := HOWN.out.1; simpa using this.symm
    subst hql
    exact ⟨_, rfl, HB.out.trans (u.prop.mono HB.out.size), ownsRow_mono HOWN.out HB.out.size⟩
end Go.Proofs.YtbenebcphaiohaaGreat
