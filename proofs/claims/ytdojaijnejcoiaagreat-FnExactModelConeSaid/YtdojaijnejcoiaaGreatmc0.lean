import Derived.Test.YtdojaijnejcoiaaGreatProg
import Derived.Below
import Derived.Deep.Draws
import Derived.WalkKit
import Derived.KernelRfl
import Derived.Deep.LoopGhost
import Derived.Deep.QuietTactic
import Derived.BigQuiet
import Derived.Lib.Hide
import Derived.IntWalk
import Derived.Outline
import Derived.Laws.StructEq
import Derived.Laws.MakeOwn
import Derived.Laws.NewBlocks
import Derived.Laws.Rows
set_option linter.unusedVariables false
set_option linter.unusedSimpArgs false
set_option maxRecDepth 8000
set_option maxHeartbeats 16000000
namespace Go.Proofs.YtdojaijnejcoiaaGreat
open Go.RowKit
structure Later (w : World) where
 val : World
 prop : Below w.heap.size w val
instance Later.some_ (w : World) : Nonempty (Later w) := ⟨⟨w, Below.refl _ _⟩⟩
abbrev LaterC (w : World) : World → Prop := fun w' => ∃ u : Later w, w' = u.val
theorem LaterC.refl (w : World) : LaterC w w := ⟨⟨w, Below.refl _ _⟩, rfl⟩
theorem Later.size {w : World} (u : Later w) : w.heap.size ≤ u.val.heap.size := u.prop.size
theorem Later.cell {w : World} {a : Addr} {v : Value} (h : w.cell? a = some v) (u : Later w) : u.val.cell? a = some v :=
 (u.prop.cell (World.block_lt_of_cell? w a h)).trans h
theorem Later.frozen {w : World} {a : Addr} {b : Bool} (h : w.frozen? a = b) (hb : a.block < w.heap.size) (u : Later w) : u.val.frozen? a = b := (u.prop.frozen hb).trans h
theorem Later.drew {w : World} (u : Later w) : LaterC w u.val.drew := ⟨⟨u.val.drew, u.prop.drew⟩, rfl⟩
theorem Later.step {w : World} (u : Later w) {w' : World} (h : Below u.val.heap.size u.val w') : LaterC w w' :=
 ⟨⟨w', u.prop.trans (h.mono u.size)⟩, rfl⟩
theorem Later.alloc {w : World} (u : Later w) (o : Obj) : LaterC w (u.val.alloc o) := ⟨⟨_, u.prop.alloc u.size o⟩, rfl⟩
theorem wp_region_later {P : Program} {id : Nat} {Q : Exit → Act → World → Prop} {a : Act} {w w0 : World} {l : List Oper} (hm : P.follows .mixedOrders = true) (hB : Region.lexB .any l.toArray = true) (hw : LaterC w0 w)
 (h : wpQuiet P l.toArray (fun w' => ∃ u : Later w0, w' = u.val) (fun a' => ∀ w', (∃ u : Later w0, w' = u.val) → Q .normal a' w') l a) : (Code.region id l.toArray true).wp P Q a w :=
 wp_region_quiet (C := LaterC w0) hm hB (by obtain ⟨u, rfl⟩ := hw; exact u.drew) (by simpa using h)
theorem Calls.later {P : Program} {f : FuncId} {args : Array Value} {w : World} {u : Later w} {v : Value} (h : Calls P f args u.val fun e w' => e = .returned v ∧ Below u.val.heap.size u.val w') :
 Calls P f args u.val fun e w' => e = .returned v ∧ ∃ u' : Later w, w' = u'.val :=
 h.mono fun _ _ ⟨he, hb⟩ => ⟨he, u.step hb⟩
theorem Calls.later_eq {P : Program} {f : FuncId} {args : Array Value} {w : World} {u : Later w} {v v' : Value} (h : Calls P f args u.val fun e w' => e = .returned v ∧ Below u.val.heap.size u.val w') (hv : v = v') :
 Calls P f args u.val fun e w' => e = .returned v' ∧ ∃ u' : Later w, w' = u'.val := hv ▸ Calls.later h
abbrev Makes (P : Program) (f : FuncId) (args : Array Value) (w : World) (v : Value) : Prop := Calls P f args w fun e w' => e = .returned v ∧ Below w.heap.size w w'
theorem Makes.of_same {P : Program} {f : FuncId} {args : Array Value} {w : World} {v : Value} (h : Calls P f args w fun e w' => e = .returned v ∧ w = w') : Makes P f args w v :=
 h.mono fun _ _ ⟨he, hw⟩ => ⟨he, by subst hw; exact Below.refl _ _⟩
theorem calls_at {P : Program} {f : FuncId} {args : Array Value} {w : World} {Q : Ending → World → Prop} (h : ∀ u : Later w, Calls P f args u.val Q) : Calls P f args w Q := h ⟨w, Below.refl _ _⟩
theorem box_cell (w : World) (cs : Array Value) (T : TypeId) (f : Nat) (v : Value) (h : cs[f]? = some v) : ∀ u : Later (w.alloc (.cells cs T)), u.val.cell? ⟨w.heap.size, f, none⟩ = some v :=
 Later.cell (by simp [h])
theorem box_below (w : World) (cs : Array Value) (T : TypeId) : Below w.heap.size w (w.alloc (.cells cs T)) := (Below.refl _ _).alloc (Nat.le_refl _) _
theorem Later.back {w w1 : World} (u : Later w1) (h : Below w.heap.size w w1) : Below w.heap.size w u.val := h.trans (u.prop.mono h.size)
end Go.Proofs.YtdojaijnejcoiaaGreat
namespace Go.Proofs.YtdojaijnejcoiaaGreat
open Go.RowKit
theorem ret_eq {v v' : Value} (h : v = v') : Ending.returned v = Ending.returned v' := by rw [h]
theorem pw_le {a : Int} (h0 : 0 ≤ a) (h : a ≤ 16) : 1 ≤ (2 : Int) ^ a.toNat ∧ (2 : Int) ^ a.toNat ≤ 65536 := by
 have h1 := Nat.pow_le_pow_right (n := 2) (by decide) (show a.toNat ≤ 16 by omega)
 have h2 := Nat.two_pow_pos a.toNat
 have e : ((2 ^ a.toNat : Nat) : Int) = 2 ^ a.toNat := by simp
 omega
def inB (n lo hi : Int) : Bool := decide (lo ≤ n ∧ n ≤ hi)
theorem inB_yes {n lo hi : Int} (h : lo ≤ n ∧ n ≤ hi) : inB n lo hi = true := decide_eq_true h
theorem inB_no {n lo hi : Int} (h : ¬ (lo ≤ n ∧ n ≤ hi)) : inB n lo hi = false := decide_eq_false h
def widB (w : Int) : Bool := inB w 1 16
def wokB (w v : Int) : Bool := widB w && inB v 0 (2 ^ w.toNat - 1)
theorem l1In_same (n lo hi : Int) (w : World) : Calls Tryz.prog 73 #[.int .i64 n, .int .i64 lo, .int .i64 hi] w fun e w' => e = .returned (.bool (inB n lo hi)) ∧ w = w' := by
 by_cases h : lo ≤ n
 · have hd : inB n lo hi = decide (n ≤ hi) := by unfold inB; rw [decide_eq_decide]; exact ⟨fun c => c.2, fun c => ⟨h, c⟩⟩
   rw [hd]
   clear hd
   go_enter Tryz.func73, Tryz.ntmps73
   go_wp2
   all_goals go_ret
   all_goals exact ⟨rfl, rfl⟩
 · rw [inB_no (fun c => h c.1)]
   go_enter Tryz.func73, Tryz.ntmps73
   go_wp2
   all_goals go_ret
   all_goals exact ⟨rfl, rfl⟩
theorem l1In_calls (n lo hi : Int) (w : World) : Makes Tryz.prog 73 #[.int .i64 n, .int .i64 lo, .int .i64 hi] w (.bool (inB n lo hi)) := .of_same (l1In_same n lo hi w)
theorem in_same (n lo hi : Int) (w : World) : Calls Tryz.prog 84 #[.int .i64 n, .int .i64 lo, .int .i64 hi] w fun e w' => e = .returned (.bool (inB n lo hi)) ∧ w = w' := by
 by_cases h : lo ≤ n
 · have hd : inB n lo hi = decide (n ≤ hi) := by unfold inB; rw [decide_eq_decide]; exact ⟨fun c => c.2, fun c => ⟨h, c⟩⟩
   rw [hd]
   clear hd
   go_enter Tryz.func84, Tryz.ntmps84
   go_wp2
   all_goals go_ret
   all_goals exact ⟨rfl, rfl⟩
 · rw [inB_no (fun c => h c.1)]
   go_enter Tryz.func84, Tryz.ntmps84
   go_wp2
   all_goals go_ret
   all_goals exact ⟨rfl, rfl⟩
theorem in_calls (n lo hi : Int) (w : World) : Makes Tryz.prog 84 #[.int .i64 n, .int .i64 lo, .int .i64 hi] w (.bool (inB n lo hi)) := .of_same (in_same n lo hi w)
theorem l2Word_calls (n : Int) (w : World) : Makes Tryz.prog 74 #[.int .i64 n] w (.agg #[.int .i64 0, .int .i64 n]) := by
 go_enter Tryz.func74, Tryz.ntmps74
 go_wp2
 exact bodyPost_ret (v := .agg #[.int .i64 0, .int .i64 n]) (by simp [results, Tryz.results74, go_sem]) rfl ⟨rfl, by repeat (first | exact Below.refl _ _ | refine Below.setCell ?_ (by simp) _ | refine Below.alloc ?_ (by simp) _)⟩
theorem words_calls (n : Int) (w : World) : Makes Tryz.prog 60 #[.int .i64 n] w (.agg #[.int .i64 0, .int .i64 n]) := by
 go_enter Tryz.func60, Tryz.ntmps60
 go_wp2
 exact bodyPost_ret (v := .agg #[.int .i64 0, .int .i64 n]) (by simp [results, Tryz.results60, go_sem]) rfl ⟨rfl, by repeat (first | exact Below.refl _ _ | refine Below.setCell ?_ (by simp) _ | refine Below.alloc ?_ (by simp) _)⟩
theorem l1Width_same (a : Int) (w : World) : Calls Tryz.prog 98 #[.int .i64 a] w fun e w' => e = .returned (.bool (widB a)) ∧ w = w' := by
 go_enter Tryz.func98, Tryz.ntmps98
 go_wp2_with (go_at_call 73; refine (l1In_same _ _ _ _).mono ?_; rintro e w' ⟨rfl, rfl⟩)
 go_ret
 exact ⟨rfl, rfl⟩
theorem WordOk_same (a v : Int) (w : World) : Calls Tryz.prog 90 #[.int .i64 a, .int .i64 v] w fun e w' => e = .returned (.bool (wokB a v)) ∧ w = w' := by
 by_cases h : 1 ≤ a ∧ a ≤ 16
 · have HD := Lib.hid (show widB a = true from inB_yes h)
   have HV := Lib.hid (show wokB a v = inB v 0 (2 ^ a.toNat - 1) by unfold wokB; rw [HD.out]; rfl)
   obtain ⟨h1, h2⟩ := h
   obtain ⟨h3, h4⟩ := pw_le (a := a) (by omega) h2
   go_enter Tryz.func90, Tryz.ntmps90
   go_wp2_with (first | (go_at_call 98; refine (l1Width_same _ _).mono ?_; rintro e w' ⟨rfl, rfl⟩; rw [HD.out]) | (go_at_call 73; refine (l1In_same _ _ _ _).mono ?_; rintro e w' ⟨rfl, rfl⟩))
   go_ret
   exact ⟨ret_eq (congrArg Value.bool HV.out.symm), rfl⟩
 · have HD := Lib.hid (show widB a = false from inB_no h)
   have HV := Lib.hid (show wokB a v = false by unfold wokB; rw [HD.out]; rfl)
   clear h
   go_enter Tryz.func90, Tryz.ntmps90
   go_wp2_with (go_at_call 98; refine (l1Width_same _ _).mono ?_; rintro e w' ⟨rfl, rfl⟩; rw [HD.out])
   go_ret
   exact ⟨ret_eq (congrArg Value.bool HV.out.symm), rfl⟩
theorem isWidth_same (a : Int) (w : World) : Calls Tryz.prog 105 #[.int .i64 a] w fun e w' => e = .returned (.bool (widB a)) ∧ w = w' := by
 go_enter Tryz.func105, Tryz.ntmps105
 go_wp2_with (go_at_call 84; refine (in_same _ _ _ _).mono ?_; rintro e w' ⟨rfl, rfl⟩)
 go_ret
 exact ⟨rfl, rfl⟩
theorem mask_same (a : Int) (w : World) (h1 : 0 ≤ a) (h2 : a ≤ 16) : Calls Tryz.prog 118 #[.int .i64 a] w fun e w' => e = .returned (.int .i64 (2 ^ a.toNat - 1)) ∧ w = w' := by
 obtain ⟨h3, h4⟩ := pw_le h1 h2
 go_enter Tryz.func118, Tryz.ntmps118
 go_wp2
 go_ret
 exact ⟨rfl, rfl⟩
theorem WordOk'_same (a v : Int) (w : World) : Calls Tryz.prog 106 #[.int .i64 a, .int .i64 v] w fun e w' => e = .returned (.bool (wokB a v)) ∧ w = w' := by
 by_cases h : 1 ≤ a ∧ a ≤ 16
 · have HD := Lib.hid (show widB a = true from inB_yes h)
   have HV := Lib.hid (show wokB a v = inB v 0 (2 ^ a.toNat - 1) by unfold wokB; rw [HD.out]; rfl)
   obtain ⟨h1, h2⟩ := h
   obtain ⟨h3, h4⟩ := pw_le (a := a) (by omega) h2
   go_enter Tryz.func106, Tryz.ntmps106
   go_wp2_with (first | (go_at_call 105; refine (isWidth_same _ _).mono ?_; rintro e w' ⟨rfl, rfl⟩; rw [HD.out]) | (go_at_call 118; refine (mask_same _ _ (by omega) (by omega)).mono ?_; rintro e w' ⟨rfl, rfl⟩) | (go_at_call 84; refine (in_same _ _ _ _).mono ?_; rintro e w' ⟨rfl, rfl⟩))
   go_ret
   exact ⟨ret_eq (congrArg Value.bool HV.out.symm), rfl⟩
 · have HD := Lib.hid (show widB a = false from inB_no h)
   have HV := Lib.hid (show wokB a v = false by unfold wokB; rw [HD.out]; rfl)
   clear h
   go_enter Tryz.func106, Tryz.ntmps106
   go_wp2_with (go_at_call 105; refine (isWidth_same _ _).mono ?_; rintro e w' ⟨rfl, rfl⟩; rw [HD.out])
   go_ret
   exact ⟨ret_eq (congrArg Value.bool HV.out.symm), rfl⟩
def sokB (i a : Int) : Bool := inB i 0 2 && widB a
def cellsN (i a : Int) : Int := if sokB i a = true then 2 ^ i.toNat else 0
theorem SortOk_calls (i a : Int) (w : World) : Makes Tryz.prog 89 #[.agg #[.int .i64 i, .int .i64 a]] w (.bool (sokB i a)) := by
 by_cases h : inB i 0 2 = true
 · have HD := Lib.hid h
   have HV := Lib.hid (show sokB i a = widB a by unfold sokB; rw [h]; rfl)
   clear h
   go_enter Tryz.func89, Tryz.ntmps89
   go_wp2_with (first | (go_at_call 73; refine (l1In_same _ _ _ _).mono ?_; rintro e w' ⟨rfl, rfl⟩; rw [HD.out]) | (go_at_call 98; refine (l1Width_same _ _).mono ?_; rintro e w' ⟨rfl, rfl⟩))
   go_ret
   exact ⟨ret_eq (congrArg Value.bool HV.out.symm), (Below.refl _ _).alloc (Nat.le_refl _) _⟩
 · have h := eq_false_of_ne_true h
   have HD := Lib.hid h
   have HV := Lib.hid (show sokB i a = false by unfold sokB; rw [h]; rfl)
   clear h
   go_enter Tryz.func89, Tryz.ntmps89
   go_wp2_with (first | (go_at_call 73; refine (l1In_same _ _ _ _).mono ?_; rintro e w' ⟨rfl, rfl⟩; rw [HD.out]))
   go_ret
   exact ⟨ret_eq (congrArg Value.bool HV.out.symm), (Below.refl _ _).alloc (Nat.le_refl _) _⟩
end Go.Proofs.YtdojaijnejcoiaaGreat
namespace Go.Proofs.YtdojaijnejcoiaaGreat
open Go.RowKit
theorem fields_of {P : Program} {t : TypeId} {fs : Array Field} (h : P.underlying t = some (.struct fs)) : P.fieldsOf t = fs := by simp [Program.fieldsOf, h]
theorem eq_sort (d : Nat) (w : World) (x0 y0 x1 y1 : Int) :
 (Op.equalIn (d + 2) 44 (.agg #[.int .i64 x0, .int .i64 x1]) (.agg #[.int .i64 y0, .int .i64 y1])).run Tryz.prog w = .ok (x0 == y0 && (x1 == y1)) w := by
 have hf := fields_of Tryz.underlying44
 rw [run_equalIn_struct (P := Tryz.prog) w (d + 1) 44 _ _ (by rw [hf]; exact Tryz.underlying44) (by kernel_rfl), hf]
 simp [Op.eqFields, go_sem]
 by_cases h0 : x0 = y0 <;> by_cases h1 : x1 = y1 <;> simp [h0, h1]
end Go.Proofs.YtdojaijnejcoiaaGreat
namespace Go.Proofs.YtdojaijnejcoiaaGreat
open Go.RowKit
structure Nd where
 kind : Int
 a : Int
 b : Int
 c : Int
 n : Int
 m : Int
 idx : Int
 wid : Int
 name : ByteArray
structure Bd where
 st : Int
 nd : Int
def Nd.zero : Nd := ⟨0, 0, 0, 0, 0, 0, 0, 0, ByteArray.empty⟩
def Bd.zero : Bd := ⟨0, 0⟩
structure Md where
 nodes : List Nd
 inits : List Bd
 nexts : List Bd
 bads : List Int
 holds : List Int
structure En (α : Type) where
 sz : Nat
 cells : α → List Value
abbrev enI : En Int := ⟨1, fun x => [.int .i64 x]⟩
abbrev enNd : En Nd := ⟨9, fun x => [.int .i64 x.kind, .int .i64 x.a, .int .i64 x.b, .int .i64 x.c, .int .i64 x.n, .int .i64 x.m, .int .i64 x.idx, .int .i64 x.wid, .string x.name]⟩
abbrev enBd : En Bd := ⟨2, fun x => [.int .i64 x.st, .int .i64 x.nd]⟩
abbrev nodeV (x : Nd) : Value := .agg #[.int .i64 x.kind, .int .i64 x.a, .int .i64 x.b, .int .i64 x.c, .int .i64 x.n, .int .i64 x.m, .int .i64 x.idx, .int .i64 x.wid, .string x.name]
def CellsAt {α : Type} (E : En α) (w : World) (b o i : Nat) (x : α) : Prop := ∀ (f : Nat) (u : Value), (E.cells x)[f]? = some u → w.cell? ⟨b, o + i * E.sz + f, none⟩ = some u
def SlAt {α : Type} (E : En α) (w : World) (v : Value) (xs : List α) : Prop :=
 ∃ (A : Option Addr) (c : Nat), v = .slice A xs.length c ∧ xs.length ≤ c ∧ c ≤ 281474976710656 ∧ ∀ i x, xs[i]? = some x → ∃ b o, A = some ⟨b, o, none⟩ ∧ CellsAt E w b o i x
theorem CellsAt.below {α : Type} {E : En α} {w w' : World} {b o i : Nat} {x : α} (h : CellsAt E w b o i x) (hb : Below w.heap.size w w') : CellsAt E w' b o i x :=
 fun f u hu => (hb.cell (World.block_lt_of_cell? w _ (h f u hu))).trans (h f u hu)
theorem SlAt.below {α : Type} {E : En α} {w w' : World} {v : Value} {xs : List α} (h : SlAt E w v xs) (hb : Below w.heap.size w w') : SlAt E w' v xs := by
 obtain ⟨A, c, hv, h1, h2, h3⟩ := h
 exact ⟨A, c, hv, h1, h2, fun i x hx => by obtain ⟨b, o, hA, hc⟩ := h3 i x hx; exact ⟨b, o, hA, hc.below hb⟩⟩
theorem SlAt.later {α : Type} {E : En α} {w : World} {v : Value} {xs : List α} (h : SlAt E w v xs) (u : Later w) : SlAt E u.val v xs := h.below u.prop
def SlN {α : Type} (E : En α) (w : World) (v : Value) (xs : List α) : Prop :=
 ∃ (A : Option Addr) (c : Nat), v = .slice A xs.length c ∧ xs.length ≤ c ∧ xs.length ≤ 281474976710656 ∧ ∀ i x, xs[i]? = some x → ∃ b o, A = some ⟨b, o, none⟩ ∧ CellsAt E w b o i x
theorem SlN.below {α : Type} {E : En α} {w w' : World} {v : Value} {xs : List α} (h : SlN E w v xs) (hb : Below w.heap.size w w') : SlN E w' v xs := by
 obtain ⟨A, c, rfl, h1, h2, h3⟩ := h
 refine ⟨A, c, rfl, h1, h2, fun i x hx => ?_⟩
 obtain ⟨b, o, rfl, hc⟩ := h3 i x hx
 exact ⟨b, o, rfl, hc.below hb⟩
theorem SlN.later {α : Type} {E : En α} {w : World} {v : Value} {xs : List α} (h : SlN E w v xs) (u : Later w) : SlN E u.val v xs := h.below u.prop
theorem SlAt.slN {α : Type} {E : En α} {w : World} {v : Value} {xs : List α} (h : SlAt E w v xs) : SlN E w v xs := by
 obtain ⟨A, c, hv, h1, h2, h3⟩ := h
 exact ⟨A, c, hv, h1, Nat.le_trans h1 h2, h3⟩
structure MdAt (w : World) (v : Value) (M : Md) : Prop where
 at_ : ∃ s0 s1 s2 s3 s4, v = .agg #[s0, s1, s2, s3, s4] ∧ SlAt enNd w s0 M.nodes ∧ SlAt enBd w s1 M.inits ∧ SlAt enBd w s2 M.nexts ∧ SlAt enI w s3 M.bads ∧ SlAt enI w s4 M.holds
theorem MdAt.below {w w' : World} {v : Value} {M : Md} (h : MdAt w v M) (hb : Below w.heap.size w w') : MdAt w' v M := by
 obtain ⟨s0, s1, s2, s3, s4, hv, h0, h1, h2, h3, h4⟩ := h.at_
 exact ⟨s0, s1, s2, s3, s4, hv, h0.below hb, h1.below hb, h2.below hb, h3.below hb, h4.below hb⟩
theorem MdAt.later {w : World} {v : Value} {M : Md} (h : MdAt w v M) (u : Later w) : MdAt u.val v M := h.below u.prop
theorem CellsAt.at_ {α : Type} {E : En α} {w0 w : World} {b o i : Nat} {x : α} (h : CellsAt E w0 b o i x) (hb : Below w0.heap.size w0 w) (f : Nat) (u : Value) (hu : (E.cells x)[f]? = some u) : ∀ l : Later w, l.val.cell? ⟨b, o + i * E.sz + f, none⟩ = some u :=
 Later.cell (h.below hb f u hu)
theorem getD_at {α : Type} {xs : List α} {i : Nat} (h : i < xs.length) (z : α) : xs[i]? = some (xs.getD i z) := by
 rw [List.getD_eq_getElem?_getD, List.getElem?_eq_getElem h]; rfl
theorem CellsAt.int {w0 w : World} {b o i : Nat} {x : Int} (h : CellsAt enI w0 b o i x) (hb : Below w0.heap.size w0 w) : ∀ l : Later w, l.val.cell? ⟨b, o + i, none⟩ = some (.int .i64 x) := by
 have := h.at_ hb 0 _ rfl
 simpa using this
end Go.Proofs.YtdojaijnejcoiaaGreat
namespace Go.Proofs.YtdojaijnejcoiaaGreat
open Go.RowKit
attribute [local go_sem high] eq_sort
def w1B (x : Nd) : Bool := x.idx == 0 && x.wid == 1
def propB (ns : List Nd) (x : Int) : Bool := inB x 0 ((ns.length : Int) - 1) && w1B (ns.getD x.toNat Nd.zero)
def propsB (ns : List Nd) (xs : List Int) : Bool := xs.all (propB ns)
def propsTo (ns : List Nd) (xs : List Int) (k : Nat) : Prop := ∀ i, i < k → propB ns (xs.getD i 0) = true
theorem props_no {ns : List Nd} {xs : List Int} {k : Nat} (hk : k < xs.length) (h : propB ns (xs.getD k 0) = false) : propsB ns xs = false := by
 unfold propsB
 rw [List.all_eq_false]
 refine ⟨xs.getD k 0, ?_, by rw [h]; exact Bool.false_ne_true⟩
 have := getD_at hk 0
 exact List.mem_of_getElem? this
theorem props_yes {ns : List Nd} {xs : List Int} (h : propsTo ns xs xs.length) : propsB ns xs = true := by
 unfold propsB
 rw [List.all_eq_true]
 intro x hx
 obtain ⟨i, hi, e⟩ := List.getElem_of_mem hx
 have := h i hi
 rw [List.getD_eq_getElem?_getD, List.getElem?_eq_getElem hi] at this
 rw [← e]; exact this
theorem l2Props_calls (mv sv : Value) (M : Md) (xs : List Int) (w : World) (hM : MdAt w mv M) (hS : SlAt enI w sv xs) :
 Makes Tryz.prog 42 #[mv, sv] w (.bool (propsB M.nodes xs)) := by
 obtain ⟨s0, s1, s2, s3, s4, rfl, hN, -, -, -, -⟩ := hM.at_
 obtain ⟨A0, c0, rfl, hl0, hc0, hN⟩ := hN
 obtain ⟨A, c, rfl, hl, hc, hA⟩ := hS
 clear hM
 generalize hn : xs.length = n at *
 generalize hn0 : M.nodes.length = n0 at *
 have HN := Lib.hid hn
 have HN0 := Lib.hid hn0
 clear hn hn0
 go_enter Tryz.func42, Tryz.ntmps42
 go_wp2
 generalize hw1 : w.alloc (Obj.cells #[.slice A0 n0 c0, s1, s2, s3, s4] 31) = w1
 have hb0 : ∀ u : Later w1, u.val.cell? ⟨w.heap.size, 0, none⟩ = some (.slice A0 n0 c0) := Later.cell (by rw [← hw1]; simp)
 have HB := Lib.hid (show Below w.heap.size w w1 by rw [← hw1]; exact (Below.refl _ _).alloc (Nat.le_refl _) _)
 clear hw1
 go_loopw [5] (fun i wr => ∃ k : Nat, k ≤ n ∧ i = .int .i64 k ∧ Hid (propsTo M.nodes xs k) ∧ LaterC w1 wr) (fun i _ => n - (intOf i).toNat)
 case atStart => exact ⟨0, Nat.zero_le _, rfl, Lib.hid (fun i hi => absurd hi (Nat.not_lt_zero _)), LaterC.refl _⟩
 case round =>
  obtain ⟨k, hk, rfl, hto, ⟨u, rfl⟩⟩ := hrel
  by_cases hlt : k < n
  · obtain ⟨b, o, rfl, hx⟩ := hA k _ (getD_at (by rw [HN.out]; exact hlt) 0)
    generalize hxe : xs.getD k 0 = x at hx
    have hcx := hx.int HB.out
    have HX := Lib.hid hxe
    clear hx hxe hA
    by_cases hin : (0 ≤ x ∧ x ≤ (n0 : Int) - 1)
    · have HD := Lib.hid (inB_yes hin)
      obtain ⟨j, rfl⟩ := Int.eq_ofNat_of_zero_le hin.1
      have hj : j < n0 := by omega
      obtain ⟨b0, o0, rfl, hy⟩ := hN j _ (getD_at (by rw [HN0.out]; exact hj) Nd.zero)
      generalize hye : M.nodes.getD j Nd.zero = y at hy
      have h6 := hy.at_ HB.out 6 _ rfl
      have h7 := hy.at_ HB.out 7 _ rfl
      have HY := Lib.hid hye
      clear hin hN hy hye
      by_cases hs : w1B y = true
      · have hs' : (y.idx == 0 && (y.wid == 1)) = true := hs
        have hto' : Hid (propsTo M.nodes xs (k + 1)) := Lib.hid (fun i hi => by
         rcases Nat.lt_or_ge i k with g | g
         · exact hto.out i g
         · obtain rfl : i = k := by omega
           rw [HX.out]; unfold propB; rw [HN0.out, HD.out, Int.toNat_natCast, HY.out, hs]; rfl)
        clear hs hto
        go_wp2
        refine wp_region_later (w0 := w1) (by kernel_rfl) (by kernel_rfl) ⟨_, rfl⟩ ?_
        repeat (go_big_quiet_step (first | (go_at_call 73; exact Calls.later_eq (l1In_calls _ _ _ _) (congrArg Value.bool HD.out)) | (go_at_call 74; exact Calls.later (l2Word_calls _ _))))
        refine wpQuiet_nil ?_
        rintro _ ⟨u1, rfl⟩
        go_wp2
        go_roundw
        case rel => exact ⟨k + 1, by omega, by go_num, hto', ⟨u1, rfl⟩⟩
        case measure => simp [intOf]; omega
      · have hs' : (y.idx == 0 && (y.wid == 1)) = false := by simpa [w1B] using hs
        have HR := Lib.hid (props_no (ns := M.nodes) (xs := xs) (k := k) (by rw [HN.out]; exact hlt) (by rw [HX.out]; unfold propB w1B; rw [Int.toNat_natCast, HY.out, hs', Bool.and_false]))
        clear hs hto
        go_wp2
        refine wp_region_later (w0 := w1) (by kernel_rfl) (by kernel_rfl) ⟨_, rfl⟩ ?_
        repeat (go_big_quiet_step (first | (go_at_call 73; exact Calls.later_eq (l1In_calls _ _ _ _) (congrArg Value.bool HD.out)) | (go_at_call 74; exact Calls.later (l2Word_calls _ _))))
        refine wpQuiet_nil ?_
        rintro _ ⟨u1, rfl⟩
        go_wp2
        go_ret
        exact ⟨ret_eq (congrArg Value.bool HR.out.symm), HB.out.trans (u1.prop.mono HB.out.size)⟩
    · have HD := Lib.hid (inB_no hin)
      have HR := Lib.hid (props_no (ns := M.nodes) (xs := xs) (k := k) (by rw [HN.out]; exact hlt) (by rw [HX.out]; unfold propB; rw [HN0.out, HD.out, Bool.false_and]))
      clear hin hto
      go_wp2
      refine wp_region_later (w0 := w1) (by kernel_rfl) (by kernel_rfl) ⟨_, rfl⟩ ?_
      repeat (go_big_quiet_step ((go_at_call 73; exact Calls.later_eq (l1In_calls _ _ _ _) (congrArg Value.bool HD.out))))
      refine wpQuiet_nil ?_
      rintro _ ⟨u1, rfl⟩
      go_wp2
      go_ret
      exact ⟨ret_eq (congrArg Value.bool HR.out.symm), HB.out.trans (u1.prop.mono HB.out.size)⟩
  · obtain rfl : k = n := by omega
    have HR := Lib.hid (props_yes (ns := M.nodes) (xs := xs) (by rw [HN.out]; exact hto.out))
    clear hto
    go_wp2
    go_ret
    exact ⟨ret_eq (congrArg Value.bool HR.out.symm), HB.out.trans (u.prop.mono HB.out.size)⟩
end Go.Proofs.YtdojaijnejcoiaaGreat
namespace Go.Proofs.YtdojaijnejcoiaaGreat
open Go.RowKit
theorem SortOk'_calls (i a : Int) (w : World) : Makes Tryz.prog 94 #[.agg #[.int .i64 i, .int .i64 a]] w (.bool (sokB i a)) := by
 by_cases h : inB i 0 2 = true
 · have HD := Lib.hid h
   have HV := Lib.hid (show sokB i a = widB a by unfold sokB; rw [h]; rfl)
   clear h
   go_enter Tryz.func94, Tryz.ntmps94
   go_wp2_with (first | (go_at_call 84; refine (in_same _ _ _ _).mono ?_; rintro e w' ⟨rfl, rfl⟩; rw [HD.out]) | (go_at_call 105; refine (isWidth_same _ _).mono ?_; rintro e w' ⟨rfl, rfl⟩))
   go_ret
   exact ⟨ret_eq (congrArg Value.bool HV.out.symm), (Below.refl _ _).alloc (Nat.le_refl _) _⟩
 · have h := eq_false_of_ne_true h
   have HD := Lib.hid h
   have HV := Lib.hid (show sokB i a = false by unfold sokB; rw [h]; rfl)
   clear h
   go_enter Tryz.func94, Tryz.ntmps94
   go_wp2_with (first | (go_at_call 84; refine (in_same _ _ _ _).mono ?_; rintro e w' ⟨rfl, rfl⟩; rw [HD.out]))
   go_ret
   exact ⟨ret_eq (congrArg Value.bool HV.out.symm), (Below.refl _ _).alloc (Nat.le_refl _) _⟩
theorem sokB_yes {i a : Int} (h : sokB i a = true) : 0 ≤ i ∧ i ≤ 2 ∧ 1 ≤ a ∧ a ≤ 16 := by
 unfold sokB widB inB at h
 simp only [Bool.and_eq_true, decide_eq_true_eq] at h
 omega
theorem pw2 {i : Int} (h0 : 0 ≤ i) (h : i ≤ 2) : 1 ≤ (2 : Int) ^ i.toNat ∧ (2 : Int) ^ i.toNat ≤ 4 := by
 have h1 := Nat.pow_le_pow_right (n := 2) (by decide) (show i.toNat ≤ 2 by omega)
 have h2 := Nat.two_pow_pos i.toNat
 have e : ((2 ^ i.toNat : Nat) : Int) = 2 ^ i.toNat := by simp
 omega
theorem SortCells_calls (i a : Int) (w : World) : Makes Tryz.prog 92 #[.agg #[.int .i64 i, .int .i64 a]] w (.int .i64 (cellsN i a)) := by
 have b0 := box_cell w #[.int .i64 i, .int .i64 a] 44 0 _ rfl
 have b1 := box_cell w #[.int .i64 i, .int .i64 a] 44 1 _ rfl
 have HB := Lib.hid (box_below w #[.int .i64 i, .int .i64 a] 44)
 by_cases h : sokB i a = true
 · have HD := Lib.hid h
   have HV := Lib.hid (show cellsN i a = 2 ^ i.toNat by unfold cellsN; rw [if_pos h])
   obtain ⟨h1, h2, h3, h4⟩ := sokB_yes h
   obtain ⟨h5, h6⟩ := pw2 h1 h2
   clear h
   go_enter Tryz.func92, Tryz.ntmps92
   go_wp2_with fail
   generalize w.alloc (.cells #[.int .i64 i, .int .i64 a] 44) = w1 at *
   refine calls_at fun u => (Calls.later (SortOk_calls _ _ _)).mono ?_
   rintro e w' ⟨rfl, u1, rfl⟩
   rw [HD.out]
   go_wp2_with fail
   go_ret
   exact ⟨ret_eq (congrArg (Value.int .i64) HV.out.symm), u1.back HB.out⟩
 · have h := eq_false_of_ne_true h
   have HD := Lib.hid h
   have HV := Lib.hid (show cellsN i a = 0 by unfold cellsN; rw [h]; rfl)
   clear h
   go_enter Tryz.func92, Tryz.ntmps92
   go_wp2_with fail
   generalize w.alloc (.cells #[.int .i64 i, .int .i64 a] 44) = w1 at *
   refine calls_at fun u => (Calls.later (SortOk_calls _ _ _)).mono ?_
   rintro e w' ⟨rfl, u1, rfl⟩
   rw [HD.out]
   go_wp2_with fail
   go_ret
   exact ⟨ret_eq (congrArg (Value.int .i64) HV.out.symm), u1.back HB.out⟩
theorem SortCells'_calls (i a : Int) (w : World) : Makes Tryz.prog 96 #[.agg #[.int .i64 i, .int .i64 a]] w (.int .i64 (cellsN i a)) := by
 have b0 := box_cell w #[.int .i64 i, .int .i64 a] 44 0 _ rfl
 have b1 := box_cell w #[.int .i64 i, .int .i64 a] 44 1 _ rfl
 have HB := Lib.hid (box_below w #[.int .i64 i, .int .i64 a] 44)
 by_cases h : sokB i a = true
 · have HD := Lib.hid h
   have HV := Lib.hid (show cellsN i a = 2 ^ i.toNat by unfold cellsN; rw [if_pos h])
   obtain ⟨h1, h2, h3, h4⟩ := sokB_yes h
   obtain ⟨h5, h6⟩ := pw2 h1 h2
   clear h
   go_enter Tryz.func96, Tryz.ntmps96
   go_wp2_with fail
   generalize w.alloc (.cells #[.int .i64 i, .int .i64 a] 44) = w1 at *
   refine calls_at fun u => (Calls.later (SortOk'_calls _ _ _)).mono ?_
   rintro e w' ⟨rfl, u1, rfl⟩
   rw [HD.out]
   go_wp2_with fail
   go_ret
   exact ⟨ret_eq (congrArg (Value.int .i64) HV.out.symm), u1.back HB.out⟩
 · have h := eq_false_of_ne_true h
   have HD := Lib.hid h
   have HV := Lib.hid (show cellsN i a = 0 by unfold cellsN; rw [h]; rfl)
   clear h
   go_enter Tryz.func96, Tryz.ntmps96
   go_wp2_with fail
   generalize w.alloc (.cells #[.int .i64 i, .int .i64 a] 44) = w1 at *
   refine calls_at fun u => (Calls.later (SortOk'_calls _ _ _)).mono ?_
   rintro e w' ⟨rfl, u1, rfl⟩
   rw [HD.out]
   go_wp2_with fail
   go_ret
   exact ⟨ret_eq (congrArg (Value.int .i64) HV.out.symm), u1.back HB.out⟩
def bitsN (i a : Int) : Int := if sokB i a = true then 2 ^ i.toNat * a else 0
theorem bitsN_yes {i a : Int} (h : sokB i a = true) : bitsN i a = cellsN i a * a ∧ 0 ≤ cellsN i a * a ∧ cellsN i a * a ≤ 64 := by
 unfold bitsN cellsN
 rw [if_pos h, if_pos h]
 obtain ⟨h1, h2, h3, h4⟩ := sokB_yes h
 obtain ⟨h5, h6⟩ := pw2 h1 h2
 have h7 : (2 : Int) ^ i.toNat * a ≤ 4 * 16 := Int.mul_le_mul (by omega) (by omega) (by omega) (by omega)
 have h8 : 0 ≤ (2 : Int) ^ i.toNat * a := Int.mul_nonneg (by omega) (by omega)
 exact ⟨rfl, h8, by omega⟩
theorem bitsN_no {i a : Int} (h : sokB i a = false) : bitsN i a = 0 ∧ cellsN i a = 0 := by
 unfold bitsN cellsN; rw [h]; exact ⟨rfl, rfl⟩
theorem SortBits_calls (i a : Int) (w : World) : Makes Tryz.prog 77 #[.agg #[.int .i64 i, .int .i64 a]] w (.int .i64 (bitsN i a)) := by
 have b0 := box_cell w #[.int .i64 i, .int .i64 a] 44 0 _ rfl
 have b1 := box_cell w #[.int .i64 i, .int .i64 a] 44 1 _ rfl
 have HB := Lib.hid (box_below w #[.int .i64 i, .int .i64 a] 44)
 by_cases h : sokB i a = true
 · obtain ⟨g1, g2, g3⟩ := bitsN_yes h
   have HV := Lib.hid g1
   clear h g1
   go_enter Tryz.func77, Tryz.ntmps77
   go_wp2_with fail
   generalize w.alloc (.cells #[.int .i64 i, .int .i64 a] 44) = w1 at *
   refine wp_region_later (w0 := w1) (by kernel_rfl) (by kernel_rfl) (LaterC.refl _) ?_
   repeat (go_big_quiet_step ((go_at_call 92; exact Calls.later (SortCells_calls _ _ _))))
   refine wpQuiet_nil ?_
   rintro _ ⟨u1, rfl⟩
   go_wp2_with fail
   go_ret
   exact ⟨ret_eq (congrArg (Value.int .i64) HV.out.symm), u1.back HB.out⟩
 · obtain ⟨g1, g2⟩ := bitsN_no (eq_false_of_ne_true h)
   have HV := Lib.hid g1
   have HC := Lib.hid g2
   clear h g1 g2
   go_enter Tryz.func77, Tryz.ntmps77
   go_wp2_with fail
   generalize w.alloc (.cells #[.int .i64 i, .int .i64 a] 44) = w1 at *
   refine wp_region_later (w0 := w1) (by kernel_rfl) (by kernel_rfl) (LaterC.refl _) ?_
   repeat (go_big_quiet_step ((go_at_call 92; exact Calls.later_eq (SortCells_calls _ _ _) (congrArg (Value.int .i64) HC.out))))
   refine wpQuiet_nil ?_
   rintro _ ⟨u1, rfl⟩
   go_wp2_with fail
   go_ret
   exact ⟨ret_eq (congrArg (Value.int .i64) HV.out.symm), u1.back HB.out⟩
end Go.Proofs.YtdojaijnejcoiaaGreat
namespace Go.Proofs.YtdojaijnejcoiaaGreat
open Go.RowKit
theorem min_ints (ats : Array TypeId) (ty : TypeId) (k k' : IntKind) (x y : Int) : Builtin.min_ ats ty #[.int k x, .int k' y] = pure (.int k (if y < x then y else x)) := by
 simp only [Builtin.min_, List.foldlM_cons, List.foldlM_nil, Builtin.min2]; rfl
theorem max_ints (ats : Array TypeId) (ty : TypeId) (k k' : IntKind) (x y : Int) : Builtin.max_ ats ty #[.int k x, .int k' y] = pure (.int k (if x < y then y else x)) := by
 simp only [Builtin.max_, List.foldlM_cons, List.foldlM_nil, Builtin.max2, gt_iff_lt]; rfl
attribute [local go_sem] min_ints max_ints
theorem SortBits'_calls (i a : Int) (w : World) : Makes Tryz.prog 85 #[.agg #[.int .i64 i, .int .i64 a]] w (.int .i64 (bitsN i a)) := by
 have b0 := box_cell w #[.int .i64 i, .int .i64 a] 44 0 _ rfl
 have b1 := box_cell w #[.int .i64 i, .int .i64 a] 44 1 _ rfl
 have HB := Lib.hid (box_below w #[.int .i64 i, .int .i64 a] 44)
 by_cases h : sokB i a = true
 · obtain ⟨g1, g2, g3⟩ := bitsN_yes h
   obtain ⟨h1, h2, h3, h4⟩ := sokB_yes h
   have HV := Lib.hid g1
   clear h g1
   by_cases h16 : a < 16
   · go_enter Tryz.func85, Tryz.ntmps85
     go_wp2_with fail
     generalize w.alloc (.cells #[.int .i64 i, .int .i64 a] 44) = w1 at *
     refine wp_region_later (w0 := w1) (by kernel_rfl) (by kernel_rfl) (LaterC.refl _) ?_
     repeat (go_big_quiet_step ((go_at_call 96; exact Calls.later (SortCells'_calls _ _ _))))
     refine wpQuiet_nil ?_
     rintro _ ⟨u1, rfl⟩
     go_wp2_with fail
     go_ret
     exact ⟨ret_eq (congrArg (Value.int .i64) HV.out.symm), u1.back HB.out⟩
   · obtain rfl : a = 16 := by omega
     go_enter Tryz.func85, Tryz.ntmps85
     go_wp2_with fail
     generalize w.alloc (.cells #[.int .i64 i, .int .i64 16] 44) = w1 at *
     refine wp_region_later (w0 := w1) (by kernel_rfl) (by kernel_rfl) (LaterC.refl _) ?_
     repeat (go_big_quiet_step ((go_at_call 96; exact Calls.later (SortCells'_calls _ _ _))))
     refine wpQuiet_nil ?_
     rintro _ ⟨u1, rfl⟩
     go_wp2_with fail
     go_ret
     exact ⟨ret_eq (congrArg (Value.int .i64) HV.out.symm), u1.back HB.out⟩
 · obtain ⟨g1, g2⟩ := bitsN_no (eq_false_of_ne_true h)
   have HV := Lib.hid g1
   have HC := Lib.hid g2
   clear h g1 g2
   go_enter Tryz.func85, Tryz.ntmps85
   go_wp2_with fail
   generalize w.alloc (.cells #[.int .i64 i, .int .i64 a] 44) = w1 at *
   refine wp_region_later (w0 := w1) (by kernel_rfl) (by kernel_rfl) (LaterC.refl _) ?_
   repeat (go_big_quiet_step ((go_at_call 96; exact Calls.later_eq (SortCells'_calls _ _ _) (congrArg (Value.int .i64) HC.out))))
   refine wpQuiet_nil ?_
   rintro _ ⟨u1, rfl⟩
   go_wp2_with fail
   all_goals go_ret
   all_goals exact ⟨ret_eq (congrArg (Value.int .i64) HV.out.symm), u1.back HB.out⟩
def partsN (k : Int) : Int := if 1 ≤ k ∧ k ≤ 5 ∨ 30 ≤ k ∧ k ≤ 32 then 1 else if 6 ≤ k ∧ k ≤ 29 ∨ k = 37 then 2 else if k = 33 ∨ k = 38 then 3 else if 34 ≤ k ∧ k ≤ 36 then 0 else -1
theorem kinds (k : Int) : k < 1 ∨ (1 ≤ k ∧ k ≤ 5) ∨ (6 ≤ k ∧ k ≤ 29) ∨ (30 ≤ k ∧ k ≤ 32) ∨ k = 33 ∨ (34 ≤ k ∧ k ≤ 36) ∨ k = 37 ∨ k = 38 ∨ 38 < k := by omega
theorem partsN_eq (k : Int) : (k < 1 → partsN k = -1) ∧ ((1 ≤ k ∧ k ≤ 5) → partsN k = 1) ∧ ((6 ≤ k ∧ k ≤ 29) → partsN k = 2) ∧ ((30 ≤ k ∧ k ≤ 32) → partsN k = 1) ∧ (k = 33 → partsN k = 3) ∧ ((34 ≤ k ∧ k ≤ 36) → partsN k = 0) ∧ (k = 37 → partsN k = 2) ∧ (k = 38 → partsN k = 3) ∧ (38 < k → partsN k = -1) := by
 unfold partsN
 refine ⟨?_, ?_, ?_, ?_, ?_, ?_, ?_, ?_, ?_⟩ <;> intro h <;> (repeat' split) <;> omega
theorem l2Parts_same (k : Int) (w : World) : Calls Tryz.prog 46 #[.int .i64 k] w fun e w' => e = .returned (.int .i64 (partsN k)) ∧ w = w' := by
 obtain ⟨e1, e2, e3, e4, e5, e6, e7, e8, e9⟩ := partsN_eq k
 rcases kinds k with h | h | h | h | h | h | h | h | h
 · rw [e1 h]; clear e1 e2 e3 e4 e5 e6 e7 e8 e9
   (first | have q5 : k ≤ 5 := by omega | have q5 : ¬ k ≤ 5 := by omega); (first | have q32 : k ≤ 32 := by omega | have q32 : ¬ k ≤ 32 := by omega); (first | have q29 : k ≤ 29 := by omega | have q29 : ¬ k ≤ 29 := by omega); (first | have q36 : k ≤ 36 := by omega | have q36 : ¬ k ≤ 36 := by omega); (first | have r1 : 1 ≤ k := by omega | have r1 : ¬ 1 ≤ k := by omega); (first | have r30 : 30 ≤ k := by omega | have r30 : ¬ 30 ≤ k := by omega); (first | have r6 : 6 ≤ k := by omega | have r6 : ¬ 6 ≤ k := by omega); (first | have r34 : 34 ≤ k := by omega | have r34 : ¬ 34 ≤ k := by omega); (try have s37 : (k == 37) = false := beq_eq_false_iff_ne.2 (by omega)); (try have s33 : (k == 33) = false := beq_eq_false_iff_ne.2 (by omega)); (try have s38 : (k == 38) = false := beq_eq_false_iff_ne.2 (by omega))
   go_enter Tryz.func46, Tryz.ntmps46
   go_wp2
   go_ret
   exact ⟨rfl, rfl⟩
 · rw [e2 h]; clear e1 e2 e3 e4 e5 e6 e7 e8 e9; obtain ⟨h, h'⟩ := h
   (first | have q5 : k ≤ 5 := by omega | have q5 : ¬ k ≤ 5 := by omega); (first | have q32 : k ≤ 32 := by omega | have q32 : ¬ k ≤ 32 := by omega); (first | have q29 : k ≤ 29 := by omega | have q29 : ¬ k ≤ 29 := by omega); (first | have q36 : k ≤ 36 := by omega | have q36 : ¬ k ≤ 36 := by omega); (first | have r1 : 1 ≤ k := by omega | have r1 : ¬ 1 ≤ k := by omega); (first | have r30 : 30 ≤ k := by omega | have r30 : ¬ 30 ≤ k := by omega); (first | have r6 : 6 ≤ k := by omega | have r6 : ¬ 6 ≤ k := by omega); (first | have r34 : 34 ≤ k := by omega | have r34 : ¬ 34 ≤ k := by omega); (try have s37 : (k == 37) = false := beq_eq_false_iff_ne.2 (by omega)); (try have s33 : (k == 33) = false := beq_eq_false_iff_ne.2 (by omega)); (try have s38 : (k == 38) = false := beq_eq_false_iff_ne.2 (by omega))
   go_enter Tryz.func46, Tryz.ntmps46
   go_wp2
   go_ret
   exact ⟨rfl, rfl⟩
 · rw [e3 h]; clear e1 e2 e3 e4 e5 e6 e7 e8 e9; obtain ⟨h, h'⟩ := h
   (first | have q5 : k ≤ 5 := by omega | have q5 : ¬ k ≤ 5 := by omega); (first | have q32 : k ≤ 32 := by omega | have q32 : ¬ k ≤ 32 := by omega); (first | have q29 : k ≤ 29 := by omega | have q29 : ¬ k ≤ 29 := by omega); (first | have q36 : k ≤ 36 := by omega | have q36 : ¬ k ≤ 36 := by omega); (first | have r1 : 1 ≤ k := by omega | have r1 : ¬ 1 ≤ k := by omega); (first | have r30 : 30 ≤ k := by omega | have r30 : ¬ 30 ≤ k := by omega); (first | have r6 : 6 ≤ k := by omega | have r6 : ¬ 6 ≤ k := by omega); (first | have r34 : 34 ≤ k := by omega | have r34 : ¬ 34 ≤ k := by omega); (try have s37 : (k == 37) = false := beq_eq_false_iff_ne.2 (by omega)); (try have s33 : (k == 33) = false := beq_eq_false_iff_ne.2 (by omega)); (try have s38 : (k == 38) = false := beq_eq_false_iff_ne.2 (by omega))
   go_enter Tryz.func46, Tryz.ntmps46
   go_wp2
   go_ret
   exact ⟨rfl, rfl⟩
 · rw [e4 h]; clear e1 e2 e3 e4 e5 e6 e7 e8 e9; obtain ⟨h, h'⟩ := h
   (first | have q5 : k ≤ 5 := by omega | have q5 : ¬ k ≤ 5 := by omega); (first | have q32 : k ≤ 32 := by omega | have q32 : ¬ k ≤ 32 := by omega); (first | have q29 : k ≤ 29 := by omega | have q29 : ¬ k ≤ 29 := by omega); (first | have q36 : k ≤ 36 := by omega | have q36 : ¬ k ≤ 36 := by omega); (first | have r1 : 1 ≤ k := by omega | have r1 : ¬ 1 ≤ k := by omega); (first | have r30 : 30 ≤ k := by omega | have r30 : ¬ 30 ≤ k := by omega); (first | have r6 : 6 ≤ k := by omega | have r6 : ¬ 6 ≤ k := by omega); (first | have r34 : 34 ≤ k := by omega | have r34 : ¬ 34 ≤ k := by omega); (try have s37 : (k == 37) = false := beq_eq_false_iff_ne.2 (by omega)); (try have s33 : (k == 33) = false := beq_eq_false_iff_ne.2 (by omega)); (try have s38 : (k == 38) = false := beq_eq_false_iff_ne.2 (by omega))
   go_enter Tryz.func46, Tryz.ntmps46
   go_wp2
   go_ret
   exact ⟨rfl, rfl⟩
 · rw [e5 h]; clear e1 e2 e3 e4 e5 e6 e7 e8 e9; subst h
   go_enter Tryz.func46, Tryz.ntmps46
   go_wp2
   go_ret
   exact ⟨rfl, rfl⟩
 · rw [e6 h]; clear e1 e2 e3 e4 e5 e6 e7 e8 e9; obtain ⟨h, h'⟩ := h
   (first | have q5 : k ≤ 5 := by omega | have q5 : ¬ k ≤ 5 := by omega); (first | have q32 : k ≤ 32 := by omega | have q32 : ¬ k ≤ 32 := by omega); (first | have q29 : k ≤ 29 := by omega | have q29 : ¬ k ≤ 29 := by omega); (first | have q36 : k ≤ 36 := by omega | have q36 : ¬ k ≤ 36 := by omega); (first | have r1 : 1 ≤ k := by omega | have r1 : ¬ 1 ≤ k := by omega); (first | have r30 : 30 ≤ k := by omega | have r30 : ¬ 30 ≤ k := by omega); (first | have r6 : 6 ≤ k := by omega | have r6 : ¬ 6 ≤ k := by omega); (first | have r34 : 34 ≤ k := by omega | have r34 : ¬ 34 ≤ k := by omega); (try have s37 : (k == 37) = false := beq_eq_false_iff_ne.2 (by omega)); (try have s33 : (k == 33) = false := beq_eq_false_iff_ne.2 (by omega)); (try have s38 : (k == 38) = false := beq_eq_false_iff_ne.2 (by omega))
   go_enter Tryz.func46, Tryz.ntmps46
   go_wp2
   go_ret
   exact ⟨rfl, rfl⟩
 · rw [e7 h]; clear e1 e2 e3 e4 e5 e6 e7 e8 e9; subst h
   go_enter Tryz.func46, Tryz.ntmps46
   go_wp2
   go_ret
   exact ⟨rfl, rfl⟩
 · rw [e8 h]; clear e1 e2 e3 e4 e5 e6 e7 e8 e9; subst h
   go_enter Tryz.func46, Tryz.ntmps46
   go_wp2
   go_ret
   exact ⟨rfl, rfl⟩
 · rw [e9 h]; clear e1 e2 e3 e4 e5 e6 e7 e8 e9
   (first | have q5 : k ≤ 5 := by omega | have q5 : ¬ k ≤ 5 := by omega); (first | have q32 : k ≤ 32 := by omega | have q32 : ¬ k ≤ 32 := by omega); (first | have q29 : k ≤ 29 := by omega | have q29 : ¬ k ≤ 29 := by omega); (first | have q36 : k ≤ 36 := by omega | have q36 : ¬ k ≤ 36 := by omega); (first | have r1 : 1 ≤ k := by omega | have r1 : ¬ 1 ≤ k := by omega); (first | have r30 : 30 ≤ k := by omega | have r30 : ¬ 30 ≤ k := by omega); (first | have r6 : 6 ≤ k := by omega | have r6 : ¬ 6 ≤ k := by omega); (first | have r34 : 34 ≤ k := by omega | have r34 : ¬ 34 ≤ k := by omega); (try have s37 : (k == 37) = false := beq_eq_false_iff_ne.2 (by omega)); (try have s33 : (k == 33) = false := beq_eq_false_iff_ne.2 (by omega)); (try have s38 : (k == 38) = false := beq_eq_false_iff_ne.2 (by omega))
   go_enter Tryz.func46, Tryz.ntmps46
   go_wp2
   go_ret
   exact ⟨rfl, rfl⟩
theorem in_as (n lo hi : Int) (b : Bool) (w : World) (h : inB n lo hi = b) : Calls Tryz.prog 84 #[.int .i64 n, .int .i64 lo, .int .i64 hi] w fun e w' => e = .returned (.bool b) ∧ w = w' := h ▸ in_same n lo hi w
theorem in_dec (n lo hi : Int) (w : World) (b : Bool) (h : b = true ∧ lo ≤ n ∧ n ≤ hi ∨ b = false ∧ ¬ (lo ≤ n ∧ n ≤ hi)) : Calls Tryz.prog 84 #[.int .i64 n, .int .i64 lo, .int .i64 hi] w fun e w' => e = .returned (.bool b) ∧ w = w' := by
 rcases h with ⟨rfl, h⟩ | ⟨rfl, h⟩
 · exact in_as _ _ _ _ _ (inB_yes h)
 · exact in_as _ _ _ _ _ (inB_no h)
theorem parts_same (k : Int) (w : World) : Calls Tryz.prog 63 #[.int .i64 k] w fun e w' => e = .returned (.int .i64 (partsN k)) ∧ w = w' := by
 obtain ⟨e1, e2, e3, e4, e5, e6, e7, e8, e9⟩ := partsN_eq k
 rcases kinds k with h | h | h | h | h | h | h | h | h
 · rw [e1 h]; clear e1 e2 e3 e4 e5 e6 e7 e8 e9
   (try have s37 : (k == 37) = false := beq_eq_false_iff_ne.2 (by omega)); (try have s33 : (k == 33) = false := beq_eq_false_iff_ne.2 (by omega)); (try have s38 : (k == 38) = false := beq_eq_false_iff_ne.2 (by omega))
   go_enter Tryz.func63, Tryz.ntmps63
   go_wp2_with (go_at_call 84; first | (refine (in_dec _ _ _ _ true (.inl ⟨rfl, by omega, by omega⟩)).mono ?_; rintro e w' ⟨rfl, rfl⟩) | (refine (in_dec _ _ _ _ false (.inr ⟨rfl, by omega⟩)).mono ?_; rintro e w' ⟨rfl, rfl⟩))
   go_ret
   exact ⟨rfl, rfl⟩
 · rw [e2 h]; clear e1 e2 e3 e4 e5 e6 e7 e8 e9; obtain ⟨h, h'⟩ := h
   (try have s37 : (k == 37) = false := beq_eq_false_iff_ne.2 (by omega)); (try have s33 : (k == 33) = false := beq_eq_false_iff_ne.2 (by omega)); (try have s38 : (k == 38) = false := beq_eq_false_iff_ne.2 (by omega))
   go_enter Tryz.func63, Tryz.ntmps63
   go_wp2_with (go_at_call 84; first | (refine (in_dec _ _ _ _ true (.inl ⟨rfl, by omega, by omega⟩)).mono ?_; rintro e w' ⟨rfl, rfl⟩) | (refine (in_dec _ _ _ _ false (.inr ⟨rfl, by omega⟩)).mono ?_; rintro e w' ⟨rfl, rfl⟩))
   go_ret
   exact ⟨rfl, rfl⟩
 · rw [e3 h]; clear e1 e2 e3 e4 e5 e6 e7 e8 e9; obtain ⟨h, h'⟩ := h
   (try have s37 : (k == 37) = false := beq_eq_false_iff_ne.2 (by omega)); (try have s33 : (k == 33) = false := beq_eq_false_iff_ne.2 (by omega)); (try have s38 : (k == 38) = false := beq_eq_false_iff_ne.2 (by omega))
   go_enter Tryz.func63, Tryz.ntmps63
   go_wp2_with (go_at_call 84; first | (refine (in_dec _ _ _ _ true (.inl ⟨rfl, by omega, by omega⟩)).mono ?_; rintro e w' ⟨rfl, rfl⟩) | (refine (in_dec _ _ _ _ false (.inr ⟨rfl, by omega⟩)).mono ?_; rintro e w' ⟨rfl, rfl⟩))
   go_ret
   exact ⟨rfl, rfl⟩
 · rw [e4 h]; clear e1 e2 e3 e4 e5 e6 e7 e8 e9; obtain ⟨h, h'⟩ := h
   (try have s37 : (k == 37) = false := beq_eq_false_iff_ne.2 (by omega)); (try have s33 : (k == 33) = false := beq_eq_false_iff_ne.2 (by omega)); (try have s38 : (k == 38) = false := beq_eq_false_iff_ne.2 (by omega))
   go_enter Tryz.func63, Tryz.ntmps63
   go_wp2_with (go_at_call 84; first | (refine (in_dec _ _ _ _ true (.inl ⟨rfl, by omega, by omega⟩)).mono ?_; rintro e w' ⟨rfl, rfl⟩) | (refine (in_dec _ _ _ _ false (.inr ⟨rfl, by omega⟩)).mono ?_; rintro e w' ⟨rfl, rfl⟩))
   go_ret
   exact ⟨rfl, rfl⟩
 · rw [e5 h]; clear e1 e2 e3 e4 e5 e6 e7 e8 e9; subst h
   go_enter Tryz.func63, Tryz.ntmps63
   go_wp2_with (go_at_call 84; first | (refine (in_dec _ _ _ _ true (.inl ⟨rfl, by omega, by omega⟩)).mono ?_; rintro e w' ⟨rfl, rfl⟩) | (refine (in_dec _ _ _ _ false (.inr ⟨rfl, by omega⟩)).mono ?_; rintro e w' ⟨rfl, rfl⟩))
   go_ret
   exact ⟨rfl, rfl⟩
 · rw [e6 h]; clear e1 e2 e3 e4 e5 e6 e7 e8 e9; obtain ⟨h, h'⟩ := h
   (try have s37 : (k == 37) = false := beq_eq_false_iff_ne.2 (by omega)); (try have s33 : (k == 33) = false := beq_eq_false_iff_ne.2 (by omega)); (try have s38 : (k == 38) = false := beq_eq_false_iff_ne.2 (by omega))
   go_enter Tryz.func63, Tryz.ntmps63
   go_wp2_with (go_at_call 84; first | (refine (in_dec _ _ _ _ true (.inl ⟨rfl, by omega, by omega⟩)).mono ?_; rintro e w' ⟨rfl, rfl⟩) | (refine (in_dec _ _ _ _ false (.inr ⟨rfl, by omega⟩)).mono ?_; rintro e w' ⟨rfl, rfl⟩))
   go_ret
   exact ⟨rfl, rfl⟩
 · rw [e7 h]; clear e1 e2 e3 e4 e5 e6 e7 e8 e9; subst h
   go_enter Tryz.func63, Tryz.ntmps63
   go_wp2_with (go_at_call 84; first | (refine (in_dec _ _ _ _ true (.inl ⟨rfl, by omega, by omega⟩)).mono ?_; rintro e w' ⟨rfl, rfl⟩) | (refine (in_dec _ _ _ _ false (.inr ⟨rfl, by omega⟩)).mono ?_; rintro e w' ⟨rfl, rfl⟩))
   go_ret
   exact ⟨rfl, rfl⟩
 · rw [e8 h]; clear e1 e2 e3 e4 e5 e6 e7 e8 e9; subst h
   go_enter Tryz.func63, Tryz.ntmps63
   go_wp2_with (go_at_call 84; first | (refine (in_dec _ _ _ _ true (.inl ⟨rfl, by omega, by omega⟩)).mono ?_; rintro e w' ⟨rfl, rfl⟩) | (refine (in_dec _ _ _ _ false (.inr ⟨rfl, by omega⟩)).mono ?_; rintro e w' ⟨rfl, rfl⟩))
   go_ret
   exact ⟨rfl, rfl⟩
 · rw [e9 h]; clear e1 e2 e3 e4 e5 e6 e7 e8 e9
   (try have s37 : (k == 37) = false := beq_eq_false_iff_ne.2 (by omega)); (try have s33 : (k == 33) = false := beq_eq_false_iff_ne.2 (by omega)); (try have s38 : (k == 38) = false := beq_eq_false_iff_ne.2 (by omega))
   go_enter Tryz.func63, Tryz.ntmps63
   go_wp2_with (go_at_call 84; first | (refine (in_dec _ _ _ _ true (.inl ⟨rfl, by omega, by omega⟩)).mono ?_; rintro e w' ⟨rfl, rfl⟩) | (refine (in_dec _ _ _ _ false (.inr ⟨rfl, by omega⟩)).mono ?_; rintro e w' ⟨rfl, rfl⟩))
   go_ret
   exact ⟨rfl, rfl⟩
end Go.Proofs.YtdojaijnejcoiaaGreat
namespace Go.Proofs.YtdojaijnejcoiaaGreat
open Go.RowKit
def bt (s : ByteArray) (i : Nat) : Nat := if h : i < s.size then (s[i]'h).toNat else 0
theorem bt_at (s : ByteArray) (i : Nat) (h : i < s.size) : (s[i]'h).toNat = bt s i := by simp [bt, h]
theorem bt_lt (s : ByteArray) (i : Nat) : bt s i < 256 := by
 unfold bt; split
 · exact (s[i]'_).toNat_lt
 · omega
def okc (first : Bool) (x : Nat) : Bool := inB x 97 122 || (!first && inB x 48 57)
def namesTo (s : ByteArray) (k : Nat) : Prop := ∀ i, i < k → okc (i == 0) (bt s i) = true
def nameB (s : ByteArray) : Bool := inB s.size 1 8 && (List.range s.size).all fun i => okc (i == 0) (bt s i)
theorem name_size {s : ByteArray} (h : inB s.size 1 8 = false) : nameB s = false := by unfold nameB; rw [h]; rfl
theorem name_no {s : ByteArray} {k : Nat} (hk : k < s.size) (h : okc (k == 0) (bt s k) = false) : nameB s = false := by
 unfold nameB
 have : (List.range s.size).all (fun i => okc (i == 0) (bt s i)) = false := by
  rw [List.all_eq_false]
  exact ⟨k, List.mem_range.2 hk, by rw [h]; exact Bool.false_ne_true⟩
 rw [this, Bool.and_false]
theorem name_all {s : ByteArray} (h : namesTo s s.size) : nameB s = inB s.size 1 8 := by
 unfold nameB
 have : (List.range s.size).all (fun i => okc (i == 0) (bt s i)) = true := by
  rw [List.all_eq_true]
  intro i hi
  exact h i (List.mem_range.1 hi)
 rw [this, Bool.and_true]
theorem named_same (k : Int) (w : World) : Calls Tryz.prog 81 #[.int .i64 k] w fun e w' => e = .returned (.bool (inB k 35 36)) ∧ w = w' := by
 by_cases h5 : k = 35
 · subst h5
   go_enter Tryz.func81, Tryz.ntmps81
   go_wp2
   go_ret
   exact ⟨rfl, rfl⟩
 · have h5' : (k == 35) = false := beq_eq_false_iff_ne.2 h5
   by_cases h6 : k = 36
   · subst h6
     go_enter Tryz.func81, Tryz.ntmps81
     go_wp2
     go_ret
     exact ⟨rfl, rfl⟩
   · have h6' : (k == 36) = false := beq_eq_false_iff_ne.2 h6
     rw [inB_no (show ¬ (35 ≤ k ∧ k ≤ 36) by omega)]
     go_enter Tryz.func81, Tryz.ntmps81
     go_wp2
     go_ret
     exact ⟨rfl, rfl⟩
theorem l2Name_same (s : ByteArray) (w : World) (hs : s.size ≤ 140737488351232) : Calls Tryz.prog 97 #[.string s] w fun e w' => e = .returned (.bool (nameB s)) ∧ w = w' := by
 by_cases hz : inB s.size 1 8 = true
 · have HZ := Lib.hid hz
   have hz' := of_decide_eq_true hz
   clear hz
   have h0 : 0 < s.size := by omega
   have hx := bt_at s 0 h0
   have ho : okc (0 == 0) (bt s 0) = inB (bt s 0) 97 122 := by simp [okc]
   generalize hx0 : bt s 0 = x0 at *
   have HX0 := Lib.hid hx0
   clear hx0
   by_cases hc : 97 ≤ x0 ∧ x0 ≤ 122
   · obtain ⟨c1, c2⟩ := hc
     have c3 : ¬ ((x0 : Int) < 97) := by omega
     have c4 : ¬ ((122 : Int) < (x0 : Int)) := by omega
     have HO := Lib.hid ho
     clear ho
     go_enter Tryz.func97, Tryz.ntmps97
     go_wp2_with (go_at_call 73; refine (l1In_same _ _ _ _).mono ?_; rintro e w' ⟨rfl, rfl⟩; rw [HZ.out])
     go_loop [3] (fun i => ∃ k : Nat, k ≤ s.size ∧ i = .int .i64 k ∧ Hid (namesTo s k)) (fun i => s.size - (intOf i).toNat)
     case atStart => exact ⟨0, Nat.zero_le _, rfl, Lib.hid (fun i hi => absurd hi (Nat.not_lt_zero _))⟩
     case round =>
      obtain ⟨k, hk, rfl, hto⟩ := hrel
      clear hx c3 c4
      have HC := Lib.hid (show 97 ≤ x0 ∧ x0 ≤ 122 from ⟨c1, c2⟩)
      clear c1 c2
      by_cases hlt : k < s.size
      · have hxk := bt_at s k hlt
        have hx256 := bt_lt s k
        have hok : okc (k == 0) (bt s k) = true → namesTo s (k + 1) := fun h i hi => by
         rcases Nat.lt_or_ge i k with g | g
         · exact hto.out i g
         · obtain rfl : i = k := by omega
           exact h
        have hno := name_no (s := s) hlt
        have hfst : k = 0 → 97 ≤ bt s k ∧ bt s k ≤ 122 := fun h => by subst h; rw [HX0.out]; exact HC.out
        have HF := Lib.hid hfst
        have HOK := Lib.hid hok
        have HNO := Lib.hid hno
        generalize bt s k = x at *
        clear hfst hok hno hto
        have good : okc (k == 0) x = true → ∃ h : Hid (namesTo s (k + 1)), True := fun h => ⟨Lib.hid (HOK.out h), trivial⟩
        have bad : okc (k == 0) x = false → ∃ h : Hid (nameB s = false), True := fun h => ⟨Lib.hid (HNO.out h), trivial⟩
        by_cases a1 : 97 ≤ x ∧ x ≤ 122
        · obtain ⟨HG, -⟩ := good (by unfold okc; rw [inB_yes (by omega)]; rfl)
          obtain ⟨a2, a3⟩ := a1
          have a4 : (97 : Int) ≤ (x : Int) := by omega
          have a5 : (x : Int) ≤ 122 := by omega
          clear good bad
          go_wp2
          go_round
          case rel => exact ⟨k + 1, by omega, by go_num, HG⟩
          case measure => simp [intOf]; omega
        · have hk0 : (k == 0) = false := beq_eq_false_iff_ne.2 (fun h => a1 (HF.out h))
          by_cases a2 : 48 ≤ x ∧ x ≤ 57
          · obtain ⟨HG, -⟩ := good (by unfold okc; rw [hk0, inB_yes (n := (x : Int)) (lo := 48) (hi := 57) (by omega), Bool.not_false, Bool.true_and, Bool.or_true])
            obtain ⟨a3, a4⟩ := a2
            have a5 : ¬ (97 : Int) ≤ (x : Int) := by omega
            have a6 : (48 : Int) ≤ (x : Int) := by omega
            have a7 : (x : Int) ≤ 57 := by omega
            clear good bad hk0
            go_wp2
            go_round
            case rel => exact ⟨k + 1, by omega, by go_num, HG⟩
            case measure => simp [intOf]; omega
          · obtain ⟨HR, -⟩ := bad (by unfold okc; rw [inB_no (show ¬ ((97 : Int) ≤ x ∧ (x : Int) ≤ 122) by omega), inB_no (show ¬ ((48 : Int) ≤ x ∧ (x : Int) ≤ 57) by omega), Bool.and_false]; rfl)
            clear good bad hk0
            first | have b1 : (97 : Int) ≤ (x : Int) := by omega | have b1 : ¬ (97 : Int) ≤ (x : Int) := by omega | skip
            by_cases b1 : (97 : Int) ≤ (x : Int) <;> by_cases b2 : (48 : Int) ≤ (x : Int)
            all_goals first | have b3 : ¬ (x : Int) ≤ 122 := by omega | skip
            all_goals first | have b4 : ¬ (x : Int) ≤ 57 := by omega | skip
            all_goals first | (exfalso; omega) | skip
            all_goals go_wp2
            all_goals go_ret
            all_goals exact ⟨ret_eq (congrArg Value.bool HR.out.symm), rfl⟩
      · obtain rfl : k = s.size := by omega
        have HR := Lib.hid ((name_all hto.out).trans HZ.out)
        clear hto
        go_wp2
        go_ret
        exact ⟨ret_eq (congrArg Value.bool HR.out.symm), rfl⟩
   · have HR := Lib.hid (name_no (s := s) (k := 0) h0 (by rw [HX0.out, ho]; exact inB_no (by omega)))
     clear ho
     by_cases g1 : x0 < 97
     · have c3 : ((x0 : Int) < 97) := by omega
       go_enter Tryz.func97, Tryz.ntmps97
       go_wp2_with (go_at_call 73; refine (l1In_same _ _ _ _).mono ?_; rintro e w' ⟨rfl, rfl⟩; rw [HZ.out])
       go_ret
       exact ⟨ret_eq (congrArg Value.bool HR.out.symm), rfl⟩
     · have c3 : ¬ ((x0 : Int) < 97) := by omega
       have c4 : ((122 : Int) < (x0 : Int)) := by omega
       go_enter Tryz.func97, Tryz.ntmps97
       go_wp2_with (go_at_call 73; refine (l1In_same _ _ _ _).mono ?_; rintro e w' ⟨rfl, rfl⟩; rw [HZ.out])
       go_ret
       exact ⟨ret_eq (congrArg Value.bool HR.out.symm), rfl⟩
 · have HZ := Lib.hid (eq_false_of_ne_true hz)
   have HR := Lib.hid (name_size HZ.out)
   clear hz
   go_enter Tryz.func97, Tryz.ntmps97
   go_wp2_with (go_at_call 73; refine (l1In_same _ _ _ _).mono ?_; rintro e w' ⟨rfl, rfl⟩; rw [HZ.out])
   go_ret
   exact ⟨ret_eq (congrArg Value.bool HR.out.symm), rfl⟩
theorem isLetter_same (x : Nat) (w : World) (hx : x < 256) : Calls Tryz.prog 117 #[.int .u8 x] w fun e w' => e = .returned (.bool (inB x 97 122)) ∧ w = w' := by
 by_cases a1 : (97 : Int) ≤ (x : Int)
 · by_cases a2 : (x : Int) ≤ 122
   · rw [inB_yes ⟨a1, a2⟩]
     go_enter Tryz.func117, Tryz.ntmps117
     go_wp2
     go_ret
     exact ⟨rfl, rfl⟩
   · rw [inB_no (fun c => a2 c.2)]
     go_enter Tryz.func117, Tryz.ntmps117
     go_wp2
     go_ret
     exact ⟨rfl, rfl⟩
 · rw [inB_no (fun c => a1 c.1)]
   go_enter Tryz.func117, Tryz.ntmps117
   go_wp2
   go_ret
   exact ⟨rfl, rfl⟩
theorem isName_same (s : ByteArray) (w : World) (hs : s.size ≤ 140737488351232) : Calls Tryz.prog 104 #[.string s] w fun e w' => e = .returned (.bool (nameB s)) ∧ w = w' := by
 go_enter Tryz.func104, Tryz.ntmps104
 go_wp2_with fail
 go_loop [6] (fun i => ∃ k : Nat, k ≤ s.size ∧ i = .int .i64 k ∧ Hid (namesTo s k)) (fun i => s.size - (intOf i).toNat)
 case atStart => exact ⟨0, Nat.zero_le _, rfl, Lib.hid (fun i hi => absurd hi (Nat.not_lt_zero _))⟩
 case round =>
  obtain ⟨k, hk, rfl, hto⟩ := hrel
  by_cases hlt : k < s.size
  · have hxk := bt_at s k hlt
    have hx256 := bt_lt s k
    have hok : okc (k == 0) (bt s k) = true → namesTo s (k + 1) := fun h i hi => by
     rcases Nat.lt_or_ge i k with g | g
     · exact hto.out i g
     · obtain rfl : i = k := by omega
       exact h
    have hno := name_no (s := s) hlt
    have HOK := Lib.hid hok
    have HNO := Lib.hid hno
    generalize bt s k = x at *
    clear hok hno hto
    have good : okc (k == 0) x = true → ∃ h : Hid (namesTo s (k + 1)), True := fun h => ⟨Lib.hid (HOK.out h), trivial⟩
    have bad : okc (k == 0) x = false → ∃ h : Hid (nameB s = false), True := fun h => ⟨Lib.hid (HNO.out h), trivial⟩
    by_cases a1 : 97 ≤ x ∧ x ≤ 122
    · have HL := Lib.hid (show inB (x : Int) 97 122 = true from inB_yes (by omega))
      obtain ⟨HG, -⟩ := good (by unfold okc; rw [HL.out]; rfl)
      clear good bad a1
      go_wp2_with (go_at_call 117; refine (isLetter_same _ _ hx256).mono ?_; rintro e w' ⟨rfl, rfl⟩; rw [HL.out])
      go_round
      case rel => exact ⟨k + 1, by omega, by go_num, HG⟩
      case measure => simp [intOf]; omega
    · have HL := Lib.hid (show inB (x : Int) 97 122 = false from inB_no (by omega))
      by_cases hk0 : k = 0
      · subst hk0
        obtain ⟨HR, -⟩ := bad (by unfold okc; rw [HL.out]; rfl)
        clear good bad a1
        go_wp2_with (go_at_call 117; refine (isLetter_same _ _ hx256).mono ?_; rintro e w' ⟨rfl, rfl⟩; rw [HL.out])
        go_ret
        exact ⟨ret_eq (congrArg Value.bool HR.out.symm), rfl⟩
      · have hkb : (k == 0) = false := beq_eq_false_iff_ne.2 hk0
        have hkb' : ((k : Int) == 0) = false := beq_eq_false_iff_ne.2 (by omega)
        by_cases a2 : 48 ≤ x ∧ x ≤ 57
        · obtain ⟨HG, -⟩ := good (by unfold okc; rw [hkb, inB_yes (n := (x : Int)) (lo := 48) (hi := 57) (by omega), Bool.not_false, Bool.true_and, Bool.or_true])
          have a6 : ¬ (x : Int) < 48 := by omega
          have a7 : ¬ (57 : Int) < (x : Int) := by omega
          clear good bad a1 a2
          go_wp2_with (go_at_call 117; refine (isLetter_same _ _ hx256).mono ?_; rintro e w' ⟨rfl, rfl⟩; rw [HL.out])
          go_round
          case rel => exact ⟨k + 1, by omega, by go_num, HG⟩
          case measure => simp [intOf]; omega
        · obtain ⟨HR, -⟩ := bad (by unfold okc; rw [HL.out, inB_no (show ¬ ((48 : Int) ≤ x ∧ (x : Int) ≤ 57) by omega), Bool.and_false]; rfl)
          clear good bad a1
          by_cases b1 : (x : Int) < 48
          · go_wp2_with (go_at_call 117; refine (isLetter_same _ _ hx256).mono ?_; rintro e w' ⟨rfl, rfl⟩; rw [HL.out])
            go_ret
            exact ⟨ret_eq (congrArg Value.bool HR.out.symm), rfl⟩
          · have b2 : (57 : Int) < (x : Int) := by omega
            go_wp2_with (go_at_call 117; refine (isLetter_same _ _ hx256).mono ?_; rintro e w' ⟨rfl, rfl⟩; rw [HL.out])
            go_ret
            exact ⟨ret_eq (congrArg Value.bool HR.out.symm), rfl⟩
  · obtain rfl : k = s.size := by omega
    have HR := Lib.hid (name_all hto.out)
    clear hto
    go_wp2_with (go_at_call 84; refine (in_same _ _ _ _).mono ?_; rintro e w' ⟨rfl, rfl⟩)
    go_ret
    exact ⟨ret_eq (congrArg Value.bool HR.out.symm), rfl⟩
end Go.Proofs.YtdojaijnejcoiaaGreat
namespace Go.Proofs.YtdojaijnejcoiaaGreat
open Go.RowKit
theorem pw_nat {m : Nat} (h : m ≤ 16) : (1 : Int) ≤ 2 ^ m ∧ (2 : Int) ^ m ≤ 65536 := by
 have := pw_le (a := (m : Int)) (by omega) (by omega)
 simpa only [Int.toNat_natCast] using this
theorem l1Bit_zero (i : Nat) (w : World) : Calls Tryz.prog 119 #[.int .i64 0, .int .i64 i] w fun e w' => e = .returned (.int .i64 0) ∧ w = w' := by
 go_enter Tryz.func119, Tryz.ntmps119
 go_wp2
 go_ret
 exact ⟨rfl, rfl⟩
theorem wok_zero {n : Nat} (hn : 1 ≤ n) (hn2 : n ≤ 16) : wokB n 0 = true := by
 unfold wokB widB
 obtain ⟨h1, h2⟩ := pw_le (a := n) (by omega) (by omega)
 rw [inB_yes (by omega), inB_yes (by omega)]; rfl
theorem WordOk_zero (n : Nat) (w : World) (hn : 1 ≤ n) (hn2 : n ≤ 16) : Calls Tryz.prog 90 #[.int .i64 n, .int .i64 0] w fun e w' => e = .returned (.bool true) ∧ w = w' := by
 have := WordOk_same n 0 w
 rw [wok_zero hn hn2] at this
 exact this
theorem l1Width_yes (n : Nat) (w : World) (hn : 1 ≤ n) (hn2 : n ≤ 16) : Calls Tryz.prog 98 #[.int .i64 n] w fun e w' => e = .returned (.bool true) ∧ w = w' := by
 have := l1Width_same n w
 rw [show widB n = true from inB_yes (by omega)] at this
 exact this
theorem l1Ones_zero (n : Nat) (w : World) (hn : 1 ≤ n) (hn2 : n ≤ 16) : Calls Tryz.prog 110 #[.int .i64 n, .int .i64 0] w fun e w' => e = .returned (.int .i64 0) ∧ w = w' := by
 go_enter Tryz.func110, Tryz.ntmps110
 go_wp2
 go_loop [5, 6] (fun s i => ∃ k : Nat, k ≤ n ∧ i = .int .i64 k ∧ s = .int .i64 0) (fun _ i => n - (intOf i).toNat)
 case atStart => exact ⟨0, Nat.zero_le _, rfl, rfl⟩
 case round =>
  obtain ⟨k, hk, rfl, rfl⟩ := hrel
  by_cases hlt : k < n
  · go_wp2_with (go_at_call 119; refine (l1Bit_zero _ _).mono ?_; rintro e w' ⟨rfl, rfl⟩)
    go_round
    case rel => exact ⟨k + 1, by omega, by go_num, rfl⟩
    case measure => simp [intOf] <;> omega
  · obtain rfl : k = n := by omega
    go_wp2
    go_ret
    exact ⟨rfl, rfl⟩
theorem WordSigned_zero (n : Nat) (w : World) (hn : 1 ≤ n) (hn2 : n ≤ 16) : Calls Tryz.prog 108 #[.int .i64 n, .int .i64 0] w fun e w' => e = .returned (.int .i64 0) ∧ w = w' := by
 obtain ⟨m, rfl⟩ : ∃ m, n = m + 1 := ⟨n - 1, by omega⟩
 obtain ⟨h1, h2⟩ := pw_nat (m := m) (by omega)
 have h3 : ¬ (2 : Int) ^ m ≤ 0 := by omega
 go_enter Tryz.func108, Tryz.ntmps108
 go_wp2_with (go_at_call 90; refine (WordOk_zero _ _ hn hn2).mono ?_; rintro e w' ⟨rfl, rfl⟩)
 go_ret
 exact ⟨rfl, rfl⟩
theorem WordFrom_zero (n : Nat) (w : World) (hn : 1 ≤ n) (hn2 : n ≤ 16) : Calls Tryz.prog 107 #[.int .i64 n, .int .i64 0] w fun e w' => e = .returned (.int .i64 0) ∧ w = w' := by
 obtain ⟨h1, h2⟩ := pw_nat (m := n) (by omega)
 go_enter Tryz.func107, Tryz.ntmps107
 go_wp2_with (go_at_call 98; refine (l1Width_yes _ _ hn hn2).mono ?_; rintro e w' ⟨rfl, rfl⟩)
 go_ret
 exact ⟨rfl, rfl⟩
theorem l1Yes_some (b : Bool) (w : World) : Calls Tryz.prog 109 #[.bool b] w fun e w' => e = .returned (.int .i64 (if b = true then 1 else 0)) ∧ w = w' := by
 cases b
 all_goals
  go_enter Tryz.func109, Tryz.ntmps109
  go_wp2
  go_ret
  exact ⟨rfl, rfl⟩
theorem l1Div_zero (kind : Int) (n : Nat) (w : World) (hn : 1 ≤ n) (hn2 : n ≤ 16) (hk : kind = 12 ∨ kind = 13) : Calls Tryz.prog 113 #[.int .i64 kind, .int .i64 n, .int .i64 0, .int .i64 0] w fun e w' => e = .returned (.int .i64 (if kind = 12 then 2 ^ n - 1 else 0)) ∧ w = w' := by
 obtain ⟨h1, h2⟩ := pw_nat (m := n) (by omega)
 rcases hk with rfl | rfl
 all_goals
  go_enter Tryz.func113, Tryz.ntmps113
  go_wp2
  go_ret
  exact ⟨rfl, rfl⟩
theorem l1Sdiv_zero (kind : Int) (n : Nat) (w : World) (hn : 1 ≤ n) (hn2 : n ≤ 16) (hk : kind = 14 ∨ kind = 15) : Calls Tryz.prog 114 #[.int .i64 kind, .int .i64 n, .int .i64 0, .int .i64 0] w fun e w' => e = .returned (.int .i64 (if kind = 14 then 2 ^ n - 1 else 0)) ∧ w = w' := by
 obtain ⟨h1, h2⟩ := pw_nat (m := n) (by omega)
 rcases hk with rfl | rfl
 all_goals
  go_enter Tryz.func114, Tryz.ntmps114
  go_wp2_with (first | (go_at_call 108; refine (WordSigned_zero _ _ hn hn2).mono ?_; rintro e w' ⟨rfl, rfl⟩) | (go_at_call 107; refine (WordFrom_zero _ _ hn hn2).mono ?_; rintro e w' ⟨rfl, rfl⟩))
  go_ret
  exact ⟨rfl, rfl⟩
theorem l1Each_zero (kind : Int) (n : Nat) (w : World) (hn : 1 ≤ n) (hn2 : n ≤ 16) (hk : kind = 6 ∨ kind = 7 ∨ kind = 8) : Calls Tryz.prog 112 #[.int .i64 kind, .int .i64 n, .int .i64 0, .int .i64 0] w fun e w' => e = .returned (.int .i64 0) ∧ w = w' := by
 obtain ⟨h1, h2⟩ := pw_nat (m := n) (by omega)
 rcases hk with rfl | rfl | rfl
 all_goals
  go_enter Tryz.func112, Tryz.ntmps112
  go_wp2
  go_loop [9, 10] (fun v i => ∃ k : Nat, k ≤ n ∧ i = .int .i64 k ∧ v = .int .i64 0) (fun _ i => n - (intOf i).toNat)
  case atStart => exact ⟨0, Nat.zero_le _, rfl, rfl⟩
  case round =>
   obtain ⟨k, hk, rfl, rfl⟩ := hrel
   by_cases hlt : k < n
   · have hlt2 : (k : Int) < n := by omega
     go_wp2_with (first | (go_at_call 119; refine (l1Bit_zero _ _).mono ?_; rintro e w' ⟨rfl, rfl⟩))
     all_goals go_round
     case rel => exact ⟨k + 1, by omega, by go_num, rfl⟩
     case measure => simp [intOf] <;> omega
   · obtain rfl : k = n := by omega
     go_wp2
     go_ret
     exact ⟨rfl, rfl⟩
theorem l1Shift_zero (kind : Int) (n : Nat) (w : World) (hn : 1 ≤ n) (hn2 : n ≤ 16) (hk : kind = 16 ∨ kind = 17 ∨ kind = 18) : Calls Tryz.prog 115 #[.int .i64 kind, .int .i64 n, .int .i64 0, .int .i64 0] w fun e w' => e = .returned (.int .i64 0) ∧ w = w' := by
 obtain ⟨h1, h2⟩ := pw_nat (m := n) (by omega)
 rcases hk with rfl | rfl | rfl
 all_goals
  go_enter Tryz.func115, Tryz.ntmps115
  go_wp2
  go_loop [9, 10] (fun v i => ∃ k : Nat, k ≤ n ∧ i = .int .i64 k ∧ v = .int .i64 0) (fun _ i => n - (intOf i).toNat)
  case atStart => exact ⟨0, Nat.zero_le _, rfl, rfl⟩
  case round =>
   obtain ⟨k, hk, rfl, rfl⟩ := hrel
   by_cases hlt : k < n
   · have hlt2 : (k : Int) < n := by omega
     go_wp2_with (first | (go_at_call 119; refine (l1Bit_zero _ _).mono ?_; rintro e w' ⟨rfl, rfl⟩))
     all_goals go_round
     case rel => exact ⟨k + 1, by omega, by go_num, rfl⟩
     case measure => simp [intOf] <;> omega
   · obtain rfl : k = n := by omega
     go_wp2
     go_ret
     exact ⟨rfl, rfl⟩
theorem l1Says_yes (kind : Int) (n : Nat) (w : World) (hn : 1 ≤ n) (hn2 : n ≤ 16) (hk : kind = 22 ∨ kind = 23 ∨ kind = 24 ∨ kind = 25 ∨ kind = 26 ∨ kind = 27 ∨ kind = 28) : Calls Tryz.prog 111 #[.int .i64 kind, .int .i64 n, .int .i64 0, .int .i64 0] w fun e w' => e = .returned (.tuple #[.bool (kind == 24 || kind == 25), .bool true]) ∧ w = w' := by
 rcases hk with rfl | rfl | rfl | rfl | rfl | rfl | rfl
 all_goals
  go_enter Tryz.func111, Tryz.ntmps111
  go_wp2_with (first | (go_at_call 108; refine (WordSigned_zero _ _ hn hn2).mono ?_; rintro e w' ⟨rfl, rfl⟩) | (go_at_call 107; refine (WordFrom_zero _ _ hn hn2).mono ?_; rintro e w' ⟨rfl, rfl⟩) | (go_at_call 90; refine (WordOk_zero _ _ hn hn2).mono ?_; rintro e w' ⟨rfl, rfl⟩))
  refine bodyPost_ret (by simp [results, Tryz.results111, go_sem]) rfl ⟨rfl, rfl⟩
theorem l1Says_no (kind : Int) (n : Nat) (w : World) (hn : 1 ≤ n) (hn2 : n ≤ 16) (hk : 6 ≤ kind ∧ kind ≤ 20) : Calls Tryz.prog 111 #[.int .i64 kind, .int .i64 n, .int .i64 0, .int .i64 0] w fun e w' => e = .returned (.tuple #[.bool false, .bool false]) ∧ w = w' := by
 have k21 : (kind == 21) = false := beq_eq_false_iff_ne.2 (by omega)
 have k22 : (kind == 22) = false := beq_eq_false_iff_ne.2 (by omega)
 have k23 : (kind == 23) = false := beq_eq_false_iff_ne.2 (by omega)
 have k24 : (kind == 24) = false := beq_eq_false_iff_ne.2 (by omega)
 have k25 : (kind == 25) = false := beq_eq_false_iff_ne.2 (by omega)
 have k26 : (kind == 26) = false := beq_eq_false_iff_ne.2 (by omega)
 have k27 : (kind == 27) = false := beq_eq_false_iff_ne.2 (by omega)
 have k28 : (kind == 28) = false := beq_eq_false_iff_ne.2 (by omega)
 go_enter Tryz.func111, Tryz.ntmps111
 go_wp2_with (first | (go_at_call 108; refine (WordSigned_zero _ _ hn hn2).mono ?_; rintro e w' ⟨rfl, rfl⟩) | (go_at_call 107; refine (WordFrom_zero _ _ hn hn2).mono ?_; rintro e w' ⟨rfl, rfl⟩) | (go_at_call 90; refine (WordOk_zero _ _ hn hn2).mono ?_; rintro e w' ⟨rfl, rfl⟩))
 refine bodyPost_ret (by simp [results, Tryz.results111, go_sem]) rfl ⟨rfl, rfl⟩
theorem l1Turn_zero (kind : Int) (n : Nat) (w : World) (hn : 1 ≤ n) (hn2 : n ≤ 16) (hk : kind = 19 ∨ kind = 20) : Calls Tryz.prog 116 #[.int .i64 kind, .int .i64 n, .int .i64 0, .int .i64 0] w fun e w' => e = .returned (.int .i64 0) ∧ Below w.heap.size w w' := by
 have hn0 : ¬ (n : Int) = 0 := by omega
 have hnb : ((n : Int) == 0) = false := beq_eq_false_iff_ne.2 hn0
 rcases hk with rfl | rfl
 all_goals
  go_enter Tryz.func116, Tryz.ntmps116
  go_wp2
  go_loopw [9, 10] (fun v i wr => ∃ k : Nat, k ≤ n ∧ i = .int .i64 k ∧ v = .int .i64 0 ∧ LaterC w wr) (fun _ i _ => n - (intOf i).toNat)
  case atStart => exact ⟨0, Nat.zero_le _, rfl, rfl, LaterC.refl _⟩
  case round =>
   obtain ⟨k, hk, rfl, rfl, ⟨u, rfl⟩⟩ := hrel
   by_cases hlt : k < n
   · have hlt2 : (k : Int) < n := by omega
     go_wp2
     refine wp_region_later (w0 := w) (by kernel_rfl) (by kernel_rfl) ⟨_, rfl⟩ ?_
     repeat (go_big_quiet_step ((go_at_call 119; exact Calls.later (Makes.of_same (l1Bit_zero _ _)))))
     refine wpQuiet_nil ?_
     rintro _ ⟨u1, rfl⟩
     go_wp2
     go_roundw
     case rel => exact ⟨k + 1, by omega, by go_num, rfl, ⟨u1, rfl⟩⟩
     case measure => simp [intOf] <;> omega
   · obtain rfl : k = n := by omega
     go_wp2
     go_ret
     exact ⟨rfl, u.prop⟩
end Go.Proofs.YtdojaijnejcoiaaGreat
namespace Go.Proofs.YtdojaijnejcoiaaGreat
open Go.RowKit
theorem WordOne_zero (kind : Int) (n : Nat) (w : World) (hn : 1 ≤ n) (hn2 : n ≤ 16) (hk : kind = 1 ∨ kind = 2 ∨ kind = 3 ∨ kind = 4 ∨ kind = 5) : Calls Tryz.prog 102 #[.int .i64 kind, .int .i64 n, .int .i64 0] w fun e w' => e = .returned (.tuple #[.int .i64 (if kind = 1 then 2 ^ n - 1 else 0), .int .i64 (if kind ≤ 2 then (n : Int) else 1), .bool true]) ∧ w = w' := by
 obtain ⟨h1, h2⟩ := pw_nat (m := n) (by omega)
 rcases hk with rfl | rfl | rfl | rfl | rfl
 all_goals
  go_enter Tryz.func102, Tryz.ntmps102
  go_wp2_with (first | (go_at_call 90; refine (WordOk_zero _ _ hn hn2).mono ?_; rintro e w' ⟨rfl, rfl⟩) | (go_at_call 107; refine (WordFrom_zero _ _ hn hn2).mono ?_; rintro e w' ⟨rfl, rfl⟩) | (go_at_call 110; refine (l1Ones_zero _ _ hn hn2).mono ?_; rintro e w' ⟨rfl, rfl⟩) | (go_at_call 109; refine (l1Yes_some _ _).mono ?_; rintro e w' ⟨rfl, rfl⟩))
  go_ret3
  exact ⟨rfl, rfl⟩
theorem WordTwo_zero_a (kind : Int) (n : Nat) (w : World) (hn : 1 ≤ n) (hn2 : n ≤ 16) (hk : kind = 6 ∨ kind = 7 ∨ kind = 8) : Calls Tryz.prog 103 #[.int .i64 kind, .int .i64 n, .int .i64 0, .int .i64 0] w fun e w' => e = .returned (.tuple #[.int .i64 0, .int .i64 n, .bool true]) ∧ Below w.heap.size w w' := by
 rcases hk with rfl | rfl | rfl
 all_goals
  go_enter Tryz.func103, Tryz.ntmps103
  go_wp2_with (first | (go_at_call 90; refine (WordOk_zero _ _ hn hn2).mono ?_; rintro e w' ⟨rfl, rfl⟩) | (go_at_call 111; refine (l1Says_no _ _ _ hn hn2 (by omega)).mono ?_; rintro e w' ⟨rfl, rfl⟩) | (go_at_call 112; refine (l1Each_zero _ _ _ hn hn2 (by simp)).mono ?_; rintro e w' ⟨rfl, rfl⟩))
  go_ret3
  exact ⟨rfl, by first | exact Below.refl _ _ | assumption⟩
theorem WordTwo_zero_b (kind : Int) (n : Nat) (w : World) (hn : 1 ≤ n) (hn2 : n ≤ 16) (hk : kind = 9 ∨ kind = 10 ∨ kind = 11) : Calls Tryz.prog 103 #[.int .i64 kind, .int .i64 n, .int .i64 0, .int .i64 0] w fun e w' => e = .returned (.tuple #[.int .i64 0, .int .i64 n, .bool true]) ∧ Below w.heap.size w w' := by
 rcases hk with rfl | rfl | rfl
 all_goals
  go_enter Tryz.func103, Tryz.ntmps103
  go_wp2_with (first | (go_at_call 90; refine (WordOk_zero _ _ hn hn2).mono ?_; rintro e w' ⟨rfl, rfl⟩) | (go_at_call 111; refine (l1Says_no _ _ _ hn hn2 (by omega)).mono ?_; rintro e w' ⟨rfl, rfl⟩) | (go_at_call 107; refine (WordFrom_zero _ _ hn hn2).mono ?_; rintro e w' ⟨rfl, rfl⟩))
  go_ret3
  exact ⟨rfl, by first | exact Below.refl _ _ | assumption⟩
theorem WordTwo_zero_c (kind : Int) (n : Nat) (w : World) (hn : 1 ≤ n) (hn2 : n ≤ 16) (hk : kind = 12 ∨ kind = 13) : Calls Tryz.prog 103 #[.int .i64 kind, .int .i64 n, .int .i64 0, .int .i64 0] w fun e w' => e = .returned (.tuple #[.int .i64 (if kind = 12 then 2 ^ n - 1 else 0), .int .i64 n, .bool true]) ∧ Below w.heap.size w w' := by
 rcases hk with rfl | rfl
 all_goals
  go_enter Tryz.func103, Tryz.ntmps103
  go_wp2_with (first | (go_at_call 90; refine (WordOk_zero _ _ hn hn2).mono ?_; rintro e w' ⟨rfl, rfl⟩) | (go_at_call 111; refine (l1Says_no _ _ _ hn hn2 (by omega)).mono ?_; rintro e w' ⟨rfl, rfl⟩) | (go_at_call 113; refine (l1Div_zero _ _ _ hn hn2 (by simp)).mono ?_; rintro e w' ⟨rfl, rfl⟩))
  go_ret3
  exact ⟨rfl, by first | exact Below.refl _ _ | assumption⟩
theorem WordTwo_zero_d (kind : Int) (n : Nat) (w : World) (hn : 1 ≤ n) (hn2 : n ≤ 16) (hk : kind = 14 ∨ kind = 15) : Calls Tryz.prog 103 #[.int .i64 kind, .int .i64 n, .int .i64 0, .int .i64 0] w fun e w' => e = .returned (.tuple #[.int .i64 (if kind = 14 then 2 ^ n - 1 else 0), .int .i64 n, .bool true]) ∧ Below w.heap.size w w' := by
 rcases hk with rfl | rfl
 all_goals
  go_enter Tryz.func103, Tryz.ntmps103
  go_wp2_with (first | (go_at_call 90; refine (WordOk_zero _ _ hn hn2).mono ?_; rintro e w' ⟨rfl, rfl⟩) | (go_at_call 111; refine (l1Says_no _ _ _ hn hn2 (by omega)).mono ?_; rintro e w' ⟨rfl, rfl⟩) | (go_at_call 114; refine (l1Sdiv_zero _ _ _ hn hn2 (by simp)).mono ?_; rintro e w' ⟨rfl, rfl⟩))
  go_ret3
  exact ⟨rfl, by first | exact Below.refl _ _ | assumption⟩
theorem WordTwo_zero_e (kind : Int) (n : Nat) (w : World) (hn : 1 ≤ n) (hn2 : n ≤ 16) (hk : kind = 16 ∨ kind = 17 ∨ kind = 18) : Calls Tryz.prog 103 #[.int .i64 kind, .int .i64 n, .int .i64 0, .int .i64 0] w fun e w' => e = .returned (.tuple #[.int .i64 0, .int .i64 n, .bool true]) ∧ Below w.heap.size w w' := by
 rcases hk with rfl | rfl | rfl
 all_goals
  go_enter Tryz.func103, Tryz.ntmps103
  go_wp2_with (first | (go_at_call 90; refine (WordOk_zero _ _ hn hn2).mono ?_; rintro e w' ⟨rfl, rfl⟩) | (go_at_call 111; refine (l1Says_no _ _ _ hn hn2 (by omega)).mono ?_; rintro e w' ⟨rfl, rfl⟩) | (go_at_call 115; refine (l1Shift_zero _ _ _ hn hn2 (by simp)).mono ?_; rintro e w' ⟨rfl, rfl⟩))
  go_ret3
  exact ⟨rfl, by first | exact Below.refl _ _ | assumption⟩
theorem WordTwo_zero_f (kind : Int) (n : Nat) (w : World) (hn : 1 ≤ n) (hn2 : n ≤ 16) (hk : kind = 19 ∨ kind = 20) : Calls Tryz.prog 103 #[.int .i64 kind, .int .i64 n, .int .i64 0, .int .i64 0] w fun e w' => e = .returned (.tuple #[.int .i64 0, .int .i64 n, .bool true]) ∧ Below w.heap.size w w' := by
 rcases hk with rfl | rfl
 all_goals
  go_enter Tryz.func103, Tryz.ntmps103
  go_wp2_with (first | (go_at_call 90; refine (WordOk_zero _ _ hn hn2).mono ?_; rintro e w' ⟨rfl, rfl⟩) | (go_at_call 111; refine (l1Says_no _ _ _ hn hn2 (by omega)).mono ?_; rintro e w' ⟨rfl, rfl⟩) | (go_at_call 116; refine (l1Turn_zero _ _ _ hn hn2 (by simp)).mono ?_; rintro e w' ⟨rfl, hbt⟩))
  go_ret3
  exact ⟨rfl, by first | exact Below.refl _ _ | assumption⟩
theorem WordTwo_zero_g (kind : Int) (n : Nat) (w : World) (hn : 1 ≤ n) (hn2 : n ≤ 16) (hk : kind = 22 ∨ kind = 23 ∨ kind = 24 ∨ kind = 25 ∨ kind = 26 ∨ kind = 27 ∨ kind = 28) : Calls Tryz.prog 103 #[.int .i64 kind, .int .i64 n, .int .i64 0, .int .i64 0] w fun e w' => e = .returned (.tuple #[.int .i64 (if (kind == 24 || kind == 25) = true then 1 else 0), .int .i64 1, .bool true]) ∧ Below w.heap.size w w' := by
 rcases hk with rfl | rfl | rfl | rfl | rfl | rfl | rfl
 all_goals
  go_enter Tryz.func103, Tryz.ntmps103
  go_wp2_with (first | (go_at_call 90; refine (WordOk_zero _ _ hn hn2).mono ?_; rintro e w' ⟨rfl, rfl⟩) | (go_at_call 111; refine (l1Says_yes _ _ _ hn hn2 (by simp)).mono ?_; rintro e w' ⟨rfl, rfl⟩) | (go_at_call 109; refine (l1Yes_some _ _).mono ?_; rintro e w' ⟨rfl, rfl⟩))
  go_ret3
  exact ⟨rfl, by first | exact Below.refl _ _ | assumption⟩
def twoV (kind : Int) (n : Nat) : Int := if kind = 12 ∨ kind = 14 then 2 ^ n - 1 else if kind = 24 ∨ kind = 25 then 1 else 0
theorem WordTwo_zero (kind : Int) (n : Nat) (w : World) (hn : 1 ≤ n) (hn2 : n ≤ 16) (hk : 6 ≤ kind ∧ kind ≤ 28) (hne : kind ≠ 21) : Calls Tryz.prog 103 #[.int .i64 kind, .int .i64 n, .int .i64 0, .int .i64 0] w fun e w' => e = .returned (.tuple #[.int .i64 (twoV kind n), .int .i64 (if kind ≤ 20 then (n : Int) else 1), .bool true]) ∧ Below w.heap.size w w' := by
 unfold twoV
 by_cases h : kind ≤ 20
 · rw [if_pos h]
   rcases (show (kind = 6 ∨ kind = 7 ∨ kind = 8) ∨ (kind = 9 ∨ kind = 10 ∨ kind = 11) ∨ (kind = 12 ∨ kind = 13) ∨ (kind = 14 ∨ kind = 15) ∨ (kind = 16 ∨ kind = 17 ∨ kind = 18) ∨ (kind = 19 ∨ kind = 20) by omega) with h | h | h | h | h | h
   · rw [if_neg (by omega), if_neg (by omega)]; exact WordTwo_zero_a kind n w hn hn2 h
   · rw [if_neg (by omega), if_neg (by omega)]; exact WordTwo_zero_b kind n w hn hn2 h
   · have := WordTwo_zero_c kind n w hn hn2 h
     rcases h with rfl | rfl <;> simpa using this
   · have := WordTwo_zero_d kind n w hn hn2 h
     rcases h with rfl | rfl <;> simpa using this
   · rw [if_neg (by omega), if_neg (by omega)]; exact WordTwo_zero_e kind n w hn hn2 h
   · rw [if_neg (by omega), if_neg (by omega)]; exact WordTwo_zero_f kind n w hn hn2 h
 · rw [if_neg h, if_neg (by omega)]
   have := WordTwo_zero_g kind n w hn hn2 (by omega)
   rcases (show kind = 22 ∨ kind = 23 ∨ kind = 24 ∨ kind = 25 ∨ kind = 26 ∨ kind = 27 ∨ kind = 28 by omega) with rfl | rfl | rfl | rfl | rfl | rfl | rfl <;> simpa using this
theorem WordJoin_zero (n u : Nat) (w : World) (hn : 1 ≤ n) (hn2 : n ≤ 16) (hu : 1 ≤ u) (hu2 : u ≤ 16) : Calls Tryz.prog 99 #[.int .i64 n, .int .i64 0, .int .i64 u, .int .i64 0] w fun e w' => e = .returned (.tuple #[.int .i64 0, .int .i64 (if (n : Int) + u ≤ 16 then (n : Int) + u else 0), .bool (decide ((n : Int) + u ≤ 16))]) ∧ w = w' := by
 by_cases h : (n : Int) + u ≤ 16
 · rw [if_pos h, decide_eq_true h]
   go_enter Tryz.func99, Tryz.ntmps99
   go_wp2_with (first | (go_at_call 90; with_reducible refine (WordOk_zero n _ hn hn2).mono ?_; rintro e w' ⟨rfl, rfl⟩) | (go_at_call 90; with_reducible refine (WordOk_zero u _ hu hu2).mono ?_; rintro e w' ⟨rfl, rfl⟩))
   go_ret3
   exact ⟨rfl, rfl⟩
 · rw [if_neg h, decide_eq_false h]
   have h' : (16 : Int) < n + u := by omega
   go_enter Tryz.func99, Tryz.ntmps99
   go_wp2_with (first | (go_at_call 90; with_reducible refine (WordOk_zero n _ hn hn2).mono ?_; rintro e w' ⟨rfl, rfl⟩) | (go_at_call 90; with_reducible refine (WordOk_zero u _ hu hu2).mono ?_; rintro e w' ⟨rfl, rfl⟩))
   go_ret3
   exact ⟨rfl, rfl⟩
theorem WordSlice_zero (n : Nat) (hi lo : Int) (w : World) (hn : 1 ≤ n) (hn2 : n ≤ 16) : Calls Tryz.prog 100 #[.int .i64 n, .int .i64 0, .int .i64 hi, .int .i64 lo] w fun e w' => e = .returned (.tuple #[.int .i64 0, .int .i64 (if 0 ≤ lo ∧ lo ≤ hi ∧ hi < n then hi - lo + 1 else 0), .bool (decide (0 ≤ lo ∧ lo ≤ hi ∧ hi < n))]) ∧ w = w' := by
 by_cases h : 0 ≤ lo ∧ lo ≤ hi ∧ hi < n
 · rw [if_pos h, decide_eq_true h]
   obtain ⟨h1, h2, h3⟩ := h
   obtain ⟨p1, p2⟩ := pw_le (a := hi - lo + 1) (by omega) (by omega)
   go_enter Tryz.func100, Tryz.ntmps100
   go_wp2_with (first | (go_at_call 90; with_reducible refine (WordOk_zero n _ hn hn2).mono ?_; rintro e w' ⟨rfl, rfl⟩))
   go_ret3
   exact ⟨rfl, rfl⟩
 · rw [if_neg h, decide_eq_false h]
   by_cases h1 : lo < 0
   · go_enter Tryz.func100, Tryz.ntmps100
     go_wp2_with (first | (go_at_call 90; with_reducible refine (WordOk_zero n _ hn hn2).mono ?_; rintro e w' ⟨rfl, rfl⟩))
     go_ret3
     exact ⟨rfl, rfl⟩
   · by_cases h2 : hi < lo
     · go_enter Tryz.func100, Tryz.ntmps100
       go_wp2_with (first | (go_at_call 90; with_reducible refine (WordOk_zero n _ hn hn2).mono ?_; rintro e w' ⟨rfl, rfl⟩))
       go_ret3
       exact ⟨rfl, rfl⟩
     · have h3 : (n : Int) ≤ hi := by omega
       clear h
       go_enter Tryz.func100, Tryz.ntmps100
       go_wp2_with (first | (go_at_call 90; with_reducible refine (WordOk_zero n _ hn hn2).mono ?_; rintro e w' ⟨rfl, rfl⟩))
       go_ret3
       exact ⟨rfl, rfl⟩
theorem WordGrow_zero (n : Nat) (more : Int) (w : World) (hn : 1 ≤ n) (hn2 : n ≤ 16) : Calls Tryz.prog 101 #[.int .i64 n, .int .i64 0, .int .i64 more, .bool false] w fun e w' => e = .returned (.tuple #[.int .i64 0, .int .i64 (if 0 ≤ more ∧ more ≤ 16 - n then n + more else 0), .bool (decide (0 ≤ more ∧ more ≤ 16 - n))]) ∧ w = w' := by
 by_cases h : 0 ≤ more ∧ more ≤ 16 - n
 · rw [if_pos h, decide_eq_true h]
   obtain ⟨h1, h2⟩ := h
   go_enter Tryz.func101, Tryz.ntmps101
   go_wp2_with (first | (go_at_call 90; with_reducible refine (WordOk_zero n _ hn hn2).mono ?_; rintro e w' ⟨rfl, rfl⟩))
   go_ret3
   exact ⟨rfl, rfl⟩
 · rw [if_neg h, decide_eq_false h]
   by_cases h1 : more < 0
   · go_enter Tryz.func101, Tryz.ntmps101
     go_wp2_with (first | (go_at_call 90; with_reducible refine (WordOk_zero n _ hn hn2).mono ?_; rintro e w' ⟨rfl, rfl⟩))
     go_ret3
     exact ⟨rfl, rfl⟩
   · have h2 : (16 : Int) - n < more := by omega
     clear h
     go_enter Tryz.func101, Tryz.ntmps101
     go_wp2_with (first | (go_at_call 90; with_reducible refine (WordOk_zero n _ hn hn2).mono ?_; rintro e w' ⟨rfl, rfl⟩))
     go_ret3
     exact ⟨rfl, rfl⟩
end Go.Proofs.YtdojaijnejcoiaaGreat
namespace Go.Proofs.YtdojaijnejcoiaaGreat
open Go.RowKit
theorem make_any {P : Program} (t e : TypeId) (z : Value) (size bytes : Nat) (ht : P.underlying t = some (.slice e)) (hinfo : (P.info? e).map (fun i => (i.zero, i.size, i.bytes)) = some (some z, size, bytes)) (n : Nat) (hb : bytes * n ≤ 281474976710656) (h63 : n ≤ 281474976710656) :
 ∀ w : World, (Instr.makeSlice t (.int .i64 (n : Int)) (.int .i64 (n : Int))).run P w = .ok (.slice (some ⟨w.heap.size, 0, none⟩) n n) (w.alloc (.cells (madeCells z.cells (n * size)) e)) := by
 intro w
 obtain ⟨i, hi, hzz⟩ := Option.map_eq_some_iff.1 hinfo
 simp only [Prod.mk.injEq] at hzz
 obtain ⟨hz, hs, hb'⟩ := hzz
 have hb2 : (i.bytes : Int) * (n : Int) ≤ 281474976710656 := by
  have h : ((i.bytes * n : Nat) : Int) ≤ 281474976710656 := by rw [hb']; omega
  rwa [Int.natCast_mul] at h
 have hr := run_make (P := P) w t e i z ht hi hz .i64 .i64 n n (by omega) (Int.le_refl _) hb2 (by omega)
 simp only [Int.toNat_natCast, hs] at hr
 exact hr
def OwnB (w : World) (g : Nat) (T : TypeId) (cs : Array Value) : Prop := w.heap[g]? = some (.cells cs T (0, 0))
theorem OwnB.lt {w : World} {g : Nat} {T : TypeId} {cs : Array Value} (h : OwnB w g T cs) : g < w.heap.size := by
 rcases Nat.lt_or_ge g w.heap.size with hlt | hge
 · exact hlt
 · unfold OwnB at h; rw [Array.getElem?_eq_none hge] at h; cases h
theorem OwnB.cell {w : World} {g : Nat} {T : TypeId} {cs : Array Value} (h : OwnB w g T cs) (i : Nat) : w.cell? ⟨g, i, none⟩ = cs[i]? := cell_of_row w g i cs T (0, 0) h
theorem OwnB.frozen {w : World} {g : Nat} {T : TypeId} {cs : Array Value} (h : OwnB w g T cs) (i : Nat) : w.frozen? ⟨g, i, none⟩ = false := by
 unfold OwnB at h; simp [World.frozen?, h]
theorem OwnB.new (w : World) (T : TypeId) (cs : Array Value) : OwnB (w.alloc (.cells cs T)) w.heap.size T cs := heap_alloc_new w _
theorem OwnB.set {w : World} {g : Nat} {T : TypeId} {cs : Array Value} (h : OwnB w g T cs) (i : Nat) (u : Value) : OwnB (w.setCell ⟨g, i, none⟩ u) g T (cs.setIfInBounds i u) := by
 unfold OwnB at h ⊢
 simp [World.setCell, Array.getElem?_modify, h]
theorem OwnB.below {w w' : World} {B g : Nat} {T : TypeId} {cs : Array Value} (h : OwnB w g T cs) (hb : Below B w w') (hg : g < B) : OwnB w' g T cs := (hb.block g hg).trans h
def Filled {α : Type} (E : En α) (xs : List α) (k : Nat) (cs : Array Value) : Prop := ∀ i x, i < k → xs[i]? = some x → ∀ (f : Nat) (u : Value), (E.cells x)[f]? = some u → cs[i * E.sz + f]? = some u
def Fresh {α : Type} (E : En α) (T : TypeId) (w0 w : World) (v : Value) (xs : List α) : Prop :=
 ∃ g cs, v = .slice (some ⟨g, 0, none⟩) xs.length xs.length ∧ w0.heap.size ≤ g ∧ OwnB w g T cs ∧ cs.size = xs.length * E.sz ∧ Filled E xs xs.length cs
theorem Filled.int {xs : List Int} {k n : Nat} {x : Int} {cs : Array Value} (h : Filled enI xs k cs) (hx : xs.getD k 0 = x) (hs : cs.size = n) (hk : k < n) (hn : xs.length = n) : Filled enI xs (k + 1) (cs.setIfInBounds k (.int .i64 x)) := by
 intro i y hi hy f u hu
 have hf : f = 0 := by
  have := (List.getElem?_eq_some_iff.1 hu).1
  simpa using this
 subst hf
 simp only [Nat.mul_one, Nat.add_zero]
 rcases Nat.lt_or_ge i k with g | g
 · rw [Array.getElem?_setIfInBounds_ne (by omega)]
   have := h i y g hy 0 u hu
   simpa using this
 · obtain rfl : i = k := by omega
   rw [Array.getElem?_setIfInBounds_self_of_lt (by omega)]
   rw [List.getD_eq_getElem?_getD, hy] at hx
   simp at hx hu
   subst hx; exact congrArg some hu
theorem toIntN_calls (sv : Value) (xs : List Int) (w : World) (hS : SlN enI w sv xs) (hc : xs.length ≤ 1048576) :
 Calls Tryz.prog 21 #[sv] w fun e w' => ∃ v, e = .returned v ∧ Below w.heap.size w w' ∧ Fresh enI 3 w w' v xs := by
 obtain ⟨A, c, rfl, -, -, hA⟩ := hS
 generalize hn : xs.length = n at *
 have HN := Lib.hid hn
 clear hn
 have hmk := make_any (P := Tryz.prog) 24 3 (.int .i64 0) 1 8 Tryz.underlying24 (by kernel_rfl) n (by omega) (by omega)
 simp only [Nat.mul_one, Value.cells] at hmk
 go_enter Tryz.func21, Tryz.ntmps21
 go_wp2
 have HO := OwnB.new w 3 (madeCells #[Value.int IntKind.i64 0] n)
 have HB := Lib.hid (box_below w (madeCells #[Value.int IntKind.i64 0] n) 3)
 have HSZ := size_madeCells #[Value.int IntKind.i64 0] n
 generalize w.alloc (Obj.cells (madeCells #[Value.int IntKind.i64 0] n) 3) = w1 at *
 generalize madeCells #[Value.int IntKind.i64 0] n = cs0 at *
 have HO1 := Lib.hid HO
 have HSZ1 := Lib.hid HSZ
 clear HO HSZ hmk
 go_loopw [4] (fun i wr => ∃ k : Nat, k ≤ n ∧ i = .int .i64 k ∧ ∃ cs : Array Value, Hid (OwnB wr w.heap.size 3 cs ∧ cs.size = n ∧ Filled enI xs k cs ∧ Below w.heap.size w wr)) (fun i _ => n - (intOf i).toNat)
 case atStart => exact ⟨0, Nat.zero_le _, rfl, cs0, Lib.hid ⟨HO1.out, HSZ1.out, fun i _ hi => absurd hi (Nat.not_lt_zero _), HB.out⟩⟩
 case round =>
  obtain ⟨k, hk, rfl, cs, HI⟩ := hrel
  by_cases hlt : k < n
  · obtain ⟨b, o, rfl, hx⟩ := hA k _ (getD_at (by rw [HN.out]; exact hlt) 0)
    generalize hxe : xs.getD k 0 = x at hx
    have hcx : wr.cell? ⟨b, o + k, none⟩ = some (.int .i64 x) := by
     have h0 := hx 0 _ rfl
     simp only [Nat.mul_one, Nat.add_zero] at h0
     exact (HI.out.2.2.2.cell (World.block_lt_of_cell? _ _ h0)).trans h0
    have hgc : wr.cell? ⟨w.heap.size, k, none⟩ = some (cs.getD k undef) := by
     rw [HI.out.1.cell k]
     have hs := HI.out.2.1
     simp [Array.getElem?_eq_getElem (show k < cs.size by omega), Array.getD, show k < cs.size by omega]
    have hgf : wr.frozen? ⟨w.heap.size, k, none⟩ = false := HI.out.1.frozen k
    have HI2 := Lib.hid (show OwnB (wr.setCell ⟨w.heap.size, k, none⟩ (.int .i64 x)) w.heap.size 3 (cs.setIfInBounds k (.int .i64 x)) ∧ (cs.setIfInBounds k (.int .i64 x)).size = n ∧ Filled enI xs (k + 1) (cs.setIfInBounds k (.int .i64 x)) ∧ Below w.heap.size w (wr.setCell ⟨w.heap.size, k, none⟩ (.int .i64 x)) from
     ⟨HI.out.1.set _ _, by simp [HI.out.2.1], HI.out.2.2.1.int hxe HI.out.2.1 hlt HN.out, HI.out.2.2.2.setCell (Nat.le_refl _) _⟩)
    clear hx hxe hA
    go_wp2
    go_roundw
    case rel => exact ⟨k + 1, by omega, by go_num, _, HI2⟩
    case measure => simp [intOf]; omega
  · obtain rfl : k = n := by omega
    clear hA
    go_wp2
    go_ret
    refine ⟨_, rfl, HI.out.2.2.2, w.heap.size, cs, ?_, Nat.le_refl _, HI.out.1, ?_, ?_⟩
    · rw [HN.out]; rfl
    · rw [HN.out]; simpa using HI.out.2.1
    · rw [HN.out]; exact HI.out.2.2.1
theorem toIntS_calls (sv : Value) (xs : List Int) (w : World) (hS : SlAt enI w sv xs) (hc : xs.length ≤ 1048576) :
 Calls Tryz.prog 21 #[sv] w fun e w' => ∃ v, e = .returned v ∧ Below w.heap.size w w' ∧ Fresh enI 3 w w' v xs := toIntN_calls sv xs w hS.slN hc
end Go.Proofs.YtdojaijnejcoiaaGreat
namespace Go.Proofs.YtdojaijnejcoiaaGreat
open Go.RowKit
theorem toSort_calls (i a : Int) (w : World) : Makes Tryz.prog 79 #[.agg #[.int .i64 i, .int .i64 a]] w (.agg #[.int .i64 i, .int .i64 a]) := by
 go_enter Tryz.func79, Tryz.ntmps79
 go_wp2
 exact bodyPost_ret (v := .agg #[.int .i64 i, .int .i64 a]) (by simp [results, Tryz.results79, go_sem]) rfl ⟨rfl, by repeat (first | exact Below.refl _ _ | refine Below.setCell ?_ (by simp) _ | refine Below.alloc ?_ (by first | (simp; done) | (simp; omega)) _)⟩
theorem toBind_calls (i a : Int) (w : World) : Makes Tryz.prog 48 #[.agg #[.int .i64 i, .int .i64 a]] w (.agg #[.int .i64 i, .int .i64 a]) := by
 go_enter Tryz.func48, Tryz.ntmps48
 go_wp2
 exact bodyPost_ret (v := .agg #[.int .i64 i, .int .i64 a]) (by simp [results, Tryz.results48, go_sem]) rfl ⟨rfl, by repeat (first | exact Below.refl _ _ | refine Below.setCell ?_ (by simp) _ | refine Below.alloc ?_ (by first | (simp; done) | (simp; omega)) _)⟩
theorem toNode_calls (x : Nd) (w : World) : Makes Tryz.prog 47 #[nodeV x] w (nodeV x) := by
 obtain ⟨k, a, b, c, n, m, i, d, s⟩ := x
 simp only [nodeV]
 go_enter Tryz.func47, Tryz.ntmps47
 go_wp2_with fail
 refine calls_at fun u => (Calls.later (toSort_calls _ _ _)).mono ?_
 rintro e w' ⟨rfl, u1, rfl⟩
 have c0 : u1.val.cell? ⟨w.heap.size + 1 + 1, 0, none⟩ = some (.int .i64 k) := by refine Later.cell ?_ u1; go_simp
 have c1 : u1.val.cell? ⟨w.heap.size + 1 + 1, 1, none⟩ = some (.int .i64 a) := by refine Later.cell ?_ u1; go_simp
 have c2 : u1.val.cell? ⟨w.heap.size + 1 + 1, 2, none⟩ = some (.int .i64 b) := by refine Later.cell ?_ u1; go_simp
 have c3 : u1.val.cell? ⟨w.heap.size + 1 + 1, 3, none⟩ = some (.int .i64 c) := by refine Later.cell ?_ u1; go_simp
 have c4 : u1.val.cell? ⟨w.heap.size + 1 + 1, 4, none⟩ = some (.int .i64 n) := by refine Later.cell ?_ u1; go_simp
 have c5 : u1.val.cell? ⟨w.heap.size + 1 + 1, 5, none⟩ = some (.int .i64 m) := by refine Later.cell ?_ u1; go_simp
 have c6 : u1.val.cell? ⟨w.heap.size + 1 + 1, 6, none⟩ = some (.int .i64 0) := by refine Later.cell ?_ u1; go_simp
 have c7 : u1.val.cell? ⟨w.heap.size + 1 + 1, 7, none⟩ = some (.int .i64 0) := by refine Later.cell ?_ u1; go_simp
 have c8 : u1.val.cell? ⟨w.heap.size + 1 + 1, 8, none⟩ = some (.string ⟨#[]⟩) := by refine Later.cell ?_ u1; go_simp
 have d0 : u1.val.cell? ⟨w.heap.size + 1, 0, none⟩ = some (.int .i64 0) := by refine Later.cell ?_ u1; go_simp
 have d1 : u1.val.cell? ⟨w.heap.size + 1, 1, none⟩ = some (.int .i64 0) := by refine Later.cell ?_ u1; go_simp
 have d2 : u1.val.cell? ⟨w.heap.size + 1, 2, none⟩ = some (.int .i64 0) := by refine Later.cell ?_ u1; go_simp
 have d3 : u1.val.cell? ⟨w.heap.size + 1, 3, none⟩ = some (.int .i64 0) := by refine Later.cell ?_ u1; go_simp
 have d4 : u1.val.cell? ⟨w.heap.size + 1, 4, none⟩ = some (.int .i64 0) := by refine Later.cell ?_ u1; go_simp
 have d5 : u1.val.cell? ⟨w.heap.size + 1, 5, none⟩ = some (.int .i64 0) := by refine Later.cell ?_ u1; go_simp
 have d6 : u1.val.cell? ⟨w.heap.size + 1, 6, none⟩ = some (.int .i64 0) := by refine Later.cell ?_ u1; go_simp
 have d7 : u1.val.cell? ⟨w.heap.size + 1, 7, none⟩ = some (.int .i64 0) := by refine Later.cell ?_ u1; go_simp
 have d8 : u1.val.cell? ⟨w.heap.size + 1, 8, none⟩ = some (.string ⟨#[]⟩) := by refine Later.cell ?_ u1; go_simp
 have e0 : u1.val.frozen? ⟨w.heap.size + 1, 0, none⟩ = false := by refine Later.frozen ?_ ?_ u1 <;> first | (go_simp; done) | (simp; omega)
 have e1 : u1.val.frozen? ⟨w.heap.size + 1, 1, none⟩ = false := by refine Later.frozen ?_ ?_ u1 <;> first | (go_simp; done) | (simp; omega)
 have e2 : u1.val.frozen? ⟨w.heap.size + 1, 2, none⟩ = false := by refine Later.frozen ?_ ?_ u1 <;> first | (go_simp; done) | (simp; omega)
 have e3 : u1.val.frozen? ⟨w.heap.size + 1, 3, none⟩ = false := by refine Later.frozen ?_ ?_ u1 <;> first | (go_simp; done) | (simp; omega)
 have e4 : u1.val.frozen? ⟨w.heap.size + 1, 4, none⟩ = false := by refine Later.frozen ?_ ?_ u1 <;> first | (go_simp; done) | (simp; omega)
 have e5 : u1.val.frozen? ⟨w.heap.size + 1, 5, none⟩ = false := by refine Later.frozen ?_ ?_ u1 <;> first | (go_simp; done) | (simp; omega)
 have e6 : u1.val.frozen? ⟨w.heap.size + 1, 6, none⟩ = false := by refine Later.frozen ?_ ?_ u1 <;> first | (go_simp; done) | (simp; omega)
 have e7 : u1.val.frozen? ⟨w.heap.size + 1, 7, none⟩ = false := by refine Later.frozen ?_ ?_ u1 <;> first | (go_simp; done) | (simp; omega)
 have e8 : u1.val.frozen? ⟨w.heap.size + 1, 8, none⟩ = false := by refine Later.frozen ?_ ?_ u1 <;> first | (go_simp; done) | (simp; omega)
 have p8 : u1.val.cell? ⟨w.heap.size, 8, none⟩ = some (.string s) := by refine Later.cell ?_ u1; go_simp
 have z6 : u1.val.frozen? ⟨w.heap.size + 1 + 1, 6, none⟩ = false := by refine Later.frozen ?_ ?_ u1 <;> first | (go_simp; done) | (simp; omega)
 have z7 : u1.val.frozen? ⟨w.heap.size + 1 + 1, 7, none⟩ = false := by refine Later.frozen ?_ ?_ u1 <;> first | (go_simp; done) | (simp; omega)
 have z8 : u1.val.frozen? ⟨w.heap.size + 1 + 1, 8, none⟩ = false := by refine Later.frozen ?_ ?_ u1 <;> first | (go_simp; done) | (simp; omega)
 go_wp2_with fail
 have hbel : Below w.heap.size w u1.val := u1.back (by
  refine Below.alloc (Below.alloc (Below.alloc (Below.refl _ _) (Nat.le_refl _) _) ?_ _) ?_ _ <;> first | (simp; done) | (simp; omega))
 refine bodyPost_ret (v := .agg #[.int .i64 k, .int .i64 a, .int .i64 b, .int .i64 c, .int .i64 n, .int .i64 m, .int .i64 i, .int .i64 d, .string s]) ?_ rfl ⟨rfl, ?_⟩
 · simp [results, Tryz.results47, go_sem, d0, d1, d2, d3, d4, d5, d6, d7, d8]
 · repeat (with_reducible refine Below.setCell ?_ ?_ _)
   · with_reducible exact hbel
   all_goals (simp only [Nat.le_add_right, Nat.le_refl]; try omega)
end Go.Proofs.YtdojaijnejcoiaaGreat
namespace Go.Proofs.YtdojaijnejcoiaaGreat
open Go.RowKit
def put9 (cs : Array Value) (k : Nat) (x : Nd) : Array Value := (((((((((cs.setIfInBounds (k * 9) (.int .i64 x.kind)).setIfInBounds (k * 9 + 1) (.int .i64 x.a)).setIfInBounds (k * 9 + 2) (.int .i64 x.b)).setIfInBounds (k * 9 + 3) (.int .i64 x.c)).setIfInBounds (k * 9 + 4) (.int .i64 x.n)).setIfInBounds (k * 9 + 5) (.int .i64 x.m)).setIfInBounds (k * 9 + 6) (.int .i64 x.idx)).setIfInBounds (k * 9 + 7) (.int .i64 x.wid)).setIfInBounds (k * 9 + 8) (.string x.name))
theorem put9_size (cs : Array Value) (k : Nat) (x : Nd) : (put9 cs k x).size = cs.size := by simp [put9]
theorem put9_low (cs : Array Value) (k : Nat) (x : Nd) (j : Nat) (hj : j < k * 9) : (put9 cs k x)[j]? = cs[j]? := by
 unfold put9
 repeat (rw [Array.getElem?_setIfInBounds_ne (by omega)])
theorem put9_at (cs : Array Value) (k : Nat) (x : Nd) (hs : k * 9 + 9 ≤ cs.size) (f : Nat) (u : Value) (hu : (enNd.cells x)[f]? = some u) : (put9 cs k x)[k * 9 + f]? = some u := by
 have hf : f < 9 := by
  have := (List.getElem?_eq_some_iff.1 hu).1
  simpa using this
 unfold put9
 rcases (show f = 0 ∨ f = 1 ∨ f = 2 ∨ f = 3 ∨ f = 4 ∨ f = 5 ∨ f = 6 ∨ f = 7 ∨ f = 8 by omega) with rfl | rfl | rfl | rfl | rfl | rfl | rfl | rfl | rfl
 all_goals
  repeat (rw [Array.getElem?_setIfInBounds_ne (by omega)])
  try rw [Nat.add_zero]
  rw [Array.getElem?_setIfInBounds_self_of_lt (by (try simp only [Array.size_setIfInBounds]); omega)]
  exact hu
theorem Filled.step {α : Type} {E : En α} {xs : List α} {k : Nat} {cs cs' : Array Value} {x : α} (h : Filled E xs k cs) (hx : xs[k]? = some x) (hsz : ∀ y : α, (E.cells y).length = E.sz) (h1 : ∀ j, j < k * E.sz → cs'[j]? = cs[j]?) (h2 : ∀ f u, (E.cells x)[f]? = some u → cs'[k * E.sz + f]? = some u) : Filled E xs (k + 1) cs' := by
 intro i y hi hy f u hu
 have hf : f < E.sz := by
  have := (List.getElem?_eq_some_iff.1 hu).1
  rwa [hsz] at this
 rcases Nat.lt_or_ge i k with g | g
 · rw [h1 _ (by have := Nat.mul_le_mul_right E.sz (show i + 1 ≤ k from g); rw [Nat.add_mul] at this; omega)]
   exact h i y g hy f u hu
 · obtain rfl : i = k := by omega
   rw [hx] at hy
   cases hy
   exact h2 f u hu
theorem toNodeS_calls (sv : Value) (xs : List Nd) (w : World) (hS : SlAt enNd w sv xs) (hc : xs.length ≤ 1048576) :
 Calls Tryz.prog 19 #[sv] w fun e w' => ∃ v, e = .returned v ∧ Below w.heap.size w w' ∧ Fresh enNd 46 w w' v xs := by
 obtain ⟨A, c, rfl, -, -, hA⟩ := hS
 generalize hn : xs.length = n at *
 have HN := Lib.hid hn
 clear hn
 have hmk := make_any (P := Tryz.prog) 28 46 (.agg #[.int .i64 0, .int .i64 0, .int .i64 0, .int .i64 0, .int .i64 0, .int .i64 0, .int .i64 0, .int .i64 0, .string ByteArray.empty]) 9 80 Tryz.underlying28 (by kernel_rfl) n (by omega) (by omega)
 simp only [Value.cells] at hmk
 go_enter Tryz.func19, Tryz.ntmps19
 go_wp2
 have HO := OwnB.new w 46 (madeCells #[.int .i64 0, .int .i64 0, .int .i64 0, .int .i64 0, .int .i64 0, .int .i64 0, .int .i64 0, .int .i64 0, .string ByteArray.empty] (n * 9))
 have HB := Lib.hid (box_below w (madeCells #[.int .i64 0, .int .i64 0, .int .i64 0, .int .i64 0, .int .i64 0, .int .i64 0, .int .i64 0, .int .i64 0, .string ByteArray.empty] (n * 9)) 46)
 have HSZ := size_madeCells #[.int .i64 0, .int .i64 0, .int .i64 0, .int .i64 0, .int .i64 0, .int .i64 0, .int .i64 0, .int .i64 0, .string ByteArray.empty] (n * 9)
 generalize madeCells #[.int .i64 0, .int .i64 0, .int .i64 0, .int .i64 0, .int .i64 0, .int .i64 0, .int .i64 0, .int .i64 0, .string ByteArray.empty] (n * 9) = cs0 at *
 generalize w.alloc (Obj.cells cs0 46) = w1 at *
 have HO1 := Lib.hid HO
 have HSZ1 := Lib.hid HSZ
 clear HO HSZ hmk
 go_loopw [4] (fun i wr => ∃ k : Nat, k ≤ n ∧ i = .int .i64 k ∧ ∃ cs : Array Value, Hid (OwnB wr w.heap.size 46 cs ∧ cs.size = n * 9 ∧ Filled enNd xs k cs ∧ Below w.heap.size w wr)) (fun i _ => n - (intOf i).toNat)
 case atStart => exact ⟨0, Nat.zero_le _, rfl, cs0, Lib.hid ⟨HO1.out, HSZ1.out, fun i _ hi => absurd hi (Nat.not_lt_zero _), HB.out⟩⟩
 case round =>
  obtain ⟨k, hk, rfl, cs, HI⟩ := hrel
  by_cases hlt : k < n
  · obtain ⟨b, o, rfl, hx⟩ := hA k _ (getD_at (by rw [HN.out]; exact hlt) Nd.zero)
    generalize hxe : xs.getD k Nd.zero = x at hx
    have hsrc : ∀ f u, (enNd.cells x)[f]? = some u → wr.cell? ⟨b, o + k * 9 + f, none⟩ = some u := fun f u hu => (HI.out.2.2.2.cell (World.block_lt_of_cell? _ _ (hx f u hu))).trans (hx f u hu)
    have p0 : wr.cell? ⟨b, o + k * 9, none⟩ = some (.int .i64 x.kind) := hsrc 0 _ rfl
    have p1 : wr.cell? ⟨b, o + k * 9 + 1, none⟩ = some (.int .i64 x.a) := hsrc 1 _ rfl
    have p2 : wr.cell? ⟨b, o + k * 9 + 2, none⟩ = some (.int .i64 x.b) := hsrc 2 _ rfl
    have p3 : wr.cell? ⟨b, o + k * 9 + 3, none⟩ = some (.int .i64 x.c) := hsrc 3 _ rfl
    have p4 : wr.cell? ⟨b, o + k * 9 + 4, none⟩ = some (.int .i64 x.n) := hsrc 4 _ rfl
    have p5 : wr.cell? ⟨b, o + k * 9 + 5, none⟩ = some (.int .i64 x.m) := hsrc 5 _ rfl
    have p6 : wr.cell? ⟨b, o + k * 9 + 6, none⟩ = some (.int .i64 x.idx) := hsrc 6 _ rfl
    have p7 : wr.cell? ⟨b, o + k * 9 + 7, none⟩ = some (.int .i64 x.wid) := hsrc 7 _ rfl
    have p8 : wr.cell? ⟨b, o + k * 9 + 8, none⟩ = some (.string x.name) := hsrc 8 _ rfl
    have HXE := Lib.hid hxe
    clear hx hxe hA hsrc
    go_wp2_with fail
    refine calls_at fun u => (Calls.later (toNode_calls x _)).mono ?_
    rintro e w' ⟨rfl, u1, rfl⟩
    clear p0 p1 p2 p3 p4 p5 p6 p7 p8
    have HO2 := HI.out.1.below u1.prop HI.out.1.lt
    have hs := HI.out.2.1
    have htgt : ∀ j, j < n * 9 → u1.val.cell? ⟨w.heap.size, j, none⟩ = some (cs.getD j undef) := fun j hj => by
     rw [HO2.cell j]
     simp [Array.getElem?_eq_getElem (show j < cs.size by omega), Array.getD, show j < cs.size by omega]
    have hfro : ∀ j, u1.val.frozen? ⟨w.heap.size, j, none⟩ = false := fun j => HO2.frozen j
    have HO3 := Lib.hid HO2
    have HBW := Lib.hid (HI.out.2.2.2.trans (u1.prop.mono HI.out.2.2.2.size))
    clear HO2 hs
    have q0 : u1.val.cell? ⟨w.heap.size, k * 9, none⟩ = some (cs.getD (k * 9) undef) := htgt _ (by omega)
    have r0 : u1.val.frozen? ⟨w.heap.size, k * 9, none⟩ = false := hfro _
    have q1 : u1.val.cell? ⟨w.heap.size, k * 9 + 1, none⟩ = some (cs.getD (k * 9 + 1) undef) := htgt _ (by omega)
    have r1 : u1.val.frozen? ⟨w.heap.size, k * 9 + 1, none⟩ = false := hfro _
    have q2 : u1.val.cell? ⟨w.heap.size, k * 9 + 2, none⟩ = some (cs.getD (k * 9 + 2) undef) := htgt _ (by omega)
    have r2 : u1.val.frozen? ⟨w.heap.size, k * 9 + 2, none⟩ = false := hfro _
    have q3 : u1.val.cell? ⟨w.heap.size, k * 9 + 3, none⟩ = some (cs.getD (k * 9 + 3) undef) := htgt _ (by omega)
    have r3 : u1.val.frozen? ⟨w.heap.size, k * 9 + 3, none⟩ = false := hfro _
    have q4 : u1.val.cell? ⟨w.heap.size, k * 9 + 4, none⟩ = some (cs.getD (k * 9 + 4) undef) := htgt _ (by omega)
    have r4 : u1.val.frozen? ⟨w.heap.size, k * 9 + 4, none⟩ = false := hfro _
    have q5 : u1.val.cell? ⟨w.heap.size, k * 9 + 5, none⟩ = some (cs.getD (k * 9 + 5) undef) := htgt _ (by omega)
    have r5 : u1.val.frozen? ⟨w.heap.size, k * 9 + 5, none⟩ = false := hfro _
    have q6 : u1.val.cell? ⟨w.heap.size, k * 9 + 6, none⟩ = some (cs.getD (k * 9 + 6) undef) := htgt _ (by omega)
    have r6 : u1.val.frozen? ⟨w.heap.size, k * 9 + 6, none⟩ = false := hfro _
    have q7 : u1.val.cell? ⟨w.heap.size, k * 9 + 7, none⟩ = some (cs.getD (k * 9 + 7) undef) := htgt _ (by omega)
    have r7 : u1.val.frozen? ⟨w.heap.size, k * 9 + 7, none⟩ = false := hfro _
    have q8 : u1.val.cell? ⟨w.heap.size, k * 9 + 8, none⟩ = some (cs.getD (k * 9 + 8) undef) := htgt _ (by omega)
    have r8 : u1.val.frozen? ⟨w.heap.size, k * 9 + 8, none⟩ = false := hfro _
    clear htgt hfro
    go_wp2
    go_roundw
    case rel =>
     refine ⟨k + 1, by omega, by go_num, put9 cs k x, Lib.hid ⟨?_, (put9_size _ _ _).trans HI.out.2.1, HI.out.2.2.1.step (by rw [← HXE.out]; exact getD_at (by rw [HN.out]; exact hlt) _) (fun _ => rfl) (put9_low cs k x) (put9_at cs k x (by rw [HI.out.2.1]; omega)), ?_⟩⟩
     · exact ((((((((HO3.out.set _ _).set _ _).set _ _).set _ _).set _ _).set _ _).set _ _).set _ _).set _ _
     · repeat (with_reducible refine Below.setCell ?_ ?_ _)
       all_goals first | exact Nat.le_refl _ | with_reducible exact HBW.out
    case measure => simp [intOf]; omega
  · obtain rfl : k = n := by omega
    clear hA
    go_wp2
    go_ret
    refine ⟨_, rfl, HI.out.2.2.2, w.heap.size, cs, ?_, Nat.le_refl _, HI.out.1, ?_, ?_⟩
    · rw [HN.out]; rfl
    · rw [HN.out]; exact HI.out.2.1
    · rw [HN.out]; exact HI.out.2.2.1
end Go.Proofs.YtdojaijnejcoiaaGreat
namespace Go.Proofs.YtdojaijnejcoiaaGreat
open Go.RowKit
def put2 (cs : Array Value) (k : Nat) (x : Bd) : Array Value := ((cs.setIfInBounds (k * 2) (.int .i64 x.st)).setIfInBounds (k * 2 + 1) (.int .i64 x.nd))
theorem put2_size (cs : Array Value) (k : Nat) (x : Bd) : (put2 cs k x).size = cs.size := by simp [put2]
theorem put2_low (cs : Array Value) (k : Nat) (x : Bd) (j : Nat) (hj : j < k * 2) : (put2 cs k x)[j]? = cs[j]? := by
 unfold put2
 repeat (rw [Array.getElem?_setIfInBounds_ne (by omega)])
theorem put2_at (cs : Array Value) (k : Nat) (x : Bd) (hs : k * 2 + 2 ≤ cs.size) (f : Nat) (u : Value) (hu : (enBd.cells x)[f]? = some u) : (put2 cs k x)[k * 2 + f]? = some u := by
 have hf : f < 2 := by
  have := (List.getElem?_eq_some_iff.1 hu).1
  simpa using this
 unfold put2
 rcases (show f = 0 ∨ f = 1 by omega) with rfl | rfl
 all_goals
  repeat (rw [Array.getElem?_setIfInBounds_ne (by omega)])
  try rw [Nat.add_zero]
  rw [Array.getElem?_setIfInBounds_self_of_lt (by (try simp only [Array.size_setIfInBounds]); omega)]
  exact hu
theorem toBindS_calls (sv : Value) (xs : List Bd) (w : World) (hS : SlAt enBd w sv xs) (hc : xs.length ≤ 1048576) :
 Calls Tryz.prog 20 #[sv] w fun e w' => ∃ v, e = .returned v ∧ Below w.heap.size w w' ∧ Fresh enBd 57 w w' v xs := by
 obtain ⟨A, c, rfl, -, -, hA⟩ := hS
 generalize hn : xs.length = n at *
 have HN := Lib.hid hn
 clear hn
 have hmk := make_any (P := Tryz.prog) 29 57 (.agg #[.int .i64 0, .int .i64 0]) 2 16 Tryz.underlying29 (by kernel_rfl) n (by omega) (by omega)
 simp only [Value.cells] at hmk
 go_enter Tryz.func20, Tryz.ntmps20
 go_wp2
 have HO := OwnB.new w 57 (madeCells #[.int .i64 0, .int .i64 0] (n * 2))
 have HB := Lib.hid (box_below w (madeCells #[.int .i64 0, .int .i64 0] (n * 2)) 57)
 have HSZ := size_madeCells #[.int .i64 0, .int .i64 0] (n * 2)
 generalize madeCells #[.int .i64 0, .int .i64 0] (n * 2) = cs0 at *
 generalize w.alloc (Obj.cells cs0 57) = w1 at *
 have HO1 := Lib.hid HO
 have HSZ1 := Lib.hid HSZ
 clear HO HSZ hmk
 go_loopw [4] (fun i wr => ∃ k : Nat, k ≤ n ∧ i = .int .i64 k ∧ ∃ cs : Array Value, Hid (OwnB wr w.heap.size 57 cs ∧ cs.size = n * 2 ∧ Filled enBd xs k cs ∧ Below w.heap.size w wr)) (fun i _ => n - (intOf i).toNat)
 case atStart => exact ⟨0, Nat.zero_le _, rfl, cs0, Lib.hid ⟨HO1.out, HSZ1.out, fun i _ hi => absurd hi (Nat.not_lt_zero _), HB.out⟩⟩
 case round =>
  obtain ⟨k, hk, rfl, cs, HI⟩ := hrel
  by_cases hlt : k < n
  · obtain ⟨b, o, rfl, hx⟩ := hA k _ (getD_at (by rw [HN.out]; exact hlt) Bd.zero)
    generalize hxe : xs.getD k Bd.zero = x at hx
    have hsrc : ∀ f u, (enBd.cells x)[f]? = some u → wr.cell? ⟨b, o + k * 2 + f, none⟩ = some u := fun f u hu => (HI.out.2.2.2.cell (World.block_lt_of_cell? _ _ (hx f u hu))).trans (hx f u hu)
    have p0 : wr.cell? ⟨b, o + k * 2, none⟩ = some (.int .i64 x.st) := hsrc 0 _ rfl
    have p1 : wr.cell? ⟨b, o + k * 2 + 1, none⟩ = some (.int .i64 x.nd) := hsrc 1 _ rfl
    have HXE := Lib.hid hxe
    clear hx hxe hA hsrc
    go_wp2_with fail
    refine calls_at fun u => (Calls.later (toBind_calls x.st x.nd _)).mono ?_
    rintro e w' ⟨rfl, u1, rfl⟩
    clear p0 p1
    have HO2 := HI.out.1.below u1.prop HI.out.1.lt
    have hs := HI.out.2.1
    have htgt : ∀ j, j < n * 2 → u1.val.cell? ⟨w.heap.size, j, none⟩ = some (cs.getD j undef) := fun j hj => by
     rw [HO2.cell j]
     simp [Array.getElem?_eq_getElem (show j < cs.size by omega), Array.getD, show j < cs.size by omega]
    have hfro : ∀ j, u1.val.frozen? ⟨w.heap.size, j, none⟩ = false := fun j => HO2.frozen j
    have HO3 := Lib.hid HO2
    have HBW := Lib.hid (HI.out.2.2.2.trans (u1.prop.mono HI.out.2.2.2.size))
    clear HO2 hs
    have q0 : u1.val.cell? ⟨w.heap.size, k * 2, none⟩ = some (cs.getD (k * 2) undef) := htgt _ (by omega)
    have r0 : u1.val.frozen? ⟨w.heap.size, k * 2, none⟩ = false := hfro _
    have q1 : u1.val.cell? ⟨w.heap.size, k * 2 + 1, none⟩ = some (cs.getD (k * 2 + 1) undef) := htgt _ (by omega)
    have r1 : u1.val.frozen? ⟨w.heap.size, k * 2 + 1, none⟩ = false := hfro _
    clear htgt hfro
    go_wp2
    go_roundw
    case rel =>
     refine ⟨k + 1, by omega, by go_num, put2 cs k x, Lib.hid ⟨?_, (put2_size _ _ _).trans HI.out.2.1, HI.out.2.2.1.step (by rw [← HXE.out]; exact getD_at (by rw [HN.out]; exact hlt) _) (fun _ => rfl) (put2_low cs k x) (put2_at cs k x (by rw [HI.out.2.1]; omega)), ?_⟩⟩
     · exact (HO3.out.set _ _).set _ _
     · repeat (with_reducible refine Below.setCell ?_ ?_ _)
       all_goals first | exact Nat.le_refl _ | with_reducible exact HBW.out
    case measure => simp [intOf]; omega
  · obtain rfl : k = n := by omega
    clear hA
    go_wp2
    go_ret
    refine ⟨_, rfl, HI.out.2.2.2, w.heap.size, cs, ?_, Nat.le_refl _, HI.out.1, ?_, ?_⟩
    · rw [HN.out]; rfl
    · rw [HN.out]; exact HI.out.2.1
    · rw [HN.out]; exact HI.out.2.2.1
end Go.Proofs.YtdojaijnejcoiaaGreat
