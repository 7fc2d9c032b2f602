import Derived.Test.YtdojaijnejcoiaaGreatmc6
import Derived.Test.YtdojaijnejcoiaaGreatmc1
import Derived.Test.YtdojaijnejcoiaaGreatmc4
import Derived.WalkKit
import Derived.ProofKit
import Derived.OpenShut
import Derived.ShutString
import Derived.ChangeOld
import Derived.Below
import Derived.SizedLaws
import Derived.RowKit3
import Derived.Carry
import Derived.Deep.Slices
import Derived.Lib.SmallJoins
import Derived.Deep.AppendLies
import Derived.Laws.IdiomStrings
import Derived.LoopN
set_option linter.unusedVariables false
set_option linter.unusedSimpArgs false
set_option maxRecDepth 8000
set_option maxHeartbeats 16000000
namespace Go.Proofs.YtdojaijnejcoiaaGreat
open Go.RowKit
def nameS (ns : List Nd) (k : Nat) (l : Lit) : Prop := ∃ j, j < k ∧ l = .string (ns.getD j Nd.zero).name.data.toList
def stS (xs : List Bd) (k : Nat) (l : Lit) : Prop := ∃ j, j < k ∧ l = .int .i64 (xs.getD j Bd.zero).st
theorem nameS_succ (ns : List Nd) (k : Nat) (l : Lit) : nameS ns (k + 1) l ↔ nameS ns k l ∨ l = .string (ns.getD k Nd.zero).name.data.toList := by
 constructor
 · rintro ⟨j, hj, h⟩
   rcases Nat.lt_or_ge j k with g | g
   · exact .inl ⟨j, g, h⟩
   · obtain rfl : j = k := by omega
     exact .inr h
 · rintro (⟨j, hj, h⟩ | h)
   · exact ⟨j, by omega, h⟩
   · exact ⟨k, by omega, h⟩
theorem stS_succ (xs : List Bd) (k : Nat) (l : Lit) : stS xs (k + 1) l ↔ stS xs k l ∨ l = .int .i64 (xs.getD k Bd.zero).st := by
 constructor
 · rintro ⟨j, hj, h⟩
   rcases Nat.lt_or_ge j k with g | g
   · exact .inl ⟨j, g, h⟩
   · obtain rfl : j = k := by omega
     exact .inr h
 · rintro (⟨j, hj, h⟩ | h)
   · exact ⟨j, by omega, h⟩
   · exact ⟨k, by omega, h⟩
theorem data_toList {a b : ByteArray} : a.data.toList = b.data.toList ↔ a.toList = b.toList := by
 rw [ByteArray.toList_eq, ByteArray.toList_eq]
theorem Seen.congr {w : World} {k : TypeId} {b n : Nat} {S T : Lit → Prop} (h : Seen w k b n S) (hT : ∀ x, T x ↔ S x) : Seen w k b n T := by
 obtain ⟨D, h, hD, hS⟩ := h
 exact ⟨D, h, hD, fun x => by obtain ⟨c, h1, h2⟩ := hS x; exact ⟨c, h1, h2.trans (hT x).symm⟩⟩
theorem Seen.kept {w w' : World} {k : TypeId} {b n : Nat} {S : Lit → Prop} (h : Seen w k b n S) {row : Option Nat} (hg : w.grownBy w' row) (hne : some b ≠ row) : Seen w' k b n S := by
 obtain ⟨D, h, r⟩ := h
 exact ⟨D, h.kept hg hne, r⟩
theorem twice_calls (mv : Value) (M : Md) (w : World) (hM : MdAt w mv M) (hnm : ∀ x, x ∈ M.nodes → x.name.size ≤ 140737488351232) (hw1 : ∀ b, b ∈ M.inits → (Lit.int .i64 b.st).wf = true) (hw2 : ∀ b, b ∈ M.nexts → (Lit.int .i64 b.st).wf = true) :
 Makes Tryz.prog 50 #[mv] w (.bool (twiceB M)) := by
 obtain ⟨s0, s1, s2, s3, s4, rfl, hS, hS1, hS2, -, -⟩ := hM.at_
 obtain ⟨A, c, rfl, hnc, hc', hA⟩ := hS
 clear hM
 have HS1 := Lib.hid hS1
 have HS2 := Lib.hid hS2
 have HW1 := Lib.hid hw1
 have HW2 := Lib.hid hw2
 have HNM := Lib.hid hnm
 obtain ⟨R, hR⟩ : ∃ R, R = twiceB M := ⟨_, rfl⟩
 rw [← hR]
 unfold twiceB at hR
 have HYES := Lib.hid (show ∀ k m, k < M.nodes.length → m < k → sameN (M.nodes.getD k Nd.zero) (M.nodes.getD m Nd.zero) → R = true from fun k m h1 h2 h3 => by rw [hR, named_yes h1 h2 h3]; rfl)
 have HNO := Lib.hid (show nameTo M.nodes M.nodes.length → R = (againB M.inits || againB M.nexts) from fun h => by rw [hR, named_no h]; rfl)
 clear hR hS1 hS2 hw1 hw2 hnm
 generalize M.inits = xs1 at *
 generalize M.nexts = xs2 at *
 generalize M.nodes = ns at *
 generalize hN : ns.length = n at *
 have HN := Lib.hid hN
 have hn : n ≤ 281474976710656 := Nat.le_trans hnc hc'
 clear hN hnc hc'
 have hmm := @run_makeMap Tryz.prog
 go_enter Tryz.func50, Tryz.ntmps50
 have HB := Lib.hid (box_below w #[.slice A n c, s1, s2, s3, s4] 31)
 have m0 := box_cell w #[.slice A n c, s1, s2, s3, s4] 31 0 _ rfl
 have m1 := box_cell w #[.slice A n c, s1, s2, s3, s4] 31 1 _ rfl
 have m2 := box_cell w #[.slice A n c, s1, s2, s3, s4] 31 2 _ rfl
 go_upto_region 1 with fail
 generalize w.alloc (.cells #[.slice A n c, s1, s2, s3, s4] 31) = w1 at *
 have m0 : ∀ u : Later w1, u.val.cell? ⟨w.heap.size, 0, none⟩ = some (.slice A n c) := m0
 have m1 : ∀ u : Later w1, u.val.cell? ⟨w.heap.size, 1, none⟩ = some s1 := m1
 have m2 : ∀ u : Later w1, u.val.cell? ⟨w.heap.size, 2, none⟩ = some s2 := m2
 refine at_world (w := w1) ?_
 intro u0
 go_upto_region 2 with fail
 have HSE := Lib.hid (Seen.made u0.val 9)
 have hL2 : LaterC w1 (u0.val.alloc (.map #[] 0)) := u0.alloc _
 have hgo : w1.heap.size ≤ u0.val.heap.size := u0.size
 generalize u0.val.alloc (.map #[] 0) = w2 at *
 generalize u0.val.heap.size = GM at *
 obtain ⟨v2, rfl⟩ := hL2
 clear u0
 go_wp2
 go_loopw [15] (fun i wr => ∃ k : Nat, k ≤ n ∧ i = .int .i64 k ∧ Hid (Seen wr 9 GM k (nameS ns k) ∧ nameTo ns k) ∧ LaterC w1 wr) (fun i _ => n - (intOf i).toNat)
 case atStart => exact ⟨0, Nat.zero_le _, rfl, Lib.hid ⟨HSE.out.congr (fun x => ⟨fun ⟨j, h, _⟩ => absurd h (Nat.not_lt_zero _), fun h => h.elim⟩), fun i hi => absurd hi (Nat.not_lt_zero _)⟩, ⟨v2, rfl⟩⟩
 case round =>
  obtain ⟨k, hk, rfl, HI, ⟨u, rfl⟩⟩ := hrel
  by_cases hlt : k < n
  · have hlt' : (k : Int) < n := by omega
    have hkl : k < ns.length := by rw [HN.out]; exact hlt
    have hsz := HNM.out _ (List.mem_of_getElem? (getD_at hkl Nd.zero))
    obtain ⟨g, o, rfl, hx⟩ := hA k _ (getD_at hkl Nd.zero)
    have hyes := HYES.out k
    have hsucc := nameS_succ ns k
    have hsame : ∀ m, m < k → ¬ sameN (ns.getD k Nd.zero) (ns.getD m Nd.zero) → True := fun _ _ _ => trivial
    have hrow : nameRow ns k k ↔ ∀ j, j < k → ¬ sameN (ns.getD k Nd.zero) (ns.getD j Nd.zero) := Iff.rfl
    generalize ns.getD k Nd.zero = x at *
    have p0 : ∀ l : Later w1, l.val.cell? ⟨g, o + k * 9, none⟩ = some (.int .i64 x.kind) := hx.at_ HB.out 0 _ rfl
    have p1 : ∀ l : Later w1, l.val.cell? ⟨g, o + k * 9 + 1, none⟩ = some (.int .i64 x.a) := hx.at_ HB.out 1 _ rfl
    have p2 : ∀ l : Later w1, l.val.cell? ⟨g, o + k * 9 + 2, none⟩ = some (.int .i64 x.b) := hx.at_ HB.out 2 _ rfl
    have p3 : ∀ l : Later w1, l.val.cell? ⟨g, o + k * 9 + 3, none⟩ = some (.int .i64 x.c) := hx.at_ HB.out 3 _ rfl
    have p4 : ∀ l : Later w1, l.val.cell? ⟨g, o + k * 9 + 4, none⟩ = some (.int .i64 x.n) := hx.at_ HB.out 4 _ rfl
    have p5 : ∀ l : Later w1, l.val.cell? ⟨g, o + k * 9 + 5, none⟩ = some (.int .i64 x.m) := hx.at_ HB.out 5 _ rfl
    have p6 : ∀ l : Later w1, l.val.cell? ⟨g, o + k * 9 + 6, none⟩ = some (.int .i64 x.idx) := hx.at_ HB.out 6 _ rfl
    have p7 : ∀ l : Later w1, l.val.cell? ⟨g, o + k * 9 + 7, none⟩ = some (.int .i64 x.wid) := hx.at_ HB.out 7 _ rfl
    have p8 : ∀ l : Later w1, l.val.cell? ⟨g, o + k * 9 + 8, none⟩ = some (.string x.name) := hx.at_ HB.out 8 _ rfl
    have HSZ := Lib.hid hsz
    have HYE := Lib.hid hyes
    have HSU := Lib.hid hsucc
    have HROW := Lib.hid hrow
    clear hx hA hsz hyes hsucc hsame hrow hkl
    go_upto_region 5 with fail
    have y8 : (u.val.alloc (Obj.cells #[.int .i64 x.kind, .int .i64 x.a, .int .i64 x.b, .int .i64 x.c, .int .i64 x.n, .int .i64 x.m, .int .i64 x.idx, .int .i64 x.wid, .string x.name] 46)).cell? ⟨u.val.heap.size, 8, none⟩ = some (.string x.name) := by go_simp
    have hL5 : LaterC w1 (u.val.alloc (Obj.cells #[.int .i64 x.kind, .int .i64 x.a, .int .i64 x.b, .int .i64 x.c, .int .i64 x.n, .int .i64 x.m, .int .i64 x.idx, .int .i64 x.wid, .string x.name] 46)) := u.alloc _
    have hSE : Seen (u.val.alloc (Obj.cells #[.int .i64 x.kind, .int .i64 x.a, .int .i64 x.b, .int .i64 x.c, .int .i64 x.n, .int .i64 x.m, .int .i64 x.idx, .int .i64 x.wid, .string x.name] 46)) 9 GM k (nameS ns k) := HI.out.1.alloc _
    generalize (u.val.alloc (Obj.cells #[.int .i64 x.kind, .int .i64 x.a, .int .i64 x.b, .int .i64 x.c, .int .i64 x.n, .int .i64 x.m, .int .i64 x.idx, .int .i64 x.wid, .string x.name] 46)) = w5 at *
    generalize u.val.heap.size = GX at *
    have hkey := Go.WideMaps.keyOf_string_mk (P := Tryz.prog) (k := 9) Tryz.underlying9 (s := x.name) (by have := HSZ.out; unfold maxLen; omega)
    obtain ⟨c0, hlook, hc0⟩ := hSE.look (Maps.string_keyed Tryz.underlying9) Tryz.underlying104 hkey
    obtain ⟨w6, hput, hS6, hg6⟩ := hSE.put (t := 104) (T := nameS ns (k + 1)) (Maps.string_keyed Tryz.underlying9) Tryz.underlying104 (by unfold maxLen; omega) hkey trivial (fun l => HSU.out l)
    have HL6 := Lib.hid (laterC_map hL5 hgo hg6)
    have HL5 := Lib.hid hL5
    have HS6 := Lib.hid hS6
    have HC0 := Lib.hid hc0
    clear hL5 hSE hkey hS6 hg6 hc0 p0 p1 p2 p3 p4 p5 p6 p7 p8
    by_cases hem : x.name.toList = []
    · have HTO := Lib.hid (show nameTo ns (k + 1) from fun i hi => by
       rcases Nat.lt_or_ge i k with g | g
       · exact HI.out.2 i g
       · obtain rfl : i = k := by omega
         exact HROW.out.2 (fun j _ h => h.1 hem))
      go_wp2
      go_roundw
      case rel => exact ⟨k + 1, by omega, by go_num, Lib.hid ⟨HS6.out, HTO.out⟩, HL6.out⟩
      case measure => simp [intOf] <;> omega
    · have hem2 : x.name.toList.isEmpty = false := by simpa using hem
      cases c0
      · have HTO := Lib.hid (show nameTo ns (k + 1) from fun i hi => by
         rcases Nat.lt_or_ge i k with g | g
         · exact HI.out.2 i g
         · obtain rfl : i = k := by omega
           refine HROW.out.2 (fun j hj h => ?_)
           have := HC0.out.2 ⟨j, hj, by rw [data_toList.2 h.2]⟩
           cases this)
        go_wp2
        go_roundw
        case rel => exact ⟨k + 1, by omega, by go_num, Lib.hid ⟨HS6.out, HTO.out⟩, HL6.out⟩
        case measure => simp [intOf] <;> omega
      · have HR := Lib.hid (show R = true by
         obtain ⟨j, hj, he⟩ := HC0.out.1 rfl
         exact HYE.out j hlt hj ⟨hem, data_toList.1 (Lit.string.inj he)⟩)
        go_wp2
        go_ret
        exact ⟨ret_eq (congrArg Value.bool HR.out.symm), HB.out.trans (HL5.out.below.mono HB.out.size)⟩
  · obtain rfl : k = n := by omega
    have HRR := Lib.hid (HNO.out HI.out.2)
    clear hA HI m0
    obtain ⟨A1, c1, rfl, -, -, -⟩ := id HS1.out
    obtain ⟨A2, c2, rfl, -, -, -⟩ := id HS2.out
    go_upto_region 10 with fail
    have z0 : (u.val.alloc (Obj.cells #[.slice A1 xs1.length c1, .slice A2 xs2.length c2] 29)).cell? ⟨u.val.heap.size, 0, none⟩ = some (.slice A1 xs1.length c1) := by go_simp
    have z1 : (u.val.alloc (Obj.cells #[.slice A1 xs1.length c1, .slice A2 xs2.length c2] 29)).cell? ⟨u.val.heap.size, 1, none⟩ = some (.slice A2 xs2.length c2) := by go_simp
    have hL7 : LaterC w1 (u.val.alloc (Obj.cells #[.slice A1 xs1.length c1, .slice A2 xs2.length c2] 29)) := u.alloc _
    generalize (u.val.alloc (Obj.cells #[.slice A1 xs1.length c1, .slice A2 xs2.length c2] 29)) = w7 at *
    generalize u.val.heap.size = GS at *
    have z0 := Later.cell z0
    have z1 := Later.cell z1
    have HB7 := Lib.hid (HB.out.trans (hL7.below.mono HB.out.size))
    have HT1 := Lib.hid (HS1.out.below HB7.out)
    have HT2 := Lib.hid (HS2.out.below HB7.out)
    clear hL7 m1 m2 u
    go_loopw [38] (fun i wr => ∃ r : Nat, r ≤ 2 ∧ i = .int .i64 r ∧ Hid ((1 ≤ r → againB xs1 = false) ∧ (2 ≤ r → againB xs2 = false)) ∧ LaterC w7 wr) (fun i _ => 2 - (intOf i).toNat)
    case atStart => exact ⟨0, by omega, rfl, Lib.hid ⟨fun h => absurd h (by omega), fun h => absurd h (by omega)⟩, LaterC.refl _⟩
    case round =>
     obtain ⟨r, hr, rfl, HP, ⟨u, rfl⟩⟩ := hrel
     by_cases hlt : r < 2
     · have hlt' : (r : Int) < 2 := by omega
       obtain ⟨xs, A', c', hcell, hsl, hwf, hag, hnext⟩ : ∃ (xs : List Bd) (A' : Option Addr) (c' : Nat), (∀ l : Later w7, l.val.cell? ⟨GS, r, none⟩ = some (.slice A' xs.length c')) ∧ SlAt enBd w7 (.slice A' xs.length c') xs ∧ (∀ b, b ∈ xs → (Lit.int .i64 b.st).wf = true) ∧ (againB xs = true → R = true) ∧ (againB xs = false → (1 ≤ r + 1 → againB xs1 = false) ∧ (2 ≤ r + 1 → againB xs2 = false)) := by
        rcases (show r = 0 ∨ r = 1 by omega) with rfl | rfl
        · exact ⟨xs1, A1, c1, z0, HT1.out, HW1.out, fun h => by rw [HRR.out, h]; rfl, fun h => ⟨fun _ => h, fun h2 => absurd h2 (by omega)⟩⟩
        · exact ⟨xs2, A2, c2, z1, HT2.out, HW2.out, fun h => by rw [HRR.out, h, Bool.or_true], fun h => ⟨fun _ => HP.out.1 (by omega), fun _ => h⟩⟩
       have HSL := Lib.hid hsl
       obtain ⟨A3, c3, he, hl3, hc3, hA⟩ := hsl
       cases he
       have HWF := Lib.hid hwf
       have HAG := Lib.hid hag
       have HNX := Lib.hid hnext
       have hn3 : xs.length ≤ 281474976710656 := Nat.le_trans hl3 hc3
       have HYE := Lib.hid (fun k m (h1 : k < xs.length) (h2 : m < k) (h3 : (xs.getD k Bd.zero).st = (xs.getD m Bd.zero).st) => hag (again_yes h1 h2 h3))
       have HNA := Lib.hid (fun (h : againTo xs xs.length) => hnext (again_no h))
       generalize hN : xs.length = n' at *
       have HN' := Lib.hid hN
       clear hN hwf hag hnext hl3 hc3 z0 z1
       go_upto_region 13 with fail
       have HSE := Lib.hid (Seen.made u.val 3)
       have hL8 : LaterC w7 (u.val.alloc (.map #[] 0)) := u.alloc _
       have hgo2 : w7.heap.size ≤ u.val.heap.size := u.size
       generalize u.val.alloc (.map #[] 0) = w8 at *
       generalize u.val.heap.size = GN at *
       obtain ⟨v8, rfl⟩ := hL8
       clear u hcell
       go_wp2
       go_loopw [45] (fun i wi => ∃ k : Nat, k ≤ n' ∧ i = .int .i64 k ∧ Hid (Seen wi 3 GN k (stS xs k) ∧ againTo xs k) ∧ LaterC w7 wi) (fun i _ => n' - (intOf i).toNat)
       case atStart => exact ⟨0, Nat.zero_le _, rfl, Lib.hid ⟨HSE.out.congr (fun x => ⟨fun ⟨j, h, _⟩ => absurd h (Nat.not_lt_zero _), fun h => h.elim⟩), fun i hi => absurd hi (Nat.not_lt_zero _)⟩, ⟨v8, rfl⟩⟩
       case round =>
        obtain ⟨k, hk, rfl, HI, ⟨u, rfl⟩⟩ := hrel
        by_cases hlk : k < n'
        · have hlk' : (k : Int) < n' := by omega
          have hkl : k < xs.length := by rw [HN'.out]; exact hlk
          have hwfk := HWF.out _ (List.mem_of_getElem? (getD_at hkl Bd.zero))
          obtain ⟨g, o, rfl, hx⟩ := hA k _ (getD_at hkl Bd.zero)
          have hye := HYE.out k
          have hsucc := stS_succ xs k
          have hrow : againRow xs k k ↔ ∀ j, j < k → (xs.getD k Bd.zero).st ≠ (xs.getD j Bd.zero).st := Iff.rfl
          generalize xs.getD k Bd.zero = x at *
          obtain ⟨bs, bn⟩ := x
          have p0 : ∀ l : Later w7, l.val.cell? ⟨g, o + k * 2, none⟩ = some (.int .i64 bs) := hx.at_ (Below.refl _ _) 0 _ rfl
          have p1 : ∀ l : Later w7, l.val.cell? ⟨g, o + k * 2 + 1, none⟩ = some (.int .i64 bn) := hx.at_ (Below.refl _ _) 1 _ rfl
          have HYEK := Lib.hid hye
          have HSU := Lib.hid hsucc
          have HROW := Lib.hid hrow
          have HWFK := Lib.hid hwfk
          clear hx hA hye hsucc hrow hkl hwfk
          go_upto_region 16 with fail
          have y0 : (u.val.alloc (Obj.cells #[.int .i64 bs, .int .i64 bn] 57)).cell? ⟨u.val.heap.size, 0, none⟩ = some (.int .i64 bs) := by go_simp
          have hL9 : LaterC w7 (u.val.alloc (Obj.cells #[.int .i64 bs, .int .i64 bn] 57)) := u.alloc _
          have hSE : Seen (u.val.alloc (Obj.cells #[.int .i64 bs, .int .i64 bn] 57)) 3 GN k (stS xs k) := HI.out.1.alloc _
          generalize u.val.alloc (Obj.cells #[.int .i64 bs, .int .i64 bn] 57) = w9 at *
          generalize u.val.heap.size = GX at *
          have hkey := Maps.keyOf_int_mk (P := Tryz.prog) (k := 3) Tryz.underlying3 HWFK.out
          obtain ⟨c0, hlook, hc0⟩ := hSE.look (Maps.int_keyed Tryz.underlying3) Tryz.underlying105 hkey
          obtain ⟨w6, hput, hS6, hg6⟩ := hSE.put (t := 105) (T := stS xs (k + 1)) (Maps.int_keyed Tryz.underlying3) Tryz.underlying105 (by unfold maxLen; omega) hkey trivial (fun l => HSU.out l)
          have HL6 := Lib.hid (laterC_map hL9 hgo2 hg6)
          have HL9 := Lib.hid hL9
          have HS6 := Lib.hid hS6
          have HC0 := Lib.hid hc0
          clear hL9 hSE hkey hS6 hg6 hc0 p0 p1
          cases c0
          · have HTO := Lib.hid (show againTo xs (k + 1) from fun i hi => by
             rcases Nat.lt_or_ge i k with g | g
             · exact HI.out.2 i g
             · obtain rfl : i = k := by omega
               refine HROW.out.2 (fun j hj h => ?_)
               have := HC0.out.2 ⟨j, hj, congrArg (Lit.int .i64) h⟩
               cases this)
            go_wp2
            go_roundw
            case rel => exact ⟨k + 1, by omega, by go_num, Lib.hid ⟨HS6.out, HTO.out⟩, HL6.out⟩
            case measure => simp [intOf] <;> omega
          · have HR := Lib.hid (show R = true by
             obtain ⟨j, hj, he⟩ := HC0.out.1 rfl
             exact HYEK.out j hlk hj (Lit.int.inj he).2)
            go_wp2
            go_ret
            exact ⟨ret_eq (congrArg Value.bool HR.out.symm), HB7.out.trans (HL9.out.below.mono HB7.out.size)⟩
        · obtain rfl : k = n' := by omega
          have HNN := Lib.hid (HNA.out HI.out.2)
          obtain ⟨u9, hu9⟩ : ∃ u9 : Later w7, u9 = u := ⟨_, rfl⟩
          clear hA
          go_wp2
          go_roundw
          case rel => exact ⟨r + 1, by omega, by go_num, Lib.hid HNN.out, ⟨u, rfl⟩⟩
          case measure => simp [intOf] <;> omega
     · obtain rfl : r = 2 := by omega
       have HR := Lib.hid (show R = false by rw [HRR.out, HP.out.1 (by omega), HP.out.2 (by omega)]; rfl)
       clear z0 z1
       go_wp2
       go_ret
       exact ⟨ret_eq (congrArg Value.bool HR.out.symm), HB7.out.trans (u.prop.mono HB7.out.size)⟩
end Go.Proofs.YtdojaijnejcoiaaGreat
namespace Go.Proofs.YtdojaijnejcoiaaGreat
open Go.RowKit
theorem nodes_pos {ns : List Nd} (h : nodesB ns = true) (x : Nd) (hx : x ∈ ns) : 0 ≤ partsN x.kind := by
 obtain ⟨i, hi, e⟩ := List.getElem_of_mem hx
 unfold nodesB at h
 rw [List.all_eq_true] at h
 have h1 := h i (List.mem_range.2 hi)
 unfold nodeB at h1
 have h2 := of_decide_eq_true h1
 have e2 : ns.getD i Nd.zero = x := by rw [List.getD_eq_getElem?_getD, List.getElem?_eq_getElem hi]; exact e
 rw [e2] at h2
 by_cases hf : fieldsB (ns.take i).length x = true
 · exact fields_pos hf
 · rw [sortN_bad (eq_false_of_ne_true hf)] at h2
   cases h2
theorem props_append (ns : List Nd) (xs ys : List Int) : propsB ns (xs ++ ys) = (propsB ns xs && propsB ns ys) := by
 unfold propsB; rw [List.all_append]
theorem big_no {M : Md} (h : bigB M = false) : M.bads.length + M.holds.length ≤ 1000 := by
 unfold bigB at h
 simp only [Bool.or_eq_false_iff, decide_eq_false_iff_not] at h
 omega
theorem ModelCode'_calls (mv : Value) (M : Md) (w : World) (hM : MdAt w mv M) (hnm : ∀ x, x ∈ M.nodes → x.name.size ≤ 140737488351232) (hw1 : ∀ b, b ∈ M.inits → (Lit.int .i64 b.st).wf = true) (hw2 : ∀ b, b ∈ M.nexts → (Lit.int .i64 b.st).wf = true) :
 Makes Tryz.prog 22 #[mv] w (.int .i64 (codeN M)) := by
 have HM := Lib.hid hM
 have HNM := Lib.hid hnm
 have HW1 := Lib.hid hw1
 have HW2 := Lib.hid hw2
 obtain ⟨s0, s1, s2, s3, s4, rfl, h0, h1, h2, h3, h4⟩ := hM.at_
 have HS1 := Lib.hid h1
 have HS2 := Lib.hid h2
 have HS3 := Lib.hid h3
 have HS4 := Lib.hid h4
 obtain ⟨A0, c0, rfl, hl0, hc0, -⟩ := h0
 obtain ⟨A1, c1, rfl, hl1, hc1, -⟩ := h1
 obtain ⟨A2, c2, rfl, hl2, hc2, -⟩ := h2
 obtain ⟨A3, c3, rfl, hl3, hc3, -⟩ := h3
 obtain ⟨A4, c4, rfl, hl4, hc4, -⟩ := h4
 clear hM hnm hw1 hw2
 have hbig : bigB M = (decide (60 < M.nodes.length) || (decide (60 < M.inits.length) || (decide (60 < M.nexts.length) || (decide (4 < M.bads.length) || decide (4 < M.holds.length))))) := rfl
 obtain ⟨R, hR⟩ : ∃ R, R = codeN M := ⟨_, rfl⟩
 rw [← hR]
 unfold codeN at hR
 have HR0 := Lib.hid hR
 clear hR
 have HBIG := Lib.hid hbig
 clear hbig
 have hmf : ∀ (fn : Fn) (first cap : Array Value) (w : World), (Instr.makeFunc fn first cap).run Tryz.prog w = .ok (.func fn first cap) w := fun _ _ _ _ => rfl
 go_enter Tryz.func22, Tryz.ntmps22
 have HB := Lib.hid (box_below w #[.slice A0 M.nodes.length c0, .slice A1 M.inits.length c1, .slice A2 M.nexts.length c2, .slice A3 M.bads.length c3, .slice A4 M.holds.length c4] 31)
 have m := fun f v h => box_cell w #[.slice A0 M.nodes.length c0, .slice A1 M.inits.length c1, .slice A2 M.nexts.length c2, .slice A3 M.bads.length c3, .slice A4 M.holds.length c4] 31 f v h
 have m0 := m 0 _ rfl
 have m1 := m 1 _ rfl
 have m2 := m 2 _ rfl
 have m3 := m 3 _ rfl
 have m4 := m 4 _ rfl
 clear m
 go_upto_region 1 with fail
 generalize w.alloc (.cells #[.slice A0 M.nodes.length c0, .slice A1 M.inits.length c1, .slice A2 M.nexts.length c2, .slice A3 M.bads.length c3, .slice A4 M.holds.length c4] 31) = w1 at *
 have m0 : ∀ u : Later w1, u.val.cell? ⟨w.heap.size, 0, none⟩ = some (.slice A0 M.nodes.length c0) := m0
 have m1 : ∀ u : Later w1, u.val.cell? ⟨w.heap.size, 1, none⟩ = some (.slice A1 M.inits.length c1) := m1
 have m2 : ∀ u : Later w1, u.val.cell? ⟨w.heap.size, 2, none⟩ = some (.slice A2 M.nexts.length c2) := m2
 have m3 : ∀ u : Later w1, u.val.cell? ⟨w.heap.size, 3, none⟩ = some (.slice A3 M.bads.length c3) := m3
 have m4 : ∀ u : Later w1, u.val.cell? ⟨w.heap.size, 4, none⟩ = some (.slice A4 M.holds.length c4) := m4
 have HM1 := Lib.hid (HM.out.below HB.out)
 generalize hg0 : w.heap.size = g0 at m0 m1 m2 m3 m4 ⊢
 clear hg0
 refine at_world (w := w1) ?_
 intro u0
 go_cut [4] (fun c wx => c = .bool (bigB M) ∧ wx = u0.val)
 case first =>
  by_cases h0 : 60 < M.nodes.length
  · have HW := Lib.hid (show bigB M = true by rw [HBIG.out]; simp [h0])
    have h0' : (60 : Int) < (M.nodes.length : Int) := by omega
    go_wp2
    go_meet
    case rel => exact ⟨congrArg Value.bool HW.out.symm, rfl⟩
  · have h0' : ¬ (60 : Int) < (M.nodes.length : Int) := by omega
    by_cases h1 : 60 < M.inits.length
    · have HW := Lib.hid (show bigB M = true by rw [HBIG.out]; simp [h0, h1])
      have h1' : (60 : Int) < (M.inits.length : Int) := by omega
      go_wp2
      go_meet
      case rel => exact ⟨congrArg Value.bool HW.out.symm, rfl⟩
    · have h1' : ¬ (60 : Int) < (M.inits.length : Int) := by omega
      by_cases h2 : 60 < M.nexts.length
      · have HW := Lib.hid (show bigB M = true by rw [HBIG.out]; simp [h0, h1, h2])
        have h2' : (60 : Int) < (M.nexts.length : Int) := by omega
        go_wp2
        go_meet
        case rel => exact ⟨congrArg Value.bool HW.out.symm, rfl⟩
      · have h2' : ¬ (60 : Int) < (M.nexts.length : Int) := by omega
        by_cases h3 : 4 < M.bads.length
        · have HW := Lib.hid (show bigB M = true by rw [HBIG.out]; simp [h0, h1, h2, h3])
          have h3' : (4 : Int) < (M.bads.length : Int) := by omega
          go_wp2
          go_meet
          case rel => exact ⟨congrArg Value.bool HW.out.symm, rfl⟩
        · have h3' : ¬ (4 : Int) < (M.bads.length : Int) := by omega
          by_cases h4 : 4 < M.holds.length
          · have HW := Lib.hid (show bigB M = true by rw [HBIG.out]; simp [h0, h1, h2, h3, h4])
            have h4' : (4 : Int) < (M.holds.length : Int) := by omega
            go_wp2
            go_meet
            case rel => exact ⟨congrArg Value.bool HW.out.symm, rfl⟩
          · have h4' : ¬ (4 : Int) < (M.holds.length : Int) := by omega
            have HW := Lib.hid (show bigB M = false by rw [HBIG.out]; simp [h0, h1, h2, h3, h4])
            go_wp2
            go_meet
            case rel => exact ⟨congrArg Value.bool HW.out.symm, rfl⟩
 case rest =>
  obtain ⟨rfl, rfl⟩ := hcut
  clear HBIG
  cases hbig : bigB M with
  | true =>
    have HR := Lib.hid (HR0.out.trans (if_pos hbig))
    clear hbig
    go_wp2
    go_ret
    exact ⟨ret_eq (congrArg (Value.int .i64) HR.out.symm), HB.out.trans (u0.prop.mono HB.out.size)⟩
  | false =>
    have HR1 := Lib.hid (HR0.out.trans (if_neg (by rw [hbig]; exact Bool.noConfusion)))
    have HLEN := Lib.hid (big_no hbig)
    clear hbig
    by_cases h0 : nodesB M.nodes = false
    · have HR := Lib.hid (HR1.out.trans (if_pos h0))
      have HNODES := Lib.hid h0
      clear h0
      go_wp2_with (go_at_call 49; refine (Calls.later (u := u0) (nodesOk_calls _ M _ (HM1.out.later _) HNM.out)).mono ?_; rintro e w' ⟨rfl, u1, rfl⟩; rw [HNODES.out])
      go_ret
      exact ⟨ret_eq (congrArg (Value.int .i64) HR.out.symm), HB.out.trans (u1.prop.mono HB.out.size)⟩
    have HR2 := Lib.hid (HR1.out.trans (if_neg h0))
    have HNODES := Lib.hid (eq_true_of_ne_false h0)
    have HD := Lib.hid (nodes_down HNODES.out)
    have HPOS := Lib.hid (nodes_pos HNODES.out)
    clear h0
    by_cases h1 : twiceB M = true
    · have HR := Lib.hid (HR2.out.trans (if_pos h1))
      have HTWICE := Lib.hid h1
      clear h1
      go_wp2_with (first | (go_at_call 49; refine (Calls.later (u := u0) (nodesOk_calls _ M _ (HM1.out.later _) HNM.out)).mono ?_; rintro e w' ⟨rfl, u1, rfl⟩; rw [HNODES.out]) | (go_at_call 50; refine (Calls.later (u := u1) (twice_calls _ M _ (HM1.out.later _) HNM.out HW1.out HW2.out)).mono ?_; rintro e w' ⟨rfl, u2, rfl⟩; rw [HTWICE.out]))
      go_ret
      exact ⟨ret_eq (congrArg (Value.int .i64) HR.out.symm), HB.out.trans (u2.prop.mono HB.out.size)⟩
    have HR3 := Lib.hid (HR2.out.trans (if_neg h1))
    have HTWICE := Lib.hid (eq_false_of_ne_true h1)
    clear h1
    go_upto_region 8 with (first | (go_at_call 49; refine (Calls.later (u := u0) (nodesOk_calls _ M _ (HM1.out.later _) HNM.out)).mono ?_; rintro e w' ⟨rfl, u1, rfl⟩; rw [HNODES.out]) | (go_at_call 50; refine (Calls.later (u := u1) (twice_calls _ M _ (HM1.out.later _) HNM.out HW1.out HW2.out)).mono ?_; rintro e w' ⟨rfl, u2, rfl⟩; rw [HTWICE.out]) | (go_at_call 51; refine (made_calls _ M _ (HM1.out.later u2) HD.out HPOS.out).mono ?_; rintro e w' ⟨gm, cs, rfl, hb, hge, hO, hBO⟩; obtain ⟨u3, hu3⟩ := u2.step hb; subst hu3; have HO := Lib.hid hO; have HBO := Lib.hid hBO; clear hb hge hO hBO))
    have hdc : (u3.val.alloc (Obj.cells #[.slice (some ⟨gm, 0, none⟩) M.nodes.length M.nodes.length] 41)).cell? ⟨u3.val.heap.size, 0, none⟩ = some (.slice (some ⟨gm, 0, none⟩) M.nodes.length M.nodes.length) := by go_simp
    have hO5 : OwnB (u3.val.alloc (Obj.cells #[.slice (some ⟨gm, 0, none⟩) M.nodes.length M.nodes.length] 41)) gm 4 cs := HO.out.below (box_below _ _ _) HO.out.lt
    have hL5 : LaterC w1 (u3.val.alloc (Obj.cells #[.slice (some ⟨gm, 0, none⟩) M.nodes.length M.nodes.length] 41)) := u3.alloc _
    generalize (u3.val.alloc (Obj.cells #[.slice (some ⟨gm, 0, none⟩) M.nodes.length M.nodes.length] 41)) = w5 at *
    generalize u3.val.heap.size = GB at *
    have HDB := Lib.hid (show MadeBox w5 GB M from ⟨gm, cs, hdc, hO5, HBO.out⟩)
    have n0 := Later.re m0 hL5
    have n1 := Later.re m1 hL5
    have n2 := Later.re m2 hL5
    have n3 := Later.re m3 hL5
    have n4 := Later.re m4 hL5
    have HB5 := Lib.hid (HB.out.trans (hL5.below.mono HB.out.size))
    have HM5 := Lib.hid (HM.out.below HB5.out)
    have HMB := Lib.hid (show ModelBox w5 g0 M from ⟨_, _, _, _, _, HM5.out, n0 ⟨w5, Below.refl _ _⟩, n1 ⟨w5, Below.refl _ _⟩, n2 ⟨w5, Below.refl _ _⟩, n3 ⟨w5, Below.refl _ _⟩, n4 ⟨w5, Below.refl _ _⟩⟩)
    have HS1 := Lib.hid (HS1.out.below HB5.out)
    have HS2 := Lib.hid (HS2.out.below HB5.out)
    have HS3 := Lib.hid (HS3.out.below HB5.out)
    have HS4 := Lib.hid (HS4.out.below HB5.out)
    clear hdc hO5 hL5 m0 m1 m2 m3 m4
    refine at_world (w := w5) ?_
    intro v0
    have HBI := Lib.hid (show bindsB M = ((M.inits.all fun b => bindOkB M.nodes b true) && (M.nexts.all fun b => bindOkB M.nodes b false)) from rfl)
    have hpr := props_append M.nodes M.bads M.holds
    have HPR := Lib.hid hpr
    clear hpr
    cases hc1 : (M.inits.all fun b => bindOkB M.nodes b true) with
    | false =>
      have HR := Lib.hid (HR3.out.trans (if_pos (by rw [HBI.out, hc1]; rfl)))
      have HC1 := Lib.hid (show (!(M.inits.all fun b => bindOkB M.nodes b true)) = true by rw [hc1]; rfl)
      clear hc1
      go_wp2_with (first | (go_at_call 52; with_reducible refine (Calls.later (u := v0) (contains1_calls M g0 GB (.slice A1 M.inits.length c1) M.inits _ (HMB.out.below v0.prop) (HDB.out.below v0.prop) (HS1.out.later v0))).mono ?_; rintro e w' ⟨rfl, v1, rfl⟩; rw [HC1.out]))
      go_ret
      exact ⟨ret_eq (congrArg (Value.int .i64) HR.out.symm), HB5.out.trans (v1.prop.mono HB5.out.size)⟩
    | true =>
      have HC1 := Lib.hid (show (!(M.inits.all fun b => bindOkB M.nodes b true)) = false by rw [hc1]; rfl)
      cases hc2 : (M.nexts.all fun b => bindOkB M.nodes b false) with
      | false =>
        have HR := Lib.hid (HR3.out.trans (if_pos (by rw [HBI.out, hc1, hc2]; rfl)))
        have HC2 := Lib.hid (show (!(M.nexts.all fun b => bindOkB M.nodes b false)) = true by rw [hc2]; rfl)
        clear hc1 hc2
        go_wp2_with (first | (go_at_call 52; with_reducible refine (Calls.later (u := v0) (contains1_calls M g0 GB (.slice A1 M.inits.length c1) M.inits _ (HMB.out.below v0.prop) (HDB.out.below v0.prop) (HS1.out.later v0))).mono ?_; rintro e w' ⟨rfl, v1, rfl⟩; rw [HC1.out]) | (go_at_call 52; with_reducible refine (Calls.later (u := v1) (contains2_calls M g0 GB (.slice A2 M.nexts.length c2) M.nexts _ (HMB.out.below v1.prop) (HDB.out.below v1.prop) (HS2.out.later v1))).mono ?_; rintro e w' ⟨rfl, v2, rfl⟩; rw [HC2.out]))
        go_ret
        exact ⟨ret_eq (congrArg (Value.int .i64) HR.out.symm), HB5.out.trans (v2.prop.mono HB5.out.size)⟩
      | true =>
        have HC2 := Lib.hid (show (!(M.nexts.all fun b => bindOkB M.nodes b false)) = false by rw [hc2]; rfl)
        have HR4 := Lib.hid (HR3.out.trans (if_neg (by rw [HBI.out, hc1, hc2]; exact Bool.noConfusion)))
        clear hc1 hc2
        by_cases hp1 : propsB M.nodes M.bads = false
        · have HR := Lib.hid (HR4.out.trans (if_pos hp1))
          have HC3 := Lib.hid (show (!propsB M.nodes (M.bads ++ M.holds)) = true by rw [HPR.out, hp1]; rfl)
          clear hp1
          go_wp2_with (first | (go_at_call 52; with_reducible refine (Calls.later (u := v0) (contains1_calls M g0 GB (.slice A1 M.inits.length c1) M.inits _ (HMB.out.below v0.prop) (HDB.out.below v0.prop) (HS1.out.later v0))).mono ?_; rintro e w' ⟨rfl, v1, rfl⟩; rw [HC1.out]) | (go_at_call 52; with_reducible refine (Calls.later (u := v1) (contains2_calls M g0 GB (.slice A2 M.nexts.length c2) M.nexts _ (HMB.out.below v1.prop) (HDB.out.below v1.prop) (HS2.out.later v1))).mono ?_; rintro e w' ⟨rfl, v2, rfl⟩; rw [HC2.out]) | (go_at_call 57; refine (Concat_calls v2.val.heap.size (.slice A3 M.bads.length c3) (.slice A4 M.holds.length c4) M.bads M.holds _ ((HS3.out.later v2).below (box_below _ _ _)) ((HS4.out.later v2).below (box_below _ _ _)) (by go_simp) (by go_simp) HLEN.out).mono ?_; rintro e w' ⟨cv, rfl, hb, hs⟩; obtain ⟨v3, hv3⟩ := laterC_step (w1 := w5) (v2.alloc _) hb; subst hv3; have HSC := Lib.hid hs; clear hb hs) | (go_at_call 56; refine (Calls.later (u := v3) (contains3_calls M g0 cv (M.bads ++ M.holds) _ (HMB.out.below v3.prop) HSC.out)).mono ?_; rintro e w' ⟨rfl, v4, rfl⟩; rw [HC3.out]))
          go_ret
          exact ⟨ret_eq (congrArg (Value.int .i64) HR.out.symm), HB5.out.trans (v4.prop.mono HB5.out.size)⟩
        have HR5 := Lib.hid (HR4.out.trans (if_neg hp1))
        have hp1 := eq_true_of_ne_false hp1
        by_cases hp2 : propsB M.nodes M.holds = false
        · have HR := Lib.hid (HR5.out.trans (if_pos hp2))
          have HC3 := Lib.hid (show (!propsB M.nodes (M.bads ++ M.holds)) = true by rw [HPR.out, hp1, hp2]; rfl)
          clear hp1 hp2
          go_wp2_with (first | (go_at_call 52; with_reducible refine (Calls.later (u := v0) (contains1_calls M g0 GB (.slice A1 M.inits.length c1) M.inits _ (HMB.out.below v0.prop) (HDB.out.below v0.prop) (HS1.out.later v0))).mono ?_; rintro e w' ⟨rfl, v1, rfl⟩; rw [HC1.out]) | (go_at_call 52; with_reducible refine (Calls.later (u := v1) (contains2_calls M g0 GB (.slice A2 M.nexts.length c2) M.nexts _ (HMB.out.below v1.prop) (HDB.out.below v1.prop) (HS2.out.later v1))).mono ?_; rintro e w' ⟨rfl, v2, rfl⟩; rw [HC2.out]) | (go_at_call 57; refine (Concat_calls v2.val.heap.size (.slice A3 M.bads.length c3) (.slice A4 M.holds.length c4) M.bads M.holds _ ((HS3.out.later v2).below (box_below _ _ _)) ((HS4.out.later v2).below (box_below _ _ _)) (by go_simp) (by go_simp) HLEN.out).mono ?_; rintro e w' ⟨cv, rfl, hb, hs⟩; obtain ⟨v3, hv3⟩ := laterC_step (w1 := w5) (v2.alloc _) hb; subst hv3; have HSC := Lib.hid hs; clear hb hs) | (go_at_call 56; refine (Calls.later (u := v3) (contains3_calls M g0 cv (M.bads ++ M.holds) _ (HMB.out.below v3.prop) HSC.out)).mono ?_; rintro e w' ⟨rfl, v4, rfl⟩; rw [HC3.out]))
          go_ret
          exact ⟨ret_eq (congrArg (Value.int .i64) HR.out.symm), HB5.out.trans (v4.prop.mono HB5.out.size)⟩
        have HR6 := Lib.hid (HR5.out.trans (if_neg hp2))
        have hp2 := eq_true_of_ne_false hp2
        have HC3 := Lib.hid (show (!propsB M.nodes (M.bads ++ M.holds)) = false by rw [HPR.out, hp1, hp2]; rfl)
        clear hp1 hp2
        obtain ⟨x36, hx36⟩ : ∃ x, x = allN 36 M.nodes := ⟨_, rfl⟩
        obtain ⟨x35, hx35⟩ : ∃ x, x = allN 35 M.nodes := ⟨_, rfl⟩
        have HA1 := Lib.hid hx36.symm
        have HA2 := Lib.hid hx35.symm
        clear hx36 hx35
        rw [HA1.out, HA2.out] at HR6
        by_cases h8 : 8 < x36
        · have HR := Lib.hid (HR6.out.trans (if_pos h8))
          go_wp2_with (first | (go_at_call 52; with_reducible refine (Calls.later (u := v0) (contains1_calls M g0 GB (.slice A1 M.inits.length c1) M.inits _ (HMB.out.below v0.prop) (HDB.out.below v0.prop) (HS1.out.later v0))).mono ?_; rintro e w' ⟨rfl, v1, rfl⟩; rw [HC1.out]) | (go_at_call 52; with_reducible refine (Calls.later (u := v1) (contains2_calls M g0 GB (.slice A2 M.nexts.length c2) M.nexts _ (HMB.out.below v1.prop) (HDB.out.below v1.prop) (HS2.out.later v1))).mono ?_; rintro e w' ⟨rfl, v2, rfl⟩; rw [HC2.out]) | (go_at_call 57; refine (Concat_calls v2.val.heap.size (.slice A3 M.bads.length c3) (.slice A4 M.holds.length c4) M.bads M.holds _ ((HS3.out.later v2).below (box_below _ _ _)) ((HS4.out.later v2).below (box_below _ _ _)) (by go_simp) (by go_simp) HLEN.out).mono ?_; rintro e w' ⟨cv, rfl, hb, hs⟩; obtain ⟨v3, hv3⟩ := laterC_step (w1 := w5) (v2.alloc _) hb; subst hv3; have HSC := Lib.hid hs; clear hb hs) | (go_at_call 56; refine (Calls.later (u := v3) (contains3_calls M g0 cv (M.bads ++ M.holds) _ (HMB.out.below v3.prop) HSC.out)).mono ?_; rintro e w' ⟨rfl, v4, rfl⟩; rw [HC3.out]) | (go_at_call 61; with_reducible refine (Calls.later (u := v4) (bits_calls _ M 36 _ (HM5.out.later _))).mono ?_; rintro e w' ⟨rfl, v5, rfl⟩; rw [HA1.out]))
          go_ret
          exact ⟨ret_eq (congrArg (Value.int .i64) HR.out.symm), HB5.out.trans (v5.prop.mono HB5.out.size)⟩
        have HR7 := Lib.hid (HR6.out.trans (if_neg h8))
        by_cases h5 : 5 < x35
        · have HR := Lib.hid (HR7.out.trans (if_pos h5))
          go_wp2_with (first | (go_at_call 52; with_reducible refine (Calls.later (u := v0) (contains1_calls M g0 GB (.slice A1 M.inits.length c1) M.inits _ (HMB.out.below v0.prop) (HDB.out.below v0.prop) (HS1.out.later v0))).mono ?_; rintro e w' ⟨rfl, v1, rfl⟩; rw [HC1.out]) | (go_at_call 52; with_reducible refine (Calls.later (u := v1) (contains2_calls M g0 GB (.slice A2 M.nexts.length c2) M.nexts _ (HMB.out.below v1.prop) (HDB.out.below v1.prop) (HS2.out.later v1))).mono ?_; rintro e w' ⟨rfl, v2, rfl⟩; rw [HC2.out]) | (go_at_call 57; refine (Concat_calls v2.val.heap.size (.slice A3 M.bads.length c3) (.slice A4 M.holds.length c4) M.bads M.holds _ ((HS3.out.later v2).below (box_below _ _ _)) ((HS4.out.later v2).below (box_below _ _ _)) (by go_simp) (by go_simp) HLEN.out).mono ?_; rintro e w' ⟨cv, rfl, hb, hs⟩; obtain ⟨v3, hv3⟩ := laterC_step (w1 := w5) (v2.alloc _) hb; subst hv3; have HSC := Lib.hid hs; clear hb hs) | (go_at_call 56; refine (Calls.later (u := v3) (contains3_calls M g0 cv (M.bads ++ M.holds) _ (HMB.out.below v3.prop) HSC.out)).mono ?_; rintro e w' ⟨rfl, v4, rfl⟩; rw [HC3.out]) | (go_at_call 61; with_reducible refine (Calls.later (u := v4) (bits_calls _ M 36 _ (HM5.out.later _))).mono ?_; rintro e w' ⟨rfl, v5, rfl⟩; rw [HA1.out]) | (go_at_call 61; with_reducible refine (Calls.later (u := v5) (bits_calls _ M 35 _ (HM5.out.later _))).mono ?_; rintro e w' ⟨rfl, v6, rfl⟩; rw [HA2.out]))
          go_ret
          exact ⟨ret_eq (congrArg (Value.int .i64) HR.out.symm), HB5.out.trans (v6.prop.mono HB5.out.size)⟩
        · have HR := Lib.hid (HR7.out.trans (if_neg h5))
          go_wp2_with (first | (go_at_call 52; with_reducible refine (Calls.later (u := v0) (contains1_calls M g0 GB (.slice A1 M.inits.length c1) M.inits _ (HMB.out.below v0.prop) (HDB.out.below v0.prop) (HS1.out.later v0))).mono ?_; rintro e w' ⟨rfl, v1, rfl⟩; rw [HC1.out]) | (go_at_call 52; with_reducible refine (Calls.later (u := v1) (contains2_calls M g0 GB (.slice A2 M.nexts.length c2) M.nexts _ (HMB.out.below v1.prop) (HDB.out.below v1.prop) (HS2.out.later v1))).mono ?_; rintro e w' ⟨rfl, v2, rfl⟩; rw [HC2.out]) | (go_at_call 57; refine (Concat_calls v2.val.heap.size (.slice A3 M.bads.length c3) (.slice A4 M.holds.length c4) M.bads M.holds _ ((HS3.out.later v2).below (box_below _ _ _)) ((HS4.out.later v2).below (box_below _ _ _)) (by go_simp) (by go_simp) HLEN.out).mono ?_; rintro e w' ⟨cv, rfl, hb, hs⟩; obtain ⟨v3, hv3⟩ := laterC_step (w1 := w5) (v2.alloc _) hb; subst hv3; have HSC := Lib.hid hs; clear hb hs) | (go_at_call 56; refine (Calls.later (u := v3) (contains3_calls M g0 cv (M.bads ++ M.holds) _ (HMB.out.below v3.prop) HSC.out)).mono ?_; rintro e w' ⟨rfl, v4, rfl⟩; rw [HC3.out]) | (go_at_call 61; with_reducible refine (Calls.later (u := v4) (bits_calls _ M 36 _ (HM5.out.later _))).mono ?_; rintro e w' ⟨rfl, v5, rfl⟩; rw [HA1.out]) | (go_at_call 61; with_reducible refine (Calls.later (u := v5) (bits_calls _ M 35 _ (HM5.out.later _))).mono ?_; rintro e w' ⟨rfl, v6, rfl⟩; rw [HA2.out]))
          go_ret
          exact ⟨ret_eq (congrArg (Value.int .i64) HR.out.symm), HB5.out.trans (v6.prop.mono HB5.out.size)⟩
end Go.Proofs.YtdojaijnejcoiaaGreat
namespace Go.Proofs.YtdojaijnejcoiaaGreat
open Go.RowKit
structure But (S : Nat → Prop) (w w' : World) : Prop where
 os : w'.os = w.os
 tape : w'.tape = w.tape
 output : w'.output = w.output
 size : w.heap.size ≤ w'.heap.size
 block : ∀ k, k < w.heap.size → ¬ S k → w'.heap[k]? = w.heap[k]?
theorem But.refl (S : Nat → Prop) (w : World) : But S w w := ⟨rfl, rfl, rfl, Nat.le_refl _, fun _ _ _ => rfl⟩
theorem But.trans {S : Nat → Prop} {a b c : World} (h : But S a b) (k : But S b c) : But S a c :=
 ⟨k.os.trans h.os, k.tape.trans h.tape, k.output.trans h.output, Nat.le_trans h.size k.size, fun i hi hn => (k.block i (Nat.lt_of_lt_of_le hi h.size) hn).trans (h.block i hi hn)⟩
theorem But.mono {S T : Nat → Prop} {a b : World} (h : But S a b) (hs : ∀ k, S k → T k) : But T a b := ⟨h.os, h.tape, h.output, h.size, fun k hk hn => h.block k hk fun hS => hn (hs k hS)⟩
theorem But.of_below {S : Nat → Prop} {w w' : World} (h : Below w.heap.size w w') : But S w w' := ⟨h.os, h.tape, h.output, h.size, fun k hk _ => h.block k hk⟩
theorem But.below {S : Nat → Prop} {w w' : World} {B : Nat} (h : But S w w') (hS : ∀ k, S k → B ≤ k) (hB : B ≤ w.heap.size) : Below B w w' :=
 ⟨h.os, h.tape, h.output, h.size, fun k hk => h.block k (by omega) fun hk' => by have := hS k hk'; omega⟩
theorem But.setCell {S : Nat → Prop} {w w' : World} (h : But S w w') {p : Addr} (hp : S p.block) (v : Value) : But S w (w'.setCell p v) := by
 refine ⟨h.os, h.tape, h.output, by simpa [World.setCell] using h.size, fun k hk hn => ?_⟩
 have : p.block ≠ k := fun e => hn (e ▸ hp)
 simp [World.setCell, Array.getElem?_modify, this, h.block k hk hn]
theorem OwnB.but {S : Nat → Prop} {w w' : World} {g : Nat} {T : TypeId} {cs : Array Value} (h : OwnB w g T cs) (hb : But S w w') (hg : ¬ S g) : OwnB w' g T cs := (hb.block g h.lt hg).trans h
theorem cell_but {S : Nat → Prop} {w w' : World} {a : Addr} {v : Value} (h : w.cell? a = some v) (hb : But S w w') (hg : ¬ S a.block) : w'.cell? a = some v := by
 have := hb.block a.block (World.block_lt_of_cell? _ _ h) hg
 unfold World.cell? at h ⊢
 rw [this]
 exact h
theorem SlN.but {α : Type} {E : En α} {S : Nat → Prop} {w w' : World} {v : Value} {xs : List α} (h : SlN E w v xs) (hb : But S w w') (hg : ∀ b, v.ownBlock = some b → ¬ S b) : SlN E w' v xs := by
 obtain ⟨A, c, rfl, h1, h2, h3⟩ := h
 refine ⟨A, c, rfl, h1, h2, fun i x hx => ?_⟩
 obtain ⟨b, o, rfl, hc⟩ := h3 i x hx
 exact ⟨b, o, rfl, fun f u hu => cell_but (hc f u hu) hb (hg b rfl)⟩
def RowI (w : World) (v : Value) (xs : List Int) : Prop :=
 xs.length ≤ 281474976710656 ∧ ((v = .slice none 0 0 ∧ xs = []) ∨ ∃ g cap cur, v = .slice (some ⟨g, 0, none⟩) xs.length cap ∧ OwnB w g 3 cur ∧ xs.length ≤ cap ∧ cur.size = cap ∧ ∀ (i : Nat) (x : Int), xs[i]? = some x → cur[i]? = some (Value.int .i64 x))
theorem RowI.slN {w : World} {v : Value} {xs : List Int} (h : RowI w v xs) : SlN enI w v xs := by
 obtain ⟨hl, ⟨rfl, rfl⟩ | ⟨g, cap, cur, rfl, ho, hc, hs, hf⟩⟩ := h
 · exact ⟨none, 0, rfl, Nat.le_refl _, by simp, fun i x hx => by simp at hx⟩
 · refine ⟨some ⟨g, 0, none⟩, cap, rfl, hc, hl, fun i x hx => ⟨g, 0, rfl, fun f u hu => ?_⟩⟩
   have hf0 : f = 0 := by
    have := (List.getElem?_eq_some_iff.1 hu).1
    simpa using this
   subst hf0
   have hu' : u = .int .i64 x := by simpa using hu.symm
   subst hu'
   rw [ho.cell]
   simpa using hf i x hx
theorem RowI.but {S : Nat → Prop} {w w' : World} {v : Value} {xs : List Int} (h : RowI w v xs) (hb : But S w w') (hg : ∀ b, v.ownBlock = some b → ¬ S b) : RowI w' v xs := by
 obtain ⟨hl, ⟨rfl, rfl⟩ | ⟨g, cap, cur, rfl, ho, r⟩⟩ := h
 · exact ⟨hl, .inl ⟨rfl, rfl⟩⟩
 · exact ⟨hl, .inr ⟨g, cap, cur, rfl, ho.but hb (hg g rfl), r⟩⟩
theorem RowI.lt {w : World} {v : Value} {xs : List Int} (h : RowI w v xs) {b : Nat} (hb : v.ownBlock = some b) : b < w.heap.size := by
 obtain ⟨-, ⟨rfl, -⟩ | ⟨g, cap, cur, rfl, ho, -⟩⟩ := h
 · cases hb
 · cases hb; exact ho.lt
theorem RowI.below {w w' : World} {v : Value} {xs : List Int} (h : RowI w v xs) (hb : Below w.heap.size w w') : RowI w' v xs := h.but (S := fun _ => False) (.of_below hb) fun _ _ h => h
theorem RowI.of_owns {w : World} {base n : Nat} {v : Value} {xs : List Int} (h : w.ownsRow base 3 1 v n (xs.map (Value.int .i64))) (hn : n = xs.length) (hl : xs.length ≤ 281474976710656) : RowI w v xs := by
 subst hn
 refine ⟨hl, ?_⟩
 rcases h.2 with ⟨rfl, h0⟩ | ⟨g, cap, cur, rfl, _, hg, hc, _, hs, ht⟩
 · exact .inl ⟨rfl, List.eq_nil_of_length_eq_zero h0⟩
 · refine .inr ⟨g, cap, cur, rfl, hg, hc, by rw [hs, Nat.mul_one], fun i x hx => ?_⟩
   have hi := (List.getElem?_eq_some_iff.1 hx).1
   have h1 : (cur.toList.take (xs.length * 1))[i]? = some (.int .i64 x) := by rw [ht, List.getElem?_map, hx]; rfl
   rw [List.getElem?_take_of_lt (by omega)] at h1
   simpa using h1
theorem owns_block {w : World} {base n s : Nat} {e : TypeId} {v : Value} {xs : List Value} (h : w.ownsRow base e s v n xs) {b : Nat} (hb : v.ownBlock = some b) : base ≤ b := (h.lt b hb).1
def marks (k : Int) (n : Nat) : List Int := (List.range n).map fun (i : Nat) => k + (i : Int)
theorem marks_length (k : Int) (n : Nat) : (marks k n).length = n := by simp [marks]
theorem marks_get {k : Int} {n i : Nat} (h : i < n) : (marks k n)[i]? = some (k + i) := by simp [marks, h]
theorem toModel_at (mv : Value) (M : Md) (w : World) (hM : MdAt w mv M) (h0 : M.nodes.length ≤ 1048576) (h1 : M.inits.length ≤ 1048576) (h2 : M.nexts.length ≤ 1048576) (h3 : M.bads.length ≤ 1048576) (h4 : M.holds.length ≤ 1048576) :
 Calls Tryz.prog 6 #[mv] w fun e w' => ∃ g0 g1 g2 g3 g4, e = .returned (.agg #[slOf g0 M.nodes, slOf g1 M.inits, slOf g2 M.nexts, slOf g3 M.bads, slOf g4 M.holds]) ∧ Below w.heap.size w w' ∧ MdAt w' (.agg #[slOf g0 M.nodes, slOf g1 M.inits, slOf g2 M.nexts, slOf g3 M.bads, slOf g4 M.holds]) M :=
 (toModel_calls mv M w hM h0 h1 h2 h3 h4).mono fun e w' ⟨g0, g1, g2, g3, g4, he, hb, _, _, _, _, f0, f1, f2, f3, f4⟩ =>
   ⟨_, _, _, _, _, he, hb, ⟨_, _, _, _, _, rfl, f0.slAt (by omega), f1.slAt (by omega), f2.slAt (by omega), f3.slAt (by omega), f4.slAt (by omega)⟩⟩
end Go.Proofs.YtdojaijnejcoiaaGreat
namespace Go.Proofs.YtdojaijnejcoiaaGreat
open Go.Joins Go.ChangeShapes Go.WideShapes Go.ChangeAt Go.RowKit Go.Deep
section
variable {H : Type} {enc : TypeId × Value → H} {w : World}
theorem list_of {α : Type} (Q : Nat → α → Prop) : ∀ (n : Nat), (∀ i, i < n → ∃ x, Q i x) → ∃ xs : List α, xs.length = n ∧ ∀ i x, xs[i]? = some x → Q i x
 | 0, _ => ⟨[], rfl, fun i x h => by simp at h⟩
 | n + 1, h => by
   obtain ⟨xs, hl, hx⟩ := list_of Q n fun i hi => h i (by omega)
   obtain ⟨y, hy⟩ := h n (by omega)
   refine ⟨xs ++ [y], by simp [hl], fun i x hi => ?_⟩
   rcases Nat.lt_trichotomy i n with g | g | g
   · rw [List.getElem?_append_left (by omega)] at hi
     exact hx i x hi
   · subst g
     rw [List.getElem?_append_right (by omega), hl, Nat.sub_self] at hi
     simp at hi
     exact hi ▸ hy
   · rw [List.getElem?_eq_none (by simp; omega)] at hi
     simp at hi
theorem weightsAll_mem' {P : Program} {e : TypeId} : ∀ {l : List (DataW H)} {d : DataW H}, d ∈ l → ∀ n ∈ d.weights P e, n ∈ DataW.weightsAll P e l
 | d' :: r, d, hd, n, hn => by
   simp only [DataW.weightsAll, List.mem_append]
   rcases List.mem_cons.1 hd with rfl | h
   · exact Or.inl hn
   · exact Or.inr (weightsAll_mem' h n hn)
theorem addr_at {a : Addr} (hs : a.spot = none) (k : Nat) : a.add k = ⟨a.block, a.off + k, none⟩ := by
 obtain ⟨b, o, s⟩ := a
 subst hs
 unfold Addr.add
 split
 · next h => subst h; rfl
 · rfl
theorem slAt_of {α : Type} (E : En α) (R : α → Prop) {t e : TypeId} (ht : Tryz.prog.underlying t = some (.slice e)) (hce : Tryz.prog.cellsOf e = E.sz) (hby : 1 ≤ Tryz.prog.bytesOf e) (hsz : 1 ≤ E.sz)
 (hel : ∀ (fuel : Nat) (cs : List Value) (d : DataW H) (p : List MemPlace), DataW.trod enc Tryz.prog w 0 (fun _ => true) true fuel e cs = some (d, p) → (∀ n ∈ d.weights Tryz.prog e, n ≤ reachBytes) → ∃ x, (∀ f u, (E.cells x)[f]? = some u → f < E.sz ∧ cs[f]? = some u) ∧ R x)
 {fuel : Nat} {v : Value} {d : DataW H} {p : List MemPlace} (h : DataW.trod enc Tryz.prog w 0 (fun _ => true) true fuel t [v] = some (d, p)) (hw : ∀ n ∈ d.weights Tryz.prog t, n ≤ reachBytes) :
 ∃ xs : List α, SlAt E w v xs ∧ ∀ x ∈ xs, R x := by
 rcases open_slice ht h with ⟨h0, -⟩ | ⟨a, len, cap, m, n, D, Pl, hv, hb, hl, hm, hmm, hx, hi⟩
 · simp at h0
   subst h0
   exact ⟨[], ⟨.none, 0, rfl, Nat.le_refl _, by omega, fun i x hx => by simp at hx⟩, fun x hx => by simp at hx⟩
 · simp at hv
   subst hv
   simp at hmm
   subst hmm
   simp only [Prod.mk.injEq] at hx
   obtain ⟨rfl, -⟩ := hx
   have hwt : ∀ n ∈ (((List.range len).map D).length + ((List.range (m - len)).map fun j => D (len + j)).length) * Tryz.prog.bytesOf e :: (DataW.weightsAll Tryz.prog e ((List.range len).map D) ++ DataW.weightsAll Tryz.prog e ((List.range (m - len)).map fun j => D (len + j))), n ≤ reachBytes := by
    intro n hn
    refine hw n ?_
    simp only [DataW.weights, ht]
    exact hn
   have hcap : m * Tryz.prog.bytesOf e ≤ reachBytes := by
    have := hwt _ List.mem_cons_self
    simpa [show len + (m - len) = m by omega] using this
   have hm8 : m ≤ 281474976710656 := by
    have h1 : m * 1 ≤ m * Tryz.prog.bytesOf e := Nat.mul_le_mul_left m hby
    have h2 : reachBytes = 140737488351232 := rfl
    omega
   obtain ⟨xs, hxl, hxs⟩ := list_of (fun i x => (∀ f u, (E.cells x)[f]? = some u → w.cell? ((a.add (i * E.sz)).add f) = some u) ∧ R x) len fun i hil => by
    obtain ⟨cs', hc, ht'⟩ := hi i (by omega)
    obtain ⟨x, hx, hR⟩ := hel _ cs' _ _ ht' fun n hn => hwt n (List.mem_cons_of_mem _ (List.mem_append_left _ (weightsAll_mem' (List.mem_map.2 ⟨i, List.mem_range.2 hil, rfl⟩) n hn)))
    rw [hce] at hc
    obtain ⟨_, _, hat⟩ := World.cells?_some hc
    refine ⟨x, fun f u hu => ?_, hR⟩
    obtain ⟨hf, hcs⟩ := hx f u hu
    exact (hat f hf).trans hcs
   refine ⟨xs, ⟨some a, m, by rw [hxl], by omega, hm8, fun i x hx => ?_⟩, fun x hx => ?_⟩
   · have hil : i < len := hxl ▸ (List.getElem?_eq_some_iff.1 hx).1
     have hsp : a.spot = none := by
      obtain ⟨cs', hc, -⟩ := hi 0 (by omega)
      rw [hce] at hc
      obtain ⟨_, hl', hat⟩ := World.cells?_some hc
      have h0 := hat 0 (by omega)
      rw [List.getElem?_eq_getElem (by omega)] at h0
      simpa [Addr.add] using World.cell?_spot h0
     obtain ⟨hc, -⟩ := hxs i x hx
     refine ⟨a.block, a.off, congrArg some (by rw [← hsp]), fun f u hu => ?_⟩
     have := hc f u hu
     rw [add_add, addr_at hsp] at this
     rw [Nat.add_assoc]
     exact this
   · obtain ⟨i, hi'⟩ := List.getElem?_of_mem hx
     exact (hxs i x hi').2
theorem one_cell {cs : List Value} {k : Nat} {c : Value} {T : TypeId} (hT : Tryz.prog.cellsOf T = 1) (hc : cs[k]? = some c) : (cs.drop k).take (Tryz.prog.cellsOf T) = [c] := by
 obtain ⟨hk, rfl⟩ := List.getElem?_eq_some_iff.1 hc
 rw [hT, List.drop_eq_getElem_cons hk]
 rfl
theorem int_el {fuel : Nat} {cs : List Value} {d : DataW H} {p : List MemPlace} (h : DataW.trod enc Tryz.prog w 0 (fun _ => true) true fuel 3 cs = some (d, p)) : ∃ x : Int, (∀ f u, (enI.cells x)[f]? = some u → f < enI.sz ∧ cs[f]? = some u) ∧ True := by
 obtain ⟨a, rfl, -, -⟩ := DataW.trod_int Tryz.underlying3 h
 refine ⟨a, fun f u hu => ?_, trivial⟩
 match f, hu with
 | 0, hu => exact ⟨Nat.lt_succ_self 0, hu⟩
theorem cells_int : Tryz.prog.cellsOf 3 = 1 := by kernel_rfl
theorem cells_str : Tryz.prog.cellsOf 9 = 1 := by kernel_rfl
theorem cells_sort : Tryz.prog.cellsOf 67 = 2 := by kernel_rfl
theorem cells_node : Tryz.prog.cellsOf 69 = 9 := by kernel_rfl
theorem cells_bind : Tryz.prog.cellsOf 76 = 2 := by kernel_rfl
theorem cells_mod : Tryz.prog.cellsOf 26 = 5 := by kernel_rfl
theorem int_cell {fuel : Nat} {cs : List Value} {k : Nat} {y : Option (DataW H × List MemPlace)} {x : DataW H × List MemPlace} (h : DataW.trod enc Tryz.prog w 0 (fun _ => true) true fuel 3 ((cs.drop k).take (Tryz.prog.cellsOf 3)) = y) (hy : y = some x) :
 ∃ a : Int, cs[k]? = some (.int .i64 a) ∧ (Lit.int .i64 a).wf = true := by
 obtain ⟨a, ha, -, hw⟩ := DataW.trod_int Tryz.underlying3 (h.trans hy)
 refine ⟨a, ?_, hw⟩
 rw [cells_int] at ha
 have := congrArg (·[0]?) ha
 simpa [List.getElem?_take, List.getElem?_drop] using this
theorem bind_el {fuel : Nat} {cs : List Value} {d : DataW H} {p : List MemPlace} (h : DataW.trod enc Tryz.prog w 0 (fun _ => true) true fuel 76 cs = some (d, p)) : ∃ x : Bd, (∀ f u, (enBd.cells x)[f]? = some u → f < enBd.sz ∧ cs[f]? = some u) ∧ (Lit.int .i64 x.st).wf = true := by
 obtain ⟨xs, n, -, -, -, hxl, hf⟩ := DataW.trod_struct Tryz.underlying76 h
 match xs, hxl with
 | [y0, y1], _ =>
   obtain ⟨a0, h0, w0⟩ := int_cell (hf 0 _ rfl) rfl
   obtain ⟨a1, h1, w1⟩ := int_cell (hf 1 _ rfl) rfl
   refine ⟨⟨a0, a1⟩, fun f u hu => ?_, w0⟩
   match f, hu with
   | 0, hu => exact ⟨Nat.zero_lt_succ _, h0.trans hu⟩
   | 1, hu => exact ⟨Nat.lt_succ_self _, h1.trans hu⟩
theorem node_el {fuel : Nat} {cs : List Value} {d : DataW H} {p : List MemPlace} (h : DataW.trod enc Tryz.prog w 0 (fun _ => true) true fuel 69 cs = some (d, p)) (hw : ∀ n ∈ d.weights Tryz.prog 69, n ≤ reachBytes) :
 ∃ x : Nd, (∀ f u, (enNd.cells x)[f]? = some u → f < enNd.sz ∧ cs[f]? = some u) ∧ x.name.size ≤ 140737488351232 := by
 obtain ⟨xs, n, -, hd, hcl, hxl, hf⟩ := DataW.trod_struct Tryz.underlying69 h
 simp only [Prod.mk.injEq] at hd
 obtain ⟨rfl, -⟩ := hd
 match xs, hxl with
 | [y0, y1, y2, y3, y4, y5, y6, y7], _ =>
   obtain ⟨a0, h0, -⟩ := int_cell (hf 0 _ rfl) rfl
   obtain ⟨a1, h1, -⟩ := int_cell (hf 1 _ rfl) rfl
   obtain ⟨a2, h2, -⟩ := int_cell (hf 2 _ rfl) rfl
   obtain ⟨a3, h3, -⟩ := int_cell (hf 3 _ rfl) rfl
   obtain ⟨a4, h4, -⟩ := int_cell (hf 4 _ rfl) rfl
   obtain ⟨a5, h5, -⟩ := int_cell (hf 5 _ rfl) rfl
   obtain ⟨zs, n', -, -, -, hzl, hg⟩ := DataW.trod_struct Tryz.underlying67 ((hf 6 _ rfl).trans (show [y0, y1, y2, y3, y4, y5, y6, y7][6]? = some (y6.1, y6.2) from rfl))
   match zs, hzl with
   | [z0, z1], _ =>
     obtain ⟨a6, h6, -⟩ := int_cell (hg 0 _ rfl) rfl
     obtain ⟨a7, h7, -⟩ := int_cell (hg 1 _ rfl) rfl
     obtain ⟨s, hs, hy, -⟩ := DataW.trod_string Tryz.underlying9 ((hf 7 _ rfl).trans (show [y0, y1, y2, y3, y4, y5, y6, y7][7]? = some y7 from rfl))
     have hs : (cs.drop 8).take (Tryz.prog.cellsOf 9) = [.string s] := hs
     have h6 : ((cs.drop 6).take (Tryz.prog.cellsOf 67))[0]? = some (.int .i64 a6) := h6
     have h7 : ((cs.drop 6).take (Tryz.prog.cellsOf 67))[1]? = some (.int .i64 a7) := h7
     rw [cells_str] at hs
     rw [cells_sort] at h6 h7
     have h8 : cs[8]? = some (.string s) := by
      have := congrArg (·[0]?) hs
      simpa [List.getElem?_take, List.getElem?_drop] using this
     have h6 : cs[6]? = some (.int .i64 a6) := by simpa [List.getElem?_take, List.getElem?_drop] using h6
     have h7 : cs[7]? = some (.int .i64 a7) := by simpa [List.getElem?_take, List.getElem?_drop] using h7
     refine ⟨⟨a0, a1, a2, a3, a4, a5, a6, a7, s⟩, fun f u hu => ?_, ?_⟩
     · match f, hu with
       | 0, hu => exact ⟨by decide, h0.trans hu⟩
       | 1, hu => exact ⟨by decide, h1.trans hu⟩
       | 2, hu => exact ⟨by decide, h2.trans hu⟩
       | 3, hu => exact ⟨by decide, h3.trans hu⟩
       | 4, hu => exact ⟨by decide, h4.trans hu⟩
       | 5, hu => exact ⟨by decide, h5.trans hu⟩
       | 6, hu => exact ⟨by decide, h6.trans hu⟩
       | 7, hu => exact ⟨by decide, h7.trans hu⟩
       | 8, hu => exact ⟨by decide, h8.trans hu⟩
     · have := hw s.data.toList.length (by
        simp only [DataW.weights, Tryz.underlying69]
        refine DataW.weights_mem_each (j := 7) (t := 9) (d := y7.1) rfl rfl _ ?_
        rw [hy]
        simp [DataW.weights])
       have h2 : reachBytes = 140737488351232 := rfl
       have h3 : s.data.toList.length = s.size := Array.length_toList
       show s.size ≤ _
       omega
theorem md_open {r : _root_.Go.Reach} {b0 : Nat} {v : Value} {d : DataW H} {p : List MemPlace} (hv : Value.okWide Tryz.prog w r b0 26 v) (h : DataW.Trod enc Tryz.prog w 0 (fun _ => true) true 26 v d p) (hw : ∀ n ∈ d.weights Tryz.prog 26, n ≤ reachBytes) :
 ∃ M : Md, MdAt w v M ∧ (∀ x, x ∈ M.nodes → x.name.size ≤ 140737488351232) ∧ (∀ b, b ∈ M.inits → (Lit.int .i64 b.st).wf = true) ∧ (∀ b, b ∈ M.nexts → (Lit.int .i64 b.st).wf = true) := by
 obtain ⟨cs, rfl, hsz⟩ := okWide_struct Tryz.underlying26 hv
 obtain ⟨l⟩ := cs
 match l, hsz.trans cells_mod with
 | [c0, c1, c2, c3, c4], _ =>
   obtain ⟨fuel, hf⟩ := h
   obtain ⟨xs, n, -, hd, -, hxl, hg⟩ := DataW.trod_struct Tryz.underlying26 hf
   have hd := congrArg Prod.fst hd
   have hd : d = .agg (xs.map (·.1)) := hd
   subst hd
   match xs, hxl with
   | [y0, y1, y2, y3, y4], _ =>
     have hwt : ∀ (j : Nat) t y, ([22, 23, 23, 24, 24] : List TypeId)[j]? = some t → ([y0.1, y1.1, y2.1, y3.1, y4.1] : List (DataW H))[j]? = some y → ∀ n ∈ y.weights Tryz.prog t, n ≤ reachBytes := fun j t y ht hy n hn => hw n (by
      show n ∈ DataW.weights Tryz.prog 26 (.agg [y0.1, y1.1, y2.1, y3.1, y4.1])
      rw [DataW.weights, Tryz.underlying26]
      exact DataW.weights_mem_each (j := j) ht hy n hn)
     have k0 : Tryz.prog.cellsOf 22 = 1 := by kernel_rfl
     have k1 : Tryz.prog.cellsOf 23 = 1 := by kernel_rfl
     have k2 : Tryz.prog.cellsOf 24 = 1 := by kernel_rfl
     obtain ⟨ns, hN, hn⟩ := slAt_of enNd (fun x => x.name.size ≤ 140737488351232) Tryz.underlying22 cells_node (by decide +kernel) (by decide) (fun _ _ _ _ h hw => node_el h hw) (d := y0.1) (p := y0.2) (v := c0) ((congrArg (DataW.trod enc Tryz.prog w 0 (fun _ => true) true n _) (one_cell (cs := [c0, c1, c2, c3, c4]) (k := 0) k0 rfl)).symm.trans (hg 0 _ rfl)) (hwt 0 _ _ rfl rfl)
     obtain ⟨is, hI, hi⟩ := slAt_of enBd (fun x => (Lit.int .i64 x.st).wf = true) Tryz.underlying23 cells_bind (by decide +kernel) (by decide) (fun _ _ _ _ h _ => bind_el h) (d := y1.1) (p := y1.2) (v := c1) ((congrArg (DataW.trod enc Tryz.prog w 0 (fun _ => true) true n _) (one_cell (cs := [c0, c1, c2, c3, c4]) (k := 1) k1 rfl)).symm.trans (hg 1 _ rfl)) (hwt 1 _ _ rfl rfl)
     obtain ⟨qs, hQ, hq⟩ := slAt_of enBd (fun x => (Lit.int .i64 x.st).wf = true) Tryz.underlying23 cells_bind (by decide +kernel) (by decide) (fun _ _ _ _ h _ => bind_el h) (d := y2.1) (p := y2.2) (v := c2) ((congrArg (DataW.trod enc Tryz.prog w 0 (fun _ => true) true n _) (one_cell (cs := [c0, c1, c2, c3, c4]) (k := 2) k1 rfl)).symm.trans (hg 2 _ rfl)) (hwt 2 _ _ rfl rfl)
     obtain ⟨bs, hB, -⟩ := slAt_of enI (fun _ => True) Tryz.underlying24 cells_int (by decide +kernel) (by decide) (fun _ _ _ _ h _ => int_el h) (d := y3.1) (p := y3.2) (v := c3) ((congrArg (DataW.trod enc Tryz.prog w 0 (fun _ => true) true n _) (one_cell (cs := [c0, c1, c2, c3, c4]) (k := 3) k2 rfl)).symm.trans (hg 3 _ rfl)) (hwt 3 _ _ rfl rfl)
     obtain ⟨hs, hH, -⟩ := slAt_of enI (fun _ => True) Tryz.underlying24 cells_int (by decide +kernel) (by decide) (fun _ _ _ _ h _ => int_el h) (d := y4.1) (p := y4.2) (v := c4) ((congrArg (DataW.trod enc Tryz.prog w 0 (fun _ => true) true n _) (one_cell (cs := [c0, c1, c2, c3, c4]) (k := 4) k2 rfl)).symm.trans (hg 4 _ rfl)) (hwt 4 _ _ rfl rfl)
     exact ⟨⟨ns, is, qs, bs, hs⟩, ⟨⟨c0, c1, c2, c3, c4, rfl, hN, hI, hQ, hB, hH⟩⟩, hn, hi, hq⟩
end
end Go.Proofs.YtdojaijnejcoiaaGreat
namespace Go.Proofs.YtdojaijnejcoiaaGreat
open Go.RowKit
def flatE {α : Type} (E : En α) : List α → List Value
 | [] => []
 | x :: l => E.cells x ++ flatE E l
structure Rk (α : Type) where
 E : En α
 T : TypeId
 S : TypeId
 z : Value
 bytes : Nat
structure Rk.Ok {α : Type} (K : Rk α) : Prop where
 under : Tryz.prog.underlying K.S = some (.slice K.T)
 info : (Tryz.prog.info? K.T).map (fun i => (i.zero, i.size, i.bytes)) = some (some K.z, K.E.sz, K.bytes)
 len : ∀ x, (K.E.cells x).length = K.E.sz
 pos : 0 < K.E.sz
 one : ∀ x u, u ∈ K.E.cells x → u.oneCell' = true
 zs : K.z.cells.size = K.E.sz
 small : K.bytes ≤ 128
def kI : Rk Int := ⟨enI, 3, 24, .int .i64 0, 8⟩
def kB : Rk Bd := ⟨enBd, 57, 29, .agg #[.int .i64 0, .int .i64 0], 16⟩
def kN : Rk Nd := ⟨enNd, 46, 28, .agg #[.int .i64 0, .int .i64 0, .int .i64 0, .int .i64 0, .int .i64 0, .int .i64 0, .int .i64 0, .int .i64 0, .string ByteArray.empty], 80⟩
theorem kI_ok : kI.Ok := ⟨Tryz.underlying24, by kernel_rfl, fun _ => rfl, by decide, fun x u h => by simp [kI] at h; subst h; rfl, rfl, by decide⟩
theorem kB_ok : kB.Ok := ⟨Tryz.underlying29, by kernel_rfl, fun _ => rfl, by decide, fun x u h => by simp [kB] at h; rcases h with rfl | rfl <;> rfl, rfl, by decide⟩
theorem kN_ok : kN.Ok := ⟨Tryz.underlying28, by kernel_rfl, fun _ => rfl, by decide, fun x u h => by simp [kN] at h; rcases h with rfl | rfl | rfl | rfl | rfl | rfl | rfl | rfl | rfl <;> rfl, rfl, by decide⟩
section
variable {α : Type} {K : Rk α}
theorem flatE_len (h : K.Ok) : ∀ l : List α, (flatE K.E l).length = l.length * K.E.sz
 | [] => by simp [flatE]
 | x :: l => by rw [flatE, List.length_append, flatE_len h l, h.len, List.length_cons, Nat.add_mul]; omega
theorem flatE_append (E : En α) : ∀ l k : List α, flatE E (l ++ k) = flatE E l ++ flatE E k
 | [], k => rfl
 | x :: l, k => by rw [List.cons_append, flatE, flatE, flatE_append E l k, List.append_assoc]
theorem flatE_get (h : K.Ok) : ∀ {l : List α} {i : Nat} {x : α}, l[i]? = some x → ∀ f, f < K.E.sz → (flatE K.E l)[i * K.E.sz + f]? = (K.E.cells x)[f]?
 | y :: l, 0, x, hx, f, hf => by
   simp at hx
   subst hx
   rw [flatE, Nat.zero_mul, Nat.zero_add, List.getElem?_append_left (by rw [h.len]; exact hf)]
 | y :: l, i + 1, x, hx, f, hf => by
   simp at hx
   rw [flatE, List.getElem?_append_right (by rw [h.len, Nat.add_mul]; omega), h.len, ← flatE_get h hx f hf]
   congr 1
   rw [Nat.add_mul]
   omega
theorem flatE_split (h : K.Ok) {l : List α} {j : Nat} {u : Value} (hu : (flatE K.E l)[j]? = some u) : ∃ i f x, j = i * K.E.sz + f ∧ f < K.E.sz ∧ l[i]? = some x ∧ (K.E.cells x)[f]? = some u := by
 have hj := (List.getElem?_eq_some_iff.1 hu).1
 rw [flatE_len h] at hj
 have hi : j / K.E.sz < l.length := by
  rw [Nat.div_lt_iff_lt_mul h.pos]; exact hj
 have hx := List.getElem?_eq_getElem hi
 have hd : j = j / K.E.sz * K.E.sz + j % K.E.sz := by rw [Nat.mul_comm]; exact (Nat.div_add_mod _ _).symm
 refine ⟨j / K.E.sz, j % K.E.sz, _, hd, Nat.mod_lt _ h.pos, hx, ?_⟩
 rw [← flatE_get h hx _ (Nat.mod_lt _ h.pos), ← hd]
 exact hu
theorem flatE_one (h : K.Ok) {l : List α} {u : Value} (hu : u ∈ flatE K.E l) : u.oneCell' = true := by
 obtain ⟨j, hj⟩ := List.getElem?_of_mem hu
 obtain ⟨i, f, x, -, -, -, hc⟩ := flatE_split h hj
 exact h.one x u (List.mem_of_getElem? hc)
abbrev Acc (K : Rk α) (lo : Nat) (w : World) (v : Value) (xs : List α) : Prop := w.ownsRow lo K.T K.E.sz v xs.length (flatE K.E xs)
theorem Acc.nil (K : Rk α) (lo : Nat) (w : World) : Acc K lo w (.slice none 0 0) [] := World.ownsRow_nil w lo _ _
theorem Acc.below {lo : Nat} {w w' : World} {v : Value} {xs : List α} (h : Acc K lo w v xs) (hb : Below w.heap.size w w') : Acc K lo w' v xs := ownsRow_below h hb
theorem Acc.but {S : Nat → Prop} {lo : Nat} {w w' : World} {v : Value} {xs : List α} (h : Acc K lo w v xs) (hb : But S w w') (hg : ∀ b, v.ownBlock = some b → ¬ S b) : Acc K lo w' v xs := by
 refine ⟨h.1, ?_⟩
 rcases h.2 with ⟨rfl, h0⟩ | ⟨g, cap, cur, rfl, h1, h2, r⟩
 · exact .inl ⟨rfl, h0⟩
 · exact .inr ⟨g, cap, cur, rfl, h1, (hb.block g (by
    rcases Nat.lt_or_ge g w.heap.size with k | k
    · exact k
    · rw [Array.getElem?_eq_none k] at h2; cases h2) (hg g rfl)).trans h2, r⟩
theorem add_at (b o j : Nat) : (⟨b, o, none⟩ : Addr).add j = ⟨b, o + j, none⟩ := by
 unfold Addr.add; split <;> simp_all
theorem Acc.slN (hk : K.Ok) {lo : Nat} {w : World} {v : Value} {xs : List α} (h : Acc K lo w v xs) (hl : xs.length ≤ 281474976710656) : SlN K.E w v xs := by
 rcases h.2 with ⟨rfl, h0⟩ | ⟨g, cap, cur, rfl, _, _, hc, _⟩
 · have : xs = [] := List.eq_nil_of_length_eq_zero h0
   subst this
   exact ⟨none, 0, rfl, Nat.le_refl _, by simp, fun i x hx => by simp at hx⟩
 · refine ⟨some ⟨g, 0, none⟩, cap, rfl, hc, hl, fun i x hx => ⟨g, 0, rfl, fun f u hu => ?_⟩⟩
   have hf : f < K.E.sz := by rw [← hk.len x]; exact (List.getElem?_eq_some_iff.1 hu).1
   have := h.cells (g := g) rfl (i * K.E.sz + f) u ((flatE_get hk hx f hf).trans hu)
   rw [add_at] at this
   simpa [Nat.add_assoc] using this
theorem appendE_none (hk : K.Ok) (w : World) (ty : TypeId) (base : Nat) (v : Value) (n : Nat) (xs : List Value) (hown : w.ownsRow base K.T K.E.sz v n xs) (A : Option Addr) (c : Nat) :
 (Builtin.append_ #[K.S, K.S] ty #[v, .slice A 0 c]).run Tryz.prog w = .ok v w := by
 obtain ⟨i, hi, hz, hs, hb⟩ := info_parts hk.info
 have ht := hk.under
 have hl : ∀ (a : Addr) (w : World), (loadCells a 0).run Tryz.prog w = .ok #[] w := fun _ _ => rfl
 rcases hown.2 with ⟨rfl, rfl⟩ | ⟨g, cap, cur, rfl, _, _, hnc, _⟩ <;> cases A <;>
  simp [Builtin.append_, run_underlying ht, sizeOf, typeInfo, hi, Builtin.lenOf, Builtin.firstCells, storeCells, *]
theorem append_acc (hk : K.Ok) (w : World) (ty : TypeId) (lo : Nat) (v : Value) (xs : List α) (hown : Acc K lo w v xs) (hbase : lo ≤ w.heap.size) (A : Option Addr) (n c : Nat) (ys : List α) (hn : ys.length = n)
 (hA : ∀ i x, ys[i]? = some x → ∃ b o, A = some ⟨b, o, none⟩ ∧ CellsAt K.E w b o i x) (hlen : xs.length + ys.length ≤ 1000000000) :
 ∃ v' w', (Builtin.append_ #[K.S, K.S] ty #[v, .slice A n c]).run Tryz.prog w = .ok v' w' ∧ Acc K lo w' v' (xs ++ ys) ∧ w.grownBy w' v.ownBlock := by
 subst hn
 rcases Nat.eq_zero_or_pos ys.length with h0 | h0
 · rw [h0]
   have : ys = [] := List.eq_nil_of_length_eq_zero h0
   subst this
   exact ⟨v, w, appendE_none hk w ty lo v _ _ hown A c, by simpa using hown, World.grownBy.refl w _⟩
 · obtain ⟨i, hi, hz, hs, hb⟩ := info_parts hk.info
   obtain ⟨b, o, rfl, -⟩ := hA 0 _ (getD_at h0 (ys[0]))
   have hby := hk.small
   have hmul : (xs.length + ys.length) * K.bytes ≤ 1000000000 * 128 := Nat.mul_le_mul hlen hby
   obtain ⟨v', w', hr, hown', hg, -⟩ := run_append_own (P := Tryz.prog) w lo K.S ty K.T i K.z K.E.sz K.bytes hk.under hi hz hs hb hk.zs hk.pos v xs.length _ hown ⟨b, o, none⟩ ys.length c (flatE K.E ys) (flatE_len hk ys) (fun j u hu => by
    obtain ⟨i, f, y, rfl, hf, hy, hu'⟩ := flatE_split hk hu
    obtain ⟨b', o', he, hc⟩ := hA i y hy
    cases he
    rw [add_at]
    have := hc f _ hu'
    rw [show o + (i * K.E.sz + f) = o + i * K.E.sz + f by omega]
    exact this) (fun u hu => flatE_one hk hu) (by unfold maxLen; omega) (by omega) hbase
   refine ⟨v', w', hr, ?_, hg⟩
   unfold Acc
   rw [flatE_append, List.length_append]
   exact hown'
theorem grown_but {w w' : World} {row : Option Nat} (h : w.grownBy w' row) : But (fun k => some k = row) w w' := ⟨h.os, h.tape, h.output, h.size, h.block⟩
section
variable {ops : Array Oper} {o : Oper} {a : Act} {Q : Exit → Act → World → Prop}
theorem wp_push {P : Act → World → Prop} (hk : K.Ok) (s x : Operand) (ho : o.op = .call { callee := .builtin .append, args := #[s, x], argTypes := #[K.S, K.S] })
 (lo : Nat) (W W3 : World) (H : Nat) (v : Value) (y : α) (xs : List α) (n : Nat) (T : TypeId) (cs : Array Value) (hn : xs.length = n) (hs : a.eval s = v) (hac : Acc K lo W v xs) (hlo : lo ≤ W.heap.size)
 (hl : xs.length ≤ 1048576) (hb3 : Below W.heap.size W W3) (hbox : W3.heap[H]? = some (.cells cs T (0, 0))) (hcs : cs.toList = K.E.cells y) (hx : a.eval x = .slice (some ⟨H, 0, none⟩) 1 1)
 (k : ∀ (g cap : Nat) (wn : World), Acc K lo wn (.slice (some ⟨g, 0, none⟩) (n + 1) cap) (xs ++ [y]) → W3.grownBy wn v.ownBlock → (v.ownBlock = some g ∨ g = W3.heap.size) → P (a.put o.dst (.slice (some ⟨g, 0, none⟩) (n + 1) cap)) wn) : Oper.wp Tryz.prog o a W3 P Q := by
 subst hn
 obtain ⟨ti, hti, hz, hsz, hby⟩ := info_parts hk.info
 have hown := ownsRow_below hac hb3
 have hlo3 : lo ≤ W3.heap.size := Nat.le_trans hlo hb3.size
 have hsm := hk.small
 have hmul : (xs.length + 1) * K.bytes ≤ 1048577 * 128 := Nat.mul_le_mul (by omega) hsm
 refine wp_append_lies W3 s x _ ho lo K.T ti _ K.E.sz K.bytes hk.under hti hz hsz hby hk.zs hk.pos v xs.length (flatE K.E xs) hs hown ⟨H, 0, none⟩ 1 1 (K.E.cells y) hx (by rw [hk.len, Nat.one_mul]) (by rw [← hcs]; exact World.news_of_block hbox) (fun u hu => hk.one y u hu) (by decide) (by unfold maxLen; omega) (by omega) hlo3 W3.heap.size rfl ?_
 intro g cap wn hown2 hgrow hat hlt
 refine k g cap wn ?_ hgrow hat
 unfold Acc
 rw [flatE_append, List.length_append]
 have : flatE K.E [y] = K.E.cells y := by simp [flatE]
 rw [this]
 exact hown2
theorem wpList_push {rest : List Oper} (hk : K.Ok) (hgd : o.guard = none) (s x : Operand) (ho : o.op = .call { callee := .builtin .append, args := #[s, x], argTypes := #[K.S, K.S] })
 (lo : Nat) (W W3 : World) (H : Nat) (v : Value) (y : α) (xs : List α) (n : Nat) (T : TypeId) (cs : Array Value) (hn : xs.length = n) (hs : a.eval s = v) (hac : Acc K lo W v xs) (hlo : lo ≤ W.heap.size)
 (hl : xs.length ≤ 1048576) (hb3 : Below W.heap.size W W3) (hbox : W3.heap[H]? = some (.cells cs T (0, 0))) (hcs : cs.toList = K.E.cells y) (hx : a.eval x = .slice (some ⟨H, 0, none⟩) 1 1)
 (k : ∀ (g cap : Nat) (wn : World), Acc K lo wn (.slice (some ⟨g, 0, none⟩) (n + 1) cap) (xs ++ [y]) → W3.grownBy wn v.ownBlock → (v.ownBlock = some g ∨ g = W3.heap.size) → wpList Tryz.prog ops Q rest (a.put o.dst (.slice (some ⟨g, 0, none⟩) (n + 1) cap)) wn) : wpList Tryz.prog ops Q (o :: rest) a W3 :=
 wpList_plain hgd fun _ hK => wp_push hk s x ho lo W W3 H v y xs n T cs hn hs hac hlo hl hb3 hbox hcs hx fun g cap u h1 h2 h3 => hK _ _ (k g cap u h1 h2 h3)
end
end
end Go.Proofs.YtdojaijnejcoiaaGreat
namespace Go.Proofs.YtdojaijnejcoiaaGreat
open Go.RowKit
def OwnP (w : World) (g : Nat) (T : TypeId) (m : Nat) (W : World) : Prop := ∃ cs, OwnB W g T cs ∧ cs.size = m ∧ But (· = g) w W
theorem OwnP.set {w W : World} {g : Nat} {T : TypeId} {m : Nat} (h : OwnP w g T m W) (i : Nat) (v : Value) : OwnP w g T m (W.setCell ⟨g, i, none⟩ v) := by
 obtain ⟨cs, h1, h2, h3⟩ := h
 exact ⟨_, h1.set i v, by simp [h2], h3.setCell rfl v⟩
theorem OwnP.below {w W W' : World} {g : Nat} {T : TypeId} {m : Nat} (h : OwnP w g T m W) (hb : Below W.heap.size W W') : OwnP w g T m W' := by
 obtain ⟨cs, h1, h2, h3⟩ := h
 exact ⟨cs, h1.below hb h1.lt, h2, h3.trans (.of_below hb)⟩
theorem OwnP.cell {w W : World} {g : Nat} {T : TypeId} {m : Nat} (h : OwnP w g T m W) {i : Nat} (hi : i < m) : ∃ v, W.cell? ⟨g, i, none⟩ = some v := by
 obtain ⟨cs, h1, rfl, h3⟩ := h
 exact ⟨cs[i], by rw [h1.cell, Array.getElem?_eq_getElem hi]⟩
theorem OwnP.frozen {w W : World} {g : Nat} {T : TypeId} {m : Nat} (h : OwnP w g T m W) (i : Nat) : W.frozen? ⟨g, i, none⟩ = false := by
 obtain ⟨cs, h1, -, -⟩ := h
 exact h1.frozen i
theorem OwnP.but {w W : World} {g : Nat} {T : TypeId} {m : Nat} (h : OwnP w g T m W) : But (· = g) w W := by
 obtain ⟨cs, h1, -, h3⟩ := h
 exact h3
theorem heldIntS_calls (v : Value) (k : Int) (n : Nat) (w : World) (h : SlN enI w v (marks k n)) (h0 : 0 ≤ k) (h1 : k + n ≤ 1000000000000) :
 Makes Tryz.prog 37 #[v, .int .i64 k] w (.int .i64 (k + n)) := by
 obtain ⟨A, c, rfl, hnc, hl, hA⟩ := h
 rw [marks_length] at hnc hl ⊢
 go_enter Tryz.func37, Tryz.ntmps37
 go_wp2
 go_loopw [1, 5] (fun kk i wr => ∃ (j : Nat) (t : Int), j ≤ n ∧ i = .int .i64 j ∧ kk = .int .i64 t ∧ 0 ≤ t ∧ t ≤ 1000000000000 ∧ Hid (t = k + j) ∧ LaterC w wr) (fun _ i _ => n - (intOf i).toNat)
 case atStart => exact ⟨0, k, Nat.zero_le _, rfl, rfl, by omega, by omega, Lib.hid (by simp), LaterC.refl _⟩
 case round =>
  obtain ⟨j, t, hj, rfl, rfl, ht0, ht1, HT, ⟨u, rfl⟩⟩ := hrel
  by_cases hlt : j < n
  · obtain ⟨b, o, rfl, hx⟩ := hA j _ (marks_get hlt)
    rw [← HT.out] at hx
    have p0 := hx.int (Below.refl _ _)
    have hb2 : t + 1 ≤ 1000000000000 := by have := HT.out; omega
    clear hA hx
    go_wp2
    go_roundw
    case rel => exact ⟨j + 1, t + 1, by omega, by go_num, rfl, by omega, hb2, Lib.hid (by have := HT.out; push_cast; omega), ⟨u, rfl⟩⟩
    case measure => simp [intOf] <;> omega
  · obtain rfl : j = n := by omega
    clear hA
    go_wp2
    go_ret
    exact ⟨ret_eq (congrArg (Value.int .i64) HT.out), u.prop⟩
theorem markIntS_calls (v : Value) (xs : List Int) (k : Int) (w : World) (h : RowI w v xs) (h0 : 0 ≤ k) (h1 : k + xs.length ≤ 1000000000000) :
 Calls Tryz.prog 34 #[v, .int .i64 k] w fun e w' => e = .returned (.int .i64 (k + xs.length)) ∧ But (fun b => v.ownBlock = some b) w w' ∧ RowI w' v (marks k xs.length) := by
 obtain ⟨hl, ⟨rfl, rfl⟩ | ⟨g, cap, cur, rfl, ho, hc, hs, hf⟩⟩ := h
 · go_enter Tryz.func34, Tryz.ntmps34
   go_wp2
   refine wp_loop_rounds 1 ?_
   rw [rounds_succ]
   go_wp2
   go_ret
   exact ⟨ret_eq (congrArg (Value.int .i64) (by simp)), .refl _ _, by simp [marks], .inl ⟨rfl, rfl⟩⟩
 · generalize xs.length = n at *
   have HO := Lib.hid ho
   have HS := Lib.hid hs
   clear ho hs hf
   go_enter Tryz.func34, Tryz.ntmps34
   go_wp2
   go_loopw [1, 5] (fun kk i wr => ∃ (j : Nat) (t : Int) (cs : Array Value), j ≤ n ∧ i = .int .i64 j ∧ kk = .int .i64 t ∧ 0 ≤ t ∧ t ≤ 1000000000000 ∧ Hid (t = k + j ∧ OwnB wr g 3 cs ∧ cs.size = cap ∧ (∀ i, i < j → cs[i]? = some (.int .i64 (k + i))) ∧ But (· = g) w wr)) (fun _ i _ => n - (intOf i).toNat)
   case atStart => exact ⟨0, k, cur, Nat.zero_le _, rfl, rfl, by omega, by omega, Lib.hid ⟨by simp, HO.out, HS.out, fun i hi => absurd hi (Nat.not_lt_zero _), .refl _ _⟩⟩
   case round =>
    obtain ⟨j, t, cs, hj, rfl, rfl, ht0, ht1, HT⟩ := hrel
    by_cases hlt : j < n
    · have hjc : j < cs.size := by have := HT.out.2.2.1; omega
      have p0 : wr.cell? ⟨g, j, none⟩ = some cs[j] := by rw [HT.out.2.1.cell, Array.getElem?_eq_getElem hjc]
      have f0 := HT.out.2.1.frozen j
      have hb2 : t + 1 ≤ 1000000000000 := by have := HT.out.1; omega
      go_wp2
      go_roundw
      case rel =>
       refine ⟨j + 1, t + 1, cs.setIfInBounds j (.int .i64 t), by omega, by go_num, rfl, by omega, hb2, Lib.hid ⟨by have := HT.out.1; push_cast; omega, HT.out.2.1.set _ _, by simpa using HT.out.2.2.1, fun i hi => ?_, HT.out.2.2.2.2.setCell rfl _⟩⟩
       rcases Nat.lt_or_ge i j with g' | g'
       · rw [Array.getElem?_setIfInBounds_ne (by omega)]
         exact HT.out.2.2.2.1 i g'
       · obtain rfl : i = j := by omega
         rw [Array.getElem?_setIfInBounds_self_of_lt hjc, HT.out.1]
      case measure => simp [intOf] <;> omega
    · obtain rfl : j = n := by omega
      go_wp2
      go_ret
      refine ⟨ret_eq (congrArg (Value.int .i64) HT.out.1), HT.out.2.2.2.2.mono (fun b hb => congrArg some hb.symm), by rw [marks_length]; exact hl, .inr ⟨g, cap, cs, by rw [marks_length], HT.out.2.1, by rw [marks_length]; exact hc, HT.out.2.2.1, fun i x hx => ?_⟩⟩
      have hi : i < j := by have := (List.getElem?_eq_some_iff.1 hx).1; rwa [marks_length] at this
      rw [marks_get hi] at hx
      cases hx
      exact HT.out.2.2.2.1 i hi
theorem eqIntN_calls (v1 v2 : Value) (xs : List Int) (w : World) (h1 : SlN enI w v1 xs) (h2 : SlN enI w v2 xs) :
 Makes Tryz.prog 31 #[v1, v2] w (.bool true) := by
 obtain ⟨A, c, rfl, hnc, hc', hA⟩ := h1
 obtain ⟨B, d, rfl, -, hd', hB⟩ := h2
 generalize hN : xs.length = n at *
 have HN := Lib.hid hN
 clear hN
 have hn : n ≤ 281474976710656 := hc'
 clear hc' hd' hnc
 go_enter Tryz.func31, Tryz.ntmps31
 go_wp2
 go_loopw [5] (fun i wr => ∃ k : Nat, k ≤ n ∧ i = .int .i64 k ∧ LaterC w wr) (fun i _ => n - (intOf i).toNat)
 case atStart => exact ⟨0, Nat.zero_le _, rfl, LaterC.refl w⟩
 case round =>
  obtain ⟨k, hk, rfl, ⟨u, rfl⟩⟩ := hrel
  by_cases hlt : k < n
  · have hget := getD_at (show k < xs.length by rw [HN.out]; exact hlt) 0
    obtain ⟨b, o, rfl, hx⟩ := hA k _ hget
    obtain ⟨b', o', rfl, hy⟩ := hB k _ hget
    generalize xs.getD k 0 = x at hx hy
    have hx0 := hx.int (Below.refl _ _)
    have hy0 := hy.int (Below.refl _ _)
    clear hx hy hget hA hB
    go_wp2
    refine wp_region_later (w0 := w) (by kernel_rfl) (by kernel_rfl) ⟨_, rfl⟩ ?_
    repeat (go_big_quiet_step (fail))
    refine wpQuiet_nil ?_
    rintro _ ⟨u1, rfl⟩
    go_wp2
    go_roundw
    case rel => exact ⟨k + 1, by omega, by go_num, ⟨u1, rfl⟩⟩
    case measure => simp [intOf]; omega
  · obtain rfl : k = n := by omega
    clear hA hB
    go_wp2
    go_ret
    exact ⟨rfl, u.prop⟩
theorem markBindS_calls (g n m c : Nat) (k : Int) (w0 w : World) (h : OwnP w0 g 57 m w) (hm : n * 2 ≤ m) (hc : n ≤ c) (hn : n ≤ 1048576) (h0 : 0 ≤ k) (h1 : k + 2 * n ≤ 1000000000000) :
 Calls Tryz.prog 33 #[.slice (some ⟨g, 0, none⟩) n c, .int .i64 k] w fun e w' => e = .returned (.int .i64 (k + 2 * n)) ∧ OwnP w0 g 57 m w' := by
 have HO := Lib.hid h
 clear h
 go_enter Tryz.func33, Tryz.ntmps33
 go_wp2
 go_loopw [1, 5] (fun kk i wr => ∃ (j : Nat) (t : Int), j ≤ n ∧ i = .int .i64 j ∧ kk = .int .i64 t ∧ 0 ≤ t ∧ t ≤ 1000000000000 ∧ Hid (t = k + 2 * j ∧ OwnP w0 g 57 m wr)) (fun _ i _ => n - (intOf i).toNat)
 case atStart => exact ⟨0, k, Nat.zero_le _, rfl, rfl, by omega, by omega, Lib.hid ⟨by simp, HO.out⟩⟩
 case round =>
  obtain ⟨j, t, hj, rfl, rfl, ht0, ht1, HT⟩ := hrel
  by_cases hlt : j < n
  · obtain ⟨x0, p0⟩ := HT.out.2.cell (i := j * 2) (by omega)
    obtain ⟨x1, p1⟩ := HT.out.2.cell (i := j * 2 + 1) (by omega)
    have f0 := HT.out.2.frozen (j * 2)
    have f1 := HT.out.2.frozen (j * 2 + 1)
    have hb2 : t + 2 ≤ 1000000000000 := by have := HT.out.1; omega
    go_wp2
    go_roundw
    case rel => exact ⟨j + 1, t + 1 + 1, by omega, by go_num, rfl, by omega, by omega, Lib.hid ⟨by have := HT.out.1; push_cast; omega, (HT.out.2.set _ _).set _ _⟩⟩
    case measure => simp [intOf] <;> omega
  · obtain rfl : j = n := by omega
    go_wp2
    go_ret
    exact ⟨ret_eq (congrArg (Value.int .i64) HT.out.1), HT.out.2⟩
theorem pow_step {t d : Nat} (h : t < 10 ^ (d + 1)) : t / 10 < 10 ^ d := by
 rw [Nat.pow_succ] at h
 omega
theorem markText_calls (k : Int) (w : World) (h0 : 1 ≤ k) (h1 : k ≤ 1000000000000) :
 Calls Tryz.prog 70 #[.int .i64 k] w fun e w' => ∃ s, e = .returned (.string s) ∧ Below w.heap.size w w' := by
 obtain ⟨K, rfl⟩ := Int.eq_ofNat_of_zero_le (show 0 ≤ k by omega)
 go_enter Tryz.func70, Tryz.ntmps70
 go_wp2
 go_loopw [0, 3] (fun kk s wr => ∃ (t d : Nat) (b : ByteArray), kk = .int .i64 t ∧ s = .string b ∧ t ≤ 1000000000000 ∧ Hid (t < 10 ^ d ∧ b.size + d ≤ 20) ∧ LaterC w wr) (fun kk _ _ => (intOf kk).toNat)
 case atStart => exact ⟨K, 13, ByteArray.empty, rfl, rfl, by omega, Lib.hid ⟨by omega, by decide⟩, LaterC.refl _⟩
 case round =>
  obtain ⟨t, d, b, rfl, rfl, ht, HT, ⟨u, rfl⟩⟩ := hrel
  by_cases hlt : 0 < t
  · have hd : ∃ d', d = d' + 1 := ⟨d - 1, by
     have h1 := HT.out.1
     rcases d with _ | d'
     · simp at h1; omega
     · rfl⟩
    obtain ⟨d', rfl⟩ := hd
    have HT2 := Lib.hid (show t / 10 < 10 ^ d' ∧ (b.size + 1) + d' ≤ 20 from ⟨pow_step HT.out.1, by have := HT.out.2; omega⟩)
    have hbs : b.size ≤ 20 := by have := HT.out.2; omega
    have hcv : (convert 110 9 (.slice (some ⟨u.val.heap.size, 0, none⟩) 1 1)).run Tryz.prog (u.val.alloc (Obj.cells #[.int .u8 (48 + (t : Int) % 10)] 5)) = .ok (.string ⟨#[UInt8.ofNat (48 + t % 10)]⟩) (u.val.alloc (Obj.cells #[.int .u8 (48 + (t : Int) % 10)] 5)) := by
     refine run_convert_bytes_back _ _ _ 5 ⟨u.val.heap.size, 0, none⟩ 1 [UInt8.ofNat (48 + t % 10)] Tryz.underlying110 Tryz.underlying5 Tryz.underlying9 (fun j hj => ?_)
     obtain rfl : j = 0 := by simpa using hj
     have h1 : (48 + t % 10) % 256 = 48 + t % 10 := by omega
     show (u.val.alloc (Obj.cells #[.int .u8 (48 + (t : Int) % 10)] 5)).cell? ⟨u.val.heap.size, 0, none⟩ = _
     rw [(OwnB.new u.val 5 #[.int .u8 (48 + (t : Int) % 10)] : OwnB _ _ _ _).cell 0]
     simp [UInt8.toNat_ofNat', h1]
    go_wp2
    go_roundw
    case rel =>
     refine ⟨t / 10, d', _, by push_cast; rfl, rfl, by omega, Lib.hid ⟨HT2.out.1, ?_⟩, u.alloc _⟩
     have := HT2.out.2
     rw [ByteArray.size_append]
     show 1 + b.size + d' ≤ 20
     omega
    case measure => simp [intOf] <;> omega
  · obtain rfl : t = 0 := by omega
    have hbs : b.size ≤ 20 := by have := HT.out.2; omega
    go_wp2
    go_ret
    exact ⟨_, rfl, u.prop⟩
theorem at_own {φ : World → Prop} {W w0 : World} {g m : Nat} {T : TypeId} (h : OwnP w0 g T m W) (k : ∀ W', OwnP w0 g T m W' → φ W') : φ W := k W h
theorem markNodeS_calls (g n m c : Nat) (k : Int) (w0 w : World) (h : OwnP w0 g 46 m w) (hm : n * 9 ≤ m) (hc : n ≤ c) (hn : n ≤ 1048576) (h0 : 1 ≤ k) (h1 : k + 9 * n ≤ 1000000000000) :
 Calls Tryz.prog 32 #[.slice (some ⟨g, 0, none⟩) n c, .int .i64 k] w fun e w' => e = .returned (.int .i64 (k + 9 * n)) ∧ OwnP w0 g 46 m w' := by
 have HO := Lib.hid h
 clear h
 go_enter Tryz.func32, Tryz.ntmps32
 go_wp2
 go_loopw [1, 5] (fun kk i wr => ∃ (j : Nat) (t : Int), j ≤ n ∧ i = .int .i64 j ∧ kk = .int .i64 t ∧ 1 ≤ t ∧ t ≤ 1000000000000 ∧ Hid (t = k + 9 * j ∧ OwnP w0 g 46 m wr)) (fun _ i _ => n - (intOf i).toNat)
 case atStart => exact ⟨0, k, Nat.zero_le _, rfl, rfl, by omega, by omega, Lib.hid ⟨by simp, HO.out⟩⟩
 case round =>
  obtain ⟨j, t, hj, rfl, rfl, ht0, ht1, HT⟩ := hrel
  by_cases hlt : j < n
  · obtain ⟨x0, p0⟩ := HT.out.2.cell (i := j * 9) (by omega)
    obtain ⟨x1, p1⟩ := HT.out.2.cell (i := j * 9 + 1) (by omega)
    obtain ⟨x2, p2⟩ := HT.out.2.cell (i := j * 9 + 2) (by omega)
    obtain ⟨x3, p3⟩ := HT.out.2.cell (i := j * 9 + 3) (by omega)
    obtain ⟨x4, p4⟩ := HT.out.2.cell (i := j * 9 + 4) (by omega)
    obtain ⟨x5, p5⟩ := HT.out.2.cell (i := j * 9 + 5) (by omega)
    obtain ⟨x6, p6⟩ := HT.out.2.cell (i := j * 9 + 6) (by omega)
    obtain ⟨x7, p7⟩ := HT.out.2.cell (i := j * 9 + 7) (by omega)
    have f0 := HT.out.2.frozen (j * 9)
    have f1 := HT.out.2.frozen (j * 9 + 1)
    have f2 := HT.out.2.frozen (j * 9 + 2)
    have f3 := HT.out.2.frozen (j * 9 + 3)
    have f4 := HT.out.2.frozen (j * 9 + 4)
    have f5 := HT.out.2.frozen (j * 9 + 5)
    have f6 := HT.out.2.frozen (j * 9 + 6)
    have f7 := HT.out.2.frozen (j * 9 + 7)
    have hb2 : t + 9 ≤ 1000000000000 := by have := HT.out.1; omega
    go_upto_region 20 with fail
    refine at_own (w0 := w0) (g := g) (T := 46) (m := m) ?_ ?_
    · repeat (first | with_reducible exact HT.out.2 | with_reducible refine OwnP.set ?_ _ _)
    intro W8 h8
    have H8 := Lib.hid h8
    clear h8 p0 p1 p2 p3 p4 p5 p6 p7 f0 f1 f2 f3 f4 f5 f6 f7
    go_wp2_with (go_at_call 70; refine (markText_calls _ _ (by omega) (by omega)).mono ?_; rintro e w' ⟨s, rfl, hb⟩; have H9 := Lib.hid (H8.out.below hb); obtain ⟨x8, p8⟩ := H9.out.cell (i := j * 9 + 8) (by omega); have f8 := H9.out.frozen (j * 9 + 8); clear hb)
    go_roundw
    case rel => exact ⟨j + 1, _, by omega, by go_num, rfl, by omega, by omega, Lib.hid ⟨by have := HT.out.1; push_cast; omega, H9.out.set _ _⟩⟩
    case measure => simp [intOf] <;> omega
  · obtain rfl : j = n := by omega
    go_wp2
    go_ret
    exact ⟨ret_eq (congrArg (Value.int .i64) HT.out.1), HT.out.2⟩
theorem fresh_own {α : Type} {E : En α} {T : TypeId} {wa w W : World} {g : Nat} {xs : List α} {S : Nat → Prop} (f : FreshG E T wa w g xs) (hb : But S w W) (hg : ¬ S g) : OwnP W g T (xs.length * E.sz) W := by
 obtain ⟨cs, -, ho, hs, -⟩ := f
 exact ⟨cs, ho.but hb hg, hs, .refl _ _⟩
theorem FreshG.rowI {wa w : World} {g : Nat} {xs : List Int} (f : FreshG enI 3 wa w g xs) (hl : xs.length ≤ 281474976710656) : RowI w (slOf g xs) xs := by
 obtain ⟨cs, -, ho, hs, hf⟩ := f
 refine ⟨hl, .inr ⟨g, xs.length, cs, rfl, ho, Nat.le_refl _, by simpa using hs, fun i x hx => ?_⟩⟩
 have := hf i x (List.getElem?_eq_some_iff.1 hx).1 hx 0 _ rfl
 simpa using this
theorem but_step {w wi wj : World} {g0 g h : Nat} (hi : But (fun b => g0 ≤ b ∧ b < g) w wi) (hj : But (· = g) wi wj) (h0 : g0 ≤ g) (hg : g < h) : But (fun b => g0 ≤ b ∧ b < h) w wj :=
 (hi.mono fun b hb => ⟨hb.1, by omega⟩).trans (hj.mono fun b hb => by subst hb; exact ⟨h0, hg⟩)
theorem markModel_le (M : Md) {wa : World} (w : World) (g0 g1 g2 g3 g4 : Nat) (hlen : M.nodes.length ≤ 1048576 ∧ M.inits.length ≤ 1048576 ∧ M.nexts.length ≤ 1048576 ∧ M.bads.length ≤ 1048576 ∧ M.holds.length ≤ 1048576) (hx : g0 < g1 ∧ g1 < g2 ∧ g2 < g3 ∧ g3 < g4)
 (f0 : FreshG enNd 46 wa w g0 M.nodes) (f1 : FreshG enBd 57 wa w g1 M.inits) (f2 : FreshG enBd 57 wa w g2 M.nexts) (f3 : FreshG enI 3 wa w g3 M.bads) (f4 : FreshG enI 3 wa w g4 M.holds) :
 Calls Tryz.prog 9 #[.agg #[slOf g0 M.nodes, slOf g1 M.inits, slOf g2 M.nexts, slOf g3 M.bads, slOf g4 M.holds], .int .i64 1] w fun e w' => ∃ r, e = .returned (.int .i64 r) ∧ (0 ≤ r ∧ r ≤ 100000000) ∧ But (fun b => g0 ≤ b ∧ b ≤ g4) w w' := by
 have HF := Lib.hid (show _ ∧ _ ∧ _ ∧ _ ∧ _ from ⟨f0, f1, f2, f3, f4⟩)
 have HX := Lib.hid hx
 have HLT := Lib.hid (show g4 < w.heap.size from f4.lt)
 obtain ⟨l0, l1, l2, l3, l4⟩ := hlen
 clear f0 f1 f2 f3 f4 hx
 go_enter Tryz.func9, Tryz.ntmps9
 have b0 := box_cell w #[slOf g0 M.nodes, slOf g1 M.inits, slOf g2 M.nexts, slOf g3 M.bads, slOf g4 M.holds] 31 0 _ rfl
 have b1 := box_cell w #[slOf g0 M.nodes, slOf g1 M.inits, slOf g2 M.nexts, slOf g3 M.bads, slOf g4 M.holds] 31 1 _ rfl
 have b2 := box_cell w #[slOf g0 M.nodes, slOf g1 M.inits, slOf g2 M.nexts, slOf g3 M.bads, slOf g4 M.holds] 31 2 _ rfl
 have b3 := box_cell w #[slOf g0 M.nodes, slOf g1 M.inits, slOf g2 M.nexts, slOf g3 M.bads, slOf g4 M.holds] 31 3 _ rfl
 have b4 := box_cell w #[slOf g0 M.nodes, slOf g1 M.inits, slOf g2 M.nexts, slOf g3 M.bads, slOf g4 M.holds] 31 4 _ rfl
 have hb := box_below w #[slOf g0 M.nodes, slOf g1 M.inits, slOf g2 M.nexts, slOf g3 M.bads, slOf g4 M.holds] 31
 go_upto_region 1 with fail
 generalize w.alloc (.cells #[slOf g0 M.nodes, slOf g1 M.inits, slOf g2 M.nexts, slOf g3 M.bads, slOf g4 M.holds] 31) = W0 at *
 have c0 : W0.cell? ⟨w.heap.size, 0, none⟩ = some (slOf g0 M.nodes) := b0 ⟨W0, Below.refl _ _⟩
 have c1 : W0.cell? ⟨w.heap.size, 1, none⟩ = some (slOf g1 M.inits) := b1 ⟨W0, Below.refl _ _⟩
 have c2 : W0.cell? ⟨w.heap.size, 2, none⟩ = some (slOf g2 M.nexts) := b2 ⟨W0, Below.refl _ _⟩
 have c3 : W0.cell? ⟨w.heap.size, 3, none⟩ = some (slOf g3 M.bads) := b3 ⟨W0, Below.refl _ _⟩
 have c4 : W0.cell? ⟨w.heap.size, 4, none⟩ = some (slOf g4 M.holds) := b4 ⟨W0, Below.refl _ _⟩
 have HB0 := Lib.hid (show But (fun b => g0 ≤ b ∧ b < g0) w W0 from .of_below hb)
 clear b0 b1 b2 b3 b4 hb
 go_upto_region 2 with (go_at_call 32; refine (markNodeS_calls g0 M.nodes.length _ _ 1 W0 W0 (fresh_own HF.out.1 HB0.out (fun h => Nat.lt_irrefl _ h.2)) (Nat.le_refl _) (Nat.le_refl _) l0 (by omega) (by omega)).mono ?_; rintro e W1 ⟨rfl, ho⟩; have HB1 := Lib.hid (but_step HB0.out ho.but (Nat.le_refl _) HX.out.1); have HO1 := Lib.hid ho.but; clear ho)
 have c1 := cell_but c1 HO1.out (by show ¬ w.heap.size = g0; have := HLT.out; have := HX.out; omega)
 have c2 := cell_but c2 HO1.out (by show ¬ w.heap.size = g0; have := HLT.out; have := HX.out; omega)
 have c3 := cell_but c3 HO1.out (by show ¬ w.heap.size = g0; have := HLT.out; have := HX.out; omega)
 have c4 := cell_but c4 HO1.out (by show ¬ w.heap.size = g0; have := HLT.out; have := HX.out; omega)
 clear c0
 generalize hk1 : (1 : Int) + 9 * (M.nodes.length : Int) = k1 at *
 have h1 : 1 ≤ k1 ∧ k1 ≤ 10000000 := by omega
 clear hk1
 go_upto_region 3 with (go_at_call 33; refine (markBindS_calls g1 M.inits.length _ _ k1 W1 W1 (fresh_own HF.out.2.1 HB1.out (fun h => Nat.lt_irrefl _ h.2)) (Nat.le_refl _) (Nat.le_refl _) l1 (by omega) (by omega)).mono ?_; rintro e W2 ⟨rfl, ho⟩; have HB2 := Lib.hid (but_step HB1.out ho.but (by have := HX.out; omega) HX.out.2.1); have HO2 := Lib.hid ho.but; clear ho)
 have c2 := cell_but c2 HO2.out (by show ¬ w.heap.size = g1; have := HLT.out; have := HX.out; omega)
 have c3 := cell_but c3 HO2.out (by show ¬ w.heap.size = g1; have := HLT.out; have := HX.out; omega)
 have c4 := cell_but c4 HO2.out (by show ¬ w.heap.size = g1; have := HLT.out; have := HX.out; omega)
 clear c1
 generalize hk2 : k1 + 2 * (M.inits.length : Int) = k2 at *
 have h2 : 1 ≤ k2 ∧ k2 ≤ 20000000 := by omega
 clear hk2 h1
 go_upto_region 4 with (go_at_call 33; refine (markBindS_calls g2 M.nexts.length _ _ k2 W2 W2 (fresh_own HF.out.2.2.1 HB2.out (fun h => Nat.lt_irrefl _ h.2)) (Nat.le_refl _) (Nat.le_refl _) l2 (by omega) (by omega)).mono ?_; rintro e W3 ⟨rfl, ho⟩; have HB3 := Lib.hid (but_step HB2.out ho.but (by have := HX.out; omega) HX.out.2.2.1); have HO3 := Lib.hid ho.but; clear ho)
 have c3 := cell_but c3 HO3.out (by show ¬ w.heap.size = g2; have := HLT.out; have := HX.out; omega)
 have c4 := cell_but c4 HO3.out (by show ¬ w.heap.size = g2; have := HLT.out; have := HX.out; omega)
 clear c2
 generalize hk3 : k2 + 2 * (M.nexts.length : Int) = k3 at *
 have h3 : 1 ≤ k3 ∧ k3 ≤ 30000000 := by omega
 clear hk3 h2
 go_upto_region 5 with (go_at_call 34; refine (markIntS_calls _ M.bads k3 W3 ((HF.out.2.2.2.1.rowI (by omega)).but HB3.out (fun b hb h => by cases hb; exact Nat.lt_irrefl _ h.2)) (by omega) (by omega)).mono ?_; rintro e W4 ⟨rfl, hbut, -⟩; have HO4 := Lib.hid (show But (· = g3) W3 W4 from hbut.mono fun b hb => by cases hb; rfl); have HB4 := Lib.hid (but_step HB3.out HO4.out (by have := HX.out; omega) HX.out.2.2.2); clear hbut)
 have c4 := cell_but c4 HO4.out (by show ¬ w.heap.size = g3; have := HLT.out; have := HX.out; omega)
 clear c3
 generalize hk4 : k3 + (M.bads.length : Int) = k4 at *
 have h4 : 1 ≤ k4 ∧ k4 ≤ 40000000 := by omega
 clear hk4 h3
 go_wp2_with (go_at_call 34; refine (markIntS_calls _ M.holds k4 W4 ((HF.out.2.2.2.2.rowI (by omega)).but HB4.out (fun b hb h => by cases hb; exact Nat.lt_irrefl _ h.2)) (by omega) (by omega)).mono ?_; rintro e W5 ⟨rfl, hbut, -⟩; have HO5 := Lib.hid (show But (· = g4) W4 W5 from hbut.mono fun b hb => by cases hb; rfl); clear hbut)
 go_ret
 exact ⟨_, rfl, ⟨by omega, by omega⟩, (but_step HB4.out HO5.out (by have := HX.out; omega) (Nat.lt_succ_self _)).mono fun b hb => ⟨hb.1, Nat.lt_succ_iff.1 hb.2⟩⟩
theorem markModel_calls (M : Md) {wa : World} (w : World) (g0 g1 g2 g3 g4 : Nat) (hlen : M.nodes.length ≤ 1048576 ∧ M.inits.length ≤ 1048576 ∧ M.nexts.length ≤ 1048576 ∧ M.bads.length ≤ 1048576 ∧ M.holds.length ≤ 1048576) (hx : g0 < g1 ∧ g1 < g2 ∧ g2 < g3 ∧ g3 < g4)
 (f0 : FreshG enNd 46 wa w g0 M.nodes) (f1 : FreshG enBd 57 wa w g1 M.inits) (f2 : FreshG enBd 57 wa w g2 M.nexts) (f3 : FreshG enI 3 wa w g3 M.bads) (f4 : FreshG enI 3 wa w g4 M.holds) :
 Calls Tryz.prog 9 #[.agg #[slOf g0 M.nodes, slOf g1 M.inits, slOf g2 M.nexts, slOf g3 M.bads, slOf g4 M.holds], .int .i64 1] w fun e w' => ∃ r, e = .returned (.int .i64 r) ∧ 0 ≤ r ∧ But (fun b => g0 ≤ b ∧ b ≤ g4) w w' :=
 (markModel_le M w g0 g1 g2 g3 g4 hlen hx f0 f1 f2 f3 f4).mono fun _ _ ⟨r, he, hr, hb⟩ => ⟨r, he, hr.1, hb⟩
end Go.Proofs.YtdojaijnejcoiaaGreat
