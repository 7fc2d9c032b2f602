/- For every sort the law 'FnExactSortBits' returns true and leaves its argument as it was; no condition. -/
import Derived.Test.YtbacmlbdgolcfaaRows
import Derived.Test.YtbacmlbdgolcfaaPFnExactSortBitsx1
import Derived.Test.YtbacmlbdgolcfaaPureFnExactSortBits
import Derived.WalkKit
import Derived.ProofKit
import Derived.OpenShut
import Derived.ShutString
import Derived.ChangeOld
import Derived.Below
import Derived.SizedLaws
import Derived.RowKit3
namespace Go.Proofs.Ytbacmlbdgolcfaa.fnExactSortBits
open Go.ChangeShapes Go.WideShapes Go.ChangeAt Go.RowKit
set_option linter.unusedVariables false
theorem own : ownKnob Try.prog.godebug = none := by kernel_rfl
theorem cells3 : Try.prog.cellsOf 3 = 1 := by kernel_rfl
theorem cells25 : Try.prog.cellsOf 25 = 2 := by kernel_rfl
theorem two_of {α : Type} {l : List α} (h : (⟨l⟩ : Array α).size = 2) : ∃ a b, l = [a, b] := by
  match l, h with
  | [a, b], _ => exact ⟨a, b, rfl⟩
set_option maxRecDepth 100000 in
theorem lifted (os : Os) (started : os.Started) (H : Type) (enc : TypeId × Value → H) :
    ReturnsInHanded {} Try.checked os 11 .any (Rows.fnExactSortBitsSpec.pre6 enc Try.prog Try.f11 Rows.fnExactSortBitsRow.domain false) (Rows.fnExactSortBitsSpec.post enc Try.prog Try.f11 false true false false) := by
  refine returnsInHanded_of_change_sized (C := Try.checked) own started (by kernel_rfl) Try.func11
    (ChangeSpec.witness6 (enc := enc) (C := Try.checked) false ⟨#[], #[.agg #[.int .i64 0, .int .i64 0]], []⟩ 8 (by kernel_rfl) (by kernel_rfl) (by kernel_rfl) (by kernel_rfl)) ?_
  intro W base args ds gs before hval0 hW hcnd hsz0 _
  have hval : ∀ (j : Nat) t v, Try.f11.params[j]? = some t → args[j]? = some v → Value.okWide Try.prog W .any base t v := hval0
  have hW' := hW
  obtain ⟨p, q, hA0, hV, rfl, hfz, hnd⟩ := hW
  have hA : DataW.TrodAll enc Try.prog W 0 (fun _ => true) true Try.f11.params.toList args.toList ds p := hA0
  rw [Try.params11] at hA hval
  obtain ⟨v0, vs0, d0, ds0, p0, q0, hargs, rfl, rfl, h0, r0⟩ := trodAll_cons hA
  obtain ⟨rfl, rfl, rfl⟩ := trodAll_nil r0
  obtain rfl : args = #[v0] := by cases args; simp_all
  obtain ⟨rfl, rfl⟩ := trodVars_none hV
  obtain ⟨cs, rfl, hsz⟩ := okWide_struct Try.underlying25 (hval 0 25 v0 rfl rfl)
  rw [cells25] at hsz
  obtain ⟨l⟩ := cs
  obtain ⟨c0, c1, rfl⟩ := two_of (l := l) hsz
  obtain ⟨fuel, hf⟩ := h0
  obtain ⟨y0, y1, m, hx, _, hy0, hy1⟩ := trod_struct2 Try.underlying25 hf
  obtain ⟨a, e0, rfl, wa⟩ := DataW.trod_int Try.underlying3 hy0
  obtain ⟨b, e1, rfl, wb⟩ := DataW.trod_int Try.underlying3 hy1
  simp [Value.cells, cells3] at e0 e1
  subst e0 e1
  simp only [Prod.mk.injEq] at hx
  obtain ⟨rfl, rfl⟩ := hx
  clear hA0 hval0 hsz0
  have structReads : ∀ (W' : World) (sp : Nat → Bool), DataW.Trod enc Try.prog W' 0 sp true 25 (.agg #[.int .i64 a, .int .i64 b]) (.agg [.lit (.int .i64 a), .lit (.int .i64 b)]) [] := fun W' sp => ⟨2, by
    have f0 : DataW.trod enc Try.prog W' 0 sp true 1 3 [.int .i64 a] = some (.lit (.int .i64 a), []) := by simp [DataW.trod, Try.underlying3, wa]
    have f1 : DataW.trod enc Try.prog W' 0 sp true 1 3 [.int .i64 b] = some (.lit (.int .i64 b), []) := by simp [DataW.trod, Try.underlying3, wb]
    have := trod_struct2_mk (enc := enc) (w := W') (base := 0) (spare := sp) (held := true) (n := 1) (cs := [.int .i64 a, .int .i64 b]) Try.underlying25 (by simp [cells25]) (by simpa [cells3] using f0) (by simpa [cells3] using f1)
    simpa [Value.cells] using this⟩
  refine (PFnExactSortBits.laws_FnExactSortBits.calls a b true W (Pure.FnExactSortBits a b)).mono fun e W' ⟨he, bel⟩ => ?_
  subst he
  exact ⟨_, rfl, _, _, _, [], _, [], hW', trodAll_mk1 (shut_bool Try.underlying4 _), trodAll_cons_mk (structReads _ _) trodAll_mk0, rfl, bel.frame _, fun h => by cases h⟩
theorem over : Rows.fnExactSortBitsRow.holds Try.pinned (OpenSpec.ofChange Rows.fnExactSortBitsSpec) :=
  OpenClaim.holds_of_wide 11 Try.f11 rfl rfl rfl rfl rfl rfl rfl ⟨rfl, rfl, rfl, rfl, rfl⟩ rfl rfl rfl rfl rfl (by kernel_rfl) Try.func11 (by kernel_rfl)
    (of_decide_eq_true (by kernel_rfl)) (by unfold Func.isWrapper; first | (rw [if_pos (by decide +kernel)]; kernel_rfl) | (rw [if_neg (by decide +kernel)]; exact ⟨rfl, rfl⟩))
    (fun os started H enc _ => lifted os started H enc)
end Go.Proofs.Ytbacmlbdgolcfaa.fnExactSortBits
namespace Go.Proofs.Ytbacmlbdgolcfaa
theorem fnExactSortBits_holds : Rows.FnExactSortBitsSaid := fnExactSortBits.over
#print axioms fnExactSortBits_holds
end Go.Proofs.Ytbacmlbdgolcfaa
