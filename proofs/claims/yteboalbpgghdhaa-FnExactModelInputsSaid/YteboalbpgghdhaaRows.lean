/-
  No cell of these rows narrows 'for every input' (looked for: loops, veiled, ifaces, maps, wideKeys, modest, calm, conditions, laid).
  DERIVED. THE GIVEN ROWS OF THIS SEAT. 4 by the template 'for every input the law returns true; each argument reads behind the call as it read before'; 0 by the template 'total and deterministic' (their statements: YteboalbpgghdhaaTotals.lean).
  GIVEN WITH THE SEED: the statements are not yours to turn. If you find one false, say at which input.
  Laid BY PROGRAM, IN A SANDBOX (cutbox-rows.mjs): the forced cells as the released guide's own fill.sh prints them over the translation 387e1b15aea304b1… (all of the seat's roots in one cut). By AI agents, Wed Nov 11 2026. No macro, syntax, notation, axiom, sorry.
-/
import Derived.Test.YteboalbpgghdhaaChecked
import GoSem.Claim
import GoSem.ClaimJoined
import GoSem.ClaimMapViews
import Derived.JoinedTies
import Derived.KernelRfl
namespace Go.Proofs.Yteboalbpgghdhaa
/- THE CELL 'sum', in the pinned program and in every row, IS THE sha256 OF THE DUMP (.gsa) THAT YteboalbpgghdhaaProg.lean LOADS. Nothing in Lean hashes anything: it is a label: what it is worth is what the hold of that sum in a sandbox is worth. -/
noncomputable def Try.pinned : Pinned := { name := "yteboalbpgghdhaa", sum := "387e1b15aea304b109753d593b0ad058df47683a90bcd4ff0a9a1f9933b8a70d", checked := Try.checked }
namespace Rows
def none {H : Type} : Left H := { results := [], args := [] }

/-- 'laws.FnPlaces': WHATEVER THE INPUT: true; the input reads as it did. -/
def fnPlacesSpec : ChangeSpec := { name := "fnPlaces", fn := fun _ => fun
  | [d] => { results := [.lit (.bool true)], args := [d] }
  | _ => none }
def fnPlacesRow : OpenClaim := { program := "yteboalbpgghdhaa", sum := "387e1b15aea304b109753d593b0ad058df47683a90bcd4ff0a9a1f9933b8a70d", func := "loop.example/leadline/laws.FnPlaces", spec := "fnPlaces", unfollowed := true, recurses := true, apart := false }
def FnPlacesSaid : Prop := fnPlacesRow.holds Try.pinned (OpenSpec.ofChange fnPlacesSpec)

/-- ITS FALSE NEIGHBOUR: 'it returns false'. Refute it at one input. -/
def fnPlacesWrong : ChangeSpec := { name := "fnPlaces", fn := fun _ => fun
  | [d] => { results := [.lit (.bool false)], args := [d] }
  | _ => none }
def FnPlacesWrongFalsely : Prop := fnPlacesRow.holds Try.pinned (OpenSpec.ofChange fnPlacesWrong)

/-- 'laws.FnExactModelInputs': WHATEVER THE INPUT: true; the input reads as it did. -/
def fnExactModelInputsSpec : ChangeSpec := { name := "fnExactModelInputs", fn := fun _ => fun
  | [d] => { results := [.lit (.bool true)], args := [d] }
  | _ => none }
def fnExactModelInputsRow : OpenClaim := { program := "yteboalbpgghdhaa", sum := "387e1b15aea304b109753d593b0ad058df47683a90bcd4ff0a9a1f9933b8a70d", func := "loop.example/leadline/laws.FnExactModelInputs", spec := "fnExactModelInputs", unfollowed := true, recurses := true, apart := false }
def FnExactModelInputsSaid : Prop := fnExactModelInputsRow.holds Try.pinned (OpenSpec.ofChange fnExactModelInputsSpec)

/-- ITS FALSE NEIGHBOUR: 'it returns false'. Refute it at one input. -/
def fnExactModelInputsWrong : ChangeSpec := { name := "fnExactModelInputs", fn := fun _ => fun
  | [d] => { results := [.lit (.bool false)], args := [d] }
  | _ => none }
def FnExactModelInputsWrongFalsely : Prop := fnExactModelInputsRow.holds Try.pinned (OpenSpec.ofChange fnExactModelInputsWrong)

/-- 'laws.FnExactModelStates': WHATEVER THE INPUT: true; the input reads as it did. -/
def fnExactModelStatesSpec : ChangeSpec := { name := "fnExactModelStates", fn := fun _ => fun
  | [d] => { results := [.lit (.bool true)], args := [d] }
  | _ => none }
def fnExactModelStatesRow : OpenClaim := { program := "yteboalbpgghdhaa", sum := "387e1b15aea304b109753d593b0ad058df47683a90bcd4ff0a9a1f9933b8a70d", func := "loop.example/leadline/laws.FnExactModelStates", spec := "fnExactModelStates", unfollowed := true, recurses := true, apart := false }
def FnExactModelStatesSaid : Prop := fnExactModelStatesRow.holds Try.pinned (OpenSpec.ofChange fnExactModelStatesSpec)

/-- ITS FALSE NEIGHBOUR: 'it returns false'. Refute it at one input. -/
def fnExactModelStatesWrong : ChangeSpec := { name := "fnExactModelStates", fn := fun _ => fun
  | [d] => { results := [.lit (.bool false)], args := [d] }
  | _ => none }
def FnExactModelStatesWrongFalsely : Prop := fnExactModelStatesRow.holds Try.pinned (OpenSpec.ofChange fnExactModelStatesWrong)

/-- 'laws.FnKept': WHATEVER THE INPUT: true; the input reads as it did. -/
def fnKeptSpec : ChangeSpec := { name := "fnKept", fn := fun _ => fun
  | [d] => { results := [.lit (.bool true)], args := [d] }
  | _ => none }
def fnKeptRow : OpenClaim := { program := "yteboalbpgghdhaa", sum := "387e1b15aea304b109753d593b0ad058df47683a90bcd4ff0a9a1f9933b8a70d", func := "loop.example/leadline/laws.FnKept", spec := "fnKept", unfollowed := true, recurses := true, apart := false }
def FnKeptSaid : Prop := fnKeptRow.holds Try.pinned (OpenSpec.ofChange fnKeptSpec)

/-- ITS FALSE NEIGHBOUR: 'it returns false'. Refute it at one input. -/
def fnKeptWrong : ChangeSpec := { name := "fnKept", fn := fun _ => fun
  | [d] => { results := [.lit (.bool false)], args := [d] }
  | _ => none }
def FnKeptWrongFalsely : Prop := fnKeptRow.holds Try.pinned (OpenSpec.ofChange fnKeptWrong)

/- THE SECOND FORM. 'bulk': how many values and letters a reading holds, each counted each time it is reached (what is shared counts as often as it is met; a slice's spare places count too). A statement '..UptoSaid' is the law's where the arguments, and the package variables that the reading takes, are together of bulk at most 1048576: NARROWER than '..Said'. Prove '..Said' where nothing that the law and all that it calls make is longer than what came in: it says more and counts as full. Else prove '..UptoSaid'. A law counts once. -/
mutual
def uptoBulk {H : Type} : DataW H → Nat
  | .lit (.string bytes) => bytes.length + 1
  | .lit _ => 1
  | .nil => 1
  | .ptr d => uptoBulk d + 1
  | .slice elems spare => uptoBulkAll elems + uptoBulkAll spare + 1
  | .agg parts => uptoBulkAll parts + 1
  | .iface _ d => uptoBulk d + 1
  | .map entries => uptoBulkEntries entries + 1
  | .held _ => 1
def uptoBulkAll {H : Type} : List (DataW H) → Nat
  | [] => 0
  | d :: r => uptoBulk d + uptoBulkAll r
def uptoBulkEntries {H : Type} : List (Lit × DataW H) → Nat
  | [] => 0
  | x :: r => uptoBulkEntry x + uptoBulkEntries r
def uptoBulkEntry {H : Type} : Lit × DataW H → Nat
  | (.string bytes, d) => bytes.length + uptoBulk d + 1
  | (_, d) => uptoBulk d + 1
 end
def uptoSmall : (H : Type) → List (DataW H) → Bool := fun _ ds => decide (uptoBulkAll ds ≤ 1048576)
def OpenSpec.upto (s : _root_.Go.ChangeSpec) : _root_.Go.OpenSpec := { _root_.Go.OpenSpec.ofChange s with cond := some uptoSmall }

/-- 'laws.FnPlaces', WHERE WHAT IT READS IS OF BULK AT MOST 1048576: true; the input reads as it did. -/
def fnPlacesUptoRow : OpenClaim := { program := "yteboalbpgghdhaa", sum := "387e1b15aea304b109753d593b0ad058df47683a90bcd4ff0a9a1f9933b8a70d", func := "loop.example/leadline/laws.FnPlaces", spec := "fnPlaces", unfollowed := true, recurses := true, apart := false, narrowed := true }
def FnPlacesUptoSaid : Prop := fnPlacesUptoRow.holds Try.pinned (OpenSpec.upto fnPlacesSpec)

/-- 'laws.FnExactModelInputs', WHERE WHAT IT READS IS OF BULK AT MOST 1048576: true; the input reads as it did. -/
def fnExactModelInputsUptoRow : OpenClaim := { program := "yteboalbpgghdhaa", sum := "387e1b15aea304b109753d593b0ad058df47683a90bcd4ff0a9a1f9933b8a70d", func := "loop.example/leadline/laws.FnExactModelInputs", spec := "fnExactModelInputs", unfollowed := true, recurses := true, apart := false, narrowed := true }
def FnExactModelInputsUptoSaid : Prop := fnExactModelInputsUptoRow.holds Try.pinned (OpenSpec.upto fnExactModelInputsSpec)

/-- 'laws.FnExactModelStates', WHERE WHAT IT READS IS OF BULK AT MOST 1048576: true; the input reads as it did. -/
def fnExactModelStatesUptoRow : OpenClaim := { program := "yteboalbpgghdhaa", sum := "387e1b15aea304b109753d593b0ad058df47683a90bcd4ff0a9a1f9933b8a70d", func := "loop.example/leadline/laws.FnExactModelStates", spec := "fnExactModelStates", unfollowed := true, recurses := true, apart := false, narrowed := true }
def FnExactModelStatesUptoSaid : Prop := fnExactModelStatesUptoRow.holds Try.pinned (OpenSpec.upto fnExactModelStatesSpec)

/-- 'laws.FnKept', WHERE WHAT IT READS IS OF BULK AT MOST 1048576: true; the input reads as it did. -/
def fnKeptUptoRow : OpenClaim := { program := "yteboalbpgghdhaa", sum := "387e1b15aea304b109753d593b0ad058df47683a90bcd4ff0a9a1f9933b8a70d", func := "loop.example/leadline/laws.FnKept", spec := "fnKept", unfollowed := true, recurses := true, apart := false, narrowed := true }
def FnKeptUptoSaid : Prop := fnKeptUptoRow.holds Try.pinned (OpenSpec.upto fnKeptSpec)

end Rows
end Go.Proofs.Yteboalbpgghdhaa
