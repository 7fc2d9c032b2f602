/-
  No cell of these rows narrows 'for every input' (looked for: loops, veiled, ifaces, maps, wideKeys, modest, calm, conditions, laid).
  DERIVED. THE GIVEN ROWS OF THIS SEAT. 12 by the template 'for every input the law returns true; each argument reads behind the call as it read before'; 0 by the template 'total and deterministic' (their statements: YtbenebcphaiohaaGreatTotals.lean).
  GIVEN WITH THE SEED: the statements are not yours to turn. If you find one false, say at which input.
  Laid BY PROGRAM, IN A SANDBOX (cutbox-rows.mjs): the forced cells as the released guide's own fill.sh prints them over the translation 2410673837d6ae1c… (all of the seat's roots in one cut). By AI agents, Wed Nov 11 2026. No macro, syntax, notation, axiom, sorry.
-/
import Derived.Test.YtbenebcphaiohaaGreatChecked
import GoSem.Claim
import GoSem.ClaimJoined
import GoSem.ClaimMapViews
import Derived.JoinedTies
import Derived.KernelRfl
namespace Go.Proofs.YtbenebcphaiohaaGreat
/- THE CELL 'sum', in the pinned program and in every row, IS THE sha256 OF THE DUMP (.gsa) THAT YtbenebcphaiohaaGreatProg.lean LOADS. Nothing in Lean hashes anything: it is a label: what it is worth is what the hold of that sum in a sandbox is worth. -/
noncomputable def Tryz.pinned : Pinned := { name := "ytbenebcphaiohaagreat", sum := "2410673837d6ae1c8d84bf7c08e963840ce746d9dbbaf13cb828a9afce776a53", checked := Tryz.checked }
namespace Rows
def none {H : Type} : Left H := { results := [], args := [] }

/-- 'laws.FnSorts': WHATEVER THE INPUT: true; the input reads as it did. -/
def fnSortsSpec : ChangeSpec := { name := "fnSorts", fn := fun _ => fun
  | [d1, d2] => { results := [.lit (.bool true)], args := [d1, d2] }
  | _ => none }
def fnSortsRow : OpenClaim := { program := "ytbenebcphaiohaagreat", sum := "2410673837d6ae1c8d84bf7c08e963840ce746d9dbbaf13cb828a9afce776a53", func := "loop.example/leadline/laws.FnSorts", spec := "fnSorts", unfollowed := true, recurses := true, apart := false }
def FnSortsSaid : Prop := fnSortsRow.holds Tryz.pinned (OpenSpec.ofChange fnSortsSpec)

/-- ITS FALSE NEIGHBOUR: 'it returns false'. Refute it at one input. -/
def fnSortsWrong : ChangeSpec := { name := "fnSorts", fn := fun _ => fun
  | [d1, d2] => { results := [.lit (.bool false)], args := [d1, d2] }
  | _ => none }
def FnSortsWrongFalsely : Prop := fnSortsRow.holds Tryz.pinned (OpenSpec.ofChange fnSortsWrong)

/-- 'laws.FnExactModelCone': WHATEVER THE INPUT: true; the input reads as it did. -/
def fnExactModelConeSpec : ChangeSpec := { name := "fnExactModelCone", fn := fun _ => fun
  | [d] => { results := [.lit (.bool true)], args := [d] }
  | _ => none }
def fnExactModelConeRow : OpenClaim := { program := "ytbenebcphaiohaagreat", sum := "2410673837d6ae1c8d84bf7c08e963840ce746d9dbbaf13cb828a9afce776a53", func := "loop.example/leadline/laws.FnExactModelCone", spec := "fnExactModelCone", unfollowed := true, recurses := true, apart := false }
def FnExactModelConeSaid : Prop := fnExactModelConeRow.holds Tryz.pinned (OpenSpec.ofChange fnExactModelConeSpec)

/-- ITS FALSE NEIGHBOUR: 'it returns false'. Refute it at one input. -/
def fnExactModelConeWrong : ChangeSpec := { name := "fnExactModelCone", fn := fun _ => fun
  | [d] => { results := [.lit (.bool false)], args := [d] }
  | _ => none }
def FnExactModelConeWrongFalsely : Prop := fnExactModelConeRow.holds Tryz.pinned (OpenSpec.ofChange fnExactModelConeWrong)

/-- 'laws.FnExactEvalHolds': WHATEVER THE INPUT: true; the input reads as it did. -/
def fnExactEvalHoldsSpec : ChangeSpec := { name := "fnExactEvalHolds", fn := fun _ => fun
  | [d1, d2, d3] => { results := [.lit (.bool true)], args := [d1, d2, d3] }
  | _ => none }
def fnExactEvalHoldsRow : OpenClaim := { program := "ytbenebcphaiohaagreat", sum := "2410673837d6ae1c8d84bf7c08e963840ce746d9dbbaf13cb828a9afce776a53", func := "loop.example/leadline/laws.FnExactEvalHolds", spec := "fnExactEvalHolds", unfollowed := true, recurses := true, apart := false }
def FnExactEvalHoldsSaid : Prop := fnExactEvalHoldsRow.holds Tryz.pinned (OpenSpec.ofChange fnExactEvalHoldsSpec)

/-- ITS FALSE NEIGHBOUR: 'it returns false'. Refute it at one input. -/
def fnExactEvalHoldsWrong : ChangeSpec := { name := "fnExactEvalHolds", fn := fun _ => fun
  | [d1, d2, d3] => { results := [.lit (.bool false)], args := [d1, d2, d3] }
  | _ => none }
def FnExactEvalHoldsWrongFalsely : Prop := fnExactEvalHoldsRow.holds Tryz.pinned (OpenSpec.ofChange fnExactEvalHoldsWrong)

/-- 'laws.FnExactEvalBad': WHATEVER THE INPUT: true; the input reads as it did. -/
def fnExactEvalBadSpec : ChangeSpec := { name := "fnExactEvalBad", fn := fun _ => fun
  | [d1, d2, d3] => { results := [.lit (.bool true)], args := [d1, d2, d3] }
  | _ => none }
def fnExactEvalBadRow : OpenClaim := { program := "ytbenebcphaiohaagreat", sum := "2410673837d6ae1c8d84bf7c08e963840ce746d9dbbaf13cb828a9afce776a53", func := "loop.example/leadline/laws.FnExactEvalBad", spec := "fnExactEvalBad", unfollowed := true, recurses := true, apart := false }
def FnExactEvalBadSaid : Prop := fnExactEvalBadRow.holds Tryz.pinned (OpenSpec.ofChange fnExactEvalBadSpec)

/-- ITS FALSE NEIGHBOUR: 'it returns false'. Refute it at one input. -/
def fnExactEvalBadWrong : ChangeSpec := { name := "fnExactEvalBad", fn := fun _ => fun
  | [d1, d2, d3] => { results := [.lit (.bool false)], args := [d1, d2, d3] }
  | _ => none }
def FnExactEvalBadWrongFalsely : Prop := fnExactEvalBadRow.holds Tryz.pinned (OpenSpec.ofChange fnExactEvalBadWrong)

/-- 'laws.FnNodes': WHATEVER THE INPUT: true; the input reads as it did. -/
def fnNodesSpec : ChangeSpec := { name := "fnNodes", fn := fun _ => fun
  | [d1, d2] => { results := [.lit (.bool true)], args := [d1, d2] }
  | _ => none }
def fnNodesRow : OpenClaim := { program := "ytbenebcphaiohaagreat", sum := "2410673837d6ae1c8d84bf7c08e963840ce746d9dbbaf13cb828a9afce776a53", func := "loop.example/leadline/laws.FnNodes", spec := "fnNodes", unfollowed := true, recurses := true, apart := false }
def FnNodesSaid : Prop := fnNodesRow.holds Tryz.pinned (OpenSpec.ofChange fnNodesSpec)

/-- ITS FALSE NEIGHBOUR: 'it returns false'. Refute it at one input. -/
def fnNodesWrong : ChangeSpec := { name := "fnNodes", fn := fun _ => fun
  | [d1, d2] => { results := [.lit (.bool false)], args := [d1, d2] }
  | _ => none }
def FnNodesWrongFalsely : Prop := fnNodesRow.holds Tryz.pinned (OpenSpec.ofChange fnNodesWrong)

/-- 'laws.FnExactStepFits': WHATEVER THE INPUT: true; the input reads as it did. -/
def fnExactStepFitsSpec : ChangeSpec := { name := "fnExactStepFits", fn := fun _ => fun
  | [d1, d2, d3, d4] => { results := [.lit (.bool true)], args := [d1, d2, d3, d4] }
  | _ => none }
def fnExactStepFitsRow : OpenClaim := { program := "ytbenebcphaiohaagreat", sum := "2410673837d6ae1c8d84bf7c08e963840ce746d9dbbaf13cb828a9afce776a53", func := "loop.example/leadline/laws.FnExactStepFits", spec := "fnExactStepFits", unfollowed := true, recurses := true, apart := false }
def FnExactStepFitsSaid : Prop := fnExactStepFitsRow.holds Tryz.pinned (OpenSpec.ofChange fnExactStepFitsSpec)

/-- ITS FALSE NEIGHBOUR: 'it returns false'. Refute it at one input. -/
def fnExactStepFitsWrong : ChangeSpec := { name := "fnExactStepFits", fn := fun _ => fun
  | [d1, d2, d3, d4] => { results := [.lit (.bool false)], args := [d1, d2, d3, d4] }
  | _ => none }
def FnExactStepFitsWrongFalsely : Prop := fnExactStepFitsRow.holds Tryz.pinned (OpenSpec.ofChange fnExactStepFitsWrong)

/-- 'laws.FnExactInitFits': WHATEVER THE INPUT: true; the input reads as it did. -/
def fnExactInitFitsSpec : ChangeSpec := { name := "fnExactInitFits", fn := fun _ => fun
  | [d1, d2] => { results := [.lit (.bool true)], args := [d1, d2] }
  | _ => none }
def fnExactInitFitsRow : OpenClaim := { program := "ytbenebcphaiohaagreat", sum := "2410673837d6ae1c8d84bf7c08e963840ce746d9dbbaf13cb828a9afce776a53", func := "loop.example/leadline/laws.FnExactInitFits", spec := "fnExactInitFits", unfollowed := true, recurses := true, apart := false }
def FnExactInitFitsSaid : Prop := fnExactInitFitsRow.holds Tryz.pinned (OpenSpec.ofChange fnExactInitFitsSpec)

/-- ITS FALSE NEIGHBOUR: 'it returns false'. Refute it at one input. -/
def fnExactInitFitsWrong : ChangeSpec := { name := "fnExactInitFits", fn := fun _ => fun
  | [d1, d2] => { results := [.lit (.bool false)], args := [d1, d2] }
  | _ => none }
def FnExactInitFitsWrongFalsely : Prop := fnExactInitFitsRow.holds Tryz.pinned (OpenSpec.ofChange fnExactInitFitsWrong)

/-- 'laws.FnExactEvalAll': WHATEVER THE INPUT: true; the input reads as it did. -/
def fnExactEvalAllSpec : ChangeSpec := { name := "fnExactEvalAll", fn := fun _ => fun
  | [d1, d2, d3] => { results := [.lit (.bool true)], args := [d1, d2, d3] }
  | _ => none }
def fnExactEvalAllRow : OpenClaim := { program := "ytbenebcphaiohaagreat", sum := "2410673837d6ae1c8d84bf7c08e963840ce746d9dbbaf13cb828a9afce776a53", func := "loop.example/leadline/laws.FnExactEvalAll", spec := "fnExactEvalAll", unfollowed := true, recurses := true, apart := false }
def FnExactEvalAllSaid : Prop := fnExactEvalAllRow.holds Tryz.pinned (OpenSpec.ofChange fnExactEvalAllSpec)

/-- ITS FALSE NEIGHBOUR: 'it returns false'. Refute it at one input. -/
def fnExactEvalAllWrong : ChangeSpec := { name := "fnExactEvalAll", fn := fun _ => fun
  | [d1, d2, d3] => { results := [.lit (.bool false)], args := [d1, d2, d3] }
  | _ => none }
def FnExactEvalAllWrongFalsely : Prop := fnExactEvalAllRow.holds Tryz.pinned (OpenSpec.ofChange fnExactEvalAllWrong)

/-- 'laws.FnExactTraceRun': WHATEVER THE INPUT: true; the input reads as it did. -/
def fnExactTraceRunSpec : ChangeSpec := { name := "fnExactTraceRun", fn := fun _ => fun
  | [d1, d2, d3] => { results := [.lit (.bool true)], args := [d1, d2, d3] }
  | _ => none }
def fnExactTraceRunRow : OpenClaim := { program := "ytbenebcphaiohaagreat", sum := "2410673837d6ae1c8d84bf7c08e963840ce746d9dbbaf13cb828a9afce776a53", func := "loop.example/leadline/laws.FnExactTraceRun", spec := "fnExactTraceRun", unfollowed := true, recurses := true, apart := false }
def FnExactTraceRunSaid : Prop := fnExactTraceRunRow.holds Tryz.pinned (OpenSpec.ofChange fnExactTraceRunSpec)

/-- ITS FALSE NEIGHBOUR: 'it returns false'. Refute it at one input. -/
def fnExactTraceRunWrong : ChangeSpec := { name := "fnExactTraceRun", fn := fun _ => fun
  | [d1, d2, d3] => { results := [.lit (.bool false)], args := [d1, d2, d3] }
  | _ => none }
def FnExactTraceRunWrongFalsely : Prop := fnExactTraceRunRow.holds Tryz.pinned (OpenSpec.ofChange fnExactTraceRunWrong)

/-- 'laws.FnStep': WHATEVER THE INPUT: true; the input reads as it did. -/
def fnStepSpec : ChangeSpec := { name := "fnStep", fn := fun _ => fun
  | [d] => { results := [.lit (.bool true)], args := [d] }
  | _ => none }
def fnStepRow : OpenClaim := { program := "ytbenebcphaiohaagreat", sum := "2410673837d6ae1c8d84bf7c08e963840ce746d9dbbaf13cb828a9afce776a53", func := "loop.example/leadline/laws.FnStep", spec := "fnStep", unfollowed := true, recurses := true, apart := false }
def FnStepSaid : Prop := fnStepRow.holds Tryz.pinned (OpenSpec.ofChange fnStepSpec)

/-- ITS FALSE NEIGHBOUR: 'it returns false'. Refute it at one input. -/
def fnStepWrong : ChangeSpec := { name := "fnStep", fn := fun _ => fun
  | [d] => { results := [.lit (.bool false)], args := [d] }
  | _ => none }
def FnStepWrongFalsely : Prop := fnStepRow.holds Tryz.pinned (OpenSpec.ofChange fnStepWrong)

/-- 'laws.FnExactTraceCode': WHATEVER THE INPUT: true; the input reads as it did. -/
def fnExactTraceCodeSpec : ChangeSpec := { name := "fnExactTraceCode", fn := fun _ => fun
  | [d1, d2] => { results := [.lit (.bool true)], args := [d1, d2] }
  | _ => none }
def fnExactTraceCodeRow : OpenClaim := { program := "ytbenebcphaiohaagreat", sum := "2410673837d6ae1c8d84bf7c08e963840ce746d9dbbaf13cb828a9afce776a53", func := "loop.example/leadline/laws.FnExactTraceCode", spec := "fnExactTraceCode", unfollowed := true, recurses := true, apart := false }
def FnExactTraceCodeSaid : Prop := fnExactTraceCodeRow.holds Tryz.pinned (OpenSpec.ofChange fnExactTraceCodeSpec)

/-- ITS FALSE NEIGHBOUR: 'it returns false'. Refute it at one input. -/
def fnExactTraceCodeWrong : ChangeSpec := { name := "fnExactTraceCode", fn := fun _ => fun
  | [d1, d2] => { results := [.lit (.bool false)], args := [d1, d2] }
  | _ => none }
def FnExactTraceCodeWrongFalsely : Prop := fnExactTraceCodeRow.holds Tryz.pinned (OpenSpec.ofChange fnExactTraceCodeWrong)

/-- 'laws.FnExactTraceBad': WHATEVER THE INPUT: true; the input reads as it did. -/
def fnExactTraceBadSpec : ChangeSpec := { name := "fnExactTraceBad", fn := fun _ => fun
  | [d1, d2] => { results := [.lit (.bool true)], args := [d1, d2] }
  | _ => none }
def fnExactTraceBadRow : OpenClaim := { program := "ytbenebcphaiohaagreat", sum := "2410673837d6ae1c8d84bf7c08e963840ce746d9dbbaf13cb828a9afce776a53", func := "loop.example/leadline/laws.FnExactTraceBad", spec := "fnExactTraceBad", unfollowed := true, recurses := true, apart := false }
def FnExactTraceBadSaid : Prop := fnExactTraceBadRow.holds Tryz.pinned (OpenSpec.ofChange fnExactTraceBadSpec)

/-- ITS FALSE NEIGHBOUR: 'it returns false'. Refute it at one input. -/
def fnExactTraceBadWrong : ChangeSpec := { name := "fnExactTraceBad", fn := fun _ => fun
  | [d1, d2] => { results := [.lit (.bool false)], args := [d1, d2] }
  | _ => none }
def FnExactTraceBadWrongFalsely : Prop := fnExactTraceBadRow.holds Tryz.pinned (OpenSpec.ofChange fnExactTraceBadWrong)

/- THE SECOND FORM. 'bulk': how many values and letters a reading holds, each counted each time it is reached (what is shared counts as often as it is met; a slice's spare places count too). A statement '..UptoSaid' is the law's where the arguments, and the package variables that the reading takes, are together of bulk at most 1048576: NARROWER than '..Said'. Prove '..Said' where nothing that the law and all that it calls make is longer than what came in: it says more and counts as full. Else prove '..UptoSaid'. A law counts once. -/
mutual
def uptoBulk {H : Type} : DataW H → Nat
  | .lit (.string bytes) => bytes.length + 1
  | .lit _ => 1
  | .nil => 1
  | .ptr d => uptoBulk d + 1
  | .slice elems spare => uptoBulkAll elems + uptoBulkAll spare + 1
  | .agg parts => uptoBulkAll parts + 1
  | .iface _ d => uptoBulk d + 1
  | .map entries => uptoBulkEntries entries + 1
  | .held _ => 1
def uptoBulkAll {H : Type} : List (DataW H) → Nat
  | [] => 0
  | d :: r => uptoBulk d + uptoBulkAll r
def uptoBulkEntries {H : Type} : List (Lit × DataW H) → Nat
  | [] => 0
  | x :: r => uptoBulkEntry x + uptoBulkEntries r
def uptoBulkEntry {H : Type} : Lit × DataW H → Nat
  | (.string bytes, d) => bytes.length + uptoBulk d + 1
  | (_, d) => uptoBulk d + 1
 end
def uptoSmall : (H : Type) → List (DataW H) → Bool := fun _ ds => decide (uptoBulkAll ds ≤ 1048576)
def OpenSpec.upto (s : _root_.Go.ChangeSpec) : _root_.Go.OpenSpec := { _root_.Go.OpenSpec.ofChange s with cond := some uptoSmall }

/-- 'laws.FnSorts', WHERE WHAT IT READS IS OF BULK AT MOST 1048576: true; the input reads as it did. -/
def fnSortsUptoRow : OpenClaim := { program := "ytbenebcphaiohaagreat", sum := "2410673837d6ae1c8d84bf7c08e963840ce746d9dbbaf13cb828a9afce776a53", func := "loop.example/leadline/laws.FnSorts", spec := "fnSorts", unfollowed := true, recurses := true, apart := false, narrowed := true }
def FnSortsUptoSaid : Prop := fnSortsUptoRow.holds Tryz.pinned (OpenSpec.upto fnSortsSpec)

/-- 'laws.FnExactModelCone', WHERE WHAT IT READS IS OF BULK AT MOST 1048576: true; the input reads as it did. -/
def fnExactModelConeUptoRow : OpenClaim := { program := "ytbenebcphaiohaagreat", sum := "2410673837d6ae1c8d84bf7c08e963840ce746d9dbbaf13cb828a9afce776a53", func := "loop.example/leadline/laws.FnExactModelCone", spec := "fnExactModelCone", unfollowed := true, recurses := true, apart := false, narrowed := true }
def FnExactModelConeUptoSaid : Prop := fnExactModelConeUptoRow.holds Tryz.pinned (OpenSpec.upto fnExactModelConeSpec)

/-- 'laws.FnExactEvalHolds', WHERE WHAT IT READS IS OF BULK AT MOST 1048576: true; the input reads as it did. -/
def fnExactEvalHoldsUptoRow : OpenClaim := { program := "ytbenebcphaiohaagreat", sum := "2410673837d6ae1c8d84bf7c08e963840ce746d9dbbaf13cb828a9afce776a53", func := "loop.example/leadline/laws.FnExactEvalHolds", spec := "fnExactEvalHolds", unfollowed := true, recurses := true, apart := false, narrowed := true }
def FnExactEvalHoldsUptoSaid : Prop := fnExactEvalHoldsUptoRow.holds Tryz.pinned (OpenSpec.upto fnExactEvalHoldsSpec)

/-- 'laws.FnExactEvalBad', WHERE WHAT IT READS IS OF BULK AT MOST 1048576: true; the input reads as it did. -/
def fnExactEvalBadUptoRow : OpenClaim := { program := "ytbenebcphaiohaagreat", sum := "2410673837d6ae1c8d84bf7c08e963840ce746d9dbbaf13cb828a9afce776a53", func := "loop.example/leadline/laws.FnExactEvalBad", spec := "fnExactEvalBad", unfollowed := true, recurses := true, apart := false, narrowed := true }
def FnExactEvalBadUptoSaid : Prop := fnExactEvalBadUptoRow.holds Tryz.pinned (OpenSpec.upto fnExactEvalBadSpec)

/-- 'laws.FnNodes', WHERE WHAT IT READS IS OF BULK AT MOST 1048576: true; the input reads as it did. -/
def fnNodesUptoRow : OpenClaim := { program := "ytbenebcphaiohaagreat", sum := "2410673837d6ae1c8d84bf7c08e963840ce746d9dbbaf13cb828a9afce776a53", func := "loop.example/leadline/laws.FnNodes", spec := "fnNodes", unfollowed := true, recurses := true, apart := false, narrowed := true }
def FnNodesUptoSaid : Prop := fnNodesUptoRow.holds Tryz.pinned (OpenSpec.upto fnNodesSpec)

/-- 'laws.FnExactStepFits', WHERE WHAT IT READS IS OF BULK AT MOST 1048576: true; the input reads as it did. -/
def fnExactStepFitsUptoRow : OpenClaim := { program := "ytbenebcphaiohaagreat", sum := "2410673837d6ae1c8d84bf7c08e963840ce746d9dbbaf13cb828a9afce776a53", func := "loop.example/leadline/laws.FnExactStepFits", spec := "fnExactStepFits", unfollowed := true, recurses := true, apart := false, narrowed := true }
def FnExactStepFitsUptoSaid : Prop := fnExactStepFitsUptoRow.holds Tryz.pinned (OpenSpec.upto fnExactStepFitsSpec)

/-- 'laws.FnExactInitFits', WHERE WHAT IT READS IS OF BULK AT MOST 1048576: true; the input reads as it did. -/
def fnExactInitFitsUptoRow : OpenClaim := { program := "ytbenebcphaiohaagreat", sum := "2410673837d6ae1c8d84bf7c08e963840ce746d9dbbaf13cb828a9afce776a53", func := "loop.example/leadline/laws.FnExactInitFits", spec := "fnExactInitFits", unfollowed := true, recurses := true, apart := false, narrowed := true }
def FnExactInitFitsUptoSaid : Prop := fnExactInitFitsUptoRow.holds Tryz.pinned (OpenSpec.upto fnExactInitFitsSpec)

/-- 'laws.FnExactEvalAll', WHERE WHAT IT READS IS OF BULK AT MOST 1048576: true; the input reads as it did. -/
def fnExactEvalAllUptoRow : OpenClaim := { program := "ytbenebcphaiohaagreat", sum := "2410673837d6ae1c8d84bf7c08e963840ce746d9dbbaf13cb828a9afce776a53", func := "loop.example/leadline/laws.FnExactEvalAll", spec := "fnExactEvalAll", unfollowed := true, recurses := true, apart := false, narrowed := true }
def FnExactEvalAllUptoSaid : Prop := fnExactEvalAllUptoRow.holds Tryz.pinned (OpenSpec.upto fnExactEvalAllSpec)

/-- 'laws.FnExactTraceRun', WHERE WHAT IT READS IS OF BULK AT MOST 1048576: true; the input reads as it did. -/
def fnExactTraceRunUptoRow : OpenClaim := { program := "ytbenebcphaiohaagreat", sum := "2410673837d6ae1c8d84bf7c08e963840ce746d9dbbaf13cb828a9afce776a53", func := "loop.example/leadline/laws.FnExactTraceRun", spec := "fnExactTraceRun", unfollowed := true, recurses := true, apart := false, narrowed := true }
def FnExactTraceRunUptoSaid : Prop := fnExactTraceRunUptoRow.holds Tryz.pinned (OpenSpec.upto fnExactTraceRunSpec)

/-- 'laws.FnStep', WHERE WHAT IT READS IS OF BULK AT MOST 1048576: true; the input reads as it did. -/
def fnStepUptoRow : OpenClaim := { program := "ytbenebcphaiohaagreat", sum := "2410673837d6ae1c8d84bf7c08e963840ce746d9dbbaf13cb828a9afce776a53", func := "loop.example/leadline/laws.FnStep", spec := "fnStep", unfollowed := true, recurses := true, apart := false, narrowed := true }
def FnStepUptoSaid : Prop := fnStepUptoRow.holds Tryz.pinned (OpenSpec.upto fnStepSpec)

/-- 'laws.FnExactTraceCode', WHERE WHAT IT READS IS OF BULK AT MOST 1048576: true; the input reads as it did. -/
def fnExactTraceCodeUptoRow : OpenClaim := { program := "ytbenebcphaiohaagreat", sum := "2410673837d6ae1c8d84bf7c08e963840ce746d9dbbaf13cb828a9afce776a53", func := "loop.example/leadline/laws.FnExactTraceCode", spec := "fnExactTraceCode", unfollowed := true, recurses := true, apart := false, narrowed := true }
def FnExactTraceCodeUptoSaid : Prop := fnExactTraceCodeUptoRow.holds Tryz.pinned (OpenSpec.upto fnExactTraceCodeSpec)

/-- 'laws.FnExactTraceBad', WHERE WHAT IT READS IS OF BULK AT MOST 1048576: true; the input reads as it did. -/
def fnExactTraceBadUptoRow : OpenClaim := { program := "ytbenebcphaiohaagreat", sum := "2410673837d6ae1c8d84bf7c08e963840ce746d9dbbaf13cb828a9afce776a53", func := "loop.example/leadline/laws.FnExactTraceBad", spec := "fnExactTraceBad", unfollowed := true, recurses := true, apart := false, narrowed := true }
def FnExactTraceBadUptoSaid : Prop := fnExactTraceBadUptoRow.holds Tryz.pinned (OpenSpec.upto fnExactTraceBadSpec)

end Rows
end Go.Proofs.YtbenebcphaiohaaGreat
