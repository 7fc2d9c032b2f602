/-
  No cell of these rows narrows 'for every input' (looked for: loops, veiled, ifaces, maps, wideKeys, modest, calm, conditions, laid).
  DERIVED. THE GIVEN ROWS OF THIS SEAT. 8 by the template 'for every input the law returns true; each argument reads behind the call as it read before'; 0 by the template 'total and deterministic' (their statements: YteboalbpgghdhaaGreatTotals.lean).
  GIVEN WITH THE SEED: the statements are not yours to turn. If you find one false, say at which input.
  Laid BY PROGRAM, IN A SANDBOX (cutbox-rows.mjs): the forced cells as the released guide's own fill.sh prints them over the translation 1b630aea99aa9d2a… (all of the seat's roots in one cut). By AI agents, Wed Nov 11 2026. No macro, syntax, notation, axiom, sorry.
-/
import Derived.Test.YteboalbpgghdhaaGreatChecked
import GoSem.Claim
import GoSem.ClaimJoined
import GoSem.ClaimMapViews
import Derived.JoinedTies
import Derived.KernelRfl
namespace Go.Proofs.YteboalbpgghdhaaGreat
/- THE CELL 'sum', in the pinned program and in every row, IS THE sha256 OF THE DUMP (.gsa) THAT YteboalbpgghdhaaGreatProg.lean LOADS. Nothing in Lean hashes anything: it is a label: what it is worth is what the hold of that sum in a sandbox is worth. -/
noncomputable def Tryz.pinned : Pinned := { name := "yteboalbpgghdhaagreat", sum := "1b630aea99aa9d2a193ebf8b68407818d744f8cbd48ebf8d72b1b3e4bd80de49", checked := Tryz.checked }
namespace Rows
def none {H : Type} : Left H := { results := [], args := [] }

/-- 'laws.FnExactInputFits': WHATEVER THE INPUT: true; the input reads as it did. -/
def fnExactInputFitsSpec : ChangeSpec := { name := "fnExactInputFits", fn := fun _ => fun
  | [d1, d2] => { results := [.lit (.bool true)], args := [d1, d2] }
  | _ => none }
def fnExactInputFitsRow : OpenClaim := { program := "yteboalbpgghdhaagreat", sum := "1b630aea99aa9d2a193ebf8b68407818d744f8cbd48ebf8d72b1b3e4bd80de49", func := "loop.example/leadline/laws.FnExactInputFits", spec := "fnExactInputFits", unfollowed := true, recurses := true, apart := false }
def FnExactInputFitsSaid : Prop := fnExactInputFitsRow.holds Tryz.pinned (OpenSpec.ofChange fnExactInputFitsSpec)

/-- ITS FALSE NEIGHBOUR: 'it returns false'. Refute it at one input. -/
def fnExactInputFitsWrong : ChangeSpec := { name := "fnExactInputFits", fn := fun _ => fun
  | [d1, d2] => { results := [.lit (.bool false)], args := [d1, d2] }
  | _ => none }
def FnExactInputFitsWrongFalsely : Prop := fnExactInputFitsRow.holds Tryz.pinned (OpenSpec.ofChange fnExactInputFitsWrong)

/-- 'laws.FnExactStateFits': WHATEVER THE INPUT: true; the input reads as it did. -/
def fnExactStateFitsSpec : ChangeSpec := { name := "fnExactStateFits", fn := fun _ => fun
  | [d1, d2] => { results := [.lit (.bool true)], args := [d1, d2] }
  | _ => none }
def fnExactStateFitsRow : OpenClaim := { program := "yteboalbpgghdhaagreat", sum := "1b630aea99aa9d2a193ebf8b68407818d744f8cbd48ebf8d72b1b3e4bd80de49", func := "loop.example/leadline/laws.FnExactStateFits", spec := "fnExactStateFits", unfollowed := true, recurses := true, apart := false }
def FnExactStateFitsSaid : Prop := fnExactStateFitsRow.holds Tryz.pinned (OpenSpec.ofChange fnExactStateFitsSpec)

/-- ITS FALSE NEIGHBOUR: 'it returns false'. Refute it at one input. -/
def fnExactStateFitsWrong : ChangeSpec := { name := "fnExactStateFits", fn := fun _ => fun
  | [d1, d2] => { results := [.lit (.bool false)], args := [d1, d2] }
  | _ => none }
def FnExactStateFitsWrongFalsely : Prop := fnExactStateFitsRow.holds Tryz.pinned (OpenSpec.ofChange fnExactStateFitsWrong)

/-- 'laws.FnExactInputCode': WHATEVER THE INPUT: true; the input reads as it did. -/
def fnExactInputCodeSpec : ChangeSpec := { name := "fnExactInputCode", fn := fun _ => fun
  | [d1, d2] => { results := [.lit (.bool true)], args := [d1, d2] }
  | _ => none }
def fnExactInputCodeRow : OpenClaim := { program := "yteboalbpgghdhaagreat", sum := "1b630aea99aa9d2a193ebf8b68407818d744f8cbd48ebf8d72b1b3e4bd80de49", func := "loop.example/leadline/laws.FnExactInputCode", spec := "fnExactInputCode", unfollowed := true, recurses := true, apart := false }
def FnExactInputCodeSaid : Prop := fnExactInputCodeRow.holds Tryz.pinned (OpenSpec.ofChange fnExactInputCodeSpec)

/-- ITS FALSE NEIGHBOUR: 'it returns false'. Refute it at one input. -/
def fnExactInputCodeWrong : ChangeSpec := { name := "fnExactInputCode", fn := fun _ => fun
  | [d1, d2] => { results := [.lit (.bool false)], args := [d1, d2] }
  | _ => none }
def FnExactInputCodeWrongFalsely : Prop := fnExactInputCodeRow.holds Tryz.pinned (OpenSpec.ofChange fnExactInputCodeWrong)

/-- 'laws.FnExactStateCode': WHATEVER THE INPUT: true; the input reads as it did. -/
def fnExactStateCodeSpec : ChangeSpec := { name := "fnExactStateCode", fn := fun _ => fun
  | [d1, d2] => { results := [.lit (.bool true)], args := [d1, d2] }
  | _ => none }
def fnExactStateCodeRow : OpenClaim := { program := "yteboalbpgghdhaagreat", sum := "1b630aea99aa9d2a193ebf8b68407818d744f8cbd48ebf8d72b1b3e4bd80de49", func := "loop.example/leadline/laws.FnExactStateCode", spec := "fnExactStateCode", unfollowed := true, recurses := true, apart := false }
def FnExactStateCodeSaid : Prop := fnExactStateCodeRow.holds Tryz.pinned (OpenSpec.ofChange fnExactStateCodeSpec)

/-- ITS FALSE NEIGHBOUR: 'it returns false'. Refute it at one input. -/
def fnExactStateCodeWrong : ChangeSpec := { name := "fnExactStateCode", fn := fun _ => fun
  | [d1, d2] => { results := [.lit (.bool false)], args := [d1, d2] }
  | _ => none }
def FnExactStateCodeWrongFalsely : Prop := fnExactStateCodeRow.holds Tryz.pinned (OpenSpec.ofChange fnExactStateCodeWrong)

/-- 'laws.FnExactModelKept': WHATEVER THE INPUT: true; the input reads as it did. -/
def fnExactModelKeptSpec : ChangeSpec := { name := "fnExactModelKept", fn := fun _ => fun
  | [d] => { results := [.lit (.bool true)], args := [d] }
  | _ => none }
def fnExactModelKeptRow : OpenClaim := { program := "yteboalbpgghdhaagreat", sum := "1b630aea99aa9d2a193ebf8b68407818d744f8cbd48ebf8d72b1b3e4bd80de49", func := "loop.example/leadline/laws.FnExactModelKept", spec := "fnExactModelKept", unfollowed := true, recurses := true, apart := false }
def FnExactModelKeptSaid : Prop := fnExactModelKeptRow.holds Tryz.pinned (OpenSpec.ofChange fnExactModelKeptSpec)

/-- ITS FALSE NEIGHBOUR: 'it returns false'. Refute it at one input. -/
def fnExactModelKeptWrong : ChangeSpec := { name := "fnExactModelKept", fn := fun _ => fun
  | [d] => { results := [.lit (.bool false)], args := [d] }
  | _ => none }
def FnExactModelKeptWrongFalsely : Prop := fnExactModelKeptRow.holds Tryz.pinned (OpenSpec.ofChange fnExactModelKeptWrong)

/-- 'laws.FnExactInputOf': WHATEVER THE INPUT: true; the input reads as it did. -/
def fnExactInputOfSpec : ChangeSpec := { name := "fnExactInputOf", fn := fun _ => fun
  | [d1, d2] => { results := [.lit (.bool true)], args := [d1, d2] }
  | _ => none }
def fnExactInputOfRow : OpenClaim := { program := "yteboalbpgghdhaagreat", sum := "1b630aea99aa9d2a193ebf8b68407818d744f8cbd48ebf8d72b1b3e4bd80de49", func := "loop.example/leadline/laws.FnExactInputOf", spec := "fnExactInputOf", unfollowed := true, recurses := true, apart := false }
def FnExactInputOfSaid : Prop := fnExactInputOfRow.holds Tryz.pinned (OpenSpec.ofChange fnExactInputOfSpec)

/-- ITS FALSE NEIGHBOUR: 'it returns false'. Refute it at one input. -/
def fnExactInputOfWrong : ChangeSpec := { name := "fnExactInputOf", fn := fun _ => fun
  | [d1, d2] => { results := [.lit (.bool false)], args := [d1, d2] }
  | _ => none }
def FnExactInputOfWrongFalsely : Prop := fnExactInputOfRow.holds Tryz.pinned (OpenSpec.ofChange fnExactInputOfWrong)

/-- 'laws.FnExactStateOf': WHATEVER THE INPUT: true; the input reads as it did. -/
def fnExactStateOfSpec : ChangeSpec := { name := "fnExactStateOf", fn := fun _ => fun
  | [d1, d2] => { results := [.lit (.bool true)], args := [d1, d2] }
  | _ => none }
def fnExactStateOfRow : OpenClaim := { program := "yteboalbpgghdhaagreat", sum := "1b630aea99aa9d2a193ebf8b68407818d744f8cbd48ebf8d72b1b3e4bd80de49", func := "loop.example/leadline/laws.FnExactStateOf", spec := "fnExactStateOf", unfollowed := true, recurses := true, apart := false }
def FnExactStateOfSaid : Prop := fnExactStateOfRow.holds Tryz.pinned (OpenSpec.ofChange fnExactStateOfSpec)

/-- ITS FALSE NEIGHBOUR: 'it returns false'. Refute it at one input. -/
def fnExactStateOfWrong : ChangeSpec := { name := "fnExactStateOf", fn := fun _ => fun
  | [d1, d2] => { results := [.lit (.bool false)], args := [d1, d2] }
  | _ => none }
def FnExactStateOfWrongFalsely : Prop := fnExactStateOfRow.holds Tryz.pinned (OpenSpec.ofChange fnExactStateOfWrong)

/-- 'laws.FnCodes': WHATEVER THE INPUT: true; the input reads as it did. -/
def fnCodesSpec : ChangeSpec := { name := "fnCodes", fn := fun _ => fun
  | [d1, d2] => { results := [.lit (.bool true)], args := [d1, d2] }
  | _ => none }
def fnCodesRow : OpenClaim := { program := "yteboalbpgghdhaagreat", sum := "1b630aea99aa9d2a193ebf8b68407818d744f8cbd48ebf8d72b1b3e4bd80de49", func := "loop.example/leadline/laws.FnCodes", spec := "fnCodes", unfollowed := true, recurses := true, apart := false }
def FnCodesSaid : Prop := fnCodesRow.holds Tryz.pinned (OpenSpec.ofChange fnCodesSpec)

/-- ITS FALSE NEIGHBOUR: 'it returns false'. Refute it at one input. -/
def fnCodesWrong : ChangeSpec := { name := "fnCodes", fn := fun _ => fun
  | [d1, d2] => { results := [.lit (.bool false)], args := [d1, d2] }
  | _ => none }
def FnCodesWrongFalsely : Prop := fnCodesRow.holds Tryz.pinned (OpenSpec.ofChange fnCodesWrong)

/- THE SECOND FORM. 'bulk': how many values and letters a reading holds, each counted each time it is reached (what is shared counts as often as it is met; a slice's spare places count too). A statement '..UptoSaid' is the law's where the arguments, and the package variables that the reading takes, are together of bulk at most 1048576: NARROWER than '..Said'. Prove '..Said' where nothing that the law and all that it calls make is longer than what came in: it says more and counts as full. Else prove '..UptoSaid'. A law counts once. -/
mutual
def uptoBulk {H : Type} : DataW H → Nat
  | .lit (.string bytes) => bytes.length + 1
  | .lit _ => 1
  | .nil => 1
  | .ptr d => uptoBulk d + 1
  | .slice elems spare => uptoBulkAll elems + uptoBulkAll spare + 1
  | .agg parts => uptoBulkAll parts + 1
  | .iface _ d => uptoBulk d + 1
  | .map entries => uptoBulkEntries entries + 1
  | .held _ => 1
def uptoBulkAll {H : Type} : List (DataW H) → Nat
  | [] => 0
  | d :: r => uptoBulk d + uptoBulkAll r
def uptoBulkEntries {H : Type} : List (Lit × DataW H) → Nat
  | [] => 0
  | x :: r => uptoBulkEntry x + uptoBulkEntries r
def uptoBulkEntry {H : Type} : Lit × DataW H → Nat
  | (.string bytes, d) => bytes.length + uptoBulk d + 1
  | (_, d) => uptoBulk d + 1
 end
def uptoSmall : (H : Type) → List (DataW H) → Bool := fun _ ds => decide (uptoBulkAll ds ≤ 1048576)
def OpenSpec.upto (s : _root_.Go.ChangeSpec) : _root_.Go.OpenSpec := { _root_.Go.OpenSpec.ofChange s with cond := some uptoSmall }

/-- 'laws.FnExactInputFits', WHERE WHAT IT READS IS OF BULK AT MOST 1048576: true; the input reads as it did. -/
def fnExactInputFitsUptoRow : OpenClaim := { program := "yteboalbpgghdhaagreat", sum := "1b630aea99aa9d2a193ebf8b68407818d744f8cbd48ebf8d72b1b3e4bd80de49", func := "loop.example/leadline/laws.FnExactInputFits", spec := "fnExactInputFits", unfollowed := true, recurses := true, apart := false, narrowed := true }
def FnExactInputFitsUptoSaid : Prop := fnExactInputFitsUptoRow.holds Tryz.pinned (OpenSpec.upto fnExactInputFitsSpec)

/-- 'laws.FnExactStateFits', WHERE WHAT IT READS IS OF BULK AT MOST 1048576: true; the input reads as it did. -/
def fnExactStateFitsUptoRow : OpenClaim := { program := "yteboalbpgghdhaagreat", sum := "1b630aea99aa9d2a193ebf8b68407818d744f8cbd48ebf8d72b1b3e4bd80de49", func := "loop.example/leadline/laws.FnExactStateFits", spec := "fnExactStateFits", unfollowed := true, recurses := true, apart := false, narrowed := true }
def FnExactStateFitsUptoSaid : Prop := fnExactStateFitsUptoRow.holds Tryz.pinned (OpenSpec.upto fnExactStateFitsSpec)

/-- 'laws.FnExactInputCode', WHERE WHAT IT READS IS OF BULK AT MOST 1048576: true; the input reads as it did. -/
def fnExactInputCodeUptoRow : OpenClaim := { program := "yteboalbpgghdhaagreat", sum := "1b630aea99aa9d2a193ebf8b68407818d744f8cbd48ebf8d72b1b3e4bd80de49", func := "loop.example/leadline/laws.FnExactInputCode", spec := "fnExactInputCode", unfollowed := true, recurses := true, apart := false, narrowed := true }
def FnExactInputCodeUptoSaid : Prop := fnExactInputCodeUptoRow.holds Tryz.pinned (OpenSpec.upto fnExactInputCodeSpec)

/-- 'laws.FnExactStateCode', WHERE WHAT IT READS IS OF BULK AT MOST 1048576: true; the input reads as it did. -/
def fnExactStateCodeUptoRow : OpenClaim := { program := "yteboalbpgghdhaagreat", sum := "1b630aea99aa9d2a193ebf8b68407818d744f8cbd48ebf8d72b1b3e4bd80de49", func := "loop.example/leadline/laws.FnExactStateCode", spec := "fnExactStateCode", unfollowed := true, recurses := true, apart := false, narrowed := true }
def FnExactStateCodeUptoSaid : Prop := fnExactStateCodeUptoRow.holds Tryz.pinned (OpenSpec.upto fnExactStateCodeSpec)

/-- 'laws.FnExactModelKept', WHERE WHAT IT READS IS OF BULK AT MOST 1048576: true; the input reads as it did. -/
def fnExactModelKeptUptoRow : OpenClaim := { program := "yteboalbpgghdhaagreat", sum := "1b630aea99aa9d2a193ebf8b68407818d744f8cbd48ebf8d72b1b3e4bd80de49", func := "loop.example/leadline/laws.FnExactModelKept", spec := "fnExactModelKept", unfollowed := true, recurses := true, apart := false, narrowed := true }
def FnExactModelKeptUptoSaid : Prop := fnExactModelKeptUptoRow.holds Tryz.pinned (OpenSpec.upto fnExactModelKeptSpec)

/-- 'laws.FnExactInputOf', WHERE WHAT IT READS IS OF BULK AT MOST 1048576: true; the input reads as it did. -/
def fnExactInputOfUptoRow : OpenClaim := { program := "yteboalbpgghdhaagreat", sum := "1b630aea99aa9d2a193ebf8b68407818d744f8cbd48ebf8d72b1b3e4bd80de49", func := "loop.example/leadline/laws.FnExactInputOf", spec := "fnExactInputOf", unfollowed := true, recurses := true, apart := false, narrowed := true }
def FnExactInputOfUptoSaid : Prop := fnExactInputOfUptoRow.holds Tryz.pinned (OpenSpec.upto fnExactInputOfSpec)

/-- 'laws.FnExactStateOf', WHERE WHAT IT READS IS OF BULK AT MOST 1048576: true; the input reads as it did. -/
def fnExactStateOfUptoRow : OpenClaim := { program := "yteboalbpgghdhaagreat", sum := "1b630aea99aa9d2a193ebf8b68407818d744f8cbd48ebf8d72b1b3e4bd80de49", func := "loop.example/leadline/laws.FnExactStateOf", spec := "fnExactStateOf", unfollowed := true, recurses := true, apart := false, narrowed := true }
def FnExactStateOfUptoSaid : Prop := fnExactStateOfUptoRow.holds Tryz.pinned (OpenSpec.upto fnExactStateOfSpec)

/-- 'laws.FnCodes', WHERE WHAT IT READS IS OF BULK AT MOST 1048576: true; the input reads as it did. -/
def fnCodesUptoRow : OpenClaim := { program := "yteboalbpgghdhaagreat", sum := "1b630aea99aa9d2a193ebf8b68407818d744f8cbd48ebf8d72b1b3e4bd80de49", func := "loop.example/leadline/laws.FnCodes", spec := "fnCodes", unfollowed := true, recurses := true, apart := false, narrowed := true }
def FnCodesUptoSaid : Prop := fnCodesUptoRow.holds Tryz.pinned (OpenSpec.upto fnCodesSpec)

end Rows
end Go.Proofs.YteboalbpgghdhaaGreat
