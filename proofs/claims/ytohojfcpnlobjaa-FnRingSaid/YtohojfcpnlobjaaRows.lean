/-
  No cell of these rows narrows 'for every input' (looked for: loops, veiled, ifaces, maps, wideKeys, modest, calm, conditions, laid).
  DERIVED. THE GIVEN ROWS OF THIS SEAT. 5 by the template 'for every input the law returns true; each argument reads behind the call as it read before'; 0 by the template 'total and deterministic' (their statements: YtohojfcpnlobjaaTotals.lean).
  GIVEN WITH THE SEED: the statements are not yours to turn. If you find one false, say at which input.
  Laid BY PROGRAM, IN A SANDBOX (cutbox-rows.mjs): the forced cells as the released guide's own fill.sh prints them over the translation 6d28f629a0907439… (all of the seat's roots in one cut). By AI agents, Wed Nov 11 2026. No macro, syntax, notation, axiom, sorry.
-/
import Derived.Test.YtohojfcpnlobjaaChecked
import GoSem.Claim
import GoSem.ClaimJoined
import GoSem.ClaimMapViews
import Derived.JoinedTies
import Derived.KernelRfl
namespace Go.Proofs.Ytohojfcpnlobjaa
/- THE CELL 'sum', in the pinned program and in every row, IS THE sha256 OF THE DUMP (.gsa) THAT YtohojfcpnlobjaaProg.lean LOADS. Nothing in Lean hashes anything: it is a label: what it is worth is what the hold of that sum in a sandbox is worth. -/
noncomputable def Try.pinned : Pinned := { name := "ytohojfcpnlobjaa", sum := "6d28f629a09074399a5cf424995cf0716fa04c9981d4aa77a630da32a204f171", checked := Try.checked }
namespace Rows
def none {H : Type} : Left H := { results := [], args := [] }

/-- 'laws.FnJoin': WHATEVER THE INPUT: true; the input reads as it did. -/
def fnJoinSpec : ChangeSpec := { name := "fnJoin", fn := fun _ => fun
  | [d1, d2] => { results := [.lit (.bool true)], args := [d1, d2] }
  | _ => none }
def fnJoinRow : OpenClaim := { program := "ytohojfcpnlobjaa", sum := "6d28f629a09074399a5cf424995cf0716fa04c9981d4aa77a630da32a204f171", func := "loop.example/leadline/laws.FnJoin", spec := "fnJoin", apart := false }
def FnJoinSaid : Prop := fnJoinRow.holds Try.pinned (OpenSpec.ofChange fnJoinSpec)

/-- ITS FALSE NEIGHBOUR: 'it returns false'. Refute it at one input. -/
def fnJoinWrong : ChangeSpec := { name := "fnJoin", fn := fun _ => fun
  | [d1, d2] => { results := [.lit (.bool false)], args := [d1, d2] }
  | _ => none }
def FnJoinWrongFalsely : Prop := fnJoinRow.holds Try.pinned (OpenSpec.ofChange fnJoinWrong)

/-- 'laws.FnDivide': WHATEVER THE INPUT: true; the input reads as it did. -/
def fnDivideSpec : ChangeSpec := { name := "fnDivide", fn := fun _ => fun
  | [d] => { results := [.lit (.bool true)], args := [d] }
  | _ => none }
def fnDivideRow : OpenClaim := { program := "ytohojfcpnlobjaa", sum := "6d28f629a09074399a5cf424995cf0716fa04c9981d4aa77a630da32a204f171", func := "loop.example/leadline/laws.FnDivide", spec := "fnDivide", apart := false }
def FnDivideSaid : Prop := fnDivideRow.holds Try.pinned (OpenSpec.ofChange fnDivideSpec)

/-- ITS FALSE NEIGHBOUR: 'it returns false'. Refute it at one input. -/
def fnDivideWrong : ChangeSpec := { name := "fnDivide", fn := fun _ => fun
  | [d] => { results := [.lit (.bool false)], args := [d] }
  | _ => none }
def FnDivideWrongFalsely : Prop := fnDivideRow.holds Try.pinned (OpenSpec.ofChange fnDivideWrong)

/-- 'laws.FnSays': WHATEVER THE INPUT: true; the input reads as it did. -/
def fnSaysSpec : ChangeSpec := { name := "fnSays", fn := fun _ => fun
  | [d] => { results := [.lit (.bool true)], args := [d] }
  | _ => none }
def fnSaysRow : OpenClaim := { program := "ytohojfcpnlobjaa", sum := "6d28f629a09074399a5cf424995cf0716fa04c9981d4aa77a630da32a204f171", func := "loop.example/leadline/laws.FnSays", spec := "fnSays", apart := false }
def FnSaysSaid : Prop := fnSaysRow.holds Try.pinned (OpenSpec.ofChange fnSaysSpec)

/-- ITS FALSE NEIGHBOUR: 'it returns false'. Refute it at one input. -/
def fnSaysWrong : ChangeSpec := { name := "fnSays", fn := fun _ => fun
  | [d] => { results := [.lit (.bool false)], args := [d] }
  | _ => none }
def FnSaysWrongFalsely : Prop := fnSaysRow.holds Try.pinned (OpenSpec.ofChange fnSaysWrong)

/-- 'laws.FnShift': WHATEVER THE INPUT: true; the input reads as it did. -/
def fnShiftSpec : ChangeSpec := { name := "fnShift", fn := fun _ => fun
  | [d] => { results := [.lit (.bool true)], args := [d] }
  | _ => none }
def fnShiftRow : OpenClaim := { program := "ytohojfcpnlobjaa", sum := "6d28f629a09074399a5cf424995cf0716fa04c9981d4aa77a630da32a204f171", func := "loop.example/leadline/laws.FnShift", spec := "fnShift", apart := false }
def FnShiftSaid : Prop := fnShiftRow.holds Try.pinned (OpenSpec.ofChange fnShiftSpec)

/-- ITS FALSE NEIGHBOUR: 'it returns false'. Refute it at one input. -/
def fnShiftWrong : ChangeSpec := { name := "fnShift", fn := fun _ => fun
  | [d] => { results := [.lit (.bool false)], args := [d] }
  | _ => none }
def FnShiftWrongFalsely : Prop := fnShiftRow.holds Try.pinned (OpenSpec.ofChange fnShiftWrong)

/-- 'laws.FnRing': WHATEVER THE INPUT: true; the input reads as it did. -/
def fnRingSpec : ChangeSpec := { name := "fnRing", fn := fun _ => fun
  | [d1, d2] => { results := [.lit (.bool true)], args := [d1, d2] }
  | _ => none }
def fnRingRow : OpenClaim := { program := "ytohojfcpnlobjaa", sum := "6d28f629a09074399a5cf424995cf0716fa04c9981d4aa77a630da32a204f171", func := "loop.example/leadline/laws.FnRing", spec := "fnRing", apart := false }
def FnRingSaid : Prop := fnRingRow.holds Try.pinned (OpenSpec.ofChange fnRingSpec)

/-- ITS FALSE NEIGHBOUR: 'it returns false'. Refute it at one input. -/
def fnRingWrong : ChangeSpec := { name := "fnRing", fn := fun _ => fun
  | [d1, d2] => { results := [.lit (.bool false)], args := [d1, d2] }
  | _ => none }
def FnRingWrongFalsely : Prop := fnRingRow.holds Try.pinned (OpenSpec.ofChange fnRingWrong)

/- THE SECOND FORM. 'bulk': how many values and letters a reading holds, each counted each time it is reached (what is shared counts as often as it is met; a slice's spare places count too). A statement '..UptoSaid' is the law's where the arguments, and the package variables that the reading takes, are together of bulk at most 1048576: NARROWER than '..Said'. Prove '..Said' where nothing that the law and all that it calls make is longer than what came in: it says more and counts as full. Else prove '..UptoSaid'. A law counts once. -/
mutual
def uptoBulk {H : Type} : DataW H → Nat
  | .lit (.string bytes) => bytes.length + 1
  | .lit _ => 1
  | .nil => 1
  | .ptr d => uptoBulk d + 1
  | .slice elems spare => uptoBulkAll elems + uptoBulkAll spare + 1
  | .agg parts => uptoBulkAll parts + 1
  | .iface _ d => uptoBulk d + 1
  | .map entries => uptoBulkEntries entries + 1
  | .held _ => 1
def uptoBulkAll {H : Type} : List (DataW H) → Nat
  | [] => 0
  | d :: r => uptoBulk d + uptoBulkAll r
def uptoBulkEntries {H : Type} : List (Lit × DataW H) → Nat
  | [] => 0
  | x :: r => uptoBulkEntry x + uptoBulkEntries r
def uptoBulkEntry {H : Type} : Lit × DataW H → Nat
  | (.string bytes, d) => bytes.length + uptoBulk d + 1
  | (_, d) => uptoBulk d + 1
 end
def uptoSmall : (H : Type) → List (DataW H) → Bool := fun _ ds => decide (uptoBulkAll ds ≤ 1048576)
def OpenSpec.upto (s : _root_.Go.ChangeSpec) : _root_.Go.OpenSpec := { _root_.Go.OpenSpec.ofChange s with cond := some uptoSmall }

/-- 'laws.FnJoin', WHERE WHAT IT READS IS OF BULK AT MOST 1048576: true; the input reads as it did. -/
def fnJoinUptoRow : OpenClaim := { program := "ytohojfcpnlobjaa", sum := "6d28f629a09074399a5cf424995cf0716fa04c9981d4aa77a630da32a204f171", func := "loop.example/leadline/laws.FnJoin", spec := "fnJoin", apart := false, narrowed := true }
def FnJoinUptoSaid : Prop := fnJoinUptoRow.holds Try.pinned (OpenSpec.upto fnJoinSpec)

/-- 'laws.FnDivide', WHERE WHAT IT READS IS OF BULK AT MOST 1048576: true; the input reads as it did. -/
def fnDivideUptoRow : OpenClaim := { program := "ytohojfcpnlobjaa", sum := "6d28f629a09074399a5cf424995cf0716fa04c9981d4aa77a630da32a204f171", func := "loop.example/leadline/laws.FnDivide", spec := "fnDivide", apart := false, narrowed := true }
def FnDivideUptoSaid : Prop := fnDivideUptoRow.holds Try.pinned (OpenSpec.upto fnDivideSpec)

/-- 'laws.FnSays', WHERE WHAT IT READS IS OF BULK AT MOST 1048576: true; the input reads as it did. -/
def fnSaysUptoRow : OpenClaim := { program := "ytohojfcpnlobjaa", sum := "6d28f629a09074399a5cf424995cf0716fa04c9981d4aa77a630da32a204f171", func := "loop.example/leadline/laws.FnSays", spec := "fnSays", apart := false, narrowed := true }
def FnSaysUptoSaid : Prop := fnSaysUptoRow.holds Try.pinned (OpenSpec.upto fnSaysSpec)

/-- 'laws.FnShift', WHERE WHAT IT READS IS OF BULK AT MOST 1048576: true; the input reads as it did. -/
def fnShiftUptoRow : OpenClaim := { program := "ytohojfcpnlobjaa", sum := "6d28f629a09074399a5cf424995cf0716fa04c9981d4aa77a630da32a204f171", func := "loop.example/leadline/laws.FnShift", spec := "fnShift", apart := false, narrowed := true }
def FnShiftUptoSaid : Prop := fnShiftUptoRow.holds Try.pinned (OpenSpec.upto fnShiftSpec)

/-- 'laws.FnRing', WHERE WHAT IT READS IS OF BULK AT MOST 1048576: true; the input reads as it did. -/
def fnRingUptoRow : OpenClaim := { program := "ytohojfcpnlobjaa", sum := "6d28f629a09074399a5cf424995cf0716fa04c9981d4aa77a630da32a204f171", func := "loop.example/leadline/laws.FnRing", spec := "fnRing", apart := false, narrowed := true }
def FnRingUptoSaid : Prop := fnRingUptoRow.holds Try.pinned (OpenSpec.upto fnRingSpec)

end Rows
end Go.Proofs.Ytohojfcpnlobjaa
