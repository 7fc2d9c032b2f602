/-
  No cell of these rows narrows 'for every input' (looked for: loops, veiled, ifaces, maps, wideKeys, modest, calm, conditions, laid).
  DERIVED. THE GIVEN ROWS OF THIS SEAT. 12 by the template 'for every input the law returns true; each argument reads behind the call as it read before'; 0 by the template 'total and deterministic' (their statements: YtbacmlbdgolcfaaTotals.lean).
  GIVEN WITH THE SEED: the statements are not yours to turn. If you find one false, say at which input.
  Laid BY PROGRAM, IN A SANDBOX (cutbox-rows.mjs): the forced cells as the released guide's own fill.sh prints them over the translation 2f3a919294388475… (all of the seat's roots in one cut). By AI agents, Wed Nov 11 2026. No macro, syntax, notation, axiom, sorry.
-/
import Derived.Test.YtbacmlbdgolcfaaChecked
import GoSem.Claim
import GoSem.ClaimJoined
import GoSem.ClaimMapViews
import Derived.JoinedTies
import Derived.KernelRfl
namespace Go.Proofs.Ytbacmlbdgolcfaa
/- THE CELL 'sum', in the pinned program and in every row, IS THE sha256 OF THE DUMP (.gsa) THAT YtbacmlbdgolcfaaProg.lean LOADS. Nothing in Lean hashes anything: it is a label: what it is worth is what the hold of that sum in a sandbox is worth. -/
noncomputable def Try.pinned : Pinned := { name := "ytbacmlbdgolcfaa", sum := "2f3a919294388475e04210e17dbac021c27ac2808f537108b0f8ab4dde3ea4b5", checked := Try.checked }
namespace Rows
def none {H : Type} : Left H := { results := [], args := [] }

/-- 'laws.FnExactConstants': WHATEVER THE INPUT: true; the input reads as it did. -/
def fnExactConstantsSpec : ChangeSpec := { name := "fnExactConstants", fn := fun _ => fun
  | [] => { results := [.lit (.bool true)], args := [] }
  | _ => none }
def fnExactConstantsRow : OpenClaim := { program := "ytbacmlbdgolcfaa", sum := "2f3a919294388475e04210e17dbac021c27ac2808f537108b0f8ab4dde3ea4b5", func := "loop.example/leadline/laws.FnExactConstants", spec := "fnExactConstants", apart := false }
def FnExactConstantsSaid : Prop := fnExactConstantsRow.holds Try.pinned (OpenSpec.ofChange fnExactConstantsSpec)

/-- ITS FALSE NEIGHBOUR: 'it returns false'. Refute it at one input. -/
def fnExactConstantsWrong : ChangeSpec := { name := "fnExactConstants", fn := fun _ => fun
  | [] => { results := [.lit (.bool false)], args := [] }
  | _ => none }
def FnExactConstantsWrongFalsely : Prop := fnExactConstantsRow.holds Try.pinned (OpenSpec.ofChange fnExactConstantsWrong)

/-- 'laws.FnExactWordOk': WHATEVER THE INPUT: true; the input reads as it did. -/
def fnExactWordOkSpec : ChangeSpec := { name := "fnExactWordOk", fn := fun _ => fun
  | [d1, d2] => { results := [.lit (.bool true)], args := [d1, d2] }
  | _ => none }
def fnExactWordOkRow : OpenClaim := { program := "ytbacmlbdgolcfaa", sum := "2f3a919294388475e04210e17dbac021c27ac2808f537108b0f8ab4dde3ea4b5", func := "loop.example/leadline/laws.FnExactWordOk", spec := "fnExactWordOk", apart := false }
def FnExactWordOkSaid : Prop := fnExactWordOkRow.holds Try.pinned (OpenSpec.ofChange fnExactWordOkSpec)

/-- ITS FALSE NEIGHBOUR: 'it returns false'. Refute it at one input. -/
def fnExactWordOkWrong : ChangeSpec := { name := "fnExactWordOk", fn := fun _ => fun
  | [d1, d2] => { results := [.lit (.bool false)], args := [d1, d2] }
  | _ => none }
def FnExactWordOkWrongFalsely : Prop := fnExactWordOkRow.holds Try.pinned (OpenSpec.ofChange fnExactWordOkWrong)

/-- 'laws.FnExactSortOk': WHATEVER THE INPUT: true; the input reads as it did. -/
def fnExactSortOkSpec : ChangeSpec := { name := "fnExactSortOk", fn := fun _ => fun
  | [d] => { results := [.lit (.bool true)], args := [d] }
  | _ => none }
def fnExactSortOkRow : OpenClaim := { program := "ytbacmlbdgolcfaa", sum := "2f3a919294388475e04210e17dbac021c27ac2808f537108b0f8ab4dde3ea4b5", func := "loop.example/leadline/laws.FnExactSortOk", spec := "fnExactSortOk", apart := false }
def FnExactSortOkSaid : Prop := fnExactSortOkRow.holds Try.pinned (OpenSpec.ofChange fnExactSortOkSpec)

/-- ITS FALSE NEIGHBOUR: 'it returns false'. Refute it at one input. -/
def fnExactSortOkWrong : ChangeSpec := { name := "fnExactSortOk", fn := fun _ => fun
  | [d] => { results := [.lit (.bool false)], args := [d] }
  | _ => none }
def FnExactSortOkWrongFalsely : Prop := fnExactSortOkRow.holds Try.pinned (OpenSpec.ofChange fnExactSortOkWrong)

/-- 'laws.FnExactWordJoin': WHATEVER THE INPUT: true; the input reads as it did. -/
def fnExactWordJoinSpec : ChangeSpec := { name := "fnExactWordJoin", fn := fun _ => fun
  | [d1, d2, d3, d4] => { results := [.lit (.bool true)], args := [d1, d2, d3, d4] }
  | _ => none }
def fnExactWordJoinRow : OpenClaim := { program := "ytbacmlbdgolcfaa", sum := "2f3a919294388475e04210e17dbac021c27ac2808f537108b0f8ab4dde3ea4b5", func := "loop.example/leadline/laws.FnExactWordJoin", spec := "fnExactWordJoin", apart := false }
def FnExactWordJoinSaid : Prop := fnExactWordJoinRow.holds Try.pinned (OpenSpec.ofChange fnExactWordJoinSpec)

/-- ITS FALSE NEIGHBOUR: 'it returns false'. Refute it at one input. -/
def fnExactWordJoinWrong : ChangeSpec := { name := "fnExactWordJoin", fn := fun _ => fun
  | [d1, d2, d3, d4] => { results := [.lit (.bool false)], args := [d1, d2, d3, d4] }
  | _ => none }
def FnExactWordJoinWrongFalsely : Prop := fnExactWordJoinRow.holds Try.pinned (OpenSpec.ofChange fnExactWordJoinWrong)

/-- 'laws.FnExactWordSlice': WHATEVER THE INPUT: true; the input reads as it did. -/
def fnExactWordSliceSpec : ChangeSpec := { name := "fnExactWordSlice", fn := fun _ => fun
  | [d1, d2, d3, d4] => { results := [.lit (.bool true)], args := [d1, d2, d3, d4] }
  | _ => none }
def fnExactWordSliceRow : OpenClaim := { program := "ytbacmlbdgolcfaa", sum := "2f3a919294388475e04210e17dbac021c27ac2808f537108b0f8ab4dde3ea4b5", func := "loop.example/leadline/laws.FnExactWordSlice", spec := "fnExactWordSlice", apart := false }
def FnExactWordSliceSaid : Prop := fnExactWordSliceRow.holds Try.pinned (OpenSpec.ofChange fnExactWordSliceSpec)

/-- ITS FALSE NEIGHBOUR: 'it returns false'. Refute it at one input. -/
def fnExactWordSliceWrong : ChangeSpec := { name := "fnExactWordSlice", fn := fun _ => fun
  | [d1, d2, d3, d4] => { results := [.lit (.bool false)], args := [d1, d2, d3, d4] }
  | _ => none }
def FnExactWordSliceWrongFalsely : Prop := fnExactWordSliceRow.holds Try.pinned (OpenSpec.ofChange fnExactWordSliceWrong)

/-- 'laws.FnExactWordFrom': WHATEVER THE INPUT: true; the input reads as it did. -/
def fnExactWordFromSpec : ChangeSpec := { name := "fnExactWordFrom", fn := fun _ => fun
  | [d1, d2] => { results := [.lit (.bool true)], args := [d1, d2] }
  | _ => none }
def fnExactWordFromRow : OpenClaim := { program := "ytbacmlbdgolcfaa", sum := "2f3a919294388475e04210e17dbac021c27ac2808f537108b0f8ab4dde3ea4b5", func := "loop.example/leadline/laws.FnExactWordFrom", spec := "fnExactWordFrom", apart := false }
def FnExactWordFromSaid : Prop := fnExactWordFromRow.holds Try.pinned (OpenSpec.ofChange fnExactWordFromSpec)

/-- ITS FALSE NEIGHBOUR: 'it returns false'. Refute it at one input. -/
def fnExactWordFromWrong : ChangeSpec := { name := "fnExactWordFrom", fn := fun _ => fun
  | [d1, d2] => { results := [.lit (.bool false)], args := [d1, d2] }
  | _ => none }
def FnExactWordFromWrongFalsely : Prop := fnExactWordFromRow.holds Try.pinned (OpenSpec.ofChange fnExactWordFromWrong)

/-- 'laws.FnExactWordSigned': WHATEVER THE INPUT: true; the input reads as it did. -/
def fnExactWordSignedSpec : ChangeSpec := { name := "fnExactWordSigned", fn := fun _ => fun
  | [d1, d2] => { results := [.lit (.bool true)], args := [d1, d2] }
  | _ => none }
def fnExactWordSignedRow : OpenClaim := { program := "ytbacmlbdgolcfaa", sum := "2f3a919294388475e04210e17dbac021c27ac2808f537108b0f8ab4dde3ea4b5", func := "loop.example/leadline/laws.FnExactWordSigned", spec := "fnExactWordSigned", apart := false }
def FnExactWordSignedSaid : Prop := fnExactWordSignedRow.holds Try.pinned (OpenSpec.ofChange fnExactWordSignedSpec)

/-- ITS FALSE NEIGHBOUR: 'it returns false'. Refute it at one input. -/
def fnExactWordSignedWrong : ChangeSpec := { name := "fnExactWordSigned", fn := fun _ => fun
  | [d1, d2] => { results := [.lit (.bool false)], args := [d1, d2] }
  | _ => none }
def FnExactWordSignedWrongFalsely : Prop := fnExactWordSignedRow.holds Try.pinned (OpenSpec.ofChange fnExactWordSignedWrong)

/-- 'laws.FnExactSortCells': WHATEVER THE INPUT: true; the input reads as it did. -/
def fnExactSortCellsSpec : ChangeSpec := { name := "fnExactSortCells", fn := fun _ => fun
  | [d] => { results := [.lit (.bool true)], args := [d] }
  | _ => none }
def fnExactSortCellsRow : OpenClaim := { program := "ytbacmlbdgolcfaa", sum := "2f3a919294388475e04210e17dbac021c27ac2808f537108b0f8ab4dde3ea4b5", func := "loop.example/leadline/laws.FnExactSortCells", spec := "fnExactSortCells", apart := false }
def FnExactSortCellsSaid : Prop := fnExactSortCellsRow.holds Try.pinned (OpenSpec.ofChange fnExactSortCellsSpec)

/-- ITS FALSE NEIGHBOUR: 'it returns false'. Refute it at one input. -/
def fnExactSortCellsWrong : ChangeSpec := { name := "fnExactSortCells", fn := fun _ => fun
  | [d] => { results := [.lit (.bool false)], args := [d] }
  | _ => none }
def FnExactSortCellsWrongFalsely : Prop := fnExactSortCellsRow.holds Try.pinned (OpenSpec.ofChange fnExactSortCellsWrong)

/-- 'laws.FnExactSortBits': WHATEVER THE INPUT: true; the input reads as it did. -/
def fnExactSortBitsSpec : ChangeSpec := { name := "fnExactSortBits", fn := fun _ => fun
  | [d] => { results := [.lit (.bool true)], args := [d] }
  | _ => none }
def fnExactSortBitsRow : OpenClaim := { program := "ytbacmlbdgolcfaa", sum := "2f3a919294388475e04210e17dbac021c27ac2808f537108b0f8ab4dde3ea4b5", func := "loop.example/leadline/laws.FnExactSortBits", spec := "fnExactSortBits", apart := false }
def FnExactSortBitsSaid : Prop := fnExactSortBitsRow.holds Try.pinned (OpenSpec.ofChange fnExactSortBitsSpec)

/-- ITS FALSE NEIGHBOUR: 'it returns false'. Refute it at one input. -/
def fnExactSortBitsWrong : ChangeSpec := { name := "fnExactSortBits", fn := fun _ => fun
  | [d] => { results := [.lit (.bool false)], args := [d] }
  | _ => none }
def FnExactSortBitsWrongFalsely : Prop := fnExactSortBitsRow.holds Try.pinned (OpenSpec.ofChange fnExactSortBitsWrong)

/-- 'laws.FnExactWordGrow': WHATEVER THE INPUT: true; the input reads as it did. -/
def fnExactWordGrowSpec : ChangeSpec := { name := "fnExactWordGrow", fn := fun _ => fun
  | [d1, d2, d3, d4] => { results := [.lit (.bool true)], args := [d1, d2, d3, d4] }
  | _ => none }
def fnExactWordGrowRow : OpenClaim := { program := "ytbacmlbdgolcfaa", sum := "2f3a919294388475e04210e17dbac021c27ac2808f537108b0f8ab4dde3ea4b5", func := "loop.example/leadline/laws.FnExactWordGrow", spec := "fnExactWordGrow", apart := false }
def FnExactWordGrowSaid : Prop := fnExactWordGrowRow.holds Try.pinned (OpenSpec.ofChange fnExactWordGrowSpec)

/-- ITS FALSE NEIGHBOUR: 'it returns false'. Refute it at one input. -/
def fnExactWordGrowWrong : ChangeSpec := { name := "fnExactWordGrow", fn := fun _ => fun
  | [d1, d2, d3, d4] => { results := [.lit (.bool false)], args := [d1, d2, d3, d4] }
  | _ => none }
def FnExactWordGrowWrongFalsely : Prop := fnExactWordGrowRow.holds Try.pinned (OpenSpec.ofChange fnExactWordGrowWrong)

/-- 'laws.FnExactWordOne': WHATEVER THE INPUT: true; the input reads as it did. -/
def fnExactWordOneSpec : ChangeSpec := { name := "fnExactWordOne", fn := fun _ => fun
  | [d1, d2, d3] => { results := [.lit (.bool true)], args := [d1, d2, d3] }
  | _ => none }
def fnExactWordOneRow : OpenClaim := { program := "ytbacmlbdgolcfaa", sum := "2f3a919294388475e04210e17dbac021c27ac2808f537108b0f8ab4dde3ea4b5", func := "loop.example/leadline/laws.FnExactWordOne", spec := "fnExactWordOne", apart := false }
def FnExactWordOneSaid : Prop := fnExactWordOneRow.holds Try.pinned (OpenSpec.ofChange fnExactWordOneSpec)

/-- ITS FALSE NEIGHBOUR: 'it returns false'. Refute it at one input. -/
def fnExactWordOneWrong : ChangeSpec := { name := "fnExactWordOne", fn := fun _ => fun
  | [d1, d2, d3] => { results := [.lit (.bool false)], args := [d1, d2, d3] }
  | _ => none }
def FnExactWordOneWrongFalsely : Prop := fnExactWordOneRow.holds Try.pinned (OpenSpec.ofChange fnExactWordOneWrong)

/-- 'laws.FnExactWordTwo': WHATEVER THE INPUT: true; the input reads as it did. -/
def fnExactWordTwoSpec : ChangeSpec := { name := "fnExactWordTwo", fn := fun _ => fun
  | [d1, d2, d3, d4] => { results := [.lit (.bool true)], args := [d1, d2, d3, d4] }
  | _ => none }
def fnExactWordTwoRow : OpenClaim := { program := "ytbacmlbdgolcfaa", sum := "2f3a919294388475e04210e17dbac021c27ac2808f537108b0f8ab4dde3ea4b5", func := "loop.example/leadline/laws.FnExactWordTwo", spec := "fnExactWordTwo", apart := false }
def FnExactWordTwoSaid : Prop := fnExactWordTwoRow.holds Try.pinned (OpenSpec.ofChange fnExactWordTwoSpec)

/-- ITS FALSE NEIGHBOUR: 'it returns false'. Refute it at one input. -/
def fnExactWordTwoWrong : ChangeSpec := { name := "fnExactWordTwo", fn := fun _ => fun
  | [d1, d2, d3, d4] => { results := [.lit (.bool false)], args := [d1, d2, d3, d4] }
  | _ => none }
def FnExactWordTwoWrongFalsely : Prop := fnExactWordTwoRow.holds Try.pinned (OpenSpec.ofChange fnExactWordTwoWrong)

/- THE SECOND FORM. 'bulk': how many values and letters a reading holds, each counted each time it is reached (what is shared counts as often as it is met; a slice's spare places count too). A statement '..UptoSaid' is the law's where the arguments, and the package variables that the reading takes, are together of bulk at most 1048576: NARROWER than '..Said'. Prove '..Said' where nothing that the law and all that it calls make is longer than what came in: it says more and counts as full. Else prove '..UptoSaid'. A law counts once. -/
mutual
def uptoBulk {H : Type} : DataW H → Nat
  | .lit (.string bytes) => bytes.length + 1
  | .lit _ => 1
  | .nil => 1
  | .ptr d => uptoBulk d + 1
  | .slice elems spare => uptoBulkAll elems + uptoBulkAll spare + 1
  | .agg parts => uptoBulkAll parts + 1
  | .iface _ d => uptoBulk d + 1
  | .map entries => uptoBulkEntries entries + 1
  | .held _ => 1
def uptoBulkAll {H : Type} : List (DataW H) → Nat
  | [] => 0
  | d :: r => uptoBulk d + uptoBulkAll r
def uptoBulkEntries {H : Type} : List (Lit × DataW H) → Nat
  | [] => 0
  | x :: r => uptoBulkEntry x + uptoBulkEntries r
def uptoBulkEntry {H : Type} : Lit × DataW H → Nat
  | (.string bytes, d) => bytes.length + uptoBulk d + 1
  | (_, d) => uptoBulk d + 1
 end
def uptoSmall : (H : Type) → List (DataW H) → Bool := fun _ ds => decide (uptoBulkAll ds ≤ 1048576)
def OpenSpec.upto (s : _root_.Go.ChangeSpec) : _root_.Go.OpenSpec := { _root_.Go.OpenSpec.ofChange s with cond := some uptoSmall }

/-- 'laws.FnExactConstants', WHERE WHAT IT READS IS OF BULK AT MOST 1048576: true; the input reads as it did. -/
def fnExactConstantsUptoRow : OpenClaim := { program := "ytbacmlbdgolcfaa", sum := "2f3a919294388475e04210e17dbac021c27ac2808f537108b0f8ab4dde3ea4b5", func := "loop.example/leadline/laws.FnExactConstants", spec := "fnExactConstants", apart := false, narrowed := true }
def FnExactConstantsUptoSaid : Prop := fnExactConstantsUptoRow.holds Try.pinned (OpenSpec.upto fnExactConstantsSpec)

/-- 'laws.FnExactWordOk', WHERE WHAT IT READS IS OF BULK AT MOST 1048576: true; the input reads as it did. -/
def fnExactWordOkUptoRow : OpenClaim := { program := "ytbacmlbdgolcfaa", sum := "2f3a919294388475e04210e17dbac021c27ac2808f537108b0f8ab4dde3ea4b5", func := "loop.example/leadline/laws.FnExactWordOk", spec := "fnExactWordOk", apart := false, narrowed := true }
def FnExactWordOkUptoSaid : Prop := fnExactWordOkUptoRow.holds Try.pinned (OpenSpec.upto fnExactWordOkSpec)

/-- 'laws.FnExactSortOk', WHERE WHAT IT READS IS OF BULK AT MOST 1048576: true; the input reads as it did. -/
def fnExactSortOkUptoRow : OpenClaim := { program := "ytbacmlbdgolcfaa", sum := "2f3a919294388475e04210e17dbac021c27ac2808f537108b0f8ab4dde3ea4b5", func := "loop.example/leadline/laws.FnExactSortOk", spec := "fnExactSortOk", apart := false, narrowed := true }
def FnExactSortOkUptoSaid : Prop := fnExactSortOkUptoRow.holds Try.pinned (OpenSpec.upto fnExactSortOkSpec)

/-- 'laws.FnExactWordJoin', WHERE WHAT IT READS IS OF BULK AT MOST 1048576: true; the input reads as it did. -/
def fnExactWordJoinUptoRow : OpenClaim := { program := "ytbacmlbdgolcfaa", sum := "2f3a919294388475e04210e17dbac021c27ac2808f537108b0f8ab4dde3ea4b5", func := "loop.example/leadline/laws.FnExactWordJoin", spec := "fnExactWordJoin", apart := false, narrowed := true }
def FnExactWordJoinUptoSaid : Prop := fnExactWordJoinUptoRow.holds Try.pinned (OpenSpec.upto fnExactWordJoinSpec)

/-- 'laws.FnExactWordSlice', WHERE WHAT IT READS IS OF BULK AT MOST 1048576: true; the input reads as it did. -/
def fnExactWordSliceUptoRow : OpenClaim := { program := "ytbacmlbdgolcfaa", sum := "2f3a919294388475e04210e17dbac021c27ac2808f537108b0f8ab4dde3ea4b5", func := "loop.example/leadline/laws.FnExactWordSlice", spec := "fnExactWordSlice", apart := false, narrowed := true }
def FnExactWordSliceUptoSaid : Prop := fnExactWordSliceUptoRow.holds Try.pinned (OpenSpec.upto fnExactWordSliceSpec)

/-- 'laws.FnExactWordFrom', WHERE WHAT IT READS IS OF BULK AT MOST 1048576: true; the input reads as it did. -/
def fnExactWordFromUptoRow : OpenClaim := { program := "ytbacmlbdgolcfaa", sum := "2f3a919294388475e04210e17dbac021c27ac2808f537108b0f8ab4dde3ea4b5", func := "loop.example/leadline/laws.FnExactWordFrom", spec := "fnExactWordFrom", apart := false, narrowed := true }
def FnExactWordFromUptoSaid : Prop := fnExactWordFromUptoRow.holds Try.pinned (OpenSpec.upto fnExactWordFromSpec)

/-- 'laws.FnExactWordSigned', WHERE WHAT IT READS IS OF BULK AT MOST 1048576: true; the input reads as it did. -/
def fnExactWordSignedUptoRow : OpenClaim := { program := "ytbacmlbdgolcfaa", sum := "2f3a919294388475e04210e17dbac021c27ac2808f537108b0f8ab4dde3ea4b5", func := "loop.example/leadline/laws.FnExactWordSigned", spec := "fnExactWordSigned", apart := false, narrowed := true }
def FnExactWordSignedUptoSaid : Prop := fnExactWordSignedUptoRow.holds Try.pinned (OpenSpec.upto fnExactWordSignedSpec)

/-- 'laws.FnExactSortCells', WHERE WHAT IT READS IS OF BULK AT MOST 1048576: true; the input reads as it did. -/
def fnExactSortCellsUptoRow : OpenClaim := { program := "ytbacmlbdgolcfaa", sum := "2f3a919294388475e04210e17dbac021c27ac2808f537108b0f8ab4dde3ea4b5", func := "loop.example/leadline/laws.FnExactSortCells", spec := "fnExactSortCells", apart := false, narrowed := true }
def FnExactSortCellsUptoSaid : Prop := fnExactSortCellsUptoRow.holds Try.pinned (OpenSpec.upto fnExactSortCellsSpec)

/-- 'laws.FnExactSortBits', WHERE WHAT IT READS IS OF BULK AT MOST 1048576: true; the input reads as it did. -/
def fnExactSortBitsUptoRow : OpenClaim := { program := "ytbacmlbdgolcfaa", sum := "2f3a919294388475e04210e17dbac021c27ac2808f537108b0f8ab4dde3ea4b5", func := "loop.example/leadline/laws.FnExactSortBits", spec := "fnExactSortBits", apart := false, narrowed := true }
def FnExactSortBitsUptoSaid : Prop := fnExactSortBitsUptoRow.holds Try.pinned (OpenSpec.upto fnExactSortBitsSpec)

/-- 'laws.FnExactWordGrow', WHERE WHAT IT READS IS OF BULK AT MOST 1048576: true; the input reads as it did. -/
def fnExactWordGrowUptoRow : OpenClaim := { program := "ytbacmlbdgolcfaa", sum := "2f3a919294388475e04210e17dbac021c27ac2808f537108b0f8ab4dde3ea4b5", func := "loop.example/leadline/laws.FnExactWordGrow", spec := "fnExactWordGrow", apart := false, narrowed := true }
def FnExactWordGrowUptoSaid : Prop := fnExactWordGrowUptoRow.holds Try.pinned (OpenSpec.upto fnExactWordGrowSpec)

/-- 'laws.FnExactWordOne', WHERE WHAT IT READS IS OF BULK AT MOST 1048576: true; the input reads as it did. -/
def fnExactWordOneUptoRow : OpenClaim := { program := "ytbacmlbdgolcfaa", sum := "2f3a919294388475e04210e17dbac021c27ac2808f537108b0f8ab4dde3ea4b5", func := "loop.example/leadline/laws.FnExactWordOne", spec := "fnExactWordOne", apart := false, narrowed := true }
def FnExactWordOneUptoSaid : Prop := fnExactWordOneUptoRow.holds Try.pinned (OpenSpec.upto fnExactWordOneSpec)

/-- 'laws.FnExactWordTwo', WHERE WHAT IT READS IS OF BULK AT MOST 1048576: true; the input reads as it did. -/
def fnExactWordTwoUptoRow : OpenClaim := { program := "ytbacmlbdgolcfaa", sum := "2f3a919294388475e04210e17dbac021c27ac2808f537108b0f8ab4dde3ea4b5", func := "loop.example/leadline/laws.FnExactWordTwo", spec := "fnExactWordTwo", apart := false, narrowed := true }
def FnExactWordTwoUptoSaid : Prop := fnExactWordTwoUptoRow.holds Try.pinned (OpenSpec.upto fnExactWordTwoSpec)

end Rows
end Go.Proofs.Ytbacmlbdgolcfaa
