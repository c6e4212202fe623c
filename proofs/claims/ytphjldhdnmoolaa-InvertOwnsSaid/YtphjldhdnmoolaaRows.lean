/-
  No cell of these rows narrows 'for every input' (looked for: loops, veiled, ifaces, maps, wideKeys, modest, calm, conditions, laid).
  DERIVED. THE GIVEN ROWS OF THIS SEAT. 18 by the template 'for every input the law returns true; each argument reads behind the call as it read before'; 0 by the template 'total and deterministic' (their statements: YtphjldhdnmoolaaTotals.lean).
  GIVEN WITH THE SEED: the statements are not yours to turn. If you find one false, say at which input.
  Laid BY PROGRAM, IN A SANDBOX (cutbox-rows.mjs): the forced cells as the released guide's own fill.sh prints them over the translation 41b9ddbe4848fda4… (all of the seat's roots in one cut). By AI agents, Wed Nov 11 2026. No macro, syntax, notation, axiom, sorry.
-/
import Derived.Test.YtphjldhdnmoolaaChecked
import GoSem.Claim
import GoSem.ClaimJoined
import GoSem.ClaimMapViews
import Derived.JoinedTies
import Derived.KernelRfl
namespace Go.Proofs.Ytphjldhdnmoolaa
/- THE CELL 'sum', in the pinned program and in every row, IS THE sha256 OF THE DUMP (.gsa) THAT YtphjldhdnmoolaaProg.lean LOADS. Nothing in Lean hashes anything: it is a label: what it is worth is what the hold of that sum in a sandbox is worth. -/
noncomputable def Try.pinned : Pinned := { name := "ytphjldhdnmoolaa", sum := "41b9ddbe4848fda49edf74da4f6df0ae962c4e392558cb1e6b01e9c4ca646044", checked := Try.checked }
namespace Rows
def none {H : Type} : Left H := { results := [], args := [] }

/-- 'palimpsestlaw08.CheckTexts': WHATEVER THE INPUT: true; the input reads as it did. -/
def checkTextsSpec : ChangeSpec := { name := "checkTexts", fn := fun _ => fun
  | [d] => { results := [.lit (.bool true)], args := [d] }
  | _ => none }
def checkTextsRow : OpenClaim := { program := "ytphjldhdnmoolaa", sum := "41b9ddbe4848fda49edf74da4f6df0ae962c4e392558cb1e6b01e9c4ca646044", func := "palimpsest/palimpsestlaw08.CheckTexts", spec := "checkTexts", recurses := true, apart := false }
def CheckTextsSaid : Prop := checkTextsRow.holds Try.pinned (OpenSpec.ofChange checkTextsSpec)

/-- ITS FALSE NEIGHBOUR: 'it returns false'. Refute it at one input. -/
def checkTextsWrong : ChangeSpec := { name := "checkTexts", fn := fun _ => fun
  | [d] => { results := [.lit (.bool false)], args := [d] }
  | _ => none }
def CheckTextsWrongFalsely : Prop := checkTextsRow.holds Try.pinned (OpenSpec.ofChange checkTextsWrong)

/-- 'palimpsestlaw10.InvertAgain': WHATEVER THE INPUT: true; the input reads as it did. -/
def invertAgainSpec : ChangeSpec := { name := "invertAgain", fn := fun _ => fun
  | [d] => { results := [.lit (.bool true)], args := [d] }
  | _ => none }
def invertAgainRow : OpenClaim := { program := "ytphjldhdnmoolaa", sum := "41b9ddbe4848fda49edf74da4f6df0ae962c4e392558cb1e6b01e9c4ca646044", func := "palimpsest/palimpsestlaw10.InvertAgain", spec := "invertAgain", inPlace := ["maps.clone"], recurses := true, apart := false }
def InvertAgainSaid : Prop := invertAgainRow.holds Try.pinned (OpenSpec.ofChange invertAgainSpec)

/-- ITS FALSE NEIGHBOUR: 'it returns false'. Refute it at one input. -/
def invertAgainWrong : ChangeSpec := { name := "invertAgain", fn := fun _ => fun
  | [d] => { results := [.lit (.bool false)], args := [d] }
  | _ => none }
def InvertAgainWrongFalsely : Prop := invertAgainRow.holds Try.pinned (OpenSpec.ofChange invertAgainWrong)

/-- 'palimpsestlaw08.CheckNames': WHATEVER THE INPUT: true; the input reads as it did. -/
def checkNamesSpec : ChangeSpec := { name := "checkNames", fn := fun _ => fun
  | [d] => { results := [.lit (.bool true)], args := [d] }
  | _ => none }
def checkNamesRow : OpenClaim := { program := "ytphjldhdnmoolaa", sum := "41b9ddbe4848fda49edf74da4f6df0ae962c4e392558cb1e6b01e9c4ca646044", func := "palimpsest/palimpsestlaw08.CheckNames", spec := "checkNames", recurses := true, apart := false }
def CheckNamesSaid : Prop := checkNamesRow.holds Try.pinned (OpenSpec.ofChange checkNamesSpec)

/-- ITS FALSE NEIGHBOUR: 'it returns false'. Refute it at one input. -/
def checkNamesWrong : ChangeSpec := { name := "checkNames", fn := fun _ => fun
  | [d] => { results := [.lit (.bool false)], args := [d] }
  | _ => none }
def CheckNamesWrongFalsely : Prop := checkNamesRow.holds Try.pinned (OpenSpec.ofChange checkNamesWrong)

/-- 'palimpsestlaw08.CheckModes': WHATEVER THE INPUT: true; the input reads as it did. -/
def checkModesSpec : ChangeSpec := { name := "checkModes", fn := fun _ => fun
  | [d] => { results := [.lit (.bool true)], args := [d] }
  | _ => none }
def checkModesRow : OpenClaim := { program := "ytphjldhdnmoolaa", sum := "41b9ddbe4848fda49edf74da4f6df0ae962c4e392558cb1e6b01e9c4ca646044", func := "palimpsest/palimpsestlaw08.CheckModes", spec := "checkModes", recurses := true, apart := false }
def CheckModesSaid : Prop := checkModesRow.holds Try.pinned (OpenSpec.ofChange checkModesSpec)

/-- ITS FALSE NEIGHBOUR: 'it returns false'. Refute it at one input. -/
def checkModesWrong : ChangeSpec := { name := "checkModes", fn := fun _ => fun
  | [d] => { results := [.lit (.bool false)], args := [d] }
  | _ => none }
def CheckModesWrongFalsely : Prop := checkModesRow.holds Try.pinned (OpenSpec.ofChange checkModesWrong)

/-- 'palimpsestlaw10.InvertChains': WHATEVER THE INPUT: true; the input reads as it did. -/
def invertChainsSpec : ChangeSpec := { name := "invertChains", fn := fun _ => fun
  | [d1, d2] => { results := [.lit (.bool true)], args := [d1, d2] }
  | _ => none }
def invertChainsRow : OpenClaim := { program := "ytphjldhdnmoolaa", sum := "41b9ddbe4848fda49edf74da4f6df0ae962c4e392558cb1e6b01e9c4ca646044", func := "palimpsest/palimpsestlaw10.InvertChains", spec := "invertChains", inPlace := ["maps.clone"], recurses := true, apart := false }
def InvertChainsSaid : Prop := invertChainsRow.holds Try.pinned (OpenSpec.ofChange invertChainsSpec)

/-- ITS FALSE NEIGHBOUR: 'it returns false'. Refute it at one input. -/
def invertChainsWrong : ChangeSpec := { name := "invertChains", fn := fun _ => fun
  | [d1, d2] => { results := [.lit (.bool false)], args := [d1, d2] }
  | _ => none }
def InvertChainsWrongFalsely : Prop := invertChainsRow.holds Try.pinned (OpenSpec.ofChange invertChainsWrong)

/-- 'palimpsestlaw08.CheckSteps': WHATEVER THE INPUT: true; the input reads as it did. -/
def checkStepsSpec : ChangeSpec := { name := "checkSteps", fn := fun _ => fun
  | [d1, d2] => { results := [.lit (.bool true)], args := [d1, d2] }
  | _ => none }
def checkStepsRow : OpenClaim := { program := "ytphjldhdnmoolaa", sum := "41b9ddbe4848fda49edf74da4f6df0ae962c4e392558cb1e6b01e9c4ca646044", func := "palimpsest/palimpsestlaw08.CheckSteps", spec := "checkSteps", recurses := true, apart := false }
def CheckStepsSaid : Prop := checkStepsRow.holds Try.pinned (OpenSpec.ofChange checkStepsSpec)

/-- ITS FALSE NEIGHBOUR: 'it returns false'. Refute it at one input. -/
def checkStepsWrong : ChangeSpec := { name := "checkSteps", fn := fun _ => fun
  | [d1, d2] => { results := [.lit (.bool false)], args := [d1, d2] }
  | _ => none }
def CheckStepsWrongFalsely : Prop := checkStepsRow.holds Try.pinned (OpenSpec.ofChange checkStepsWrong)

/-- 'palimpsestlaw08.CheckTypes': WHATEVER THE INPUT: true; the input reads as it did. -/
def checkTypesSpec : ChangeSpec := { name := "checkTypes", fn := fun _ => fun
  | [d1, d2, d3] => { results := [.lit (.bool true)], args := [d1, d2, d3] }
  | _ => none }
def checkTypesRow : OpenClaim := { program := "ytphjldhdnmoolaa", sum := "41b9ddbe4848fda49edf74da4f6df0ae962c4e392558cb1e6b01e9c4ca646044", func := "palimpsest/palimpsestlaw08.CheckTypes", spec := "checkTypes", unfollowed := true, recurses := true, apart := false }
def CheckTypesSaid : Prop := checkTypesRow.holds Try.pinned (OpenSpec.ofChange checkTypesSpec)

/-- ITS FALSE NEIGHBOUR: 'it returns false'. Refute it at one input. -/
def checkTypesWrong : ChangeSpec := { name := "checkTypes", fn := fun _ => fun
  | [d1, d2, d3] => { results := [.lit (.bool false)], args := [d1, d2, d3] }
  | _ => none }
def CheckTypesWrongFalsely : Prop := checkTypesRow.holds Try.pinned (OpenSpec.ofChange checkTypesWrong)

/-- 'palimpsestlaw08.CheckScopes': WHATEVER THE INPUT: true; the input reads as it did. -/
def checkScopesSpec : ChangeSpec := { name := "checkScopes", fn := fun _ => fun
  | [d] => { results := [.lit (.bool true)], args := [d] }
  | _ => none }
def checkScopesRow : OpenClaim := { program := "ytphjldhdnmoolaa", sum := "41b9ddbe4848fda49edf74da4f6df0ae962c4e392558cb1e6b01e9c4ca646044", func := "palimpsest/palimpsestlaw08.CheckScopes", spec := "checkScopes", recurses := true, apart := false }
def CheckScopesSaid : Prop := checkScopesRow.holds Try.pinned (OpenSpec.ofChange checkScopesSpec)

/-- ITS FALSE NEIGHBOUR: 'it returns false'. Refute it at one input. -/
def checkScopesWrong : ChangeSpec := { name := "checkScopes", fn := fun _ => fun
  | [d] => { results := [.lit (.bool false)], args := [d] }
  | _ => none }
def CheckScopesWrongFalsely : Prop := checkScopesRow.holds Try.pinned (OpenSpec.ofChange checkScopesWrong)

/-- 'palimpsestlaw08.CheckCalls': WHATEVER THE INPUT: true; the input reads as it did. -/
def checkCallsSpec : ChangeSpec := { name := "checkCalls", fn := fun _ => fun
  | [d1, d2] => { results := [.lit (.bool true)], args := [d1, d2] }
  | _ => none }
def checkCallsRow : OpenClaim := { program := "ytphjldhdnmoolaa", sum := "41b9ddbe4848fda49edf74da4f6df0ae962c4e392558cb1e6b01e9c4ca646044", func := "palimpsest/palimpsestlaw08.CheckCalls", spec := "checkCalls", recurses := true, apart := false }
def CheckCallsSaid : Prop := checkCallsRow.holds Try.pinned (OpenSpec.ofChange checkCallsSpec)

/-- ITS FALSE NEIGHBOUR: 'it returns false'. Refute it at one input. -/
def checkCallsWrong : ChangeSpec := { name := "checkCalls", fn := fun _ => fun
  | [d1, d2] => { results := [.lit (.bool false)], args := [d1, d2] }
  | _ => none }
def CheckCallsWrongFalsely : Prop := checkCallsRow.holds Try.pinned (OpenSpec.ofChange checkCallsWrong)

/-- 'palimpsestlaw10.InvertTurns': WHATEVER THE INPUT: true; the input reads as it did. -/
def invertTurnsSpec : ChangeSpec := { name := "invertTurns", fn := fun _ => fun
  | [d] => { results := [.lit (.bool true)], args := [d] }
  | _ => none }
def invertTurnsRow : OpenClaim := { program := "ytphjldhdnmoolaa", sum := "41b9ddbe4848fda49edf74da4f6df0ae962c4e392558cb1e6b01e9c4ca646044", func := "palimpsest/palimpsestlaw10.InvertTurns", spec := "invertTurns", recurses := true, apart := false }
def InvertTurnsSaid : Prop := invertTurnsRow.holds Try.pinned (OpenSpec.ofChange invertTurnsSpec)

/-- ITS FALSE NEIGHBOUR: 'it returns false'. Refute it at one input. -/
def invertTurnsWrong : ChangeSpec := { name := "invertTurns", fn := fun _ => fun
  | [d] => { results := [.lit (.bool false)], args := [d] }
  | _ => none }
def InvertTurnsWrongFalsely : Prop := invertTurnsRow.holds Try.pinned (OpenSpec.ofChange invertTurnsWrong)

/-- 'palimpsestlaw10.InvertOwns': WHATEVER THE INPUT: true; the input reads as it did. -/
def invertOwnsSpec : ChangeSpec := { name := "invertOwns", fn := fun _ => fun
  | [d] => { results := [.lit (.bool true)], args := [d] }
  | _ => none }
def invertOwnsRow : OpenClaim := { program := "ytphjldhdnmoolaa", sum := "41b9ddbe4848fda49edf74da4f6df0ae962c4e392558cb1e6b01e9c4ca646044", func := "palimpsest/palimpsestlaw10.InvertOwns", spec := "invertOwns", recurses := true, apart := false }
def InvertOwnsSaid : Prop := invertOwnsRow.holds Try.pinned (OpenSpec.ofChange invertOwnsSpec)

/-- ITS FALSE NEIGHBOUR: 'it returns false'. Refute it at one input. -/
def invertOwnsWrong : ChangeSpec := { name := "invertOwns", fn := fun _ => fun
  | [d] => { results := [.lit (.bool false)], args := [d] }
  | _ => none }
def InvertOwnsWrongFalsely : Prop := invertOwnsRow.holds Try.pinned (OpenSpec.ofChange invertOwnsWrong)

/-- 'palimpsestlaw10.InvertKinds': WHATEVER THE INPUT: true; the input reads as it did. -/
def invertKindsSpec : ChangeSpec := { name := "invertKinds", fn := fun _ => fun
  | [d] => { results := [.lit (.bool true)], args := [d] }
  | _ => none }
def invertKindsRow : OpenClaim := { program := "ytphjldhdnmoolaa", sum := "41b9ddbe4848fda49edf74da4f6df0ae962c4e392558cb1e6b01e9c4ca646044", func := "palimpsest/palimpsestlaw10.InvertKinds", spec := "invertKinds", recurses := true, apart := false }
def InvertKindsSaid : Prop := invertKindsRow.holds Try.pinned (OpenSpec.ofChange invertKindsSpec)

/-- ITS FALSE NEIGHBOUR: 'it returns false'. Refute it at one input. -/
def invertKindsWrong : ChangeSpec := { name := "invertKinds", fn := fun _ => fun
  | [d] => { results := [.lit (.bool false)], args := [d] }
  | _ => none }
def InvertKindsWrongFalsely : Prop := invertKindsRow.holds Try.pinned (OpenSpec.ofChange invertKindsWrong)

/-- 'palimpsestlaw09.EvalReads': WHATEVER THE INPUT: true; the input reads as it did. -/
def evalReadsSpec : ChangeSpec := { name := "evalReads", fn := fun _ => fun
  | [d] => { results := [.lit (.bool true)], args := [d] }
  | _ => none }
def evalReadsRow : OpenClaim := { program := "ytphjldhdnmoolaa", sum := "41b9ddbe4848fda49edf74da4f6df0ae962c4e392558cb1e6b01e9c4ca646044", func := "palimpsest/palimpsestlaw09.EvalReads", spec := "evalReads", inPlace := ["maps.clone"], recurses := true, apart := false }
def EvalReadsSaid : Prop := evalReadsRow.holds Try.pinned (OpenSpec.ofChange evalReadsSpec)

/-- ITS FALSE NEIGHBOUR: 'it returns false'. Refute it at one input. -/
def evalReadsWrong : ChangeSpec := { name := "evalReads", fn := fun _ => fun
  | [d] => { results := [.lit (.bool false)], args := [d] }
  | _ => none }
def EvalReadsWrongFalsely : Prop := evalReadsRow.holds Try.pinned (OpenSpec.ofChange evalReadsWrong)

/-- 'palimpsestlaw09.EvalAdds': WHATEVER THE INPUT: true; the input reads as it did. -/
def evalAddsSpec : ChangeSpec := { name := "evalAdds", fn := fun _ => fun
  | [d1, d2] => { results := [.lit (.bool true)], args := [d1, d2] }
  | _ => none }
def evalAddsRow : OpenClaim := { program := "ytphjldhdnmoolaa", sum := "41b9ddbe4848fda49edf74da4f6df0ae962c4e392558cb1e6b01e9c4ca646044", func := "palimpsest/palimpsestlaw09.EvalAdds", spec := "evalAdds", inPlace := ["maps.clone"], recurses := true, apart := false }
def EvalAddsSaid : Prop := evalAddsRow.holds Try.pinned (OpenSpec.ofChange evalAddsSpec)

/-- ITS FALSE NEIGHBOUR: 'it returns false'. Refute it at one input. -/
def evalAddsWrong : ChangeSpec := { name := "evalAdds", fn := fun _ => fun
  | [d1, d2] => { results := [.lit (.bool false)], args := [d1, d2] }
  | _ => none }
def EvalAddsWrongFalsely : Prop := evalAddsRow.holds Try.pinned (OpenSpec.ofChange evalAddsWrong)

/-- 'palimpsestlaw09.EvalOperators': WHATEVER THE INPUT: true; the input reads as it did. -/
def evalOperatorsSpec : ChangeSpec := { name := "evalOperators", fn := fun _ => fun
  | [d1, d2] => { results := [.lit (.bool true)], args := [d1, d2] }
  | _ => none }
def evalOperatorsRow : OpenClaim := { program := "ytphjldhdnmoolaa", sum := "41b9ddbe4848fda49edf74da4f6df0ae962c4e392558cb1e6b01e9c4ca646044", func := "palimpsest/palimpsestlaw09.EvalOperators", spec := "evalOperators", inPlace := ["maps.clone"], recurses := true, apart := false }
def EvalOperatorsSaid : Prop := evalOperatorsRow.holds Try.pinned (OpenSpec.ofChange evalOperatorsSpec)

/-- ITS FALSE NEIGHBOUR: 'it returns false'. Refute it at one input. -/
def evalOperatorsWrong : ChangeSpec := { name := "evalOperators", fn := fun _ => fun
  | [d1, d2] => { results := [.lit (.bool false)], args := [d1, d2] }
  | _ => none }
def EvalOperatorsWrongFalsely : Prop := evalOperatorsRow.holds Try.pinned (OpenSpec.ofChange evalOperatorsWrong)

/-- 'palimpsestlaw09.EvalNeeds': WHATEVER THE INPUT: true; the input reads as it did. -/
def evalNeedsSpec : ChangeSpec := { name := "evalNeeds", fn := fun _ => fun
  | [d1, d2, d3] => { results := [.lit (.bool true)], args := [d1, d2, d3] }
  | _ => none }
def evalNeedsRow : OpenClaim := { program := "ytphjldhdnmoolaa", sum := "41b9ddbe4848fda49edf74da4f6df0ae962c4e392558cb1e6b01e9c4ca646044", func := "palimpsest/palimpsestlaw09.EvalNeeds", spec := "evalNeeds", inPlace := ["maps.clone"], recurses := true, apart := false }
def EvalNeedsSaid : Prop := evalNeedsRow.holds Try.pinned (OpenSpec.ofChange evalNeedsSpec)

/-- ITS FALSE NEIGHBOUR: 'it returns false'. Refute it at one input. -/
def evalNeedsWrong : ChangeSpec := { name := "evalNeeds", fn := fun _ => fun
  | [d1, d2, d3] => { results := [.lit (.bool false)], args := [d1, d2, d3] }
  | _ => none }
def EvalNeedsWrongFalsely : Prop := evalNeedsRow.holds Try.pinned (OpenSpec.ofChange evalNeedsWrong)

/-- 'palimpsestlaw09.EvalSwaps': WHATEVER THE INPUT: true; the input reads as it did. -/
def evalSwapsSpec : ChangeSpec := { name := "evalSwaps", fn := fun _ => fun
  | [d1, d2, d3] => { results := [.lit (.bool true)], args := [d1, d2, d3] }
  | _ => none }
def evalSwapsRow : OpenClaim := { program := "ytphjldhdnmoolaa", sum := "41b9ddbe4848fda49edf74da4f6df0ae962c4e392558cb1e6b01e9c4ca646044", func := "palimpsest/palimpsestlaw09.EvalSwaps", spec := "evalSwaps", inPlace := ["maps.clone"], recurses := true, apart := false }
def EvalSwapsSaid : Prop := evalSwapsRow.holds Try.pinned (OpenSpec.ofChange evalSwapsSpec)

/-- ITS FALSE NEIGHBOUR: 'it returns false'. Refute it at one input. -/
def evalSwapsWrong : ChangeSpec := { name := "evalSwaps", fn := fun _ => fun
  | [d1, d2, d3] => { results := [.lit (.bool false)], args := [d1, d2, d3] }
  | _ => none }
def EvalSwapsWrongFalsely : Prop := evalSwapsRow.holds Try.pinned (OpenSpec.ofChange evalSwapsWrong)

/-- 'palimpsestlaw10.InvertUndoes': WHATEVER THE INPUT: true; the input reads as it did. -/
def invertUndoesSpec : ChangeSpec := { name := "invertUndoes", fn := fun _ => fun
  | [d] => { results := [.lit (.bool true)], args := [d] }
  | _ => none }
def invertUndoesRow : OpenClaim := { program := "ytphjldhdnmoolaa", sum := "41b9ddbe4848fda49edf74da4f6df0ae962c4e392558cb1e6b01e9c4ca646044", func := "palimpsest/palimpsestlaw10.InvertUndoes", spec := "invertUndoes", inPlace := ["maps.clone"], recurses := true, apart := false }
def InvertUndoesSaid : Prop := invertUndoesRow.holds Try.pinned (OpenSpec.ofChange invertUndoesSpec)

/-- ITS FALSE NEIGHBOUR: 'it returns false'. Refute it at one input. -/
def invertUndoesWrong : ChangeSpec := { name := "invertUndoes", fn := fun _ => fun
  | [d] => { results := [.lit (.bool false)], args := [d] }
  | _ => none }
def InvertUndoesWrongFalsely : Prop := invertUndoesRow.holds Try.pinned (OpenSpec.ofChange invertUndoesWrong)

/- THE SECOND FORM. 'bulk': how many values and letters a reading holds, each counted each time it is reached (what is shared counts as often as it is met; a slice's spare places count too). A statement '..UptoSaid' is the law's where the arguments, and the package variables that the reading takes, are together of bulk at most 1048576: NARROWER than '..Said'. Prove '..Said' where nothing that the law and all that it calls make is longer than what came in: it says more and counts as full. Else prove '..UptoSaid'. A law counts once. -/
mutual
def uptoBulk {H : Type} : DataW H → Nat
  | .lit (.string bytes) => bytes.length + 1
  | .lit _ => 1
  | .nil => 1
  | .ptr d => uptoBulk d + 1
  | .slice elems spare => uptoBulkAll elems + uptoBulkAll spare + 1
  | .agg parts => uptoBulkAll parts + 1
  | .iface _ d => uptoBulk d + 1
  | .map entries => uptoBulkEntries entries + 1
  | .held _ => 1
def uptoBulkAll {H : Type} : List (DataW H) → Nat
  | [] => 0
  | d :: r => uptoBulk d + uptoBulkAll r
def uptoBulkEntries {H : Type} : List (Lit × DataW H) → Nat
  | [] => 0
  | x :: r => uptoBulkEntry x + uptoBulkEntries r
def uptoBulkEntry {H : Type} : Lit × DataW H → Nat
  | (.string bytes, d) => bytes.length + uptoBulk d + 1
  | (_, d) => uptoBulk d + 1
 end
def uptoSmall : (H : Type) → List (DataW H) → Bool := fun _ ds => decide (uptoBulkAll ds ≤ 1048576)
def OpenSpec.upto (s : _root_.Go.ChangeSpec) : _root_.Go.OpenSpec := { _root_.Go.OpenSpec.ofChange s with cond := some uptoSmall }

/-- 'palimpsestlaw08.CheckTexts', WHERE WHAT IT READS IS OF BULK AT MOST 1048576: true; the input reads as it did. -/
def checkTextsUptoRow : OpenClaim := { program := "ytphjldhdnmoolaa", sum := "41b9ddbe4848fda49edf74da4f6df0ae962c4e392558cb1e6b01e9c4ca646044", func := "palimpsest/palimpsestlaw08.CheckTexts", spec := "checkTexts", recurses := true, apart := false, narrowed := true }
def CheckTextsUptoSaid : Prop := checkTextsUptoRow.holds Try.pinned (OpenSpec.upto checkTextsSpec)

/-- 'palimpsestlaw10.InvertAgain', WHERE WHAT IT READS IS OF BULK AT MOST 1048576: true; the input reads as it did. -/
def invertAgainUptoRow : OpenClaim := { program := "ytphjldhdnmoolaa", sum := "41b9ddbe4848fda49edf74da4f6df0ae962c4e392558cb1e6b01e9c4ca646044", func := "palimpsest/palimpsestlaw10.InvertAgain", spec := "invertAgain", inPlace := ["maps.clone"], recurses := true, apart := false, narrowed := true }
def InvertAgainUptoSaid : Prop := invertAgainUptoRow.holds Try.pinned (OpenSpec.upto invertAgainSpec)

/-- 'palimpsestlaw08.CheckNames', WHERE WHAT IT READS IS OF BULK AT MOST 1048576: true; the input reads as it did. -/
def checkNamesUptoRow : OpenClaim := { program := "ytphjldhdnmoolaa", sum := "41b9ddbe4848fda49edf74da4f6df0ae962c4e392558cb1e6b01e9c4ca646044", func := "palimpsest/palimpsestlaw08.CheckNames", spec := "checkNames", recurses := true, apart := false, narrowed := true }
def CheckNamesUptoSaid : Prop := checkNamesUptoRow.holds Try.pinned (OpenSpec.upto checkNamesSpec)

/-- 'palimpsestlaw08.CheckModes', WHERE WHAT IT READS IS OF BULK AT MOST 1048576: true; the input reads as it did. -/
def checkModesUptoRow : OpenClaim := { program := "ytphjldhdnmoolaa", sum := "41b9ddbe4848fda49edf74da4f6df0ae962c4e392558cb1e6b01e9c4ca646044", func := "palimpsest/palimpsestlaw08.CheckModes", spec := "checkModes", recurses := true, apart := false, narrowed := true }
def CheckModesUptoSaid : Prop := checkModesUptoRow.holds Try.pinned (OpenSpec.upto checkModesSpec)

/-- 'palimpsestlaw10.InvertChains', WHERE WHAT IT READS IS OF BULK AT MOST 1048576: true; the input reads as it did. -/
def invertChainsUptoRow : OpenClaim := { program := "ytphjldhdnmoolaa", sum := "41b9ddbe4848fda49edf74da4f6df0ae962c4e392558cb1e6b01e9c4ca646044", func := "palimpsest/palimpsestlaw10.InvertChains", spec := "invertChains", inPlace := ["maps.clone"], recurses := true, apart := false, narrowed := true }
def InvertChainsUptoSaid : Prop := invertChainsUptoRow.holds Try.pinned (OpenSpec.upto invertChainsSpec)

/-- 'palimpsestlaw08.CheckSteps', WHERE WHAT IT READS IS OF BULK AT MOST 1048576: true; the input reads as it did. -/
def checkStepsUptoRow : OpenClaim := { program := "ytphjldhdnmoolaa", sum := "41b9ddbe4848fda49edf74da4f6df0ae962c4e392558cb1e6b01e9c4ca646044", func := "palimpsest/palimpsestlaw08.CheckSteps", spec := "checkSteps", recurses := true, apart := false, narrowed := true }
def CheckStepsUptoSaid : Prop := checkStepsUptoRow.holds Try.pinned (OpenSpec.upto checkStepsSpec)

/-- 'palimpsestlaw08.CheckTypes', WHERE WHAT IT READS IS OF BULK AT MOST 1048576: true; the input reads as it did. -/
def checkTypesUptoRow : OpenClaim := { program := "ytphjldhdnmoolaa", sum := "41b9ddbe4848fda49edf74da4f6df0ae962c4e392558cb1e6b01e9c4ca646044", func := "palimpsest/palimpsestlaw08.CheckTypes", spec := "checkTypes", unfollowed := true, recurses := true, apart := false, narrowed := true }
def CheckTypesUptoSaid : Prop := checkTypesUptoRow.holds Try.pinned (OpenSpec.upto checkTypesSpec)

/-- 'palimpsestlaw08.CheckScopes', WHERE WHAT IT READS IS OF BULK AT MOST 1048576: true; the input reads as it did. -/
def checkScopesUptoRow : OpenClaim := { program := "ytphjldhdnmoolaa", sum := "41b9ddbe4848fda49edf74da4f6df0ae962c4e392558cb1e6b01e9c4ca646044", func := "palimpsest/palimpsestlaw08.CheckScopes", spec := "checkScopes", recurses := true, apart := false, narrowed := true }
def CheckScopesUptoSaid : Prop := checkScopesUptoRow.holds Try.pinned (OpenSpec.upto checkScopesSpec)

/-- 'palimpsestlaw08.CheckCalls', WHERE WHAT IT READS IS OF BULK AT MOST 1048576: true; the input reads as it did. -/
def checkCallsUptoRow : OpenClaim := { program := "ytphjldhdnmoolaa", sum := "41b9ddbe4848fda49edf74da4f6df0ae962c4e392558cb1e6b01e9c4ca646044", func := "palimpsest/palimpsestlaw08.CheckCalls", spec := "checkCalls", recurses := true, apart := false, narrowed := true }
def CheckCallsUptoSaid : Prop := checkCallsUptoRow.holds Try.pinned (OpenSpec.upto checkCallsSpec)

/-- 'palimpsestlaw10.InvertTurns', WHERE WHAT IT READS IS OF BULK AT MOST 1048576: true; the input reads as it did. -/
def invertTurnsUptoRow : OpenClaim := { program := "ytphjldhdnmoolaa", sum := "41b9ddbe4848fda49edf74da4f6df0ae962c4e392558cb1e6b01e9c4ca646044", func := "palimpsest/palimpsestlaw10.InvertTurns", spec := "invertTurns", recurses := true, apart := false, narrowed := true }
def InvertTurnsUptoSaid : Prop := invertTurnsUptoRow.holds Try.pinned (OpenSpec.upto invertTurnsSpec)

/-- 'palimpsestlaw10.InvertOwns', WHERE WHAT IT READS IS OF BULK AT MOST 1048576: true; the input reads as it did. -/
def invertOwnsUptoRow : OpenClaim := { program := "ytphjldhdnmoolaa", sum := "41b9ddbe4848fda49edf74da4f6df0ae962c4e392558cb1e6b01e9c4ca646044", func := "palimpsest/palimpsestlaw10.InvertOwns", spec := "invertOwns", recurses := true, apart := false, narrowed := true }
def InvertOwnsUptoSaid : Prop := invertOwnsUptoRow.holds Try.pinned (OpenSpec.upto invertOwnsSpec)

/-- 'palimpsestlaw10.InvertKinds', WHERE WHAT IT READS IS OF BULK AT MOST 1048576: true; the input reads as it did. -/
def invertKindsUptoRow : OpenClaim := { program := "ytphjldhdnmoolaa", sum := "41b9ddbe4848fda49edf74da4f6df0ae962c4e392558cb1e6b01e9c4ca646044", func := "palimpsest/palimpsestlaw10.InvertKinds", spec := "invertKinds", recurses := true, apart := false, narrowed := true }
def InvertKindsUptoSaid : Prop := invertKindsUptoRow.holds Try.pinned (OpenSpec.upto invertKindsSpec)

/-- 'palimpsestlaw09.EvalReads', WHERE WHAT IT READS IS OF BULK AT MOST 1048576: true; the input reads as it did. -/
def evalReadsUptoRow : OpenClaim := { program := "ytphjldhdnmoolaa", sum := "41b9ddbe4848fda49edf74da4f6df0ae962c4e392558cb1e6b01e9c4ca646044", func := "palimpsest/palimpsestlaw09.EvalReads", spec := "evalReads", inPlace := ["maps.clone"], recurses := true, apart := false, narrowed := true }
def EvalReadsUptoSaid : Prop := evalReadsUptoRow.holds Try.pinned (OpenSpec.upto evalReadsSpec)

/-- 'palimpsestlaw09.EvalAdds', WHERE WHAT IT READS IS OF BULK AT MOST 1048576: true; the input reads as it did. -/
def evalAddsUptoRow : OpenClaim := { program := "ytphjldhdnmoolaa", sum := "41b9ddbe4848fda49edf74da4f6df0ae962c4e392558cb1e6b01e9c4ca646044", func := "palimpsest/palimpsestlaw09.EvalAdds", spec := "evalAdds", inPlace := ["maps.clone"], recurses := true, apart := false, narrowed := true }
def EvalAddsUptoSaid : Prop := evalAddsUptoRow.holds Try.pinned (OpenSpec.upto evalAddsSpec)

/-- 'palimpsestlaw09.EvalOperators', WHERE WHAT IT READS IS OF BULK AT MOST 1048576: true; the input reads as it did. -/
def evalOperatorsUptoRow : OpenClaim := { program := "ytphjldhdnmoolaa", sum := "41b9ddbe4848fda49edf74da4f6df0ae962c4e392558cb1e6b01e9c4ca646044", func := "palimpsest/palimpsestlaw09.EvalOperators", spec := "evalOperators", inPlace := ["maps.clone"], recurses := true, apart := false, narrowed := true }
def EvalOperatorsUptoSaid : Prop := evalOperatorsUptoRow.holds Try.pinned (OpenSpec.upto evalOperatorsSpec)

/-- 'palimpsestlaw09.EvalNeeds', WHERE WHAT IT READS IS OF BULK AT MOST 1048576: true; the input reads as it did. -/
def evalNeedsUptoRow : OpenClaim := { program := "ytphjldhdnmoolaa", sum := "41b9ddbe4848fda49edf74da4f6df0ae962c4e392558cb1e6b01e9c4ca646044", func := "palimpsest/palimpsestlaw09.EvalNeeds", spec := "evalNeeds", inPlace := ["maps.clone"], recurses := true, apart := false, narrowed := true }
def EvalNeedsUptoSaid : Prop := evalNeedsUptoRow.holds Try.pinned (OpenSpec.upto evalNeedsSpec)

/-- 'palimpsestlaw09.EvalSwaps', WHERE WHAT IT READS IS OF BULK AT MOST 1048576: true; the input reads as it did. -/
def evalSwapsUptoRow : OpenClaim := { program := "ytphjldhdnmoolaa", sum := "41b9ddbe4848fda49edf74da4f6df0ae962c4e392558cb1e6b01e9c4ca646044", func := "palimpsest/palimpsestlaw09.EvalSwaps", spec := "evalSwaps", inPlace := ["maps.clone"], recurses := true, apart := false, narrowed := true }
def EvalSwapsUptoSaid : Prop := evalSwapsUptoRow.holds Try.pinned (OpenSpec.upto evalSwapsSpec)

/-- 'palimpsestlaw10.InvertUndoes', WHERE WHAT IT READS IS OF BULK AT MOST 1048576: true; the input reads as it did. -/
def invertUndoesUptoRow : OpenClaim := { program := "ytphjldhdnmoolaa", sum := "41b9ddbe4848fda49edf74da4f6df0ae962c4e392558cb1e6b01e9c4ca646044", func := "palimpsest/palimpsestlaw10.InvertUndoes", spec := "invertUndoes", inPlace := ["maps.clone"], recurses := true, apart := false, narrowed := true }
def InvertUndoesUptoSaid : Prop := invertUndoesUptoRow.holds Try.pinned (OpenSpec.upto invertUndoesSpec)

end Rows
end Go.Proofs.Ytphjldhdnmoolaa
